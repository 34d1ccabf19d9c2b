/- Parts of the proof, one behind the other: the logic, the contracts of the functions that the statement reaches. -/
import Derived.Test.YtebpenldlefgjaaGreatM4C
import Derived.Laws.StructEq
set_option linter.unusedVariables false
set_option linter.unusedSimpArgs false
namespace Lift
open Go Go.Proofs
section
variable {P:Program} {T:Ty} {B:Nat} {F0:Nat→Prop} {w0:cW} {n:Nat} {σ σ0 τ:St} {K:St→Prop} {all ops:Array Oper} {o:Oper} {d:Nat} {ds:List Nat} {rest:List Oper}
theorem DL(a:NQ)(lo hi:Option Int):((fr a).take (cQ (fr a).length hi)).drop (fR lo)=fr ((a.take (cQ a.length hi)).drop (fR lo)):=by
 show List.drop _ (List.take (cQ (List.map _ a).length hi) (List.map _ a))=List.map _ _;rw[List.map_drop,List.map_take,ah]
theorem ae.gW(hT:bB P T){a:NQ}{lo hi:Option Int}(x:NQ)(hd:o.dst=some d)(hdn:Nat.ble (d+1) n=true)(hg:aE all σ o=true)(hx:E1 T σ.get o.op=some (aq a,lo,hi))(g1:okB lo)(g2:okB hi)(g3:fR lo≤cQ a.length hi)(g4:cQ a.length hi≤a.length)(hxx:(a.take (cQ a.length hi)).drop (fR lo)=x)
  (h:ae P B F0 w0 n all rest K ((d,.d (aq x))::σ)):ae P B F0 w0 n all (o::rest) K σ:=by
 refine ae.DM hT hd hdn hg hx g1 g2 (by rw[ah];exact g3) (by rw[ah];exact g4) ?_;rw[DL,hxx];exact h
theorem af.gW(hT:bB P T){a:NQ}{lo hi:Option Int}(x:NQ)(hd:o.dst=some d)(hdn:Nat.ble (d+1) n=true)(hg:aE ops τ o=true)(hs:σ0.get d=none)(hx:E1 T τ.get o.op=some (aq a,lo,hi))(g1:okB lo)(g2:okB hi)(g3:fR lo≤cQ a.length hi)(g4:cQ a.length hi≤a.length)(hxx:(a.take (cQ a.length hi)).drop (fR lo)=x)
  (h:af P B F0 w0 n ops ds σ0 rest ((d,.d (aq x))::τ) K):af P B F0 w0 n ops ds σ0 (o::rest) τ K:=by
 refine af.DM hT hd hdn hg hs hx g1 g2 (by rw[ah];exact g3) (by rw[ah];exact g4) ?_;rw[DL,hxx];exact h
end
theorem iF(i:Nat)(h:i≤9223372036854775807):mQ true .i64 (i:Int) 2= .int .i64 ((i / 2:Nat):Int):=by
 have e:((i:Int).tdiv ((2:Nat):Int))=((i / 2:Nat):Int):=rfl;show Value.int .i64 (IntKind.i64.wrap ((i:Int).tdiv ((2:Nat):Int)))=_;rw[e,aF (by omega) (by omega)]
theorem Hp{rt:List NQ}{i:Nat}(h:i<rt.length):(rt.map aq)[i]?=some (aq (rt.getD i [])):=by simp[h]
theorem ay.len{l:Nat}{a:NQ}(h:ay l a)(hl:l≤10):a.length≤1024:=Nat.le_trans h.le (Nat.pow_le_pow_right (n:=2) (by decide) hl)
def iG:Nat→NQ→NQ
 | 0,a=>if bC (a.take 1)=true then [] else a.take 1
 | i+1,a=>if bC ((a.take (2^(i+1))).drop (2^i))=true then iG i a else a.take (2^(i+1))
def aA(a:NQ):NQ:=if a.length=0 then [] else iG a.length.log2 a
theorem DN: ∀{i:Nat} {a:NQ} {k:Nat},2^i≤a.length→aB k a→ay i (iG i a)∧aB k (iG i a)
 | 0,a,k,h,hs=>by
   unfold iG;split
   · exact⟨cD _,cH hs.pos⟩
   · exact⟨.inr ⟨0,ai _,by rw[bb];have h:1≤a.length:=h;show min 1 _=1;omega⟩,hs.take _⟩
 | i+1,a,k,h,hs=>by
   unfold iG;have e:2^(i+1)=2^i*2:=Nat.pow_succ ..;split
   · have:=DN (i:=i) (a:=a) (by omega) hs;exact⟨this.1.mono (by omega),this.2⟩
   · exact⟨.inr ⟨i+1,ai _,by rw[bb];omega⟩,hs.take _⟩
theorem bf{l k:Nat}{a:NQ}(h:ay l a)(hs:aB k a):ay l (aA a)∧aB k (aA a):=by
 unfold aA;split
 · exact⟨cD _,cH hs.pos⟩
 rename_i h0;rcases h with e | ⟨i,hi,e⟩
 · exact absurd e h0
 rw[e,Nat.log2_two_pow];have:=DN (i:=i) (a:=a) (by omega) hs;exact⟨this.1.mono hi,this.2⟩
theorem bM(a:NQ){l k:Nat}(ha:ay l a)(hl:l≤5)(hs:aB k a)(hk:k≤17300000000000):Pure Tryz.prog 43 [aq a] (aq (aA a)):=by
 refine qJ 45 Tryz.func43 rfl rfl rfl rfl (by kernel_rfl) (fun B F0 w0=>?_);have hl10:=ha.len (by omega);rcases ha with h0 | ⟨i,hi,hai⟩
 · obtain rfl:a=[]:=List.length_eq_zero_iff.1 h0;have cl:=mB (fr []) (fun i=>by have:=Nat.two_pow_pos i;show 0≠_;omega) (by decide);have cc:=jy [] hs hk (by decide);refine qX 1 rfl (qI (qX 1 rfl (ae.call tok rfl rfl rfl rfl cl (qU 1 rfl (qK 11 rfl (ae.nil (AW.aD rfl (AW.skip (qX 3 rfl ?_)))))))));refine qI (AW.block ?_);refine AW.aJ [0,4] (fun _:Unit=>[(0,.d (aq [])),(4,.d (dI 0))]) (fun _=>True) (fun _=>0) () rfl trivial (fun _ _=>?_);refine AW.seq (qX 10 rfl (ae.nil (AW.aD rfl (AW.exit (AW.seq (qX 7 rfl (ae.nil (AW.aD rfl ?_))))))));refine AW.skip (qX 2 rfl (ae.gW tok (a:=[]) [] rfl rfl rfl rfl trivial (Int.le_refl _) (ai _) (ai _) rfl ?_));exact ae.call tok rfl rfl rfl rfl cc (qU 1 rfl (qN rfl))
 have cl:=e7 (fr a) (by rw[ah];exact hai) (by omega);have hp:=Nat.two_pow_pos i;have hE:aA a=iG i a:=by unfold aA;rw[if_neg (by omega),hai,Nat.log2_two_pow]
 rw[hE];refine qX 1 rfl (qI (qX 1 rfl (ae.call tok rfl rfl rfl rfl cl (qU 1 rfl (qK 2 rfl ?_)))));rw[ah];refine qU 1 rfl ?_;rw[aO (show (0:Int)<(a.length:Int) by omega)];refine qU 3 rfl ?_;rw[a9 (show ¬((i:Int)<0) by omega)];refine qU 3 rfl ?_;rw[a9 (show ¬((5:Int)<(i:Int)) by omega)];refine qU 2 rfl (ae.nil (AW.aD rfl (AW.skip (qX 2 rfl ?_))));rw[ah,hai];refine qU 1 rfl (qI (AW.block ?_));refine AW.aJ [0,4] (fun j:Nat=>[(0,.d (aq a)),(4,.d (dI (2^j:Nat)))]) (fun j=>j≤i∧iG j a=iG i a) (fun j=>j) i rfl ⟨ai _,rfl⟩ (fun j hj=>?_);obtain ⟨hj,hjE⟩:=hj;show AW _ _ _ _ _ _ _ [(0,.d (aq a)),(4,.d (dI (2^j:Nat)))];have hpj:2^j≤2^i:=Nat.pow_le_pow_right (by decide) hj;have hpp:=Nat.two_pow_pos j;refine AW.seq (qX 2 rfl ?_);rcases j with _ | j
 · refine qU 8 rfl (ae.nil (AW.aD rfl (AW.exit (AW.seq (qX 4 rfl ?_)))));refine ae.gW tok (a:=a) (a.take 1) rfl rfl rfl rfl trivial (show (0:Int)≤1 by decide) (Nat.zero_le _) (show 1≤a.length by omega) rfl ?_;refine ae.call tok rfl rfl rfl rfl (mZ (a.take 1) (by rw[bb];omega)) ?_;refine qU 1 rfl (ae.nil ?_);rw[← hjE];unfold iG;cases hz:bC (a.take 1) with
   | true =>
     rw[if_pos rfl];exact AW.aG rfl (qX 1 rfl (qN rfl))
   | false =>
     rw[if_neg (by simp)];refine AW.aD rfl (AW.skip (qX 2 rfl ?_));refine ae.gW tok (a:=a) (a.take 1) rfl rfl rfl rfl trivial (show (0:Int)≤1 by decide) (Nat.zero_le _) (show 1≤a.length by omega) rfl ?_;refine ae.call tok rfl rfl rfl rfl (jy (a.take 1) (hs.take 1) hk (by rw[bb];omega)) ?_;exact qU 1 rfl (qN rfl)
 have e2:2^(j+1)=2^j*2:=Nat.pow_succ ..;have eh:=lE j;rw[aO (show (1:Int)<((2^(j+1):Nat):Int) by have:=Nat.two_pow_pos j;omega)];refine qU 3 rfl (ae.div tok rfl rfl rfl rfl (by decide) ?_);rw[iF _ (by omega),eh];refine qU 1 rfl ?_;refine ae.gW tok (a:=a) ((a.take (2^(j+1))).drop (2^j)) rfl rfl rfl rfl (aj _) (aj _) (show 2^j≤2^(j+1) by omega) (show 2^(j+1)≤a.length by omega) rfl ?_;refine ae.call tok rfl rfl rfl rfl (mZ _ (by rw[List.length_drop,bb];omega)) ?_;refine qU 1 rfl (ae.nil ?_);cases hz:bC ((a.take (2^(j+1))).drop (2^j)) with
 | true =>
   refine AW.aG rfl (AW.skip (AW.block (qT 1 rfl (ae.div tok rfl rfl rfl rfl (by decide) ?_))));rw[iF _ (by omega),eh];refine qU 1 rfl (ae.nil ?_);exact⟨j,rfl,⟨by omega,by rw[← hjE];show _=if bC ((a.take (2^(j+1))).drop (2^j))=true then _ else _;rw[if_pos hz]⟩,by omega⟩
 | false =>
 refine AW.aD rfl (AW.exit (AW.seq (qX 2 rfl ?_)));rw[beq_eq_false_iff_ne.2 (show ((2^(j+1):Nat):Int)≠1 by have:=Nat.two_pow_pos j;omega)];refine qU 5 rfl (ae.nil (AW.aD rfl (AW.skip (qX 2 rfl ?_))));refine ae.gW tok (a:=a) (a.take (2^(j+1))) rfl rfl rfl rfl trivial (aj _) (Nat.zero_le _) (show 2^(j+1)≤a.length by omega) rfl ?_;refine ae.call tok rfl rfl rfl rfl (jy _ (hs.take _) hk (by rw[bb];omega)) ?_;refine qU 1 rfl (ae.nil ?_);rw[← hjE];unfold iG;rw[if_neg (by rw[hz];simp)];exact AW.ret rfl
end Lift
namespace Lift
open Go Go.Proofs
abbrev ph(a:NQ):Prop:=aB 17300000000000 a
def Mc(R:NQ→NQ→NQ)(O:NQ→NQ→Prop)(rt:List NQ)(a b:NQ):Prop :=
 ph a∧ph b∧(a.length≠1→bC a=false→bC b=false →
  (b.length≤a.length / 2→O (a.take (a.length / 2)) b∧O (a.drop (a.length / 2)) b) ∧
  (¬b.length≤a.length / 2→(O (a.take (a.length / 2)) (b.take (a.length / 2))∧O (a.drop (a.length / 2)) (b.drop (a.length / 2))∧O (R (a.drop (a.length / 2)) (b.drop (a.length / 2))) (rt.getD (a.length.log2-1) []) ∧
   O (a.take (a.length / 2)) (b.drop (a.length / 2))∧O (a.drop (a.length / 2)) (b.take (a.length / 2))) ∧
   ph (R (a.take (a.length / 2)) (b.take (a.length / 2)))∧ph (R (R (a.drop (a.length / 2)) (b.drop (a.length / 2))) (rt.getD (a.length.log2-1) []))∧ph (R (a.take (a.length / 2)) (b.drop (a.length / 2)))∧ph (R (a.drop (a.length / 2)) (b.take (a.length / 2)))))
def tI(R:NQ→NQ→NQ)(O:NQ→NQ→Prop)(rt:List NQ)(a b:NQ):Prop:=if a.length<b.length then Mc R O rt b a else Mc R O rt a b
def A9:Nat→List NQ→NQ→NQ→Prop
 | 0,rt,a,b=>tI (fun _ _=>[]) (fun _ _=>True) rt a b
 | l+1,rt,a,b=>tI (aV l rt) (A9 l rt) rt a b
set_option maxHeartbeats 1600000 in
theorem uQ{l:Nat}{R:NQ→NQ→NQ}{O:NQ→NQ→Prop}{rt:List NQ}{a b:NQ}(ha:ay l a)(hb:ay l b)(hrt:cK rt)(hl:l≤rt.length)(hl5:rt.length≤10)(hok:tI R O rt a b)
  (hR: ∀l',l=l'+1→ ∀a' b',ay l' a'→ay l' b'→O a' b'→Pure Tryz.prog 128 [gY rt,aq a',aq b'] (aq (R a' b'))∧ay l' (R a' b')):
  Pure Tryz.prog 128 [gY rt,aq a,aq b] (aq (kz (jF R rt) a b)):=by
 refine qJ 100 Tryz.func128 rfl rfl rfl rfl (by kernel_rfl) (fun B F0 w0=>?_);have hla:=ha.len (by omega);have hlb:=hb.len (by omega);unfold tI at hok;refine qX 2 rfl (ae.nil ?_);refine AW.cut [1,2,3] (fun s:NQ×NQ=>[(1,.d (aq s.1)),(2,.d (aq s.2)),(3,.bx [.sl 1 (rt.map aq)])]) (fun s=>jF R rt s.1 s.2=kz (jF R rt) a b∧s.2.length≤s.1.length∧ay l s.1∧ay l s.2∧Mc R O rt s.1 s.2) ?_ (fun s hs=>?_)
 · refine qX 4 rfl ?_;rw[ah,ah];refine qU 1 rfl (ae.nil ?_);unfold kz;by_cases hab:a.length<b.length
   · rw[aO (show (a.length:Int)<(b.length:Int) by omega),if_pos hab];refine AW.aG rfl (qT 4 rfl (ae.nil ?_));exact⟨(b,a),rfl,rfl,by show a.length≤b.length;omega,hb,ha,by rw[if_pos hab] at hok;exact hok⟩
   · rw[a9 (show ¬(a.length:Int)<(b.length:Int) by omega),if_neg hab];refine AW.aD rfl (AW.skip ?_);exact⟨(a,b),rfl,rfl,by show b.length≤a.length;omega,ha,hb,by rw[if_neg hab] at hok;exact hok⟩
 · obtain ⟨x,y⟩:=s;obtain ⟨hE,hab,ha,hb,sa,sb,hm⟩:=hs;simp only[] at hE hab ha hb sa sb hm;show AW _ _ _ _ _ _ _ [(1,.d (aq x)),(2,.d (aq y)),(3,.bx [.sl 1 (rt.map aq)])];rw[← hE];clear hE;clear hok;generalize x=a at *;generalize y=b at *;have hla:=ha.len (by omega);have hlb:=hb.len (by omega);have cz1:=oT a sa (by omega) (by omega);have cz2:=oT b sb (by omega) (by omega);unfold jF;refine AW.seq (AW.block (qX 1 rfl (ae.call tok rfl rfl rfl rfl cz1 ?_)));cases hza:bC a with
   | true =>
     rw[if_pos (by rfl)];exact qU 5 rfl (ae.nil (AW.aG rfl (qX 1 rfl (qN rfl))))
   | false =>
   refine qU 2 rfl (ae.call tok rfl rfl rfl rfl cz2 (qU 2 rfl (ae.nil ?_)));cases hzb:bC b with
   | true =>
     rw[if_pos (by rfl)];exact AW.aG rfl (qX 1 rfl (qN rfl))
   | false =>
   rw[if_neg (by decide)];refine AW.aD rfl (qX 2 rfl ?_);rw[ah];refine qU 2 rfl (ae.nil ?_);have hb0:0<b.length:=List.length_pos_iff.2 (jY hzb);have ha0:0<a.length:=List.length_pos_iff.2 (jY hza);by_cases h1:a.length=1
   · rw[if_pos h1,beq_iff_eq.2 (show (a.length:Int)=1 by omega)];have g1:=mP (r:=a) (i:=0) ha0;have g2:=mP (r:=b) (i:=0) hb0;have cm:=tR (Qr (a.getD 0 0)) (Qr (b.getD 0 0)) (iy _ (sa 0)) (iy _ (sb 0)) (by omega);rw[dc,dc] at cm;refine AW.aG rfl (AW.seq (AW.draw aU 8 (by kernel_rfl) ?_));refine qP 1 rfl (af.idx tok (Qr (a.getD 0 0)).D rfl rfl rfl rfl rfl (Int.le_refl _) g1 ?_);refine qP 2 rfl (af.idx tok (Qr (b.getD 0 0)).D rfl rfl rfl rfl rfl (Int.le_refl _) g2 ?_);refine qP 1 rfl (af.call tok rfl rfl rfl rfl rfl cm (af.nR tok rfl rfl rfl rfl rfl rfl ?_));exact af.nil (qU 1 rfl (qN rfl))
   rw[if_neg h1,beq_eq_false_iff_ne.2 (show (a.length:Int)≠1 by omega)];refine AW.aD rfl (AW.skip ?_)
   obtain ⟨i,hi,hla2⟩: ∃i,i≤l∧a.length=2^i:=by
    rcases ha with e | e
    · omega
    · exact e
   have vN:i≠0:=fun e=>h1 (by rw[hla2,e]);obtain ⟨j,rfl⟩: ∃j,i=j+1:=⟨i-1,by omega⟩;obtain ⟨l',rfl⟩: ∃l',l=l'+1:=⟨l-1,by omega⟩;have hj:j≤l':=by omega
   have hR:=fun a' b' h1 h2 h3=>hR l' rfl a' b' h1 h2 h3;obtain ⟨hm1,hm2⟩:=hm h1 hza hzb;obtain ⟨e1,e2,e3⟩:=bA hla2;have hx:ay l' (a.take (a.length / 2)):= .inr ⟨j,hj,e1⟩;have hy:ay l' (a.drop (a.length / 2)):= .inr ⟨j,hj,e2⟩;have hlog:a.length.log2-1=j:=by rw[hla2,Nat.log2_two_pow];omega
   obtain ⟨n,hn⟩: ∃n,n=a.length / 2:=⟨_,rfl⟩
   have hn2:a.length=n+n:=by
    have:2^(j+1)=2^j*2:=Nat.pow_succ ..;omega
   rw[← hn] at e1 e2 e3 hx hy hm1 hm2 ⊢;refine qX 2 rfl ?_;rw[ah];refine ae.div tok rfl rfl rfl rfl (by decide) ?_;rw[iF _ (by omega),← hn];refine qU 1 rfl (qI (AW.draw aU 7 (by kernel_rfl) ?_));refine qP 2 rfl ?_;refine af.gW tok (a:=a) (a.take n) rfl rfl rfl rfl rfl trivial (aj n) (Nat.zero_le _) (show n≤a.length by omega) rfl ?_;refine qP 2 rfl ?_;refine af.gW tok (a:=a) (a.drop n) rfl rfl rfl rfl rfl (aj n) trivial (show n≤a.length by omega) (ai _) (by show (a.take a.length).drop n=_;rw[List.take_length]) ?_;refine qP 1 rfl (af.nil (qU 1 rfl (qI (qX 2 rfl ?_))));rw[ah];refine qU 2 rfl (ae.nil ?_);by_cases h3:b.length≤n
   · rw[if_pos h3,aO (show (b.length:Int)≤(n:Int) by omega)]
     have hb':ay l' b:=by
      rcases hb with e | ⟨i',_,e⟩
      · exact .inl e
      · refine .inr ⟨i',?_,e⟩;rw[e3,e] at h3;have:=ib h3;omega
     have r1:=hR _ _ hx hb' (hm1 h3).1;have r2:=hR _ _ hy hb' (hm1 h3).2;have cj:=kW (R (a.take n) b) (R (a.drop n) b) n (by omega);refine AW.aG rfl (AW.seq (AW.draw aU 10 (by kernel_rfl) ?_));refine qP 3 rfl (af.call tok rfl rfl rfl rfl rfl r1.1 ?_);refine qP 3 rfl (af.call tok rfl rfl rfl rfl rfl r2.1 ?_);exact qP 1 rfl (af.call tok rfl rfl rfl rfl rfl cj (af.nil (qU 1 rfl (qN rfl))))
   rw[if_neg h3,a9 (show ¬(b.length:Int)≤(n:Int) by omega)]
   have hlb2:b.length=2^(j+1):=by
    rcases hb with e | ⟨i',_,e⟩
    · omega
    · rw[e] at h3 hab ⊢;rw[hla2] at hab;rw[e3] at h3;have h4:=ib hab;have h5: ¬i'≤j:=fun h=>h3 (Nat.pow_le_pow_right (by decide) h);rw[show i'=j+1 by omega]
   obtain ⟨f1,f2,f3⟩:=bA hlb2;rw[show b.length / 2=n by omega] at f1 f2;have hu:ay l' (b.take n):= .inr ⟨j,hj,f1⟩;have hv:ay l' (b.drop n):= .inr ⟨j,hj,f2⟩;obtain ⟨⟨o1,o2,o5,o3,o4⟩,z1,z5,z3,z4⟩:=hm2 h3;rw[hlog] at o5 z5;have r1:=hR _ _ hx hu o1;have r2:=hR _ _ hy hv o2;have r3:=hR _ _ hx hv o3;have r4:=hR _ _ hy hu o4;rw[hlog];have hd:ay l' (rt.getD j []):= .inr ⟨j,hj,hrt j (by omega)⟩;have r5:=hR _ _ r2.2 hd o5;have n1:=r1.2.len (by omega);have n3:=r3.2.len (by omega);have n4:=r4.2.len (by omega);have n5:=r5.2.len (by omega);have p1:=dY (R (a.take n) (b.take n)) (R (R (a.drop n) (b.drop n)) (rt.getD j [])) z1 z5 (by omega) (by omega) (by omega);have p2:=dY (R (a.take n) (b.drop n)) (R (a.drop n) (b.take n)) z3 z4 (by omega) (by omega) (by omega);have cj:=kW (aX (R (a.take n) (b.take n)) (R (R (a.drop n) (b.drop n)) (rt.getD j []))) (aX (R (a.take n) (b.drop n)) (R (a.drop n) (b.take n))) n (by omega);have cl:=e7 (fr a) (by rw[ah];exact hla2) (by omega);refine AW.aD rfl (AW.skip (AW.seq (AW.draw aU 7 (by kernel_rfl) ?_)));refine qP 2 rfl ?_;refine af.gW tok (a:=b) (b.take n) rfl rfl rfl rfl rfl trivial (aj n) (Nat.zero_le _) (show n≤b.length by omega) rfl ?_;refine qP 2 rfl ?_;refine af.gW tok (a:=b) (b.drop n) rfl rfl rfl rfl rfl (aj n) trivial (show n≤b.length by omega) (ai _) (by show (b.take b.length).drop n=_;rw[List.take_length]) ?_;refine qP 1 rfl (af.nil (qU 1 rfl (qI (AW.draw aU 7 (by kernel_rfl) ?_))));refine qP 3 rfl (af.call tok rfl rfl rfl rfl rfl cl (qP 1 rfl ?_));rw[aF (x:=((j+1:Nat):Int) -1) (by omega) (by omega),show ((j+1:Nat):Int) -1=(j:Int) by omega];refine af.idx tok (aq (rt.getD j [])) rfl rfl rfl rfl rfl (aj j) (Hp (by omega)) ?_;refine qP 1 rfl (af.nil (qU 1 rfl (qI (AW.draw aU 12 (by kernel_rfl) ?_))));refine qP 3 rfl (af.call tok rfl rfl rfl rfl rfl r1.1 ?_);refine qP 4 rfl (af.call tok rfl rfl rfl rfl rfl r2.1 ?_);refine qP 1 rfl (af.call tok rfl rfl rfl rfl rfl r5.1 ?_);refine af.call tok rfl rfl rfl rfl rfl p1 (af.nil (qU 1 rfl (qI (AW.draw aU 12 (by kernel_rfl) ?_))));refine qP 4 rfl (af.call tok rfl rfl rfl rfl rfl r3.1 ?_);refine qP 3 rfl (af.call tok rfl rfl rfl rfl rfl r4.1 ?_);exact af.call tok rfl rfl rfl rfl rfl p2 (qP 1 rfl (af.call tok rfl rfl rfl rfl rfl cj (af.nil (qU 1 rfl (qN rfl)))))
theorem b9: ∀(l:Nat) {rt:List NQ} {a b:NQ},ay l a→ay l b→cK rt→l≤rt.length→rt.length≤10→A9 l rt a b→Pure Tryz.prog 128 [gY rt,aq a,aq b] (aq (aV l rt a b))
 | 0,rt,a,b,ha,hb,hrt,hl,hl5,hok=>uQ (O:=fun _ _=>True) ha hb hrt hl hl5 hok (fun l' h=>by omega)
 | l+1,rt,a,b,ha,hb,hrt,hl,hl5,hok=>uQ (O:=A9 l rt) ha hb hrt hl hl5 hok (fun l' e a' b' h1 h2 h3=>by
    obtain rfl:l=l':=by omega
    obtain ⟨K,k1,k2,k3⟩:=xv a' b' rt
    exact⟨b9 l h1 h2 hrt (by omega) hl5 h3,(dt l h1 h2 hrt (by omega) k1 k2 k3).1⟩)
theorem zd{l k:Nat}{R:NQ→NQ→NQ}{O:NQ→NQ→Prop}{rt:List NQ}{a b:NQ}(ha:ay l a)(hb:ay l b)(hab:b.length≤a.length)(hrt:cK rt)(hl:l≤rt.length)(sa:aB k a)(sb:aB k b)(sr:dm k rt)(hk:sT l k≤17300000000000)
  (hR: ∀l',l=l'+1→ ∀a' b' m,k≤m→ay l' a'→ay l' b'→aB m a'→aB m b'→sT l' m≤17300000000000→O a' b'∧ay l' (R a' b')∧aB (sT l' m) (R a' b')):Mc R O rt a b:=by
 have hk1:=sa.pos;have h2:=cg l k;refine⟨sa.mono (by omega),sb.mono (by omega),fun h1 hza hzb=>?_⟩;have hb0:0<b.length:=List.length_pos_iff.2 (jY hzb);have ha0:0<a.length:=List.length_pos_iff.2 (jY hza)
 obtain ⟨i,hi,hla⟩: ∃i,i≤l∧a.length=2^i:=by
  rcases ha with e | e
  · omega
  · exact e
 have vN:i≠0:=fun e=>h1 (by rw[hla,e]);obtain ⟨j,rfl⟩: ∃j,i=j+1:=⟨i-1,by omega⟩;obtain ⟨l',rfl⟩: ∃l',l=l'+1:=⟨l-1,by omega⟩;have hj:j≤l':=by omega
 have hR:=fun a' b' m h1 h2 h3 h4 h5=>hR l' rfl a' b' m h1 h2 h3 h4 h5;obtain ⟨e1,e2,e3⟩:=bA hla;have hx:ay l' (a.take (a.length / 2)):= .inr ⟨j,hj,e1⟩;have hy:ay l' (a.drop (a.length / 2)):= .inr ⟨j,hj,e2⟩;have hs0:=cg l' k;have hs1:=cg l' (sT l' k);have hk:sT l' (sT l' k)+sT l' k+1≤17300000000000:=hk;refine⟨fun h3=>?_,fun h3=>?_⟩
 · have hb':ay l' b:=by
    rcases hb with e | ⟨i',_,e⟩
    · exact .inl e
    · refine .inr ⟨i',?_,e⟩;rw[e3,e] at h3;have:=ib h3;omega
   exact⟨(hR _ _ k (ai _) hx hb' (sa.take _) sb (by omega)).1,(hR _ _ k (ai _) hy hb' (sa.drop _) sb (by omega)).1⟩
 have hlb:b.length=2^(j+1):=by
  rcases hb with e | ⟨i',_,e⟩
  · omega
  · rw[e] at h3 hab ⊢;rw[hla] at hab;rw[e3] at h3;have h4:=ib hab;have h5: ¬i'≤j:=fun h=>h3 (Nat.pow_le_pow_right (by decide) h);rw[show i'=j+1 by omega]
 obtain ⟨f1,f2,f3⟩:=bA hlb;rw[show b.length / 2=a.length / 2 by rw[f3,e3]] at f1 f2;have hu:ay l' (b.take (a.length / 2)):= .inr ⟨j,hj,f1⟩;have hv:ay l' (b.drop (a.length / 2)):= .inr ⟨j,hj,f2⟩;have r1:=hR _ _ k (ai _) hx hu (sa.take _) (sb.take _) (by omega);have r2:=hR _ _ k (ai _) hy hv (sa.drop _) (sb.drop _) (by omega);have r3:=hR _ _ k (ai _) hx hv (sa.take _) (sb.drop _) (by omega);have r4:=hR _ _ k (ai _) hy hu (sa.drop _) (sb.take _) (by omega);have hlog:a.length.log2-1=j:=by rw[hla,Nat.log2_two_pow];omega
 have hd:ay l' (rt.getD (a.length.log2-1) []):= .inr ⟨j,hj,by rw[hlog];exact hrt j (by omega)⟩;have r5:=hR _ _ (sT l' k) (by omega) r2.2.1 hd r2.2.2 ((sr _).mono (by omega)) (by omega);exact⟨⟨r1.1,r2.1,r5.1,r3.1,r4.1⟩,r1.2.2.mono (by omega),r5.2.2.mono (by omega),r3.2.2.mono (by omega),r4.2.2.mono (by omega)⟩
theorem pE: ∀(l:Nat) {k:Nat} {rt:List NQ} {a b:NQ},ay l a→ay l b→cK rt→l≤rt.length→aB k a→aB k b→dm k rt→sT l k≤17300000000000→A9 l rt a b
 | 0,k,rt,a,b,ha,hb,hrt,hl,sa,sb,sr,hk=>by
   show tI _ _ rt a b;unfold tI;split
   · exact zd hb ha (by omega) hrt hl sb sa sr hk (fun l' h=>by omega)
   · exact zd ha hb (by omega) hrt hl sa sb sr hk (fun l' h=>by omega)
 | l+1,k,rt,a,b,ha,hb,hrt,hl,sa,sb,sr,hk=>by
   show tI (aV l rt) (A9 l rt) rt a b;unfold tI
   have ih: ∀l',l+1=l'+1→ ∀a' b' m,k≤m→ay l' a'→ay l' b'→aB m a'→aB m b'→sT l' m≤17300000000000→A9 l rt a' b'∧ay l' (aV l rt a' b')∧aB (sT l' m) (aV l rt a' b'):=fun l' e a' b' m hm h1 h2 h3 h4 h5=>by
    obtain rfl:l=l':=by omega
    exact⟨pE l h1 h2 hrt (by omega) h3 h4 (sr.mono hm) h5,dt l h1 h2 hrt (by omega) h3 h4 (sr.mono hm)⟩
   split
   · exact zd hb ha (by omega) hrt hl sb sa sr hk ih
   · exact zd ha hb (by omega) hrt hl sa sb sr hk ih
theorem uN(l:Nat){k:Nat}{rt:List NQ}{a b:NQ}(ha:ay l a)(hb:ay l b)(hrt:cK rt)(hl:l≤rt.length)(hl5:rt.length≤10)(sa:aB k a)(sb:aB k b)(sr:dm k rt)(hk:sT l k≤17300000000000):Pure Tryz.prog 128 [gY rt,aq a,aq b] (aq (aV l rt a b)) :=
 b9 l ha hb hrt hl hl5 (pE l ha hb hrt hl sa sb sr (by omega))
end Lift
namespace Lift
open Go Go.Proofs
def fe(l:Nat)(rt:List NQ)(a:NQ):NQ :=
 aX (aV l rt (a.take (a.length / 2)) (a.take (a.length / 2))) (aZ (aV l rt (aV l rt (a.drop (a.length / 2)) (a.drop (a.length / 2))) (rt.getD (a.length.log2-1) [])))
def wV(R:NQ→Int)(N:NQ→NQ)(rt:List NQ)(a:NQ):Int :=
 if a.length=0 then 0 else if a.length=1 then je (a.getD 0 0) else
 if R (rt.getD (a.length.log2-1) [])=0 then R (a.take (a.length / 2)) else
 if R (a.take (a.length / 2))=R (a.drop (a.length / 2))∨R (a.drop (a.length / 2))=0 then R (a.take (a.length / 2)) else
 if R (a.take (a.length / 2))=0 then R (a.drop (a.length / 2)) else R (a.take (a.length / 2))*R (N a)
def eg:Nat→List NQ→NQ→Int
 | 0,rt,a=>wV (fun _=>0) (fun a=>a) rt (aA a)
 | l+1,rt,a=>wV (eg l rt) (fe l rt) rt (aA a)
def pG:Nat→Nat→Prop
 | 0,k=>k≤17300000000000
 | l+1,k=>sT (l+1) k≤17300000000000∧pG l (sT (l+1) k)
theorem Bc: ∀{l k m:Nat},pG l k→m≤k→pG l m
 | 0,k,m,h,hm=>Nat.le_trans hm h
 | l+1,k,m,h,hm=>⟨Nat.le_trans (ub hm) h.1,Bc h.2 (ub hm)⟩
theorem za: ∀{l k:Nat},pG l k→k≤17300000000000
 | 0,k,h=>h
 | l+1,k,h=>by have:=cg (l+1) k;have:=h.1;omega
theorem kp{l k:Nat}(h:pG (l+1) k):pG l k:=Bc h.2 (by have:=cg (l+1) k;omega)
def xq(z:Int):Prop:=z=0∨z=1∨z= -1
theorem lY{x y:Int}(hx:xq x)(hy:xq y):xq (x*y):=by
 unfold xq at *;rcases hx with rfl | rfl | rfl<;>rcases hy with rfl | rfl | rfl<;>decide
theorem AF{R:NQ→Int}{N:NQ→NQ}{rt:List NQ}{a:NQ}(hR: ∀b,xq (R b)):xq (wV R N rt a):=by
 unfold wV;split
 · exact .inl rfl
 split
 · exact gI _
 split
 · exact hR _
 split
 · exact hR _
 split
 · exact hR _
 · exact lY (hR _) (hR _)
theorem od: ∀(l:Nat) (rt:List NQ) (a:NQ),xq (eg l rt a)
 | 0,rt,a=>AF (fun _=> .inl rfl)
 | l+1,rt,a=>AF (fun b=>od l rt b)
theorem zi{l k j:Nat}{rt:List NQ}{a:NQ}(hj:j≤l)(ha:a.length=2^(j+1))(hrt:cK rt)(hl:l<rt.length)(sa:aB k a)(sr:dm k rt):ay l (fe l rt a)∧aB (sT (l+1) k) (fe l rt a):=by
 obtain ⟨e1,e2,e3⟩:=bA ha;have hx:ay l (a.take (a.length / 2)):= .inr ⟨j,hj,e1⟩;have hy:ay l (a.drop (a.length / 2)):= .inr ⟨j,hj,e2⟩;have hlog:a.length.log2-1=j:=by rw[ha,Nat.log2_two_pow];omega
 have hd:ay l (rt.getD j []):= .inr ⟨j,hj,hrt j (by omega)⟩;have h0:=cg l k;have h1:=cg l (sT l k);have r1:=dt l hx hx hrt (by omega) (sa.take _) (sa.take _) sr;have r2:=dt l hy hy hrt (by omega) (sa.drop _) (sa.drop _) sr;have r3:=dt l r2.1 hd hrt (by omega) r2.2 ((sr _).mono (by omega)) (sr.mono (by omega));unfold fe;rw[hlog];refine⟨r1.1.plus r3.1.minus,(r1.2.plus r3.2.minus).mono ?_⟩;show _≤sT l (sT l k)+sT l k+1;omega
def K1(l:Nat)(rt:List NQ)(a:NQ):Prop :=
 A9 l rt (a.take (a.length / 2)) (a.take (a.length / 2))∧A9 l rt (a.drop (a.length / 2)) (a.drop (a.length / 2))∧A9 l rt (aV l rt (a.drop (a.length / 2)) (a.drop (a.length / 2))) (rt.getD (a.length.log2-1) []) ∧
 ph (aV l rt (a.take (a.length / 2)) (a.take (a.length / 2)))∧ph (aV l rt (aV l rt (a.drop (a.length / 2)) (a.drop (a.length / 2))) (rt.getD (a.length.log2-1) []))
theorem uk{l j:Nat}{rt:List NQ}{a:NQ}(hj:j≤l)(ha:a.length=2^(j+1))(hrt:cK rt)(hl:l<rt.length):ay l (fe l rt a):=by
 obtain ⟨K,k1,_,k3⟩:=xv a a rt;exact(zi hj ha hrt hl k1 k3).1
theorem e8(l:Nat){rt:List NQ}{a b:NQ}(ha:ay l a)(hb:ay l b)(hrt:cK rt)(hl:l≤rt.length):ay l (aV l rt a b):=by
 obtain ⟨K,k1,k2,k3⟩:=xv a b rt;exact(dt l ha hb hrt hl k1 k2 k3).1
theorem mX{l j:Nat}{rt:List NQ}{a:NQ}(hj:j≤l)(ha:a.length=2^(j+1))(hrt:cK rt)(hl:l<rt.length)(hl5:rt.length≤10)(hok:K1 l rt a):
  Pure Tryz.prog 87 [gY rt,aq a] (aq (fe l rt a)):=by
 refine qJ 36 Tryz.func87 rfl rfl rfl rfl (by kernel_rfl) (fun B F0 w0=>?_);obtain ⟨e1,e2,e3⟩:=bA ha;have hx:ay l (a.take (a.length / 2)):= .inr ⟨j,hj,e1⟩;have hy:ay l (a.drop (a.length / 2)):= .inr ⟨j,hj,e2⟩;have hlog:a.length.log2-1=j:=by rw[ha,Nat.log2_two_pow];omega
 have hd:ay l (rt.getD j []):= .inr ⟨j,hj,hrt j (by omega)⟩;obtain ⟨o1,o2,o3,z1,z3⟩:=hok;rw[hlog] at o3 z3;have r1:=e8 l hx hx hrt (by omega);have r2:=e8 l hy hy hrt (by omega);have r3:=e8 l r2 hd hrt (by omega);have c1:=b9 l hx hx hrt (by omega) hl5 o1;have c2:=b9 l hy hy hrt (by omega) hl5 o2;have c3:=b9 l r2 hd hrt (by omega) hl5 o3;have n1:=r1.len (by omega);have n3:=r3.len (by omega);have c4:=fv _ z3 (by omega) (by omega);have c5:=dY _ _ z1 z3.minus (by omega) (by omega) (by rw[gq];omega);have cl:=e7 (fr a) (by rw[ah];exact ha) (by omega);have hp:2^(j+1)≤2^10:=Nat.pow_le_pow_right (by decide) (by omega);unfold fe;rw[hlog];obtain ⟨n,hn⟩: ∃n,n=a.length / 2:=⟨_,rfl⟩;rw[← hn] at e1 e2 e3 hx hy c1 c2 c3 c4 c5 ⊢;refine qX 2 rfl (qK 2 rfl ?_);rw[ah];refine ae.div tok rfl rfl rfl rfl (by decide) ?_;rw[iF _ (by omega),← hn];refine qU 1 rfl (qI (AW.draw aU 7 (by kernel_rfl) ?_));refine qP 2 rfl ?_;refine af.gW tok (a:=a) (a.take n) rfl rfl rfl rfl rfl trivial (aj n) (Nat.zero_le _) (show n≤a.length by omega) rfl ?_;refine qP 2 rfl ?_;refine af.gW tok (a:=a) (a.drop n) rfl rfl rfl rfl rfl (aj n) trivial (show n≤a.length by omega) (ai _) (by show (a.take a.length).drop n=_;rw[List.take_length]) ?_;refine qP 1 rfl (af.nil (qU 1 rfl (qI (AW.draw aU 19 (by kernel_rfl) ?_))));refine qP 3 rfl (af.call tok rfl rfl rfl rfl rfl c1 (qP 4 rfl (af.call tok rfl rfl rfl rfl rfl c2 (qP 3 rfl (af.call tok rfl rfl rfl rfl rfl cl (qP 1 rfl ?_))))));rw[aF (x:=((j+1:Nat):Int) -1) (by omega) (by omega),show ((j+1:Nat):Int) -1=(j:Int) by omega];refine af.idx tok (aq (rt.getD j [])) rfl rfl rfl rfl rfl (aj j) (Hp (by omega)) ?_;exact qP 1 rfl (af.call tok rfl rfl rfl rfl rfl c3 (af.call tok rfl rfl rfl rfl rfl c4 (af.call tok rfl rfl rfl rfl rfl c5 (af.nil (qU 1 rfl (qN rfl))))))
theorem GV{l k j:Nat}{rt:List NQ}{a:NQ}(hj:j≤l)(ha:a.length=2^(j+1))(hrt:cK rt)(hl:l<rt.length)(sa:aB k a)(sr:dm k rt)(hk:sT (l+1) k≤17300000000000):K1 l rt a:=by
 obtain ⟨e1,e2,e3⟩:=bA ha;have hx:ay l (a.take (a.length / 2)):= .inr ⟨j,hj,e1⟩;have hy:ay l (a.drop (a.length / 2)):= .inr ⟨j,hj,e2⟩;have hlog:a.length.log2-1=j:=by rw[ha,Nat.log2_two_pow];omega
 have hd:ay l (rt.getD j []):= .inr ⟨j,hj,hrt j (by omega)⟩;have h0:=cg l k;have h1:=cg l (sT l k);have hk:sT l (sT l k)+sT l k+1≤17300000000000:=hk;have r1:=dt l hx hx hrt (by omega) (sa.take _) (sa.take _) sr;have r2:=dt l hy hy hrt (by omega) (sa.drop _) (sa.drop _) sr;have r3:=dt l r2.1 hd hrt (by omega) r2.2 ((sr _).mono (by omega)) (sr.mono (by omega));unfold K1;rw[hlog];exact⟨pE l hx hx hrt (by omega) (sa.take _) (sa.take _) sr (by omega),pE l hy hy hrt (by omega) (sa.drop _) (sa.drop _) sr (by omega),pE l r2.1 hd hrt (by omega) r2.2 ((sr j).mono (by omega)) (sr.mono (by omega)) (by omega),r1.2.mono (by omega),r3.2.mono (by omega)⟩
def Me(O:NQ→Prop)(N:NQ→NQ)(Nk:NQ→Prop)(rt:List NQ)(s:NQ):Prop:=s.length≠0→s.length≠1 →
 O (s.take (s.length / 2))∧O (s.drop (s.length / 2))∧O (rt.getD (s.length.log2-1) [])∧Nk s∧O (N s)
def GX:Nat→List NQ→NQ→Prop
 | 0,rt,a=>ph a
 | l+1,rt,a=>ph a∧Me (GX l rt) (fe l rt) (K1 l rt) rt (aA a)
theorem pH: ∀(l:Nat) {k:Nat} {rt:List NQ} {a:NQ},ay l a→cK rt→l≤rt.length→aB k a→dm k rt→pG l k→GX l rt a
 | 0,k,rt,a,ha,hrt,hl,sa,sr,hok=>sa.mono (Nat.le_trans hok (by decide))
 | l+1,k,rt,a,ha,hrt,hl,sa,sr,hok=>by
   have hk:=za hok;refine⟨sa.mono (by omega),fun h0 h1=>?_⟩;obtain ⟨ha,sa⟩:=bf ha sa;generalize aA a=b at ha sa h0 h1 ⊢
   obtain ⟨i,hi,hla⟩: ∃i,i≤l+1∧b.length=2^i:=by
    rcases ha with e | e
    · omega
    · exact e
   have vN:i≠0:=fun e=>h1 (by rw[hla,e]);obtain ⟨j,rfl⟩: ∃j,i=j+1:=⟨i-1,by omega⟩;have hj:j≤l:=by omega
   obtain ⟨e1,e2,e3⟩:=bA hla;have hx:ay l (b.take (b.length / 2)):= .inr ⟨j,hj,e1⟩;have hy:ay l (b.drop (b.length / 2)):= .inr ⟨j,hj,e2⟩;have hlog:b.length.log2-1=j:=by rw[hla,Nat.log2_two_pow];omega
   have hd:ay l (rt.getD (b.length.log2-1) []):= .inr ⟨j,hj,by rw[hlog];exact hrt j (by omega)⟩;have hn:=zi hj hla hrt (by omega) sa sr;have h2:=cg (l+1) k;have h3:=hok.1;exact⟨pH l hx hrt (by omega) (sa.take _) sr (kp hok),pH l hy hrt (by omega) (sa.drop _) sr (kp hok),pH l hd hrt (by omega) (sr _) sr (kp hok),GV hj hla hrt (by omega) sa sr (by omega),pH l hn.1 hrt (by omega) hn.2 (sr.mono (by omega)) hok.2⟩
theorem GX.sz{l:Nat}{rt:List NQ}{a:NQ}(h:GX l rt a):ph a:=by
 cases l with
 | zero=>exact h
 | succ l=>exact h.1
set_option maxHeartbeats 1600000 in
theorem xE{l:Nat}{R:NQ→Int}{O:NQ→Prop}{N:NQ→NQ}{Nk:NQ→Prop}{rt:List NQ}{a:NQ}(ha:ay l a)(hl5:l≤5)(hrt:cK rt)(hl:l≤rt.length)(hl10:rt.length≤10)(sa:ph a)(hok:l≠0→Me O N Nk rt (aA a))
  (hR: ∀l',l=l'+1→ ∀b,ay l' b→O b→Pure Tryz.prog 45 [gY rt,aq b] (dI (R b))) (hT: ∀b,xq (R b))
  (hN: ∀l',l=l'+1→ ∀b j,j≤l'→b.length=2^(j+1)→Nk b→Pure Tryz.prog 87 [gY rt,aq b] (aq (N b))∧ay l' (N b)):
  Pure Tryz.prog 45 [gY rt,aq a] (dI (wV R N rt (aA a))):=by
 refine qJ 64 Tryz.func45 rfl rfl rfl rfl (by kernel_rfl) (fun B F0 w0=>?_);have cs:=bM a ha hl5 sa (by omega);obtain ⟨ha,sa⟩:=bf ha sa;generalize aA a=b at cs ha sa hok ⊢;have hlb:=ha.len (by omega);unfold wV;refine qX 2 rfl (qK 1 rfl (ae.call tok rfl rfl rfl rfl cs (qU 1 rfl (qI (qX 2 rfl ?_)))));rw[ah];refine qU 1 rfl (ae.nil ?_);by_cases h0:b.length=0
 · rw[if_pos h0,h0];exact AW.aG rfl (qX 1 rfl (qN rfl))
 rw[if_neg h0,beq_eq_false_iff_ne.2 (show (b.length:Int)≠0 by omega)];refine AW.aD rfl (AW.skip (AW.seq (qX 2 rfl ?_)));rw[ah];refine qU 1 rfl (ae.nil ?_);by_cases h1:b.length=1
 · have g:=mP (r:=b) (i:=0) (by omega);have cq:=lL (Qr (b.getD 0 0)) (iy _ (sa 0)) (by omega);rw[dc,DP] at cq;rw[if_pos h1,h1];refine AW.aG rfl (qX 1 rfl (ae.idx tok (Qr (b.getD 0 0)).D rfl rfl rfl rfl (Int.le_refl _) g ?_));exact qU 1 rfl (ae.call tok rfl rfl rfl rfl cq (qU 1 rfl (qN rfl)))
 rw[if_neg h1,beq_eq_false_iff_ne.2 (show (b.length:Int)≠1 by omega)];refine AW.aD rfl (AW.skip ?_)
 obtain ⟨i,hi,hla2⟩: ∃i,i≤l∧b.length=2^i:=by
  rcases ha with e | e
  · omega
  · exact e
 have vN:i≠0:=fun e=>h1 (by rw[hla2,e]);obtain ⟨j,rfl⟩: ∃j,i=j+1:=⟨i-1,by omega⟩;obtain ⟨l',rfl⟩: ∃l',l=l'+1:=⟨l-1,by omega⟩;have hj:j≤l':=by omega
 have hR:=hR l' rfl;obtain ⟨o1,o2,o3,o4,o5⟩:=hok (by omega) h0 h1;have hN:=hN l' rfl b j hj hla2 o4;obtain ⟨e1,e2,e3⟩:=bA hla2;have hx:ay l' (b.take (b.length / 2)):= .inr ⟨j,hj,e1⟩;have hy:ay l' (b.drop (b.length / 2)):= .inr ⟨j,hj,e2⟩;have hlog:b.length.log2-1=j:=by rw[hla2,Nat.log2_two_pow];omega
 have hd:ay l' (rt.getD j []):= .inr ⟨j,hj,hrt j (by omega)⟩;rw[hlog] at o3;have r1:=hR _ hx o1;have r2:=hR _ hy o2;have r3:=hR _ hd o3;have r4:=hR _ hN.2 o5;have t1:=hT (b.take (b.length / 2));have t2:=hT (b.drop (b.length / 2));have t4:=lY t1 (hT (N b));have cn:=hN.1;have cl:=e7 (fr b) (by rw[ah];exact hla2) (by omega);rw[hlog];obtain ⟨n,hn⟩: ∃n,n=b.length / 2:=⟨_,rfl⟩;rw[← hn] at e1 e2 e3 hx hy r1 r2 t1 t2 t4 ⊢;generalize R (b.take n)=x at r1 t1 t4 ⊢;generalize R (b.drop n)=y at r2 t2 ⊢;generalize R (rt.getD j [])=z at r3 ⊢;generalize R (N b)=u at r4 t4 ⊢;refine qX 2 rfl ?_;rw[ah];refine ae.div tok rfl rfl rfl rfl (by decide) ?_;rw[iF _ (by omega),← hn];refine qU 1 rfl (qI (AW.draw aU 10 (by kernel_rfl) ?_));refine qP 3 rfl ?_;refine af.gW tok (a:=b) (b.take n) rfl rfl rfl rfl rfl trivial (aj n) (Nat.zero_le _) (show n≤b.length by omega) rfl ?_;refine af.call tok rfl rfl rfl rfl rfl r1 (qP 3 rfl ?_);refine af.gW tok (a:=b) (b.drop n) rfl rfl rfl rfl rfl (aj n) trivial (show n≤b.length by omega) (ai _) (by show (b.take b.length).drop n=_;rw[List.take_length]) ?_;refine af.call tok rfl rfl rfl rfl rfl r2 (af.nil (qU 2 rfl (qI (AW.seq (AW.draw aU 10 (by kernel_rfl) ?_)))));refine qP 4 rfl (af.call tok rfl rfl rfl rfl rfl cl (qP 1 rfl ?_));rw[aF (x:=((j+1:Nat):Int) -1) (by omega) (by omega),show ((j+1:Nat):Int) -1=(j:Int) by omega];refine af.idx tok (aq (rt.getD j [])) rfl rfl rfl rfl rfl (aj j) (Hp (by omega)) ?_;refine qP 1 rfl (af.call tok rfl rfl rfl rfl rfl r3 (qP 1 rfl (af.nil (ae.nil ?_))));by_cases hz:z=0
 · rw[if_pos hz,beq_iff_eq.2 hz];exact AW.aG rfl (qX 2 rfl (qN rfl))
 rw[if_neg hz,beq_eq_false_iff_ne.2 hz];refine AW.aD rfl (AW.skip (AW.seq (AW.block (qX 3 rfl ?_))));by_cases hxy:x=y
 · rw[if_pos (.inl hxy),beq_iff_eq.2 hxy];exact qU 5 rfl (ae.nil (AW.aG rfl (qX 2 rfl (qN rfl))))
 rw[beq_eq_false_iff_ne.2 hxy];refine qU 3 rfl ?_;by_cases hy0:y=0
 · rw[if_pos (.inr hy0),beq_iff_eq.2 hy0];exact qU 2 rfl (ae.nil (AW.aG rfl (qX 2 rfl (qN rfl))))
 rw[if_neg (fun h=>h.elim hxy hy0),beq_eq_false_iff_ne.2 hy0];refine qU 2 rfl (ae.nil (AW.aD rfl (qX 3 rfl (ae.nil ?_))));by_cases hx0:x=0
 · rw[if_pos hx0,beq_iff_eq.2 hx0];exact AW.aG rfl (qX 2 rfl (qN rfl))
 rw[if_neg hx0,beq_eq_false_iff_ne.2 hx0];refine AW.aD rfl (AW.skip (AW.seq (AW.draw aU 7 (by kernel_rfl) ?_)));refine qP 4 rfl (af.call tok rfl rfl rfl rfl rfl cn (af.call tok rfl rfl rfl rfl rfl r4 (qP 1 rfl ?_)));rw[aF (x:=x*u) (by unfold xq at t4;omega) (by unfold xq at t4;omega)];exact af.nil (qU 1 rfl (qN rfl))
theorem fu: ∀(l:Nat) {rt:List NQ} {a:NQ},ay l a→l≤5→cK rt→l≤rt.length→rt.length≤10→GX l rt a→Pure Tryz.prog 45 [gY rt,aq a] (dI (eg l rt a))
 | 0,rt,a,ha,hl5,hrt,hl,hl10,hok=>xE (O:=fun _=>True) (Nk:=fun _=>True) ha hl5 hrt hl hl10 hok (fun h=>absurd rfl h) (fun l' h=>by omega) (fun _=> .inl rfl) (fun l' h=>by omega)
 | l+1,rt,a,ha,hl5,hrt,hl,hl10,hok=>xE (O:=GX l rt) (Nk:=K1 l rt) ha hl5 hrt hl hl10 hok.1 (fun _=>hok.2) (fun l' e b h1 h2=>by
    obtain rfl:l=l':=by omega
    exact fu l h1 (by omega) hrt (by omega) hl10 h2) (od l rt) (fun l' e b j h1 h2 h3=>by
    obtain rfl:l=l':=by omega
    exact⟨mX h1 h2 hrt (by omega) hl10 h3,uk h1 h2 hrt (by omega)⟩)
theorem oU(l:Nat){k:Nat}{rt:List NQ}{a:NQ}(ha:ay l a)(hl5:l≤5)(hrt:cK rt)(hl:l≤rt.length)(hl10:rt.length≤10)(sa:aB k a)(sr:dm k rt)(hok:pG l k):Pure Tryz.prog 45 [gY rt,aq a] (dI (eg l rt a)) :=
 fu l ha hl5 hrt hl hl10 (pH l ha hrt hl sa sr hok)
end Lift
namespace Lift
open Go Go.Proofs
abbrev bE(a:List RD):D:= .sl 3 (a.map RD.D)
abbrev wv(rt:List (List RD)):D:= .ag [.sl 1 (rt.map bE)]
def kQ(a:List RD):Bool:=a.all RD.okB
def CO(m n:Nat):Bool:=(List.range (m+1)).any fun i=>decide (n=2^i)
def bY(m:Nat)(a:List RD):Nat:=if a.length≠0∧CO m a.length=false then 10 else if kQ a=false then 2 else 0
def au(a:List RD):NQ:=a.map RD.val
def wN(k:Nat)(a:List RD):Prop:= ∀i,i<a.length→(a.getD i default).w k
def wI(rt:List (List RD))(k:Nat):Nat:=if (rt.getD k []).length≠2^k then 10 else if bY k (rt.getD k [])≠0 then bY k (rt.getD k []) else if eg k ((rt.take k).map au) (au (rt.getD k []))<0 then 3 else 0
def dE(rt:List (List RD)):Nat:=if 5<rt.length then 4 else fE (wI rt) (rt.length-0) 0
def ky(rt l:List (List RD)):Nat:=if dE rt≠0 then dE rt else fE (fun i=>bY rt.length (l.getD i [])) (l.length-0) 0
theorem Bg(a:List RD)(i:Nat):(au a).getD i 0=if i<a.length then (a.getD i default).val else 0:=by
 unfold au;rw[aN,List.getElem?_map,aN];by_cases h:i<a.length
 · rw[if_pos h,bQ h];rfl
 · rw[if_neg h,List.getElem?_eq_none (by omega)];rfl
theorem m7{a:List RD}{k:Nat}(h:wN k a)(h1:1≤k):aB k (au a):=fun c=>by
 rw[Bg];split
 · rename_i hc;exact cy (h c hc) h1
 · exact nX h1
theorem lG{a:List RD}{k:Nat}(hw:wN k a)(h:kQ a=true):bE a=aq (au a):=by
 show D.sl 3 (a.map RD.D)=D.sl 3 (List.map _ (List.map _ a));rw[List.map_map]
 congr 1
 refine List.map_congr_left fun x hx=>?_;obtain ⟨i,hi,rfl⟩:=List.mem_iff_getElem.1 hx;have hi2:=hw i hi;rw[aN,bQ hi] at hi2;unfold kQ at h;rw[List.all_eq_true] at h;have:=RD.canon hi2 (h _ (List.getElem_mem hi));simp only[Option.getD_some] at this;show (a[i]).D=(Qr (a[i]).val).D;rw[← this]
theorem Bi{l:List RD}{i:Nat}(hi:i<l.length)(h:(l.getD i default).okB=false):kQ l=false:=LC hi h
theorem xR{l:List RD}(h: ∀i,i<l.length→(l.getD i default).okB=true):kQ l=true:=JP h
theorem zG(m i:Nat):CO m (2^i)=decide (i≤m):=by
 unfold CO;by_cases h:i≤m
 · rw[aO h,List.any_eq_true];exact⟨i,List.mem_range.2 (by omega),aO rfl⟩
 · rw[a9 h,List.any_eq_false];intro j hj;have hj:=List.mem_range.1 hj;rw[a9]
   · simp
   · intro e;have h1:=ib (Nat.le_of_eq e);omega
theorem Jk{m n:Nat}(h: ∀i,n≠2^i):CO m n=false:=by
 unfold CO;rw[List.any_eq_false];intro j _;rw[a9 (h j)];simp
theorem G8{m n:Nat}(h:CO m n=true): ∃i,i≤m∧n=2^i:=by
 unfold CO at h;rw[List.any_eq_true] at h;obtain ⟨i,h1,h2⟩:=h;exact⟨i,by have:=List.mem_range.1 h1;omega,ak h2⟩
theorem qM{m:Nat}{a:List RD}(h:bY m a=0):ay m (au a)∧kQ a=true:=by
 unfold bY at h;split at h
 · cases h
 rename_i h1;split at h
 · cases h
 rename_i h2;constructor
 · by_cases h0:a.length=0
   · exact .inl (by unfold au;rw[ah];exact h0)
   · have h3:CO m a.length=true:=by
      cases hv:CO m a.length
      · exact absurd ⟨h0,hv⟩ h1
      · rfl
     obtain ⟨i,h4,h5⟩:=G8 h3;exact .inr ⟨i,h4,by unfold au;rw[ah];exact h5⟩
 · cases hv:kQ a
   · exact absurd hv h2
   · rfl
def Dq(m:Nat)(a:List RD):Prop:= ¬(a.length≠0∧CO m a.length=false)
theorem zg{m:Nat}{a:List RD}(h:bY m a=0):Dq m a:=by
 unfold bY at h;split at h
 · cases h
 · assumption
theorem mA(xs:List D)(a:List RD){k:Nat}(hw:Dq xs.length a→wN k a)(hk:k≤17300000000000)(hl:a.length≤4398046511104)(hx:xs.length≤1000000):Pure Tryz.prog 80 [.ag [.sl 1 xs],bE a] (uv (bY xs.length a)):=by
 refine qJ 34 Tryz.func80 rfl rfl rfl rfl (by kernel_rfl) (fun B F0 w0=>?_);have hno:=fun i hi=>Bi (l:=a) (i:=i) hi;have hyes:=xR (l:=a);unfold bY;generalize kQ a=E at hno hyes ⊢;refine qX 2 rfl (ae.nil ?_);refine AW.cut [1] (fun _:Unit=>[(1,.d (bE a))]) (fun _=> ¬(a.length≠0∧CO xs.length a.length=false)) ?_ (fun _ hs=>?_)
 · refine qX 2 rfl ?_;rw[ah];refine qU 1 rfl (ae.nil ?_);by_cases h0:a.length=0
   · rw[h0];refine AW.aD rfl (AW.skip ?_);exact⟨(),rfl,fun h=>h.1 rfl⟩
   rw[aO (show (0:Int)<(a.length:Int) by omega)];refine AW.aG rfl ?_;by_cases hp: ∃i,a.length=2^i
   · obtain ⟨i,hp⟩:=hp
     have hi:i≤42:=by
      refine ib ?_;rw[← hp];omega
     have cl:=e7 (a.map RD.D) (by rw[ah];exact hp) (by omega);rw[hp,zG];refine qX 1 rfl (ae.call tok rfl rfl rfl rfl cl (qU 1 rfl (qK 2 rfl ?_)));rw[a9 (show ¬((i:Int)<0) by omega)];refine qU 6 rfl ?_;by_cases hm:i≤xs.length
     · rw[aO hm,a9 (show ¬((xs.length:Int)<(i:Int)) by omega)];refine qU 1 rfl (ae.nil (AW.aD rfl (AW.skip ?_)));exact⟨(),rfl,fun h=>by cases h.2⟩
     · rw[a9 hm,aO (show (xs.length:Int)<(i:Int) by omega),if_pos ⟨by have:=Nat.two_pow_pos i;omega,rfl⟩];exact qU 1 rfl (ae.nil (AW.aG rfl (qX 2 rfl (qN rfl))))
   · have hp: ∀i,a.length≠2^i:=fun i e=>hp ⟨i,e⟩;have cl:=mB (a.map RD.D) (by rw[ah];exact hp) (by rw[ah];omega);rw[if_pos ⟨h0,Jk hp⟩];exact qX 1 rfl (ae.call tok rfl rfl rfl rfl cl (qU 1 rfl (qK 9 rfl (ae.nil (AW.aG rfl (qX 2 rfl (qN rfl)))))))
 · rw[if_neg hs];have hw:=hw hs;show AW _ _ _ _ _ _ _ [(1,.d (bE a))];refine AW.seq (qX 2 rfl ?_);rw[ah];refine qU 1 rfl (ae.nil ?_);refine AW.block (AW.aJ [23,24,25] (fun i:Nat=>[(23,.d (bE a)),(24,.d (dI a.length)),(25,.d (dI i))]) (fun i=>i≤a.length∧ ∀j,j<i→(a.getD j default).okB=true) (fun i=>a.length-i) 0 rfl ⟨Nat.zero_le _,fun j hj=>by omega⟩ (fun i ⟨hi,hall⟩=>?_));refine qX 1 rfl (qI (AW.cond rfl (fun h=>?_) (fun h=>?_)))
   · have hii:i<a.length:=by have:=ak h;omega
     have hg:=getM RD.D (l:=a) (i:=i) hii;have hno:=hno i hii;have cv:=fp (a.getD i default) (hw i hii) (by omega);refine AW.skip (AW.seq (AW.block (AW.seq (AW.region (ae.idx tok (a.getD i default).D rfl rfl rfl rfl (aj i) hg ?_)))));refine qU 3 rfl (qK 1 rfl (ae.call tok rfl rfl rfl rfl cv (qU 1 rfl ?_)));cases hv:(a.getD i default).okB with
     | false =>
       rw[hno hv,if_pos rfl];exact ae.nil (AW.aG rfl (qX 2 rfl (qN rfl)))
     | true =>
       refine ae.nil (AW.aD rfl (AW.skip (qT 1 rfl ?_)));rw[aF (x:=(i:Int)+1) (by omega) (by omega)];refine qU 1 rfl (ae.nil ?_)
       exact⟨i+1,rfl,⟨hii,fun j hj=>by
        by_cases e:j=i
        · subst e;exact hv
        · exact hall j (by omega)⟩,by omega⟩
   have hii:i=a.length:=by have:=ar h;omega
   subst hii;rw[hyes hall,if_neg (by simp)];exact AW.exit (qX 1 rfl (qN rfl))
end Lift
namespace Lift
open Go Go.Proofs
theorem Gj(rt:List (List RD))(k:Nat):((rt.map bE).take (cQ (rt.map bE).length (some (k:Int)))).drop (fR none)=(rt.take k).map bE:=by
 show ((rt.map bE).take k).drop 0=_;rw[List.drop_zero,List.map_take]
theorem po{rt:List (List RD)}{k m:Nat}(hw: ∀i,i<k→wN m (rt.getD i []))(hk:k≤rt.length)(h: ∀j,j<k→kQ (rt.getD j [])=true):(rt.take k).map bE=((rt.take k).map au).map aq:=by
 rw[List.map_map];refine List.map_congr_left fun x hx=>?_;obtain ⟨i,hi,rfl⟩:=List.mem_iff_getElem.1 hx;rw[bb] at hi
 have e:(rt.take k)[i]'(by rw[bb];exact hi)=rt.getD i []:=by
  rw[List.getElem_take,aN,bQ (by omega)];rfl
 rw[e];exact lG (hw i (by omega)) (h i (by omega))
theorem qa{rt:List (List RD)}{k i:Nat}(hi:i<k):((rt.take k).map au).getD i []=au (rt.getD i []):=by
 rw[aN,List.getElem?_map,List.getElem?_take_of_lt hi,aN];cases rt[i]? with
 | none=>rfl
 | some x=>rfl
theorem EM{rt:List (List RD)}{k i:Nat}(hi:k≤i):((rt.take k).map au).getD i []=[]:=by
 rw[aN,List.getElem?_eq_none (by rw[ah,bb];omega)];rfl
theorem fX{rt:List (List RD)}{k:Nat}(hk:k≤rt.length):((rt.take k).map au).length=k:=by rw[ah,bb];omega
theorem tX{rt:List (List RD)}{k m:Nat}(hw: ∀i,i<k→wN m (rt.getD i []))(h1:1≤m)(hk:k≤rt.length):dm m ((rt.take k).map au):=fun i=>by
 by_cases h:i<k
 · rw[qa h];exact m7 (hw i (by omega)) h1
 · rw[EM (by omega)];exact cH h1
theorem GZ(a:List RD):(au a).length=a.length:=ah ..
theorem iH{rt:List (List RD)}{k:Nat}(h:wI rt k=0):(rt.getD k []).length=2^k∧kQ (rt.getD k [])=true∧ ¬eg k ((rt.take k).map au) (au (rt.getD k []))<0:=by
 unfold wI at h;split at h
 · cases h
 rename_i h1;split at h
 · rename_i h2;exact absurd h h2
 rename_i h2;split at h
 · cases h
 rename_i h3;exact⟨by omega,(qM (m:=k) (by omega)).2,h3⟩
theorem lX{rt:List (List RD)}{k:Nat}(hk:k≤rt.length)(h: ∀j,j<k→wI rt j=0):cK ((rt.take k).map au):=fun j hj=>by
 rw[fX hk] at hj;rw[qa hj,GZ];exact(iH (h j hj)).1
theorem vr{l m k:Nat}(h:pG l k)(hm:m≤l):pG m k:=by
 induction l with
 | zero=>obtain rfl:m=0:=by omega
         exact h
 | succ l ih =>
   by_cases e:m=l+1
   · rw[e];exact h
   · exact ih (kp h) (by omega)
theorem ke(rt:List (List RD)){m:Nat}(hw: ∀i,i<rt.length→(rt.getD i []).length=2^i→wN m (rt.getD i []))(h1:1≤m)(hl:rt.length≤1000000)(hll: ∀i,i<rt.length→(rt.getD i []).length≤4398046511104)(hok:rt.length≤5→pG rt.length m):Pure Tryz.prog 79 [wv rt] (uv (dE rt)):=by
 refine qJ 43 Tryz.func79 rfl rfl rfl rfl (by kernel_rfl) (fun B F0 w0=>?_);unfold dE;obtain ⟨E,hE⟩: ∃E,fE (wI rt) (rt.length-0) 0=E:=⟨_,rfl⟩;rw[hE];refine qX 2 rfl (qI (qX 3 rfl ?_));rw[ah];refine qU 1 rfl (ae.nil ?_);by_cases h5:5<rt.length
 · rw[if_pos h5,aO (show (5:Int)<(rt.length:Int) by omega)];exact AW.aG rfl (qX 2 rfl (qN rfl))
 rw[if_neg h5,a9 (show ¬(5:Int)<(rt.length:Int) by omega)];have hok:=hok (by omega);have hm7:=za hok;refine AW.aD rfl (AW.skip (AW.seq (qX 3 rfl ?_)));rw[ah];refine qU 1 rfl (ae.nil ?_);refine AW.block (AW.aJ [1,13,14,15] (fun i:Nat=>[(1,.bx [.sl 1 (rt.map bE)]),(13,.d (.sl 1 (rt.map bE))),(14,.d (dI rt.length)),(15,.d (dI i))]) (fun i=>i≤rt.length∧fE (wI rt) (rt.length-i) i=E∧ ∀j,j<i→wI rt j=0) (fun i=>rt.length-i) 0 rfl ⟨Nat.zero_le _,hE,fun j hj=>by omega⟩ (fun i ⟨hi,hiE,hall⟩=>?_));refine qX 1 rfl ?_;refine qI (AW.cond rfl (fun h=>?_) (fun h=>?_));rotate_left
 · have hii: ¬i<rt.length:=by have:=ar h;omega
   rw[eU hii] at hiE;subst hiE;exact AW.exit (qX 1 rfl (qN rfl))
 have hii:i<rt.length:=by have:=ak h;omega
 have hg:(rt.map bE)[i]?=some (bE (rt.getD i [])):=by simp[hii]
 have hwi:=hw i hii;have hli:=hll i hii;have hmiss:=fun h0:wI rt i=0=>(db hii h0).symm.trans hiE;have hhit:=fun h0:wI rt i≠0=>(eT hii h0).symm.trans hiE;have hp:2^i≤2^5:=Nat.pow_le_pow_right (by decide) (by omega);have hrt:wI rt i=if (rt.getD i []).length≠2^i then 10 else if bY i (rt.getD i [])≠0 then bY i (rt.getD i []) else if eg i ((rt.take i).map au) (au (rt.getD i []))<0 then 3 else 0:=rfl
 refine AW.skip (AW.seq (AW.block (qX 1 rfl (ae.idx tok (bE (rt.getD i [])) rfl rfl rfl rfl (aj i) hg ?_))));refine qU 3 rfl (qI (qX 2 rfl ?_));rw[ah];refine qU 2 rfl ?_;rw[AE (by omega)];refine qU 1 rfl (ae.nil ?_);by_cases e1:(rt.getD i []).length=2^i;rotate_left
 · rw[if_pos e1] at hrt;rw[bne_iff_ne.2 (show (((rt.getD i []).length:Nat):Int)≠((2^i:Nat):Int) by omega)];have:=hhit (by rw[hrt];decide);rw[hrt] at this;subst this;exact AW.aG rfl (qX 2 rfl (qN rfl))
 rw[if_neg (fun h=>h e1)] at hrt;have hwi:=hwi e1;have cn:=mA ((rt.take i).map bE) (rt.getD i []) (fun _=>hwi) (by omega) hli (by rw[ah,bb];omega);rw[ah,bb,Nat.min_eq_left hi] at cn;rw[e1,bne_eq_false_iff_eq.2 rfl];refine AW.aD rfl (AW.skip (qX 3 rfl ?_));refine ae.DM tok rfl rfl rfl rfl trivial (aj i) (Nat.zero_le _) (by show i≤_;rw[ah];omega) ?_;rw[Gj];refine qU 3 rfl (qI (qX 2 rfl (ae.call tok rfl rfl rfl rfl cn (qU 1 rfl (ae.nil ?_)))));rcases e2:bY i (rt.getD i []) with _ | z
 rotate_left
 · rw[e2,if_pos (Nat.succ_ne_zero z)] at hrt;have:=hhit (by rw[hrt];exact Nat.succ_ne_zero z);rw[hrt] at this;subst this;exact qX 1 rfl (ae.err tok rfl rfl rfl rfl rfl (ae.nil (AW.aG rfl (qX 2 rfl (qN rfl)))))
 rw[if_neg (by rw[e2];simp)] at hrt;obtain ⟨n1,n2⟩:=qM e2;have cs:=oU i (k:=m) n1 (by omega) (lX hi hall) (by rw[fX hi];exact ai _) (by rw[fX hi];omega) (m7 hwi h1) (tX (fun j hj=>hw j (by omega) (iH (hall j hj)).1) h1 hi) (vr hok hi);have tr:=od i ((rt.take i).map au) (au (rt.getD i []));rw[show gY ((rt.take i).map au)= .ag [.sl 1 ((rt.take i).map bE)] from by rw[po (fun j hj=>hw j (by omega) (iH (hall j hj)).1) hi (fun j hj=>(iH (hall j hj)).2.1)],← lG hwi n2] at cs;generalize eg i ((rt.take i).map au) (au (rt.getD i []))=s at cs hrt tr;refine qX 1 rfl (ae.err tok rfl rfl rfl rfl rfl (ae.nil (AW.aD rfl (AW.skip (qX 2 rfl (ae.call tok rfl rfl rfl rfl cs (qU 1 rfl (ae.nil ?_))))))));by_cases e3:s<0
 · rw[if_pos e3] at hrt;rw[aO e3];have:=hhit (by rw[hrt];decide);rw[hrt] at this;subst this;exact AW.aG rfl (qX 2 rfl (qN rfl))
 rw[if_neg e3] at hrt;rw[a9 e3];refine AW.aD rfl (AW.skip (qT 1 rfl ?_));rw[aF (x:=(i:Int)+1) (by omega) (by omega)];refine qU 1 rfl (ae.nil ?_)
 exact⟨i+1,rfl,⟨hii,hmiss hrt,fun j hj=>by
  by_cases e:j=i
  · rw[e];exact hrt
  · exact hall j (by omega)⟩,by omega⟩
theorem gi(rt l:List (List RD)){m mn:Nat}(hw: ∀i,i<rt.length→(rt.getD i []).length=2^i→wN m (rt.getD i []))(h1:1≤m)(hl:rt.length≤1000000)(hll: ∀i,i<rt.length→(rt.getD i []).length≤4398046511104)(hok:rt.length≤5→pG rt.length m)
  (hlw: ∀i,i<l.length→Dq rt.length (l.getD i [])→wN mn (l.getD i [])) (hl2:l.length≤1000000) (hl3: ∀i,i<l.length→(l.getD i []).length≤4398046511104) (hm:mn≤17300000000000):Pure Tryz.prog 42 [wv rt,.sl 1 (l.map bE)] (uv (ky rt l)):=by
 refine qJ 27 Tryz.func42 rfl rfl rfl rfl (by kernel_rfl) (fun B F0 w0=>?_);have cC:=ke rt hw h1 hl hll hok;unfold ky;obtain ⟨E,hE⟩: ∃E,fE (fun i=>bY rt.length (l.getD i [])) (l.length-0) 0=E:=⟨_,rfl⟩;rw[hE];refine qX 2 rfl (qI (qX 1 rfl (ae.call tok rfl rfl rfl rfl cC (qU 1 rfl (ae.nil ?_)))));rcases e2:dE rt with _ | z
 rotate_left
 · rw[if_pos (Nat.succ_ne_zero z)];exact qX 1 rfl (ae.err tok rfl rfl rfl rfl rfl (ae.nil (AW.aG rfl (qX 2 rfl (qN rfl)))))
 rw[if_neg (by simp)];refine qX 1 rfl (ae.err tok rfl rfl rfl rfl rfl (ae.nil (AW.aD rfl (AW.skip (AW.seq (qX 2 rfl ?_))))));rw[ah];refine qU 1 rfl (ae.nil ?_);refine AW.block (AW.aJ [2,14,15,16] (fun i:Nat=>[(2,.bx [.sl 1 (rt.map bE)]),(14,.d (.sl 1 (l.map bE))),(15,.d (dI l.length)),(16,.d (dI i))]) (fun i=>i≤l.length∧fE (fun i=>bY rt.length (l.getD i [])) (l.length-i) i=E) (fun i=>l.length-i) 0 rfl ⟨Nat.zero_le _,hE⟩ (fun i ⟨hi,hiE⟩=>?_));refine qX 1 rfl ?_;refine qI (AW.cond rfl (fun h=>?_) (fun h=>?_));rotate_left
 · have hii: ¬i<l.length:=by have:=ar h;omega
   rw[eU hii] at hiE;subst hiE;exact AW.exit (qX 1 rfl (qN rfl))
 have hii:i<l.length:=by have:=ak h;omega
 have hg:(l.map bE)[i]?=some (bE (l.getD i [])):=by simp[hii]
 have hmiss:=fun h0:bY rt.length (l.getD i [])=0=>(db (f:=fun i=>bY rt.length (l.getD i [])) hii h0).symm.trans hiE;have hhit:=fun h0:bY rt.length (l.getD i [])≠0=>(eT (f:=fun i=>bY rt.length (l.getD i [])) hii h0).symm.trans hiE;have cn:=mA (rt.map bE) (l.getD i []) (fun h=>hlw i hii (by rw[ah] at h;exact h)) hm (hl3 i hii) (by rw[ah];omega);rw[ah] at cn;refine AW.skip (AW.seq (AW.block (AW.seq (AW.region (ae.idx tok (bE (l.getD i [])) rfl rfl rfl rfl (aj i) hg ?_)))));refine qU 2 rfl (qK 2 rfl (ae.call tok rfl rfl rfl rfl cn (qU 1 rfl (ae.nil ?_))));generalize bY rt.length (l.getD i [])=v at hmiss hhit;rcases v with _ | z
 rotate_left
 · have:=hhit (Nat.succ_ne_zero z);subst this;exact qX 1 rfl (ae.err tok rfl rfl rfl rfl rfl (ae.nil (AW.aG rfl (qX 2 rfl (qN rfl)))))
 refine qX 1 rfl (ae.err tok rfl rfl rfl rfl rfl (ae.nil (AW.aD rfl (AW.skip (qT 1 rfl ?_)))));rw[aF (x:=(i:Int)+1) (by omega) (by omega)];refine qU 1 rfl (ae.nil ?_);exact⟨i+1,rfl,⟨hii,hmiss rfl⟩,by omega⟩
theorem rp{rt:List (List RD)}(h:dE rt=0):rt.length≤5∧ ∀j,j<rt.length→wI rt j=0:=by
 unfold dE at h;split at h
 · cases h
 rename_i h1
 have key: ∀(m i:Nat),fE (wI rt) m i=0→ ∀j,i≤j→j<i+m→wI rt j=0:=by
  intro m
  induction m with
  | zero=>intro i _ j h1 h2;omega
  | succ m ih =>
    intro i h j h1 h2;rw[fE] at h;split at h
    · rename_i h0;by_cases e:j=i
      · rw[e];exact h0
      · exact ih (i+1) h j (by omega) (by omega)
    · rename_i h0;exact absurd h h0
 exact⟨by omega,fun j hj=>key _ _ h j (Nat.zero_le _) (by omega)⟩
def Gl(rt:List (List RD))(a:List RD):D:=if ky rt [a]≠0 then .tu [dI 0,uv (ky rt [a])] else .tu [dI (eg rt.length (rt.map au) (au a)),aR]
theorem z7{rt:List (List RD)}{a:List RD}(h:ky rt [a]=0):dE rt=0∧bY rt.length a=0:=by
 unfold ky at h;split at h
 · rename_i h0;exact absurd h h0
 rename_i h0;refine⟨by omega,?_⟩;have e:fE (fun i=>bY rt.length ([a].getD i [])) ([a].length-0) 0=if bY rt.length a=0 then 0 else bY rt.length a:=rfl
 rw[e] at h;split at h
 · assumption
 · rename_i h1;exact absurd h h1
theorem wQ(rt:List (List RD))(a:List RD){m:Nat}(hw: ∀i,i<rt.length→(rt.getD i []).length=2^i→wN m (rt.getD i []))(h1:1≤m)(hl:rt.length≤1000000)(hll: ∀i,i<rt.length→(rt.getD i []).length≤4398046511104)(hok:rt.length≤5→pG rt.length m)
  (haw:Dq rt.length a→wN m a) (hal:a.length≤4398046511104) (hm:m≤17300000000000):Pure Tryz.prog 22 [wv rt,bE a] (Gl rt a):=by
 refine qJ 17 Tryz.func22 rfl rfl rfl rfl (by kernel_rfl) (fun B F0 w0=>?_)
 have h0: ∀i,i<[a].length→i=0:=fun i hi=>by
  have:i<1:=hi;omega
 have cc:=gi rt [a] hw h1 hl hll hok (fun i hi=>by rw[h0 i hi];exact haw) (show 1≤1000000 by decide) (fun i hi=>by rw[h0 i hi];exact hal) hm;unfold Gl;refine qX 3 rfl (qI (qX 2 rfl (ae.nR tok rfl rfl rfl rfl rfl ?_)));refine ae.call tok rfl rfl rfl rfl cc (qU 1 rfl (ae.nil ?_));rcases e2:ky rt [a] with _ | z
 rotate_left
 · rw[if_pos (Nat.succ_ne_zero z)];exact qX 1 rfl (ae.err tok rfl rfl rfl rfl rfl (ae.nil (AW.aG rfl (qX 3 rfl (qN rfl)))))
 rw[if_neg (by simp)];obtain ⟨k1,k2⟩:=z7 e2;obtain ⟨k3,k4⟩:=rp k1;obtain ⟨n1,n2⟩:=qM k2;have vo:=lX (k:=rt.length) (ai _) k4;have vl:=fX (rt:=rt) (k:=rt.length) (ai _);have vs:=tX (k:=rt.length) (fun j hj=>hw j hj (iH (k4 j hj)).1) h1 (ai _);have vc:=po (k:=rt.length) (fun j hj=>hw j hj (iH (k4 j hj)).1) (ai _) (fun j hj=>(iH (k4 j hj)).2.1);rw[List.take_length] at vo vl vs vc;have cs:=oU rt.length (k:=m) n1 k3 vo (by rw[vl];exact ai _) (by rw[vl];omega) (m7 (haw (zg k2)) h1) vs (hok k3);rw[show gY (rt.map au)= .ag [.sl 1 (rt.map bE)] from by rw[vc],← lG (haw (zg k2)) n2] at cs;exact qX 1 rfl (ae.err tok rfl rfl rfl rfl rfl (ae.nil (AW.aD rfl (AW.skip (qX 2 rfl (ae.call tok rfl rfl rfl rfl cs (qU 2 rfl (qN rfl))))))))
end Lift
namespace Lift
open Go Go.Proofs
structure pX (m:Nat) (rt:List (List RD)):Prop where
 t: ∃m0,1≤m0∧m0≤m∧(∀i,i<rt.length→(rt.getD i []).length=2^i→wN m0 (rt.getD i []))∧(rt.length≤5→pG rt.length m0)
 m2:m≤1000000
 l:rt.length≤1000000
 ll: ∀i,i<rt.length→(rt.getD i []).length≤4398046511104
theorem pX.m1{m:Nat}{rt:List (List RD)}(T:pX m rt):1≤m:=by
 obtain ⟨m0,h1,h2,_⟩:=T.t;omega
structure kD (m:Nat) (rt:List (List RD)) (a:List RD):Prop where
 w:Dq rt.length a→wN m a
 l:a.length≤4398046511104
theorem Dj{m:Nat}{rt:List (List RD)}{a:List RD}(T:pX m rt)(A:kD m rt a):Pure Tryz.prog 42 [wv rt,.sl 1 [bE a]] (uv (ky rt [a])):=by
 have hm:=T.m2
 have h0: ∀i,i<[a].length→i=0:=fun i hi=>by
  have:i<1:=hi;omega
 obtain ⟨m0,t1,t2,tw,tk⟩:=T.t;exact gi rt [a] tw t1 T.l T.ll tk (fun i hi=>by rw[h0 i hi];exact A.w) (show 1≤1000000 by decide) (fun i hi=>by rw[h0 i hi];exact A.l) (by omega)
theorem pT{m:Nat}{rt:List (List RD)}{a b:List RD}(T:pX m rt)(A:kD m rt a)(B:kD m rt b):Pure Tryz.prog 42 [wv rt,.sl 1 [bE a,bE b]] (uv (ky rt [a,b])):=by
 have hm:=T.m2
 have h0: ∀i,i<[a,b].length→i=0∨i=1:=fun i hi=>by
  have:i<2:=hi;omega
 obtain ⟨m0,t1,t2,tw,tk⟩:=T.t;exact gi rt [a,b] tw t1 T.l T.ll tk (fun i hi=>by rcases h0 i hi with rfl | rfl;exact A.w;exact B.w) (show 2≤1000000 by decide) (fun i hi=>by rcases h0 i hi with rfl | rfl;exact A.l;exact B.l) (by omega)
theorem z6{rt:List (List RD)}{a b:List RD}(h:ky rt [a,b]=0):dE rt=0∧bY rt.length a=0∧bY rt.length b=0:=by
 unfold ky at h;split at h
 · rename_i h0;exact absurd h h0
 rename_i h0;have e:fE (fun i=>bY rt.length ([a,b].getD i [])) ([a,b].length-0) 0=if bY rt.length a=0 then (if bY rt.length b=0 then 0 else bY rt.length b) else bY rt.length a:=rfl
 rw[e] at h;by_cases h1:bY rt.length a=0
 · rw[if_pos h1] at h;by_cases h2:bY rt.length b=0
   · exact⟨by omega,h1,h2⟩
   · rw[if_neg h2] at h;exact absurd h h2
 · rw[if_neg h1] at h;exact absurd h h1
structure NJ (m:Nat) (rt:List (List RD)) (v:List NQ):Prop where
 l5:rt.length≤5
 ln:v.length=rt.length
 ro:cK v
 sz:dm m v
 t: ∃m0,1≤m0∧m0≤m∧dm m0 v∧pG rt.length m0
 ps: ∀k,k<v.length→ ¬eg k (v.take k) (v.getD k [])<0
 eq:wv rt=gY v
theorem qb{m:Nat}{rt:List (List RD)}(T:pX m rt)(h:dE rt=0):NJ m rt (rt.map au):=by
 obtain ⟨k3,k4⟩:=rp h;have vo:=lX (k:=rt.length) (ai _) k4;have vl:=fX (rt:=rt) (k:=rt.length) (ai _);obtain ⟨m0,t1,t2,tw,tk⟩:=T.t;have hw:=fun j hj=>tw j hj (iH (k4 j hj)).1;have vs:=tX (k:=rt.length) hw t1 (ai _);have vc:=po (k:=rt.length) hw (ai _) (fun j hj=>(iH (k4 j hj)).2.1);rw[List.take_length] at vo vl vs vc;refine⟨k3,vl,vo,vs.mono t2,⟨m0,t1,t2,vs,tk k3⟩,fun k hk=>?_,by show D.ag [.sl 1 (rt.map bE)]=_;rw[vc]⟩;rw[vl] at hk;have:=(iH (k4 k hk)).2.2
 have e:(rt.map au).getD k []=au (rt.getD k []):=by
  rw[aN,List.getElem?_map,aN,bQ hk];rfl
 rw[e,← List.map_take];exact this
theorem jD{m:Nat}{rt:List (List RD)}{a:List RD}(m1:1≤m)(A:kD m rt a)(h:bY rt.length a=0):ay rt.length (au a)∧aB m (au a)∧bE a=aq (au a):=by
 obtain ⟨n1,n2⟩:=qM h;have w:=A.w (zg h);exact⟨n1,m7 w m1,lG w n2⟩
def K0(rt:List (List RD))(a:List RD)(F:NQ→NQ):D:=if ky rt [a]≠0 then .tu [aq [],uv (ky rt [a])] else .tu [aq (F (au a)),aR]
def y8(rt:List (List RD))(a b:List RD)(F:NQ→NQ→NQ):D:=if ky rt [a,b]≠0 then .tu [aq [],uv (ky rt [a,b])] else .tu [aq (F (au a) (au b)),aR]
theorem yB{m:Nat}{rt:List (List RD)}{a:List RD}(T:pX m rt)(A:kD m rt a):Pure Tryz.prog 101 [wv rt,bE a] (K0 rt a (fun x=>aA (aZ x))):=by
 refine qJ 17 Tryz.func101 rfl rfl rfl rfl (by kernel_rfl) (fun B0 F0 w0=>?_);have cc:=Dj T A;have hm:=T.m2;unfold K0;refine qX 3 rfl (qI (qX 2 rfl (ae.nR tok rfl rfl rfl rfl rfl ?_)));refine ae.call tok rfl rfl rfl rfl cc (qU 1 rfl (ae.nil ?_));rcases e2:ky rt [a] with _ | z
 rotate_left
 · rw[if_pos (Nat.succ_ne_zero z)];exact qX 1 rfl (ae.err tok rfl rfl rfl rfl rfl (ae.nil (AW.aG rfl (qX 3 rfl (qN rfl)))))
 rw[if_neg (by simp)];obtain ⟨k1,k2⟩:=z7 e2;have W:=qb T k1;have hl5:=W.l5;obtain ⟨n1,n2,n3⟩:=jD T.m1 A k2;have c1:=fv (au a) (k:=m) n2 (by omega) (Nat.le_trans (n1.len (by omega)) (by decide));have c2:=bM (aZ (au a)) n1.minus hl5 n2.minus (by omega);rw[← n3] at c1;refine qX 1 rfl (ae.err tok rfl rfl rfl rfl rfl (ae.nil (AW.aD rfl (AW.skip (qX 1 rfl (ae.call tok rfl rfl rfl rfl c1 (ae.call tok rfl rfl rfl rfl c2 (qU 2 rfl ?_))))))));exact qN rfl
theorem yD{m:Nat}{rt:List (List RD)}{a b:List RD}(T:pX m rt)(A:kD m rt a)(B:kD m rt b):Pure Tryz.prog 21 [wv rt,bE a,bE b] (y8 rt a b (fun x y=>aA (aX x y))):=by
 refine qJ 21 Tryz.func21 rfl rfl rfl rfl (by kernel_rfl) (fun B0 F0 w0=>?_);have cc:=pT T A B;have hm:=T.m2;unfold y8;refine qX 3 rfl (qI (qX 3 rfl (ae.nR tok rfl rfl rfl rfl rfl ?_)));refine ae.call tok rfl rfl rfl rfl cc (qU 1 rfl (ae.nil ?_));rcases e2:ky rt [a,b] with _ | z
 rotate_left
 · rw[if_pos (Nat.succ_ne_zero z)];exact qX 1 rfl (ae.err tok rfl rfl rfl rfl rfl (ae.nil (AW.aG rfl (qX 3 rfl (qN rfl)))))
 rw[if_neg (by simp)];obtain ⟨k1,k2,k3⟩:=z6 e2;have W:=qb T k1;have hl5:=W.l5;obtain ⟨n1,n2,n3⟩:=jD T.m1 A k2;obtain ⟨p1,p2,p3⟩:=jD T.m1 B k3;have c1:=dY (au a) (au b) (k:=m) n2 p2 (by omega) (Nat.le_trans (n1.len (by omega)) (by decide)) (Nat.le_trans (p1.len (by omega)) (by decide));have c2:=bM (aX (au a) (au b)) (n1.plus p1) hl5 (n2.plus p2) (by omega);rw[← n3,← p3] at c1;refine qX 1 rfl (ae.err tok rfl rfl rfl rfl rfl (ae.nil (AW.aD rfl (AW.skip (qX 2 rfl (ae.call tok rfl rfl rfl rfl c1 (ae.call tok rfl rfl rfl rfl c2 (qU 2 rfl ?_))))))));exact qN rfl
theorem yA{m:Nat}{rt:List (List RD)}{a b:List RD}(T:pX m rt)(A:kD m rt a)(B:kD m rt b):Pure Tryz.prog 105 [wv rt,bE a,bE b] (y8 rt a b (fun x y=>aA (aX x (aZ y)))):=by
 refine qJ 22 Tryz.func105 rfl rfl rfl rfl (by kernel_rfl) (fun B0 F0 w0=>?_);have cc:=pT T A B;have hm:=T.m2;unfold y8;refine qX 3 rfl (qI (qX 3 rfl (ae.nR tok rfl rfl rfl rfl rfl ?_)));refine ae.call tok rfl rfl rfl rfl cc (qU 1 rfl (ae.nil ?_));rcases e2:ky rt [a,b] with _ | z
 rotate_left
 · rw[if_pos (Nat.succ_ne_zero z)];exact qX 1 rfl (ae.err tok rfl rfl rfl rfl rfl (ae.nil (AW.aG rfl (qX 3 rfl (qN rfl)))))
 rw[if_neg (by simp)];obtain ⟨k1,k2,k3⟩:=z6 e2;have W:=qb T k1;have hl5:=W.l5;obtain ⟨n1,n2,n3⟩:=jD T.m1 A k2;obtain ⟨p1,p2,p3⟩:=jD T.m1 B k3;have c0:=fv (au b) (k:=m) p2 (by omega) (Nat.le_trans (p1.len (by omega)) (by decide));have c1:=dY (au a) (aZ (au b)) (k:=m) n2 p2.minus (by omega) (Nat.le_trans (n1.len (by omega)) (by decide)) (Nat.le_trans (p1.minus.len (by omega)) (by decide));have c2:=bM (aX (au a) (aZ (au b))) (n1.plus p1.minus) hl5 (n2.plus p2.minus) (by omega);rw[← p3] at c0;rw[← n3] at c1;refine qX 1 rfl (ae.err tok rfl rfl rfl rfl rfl (ae.nil (AW.aD rfl (AW.skip (qX 2 rfl (ae.call tok rfl rfl rfl rfl c0 (ae.call tok rfl rfl rfl rfl c1 (ae.call tok rfl rfl rfl rfl c2 ?_))))))));exact qU 2 rfl (qN rfl)
theorem yC{m:Nat}{rt:List (List RD)}{a b:List RD}(hsT:sT rt.length m≤17300000000000)(T:pX m rt)(A:kD m rt a)(B:kD m rt b):Pure Tryz.prog 106 [wv rt,bE a,bE b] (y8 rt a b (fun x y=>aA (aV rt.length (rt.map au) x y))):=by
 refine qJ 22 Tryz.func106 rfl rfl rfl rfl (by kernel_rfl) (fun B0 F0 w0=>?_);have cc:=pT T A B;have hm:=T.m2;unfold y8;refine qX 3 rfl (qI (qX 3 rfl (ae.nR tok rfl rfl rfl rfl rfl ?_)));refine ae.call tok rfl rfl rfl rfl cc (qU 1 rfl (ae.nil ?_));rcases e2:ky rt [a,b] with _ | z
 rotate_left
 · rw[if_pos (Nat.succ_ne_zero z)];exact qX 1 rfl (ae.err tok rfl rfl rfl rfl rfl (ae.nil (AW.aG rfl (qX 3 rfl (qN rfl)))))
 rw[if_neg (by simp)];obtain ⟨k1,k2,k3⟩:=z6 e2;have W:=qb T k1;have hl5:=W.l5;obtain ⟨n1,n2,n3⟩:=jD T.m1 A k2;obtain ⟨p1,p2,p3⟩:=jD T.m1 B k3;have ht:=dt rt.length n1 p1 W.ro (by rw[W.ln];exact ai _) n2 p2 W.sz;have c1:=uN rt.length n1 p1 W.ro (by rw[W.ln];exact ai _) (by rw[W.ln];omega) n2 p2 W.sz hsT;have c2:=bM (aV rt.length (rt.map au) (au a) (au b)) ht.1 hl5 ht.2 (by omega);rw[← n3,← p3,← W.eq] at c1;refine qX 1 rfl (ae.err tok rfl rfl rfl rfl rfl (ae.nil (AW.aD rfl (AW.skip (qX 3 rfl (ae.call tok rfl rfl rfl rfl c1 (ae.call tok rfl rfl rfl rfl c2 (qU 2 rfl ?_))))))));exact qN rfl
def rU(q:Rat):NQ:=if q=0 then [] else [q]
theorem Fh(q:Rat):aA [q]=rU q:=by
 show (if 1=0 then [] else iG (Nat.log2 1) [q])=_;rw[if_neg (by decide),show Nat.log2 1=0 by decide];unfold iG rU;show (if bC [q]=true then [] else [q])=_;have:bC [q]=decide (q=0):=by unfold bC;simp
 rw[this];by_cases h:q=0
 · rw[aO h,if_pos rfl,if_pos h]
 · rw[a9 h,if_neg (by simp),if_neg h]
theorem jd(r:RD){k:Nat}(hr:r.w k)(h1:1≤k)(hk:k≤1000000)(ho:r.okB=true):Pure Tryz.prog 102 [r.D] (aq (rU r.val)):=by
 refine qJ 8 Tryz.func102 rfl rfl rfl rfl (by kernel_rfl) (fun B0 F0 w0=>?_);have c1:=mM r (Qr 0) (k:=k) hr (iy _ (by rw[iZ];exact h1)) (by omega);have z:=cy hr h1;rw[dc,Rat.add_zero] at c1;have c2:=bM [r.val] (l:=0) (k:=k) (eZ 0 _) (by decide) (fZ z) (by omega);rw[Fh] at c2;have hz:(Qr 0).D= .ag [dB false,.sl 1 [],.sl 1 []]:=by rw[iY];rfl
 rw[hz] at c1;refine qX 2 rfl (qK 2 rfl (ae.call tok rfl rfl rfl rfl c1 (ae.nR tok rfl rfl rfl rfl rfl ?_)));exact ae.call tok rfl rfl rfl rfl c2 (qU 1 rfl (qN rfl))
end Lift
namespace Lift
abbrev Cf:=Nat→Rat
def cf(a:NQ):Cf:=fun i=>a.getD i 0
def bw(l:Nat)(a:Cf):Cf:=fun i=>a (2^l+i)
def mulC(rt:List NQ):Nat→Cf→Cf→Cf
 | 0,a,b=>fun i=>if i=0 then a 0*b 0 else 0
 | l+1,a,b=>fun i=>if i<2^l then mulC rt l a b i+mulC rt l (mulC rt l (bw l a) (bw l b)) (cf (rt.getD l [])) i else mulC rt l a (bw l b) (i-2^l)+mulC rt l (bw l a) b (i-2^l)
def bL(l:Nat)(a:Cf):Prop:= ∀i,2^l≤i→a i=0
def jL(l:Nat)(a b:Cf):Prop:= ∀i,i<2^l→a i=b i
theorem bg(rt:List NQ): ∀(l:Nat) (a b:Cf),bL l (mulC rt l a b)
 | 0,a,b=>fun i hi=>by
   have:i≠0:=by have:1≤i:=hi;omega
   show (if i=0 then _ else (0:Rat))=0;rw[if_neg this]
 | l+1,a,b=>fun i hi=>by
   rw[Nat.pow_succ] at hi;have hp:0<2^l:=Nat.pow_pos (by decide);show (if i<2^l then _ else _)=(0:Rat);rw[if_neg (by omega),bg rt l _ _ _ (by omega),bg rt l _ _ _ (by omega),Rat.add_zero]
theorem jL.down{l:Nat}{a b:Cf}(h:jL (l+1) a b):jL l a b:=fun i hi=>h i (by rw[Nat.pow_succ];omega)
theorem jL.hi{l:Nat}{a b:Cf}(h:jL (l+1) a b):jL l (bw l a) (bw l b):=fun i hi=>h _ (by rw[Nat.pow_succ];omega)
theorem jL.tH{l:Nat}{a:Cf}:jL l a a:=fun _ _=>rfl
theorem jL.full{l:Nat}{a b:Cf}(h:jL l a b)(ha:bL l a)(hb:bL l b):a=b:=funext fun i=>by
 by_cases hi:i<2^l
 · exact h i hi
 · rw[ha i (by omega),hb i (by omega)]
theorem bU(rt:List NQ): ∀(l:Nat) {a b a' b':Cf},jL l a a'→jL l b b'→mulC rt l a b=mulC rt l a' b'
 | 0,a,b,a',b',h1,h2=>funext fun i=>by
   show (if i=0 then a 0*b 0 else 0)=(if i=0 then a' 0*b' 0 else 0);rw[h1 0 (by decide),h2 0 (by decide)]
 | l+1,a,b,a',b',h1,h2=>funext fun i=>by
   show (if i<2^l then mulC rt l a b i+mulC rt l (mulC rt l (bw l a) (bw l b)) (cf (rt.getD l [])) i else mulC rt l a (bw l b) (i-2^l)+mulC rt l (bw l a) b (i-2^l))=(if i<2^l then mulC rt l a' b' i+mulC rt l (mulC rt l (bw l a') (bw l b')) (cf (rt.getD l [])) i else mulC rt l a' (bw l b') (i-2^l)+mulC rt l (bw l a') b' (i-2^l));rw[bU rt l h1.down h2.down,bU rt l h1.hi h2.hi,bU rt l h1.down h2.hi,bU rt l h1.hi h2.down]
def zC:Cf:=fun _=>0
theorem bW(rt:List NQ): ∀(l:Nat) {a b:Cf},jL l a zC∨jL l b zC→mulC rt l a b=zC
 | 0,a,b,h=>funext fun i=>by
   show (if i=0 then a 0*b 0 else 0)=0;split
   · rcases h with h | h
     · rw[h 0 (by decide)];exact Rat.zero_mul _
     · rw[h 0 (by decide)];exact Rat.mul_zero _
   · rfl
 | l+1,a,b,h=>funext fun i=>by
   have hz:jL l zC zC:=jL.tH;have r1:mulC rt l a b=zC:=bW rt l (h.imp jL.down jL.down);have r2:mulC rt l (bw l a) (bw l b)=zC:=bW rt l (h.imp jL.hi jL.hi);have r3:mulC rt l a (bw l b)=zC:=bW rt l (h.imp jL.down jL.hi);have r4:mulC rt l (bw l a) b=zC:=bW rt l (h.imp jL.hi jL.down);have r5:mulC rt l zC (cf (rt.getD l []))=zC:=bW rt l (.inl hz);show (if i<2^l then mulC rt l a b i+mulC rt l (mulC rt l (bw l a) (bw l b)) (cf (rt.getD l [])) i else mulC rt l a (bw l b) (i-2^l)+mulC rt l (bw l a) b (i-2^l))=0;rw[r2,r1,r3,r4,r5];show (if i<2^l then (0:Rat)+0 else 0+0)=0;split<;>exact Rat.add_zero 0
theorem j5(rt:List NQ): ∀(l:Nat) (a b:Cf),mulC rt l a b=mulC rt l b a
 | 0,a,b=>funext fun i=>by
   show (if i=0 then a 0*b 0 else 0)=(if i=0 then b 0*a 0 else 0);rw[Rat.mul_comm]
 | l+1,a,b=>funext fun i=>by
   show (if i<2^l then mulC rt l a b i+mulC rt l (mulC rt l (bw l a) (bw l b)) (cf (rt.getD l [])) i else mulC rt l a (bw l b) (i-2^l)+mulC rt l (bw l a) b (i-2^l))=(if i<2^l then mulC rt l b a i+mulC rt l (mulC rt l (bw l b) (bw l a)) (cf (rt.getD l [])) i else mulC rt l b (bw l a) (i-2^l)+mulC rt l (bw l b) a (i-2^l));rw[j5 rt l a b,j5 rt l (bw l a) (bw l b),j5 rt l a (bw l b),j5 rt l (bw l a) b,Rat.add_comm (mulC rt l (bw l b) a _)]
theorem bL.mono{l m:Nat}{a:Cf}(h:bL l a)(hl:l≤m):bL m a:=fun i hi=>h i (Nat.le_trans (Nat.pow_le_pow_right (by decide) hl) hi)
theorem bL.vN{l:Nat}{a:Cf}(h:bL l a):bw l a=zC:=funext fun i=>h _ (by omega)
theorem cZ(rt:List NQ){j:Nat}{a b:Cf}(ha:bL j a)(hb:bL j b): ∀{l:Nat},j≤l→mulC rt l a b=mulC rt j a b:=fun {l} h=>by
 obtain ⟨d,rfl⟩: ∃d,l=j+d:=⟨l-j,by omega⟩;clear h
 induction d with
 | zero=>rfl
 | succ d ih =>
   have ha':bL (j+d) a:=ha.mono (by omega);have hb':bL (j+d) b:=hb.mono (by omega);have hz:jL (j+d) zC zC:=jL.tH;rw[← ih];funext i;show (if i<2^(j+d) then mulC rt (j+d) a b i+mulC rt (j+d) (mulC rt (j+d) (bw (j+d) a) (bw (j+d) b)) (cf (rt.getD (j+d) [])) i else mulC rt (j+d) a (bw (j+d) b) (i-2^(j+d))+mulC rt (j+d) (bw (j+d) a) b (i-2^(j+d)))=_;rw[ha'.vN,hb'.vN,bW rt (j+d) (a:=zC) (b:=zC) (.inl hz),bW rt (j+d) (a:=zC) (.inl hz),bW rt (j+d) (b:=zC) (.inr hz),bW rt (j+d) (a:=zC) (.inl hz)];by_cases hi:i<2^(j+d)
   · rw[if_pos hi];exact Rat.add_zero _
   · rw[if_neg hi,bg rt (j+d) a b i (by omega)];exact Rat.add_zero _
theorem aT{l:Nat}{a:NQ}(h:a.length≤2^l):bL l (cf a):=fun i hi=>gl (by omega)
theorem dW(a b:NQ)(i:Nat):cf (aX a b) i=cf a i+cf b i:=ot a b i
theorem iu(a:NQ)(i:Nat):cf (aZ a) i= -cf a i:=pL a i
theorem ux{a:NQ}(h:bC a=true):cf a=zC:=funext fun i=>by
 unfold bC at h;rw[List.all_eq_true] at h;by_cases hi:i<a.length
 · have:=ak (h a[i] (List.getElem_mem hi));show a.getD i 0=0;rw[aN,bQ hi];exact this
 · exact gl (by omega)
theorem ED{j:Nat}{p q:NQ}(n:Nat)(hn:n=2^j)(hq:q.length≤2^j)(i:Nat):cf (dP p q n) i=if i<2^j then cf p i else cf q (i-2^j):=by
 show (dP p q n).getD i 0=_;rw[ov,hn];by_cases h:i<2^j
 · rw[if_pos h,if_pos h];rfl
 · rw[if_neg h,if_neg h];by_cases h2:i<2^j+2^j
   · rw[if_pos h2];rfl
   · rw[if_neg h2];exact(gl (by omega)).symm
theorem eV{j:Nat}{a:NQ}(n:Nat)(hn:n=2^j):jL j (cf (a.take n)) (cf a):=fun i hi=>by
 show (a.take n).getD i 0=a.getD i 0;rw[mj,if_pos (by omega)]
theorem iW{j:Nat}{a:NQ}(n:Nat)(hn:n=2^j):cf (a.drop n)=bw j (cf a):=funext fun i=>by
 show (a.drop n).getD i 0=a.getD (2^j+i) 0;rw[uu,hn]
theorem zv{l:Nat}{R:NQ→NQ→NQ}{rt:List NQ}{a b:NQ}(ha:ay l a)(hb:ay l b)(hab:b.length≤a.length)(hrt:cK rt)(hl:l≤rt.length)
  (hR: ∀l',l=l'+1→ ∀a' b',ay l' a'→ay l' b'→ay l' (R a' b')∧cf (R a' b')=mulC rt l' (cf a') (cf b')):cf (jF R rt a b)=mulC rt l (cf a) (cf b):=by
 unfold jF;by_cases h0:(bC a||bC b)=true
 · rw[if_pos h0];have:cf ([]:NQ)=zC:=rfl;rw[this,bW];rw[Bool.or_eq_true] at h0;rcases h0 with h | h
   · left;rw[ux h];exact jL.tH
   · right;rw[ux h];exact jL.tH
 rw[if_neg h0];have hz:=fun z:bC a=true=>h0 (by rw[z];rfl);have hz2:=fun z:bC b=true=>h0 (by rw[z,Bool.or_true]);by_cases h1:a.length=1
 · rw[if_pos h1];have lb:b.length≤1:=by omega
   rw[cZ rt (j:=0) (aT (by rw[h1];exact ai _)) (aT lb) (Nat.zero_le _)];funext i;show [a.getD 0 0*b.getD 0 0].getD i 0=if i=0 then a.getD 0 0*b.getD 0 0 else 0
   cases i with
   | zero=>rfl
   | succ i=>rw[if_neg (by omega)];rfl
 rw[if_neg h1]
 obtain ⟨i,hi,hla⟩: ∃i,i≤l∧a.length=2^i:=by
  rcases ha with e | e
  · exact absurd (by rw[List.length_eq_zero_iff.1 e];rfl) hz
  · exact e
 have vN:i≠0:=fun e=>h1 (by rw[hla,e]);obtain ⟨j,rfl⟩: ∃j,i=j+1:=⟨i-1,by omega⟩;obtain ⟨l',rfl⟩: ∃l',l=l'+1:=⟨l-1,by omega⟩;have hj:j≤l':=by omega
 have hR:=fun a' b' h1 h2=>hR l' rfl a' b' h1 h2;obtain ⟨e1,e2,e3⟩:=bA hla;have hx:ay l' (a.take (a.length / 2)):= .inr ⟨j,hj,e1⟩;have hy:ay l' (a.drop (a.length / 2)):= .inr ⟨j,hj,e2⟩;have la:bL (j+1) (cf a):=aT (by omega);have lb:bL (j+1) (cf b):=aT (by omega);rw[cZ rt la lb hi]
 have low: ∀{p q:NQ},p.length≤2^j→q.length≤2^j→ay l' p→ay l' q→cf (R p q)=mulC rt j (cf p) (cf q):=fun {p q} hp hq h1 h2=>by
  rw[(hR p q h1 h2).2,cZ rt (aT hp) (aT hq) hj]
 have lenR: ∀{p q:NQ},p.length≤2^j→q.length≤2^j→ay l' p→ay l' q→bL j (cf (R p q)):=fun {p q} hp hq h1 h2=>by
  rw[low hp hq h1 h2];exact bg rt j _ _
 have tk:=eV (a:=a) (a.length / 2) e3;have dr:=iW (a:=a) (a.length / 2) e3
 have cj: ∀{p q:NQ},bL j (cf q)→ ∀i,cf (dP p q (a.length / 2)) i=if i<2^j then cf p i else cf q (i-2^j):=fun {p q} hq i=>by
  show (dP p q (a.length / 2)).getD i 0=_;rw[ov,e3];by_cases h:i<2^j
  · rw[if_pos h,if_pos h];rfl
  · rw[if_neg h,if_neg h];by_cases h2:i<2^j+2^j
    · rw[if_pos h2];rfl
    · rw[if_neg h2,hq _ (by omega)]
 by_cases h3:b.length≤a.length / 2
 · rw[if_pos h3]
   have hb':ay l' b:=by
    rcases hb with e | ⟨i',_,e⟩
    · exact .inl e
    · refine .inr ⟨i',?_,e⟩;rw[e3,e] at h3;have:=(Nat.pow_le_pow_iff_right (a:=2) (by decide)).1 h3;omega
   rw[e3] at h3;have lbj:bL j (cf b):=aT h3;funext i;rw[cj (lenR (by omega) h3 hy hb'),low (by omega) h3 hx hb',low (by omega) h3 hy hb',dr,bU rt j tk jL.tH];show _=if i<2^j then mulC rt j (cf a) (cf b) i+mulC rt j (mulC rt j (bw j (cf a)) (bw j (cf b))) (cf (rt.getD j [])) i else mulC rt j (cf a) (bw j (cf b)) (i-2^j)+mulC rt j (bw j (cf a)) (cf b) (i-2^j)
   have hzz:jL j zC zC:=jL.tH;rw[lbj.vN,bW rt j (b:=zC) (.inr hzz),bW rt j (b:=zC) (.inr hzz),bW rt j (a:=zC) (.inl hzz)];by_cases h:i<2^j
   · rw[if_pos h,if_pos h];exact(Rat.add_zero _).symm
   · rw[if_neg h,if_neg h];exact(Rat.zero_add _).symm
 rw[if_neg h3]
 have hlb:b.length=2^(j+1):=by
  rcases hb with e | ⟨i',_,e⟩
  · exact absurd (by rw[List.length_eq_zero_iff.1 e];rfl) hz2
  · rw[e] at h3 hab ⊢;rw[hla] at hab;rw[e3] at h3;have h4:=(Nat.pow_le_pow_iff_right (a:=2) (by decide)).1 hab;have h5: ¬i'≤j:=fun h=>h3 ((Nat.pow_le_pow_iff_right (a:=2) (by decide)).2 h);rw[show i'=j+1 by omega]
 obtain ⟨f1,f2,f3⟩:=bA hlb;rw[show b.length / 2=a.length / 2 by rw[f3,e3]] at f1 f2;have hu:ay l' (b.take (a.length / 2)):= .inr ⟨j,hj,f1⟩;have hv:ay l' (b.drop (a.length / 2)):= .inr ⟨j,hj,f2⟩;have tkb:=eV (a:=b) (a.length / 2) e3;have drb:=iW (a:=b) (a.length / 2) e3;have hlog:a.length.log2-1=j:=by rw[hla,Nat.log2_two_pow];omega
 rw[hlog];have hdl:(rt.getD j []).length=2^j:=hrt j (by omega);have hd:ay l' (rt.getD j []):= .inr ⟨j,hj,hdl⟩;have Ryv:=hR _ _ hy hv;have lyv:bL j (cf (R (a.drop (a.length / 2)) (b.drop (a.length / 2)))):=lenR (by omega) (by omega) hy hv;have c1:=low (p:=a.take (a.length / 2)) (q:=b.take (a.length / 2)) (by omega) (by omega) hx hu;have c2:=low (p:=a.drop (a.length / 2)) (q:=b.drop (a.length / 2)) (by omega) (by omega) hy hv;have c3:=low (p:=a.take (a.length / 2)) (q:=b.drop (a.length / 2)) (by omega) (by omega) hx hv;have c4:=low (p:=a.drop (a.length / 2)) (q:=b.take (a.length / 2)) (by omega) (by omega) hy hu
 have c5:cf (R (R (a.drop (a.length / 2)) (b.drop (a.length / 2))) (rt.getD j []))=mulC rt j (cf (R (a.drop (a.length / 2)) (b.drop (a.length / 2)))) (cf (rt.getD j [])):=by
  rw[(hR _ _ Ryv.1 hd).2,cZ rt lyv (aT (by omega)) hj]
 have lq:bL j (cf (aX (R (a.take (a.length / 2)) (b.drop (a.length / 2))) (R (a.drop (a.length / 2)) (b.take (a.length / 2))))):=fun i hi=>by
  rw[dW,c3,c4,bg rt j _ _ i hi,bg rt j _ _ i hi];exact Rat.add_zero _
 funext i;rw[cj lq,dW,dW,c1,c5,c2,c3,c4,dr,drb,bU rt j tk tkb,bU rt j tk jL.tH,bU rt j jL.tH tkb];rfl
theorem fx: ∀(l:Nat) {rt:List NQ} {a b:NQ},ay l a→ay l b→cK rt→l≤rt.length→ay l (aV l rt a b)∧cf (aV l rt a b)=mulC rt l (cf a) (cf b)
 | 0,rt,a,b,ha,hb,hrt,hl=>by
   have key: ∀{a b:NQ},ay 0 a→ay 0 b→b.length≤a.length→ay 0 (jF (fun _ _=>[]) rt a b)∧cf (jF (fun _ _=>[]) rt a b)=mulC rt 0 (cf a) (cf b):=fun {a b} ha hb hab =>
    ⟨by
     unfold jF;split
     · exact cD _
     split
     · exact eZ _ _
     · rename_i h0 h1;have:a.length≤1:=ha.le;have:a=[]:=List.length_eq_zero_iff.1 (by omega);subst this
       exact absurd rfl h0,zv ha hb hab hrt hl (fun l' h=>by omega)⟩
   show ay 0 (kz (jF (fun _ _=>[]) rt) a b)∧cf (kz (jF (fun _ _=>[]) rt) a b)=_;unfold kz;split
   · have:=key hb ha (by omega);exact⟨this.1,by rw[this.2,j5]⟩
   · exact key ha hb (by omega)
 | l+1,rt,a,b,ha,hb,hrt,hl=>by
   have ih: ∀l',l+1=l'+1→ ∀a' b',ay l' a'→ay l' b'→ay l' (aV l rt a' b')∧cf (aV l rt a' b')=mulC rt l' (cf a') (cf b'):=fun l' e a' b' h1 h2=>by
    obtain rfl:l=l':=by omega
    exact fx l h1 h2 hrt (by omega)
   have lt:ay (l+1) (aV (l+1) rt a b):=by
    obtain ⟨K,hK⟩: ∃K,aB K a∧aB K b∧dm K rt:=xv a b rt;exact(dt (l+1) ha hb hrt hl hK.1 hK.2.1 hK.2.2).1
   refine⟨lt,?_⟩;show cf (kz (jF (aV l rt) rt) a b)=_;unfold kz;split
   · rw[zv hb ha (by omega) hrt hl ih,j5]
   · exact zv ha hb (by omega) hrt hl ih
end Lift
namespace Lift
theorem Gs:je 0=0:=cX.2 rfl
theorem HX: ∀{i:Nat} {a:NQ},bL i (cf a)→cf (iG i a)=cf a
 | 0,a,h=>by
   unfold iG;by_cases h0:bC (a.take 1)=true
   · rw[if_pos h0];have z:=ux h0;funext c;show (0:Rat)=a.getD c 0;cases c with
     | zero =>
       have:(a.take 1).getD 0 0=0:=congrFun z 0;rw[mj,if_pos (by decide)] at this;exact this.symm
     | succ c=>exact(h (c+1) (by show 1≤c+1;omega)).symm
   · rw[if_neg h0];funext c;show (a.take 1).getD c 0=a.getD c 0;rw[mj];split
     · rfl
     · exact(h c (by show 1≤c;omega)).symm
 | i+1,a,h=>by
   unfold iG;have e:2^(i+1)=2^i*2:=Nat.pow_succ ..;by_cases h0:bC ((a.take (2^(i+1))).drop (2^i))=true
   · rw[if_pos h0];refine HX fun c hc=>?_;by_cases hc2:c<2^(i+1)
     · have:=congrFun (ux h0) (c-2^i);have:((a.take (2^(i+1))).drop (2^i)).getD (c-2^i) 0=0:=this;rw[uu,mj,if_pos (by omega),show 2^i+(c-2^i)=c by omega] at this;exact this
     · exact h c (by omega)
   · rw[if_neg h0];funext c;show (a.take (2^(i+1))).getD c 0=a.getD c 0;rw[mj];split
     · rfl
     · exact(h c (by omega)).symm
theorem bc{l:Nat}{a:NQ}(ha:ay l a):cf (aA a)=cf a:=by
 unfold aA;split
 · rename_i h;rw[List.length_eq_zero_iff.1 h]
 rename_i h0;rcases ha with e | ⟨i,hi,e⟩
 · exact absurd e h0
 rw[e,Nat.log2_two_pow];exact HX (aT (by omega))
theorem bV{l:Nat}{a:NQ}(ha:ay l a):ay l (aA a):=by
 obtain ⟨K,hK⟩:=DF a;exact(bf ha hK).1
structure wz (a:NQ):Prop where
 one:a.length=1→a.getD 0 0≠0
 two: ∀i,a.length=2^(i+1)→ ¬bL i (cf a)
theorem xu:wz []:=⟨fun h=>absurd h (by decide),fun i h=>by
  have hp:0<2^(i+1):=Nat.pow_pos (by decide);have h:0=2^(i+1):=h
  omega⟩
theorem uD{a:NQ}(h:cf a=zC):bC a=true:=by
 unfold bC;rw[List.all_eq_true];intro x hx;obtain ⟨i,hi,rfl⟩:=List.getElem_of_mem hx;have:=congrFun h i;have:a.getD i 0=0:=this;rw[aN,bQ hi] at this;exact aO this
theorem xt: ∀{i:Nat} {a:NQ},a.length=2^i∨2^i≤a.length→wz (iG i a)
 | 0,a,h=>by
   unfold iG;by_cases h0:bC (a.take 1)=true
   · rw[if_pos h0];exact xu
   · rw[if_neg h0]
     have hl:(a.take 1).length=1:=by rw[bb];have:1≤a.length:=by rcases h with h | h;(have h:a.length=1:=h;omega);exact h
                                     omega
     refine⟨fun _ e=>h0 (uD (funext fun c=>?_)),fun i h=>?_⟩
     · show (a.take 1).getD c 0=0;cases c with
       | zero=>exact e
       | succ c=>exact gl (by omega)
     · rw[hl,Nat.pow_succ] at h;omega
 | i+1,a,h=>by
   unfold iG;have e:2^(i+1)=2^i*2:=Nat.pow_succ ..;have hp:0<2^i:=Nat.pow_pos (by decide);by_cases h0:bC ((a.take (2^(i+1))).drop (2^i))=true
   · rw[if_pos h0];exact xt (.inr (by omega))
   · rw[if_neg h0];have hl:(a.take (2^(i+1))).length=2^(i+1):=by rw[bb];omega
     refine⟨fun h1=>?_,fun k hk hlow=>h0 (uD (funext fun c=>?_))⟩
     · rw[hl] at h1;omega
     · rw[hl] at hk
       have:k=i:=by
        have h1:=(Nat.pow_le_pow_iff_right (a:=2) (by decide)).1 (Nat.le_of_eq hk);have h2:=(Nat.pow_le_pow_iff_right (a:=2) (by decide)).1 (Nat.le_of_eq hk.symm);omega
       subst this;show ((a.take (2^(k+1))).drop (2^k)).getD c 0=0;rw[uu];exact hlow _ (by omega)
theorem gH{l:Nat}{a:NQ}(ha:ay l a):wz (aA a):=by
 unfold aA;split
 · exact xu
 rename_i h0;rcases ha with e | ⟨i,hi,e⟩
 · exact absurd e h0
 rw[e,Nat.log2_two_pow];exact xt (.inl e)
theorem Jl{a b:NQ}(hl:a.length=b.length)(h:cf a=cf b):a=b:=by
 refine List.ext_getElem hl fun i h1 h2=>?_;have:a.getD i 0=b.getD i 0:=congrFun h i;rw[aN,aN,bQ h1,bQ h2] at this;exact this
theorem F4{l m:Nat}{a b:NQ}(ha:ay l a)(hb:ay m b)(ta:wz a)(tb:wz b)(h:cf a=cf b):a=b:=by
 refine Jl ?_ h
 have key: ∀{l m:Nat} {a b:NQ},ay l a→ay m b→wz b→cf a=cf b→b.length≤a.length:=fun {l m a b} ha hb tb h=>by
  by_cases hlt:b.length≤a.length
  · exact hlt
  exfalso;rcases hb with e | ⟨k,_,e⟩
  · omega
  rcases k with _ | k
  · have h1:b.length=1:=e;have h0:a.length=0:=by omega
    refine tb.one h1 ?_;have:a.getD 0 0=b.getD 0 0:=congrFun h 0;rw[← this];exact gl (by omega)
  · refine tb.two k e ?_;rw[← h];refine aT ?_;rcases ha with e1 | ⟨j,_,e1⟩
    · omega
    · rw[e1,e] at hlt;have: ¬k+1≤j:=fun h=>hlt (Nat.pow_le_pow_right (by decide) h);rw[e1];exact Nat.pow_le_pow_right (by decide) (by omega)
 exact Nat.le_antisymm (key hb ha ta h.symm) (key ha hb tb h)
theorem Gp{l m:Nat}{a b:NQ}(ha:ay l a)(hb:ay m b)(h:cf a=cf b):aA a=aA b:=by
 refine F4 (bV ha) (bV hb) (gH ha) (gH hb) ?_;rw[bc ha,bc hb,h]
def bo(rt:List NQ)(l:Nat)(a:Cf):Cf:=fun i=>mulC rt l a a i-mulC rt l (mulC rt l (bw l a) (bw l a)) (cf (rt.getD l [])) i
def aY(rt:List NQ):Nat→Cf→Int
 | 0,a=>je (a 0)
 | l+1,a=>if aY rt l (cf (rt.getD l []))=0 then aY rt l a else if aY rt l a=aY rt l (bw l a)∨aY rt l (bw l a)=0 then aY rt l a else
   if aY rt l a=0 then aY rt l (bw l a) else aY rt l a*aY rt l (bo rt l a)
theorem Bk(rt:List NQ){l:Nat}{a b:Cf}(h:jL (l+1) a b):bo rt l a=bo rt l b:=by
 unfold bo;rw[bU rt l h.down h.down,bU rt l h.hi h.hi]
theorem kg(rt:List NQ): ∀(l:Nat) {a b:Cf},jL l a b→aY rt l a=aY rt l b
 | 0,a,b,h=>by show je (a 0)=je (b 0);rw[h 0 (by decide)]
 | l+1,a,b,h=>by
   unfold aY;rw[kg rt l h.down,kg rt l h.hi,Bk rt h]
theorem dG(rt:List NQ): ∀(l:Nat),aY rt l zC=0
 | 0=>by show je 0=0;exact Gs
 | l+1=>by
   have h:=dG rt l;have h2:aY rt l (bw l zC)=0:=h;unfold aY;rw[h,h2];split
   · rfl
   · rw[if_pos (Or.inl rfl)]
theorem bI(rt:List NQ){j:Nat}{a:Cf}(ha:bL j a): ∀{l:Nat},j≤l→aY rt l a=aY rt j a:=fun {l} h=>by
 obtain ⟨d,rfl⟩: ∃d,l=j+d:=⟨l-j,by omega⟩;clear h
 induction d with
 | zero=>rfl
 | succ d ih =>
   have ha':bL (j+d) a:=ha.mono (by omega);show (if aY rt (j+d) (cf (rt.getD (j+d) []))=0 then aY rt (j+d) a else if aY rt (j+d) a=aY rt (j+d) (bw (j+d) a)∨aY rt (j+d) (bw (j+d) a)=0 then aY rt (j+d) a else if aY rt (j+d) a=0 then aY rt (j+d) (bw (j+d) a) else aY rt (j+d) a*aY rt (j+d) (bo rt (j+d) a))=_;rw[ha'.vN,dG,ih];by_cases hd:aY rt (j+d) (cf (rt.getD (j+d) []))=0
   · rw[if_pos hd]
   · rw[if_neg hd,if_pos (Or.inr rfl)]
theorem qO{l j:Nat}{rt:List NQ}{a:NQ}(hj:j≤l)(ha:a.length=2^(j+1))(hrt:cK rt)(hl:l<rt.length):ay l (fe l rt a)∧cf (fe l rt a)=bo rt j (cf a):=by
 obtain ⟨K,hK⟩: ∃K,aB K a∧aB K a∧dm K rt:=xv a a rt;refine⟨(zi hj ha hrt hl hK.1 hK.2.2).1,?_⟩;obtain ⟨e1,e2,e3⟩:=bA ha;have hx:ay l (a.take (a.length / 2)):= .inr ⟨j,hj,e1⟩;have hy:ay l (a.drop (a.length / 2)):= .inr ⟨j,hj,e2⟩;have hlog:a.length.log2-1=j:=by rw[ha,Nat.log2_two_pow];omega
 have hdl:(rt.getD j []).length=2^j:=hrt j (by omega);have hd:ay l (rt.getD j []):= .inr ⟨j,hj,hdl⟩;have r1:=fx l hx hx hrt (by omega);have r2:=fx l hy hy hrt (by omega);have r3:=fx l r2.1 hd hrt (by omega);unfold fe bo;rw[hlog];funext i;rw[dW,iu,r1.2,r3.2,r2.2,cZ rt (aT (by omega)) (aT (by omega)) hj,cZ rt (aT (a:=a.drop (a.length / 2)) (by omega)) (aT (by omega)) hj,cZ rt (bg rt j _ _) (aT (by omega)) hj,iW _ e3,bU rt j (eV _ e3) (eV _ e3)];exact Rat.sub_eq_add_neg _ _ |>.symm
theorem dL: ∀(l:Nat) {rt:List NQ} {a:NQ},ay l a→cK rt→l≤rt.length→eg l rt a=aY rt l (cf a)
 | 0,rt,a,ha,hrt,hl=>by
   have hs:=bV ha;have hc:=bc ha;show wV (fun _=>0) (fun a=>a) rt (aA a)=je (cf a 0);rw[← hc];generalize aA a=s at hs;unfold wV;rcases hs with e | ⟨i,hi,e⟩
   · rw[if_pos e,List.length_eq_zero_iff.1 e];show 0=je 0;rw[Gs]
   · obtain rfl:i=0:=by omega
     have e:s.length=1:=e;rw[if_neg (by omega),if_pos e];rfl
 | l+1,rt,a,ha,hrt,hl=>by
   have hs:=bV ha;have hc:=bc ha;show wV (eg l rt) (fe l rt) rt (aA a)=aY rt (l+1) (cf a);rw[← hc];generalize aA a=s at hs;clear hc ha;unfold wV;by_cases h0:s.length=0
   · rw[if_pos h0,List.length_eq_zero_iff.1 h0];exact(dG rt (l+1)).symm
   rw[if_neg h0];by_cases h1:s.length=1
   · rw[if_pos h1,bI rt (j:=0) (aT (by rw[h1];exact ai _)) (Nat.zero_le _)];rfl
   rw[if_neg h1]
   obtain ⟨j,hj,hsl⟩: ∃j,j≤l∧s.length=2^(j+1):=by
    rcases hs with e | ⟨i,hi,e⟩
    · exact absurd e h0
    · rcases i with _ | j
      · exact absurd e h1
      · exact⟨j,by omega,e⟩
   obtain ⟨e1,e2,e3⟩:=bA hsl;have hx:ay l (s.take (s.length / 2)):= .inr ⟨j,hj,e1⟩;have hy:ay l (s.drop (s.length / 2)):= .inr ⟨j,hj,e2⟩;have hlog:s.length.log2-1=j:=by rw[hsl,Nat.log2_two_pow];omega
   have hdl:(rt.getD j []).length=2^j:=hrt j (by omega);have hd:ay l (rt.getD j []):= .inr ⟨j,hj,hdl⟩;have hn:=qO hj hsl hrt (by omega)
   have lowN:bL j (bo rt j (cf s)):=fun i hi=>by
    unfold bo;rw[bg rt j _ _ i hi,bg rt j _ _ i hi];exact Rat.sub_self
   rw[hlog,dL l hd hrt (by omega),dL l hx hrt (by omega),dL l hy hrt (by omega),dL l hn.1 hrt (by omega),hn.2,iW _ e3,
    bI rt (aT (a:=rt.getD j []) (by omega)) hj,bI rt (aT (a:=s.take (s.length / 2)) (by omega)) hj,bI rt lowN hj,kg rt j (eV _ e3)]
   have lh:bL j (bw j (cf s)):=fun i hi=>(aT (l:=j+1) (by omega)) _ (by rw[Nat.pow_succ];omega);rw[bI rt lh hj,bI rt (a:=cf s) (j:=j+1) (l:=l+1) (aT (by omega)) (by omega)];rfl
end Lift
namespace Lift
def kK(R:NQ→NQ→NQ)(rt:List NQ)(a b:NQ):NQ :=
 if a.length=0∨b.length=0 then [] else if max a.length b.length=1 then [a.getD 0 0*b.getD 0 0] else
 dP (aX (R ((bm a (max a.length b.length)).take (max a.length b.length / 2)) ((bm b (max a.length b.length)).take (max a.length b.length / 2)))
   (R (R ((bm a (max a.length b.length)).drop (max a.length b.length / 2)) ((bm b (max a.length b.length)).drop (max a.length b.length / 2))) (rt.getD ((max a.length b.length).log2-1) [])))
  (aX (R ((bm a (max a.length b.length)).take (max a.length b.length / 2)) ((bm b (max a.length b.length)).drop (max a.length b.length / 2)))
   (R ((bm a (max a.length b.length)).drop (max a.length b.length / 2)) ((bm b (max a.length b.length)).take (max a.length b.length / 2)))) (max a.length b.length / 2)
def gj:Nat→List NQ→NQ→NQ→NQ
 | 0,rt,a,b=>kK (fun _ _=>[]) rt (aA a) (aA b)
 | l+1,rt,a,b=>kK (gj l rt) rt (aA a) (aA b)
theorem EA{l:Nat}{a:NQ}(n:Nat)(ha:a.length≤n):cf (bm a n)=cf a:=funext fun i=>by
 show (bm a n).getD i 0=a.getD i 0;rw[gE];split
 · rfl
 · exact(gl (by omega)).symm
theorem AN{l:Nat}{R:NQ→NQ→NQ}{rt:List NQ}{a b:NQ}(ha:ay l a)(hb:ay l b)(hrt:cK rt)(hl:l≤rt.length)
  (hR: ∀l',l=l'+1→ ∀a' b',ay l' a'→ay l' b'→ay l' (R a' b')∧cf (R a' b')=mulC rt l' (cf a') (cf b')):ay l (kK R rt a b)∧cf (kK R rt a b)=mulC rt l (cf a) (cf b):=by
 have cz: ∀{x:NQ},x.length=0→cf x=zC:=fun {x} h=>by rw[List.length_eq_zero_iff.1 h];rfl
 unfold kK;by_cases h0:a.length=0∨b.length=0
 · rw[if_pos h0];refine⟨cD _,?_⟩;rw[bW rt l (h0.imp (fun h=>by rw[cz h];exact jL.tH) (fun h=>by rw[cz h];exact jL.tH))];rfl
 rw[if_neg h0];by_cases h1:max a.length b.length=1
 · rw[if_pos h1];refine⟨eZ _ _,?_⟩;rw[cZ rt (j:=0) (aT (show a.length≤1 by omega)) (aT (show b.length≤1 by omega)) (Nat.zero_le _)];funext i;show [a.getD 0 0*b.getD 0 0].getD i 0=if i=0 then a.getD 0 0*b.getD 0 0 else 0
   cases i with
   | zero=>rfl
   | succ i=>rw[if_neg (by omega)];rfl
 rw[if_neg h1]
 obtain ⟨i,hi,hn⟩: ∃i,i≤l∧max a.length b.length=2^i:=by
  rcases ha with e | ⟨i,hi,e⟩
  · exact absurd (.inl e) h0
  rcases hb with e2 | ⟨k,hk,e2⟩
  · exact absurd (.inr e2) h0
  by_cases h:a.length≤b.length
  · exact⟨k,hk,by rw[Nat.max_eq_right h,e2]⟩
  · exact⟨i,hi,by rw[Nat.max_eq_left (by omega),e]⟩
 have vN:i≠0:=fun e=>h1 (by rw[hn,e]);obtain ⟨j,rfl⟩: ∃j,i=j+1:=⟨i-1,by omega⟩;obtain ⟨l',rfl⟩: ∃l',l=l'+1:=⟨l-1,by omega⟩;have hj:j≤l':=by omega
 have hR:=fun a' b' h1 h2=>hR l' rfl a' b' h1 h2;have ca:=EA (l:=l') (max a.length b.length) (Nat.le_max_left a.length b.length);have cb:=EA (l:=l') (max a.length b.length) (Nat.le_max_right a.length b.length);have wa:=bH a (max a.length b.length);have wb:=bH b (max a.length b.length);rw[← ca,← cb];generalize bm a (max a.length b.length)=A at *;generalize bm b (max a.length b.length)=B at *;generalize max a.length b.length=n at *;subst hn;have e0:=lE j;have hlog:(2^(j+1)).log2-1=j:=by rw[Nat.log2_two_pow];omega
 rw[e0,hlog];obtain ⟨e1,e2,e3⟩:=bA wa;obtain ⟨f1,f2,f3⟩:=bA wb;rw[e3] at e1 e2;rw[f3] at f1 f2;have hx:ay l' (A.take (2^j)):= .inr ⟨j,hj,e1⟩;have hy:ay l' (A.drop (2^j)):= .inr ⟨j,hj,e2⟩;have hu:ay l' (B.take (2^j)):= .inr ⟨j,hj,f1⟩;have hv:ay l' (B.drop (2^j)):= .inr ⟨j,hj,f2⟩;have hdl:(rt.getD j []).length=2^j:=hrt j (by omega);have hd:ay l' (rt.getD j []):= .inr ⟨j,hj,hdl⟩
 have low: ∀{p q:NQ},p.length≤2^j→q.length≤2^j→ay l' p→ay l' q→cf (R p q)=mulC rt j (cf p) (cf q):=fun {p q} hp hq h1 h2=>by
  rw[(hR p q h1 h2).2,cZ rt (aT hp) (aT hq) hj]
 have Ryv:=hR _ _ hy hv;have c2:=low (p:=A.drop (2^j)) (q:=B.drop (2^j)) (by omega) (by omega) hy hv;have lyv:bL j (cf (R (A.drop (2^j)) (B.drop (2^j)))):=by rw[c2];exact bg rt j _ _
 have c1:=low (p:=A.take (2^j)) (q:=B.take (2^j)) (by omega) (by omega) hx hu;have c3:=low (p:=A.take (2^j)) (q:=B.drop (2^j)) (by omega) (by omega) hx hv;have c4:=low (p:=A.drop (2^j)) (q:=B.take (2^j)) (by omega) (by omega) hy hu
 have c5:cf (R (R (A.drop (2^j)) (B.drop (2^j))) (rt.getD j []))=mulC rt j (cf (R (A.drop (2^j)) (B.drop (2^j)))) (cf (rt.getD j [])):=by
  rw[(hR _ _ Ryv.1 hd).2,cZ rt lyv (aT (by omega)) hj]
 refine⟨.inr ⟨j+1,by omega,by rw[dH,Nat.pow_succ];omega⟩,?_⟩;rw[cZ rt (j:=j+1) (aT (by omega)) (aT (by omega)) (by omega)]
 have lq:bL j (cf (aX (R (A.take (2^j)) (B.drop (2^j))) (R (A.drop (2^j)) (B.take (2^j))))):=fun i hi=>by
  rw[dW,c3,c4,bg rt j _ _ i hi,bg rt j _ _ i hi];exact Rat.add_zero _
 have cj: ∀{p q:NQ},bL j (cf q)→ ∀i,cf (dP p q (2^j)) i=if i<2^j then cf p i else cf q (i-2^j):=fun {p q} hq i=>by
  show (dP p q (2^j)).getD i 0=_;rw[ov];by_cases h:i<2^j
  · rw[if_pos h,if_pos h];rfl
  · rw[if_neg h,if_neg h];by_cases h2:i<2^j+2^j
    · rw[if_pos h2];rfl
    · rw[if_neg h2,hq _ (by omega)]
 funext i;rw[cj lq,dW,dW,c1,c5,c2,c3,c4,iW (a:=A) (2^j) rfl,iW (a:=B) (2^j) rfl,bU rt j (eV (a:=A) (2^j) rfl) (eV (a:=B) (2^j) rfl),bU rt j (eV (a:=A) (2^j) rfl) jL.tH,bU rt j jL.tH (eV (a:=B) (2^j) rfl)];rfl
theorem om: ∀(l:Nat) {rt:List NQ} {a b:NQ},ay l a→ay l b→cK rt→l≤rt.length→ay l (gj l rt a b)∧cf (gj l rt a b)=mulC rt l (cf a) (cf b)
 | 0,rt,a,b,ha,hb,hrt,hl=>by
   have:=AN (R:=fun _ _=>[]) (bV ha) (bV hb) hrt hl (fun l' h=>by omega);rw[bc ha,bc hb] at this;exact this
 | l+1,rt,a,b,ha,hb,hrt,hl=>by
   have:=AN (R:=gj l rt) (bV ha) (bV hb) hrt hl (fun l' e a' b' h1 h2=>by
    obtain rfl:l=l':=by omega
    exact om l h1 h2 hrt (by omega))
   rw[bc ha,bc hb] at this;exact this
def kX(l:Nat)(rt:List NQ)(a:NQ):NQ :=
 aX (gj l rt (a.take (a.length / 2)) (a.take (a.length / 2))) (aZ (gj l rt (gj l rt (a.drop (a.length / 2)) (a.drop (a.length / 2))) (rt.getD (a.length.log2-1) [])))
def oV(R:NQ→Int)(N:NQ→NQ)(rt:List NQ)(a:NQ):Int :=
 if a.length=0 then 0 else if a.length=1 then je (a.getD 0 0) else
 if R (a.take (a.length / 2))=R (a.drop (a.length / 2))*R (rt.getD (a.length.log2-1) [])∨R (a.drop (a.length / 2))*R (rt.getD (a.length.log2-1) [])=0 then R (a.take (a.length / 2)) else
 if R (a.take (a.length / 2))=0 then R (a.drop (a.length / 2))*R (rt.getD (a.length.log2-1) []) else R (a.take (a.length / 2))*R (N a)
def rL:Nat→List NQ→NQ→Int
 | 0,rt,a=>oV (fun _=>0) (fun a=>a) rt (aA a)
 | l+1,rt,a=>oV (rL l rt) (kX l rt) rt (aA a)
def pd(rt:List NQ):Prop:= ∀j,j<rt.length→0≤aY rt j (cf (rt.getD j []))
theorem GD{l j:Nat}{rt:List NQ}{a:NQ}(hj:j≤l)(ha:a.length=2^(j+1))(hrt:cK rt)(hl:l<rt.length):ay l (kX l rt a)∧cf (kX l rt a)=bo rt j (cf a):=by
 obtain ⟨e1,e2,e3⟩:=bA ha;have hx:ay l (a.take (a.length / 2)):= .inr ⟨j,hj,e1⟩;have hy:ay l (a.drop (a.length / 2)):= .inr ⟨j,hj,e2⟩;have hlog:a.length.log2-1=j:=by rw[ha,Nat.log2_two_pow];omega
 have hdl:(rt.getD j []).length=2^j:=hrt j (by omega);have hd:ay l (rt.getD j []):= .inr ⟨j,hj,hdl⟩;have r1:=om l hx hx hrt (by omega);have r2:=om l hy hy hrt (by omega);have r3:=om l r2.1 hd hrt (by omega);unfold kX;rw[hlog];refine⟨r1.1.plus r3.1.minus,?_⟩;unfold bo;funext i;rw[dW,iu,r1.2,r3.2,r2.2,cZ rt (aT (by omega)) (aT (by omega)) hj,cZ rt (aT (a:=a.drop (a.length / 2)) (by omega)) (aT (by omega)) hj,cZ rt (bg rt j _ _) (aT (by omega)) hj,iW _ e3,bU rt j (eV _ e3) (eV _ e3)];exact Rat.sub_eq_add_neg _ _ |>.symm
theorem lz(rt:List NQ): ∀(l:Nat) (a:Cf),xq (aY rt l a)
 | 0,a=>gI _
 | l+1,a=>by
   unfold aY;split
   · exact lz rt l _
   split
   · exact lz rt l _
   split
   · exact lz rt l _
   · exact lY (lz rt l _) (lz rt l _)
theorem m9: ∀(l:Nat) {rt:List NQ} {a:NQ},ay l a→cK rt→pd rt→l≤rt.length→rL l rt a=aY rt l (cf a)
 | 0,rt,a,ha,hrt,hp,hl=>by
   have hs:=bV ha;have hc:=bc ha;show oV (fun _=>0) (fun a=>a) rt (aA a)=je (cf a 0);rw[← hc];generalize aA a=s at hs;unfold oV;rcases hs with e | ⟨i,hi,e⟩
   · rw[if_pos e,List.length_eq_zero_iff.1 e];show 0=je 0;rw[Gs]
   · obtain rfl:i=0:=by omega
     have e:s.length=1:=e;rw[if_neg (by omega),if_pos e];rfl
 | l+1,rt,a,ha,hrt,hp,hl=>by
   have hs:=bV ha;have hc:=bc ha;show oV (rL l rt) (kX l rt) rt (aA a)=aY rt (l+1) (cf a);rw[← hc];generalize aA a=s at hs;clear hc ha;unfold oV;by_cases h0:s.length=0
   · rw[if_pos h0,List.length_eq_zero_iff.1 h0];exact(dG rt (l+1)).symm
   rw[if_neg h0];by_cases h1:s.length=1
   · rw[if_pos h1,bI rt (j:=0) (aT (by rw[h1];exact ai _)) (Nat.zero_le _)];rfl
   rw[if_neg h1]
   obtain ⟨j,hj,hsl⟩: ∃j,j≤l∧s.length=2^(j+1):=by
    rcases hs with e | ⟨i,hi,e⟩
    · exact absurd e h0
    · rcases i with _ | j
      · exact absurd e h1
      · exact⟨j,by omega,e⟩
   obtain ⟨e1,e2,e3⟩:=bA hsl;have hx:ay l (s.take (s.length / 2)):= .inr ⟨j,hj,e1⟩;have hy:ay l (s.drop (s.length / 2)):= .inr ⟨j,hj,e2⟩;have hlog:s.length.log2-1=j:=by rw[hsl,Nat.log2_two_pow];omega
   have hdl:(rt.getD j []).length=2^j:=hrt j (by omega);have hd:ay l (rt.getD j []):= .inr ⟨j,hj,hdl⟩;have hn:=GD hj hsl hrt (by omega)
   have lowN:bL j (bo rt j (cf s)):=fun i hi=>by
    unfold bo;rw[bg rt j _ _ i hi,bg rt j _ _ i hi];exact Rat.sub_self
   have lh:bL j (bw j (cf s)):=fun i hi=>(aT (l:=j+1) (by omega)) _ (by rw[Nat.pow_succ];omega);have hpj:=hp j (by omega)
   rw[hlog,m9 l hd hrt hp (by omega),m9 l hx hrt hp (by omega),m9 l hy hrt hp (by omega),m9 l hn.1 hrt hp (by omega),hn.2,iW _ e3,
    bI rt (aT (a:=rt.getD j []) (by omega)) hj,bI rt (aT (a:=s.take (s.length / 2)) (by omega)) hj,bI rt lowN hj,kg rt j (eV _ e3),bI rt lh hj,bI rt (a:=cf s) (j:=j+1) (l:=l+1) (aT (by omega)) (by omega)]
   show _=if aY rt j (cf (rt.getD j []))=0 then aY rt j (cf s) else if aY rt j (cf s)=aY rt j (bw j (cf s))∨aY rt j (bw j (cf s))=0 then aY rt j (cf s) else
    if aY rt j (cf s)=0 then aY rt j (bw j (cf s)) else aY rt j (cf s)*aY rt j (bo rt j (cf s))
   have ht:=lz rt j (cf (rt.getD j []));generalize aY rt j (cf (rt.getD j []))=D at hpj ht;unfold xq at ht;rcases ht with rfl | rfl | rfl
   · rw[if_pos rfl,Int.mul_zero,if_pos (.inr rfl)]
   · rw[Int.mul_one,if_neg (show ¬(1:Int)=0 by decide)]
   · omega
end Lift
namespace Lift
open Go Go.Proofs
structure iX (m:Nat) (v:List NQ):Prop where
 l5:v.length≤5
 ro:cK v
 sz:dm m v
 ps: ∀k,k<v.length→ ¬eg k (v.take k) (v.getD k [])<0
 m2:m≤1000000
 t: ∃m0,1≤m0∧m0≤m∧dm m0 v∧pG v.length m0
theorem iX.m1{m:Nat}{v:List NQ}(V:iX m v):1≤m:=by
 obtain ⟨m0,h1,h2,_⟩:=V.t;omega
theorem iX.mono{m k:Nat}{v:List NQ}(V:iX m v)(h:m≤k)(hk:k≤1000000):iX k v:=by
 obtain ⟨m0,h1,h2,h3,h4⟩:=V.t;exact⟨V.l5,V.ro,V.sz.mono h,V.ps,hk,m0,h1,by omega,h3,h4⟩
theorem iX.of{m:Nat}{rt:List (List RD)}(T:pX m rt)(h:dE rt=0):iX m (rt.map au):=by
 have W:=qb T h;exact⟨by rw[W.ln];exact W.l5,W.ro,W.sz,W.ps,T.m2,by rw[W.ln];exact W.t⟩
def iI(a:NQ):List RD:=a.map Qr
theorem jf(a:NQ):au (iI a)=a:=by
 unfold au iI;rw[List.map_map];have:(RD.val ∘ Qr)=id:=funext dc;rw[this,List.map_id]
theorem l4(a:NQ):bE (iI a)=aq a:=by
 show D.sl 3 ((a.map Qr).map RD.D)=D.sl 3 (List.map _ a);rw[List.map_map];rfl
theorem lC(a:NQ):(iI a).length=a.length:=ah ..
theorem yS{a:NQ}{k:Nat}(h:aB k a):wN k (iI a):=fun i hi=>by
 rw[lC] at hi;unfold iI;rw[aN,List.getElem?_map,bQ hi];have:=h i;rw[aN,bQ hi] at this;exact iy _ this
theorem nh{a:NQ}{l:Nat}(h:ay l a):bY l (iI a)=0:=by
 unfold bY;rw[lC]
 have h1: ¬(a.length≠0∧CO l a.length=false):=fun hs=>by
  rcases h with e | ⟨i,hi,e⟩
  · exact hs.1 e
  · rw[e,zG,aO hi] at hs;exact Bool.noConfusion hs.2
 have h2:kQ (iI a)=true:=by
  unfold kQ iI;rw[List.all_map,List.all_eq_true];exact fun q _=>BY q
 rw[if_neg h1,if_neg (by rw[h2];simp)]
def oL(v:List NQ):List (List RD):=v.map iI
theorem fy(v:List NQ):(oL v).length=v.length:=ah ..
theorem qo(v:List NQ)(i:Nat):(oL v).getD i []=iI (v.getD i []):=by
 unfold oL;rw[aN,List.getElem?_map,aN];cases v[i]? with
 | none=>rfl
 | some x=>rfl
theorem AR(v:List NQ):(oL v).map au=v:=by
 unfold oL;rw[List.map_map];have:(au ∘ iI)=id:=funext jf;rw[this,List.map_id]
theorem rP(v:List NQ):wv (oL v)=gY v:=by
 show D.ag [.sl 1 ((v.map iI).map bE)]=D.ag [.sl 1 (v.map aq)];rw[List.map_map];have:(bE ∘ iI)=aq:=funext l4;rw[this]
theorem nO{f:Nat→Nat}: ∀{n i:Nat},(∀j,j<i+n→f j=0)→fE f n i=0
 | 0,i,h=>rfl
 | n+1,i,h=>by
   rw[fE,if_pos (h i (by omega))];exact nO (fun j hj=>h j (by omega))
theorem iX.raw{m:Nat}{v:List NQ}(V:iX m v):pX m (oL v)∧dE (oL v)=0:=by
 have l5:=V.l5;have hp: ∀i,i<v.length→2^i≤2^5:=fun i hi=>Nat.pow_le_pow_right (by decide) (by omega);obtain ⟨m0,t1,t2,ts,tk⟩:=V.t
 refine⟨⟨⟨m0,t1,t2,fun i hi _=>by rw[qo];exact yS (ts i),fun _=>by rw[fy];exact tk⟩,V.m2,by rw[fy];omega,fun i hi=>by
  rw[fy] at hi;rw[qo,lC,V.ro i hi];have:=hp i hi
  omega⟩,?_⟩
 unfold dE;rw[fy,if_neg (by omega)];refine nO fun j hj=>?_;have hj:j<v.length:=by omega
 unfold wI;rw[qo,lC,if_neg (fun h=>h (V.ro j hj)),if_neg (fun h=>h (nh (.inr ⟨j,ai _,V.ro j hj⟩))),jf,List.map_take,AR,if_neg (V.ps j hj)]
theorem l6{m:Nat}{v:List NQ}{a:NQ}(V:iX m v)(ha:ay v.length a)(sa:aB m a):kD m (oL v) (iI a):=⟨fun _=>yS sa,by
 have l5:=V.l5;rw[lC]
 exact Nat.le_trans (ha.len (by omega)) (by decide)⟩
theorem ck1{m:Nat}{v:List NQ}{a:NQ}(V:iX m v)(ha:ay v.length a):ky (oL v) [iI a]=0:=by
 unfold ky;rw[if_neg (by rw[V.raw.2];simp)];refine nO fun j hj=>?_;have hj:j<0+1:=hj;obtain rfl:j=0:=by omega
 rw[fy];exact nh ha
theorem NG{m:Nat}{v:List NQ}{a b:NQ}(V:iX m v)(ha:ay v.length a)(hb:ay v.length b):ky (oL v) [iI a,iI b]=0:=by
 unfold ky;rw[if_neg (by rw[V.raw.2];simp)];refine nO fun j hj=>?_;have hj:j<0+2:=hj;rw[fy]
 match j,hj with
 | 0,_=>exact nh ha
 | 1,_=>exact nh hb
def kr(a:NQ):NQ:=aA (aZ a)
def wu(a b:NQ):NQ:=aA (aX a b)
def gm(a b:NQ):NQ:=aA (aX a (aZ b))
def fQ(v:List NQ)(a b:NQ):NQ:=aA (aV v.length v a b)
theorem wO{m:Nat}{v:List NQ}{a b:NQ}(V:iX m v)(ha:ay v.length a)(sa:aB m a)(hb:ay v.length b)(sb:aB m b):Pure Tryz.prog 21 [gY v,aq a,aq b] (.tu [aq (wu a b),aR]):=by
 have h:=yD V.raw.1 (l6 V ha sa) (l6 V hb sb);unfold y8 at h;rw[if_neg (by rw[NG V ha hb];simp),rP,l4,l4,jf,jf] at h;exact h
theorem wK{m:Nat}{v:List NQ}{a b:NQ}(V:iX m v)(ha:ay v.length a)(sa:aB m a)(hb:ay v.length b)(sb:aB m b):Pure Tryz.prog 105 [gY v,aq a,aq b] (.tu [aq (gm a b),aR]):=by
 have h:=yA V.raw.1 (l6 V ha sa) (l6 V hb sb);unfold y8 at h;rw[if_neg (by rw[NG V ha hb];simp),rP,l4,l4,jf,jf] at h;exact h
theorem wL{m:Nat}{v:List NQ}{a b:NQ}(hsT:sT v.length m≤17300000000000)(V:iX m v)(ha:ay v.length a)(sa:aB m a)(hb:ay v.length b)(sb:aB m b):Pure Tryz.prog 106 [gY v,aq a,aq b] (.tu [aq (fQ v a b),aR]):=by
 have h:=yC (by rw[fy];exact hsT) V.raw.1 (l6 V ha sa) (l6 V hb sb);unfold y8 at h;rw[if_neg (by rw[NG V ha hb];simp),rP,l4,l4,jf,jf,fy,AR] at h;exact h
theorem Je{l k:Nat}{a:NQ}(ha:ay l a)(sa:aB k a):ay l (kr a)∧aB k (kr a):=bf ha.minus sa.minus
theorem uA{l k j:Nat}{a b:NQ}(ha:ay l a)(sa:aB k a)(hb:ay l b)(sb:aB j b):ay l (wu a b)∧aB (k+j+1) (wu a b):=bf (ha.plus hb) (sa.plus sb)
theorem kI{l k j:Nat}{a b:NQ}(ha:ay l a)(sa:aB k a)(hb:ay l b)(sb:aB j b):ay l (gm a b)∧aB (k+j+1) (gm a b):=bf (ha.plus hb.minus) (sa.plus sb.minus)
theorem gk{m:Nat}{v:List NQ}{a b:NQ}(V:iX m v)(ha:ay v.length a)(sa:aB m a)(hb:ay v.length b)(sb:aB m b):ay v.length (fQ v a b)∧aB (sT v.length m) (fQ v a b):=by
 have h:=dt v.length ha hb V.ro (ai _) sa sb V.sz;exact bf h.1 h.2
theorem kZ(l:Nat){q:Rat}{k:Nat}(h:LQ q≤k):ay l (rU q)∧aB k (rU q):=by
 unfold rU;split
 · exact⟨cD _,cH (Nat.le_trans (Ae _) h)⟩
 · exact⟨eZ _ _,fZ h⟩
theorem iX.pos{m:Nat}{v:List NQ}(V:iX m v):pd v:=fun j hj=>by
 have h:=V.ps j hj
 have e: ∀i,i<j→(v.take j).getD i []=v.getD i []:=fun i hi=>by
  rw[aN,List.getElem?_take_of_lt hi,aN]
 have ro:cK (v.take j):=fun i hi=>by
  rw[bb] at hi;rw[e i (by omega)];exact V.ro i (by omega)
 have lt:ay j (v.getD j []):= .inr ⟨j,ai _,V.ro j hj⟩;rw[dL j lt ro (by rw[bb];omega)] at h
 have key: ∀(l:Nat) (a:Cf),l≤j→aY (v.take j) l a=aY v l a∧ ∀b:Cf,mulC (v.take j) l a b=mulC v l a b:=by
  intro l
  induction l with
  | zero=>exact fun a _=>⟨rfl,fun b=>rfl⟩
  | succ l ih =>
    intro a hl;have hm: ∀x y:Cf,mulC (v.take j) l x y=mulC v l x y:=fun x y=>(ih x (by omega)).2 y;have hs: ∀x:Cf,aY (v.take j) l x=aY v l x:=fun x=>(ih x (by omega)).1;refine⟨?_,fun b=>?_⟩
    · unfold aY bo;simp only[hm,hs,e l (by omega)]
    · funext i;show (if i<2^l then mulC (v.take j) l a b i+mulC (v.take j) l (mulC (v.take j) l (bw l a) (bw l b)) (cf ((v.take j).getD l [])) i else mulC (v.take j) l a (bw l b) (i-2^l)+mulC (v.take j) l (bw l a) b (i-2^l))=_;simp only[hm,e l (by omega)];rfl
 rw[(key j _ (ai _)).1] at h;omega
end Lift
namespace Lift
open Go
open Go.RowKit (Below)
section
variable {P:Program} {T:Ty} {B:Nat} {F0:Nat→Prop} {w0:cW} {n d:Nat} {o:Oper} {σ:St} {K:St→Prop} {all:Array Oper} {rest:List Oper} {lk hm:Nat→Option AV}
end
end Lift
namespace Lift
open Go
open Go.RowKit (Below)
section
variable {P:Program} {T:Ty} {B:Nat} {F0:Nat→Prop} {w0:cW} {n:Nat} {σ τ σ0:St} {ops all:Array Oper} {l rest:List Oper} {o:Oper} {d:Nat} {lk hm:Nat→Option AV} {K:St→Prop} {ds:List Nat}
end
end Lift
namespace Lift
open Go
open Go.RowKit (Below)
section
variable {P:Program} {T:Ty} {B:Nat} {F0:Nat→Prop} {w0:cW} {n:Nat} {σ:St} {all:Array Oper} {rest:List Oper} {o1 o2:Oper} {K:St→Prop}
theorem AG{w:World}{b:Nat}{cs:Array Value}{e:TypeId}(hb:w.heap[b]?=some (.cells cs e (0,0))):w.setRow b cs=w:=by
 have h1:=setRow_heap w b cs cs e (0,0) hb
 have hh:(w.setRow b cs).heap=w.heap:=by
  refine Array.ext_getElem? fun i=>?_;by_cases hi:i=b
  · subst hi;rw[h1,hb]
  · exact setRow_other w b i cs hi
 have:w.setRow b cs={w with heap:=(w.setRow b cs).heap}:=rfl;rw[this,hh]
theorem ae.KI(hT:bB P T){d1 d2 off size f s t:Nat}{x:Operand}{cs:List D}{c:Value}{i j:TI}{g:Bool}
  (h1d:o1.dst=some d1) (h1:o1.op= .fieldAddr s x f) (h1g:o1.guard=none) (hdn:Nat.ble (d1+1) n=true)
  (h2d:o2.dst=none) (h2:o2.op= .store t (.tmp d1) (.tmp d2)) (h2g:o2.guard=none) (hne:Nat.beq d2 d1=false)
  (hi:T.get s=some i) (hf:sE i f=some (off,size,g)) (hj:T.get t=some j) (hj1:j.size=1)
  (hx:ex T σ.get 0 x=some (.d (.pr cs))) (hc:cs[off]?=some (.v c)) (hyv:dy T (ex T σ.get t (.tmp d2))=some (.v c))
  (h:ae P B F0 w0 n all rest K ((d1,.rf (cs.drop off))::σ)):ae P B F0 w0 n all (o1::o2::rest) K σ:=by
 intro a w hR Q hQ;obtain ⟨O,hOr,hO⟩:=hR.own;have hI:=hR.inv hOr hO (fun _=>True) d1;have hr:Rd w (aP O (FW B F0 w)) (.pr cs) (a.eval x):=(a6 hI (fun _ _=>trivial) hx d1).1;obtain ⟨b,arr,e,hv,hF,hb,hel⟩:=Rd.KW hr;obtain ⟨_,u,hu,hru⟩:=hel off (.v c) hc;obtain rfl:=(Rd.j9 hru).1;have hyd:=dV hT hI (fun _ _=>trivial) hyv;have hye:=(Rd.j9 hyd).1;obtain ⟨info,dd,z,hok⟩:=hT s i hi;obtain ⟨info',dd',z',hok'⟩:=hT t j hj;obtain ⟨fs,fl,jj,dd2,g1,g2,g3,g4,g5,g6,g7,g8⟩:=mr hok hf;have hdn:=Nat.le_of_ble_eq_true hdn;have hne:d2≠d1:=fun e=>by subst e;rw[Nat.beq_refl] at hne;cases hne
 unfold wpList;rw[if_pos (by simp[Region.wanted,h1g])];refine .inl ?_;refine bd (v:= .pointer (some ⟨b,off,none⟩)) (w':=w) ?_ ?_
 · obtain ⟨dst,op,ty,pos,after,guard⟩:=o1;simp only[] at h1;subst h1;have hs:jj.size≠0:=by omega
   simp[execOp,Instr.fieldAt,run_underlying g1,g2,hv,Instr.sureAddr,fieldPlace,Go.sizeOf,typeInfo,g4,hs,g3,Addr.add_lit]
 · have hR':Rel P B F0 w0 n ((d1,.rf (cs.drop off))::σ) (a.put (some d1) (.pointer (some ⟨b,off,none⟩))) w :=
    hR.put (av:= .rf (cs.drop off)) hOr hO hdn (dp.refl (fun b t hb=>(hOr b t hb).2)) ⟨b,off,arr,e,(0,0),rfl,hF,hb,fun k y hy=>by
      rw[List.getElem?_drop] at hy
      exact hel _ y hy⟩
   rw[h1d];unfold wpList;rw[if_pos (by simp[Region.wanted,h2g])];refine .inl ?_
   have e1:(a.put (some d1) (.pointer (some ⟨b,off,none⟩))).eval (.tmp d1)= .pointer (some ⟨b,off,none⟩):=by
    exact gh (eO (a:=a) (d:=d1) (v:= .pointer (some ⟨b,off,none⟩)) (by rw[hR.size];exact hdn))
   have e2:(a.put (some d1) (.pointer (some ⟨b,off,none⟩))).eval (.tmp d2)=u:=by
    have h3:=dD (a:=a) (d:=d1) (v:= .pointer (some ⟨b,off,none⟩)) hne;have h4:a.eval (.tmp d2)=(a.tmps[d2]?).getD undef:=by simp[Act.eval]
    have h5:(a.put (some d1) (.pointer (some ⟨b,off,none⟩))).eval (.tmp d2)=(((a.put (some d1) (.pointer (some ⟨b,off,none⟩))).tmps)[d2]?).getD undef:=by simp[Act.eval]
    rw[h5,h3,← h4];exact hye
   have hcl:u.cells= #[u]:=by
    have:=(Rd.j9 hru).2;cases u<;>simp_all [Value.cells,eD]
   have hrun:=l0 hok' hb (v:=u) (off:=off) (by rw[hcl,hj1];rfl) (by rw[hcl];have:=(Array.getElem?_eq_some_iff.1 hu).1;show off+1≤_;omega) (fun y hy=>by
    rw[hcl] at hy;have hy:y=u:=by simpa using hy
    rw[hy];have:=(Rd.j9 hru).2
    cases u<;>simp_all [eD,Value.oneCell'])
   have hsame:(arr.toList.take off++u.cells.toList++arr.toList.drop (off+u.cells.size)).toArray=arr:=by
    rw[hcl];have hlt:=(Array.getElem?_eq_some_iff.1 hu).1;apply Array.ext';have hu2:arr.toList[off]?=some u:=by simpa using hu
    have:arr.toList=arr.toList.take off++(u::arr.toList.drop (off+1)):=by
     conv=>lhs;rw[← List.take_append_drop off arr.toList]
     congr 1
     rw[List.drop_eq_getElem_cons (by simpa using hlt)]
     congr 1
     exact(List.getElem?_eq_some_iff.1 hu2).2
    show arr.toList.take off++[u]++arr.toList.drop (off+1)=arr.toList;rw[List.append_assoc];exact this.symm
   rw[hsame,AG hb] at hrun;refine uH (w':=w) ?_ ?_
   · obtain ⟨dst,op,ty,pos,after,guard⟩:=o2;simp only[] at h2;subst h2;simp only[execOp,Instr.storeAt,Instr.sureAddr,Sem.run_bind,e1,e2,Sem.run_pure,Result.andThen_ok,hrun]
   · rw[h2d,vm];exact h _ _ hR' Q hQ
end
end Lift
namespace Lift
open Go Go.Proofs
theorem gO(i:Int)(n:Nat):Pure Tryz.prog 100 [dI i,dI n] (dB (jm i n)):=by
 refine qJ 12 Tryz.func100 rfl rfl rfl rfl (by kernel_rfl) (fun B F0 w0=>?_);refine qX 1 rfl (qK 2 rfl ?_);refine ae.split (t:=6) rfl (fun h=>?_) (fun h=>?_)
 · have h1:=ak h;refine qU 6 rfl (ae.nil ?_);rw[show jm i n=decide (i<n) by unfold jm;rw[decide_eq_decide];omega];exact AW.ret rfl
 · have h1:=ar h;refine qU 6 rfl (ae.nil ?_);rw[show jm i n=false by unfold jm;rw[decide_eq_false_iff_not];omega];exact AW.ret rfl
set_option maxHeartbeats 1600000 in
theorem tK(bs:List Body){K:Nat}(hn:bs.length≤big)(hb: ∀i,(bs.getD i default).ok K)(hK:K≤50000000):Pure Tryz.prog 52 [aK bs] (uv (bP bs)):=by
 refine qJ 85 Tryz.func52 rfl rfl rfl rfl (by kernel_rfl) (fun B F0 w0=>?_);unfold big at hn;refine qX 1 rfl (qI (qX 3 rfl ?_));rw[ah];refine ae.nil (AW.block ?_)
 refine AW.aJ [0,11,12,13] (fun i:Nat=>[(0,.d (aK bs)),(11,.d (aK bs)),(12,.d (dI bs.length)),(13,.d (dI i))])
  (fun i=>i≤bs.length∧bP bs=fE (fU bs) (bs.length-i) i) (fun i=>bs.length-i) 0 rfl ⟨Nat.zero_le _,rfl⟩ (fun i ⟨hi,hE⟩=>?_)
 refine qX 1 rfl (qI (AW.cond rfl (fun h=>?_) (fun h=>?_)))
 · have hin:i<bs.length:=by have:=ak h;omega
   obtain ⟨bok1,bok2,bok3⟩:=hb i;have hbE:fU bs i≠0→bP bs=fU bs i:=fun h0=>hE.trans (eT hin h0);have hbM:fU bs i=0→bP bs=fE (fU bs) (bs.length-(i+1)) (i+1):=fun h0=>hE.trans (db hin h0);obtain ⟨b,hbe⟩: ∃b,b=bs.getD i default:=⟨_,rfl⟩;rw[← hbe] at bok1 bok2 bok3;unfold big at bok1 bok2;have hdup:Dd bs i=fo (fun k=>decide ((bs.getD k default).nm=b.nm)) i 0:=by rw[hbe];rfl
   have hbd:fU bs i=if dw b.nm=false then 5 else if Dd bs i=true then 6 else rQ b.pts:=by rw[hbe];rfl
   refine AW.skip (AW.seq (AW.block (qX 1 rfl ?_)));refine ae.idx tok b.D rfl rfl rfl rfl (aj i) (by rw[hbe];exact getM Body.D hin) ?_;refine qU 4 rfl (qI (qX 2 rfl (ae.call tok rfl rfl rfl rfl (fY b.nm bok1) ?_)));refine qU 1 rfl (ae.nil (AW.cond rfl (fun h=>?_) (fun h=>?_)))
   · have hnm:dw b.nm=false:=by simpa using h
     have h5:fU bs i=5:=by rw[hbd,hnm];rfl
     rw[show bP bs=5 by rw[hbE (by omega),h5]];exact qX 2 rfl (qN rfl)
   · have hnm:dw b.nm=true:=by simpa using h
     rw[hnm,if_neg (by decide)] at hbd;refine AW.skip (AW.seq (qX 2 rfl ?_));refine ae.DM tok rfl rfl rfl rfl trivial (aj i) (Nat.zero_le _) (by show i≤_;rw[ah];omega) ?_;refine qU 2 rfl ?_;rw[uV (by rw[ah];omega)];refine ae.nil (AW.block ?_)
     refine AW.aJ [0,3,4,11,12,13,25,26,27] (fun k:Nat=>[(0,.d (aK bs)),(3,.d (dI i)),(4,.bx [dS b.nm,pY b.pts]),(11,.d (aK bs)),(12,.d (dI bs.length)),(13,.d (dI i)),(25,.d (.sl 2 ((bs.map Body.D).take i))),(26,.d (dI i)),(27,.d (dI k))])
      (fun k=>k≤i∧Dd bs i=fo (fun k=>decide ((bs.getD k default).nm=b.nm)) (i-k) k) (fun k=>i-k) 0 rfl ⟨Nat.zero_le _,hdup⟩ (fun k ⟨hk,hD⟩=>?_)
     refine qX 1 rfl (qI (AW.cond rfl (fun h=>?_) (fun h=>?_)))
     · have hki:k<i:=by have:=ak h;omega
       refine AW.skip (AW.seq (AW.block (AW.seq (AW.region (ae.idx tok (bs.getD k default).D rfl rfl rfl rfl (aj k) (Ho Body.D (by omega) hki) ?_)))));refine qU 3 rfl (qK 5 rfl ?_);rw[lZ];refine ae.nil (AW.cond rfl (fun h=>?_) (fun h=>?_))
       · have h6:fU bs i=6:=by rw[hbd,hD.trans (fJ hki h)];rfl
         rw[show bP bs=6 by rw[hbE (by omega),h6]];exact qX 2 rfl (qN rfl)
       · refine AW.skip (qT 2 rfl ?_);rw[aF (x:=(k:Int)+1) (by omega) (by omega)];refine ae.nil ?_;exact⟨k+1,rfl,⟨hki,hD.trans (eJ hki h)⟩,by omega⟩
     · have hki: ¬k<i:=by have:=ar h;omega
       rw[hD.trans (fK hki),if_neg (by decide)] at hbd;refine AW.exit (AW.seq (qX 4 rfl ?_));rw[ah];refine ae.nil (AW.cond rfl (fun h=>?_) (fun h=>?_))
       · have h8:8<b.pts.length:=by have:=ak h;omega
         have h4:fU bs i=4:=by rw[hbd,rQ,if_pos h8]
         rw[show bP bs=4 by rw[hbE (by omega),h4]];exact qX 2 rfl (qN rfl)
       · have h8: ¬8<b.pts.length:=by have:=ar h;omega
         rw[rQ,if_neg h8] at hbd;refine AW.skip (qX 4 rfl ?_);rw[ah];refine ae.nil (AW.block ?_)
         refine AW.aJ [0,4,11,12,13,44,45,46] (fun p:Nat=>[(0,.d (aK bs)),(4,.bx [dS b.nm,pY b.pts]),(11,.d (aK bs)),(12,.d (dI bs.length)),(13,.d (dI i)),(44,.d (pY b.pts)),(45,.d (dI b.pts.length)),(46,.d (dI p))])
          (fun p=>p≤b.pts.length∧fU bs i=fE (ue b.pts) (b.pts.length-p) p) (fun p=>b.pts.length-p) 0 rfl ⟨Nat.zero_le _,hbd⟩ (fun p ⟨hp,hP⟩=>?_)
         refine qX 1 rfl (qI (AW.cond rfl (fun h=>?_) (fun h=>?_)))
         · have hpn:p<b.pts.length:=by have:=ak h;omega
           obtain ⟨mok1,mok2,mok3⟩:=bok3 p
           have hpE:ue b.pts p≠0→bP bs=ue b.pts p:=fun h0=>by
            have:=hP.trans (eT hpn h0);rw[hbE (by omega),this]
           have hpM:ue b.pts p=0→fU bs i=fE (ue b.pts) (b.pts.length-(p+1)) (p+1):=fun h0=>hP.trans (db hpn h0);obtain ⟨m,hm⟩: ∃m,m=b.pts.getD p default:=⟨_,rfl⟩;rw[← hm] at mok1 mok2 mok3;unfold big at mok1;have hdup2:C' b.pts p=fo (fun k=>decide ((b.pts.getD k default).nm=m.nm)) p 0:=by rw[hm];rfl
           have hpd:ue b.pts p=if dw m.nm=false then 5 else if C' b.pts p=true then 6 else if m.x.okB=true∧m.y.okB=true then 0 else 3:=by rw[hm];rfl
           refine AW.skip (AW.seq (AW.block (qX 1 rfl ?_)));refine ae.idx tok m.D rfl rfl rfl rfl (aj p) (by rw[hm];exact getM Mark.D hpn) ?_;refine qU 4 rfl (qI (qX 2 rfl (ae.call tok rfl rfl rfl rfl (fY m.nm mok1) ?_)));refine qU 1 rfl (ae.nil (AW.cond rfl (fun h=>?_) (fun h=>?_)))
           · have hnm2:dw m.nm=false:=by simpa using h
             have h5:ue b.pts p=5:=by rw[hpd,hnm2];rfl
             rw[show bP bs=5 by rw[hpE (by omega),h5]];exact qX 2 rfl (qN rfl)
           · have hnm2:dw m.nm=true:=by simpa using h
             rw[hnm2,if_neg (by decide)] at hpd;refine AW.skip (AW.seq (qX 3 rfl ?_));refine ae.DM tok rfl rfl rfl rfl trivial (aj p) (Nat.zero_le _) (by show p≤_;rw[ah];omega) ?_;refine qU 2 rfl ?_;rw[uV (by rw[ah];omega)];refine ae.nil (AW.block ?_)
             refine AW.aJ [0,4,8,11,12,13,44,45,46,59,60,61] (fun k:Nat=>[(0,.d (aK bs)),(4,.bx [dS b.nm,pY b.pts]),(8,.bx [dS m.nm,dB m.x.g,Wd m.x.n,Wd m.x.d,dB m.y.g,Wd m.y.n,Wd m.y.d]),(11,.d (aK bs)),(12,.d (dI bs.length)),(13,.d (dI i)),(44,.d (pY b.pts)),(45,.d (dI b.pts.length)),(46,.d (dI p)),(59,.d (.sl 7 ((b.pts.map Mark.D).take p))),(60,.d (dI p)),(61,.d (dI k))])
              (fun k=>k≤p∧C' b.pts p=fo (fun k=>decide ((b.pts.getD k default).nm=m.nm)) (p-k) k) (fun k=>p-k) 0 rfl ⟨Nat.zero_le _,hdup2⟩ (fun k ⟨hk,hD2⟩=>?_)
             refine qX 1 rfl (qI (AW.cond rfl (fun h=>?_) (fun h=>?_)))
             · have hkp:k<p:=by have:=ak h;omega
               refine AW.skip (AW.seq (AW.block (AW.seq (AW.region (ae.idx tok (b.pts.getD k default).D rfl rfl rfl rfl (aj k) (Ho Mark.D (by omega) hkp) ?_)))));refine qU 3 rfl (qK 5 rfl ?_);rw[lZ];refine ae.nil (AW.cond rfl (fun h=>?_) (fun h=>?_))
               · have h6:ue b.pts p=6:=by rw[hpd,hD2.trans (fJ hkp h)];rfl
                 rw[show bP bs=6 by rw[hpE (by omega),h6]];exact qX 2 rfl (qN rfl)
               · refine AW.skip (qT 2 rfl ?_);rw[aF (x:=(k:Int)+1) (by omega) (by omega)];refine ae.nil ?_;exact⟨k+1,rfl,⟨hkp,hD2.trans (eJ hkp h)⟩,by omega⟩
             · have hkp: ¬k<p:=by have:=ar h;omega
               rw[hD2.trans (fK hkp),if_neg (by decide)] at hpd;refine AW.exit ?_;refine AW.cut [0,4,11,12,13,44,45,46,81] (fun _:Unit=>[(0,.d (aK bs)),(4,.bx [dS b.nm,pY b.pts]),(11,.d (aK bs)),(12,.d (dI bs.length)),(13,.d (dI i)),(44,.d (pY b.pts)),(45,.d (dI b.pts.length)),(46,.d (dI p)),(81,.d (dB (!decide (m.x.okB=true∧m.y.okB=true))))]) (fun _=>True) ?_ (fun _ _=>?_)
               · refine qT 2 rfl (ae.call tok rfl rfl rfl rfl (fp m.x mok2 (by omega)) ?_);refine ae.split (t:=74) rfl (fun h=>?_) (fun h=>?_)
                 · refine qU 4 rfl (ae.call tok rfl rfl rfl rfl (fp m.y mok3 (by omega)) ?_);refine qU 2 rfl (ae.nil ?_);exact⟨(),by rw[show decide (m.x.okB=true∧m.y.okB=true)=m.y.okB by simp[h]];rfl,trivial⟩
                 · refine qU 7 rfl (ae.nil ?_);exact⟨(),by rw[show decide (m.x.okB=true∧m.y.okB=true)=false by simp[h]];rfl,trivial⟩
               refine AW.cond rfl (fun h=>?_) (fun h=>?_)
               · have hno: ¬(m.x.okB=true∧m.y.okB=true):=fun e=>by rw[aO e] at h;cases h
                 have h3:ue b.pts p=3:=by rw[hpd,if_neg hno]
                 rw[show bP bs=3 by rw[hpE (by omega),h3]];exact qX 2 rfl (qN rfl)
               · have hyes:m.x.okB=true∧m.y.okB=true:=by simpa using h
                 rw[if_pos hyes] at hpd;refine AW.skip (qT 2 rfl ?_);rw[aF (x:=(p:Int)+1) (by omega) (by omega)];refine ae.nil ?_;exact⟨p+1,rfl,⟨hpn,hpM hpd⟩,by omega⟩
         · have hpn: ¬p<b.pts.length:=by have:=ar h;omega
           have h0:fU bs i=0:=hP.trans (eU hpn);refine AW.exit (qT 2 rfl ?_);rw[aF (x:=(i:Int)+1) (by omega) (by omega)];refine ae.nil ?_;exact⟨i+1,rfl,⟨hin,hbM h0⟩,by omega⟩
 · have hin: ¬i<bs.length:=by have:=ar h;omega
   rw[hE,eU hin];exact AW.exit (qX 1 rfl (qN rfl))
end Lift
namespace Lift
open Go Go.Proofs
theorem oD(a b:Rat):(zY a b==0)=decide (a=b):=by
 unfold zY;by_cases h:a<b
 · rw[if_pos h];have hne:a≠b:=fun e=>by rw[e] at h;exact absurd h Rat.lt_irrefl
   rw[a9 hne];rfl
 · rw[if_neg h];by_cases he:a=b
   · rw[if_pos he,aO he];rfl
   · rw[if_neg he,a9 he];rfl
theorem kq{b:Bool}(h:(!b)=true):b=false:=by cases b<;>simp_all
theorem tc{i:Int}{n:Nat}(h:jm i n=true):0≤i∧i.toNat<n:=by
 have:=ak h;omega
set_option maxHeartbeats 1600000 in
theorem vC(l:Lkg)(j:cG){K:Nat}(hl:l.ok K)(hK:K≤20000000):Pure Tryz.prog 99 [l.D,j.D] (uv (jE l.bodies j)):=by
 refine qJ 107 Tryz.func99 rfl rfl rfl rfl (by kernel_rfl) (fun B F0 w0=>?_);obtain ⟨ln,bs,js,ds⟩:=l;have hb:=hl.b;simp only[] at hb ⊢;obtain ⟨nm,kind,a,pt,b,on,to⟩:=j
 have hj:jE bs ⟨nm,kind,a,pt,b,on,to⟩=if kind≠0∧kind≠1 then 7 else if (jm a bs.length&&jm b bs.length)=false then 9 else if a=b then 13 else
  if (jm pt (bs.getD a.toNat default).pts.length&&jm on (bs.getD b.toNat default).pts.length)=false then 9 else
  if kind=0 then (if to=0 then 0 else 2) else if jm to (bs.getD b.toNat default).pts.length=false then 9 else
  if lA ((bs.getD b.toNat default).pts.getD on.toNat default) ((bs.getD b.toNat default).pts.getD to.toNat default)=true then 8 else 0:=rfl
 generalize jE bs ⟨nm,kind,a,pt,b,on,to⟩=E at *;refine qX 3 rfl (qI ?_);refine AW.cut [2,3,15] (fun _:Unit=>[(2,.bx [dS ln,aK bs,aH js,aI ds]),(3,.bx [dS nm,dI kind,dI a,dI pt,dI b,dI on,dI to]),(15,.d (dB (decide (kind≠0∧kind≠1))))]) (fun _=>True) ?_ (fun _ _=>?_)
 · refine qT 3 rfl ?_;refine ae.split (t:=10) rfl (fun h=>?_) (fun h=>?_)
   · have h1:kind≠0:=by simpa using h
     refine qU 5 rfl (ae.nil ?_);exact⟨(),by rw[show decide (kind≠0∧kind≠1)=(kind != 1) by rw[Bool.eq_iff_iff];simp[h1]];rfl,trivial⟩
   · have h1:kind=0:=by simpa using h
     refine qU 5 rfl (ae.nil ?_);exact⟨(),by rw[show decide (kind≠0∧kind≠1)=false by simp[h1]];rfl,trivial⟩
 refine AW.cond rfl (fun h=>?_) (fun h=>?_)
 · rw[if_pos (ak h)] at hj;rw[hj];exact qX 2 rfl (qN rfl)
 rw[if_neg (ar h)] at hj;refine AW.skip (AW.seq ?_);refine AW.cut [2,3,32] (fun _:Unit=>[(2,.bx [dS ln,aK bs,aH js,aI ds]),(3,.bx [dS nm,dI kind,dI a,dI pt,dI b,dI on,dI to]),(32,.d (dB (!(jm a bs.length&&jm b bs.length))))]) (fun _=>True) ?_ (fun _ _=>?_)
 · refine qT 5 rfl ?_;rw[ah];refine ae.call tok rfl rfl rfl rfl (gO a bs.length) ?_;refine ae.split (t:=22) rfl (fun h=>?_) (fun h=>?_)
   · refine qU 7 rfl ?_;rw[ah];refine ae.call tok rfl rfl rfl rfl (gO b bs.length) ?_;refine qU 2 rfl (ae.nil ?_);exact⟨(),by rw[h];rfl,trivial⟩
   · refine qU 10 rfl (ae.nil ?_);exact⟨(),by rw[h];rfl,trivial⟩
 refine AW.cond rfl (fun h=>?_) (fun h=>?_)
 · rw[if_pos (kq h)] at hj;rw[hj];exact qX 2 rfl (qN rfl)
 have hab:jm a bs.length=true∧jm b bs.length=true:=by simpa using h
 rw[if_neg (by simp[hab])] at hj;obtain ⟨ha0,ha1⟩:=tc hab.1;obtain ⟨hb0,hb1⟩:=tc hab.2;obtain ⟨Bb,hBb⟩: ∃x,x=bs.getD b.toNat default:=⟨_,rfl⟩;obtain ⟨Ba,hBa⟩: ∃x,x=bs.getD a.toNat default:=⟨_,rfl⟩;have okb:=hb b.toNat;rw[← hBb] at hj okb;rw[← hBa] at hj;refine AW.skip (AW.seq (qX 5 rfl (ae.nil (AW.cond rfl (fun h=>?_) (fun h=>?_)))))
 · rw[if_pos (by simpa using h)] at hj;rw[hj];exact qX 2 rfl (qN rfl)
 rw[if_neg (by simpa using h)] at hj;refine AW.skip (qX 4 rfl ?_);refine ae.idx tok Bb.D rfl rfl rfl rfl hb0 (by rw[hBb];exact getM Body.D hb1) ?_;refine qU 3 rfl (qI ?_);refine AW.cut [2,3,5,66] (fun _:Unit=>[(2,.bx [dS ln,aK bs,aH js,aI ds]),(3,.bx [dS nm,dI kind,dI a,dI pt,dI b,dI on,dI to]),(5,.d (pY Bb.pts)),(66,.d (dB (!(jm pt Ba.pts.length&&jm on Bb.pts.length))))]) (fun _=>True) ?_ (fun _ _=>?_)
 · have c1:=gO pt Ba.pts.length;cases hq:jm pt Ba.pts.length with
   | true =>
     rw[hq] at c1;refine AW.draw aU 20 (by kernel_rfl) ?_;refine qP 6 rfl ?_;refine af.idx tok Ba.D rfl rfl rfl rfl rfl ha0 (by rw[hBa];exact getM Body.D ha1) ?_;refine qP 3 rfl ?_;rw[ah];refine af.call tok rfl rfl rfl rfl rfl c1 (qP 6 rfl ?_);rw[ah];refine af.call tok rfl rfl rfl rfl rfl (gO on Bb.pts.length) ?_;refine qP 2 rfl (af.nil (ae.nil ?_));exact⟨(),rfl,trivial⟩
   | false =>
     rw[hq] at c1;refine AW.draw aU 20 (by kernel_rfl) ?_;refine qP 6 rfl ?_;refine af.idx tok Ba.D rfl rfl rfl rfl rfl ha0 (by rw[hBa];exact getM Body.D ha1) ?_;refine qP 3 rfl ?_;rw[ah];refine af.call tok rfl rfl rfl rfl rfl c1 (qP 9 rfl (af.nil (ae.nil ?_)));exact⟨(),rfl,trivial⟩
 refine AW.cond rfl (fun h=>?_) (fun h=>?_)
 · rw[if_pos (kq h)] at hj;rw[hj];exact qX 2 rfl (qN rfl)
 have hpo:jm pt Ba.pts.length=true∧jm on Bb.pts.length=true:=by simpa using h
 rw[if_neg (by simp[hpo])] at hj;obtain ⟨ho0,ho1⟩:=tc hpo.2;refine AW.skip (AW.seq (qX 3 rfl (ae.nil (AW.cond rfl (fun h=>?_) (fun h=>?_)))))
 · rw[if_pos (by simpa using h)] at hj;refine AW.seq (qX 3 rfl (ae.nil (AW.cond rfl (fun h=>?_) (fun h=>?_))))
   · rw[if_neg (by simpa using h)] at hj;rw[hj];exact qX 2 rfl (qN rfl)
   · rw[if_pos (by simpa using h)] at hj;rw[hj];exact AW.skip (qX 1 rfl (qN rfl))
 rw[if_neg (by simpa using h)] at hj;refine AW.skip (AW.seq (qX 4 rfl ?_));rw[ah];refine ae.call tok rfl rfl rfl rfl (gO to Bb.pts.length) ?_;refine qU 1 rfl (ae.nil (AW.cond rfl (fun h=>?_) (fun h=>?_)))
 · rw[if_pos (by simpa using h)] at hj;rw[hj];exact qX 2 rfl (qN rfl)
 have hto:jm to Bb.pts.length=true:=by simpa using h
 rw[if_neg (by simp[hto])] at hj;obtain ⟨ht0,ht1⟩:=tc hto;obtain ⟨p,hp⟩: ∃x,x=Bb.pts.getD on.toNat default:=⟨_,rfl⟩;obtain ⟨q,hq⟩: ∃x,x=Bb.pts.getD to.toNat default:=⟨_,rfl⟩;have okp:=okb.2.2 on.toNat;have okq:=okb.2.2 to.toNat;rw[← hp] at hj okp;rw[← hq] at hj okq;refine AW.skip (AW.seq (AW.nQ tok aU [(5,true),(5,false),(2,true)] 12 [6,7] (by kernel_rfl) ⟨rfl,?_⟩));refine qP 3 rfl ?_;refine af.idx tok p.D rfl rfl rfl rfl rfl ho0 (by rw[hp];exact getM Mark.D ho1) ?_;refine qP 1 rfl (af.nil ⟨rfl,?_⟩);refine qP 3 rfl ?_;refine af.idx tok q.D rfl rfl rfl rfl rfl ht0 (by rw[hq];exact getM Mark.D ht1) ?_;refine qP 1 rfl (af.nil ⟨rfl,?_⟩);refine qP 2 rfl (af.nil ⟨_,oG.cons (.bx rfl) (oG.cons (.bx rfl) (oG.nil)),?_⟩);refine qI ?_;refine AW.cut [105] (fun _:Unit=>[(105,.d (dB (lA p q)))]) (fun _=>True) ?_ (fun _ _=>?_)
 · refine qT 4 rfl (ae.call tok rfl rfl rfl rfl (mL p.x q.x okp.2.1 okq.2.1 (by omega)) ?_);refine qU 1 rfl ?_;rw[oD];refine ae.split (t:=97) rfl (fun h=>?_) (fun h=>?_)
   · have h1:=ak h;refine qU 5 rfl (ae.call tok rfl rfl rfl rfl (mL p.y q.y okp.2.2 okq.2.2 (by omega)) ?_);refine qU 2 rfl ?_;rw[oD];refine ae.nil ?_;exact⟨(),by rw[show lA p q=decide (p.y.val=q.y.val) by unfold lA;simp[h1]];rfl,trivial⟩
   · have h1:=ar h;refine qU 8 rfl (ae.nil ?_);exact⟨(),by rw[show lA p q=false by unfold lA;simp[h1]];rfl,trivial⟩
 refine AW.cond rfl (fun h=>?_) (fun h=>?_)
 · rw[if_pos h] at hj;rw[hj];exact qX 2 rfl (qN rfl)
 · rw[if_neg (by rw[h];decide)] at hj;rw[hj];exact AW.skip (qX 1 rfl (qN rfl))
end Lift
namespace Lift
open Go Go.Proofs
set_option maxHeartbeats 1600000 in
theorem tJ(l:Lkg){K:Nat}(hl:l.ok K)(hK:K≤20000000):Pure Tryz.prog 53 [l.D] (uv (dO l.bodies l.joints)):=by
 refine qJ 49 Tryz.func53 rfl rfl rfl rfl (by kernel_rfl) (fun B F0 w0=>?_);have hjoint:=fun j=>vC l j hl hK;obtain ⟨ln,bs,js,ds⟩:=l;have hj:=hl.j;have hn:=hl.nj;simp only[] at hj hn hjoint ⊢;show AW _ _ _ _ _ _ _ (eG 0 [D.ag [dS ln,aK bs,aH js,aI ds]]);unfold big at hn;refine qX 2 rfl (qI (qX 4 rfl ?_));rw[ah];refine ae.nil (AW.cond rfl (fun h=>?_) (fun h=>?_))
 · have h16:16<js.length:=by have:=ak h;omega
   rw[dO,if_pos h16];exact qX 2 rfl (qN rfl)
 have h16: ¬16<js.length:=by have:=ar h;omega
 rw[dO,if_neg h16];refine AW.skip (AW.seq (qX 4 rfl ?_));rw[ah];refine ae.nil (AW.block ?_)
 refine AW.aJ [1,14,15,16] (fun i:Nat=>[(1,.bx [dS ln,aK bs,aH js,aI ds]),(14,.d (aH js)),(15,.d (dI js.length)),(16,.d (dI i))])
  (fun i=>i≤js.length∧fE (eQ bs js) js.length 0=fE (eQ bs js) (js.length-i) i) (fun i=>js.length-i) 0 rfl ⟨Nat.zero_le _,rfl⟩ (fun i ⟨hi,hE⟩=>?_)
 refine qX 1 rfl (qI (AW.cond rfl (fun h=>?_) (fun h=>?_)))
 · have hin:i<js.length:=by have:=ak h;omega
   have jok:=hj i;have hbE:eQ bs js i≠0→fE (eQ bs js) js.length 0=eQ bs js i:=fun h0=>hE.trans (eT hin h0);have hbM:eQ bs js i=0→fE (eQ bs js) js.length 0=fE (eQ bs js) (js.length-(i+1)) (i+1):=fun h0=>hE.trans (db hin h0);generalize fE (eQ bs js) js.length 0=E at *;obtain ⟨j,hje⟩: ∃j,j=js.getD i default:=⟨_,rfl⟩;rw[← hje] at jok;unfold big at jok;have hdup:Da js i=fo (fun k=>decide ((js.getD k default).nm=j.nm)) i 0:=by rw[hje];rfl
   have hbd:eQ bs js i=if dw j.nm=false then 5 else if Da js i=true then 6 else jE bs j:=by rw[hje];rfl
   refine AW.skip (AW.seq (AW.block (qX 1 rfl ?_)));refine ae.idx tok j.D rfl rfl rfl rfl (aj i) (by rw[hje];exact getM cG.D hin) ?_;refine qU 4 rfl (qI (qX 2 rfl (ae.call tok rfl rfl rfl rfl (fY j.nm jok) ?_)));refine qU 1 rfl (ae.nil (AW.cond rfl (fun h=>?_) (fun h=>?_)))
   · have hnm:dw j.nm=false:=kq h;have h5:eQ bs js i=5:=by rw[hbd,hnm];rfl
     rw[show E=5 by rw[hbE (by omega),h5]];exact qX 2 rfl (qN rfl)
   have hnm:dw j.nm=true:=by simpa using h
   rw[hnm,if_neg (by decide)] at hbd;refine AW.skip (AW.seq (qX 3 rfl ?_));refine ae.DM tok rfl rfl rfl rfl trivial (aj i) (Nat.zero_le _) (by show i≤_;rw[ah];omega) ?_;refine qU 2 rfl ?_;rw[uV (by rw[ah];omega)];refine ae.nil (AW.block ?_)
   refine AW.aJ [1,4,14,15,16,29,30,31] (fun k:Nat=>[(1,.bx [dS ln,aK bs,aH js,aI ds]),(4,.bx [dS j.nm,dI j.kind,dI j.a,dI j.pt,dI j.b,dI j.on,dI j.to]),(14,.d (aH js)),(15,.d (dI js.length)),(16,.d (dI i)),(29,.d (.sl 7 ((js.map cG.D).take i))),(30,.d (dI i)),(31,.d (dI k))])
    (fun k=>k≤i∧Da js i=fo (fun k=>decide ((js.getD k default).nm=j.nm)) (i-k) k) (fun k=>i-k) 0 rfl ⟨Nat.zero_le _,hdup⟩ (fun k ⟨hk,hD⟩=>?_)
   refine qX 1 rfl (qI (AW.cond rfl (fun h=>?_) (fun h=>?_)))
   · have hki:k<i:=by have:=ak h;omega
     refine AW.skip (AW.seq (AW.block (AW.seq (AW.region (ae.idx tok (js.getD k default).D rfl rfl rfl rfl (aj k) (Ho cG.D (by omega) hki) ?_)))));refine qU 3 rfl (qK 5 rfl ?_);rw[lZ];refine ae.nil (AW.cond rfl (fun h=>?_) (fun h=>?_))
     · have h6:eQ bs js i=6:=by rw[hbd,hD.trans (fJ hki h)];rfl
       rw[show E=6 by rw[hbE (by omega),h6]];exact qX 2 rfl (qN rfl)
     · refine AW.skip (qT 2 rfl ?_);rw[aF (x:=(k:Int)+1) (by omega) (by omega)];refine ae.nil ?_;exact⟨k+1,rfl,⟨hki,hD.trans (eJ hki h)⟩,by omega⟩
   · have hki: ¬k<i:=by have:=ar h;omega
     rw[hD.trans (fK hki),if_neg (by decide)] at hbd;refine AW.exit ?_;have c:=hjoint j;cases he:jE bs j with
     | zero =>
       rw[he] at hbd c;refine qX 2 rfl (ae.call tok rfl rfl rfl rfl c (qU 1 rfl (qK 1 rfl (ae.err tok rfl rfl rfl rfl rfl (ae.nil (AW.aD rfl (AW.skip (qT 2 rfl ?_))))))));rw[aF (x:=(i:Int)+1) (by omega) (by omega)];refine ae.nil ?_;exact⟨i+1,rfl,⟨hin,hbM hbd⟩,by omega⟩
     | succ m =>
       rw[he] at hbd c;rw[show E=m+1 by rw[hbE (by omega),hbd]];exact qX 2 rfl (ae.call tok rfl rfl rfl rfl c (qU 1 rfl (qK 1 rfl (ae.err tok rfl rfl rfl rfl rfl (ae.nil (AW.aG rfl (qX 2 rfl (qN rfl))))))))
 · have hin: ¬i<js.length:=by have:=ar h;omega
   rw[hE,eU hin];exact AW.exit (qX 1 rfl (qN rfl))
set_option maxHeartbeats 1600000 in
theorem rY(l:Lkg){K:Nat}(hl:l.ok K):Pure Tryz.prog 54 [l.D] (uv (ju l.bodies.length l.drivers)):=by
 refine qJ 72 Tryz.func54 rfl rfl rfl rfl (by kernel_rfl) (fun B F0 w0=>?_);obtain ⟨ln,bs,js,ds⟩:=l;have hd:=hl.d;have hn:=hl.nd;simp only[] at hd hn ⊢;show AW _ _ _ _ _ _ _ (eG 0 [D.ag [dS ln,aK bs,aH js,aI ds]]);unfold big at hn;refine qX 2 rfl (qI (qX 4 rfl ?_));rw[ah];refine ae.nil (AW.cond rfl (fun h=>?_) (fun h=>?_))
 · have h2:2<ds.length:=by have:=ak h;omega
   rw[ju,if_pos h2];exact qX 2 rfl (qN rfl)
 have h2: ¬2<ds.length:=by have:=ar h;omega
 rw[ju,if_neg h2];refine AW.skip (AW.seq (qX 4 rfl ?_));rw[ah];refine ae.nil (AW.block ?_)
 refine AW.aJ [1,15,16,17] (fun i:Nat=>[(1,.bx [dS ln,aK bs,aH js,aI ds]),(15,.d (aI ds)),(16,.d (dI ds.length)),(17,.d (dI i))])
  (fun i=>i≤ds.length∧fE (dR bs.length ds) ds.length 0=fE (dR bs.length ds) (ds.length-i) i) (fun i=>ds.length-i) 0 rfl ⟨Nat.zero_le _,rfl⟩ (fun i ⟨hi,hE⟩=>?_)
 refine qX 1 rfl (qI (AW.cond rfl (fun h=>?_) (fun h=>?_)))
 · have hin:i<ds.length:=by have:=ak h;omega
   have dok:=hd i;have hbE:dR bs.length ds i≠0→fE (dR bs.length ds) ds.length 0=dR bs.length ds i:=fun h0=>hE.trans (eT hin h0);have hbM:dR bs.length ds i=0→fE (dR bs.length ds) ds.length 0=fE (dR bs.length ds) (ds.length-(i+1)) (i+1):=fun h0=>hE.trans (db hin h0);generalize fE (dR bs.length ds) ds.length 0=E at *;obtain ⟨d,hde⟩: ∃d,d=ds.getD i default:=⟨_,rfl⟩;rw[← hde] at dok;unfold big at dok;have hdup:Db ds i=fo (fun k=>decide ((ds.getD k default).nm=d.nm)) i 0:=by rw[hde];rfl
   have hdup2:C9 ds i=fo (fun k=>decide ((ds.getD k default).body=d.body)) i 0:=by rw[hde];rfl
   have hbd:dR bs.length ds i=if dw d.nm=false then 5 else if Db ds i=true then 6 else if jm d.body bs.length=false then 9 else if d.body=0 then 7 else if C9 ds i=true then 6 else 0:=by rw[hde];rfl
   refine AW.skip (AW.seq (AW.block (qX 1 rfl ?_)));refine ae.idx tok d.D rfl rfl rfl rfl (aj i) (by rw[hde];exact getM Driver.D hin) ?_;refine qU 4 rfl (qI (qX 2 rfl (ae.call tok rfl rfl rfl rfl (fY d.nm dok) ?_)));refine qU 1 rfl (ae.nil (AW.cond rfl (fun h=>?_) (fun h=>?_)))
   · have hnm:dw d.nm=false:=kq h;have h5:dR bs.length ds i=5:=by rw[hbd,hnm];rfl
     rw[show E=5 by rw[hbE (by omega),h5]];exact qX 2 rfl (qN rfl)
   have hnm:dw d.nm=true:=by simpa using h
   rw[hnm,if_neg (by decide)] at hbd;refine AW.skip (AW.seq (qX 3 rfl ?_));refine ae.DM tok rfl rfl rfl rfl trivial (aj i) (Nat.zero_le _) (by show i≤_;rw[ah];omega) ?_;refine qU 2 rfl ?_;rw[uV (by rw[ah];omega)];refine ae.nil (AW.block ?_)
   refine AW.aJ [1,3,4,15,16,17,30,31,32] (fun k:Nat=>[(1,.bx [dS ln,aK bs,aH js,aI ds]),(3,.d (dI i)),(4,.bx [dS d.nm,dI d.body]),(15,.d (aI ds)),(16,.d (dI ds.length)),(17,.d (dI i)),(30,.d (.sl 2 ((ds.map Driver.D).take i))),(31,.d (dI i)),(32,.d (dI k))])
    (fun k=>k≤i∧Db ds i=fo (fun k=>decide ((ds.getD k default).nm=d.nm)) (i-k) k) (fun k=>i-k) 0 rfl ⟨Nat.zero_le _,hdup⟩ (fun k ⟨hk,hD⟩=>?_)
   refine qX 1 rfl (qI (AW.cond rfl (fun h=>?_) (fun h=>?_)))
   · have hki:k<i:=by have:=ak h;omega
     refine AW.skip (AW.seq (AW.block (AW.seq (AW.region (ae.idx tok (ds.getD k default).D rfl rfl rfl rfl (aj k) (Ho Driver.D (by omega) hki) ?_)))));refine qU 3 rfl (qK 5 rfl ?_);rw[lZ];refine ae.nil (AW.cond rfl (fun h=>?_) (fun h=>?_))
     · have h6:dR bs.length ds i=6:=by rw[hbd,hD.trans (fJ hki h)];rfl
       rw[show E=6 by rw[hbE (by omega),h6]];exact qX 2 rfl (qN rfl)
     · refine AW.skip (qT 2 rfl ?_);rw[aF (x:=(k:Int)+1) (by omega) (by omega)];refine ae.nil ?_;exact⟨k+1,rfl,⟨hki,hD.trans (eJ hki h)⟩,by omega⟩
   · have hki: ¬k<i:=by have:=ar h;omega
     rw[hD.trans (fK hki),if_neg (by decide)] at hbd;refine AW.exit (AW.seq (qX 5 rfl ?_));rw[ah];refine ae.call tok rfl rfl rfl rfl (gO d.body bs.length) ?_;refine qU 1 rfl (ae.nil (AW.cond rfl (fun h=>?_) (fun h=>?_)))
     · rw[if_pos (kq h)] at hbd;rw[show E=9 by rw[hbE (by omega),hbd]];exact qX 2 rfl (qN rfl)
     have hinb:jm d.body bs.length=true:=by simpa using h
     rw[if_neg (by simp[hinb])] at hbd;refine AW.skip (AW.seq (qX 3 rfl (ae.nil (AW.cond rfl (fun h=>?_) (fun h=>?_)))))
     · rw[if_pos (by simpa using h)] at hbd;rw[show E=7 by rw[hbE (by omega),hbd]];exact qX 2 rfl (qN rfl)
     rw[if_neg (by simpa using h)] at hbd;refine AW.skip (qX 3 rfl ?_);refine ae.DM tok rfl rfl rfl rfl trivial (aj i) (Nat.zero_le _) (by show i≤_;rw[ah];omega) ?_;refine qU 2 rfl ?_;rw[uV (by rw[ah];omega)];refine ae.nil (AW.block ?_)
     refine AW.aJ [1,4,15,16,17,58,59,60] (fun k:Nat=>[(1,.bx [dS ln,aK bs,aH js,aI ds]),(4,.bx [dS d.nm,dI d.body]),(15,.d (aI ds)),(16,.d (dI ds.length)),(17,.d (dI i)),(58,.d (.sl 2 ((ds.map Driver.D).take i))),(59,.d (dI i)),(60,.d (dI k))])
      (fun k=>k≤i∧C9 ds i=fo (fun k=>decide ((ds.getD k default).body=d.body)) (i-k) k) (fun k=>i-k) 0 rfl ⟨Nat.zero_le _,hdup2⟩ (fun k ⟨hk,hD⟩=>?_)
     refine qX 1 rfl (qI (AW.cond rfl (fun h=>?_) (fun h=>?_)))
     · have hki:k<i:=by have:=ak h;omega
       refine AW.skip (AW.seq (AW.block (AW.seq (AW.region (ae.idx tok (ds.getD k default).D rfl rfl rfl rfl (aj k) (Ho Driver.D (by omega) hki) ?_)))));refine qU 3 rfl (qK 5 rfl (ae.nil (AW.cond rfl (fun h=>?_) (fun h=>?_))))
       · have h':decide ((ds.getD k default).body=d.body)=true:=by simpa using h
         rw[hD.trans (fJ hki h')] at hbd;rw[show E=6 by rw[hbE (by rw[hbd];decide),hbd];rfl];exact qX 2 rfl (qN rfl)
       · have h':decide ((ds.getD k default).body=d.body)=false:=by simpa using h
         refine AW.skip (qT 2 rfl ?_);rw[aF (x:=(k:Int)+1) (by omega) (by omega)];refine ae.nil ?_;exact⟨k+1,rfl,⟨hki,hD.trans (eJ hki h')⟩,by omega⟩
     · have hki: ¬k<i:=by have:=ar h;omega
       rw[hD.trans (fK hki),if_neg (by decide)] at hbd;refine AW.exit (qT 2 rfl ?_);rw[aF (x:=(i:Int)+1) (by omega) (by omega)];refine ae.nil ?_;exact⟨i+1,rfl,⟨hin,hbM hbd⟩,by omega⟩
 · have hin: ¬i<ds.length:=by have:=ar h;omega
   rw[hE,eU hin];exact AW.exit (qX 1 rfl (qN rfl))
set_option maxHeartbeats 1600000 in
theorem nw(l:Lkg){K:Nat}(hl:l.ok K)(hK:K≤20000000):Pure Tryz.prog 31 [l.D] (uv (z8 l)):=by
 refine qJ 33 Tryz.func31 rfl rfl rfl rfl (by kernel_rfl) (fun B F0 w0=>?_);have c1:=tK l.bodies hl.nb hl.b (by omega);have c2:=tJ l hl hK;have c3:=rY l hl
 have hcd:z8 l=if dw l.nm=false then 5 else if l.bodies=[] then 10 else if 8<l.bodies.length then 4 else
  if bP l.bodies≠0 then bP l.bodies else if dO l.bodies l.joints≠0 then dO l.bodies l.joints else ju l.bodies.length l.drivers:=rfl
 generalize z8 l=E at *;obtain ⟨ln,bs,js,ds⟩:=l;have hnm:=hl.nm;have hnb:=hl.nb;simp only[] at hcd c1 c2 c3 hnm hnb ⊢;show AW _ _ _ _ _ _ _ (eG 0 [D.ag [dS ln,aK bs,aH js,aI ds]]);unfold big at hnm hnb;refine qX 2 rfl (qI (qX 2 rfl (ae.call tok rfl rfl rfl rfl (fY ln hnm) ?_)));refine qU 1 rfl (ae.nil (AW.cond rfl (fun h=>?_) (fun h=>?_)))
 · rw[if_pos (kq h)] at hcd;rw[hcd];exact qX 2 rfl (qN rfl)
 rw[if_neg (by simpa using h)] at hcd;refine AW.skip (AW.seq (qX 4 rfl ?_));rw[ah];refine ae.nil (AW.cond rfl (fun h=>?_) (fun h=>?_))
 · have h0:bs=[]:=List.length_eq_zero_iff.1 (by have:(bs.length:Int)=0:=by simpa using h
                                                omega)
   rw[if_pos h0] at hcd;rw[hcd];exact qX 2 rfl (qN rfl)
 have h0:bs≠[]:=by rintro rfl;simp at h
 rw[if_neg h0] at hcd;refine AW.skip (AW.seq (qX 4 rfl ?_));rw[ah];refine ae.nil (AW.cond rfl (fun h=>?_) (fun h=>?_))
 · have h8:8<bs.length:=by have:=ak h;omega
   rw[if_pos h8] at hcd;rw[hcd];exact qX 2 rfl (qN rfl)
 have h8: ¬8<bs.length:=by have:=ar h;omega
 rw[if_neg h8] at hcd;refine AW.skip ?_;cases he:bP bs with
 | succ m =>
   rw[he] at hcd c1;rw[show E=m+1 by rw[hcd,if_pos (by omega)]];refine AW.seq (qX 2 rfl (ae.call tok rfl rfl rfl rfl c1 (qU 1 rfl (qK 1 rfl (ae.err tok rfl rfl rfl rfl rfl (ae.nil (AW.aG rfl (qX 2 rfl ?_))))))));exact qN rfl
 | zero =>
   rw[he] at hcd c1;rw[if_neg (by omega)] at hcd;refine AW.seq (qX 2 rfl (ae.call tok rfl rfl rfl rfl c1 (qU 1 rfl (qK 1 rfl (ae.err tok rfl rfl rfl rfl rfl (ae.nil (AW.aD rfl (AW.skip ?_))))))));cases he2:dO bs js with
   | succ m =>
     rw[he2] at hcd c2;rw[show E=m+1 by rw[hcd,if_pos (by omega)]];refine AW.seq (qX 1 rfl (ae.call tok rfl rfl rfl rfl c2 (qU 1 rfl (qK 1 rfl (ae.err tok rfl rfl rfl rfl rfl (ae.nil (AW.aG rfl (qX 2 rfl ?_))))))));exact qN rfl
   | zero =>
     rw[he2] at hcd c2;rw[if_neg (by omega)] at hcd;rw[hcd];refine AW.seq (qX 1 rfl (ae.call tok rfl rfl rfl rfl c2 (qU 1 rfl (qK 1 rfl (ae.err tok rfl rfl rfl rfl rfl (ae.nil (AW.aD rfl (AW.skip (qX 1 rfl ?_)))))))));exact ae.call tok rfl rfl rfl rfl c3 (qU 1 rfl (qN rfl))
end Lift
namespace Lift
open Go Go.Proofs
end Lift
namespace Lift
open Go Go.Proofs
abbrev yq(v:List NQ):D:= .pr [.sl 1 (v.map aq),aR]
theorem pf{v:List NQ}{f:Nat}{a b r:NQ}(hP:Pure Tryz.prog f [gY v,aq a,aq b] (.tu [aq r,aR])):Pure Tryz.prog 104 [yq v,.fn f [] [],aq a,aq b] (aq r):=by
 refine qJ 32 Tryz.func104 rfl rfl rfl rfl (by kernel_rfl) (fun B0 F0 w0=>?_);refine qX 1 rfl (qI (qX 1 rfl (ae.Bl tok rfl rfl rfl rfl rfl ?_)));refine qU 2 rfl (ae.err tok rfl rfl rfl rfl rfl (ae.nil (AW.aD rfl ?_)))
 · skip
   refine AW.skip (qX 2 rfl (ae.Bl tok rfl rfl rfl rfl rfl ?_));refine qU 4 rfl (ae.HY tok rfl rfl rfl rfl hP ?_);refine qU 5 rfl (qK 2 rfl (ae.Bl tok rfl rfl rfl rfl rfl ?_));refine ae.KI tok rfl rfl rfl rfl rfl rfl rfl rfl rfl rfl rfl rfl rfl rfl rfl ?_;exact qK 2 rfl (qN rfl)
theorem mU{m:Nat}{v:List NQ}{a b:NQ}(V:iX m v)(ha:ay v.length a)(sa:aB m a)(hb:ay v.length b)(sb:aB m b):Pure Tryz.prog 103 [yq v,aq a,aq b] (aq (wu a b)):=by
 refine qJ 11 Tryz.func103 rfl rfl rfl rfl (by kernel_rfl) (fun B0 F0 w0=>?_);have c:=pf (wO V ha sa hb sb);exact qX 1 rfl (qK 3 rfl (ae.call tok rfl rfl rfl rfl c (qU 1 rfl (qN rfl))))
theorem jc{m:Nat}{v:List NQ}{a b:NQ}(V:iX m v)(ha:ay v.length a)(sa:aB m a)(hb:ay v.length b)(sb:aB m b):Pure Tryz.prog 57 [yq v,aq a,aq b] (aq (gm a b)):=by
 refine qJ 11 Tryz.func57 rfl rfl rfl rfl (by kernel_rfl) (fun B0 F0 w0=>?_);have c:=pf (wK V ha sa hb sb);exact qX 1 rfl (qK 3 rfl (ae.call tok rfl rfl rfl rfl c (qU 1 rfl (qN rfl))))
theorem gC{m:Nat}{v:List NQ}{a b:NQ}(hsT:sT v.length m≤17300000000000)(V:iX m v)(ha:ay v.length a)(sa:aB m a)(hb:ay v.length b)(sb:aB m b):Pure Tryz.prog 58 [yq v,aq a,aq b] (aq (fQ v a b)):=by
 refine qJ 11 Tryz.func58 rfl rfl rfl rfl (by kernel_rfl) (fun B0 F0 w0=>?_);have c:=pf (wL hsT V ha sa hb sb);exact qX 1 rfl (qK 3 rfl (ae.call tok rfl rfl rfl rfl c (qU 1 rfl (qN rfl))))
theorem Gd{l:Nat}{a:NQ}(ha:ay l a):gm [] a=kr a:=Gp ((cD l).plus ha.minus) ha.minus (funext fun i=>by
 rw[dW];show (0:Rat)+_=_
 rw[Rat.zero_add])
theorem gA{m:Nat}{v:List NQ}{a:NQ}(V:iX m v)(ha:ay v.length a)(sa:aB m a):Pure Tryz.prog 60 [yq v,aq a] (aq (kr a)):=by
 refine qJ 8 Tryz.func60 rfl rfl rfl rfl (by kernel_rfl) (fun B0 F0 w0=>?_);have c:=jc V (cD _) (cH V.m1) ha sa;rw[Gd ha] at c;exact qX 1 rfl (qK 2 rfl (ae.call tok rfl rfl rfl rfl c (qU 1 rfl (qN rfl))))
theorem I7{l m:Nat}(hl:l≤2)(hm:m≤30000):pG l m:=by
 have h2:pG 2 m:=by
  show sT 2 m≤17300000000000∧sT 1 (sT 2 m)≤17300000000000∧sT 1 (sT 2 m)≤17300000000000;have e1: ∀k,sT 1 k=6*k+1:=fun k=>by show 2*(2*k)+2*k+1=_;omega
  have e2:sT 2 m=42*m+9:=by
   show sT 1 (sT 1 m)+sT 1 m+1=_;rw[e1,e1];omega
  rw[e2,e1];omega
 exact vr h2 hl
theorem ua{l m:Nat}(hl:l≤2):sT l m≤42*m+9:=by
 have e1: ∀k,sT 1 k=6*k+1:=fun k=>by show 2*(2*k)+2*k+1=_;omega
 match l,hl with
 | 0,_=>show 2*m≤_;omega
 | 1,_=>rw[e1];omega
 | 2,_ =>
   show sT 1 (sT 1 m)+sT 1 m+1≤_;rw[e1,e1];omega
structure Iv where
 c:NQ
 s:NQ
 x:NQ
 y:NQ
abbrev Iv.D(b:Iv):D:= .ag [aq b.c,aq b.s,aq b.x,aq b.y]
structure Iv.ok (l k:Nat) (b:Iv):Prop where
 c:ay l b.c∧aB k b.c
 s:ay l b.s∧aB k b.s
 x:ay l b.x∧aB k b.x
 y:ay l b.y∧aB k b.y
def LV(v:List NQ)(b:Iv)(px py:NQ):NQ:=wu (gm (fQ v b.c px) (fQ v b.s py)) b.x
def LU(v:List NQ)(b:Iv)(px py:NQ):NQ:=wu (wu (fQ v b.s px) (fQ v b.c py)) b.y
theorem Kr{v:List NQ}{b:Iv}{px py:NQ}(V:iX 16 v)(hl:v.length≤2)(hb:b.ok v.length 16)(hx:ay v.length px∧aB 16 px)(hy:ay v.length py∧aB 16 py):
  (ay v.length (LV v b px py)∧aB 1400 (LV v b px py))∧(ay v.length (LU v b px py)∧aB 1400 (LU v b px py)):=by
 have s1:=ua (m:=16) hl;have p1:=gk V hb.c.1 hb.c.2 hx.1 hx.2;have p2:=gk V hb.s.1 hb.s.2 hy.1 hy.2;have p3:=gk V hb.s.1 hb.s.2 hx.1 hx.2;have p4:=gk V hb.c.1 hb.c.2 hy.1 hy.2;have q1:=kI p1.1 p1.2 p2.1 p2.2;have q2:=uA p3.1 p3.2 p4.1 p4.2;have r1:=uA q1.1 q1.2 hb.x.1 hb.x.2;have r2:=uA q2.1 q2.2 hb.y.1 hb.y.2;exact⟨⟨r1.1,r1.2.mono (by omega)⟩,⟨r2.1,r2.2.mono (by omega)⟩⟩
set_option maxHeartbeats 800000 in
theorem Cb{v:List NQ}{b:Iv}{p:Mark}(V:iX 16 v)(hl:v.length≤2)(hb:b.ok v.length 16)(wx:p.x.w 16)(wy:p.y.w 16)(ox:p.x.okB=true)(oy:p.y.okB=true):
  Pure Tryz.prog 56 [yq v,b.D,p.D] (.tu [aq (LV v b (rU p.x.val) (rU p.y.val)),aq (LU v b (rU p.x.val) (rU p.y.val))]):=by
 refine qJ 50 Tryz.func56 rfl rfl rfl rfl (by kernel_rfl) (fun B0 F0 w0=>?_);have c1:=jd p.x wx (by decide) (by decide) ox;have c2:=jd p.y wy (by decide) (by decide) oy;have hx:=kZ v.length (cy wx (by decide));have hy:=kZ v.length (cy wy (by decide));generalize rU p.x.val=px at *;generalize rU p.y.val=py at *;have s1:=ua (m:=16) hl;have V2:=V.mono (k:=1400) (by decide) (by decide);have m1:=gC (by omega) V hb.c.1 hb.c.2 hx.1 hx.2;have m2:=gC (by omega) V hb.s.1 hb.s.2 hy.1 hy.2;have m3:=gC (by omega) V hb.s.1 hb.s.2 hx.1 hx.2;have m4:=gC (by omega) V hb.c.1 hb.c.2 hy.1 hy.2;have p1:=gk V hb.c.1 hb.c.2 hx.1 hx.2;have p2:=gk V hb.s.1 hb.s.2 hy.1 hy.2;have p3:=gk V hb.s.1 hb.s.2 hx.1 hx.2;have p4:=gk V hb.c.1 hb.c.2 hy.1 hy.2;have q1:=kI p1.1 p1.2 p2.1 p2.2;have q2:=uA p3.1 p3.2 p4.1 p4.2;have n1:=jc V2 p1.1 (p1.2.mono (by omega)) p2.1 (p2.2.mono (by omega));have n2:=mU V2 p3.1 (p3.2.mono (by omega)) p4.1 (p4.2.mono (by omega));have o1:=mU V2 q1.1 (q1.2.mono (by omega)) hb.x.1 (hb.x.2.mono (by omega));have o2:=mU V2 q2.1 (q2.2.mono (by omega)) hb.y.1 (hb.y.2.mono (by omega));unfold LV LU;refine qX 4 rfl (qI (AW.draw aU 6 (by kernel_rfl) ?_));refine qP 2 rfl (af.call tok rfl rfl rfl rfl rfl c1 (qP 2 rfl (af.call tok rfl rfl rfl rfl rfl c2 (af.nil (qU 2 rfl (qI (AW.draw aU 16 (by kernel_rfl) ?_)))))));refine qP 6 rfl (af.call tok rfl rfl rfl rfl rfl m1 (qP 4 rfl (af.call tok rfl rfl rfl rfl rfl m2 (af.call tok rfl rfl rfl rfl rfl n1 (qP 2 rfl (af.call tok rfl rfl rfl rfl rfl o1 (af.nil (qU 1 rfl ?_))))))));refine qI (AW.draw aU 16 (by kernel_rfl) ?_);refine qP 6 rfl (af.call tok rfl rfl rfl rfl rfl m3 (qP 4 rfl (af.call tok rfl rfl rfl rfl rfl m4 (af.call tok rfl rfl rfl rfl rfl n2 (qP 2 rfl (af.call tok rfl rfl rfl rfl rfl o2 (af.nil (qU 1 rfl ?_))))))));exact qK 4 rfl (qN rfl)
theorem mf:Pure Tryz.prog 61 [] (aq [1]):=by
 refine qJ 3 Tryz.func61 rfl rfl rfl rfl (by kernel_rfl) (fun B0 F0 w0=>?_);have c1:=iq 1 (by decide) (by decide);have c2:=jd (Qr ((1:Int):Rat)) (k:=1) (iy _ (by have:=gy;rw[show ((1:Int):Rat)=1 from rfl];omega)) (by decide) (by decide) (BY _);rw[dc,show rU ((1:Int):Rat)=[1] from rfl] at c2;exact qX 1 rfl (qI (AW.region (ae.call tok rfl rfl rfl rfl c1 (ae.call tok rfl rfl rfl rfl c2 (qU 1 rfl (qN rfl))))))
end Lift
namespace Lift
open Go Go.Proofs
structure gx where
 c:List RD
 s:List RD
 x:List RD
 y:List RD
deriving Inhabited
abbrev gx.D(p:gx):D:= .ag [bE p.c,bE p.s,bE p.x,bE p.y]
structure Asm where
 rt:List (List RD)
 bodies:List gx
 modes:List Int
abbrev Asm.D(a:Asm):D:= .ag [.sl 1 (a.rt.map bE),.sl 4 (a.bodies.map gx.D),.sl 1 (a.modes.map (fun n=>dI n))]
structure gx.ok (m:Nat) (rt:List (List RD)) (p:gx):Prop where
 c:kD m rt p.c
 s:kD m rt p.s
 x:kD m rt p.x
 y:kD m rt p.y
structure Asm.ok (m:Nat) (a:Asm):Prop where
 t:pX m a.rt
 b: ∀i,i<a.bodies.length→(a.bodies.getD i default).ok m a.rt
 l:a.bodies.length≤1000000
def Fe(rt:List (List RD))(p:gx)(k:Nat):Nat:=bY rt.length ([p.c,p.s,p.x,p.y].getD k [])
def xQ(rt:List (List RD))(p:gx):Nat:=fE (Fe rt p) (4-0) 0
def fD(l:Lkg)(a:Asm):Nat:=if z8 l≠0 then z8 l else if dE a.rt≠0 then dE a.rt else if a.bodies.length≠l.bodies.length then 10 else fE (fun i=>xQ a.rt (a.bodies.getD i default)) (a.bodies.length-0) 0
theorem Kp{rt:List (List RD)}{a:List RD}(h:dE rt=0):ky rt [a]=bY rt.length a:=by
 unfold ky;rw[if_neg (by rw[h];simp)];show (if bY rt.length a=0 then 0 else bY rt.length a)=_;by_cases h0:bY rt.length a=0
 · rw[if_pos h0,h0]
 · rw[if_neg h0]
set_option maxHeartbeats 1600000 in
theorem zw(l:Lkg)(a:Asm){K m:Nat}(hl:l.ok K)(hK:K≤20000000)(hb:l.bodies.length≤1000000000000)(ha:a.ok m):Pure Tryz.prog 55 [l.D,a.D] (uv (fD l a)):=by
 refine qJ 65 Tryz.func55 rfl rfl rfl rfl (by kernel_rfl) (fun B0 F0 w0=>?_);have cM:=nw l hl hK;obtain ⟨m0,t1,t2,tw,tk⟩:=ha.t.t;have cT:=ke a.rt tw t1 ha.t.l ha.t.ll tk;have hal:=ha.l;unfold fD;obtain ⟨E,hE⟩: ∃E,fE (fun i=>xQ a.rt (a.bodies.getD i default)) (a.bodies.length-0) 0=E:=⟨_,rfl⟩;rw[hE];refine qX 3 rfl (qI (qX 1 rfl (ae.call tok rfl rfl rfl rfl cM (qU 1 rfl (ae.nil ?_)))));rcases e1:z8 l with _ | z
 rotate_left
 · rw[if_pos (Nat.succ_ne_zero z)];exact qX 1 rfl (ae.err tok rfl rfl rfl rfl rfl (ae.nil (AW.aG rfl (qX 2 rfl (qN rfl)))))
 rw[if_neg (by simp)];refine qX 1 rfl (ae.err tok rfl rfl rfl rfl rfl (ae.nil (AW.aD rfl (AW.skip (AW.seq (qX 2 rfl (ae.call tok rfl rfl rfl rfl cT (qU 1 rfl ?_))))))));refine ae.nil ?_;rcases e2:dE a.rt with _ | z
 rotate_left
 · rw[if_pos (Nat.succ_ne_zero z)];exact qX 1 rfl (ae.err tok rfl rfl rfl rfl rfl (ae.nil (AW.aG rfl (qX 2 rfl (qN rfl)))))
 rw[if_neg (by simp)];refine qX 1 rfl (ae.err tok rfl rfl rfl rfl rfl (ae.nil (AW.aD rfl (AW.skip (AW.seq (qX 6 rfl ?_))))));rw[ah,ah];refine qU 1 rfl (ae.nil ?_);by_cases hbl:a.bodies.length=l.bodies.length;rotate_left
 · rw[if_pos hbl,bne_iff_ne.2 (show (a.bodies.length:Int)≠(l.bodies.length:Int) by omega)];exact AW.aG rfl (qX 2 rfl (qN rfl))
 rw[if_neg (fun h=>h hbl),bne_eq_false_iff_eq.2 (show (a.bodies.length:Int)=(l.bodies.length:Int) by omega)];refine AW.aD rfl (AW.skip ?_);obtain ⟨rt,bs,md⟩:=a;simp only[] at *;refine AW.seq (qX 3 rfl ?_);rw[ah];refine qU 1 rfl (ae.nil ?_);refine AW.block (AW.aJ [3,33,34,35] (fun i:Nat=>[(3,.bx [.sl 1 (rt.map bE),.sl 4 (bs.map gx.D),.sl 1 (md.map (fun n=>dI n))]),(33,.d (.sl 4 (bs.map gx.D))),(34,.d (dI bs.length)),(35,.d (dI i))]) (fun i=>i≤bs.length∧fE (fun i=>xQ rt (bs.getD i default)) (bs.length-i) i=E) (fun i=>bs.length-i) 0 rfl ⟨Nat.zero_le _,hE⟩ (fun i ⟨hi,hiE⟩=>?_));refine qX 1 rfl ?_;refine qI (AW.cond rfl (fun h=>?_) (fun h=>?_));rotate_left
 · have hii: ¬i<bs.length:=by have:=ar h;omega
   rw[eU hii] at hiE;subst hiE;exact AW.exit (qX 1 rfl (qN rfl))
 have hii:i<bs.length:=by have:=ak h;omega
 have hg:(bs.map gx.D)[i]?=some (bs.getD i default).D:=by simp[hii]
 have hmiss:=fun h0:xQ rt (bs.getD i default)=0=>(db (f:=fun i=>xQ rt (bs.getD i default)) hii h0).symm.trans hiE;have hhit:=fun h0:xQ rt (bs.getD i default)≠0=>(eT (f:=fun i=>xQ rt (bs.getD i default)) hii h0).symm.trans hiE;have hp:=ha.b i hii;generalize bs.getD i default=p at hg hmiss hhit hp;obtain ⟨P,hP⟩: ∃P,xQ rt p=P:=⟨_,rfl⟩;rw[hP] at hmiss hhit;unfold xQ at hP;obtain ⟨pc,ps,px,py⟩:=p;refine AW.skip (AW.seq (AW.block (AW.seq (AW.region (ae.idx tok (gx.mk pc ps px py).D rfl rfl rfl rfl (aj i) hg ?_)))));refine qU 3 rfl (qK 8 rfl (ae.nR tok rfl rfl rfl rfl rfl ?_));refine qU 2 rfl (ae.nil ?_);refine AW.block (AW.aJ [3,33,34,35,47,48,49] (fun k:Nat=>[(3,.bx [.sl 1 (rt.map bE),.sl 4 (bs.map gx.D),.sl 1 (md.map (fun n=>dI n))]),(33,.d (.sl 4 (bs.map gx.D))),(34,.d (dI bs.length)),(35,.d (dI i)),(47,.d (.sl 1 [bE pc,bE ps,bE px,bE py])),(48,.d (dI 4)),(49,.d (dI k))]) (fun k=>k≤4∧fE (Fe rt ⟨pc,ps,px,py⟩) (4-k) k=P) (fun k=>4-k) 0 rfl ⟨Nat.zero_le _,hP⟩ (fun k ⟨hk,hkP⟩=>?_));refine qX 1 rfl ?_;refine qI (AW.cond rfl (fun h=>?_) (fun h=>?_));rotate_left
 · have hkk: ¬k<4:=by have:=ar h;omega
   rw[eU hkk] at hkP;refine AW.exit (qT 1 rfl ?_);rw[aF (x:=(i:Int)+1) (by omega) (by omega)];refine qU 1 rfl (ae.nil ?_);exact⟨i+1,rfl,⟨hii,hmiss hkP.symm⟩,by omega⟩
 have hkk:k<4:=by have:=ak h;omega
 have km:=fun h0:Fe rt ⟨pc,ps,px,py⟩ k=0=>(db (f:=Fe rt ⟨pc,ps,px,py⟩) hkk h0).symm.trans hkP;have kh:=fun h0:Fe rt ⟨pc,ps,px,py⟩ k≠0=>(eT (f:=Fe rt ⟨pc,ps,px,py⟩) hkk h0).symm.trans hkP
 obtain ⟨q,hq,hqg,hqn⟩: ∃q,[bE pc,bE ps,bE px,bE py][k]?=some (bE q)∧Fe rt ⟨pc,ps,px,py⟩ k=bY rt.length q∧kD m rt q:=by
  match k,hkk with
  | 0,_=>exact⟨pc,rfl,rfl,hp.c⟩
  | 1,_=>exact⟨ps,rfl,rfl,hp.s⟩
  | 2,_=>exact⟨px,rfl,rfl,hp.x⟩
  | 3,_=>exact⟨py,rfl,rfl,hp.y⟩
 rw[hqg] at km kh;have cN:=yB ha.t hqn;unfold K0 at cN;rw[Kp e2] at cN;refine AW.skip (AW.seq (AW.block (AW.seq (AW.region (ae.idx tok (bE q) rfl rfl rfl rfl (aj k) hq ?_)))));refine qU 2 rfl (qK 3 rfl ?_);rcases e3:bY rt.length q with _ | z
 rotate_left
 · rw[e3] at kh;rw[e3,if_pos (Nat.succ_ne_zero z)] at cN;have h1:=kh (Nat.succ_ne_zero z);have h2:=hhit (by rw[← h1];exact Nat.succ_ne_zero z);rw[← h1] at h2;subst h2;exact ae.call tok rfl rfl rfl rfl cN (qU 5 rfl (qK 1 rfl (ae.err tok rfl rfl rfl rfl rfl (ae.nil (AW.aG rfl (qX 2 rfl (qN rfl)))))))
 rw[e3] at km;rw[e3,if_neg (by simp)] at cN;refine ae.call tok rfl rfl rfl rfl cN (qU 5 rfl (qK 1 rfl (ae.err tok rfl rfl rfl rfl rfl (ae.nil (AW.aD rfl (AW.skip (qT 1 rfl ?_)))))));rw[aF (x:=(k:Int)+1) (by omega) (by omega)];refine qU 1 rfl (ae.nil ?_);exact⟨k+1,rfl,⟨hkk,km rfl⟩,by omega⟩
def Ak(js:List cG):Nat→Int
 | 0=>0
 | i+1=>Ak js i+if (js.getD i default).kind=0 then 2 else 1
theorem Hm(js:List cG): ∀i,0≤Ak js i∧Ak js i≤2*i
 | 0=>by exact⟨Int.le_refl _,Int.le_refl _⟩
 | i+1=>by
   have:=Hm js i;show 0≤Ak js i+(if _ then _ else _)∧Ak js i+(if _ then _ else _)≤_;split<;>omega
def Fu(l:Lkg):Int:=3*((l.bodies.length:Int) -1) -Ak l.joints l.joints.length
def Jv(l:Lkg):D:=if z8 l≠0 then .tu [dI 0,uv (z8 l)] else .tu [dI (Fu l),aR]
theorem mH(l:Lkg){K:Nat}(hl:l.ok K)(hK:K≤20000000):Pure Tryz.prog 13 [l.D] (Jv l):=by
 refine qJ 34 Tryz.func13 rfl rfl rfl rfl (by kernel_rfl) (fun B0 F0 w0=>?_);have cM:=nw l hl hK;have nb:=hl.nb;have nj:=hl.nj;unfold big at nb nj;unfold Jv Fu;refine qX 3 rfl (qI (qX 1 rfl (ae.call tok rfl rfl rfl rfl cM (qU 1 rfl (ae.nil ?_)))));rcases e1:z8 l with _ | z
 rotate_left
 · rw[if_pos (Nat.succ_ne_zero z)];exact qX 1 rfl (ae.err tok rfl rfl rfl rfl rfl (ae.nil (AW.aG rfl (qX 3 rfl (qN rfl)))))
 rw[if_neg (by simp)];refine qX 1 rfl (ae.err tok rfl rfl rfl rfl rfl (ae.nil (AW.aD rfl (AW.skip ?_))));clear cM e1 hl;obtain ⟨ln,bs,js,ds⟩:=l;simp only[] at nb nj ⊢;refine qX 3 rfl ?_;rw[ah];refine qU 1 rfl ?_;rw[aF (x:=(bs.length:Int) -1) (by omega) (by omega)];refine qU 1 rfl ?_;rw[aF (x:=3*((bs.length:Int) -1)) (by omega) (by omega)];refine qU 1 rfl (qI (qX 3 rfl ?_));rw[ah];refine qU 1 rfl (ae.nil (AW.block ?_));refine AW.aJ [5,19,20,21] (fun i:Nat=>[(5,.d (dI (3*((bs.length:Int) -1) -Ak js i))),(19,.d (aH js)),(20,.d (dI js.length)),(21,.d (dI i))]) (fun i=>i≤js.length) (fun i=>js.length-i) 0 (by show _=([(5,.d (dI (3*((bs.length:Int) -1) -0))),(19,.d (aH js)),(20,.d (dI js.length)),(21,.d (dI (0:Nat)))]:St);rw[Int.sub_zero];rfl) (Nat.zero_le _) (fun i hi=>?_);refine qX 1 rfl ?_;refine qI (AW.cond rfl (fun h=>?_) (fun h=>?_));rotate_left
 · have hii:i=js.length:=by have:=ar h;have:i≤js.length:=hi;omega
   subst hii;exact AW.exit (qX 3 rfl (qN rfl))
 have hii:i<js.length:=by have:=ak h;omega
 have hg:(js.map cG.D)[i]?=some (js.getD i default).D:=by simp[hii]
 have hgc:Ak js (i+1)=Ak js i+if (js.getD i default).kind=0 then 2 else 1:=rfl
 have gb:=Hm js i;generalize js.getD i default=j at hg hgc;obtain ⟨nm,kd,a,pt,b,on,to⟩:=j;simp only[] at hgc;refine AW.skip (AW.seq (AW.block (AW.seq (AW.region (ae.idx tok (cG.mk nm kd a pt b on to).D rfl rfl rfl rfl (aj i) hg ?_)))));refine qU 3 rfl (qK 3 rfl (ae.nil ?_));by_cases hkd:kd=0
 · rw[if_pos hkd] at hgc;rw[beq_iff_eq.2 hkd];refine AW.aG rfl (qT 2 rfl ?_);rw[aF (x:=3*((bs.length:Int) -1) -Ak js i-2) (by omega) (by omega),show 3*((bs.length:Int) -1) -Ak js i-2=3*((bs.length:Int) -1) -Ak js (i+1) by omega];refine qU 1 rfl (ae.nil (qT 1 rfl ?_));rw[aF (x:=(i:Int)+1) (by omega) (by omega)];refine qU 1 rfl (ae.nil ?_);exact⟨i+1,rfl,hii,by omega⟩
 · rw[if_neg hkd] at hgc;rw[beq_eq_false_iff_ne.2 hkd];refine AW.aD rfl (qT 2 rfl ?_);rw[aF (x:=3*((bs.length:Int) -1) -Ak js i-1) (by omega) (by omega),show 3*((bs.length:Int) -1) -Ak js i-1=3*((bs.length:Int) -1) -Ak js (i+1) by omega];refine qU 1 rfl (ae.nil (qT 1 rfl ?_));rw[aF (x:=(i:Int)+1) (by omega) (by omega)];refine qU 1 rfl (ae.nil ?_);exact⟨i+1,rfl,hii,by omega⟩
end Lift
namespace Lift
open Go Go.Proofs
section
open Go.RowKit (Below)
variable {P:Program} {T:Ty} {B:Nat} {F0:Nat→Prop} {w0:cW} {n:Nat} {σ:St} {all:Array Oper} {rest:List Oper} {o:Oper} {d:Nat} {K:St→Prop}
theorem ae.ML(hT:bB P T){h e lo m:Nat}{av:AV}{l ys:List D}{row:AV}(hd:o.dst=some d)(hdn:Nat.ble (d+1) n=true)(hg:aE all σ o=true)(hx:M8 T σ o.op=some (h,av,e,l,lo,m,ys))(hm:0<m)(hy:ys≠[])
  (he:av.cY (l.take lo++ys.take (min ys.length m)++l.drop (lo+min ys.length m))=row)
  (hk:ae P B F0 w0 n all rest K ((d,.d (.v (.int .i64 ((min ys.length m:Nat):Int))))::(h,row)::σ)):ae P B F0 w0 n all (o::rest) K σ :=
 ae.copy hT hd hdn hg hx hm hy (by rw[he];exact hk)
end
abbrev EL(l:List NQ):List D:=l.map aq
def mb(r:List NQ)(b:Int)(x y w:NQ):List NQ:=if 0<b then r.take (3*(b.toNat-1))++[x,y,w]++r.drop (3*(b.toNat-1)+3) else r
theorem qD{r:List NQ}{b:Int}(x y w:NQ)(h:0<b→3*b.toNat≤r.length):(mb r b x y w).length=r.length:=by
 unfold mb;split
 · rename_i h0;have:=h h0;rw[List.length_append,List.length_append,bb,List.length_drop];show min _ _+3+_=_;omega
 · rfl
def DZ(V:Value)(r:List NQ)(b:Int)(x y w:NQ)(res:D)(R':List LR):Prop:=res= .tu []∧R'=[(V,AV.ow 52 (EL (mb r b x y w)))]
theorem iK(V:Value)(r:List NQ)(b:Int)(x y w:NQ)(h1:0<b→3*b.toNat≤r.length)(hb:b≤1000000)(hb0: -1000000≤b):lU Tryz.prog 59 [.v V,dI b,aq x,aq y,aq w] [(V,AV.ow 52 (EL r))] (DZ V r b x y w):=by
 refine lU.intro (n:=22) tok Tryz.func59 rfl rfl rfl (Nat.le_of_ble_eq_true rfl) (by kernel_rfl) (fun B0 F0 w0=>?_);unfold DZ;refine AZ.seq (AZ.jx (fun B1 F1 w1=>?_));refine qU 2 rfl ?_;by_cases h0:0<b;rotate_left
 · rw[a9 h0];refine ae.nil ⟨rfl,?_⟩;refine AZ.aD rfl ?_;refine AZ.skip ?_;exact⟨.tu [],rfl,rfl,by unfold mb;rw[if_neg h0]⟩
 rw[aO h0];refine ae.nil ⟨rfl,?_⟩;have h1:=h1 h0;have hlo:3*(b-1)=((3*(b.toNat-1):Nat):Int):=by omega
 refine AZ.aG rfl ?_;refine AZ.region ?_;refine ao.cut 4 rfl (fun B1 F1 w1=>?_);refine qU 3 rfl ?_;rw[aF (x:=b-1) (by omega) (by omega)];refine qU 1 rfl ?_;rw[aF (x:=3*(b-1)) (by omega) (by omega),hlo];refine ae.nil ⟨rfl,?_⟩;refine ao.fq 12 0 rfl rfl rfl ?_;refine ao.cut 6 rfl (fun B1 F1 w1=>?_);refine ae.LO tok rfl rfl rfl rfl (aj _) trivial (by show 3*(b.toNat-1)≤(EL r).length;rw[ah];omega) (ai _) ?_;refine qU 3 rfl (ae.nR tok rfl rfl rfl rfl rfl ?_);refine ae.ML tok (row:= .ow 52 (EL (mb r b x y w))) rfl rfl rfl rfl (by show 0<(EL r).length-3*(b.toNat-1);rw[ah];omega) (by simp) ?_ ?_
 · have e3:min [aq x,aq y,aq w].length ((EL r).length-3*(b.toNat-1))=3:=by
    rw[ah];show min 3 _=3;omega
   show AV.ow _ ((EL r).take (0+3*(b.toNat-1))++[aq x,aq y,aq w].take (min [aq x,aq y,aq w].length ((EL r).length-3*(b.toNat-1)))++(EL r).drop (0+3*(b.toNat-1)+min [aq x,aq y,aq w].length ((EL r).length-3*(b.toNat-1))))=_;rw[e3,Nat.zero_add];unfold mb;rw[if_pos h0];show AV.ow _ ((r.map aq).take _++[x,y,w].map aq++(r.map aq).drop _)=AV.ow _ ((_++[x,y,w]++_).map aq);rw[List.map_append,List.map_append,List.map_take,List.map_drop]
 refine ae.nil ⟨rfl,?_⟩;refine ao.back 12 0 rfl rfl rfl (List.Mem.head _) rfl ?_;refine ao.nil ?_;exact⟨.tu [],rfl,rfl,rfl⟩
end Lift
namespace Lift
open Go Go.Proofs
theorem Fw{f:Nat→Nat}: ∀{m i:Nat},fE f m i=0→ ∀k,i≤k→k<i+m→f k=0
 | 0,i,_,k,h1,h2=>by omega
 | m+1,i,h,k,h1,h2=>by
   rw[fE] at h;split at h
   · rename_i h0;rcases Nat.eq_or_lt_of_le h1 with e | e
     · subst e;exact h0
     · exact Fw h k (by omega) (by omega)
   · rename_i h0;exact absurd h h0
structure NL (bs:List Body) (j:cG):Prop where
 k:j.kind=0∨j.kind=1
 a:0≤j.a∧j.a<bs.length
 b:0≤j.b∧j.b<bs.length
 ab:j.a≠j.b
 pt:0≤j.pt∧j.pt<(bs.getD j.a.toNat default).pts.length
 on:0≤j.on∧j.on<(bs.getD j.b.toNat default).pts.length
 to:j.kind≠0→0≤j.to∧j.to<(bs.getD j.b.toNat default).pts.length
structure LkG (l:Lkg):Prop where
 b1:0<l.bodies.length
 b8:l.bodies.length≤8
 j16:l.joints.length≤16
 p: ∀i,i<l.bodies.length→ ∀k,k<(l.bodies.getD i default).pts.length→((l.bodies.getD i default).pts.getD k default).x.okB=true∧((l.bodies.getD i default).pts.getD k default).y.okB=true
 j: ∀i,i<l.joints.length→NL l.bodies (l.joints.getD i default)
theorem BC{i:Int}{n:Nat}(h:jm i n=true):0≤i∧i<n:=ak h
theorem Ks{a b:Bool}(h: ¬(a&&b)=false):a=true∧b=true:=by cases a<;>cases b<;>simp_all
theorem Mm{l:Lkg}(h:z8 l=0):LkG l:=by
 unfold z8 at h;split at h
 · cases h
 split at h
 · cases h
 rename_i h2;split at h
 · cases h
 rename_i h3;split at h
 · rename_i h4;exact absurd h h4
 rename_i h4;split at h
 · rename_i h5;exact absurd h h5
 rename_i h5;have h4:bP l.bodies=0:=Decidable.not_not.1 h4;have h5:dO l.bodies l.joints=0:=Decidable.not_not.1 h5;unfold bP at h4;unfold dO at h5;split at h5
 · cases h5
 rename_i h6;refine⟨List.length_pos_iff.2 h2,by omega,by omega,fun i hi k hk=>?_,fun i hi=>?_⟩
 · have:=Fw h4 i (Nat.zero_le _) (by omega);unfold fU at this;split at this
   · cases this
   split at this
   · cases this
   unfold rQ at this;split at this
   · cases this
   have:=Fw this k (Nat.zero_le _) (by omega);unfold ue at this;split at this
   · cases this
   split at this
   · cases this
   split at this
   · assumption
   · cases this
 · have:=Fw h5 i (Nat.zero_le _) (by omega);unfold eQ at this;split at this
   · cases this
   split at this
   · cases this
   generalize l.joints.getD i default=j at this;unfold jE at this;split at this
   · cases this
   rename_i g1;split at this
   · cases this
   rename_i g2;split at this
   · cases this
   rename_i g3;split at this
   · cases this
   rename_i g4;obtain ⟨a1,a2⟩:=Ks g2;obtain ⟨a3,a4⟩:=Ks g4
   have hk:j.kind=0∨j.kind=1:=by
    by_cases e:j.kind=0
    · exact .inl e
    · by_cases e2:j.kind=1
      · exact .inr e2
      · exact absurd ⟨e,e2⟩ g1
   refine⟨hk,BC a1,BC a2,g3,BC a3,BC a4,fun hne=>?_⟩;rw[if_neg hne] at this;split at this
   · cases this
   rename_i g5
   have:jm j.to (l.bodies.getD j.b.toNat default).pts.length=true:=by
    cases hv:jm j.to (l.bodies.getD j.b.toNat default).pts.length
    · exact absurd hv g5
    · rfl
   exact BC this
def w9(p:gx):Iv:=⟨au p.c,au p.s,au p.x,au p.y⟩
instance:Inhabited Iv:=⟨⟨[],[],[],[]⟩⟩
structure MU (l:Lkg) (a:Asm):Prop where
 lk:LkG l
 tw:dE a.rt=0
 ln:a.bodies.length=l.bodies.length
 pl: ∀i,i<a.bodies.length→xQ a.rt (a.bodies.getD i default)=0
theorem yZ{l:Lkg}{a:Asm}(h:fD l a=0):MU l a:=by
 unfold fD at h;split at h
 · rename_i h0;exact absurd h h0
 rename_i h0;split at h
 · rename_i h1;exact absurd h h1
 rename_i h1;split at h
 · cases h
 rename_i h2;exact⟨Mm (Decidable.not_not.1 h0),Decidable.not_not.1 h1,Decidable.not_not.1 h2,fun i hi=>Fw h i (Nat.zero_le _) (by omega)⟩
theorem GO{m:Nat}{rt:List (List RD)}{p:gx}(m1:1≤m)(hp:p.ok m rt)(h:xQ rt p=0):(w9 p).ok rt.length m∧p.D=(w9 p).D:=by
 have g:=fun k (hk:k<4)=>Fw (f:=Fe rt p) (m:=4) (i:=0) h k (Nat.zero_le _) (by omega);have c:=jD m1 hp.c (g 0 (by decide));have s:=jD m1 hp.s (g 1 (by decide));have x:=jD m1 hp.x (g 2 (by decide));have y:=jD m1 hp.y (g 3 (by decide));refine⟨⟨⟨c.1,c.2.1⟩,⟨s.1,s.2.1⟩,⟨x.1,x.2.1⟩,⟨y.1,y.2.1⟩⟩,?_⟩;show D.ag [bE p.c,bE p.s,bE p.x,bE p.y]=_;rw[c.2.2,s.2.2,x.2.2,y.2.2];rfl
def ui(v:List NQ)(l:Lkg)(a:Asm)(b p:Int):NQ:=LV v (w9 (a.bodies.getD b.toNat default)) (rU ((l.bodies.getD b.toNat default).pts.getD p.toNat default).x.val) (rU ((l.bodies.getD b.toNat default).pts.getD p.toNat default).y.val)
def ug(v:List NQ)(l:Lkg)(a:Asm)(b p:Int):NQ:=LU v (w9 (a.bodies.getD b.toNat default)) (rU ((l.bodies.getD b.toNat default).pts.getD p.toNat default).x.val) (rU ((l.bodies.getD b.toNat default).pts.getD p.toNat default).y.val)
def rN(n:Nat):List NQ:=List.replicate (3*(n-1)) []
def KN(v:List NQ)(r:List NQ)(a b:Int)(px py qx qy rx ry:NQ):List NQ :=
 mb (mb r a (gm qy ry) (gm rx qx) (gm (fQ v (gm rx qx) px) (fQ v (gm qy ry) py))) b (kr (gm qy ry)) (kr (gm rx qx)) (kr (gm (fQ v (gm rx qx) px) (fQ v (gm qy ry) py)))
def KZ(r:List NQ)(a b:Int)(py qy:NQ):List NQ:=mb (mb r a [1] [] (kr py)) b (kr [1]) [] qy
def KY(r:List NQ)(a b:Int)(px qx:NQ):List NQ:=mb (mb r a [] [1] px) b [] (kr [1]) (kr qx)
def Ir(v:List NQ)(l:Lkg)(a:Asm)(j:cG):List (List NQ) :=
 if j.kind=1 then [KN v (rN l.bodies.length) j.a j.b (ui v l a j.a j.pt) (ug v l a j.a j.pt) (ui v l a j.b j.on) (ug v l a j.b j.on) (ui v l a j.b j.to) (ug v l a j.b j.to)]
 else [KZ (rN l.bodies.length) j.a j.b (ug v l a j.a j.pt) (ug v l a j.b j.on),KY (rN l.bodies.length) j.a j.b (ui v l a j.a j.pt) (ui v l a j.b j.on)]
def Fm(j:cG):Nat:=if j.kind=1 then 1 else 2
theorem zI(v:List NQ)(l:Lkg)(a:Asm)(j:cG):(Ir v l a j).length=Fm j:=by
 unfold Ir Fm;split<;>rfl
def ki(v:List NQ)(l:Lkg)(a:Asm):Nat→List (List NQ)
 | 0=>[]
 | i+1=>ki v l a i++Ir v l a (l.joints.getD i default)
def Aj(js:List cG):Nat→List Int
 | 0=>[]
 | i+1=>Aj js i++List.replicate (Fm (js.getD i default)) (i:Int)
theorem rM(v:List NQ)(l:Lkg)(a:Asm): ∀i,(ki v l a i).length≤2*i
 | 0=>Nat.zero_le _
 | i+1=>by
   have h1:=rM v l a i;have h2:=zI v l a (l.joints.getD i default);have h3:Fm (l.joints.getD i default)≤2:=by unfold Fm;split<;>omega
   show (ki v l a i++_).length≤_;rw[List.length_append,h2];omega
theorem D5(js:List cG): ∀i,(Aj js i).length≤2*i
 | 0=>Nat.zero_le _
 | i+1=>by
   have h1:=D5 js i;have h3:Fm (js.getD i default)≤2:=by unfold Fm;split<;>omega
   show (Aj js i++_).length≤_;rw[List.length_append,List.length_replicate];omega
abbrev sK(r:List NQ):D:= .sl 1 (EL r)
abbrev MT(m:List (List NQ)):D:= .sl 1 (m.map sK)
def DV(l:Lkg)(a:Asm):D:=if fD l a≠0 then .tu [.sl 1 [],.sl 1 [],uv (fD l a)] else .tu [MT (ki (a.rt.map au) l a l.joints.length),.sl 1 ((Aj l.joints l.joints.length).map (fun n=>dI n)),aR]
theorem AL(n:Nat):(rN n).length=3*(n-1):=List.length_replicate
end Lift
namespace Lift
open Go Go.Proofs
section
open Go.RowKit (Below)
variable {P:Program} {T:Ty} {B:Nat} {F0:Nat→Prop} {w0:cW} {n:Nat} {σ:St} {all:Array Oper} {rest:List Oper} {o:Oper} {d:Nat} {K:St→Prop}
theorem ae.G6(hT:bB P T)(r:List NQ){z e:Nat}{te:TI}{m:Int}(hd:o.dst=some d)(hdn:Nat.ble (d+1) n=true)(hg:aE all σ o=true)(hx:LS T σ.get o.op=some (e,te,m))(hz:lW te=true)(hzd:uF te= .sl 3 [])(hb:te.bytes=24)(hm:m=(z:Int))(h1:z≤1000000)(hr:r=List.replicate z [])
  (h:ae P B F0 w0 n all rest K ((d,.ow e (EL r))::σ.kill d)):ae P B F0 w0 n all (o::rest) K σ:=by
 subst hm;subst hr;refine ae.make hT hd hdn hg hx hz (by omega) (by rw[hb];omega) (by omega) ?_;rw[hzd,show List.replicate ((z:Int)).toNat (D.sl 3 [])=EL (List.replicate z []) by unfold EL;rw[List.map_replicate];rfl];exact h
end
set_option maxHeartbeats 6400000 in
theorem s7(l:Lkg)(a:Asm)(hl:l.ok 16)(ha:a.ok 16)(h2:a.rt.length≤2)(hnb:l.bodies.length≤1000000000000):Pure Tryz.prog 32 [l.D,a.D] (DV l a):=by
 refine qJ 211 Tryz.func32 rfl rfl rfl rfl (by kernel_rfl) (fun B0 F0 w0=>?_);have cC:=zw l a hl (by decide) hnb ha;unfold DV;refine qX 5 rfl (qI (qX 2 rfl (ae.call tok rfl rfl rfl rfl cC (qU 1 rfl (ae.nil ?_)))));rcases e1:fD l a with _ | z
 rotate_left
 · rw[if_pos (Nat.succ_ne_zero z)];exact qX 1 rfl (ae.err tok rfl rfl rfl rfl rfl (ae.nil (AW.aG rfl (qX 4 rfl (qN rfl)))))
 rw[if_neg (by simp)];refine qX 1 rfl (ae.err tok rfl rfl rfl rfl rfl (ae.nil (AW.aD rfl (AW.skip ?_))));have G:=yZ e1;have V:=iX.of ha.t G.tw;have W:=qb ha.t G.tw;have hvl:(a.rt.map au).length≤2:=by rw[ah];exact h2
 have hrt:a.rt.map bE=(a.rt.map au).map aq:=by
  have:=W.eq;simpa using this
 have gP: ∀b:Int,0≤b→b<l.bodies.length→(a.bodies.map gx.D)[b.toNat]?=some (w9 (a.bodies.getD b.toNat default)).D∧(w9 (a.bodies.getD b.toNat default)).ok (a.rt.map au).length 16:=fun b b0 b1=>by
  have hln:=G.ln;have hb:b.toNat<a.bodies.length:=by omega
  have h3:=GO (by decide) (ha.b _ hb) (G.pl _ hb);rw[ah,← h3.2];exact⟨by simp[hb],h3.1⟩
 have gB: ∀b:Int,0≤b→b<l.bodies.length→(l.bodies.map Body.D)[b.toNat]?=some (l.bodies.getD b.toNat default).D:=fun b b0 b1=>by
  exact getM Body.D (by omega)
 have gM: ∀(b p:Int),0≤p→p<(l.bodies.getD b.toNat default).pts.length→((l.bodies.getD b.toNat default).pts.map Mark.D)[p.toNat]?=some ((l.bodies.getD b.toNat default).pts.getD p.toNat default).D:=fun b p p0 p1=>by
  exact getM Mark.D (by omega)
 have cAt: ∀(b p:Int),0≤b→b<l.bodies.length→0≤p→p<(l.bodies.getD b.toNat default).pts.length→Pure Tryz.prog 56 [yq (a.rt.map au),(w9 (a.bodies.getD b.toNat default)).D,((l.bodies.getD b.toNat default).pts.getD p.toNat default).D] (.tu [aq (ui (a.rt.map au) l a b p),aq (ug (a.rt.map au) l a b p)]):=fun b p b0 b1 p0 p1=>by
  have hm:=(hl.b b.toNat).2.2 p.toNat;have ho:=G.lk.p b.toNat (by omega) p.toNat (by omega);exact Cb V hvl (gP b b0 b1).2 hm.2.1 hm.2.2 ho.1 ho.2
 have sAt: ∀(b p:Int),0≤b→b<l.bodies.length→0≤p→p<(l.bodies.getD b.toNat default).pts.length→(ay (a.rt.map au).length (ui (a.rt.map au) l a b p)∧aB 1400 (ui (a.rt.map au) l a b p))∧(ay (a.rt.map au).length (ug (a.rt.map au) l a b p)∧aB 1400 (ug (a.rt.map au) l a b p)):=fun b p b0 b1 p0 p1=>by
  have hm:=(hl.b b.toNat).2.2 p.toNat;exact Kr V hvl (gP b b0 b1).2 (kZ _ (cy hm.2.1 (by decide))) (kZ _ (cy hm.2.2 (by decide)))
 have hRs: ∀i,ki (a.rt.map au) l a (i+1)=ki (a.rt.map au) l a i++Ir (a.rt.map au) l a (l.joints.getD i default):=fun i=>rfl;have hR0:ki (a.rt.map au) l a 0=[]:=rfl;have hRl:=rM (a.rt.map au) l a;have hJ: ∀j,Ir (a.rt.map au) l a j=if j.kind=1 then [KN (a.rt.map au) (rN l.bodies.length) j.a j.b (ui (a.rt.map au) l a j.a j.pt) (ug (a.rt.map au) l a j.a j.pt) (ui (a.rt.map au) l a j.b j.on) (ug (a.rt.map au) l a j.b j.on) (ui (a.rt.map au) l a j.b j.to) (ug (a.rt.map au) l a j.b j.to)] else [KZ (rN l.bodies.length) j.a j.b (ug (a.rt.map au) l a j.a j.pt) (ug (a.rt.map au) l a j.b j.on),KY (rN l.bodies.length) j.a j.b (ui (a.rt.map au) l a j.a j.pt) (ui (a.rt.map au) l a j.b j.on)]:=fun j=>rfl
 generalize ki (a.rt.map au) l a=R at hRs hR0 hRl ⊢;generalize ui (a.rt.map au) l a=X at cAt sAt hJ;generalize ug (a.rt.map au) l a=Y at cAt sAt hJ;generalize Ir (a.rt.map au) l a=J at hRs hJ;have hOs: ∀i,Aj l.joints (i+1)=Aj l.joints i++List.replicate (Fm (l.joints.getD i default)) (i:Int):=fun i=>rfl;have hO0:Aj l.joints 0=[]:=rfl;have hOl:=D5 l.joints;generalize Aj l.joints=O at hOs hO0 hOl ⊢;have LG:=G.lk;clear e1 G W cC ha;obtain ⟨ln,lb,js,lds⟩:=l;obtain ⟨rt,bs,md⟩:=a;have lb1:=LG.b1;have lb8:=LG.b8;have lj:=LG.j16;have lJ:=LG.j;clear LG;simp only[] at *
 have hD:(Asm.mk rt bs md).D=D.ag [.sl 1 ((rt.map au).map aq),.sl 4 (bs.map gx.D),.sl 1 (md.map (fun n=>dI n))]:=by
  show D.ag [.sl 1 (rt.map bE),_,_]=_;rw[hrt]
 rw[hD];clear hrt hD;generalize rt.map au=v at *;refine qX 4 rfl (ae.Nv 34 rfl ?_);refine qU 1 rfl (qK 1 rfl (qK 1 rfl (qI (qX 3 rfl ?_))));rw[ah];refine qU 1 rfl (ae.nil (AW.block ?_));refine AW.aJ [2,3,8,9,10,36,37,38] (fun i:Nat=>[(2,.bx [dS ln,aK lb,aH js,aI lds]),(3,.bx [.sl 1 (v.map aq),.sl 4 (bs.map gx.D),.sl 1 (md.map (fun n=>dI n))]),(8,.d (yq v)),(9,.ow 27 ((R i).map sK)),(10,.ow 3 ((O i).map (fun n=>dI n))),(36,.d (aH js)),(37,.d (dI js.length)),(38,.d (dI i))]) (fun i=>i≤js.length) (fun i=>js.length-i) 0 (by show _=([(2,.bx [dS ln,aK lb,aH js,aI lds]),(3,.bx [.sl 1 (v.map aq),.sl 4 (bs.map gx.D),.sl 1 (md.map (fun n=>dI n))]),(8,.d (yq v)),(9,.ow 27 ((R 0).map sK)),(10,.ow 3 ((O 0).map (fun n=>dI n))),(36,.d (aH js)),(37,.d (dI js.length)),(38,.d (dI (0:Nat)))]:St);rw[hR0,hO0];rfl) (Nat.zero_le _) (fun i hi=>?_);refine qX 1 rfl ?_;refine qI (AW.cond rfl (fun h=>?_) (fun h=>?_));rotate_left
 · have hii:i=js.length:=by have:=ar h;have:i≤js.length:=hi;omega
   subst hii;refine AW.exit (AW.seq (AW.iV tok 9 rfl rfl ?_));refine AW.iV tok 10 rfl rfl ?_;refine AW.draw aU 8 (by kernel_rfl) ?_;refine qP 3 rfl (af.Bl tok rfl rfl rfl rfl rfl ?_);exact qP 4 rfl (af.nil (qU 1 rfl (qN rfl)))
 have hii:i<js.length:=by have:=ak h;omega
 have hg:(js.map cG.D)[i]?=some (js.getD i default).D:=by simp[hii]
 have jg:=lJ i hii;have hRi:=hRs i;have hOi:=hOs i;have hRl:=hRl i;have hOl:=hOl i;rw[hJ] at hRi;generalize js.getD i default=j at hg jg hRi hOi;obtain ⟨nm,kd,ja,jp,jb,jo,jt⟩:=j;obtain ⟨jk,⟨a0,a1⟩,⟨b0,b1⟩,ab,⟨p0,p1⟩,⟨o0,o1⟩,jto⟩:=jg;simp only[] at *;have gPa:=(gP ja a0 a1).1;have gPb:=(gP jb b0 b1).1;have gBa:=gB ja a0 a1;have gBb:=gB jb b0 b1;have gMp:=gM ja jp p0 p1;have gMo:=gM jb jo o0 o1;have cA:=cAt ja jp a0 a1 p0 p1;have cB:=cAt jb jo b0 b1 o0 o1;obtain ⟨⟨sx1,sx2⟩,⟨sy1,sy2⟩⟩:=sAt ja jp a0 a1 p0 p1;obtain ⟨⟨tx1,tx2⟩,⟨ty1,ty2⟩⟩:=sAt jb jo b0 b1 o0 o1;refine AW.skip (AW.seq (AW.block (qX 1 rfl (ae.idx tok (cG.mk nm kd ja jp jb jo jt).D rfl rfl rfl rfl (aj i) hg ?_))));refine qU 4 rfl (qK 4 rfl (ae.idx tok (lb.getD jb.toNat default).D rfl rfl rfl rfl b0 gBb ?_));refine qU 3 rfl (qI (AW.draw aU 23 (by kernel_rfl) ?_));refine qP 5 rfl (af.idx tok (w9 (bs.getD ja.toNat default)).D rfl rfl rfl rfl rfl a0 gPa ?_);refine qP 5 rfl (af.idx tok (lb.getD ja.toNat default).D rfl rfl rfl rfl rfl a0 gBa ?_);refine qP 4 rfl (af.idx tok ((lb.getD ja.toNat default).pts.getD jp.toNat default).D rfl rfl rfl rfl rfl p0 gMp ?_);refine qP 1 rfl (af.call tok rfl rfl rfl rfl rfl cA (qP 4 rfl (af.nil (qU 1 rfl (qI (AW.draw aU 17 (by kernel_rfl) ?_))))));refine qP 5 rfl (af.idx tok (w9 (bs.getD jb.toNat default)).D rfl rfl rfl rfl rfl b0 gPb ?_);refine qP 4 rfl (af.idx tok ((lb.getD jb.toNat default).pts.getD jo.toNat default).D rfl rfl rfl rfl rfl o0 gMo ?_);refine qP 1 rfl (af.call tok rfl rfl rfl rfl rfl cB (qP 4 rfl (af.nil (qU 1 rfl (qK 3 rfl ?_)))));rw[ah];refine qU 1 rfl ?_;rw[aF (x:=(lb.length:Int) -1) (by omega) (by omega)];refine qU 1 rfl ?_;rw[aF (x:=3*((lb.length:Int) -1)) (by omega) (by omega)];refine ae.G6 tok (rN lb.length) (z:=3*(lb.length-1)) rfl rfl rfl rfl rfl rfl rfl (by omega) (by omega) rfl ?_;refine qU 1 rfl (ae.nil ?_);have hzl:=AL lb.length;have hzr:rN lb.length=List.replicate (3*(lb.length-1)) []:=rfl;generalize rN lb.length=Z at hRi hzl hzr ⊢;refine AW.seq (qX 3 rfl (ae.nil ?_));have ga:0<ja→3*ja.toNat≤Z.length:=fun h=>by rw[hzl];omega
 have gb:0<jb→3*jb.toNat≤Z.length:=fun h=>by rw[hzl];omega
 have V2:=V.mono (k:=1400) (by decide) (by decide);have V3:=V.mono (k:=2801) (by decide) (by decide);have V4:=V.mono (k:=120000) (by decide) (by decide);have V5:=V.mono (k:=240000) (by decide) (by decide);have sT3:=ua (m:=2801) hvl;by_cases hk1:kd=1
 · rw[if_pos hk1] at hRi;rw[beq_iff_eq.2 hk1];rw[show Fm (cG.mk nm kd ja jp jb jo jt)=1 by unfold Fm;rw[if_pos hk1]] at hOi;obtain ⟨r0,r1⟩:=jto (by omega);have gMt:=gM jb jt r0 r1;have cT:=cAt jb jt b0 b1 r0 r1;obtain ⟨⟨ux1,ux2⟩,⟨uy1,uy2⟩⟩:=sAt jb jt b0 b1 r0 r1;generalize X ja jp=px at *;generalize Y ja jp=py at *;generalize X jb jo=qx at *;generalize Y jb jo=qy at *;generalize X jb jt=rx at *;generalize Y jb jt=ry at *;have n1:=jc V2 ty1 ty2 uy1 uy2;have n2:=jc V2 ux1 ux2 tx1 tx2;have m1:=kI ty1 ty2 uy1 uy2;have m2:=kI ux1 ux2 tx1 tx2;unfold KN at hRi;generalize gm qy ry=nx at *;generalize gm rx qx=ny at *;have n3:=gC (by omega) V3 m2.1 (m2.2.mono (by decide)) sx1 (sx2.mono (by decide));have n4:=gC (by omega) V3 m1.1 (m1.2.mono (by decide)) sy1 (sy2.mono (by decide));have m3:=gk V3 m2.1 (m2.2.mono (by decide)) sx1 (sx2.mono (by decide));have m4:=gk V3 m1.1 (m1.2.mono (by decide)) sy1 (sy2.mono (by decide));generalize fQ v ny px=e1 at *;generalize fQ v nx py=e2 at *;have n5:=jc V4 m3.1 (m3.2.mono (by omega)) m4.1 (m4.2.mono (by omega));have m5:=kI m3.1 m3.2 m4.1 m4.2;generalize gm e1 e2=mm at *;have n6:=gA V5 m1.1 (m1.2.mono (by decide));have n7:=gA V5 m2.1 (m2.2.mono (by decide));have n8:=gA V5 m5.1 (m5.2.mono (by omega));generalize kr nx=nx' at *;generalize kr ny=ny' at *;generalize kr mm=mm' at *;have u1:=fun V=>iK V Z ja nx ny mm ga (by omega) (by omega);have u2:=fun V=>iK V (mb Z ja nx ny mm) jb nx' ny' mm' (by rw[qD _ _ _ ga];exact gb) (by omega) (by omega);refine AW.aG rfl (AW.seq (AW.draw aU 17 (by kernel_rfl) ?_));refine qP 5 rfl (af.idx tok (w9 (bs.getD jb.toNat default)).D rfl rfl rfl rfl rfl b0 gPb ?_);refine qP 4 rfl (af.idx tok ((lb.getD jb.toNat default).pts.getD jt.toNat default).D rfl rfl rfl rfl rfl r0 gMt ?_);refine qP 1 rfl (af.call tok rfl rfl rfl rfl rfl cT (qP 4 rfl (af.nil (qU 1 rfl (qK 3 rfl (ae.call tok rfl rfl rfl rfl n1 (qU 3 rfl (ae.call tok rfl rfl rfl rfl n2 ?_))))))));refine qU 2 rfl (qK 4 rfl (ae.call tok rfl rfl rfl rfl n3 (qU 3 rfl (ae.call tok rfl rfl rfl rfl n4 (ae.call tok rfl rfl rfl rfl n5 (qU 1 rfl (ae.nil (AZ.aw ?_))))))));refine AZ.iL 18 rfl rfl rfl (fun V1=>?_);refine AZ.to [2,3,8,9,10,36,37,38,11,12,18,21,22,23] ([(2,.bx [dS ln,aK lb,aH js,aI lds]),(3,.bx [.sl 1 (v.map aq),.sl 4 (bs.map gx.D),.sl 1 (md.map (fun n=>dI n))]),(8,.d (yq v)),(9,.ow 27 ((R i).map sK)),(10,.ow 3 ((O i).map (fun n=>dI n))),(36,.d (aH js)),(37,.d (dI js.length)),(38,.d (dI i)),(11,.d (dI i)),(12,.bx [dS nm,dI kd,dI ja,dI jp,dI jb,dI jo,dI jt]),(18,.d (.v V1)),(21,.d (aq nx)),(22,.d (aq ny)),(23,.d (aq mm))]:St) rfl ?_;refine AZ.seq (AZ.region ?_);refine ao.cut 6 rfl (fun B1 F1 w1=>?_);refine qU 6 rfl (ae.nil ⟨rfl,?_⟩);refine ao.jw tok [0] rfl rfl rfl rfl rfl (by simp) rfl (u1 V1) (fun res R1 hP=>by rw[hP.2];exact ai _) (fun res R1 hP=>?_);obtain ⟨rfl,rfl⟩:=hP;refine ao.nil ?_;refine AZ.to [2,3,8,9,10,36,37,38,11,12,18,21,22,23] ([(2,.bx [dS ln,aK lb,aH js,aI lds]),(3,.bx [.sl 1 (v.map aq),.sl 4 (bs.map gx.D),.sl 1 (md.map (fun n=>dI n))]),(8,.d (yq v)),(9,.ow 27 ((R i).map sK)),(10,.ow 3 ((O i).map (fun n=>dI n))),(36,.d (aH js)),(37,.d (dI js.length)),(38,.d (dI i)),(11,.d (dI i)),(12,.bx [dS nm,dI kd,dI ja,dI jp,dI jb,dI jo,dI jt]),(18,.d (.v V1)),(21,.d (aq nx)),(22,.d (aq ny)),(23,.d (aq mm))]:St) rfl ?_;refine AZ.seq (AZ.any aU (lQ.draw 12 (by kernel_rfl) (fun B1 F1 w1=>?_)));refine qP 5 rfl (af.call tok rfl rfl rfl rfl rfl n6 (qP 2 rfl (af.call tok rfl rfl rfl rfl rfl n7 (qP 2 rfl (af.call tok rfl rfl rfl rfl rfl n8 (af.nil ⟨rfl,?_⟩))))));refine ao.jw tok [0] rfl rfl rfl rfl rfl (by simp) rfl (u2 V1) (fun res R1 hP=>by rw[hP.2];exact ai _) (fun res R1 hP=>?_);obtain ⟨rfl,rfl⟩:=hP;refine ao.nil ?_;refine AZ.to [2,3,8,9,10,36,37,38,11,12,18,21,22,23] ([(2,.bx [dS ln,aK lb,aH js,aI lds]),(3,.bx [.sl 1 (v.map aq),.sl 4 (bs.map gx.D),.sl 1 (md.map (fun n=>dI n))]),(8,.d (yq v)),(9,.ow 27 ((R i).map sK)),(10,.ow 3 ((O i).map (fun n=>dI n))),(36,.d (aH js)),(37,.d (dI js.length)),(38,.d (dI i)),(11,.d (dI i)),(12,.bx [dS nm,dI kd,dI ja,dI jp,dI jb,dI jo,dI jt]),(18,.d (.v V1)),(21,.d (aq nx)),(22,.d (aq ny)),(23,.d (aq mm))]:St) rfl ?_;refine AZ.seq (AZ.fq 18 0 rfl rfl rfl ?_);refine AZ.jx (fun B1 F1 w1=>?_);refine ae.iV tok 18 rfl rfl ?_;refine qU 2 rfl (ae.bs tok rfl rfl rfl rfl ?_);refine ae.lP tok rfl rfl rfl rfl rfl rfl (by rw[ah];show (_+1)*24≤_;omega) (by rw[ah];show _+1≤_;omega) ?_;refine qU 2 rfl (ae.bs tok rfl rfl rfl rfl ?_);refine ae.lP tok rfl rfl rfl rfl rfl rfl (by rw[ah];show (_+1)*8≤_;omega) (by rw[ah];show _+1≤_;omega) ?_;refine qU 2 rfl (ae.nil ⟨rfl,?_⟩);refine AZ.exit ?_;refine qT 1 rfl ?_;rw[aF (x:=(i:Int)+1) (by omega) (by omega)];refine qU 1 rfl (ae.nil ?_);exact⟨i+1,by show _=([(2,.bx [dS ln,aK lb,aH js,aI lds]),(3,.bx [.sl 1 (v.map aq),.sl 4 (bs.map gx.D),.sl 1 (md.map (fun n=>dI n))]),(8,.d (yq v)),(9,.ow 27 ((R (i+1)).map sK)),(10,.ow 3 ((O (i+1)).map (fun n=>dI n))),(36,.d (aH js)),(37,.d (dI js.length)),(38,.d (dI (i+1:Nat)))]:St);rw[hRi,hOi,List.map_append,List.map_append];rfl,hii,by omega⟩
 rw[if_neg hk1] at hRi;rw[beq_eq_false_iff_ne.2 hk1];rw[show Fm (cG.mk nm kd ja jp jb jo jt)=2 by unfold Fm;rw[if_neg hk1]] at hOi;generalize X ja jp=px at *;generalize Y ja jp=py at *;generalize X jb jo=qx at *;generalize Y jb jo=qy at *;have o1:=kZ v.length (q:=1) (k:=1) (by have:=gy;omega);have n6:=gA V2 sy1 sy2;have n7:=gA V2 tx1 tx2;have n8:Pure Tryz.prog 60 [yq v,aq [1]] (aq (kr [1])):=gA V2 (eZ _ _) (fZ (by have:=gy;omega));unfold KZ KY at hRi;generalize kr py=py' at *;generalize kr qx=qx' at *;generalize kr [1]=on' at *;have u1:=fun V=>iK V Z ja [1] [] py' ga (by omega) (by omega);have u2:=fun V=>iK V (mb Z ja [1] [] py') jb on' [] qy (by rw[qD _ _ _ ga];exact gb) (by omega) (by omega);have u3:=fun V=>iK V Z ja [] [1] px ga (by omega) (by omega);have u4:=fun V=>iK V (mb Z ja [] [1] px) jb [] on' qx' (by rw[qD _ _ _ ga];exact gb) (by omega) (by omega);refine AW.aD rfl (AW.skip (qX 2 rfl ?_));rw[ah,hzl];refine ae.G6 tok Z (z:=3*(lb.length-1)) rfl rfl rfl rfl rfl rfl rfl rfl (by omega) hzr ?_;refine qU 1 rfl (ae.nil (AZ.aw ?_));refine AZ.iL 18 rfl rfl rfl (fun V1=>?_);refine AZ.iL 24 rfl rfl rfl (fun V2=>?_);refine AZ.to [2,3,8,9,10,36,37,38,11,12,14,15,16,17,18,24] ([(2,.bx [dS ln,aK lb,aH js,aI lds]),(3,.bx [.sl 1 (v.map aq),.sl 4 (bs.map gx.D),.sl 1 (md.map (fun n=>dI n))]),(8,.d (yq v)),(9,.ow 27 ((R i).map sK)),(10,.ow 3 ((O i).map (fun n=>dI n))),(36,.d (aH js)),(37,.d (dI js.length)),(38,.d (dI i)),(11,.d (dI i)),(12,.bx [dS nm,dI kd,dI ja,dI jp,dI jb,dI jo,dI jt]),(14,.d (aq px)),(15,.d (aq py)),(16,.d (aq qx)),(17,.d (aq qy)),(18,.d (.v V1)),(24,.d (.v V2))]:St) rfl ?_;refine AZ.seq (AZ.any aU (lQ.draw 7 (by kernel_rfl) (fun B1 F1 w1=>?_)));refine qP 3 rfl (af.call tok rfl rfl rfl rfl rfl mf (qP 2 rfl (af.call tok rfl rfl rfl rfl rfl n6 (af.nil ⟨rfl,?_⟩))));refine ao.jw tok [0] rfl rfl rfl rfl rfl (by simp) rfl (u1 V1) (fun res R1 hP=>by rw[hP.2];exact ai _) (fun res R1 hP=>?_);obtain ⟨rfl,rfl⟩:=hP;refine ao.nil ?_;refine AZ.to [2,3,8,9,10,36,37,38,11,12,14,15,16,17,18,24] ([(2,.bx [dS ln,aK lb,aH js,aI lds]),(3,.bx [.sl 1 (v.map aq),.sl 4 (bs.map gx.D),.sl 1 (md.map (fun n=>dI n))]),(8,.d (yq v)),(9,.ow 27 ((R i).map sK)),(10,.ow 3 ((O i).map (fun n=>dI n))),(36,.d (aH js)),(37,.d (dI js.length)),(38,.d (dI i)),(11,.d (dI i)),(12,.bx [dS nm,dI kd,dI ja,dI jp,dI jb,dI jo,dI jt]),(14,.d (aq px)),(15,.d (aq py)),(16,.d (aq qx)),(17,.d (aq qy)),(18,.d (.v V1)),(24,.d (.v V2))]:St) rfl ?_;refine AZ.seq (AZ.any aU (lQ.draw 7 (by kernel_rfl) (fun B1 F1 w1=>?_)));refine qP 4 rfl (af.call tok rfl rfl rfl rfl rfl mf (af.call tok rfl rfl rfl rfl rfl n8 (qP 1 rfl (af.nil ⟨rfl,?_⟩))));refine ao.jw tok [0] rfl rfl rfl rfl rfl (by simp) rfl (u2 V1) (fun res R1 hP=>by rw[hP.2];exact ai _) (fun res R1 hP=>?_);obtain ⟨rfl,rfl⟩:=hP;refine ao.nil ?_;refine AZ.to [2,3,8,9,10,36,37,38,11,12,14,15,16,17,18,24] ([(2,.bx [dS ln,aK lb,aH js,aI lds]),(3,.bx [.sl 1 (v.map aq),.sl 4 (bs.map gx.D),.sl 1 (md.map (fun n=>dI n))]),(8,.d (yq v)),(9,.ow 27 ((R i).map sK)),(10,.ow 3 ((O i).map (fun n=>dI n))),(36,.d (aH js)),(37,.d (dI js.length)),(38,.d (dI i)),(11,.d (dI i)),(12,.bx [dS nm,dI kd,dI ja,dI jp,dI jb,dI jo,dI jt]),(14,.d (aq px)),(15,.d (aq py)),(16,.d (aq qx)),(17,.d (aq qy)),(18,.d (.v V1)),(24,.d (.v V2))]:St) rfl ?_;refine AZ.seq (AZ.any aU (lQ.draw 5 (by kernel_rfl) (fun B1 F1 w1=>?_)));refine qP 3 rfl (af.call tok rfl rfl rfl rfl rfl mf (qP 1 rfl (af.nil ⟨rfl,?_⟩)));refine ao.jw tok [1] rfl rfl rfl rfl rfl (by simp) rfl (u3 V2) (fun res R1 hP=>by rw[hP.2];exact ai _) (fun res R1 hP=>?_);obtain ⟨rfl,rfl⟩:=hP;refine ao.nil ?_;refine AZ.to [2,3,8,9,10,36,37,38,11,12,14,15,16,17,18,24] ([(2,.bx [dS ln,aK lb,aH js,aI lds]),(3,.bx [.sl 1 (v.map aq),.sl 4 (bs.map gx.D),.sl 1 (md.map (fun n=>dI n))]),(8,.d (yq v)),(9,.ow 27 ((R i).map sK)),(10,.ow 3 ((O i).map (fun n=>dI n))),(36,.d (aH js)),(37,.d (dI js.length)),(38,.d (dI i)),(11,.d (dI i)),(12,.bx [dS nm,dI kd,dI ja,dI jp,dI jb,dI jo,dI jt]),(14,.d (aq px)),(15,.d (aq py)),(16,.d (aq qx)),(17,.d (aq qy)),(18,.d (.v V1)),(24,.d (.v V2))]:St) rfl ?_;refine AZ.seq (AZ.any aU (lQ.draw 9 (by kernel_rfl) (fun B1 F1 w1=>?_)));refine qP 4 rfl (af.call tok rfl rfl rfl rfl rfl mf (af.call tok rfl rfl rfl rfl rfl n8 (qP 2 rfl (af.call tok rfl rfl rfl rfl rfl n7 (af.nil ⟨rfl,?_⟩)))));refine ao.jw tok [1] rfl rfl rfl rfl rfl (by simp) rfl (u4 V2) (fun res R1 hP=>by rw[hP.2];exact ai _) (fun res R1 hP=>?_);obtain ⟨rfl,rfl⟩:=hP;refine ao.nil ?_;refine AZ.to [2,3,8,9,10,36,37,38,11,12,14,15,16,17,18,24] ([(2,.bx [dS ln,aK lb,aH js,aI lds]),(3,.bx [.sl 1 (v.map aq),.sl 4 (bs.map gx.D),.sl 1 (md.map (fun n=>dI n))]),(8,.d (yq v)),(9,.ow 27 ((R i).map sK)),(10,.ow 3 ((O i).map (fun n=>dI n))),(36,.d (aH js)),(37,.d (dI js.length)),(38,.d (dI i)),(11,.d (dI i)),(12,.bx [dS nm,dI kd,dI ja,dI jp,dI jb,dI jo,dI jt]),(14,.d (aq px)),(15,.d (aq py)),(16,.d (aq qx)),(17,.d (aq qy)),(18,.d (.v V1)),(24,.d (.v V2))]:St) rfl ?_;refine AZ.fq 18 0 rfl rfl rfl ?_;refine AZ.fq 24 1 rfl rfl rfl ?_;refine AZ.jx (fun B1 F1 w1=>?_);refine ae.iV tok 18 rfl rfl ?_;refine ae.iV tok 24 rfl rfl ?_;refine qU 3 rfl (ae.bs tok rfl rfl rfl rfl ?_);refine ae.lP tok rfl rfl rfl rfl rfl rfl (by rw[ah];show (_+2)*24≤_;omega) (by rw[ah];show _+2≤_;omega) ?_;refine qU 3 rfl (ae.bs tok rfl rfl rfl rfl ?_);refine ae.lP tok rfl rfl rfl rfl rfl rfl (by rw[ah];show (_+2)*8≤_;omega) (by rw[ah];show _+2≤_;omega) ?_;refine qU 2 rfl (ae.nil ⟨rfl,?_⟩);refine qT 1 rfl ?_;rw[aF (x:=(i:Int)+1) (by omega) (by omega)];refine qU 1 rfl (ae.nil ?_);exact⟨i+1,by show _=([(2,.bx [dS ln,aK lb,aH js,aI lds]),(3,.bx [.sl 1 (v.map aq),.sl 4 (bs.map gx.D),.sl 1 (md.map (fun n=>dI n))]),(8,.d (yq v)),(9,.ow 27 ((R (i+1)).map sK)),(10,.ow 3 ((O (i+1)).map (fun n=>dI n))),(36,.d (aH js)),(37,.d (dI js.length)),(38,.d (dI (i+1:Nat)))]:St);rw[hRi,hOi,List.map_append,List.map_append];rfl,hii,by omega⟩
end Lift
namespace Lift
open Go Go.Proofs
def kC(R:NQ→NQ)(S:NQ→Int)(N:NQ→NQ)(T:NQ→NQ→NQ)(s:NQ):NQ :=
 if s.length=1 then [1 / s.getD 0 0] else
 if S (N s)=0 then R (aX (s.take (s.length / 2)) (s.take (s.length / 2))) else
 T (dP (s.take (s.length / 2)) (aZ (s.drop (s.length / 2))) (s.length / 2)) (R (N s))
def bX:Nat→List NQ→NQ→NQ
 | 0,rt,a=>kC (fun _=>[]) (fun _=>0) (fun a=>a) (fun _ _=>[]) (aA a)
 | l+1,rt,a=>kC (bX l rt) (eg l rt) (fe l rt) (aV (l+1) rt) (aA a)
def Md(O:NQ→Prop)(R:NQ→NQ)(S:NQ→Int)(Sk:NQ→Prop)(N:NQ→NQ)(Nk:NQ→Prop)(Tk:NQ→NQ→Prop)(s:NQ):Prop:=s.length≠0∧(s.length≠1 →
 Nk s∧Sk (N s)∧(S (N s)=0→O (aX (s.take (s.length / 2)) (s.take (s.length / 2)))) ∧
 (S (N s)≠0→O (N s)∧Tk (dP (s.take (s.length / 2)) (aZ (s.drop (s.length / 2))) (s.length / 2)) (R (N s))))
def LP:Nat→List NQ→NQ→Prop
 | 0,rt,a=>ph a∧(aA a).length≠0
 | l+1,rt,a=>ph a∧Md (LP l rt) (bX l rt) (eg l rt) (GX l rt) (fe l rt) (K1 l rt) (A9 (l+1) rt) (aA a)
theorem oe{l:Nat}{a:NQ}(ha:ay l a)(h:(aA a).length=1):(aA a).getD 0 0≠0:=(gH ha).one h
theorem Ef{l:Nat}{R:NQ→NQ}{S:NQ→Int}{N:NQ→NQ}{T:NQ→NQ→NQ}{s:NQ}(hs:ay l s)(h0:s.length≠0)
  (hR: ∀l',l=l'+1→ ∀b,ay l' b→ay l' (R b)) (hN: ∀l',l=l'+1→ ∀j,j≤l'→s.length=2^(j+1)→ay l' (N s)) (hT: ∀b c,ay l b→ay l c→ay l (T b c)):ay l (kC R S N T s):=by
 unfold kC;split
 · exact eZ _ _
 rename_i h1
 obtain ⟨i,hi,hla2⟩: ∃i,i≤l∧s.length=2^i:=by
  rcases hs with e | e
  · omega
  · exact e
 have vN:i≠0:=fun e=>h1 (by rw[hla2,e]);obtain ⟨j,rfl⟩: ∃j,i=j+1:=⟨i-1,by omega⟩;obtain ⟨l',rfl⟩: ∃l',l=l'+1:=⟨l-1,by omega⟩;obtain ⟨e1,e2,e3⟩:=bA hla2;have hx:ay l' (s.take (s.length / 2)):= .inr ⟨j,by omega,e1⟩;have hN:=hN l' rfl j (by omega) hla2;split
 · exact(hR l' rfl _ (hx.plus hx)).mono (by omega)
 · exact hT _ _ (.inr ⟨j+1,by omega,by rw[dH,e3,Nat.pow_succ];omega⟩) ((hR l' rfl _ hN).mono (by omega))
theorem gu: ∀(l:Nat) {rt:List NQ} {a:NQ},ay l a→cK rt→l≤rt.length→ay l (bX l rt a)
 | 0,rt,a,ha,hrt,hl=>by
   have hs:=bV ha;show ay 0 (kC _ _ _ _ _);by_cases h0:(aA a).length=0
   · rw[List.length_eq_zero_iff.1 h0];exact cD _
   · exact Ef hs h0 (fun l' h=>by omega) (fun l' h=>by omega) (fun _ _ _ _=>cD _)
 | l+1,rt,a,ha,hrt,hl=>by
   have hs:=bV ha;show ay (l+1) (kC _ _ _ _ _);by_cases h0:(aA a).length=0
   · rw[List.length_eq_zero_iff.1 h0];unfold kC;rw[if_neg (by decide)];split
     · exact(gu l (cD _) hrt (by omega)).mono (by omega)
     · exact e8 (l+1) (cD _) ((gu l (by
        obtain ⟨K,k1,_,k3⟩:=xv (fe l rt []) [] rt;unfold fe
        have t0: ∀c,ay l (aV l rt c []):=fun c=>by
         cases l with
         | zero=>show ay 0 (kz _ c []);unfold kz;rw[if_neg (show ¬c.length<([]:NQ).length from Nat.not_lt_zero _)];unfold jF;rw[if_pos (by show (bC c||true)=true;rw[Bool.or_true])];exact cD _
         | succ l=>show ay (l+1) (kz _ c []);unfold kz;rw[if_neg (show ¬c.length<([]:NQ).length from Nat.not_lt_zero _)];unfold jF;rw[if_pos (by show (bC c||true)=true;rw[Bool.or_true])];exact cD _
        have e:rt.getD (Nat.log2 ([]:NQ).length-1) []=rt.getD 0 []:=rfl;have hd:ay l (rt.getD 0 []):= .inr ⟨0,Nat.zero_le _,hrt 0 (by omega)⟩
        exact(t0 []).plus (e8 l (t0 []) hd hrt (by omega)).minus) hrt (by omega)).mono (by omega)) hrt hl
   · exact Ef hs h0 (fun l' e b hb=>by
      obtain rfl:l=l':=by omega
      exact gu l hb hrt (by omega)) (fun l' e j h1 h2=>by
      obtain rfl:l=l':=by omega
      exact uk h1 h2 hrt (by omega)) (fun b c hb hc=>e8 (l+1) hb hc hrt hl)
set_option maxHeartbeats 1600000 in
theorem BA{l:Nat}{O:NQ→Prop}{R:NQ→NQ}{S:NQ→Int}{Sk:NQ→Prop}{N:NQ→NQ}{Nk:NQ→Prop}{T:NQ→NQ→NQ}{Tk:NQ→NQ→Prop}{rt:List NQ}{a:NQ}(ha:ay l a)(hl5:l≤5)(hl:l≤rt.length)(hl10:rt.length≤10)(sa:ph a)(h0:(aA a).length≠0)
  (hok:l≠0→Md O R S Sk N Nk Tk (aA a))
  (hR: ∀l',l=l'+1→ ∀b,ay l' b→O b→Pure Tryz.prog 175 [gY rt,aq b] (aq (R b)))
  (hRl: ∀l',l=l'+1→ ∀b,ay l' b→ay l' (R b))
  (hS: ∀l',l=l'+1→ ∀b,ay l' b→Sk b→Pure Tryz.prog 45 [gY rt,aq b] (dI (S b)))
  (hN: ∀l',l=l'+1→ ∀b j,j≤l'→b.length=2^(j+1)→Nk b→Pure Tryz.prog 87 [gY rt,aq b] (aq (N b))∧ay l' (N b))
  (hT: ∀b c,ay l b→ay l c→Tk b c→Pure Tryz.prog 128 [gY rt,aq b,aq c] (aq (T b c))):
  Pure Tryz.prog 175 [gY rt,aq a] (aq (kC R S N T (aA a))):=by
 refine qJ 57 Tryz.func175 rfl rfl rfl rfl (by kernel_rfl) (fun B F0 w0=>?_);have cs:=bM a ha hl5 sa (by omega);have hone:=oe ha;obtain ⟨ha,sa⟩:=bf ha sa;generalize aA a=b at cs ha sa hok hone h0 ⊢;have hlb:=ha.len (by omega);unfold kC;refine qX 2 rfl (qK 1 rfl (ae.call tok rfl rfl rfl rfl cs (qU 1 rfl (qI (qX 2 rfl ?_)))));rw[ah];refine qU 1 rfl (ae.nil ?_);by_cases h1:b.length=1
 · have g:=mP (r:=b) (i:=0) (by omega);have cq:=tS (Qr 1) (Qr (b.getD 0 0)) (iy 1 (by have:=gy;omega)) (iy _ (sa 0)) (by omega) (by rw[dc];exact hone h1);rw[dc,dc] at cq;rw[if_pos h1,beq_iff_eq.2 (show (b.length:Int)=1 by omega)];refine AW.aG rfl (AW.seq (AW.nQ tok aU [(7,true),(1,false),(1,true)] 9 [5] (by kernel_rfl) ⟨rfl,?_⟩));refine af.call tok rfl rfl rfl rfl rfl (iq 1 (by decide) (by decide)) ?_;refine qP 1 rfl (af.idx tok (Qr (b.getD 0 0)).D rfl rfl rfl rfl rfl (Int.le_refl _) g ?_);refine qP 1 rfl (af.call tok rfl rfl rfl rfl rfl cq (qP 2 rfl (af.nil ⟨rfl,?_⟩)));refine qP 1 rfl (af.nil ⟨rfl,?_⟩);refine qP 1 rfl (af.nil ⟨_,oG.cons (.bx rfl) (oG.nil),?_⟩);refine qU 1 rfl (qK 1 rfl (ae.nR tok rfl rfl rfl rfl rfl ?_));exact qU 1 rfl (qN rfl)
 rw[if_neg h1,beq_eq_false_iff_ne.2 (show (b.length:Int)≠1 by omega)];refine AW.aD rfl (AW.skip ?_)
 obtain ⟨i,hi,hla2⟩: ∃i,i≤l∧b.length=2^i:=by
  rcases ha with e | e
  · omega
  · exact e
 have vN:i≠0:=fun e=>h1 (by rw[hla2,e]);obtain ⟨j,rfl⟩: ∃j,i=j+1:=⟨i-1,by omega⟩;obtain ⟨l',rfl⟩: ∃l',l=l'+1:=⟨l-1,by omega⟩;have hj:j≤l':=by omega
 obtain ⟨_,o1⟩:=hok (by omega);obtain ⟨oN,oS,oz,oi⟩:=o1 h1;have hN:=hN l' rfl b j hj hla2 oN;have hS:=hS l' rfl _ hN.2 oS;obtain ⟨e1,e2,e3⟩:=bA hla2;obtain ⟨n,hn⟩: ∃n,n=b.length / 2:=⟨_,rfl⟩;rw[← hn] at e1 e2 e3 oz oi ⊢
 have hn2:b.length=n+n:=by
  have:2^(j+1)=2^j*2:=Nat.pow_succ ..;omega
 have hx:ay l' (b.take n):= .inr ⟨j,hj,e1⟩;have hy:ay l' (b.drop n):= .inr ⟨j,hj,e2⟩;refine qX 2 rfl ?_;rw[ah];refine ae.div tok rfl rfl rfl rfl (by decide) ?_;rw[iF _ (by omega),← hn];refine qU 1 rfl (qK 2 rfl (ae.call tok rfl rfl rfl rfl hN.1 ?_));refine qU 1 rfl (qI (qX 2 rfl (ae.call tok rfl rfl rfl rfl hS (qU 1 rfl (ae.nil ?_)))));by_cases hz:S (N b)=0
 · have ci:=hR l' rfl _ (hx.plus hx) (oz hz);have cp:=dY (b.take n) (b.take n) (sa.take n) (sa.take n) (by omega) (by rw[e1];omega) (by rw[e1];omega);rw[if_pos hz,beq_iff_eq.2 hz];refine AW.aG rfl (AW.seq (AW.draw aU 9 (by kernel_rfl) ?_));refine qP 3 rfl ?_;refine af.gW tok (a:=b) (b.take n) rfl rfl rfl rfl rfl trivial (aj n) (Nat.zero_le _) (show n≤b.length by omega) rfl ?_;refine qP 2 rfl ?_;refine af.gW tok (a:=b) (b.take n) rfl rfl rfl rfl rfl trivial (aj n) (Nat.zero_le _) (show n≤b.length by omega) rfl ?_;exact af.call tok rfl rfl rfl rfl rfl cp (af.call tok rfl rfl rfl rfl rfl ci (af.nil (qU 1 rfl (qN rfl))))
 obtain ⟨o2,o3⟩:=oi hz;have ci:=hR l' rfl _ hN.2 o2;have cm:=fv (b.drop n) (sa.drop n) (by omega) (by rw[e2];omega);have cj:=kW (b.take n) (aZ (b.drop n)) n (by omega);have ct:=hT _ _ (.inr ⟨j+1,by omega,by rw[dH,e3,Nat.pow_succ];omega⟩) ((hRl l' rfl _ hN.2).mono (by omega)) o3;rw[if_neg hz,beq_eq_false_iff_ne.2 hz];refine AW.aD rfl (AW.skip (AW.seq (AW.draw aU 14 (by kernel_rfl) ?_)));refine qP 3 rfl ?_;refine af.gW tok (a:=b) (b.take n) rfl rfl rfl rfl rfl trivial (aj n) (Nat.zero_le _) (show n≤b.length by omega) rfl ?_;refine qP 2 rfl ?_;refine af.gW tok (a:=b) (b.drop n) rfl rfl rfl rfl rfl (aj n) trivial (show n≤b.length by omega) (ai _) (by show (b.take b.length).drop n=_;rw[List.take_length]) ?_;exact af.call tok rfl rfl rfl rfl rfl cm (qP 1 rfl (af.call tok rfl rfl rfl rfl rfl cj (qP 2 rfl (af.call tok rfl rfl rfl rfl rfl ci (af.call tok rfl rfl rfl rfl rfl ct (af.nil (qU 1 rfl (qN rfl))))))))
theorem kG: ∀(l:Nat) {rt:List NQ} {a:NQ},ay l a→l≤5→cK rt→l≤rt.length→rt.length≤10→LP l rt a→Pure Tryz.prog 175 [gY rt,aq a] (aq (bX l rt a))
 | 0,rt,a,ha,hl5,hrt,hl,hl10,hok=>BA (O:=fun _=>True) (Sk:=fun _=>True) (Nk:=fun _=>True) (Tk:=fun _ _=>False) ha hl5 hl hl10 hok.1 hok.2 (fun h=>absurd rfl h) (fun l' h=>by omega) (fun l' h=>by omega) (fun l' h=>by omega) (fun l' h=>by omega) (fun _ _ _ _ h=>h.elim)
 | l+1,rt,a,ha,hl5,hrt,hl,hl10,hok=>BA (O:=LP l rt) (Sk:=GX l rt) (Nk:=K1 l rt) (Tk:=A9 (l+1) rt) ha hl5 hl hl10 hok.1 hok.2.1 (fun _=>hok.2) (fun l' e b h1 h2=>by
    obtain rfl:l=l':=by omega
    exact kG l h1 (by omega) hrt (by omega) hl10 h2) (fun l' e b h1=>by
    obtain rfl:l=l':=by omega
    exact gu l h1 hrt (by omega)) (fun l' e b h1 h2=>by
    obtain rfl:l=l':=by omega
    exact fu l h1 (by omega) hrt (by omega) hl10 h2) (fun l' e b j h1 h2 h3=>by
    obtain rfl:l=l':=by omega
    exact⟨mX h1 h2 hrt (by omega) hl10 h3,uk h1 h2 hrt (by omega)⟩) (fun b c h1 h2 h3=>b9 (l+1) h1 h2 hrt hl hl10 h3)
end Lift
namespace Lift
open Go Go.Proofs
def pa(v:List NQ):Prop:= ∃m,iX m v
theorem iX.a{m:Nat}{v:List NQ}(V:iX m v):pa v:=⟨m,V⟩
theorem pa.l5{v:List NQ}(V:pa v):v.length≤5:=V.elim fun _ V=>V.l5
theorem pa.ro{v:List NQ}(V:pa v):cK v:=V.elim fun _ V=>V.ro
def xc(v:List NQ)(a b:NQ):NQ:=aA (aV v.length v a (bX v.length v b))
def rD(v:List NQ)(a:NQ):Int:=eg v.length v a
def Be(v:List NQ)(a b:NQ):Prop:=ph a∧ph b∧A9 v.length v a b∧ph (aV v.length v a b)
def J4(a b:NQ):Prop:=ph a∧ph b∧ph (aX a (aZ b))
def GY(v:List NQ)(a b:NQ):Prop:=ph a∧ph b∧GX v.length v b∧rD v b≠0∧LP v.length v b∧A9 v.length v a (bX v.length v b)∧ph (aV v.length v a (bX v.length v b))
def CJ(v:List NQ)(a:NQ):Prop:=GX v.length v a
theorem CJ.sz{v:List NQ}{a:NQ}(h:CJ v a):ph a:=GX.sz h
theorem Ez{v:List NQ}(V:pa v)(l:List NQ)(hl:l.length≤1000000)(h: ∀i,i<l.length→ay v.length (l.getD i [])∧ph (l.getD i [])):Pure Tryz.prog 42 [gY v,.sl 1 (l.map aq)] aR:=by
 obtain ⟨m,V⟩:=V;obtain ⟨m0,t1,t2,tw,tk⟩:=V.raw.1.t;have l5:=V.l5
 have g: ∀i,(l.map iI).getD i []=iI (l.getD i []):=fun i=>by
  rw[aN,List.getElem?_map,aN];cases l[i]? with
  | none=>rfl
  | some x=>rfl
 have c:=gi (oL v) (l.map iI) (mn:=17300000000000) tw t1 V.raw.1.l V.raw.1.ll tk (fun i hi=>by
  rw[ah] at hi;rw[g];exact fun _=>yS (h i hi).2) (by rw[ah];exact hl) (fun i hi=>by
  rw[ah] at hi
  rw[g,lC];exact Nat.le_trans ((h i hi).1.len (by omega)) (by decide)) (by omega)
 have e:ky (oL v) (l.map iI)=0:=by
  unfold ky;rw[if_neg (by rw[V.raw.2];simp)];refine nO fun j hj=>?_;rw[ah] at hj;rw[fy,g];exact nh (h j (by omega)).1
 rw[e,rP,List.map_map,show (bE ∘ iI)=aq from funext l4] at c;exact c
theorem HW{v:List NQ}{a:NQ}(V:pa v)(ha:ay v.length a)(sa:ph a):Pure Tryz.prog 42 [gY v,.sl 1 [aq a]] aR :=
 Ez V [a] (show 1≤1000000 by decide) (fun i hi=>by
  have:i<1:=hi;obtain rfl:i=0:=by omega
  exact⟨ha,sa⟩)
theorem v9{v:List NQ}{a b:NQ}(V:pa v)(ha:ay v.length a)(sa:ph a)(hb:ay v.length b)(sb:ph b):Pure Tryz.prog 42 [gY v,.sl 1 [aq a,aq b]] aR :=
 Ez V [a,b] (show 2≤1000000 by decide) (fun i hi=>by
  have:i<2:=hi
  match i,this with
  | 0,_=>exact⟨ha,sa⟩
  | 1,_=>exact⟨hb,sb⟩)
theorem Cj{v:List NQ}{a:NQ}{b:NQ}(V:pa v)(ha:ay v.length a)(hb:ay v.length b)(ok:J4 a b):Pure Tryz.prog 105 [gY v,aq a,aq b] (.tu [aq (gm a b),aR]):=by
 refine qJ 22 Tryz.func105 rfl rfl rfl rfl (by kernel_rfl) (fun B0 F0 w0=>?_);have hl5:=V.l5;have hro:=V.ro;obtain ⟨sa,sb,sc⟩:=ok;have cc:=v9 V ha sa hb sb;have c0:=fv b sb (by omega) (Nat.le_trans (hb.len (by omega)) (by decide));have c1:=dY a (aZ b) sa sb.minus (by omega) (Nat.le_trans (ha.len (by omega)) (by decide)) (Nat.le_trans (hb.minus.len (by omega)) (by decide));have c2:=bM (aX a (aZ b)) (ha.plus hb.minus) hl5 sc (by omega);refine qX 3 rfl (qI (qX 3 rfl (ae.nR tok rfl rfl rfl rfl rfl ?_)));refine ae.call tok rfl rfl rfl rfl cc (qU 1 rfl (qK 1 rfl (ae.err tok rfl rfl rfl rfl rfl (ae.nil (AW.aD rfl ?_)))))
 · exact AW.skip (qX 2 rfl (ae.call tok rfl rfl rfl rfl c0 (ae.call tok rfl rfl rfl rfl c1 (ae.call tok rfl rfl rfl rfl c2 (qU 2 rfl (qN rfl))))))
theorem uO{v:List NQ}{a:NQ}{b:NQ}(V:pa v)(ha:ay v.length a)(hb:ay v.length b)(ok:Be v a b):Pure Tryz.prog 106 [gY v,aq a,aq b] (.tu [aq (fQ v a b),aR]):=by
 refine qJ 22 Tryz.func106 rfl rfl rfl rfl (by kernel_rfl) (fun B0 F0 w0=>?_);have hl5:=V.l5;have hro:=V.ro;obtain ⟨sa,sb,st,sc⟩:=ok;have cc:=v9 V ha sa hb sb;have c1:=b9 v.length ha hb hro (ai _) (by omega) st;have c2:=bM _ (e8 v.length ha hb hro (ai _)) hl5 sc (by omega);refine qX 3 rfl (qI (qX 3 rfl (ae.nR tok rfl rfl rfl rfl rfl ?_)));refine ae.call tok rfl rfl rfl rfl cc (qU 1 rfl (qK 1 rfl (ae.err tok rfl rfl rfl rfl rfl (ae.nil (AW.aD rfl ?_)))))
 · exact AW.skip (qX 3 rfl (ae.call tok rfl rfl rfl rfl c1 (ae.call tok rfl rfl rfl rfl c2 (qU 2 rfl (qN rfl)))))
theorem Ck{v:List NQ}{a:NQ}{b:NQ}(V:pa v)(ha:ay v.length a)(hb:ay v.length b)(ok:GY v a b):Pure Tryz.prog 133 [gY v,aq a,aq b] (.tu [aq (xc v a b),aR]):=by
 refine qJ 29 Tryz.func133 rfl rfl rfl rfl (by kernel_rfl) (fun B0 F0 w0=>?_);have hl5:=V.l5;have hro:=V.ro;obtain ⟨sa,sb,sg,s0,si,st,sc⟩:=ok;have cc:=v9 V ha sa hb sb;have hi:=gu v.length hb hro (ai _);have c0:=fu v.length hb hl5 hro (ai _) (by omega) sg;have c1:=kG v.length hb hl5 hro (ai _) (by omega) si;have c2:=b9 v.length ha hi hro (ai _) (by omega) st;have c3:=bM _ (e8 v.length ha hi hro (ai _)) hl5 sc (by omega);change eg v.length v b≠0 at s0;unfold xc;generalize eg v.length v b=z at c0 s0;refine qX 3 rfl (qI (qX 3 rfl (ae.nR tok rfl rfl rfl rfl rfl ?_)));refine ae.call tok rfl rfl rfl rfl cc (qU 1 rfl (qK 1 rfl (ae.err tok rfl rfl rfl rfl rfl (ae.nil (AW.aD rfl ?_)))))
 · refine AW.skip (AW.seq (qX 2 rfl (ae.call tok rfl rfl rfl rfl c0 (qU 1 rfl (ae.nil ?_)))));rw[beq_eq_false_iff_ne.2 s0];refine AW.aD rfl ?_
   · refine AW.skip (AW.seq (AW.draw aU 7 (by kernel_rfl) ?_));exact qP 4 rfl (af.call tok rfl rfl rfl rfl rfl c1 (af.call tok rfl rfl rfl rfl rfl c2 (af.call tok rfl rfl rfl rfl rfl c3 (af.nil (qU 2 rfl (qN rfl))))))
theorem Av{v:List NQ}{a:NQ}(V:pa v)(ha:ay v.length a)(ok:CJ v a):Pure Tryz.prog 22 [gY v,aq a] (.tu [dI (rD v a),aR]):=by
 refine qJ 17 Tryz.func22 rfl rfl rfl rfl (by kernel_rfl) (fun B0 F0 w0=>?_);have hl5:=V.l5;have hro:=V.ro;have cc:=HW V ha ok.sz;have c1:=fu v.length ha hl5 hro (ai _) (by omega) ok;refine qX 3 rfl (qI (qX 2 rfl (ae.nR tok rfl rfl rfl rfl rfl ?_)));refine ae.call tok rfl rfl rfl rfl cc (qU 1 rfl (qK 1 rfl (ae.err tok rfl rfl rfl rfl rfl (ae.nil (AW.aD rfl ?_)))))
 · exact AW.skip (qX 2 rfl (ae.call tok rfl rfl rfl rfl c1 (qU 2 rfl (qN rfl))))
end Lift
namespace Lift
open Go
open Go.RowKit (Below)
section
variable {P:Program} {T:Ty} {B:Nat} {F0:Nat→Prop} {w0:cW} {n:Nat} {σ:St} {all:Array Oper} {rest:List Oper} {o:Oper} {d:Nat} {K:St→Prop}
def HD(T:Ty)(lk:Nat→Option AV):Op→Option (Nat×List D)
 | .binOp .eql t x (.const (.slice none 0 0)) _=>match T.get t,dy T (ex T lk 0 x) with
   | some ti,some (.sl s xs)=>match Nat.beq ti.kind 4 with
     | true=>some (s,xs)
     | false=>none
   | _,_=>none
 | _=>none
theorem C6{w:World}{t e:TypeId}(hi:P.underlying t=some (.slice e))(k:Nat)(b:Option Addr)(l c:Nat):(Op.equalIn (k+1) t (.slice b l c) (.slice none 0 0)).run P w= .ok b.isNone w:=by
 cases b<;>simp[Op.equalIn,run_underlying hi]
theorem HC{w:World}{t e:TypeId}(hi:P.underlying t=some (.slice e))(b:Option Addr)(l c:Nat):(Op.equal t (.slice b l c) (.slice none 0 0)).run P w= .ok b.isNone w:=C6 hi 9999 b l c
theorem H4{w:World}{t e:TypeId}(hi:P.underlying t=some (.slice e))(b:Option Addr)(l c:Nat):(Go.binOp .eql t (.slice b l c) (.slice none 0 0)).run P w= .ok (.bool b.isNone) w:=by
 have:Go.binOp .eql t (.slice b l c) (.slice none 0 0)=(do pure (.bool (← Op.equal t (.slice b l c) (.slice none 0 0))):Sem Value):=rfl;rw[this];simp only[Sem.run_bind,HC hi,Result.andThen_ok,Sem.run_pure]
theorem ae.eqn(hT:bB P T){s:Nat}{xs:List D}(hd:o.dst=some d)(hdn:Nat.ble (d+1) n=true)(hg:o.guard=none)(hx:HD T σ.get o.op=some (s,xs))
  (h: ∀b:Bool,(xs≠[]→b=false)→ae P B F0 w0 n all rest K ((d,.d (.v (.bool b)))::σ)):ae P B F0 w0 n all (o::rest) K σ:=by
 intro a w hR Q hQ;unfold wpList;rw[if_pos (by simp[Region.wanted,hg])];refine .inl ?_;obtain ⟨O,hOr,hO⟩:=hR.own;have hI:=hR.inv hOr hO (fun t=> .tmp t∈o.op.operands) d;obtain ⟨dst,op,ty,pos,after,guard⟩:=o;simp only[] at hd hx hI;cases op<;>try (simp only[HD] at hx;cases hx;done)
 rename_i bop t x y ty2;cases bop<;>try (simp only[HD] at hx;cases hx;done)
 cases y<;>try (simp only[HD] at hx;cases hx;done)
 rename_i c;unfold HD at hx;split at hx<;>try (cases hx;done)
 rename_i heq;simp only[Op.binOp.injEq,Operand.const.injEq,true_and] at heq;obtain ⟨rfl,rfl,rfl,rfl⟩:=heq;split at hx<;>try (cases hx;done)
 rename_i ti s' xs' hti hdx;split at hx<;>simp at hx;rename_i hk;obtain ⟨rfl,rfl⟩:=hx;obtain ⟨info,dd,z,hok⟩:=hT _ ti hti;have hrd:=dV hT hI (fun t ht=>by subst ht;simp[Op.operands]) hdx;obtain ⟨ad,cap,hv,h1,h2,hne⟩:=Rd.AD hrd
 have hg2:(eqGuard .eql t x (.const (.slice none 0 0)) (a.eval x) (.slice none 0 0)).run P w= .ok () w:=by
  rw[hv];simp[eqGuard]
 refine bd (v:= .bool ad.isNone) (w':=w) ?_ ?_
 · simp only[execOp,eval_const,Sem.run_bind,hg2,Result.andThen_ok];rw[hv];rw[H4 (hok.jl hk).1];rfl
 · rw[hd];refine h ad.isNone (fun hx=>?_) _ _ (hR.put hOr hO (Nat.le_of_ble_eq_true hdn) (dp.refl hI.lt) (show eK _ _ _ _ _ _ _ _ (.d (.v (.bool ad.isNone))) (.bool ad.isNone) from Rd.v rfl)) Q hQ;rcases hne with e | ⟨b,off,cs,e,fz,hb,_⟩
   · exact absurd e hx
   · rw[hb];rfl
end
end Lift
namespace Lift
open Go Go.Proofs
abbrev Ig(r:List (List RD)):D:= .sl 1 (r.map bE)
abbrev B7(a:List (List (List RD))):D:= .sl 1 (a.map Ig)
abbrev oH(r:List NQ):D:= .sl 1 (r.map aq)
abbrev mS(a:List (List NQ)):D:= .sl 1 (a.map oH)
structure LI (m:Nat) (rt:List (List RD)) (a:List (List (List RD))):Prop where
 n: ∀i k,kD m rt ((a.getD i []).getD k [])
 l:a.length≤1000000
 r: ∀i,(a.getD i []).length≤1000000
def bK{α:Type}(a:List (List α)):Nat:=(a.getD 0 []).length
def Ip(a:List (List (List RD)))(i:Nat):Nat:=if (a.getD i []).length≠bK a then 10 else 0
def yN(rt:List (List RD))(r:List (List RD)):Nat:=fE (fun k=>ky rt [r.getD k []]) (r.length-0) 0
def G3(rt:List (List RD))(a:List (List (List RD))):Nat :=
 if a.length=0 then 0 else if 32<a.length∨32<bK a then 4 else
 if fE (Ip a) (a.length-0) 0≠0 then fE (Ip a) (a.length-0) 0 else fE (fun i=>yN rt (a.getD i [])) (a.length-0) 0
def D'(rt:List (List RD))(a:List (List (List RD))):Nat:=if dE rt≠0 then dE rt else G3 rt a
structure Nb (m:Nat) (rt:List (List RD)):Prop where
 w: ∀i,i<rt.length→(rt.getD i []).length=2^i→wN m (rt.getD i [])
 m1:1≤m
 l:rt.length≤1000000
 ll: ∀i,i<rt.length→(rt.getD i []).length≤4398046511104
 ok:rt.length≤5→pG rt.length m
 m2:m≤1000000
theorem r8{m:Nat}{rt:List (List RD)}{x:List RD}(T:Nb m rt)(X:kD m rt x):Pure Tryz.prog 174 [wv rt,bE x] (uv (ky rt [x])):=by
 refine qJ 14 Tryz.func174 rfl rfl rfl rfl (by kernel_rfl) (fun B F0 w0=>?_);have hm:=T.m2;have c:=wQ rt x T.w T.m1 T.l T.ll T.ok X.w X.l (by omega);unfold Gl at c;refine qX 2 rfl (qK 2 rfl ?_);by_cases h:ky rt [x]≠0
 · rw[if_pos h] at c;exact ae.call tok rfl rfl rfl rfl c (qU 5 rfl (qK 2 rfl (qN rfl)))
 rw[if_neg h] at c;have h:ky rt [x]=0:=by omega
 rw[h];exact ae.call tok rfl rfl rfl rfl c (qU 5 rfl (qK 2 rfl (qN rfl)))
set_option maxHeartbeats 1600000 in
theorem vG{rt:List (List RD)}{a:List (List (List RD))}(hal:a.length≤1000000)(har: ∀i,(a.getD i []).length≤1000000)(han: ∀i k,Pure Tryz.prog 174 [wv rt,bE ((a.getD i []).getD k [])] (uv (ky rt [(a.getD i []).getD k []]))):Pure Tryz.prog 130 [wv rt,B7 a] (uv (G3 rt a)):=by
 refine qJ 61 Tryz.func130 rfl rfl rfl rfl (by kernel_rfl) (fun B F0 w0=>?_);unfold G3;obtain ⟨E,hE⟩: ∃E,fE (Ip a) (a.length-0) 0=E:=⟨_,rfl⟩;obtain ⟨G,hG⟩: ∃G,fE (fun i=>yN rt (a.getD i [])) (a.length-0) 0=G:=⟨_,rfl⟩;rw[hE,hG];refine qX 2 rfl (qI (qX 2 rfl ?_));rw[ah];refine qU 1 rfl (ae.nil ?_);by_cases h0:a.length=0
 · rw[if_pos h0,h0];exact AW.aG rfl (qX 1 rfl (qN rfl))
 rw[if_neg h0,beq_eq_false_iff_ne.2 (show (a.length:Int)≠0 by omega)];have hc0:bK a=(a.getD 0 []).length:=rfl;have hcl:=har 0;have g0:=getM Ig (l:=a) (i:=0) (by omega);refine AW.aD rfl ?_
 · skip
   refine AW.skip (AW.seq (qX 2 rfl ?_));rw[ah];refine qU 1 rfl ?_;by_cases h1:32<a.length
   · rw[aO (show (32:Int)<(a.length:Int) by omega),if_pos (.inl h1)];exact qU 7 rfl (ae.nil (AW.aG rfl (qX 2 rfl (qN rfl))))
   rw[a9 (show ¬(32:Int)<(a.length:Int) by omega)];refine qU 2 rfl (ae.idx tok (Ig (a.getD 0 [])) rfl rfl rfl rfl (Int.le_refl _) g0 ?_);refine qU 2 rfl ?_;rw[ah];refine qU 1 rfl ?_;by_cases h2:32<bK a
   · rw[aO (show (32:Int)<((a.getD 0 []).length:Int) by omega),if_pos (.inr h2)];exact qU 1 rfl (ae.nil (AW.aG rfl (qX 2 rfl (qN rfl))))
   rw[a9 (show ¬(32:Int)<((a.getD 0 []).length:Int) by omega),if_neg (fun h=>h.elim h1 h2)];refine qU 1 rfl (ae.nil (AW.aD rfl ?_))
   · refine AW.skip (AW.seq (qX 2 rfl ?_));rw[ah];refine qU 1 rfl (ae.nil (AW.block ?_));refine AW.aJ [1,2,26,27,28] (fun i:Nat=>[(1,.d (B7 a)),(2,.bx [.sl 1 (rt.map bE)]),(26,.d (B7 a)),(27,.d (dI a.length)),(28,.d (dI i))]) (fun i=>i≤a.length∧fE (Ip a) (a.length-i) i=E) (fun i=>a.length-i) 0 rfl ⟨Nat.zero_le _,hE⟩ (fun i ⟨hi,hiE⟩=>?_)
     · show AW _ _ _ _ _ _ _ [(1,.d (B7 a)),(2,.bx [.sl 1 (rt.map bE)]),(26,.d (B7 a)),(27,.d (dI a.length)),(28,.d (dI i))];refine qX 1 rfl (qI (AW.cond rfl (fun h=>?_) (fun h=>?_)))
       · have hii:i<a.length:=by have:=ak h;omega
         have hg:=getM Ig (l:=a) (i:=i) hii;have hri:=har i;have hmiss:=fun h0:Ip a i=0=>(db hii h0).symm.trans hiE;have hhit:=fun h0:Ip a i≠0=>(eT hii h0).symm.trans hiE;refine AW.skip (AW.seq (AW.block (AW.seq (AW.region (ae.idx tok (Ig (a.getD i [])) rfl rfl rfl rfl (aj i) hg ?_)))));refine qU 2 rfl (qK 2 rfl ?_);rw[ah];refine qU 1 rfl (ae.idx tok (Ig (a.getD 0 [])) rfl rfl rfl rfl (Int.le_refl _) g0 ?_);refine qU 2 rfl ?_;rw[ah];refine qU 1 rfl (ae.nil (AW.cond rfl (fun h=>?_) (fun h=>?_)))
         · have hne:(a.getD i []).length≠bK a:=by have:=bne_iff_ne.1 h;omega
           have e:Ip a i=10:=if_pos hne;have:=hhit (by rw[e];decide);rw[e] at this;subst this;rw[if_pos (by decide)];exact qX 2 rfl (qN rfl)
         · have heq:(a.getD i []).length=bK a:=by have:=bne_eq_false_iff_eq.1 h;omega
           have e:Ip a i=0:=if_neg (fun h=>h heq);refine AW.skip (qT 1 rfl ?_);rw[aF (x:=(i:Int)+1) (by omega) (by omega)];refine qU 1 rfl (ae.nil ?_);exact⟨i+1,rfl,⟨hii,hmiss e⟩,by omega⟩
       have hii: ¬i<a.length:=by have:=ar h;omega
       rw[eU hii] at hiE;subst hiE;rw[if_neg (by decide)];refine AW.exit (AW.seq (qX 2 rfl ?_));rw[ah];refine qU 1 rfl (ae.nil (AW.block ?_));refine AW.aJ [1,2,41,42,43] (fun i:Nat=>[(1,.d (B7 a)),(2,.bx [.sl 1 (rt.map bE)]),(41,.d (B7 a)),(42,.d (dI a.length)),(43,.d (dI i))]) (fun i=>i≤a.length∧fE (fun i=>yN rt (a.getD i [])) (a.length-i) i=G) (fun i=>a.length-i) 0 rfl ⟨Nat.zero_le _,hG⟩ (fun i ⟨hi,hiG⟩=>?_)
       · show AW _ _ _ _ _ _ _ [(1,.d (B7 a)),(2,.bx [.sl 1 (rt.map bE)]),(41,.d (B7 a)),(42,.d (dI a.length)),(43,.d (dI i))];refine qX 1 rfl (qI (AW.cond rfl (fun h=>?_) (fun h=>?_)))
         · have hii:i<a.length:=by have:=ak h;omega
           have hg:=getM Ig (l:=a) (i:=i) hii;have hri:=har i;have hni:=han i;have hmiss:=fun h0:yN rt (a.getD i [])=0=>(db (f:=fun i=>yN rt (a.getD i [])) hii h0).symm.trans hiG;have hhit:=fun h0:yN rt (a.getD i [])≠0=>(eT (f:=fun i=>yN rt (a.getD i [])) hii h0).symm.trans hiG;refine AW.skip (AW.seq (AW.block (AW.seq (AW.region (ae.idx tok (Ig (a.getD i [])) rfl rfl rfl rfl (aj i) hg ?_)))));refine qU 2 rfl (ae.nil ?_);generalize a.getD i []=r at hri hni hmiss hhit;obtain ⟨H,hH⟩: ∃H,yN rt r=H:=⟨_,rfl⟩;rw[hH] at hmiss hhit;refine qX 2 rfl ?_;rw[ah];refine qU 1 rfl (ae.nil (AW.block ?_));refine AW.aJ [1,2,41,42,43,47,48,49] (fun k:Nat=>[(1,.d (B7 a)),(2,.bx [.sl 1 (rt.map bE)]),(41,.d (B7 a)),(42,.d (dI a.length)),(43,.d (dI i)),(47,.d (Ig r)),(48,.d (dI r.length)),(49,.d (dI k))]) (fun k=>k≤r.length∧fE (fun k=>ky rt [r.getD k []]) (r.length-k) k=H) (fun k=>r.length-k) 0 rfl ⟨Nat.zero_le _,hH⟩ (fun k ⟨hk,hkH⟩=>?_)
           · show AW _ _ _ _ _ _ _ [(1,.d (B7 a)),(2,.bx [.sl 1 (rt.map bE)]),(41,.d (B7 a)),(42,.d (dI a.length)),(43,.d (dI i)),(47,.d (Ig r)),(48,.d (dI r.length)),(49,.d (dI k))];refine qX 1 rfl (qI (AW.cond rfl (fun h=>?_) (fun h=>?_)))
             · have hkk:k<r.length:=by have:=ak h;omega
               have hg2:=getM bE (l:=r) (i:=k) hkk;have cn:=hni k;have km:=fun h0:ky rt [r.getD k []]=0=>(db (f:=fun k=>ky rt [r.getD k []]) hkk h0).symm.trans hkH;have kh:=fun h0:ky rt [r.getD k []]≠0=>(eT (f:=fun k=>ky rt [r.getD k []]) hkk h0).symm.trans hkH;refine AW.skip (AW.seq (AW.block (AW.seq (AW.region (ae.idx tok (bE (r.getD k [])) rfl rfl rfl rfl (aj k) hg2 ?_)))));refine qU 2 rfl (qK 2 rfl (ae.call tok rfl rfl rfl rfl cn (qU 1 rfl (ae.nil ?_))));generalize ky rt [r.getD k []]=e at cn km kh;rcases e with _ | z
               rotate_left
               · have:=kh (Nat.succ_ne_zero z);subst this;have:=hhit (Nat.succ_ne_zero z);subst this;exact qX 1 rfl (ae.err tok rfl rfl rfl rfl rfl (ae.nil (AW.aG rfl (qX 2 rfl (qN rfl)))))
               refine qX 1 rfl (ae.err tok rfl rfl rfl rfl rfl (ae.nil (AW.aD rfl ?_)))
               · skip
                 refine AW.skip (qT 1 rfl ?_);rw[aF (x:=(k:Int)+1) (by omega) (by omega)];refine qU 1 rfl (ae.nil ?_);exact⟨k+1,rfl,⟨hkk,km rfl⟩,by omega⟩
             have hkk: ¬k<r.length:=by have:=ar h;omega
             rw[eU hkk] at hkH;subst hkH;refine AW.exit (qT 1 rfl ?_);rw[aF (x:=(i:Int)+1) (by omega) (by omega)];refine qU 1 rfl (ae.nil ?_);exact⟨i+1,rfl,⟨hii,hmiss rfl⟩,by omega⟩
         have hii: ¬i<a.length:=by have:=ar h;omega
         rw[eU hii] at hiG;subst hiG;exact AW.exit (qX 1 rfl (qN rfl))
theorem r9{m:Nat}{rt:List (List RD)}{a:List (List (List RD))}(T:Nb m rt)(A:LI m rt a):Pure Tryz.prog 130 [wv rt,B7 a] (uv (G3 rt a)) :=
 vG A.l A.r (fun i k=>r8 T (A.n i k))
theorem mI{m:Nat}{rt:List (List RD)}{a:List (List (List RD))}(T:Nb m rt)(A:LI m rt a):Pure Tryz.prog 88 [wv rt,B7 a] (uv (D' rt a)):=by
 refine qJ 14 Tryz.func88 rfl rfl rfl rfl (by kernel_rfl) (fun B F0 w0=>?_);have cc:=ke rt T.w T.m1 T.l T.ll T.ok;have cm:=r9 T A;unfold D';refine qX 2 rfl (qI (qX 1 rfl (ae.call tok rfl rfl rfl rfl cc (qU 1 rfl (ae.nil ?_)))));generalize dE rt=e at cc ⊢;rcases e with _ | z
 rotate_left
 · rw[if_pos (Nat.succ_ne_zero z)];exact qX 1 rfl (ae.err tok rfl rfl rfl rfl rfl (ae.nil (AW.aG rfl (qX 2 rfl (qN rfl)))))
 rw[if_neg (by simp)];refine qX 1 rfl (ae.err tok rfl rfl rfl rfl rfl (ae.nil (AW.aD rfl ?_)))
 · skip
   exact AW.skip (qX 2 rfl (ae.call tok rfl rfl rfl rfl cm (qU 1 rfl (qN rfl))))
theorem nC{v:List NQ}{a:NQ}(V:pa v)(ha:ay v.length a)(ok:CJ v a):Pure Tryz.prog 132 [gY v,aq a] (dI (rD v a)):=by
 refine qJ 14 Tryz.func132 rfl rfl rfl rfl (by kernel_rfl) (fun B F0 w0=>?_);have c:=Av V ha ok;exact qX 2 rfl (qK 2 rfl (ae.call tok rfl rfl rfl rfl c (qU 5 rfl (qK 2 rfl (qN rfl)))))
theorem kR(a:List (List NQ)):Pure Tryz.prog 90 [mS a] (dI (bK a)):=by
 refine qJ 10 Tryz.func90 rfl rfl rfl rfl (by kernel_rfl) (fun B F0 w0=>?_);refine qX 1 rfl (qI (qX 2 rfl ?_));rw[ah];refine qU 1 rfl (ae.nil ?_);by_cases h0:a.length=0
 · rw[List.length_eq_zero_iff.1 h0];exact AW.aG rfl (qX 1 rfl (qN rfl))
 rw[beq_eq_false_iff_ne.2 (show (a.length:Int)≠0 by omega)];have g0:=getM oH (l:=a) (i:=0) (by omega);refine AW.aD rfl ?_
 · refine AW.skip (qX 1 rfl (ae.idx tok (oH (a.getD 0 [])) rfl rfl rfl rfl (Int.le_refl _) g0 ?_));refine qU 2 rfl ?_;rw[ah];exact qU 1 rfl (qN rfl)
def Mb(r:List NQ)(res:D)(R':List LR):Prop:= ∃V,res= .v V∧R'=[(V,AV.ow 52 (r.map aq))]
theorem BR(r:List NQ)(hl:r.length≤1000000):lU Tryz.prog 131 [oH r] [] (Mb r):=by
 refine lU.intro (n:=8) tok Tryz.func131 rfl rfl rfl (Nat.le_of_ble_eq_true rfl) (by kernel_rfl) (fun B F0 w0=>?_);refine AZ.seq (AZ.jx (fun B1 F1 w1=>?_));refine qU 1 rfl (ae.nil ⟨rfl,?_⟩);refine AZ.seq (AZ.seq ?_);refine AZ.jx (fun B1 F1 w1=>?_);refine qU 1 rfl ?_;refine ae.eqn tok rfl rfl rfl rfl (fun b hb=>?_);refine ae.nil ⟨rfl,?_⟩;refine AZ.cond rfl (fun h=>?_) (fun h=>?_)
 · have hr:r=[]:=by
    refine Classical.byContradiction fun hr=>?_;have:=hb (by simp[hr]);rw[this] at h;cases h
   subst hr;refine AZ.seq (AZ.jx (fun B1 F1 w1=>?_));refine qU 1 rfl (ae.nil ⟨rfl,?_⟩);exact AZ.iL 2 rfl rfl rfl (fun V=>AZ.ret ⟨.v V,rfl,V,rfl,rfl⟩)
 · skip
   refine AZ.skip (AZ.seq ?_);refine AZ.jx (fun B1 F1 w1=>?_);refine qU 2 rfl ?_;refine ae.Dn tok rfl rfl rfl rfl (by rw[ah];show r.length*24≤_;omega) ?_;refine qU 1 rfl (ae.nil ⟨rfl,?_⟩);exact AZ.iL 2 rfl rfl rfl (fun V=>AZ.ret ⟨.v V,rfl,V,rfl,rfl⟩)
end Lift
namespace Lift
open Go
open Go.RowKit (Below)
section
variable {P:Program} {T:Ty} {B:Nat} {F0:Nat→Prop} {w0:cW} {n:Nat} {σ:St} {R:List LR} {all ops:Array Oper} {l:List Oper} {o:Oper} {x:Code} {a:Act} {w:World} {K:List LR→St→Prop} {p:lS} {Q:Exit→List LR→St→Prop}
theorem nN: ∀{cs:List D},(∀d,d∈cs→d.flat=[d])→flatAll cs=cs
 | [],h=>rfl
 | d::r,h=>by
   show d.flat++flatAll r=d::r;rw[h d (List.mem_cons_self ..),nN (fun x hx=>h x (List.mem_cons_of_mem _ hx))];rfl
theorem cF.Li{i j k e eo:Nat}{V Vo:Value}{xs cs:List D}(hR:cF P B F0 w0 n R σ a w)(hj:R[j]?=some (Vo,.ow eo cs))(hc1: ∀d,d∈cs→d.flat=[d])(hk:cs[k]?=some (.v V))(hi:R[i]?=some (V,.ow e xs))(hij:i≠j):
  cF P B F0 w0 n ((R.set i (V,.junk)).set j (Vo,.ow eo (cs.set k (.sl (P.cellsOf e) xs)))) σ a w:=by
 obtain ⟨O,hOr,hO,hL⟩:=hR.own
 let O':Nat→Option Nat:=fun b=>if O b=some (n+i) then none else O b
 have h1: ∀b t,O' b=some t→O b=some t:=fun b t h=>by
  simp only[O'] at h;split at h
  · cases h
  · exact h
 have h2: ∀b t,t≠n+i→O b=some t→O' b=some t:=fun b t ht h=>by
  simp only[O',h];rw[if_neg (by simpa using ht)]
 have hF: ∀c,aP O (FW B F0 w) c→aP O' (FW B F0 w) c:=fun c hc=>⟨by simp only[O',hc.1];simp,hc.2⟩
 have hlt: ∀t av,σ.get t=some av→t<n:=fun t av h=>by
  obtain ⟨v,hv,_⟩:=hO t av h;rw[← hR.size];exact(Array.getElem?_eq_some_iff.1 hv).1
 have hil:=(List.getElem?_eq_some_iff.1 hi).1;have hjl:=(List.getElem?_eq_some_iff.1 hj).1;have hkl:=(List.getElem?_eq_some_iff.1 hk).1;refine⟨hR.below,hR.base,hR.f0,hR.defers,hR.size,O',fun b t hb=>hOr b t (h1 b t hb),fun j av hav=>?_,fun m r hr=>?_⟩
 · obtain ⟨v,hv,hr⟩:=hO j av hav;exact⟨v,hv,hr.move (fun c hc=>⟨hF c hc,rfl⟩) (fun _ c hc=>⟨h2 c j (by have:=hlt j av hav;omega) hc,rfl⟩) (fun k _ x _ hk=>⟨hk,rfl⟩)⟩
 · by_cases hmj:m=j
   · subst hmj;rw[List.getElem?_set_self (by simpa using hjl)] at hr;cases hr
     have hcs': ∀d,d∈cs.set k (.sl (P.cellsOf e) xs)→d.flat=[d]:=fun d hd=>by
      rcases List.mem_or_eq_of_mem_set hd with h | h
      · exact hc1 d h
      · subst h;rfl
     rcases hL m _ hj with h | ⟨_,_,h⟩
     · cases h
     refine .inr ⟨rfl,rfl,?_⟩;rcases h with ⟨base,h3,h4⟩ | ⟨b',cap,cs',h3,h4,h5,h6,h7,h8,h9,h10⟩
     · subst h4;simp at hk
     · simp only at h3;subst h3;refine .inr ⟨b',cap,cs',by simp,h2 b' _ (by omega) h4,h5,by simpa using h6,h7,h8,fun d hd=>?_,fun q d hd=>?_⟩
       · rcases List.mem_or_eq_of_mem_set hd with h | h
         · exact h9 d h
         · subst h;have:=h9 _ (List.mem_of_getElem? hk);exact this
       · rw[nN hcs'] at hd;rw[nN hc1] at h10;by_cases hq:q=k
         · subst hq;rw[List.getElem?_set_self hkl] at hd;cases hd;obtain ⟨_,u,hu,hru⟩:=h10 q _ hk;have:=(Rd.j9 hru).1;subst this;refine⟨rfl,_,hu,?_⟩;rcases hL i _ hi with h | ⟨_,_,h⟩
           · cases h
           · rcases h with ⟨base,h3,h4⟩ | ⟨b2,cap2,cs2,g3,g4,g5,g6,g7,g8,g9,g10⟩
             · simp only at h3 h4;subst h3;subst h4;exact .nil (Nat.zero_le _)
             · simp only at g3;subst g3;refine Rd.mD (off:=0) ⟨by simp only[O',g4];simp,(hOr b2 _ g4).fw hR.f0⟩ g5 g6 g7 g9 (fun m d hd=>?_);obtain ⟨f1,u,f2,f3⟩:=g10 m d hd;exact⟨f1,u,by simpa using f2,f3.mono hF (fun _ _=>rfl)⟩
         · rw[List.getElem?_set_ne (Ne.symm hq)] at hd;obtain ⟨f1,u,f2,f3⟩:=h10 q d hd;exact⟨f1,u,f2,f3.mono hF (fun _ _=>rfl)⟩
   · have hr:=jZ hmj hr;by_cases hmi:m=i
     · subst hmi;rw[List.getElem?_set_self hil] at hr;cases hr;exact .inl rfl
     · have:=jZ hmi hr;rcases hL m r this with h | ⟨g1,g2,g3⟩
       · exact .inl h
       · exact .inr ⟨g1,g2,g3.move (fun c hc=>⟨hF c hc,rfl⟩) (fun _ c hc=>⟨h2 c _ (by omega) hc,rfl⟩) (fun k _ x _ hk=>by cases hk)⟩
theorem AZ.Li(hT:bB P T)(i j k:Nat){V Vo:Value}{e eo:Nat}{te:TI}{xs cs:List D}(hj:R[j]?=some (Vo,.ow eo cs))(hc1: ∀d,d∈cs→d.flat=[d])(hk:cs[k]?=some (.v V))(hi:R[i]?=some (V,.ow e xs))(hij:i≠j)(he:T.get e=some te)
  (h:AZ P B F0 w0 n x Q ((R.set i (V,.junk)).set j (Vo,.ow eo (cs.set k (.sl te.size xs)))) σ):AZ P B F0 w0 n x Q R σ:=by
 obtain ⟨info,d,z,hok⟩:=hT e te he;intro a w hR;have:=hR.Li hj hc1 hk hi hij;rw[hok.cellsOf] at this;exact h a w this
theorem ao.Bw(t i:Nat){av:AV}(ht:σ.get t=some av)(hrow:av.row.isSome=true)(htag:av.tag=false)(hi:Nat.ble (i+1) R.length=true)(h: ∀V:Value,ao P B F0 w0 n all l K p (R.set i (V,av)) ((t,.d (.v V))::σ.kill t)):ao P B F0 w0 n all l K p R σ:=by
 intro a w hR hpin Q hQ;obtain ⟨O,_,hO,_⟩:=hR.own;obtain ⟨V,hV,_⟩:=hO t _ ht;exact h V a w (hR.iL (i:=i) ht hrow htag hV (List.getElem?_set_self (Nat.le_of_ble_eq_true hi)) (fun j r hj hr=>jZ hj hr)) hpin Q hQ
theorem bD{K:List LR→St→Prop}(h: ∀B1 F1 w1,wA P B1 F1 w1 R→ae P B1 F1 w1 n ops [o] (fun σ'=>σ'.gL=true∧K R σ') σ):ao P B F0 w0 n ops [o] K [] R σ :=
 ao.MJ 1 rfl (fun B1 F1 w1 hS=>by
  have:=h B1 F1 w1 hS
  refine fun a w hR Q hQ=>this a w hR Q (fun a' w' σ' ⟨h1,h2⟩ hR'=>hQ a' w' σ' ⟨h1,ao.nil h2⟩ hR'))
end
section
variable {P:Program} {T:Ty} {B:Nat} {F0:Nat→Prop} {w0:cW} {n:Nat} {σ:St} {R:List LR} {ops:Array Oper} {o1 o2 o3 o4:Oper} {Q:Exit→List LR→St→Prop} {β:gV} {fuel:Nat} {listed:Array Bool}
end
end Lift
namespace Lift
open Go Go.Proofs
abbrev iC(r:List NQ):AV:=AV.ow 52 (r.map aq)
def kt{α:Type}(zs xs:List α)(i:Nat):List α:=zs.take i++xs.drop i
theorem vD{α:Type}{zs xs:List α}(h:zs.length=xs.length){i:Nat}(hi:i≤xs.length):(kt zs xs i).length=xs.length:=by
 unfold kt;rw[List.length_append,bb,List.length_drop,h];omega
theorem Br{α:Type}{zs xs:List α}(h:zs.length=xs.length){i:Nat}(hi:i<xs.length)(d:α):(kt zs xs i).getD i d=xs.getD i d:=by
 unfold kt;rw[aN,List.getElem?_append_right (by rw[bb];omega),bb,h,List.getElem?_drop,aN]
 congr 2;omega
theorem Bq{α:Type}{zs xs:List α}(h:zs.length=xs.length){i:Nat}(hi:i<xs.length){d z:α}(hz:zs.getD i d=z):(kt zs xs i).set i z=kt zs xs (i+1):=by
 subst hz;refine List.ext_getElem? (fun c=>?_);by_cases hc:c=i
 · subst hc;rw[List.getElem?_set_self (by rw[vD h (by omega)];exact hi)];unfold kt;rw[List.getElem?_append_left (by rw[bb];omega),List.getElem?_take,if_pos (by omega)];have h1:c<zs.length:=by omega
   simp[h1]
 · rw[List.getElem?_set_ne (Ne.symm hc)];unfold kt;rcases Nat.lt_or_ge c i with g | g
   · rw[List.getElem?_append_left (by rw[bb];omega),List.getElem?_append_left (by rw[bb];omega),List.getElem?_take,List.getElem?_take,if_pos g,if_pos (by omega)]
   · rw[List.getElem?_append_right (by rw[bb];omega),List.getElem?_append_right (by rw[bb];omega),List.getElem?_drop,List.getElem?_drop,bb,bb]
     congr 1;omega
theorem xU{α:Type}(zs xs:List α):kt zs xs 0=xs:=by unfold kt;simp
theorem Bs{α:Type}{zs xs:List α}(h:zs.length=xs.length):kt zs xs xs.length=zs:=by
 unfold kt;rw[List.drop_length,List.append_nil,← h,List.take_length]
section
variable {P:Program} {T:Ty} {B:Nat} {F0:Nat→Prop} {w0:cW} {n:Nat} {σ τ:St} {K:St→Prop} {all:Array Oper} {o:Oper} {d:Nat} {rest:List Oper}
theorem ae.Co(hT:bB P T){k e i:Nat}{r:List NQ}(q:NQ)(hd:o.dst=none)(hg:aE all σ o=true)(hx:DS T σ o.op=some (k,.ow e (r.map aq),r.map aq,i,0,aq q))(hi:i<r.length)
  (h:ae P B F0 w0 n all rest K ((k,.ow e ((r.set i q).map aq))::σ)):ae P B F0 w0 n all (o::rest) K σ:=by
 refine ae.kJ hT (aq (r.getD i [])) hd hg hx (getM aq hi) rfl ?_;show ae P B F0 w0 n all rest K ((k,.ow e ((r.map aq).set i (aq q)))::σ);rw[show (r.map aq).set i (aq q)=(r.set i q).map aq from (List.map_set ..).symm];exact h
end
def m6(v:List NQ)(xs ys:List NQ)(c:NQ):List NQ:=(List.range xs.length).map fun k=>gm (xs.getD k []) (fQ v c (ys.getD k []))
theorem rH(v:List NQ)(xs ys:List NQ)(c:NQ):(m6 v xs ys c).length=xs.length:=by unfold m6;rw[ah,List.length_range]
theorem oc(v:List NQ)(xs ys:List NQ)(c:NQ){k:Nat}(h:k<xs.length):(m6 v xs ys c).getD k []=gm (xs.getD k []) (fQ v c (ys.getD k [])):=by
 unfold m6;rw[aN,List.getElem?_map,List.getElem?_range h];rfl
def GS(v:List NQ)(xs ys:List NQ)(c:NQ):Prop:= ∀k,k<xs.length→Be v c (ys.getD k [])∧J4 (xs.getD k []) (fQ v c (ys.getD k []))
def F5(V1 V2:Value)(zs ys:List NQ)(res:D)(R':List LR):Prop:=res=aR∧R'=[(V1,iC zs),(V2,iC ys)]
theorem ij{v:List NQ}(V:pa v){a b:NQ}(ha:ay v.length a)(hb:ay v.length b):ay v.length (fQ v a b):=bV (e8 v.length ha hb V.ro (ai _))
theorem qi{l:Nat}{a b:NQ}(ha:ay l a)(hb:ay l b):ay l (gm a b):=bV (ha.plus hb.minus)
theorem JI{v:List NQ}(V:pa v){a b:NQ}(ha:ay v.length a)(hb:ay v.length b):ay v.length (xc v a b):=bV (e8 v.length ha (gu v.length hb V.ro (ai _)) V.ro (ai _))
set_option maxHeartbeats 3200000 in
theorem vF(V1 V2:Value){v:List NQ}(V:pa v){xs ys:List NQ}{c:NQ}(hl:ys.length=xs.length)(hl0:0<xs.length)(hl1:xs.length≤1000000)(hx: ∀k,ay v.length (xs.getD k []))(hy: ∀k,ay v.length (ys.getD k []))(hc:ay v.length c)(ok:GS v xs ys c):
  lU Tryz.prog 134 [gY v,.v V1,.v V2,aq c] [(V1,iC xs),(V2,iC ys)] (F5 V1 V2 (m6 v xs ys c) ys):=by
 refine lU.intro (n:=47) tok Tryz.func134 rfl rfl rfl (Nat.le_of_ble_eq_true rfl) (by kernel_rfl) (fun B F0 w0=>?_);have hz:=rH v xs ys c;obtain ⟨zs,hzs⟩: ∃zs,m6 v xs ys c=zs:=⟨_,rfl⟩;rw[hzs] at hz ⊢;refine AZ.seq (AZ.jx (fun B1 F1 w1=>?_));refine qU 2 rfl (ae.nil ⟨rfl,?_⟩);refine AZ.seq (AZ.seq ?_);refine AZ.GH (fun B1 F1 w1 hS=>?_);refine qU 1 rfl ?_;refine ae.lens tok (hS.at (i:=0) rfl (by rw[ah];exact hl0)) rfl rfl rfl rfl ?_;refine qU 1 rfl ?_;rw[ah];refine ae.nil ⟨rfl,?_⟩;refine AZ.block ?_;refine AZ.aJ [1,2,3,4,13,14] (fun i:Nat=>([(V1,iC (kt zs xs i)),(V2,iC ys)],[(1,.d (.v V1)),(2,.d (.v V2)),(3,.d (aq c)),(4,.bx [.sl 1 (v.map aq)]),(13,.d (dI xs.length)),(14,.d (dI i))])) (fun i=>i≤xs.length) (fun i=>xs.length-i) 0 (by rw[xU];rfl) (Nat.zero_le _) (fun i hi=>?_)
 · show AZ _ _ _ _ _ _ _ [(V1,iC (kt zs xs i)),(V2,iC ys)] [(1,.d (.v V1)),(2,.d (.v V2)),(3,.d (aq c)),(4,.bx [.sl 1 (v.map aq)]),(13,.d (dI xs.length)),(14,.d (dI i))];refine AZ.seq (AZ.jx (fun B1 F1 w1=>?_));refine qU 1 rfl (ae.nil ⟨rfl,?_⟩);refine AZ.seq ?_;refine AZ.cond rfl (fun h=>?_) (fun h=>?_)
   · have hin:i<xs.length:=by have:=ak h;omega
     have hpl:=vD hz (i:=i) (by omega);have hpg:=Br hz hin [];have hps:=Bq hz hin (d:=[]) (show zs.getD i []=gm (xs.getD i []) (fQ v c (ys.getD i [])) by rw[← hzs];exact oc v xs ys c hin);have hyi:i<ys.length:=by omega
     obtain ⟨okm,oks⟩:=ok i hin;have cm:=uO V hc (hy i) okm;have cs:=Cj V (hx i) (ij V hc (hy i)) oks;generalize kt zs xs i=ps at *;generalize hX:xs.getD i []=X at *;generalize hY:ys.getD i []=Y at *;generalize fQ v c Y=M at *;generalize gm X M=S at *;refine AZ.skip (AZ.seq (AZ.block (AZ.seq ?_)));refine AZ.jx (fun B1 F1 w1=>?_);refine qU 2 rfl (ae.nil ⟨rfl,?_⟩);refine AZ.seq (AZ.any aU (lQ.BO 11 (by kernel_rfl) (fun B1 F1 w1 hS=>?_)));have hS2:=hS.at (i:=1) rfl (by rw[ah];omega);refine qP 4 rfl ?_;refine af.idxs tok hS2 rfl rfl rfl rfl rfl (aj i) (by rw[ah];exact hyi) ?_;refine af.eF tok (aq (ys.getD i [])) hS2 rfl rfl rfl rfl rfl rfl rfl (getM aq hyi) rfl ?_;rw[hY];refine af.call tok rfl rfl rfl rfl rfl cm (qP 4 rfl (af.nil ⟨rfl,?_⟩));refine ao.cut 1 rfl (fun B1 F1 w1=>?_);refine qU 1 rfl (ae.nil ⟨rfl,?_⟩);refine ao.nil (AZ.to [1,2,3,4,9,10,11,13,14] [(1,.d (.v V1)),(2,.d (.v V2)),(3,.d (aq c)),(4,.bx [.sl 1 (v.map aq)]),(9,.d (dI i)),(10,.d (aq M)),(11,.d aR),(13,.d (dI xs.length)),(14,.d (dI i))] rfl ?_);refine AZ.seq (AZ.seq ?_);refine AZ.jx (fun B1 F1 w1=>?_);refine qU 1 rfl (ae.err tok rfl rfl rfl rfl rfl (ae.nil ⟨rfl,?_⟩));refine AZ.aD rfl ?_;refine AZ.skip (AZ.seq (AZ.any aU (ZH.any (β:=[]) ?_)));refine ZH.mv 0 rfl rfl (by kernel_rfl) (by kernel_rfl) (by kernel_rfl) rfl (fun _ _ _ h=>h) (fun _=>rfl) trivial (fun B1 F1 w1=>?_);refine qU 1 rfl (ae.nil ⟨rfl,?_⟩);refine ZH.mv 1 rfl rfl (by kernel_rfl) (by kernel_rfl) (by kernel_rfl) rfl (fun _ _ _ h=>h) (fun _=>rfl) trivial (fun B1 F1 w1=>?_);refine qU 1 rfl (ae.nil ⟨rfl,?_⟩);refine ZH.mv 3 rfl rfl (by kernel_rfl) (by kernel_rfl) (by kernel_rfl) rfl (fun _ _ _ h=>h) (fun _=>rfl) trivial (fun B1 F1 w1=>?_);refine qU 1 rfl (ae.nil ⟨rfl,?_⟩);refine ZH.mv 4 rfl rfl (by kernel_rfl) (by kernel_rfl) (by kernel_rfl) rfl (fun _ _ _ h=>h) (fun _=>rfl) trivial (fun B1 F1 w1=>?_);refine qU 1 rfl (ae.nil ⟨rfl,?_⟩);refine ZH.mv 7 rfl rfl (by kernel_rfl) (by kernel_rfl) (by kernel_rfl) rfl (fun _ _ _ h=>h) (fun _=>rfl) trivial (fun B1 F1 w1=>?_);refine qU 1 rfl (ae.nil ⟨rfl,?_⟩);refine ZH.meet 0 (qB 15 32767) (fun V=>[(V1,iC (kt zs xs (i+1))),(V2,iC ys)]) (fun V=>[(1,.d (.v V1)),(2,.d (.v V2)),(3,.d (aq c)),(4,.bx [.sl 1 (v.map aq)]),(9,.d (dI i)),(10,.d (aq M)),(13,.d (dI xs.length)),(14,.d (dI i)),(31,.d (.v V1)),(32,.d (dI i)),(34,.d (.v V1)),(35,.d (dI i)),(38,.d (aq M)),(33,.d (gY v)),(36,.d (.v (fc V1 (i*1)))),(37,.d (aq X)),(39,.d (.tu [aq S,aR])),(30,.d (.tu [aq S,aR])),(40,.d (aq S)),(41,.d aR),(11,.d aR)]) (fun V=>?_) (fun N1_2_5_1_1=>?_)
     · refine ZH.done (by kernel_rfl) trivial ?_;refine AZ.to [1,2,3,4,11,13,14] [(1,.d (.v V1)),(2,.d (.v V2)),(3,.d (aq c)),(4,.bx [.sl 1 (v.map aq)]),(11,.d aR),(13,.d (dI xs.length)),(14,.d (dI i))] rfl ?_;refine AZ.seq (AZ.jx (fun B1 F1 w1=>?_));refine qU 1 rfl (ae.err tok rfl rfl rfl rfl rfl (ae.nil ⟨rfl,?_⟩));refine AZ.aD rfl ?_;refine AZ.skip (AZ.jx (fun B1 F1 w1=>?_));refine qU 1 rfl ?_;rw[aF (x:=(i:Int)+1) (by omega) (by omega)];refine qU 1 rfl (ae.nil ⟨rfl,?_⟩);exact⟨i+1,rfl,hin,by omega⟩
     refine ZH.meet 1 (qB 15 16383) (fun V=>[(V1,iC (kt zs xs (i+1))),(V2,iC ys)]) (fun V=>[(1,.d (.v V1)),(2,.d (.v V2)),(3,.d (aq c)),(4,.bx [.sl 1 (v.map aq)]),(9,.d (dI i)),(10,.d (aq M)),(13,.d (dI xs.length)),(14,.d (dI i)),(31,.d (.v V1)),(32,.d (dI i)),(34,.d (.v V1)),(35,.d (dI i)),(38,.d (aq M)),(33,.d (gY v)),(36,.d (.v (fc V1 (i*1)))),(37,.d (aq X)),(39,.d (.tu [aq S,aR])),(30,.d (.tu [aq S,aR])),(40,.d (aq S)),(41,.d aR)]) (fun V=>?_) (fun N1_2_5_1_0=>?_)
     · refine ZH.all 14 (by kernel_rfl) rfl rfl (fun _=>rfl) trivial ?_;refine bJ (fun B1 F1 w1=>?_);refine qU 1 rfl (ae.nil ⟨rfl,?_⟩);exact qL (N1_2_5_1_1 V) (by kernel_rfl) rfl trivial
     refine ZH.meet 2 (qB 15 8191) (fun V=>[(V1,iC ps),(V2,iC ys)]) (fun V=>[(1,.d (.v V1)),(2,.d (.v V2)),(3,.d (aq c)),(4,.bx [.sl 1 (v.map aq)]),(9,.d (dI i)),(10,.d (aq M)),(13,.d (dI xs.length)),(14,.d (dI i)),(31,.d (.v V1)),(32,.d (dI i)),(34,.d (.v V1)),(35,.d (dI i)),(38,.d (aq M)),(33,.d (gY v)),(36,.d (.v (fc V1 (i*1)))),(37,.d (aq X)),(39,.d (.tu [aq S,aR])),(30,.d (.tu [aq S,aR])),(40,.d (aq S)),(42,.d (.v (fc V1 (i*1)))),(41,.d aR)]) (fun V=>?_) (fun N1_2_4_1_0=>?_)
     · refine ZH.all 13 (by kernel_rfl) rfl rfl (fun _=>rfl) trivial ?_;refine ao.fq 31 0 rfl rfl rfl ?_;refine ao.el tok 31 42 rfl (List.Mem.head _) rfl rfl rfl (by rw[ah,hpl];exact hin) rfl ?_;refine ao.cut 1 rfl (fun B1 F1 w1=>?_);refine ae.Co tok S rfl rfl rfl (by omega) ?_;rw[hps];refine ae.nil ⟨rfl,?_⟩;refine ao.back 31 0 rfl rfl rfl (List.Mem.head _) rfl ?_;exact ao.nil (qL (N1_2_5_1_0 V) (by kernel_rfl) rfl trivial)
     refine ZH.meet 2 (qB 15 14335) (fun V=>[(V1,iC (kt zs xs (i+1))),(V2,iC ys)]) (fun V=>[(1,.d (.v V1)),(2,.d (.v V2)),(3,.d (aq c)),(4,.bx [.sl 1 (v.map aq)]),(9,.d (dI i)),(10,.d (aq M)),(13,.d (dI xs.length)),(14,.d (dI i)),(31,.d (.v V1)),(32,.d (dI i)),(34,.d (.v V1)),(35,.d (dI i)),(38,.d (aq M)),(33,.d (gY v)),(36,.d (.v (fc V1 (i*1)))),(37,.d (aq X)),(39,.d (.tu [aq S,aR])),(30,.d (.tu [aq S,aR])),(40,.d (aq S))]) (fun V=>?_) (fun N1_2_5_0_0=>?_)
     · refine ZH.all 11 (by kernel_rfl) rfl rfl (fun _=>rfl) trivial ?_;refine bJ (fun B1 F1 w1=>?_);refine qU 1 rfl (ae.nil ⟨rfl,?_⟩);exact qL (N1_2_5_1_0 V) (by kernel_rfl) rfl trivial
     refine ZH.meet 3 (qB 15 4095) (fun V=>[(V1,iC ps),(V2,iC ys)]) (fun V=>[(1,.d (.v V1)),(2,.d (.v V2)),(3,.d (aq c)),(4,.bx [.sl 1 (v.map aq)]),(9,.d (dI i)),(10,.d (aq M)),(13,.d (dI xs.length)),(14,.d (dI i)),(31,.d (.v V1)),(32,.d (dI i)),(34,.d (.v V1)),(35,.d (dI i)),(38,.d (aq M)),(33,.d (gY v)),(36,.d (.v (fc V1 (i*1)))),(37,.d (aq X)),(39,.d (.tu [aq S,aR])),(30,.d (.tu [aq S,aR])),(40,.d (aq S)),(41,.d aR)]) (fun V=>?_) (fun N1_2_3_1_0=>?_)
     · refine ZH.all 12 (by kernel_rfl) rfl rfl (fun _=>rfl) trivial ?_;refine bD (fun B1 F1 w1 hS=>?_);refine ae.idxs tok (hS.at (i:=0) rfl (by rw[ah];omega)) rfl rfl rfl rfl (aj i) (by rw[ah,hpl];exact hin) ?_;refine ae.nil ⟨rfl,?_⟩;exact qL (N1_2_4_1_0 V) (by kernel_rfl) rfl trivial
     refine ZH.meet 3 (qB 15 6143) (fun V=>[(V1,iC ps),(V2,iC ys)]) (fun V=>[(1,.d (.v V1)),(2,.d (.v V2)),(3,.d (aq c)),(4,.bx [.sl 1 (v.map aq)]),(9,.d (dI i)),(10,.d (aq M)),(13,.d (dI xs.length)),(14,.d (dI i)),(31,.d (.v V1)),(32,.d (dI i)),(34,.d (.v V1)),(35,.d (dI i)),(38,.d (aq M)),(33,.d (gY v)),(36,.d (.v (fc V1 (i*1)))),(37,.d (aq X)),(39,.d (.tu [aq S,aR])),(30,.d (.tu [aq S,aR])),(40,.d (aq S)),(42,.d (.v (fc V1 (i*1))))]) (fun V=>?_) (fun N1_2_4_0_0=>?_)
     · refine ZH.two 11 13 (by kernel_rfl) rfl rfl rfl rfl (fun _=>rfl) (fun _=>rfl) trivial ?_ ?_
       · refine bJ (fun B1 F1 w1=>?_);refine qU 1 rfl (ae.nil ⟨rfl,?_⟩);exact qL (N1_2_4_1_0 V) (by kernel_rfl) rfl trivial
       · refine ao.fq 31 0 rfl rfl rfl ?_;refine ao.el tok 31 42 rfl (List.Mem.head _) rfl rfl rfl (by rw[ah,hpl];exact hin) rfl ?_;refine ao.cut 1 rfl (fun B1 F1 w1=>?_);refine ae.Co tok S rfl rfl rfl (by omega) ?_;rw[hps];refine ae.nil ⟨rfl,?_⟩;refine ao.back 31 0 rfl rfl rfl (List.Mem.head _) rfl ?_;exact ao.nil (qL (N1_2_5_0_0 V) (by kernel_rfl) rfl trivial)
     refine ZH.meet 4 (qB 15 3071) (fun V=>[(V1,iC ps),(V2,iC ys)]) (fun V=>[(1,.d (.v V1)),(2,.d (.v V2)),(3,.d (aq c)),(4,.bx [.sl 1 (v.map aq)]),(9,.d (dI i)),(10,.d (aq M)),(13,.d (dI xs.length)),(14,.d (dI i)),(31,.d (.v V1)),(32,.d (dI i)),(34,.d (.v V1)),(35,.d (dI i)),(38,.d (aq M)),(33,.d (gY v)),(36,.d (.v (fc V1 (i*1)))),(37,.d (aq X)),(39,.d (.tu [aq S,aR])),(30,.d (.tu [aq S,aR])),(41,.d aR)]) (fun V=>?_) (fun N1_2_2_1_0=>?_)
     · refine ZH.all 10 (by kernel_rfl) rfl rfl (fun _=>rfl) trivial ?_;refine bJ (fun B1 F1 w1=>?_);refine qU 1 rfl (ae.nil ⟨rfl,?_⟩);exact qL (N1_2_3_1_0 V) (by kernel_rfl) rfl trivial
     refine ZH.meet 4 (qB 15 2047) (fun V=>[(V1,iC ps),(V2,iC ys)]) (fun V=>[(1,.d (.v V1)),(2,.d (.v V2)),(3,.d (aq c)),(4,.bx [.sl 1 (v.map aq)]),(9,.d (dI i)),(10,.d (aq M)),(13,.d (dI xs.length)),(14,.d (dI i)),(31,.d (.v V1)),(32,.d (dI i)),(34,.d (.v V1)),(35,.d (dI i)),(38,.d (aq M)),(33,.d (gY v)),(36,.d (.v (fc V1 (i*1)))),(37,.d (aq X)),(39,.d (.tu [aq S,aR])),(30,.d (.tu [aq S,aR])),(40,.d (aq S))]) (fun V=>?_) (fun N1_2_3_0_0=>?_)
     · refine ZH.two 11 12 (by kernel_rfl) rfl rfl rfl rfl (fun _=>rfl) (fun _=>rfl) trivial ?_ ?_
       · refine bJ (fun B1 F1 w1=>?_);refine qU 1 rfl (ae.nil ⟨rfl,?_⟩);exact qL (N1_2_3_1_0 V) (by kernel_rfl) rfl trivial
       · refine bD (fun B1 F1 w1 hS=>?_);refine ae.idxs tok (hS.at (i:=0) rfl (by rw[ah];omega)) rfl rfl rfl rfl (aj i) (by rw[ah,hpl];exact hin) ?_;refine ae.nil ⟨rfl,?_⟩;exact qL (N1_2_4_0_0 V) (by kernel_rfl) rfl trivial
     refine ZH.meet 5 (qB 15 1023) (fun V=>[(V1,iC ps),(V2,iC ys)]) (fun V=>[(1,.d (.v V1)),(2,.d (.v V2)),(3,.d (aq c)),(4,.bx [.sl 1 (v.map aq)]),(9,.d (dI i)),(10,.d (aq M)),(13,.d (dI xs.length)),(14,.d (dI i)),(31,.d (.v V1)),(32,.d (dI i)),(34,.d (.v V1)),(35,.d (dI i)),(38,.d (aq M)),(33,.d (gY v)),(36,.d (.v (fc V1 (i*1)))),(37,.d (aq X)),(39,.d (.tu [aq S,aR])),(30,.d (.tu [aq S,aR]))]) (fun V=>?_) (fun N1_2_2_0_0=>?_)
     · refine ZH.two 10 11 (by kernel_rfl) rfl rfl rfl rfl (fun _=>rfl) (fun _=>rfl) trivial ?_ ?_
       · refine bJ (fun B1 F1 w1=>?_);refine qU 1 rfl (ae.nil ⟨rfl,?_⟩);exact qL (N1_2_3_0_0 V) (by kernel_rfl) rfl trivial
       · refine bJ (fun B1 F1 w1=>?_);refine qU 1 rfl (ae.nil ⟨rfl,?_⟩);exact qL (N1_2_2_1_0 V) (by kernel_rfl) rfl trivial
     refine ZH.meet 6 (qB 15 511) (fun V=>[(V1,iC ps),(V2,iC ys)]) (fun V=>[(1,.d (.v V1)),(2,.d (.v V2)),(3,.d (aq c)),(4,.bx [.sl 1 (v.map aq)]),(9,.d (dI i)),(10,.d (aq M)),(13,.d (dI xs.length)),(14,.d (dI i)),(31,.d (.v V1)),(32,.d (dI i)),(34,.d (.v V1)),(35,.d (dI i)),(38,.d (aq M)),(33,.d (gY v)),(36,.d (.v (fc V1 (i*1)))),(37,.d (aq X)),(39,.d (.tu [aq S,aR]))]) (fun V=>?_) (fun N1_2_1_0_0=>?_)
     · refine ZH.all 9 (by kernel_rfl) rfl rfl (fun _=>rfl) trivial ?_;refine bJ (fun B1 F1 w1=>?_);refine qU 1 rfl (ae.nil ⟨rfl,?_⟩);exact qL (N1_2_2_0_0 V) (by kernel_rfl) rfl trivial
     refine ZH.meet 7 (qB 15 255) (fun V=>[(V1,iC ps),(V2,iC ys)]) (fun V=>[(1,.d (.v V1)),(2,.d (.v V2)),(3,.d (aq c)),(4,.bx [.sl 1 (v.map aq)]),(9,.d (dI i)),(10,.d (aq M)),(13,.d (dI xs.length)),(14,.d (dI i)),(31,.d (.v V1)),(32,.d (dI i)),(34,.d (.v V1)),(35,.d (dI i)),(38,.d (aq M)),(33,.d (gY v)),(36,.d (.v (fc V1 (i*1)))),(37,.d (aq X))]) (fun V=>?_) (fun N1_2_0_0_0=>?_)
     · refine ZH.all 8 (by kernel_rfl) rfl rfl (fun _=>rfl) trivial ?_;refine bJ (fun B1 F1 w1=>?_);refine ae.call tok rfl rfl rfl rfl cs (ae.nil ⟨rfl,?_⟩);exact qL (N1_2_1_0_0 V) (by kernel_rfl) rfl trivial
     refine ZH.meet 8 (qB 15 251) (fun V=>[(V1,iC ps),(V2,iC ys)]) (fun V=>[(1,.d (.v V1)),(2,.d (.v V2)),(3,.d (aq c)),(4,.bx [.sl 1 (v.map aq)]),(9,.d (dI i)),(10,.d (aq M)),(13,.d (dI xs.length)),(14,.d (dI i)),(31,.d (.v V1)),(32,.d (dI i)),(34,.d (.v V1)),(35,.d (dI i)),(38,.d (aq M)),(36,.d (.v (fc V1 (i*1)))),(37,.d (aq X))]) (fun V=>?_) (fun N0_2_0_0_0=>?_)
     · refine ZH.all 2 (by kernel_rfl) rfl rfl (fun _=>rfl) trivial ?_;refine bJ (fun B1 F1 w1=>?_);refine qU 1 rfl (ae.nil ⟨rfl,?_⟩);exact qL (N1_2_0_0_0 V) (by kernel_rfl) rfl trivial
     refine ZH.meet 8 (qB 15 191) (fun V=>[(V1,iC ps),(V2,iC ys)]) (fun V=>[(1,.d (.v V1)),(2,.d (.v V2)),(3,.d (aq c)),(4,.bx [.sl 1 (v.map aq)]),(9,.d (dI i)),(10,.d (aq M)),(13,.d (dI xs.length)),(14,.d (dI i)),(31,.d (.v V1)),(32,.d (dI i)),(34,.d (.v V1)),(35,.d (dI i)),(38,.d (aq M)),(33,.d (gY v)),(36,.d (.v (fc V1 (i*1))))]) (fun V=>?_) (fun N1_1_0_0_0=>?_)
     · refine ZH.all 6 (by kernel_rfl) rfl rfl (fun _=>rfl) trivial ?_;refine bD (fun B1 F1 w1 hS=>?_);refine ae.eF tok (aq (ps.getD i [])) (hS.at (i:=0) rfl (by rw[ah];omega)) rfl rfl rfl rfl rfl rfl (getM aq (by omega)) rfl ?_;rw[hpg];refine ae.nil ⟨rfl,?_⟩;exact qL (N1_2_0_0_0 V) (by kernel_rfl) rfl trivial
     refine ZH.meet 9 (qB 15 187) (fun V=>[(V1,iC ps),(V2,iC ys)]) (fun V=>[(1,.d (.v V1)),(2,.d (.v V2)),(3,.d (aq c)),(4,.bx [.sl 1 (v.map aq)]),(9,.d (dI i)),(10,.d (aq M)),(13,.d (dI xs.length)),(14,.d (dI i)),(31,.d (.v V1)),(32,.d (dI i)),(34,.d (.v V1)),(35,.d (dI i)),(38,.d (aq M)),(36,.d (.v (fc V1 (i*1))))]) (fun V=>?_) (fun N0_1_0_0_0=>?_)
     · refine ZH.two 2 6 (by kernel_rfl) rfl rfl rfl rfl (fun _=>rfl) (fun _=>rfl) trivial ?_ ?_
       · refine bJ (fun B1 F1 w1=>?_);refine qU 1 rfl (ae.nil ⟨rfl,?_⟩);exact qL (N1_1_0_0_0 V) (by kernel_rfl) rfl trivial
       · refine bD (fun B1 F1 w1 hS=>?_);refine ae.eF tok (aq (ps.getD i [])) (hS.at (i:=0) rfl (by rw[ah];omega)) rfl rfl rfl rfl rfl rfl (getM aq (by omega)) rfl ?_;rw[hpg];refine ae.nil ⟨rfl,?_⟩;exact qL (N0_2_0_0_0 V) (by kernel_rfl) rfl trivial
     refine ZH.meet 9 (qB 15 159) (fun V=>[(V1,iC ps),(V2,iC ys)]) (fun V=>[(1,.d (.v V1)),(2,.d (.v V2)),(3,.d (aq c)),(4,.bx [.sl 1 (v.map aq)]),(9,.d (dI i)),(10,.d (aq M)),(13,.d (dI xs.length)),(14,.d (dI i)),(31,.d (.v V1)),(32,.d (dI i)),(34,.d (.v V1)),(35,.d (dI i)),(38,.d (aq M)),(33,.d (gY v))]) (fun V=>?_) (fun N1_0_0_0_0=>?_)
     · refine ZH.all 5 (by kernel_rfl) rfl rfl (fun _=>rfl) trivial ?_;refine bD (fun B1 F1 w1 hS=>?_);refine ae.idxs tok (hS.at (i:=0) rfl (by rw[ah];omega)) rfl rfl rfl rfl (aj i) (by rw[ah,hpl];exact hin) ?_;refine ae.nil ⟨rfl,?_⟩;exact qL (N1_1_0_0_0 V) (by kernel_rfl) rfl trivial
     refine ZH.meet 10 (qB 15 155) (fun V=>[(V1,iC ps),(V2,iC ys)]) (fun V=>[(1,.d (.v V1)),(2,.d (.v V2)),(3,.d (aq c)),(4,.bx [.sl 1 (v.map aq)]),(9,.d (dI i)),(10,.d (aq M)),(13,.d (dI xs.length)),(14,.d (dI i)),(31,.d (.v V1)),(32,.d (dI i)),(34,.d (.v V1)),(35,.d (dI i)),(38,.d (aq M))]) (fun V=>?_) (fun N0_0_0_0_0=>?_)
     · refine ZH.two 2 5 (by kernel_rfl) rfl rfl rfl rfl (fun _=>rfl) (fun _=>rfl) trivial ?_ ?_
       · refine bJ (fun B1 F1 w1=>?_);refine qU 1 rfl (ae.nil ⟨rfl,?_⟩);exact qL (N1_0_0_0_0 V) (by kernel_rfl) rfl trivial
       · refine bD (fun B1 F1 w1 hS=>?_);refine ae.idxs tok (hS.at (i:=0) rfl (by rw[ah];omega)) rfl rfl rfl rfl (aj i) (by rw[ah,hpl];exact hin) ?_;refine ae.nil ⟨rfl,?_⟩;exact qL (N0_1_0_0_0 V) (by kernel_rfl) rfl trivial
     exact qL (N0_0_0_0_0 ig) (by kernel_rfl) rfl trivial
   have hin:i=xs.length:=by have:=ar h;omega
   subst hin;rw[Bs hz];refine AZ.exit ?_;refine AZ.seq (AZ.jx (fun B1 F1 w1=>?_));refine qU 1 rfl (ae.nil ⟨rfl,?_⟩);exact AZ.ret ⟨aR,rfl,rfl,rfl⟩
end Lift
namespace Lift
abbrev cV:=List (List NQ)
structure jK where
 rows:cV
 cols:List Nat
 sg:Int
 gX:NQ
def jT(g:Nat→Bool):Nat→Nat→Nat
 | 0,i=>i
 | m+1,i=>if g i=true then i else jT g m (i+1)
theorem xZ{g:Nat→Bool}{n i:Nat}(h:i<n)(h0:g i=false):jT g (n-i) i=jT g (n-(i+1)) (i+1):=by
 rw[show n-i=(n-(i+1))+1 by omega,jT,if_neg (by rw[h0];simp)]
theorem BF{g:Nat→Bool}{n i:Nat}(h:i<n)(h0:g i=true):jT g (n-i) i=i:=by
 rw[show n-i=(n-(i+1))+1 by omega,jT,if_pos h0]
theorem BG{g:Nat→Bool}{n i:Nat}(h: ¬i<n):jT g (n-i) i=i:=by rw[show n-i=0 by omega,jT]
theorem sA{g:Nat→Bool}: ∀{m i:Nat},i≤jT g m i∧jT g m i≤i+m∧(∀k,i≤k→k<jT g m i→g k=false)∧(jT g m i<i+m→g (jT g m i)=true)
 | 0,i=>⟨ai _,ai _,fun k h1 h2=>by simp only[jT] at h2;omega,fun h=>by simp only[jT] at h;omega⟩
 | m+1,i=>by
   simp only[jT];split
   · rename_i h;exact⟨ai _,by omega,fun k h1 h2=>by omega,fun _=>h⟩
   · rename_i h;obtain ⟨h1,h2,h3,h4⟩:=sA (g:=g) (m:=m) (i:=i+1);refine⟨by omega,by omega,fun k k1 k2=>?_,fun k=>h4 (by omega)⟩;by_cases e:k=i
     · subst e;simpa using h
     · exact h3 k (by omega) k2
def bk(a:cV)(i k:Nat):NQ:=(a.getD i []).getD k []
def Mf(v:List NQ)(a:cV)(c j:Nat):Bool:=decide (rD v (bk a j c)≠0)
def Gc(b:cV)(r t:Nat):cV:=(b.set t (b.getD r [])).set r (b.getD t [])
def dA(v:List NQ)(e:cV)(r c:Nat):Nat→cV
 | 0=>e
 | i+1=>if i≠r∧rD v (bk (dA v e r c i) i c)≠0 then (dA v e r c i).set i (m6 v ((dA v e r c i).getD i []) ((dA v e r c i).getD r []) (bk (dA v e r c i) i c)) else dA v e r c i
def atR(v:List NQ)(s:jK)(c:Nat):Nat:=jT (Mf v s.rows c) (s.rows.length-s.cols.length) s.cols.length
def bR(v:List NQ)(s:jK)(c:Nat):cV:=if atR v s c=s.cols.length then s.rows else Gc s.rows s.cols.length (atR v s c)
def pR(v:List NQ)(s:jK)(c:Nat):NQ:=bk (bR v s c) s.cols.length c
def FJ(v:List NQ)(r:List NQ)(p:NQ):List NQ:=r.map (fun x=>xc v x p)
def eR(v:List NQ)(s:jK)(c:Nat):cV:=(bR v s c).set s.cols.length (FJ v ((bR v s c).getD s.cols.length []) (pR v s c))
def cL(v:List NQ)(s:jK)(c:Nat):jK :=
 if atR v s c<s.rows.length then ⟨dA v (eR v s c) s.cols.length c (eR v s c).length,s.cols++[c],if atR v s c=s.cols.length then s.sg else -s.sg,fQ v s.gX (pR v s c)⟩ else s
def aC(v:List NQ)(a:cV):Nat→jK
 | 0=>⟨a,[],1,[1]⟩
 | c+1=>cL v (aC v a c) c
structure kx (v:List NQ) (s:jK) (c:Nat):Prop where
 sg: ∀j,s.cols.length≤j→j<s.rows.length→CJ v (bk s.rows j c)
 gX:atR v s c<s.rows.length→Be v s.gX (pR v s c)
 div:atR v s c<s.rows.length→ ∀k,k<((bR v s c).getD s.cols.length []).length→GY v (bk (bR v s c) s.cols.length k) (pR v s c)
 sg2:atR v s c<s.rows.length→ ∀i,i<s.rows.length→i≠s.cols.length→CJ v (bk (eR v s c) i c)
 take:atR v s c<s.rows.length→ ∀i,i<s.rows.length→i≠s.cols.length→rD v (bk (eR v s c) i c)≠0→GS v ((eR v s c).getD i []) ((eR v s c).getD s.cols.length []) (bk (eR v s c) i c)
def dk(N:Nat)(a:cV):Prop:= ∀j,j<a.length→(a.getD j []).length=N
def rB(l:Nat)(a:cV):Prop:= ∀j k,ay l (bk a j k)
theorem eH(a:cV)(i j:Nat)(r:List NQ):(a.set i r).getD j []=if j=i∧i<a.length then r else a.getD j []:=by
 rw[aN,List.getElem?_set,aN];by_cases e:i=j
 · subst e;by_cases h:i<a.length
   · rw[if_pos rfl,if_pos h,if_pos ⟨rfl,h⟩];rfl
   · rw[if_pos rfl,if_neg h,if_neg (fun e=>h e.2),List.getElem?_eq_none (by omega)]
 · rw[if_neg e,if_neg (fun h=>e h.1.symm)]
theorem mq{a:cV}{i:Nat}(h:a.length≤i):a.getD i []=[]:=by rw[aN,List.getElem?_eq_none h];rfl
theorem re{r:List NQ}{i:Nat}(h:r.length≤i):r.getD i []=[]:=by rw[aN,List.getElem?_eq_none h];rfl
theorem dk.set{N:Nat}{a:cV}(h:dk N a){r:List NQ}(hr:r.length=N)(i:Nat):dk N (a.set i r):=fun j hj=>by
 rw[eH];split
 · exact hr
 · exact h j (by simpa using hj)
theorem rB.set{l:Nat}{a:cV}(h:rB l a){r:List NQ}(hr: ∀k,ay l (r.getD k []))(i:Nat):rB l (a.set i r):=fun j k=>by
 unfold bk;rw[eH];split
 · exact hr k
 · exact h j k
theorem IG(b:cV)(r t:Nat):(Gc b r t).length=b.length:=by unfold Gc;rw[List.length_set,List.length_set]
theorem Gb{N:Nat}{b:cV}(h:dk N b){r t:Nat}(hr:r<b.length)(ht:t<b.length):dk N (Gc b r t):=(h.set (h r hr) t).set (h t ht) r
theorem KH{l:Nat}{b:cV}(h:rB l b)(r t:Nat):rB l (Gc b r t):=(h.set (h r) t).set (h t) r
theorem zh(v:List NQ)(r:List NQ)(p:NQ):(FJ v r p).length=r.length:=ah ..
theorem uj(v:List NQ)(r:List NQ)(p:NQ){k:Nat}(h:k<r.length):(FJ v r p).getD k []=xc v (r.getD k []) p:=by
 unfold FJ;rw[aN,List.getElem?_map,aN,bQ h];rfl
theorem K5{v:List NQ}(V:pa v){r:List NQ}{p:NQ}(hr: ∀k,ay v.length (r.getD k []))(hp:ay v.length p)(k:Nat):ay v.length ((FJ v r p).getD k []):=by
 by_cases h:k<r.length
 · rw[uj v r p h];exact JI V (hr k) hp
 · rw[re (by rw[zh];omega)];exact cD _
theorem F6{v:List NQ}(V:pa v){xs ys:List NQ}{c:NQ}(hx: ∀k,ay v.length (xs.getD k []))(hy: ∀k,ay v.length (ys.getD k []))(hc:ay v.length c)(k:Nat):ay v.length ((m6 v xs ys c).getD k []):=by
 by_cases h:k<xs.length
 · rw[oc v xs ys c h];exact qi (hx k) (ij V hc (hy k))
 · rw[re (by rw[rH];omega)];exact cD _
theorem jv(v:List NQ)(e:cV)(r c:Nat): ∀i,(dA v e r c i).length=e.length
 | 0=>rfl
 | i+1=>by
   unfold dA;split
   · rw[List.length_set];exact jv v e r c i
   · exact jv v e r c i
theorem sI{N:Nat}{v:List NQ}{e:cV}{r c:Nat}(h:dk N e): ∀i,i≤e.length→dk N (dA v e r c i)
 | 0,_=>h
 | i+1,hi=>by
   have ih:=sI (v:=v) (r:=r) (c:=c) h i (by omega);unfold dA;split
   · exact ih.set (by rw[rH];exact ih i (by rw[jv];omega)) i
   · exact ih
theorem zZ{v:List NQ}(V:pa v){e:cV}{r c:Nat}(h:rB v.length e): ∀i,rB v.length (dA v e r c i)
 | 0=>h
 | i+1=>by
   have ih:=zZ V (r:=r) (c:=c) h i;unfold dA;split
   · exact ih.set (F6 V (ih i) (ih r) (ih i c)) i
   · exact ih
theorem ir(v:List NQ)(e:cV)(r c:Nat): ∀i,(∀j,i≤j∨j=r→(dA v e r c i).getD j []=e.getD j [])
 | 0,j,_=>rfl
 | i+1,j,hj=>by
   have ih:=ir v e r c i j (by omega);unfold dA;split
   · rename_i h;rw[eH,if_neg (fun g=>by rcases hj with hj | hj<;>omega)];exact ih
   · exact ih
theorem z0(v:List NQ)(e:cV)(r c:Nat)(i:Nat)(k:Nat):bk (dA v e r c i) i k=bk e i k:=by unfold bk;rw[ir v e r c i i (.inl (ai _))]
structure pb (v:List NQ) (m N c:Nat) (s:jK):Prop where
 len:s.rows.length=m
 rect:dk N s.rows
 lt:rB v.length s.rows
 cl:s.cols.length≤c
 cm:s.cols.length≤m
 gX:ay v.length s.gX
 sg:s.sg=1∨s.sg= -1
theorem fj(v:List NQ)(s:jK)(c:Nat)(h:s.cols.length≤s.rows.length):s.cols.length≤atR v s c∧atR v s c≤s.rows.length∧(∀k,s.cols.length≤k→k<atR v s c→rD v (bk s.rows k c)=0)∧(atR v s c<s.rows.length→rD v (bk s.rows (atR v s c) c)≠0):=by
 obtain ⟨h1,h2,h3,h4⟩:=sA (g:=Mf v s.rows c) (m:=s.rows.length-s.cols.length) (i:=s.cols.length);refine⟨h1,by unfold atR;omega,fun k k1 k2=>?_,fun h=>?_⟩
 · have:=h3 k k1 k2;unfold Mf at this;exact Classical.byContradiction fun g=>by rw[aO g] at this;cases this
 · exact ak (h4 (by unfold atR at h;omega))
theorem rA{v:List NQ}{m N c k:Nat}{s:jK}(R:pb v m N k s)(h:atR v s c<s.rows.length):(bR v s c).length=m∧dk N (bR v s c)∧rB v.length (bR v s c):=by
 have hl:=R.len;have:=(fj v s c (by have:=R.cm;omega)).1;unfold bR;split
 · exact⟨R.len,R.rect,R.lt⟩
 · exact⟨by rw[IG];exact R.len,Gb R.rect (by omega) h,KH R.lt _ _⟩
theorem yb{v:List NQ}(V:pa v){m N c k:Nat}{s:jK}(R:pb v m N k s)(h:atR v s c<s.rows.length):(eR v s c).length=m∧dk N (eR v s c)∧rB v.length (eR v s c):=by
 obtain ⟨h1,h2,h3⟩:=rA (c:=c) R h;have hl:=R.len;have:=(fj v s c (by have:=R.cm;omega)).1;unfold eR;exact⟨by rw[List.length_set];exact h1,h2.set (by rw[zh];exact h2 _ (by omega)) _,h3.set (K5 V (h3 _) (h3 _ _)) _⟩
theorem IM{v:List NQ}(V:pa v){m N c:Nat}{s:jK}(R:pb v m N c s):pb v m N (c+1) (cL v s c):=by
 have hl:=R.len;have hc:=R.cl;unfold cL;split
 · rename_i h;obtain ⟨e1,e2,e3⟩:=yb V (c:=c) R h;have ha:=(fj v s c (by have:=R.cm;omega)).1;refine⟨by rw[jv];exact e1,sI e2 _ (ai _),zZ V e3 _,?_,?_,ij V R.gX ((rA R h).2.2 _ _),?_⟩
   · show (s.cols++[c]).length≤c+1;rw[List.length_append];show s.cols.length+1≤_;omega
   · show (s.cols++[c]).length≤m;rw[List.length_append];show s.cols.length+1≤_;omega
   · rcases R.sg with h1 | h1<;>(show (if _ then s.sg else -s.sg)=1∨_= -1;split<;>simp[h1])
 · exact⟨R.len,R.rect,R.lt,by omega,R.cm,R.gX,R.sg⟩
theorem kj{v:List NQ}(V:pa v){a:cV}{N:Nat}(hr:dk N a)(hl:rB v.length a): ∀c,pb v a.length N c (aC v a c)
 | 0=>⟨rfl,hr,hl,ai _,Nat.zero_le _,eZ _ _,.inl rfl⟩
 | c+1=>IM V (kj V hr hl c)
theorem yQ(v:List NQ): ∀c,aC v [] c=⟨[],[],1,[1]⟩
 | 0=>rfl
 | c+1=>by
   show cL v (aC v [] c) c=_;rw[yQ v c];unfold cL;exact if_neg (Nat.not_lt_zero _)
end Lift
namespace Lift
open Go
open Go.RowKit (Below)
section
variable {P:Program} {T:Ty} {B:Nat} {F0:Nat→Prop} {w0:cW} {n:Nat} {σ:St} {R:List LR} {ops:Array Oper}
def jr(j k i:Nat)(o:Oper):Oper:=match Nat.beq i k with
 | true=>addEdge j i o
 | false=>o
def ez(ops:Array Oper)(x:Nat×Nat):Array Oper:=(ops.toList.zipIdx.map fun y=>jr x.1 x.2 y.2 y.1).toArray
theorem kO(ops:Array Oper)(j k i:Nat):(ez ops (j,k))[i]?=(ops[i]?).map (jr j k i):=by
 unfold ez;rw[List.getElem?_toArray,List.getElem?_map,List.getElem?_zipIdx];simp;cases ops[i]?<;>rfl
theorem qF(ops:Array Oper)(x:Nat×Nat):(ez ops x).size=ops.size:=by simp[ez]
theorem BL(j k i:Nat)(o:Oper):(jr j k i o).op=o.op∧(jr j k i o).dst=o.dst∧(jr j k i o).guard=o.guard:=by
 unfold jr;split
 · exact Dp j i o
 · exact⟨rfl,rfl,rfl⟩
theorem vV(j k i:Nat)(o:Oper)(ρ:Operand→Value):execOp ρ (jr j k i o)=execOp ρ o:=by
 unfold jr;split
 · exact Ac j i o ρ
 · rfl
theorem HE{j k i:Nat}(h:i≠k)(o:Oper):jr j k i o=o:=by
 unfold jr;cases hb:Nat.beq i k with
 | true=>exact absurd (Nat.eq_of_beq_eq_true hb) h
 | false=>rfl
theorem tj{j k i:Nat}{o:Oper}{e:Edge}:(e∈o.after→e∈(jr j k i o).after)∧(e∈(jr j k i o).after→e∈o.after∨e.on=j):=by
 unfold jr addEdge;split
 · split
   · exact⟨id,.inl⟩
   · refine⟨fun h=>by simp[h],fun h=>?_⟩;simp at h;rcases h with h | rfl
     · exact .inl h
     · exact .inr rfl
 · exact⟨id,.inl⟩
variable {Q:Exit→Act→World→Prop}
theorem p8(j k i:Nat){K:Act→World→Prop}{a:Act}{w:World}(h:wpOp P (ez ops (j,k)) Q i K a w):wpOp P ops Q i K a w:=by
 unfold wpOp at *;rw[kO] at h;cases ho:ops[i]? with
 | none=>rw[ho] at h;exact h
 | some o =>
   rw[ho] at h;simp only[Option.map_some] at h ⊢;obtain ⟨e1,e2,e3⟩:=BL j k i o
   have hy: ∀g,yielded (ez ops (j,k)) a.tmps g=yielded ops a.tmps g:=fun g=>by
    unfold yielded;rw[kO];cases ops[g]? with
    | none=>rfl
    | some og=>simp only[Option.map_some,Option.bind_some,(BL j k g og).2.1]
   have hw:Region.wanted (jr j k i o) (yielded (ez ops (j,k)) a.tmps)=Region.wanted o (yielded ops a.tmps):=by
    unfold Region.wanted;rw[e3];split
    · rfl
    · rw[hy]
   rw[hw,e2] at h
   have hwp:(jr j k i o).wp P a w K Q→o.wp P a w K Q:=fun h=>by
    unfold Oper.wp at *;rw[vV] at h;generalize (execOp a.eval o).run P w=r at *;cases r with
    | ok n w'=>cases n<;>simp only[Oper.upon,e2] at h ⊢ <;>exact h
    | halt x w'=>cases x<;>simp only[Oper.upon] at h ⊢ <;>exact h
   have has:(jr j k i o).asks P a w→o.asks P a w:=fun h=>by
    unfold Oper.asks at *;rw[vV] at h;exact h
   split
   · rename_i hc;rw[if_pos hc] at h;rcases h with h | ⟨h1,h2⟩
     · exact .inl (hwp h)
     · exact .inr ⟨has h1,h2⟩
   · rename_i hc;rw[if_neg hc] at h;exact h
def yG:Op→Bool
 | .move _=>true
 | .extract _ _=>true
 | _=>false
theorem EZ{o:Oper}(hs:yG o.op=true){a:Act}{w:World}{K:Act→World→Prop}(hpan: ∀c a w,Q (.panic c) a w→False)(h:o.wp P a w K Q): ∃v,(∀w',(execOp a.eval o).run P w'= .ok (.value v) w')∧K (a.put o.dst v) w:=by
 unfold Oper.wp at h;obtain ⟨dst,op,ty,pos,after,guard⟩:=o;simp only[] at hs;cases op<;>simp only[yG] at hs<;>try (cases hs;done)
 · rename_i x;refine⟨a.eval x,fun w'=>by simp[execOp],?_⟩;simpa[execOp,Oper.upon] using h
 · rename_i x ix;cases hx:a.eval x<;>try (exfalso;simp[execOp,Instr.extract,hx,Oper.upon] at h;done)
   rename_i vs;cases hv:vs[ix]? with
   | none=>exfalso;simp[execOp,Instr.extract,hx,hv,Oper.upon] at h
   | some v=>exact⟨v,fun w'=>by simp[execOp,Instr.extract,hx,hv],by simpa[execOp,Instr.extract,hx,hv,Oper.upon] using h⟩
def HF(ops:Array Oper)(j k:Nat):Bool:=match ops[j]?,ops[k]? with
 | some oj,some ok=>yG oj.op&&oj.guard.isNone&&J5 ops&& !Nat.beq j k &&
   (oj.after.toList.all fun e=> !Region.binds .any e||ok.after.toList.any fun f=>Region.binds .any f&&Nat.beq f.on e.on) &&
   ((List.range ops.size).all fun i=>Nat.beq i j||(oj.after.toList.any fun e=>Region.binds .any e&&Nat.beq e.on i)||match ops[i]? with
     | some o=>(o.after.toList.any fun e=>Region.binds .any e&&Nat.beq e.on j)||oj.apart ops o
     | none=>true)
 | _,_=>false
theorem Ca{j k:Nat}(hB:HF ops j k=true)(hpan: ∀c a w,Q (.panic c) a w→False)(hout:LetsOut Q→False): ∀(f:Nat) (L:Array Bool) (a:Act) (w:World),L.size=ops.size →
  wpAny P .any (ez ops (j,k)) Q f L a w→wpAny P .any ops Q f L a w:=by
 unfold HF at hB;split at hB;rotate_left
 · cases hB
 rename_i oj ok hoj hok;simp only[Bool.and_eq_true,List.all_eq_true,Bool.not_eq_true'] at hB;obtain ⟨⟨⟨⟨⟨hst,hg⟩,hsel⟩,hjk⟩,haf⟩,hap⟩:=hB;have hjk:=Nat.ne_of_beq_eq_false hjk;have hgn:oj.guard=none:=by simpa using hg
 have hjl:j<ops.size:=(Array.getElem?_eq_some_iff.1 hoj).1
 have hdich: ∀L:Array Bool,L.size=ops.size→L.getD j true=false∨L.getD j false=true:=fun L hL=>by
  simp only[Array.getD_eq_getD_getElem?];rw[Array.getElem?_eq_getElem (by omega)];simp only[Option.getD_some];cases L[j]'(by omega)<;>simp
 have r1: ∀(L:Array Bool) i,i∈Region.ready .any (ez ops (j,k)) L→i∈Region.ready .any ops L:=fun L i hi=>by
  rw[mem_ready] at hi ⊢;obtain ⟨h1,o,ho,h2⟩:=hi;rw[kO] at ho;cases hx:ops[i]? with
  | none=>rw[hx] at ho;cases ho
  | some o' =>
    rw[hx] at ho;simp at ho;subst ho;exact⟨h1,o',rfl,fun e he hb=>h2 e (tj.1 he) hb⟩
 have r2: ∀(L:Array Bool) i,i∈Region.ready .any ops L→(i≠k∨L.getD j false=true)→i∈Region.ready .any (ez ops (j,k)) L:=fun L i hi hc=>by
  rw[mem_ready] at hi ⊢;obtain ⟨h1,o,ho,h2⟩:=hi;refine⟨h1,jr j k i o,by rw[kO,ho];rfl,fun e he hb=>?_⟩;rcases hc with hc | hc
  · rw[HE hc] at he;exact h2 e he hb
  · rcases tj.2 he with h | h
    · exact h2 e h hb
    · rw[h];exact hc
 have rj: ∀L:Array Bool,k∈Region.ready .any ops L→L.getD j true=false→j∈Region.ready .any ops L:=fun L hk hj=>by
  rw[mem_ready] at hk ⊢;obtain ⟨_,o,ho,h2⟩:=hk;rw[hok] at ho;cases ho;refine⟨hj,oj,hoj,fun e he hb=>?_⟩;have:=haf e (by simpa using he);rw[hb] at this;simp only[Bool.not_true,Bool.false_or] at this;obtain ⟨f,hf,hfb⟩:=List.any_eq_true.1 this;simp only[Bool.and_eq_true] at hfb;rw[← Nat.eq_of_beq_eq_true hfb.2];exact h2 f (by simpa using hf) hfb.1
 intro f
 induction f with
 | zero =>
   intro L a w hL h;refine⟨List.eq_nil_iff_forall_not_mem.2 fun i hi=>?_,h.2⟩;rcases hdich L hL with hd | hd
   · by_cases hik:i=k
     · subst hik;have:=r2 L j (rj L hi hd) (.inl hjk);rw[h.1] at this;cases this
     · have:=r2 L i hi (.inl hik);rw[h.1] at this;cases this
   · have:=r2 L i hi (.inr hd);rw[h.1] at this;cases this
 | succ f ih =>
   intro L a w hL h;have hLs: ∀i,(L.setIfInBounds i true).size=ops.size:=fun i=>by simpa using hL
   refine⟨fun hn=>h.1 (List.eq_nil_iff_forall_not_mem.2 fun i hi=>?_),fun i hi=>?_⟩
   · have:=r1 L i hi;rw[hn] at this;cases this
   · have easy:(i≠k∨L.getD j false=true)→wpOp P ops Q i (wpAny P .any ops Q f (L.setIfInBounds i true)) a w:=fun hc =>
      wpOp_mono (fun a' w' h'=>ih _ a' w' (hLs i) h') (p8 j k i (h.2 i (r2 L i hi hc)))
     rcases hdich L hL with hd | hd
     rotate_left
     · exact easy (.inr hd)
     by_cases hik:i=k;rotate_left
     · exact easy (.inl hik)
     subst hik;have hjr:=rj L hi hd;have h1:=p8 j i j (h.2 j (r2 L j hjr (.inl hjk)));have hwant:Region.wanted oj (yielded ops a.tmps)=true:=by simp[Region.wanted,hgn]
     unfold wpOp at h1;simp only[hoj,hwant,if_true] at h1;rcases h1 with h1 | ⟨_,h1⟩
     rotate_left
     · exact(hout h1).elim
     obtain ⟨v,hv,hK⟩:=EZ hst hpan h1;have h3:=ih _ _ _ (hLs j) hK
     have h4:=wpAny_first (i:=j) (oi:=oj) (v:=v) hoj (fun i o cs b hi he=>by
      unfold J5 at hsel;have:=List.all_eq_true.1 hsel o (by simpa using Array.mem_of_getElem? hi);rw[he] at this
      cases this) (fun c a' w' hq=>(hpan _ _ _ hq).elim) f L a w (fun i oi hi hij hli hne=>by
       have:=hap i (List.mem_range.2 (Array.getElem?_eq_some_iff.1 hi).1);rw[hi] at this;simp only[Bool.or_eq_true] at this;rcases this with (h | h) | h
       · exact absurd (Nat.eq_of_beq_eq_true h) hij
       · exfalso;obtain ⟨e,he,hb⟩:=List.any_eq_true.1 h;simp only[Bool.and_eq_true] at hb;obtain ⟨_,o,ho,h2⟩:=mem_ready.1 hjr;rw[hoj] at ho;cases ho;have h3:=h2 e (by simpa using he) hb.1;rw[Nat.eq_of_beq_eq_true hb.2,getD_both hli] at h3;cases h3
       · rcases h with h | h
         · exfalso;obtain ⟨e,he,hb⟩:=List.any_eq_true.1 h;simp only[Bool.and_eq_true] at hb;exact hne e (by simpa using he) hb.1 (Nat.eq_of_beq_eq_true hb.2)
         · exact h) hjr (.inl ⟨hwant,fun w=>hv w⟩) h3
     exact h4.2 i hi
def zV:List (Nat×Nat)→Array Oper→Bool
 | [],_=>true
 | x::l,ops=>HF ops x.1 x.2&&zV l (ez ops x)
theorem sO(hpan: ∀c a w,Q (.panic c) a w→False)(hout:LetsOut Q→False){f:Nat}{L:Array Bool}{a:Act}{w:World}: ∀(l:List (Nat×Nat)) (ops:Array Oper),zV l ops=true→L.size=ops.size→wpAny P .any (l.foldl ez ops) Q f L a w→wpAny P .any ops Q f L a w
 | [],_,_,_,h=>h
 | x::l,ops,hB,hL,h=>by
   rw[zV,Bool.and_eq_true] at hB;exact Ca hB.1 hpan hout f L a w hL (sO hpan hout l (ez ops x) hB.2 (by rw[qF];exact hL) h)
theorem vU: ∀(l:List (Nat×Nat)) (ops:Array Oper),(l.foldl ez ops).size=ops.size
 | [],_=>rfl
 | x::l,ops=>(vU l (ez ops x)).trans (qF ops x)
end
section
variable {P:Program} {T:Ty} {B:Nat} {F0:Nat→Prop} {w0:cW} {n:Nat} {σ:St} {R:List LR} {ops:Array Oper} {Q:Exit→List LR→St→Prop}
theorem lQ.MH(l:List (Nat×Nat))(hB:zV l ops=true)(hpan: ∀c R σ,Q (.panic c) R σ→False)(hout: ∀R σ,Q .outgrown R σ→False)(h:lQ P B F0 w0 n (l.foldl ez ops) Q R σ):lQ P B F0 w0 n ops Q R σ:=by
 intro a w hR;have hA:=h a w hR;rw[vU] at hA;refine sO (fun c a w hq=>?_) (fun hq=>?_) l ops hB (by simp) hA
 · obtain ⟨R,σ,h,_⟩:=hq;exact hpan c R σ h
 · obtain ⟨a,w,R,σ,h,_⟩:=hq;exact hout R σ h
end
end Lift
