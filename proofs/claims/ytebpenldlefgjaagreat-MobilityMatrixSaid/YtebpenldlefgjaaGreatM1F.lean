/- Parts of the proof, one behind the other: the logic, the contracts of the functions that the statement reaches. -/
import Derived.Test.YtebpenldlefgjaaGreatM1E
set_option linter.unusedVariables false
set_option linter.unusedSimpArgs false
namespace Lift
open Go Go.Proofs
set_option maxHeartbeats 1600000 in
theorem uX(l:Lkg)(i:Nat){K:Nat}(hl:l.ok K)(hK:K≤5000000)(hin:i<l.joints.length):Pure Tryz.prog 35 [l.D,dI i] (dI (du l.bodies l.joints i:Nat)):=by
 refine qJ 112 Tryz.func35 rfl rfl rfl rfl (by kernel_rfl) (fun B F0 w0=>?_);obtain ⟨ln,bs,js,ds⟩:=l;have hb:=hl.b;have jok:=hl.j i;have hn:=hl.nj;simp only[] at hb jok hn hin ⊢;unfold big at jok hn;show AW _ _ _ _ _ _ _ (df 0 [D.ag [dS ln,ak bs,aj js,ai ds],dI i]);obtain ⟨j,hje⟩: ∃j,j=js.getD i default:=⟨_,rfl⟩;rw[← hje] at jok;have hdup:yX js i=dP (fun k=>decide ((js.getD k default).nm=j.nm)) i 0:=by rw[hje];rfl
 have hbd:du bs js i=if ch j.nm=false then 5 else if yX js i=true then 6 else jE bs j:=by rw[hje];rfl
 generalize du bs js i=E at *;refine qX 2 rfl ?_;refine qK 3 rfl ?_;refine aa.idx tok j.D rfl rfl rfl rfl (Int.natCast_nonneg i) (by rw[hje];exact getM bp.D hin) ?_;refine qU 3 rfl ?_;refine aa.nil ?_;obtain ⟨nm,kind,a,pt,b,on,to⟩:=j;simp only[] at jok hdup hbd
 have hj:jE bs ⟨nm,kind,a,pt,b,on,to⟩=if kind≠0∧kind≠1 then 7 else if (gL a bs.length&&gL b bs.length)=false then 9 else if a=b then 13 else
  if (gL pt (bs.getD a.toNat default).pts.length&&gL on (bs.getD b.toNat default).pts.length)=false then 9 else
  if kind=0 then (if to=0 then 0 else 2) else if gL to (bs.getD b.toNat default).pts.length=false then 9 else
  if jQ ((bs.getD b.toNat default).pts.getD on.toNat default) ((bs.getD b.toNat default).pts.getD to.toNat default)=true then 8 else 0:=rfl
 generalize jE bs ⟨nm,kind,a,pt,b,on,to⟩=E2 at *;refine AW.seq ?_;refine qX 2 rfl ?_;refine aa.call tok rfl rfl rfl rfl (gI nm jok) ?_;refine qU 1 rfl ?_;refine aa.nil ?_;refine AW.cond rfl (fun h=>?_) (fun h=>?_)
 · rw[if_pos (iS h)] at hbd;rw[hbd];refine qX 1 rfl ?_;exact qN rfl
 rw[if_neg (by simpa using h)] at hbd;refine AW.skip (AW.seq ?_);refine qX 1 rfl ?_;refine aa.nil ?_;refine AW.block ?_
 refine AW.aD [1,2,5,6] (fun k:Nat=>[(1,.d (dI i)),(2,.bx [dS ln,ak bs,aj js,ai ds]),(5,.bx [dS nm,dI kind,dI a,dI pt,dI b,dI on,dI to]),(6,.d (dI k))])
  (fun k=>k≤i∧yX js i=dP (fun k=>decide ((js.getD k default).nm=nm)) (i-k) k) (fun k=>i-k) 0 rfl ⟨Nat.zero_le _,hdup⟩ (fun k ⟨hk,hD⟩=>?_)
 refine AW.seq ?_;refine qX 3 rfl ?_;refine aa.nil ?_;refine AW.cond rfl (fun h=>?_) (fun h=>?_)
 · have hki:k<i:=by have:=of_decide_eq_true h;omega
   refine AW.skip (AW.seq (AW.block (AW.seq ?_)));refine AW.draw aI 9 (by kernel_rfl) ?_;refine qP 3 rfl ?_;refine af.idx tok (js.getD k default).D rfl rfl rfl rfl rfl (Int.natCast_nonneg k) (getM bp.D (by omega)) ?_;refine qP 5 rfl ?_;rw[kp];refine af.nil ?_;refine aa.nil ?_;refine AW.cond rfl (fun h=>?_) (fun h=>?_)
   · rw[hD.trans (en hki h)] at hbd;rw[show E=6 from hbd];refine qX 1 rfl ?_;exact qN rfl
   · refine AW.skip ?_;refine qT 3 rfl ?_;rw[au (x:=(k:Int)+1) (by omega) (by omega)];refine aa.nil ?_;exact⟨k+1,rfl,⟨hki,hD.trans (dk hki h)⟩,by omega⟩
 have hki: ¬k<i:=by have:=of_decide_eq_false h;omega
 rw[hD.trans (ep hki),if_neg (by decide)] at hbd;rw[hbd];clear hbd;refine AW.exit (AW.seq ?_);refine AW.cut [2,5,39] (fun _:Unit=>[(2,.bx [dS ln,ak bs,aj js,ai ds]),(5,.bx [dS nm,dI kind,dI a,dI pt,dI b,dI on,dI to]),(39,.d (dB (decide (kind≠0∧kind≠1))))]) (fun _=>True) ?_ (fun _ _=>?_)
 · refine qT 3 rfl ?_;refine aa.split (t:=34) rfl (fun h=>?_) (fun h=>?_)
   · have h1:kind≠0:=by simpa using h
     refine qU 5 rfl ?_;refine aa.nil ?_;exact⟨(),by rw[show decide (kind≠0∧kind≠1)=(kind != 1) by rw[Bool.eq_iff_iff];simp[h1]];rfl,trivial⟩
   · have h1:kind=0:=by simpa using h
     refine qU 5 rfl ?_;refine aa.nil ?_;exact⟨(),by rw[show decide (kind≠0∧kind≠1)=false by simp[h1]];rfl,trivial⟩
 refine AW.cond rfl (fun h=>?_) (fun h=>?_)
 · rw[if_pos (of_decide_eq_true h)] at hj;rw[hj];refine qX 1 rfl ?_;exact qN rfl
 rw[if_neg (of_decide_eq_false h)] at hj;refine AW.skip (AW.seq ?_);refine AW.cut [2,5,55] (fun _:Unit=>[(2,.bx [dS ln,ak bs,aj js,ai ds]),(5,.bx [dS nm,dI kind,dI a,dI pt,dI b,dI on,dI to]),(55,.d (dB (!(gL a bs.length&&gL b bs.length))))]) (fun _=>True) ?_ (fun _ _=>?_)
 · refine qT 5 rfl ?_;rw[List.length_map];refine aa.call tok rfl rfl rfl rfl (ew a bs.length) ?_;refine aa.split (t:=45) rfl (fun h=>?_) (fun h=>?_)
   · refine qU 7 rfl ?_;rw[List.length_map];refine aa.call tok rfl rfl rfl rfl (ew b bs.length) ?_;refine qU 2 rfl ?_;refine aa.nil ?_;exact⟨(),by rw[h];rfl,trivial⟩
   · refine qU 10 rfl ?_;refine aa.nil ?_;exact⟨(),by rw[h];rfl,trivial⟩
 refine AW.cond rfl (fun h=>?_) (fun h=>?_)
 · rw[if_pos (iS h)] at hj;rw[hj];refine qX 1 rfl ?_;exact qN rfl
 have hab:gL a bs.length=true∧gL b bs.length=true:=by simpa using h
 rw[if_neg (by simp[hab])] at hj;obtain ⟨ha0,ha1⟩:=pV hab.1;obtain ⟨hb0,hb1⟩:=pV hab.2;obtain ⟨Bb,hBb⟩: ∃x,x=bs.getD b.toNat default:=⟨_,rfl⟩;obtain ⟨Ba,hBa⟩: ∃x,x=bs.getD a.toNat default:=⟨_,rfl⟩;have okb:=hb b.toNat;rw[← hBb] at hj okb;rw[← hBa] at hj;refine AW.skip (AW.seq ?_);refine qX 5 rfl ?_;refine aa.nil ?_;refine AW.cond rfl (fun h=>?_) (fun h=>?_)
 · rw[if_pos (by simpa using h)] at hj;rw[hj];refine qX 1 rfl ?_;exact qN rfl
 rw[if_neg (by simpa using h)] at hj;refine AW.skip (AW.seq ?_);refine AW.draw aI 15 (by kernel_rfl) ?_;refine qP 4 rfl ?_;refine af.idx tok Ba.D rfl rfl rfl rfl rfl ha0 (by rw[hBa];exact getM Body.D ha1) ?_;refine qP 6 rfl ?_;refine af.idx tok Bb.D rfl rfl rfl rfl rfl hb0 (by rw[hBb];exact getM Body.D hb1) ?_;refine qP 3 rfl ?_;refine af.nil ?_;refine qU 1 rfl ?_;refine qI ?_;refine AW.cut [5,8,88] (fun _:Unit=>[(5,.bx [dS nm,dI kind,dI a,dI pt,dI b,dI on,dI to]),(8,.d (ni Bb.pts)),(88,.d (dB (!(gL pt Ba.pts.length&&gL on Bb.pts.length))))]) (fun _=>True) ?_ (fun _ _=>?_)
 · refine qT 4 rfl ?_;rw[List.length_map];refine aa.call tok rfl rfl rfl rfl (ew pt Ba.pts.length) ?_;refine aa.split (t:=79) rfl (fun h=>?_) (fun h=>?_)
   · refine qU 6 rfl ?_;rw[List.length_map];refine aa.call tok rfl rfl rfl rfl (ew on Bb.pts.length) ?_;refine qU 2 rfl ?_;refine aa.nil ?_;exact⟨(),by rw[h];rfl,trivial⟩
   · refine qU 9 rfl ?_;refine aa.nil ?_;exact⟨(),by rw[h];rfl,trivial⟩
 refine AW.cond rfl (fun h=>?_) (fun h=>?_)
 · rw[if_pos (iS h)] at hj;rw[hj];refine qX 1 rfl ?_;exact qN rfl
 have hpo:gL pt Ba.pts.length=true∧gL on Bb.pts.length=true:=by simpa using h
 rw[if_neg (by simp[hpo])] at hj;obtain ⟨ho0,ho1⟩:=pV hpo.2;refine AW.skip (AW.seq ?_);refine qX 3 rfl ?_;refine aa.nil ?_;refine AW.cond rfl (fun h=>?_) (fun h=>?_)
 · rw[if_pos (by simpa using h)] at hj;refine AW.seq ?_;refine qX 3 rfl ?_;refine aa.nil ?_;refine AW.cond rfl (fun h=>?_) (fun h=>?_)
   · rw[if_neg (by simpa using h)] at hj;rw[hj];refine qX 1 rfl ?_;exact qN rfl
   · rw[if_pos (by simpa using h)] at hj;rw[hj];refine AW.skip ?_;refine qX 1 rfl ?_;exact qN rfl
 rw[if_neg (by simpa using h)] at hj;refine AW.skip (AW.seq ?_);refine qX 4 rfl ?_;rw[List.length_map];refine aa.call tok rfl rfl rfl rfl (ew to Bb.pts.length) ?_;refine qU 1 rfl ?_;refine aa.nil ?_;refine AW.cond rfl (fun h=>?_) (fun h=>?_)
 · rw[if_pos (iS h)] at hj;rw[hj];refine qX 1 rfl ?_;exact qN rfl
 have hto:gL to Bb.pts.length=true:=by simpa using h
 rw[if_neg (by simp[hto])] at hj;obtain ⟨ht0,ht1⟩:=pV hto;obtain ⟨p,hp⟩: ∃x,x=Bb.pts.getD on.toNat default:=⟨_,rfl⟩;obtain ⟨q,hq⟩: ∃x,x=Bb.pts.getD to.toNat default:=⟨_,rfl⟩;have okp:=okb.2.2 on.toNat;have okq:=okb.2.2 to.toNat;rw[← hp] at hj okp;rw[← hq] at hj okq;refine AW.skip (AW.seq (AW.seq ?_));refine AW.draw aI 11 (by kernel_rfl) ?_;refine qP 3 rfl ?_;refine af.idx tok p.D rfl rfl rfl rfl rfl ho0 (by rw[hp];exact getM Mark.D ho1) ?_;refine qP 4 rfl ?_;refine af.idx tok q.D rfl rfl rfl rfl rfl ht0 (by rw[hq];exact getM Mark.D ht1) ?_;refine qP 1 rfl ?_;refine af.call tok rfl rfl rfl rfl rfl (wH p q okp okq hK) ?_;refine af.nil ?_;refine aa.nil ?_;refine AW.cond rfl (fun h=>?_) (fun h=>?_)
 · rw[if_pos h] at hj;rw[hj];refine qX 1 rfl ?_;exact qN rfl
 · rw[if_neg (by rw[h];decide)] at hj;rw[hj];refine AW.skip ?_;refine qX 1 rfl ?_;exact qN rfl
set_option maxHeartbeats 1600000 in
theorem tj(l:Lkg)(i:Nat){K:Nat}(hl:l.ok K)(hin:i<l.drivers.length):Pure Tryz.prog 36 [l.D,dI i] (dI (cS l.bodies.length l.drivers i:Nat)):=by
 refine qJ 55 Tryz.func36 rfl rfl rfl rfl (by kernel_rfl) (fun B F0 w0=>?_);obtain ⟨ln,bs,js,ds⟩:=l;have dok:=hl.d i;have hn:=hl.nd;simp only[] at dok hn hin ⊢;unfold big at dok hn;show AW _ _ _ _ _ _ _ (df 0 [D.ag [dS ln,ak bs,aj js,ai ds],dI i]);obtain ⟨d,hde⟩: ∃d,d=ds.getD i default:=⟨_,rfl⟩;rw[← hde] at dok;have hdup:yY ds i=dP (fun k=>decide ((ds.getD k default).nm=d.nm)) i 0:=by rw[hde];rfl
 have hdup2:yV ds i=dP (fun k=>decide ((ds.getD k default).body=d.body)) i 0:=by rw[hde];rfl
 have hbd:cS bs.length ds i=if ch d.nm=false then 5 else if yY ds i=true then 6 else if gL d.body bs.length=false then 9 else if d.body=0 then 7 else if yV ds i=true then 6 else 0:=by rw[hde];rfl
 generalize cS bs.length ds i=E at *;refine qX 2 rfl ?_;refine qK 3 rfl ?_;refine aa.idx tok d.D rfl rfl rfl rfl (Int.natCast_nonneg i) (by rw[hde];exact getM Driver.D hin) ?_;refine qU 3 rfl ?_;refine qI ?_;refine qX 2 rfl ?_;refine aa.call tok rfl rfl rfl rfl (gI d.nm dok) ?_;refine qU 1 rfl ?_;refine aa.nil ?_;refine AW.cond rfl (fun h=>?_) (fun h=>?_)
 · rw[if_pos (iS h)] at hbd;rw[hbd];refine qX 1 rfl ?_;exact qN rfl
 rw[if_neg (by simpa using h)] at hbd;refine AW.skip (AW.seq ?_);refine qX 1 rfl ?_;refine aa.nil ?_;refine AW.block ?_
 refine AW.aD [1,2,5,6] (fun k:Nat=>[(1,.d (dI i)),(2,.bx [dS ln,ak bs,aj js,ai ds]),(5,.bx [dS d.nm,dI d.body]),(6,.d (dI k))])
  (fun k=>k≤i∧yY ds i=dP (fun k=>decide ((ds.getD k default).nm=d.nm)) (i-k) k) (fun k=>i-k) 0 rfl ⟨Nat.zero_le _,hdup⟩ (fun k ⟨hk,hD⟩=>?_)
 refine AW.seq ?_;refine qX 3 rfl ?_;refine aa.nil ?_;refine AW.cond rfl (fun h=>?_) (fun h=>?_)
 · have hki:k<i:=by have:=of_decide_eq_true h;omega
   refine AW.skip (AW.seq (AW.block (AW.seq ?_)));refine AW.draw aI 9 (by kernel_rfl) ?_;refine qP 3 rfl ?_;refine af.idx tok (ds.getD k default).D rfl rfl rfl rfl rfl (Int.natCast_nonneg k) (getM Driver.D (by omega)) ?_;refine qP 5 rfl ?_;rw[kp];refine af.nil ?_;refine aa.nil ?_;refine AW.cond rfl (fun h=>?_) (fun h=>?_)
   · rw[hD.trans (en hki h)] at hbd;rw[show E=6 from hbd];refine qX 1 rfl ?_;exact qN rfl
   · refine AW.skip ?_;refine qT 3 rfl ?_;rw[au (x:=(k:Int)+1) (by omega) (by omega)];refine aa.nil ?_;exact⟨k+1,rfl,⟨hki,hD.trans (dk hki h)⟩,by omega⟩
 have hki: ¬k<i:=by have:=of_decide_eq_false h;omega
 rw[hD.trans (ep hki),if_neg (by decide)] at hbd;refine AW.exit (AW.seq ?_);refine qX 5 rfl ?_;rw[List.length_map];refine aa.call tok rfl rfl rfl rfl (ew d.body bs.length) ?_;refine qU 1 rfl ?_;refine aa.nil ?_;refine AW.cond rfl (fun h=>?_) (fun h=>?_)
 · rw[if_pos (iS h)] at hbd;rw[hbd];refine qX 1 rfl ?_;exact qN rfl
 have hinb:gL d.body bs.length=true:=by simpa using h
 rw[if_neg (by simp[hinb])] at hbd;refine AW.skip (AW.seq ?_);refine qX 3 rfl ?_;refine aa.nil ?_;refine AW.cond rfl (fun h=>?_) (fun h=>?_)
 · rw[if_pos (by simpa using h)] at hbd;rw[hbd];refine qX 1 rfl ?_;exact qN rfl
 rw[if_neg (by simpa using h)] at hbd;refine AW.skip (AW.seq ?_);refine qX 1 rfl ?_;refine aa.nil ?_;refine AW.block ?_
 refine AW.aD [1,2,5,7] (fun k:Nat=>[(1,.d (dI i)),(2,.bx [dS ln,ak bs,aj js,ai ds]),(5,.bx [dS d.nm,dI d.body]),(7,.d (dI k))])
  (fun k=>k≤i∧yV ds i=dP (fun k=>decide ((ds.getD k default).body=d.body)) (i-k) k) (fun k=>i-k) 0 rfl ⟨Nat.zero_le _,hdup2⟩ (fun k ⟨hk,hD⟩=>?_)
 refine AW.seq ?_;refine qX 3 rfl ?_;refine aa.nil ?_;refine AW.cond rfl (fun h=>?_) (fun h=>?_)
 · have hki:k<i:=by have:=of_decide_eq_true h;omega
   refine AW.skip (AW.seq (AW.block (AW.seq ?_)));refine AW.draw aI 9 (by kernel_rfl) ?_;refine qP 3 rfl ?_;refine af.idx tok (ds.getD k default).D rfl rfl rfl rfl rfl (Int.natCast_nonneg k) (getM Driver.D (by omega)) ?_;refine qP 5 rfl ?_;refine af.nil ?_;refine aa.nil ?_;refine AW.cond rfl (fun h=>?_) (fun h=>?_)
   · have h':decide ((ds.getD k default).body=d.body)=true:=by simpa using h
     rw[hD.trans (en hki h')] at hbd;rw[show E=6 from hbd];refine qX 1 rfl ?_;exact qN rfl
   · have h':decide ((ds.getD k default).body=d.body)=false:=by simpa using h
     refine AW.skip ?_;refine qT 3 rfl ?_;rw[au (x:=(k:Int)+1) (by omega) (by omega)];refine aa.nil ?_;exact⟨k+1,rfl,⟨hki,hD.trans (dk hki h')⟩,by omega⟩
 have hki: ¬k<i:=by have:=of_decide_eq_false h;omega
 rw[hD.trans (ep hki),if_neg (by decide)] at hbd;rw[hbd];refine AW.exit ?_;refine qX 1 rfl ?_;exact qN rfl
theorem vu{n:Nat}(h:(((n:Nat):Int) != 0)=true):n≠0:=by rintro rfl;cases h
theorem yS{n:Nat}(h:(((n:Nat):Int) != 0)=false):n=0:=by
 have:((n:Nat):Int)=0:=by simpa using h
 omega
set_option maxHeartbeats 1600000 in
theorem nK(l:Lkg){K:Nat}(hl:l.ok K)(hK:K≤5000000):Pure Tryz.prog 15 [l.D] (dI (tD l:Nat)):=by
 refine qJ 59 Tryz.func15 rfl rfl rfl rfl (by kernel_rfl) (fun B F0 w0=>?_);have c1:=tn l hl (by omega);have c2:=fun i=>uX l i hl hK;have c3:=fun i=>tj l i hl
 have hcd:tD l=if ch l.nm=false then 5 else if l.bodies=[] then 10 else if 8<l.bodies.length then 4 else
  if br l.bodies≠0 then br l.bodies else if cQ l.bodies l.joints≠0 then cQ l.bodies l.joints else gS l.bodies.length l.drivers:=rfl
 generalize tD l=E at *;obtain ⟨ln,bs,js,ds⟩:=l;have hnm:=hl.nm;have hnb:=hl.nb;have hnj:=hl.nj;have hnd:=hl.nd;simp only[] at hcd c1 c2 c3 hnm hnb hnj hnd ⊢;unfold big at hnm hnb hnj hnd;show AW _ _ _ _ _ _ _ (df 0 [D.ag [dS ln,ak bs,aj js,ai ds]]);refine qX 2 rfl ?_;refine qI ?_;refine qX 2 rfl ?_;refine aa.call tok rfl rfl rfl rfl (gI ln hnm) ?_;refine qU 1 rfl ?_;refine aa.nil ?_;refine AW.cond rfl (fun h=>?_) (fun h=>?_)
 · rw[if_pos (iS h)] at hcd;rw[hcd];refine qX 1 rfl ?_;exact qN rfl
 rw[if_neg (by simpa using h)] at hcd;refine AW.skip (AW.seq ?_);refine qX 4 rfl ?_;rw[List.length_map];refine aa.nil ?_;refine AW.cond rfl (fun h=>?_) (fun h=>?_)
 · have h0:bs=[]:=List.length_eq_zero_iff.1 (by have:(bs.length:Int)=0:=by simpa using h
                                                omega)
   rw[if_pos h0] at hcd;rw[hcd];refine qX 1 rfl ?_;exact qN rfl
 have h0:bs≠[]:=by rintro rfl;simp at h
 rw[if_neg h0] at hcd;refine AW.skip (AW.seq ?_);refine qX 4 rfl ?_;rw[List.length_map];refine aa.nil ?_;refine AW.cond rfl (fun h=>?_) (fun h=>?_)
 · have h8:8<bs.length:=by have:=of_decide_eq_true h;omega
   rw[if_pos h8] at hcd;rw[hcd];refine qX 1 rfl ?_;exact qN rfl
 have h8: ¬8<bs.length:=by have:=of_decide_eq_false h;omega
 rw[if_neg h8] at hcd;refine AW.skip (AW.seq ?_);refine qX 1 rfl ?_;refine aa.call tok rfl rfl rfl rfl c1 ?_;refine qU 1 rfl ?_;refine qK 2 rfl ?_;refine aa.nil ?_;refine AW.cond rfl (fun h=>?_) (fun h=>?_)
 · rw[if_pos (vu h)] at hcd;rw[hcd];refine qX 2 rfl ?_;exact qN rfl
 rw[if_neg (fun e=>e (yS h))] at hcd;refine AW.skip (AW.seq ?_);refine qX 4 rfl ?_;rw[List.length_map];refine aa.nil ?_;refine AW.cond rfl (fun h=>?_) (fun h=>?_)
 · have h16:16<js.length:=by have:=of_decide_eq_true h;omega
   have hje:cQ bs js=4:=by rw[cQ,if_pos h16]
   rw[hje,if_pos (by decide)] at hcd;rw[hcd];refine qX 1 rfl ?_;exact qN rfl
 have h16: ¬16<js.length:=by have:=of_decide_eq_false h;omega
 have hje:cQ bs js=fE (du bs js) js.length 0:=by rw[cQ,if_neg h16]
 refine AW.skip (AW.seq ?_);refine qX 1 rfl ?_;refine aa.nil ?_;refine AW.block ?_
 refine AW.aD [1,4] (fun i:Nat=>[(1,.bx [dS ln,ak bs,aj js,ai ds]),(4,.d (dI i))])
  (fun i=>i≤js.length∧cQ bs js=fE (du bs js) (js.length-i) i) (fun i=>js.length-i) 0 rfl ⟨Nat.zero_le _,hje⟩ (fun i ⟨hi,hE⟩=>?_)
 refine AW.seq ?_;refine qX 5 rfl ?_;rw[List.length_map];refine aa.nil ?_;refine AW.cond rfl (fun h=>?_) (fun h=>?_)
 · have hin:i<js.length:=by have:=of_decide_eq_true h;omega
   refine AW.skip (AW.seq (AW.block ?_));refine qX 2 rfl ?_;refine aa.call tok rfl rfl rfl rfl (c2 i hin) ?_;refine qU 1 rfl ?_;refine qK 2 rfl ?_;refine aa.nil ?_;refine AW.cond rfl (fun h=>?_) (fun h=>?_)
   · rw[hE.trans (dw hin (vu h)),if_pos (vu h)] at hcd;rw[hcd];refine qX 2 rfl ?_;exact qN rfl
   · refine AW.skip ?_;refine qT 3 rfl ?_;rw[au (x:=(i:Int)+1) (by omega) (by omega)];refine aa.nil ?_;exact⟨i+1,rfl,⟨hin,hE.trans (bX hin (yS h))⟩,by omega⟩
 have hin: ¬i<js.length:=by have:=of_decide_eq_false h;omega
 rw[hE.trans (dy hin),if_neg (by decide)] at hcd;refine AW.exit (AW.seq ?_);refine qX 4 rfl ?_;rw[List.length_map];refine aa.nil ?_;refine AW.cond rfl (fun h=>?_) (fun h=>?_)
 · have h2:2<ds.length:=by have:=of_decide_eq_true h;omega
   rw[gS,if_pos h2] at hcd;rw[hcd];refine qX 1 rfl ?_;exact qN rfl
 have h2: ¬2<ds.length:=by have:=of_decide_eq_false h;omega
 rw[gS,if_neg h2] at hcd;refine AW.skip (AW.seq ?_);refine qX 1 rfl ?_;refine aa.nil ?_;refine AW.block ?_
 refine AW.aD [1,6] (fun i:Nat=>[(1,.bx [dS ln,ak bs,aj js,ai ds]),(6,.d (dI i))])
  (fun i=>i≤ds.length∧E=fE (cS bs.length ds) (ds.length-i) i) (fun i=>ds.length-i) 0 rfl ⟨Nat.zero_le _,hcd⟩ (fun i ⟨hi,hE⟩=>?_)
 refine AW.seq ?_;refine qX 5 rfl ?_;rw[List.length_map];refine aa.nil ?_;refine AW.cond rfl (fun h=>?_) (fun h=>?_)
 · have hin:i<ds.length:=by have:=of_decide_eq_true h;omega
   refine AW.skip (AW.seq (AW.block ?_));refine qX 2 rfl ?_;refine aa.call tok rfl rfl rfl rfl (c3 i hin) ?_;refine qU 1 rfl ?_;refine qK 2 rfl ?_;refine aa.nil ?_;refine AW.cond rfl (fun h=>?_) (fun h=>?_)
   · rw[hE.trans (dw hin (vu h))];refine qX 2 rfl ?_;exact qN rfl
   · refine AW.skip ?_;refine qT 3 rfl ?_;rw[au (x:=(i:Int)+1) (by omega) (by omega)];refine aa.nil ?_;exact⟨i+1,rfl,⟨hin,hE.trans (bX hin (yS h))⟩,by omega⟩
 have hin: ¬i<ds.length:=by have:=of_decide_eq_false h;omega
 rw[hE.trans (dy hin)];refine AW.exit ?_;refine qX 1 rfl ?_;exact qN rfl
end Lift
namespace Lift
open Go Go.Proofs
def zD(rt:List (List RD))(a:List RD):D:=if iY rt [a]≠0 then .tu [ae [],dI (iY rt [a])] else .tu [ae (aH (aC a)),dI 0]
theorem rH{m:Nat}{rt:List (List RD)}{a:List RD}(T:mr m rt)(A:iA m rt a):Pure Tryz.prog 68 [sW rt,a9 a] (zD rt a):=by
 refine qJ 17 Tryz.func68 rfl rfl rfl rfl (by kernel_rfl) (fun B F0 w0=>?_);have ce:=wQ T A;have hm:=T.m2;unfold zD;refine qX 3 rfl ?_;refine qI ?_;refine qX 2 rfl ?_;refine aa.kc tok rfl rfl rfl rfl rfl ?_;refine aa.call tok rfl rfl rfl rfl ce ?_;refine qU 1 rfl ?_;refine qK 2 rfl ?_;refine aa.nil ?_;by_cases e2:iY rt [a]=0;rotate_left
 · rw[if_pos e2,bne_iff_ne.2 (show ((iY rt [a]:Nat):Int)≠0 by omega)];refine AW.aB rfl ?_;refine qX 3 rfl ?_;exact qN rfl
 rw[if_neg (fun h=>h e2),bne_eq_false_iff_eq.2 (show ((iY rt [a]:Nat):Int)=0 by omega)];obtain ⟨k1,k2⟩:=vR e2;have h5:=(ou k1).1;obtain ⟨n1,n2,n3⟩:=hC T.m1 A k2;have nl:=n1.len (by omega);have cl:=jq (aC a) n2 (by omega) (by omega);have cs:=dq (aY (aC a)) n1.minus h5;rw[← n3] at cl;refine AW.ar rfl ?_;refine AW.skip ?_;refine qX 1 rfl ?_;refine aa.call tok rfl rfl rfl rfl cl ?_;refine aa.call tok rfl rfl rfl rfl cs ?_;refine qU 2 rfl ?_;exact qN rfl
theorem wK{m:Nat}{v:List NQ}{a:NQ}(V:iz m v)(ha:ay v.length a)(sa:az m a):Pure Tryz.prog 68 [aL v,ae a] (.tu [ae (aH a),dI 0]):=by
 have:=rH V.raw.1 (gD V ha sa);unfold zD at this;rw[ck1 V ha,if_neg (fun h=>h rfl),mQ,gY,fH] at this;exact this
theorem jV(r:RD){k:Nat}(hr:r.w k)(h1:1≤k)(hk:k≤1000000):Pure Tryz.prog 73 [r.D] (ae (np r.val)):=by
 refine qJ 10 Tryz.func73 rfl rfl rfl rfl (by kernel_rfl) (fun B F0 w0=>?_);have c1:=lB r hr (by omega);have c2:=mT r (Qr 0) hr (eN _ (jK h1)) (by omega);rw[bH,show r.val+0=r.val from Rat.add_zero _,eF] at c2;rw[uN] at c1;unfold np;refine qX 2 rfl ?_;refine qI ?_;refine qX 1 rfl ?_;refine aa.call tok rfl rfl rfl rfl c1 ?_;refine qU 1 rfl ?_;refine aa.nil ?_;by_cases h:r.val=0
 · rw[if_pos h,beq_iff_eq.2 (rz.2 h)];refine AW.aB rfl ?_;refine qX 1 rfl ?_;exact qN rfl
 rw[if_neg h,beq_eq_false_iff_ne.2 (fun e=>h (rz.1 e))];refine AW.ar rfl ?_;refine AW.skip ?_;refine qX 2 rfl ?_;refine aa.call tok rfl rfl rfl rfl c2 ?_;refine aa.kc tok rfl rfl rfl rfl rfl ?_;refine qU 1 rfl ?_;exact qN rfl
theorem wS{m:Nat}{v:List NQ}{a b:NQ}(V:iz m v)(ha:ay v.length a)(sa:az m a)(hb:ay v.length b)(sb:az m b):Pure Tryz.prog 160 [aL v,ae a,ae b] (.tu [ae (vU a b),dI 0]):=by
 refine qJ 21 Tryz.func160 rfl rfl rfl rfl (by kernel_rfl) (fun B F0 w0=>?_);have ce:=im V ha sa hb sb;have hm:=V.m2;have h5:=V.l5;have la:=ha.len (by omega);have lb:=hb.len (by omega);have cp:=fo a b sa sb (by omega) (by omega) (by omega);have cs:=dq (bh a b) (ha.plus hb) h5;refine qX 3 rfl ?_;refine qI ?_;refine qX 3 rfl ?_;refine aa.kc tok rfl rfl rfl rfl rfl ?_;refine aa.call tok rfl rfl rfl rfl ce ?_;refine qU 1 rfl ?_;refine qK 2 rfl ?_;refine aa.nil ?_;refine AW.ar rfl ?_;refine AW.skip ?_;refine qX 2 rfl ?_;refine aa.call tok rfl rfl rfl rfl cp ?_;refine aa.call tok rfl rfl rfl rfl cs ?_;refine qU 2 rfl ?_;exact qN rfl
theorem wI{m:Nat}{v:List NQ}{a b:NQ}(V:iz m v)(ha:ay v.length a)(sa:az m a)(hb:ay v.length b)(sb:az m b):Pure Tryz.prog 121 [aL v,ae a,ae b] (.tu [ae (fB a b),dI 0]):=by
 refine qJ 22 Tryz.func121 rfl rfl rfl rfl (by kernel_rfl) (fun B F0 w0=>?_);have ce:=im V ha sa hb sb;have hm:=V.m2;have h5:=V.l5;have la:=ha.len (by omega);have lb:=hb.len (by omega);have cl:=jq b sb (by omega) (by omega);have cp:=fo a (aY b) sa sb.minus (by omega) (by omega) (by rw[fc];omega);have cs:=dq (bh a (aY b)) (ha.plus hb.minus) h5;refine qX 3 rfl ?_;refine qI ?_;refine qX 3 rfl ?_;refine aa.kc tok rfl rfl rfl rfl rfl ?_;refine aa.call tok rfl rfl rfl rfl ce ?_;refine qU 1 rfl ?_;refine qK 2 rfl ?_;refine aa.nil ?_;refine AW.ar rfl ?_;refine AW.skip ?_;refine qX 2 rfl ?_;refine aa.call tok rfl rfl rfl rfl cl ?_;refine aa.call tok rfl rfl rfl rfl cp ?_;refine aa.call tok rfl rfl rfl rfl cs ?_;refine qU 2 rfl ?_;exact qN rfl
theorem wL{m:Nat}{v:List NQ}{a b:NQ}(hsT:sT v.length m≤17300000000000)(V:iz m v)(ha:ay v.length a)(sa:az m a)(hb:ay v.length b)(sb:az m b):Pure Tryz.prog 122 [aL v,ae a,ae b] (.tu [ae (fV v a b),dI 0]):=by
 refine qJ 22 Tryz.func122 rfl rfl rfl rfl (by kernel_rfl) (fun B F0 w0=>?_);have ce:=im V ha sa hb sb;have hm:=V.m2;have h5:=V.l5;have la:=ha.len (by omega);have lb:=hb.len (by omega);have hx: ∀j,j<v.length→(v.map ae)[j]?=some (ae (v.getD j [])):=fun j hj=>xu hj;have ct:=fI v.length (xs:=v.map ae) ha hb V.ro (Nat.le_refl _) h5 hx sa sb V.sz hsT;have rt:=jR v.length ha hb V.ro (Nat.le_refl _);have tt:=lp v.length ha hb V.ro (Nat.le_refl _);have cs:=dq (ev v.length v a b) rt.1 h5;rw[wj rt.1 tt.1 (rt.2.trans tt.2.symm)] at cs;refine qX 3 rfl ?_;refine qI ?_;refine qX 3 rfl ?_;refine aa.kc tok rfl rfl rfl rfl rfl ?_;refine aa.call tok rfl rfl rfl rfl ce ?_;refine qU 1 rfl ?_;refine qK 2 rfl ?_;refine aa.nil ?_;refine AW.ar rfl ?_;refine AW.skip ?_;refine qX 3 rfl ?_;refine aa.call tok rfl rfl rfl rfl ct ?_;refine aa.call tok rfl rfl rfl rfl cs ?_;refine qU 2 rfl ?_;exact qN rfl
theorem mR{m:Nat}{v:List NQ}{a b:NQ}(V:iz m v)(ha:ay v.length a)(sa:az m a)(hb:ay v.length b)(sb:az m b):Pure Tryz.prog 120 [aL v,ae a,ae b] (ae (vU a b)):=by
 refine qJ 17 Tryz.func120 rfl rfl rfl rfl (by kernel_rfl) (fun B F0 w0=>?_);have c1:=wS V ha sa hb sb;refine qX 2 rfl ?_;refine qK 3 rfl ?_;refine aa.call tok rfl rfl rfl rfl c1 ?_;refine qU 5 rfl ?_;refine qK 2 rfl ?_;exact qN rfl
theorem kv{m:Nat}{v:List NQ}{a b:NQ}(V:iz m v)(ha:ay v.length a)(sa:az m a)(hb:ay v.length b)(sb:az m b):Pure Tryz.prog 77 [aL v,ae a,ae b] (ae (fB a b)):=by
 refine qJ 17 Tryz.func77 rfl rfl rfl rfl (by kernel_rfl) (fun B F0 w0=>?_);have c1:=wI V ha sa hb sb;refine qX 2 rfl ?_;refine qK 3 rfl ?_;refine aa.call tok rfl rfl rfl rfl c1 ?_;refine qU 5 rfl ?_;refine qK 2 rfl ?_;exact qN rfl
theorem gl{m:Nat}{v:List NQ}{a b:NQ}(hsT:sT v.length m≤17300000000000)(V:iz m v)(ha:ay v.length a)(sa:az m a)(hb:ay v.length b)(sb:az m b):Pure Tryz.prog 78 [aL v,ae a,ae b] (ae (fV v a b)):=by
 refine qJ 17 Tryz.func78 rfl rfl rfl rfl (by kernel_rfl) (fun B F0 w0=>?_);have c1:=wL hsT V ha sa hb sb;refine qX 2 rfl ?_;refine qK 3 rfl ?_;refine aa.call tok rfl rfl rfl rfl c1 ?_;refine qU 5 rfl ?_;refine qK 2 rfl ?_;exact qN rfl
theorem gk{m:Nat}{v:List NQ}{a:NQ}(V:iz m v)(ha:ay v.length a)(sa:az m a):Pure Tryz.prog 76 [aL v,ae a] (ae (aH a)):=by
 refine qJ 14 Tryz.func76 rfl rfl rfl rfl (by kernel_rfl) (fun B F0 w0=>?_);have c1:=wK V ha sa;refine qX 2 rfl ?_;refine qK 2 rfl ?_;refine aa.call tok rfl rfl rfl rfl c1 ?_;refine qU 5 rfl ?_;refine qK 2 rfl ?_;exact qN rfl
theorem rE{m:Nat}{rt:List (List RD)}(p:dL)(T:mr m rt)(hp:p.ok m rt)(h0:cJ rt=0):Pure Tryz.prog 38 [sW rt,p.D] (dI (ub rt p)):=by
 refine qJ 36 Tryz.func38 rfl rfl rfl rfl (by kernel_rfl) (fun B F0 w0=>?_)
 have hq: ∀k,k<4→ ∃q,[a9 p.c,a9 p.s,a9 p.x,a9 p.y][k]?=some (a9 q)∧Au rt p k=bz rt.length q∧iA m rt q:=fun k hk=>by
  rcases k with _ | k
  · exact⟨p.c,rfl,rfl,hp.c⟩
  rcases k with _ | k
  · exact⟨p.s,rfl,rfl,hp.s⟩
  rcases k with _ | k
  · exact⟨p.x,rfl,rfl,hp.x⟩
  rcases k with _ | k
  · exact⟨p.y,rfl,rfl,hp.y⟩
  omega
 unfold ub;obtain ⟨E,hE⟩: ∃E,fE (Au rt p) (4-0) 0=E:=⟨_,rfl⟩;rw[hE];refine qX 3 rfl ?_;refine qK 8 rfl ?_;refine aa.kc tok rfl rfl rfl rfl rfl ?_;refine qU 1 rfl ?_;refine qI ?_;refine qX 1 rfl ?_;refine aa.nil ?_;refine AW.block ?_;refine AW.aD [2,5,6] (fun i:Nat=>[(2,.bx [.sl 1 (rt.map a9)]),(5,.d (.sl 1 [a9 p.c,a9 p.s,a9 p.x,a9 p.y])),(6,.d (dI i))]) (fun i=>i≤4∧fE (Au rt p) (4-i) i=E) (fun i=>4-i) 0 rfl ⟨Nat.zero_le _,hE⟩ (fun i ⟨hi,hiE⟩=>?_);refine AW.seq ?_;refine qX 4 rfl ?_;refine aa.nil ?_;by_cases hii:i<4;rotate_left
 · rw[dy hii] at hiE;subst hiE;have:i=4:=by omega
   subst this;refine AW.ar rfl ?_;refine AW.exit ?_;refine qX 1 rfl ?_;exact qN rfl
 obtain ⟨q,hg,hgq,hqo⟩:=hq i hii;have cn:=rH T hqo;have hmiss:=fun h0:Au rt p i=0=>(bX hii h0).symm.trans hiE;have hhit:=fun h0:Au rt p i≠0=>(dw hii h0).symm.trans hiE;unfold zD at cn;rw[EF h0] at cn;rw[hgq] at hmiss hhit;rw[show decide ((i:Int)<(([a9 p.c,a9 p.s,a9 p.x,a9 p.y]:List D).length:Int))=true from decide_eq_true (by show (i:Int)<((4:Nat):Int);omega)];refine AW.aB rfl ?_;refine AW.skip (AW.seq (AW.block (AW.seq ?_)));by_cases hz:bz rt.length q=0;rotate_left
 · rw[if_pos hz] at cn;have:=hhit hz;subst this;refine AW.draw aI 10 (by kernel_rfl) ?_;refine qP 3 rfl ?_;refine af.idx tok (a9 q) rfl rfl rfl rfl rfl (Int.natCast_nonneg i) hg ?_;refine qP 1 rfl ?_;refine af.call tok rfl rfl rfl rfl rfl cn ?_;refine qP 4 rfl ?_;refine af.nil ?_;refine qU 1 rfl ?_;refine qK 2 rfl ?_;rw[bne_iff_ne.2 (show ((bz rt.length q:Nat):Int)≠0 by omega)];refine aa.nil ?_;refine AW.aB rfl ?_;refine qX 2 rfl ?_;exact qN rfl
 rw[if_neg (fun h=>h hz)] at cn;refine AW.draw aI 10 (by kernel_rfl) ?_;refine qP 3 rfl ?_;refine af.idx tok (a9 q) rfl rfl rfl rfl rfl (Int.natCast_nonneg i) hg ?_;refine qP 1 rfl ?_;refine af.call tok rfl rfl rfl rfl rfl cn ?_;refine qP 4 rfl ?_;refine af.nil ?_;refine qU 1 rfl ?_;refine qK 2 rfl ?_;refine aa.nil ?_;refine AW.ar rfl ?_;refine AW.skip ?_;refine qT 2 rfl ?_;rw[au (x:=(i:Int)+1) (by omega) (by omega)];refine qU 1 rfl ?_;refine aa.nil ?_;exact⟨i+1,rfl,⟨hii,hmiss hz⟩,by omega⟩
end Lift
namespace Lift
open Go Go.Proofs
theorem uW(l:Lkg)(a:Asm){K m:Nat}(hl:l.ok K)(hK:K≤5000000)(ha:a.ok m):Pure Tryz.prog 16 [l.D,a.D] (dI (fD l a)):=by
 refine qJ 45 Tryz.func16 rfl rfl rfl rfl (by kernel_rfl) (fun B0 F0 w0=>?_);have cM:=nK l hl hK;obtain ⟨m0,t1,t2,tw,tk⟩:=ha.t.t;have cT:=nN a.rt tw t1 ha.t.l ha.t.ll tk;have hal:=ha.l;have haT:=ha.t;have hab:=ha.b;unfold fD;obtain ⟨E,hE⟩: ∃E,fE (fun i=>ub a.rt (a.bodies.getD i default)) (a.bodies.length-0) 0=E:=⟨_,rfl⟩;rw[hE];generalize tD l=c1 at cM ⊢;obtain ⟨ln,lb,js,lds⟩:=l;obtain ⟨rt,bs,md⟩:=a;simp only[] at *;refine qX 3 rfl ?_;refine qI ?_;refine qX 1 rfl ?_;refine aa.call tok rfl rfl rfl rfl cM ?_;refine qU 1 rfl ?_;refine qK 2 rfl ?_;refine aa.nil ?_;by_cases e1:c1=0;rotate_left
 · rw[if_pos e1,bne_iff_ne.2 (show ((c1:Nat):Int)≠0 by omega)];refine AW.aB rfl ?_;refine qX 2 rfl ?_;exact qN rfl
 rw[if_neg (fun h=>h e1),bne_eq_false_iff_eq.2 (show ((c1:Nat):Int)=0 by omega)];refine AW.ar rfl ?_;refine AW.skip (AW.seq ?_);refine qX 2 rfl ?_;refine aa.call tok rfl rfl rfl rfl cT ?_;refine qU 1 rfl ?_;refine qK 2 rfl ?_;refine aa.nil ?_;by_cases e2:cJ rt=0;rotate_left
 · rw[if_pos e2,bne_iff_ne.2 (show ((cJ rt:Nat):Int)≠0 by omega)];refine AW.aB rfl ?_;refine qX 2 rfl ?_;exact qN rfl
 rw[if_neg (fun h=>h e2),bne_eq_false_iff_eq.2 (show ((cJ rt:Nat):Int)=0 by omega)];refine AW.ar rfl ?_;refine AW.skip (AW.seq ?_);refine qX 2 rfl ?_;refine qU 1 rfl ?_;rw[List.length_map];refine qU 3 rfl ?_;rw[List.length_map];refine qU 1 rfl ?_;refine aa.nil ?_;by_cases e3:bs.length=lb.length;rotate_left
 · rw[if_pos e3,bne_iff_ne.2 (show ((bs.length:Nat):Int)≠((lb.length:Nat):Int) by omega)];refine AW.aB rfl ?_;refine qX 1 rfl ?_;exact qN rfl
 rw[if_neg (fun h=>h e3),bne_eq_false_iff_eq.2 (show ((bs.length:Nat):Int)=((lb.length:Nat):Int) by omega)];refine AW.ar rfl ?_;refine AW.skip (AW.seq ?_);refine qX 1 rfl ?_;refine aa.nil ?_;refine AW.block ?_;refine AW.aD [3,7] (fun i:Nat=>[(3,.bx [.sl 1 (rt.map a9),.sl 4 (bs.map dL.D),.sl 1 (md.map (fun n=>dI n))]),(7,.d (dI i))]) (fun i=>i≤bs.length∧fE (fun i=>ub rt (bs.getD i default)) (bs.length-i) i=E) (fun i=>bs.length-i) 0 rfl ⟨Nat.zero_le _,hE⟩ (fun i ⟨hi,hiE⟩=>?_);refine AW.seq ?_;refine qX 4 rfl ?_;rw[List.length_map];refine qU 1 rfl ?_;refine aa.nil ?_;refine AW.cond rfl (fun h=>?_) (fun h=>?_);rotate_left
 · have hii: ¬i<bs.length:=by have:=of_decide_eq_false h;omega
   rw[dy hii] at hiE;subst hiE;refine AW.exit ?_;refine qX 1 rfl ?_;exact qN rfl
 have hii:i<bs.length:=by have:=of_decide_eq_true h;omega
 have hg:=getM dL.D hii;have cn:=rE (bs.getD i default) haT (hab i hii) e2;have hmiss:=fun h0:ub rt (bs.getD i default)=0=>(bX (f:=fun i=>ub rt (bs.getD i default)) hii h0).symm.trans hiE;have hhit:=fun h0:ub rt (bs.getD i default)≠0=>(dw (f:=fun i=>ub rt (bs.getD i default)) hii h0).symm.trans hiE;generalize ub rt (bs.getD i default)=z at cn hmiss hhit;refine AW.skip (AW.seq (AW.block (AW.seq ?_)));refine AW.draw aI 8 (by kernel_rfl) ?_;refine qP 5 rfl ?_;refine af.idx tok (bs.getD i default).D rfl rfl rfl rfl rfl (Int.natCast_nonneg i) hg ?_;refine qP 1 rfl ?_;refine af.call tok rfl rfl rfl rfl rfl cn ?_;refine af.nil ?_;refine qU 1 rfl ?_;refine qK 2 rfl ?_;refine aa.nil ?_;by_cases hz:z=0;rotate_left
 · have:=hhit hz;subst this;rw[bne_iff_ne.2 (show ((z:Nat):Int)≠0 by omega)];refine AW.aB rfl ?_;refine qX 2 rfl ?_;exact qN rfl
 rw[bne_eq_false_iff_eq.2 (show ((z:Nat):Int)=0 by omega)];refine AW.ar rfl ?_;refine AW.skip ?_;refine qT 2 rfl ?_;rw[au (x:=(i:Int)+1) (by omega) (by omega)];refine qU 1 rfl ?_;refine aa.nil ?_;exact⟨i+1,rfl,⟨hii,hmiss hz⟩,by omega⟩
set_option maxHeartbeats 800000 in
theorem uU{v:List NQ}{P:C6}(l:Lkg)(bs:List dL)(md:List Int)(b p:Int)(V:iz 16 v)(hl:v.length≤2)(hb0:0≤b)(hb1:b<l.bodies.length)(hp0:0≤p)(hp1:p<(l.bodies.getD b.toNat default).pts.length)
  (hP:(bs.map dL.D)[b.toNat]?=some P.D) (hPo:P.ok v.length 16) (wx:((l.bodies.getD b.toNat default).pts.getD p.toNat default).x.w 16) (wy:((l.bodies.getD b.toNat default).pts.getD p.toNat default).y.w 16):
  Pure Tryz.prog 72 [l.D,.ag [.sl 1 (v.map ae),.sl 4 (bs.map dL.D),.sl 1 (md.map (fun n=>dI n))],dI b,dI p] (.tu [ae (FB v P (np ((l.bodies.getD b.toNat default).pts.getD p.toNat default).x.val) (np ((l.bodies.getD b.toNat default).pts.getD p.toNat default).y.val)),ae (FA v P (np ((l.bodies.getD b.toNat default).pts.getD p.toNat default).x.val) (np ((l.bodies.getD b.toNat default).pts.getD p.toNat default).y.val))]):=by
 refine qJ 69 Tryz.func72 rfl rfl rfl rfl (by kernel_rfl) (fun B0 F0 w0=>?_);have gB:(l.bodies.map Body.D)[b.toNat]?=some (l.bodies.getD b.toNat default).D:=getM Body.D (by omega);have gM:((l.bodies.getD b.toNat default).pts.map Mark.D)[p.toNat]?=some ((l.bodies.getD b.toNat default).pts.getD p.toNat default).D:=getM Mark.D (by omega);have c1:=jV _ wx (by decide) (by decide);have c2:=jV _ wy (by decide) (by decide);have hx:=kz v.length (bC wx (by decide));have hy:=kz v.length (bC wy (by decide));obtain ⟨ln,lb,js,lds⟩:=l;simp only[] at *;generalize lb.getD b.toNat default=Bd at *;generalize Bd.pts.getD p.toNat default=M at *;generalize np M.x.val=px at *;generalize np M.y.val=py at *;have s1:=l6 (m:=16) hl;have V2:=V.mono (k:=1400) (by decide) (by decide);have m1:=gl (by omega) V hPo.c.1 hPo.c.2 hx.1 hx.2;have m2:=gl (by omega) V hPo.s.1 hPo.s.2 hy.1 hy.2;have m3:=gl (by omega) V hPo.s.1 hPo.s.2 hx.1 hx.2;have m4:=gl (by omega) V hPo.c.1 hPo.c.2 hy.1 hy.2;have p1:=cG V hPo.c.1 hPo.c.2 hx.1 hx.2;have p2:=cG V hPo.s.1 hPo.s.2 hy.1 hy.2;have p3:=cG V hPo.s.1 hPo.s.2 hx.1 hx.2;have p4:=cG V hPo.c.1 hPo.c.2 hy.1 hy.2;have q1:=eZ p1.1 p1.2 p2.1 p2.2;have q2:=oC p3.1 p3.2 p4.1 p4.2;have n1:=kv V2 p1.1 (p1.2.mono (by omega)) p2.1 (p2.2.mono (by omega));have n2:=mR V2 p3.1 (p3.2.mono (by omega)) p4.1 (p4.2.mono (by omega));have o1:=mR V2 q1.1 (q1.2.mono (by omega)) hPo.x.1 (hPo.x.2.mono (by omega));have o2:=mR V2 q2.1 (q2.2.mono (by omega)) hPo.y.1 (hPo.y.2.mono (by omega));unfold FB FA;refine qX 4 rfl ?_;refine qI ?_;refine AW.lV tok aI [(2,true),(14,false),(3,true)] 19 [10,11,12] (by kernel_rfl) ⟨rfl,?_⟩;refine qP 2 rfl ?_;refine af.nil ⟨rfl,?_⟩;refine qP 3 rfl ?_;refine af.idx tok P.D rfl rfl rfl rfl rfl hb0 hP ?_;refine qP 4 rfl ?_;refine af.idx tok Bd.D rfl rfl rfl rfl rfl hb0 gB ?_;refine qP 3 rfl ?_;refine af.idx tok M.D rfl rfl rfl rfl rfl hp0 gM ?_;refine qP 1 rfl ?_;refine af.nil ⟨rfl,?_⟩;refine qP 3 rfl ?_;refine af.nil ⟨_,k5.cons (.bx rfl) (k5.cons (.bx rfl) (k5.cons (.bx rfl) k5.nil)),aa.nil ?_⟩;refine AW.seq ?_;refine AW.draw aI 6 (by kernel_rfl) ?_;refine qP 2 rfl ?_;refine af.call tok rfl rfl rfl rfl rfl c1 ?_;refine qP 2 rfl ?_;refine af.call tok rfl rfl rfl rfl rfl c2 ?_;refine af.nil ?_;refine qU 2 rfl ?_;refine qI ?_;refine AW.draw aI 32 (by kernel_rfl) ?_;refine qP 6 rfl ?_;refine af.call tok rfl rfl rfl rfl rfl m1 ?_;refine qP 4 rfl ?_;refine af.call tok rfl rfl rfl rfl rfl m2 ?_;refine af.call tok rfl rfl rfl rfl rfl n1 ?_;refine qP 2 rfl ?_;refine af.call tok rfl rfl rfl rfl rfl o1 ?_;refine qP 6 rfl ?_;refine af.call tok rfl rfl rfl rfl rfl m3 ?_;refine qP 4 rfl ?_;refine af.call tok rfl rfl rfl rfl rfl m4 ?_;refine af.call tok rfl rfl rfl rfl rfl n2 ?_;refine qP 2 rfl ?_;refine af.call tok rfl rfl rfl rfl rfl o2 ?_;refine af.nil ?_;refine qU 2 rfl ?_;exact qN rfl
end Lift
namespace Lift
open Go Go.Proofs
theorem At(k:Nat):(List.replicate k ([]:NQ))++[[]]=List.replicate (k+1) []:=(List.replicate_succ' ..).symm
theorem rD(l:Lkg)(h1:1≤l.bodies.length)(h2:l.bodies.length≤1000):fS Tryz.prog 75 [l.D] [] (BV (iZ l.bodies.length)):=by
 refine fS.intro (n:=20) tok Tryz.func75 rfl rfl rfl (Nat.le_of_ble_eq_true rfl) (by kernel_rfl) (fun B F0 w0=>?_);have c1:=jV (Qr 0) (k:=1) (eN _ (jK (by decide))) (by decide) (by decide);rw[bH,eF,show np 0=[] from rfl] at c1;obtain ⟨n,hn⟩: ∃n,l.bodies.length=n:=⟨_,rfl⟩;rw[hn] at h1 h2;unfold iZ;rw[hn];obtain ⟨ln,lb,js,lds⟩:=l;simp only[] at hn;obtain ⟨N,hN⟩: ∃N,3*(n-1)=N:=⟨_,rfl⟩;rw[hN];refine AZ.seq ?_;refine AZ.dm (fun B1 F1 w1=>?_);refine qU 2 rfl ?_;refine aa.nil ⟨rfl,?_⟩;refine AZ.seq ?_;refine AZ.dm (fun B1 F1 w1=>?_);refine qU 1 rfl ?_;refine aa.nil ⟨rfl,?_⟩;refine AZ.seq ?_;refine AZ.seq ?_;refine AZ.dm (fun B1 F1 w1=>?_);refine qU 1 rfl ?_;refine aa.nil ⟨rfl,?_⟩;refine AZ.block ?_;refine AZ.aD [1,3,4] (fun k:Nat=>([],[(1,.bx [dS ln,ak lb,aj js,ai lds]),(3,.ow 52 (cH (List.replicate k []))),(4,.d (dI k))])) (fun k=>k≤N) (fun k=>N-k) 0 rfl (Nat.zero_le _) (fun k hk=>?_)
 · show AZ _ _ _ _ _ _ _ [] [(1,.bx [dS ln,ak lb,aj js,ai lds]),(3,.ow 52 (cH (List.replicate k []))),(4,.d (dI k))];refine AZ.seq ?_;refine AZ.seq ?_;refine AZ.dm (fun B1 F1 w1=>?_);refine qU 4 rfl ?_;rw[List.length_map,hn];refine qU 1 rfl ?_;rw[au (x:=(n:Int) -1) (by omega) (by omega)];refine qU 1 rfl ?_;rw[au (x:=3*((n:Int) -1)) (by omega) (by omega)];refine qU 1 rfl ?_;refine aa.nil ⟨rfl,?_⟩;refine AZ.cond rfl (fun h=>?_) (fun h=>?_)
   · have hkN:k<N:=by have:=of_decide_eq_true h;omega
     refine AZ.skip ?_;refine AZ.seq ?_;refine AZ.block ?_;refine AZ.dm (fun B1 F1 w1=>?_);refine qU 2 rfl ?_;refine aa.call tok rfl rfl rfl rfl c1 ?_;refine aa.kc tok rfl rfl rfl rfl rfl ?_;refine aa.kI tok rfl rfl rfl rfl rfl rfl (by show ((cH (List.replicate k [])).length+1)*24≤_;rw[List.length_map,List.length_replicate];omega) (by show (cH (List.replicate k [])).length+1≤_;rw[List.length_map,List.length_replicate];omega) ?_;refine qU 1 rfl ?_;refine aa.nil ⟨rfl,?_⟩;refine AZ.dm (fun B1 F1 w1=>?_);refine qU 2 rfl ?_;rw[au (x:=(k:Int)+1) (by omega) (by omega)];refine qU 1 rfl ?_;refine aa.nil ⟨rfl,?_⟩
     exact⟨k+1,by
      show ([],[(1,AV.bx [dS ln,ak lb,aj js,ai lds]),(3,AV.ow 52 (cH (List.replicate k [])++[ae []])),(4,AV.d (dI ((k:Int)+1)))])=_;rw[show cH (List.replicate k [])++[ae []]=cH (List.replicate (k+1) []) by rw[← At];simp]
      rfl,hkN,by omega⟩
   have hkN:k=N:=by have:=of_decide_eq_false h;omega
   subst hkN;refine AZ.exit ?_;refine AZ.seq ?_;refine AZ.dm (fun B1 F1 w1=>?_);refine qU 2 rfl ?_;refine aa.nil ⟨rfl,?_⟩;exact AZ.fL 2 rfl rfl rfl (fun V=>AZ.ret ⟨.v V,rfl,V,rfl,rfl⟩)
def E4(r:List NQ)(b:Nat)(x y w:NQ):List NQ:=((r.set (3*b-3) x).set (3*b-2) y).set (3*b-1) w
theorem put_eq{r:List NQ}{b:Int}(x y w:NQ)(hb:0<b)(h:3*b.toNat≤r.length):aN r b x y w=E4 r b.toNat x y w:=by
 unfold aN E4;rw[if_pos hb];obtain ⟨k,hk⟩: ∃k,b.toNat=k+1:=⟨b.toNat-1,by omega⟩;rw[hk] at h ⊢;refine List.ext_getElem? fun i=>?_
 have e1:(r.take (3*(k+1-1))++[x,y,w]).length=3*k+3:=by
  rw[List.length_append,List.length_take];show min (3*(k+1-1)) r.length+3=_;omega
 rw[List.getElem?_set,List.getElem?_set,List.getElem?_set,List.length_set,List.length_set];by_cases h1:i<3*k
 · rw[if_neg (by omega),if_neg (by omega),if_neg (by omega),List.getElem?_append_left (by omega),List.getElem?_append_left (by rw[List.length_take];omega),List.getElem?_take,if_pos (by omega)]
 by_cases h2:i<3*k+3
 · rw[List.getElem?_append_left (by omega),List.getElem?_append_right (by rw[List.length_take];omega),List.length_take];obtain ⟨d,hd⟩: ∃d,i=3*k+d:=⟨i-3*k,by omega⟩;have h3:d=0∨d=1∨d=2:=by omega
   rcases h3 with rfl | rfl | rfl
   · rw[if_neg (by omega),if_neg (by omega),if_pos (by omega),if_pos (by omega),show i-min (3*(k+1-1)) r.length=0 by omega];rfl
   · rw[if_neg (by omega),if_pos (by omega),if_pos (by omega),show i-min (3*(k+1-1)) r.length=1 by omega];rfl
   · rw[if_pos (by omega),if_pos (by omega),show i-min (3*(k+1-1)) r.length=2 by omega];rfl
 · rw[if_neg (by omega),if_neg (by omega),if_neg (by omega),List.getElem?_append_right (by omega),e1,List.getElem?_drop]
   congr 1;omega
def BF(V:Value)(r:List NQ)(res:D)(R':List LR):Prop:=res= .v V∧R'=[(V,AV.ow 52 (cH r))]
theorem bf(V:Value)(r:List NQ)(b:Int)(x y w:NQ)(h1:0<b→3*b.toNat≤r.length)(hb:b≤1000000)(hb0: -1000000≤b):fS Tryz.prog 74 [.v V,dI b,ae x,ae y,ae w] [(V,AV.ow 52 (cH r))] (BF V (aN r b x y w)):=by
 refine fS.intro (n:=32) tok Tryz.func74 rfl rfl rfl (Nat.le_of_ble_eq_true rfl) (by kernel_rfl) (fun B F0 w0=>?_);refine AZ.seq ?_;refine AZ.dm (fun B1 F1 w1=>?_);refine qU 1 rfl ?_;refine aa.nil ⟨rfl,?_⟩;refine AZ.seq ?_;refine AZ.seq ?_;refine AZ.dm (fun B1 F1 w1=>?_);refine qU 2 rfl ?_;refine aa.nil ⟨rfl,?_⟩;refine AZ.cond rfl (fun h=>?_) (fun h=>?_)
 · have hb1:0<b:=of_decide_eq_true h;have h1:=h1 hb1;rw[put_eq x y w hb1 h1];unfold E4;obtain ⟨k,hk⟩: ∃k:Nat,b=k:=⟨b.toNat,by omega⟩;subst hk;have e:((k:Int)).toNat=k:=rfl;rw[e] at h1 ⊢;have u1:((3*(k:Int) -3)).toNat=3*k-3:=by omega
   have u2:((3*(k:Int) -2)).toNat=3*k-2:=by omega
   have u3:((3*(k:Int) -1)).toNat=3*k-1:=by omega
   refine AZ.region ?_;refine an.cut 15 rfl (fun B1 F1 w1=>?_);refine qU 3 rfl ?_;rw[au (x:=3*(k:Int)) (by omega) (by omega)];refine qU 1 rfl ?_;rw[au (x:=3*(k:Int) -3) (by omega) (by omega)];refine qU 3 rfl ?_;rw[au (x:=3*(k:Int)) (by omega) (by omega)];refine qU 1 rfl ?_;rw[au (x:=3*(k:Int) -2) (by omega) (by omega)];refine qU 3 rfl ?_;rw[au (x:=3*(k:Int)) (by omega) (by omega)];refine qU 1 rfl ?_;rw[au (x:=3*(k:Int) -1) (by omega) (by omega)];refine qU 3 rfl ?_;refine aa.nil ⟨rfl,?_⟩;refine an.cy 13 0 rfl rfl rfl ?_;refine an.cut 2 rfl (fun B1 F1 w1=>?_);refine aa.eJ tok rfl rfl rfl rfl (by omega) (by rw[List.length_map];omega) ?_;rw[u1];refine aa.mN tok x rfl rfl rfl (by omega) ?_;refine aa.nil ⟨rfl,?_⟩;refine an.back 13 0 rfl rfl rfl (List.Mem.head _) rfl ?_;refine an.cy 17 0 rfl rfl rfl ?_;refine an.cut 2 rfl (fun B1 F1 w1=>?_);refine aa.eJ tok rfl rfl rfl rfl (by omega) (by rw[List.length_map,List.length_set];omega) ?_;rw[u2];refine aa.mN tok y rfl rfl rfl (by rw[List.length_set];omega) ?_;refine aa.nil ⟨rfl,?_⟩;refine an.back 17 0 rfl rfl rfl (List.Mem.head _) rfl ?_;refine an.cy 21 0 rfl rfl rfl ?_;refine an.cut 2 rfl (fun B1 F1 w1=>?_);refine aa.eJ tok rfl rfl rfl rfl (by omega) (by rw[List.length_map,List.length_set,List.length_set];omega) ?_;rw[u3];refine aa.mN tok w rfl rfl rfl (by rw[List.length_set,List.length_set];omega) ?_;refine aa.nil ⟨rfl,?_⟩;refine an.back 21 0 rfl rfl rfl (List.Mem.head _) rfl ?_;refine an.nil ?_;refine AZ.seq ?_;refine AZ.dm (fun B1 F1 w1=>?_);refine qU 2 rfl ?_;refine aa.nil ⟨rfl,?_⟩;exact AZ.ret ⟨.v V,rfl,rfl,rfl⟩
 · have hb1: ¬0<b:=of_decide_eq_false h;rw[show aN r b x y w=r from if_neg hb1];refine AZ.skip ?_;refine AZ.seq ?_;refine AZ.dm (fun B1 F1 w1=>?_);refine qU 2 rfl ?_;refine aa.nil ⟨rfl,?_⟩;exact AZ.ret ⟨.v V,rfl,rfl,rfl⟩
end Lift
namespace Lift
open Go Go.Proofs
abbrev GC(v:List NQ)(bs:List dL)(md:List Int):D:= .ag [.sl 1 (v.map ae),.sl 4 (bs.map dL.D),.sl 1 (md.map (fun n=>dI n))]
theorem FH:Qr 1=⟨false,[1],[1]⟩:=by
 have e:tw 1=[1]:=by rw[oJ (by decide),show 1 / 4294967296=0 from rfl,gz]
 unfold Qr;rw[show (1:Rat).num=1 from rfl,show (1:Rat).den=1 from rfl,e,if_neg (by decide),iw,show (1:Int).natAbs=1 from rfl,e];rfl
structure GP (l:Lkg) (v:List NQ) (bs:List dL) (md:List Int) (X Y:Int→Int→NQ):Prop where
 b1:0<l.bodies.length
 b8:l.bodies.length≤8
 V:iz 16 v
 l2:v.length≤2
 w: ∀b p:Int,0≤b→b<l.bodies.length→0≤p→p<(l.bodies.getD b.toNat default).pts.length→Pure Tryz.prog 72 [l.D,GC v bs md,dI b,dI p] (.tu [ae (X b p),ae (Y b p)])
 s: ∀b p:Int,0≤b→b<l.bodies.length→0≤p→p<(l.bodies.getD b.toNat default).pts.length→(ay v.length (X b p)∧az 1400 (X b p))∧(ay v.length (Y b p)∧az 1400 (Y b p))
theorem oT{r:List NQ}{b:Int}{n:Nat}(x y w:NQ)(hr:r.length=3*(n-1))(h:b<n)(h0:0≤b)(hn:0<n):(aN r b x y w).length=3*(n-1):=by
 rw[nS x y w (fun _=>by omega)];exact hr
set_option maxHeartbeats 3200000 in
theorem yj{l:Lkg}{v:List NQ}{bs:List dL}{md:List Int}{X Y:Int→Int→NQ}(W:GP l v bs md X Y)(j:bp)(J:GA l.bodies j):Pure Tryz.prog 40 [l.D,GC v bs md,j.D] (gT [BS (iZ l.bodies.length) j.a j.b (Y j.a j.pt) (Y j.b j.on),BR (iZ l.bodies.length) j.a j.b (X j.a j.pt) (X j.b j.on)]):=by
 refine qJ 83 Tryz.func40 rfl rfl rfl rfl (by kernel_rfl) (fun B F0 w0=>?_);have b1:=W.b1;have b8:=W.b8;have c1:=W.w j.a j.pt J.a.1 J.a.2 J.pt.1 J.pt.2;have c2:=W.w j.b j.on J.b.1 J.b.2 J.on.1 J.on.2;obtain ⟨⟨x1,x2⟩,⟨x3,x4⟩⟩:=W.s j.a j.pt J.a.1 J.a.2 J.pt.1 J.pt.2;obtain ⟨⟨y1,y2⟩,⟨y3,y4⟩⟩:=W.s j.b j.on J.b.1 J.b.2 J.on.1 J.on.2;have hrow:=rD l b1 (by omega);have V:=W.V.mono (show 16≤1400 by decide) (by decide);have cone:=jV (Qr 1) (k:=1) (eN 1 eO) (by decide) (by decide);rw[bH,FH,show np 1=[1] from rfl] at cone;have czero:=jV (Qr 0) (k:=1) (eN _ (jK (by decide))) (by decide) (by decide);rw[bH,eF,show np 0=[] from rfl] at czero;have n1:=gk V (a:=[1]) (dA _ _) (dZ (by have:=eO;omega));have n2:=gk V x3 x4;have n3:=gk V y1 y2;have ja0:=J.a;have jb0:=J.b;generalize X j.a j.pt=px at *;generalize Y j.a j.pt=py at *;generalize X j.b j.on=qx at *;generalize Y j.b j.on=qy at *;have hz:=nG l.bodies.length;generalize l.bodies.length=n at *;generalize iZ n=zr at *;have hzl: ∀b:Int,0≤b→b<n→0<b→3*b.toNat≤zr.length:=fun b g1 g2 _=>by omega
 have hpl:=fun x y w=>oT x y w hz ja0.2 ja0.1 b1;have hpz: ∀(x y w:NQ) (b:Int),0≤b→b<n→0<b→3*b.toNat≤(aN zr j.a x y w).length:=fun x y w b g1 g2 _=>by rw[hpl];omega
 clear J W V x1 x2 x3 x4 y1 y2 y3 y4;obtain ⟨ln,lb,js,lds⟩:=l;obtain ⟨jn,jk,ja,jp,jb,jo,jt⟩:=j;simp only[] at *;refine AZ.aw ?_;refine AZ.seq ?_;refine AZ.dm (fun B1 F1 w1=>?_);refine qU 4 rfl ?_;refine aa.nil ⟨rfl,?_⟩;refine AZ.seq ?_;refine AZ.dm (fun B1 F1 w1=>?_);refine qU 4 rfl ?_;refine aa.nil ⟨rfl,?_⟩;refine AZ.seq ?_;refine AZ.dm (fun B1 F1 w1=>?_);refine qU 6 rfl ?_;refine aa.call tok rfl rfl rfl rfl c1 ?_;refine qU 5 rfl ?_;refine aa.nil ⟨rfl,?_⟩;refine AZ.seq ?_;refine AZ.dm (fun B1 F1 w1=>?_);refine qU 6 rfl ?_;refine aa.call tok rfl rfl rfl rfl c2 ?_;refine qU 5 rfl ?_;refine aa.nil ⟨rfl,?_⟩;refine AZ.seq ?_;refine AZ.dm (fun B1 F1 w1=>?_);refine aa.kc tok rfl rfl rfl rfl rfl ?_;refine aa.kc tok rfl rfl rfl rfl rfl ?_;refine qU 1 rfl ?_;refine aa.call tok rfl rfl rfl rfl cone ?_;refine qU 1 rfl ?_;refine aa.call tok rfl rfl rfl rfl czero ?_;refine qU 2 rfl ?_;refine aa.nil ⟨rfl,?_⟩;refine AZ.to [3,5,7,8,9,10,11,12,13] [(3,.bx [dS ln,ak lb,aj js,ai lds]),(5,.bx [dS jn,dI jk,dI ja,dI jp,dI jb,dI jo,dI jt]),(7,.bx [.sl 1 (v.map ae)]),(8,.d (ae px)),(9,.d (ae py)),(10,.d (ae qx)),(11,.d (ae qy)),(12,.d (ae [1])),(13,.d (ae []))] rfl ?_;refine AZ.seq ?_;refine AZ.any aI (ZH.any (β:=[(5,[dS jn,dI jk,dI ja,dI jp,dI jb,dI jo,dI jt])]) ?_);refine ZH.mv 4 rfl rfl (by kernel_rfl) (by kernel_rfl) (by kernel_rfl) rfl (fun _ _ _ h=>h) (fun _=>rfl) ⟨rfl,trivial⟩ (fun B1 F1 w1=>?_);refine qU 1 rfl ?_;refine aa.nil ⟨rfl,?_⟩;refine ZH.mv 5 rfl rfl (by kernel_rfl) (by kernel_rfl) (by kernel_rfl) rfl (fun _ _ _ h=>h) (fun _=>rfl) ⟨rfl,trivial⟩ (fun B1 F1 w1=>?_);refine qU 1 rfl ?_;refine aa.nil ⟨rfl,?_⟩;refine ZH.mv 7 rfl rfl (by kernel_rfl) (by kernel_rfl) (by kernel_rfl) rfl (fun _ _ _ h=>h) (fun _=>rfl) ⟨rfl,trivial⟩ (fun B1 F1 w1=>?_);refine qU 1 rfl ?_;refine aa.nil ⟨rfl,?_⟩;refine ZH.mv 13 rfl rfl (by kernel_rfl) (by kernel_rfl) (by kernel_rfl) rfl (fun _ _ _ h=>h) (fun _=>rfl) ⟨rfl,trivial⟩ (fun B1 F1 w1=>?_);refine qU 1 rfl ?_;refine aa.nil ⟨rfl,?_⟩;refine ZH.mv 15 rfl rfl (by kernel_rfl) (by kernel_rfl) (by kernel_rfl) rfl (fun _ _ _ h=>h) (fun _=>rfl) ⟨rfl,trivial⟩ (fun B1 F1 w1=>?_);refine qU 1 rfl ?_;refine aa.nil ⟨rfl,?_⟩;refine ZH.mv 16 rfl rfl (by kernel_rfl) (by kernel_rfl) (by kernel_rfl) rfl (fun _ _ _ h=>h) (fun _=>rfl) ⟨rfl,trivial⟩ (fun B1 F1 w1=>?_);refine qU 1 rfl ?_;refine aa.nil ⟨rfl,?_⟩;refine ZH.fd tok 2 rfl rfl (by kernel_rfl) (by kernel_rfl) (by kernel_rfl) rfl (fun _ _ _ h=>h) (fun _=>rfl) ⟨rfl,trivial⟩ (fun B1 F1 w1=>?_);refine qU 1 rfl ?_;refine aa.nil ⟨rfl,?_⟩;refine ZH.fd tok 10 rfl rfl (by kernel_rfl) (by kernel_rfl) (by kernel_rfl) rfl (fun _ _ _ h=>h) (fun _=>rfl) ⟨rfl,trivial⟩ (fun B1 F1 w1=>?_);refine qU 1 rfl ?_;refine aa.nil ⟨rfl,?_⟩;refine ZH.ld tok 3 rfl rfl (by kernel_rfl) (by kernel_rfl) (by kernel_rfl) rfl rfl (fun _ _ _ h=>h) (fun _=>rfl) ⟨rfl,trivial⟩ (fun B1 F1 w1=>?_);refine qU 1 rfl ?_;refine aa.nil ⟨rfl,?_⟩;refine ZH.ld tok 11 rfl rfl (by kernel_rfl) (by kernel_rfl) (by kernel_rfl) rfl rfl (fun _ _ _ h=>h) (fun _=>rfl) ⟨rfl,trivial⟩ (fun B1 F1 w1=>?_);refine qU 1 rfl ?_;refine aa.nil ⟨rfl,?_⟩;refine ZH.meet 0 (qB 19 524287) (fun V=>[(V,AV.ow 52 (cH (aN (aN zr ja [1] [] (aH py)) jb (aH [1]) [] qy)))]) (fun V=>[(3,.bx [dS ln,ak lb,aj js,ai lds]),(5,.bx [dS jn,dI jk,dI ja,dI jp,dI jb,dI jo,dI jt]),(7,.bx [.sl 1 (v.map ae)]),(8,.d (ae px)),(9,.d (ae py)),(10,.d (ae qx)),(11,.d (ae qy)),(12,.d (ae [1])),(13,.d (ae [])),(47,.d (dI ja)),(48,.d (ae [1])),(49,.d (ae [])),(51,.d (ae py)),(55,.d (dI jb)),(57,.d (ae [1])),(59,.d (ae [])),(60,.d (ae qy)),(44,.d (Lkg.D ⟨ln,lb,js,lds⟩)),(45,.d (.v V)),(52,.d (ae (aH py))),(53,.d (.v V)),(58,.d (ae (aH [1]))),(61,.d (.v V)),(14,.d (.v V)),(50,.d (aL v)),(56,.d (aL v))]) (fun V=>?_) (fun N7_1_1=>?_)
 · refine ZH.done (by kernel_rfl) ⟨rfl,trivial⟩ ?_;refine AZ.to [3,5,7,8,9,10,11,12,13,14] [(3,.bx [dS ln,ak lb,aj js,ai lds]),(5,.bx [dS jn,dI jk,dI ja,dI jp,dI jb,dI jo,dI jt]),(7,.bx [.sl 1 (v.map ae)]),(8,.d (ae px)),(9,.d (ae py)),(10,.d (ae qx)),(11,.d (ae qy)),(12,.d (ae [1])),(13,.d (ae [])),(14,.d (.v V))] rfl ?_;refine AZ.cy 14 0 rfl rfl rfl ?_;refine AZ.z7 [] (fun i r h=>by simp at h) ?_;refine AZ.seq ?_;refine AZ.any aI (ZH.any (β:=[(5,[dS jn,dI jk,dI ja,dI jp,dI jb,dI jo,dI jt])]) ?_);refine ZH.mv 4 rfl rfl (by kernel_rfl) (by kernel_rfl) (by kernel_rfl) rfl (fun _ _ _ h=>h) (fun _=>rfl) ⟨rfl,trivial⟩ (fun B1 F1 w1=>?_);refine qU 1 rfl ?_;refine aa.nil ⟨rfl,?_⟩;refine ZH.mv 5 rfl rfl (by kernel_rfl) (by kernel_rfl) (by kernel_rfl) rfl (fun _ _ _ h=>h) (fun _=>rfl) ⟨rfl,trivial⟩ (fun B1 F1 w1=>?_);refine qU 1 rfl ?_;refine aa.nil ⟨rfl,?_⟩;refine ZH.mv 6 rfl rfl (by kernel_rfl) (by kernel_rfl) (by kernel_rfl) rfl (fun _ _ _ h=>h) (fun _=>rfl) ⟨rfl,trivial⟩ (fun B1 F1 w1=>?_);refine qU 1 rfl ?_;refine aa.nil ⟨rfl,?_⟩;refine ZH.mv 10 rfl rfl (by kernel_rfl) (by kernel_rfl) (by kernel_rfl) rfl (fun _ _ _ h=>h) (fun _=>rfl) ⟨rfl,trivial⟩ (fun B1 F1 w1=>?_);refine qU 1 rfl ?_;refine aa.nil ⟨rfl,?_⟩;refine ZH.mv 12 rfl rfl (by kernel_rfl) (by kernel_rfl) (by kernel_rfl) rfl (fun _ _ _ h=>h) (fun _=>rfl) ⟨rfl,trivial⟩ (fun B1 F1 w1=>?_);refine qU 1 rfl ?_;refine aa.nil ⟨rfl,?_⟩;refine ZH.mv 15 rfl rfl (by kernel_rfl) (by kernel_rfl) (by kernel_rfl) rfl (fun _ _ _ h=>h) (fun _=>rfl) ⟨rfl,trivial⟩ (fun B1 F1 w1=>?_);refine qU 1 rfl ?_;refine aa.nil ⟨rfl,?_⟩;refine ZH.fd tok 2 rfl rfl (by kernel_rfl) (by kernel_rfl) (by kernel_rfl) rfl (fun _ _ _ h=>h) (fun _=>rfl) ⟨rfl,trivial⟩ (fun B1 F1 w1=>?_);refine qU 1 rfl ?_;refine aa.nil ⟨rfl,?_⟩;refine ZH.fd tok 8 rfl rfl (by kernel_rfl) (by kernel_rfl) (by kernel_rfl) rfl (fun _ _ _ h=>h) (fun _=>rfl) ⟨rfl,trivial⟩ (fun B1 F1 w1=>?_);refine qU 1 rfl ?_;refine aa.nil ⟨rfl,?_⟩;refine ZH.ld tok 3 rfl rfl (by kernel_rfl) (by kernel_rfl) (by kernel_rfl) rfl rfl (fun _ _ _ h=>h) (fun _=>rfl) ⟨rfl,trivial⟩ (fun B1 F1 w1=>?_);refine qU 1 rfl ?_;refine aa.nil ⟨rfl,?_⟩;refine ZH.ld tok 9 rfl rfl (by kernel_rfl) (by kernel_rfl) (by kernel_rfl) rfl rfl (fun _ _ _ h=>h) (fun _=>rfl) ⟨rfl,trivial⟩ (fun B1 F1 w1=>?_);refine qU 1 rfl ?_;refine aa.nil ⟨rfl,?_⟩;refine ZH.meet 0 (qB 19 524287) (fun V=>[(V,AV.ow 52 (cH (aN (aN zr ja [] [1] px) jb [] (aH [1]) (aH qx))))]) (fun V=>[(3,.bx [dS ln,ak lb,aj js,ai lds]),(5,.bx [dS jn,dI jk,dI ja,dI jp,dI jb,dI jo,dI jt]),(7,.bx [.sl 1 (v.map ae)]),(8,.d (ae px)),(9,.d (ae py)),(10,.d (ae qx)),(11,.d (ae qy)),(12,.d (ae [1])),(13,.d (ae [])),(14,.ow 52 (cH (aN (aN zr ja [1] [] (aH py)) jb (aH [1]) [] qy))),(65,.d (dI ja)),(66,.d (ae [])),(67,.d (ae [1])),(68,.d (ae px)),(71,.d (dI jb)),(72,.d (ae [])),(74,.d (ae [1])),(77,.d (ae qx)),(62,.d (Lkg.D ⟨ln,lb,js,lds⟩)),(63,.d (.v V)),(69,.d (.v V)),(75,.d (ae (aH [1]))),(78,.d (ae (aH qx))),(79,.d (.v V)),(15,.d (.v V)),(73,.d (aL v)),(76,.d (aL v))]) (fun V=>?_) (fun N7_1_1=>?_)
   · refine ZH.done (by kernel_rfl) ⟨rfl,trivial⟩ ?_;refine AZ.to [14,15] [(14,.ow 52 (cH (aN (aN zr ja [1] [] (aH py)) jb (aH [1]) [] qy))),(15,.d (.v V))] rfl ?_;refine AZ.cy 15 0 rfl rfl rfl ?_;refine AZ.seq ?_;refine AZ.dm (fun B1 F1 w1=>?_);refine aa.gO tok 14 rfl rfl ?_;refine aa.gO tok 15 rfl rfl ?_;refine qU 2 rfl ?_;refine aa.kc tok rfl rfl rfl rfl rfl ?_;refine qU 1 rfl ?_;refine aa.nil ⟨rfl,?_⟩;exact AZ.ret rfl
   refine ZH.meet 1 (qB 19 262143) (fun V=>[(V,AV.ow 52 (cH (aN (aN zr ja [] [1] px) jb [] (aH [1]) (aH qx))))]) (fun V=>[(3,.bx [dS ln,ak lb,aj js,ai lds]),(5,.bx [dS jn,dI jk,dI ja,dI jp,dI jb,dI jo,dI jt]),(7,.bx [.sl 1 (v.map ae)]),(8,.d (ae px)),(9,.d (ae py)),(10,.d (ae qx)),(11,.d (ae qy)),(12,.d (ae [1])),(13,.d (ae [])),(14,.ow 52 (cH (aN (aN zr ja [1] [] (aH py)) jb (aH [1]) [] qy))),(65,.d (dI ja)),(66,.d (ae [])),(67,.d (ae [1])),(68,.d (ae px)),(71,.d (dI jb)),(72,.d (ae [])),(74,.d (ae [1])),(77,.d (ae qx)),(62,.d (Lkg.D ⟨ln,lb,js,lds⟩)),(63,.d (.v V)),(69,.d (.v V)),(75,.d (ae (aH [1]))),(78,.d (ae (aH qx))),(79,.d (.v V)),(73,.d (aL v)),(76,.d (aL v))]) (fun V=>?_) (fun N6_1_1=>?_)
   · refine ZH.all 18 (by kernel_rfl) rfl rfl (fun _=>rfl) ⟨rfl,trivial⟩ ?_;refine ah (fun B1 F1 w1=>?_);refine qU 1 rfl ?_;refine aa.nil ⟨rfl,?_⟩;exact qL (N7_1_1 V) (by kernel_rfl) rfl ⟨rfl,trivial⟩
   refine ZH.meet 2 (qB 19 131071) (fun V=>[(V,AV.ow 52 (cH (aN zr ja [] [1] px)))]) (fun V=>[(3,.bx [dS ln,ak lb,aj js,ai lds]),(5,.bx [dS jn,dI jk,dI ja,dI jp,dI jb,dI jo,dI jt]),(7,.bx [.sl 1 (v.map ae)]),(8,.d (ae px)),(9,.d (ae py)),(10,.d (ae qx)),(11,.d (ae qy)),(12,.d (ae [1])),(13,.d (ae [])),(14,.ow 52 (cH (aN (aN zr ja [1] [] (aH py)) jb (aH [1]) [] qy))),(65,.d (dI ja)),(66,.d (ae [])),(67,.d (ae [1])),(68,.d (ae px)),(71,.d (dI jb)),(72,.d (ae [])),(74,.d (ae [1])),(77,.d (ae qx)),(62,.d (Lkg.D ⟨ln,lb,js,lds⟩)),(63,.d (.v V)),(69,.d (.v V)),(75,.d (ae (aH [1]))),(78,.d (ae (aH qx))),(73,.d (aL v)),(76,.d (aL v))]) (fun V=>?_) (fun N5_1_1=>?_)
   · refine ZH.all 17 (by kernel_rfl) rfl rfl (fun _=>rfl) ⟨rfl,trivial⟩ ?_;refine an.a7 tok [0] rfl rfl rfl rfl rfl (by simp) rfl (bf V (aN zr ja [] [1] px) jb [] (aH [1]) (aH qx) (hpz _ _ _ _ jb0.1 jb0.2) (by omega) (by omega)) (fun res R1 hP=>by rw[hP.2];exact Nat.le_refl _) (fun res R1 hP=>?_);obtain ⟨rfl,rfl⟩:=hP;refine an.nil ?_;exact qL (N6_1_1 V) (by kernel_rfl) rfl ⟨rfl,trivial⟩
   refine ZH.meet 3 (qB 19 65535) (fun V=>[(V,AV.ow 52 (cH (aN zr ja [] [1] px)))]) (fun V=>[(3,.bx [dS ln,ak lb,aj js,ai lds]),(5,.bx [dS jn,dI jk,dI ja,dI jp,dI jb,dI jo,dI jt]),(7,.bx [.sl 1 (v.map ae)]),(8,.d (ae px)),(9,.d (ae py)),(10,.d (ae qx)),(11,.d (ae qy)),(12,.d (ae [1])),(13,.d (ae [])),(14,.ow 52 (cH (aN (aN zr ja [1] [] (aH py)) jb (aH [1]) [] qy))),(65,.d (dI ja)),(66,.d (ae [])),(67,.d (ae [1])),(68,.d (ae px)),(71,.d (dI jb)),(72,.d (ae [])),(74,.d (ae [1])),(77,.d (ae qx)),(62,.d (Lkg.D ⟨ln,lb,js,lds⟩)),(63,.d (.v V)),(69,.d (.v V)),(75,.d (ae (aH [1]))),(73,.d (aL v)),(76,.d (aL v))]) (fun V=>?_) (fun N4_1_1=>?_)
   · refine ZH.all 16 (by kernel_rfl) rfl rfl (fun _=>rfl) ⟨rfl,trivial⟩ ?_;refine ah (fun B1 F1 w1=>?_);refine aa.call tok rfl rfl rfl rfl n3 ?_;refine aa.nil ⟨rfl,?_⟩;exact qL (N5_1_1 V) (by kernel_rfl) rfl ⟨rfl,trivial⟩
   refine ZH.meet 4 (qB 19 57343) (fun V=>[(V,AV.ow 52 (cH (aN zr ja [] [1] px)))]) (fun V=>[(3,.bx [dS ln,ak lb,aj js,ai lds]),(5,.bx [dS jn,dI jk,dI ja,dI jp,dI jb,dI jo,dI jt]),(7,.bx [.sl 1 (v.map ae)]),(8,.d (ae px)),(9,.d (ae py)),(10,.d (ae qx)),(11,.d (ae qy)),(12,.d (ae [1])),(13,.d (ae [])),(14,.ow 52 (cH (aN (aN zr ja [1] [] (aH py)) jb (aH [1]) [] qy))),(65,.d (dI ja)),(66,.d (ae [])),(67,.d (ae [1])),(68,.d (ae px)),(71,.d (dI jb)),(72,.d (ae [])),(74,.d (ae [1])),(77,.d (ae qx)),(62,.d (Lkg.D ⟨ln,lb,js,lds⟩)),(63,.d (.v V)),(69,.d (.v V)),(73,.d (aL v)),(76,.d (aL v))]) (fun V=>?_) (fun N3_1_1=>?_)
   · refine ZH.all 13 (by kernel_rfl) rfl rfl (fun _=>rfl) ⟨rfl,trivial⟩ ?_;refine ah (fun B1 F1 w1=>?_);refine aa.call tok rfl rfl rfl rfl n1 ?_;refine aa.nil ⟨rfl,?_⟩;exact qL (N4_1_1 V) (by kernel_rfl) rfl ⟨rfl,trivial⟩
   refine ZH.meet 4 (qB 19 49151) (fun V=>[(V,AV.ow 52 (cH (aN zr ja [] [1] px)))]) (fun V=>[(3,.bx [dS ln,ak lb,aj js,ai lds]),(5,.bx [dS jn,dI jk,dI ja,dI jp,dI jb,dI jo,dI jt]),(7,.bx [.sl 1 (v.map ae)]),(8,.d (ae px)),(9,.d (ae py)),(10,.d (ae qx)),(11,.d (ae qy)),(12,.d (ae [1])),(13,.d (ae [])),(14,.ow 52 (cH (aN (aN zr ja [1] [] (aH py)) jb (aH [1]) [] qy))),(65,.d (dI ja)),(66,.d (ae [])),(67,.d (ae [1])),(68,.d (ae px)),(71,.d (dI jb)),(72,.d (ae [])),(74,.d (ae [1])),(77,.d (ae qx)),(62,.d (Lkg.D ⟨ln,lb,js,lds⟩)),(63,.d (.v V)),(69,.d (.v V)),(75,.d (ae (aH [1]))),(73,.d (aL v))]) (fun V=>?_) (fun N4_1_0=>?_)
   · refine ZH.all 14 (by kernel_rfl) rfl rfl (fun _=>rfl) ⟨rfl,trivial⟩ ?_;refine ah (fun B1 F1 w1=>?_);refine qU 1 rfl ?_;refine aa.nil ⟨rfl,?_⟩;exact qL (N4_1_1 V) (by kernel_rfl) rfl ⟨rfl,trivial⟩
   refine ZH.meet 5 (qB 19 57215) (fun V=>[(V,AV.ow 52 (cH zr))]) (fun V=>[(3,.bx [dS ln,ak lb,aj js,ai lds]),(5,.bx [dS jn,dI jk,dI ja,dI jp,dI jb,dI jo,dI jt]),(7,.bx [.sl 1 (v.map ae)]),(8,.d (ae px)),(9,.d (ae py)),(10,.d (ae qx)),(11,.d (ae qy)),(12,.d (ae [1])),(13,.d (ae [])),(14,.ow 52 (cH (aN (aN zr ja [1] [] (aH py)) jb (aH [1]) [] qy))),(65,.d (dI ja)),(66,.d (ae [])),(67,.d (ae [1])),(68,.d (ae px)),(71,.d (dI jb)),(72,.d (ae [])),(74,.d (ae [1])),(77,.d (ae qx)),(62,.d (Lkg.D ⟨ln,lb,js,lds⟩)),(63,.d (.v V)),(73,.d (aL v)),(76,.d (aL v))]) (fun V=>?_) (fun N2_1_1=>?_)
   · refine ZH.all 7 (by kernel_rfl) rfl rfl (fun _=>rfl) ⟨rfl,trivial⟩ ?_;refine an.a7 tok [0] rfl rfl rfl rfl rfl (by simp) rfl (bf V zr ja [] [1] px (hzl _ ja0.1 ja0.2) (by omega) (by omega)) (fun res R1 hP=>by rw[hP.2];exact Nat.le_refl _) (fun res R1 hP=>?_);obtain ⟨rfl,rfl⟩:=hP;refine an.nil ?_;exact qL (N3_1_1 V) (by kernel_rfl) rfl ⟨rfl,trivial⟩
   refine ZH.meet 5 (qB 19 55295) (fun V=>[(V,AV.ow 52 (cH (aN zr ja [] [1] px)))]) (fun V=>[(3,.bx [dS ln,ak lb,aj js,ai lds]),(5,.bx [dS jn,dI jk,dI ja,dI jp,dI jb,dI jo,dI jt]),(7,.bx [.sl 1 (v.map ae)]),(8,.d (ae px)),(9,.d (ae py)),(10,.d (ae qx)),(11,.d (ae qy)),(12,.d (ae [1])),(13,.d (ae [])),(14,.ow 52 (cH (aN (aN zr ja [1] [] (aH py)) jb (aH [1]) [] qy))),(65,.d (dI ja)),(66,.d (ae [])),(67,.d (ae [1])),(68,.d (ae px)),(71,.d (dI jb)),(72,.d (ae [])),(74,.d (ae [1])),(77,.d (ae qx)),(62,.d (Lkg.D ⟨ln,lb,js,lds⟩)),(63,.d (.v V)),(69,.d (.v V)),(76,.d (aL v))]) (fun V=>?_) (fun N3_0_1=>?_)
   · refine ZH.all 11 (by kernel_rfl) rfl rfl (fun _=>rfl) ⟨rfl,trivial⟩ ?_;refine ah (fun B1 F1 w1=>?_);refine qU 1 rfl ?_;refine aa.nil ⟨rfl,?_⟩;exact qL (N3_1_1 V) (by kernel_rfl) rfl ⟨rfl,trivial⟩
   refine ZH.meet 5 (qB 19 40959) (fun V=>[(V,AV.ow 52 (cH (aN zr ja [] [1] px)))]) (fun V=>[(3,.bx [dS ln,ak lb,aj js,ai lds]),(5,.bx [dS jn,dI jk,dI ja,dI jp,dI jb,dI jo,dI jt]),(7,.bx [.sl 1 (v.map ae)]),(8,.d (ae px)),(9,.d (ae py)),(10,.d (ae qx)),(11,.d (ae qy)),(12,.d (ae [1])),(13,.d (ae [])),(14,.ow 52 (cH (aN (aN zr ja [1] [] (aH py)) jb (aH [1]) [] qy))),(65,.d (dI ja)),(66,.d (ae [])),(67,.d (ae [1])),(68,.d (ae px)),(71,.d (dI jb)),(72,.d (ae [])),(74,.d (ae [1])),(77,.d (ae qx)),(62,.d (Lkg.D ⟨ln,lb,js,lds⟩)),(63,.d (.v V)),(69,.d (.v V)),(73,.d (aL v))]) (fun V=>?_) (fun N3_1_0=>?_)
   · refine ZH.two 13 14 (by kernel_rfl) rfl rfl rfl rfl (fun _=>rfl) (fun _=>rfl) ⟨rfl,trivial⟩ ?_ ?_
     · refine ah (fun B1 F1 w1=>?_);refine aa.call tok rfl rfl rfl rfl n1 ?_;refine aa.nil ⟨rfl,?_⟩;exact qL (N4_1_0 V) (by kernel_rfl) rfl ⟨rfl,trivial⟩
     · refine ah (fun B1 F1 w1=>?_);refine qU 1 rfl ?_;refine aa.nil ⟨rfl,?_⟩;exact qL (N3_1_1 V) (by kernel_rfl) rfl ⟨rfl,trivial⟩
   refine ZH.meet 6 (qB 19 57213) (fun V=>[]) (fun V=>[(3,.bx [dS ln,ak lb,aj js,ai lds]),(5,.bx [dS jn,dI jk,dI ja,dI jp,dI jb,dI jo,dI jt]),(7,.bx [.sl 1 (v.map ae)]),(8,.d (ae px)),(9,.d (ae py)),(10,.d (ae qx)),(11,.d (ae qy)),(12,.d (ae [1])),(13,.d (ae [])),(14,.ow 52 (cH (aN (aN zr ja [1] [] (aH py)) jb (aH [1]) [] qy))),(65,.d (dI ja)),(66,.d (ae [])),(67,.d (ae [1])),(68,.d (ae px)),(71,.d (dI jb)),(72,.d (ae [])),(74,.d (ae [1])),(77,.d (ae qx)),(62,.d (Lkg.D ⟨ln,lb,js,lds⟩)),(73,.d (aL v)),(76,.d (aL v))]) (fun V=>?_) (fun N1_1_1=>?_)
   · refine ZH.all 1 (by kernel_rfl) rfl rfl (fun _=>rfl) ⟨rfl,trivial⟩ ?_;refine an.a7 tok [] rfl rfl rfl rfl rfl List.nodup_nil rfl hrow (fun _ _ _=>Nat.zero_le _) (fun res R1 hP=>?_);obtain ⟨V,rfl,rfl⟩:=hP;refine an.nil ?_;exact qL (N2_1_1 V) (by kernel_rfl) rfl ⟨rfl,trivial⟩
   refine ZH.meet 6 (qB 19 55167) (fun V=>[(V,AV.ow 52 (cH zr))]) (fun V=>[(3,.bx [dS ln,ak lb,aj js,ai lds]),(5,.bx [dS jn,dI jk,dI ja,dI jp,dI jb,dI jo,dI jt]),(7,.bx [.sl 1 (v.map ae)]),(8,.d (ae px)),(9,.d (ae py)),(10,.d (ae qx)),(11,.d (ae qy)),(12,.d (ae [1])),(13,.d (ae [])),(14,.ow 52 (cH (aN (aN zr ja [1] [] (aH py)) jb (aH [1]) [] qy))),(65,.d (dI ja)),(66,.d (ae [])),(67,.d (ae [1])),(68,.d (ae px)),(71,.d (dI jb)),(72,.d (ae [])),(74,.d (ae [1])),(77,.d (ae qx)),(62,.d (Lkg.D ⟨ln,lb,js,lds⟩)),(63,.d (.v V)),(76,.d (aL v))]) (fun V=>?_) (fun N2_0_1=>?_)
   · refine ZH.two 7 11 (by kernel_rfl) rfl rfl rfl rfl (fun _=>rfl) (fun _=>rfl) ⟨rfl,trivial⟩ ?_ ?_
     · refine an.a7 tok [0] rfl rfl rfl rfl rfl (by simp) rfl (bf V zr ja [] [1] px (hzl _ ja0.1 ja0.2) (by omega) (by omega)) (fun res R1 hP=>by rw[hP.2];exact Nat.le_refl _) (fun res R1 hP=>?_);obtain ⟨rfl,rfl⟩:=hP;refine an.nil ?_;exact qL (N3_0_1 V) (by kernel_rfl) rfl ⟨rfl,trivial⟩
     · refine ah (fun B1 F1 w1=>?_);refine qU 1 rfl ?_;refine aa.nil ⟨rfl,?_⟩;exact qL (N2_1_1 V) (by kernel_rfl) rfl ⟨rfl,trivial⟩
   refine ZH.meet 6 (qB 19 40831) (fun V=>[(V,AV.ow 52 (cH zr))]) (fun V=>[(3,.bx [dS ln,ak lb,aj js,ai lds]),(5,.bx [dS jn,dI jk,dI ja,dI jp,dI jb,dI jo,dI jt]),(7,.bx [.sl 1 (v.map ae)]),(8,.d (ae px)),(9,.d (ae py)),(10,.d (ae qx)),(11,.d (ae qy)),(12,.d (ae [1])),(13,.d (ae [])),(14,.ow 52 (cH (aN (aN zr ja [1] [] (aH py)) jb (aH [1]) [] qy))),(65,.d (dI ja)),(66,.d (ae [])),(67,.d (ae [1])),(68,.d (ae px)),(71,.d (dI jb)),(72,.d (ae [])),(74,.d (ae [1])),(77,.d (ae qx)),(62,.d (Lkg.D ⟨ln,lb,js,lds⟩)),(63,.d (.v V)),(73,.d (aL v))]) (fun V=>?_) (fun N2_1_0=>?_)
   · refine ZH.two 7 14 (by kernel_rfl) rfl rfl rfl rfl (fun _=>rfl) (fun _=>rfl) ⟨rfl,trivial⟩ ?_ ?_
     · refine an.a7 tok [0] rfl rfl rfl rfl rfl (by simp) rfl (bf V zr ja [] [1] px (hzl _ ja0.1 ja0.2) (by omega) (by omega)) (fun res R1 hP=>by rw[hP.2];exact Nat.le_refl _) (fun res R1 hP=>?_);obtain ⟨rfl,rfl⟩:=hP;refine an.nil ?_;exact qL (N3_1_0 V) (by kernel_rfl) rfl ⟨rfl,trivial⟩
     · refine ah (fun B1 F1 w1=>?_);refine qU 1 rfl ?_;refine aa.nil ⟨rfl,?_⟩;exact qL (N2_1_1 V) (by kernel_rfl) rfl ⟨rfl,trivial⟩
   refine ZH.meet 6 (qB 19 38911) (fun V=>[(V,AV.ow 52 (cH (aN zr ja [] [1] px)))]) (fun V=>[(3,.bx [dS ln,ak lb,aj js,ai lds]),(5,.bx [dS jn,dI jk,dI ja,dI jp,dI jb,dI jo,dI jt]),(7,.bx [.sl 1 (v.map ae)]),(8,.d (ae px)),(9,.d (ae py)),(10,.d (ae qx)),(11,.d (ae qy)),(12,.d (ae [1])),(13,.d (ae [])),(14,.ow 52 (cH (aN (aN zr ja [1] [] (aH py)) jb (aH [1]) [] qy))),(65,.d (dI ja)),(66,.d (ae [])),(67,.d (ae [1])),(68,.d (ae px)),(71,.d (dI jb)),(72,.d (ae [])),(74,.d (ae [1])),(77,.d (ae qx)),(62,.d (Lkg.D ⟨ln,lb,js,lds⟩)),(63,.d (.v V)),(69,.d (.v V))]) (fun V=>?_) (fun N3_0_0=>?_)
   · refine ZH.two 11 14 (by kernel_rfl) rfl rfl rfl rfl (fun _=>rfl) (fun _=>rfl) ⟨rfl,trivial⟩ ?_ ?_
     · refine ah (fun B1 F1 w1=>?_);refine qU 1 rfl ?_;refine aa.nil ⟨rfl,?_⟩;exact qL (N3_1_0 V) (by kernel_rfl) rfl ⟨rfl,trivial⟩
     · refine ah (fun B1 F1 w1=>?_);refine qU 1 rfl ?_;refine aa.nil ⟨rfl,?_⟩;exact qL (N3_0_1 V) (by kernel_rfl) rfl ⟨rfl,trivial⟩
   refine ZH.meet 7 (qB 19 57212) (fun V=>[]) (fun V=>[(3,.bx [dS ln,ak lb,aj js,ai lds]),(5,.bx [dS jn,dI jk,dI ja,dI jp,dI jb,dI jo,dI jt]),(7,.bx [.sl 1 (v.map ae)]),(8,.d (ae px)),(9,.d (ae py)),(10,.d (ae qx)),(11,.d (ae qy)),(12,.d (ae [1])),(13,.d (ae [])),(14,.ow 52 (cH (aN (aN zr ja [1] [] (aH py)) jb (aH [1]) [] qy))),(65,.d (dI ja)),(66,.d (ae [])),(67,.d (ae [1])),(68,.d (ae px)),(71,.d (dI jb)),(72,.d (ae [])),(74,.d (ae [1])),(77,.d (ae qx)),(73,.d (aL v)),(76,.d (aL v))]) (fun V=>?_) (fun N0_1_1=>?_)
   · refine ZH.all 0 (by kernel_rfl) rfl rfl (fun _=>rfl) ⟨rfl,trivial⟩ ?_;refine ah (fun B1 F1 w1=>?_);refine qU 1 rfl ?_;refine aa.nil ⟨rfl,?_⟩;exact qL (N1_1_1 V) (by kernel_rfl) rfl ⟨rfl,trivial⟩
   refine ZH.meet 7 (qB 19 55165) (fun V=>[]) (fun V=>[(3,.bx [dS ln,ak lb,aj js,ai lds]),(5,.bx [dS jn,dI jk,dI ja,dI jp,dI jb,dI jo,dI jt]),(7,.bx [.sl 1 (v.map ae)]),(8,.d (ae px)),(9,.d (ae py)),(10,.d (ae qx)),(11,.d (ae qy)),(12,.d (ae [1])),(13,.d (ae [])),(14,.ow 52 (cH (aN (aN zr ja [1] [] (aH py)) jb (aH [1]) [] qy))),(65,.d (dI ja)),(66,.d (ae [])),(67,.d (ae [1])),(68,.d (ae px)),(71,.d (dI jb)),(72,.d (ae [])),(74,.d (ae [1])),(77,.d (ae qx)),(62,.d (Lkg.D ⟨ln,lb,js,lds⟩)),(76,.d (aL v))]) (fun V=>?_) (fun N1_0_1=>?_)
   · refine ZH.two 1 11 (by kernel_rfl) rfl rfl rfl rfl (fun _=>rfl) (fun _=>rfl) ⟨rfl,trivial⟩ ?_ ?_
     · refine an.a7 tok [] rfl rfl rfl rfl rfl List.nodup_nil rfl hrow (fun _ _ _=>Nat.zero_le _) (fun res R1 hP=>?_);obtain ⟨V,rfl,rfl⟩:=hP;refine an.nil ?_;exact qL (N2_0_1 V) (by kernel_rfl) rfl ⟨rfl,trivial⟩
     · refine ah (fun B1 F1 w1=>?_);refine qU 1 rfl ?_;refine aa.nil ⟨rfl,?_⟩;exact qL (N1_1_1 V) (by kernel_rfl) rfl ⟨rfl,trivial⟩
   refine ZH.meet 7 (qB 19 40829) (fun V=>[]) (fun V=>[(3,.bx [dS ln,ak lb,aj js,ai lds]),(5,.bx [dS jn,dI jk,dI ja,dI jp,dI jb,dI jo,dI jt]),(7,.bx [.sl 1 (v.map ae)]),(8,.d (ae px)),(9,.d (ae py)),(10,.d (ae qx)),(11,.d (ae qy)),(12,.d (ae [1])),(13,.d (ae [])),(14,.ow 52 (cH (aN (aN zr ja [1] [] (aH py)) jb (aH [1]) [] qy))),(65,.d (dI ja)),(66,.d (ae [])),(67,.d (ae [1])),(68,.d (ae px)),(71,.d (dI jb)),(72,.d (ae [])),(74,.d (ae [1])),(77,.d (ae qx)),(62,.d (Lkg.D ⟨ln,lb,js,lds⟩)),(73,.d (aL v))]) (fun V=>?_) (fun N1_1_0=>?_)
   · refine ZH.two 1 14 (by kernel_rfl) rfl rfl rfl rfl (fun _=>rfl) (fun _=>rfl) ⟨rfl,trivial⟩ ?_ ?_
     · refine an.a7 tok [] rfl rfl rfl rfl rfl List.nodup_nil rfl hrow (fun _ _ _=>Nat.zero_le _) (fun res R1 hP=>?_);obtain ⟨V,rfl,rfl⟩:=hP;refine an.nil ?_;exact qL (N2_1_0 V) (by kernel_rfl) rfl ⟨rfl,trivial⟩
     · refine ah (fun B1 F1 w1=>?_);refine qU 1 rfl ?_;refine aa.nil ⟨rfl,?_⟩;exact qL (N1_1_1 V) (by kernel_rfl) rfl ⟨rfl,trivial⟩
   refine ZH.meet 7 (qB 19 38783) (fun V=>[(V,AV.ow 52 (cH zr))]) (fun V=>[(3,.bx [dS ln,ak lb,aj js,ai lds]),(5,.bx [dS jn,dI jk,dI ja,dI jp,dI jb,dI jo,dI jt]),(7,.bx [.sl 1 (v.map ae)]),(8,.d (ae px)),(9,.d (ae py)),(10,.d (ae qx)),(11,.d (ae qy)),(12,.d (ae [1])),(13,.d (ae [])),(14,.ow 52 (cH (aN (aN zr ja [1] [] (aH py)) jb (aH [1]) [] qy))),(65,.d (dI ja)),(66,.d (ae [])),(67,.d (ae [1])),(68,.d (ae px)),(71,.d (dI jb)),(72,.d (ae [])),(74,.d (ae [1])),(77,.d (ae qx)),(62,.d (Lkg.D ⟨ln,lb,js,lds⟩)),(63,.d (.v V))]) (fun V=>?_) (fun N2_0_0=>?_)
   · refine ZH.three 7 11 14 (by kernel_rfl) rfl rfl rfl rfl rfl rfl (fun _=>rfl) (fun _=>rfl) (fun _=>rfl) ⟨rfl,trivial⟩ ?_ ?_ ?_
     · refine an.a7 tok [0] rfl rfl rfl rfl rfl (by simp) rfl (bf V zr ja [] [1] px (hzl _ ja0.1 ja0.2) (by omega) (by omega)) (fun res R1 hP=>by rw[hP.2];exact Nat.le_refl _) (fun res R1 hP=>?_);obtain ⟨rfl,rfl⟩:=hP;refine an.nil ?_;exact qL (N3_0_0 V) (by kernel_rfl) rfl ⟨rfl,trivial⟩
     · refine ah (fun B1 F1 w1=>?_);refine qU 1 rfl ?_;refine aa.nil ⟨rfl,?_⟩;exact qL (N2_1_0 V) (by kernel_rfl) rfl ⟨rfl,trivial⟩
     · refine ah (fun B1 F1 w1=>?_);refine qU 1 rfl ?_;refine aa.nil ⟨rfl,?_⟩;exact qL (N2_0_1 V) (by kernel_rfl) rfl ⟨rfl,trivial⟩
   refine ZH.meet 8 (qB 19 55164) (fun V=>[]) (fun V=>[(3,.bx [dS ln,ak lb,aj js,ai lds]),(5,.bx [dS jn,dI jk,dI ja,dI jp,dI jb,dI jo,dI jt]),(7,.bx [.sl 1 (v.map ae)]),(8,.d (ae px)),(9,.d (ae py)),(10,.d (ae qx)),(11,.d (ae qy)),(12,.d (ae [1])),(13,.d (ae [])),(14,.ow 52 (cH (aN (aN zr ja [1] [] (aH py)) jb (aH [1]) [] qy))),(65,.d (dI ja)),(66,.d (ae [])),(67,.d (ae [1])),(68,.d (ae px)),(71,.d (dI jb)),(72,.d (ae [])),(74,.d (ae [1])),(77,.d (ae qx)),(76,.d (aL v))]) (fun V=>?_) (fun N0_0_1=>?_)
   · refine ZH.two 0 11 (by kernel_rfl) rfl rfl rfl rfl (fun _=>rfl) (fun _=>rfl) ⟨rfl,trivial⟩ ?_ ?_
     · refine ah (fun B1 F1 w1=>?_);refine qU 1 rfl ?_;refine aa.nil ⟨rfl,?_⟩;exact qL (N1_0_1 V) (by kernel_rfl) rfl ⟨rfl,trivial⟩
     · refine ah (fun B1 F1 w1=>?_);refine qU 1 rfl ?_;refine aa.nil ⟨rfl,?_⟩;exact qL (N0_1_1 V) (by kernel_rfl) rfl ⟨rfl,trivial⟩
   refine ZH.meet 8 (qB 19 40828) (fun V=>[]) (fun V=>[(3,.bx [dS ln,ak lb,aj js,ai lds]),(5,.bx [dS jn,dI jk,dI ja,dI jp,dI jb,dI jo,dI jt]),(7,.bx [.sl 1 (v.map ae)]),(8,.d (ae px)),(9,.d (ae py)),(10,.d (ae qx)),(11,.d (ae qy)),(12,.d (ae [1])),(13,.d (ae [])),(14,.ow 52 (cH (aN (aN zr ja [1] [] (aH py)) jb (aH [1]) [] qy))),(65,.d (dI ja)),(66,.d (ae [])),(67,.d (ae [1])),(68,.d (ae px)),(71,.d (dI jb)),(72,.d (ae [])),(74,.d (ae [1])),(77,.d (ae qx)),(73,.d (aL v))]) (fun V=>?_) (fun N0_1_0=>?_)
   · refine ZH.two 0 14 (by kernel_rfl) rfl rfl rfl rfl (fun _=>rfl) (fun _=>rfl) ⟨rfl,trivial⟩ ?_ ?_
     · refine ah (fun B1 F1 w1=>?_);refine qU 1 rfl ?_;refine aa.nil ⟨rfl,?_⟩;exact qL (N1_1_0 V) (by kernel_rfl) rfl ⟨rfl,trivial⟩
     · refine ah (fun B1 F1 w1=>?_);refine qU 1 rfl ?_;refine aa.nil ⟨rfl,?_⟩;exact qL (N0_1_1 V) (by kernel_rfl) rfl ⟨rfl,trivial⟩
   refine ZH.meet 8 (qB 19 38781) (fun V=>[]) (fun V=>[(3,.bx [dS ln,ak lb,aj js,ai lds]),(5,.bx [dS jn,dI jk,dI ja,dI jp,dI jb,dI jo,dI jt]),(7,.bx [.sl 1 (v.map ae)]),(8,.d (ae px)),(9,.d (ae py)),(10,.d (ae qx)),(11,.d (ae qy)),(12,.d (ae [1])),(13,.d (ae [])),(14,.ow 52 (cH (aN (aN zr ja [1] [] (aH py)) jb (aH [1]) [] qy))),(65,.d (dI ja)),(66,.d (ae [])),(67,.d (ae [1])),(68,.d (ae px)),(71,.d (dI jb)),(72,.d (ae [])),(74,.d (ae [1])),(77,.d (ae qx)),(62,.d (Lkg.D ⟨ln,lb,js,lds⟩))]) (fun V=>?_) (fun N1_0_0=>?_)
   · refine ZH.three 1 11 14 (by kernel_rfl) rfl rfl rfl rfl rfl rfl (fun _=>rfl) (fun _=>rfl) (fun _=>rfl) ⟨rfl,trivial⟩ ?_ ?_ ?_
     · refine an.a7 tok [] rfl rfl rfl rfl rfl List.nodup_nil rfl hrow (fun _ _ _=>Nat.zero_le _) (fun res R1 hP=>?_);obtain ⟨V,rfl,rfl⟩:=hP;refine an.nil ?_;exact qL (N2_0_0 V) (by kernel_rfl) rfl ⟨rfl,trivial⟩
     · refine ah (fun B1 F1 w1=>?_);refine qU 1 rfl ?_;refine aa.nil ⟨rfl,?_⟩;exact qL (N1_1_0 V) (by kernel_rfl) rfl ⟨rfl,trivial⟩
     · refine ah (fun B1 F1 w1=>?_);refine qU 1 rfl ?_;refine aa.nil ⟨rfl,?_⟩;exact qL (N1_0_1 V) (by kernel_rfl) rfl ⟨rfl,trivial⟩
   refine ZH.meet 9 (qB 19 38780) (fun V=>[]) (fun V=>[(3,.bx [dS ln,ak lb,aj js,ai lds]),(5,.bx [dS jn,dI jk,dI ja,dI jp,dI jb,dI jo,dI jt]),(7,.bx [.sl 1 (v.map ae)]),(8,.d (ae px)),(9,.d (ae py)),(10,.d (ae qx)),(11,.d (ae qy)),(12,.d (ae [1])),(13,.d (ae [])),(14,.ow 52 (cH (aN (aN zr ja [1] [] (aH py)) jb (aH [1]) [] qy))),(65,.d (dI ja)),(66,.d (ae [])),(67,.d (ae [1])),(68,.d (ae px)),(71,.d (dI jb)),(72,.d (ae [])),(74,.d (ae [1])),(77,.d (ae qx))]) (fun V=>?_) (fun N0_0_0=>?_)
   · refine ZH.three 0 11 14 (by kernel_rfl) rfl rfl rfl rfl rfl rfl (fun _=>rfl) (fun _=>rfl) (fun _=>rfl) ⟨rfl,trivial⟩ ?_ ?_ ?_
     · refine ah (fun B1 F1 w1=>?_);refine qU 1 rfl ?_;refine aa.nil ⟨rfl,?_⟩;exact qL (N1_0_0 V) (by kernel_rfl) rfl ⟨rfl,trivial⟩
     · refine ah (fun B1 F1 w1=>?_);refine qU 1 rfl ?_;refine aa.nil ⟨rfl,?_⟩;exact qL (N0_1_0 V) (by kernel_rfl) rfl ⟨rfl,trivial⟩
     · refine ah (fun B1 F1 w1=>?_);refine qU 1 rfl ?_;refine aa.nil ⟨rfl,?_⟩;exact qL (N0_0_1 V) (by kernel_rfl) rfl ⟨rfl,trivial⟩
   exact qL (N0_0_0 de) (by kernel_rfl) rfl ⟨rfl,trivial⟩
 refine ZH.meet 1 (qB 19 262143) (fun V=>[(V,AV.ow 52 (cH (aN (aN zr ja [1] [] (aH py)) jb (aH [1]) [] qy)))]) (fun V=>[(3,.bx [dS ln,ak lb,aj js,ai lds]),(5,.bx [dS jn,dI jk,dI ja,dI jp,dI jb,dI jo,dI jt]),(7,.bx [.sl 1 (v.map ae)]),(8,.d (ae px)),(9,.d (ae py)),(10,.d (ae qx)),(11,.d (ae qy)),(12,.d (ae [1])),(13,.d (ae [])),(47,.d (dI ja)),(48,.d (ae [1])),(49,.d (ae [])),(51,.d (ae py)),(55,.d (dI jb)),(57,.d (ae [1])),(59,.d (ae [])),(60,.d (ae qy)),(44,.d (Lkg.D ⟨ln,lb,js,lds⟩)),(45,.d (.v V)),(52,.d (ae (aH py))),(53,.d (.v V)),(58,.d (ae (aH [1]))),(61,.d (.v V)),(50,.d (aL v)),(56,.d (aL v))]) (fun V=>?_) (fun N6_1_1=>?_)
 · refine ZH.all 18 (by kernel_rfl) rfl rfl (fun _=>rfl) ⟨rfl,trivial⟩ ?_;refine ah (fun B1 F1 w1=>?_);refine qU 1 rfl ?_;refine aa.nil ⟨rfl,?_⟩;exact qL (N7_1_1 V) (by kernel_rfl) rfl ⟨rfl,trivial⟩
 refine ZH.meet 2 (qB 19 131071) (fun V=>[(V,AV.ow 52 (cH (aN zr ja [1] [] (aH py))))]) (fun V=>[(3,.bx [dS ln,ak lb,aj js,ai lds]),(5,.bx [dS jn,dI jk,dI ja,dI jp,dI jb,dI jo,dI jt]),(7,.bx [.sl 1 (v.map ae)]),(8,.d (ae px)),(9,.d (ae py)),(10,.d (ae qx)),(11,.d (ae qy)),(12,.d (ae [1])),(13,.d (ae [])),(47,.d (dI ja)),(48,.d (ae [1])),(49,.d (ae [])),(51,.d (ae py)),(55,.d (dI jb)),(57,.d (ae [1])),(59,.d (ae [])),(60,.d (ae qy)),(44,.d (Lkg.D ⟨ln,lb,js,lds⟩)),(45,.d (.v V)),(52,.d (ae (aH py))),(53,.d (.v V)),(58,.d (ae (aH [1]))),(50,.d (aL v)),(56,.d (aL v))]) (fun V=>?_) (fun N5_1_1=>?_)
 · refine ZH.all 17 (by kernel_rfl) rfl rfl (fun _=>rfl) ⟨rfl,trivial⟩ ?_;refine an.a7 tok [0] rfl rfl rfl rfl rfl (by simp) rfl (bf V (aN zr ja [1] [] (aH py)) jb (aH [1]) [] qy (hpz _ _ _ _ jb0.1 jb0.2) (by omega) (by omega)) (fun res R1 hP=>by rw[hP.2];exact Nat.le_refl _) (fun res R1 hP=>?_);obtain ⟨rfl,rfl⟩:=hP;refine an.nil ?_;exact qL (N6_1_1 V) (by kernel_rfl) rfl ⟨rfl,trivial⟩
 refine ZH.meet 3 (qB 19 114687) (fun V=>[(V,AV.ow 52 (cH (aN zr ja [1] [] (aH py))))]) (fun V=>[(3,.bx [dS ln,ak lb,aj js,ai lds]),(5,.bx [dS jn,dI jk,dI ja,dI jp,dI jb,dI jo,dI jt]),(7,.bx [.sl 1 (v.map ae)]),(8,.d (ae px)),(9,.d (ae py)),(10,.d (ae qx)),(11,.d (ae qy)),(12,.d (ae [1])),(13,.d (ae [])),(47,.d (dI ja)),(48,.d (ae [1])),(49,.d (ae [])),(51,.d (ae py)),(55,.d (dI jb)),(57,.d (ae [1])),(59,.d (ae [])),(60,.d (ae qy)),(44,.d (Lkg.D ⟨ln,lb,js,lds⟩)),(45,.d (.v V)),(52,.d (ae (aH py))),(53,.d (.v V)),(50,.d (aL v)),(56,.d (aL v))]) (fun V=>?_) (fun N4_1_1=>?_)
 · refine ZH.all 14 (by kernel_rfl) rfl rfl (fun _=>rfl) ⟨rfl,trivial⟩ ?_;refine ah (fun B1 F1 w1=>?_);refine aa.call tok rfl rfl rfl rfl n1 ?_;refine aa.nil ⟨rfl,?_⟩;exact qL (N5_1_1 V) (by kernel_rfl) rfl ⟨rfl,trivial⟩
 refine ZH.meet 4 (qB 19 114175) (fun V=>[(V,AV.ow 52 (cH zr))]) (fun V=>[(3,.bx [dS ln,ak lb,aj js,ai lds]),(5,.bx [dS jn,dI jk,dI ja,dI jp,dI jb,dI jo,dI jt]),(7,.bx [.sl 1 (v.map ae)]),(8,.d (ae px)),(9,.d (ae py)),(10,.d (ae qx)),(11,.d (ae qy)),(12,.d (ae [1])),(13,.d (ae [])),(47,.d (dI ja)),(48,.d (ae [1])),(49,.d (ae [])),(51,.d (ae py)),(55,.d (dI jb)),(57,.d (ae [1])),(59,.d (ae [])),(60,.d (ae qy)),(44,.d (Lkg.D ⟨ln,lb,js,lds⟩)),(45,.d (.v V)),(52,.d (ae (aH py))),(50,.d (aL v)),(56,.d (aL v))]) (fun V=>?_) (fun N3_1_1=>?_)
 · refine ZH.all 9 (by kernel_rfl) rfl rfl (fun _=>rfl) ⟨rfl,trivial⟩ ?_;refine an.a7 tok [0] rfl rfl rfl rfl rfl (by simp) rfl (bf V zr ja [1] [] (aH py) (hzl _ ja0.1 ja0.2) (by omega) (by omega)) (fun res R1 hP=>by rw[hP.2];exact Nat.le_refl _) (fun res R1 hP=>?_);obtain ⟨rfl,rfl⟩:=hP;refine an.nil ?_;exact qL (N4_1_1 V) (by kernel_rfl) rfl ⟨rfl,trivial⟩
 refine ZH.meet 4 (qB 19 110591) (fun V=>[(V,AV.ow 52 (cH (aN zr ja [1] [] (aH py))))]) (fun V=>[(3,.bx [dS ln,ak lb,aj js,ai lds]),(5,.bx [dS jn,dI jk,dI ja,dI jp,dI jb,dI jo,dI jt]),(7,.bx [.sl 1 (v.map ae)]),(8,.d (ae px)),(9,.d (ae py)),(10,.d (ae qx)),(11,.d (ae qy)),(12,.d (ae [1])),(13,.d (ae [])),(47,.d (dI ja)),(48,.d (ae [1])),(49,.d (ae [])),(51,.d (ae py)),(55,.d (dI jb)),(57,.d (ae [1])),(59,.d (ae [])),(60,.d (ae qy)),(44,.d (Lkg.D ⟨ln,lb,js,lds⟩)),(45,.d (.v V)),(52,.d (ae (aH py))),(53,.d (.v V)),(50,.d (aL v))]) (fun V=>?_) (fun N4_1_0=>?_)
 · refine ZH.all 12 (by kernel_rfl) rfl rfl (fun _=>rfl) ⟨rfl,trivial⟩ ?_;refine ah (fun B1 F1 w1=>?_);refine qU 1 rfl ?_;refine aa.nil ⟨rfl,?_⟩;exact qL (N4_1_1 V) (by kernel_rfl) rfl ⟨rfl,trivial⟩
 refine ZH.meet 5 (qB 19 113919) (fun V=>[(V,AV.ow 52 (cH zr))]) (fun V=>[(3,.bx [dS ln,ak lb,aj js,ai lds]),(5,.bx [dS jn,dI jk,dI ja,dI jp,dI jb,dI jo,dI jt]),(7,.bx [.sl 1 (v.map ae)]),(8,.d (ae px)),(9,.d (ae py)),(10,.d (ae qx)),(11,.d (ae qy)),(12,.d (ae [1])),(13,.d (ae [])),(47,.d (dI ja)),(48,.d (ae [1])),(49,.d (ae [])),(51,.d (ae py)),(55,.d (dI jb)),(57,.d (ae [1])),(59,.d (ae [])),(60,.d (ae qy)),(44,.d (Lkg.D ⟨ln,lb,js,lds⟩)),(45,.d (.v V)),(50,.d (aL v)),(56,.d (aL v))]) (fun V=>?_) (fun N2_1_1=>?_)
 · refine ZH.all 8 (by kernel_rfl) rfl rfl (fun _=>rfl) ⟨rfl,trivial⟩ ?_;refine ah (fun B1 F1 w1=>?_);refine aa.call tok rfl rfl rfl rfl n2 ?_;refine aa.nil ⟨rfl,?_⟩;exact qL (N3_1_1 V) (by kernel_rfl) rfl ⟨rfl,trivial⟩
 refine ZH.meet 5 (qB 19 110079) (fun V=>[(V,AV.ow 52 (cH zr))]) (fun V=>[(3,.bx [dS ln,ak lb,aj js,ai lds]),(5,.bx [dS jn,dI jk,dI ja,dI jp,dI jb,dI jo,dI jt]),(7,.bx [.sl 1 (v.map ae)]),(8,.d (ae px)),(9,.d (ae py)),(10,.d (ae qx)),(11,.d (ae qy)),(12,.d (ae [1])),(13,.d (ae [])),(47,.d (dI ja)),(48,.d (ae [1])),(49,.d (ae [])),(51,.d (ae py)),(55,.d (dI jb)),(57,.d (ae [1])),(59,.d (ae [])),(60,.d (ae qy)),(44,.d (Lkg.D ⟨ln,lb,js,lds⟩)),(45,.d (.v V)),(52,.d (ae (aH py))),(50,.d (aL v))]) (fun V=>?_) (fun N3_1_0=>?_)
 · refine ZH.two 9 12 (by kernel_rfl) rfl rfl rfl rfl (fun _=>rfl) (fun _=>rfl) ⟨rfl,trivial⟩ ?_ ?_
   · refine an.a7 tok [0] rfl rfl rfl rfl rfl (by simp) rfl (bf V zr ja [1] [] (aH py) (hzl _ ja0.1 ja0.2) (by omega) (by omega)) (fun res R1 hP=>by rw[hP.2];exact Nat.le_refl _) (fun res R1 hP=>?_);obtain ⟨rfl,rfl⟩:=hP;refine an.nil ?_;exact qL (N4_1_0 V) (by kernel_rfl) rfl ⟨rfl,trivial⟩
   · refine ah (fun B1 F1 w1=>?_);refine qU 1 rfl ?_;refine aa.nil ⟨rfl,?_⟩;exact qL (N3_1_1 V) (by kernel_rfl) rfl ⟨rfl,trivial⟩
 refine ZH.meet 6 (qB 19 113917) (fun V=>[]) (fun V=>[(3,.bx [dS ln,ak lb,aj js,ai lds]),(5,.bx [dS jn,dI jk,dI ja,dI jp,dI jb,dI jo,dI jt]),(7,.bx [.sl 1 (v.map ae)]),(8,.d (ae px)),(9,.d (ae py)),(10,.d (ae qx)),(11,.d (ae qy)),(12,.d (ae [1])),(13,.d (ae [])),(47,.d (dI ja)),(48,.d (ae [1])),(49,.d (ae [])),(51,.d (ae py)),(55,.d (dI jb)),(57,.d (ae [1])),(59,.d (ae [])),(60,.d (ae qy)),(44,.d (Lkg.D ⟨ln,lb,js,lds⟩)),(50,.d (aL v)),(56,.d (aL v))]) (fun V=>?_) (fun N1_1_1=>?_)
 · refine ZH.all 1 (by kernel_rfl) rfl rfl (fun _=>rfl) ⟨rfl,trivial⟩ ?_;refine an.a7 tok [] rfl rfl rfl rfl rfl List.nodup_nil rfl hrow (fun _ _ _=>Nat.zero_le _) (fun res R1 hP=>?_);obtain ⟨V,rfl,rfl⟩:=hP;refine an.nil ?_;exact qL (N2_1_1 V) (by kernel_rfl) rfl ⟨rfl,trivial⟩
 refine ZH.meet 6 (qB 19 113855) (fun V=>[(V,AV.ow 52 (cH zr))]) (fun V=>[(3,.bx [dS ln,ak lb,aj js,ai lds]),(5,.bx [dS jn,dI jk,dI ja,dI jp,dI jb,dI jo,dI jt]),(7,.bx [.sl 1 (v.map ae)]),(8,.d (ae px)),(9,.d (ae py)),(10,.d (ae qx)),(11,.d (ae qy)),(12,.d (ae [1])),(13,.d (ae [])),(47,.d (dI ja)),(48,.d (ae [1])),(49,.d (ae [])),(51,.d (ae py)),(55,.d (dI jb)),(57,.d (ae [1])),(59,.d (ae [])),(60,.d (ae qy)),(44,.d (Lkg.D ⟨ln,lb,js,lds⟩)),(45,.d (.v V)),(56,.d (aL v))]) (fun V=>?_) (fun N2_0_1=>?_)
 · refine ZH.all 6 (by kernel_rfl) rfl rfl (fun _=>rfl) ⟨rfl,trivial⟩ ?_;refine ah (fun B1 F1 w1=>?_);refine qU 1 rfl ?_;refine aa.nil ⟨rfl,?_⟩;exact qL (N2_1_1 V) (by kernel_rfl) rfl ⟨rfl,trivial⟩
 refine ZH.meet 6 (qB 19 109823) (fun V=>[(V,AV.ow 52 (cH zr))]) (fun V=>[(3,.bx [dS ln,ak lb,aj js,ai lds]),(5,.bx [dS jn,dI jk,dI ja,dI jp,dI jb,dI jo,dI jt]),(7,.bx [.sl 1 (v.map ae)]),(8,.d (ae px)),(9,.d (ae py)),(10,.d (ae qx)),(11,.d (ae qy)),(12,.d (ae [1])),(13,.d (ae [])),(47,.d (dI ja)),(48,.d (ae [1])),(49,.d (ae [])),(51,.d (ae py)),(55,.d (dI jb)),(57,.d (ae [1])),(59,.d (ae [])),(60,.d (ae qy)),(44,.d (Lkg.D ⟨ln,lb,js,lds⟩)),(45,.d (.v V)),(50,.d (aL v))]) (fun V=>?_) (fun N2_1_0=>?_)
 · refine ZH.two 8 12 (by kernel_rfl) rfl rfl rfl rfl (fun _=>rfl) (fun _=>rfl) ⟨rfl,trivial⟩ ?_ ?_
   · refine ah (fun B1 F1 w1=>?_);refine aa.call tok rfl rfl rfl rfl n2 ?_;refine aa.nil ⟨rfl,?_⟩;exact qL (N3_1_0 V) (by kernel_rfl) rfl ⟨rfl,trivial⟩
   · refine ah (fun B1 F1 w1=>?_);refine qU 1 rfl ?_;refine aa.nil ⟨rfl,?_⟩;exact qL (N2_1_1 V) (by kernel_rfl) rfl ⟨rfl,trivial⟩
 refine ZH.meet 7 (qB 19 113916) (fun V=>[]) (fun V=>[(3,.bx [dS ln,ak lb,aj js,ai lds]),(5,.bx [dS jn,dI jk,dI ja,dI jp,dI jb,dI jo,dI jt]),(7,.bx [.sl 1 (v.map ae)]),(8,.d (ae px)),(9,.d (ae py)),(10,.d (ae qx)),(11,.d (ae qy)),(12,.d (ae [1])),(13,.d (ae [])),(47,.d (dI ja)),(48,.d (ae [1])),(49,.d (ae [])),(51,.d (ae py)),(55,.d (dI jb)),(57,.d (ae [1])),(59,.d (ae [])),(60,.d (ae qy)),(50,.d (aL v)),(56,.d (aL v))]) (fun V=>?_) (fun N0_1_1=>?_)
 · refine ZH.all 0 (by kernel_rfl) rfl rfl (fun _=>rfl) ⟨rfl,trivial⟩ ?_;refine ah (fun B1 F1 w1=>?_);refine qU 1 rfl ?_;refine aa.nil ⟨rfl,?_⟩;exact qL (N1_1_1 V) (by kernel_rfl) rfl ⟨rfl,trivial⟩
 refine ZH.meet 7 (qB 19 113853) (fun V=>[]) (fun V=>[(3,.bx [dS ln,ak lb,aj js,ai lds]),(5,.bx [dS jn,dI jk,dI ja,dI jp,dI jb,dI jo,dI jt]),(7,.bx [.sl 1 (v.map ae)]),(8,.d (ae px)),(9,.d (ae py)),(10,.d (ae qx)),(11,.d (ae qy)),(12,.d (ae [1])),(13,.d (ae [])),(47,.d (dI ja)),(48,.d (ae [1])),(49,.d (ae [])),(51,.d (ae py)),(55,.d (dI jb)),(57,.d (ae [1])),(59,.d (ae [])),(60,.d (ae qy)),(44,.d (Lkg.D ⟨ln,lb,js,lds⟩)),(56,.d (aL v))]) (fun V=>?_) (fun N1_0_1=>?_)
 · refine ZH.two 1 6 (by kernel_rfl) rfl rfl rfl rfl (fun _=>rfl) (fun _=>rfl) ⟨rfl,trivial⟩ ?_ ?_
   · refine an.a7 tok [] rfl rfl rfl rfl rfl List.nodup_nil rfl hrow (fun _ _ _=>Nat.zero_le _) (fun res R1 hP=>?_);obtain ⟨V,rfl,rfl⟩:=hP;refine an.nil ?_;exact qL (N2_0_1 V) (by kernel_rfl) rfl ⟨rfl,trivial⟩
   · refine ah (fun B1 F1 w1=>?_);refine qU 1 rfl ?_;refine aa.nil ⟨rfl,?_⟩;exact qL (N1_1_1 V) (by kernel_rfl) rfl ⟨rfl,trivial⟩
 refine ZH.meet 7 (qB 19 109821) (fun V=>[]) (fun V=>[(3,.bx [dS ln,ak lb,aj js,ai lds]),(5,.bx [dS jn,dI jk,dI ja,dI jp,dI jb,dI jo,dI jt]),(7,.bx [.sl 1 (v.map ae)]),(8,.d (ae px)),(9,.d (ae py)),(10,.d (ae qx)),(11,.d (ae qy)),(12,.d (ae [1])),(13,.d (ae [])),(47,.d (dI ja)),(48,.d (ae [1])),(49,.d (ae [])),(51,.d (ae py)),(55,.d (dI jb)),(57,.d (ae [1])),(59,.d (ae [])),(60,.d (ae qy)),(44,.d (Lkg.D ⟨ln,lb,js,lds⟩)),(50,.d (aL v))]) (fun V=>?_) (fun N1_1_0=>?_)
 · refine ZH.two 1 12 (by kernel_rfl) rfl rfl rfl rfl (fun _=>rfl) (fun _=>rfl) ⟨rfl,trivial⟩ ?_ ?_
   · refine an.a7 tok [] rfl rfl rfl rfl rfl List.nodup_nil rfl hrow (fun _ _ _=>Nat.zero_le _) (fun res R1 hP=>?_);obtain ⟨V,rfl,rfl⟩:=hP;refine an.nil ?_;exact qL (N2_1_0 V) (by kernel_rfl) rfl ⟨rfl,trivial⟩
   · refine ah (fun B1 F1 w1=>?_);refine qU 1 rfl ?_;refine aa.nil ⟨rfl,?_⟩;exact qL (N1_1_1 V) (by kernel_rfl) rfl ⟨rfl,trivial⟩
 refine ZH.meet 7 (qB 19 109759) (fun V=>[(V,AV.ow 52 (cH zr))]) (fun V=>[(3,.bx [dS ln,ak lb,aj js,ai lds]),(5,.bx [dS jn,dI jk,dI ja,dI jp,dI jb,dI jo,dI jt]),(7,.bx [.sl 1 (v.map ae)]),(8,.d (ae px)),(9,.d (ae py)),(10,.d (ae qx)),(11,.d (ae qy)),(12,.d (ae [1])),(13,.d (ae [])),(47,.d (dI ja)),(48,.d (ae [1])),(49,.d (ae [])),(51,.d (ae py)),(55,.d (dI jb)),(57,.d (ae [1])),(59,.d (ae [])),(60,.d (ae qy)),(44,.d (Lkg.D ⟨ln,lb,js,lds⟩)),(45,.d (.v V))]) (fun V=>?_) (fun N2_0_0=>?_)
 · refine ZH.two 6 12 (by kernel_rfl) rfl rfl rfl rfl (fun _=>rfl) (fun _=>rfl) ⟨rfl,trivial⟩ ?_ ?_
   · refine ah (fun B1 F1 w1=>?_);refine qU 1 rfl ?_;refine aa.nil ⟨rfl,?_⟩;exact qL (N2_1_0 V) (by kernel_rfl) rfl ⟨rfl,trivial⟩
   · refine ah (fun B1 F1 w1=>?_);refine qU 1 rfl ?_;refine aa.nil ⟨rfl,?_⟩;exact qL (N2_0_1 V) (by kernel_rfl) rfl ⟨rfl,trivial⟩
 refine ZH.meet 8 (qB 19 113852) (fun V=>[]) (fun V=>[(3,.bx [dS ln,ak lb,aj js,ai lds]),(5,.bx [dS jn,dI jk,dI ja,dI jp,dI jb,dI jo,dI jt]),(7,.bx [.sl 1 (v.map ae)]),(8,.d (ae px)),(9,.d (ae py)),(10,.d (ae qx)),(11,.d (ae qy)),(12,.d (ae [1])),(13,.d (ae [])),(47,.d (dI ja)),(48,.d (ae [1])),(49,.d (ae [])),(51,.d (ae py)),(55,.d (dI jb)),(57,.d (ae [1])),(59,.d (ae [])),(60,.d (ae qy)),(56,.d (aL v))]) (fun V=>?_) (fun N0_0_1=>?_)
 · refine ZH.two 0 6 (by kernel_rfl) rfl rfl rfl rfl (fun _=>rfl) (fun _=>rfl) ⟨rfl,trivial⟩ ?_ ?_
   · refine ah (fun B1 F1 w1=>?_);refine qU 1 rfl ?_;refine aa.nil ⟨rfl,?_⟩;exact qL (N1_0_1 V) (by kernel_rfl) rfl ⟨rfl,trivial⟩
   · refine ah (fun B1 F1 w1=>?_);refine qU 1 rfl ?_;refine aa.nil ⟨rfl,?_⟩;exact qL (N0_1_1 V) (by kernel_rfl) rfl ⟨rfl,trivial⟩
 refine ZH.meet 8 (qB 19 109820) (fun V=>[]) (fun V=>[(3,.bx [dS ln,ak lb,aj js,ai lds]),(5,.bx [dS jn,dI jk,dI ja,dI jp,dI jb,dI jo,dI jt]),(7,.bx [.sl 1 (v.map ae)]),(8,.d (ae px)),(9,.d (ae py)),(10,.d (ae qx)),(11,.d (ae qy)),(12,.d (ae [1])),(13,.d (ae [])),(47,.d (dI ja)),(48,.d (ae [1])),(49,.d (ae [])),(51,.d (ae py)),(55,.d (dI jb)),(57,.d (ae [1])),(59,.d (ae [])),(60,.d (ae qy)),(50,.d (aL v))]) (fun V=>?_) (fun N0_1_0=>?_)
 · refine ZH.two 0 12 (by kernel_rfl) rfl rfl rfl rfl (fun _=>rfl) (fun _=>rfl) ⟨rfl,trivial⟩ ?_ ?_
   · refine ah (fun B1 F1 w1=>?_);refine qU 1 rfl ?_;refine aa.nil ⟨rfl,?_⟩;exact qL (N1_1_0 V) (by kernel_rfl) rfl ⟨rfl,trivial⟩
   · refine ah (fun B1 F1 w1=>?_);refine qU 1 rfl ?_;refine aa.nil ⟨rfl,?_⟩;exact qL (N0_1_1 V) (by kernel_rfl) rfl ⟨rfl,trivial⟩
 refine ZH.meet 8 (qB 19 109757) (fun V=>[]) (fun V=>[(3,.bx [dS ln,ak lb,aj js,ai lds]),(5,.bx [dS jn,dI jk,dI ja,dI jp,dI jb,dI jo,dI jt]),(7,.bx [.sl 1 (v.map ae)]),(8,.d (ae px)),(9,.d (ae py)),(10,.d (ae qx)),(11,.d (ae qy)),(12,.d (ae [1])),(13,.d (ae [])),(47,.d (dI ja)),(48,.d (ae [1])),(49,.d (ae [])),(51,.d (ae py)),(55,.d (dI jb)),(57,.d (ae [1])),(59,.d (ae [])),(60,.d (ae qy)),(44,.d (Lkg.D ⟨ln,lb,js,lds⟩))]) (fun V=>?_) (fun N1_0_0=>?_)
 · refine ZH.three 1 6 12 (by kernel_rfl) rfl rfl rfl rfl rfl rfl (fun _=>rfl) (fun _=>rfl) (fun _=>rfl) ⟨rfl,trivial⟩ ?_ ?_ ?_
   · refine an.a7 tok [] rfl rfl rfl rfl rfl List.nodup_nil rfl hrow (fun _ _ _=>Nat.zero_le _) (fun res R1 hP=>?_);obtain ⟨V,rfl,rfl⟩:=hP;refine an.nil ?_;exact qL (N2_0_0 V) (by kernel_rfl) rfl ⟨rfl,trivial⟩
   · refine ah (fun B1 F1 w1=>?_);refine qU 1 rfl ?_;refine aa.nil ⟨rfl,?_⟩;exact qL (N1_1_0 V) (by kernel_rfl) rfl ⟨rfl,trivial⟩
   · refine ah (fun B1 F1 w1=>?_);refine qU 1 rfl ?_;refine aa.nil ⟨rfl,?_⟩;exact qL (N1_0_1 V) (by kernel_rfl) rfl ⟨rfl,trivial⟩
 refine ZH.meet 9 (qB 19 109756) (fun V=>[]) (fun V=>[(3,.bx [dS ln,ak lb,aj js,ai lds]),(5,.bx [dS jn,dI jk,dI ja,dI jp,dI jb,dI jo,dI jt]),(7,.bx [.sl 1 (v.map ae)]),(8,.d (ae px)),(9,.d (ae py)),(10,.d (ae qx)),(11,.d (ae qy)),(12,.d (ae [1])),(13,.d (ae [])),(47,.d (dI ja)),(48,.d (ae [1])),(49,.d (ae [])),(51,.d (ae py)),(55,.d (dI jb)),(57,.d (ae [1])),(59,.d (ae [])),(60,.d (ae qy))]) (fun V=>?_) (fun N0_0_0=>?_)
 · refine ZH.three 0 6 12 (by kernel_rfl) rfl rfl rfl rfl rfl rfl (fun _=>rfl) (fun _=>rfl) (fun _=>rfl) ⟨rfl,trivial⟩ ?_ ?_ ?_
   · refine ah (fun B1 F1 w1=>?_);refine qU 1 rfl ?_;refine aa.nil ⟨rfl,?_⟩;exact qL (N1_0_0 V) (by kernel_rfl) rfl ⟨rfl,trivial⟩
   · refine ah (fun B1 F1 w1=>?_);refine qU 1 rfl ?_;refine aa.nil ⟨rfl,?_⟩;exact qL (N0_1_0 V) (by kernel_rfl) rfl ⟨rfl,trivial⟩
   · refine ah (fun B1 F1 w1=>?_);refine qU 1 rfl ?_;refine aa.nil ⟨rfl,?_⟩;exact qL (N0_0_1 V) (by kernel_rfl) rfl ⟨rfl,trivial⟩
 exact qL (N0_0_0 de) (by kernel_rfl) rfl ⟨rfl,trivial⟩
set_option maxHeartbeats 3200000 in
theorem uV{l:Lkg}{v:List NQ}{bs:List dL}{md:List Int}{X Y:Int→Int→NQ}(W:GP l v bs md X Y)(j:bp)(J:GA l.bodies j)(jk:j.kind≠0):fS Tryz.prog 41 [l.D,GC v bs md,j.D] [] (BV (Ao v (iZ l.bodies.length) j.a j.b (X j.a j.pt) (Y j.a j.pt) (X j.b j.on) (Y j.b j.on) (X j.b j.to) (Y j.b j.to))):=by
 refine fS.intro (n:=87) tok Tryz.func41 rfl rfl rfl (Nat.le_of_ble_eq_true rfl) (by kernel_rfl) (fun B F0 w0=>?_);have b1:=W.b1;have b8:=W.b8;have l2:=W.l2;have c1:=W.w j.a j.pt J.a.1 J.a.2 J.pt.1 J.pt.2;have c2:=W.w j.b j.on J.b.1 J.b.2 J.on.1 J.on.2;have c3:=W.w j.b j.to J.b.1 J.b.2 (J.to jk).1 (J.to jk).2;obtain ⟨⟨x1,x2⟩,⟨x3,x4⟩⟩:=W.s j.a j.pt J.a.1 J.a.2 J.pt.1 J.pt.2;obtain ⟨⟨y1,y2⟩,⟨y3,y4⟩⟩:=W.s j.b j.on J.b.1 J.b.2 J.on.1 J.on.2;obtain ⟨⟨z1,z2⟩,⟨z3,z4⟩⟩:=W.s j.b j.to J.b.1 J.b.2 (J.to jk).1 (J.to jk).2;have hrow:=rD l b1 (by omega);have V:=W.V.mono (show 16≤3000 by decide) (by decide);have V9:=W.V.mono (show 16≤500000 by decide) (by decide);have s1:=kv V y3 (y4.mono (by decide)) z3 (z4.mono (by decide));have s2:=kv V z1 (z2.mono (by decide)) y1 (y2.mono (by decide));have q1:=eZ y3 y4 z3 z4;have q2:=eZ z1 z2 y1 y2;have hT:sT v.length 3000≤126009:=Nat.le_trans (l6 l2) (by decide);have m1:=gl (by omega) V q2.1 (q2.2.mono (by decide)) x1 (x2.mono (by decide));have m2:=gl (by omega) V q1.1 (q1.2.mono (by decide)) x3 (x4.mono (by decide));have p1:=cG V q2.1 (q2.2.mono (by decide)) x1 (x2.mono (by decide));have p2:=cG V q1.1 (q1.2.mono (by decide)) x3 (x4.mono (by decide));have s3:=kv V9 p1.1 (p1.2.mono (by omega)) p2.1 (p2.2.mono (by omega));have q3:=eZ p1.1 (p1.2.mono hT) p2.1 (p2.2.mono hT);have n1:=gk V9 q1.1 (q1.2.mono (by decide));have n2:=gk V9 q2.1 (q2.2.mono (by decide));have n3:=gk V9 q3.1 (q3.2.mono (by decide));have ja0:=J.a;have jb0:=J.b;unfold Ao;generalize X j.a j.pt=px at *;generalize Y j.a j.pt=py at *;generalize X j.b j.on=qx at *;generalize Y j.b j.on=qy at *;generalize X j.b j.to=rx at *;generalize Y j.b j.to=ry at *;generalize fB qy ry=nx at *;generalize fB rx qx=ny at *;generalize fV v ny px=u1 at *;generalize fV v nx py=u2 at *;generalize fB u1 u2=w at *;have hz:=nG l.bodies.length;generalize l.bodies.length=n at *;generalize iZ n=zr at *;have hzl: ∀b:Int,0≤b→b<n→0<b→3*b.toNat≤zr.length:=fun b g1 g2 _=>by omega
 have hpl:=fun x y w=>oT x y w hz ja0.2 ja0.1 b1;have hpz: ∀(x y w:NQ) (b:Int),0≤b→b<n→0<b→3*b.toNat≤(aN zr j.a x y w).length:=fun x y w b g1 g2 _=>by rw[hpl];omega
 clear J W V V9 x1 x2 x3 x4 y1 y2 y3 y4 z1 z2 z3 z4 q1 q2 q3 p1 p2 hT jk;obtain ⟨ln,lb,js,lds⟩:=l;obtain ⟨jn,jk,ja,jp,jb,jo,jt⟩:=j;simp only[] at *;refine AZ.seq ?_;refine AZ.dm (fun B1 F1 w1=>?_);refine qU 4 rfl ?_;refine aa.nil ⟨rfl,?_⟩;refine AZ.seq ?_;refine AZ.dm (fun B1 F1 w1=>?_);refine qU 4 rfl ?_;refine aa.nil ⟨rfl,?_⟩;refine AZ.seq ?_;refine AZ.dm (fun B1 F1 w1=>?_);refine qU 6 rfl ?_;refine aa.call tok rfl rfl rfl rfl c1 ?_;refine qU 5 rfl ?_;refine aa.nil ⟨rfl,?_⟩;refine AZ.seq ?_;refine AZ.dm (fun B1 F1 w1=>?_);refine qU 6 rfl ?_;refine aa.call tok rfl rfl rfl rfl c2 ?_;refine qU 5 rfl ?_;refine aa.nil ⟨rfl,?_⟩;refine AZ.seq ?_;refine AZ.dm (fun B1 F1 w1=>?_);refine qU 6 rfl ?_;refine aa.call tok rfl rfl rfl rfl c3 ?_;refine qU 5 rfl ?_;refine aa.nil ⟨rfl,?_⟩;refine AZ.seq ?_;refine AZ.any aI (iW.pY 8 (by kernel_rfl) (fun B1 F1 w1 hS=>?_));refine qP 3 rfl ?_;refine af.call tok rfl rfl rfl rfl rfl s1 ?_;refine qP 3 rfl ?_;refine af.call tok rfl rfl rfl rfl rfl s2 ?_;refine af.nil ⟨rfl,?_⟩;refine an.cut 2 rfl (fun B1 F1 w1=>?_);refine qU 2 rfl ?_;refine aa.nil ⟨rfl,?_⟩;refine an.nil ?_;refine AZ.seq ?_;refine AZ.any aI (iW.pY 10 (by kernel_rfl) (fun B1 F1 w1 hS=>?_));refine qP 4 rfl ?_;refine af.call tok rfl rfl rfl rfl rfl m1 ?_;refine qP 3 rfl ?_;refine af.call tok rfl rfl rfl rfl rfl m2 ?_;refine af.call tok rfl rfl rfl rfl rfl s3 ?_;refine af.nil ⟨rfl,?_⟩;refine an.cut 1 rfl (fun B1 F1 w1=>?_);refine qU 1 rfl ?_;refine aa.nil ⟨rfl,?_⟩;refine an.nil ?_;refine AZ.to [3,5,7,14,15,16] [(3,.bx [dS ln,ak lb,aj js,ai lds]),(5,.bx [dS jn,dI jk,dI ja,dI jp,dI jb,dI jo,dI jt]),(7,.bx [.sl 1 (v.map ae)]),(14,.d (ae nx)),(15,.d (ae ny)),(16,.d (ae w))] rfl ?_;refine AZ.seq ?_;refine AZ.any aI (ZH.any (β:=[(5,[dS jn,dI jk,dI ja,dI jp,dI jb,dI jo,dI jt])]) ?_);refine ZH.mv 4 rfl rfl (by kernel_rfl) (by kernel_rfl) (by kernel_rfl) rfl (fun _ _ _ h=>h) (fun _=>rfl) ⟨rfl,trivial⟩ (fun B1 F1 w1=>?_);refine qU 1 rfl ?_;refine aa.nil ⟨rfl,?_⟩;refine ZH.mv 5 rfl rfl (by kernel_rfl) (by kernel_rfl) (by kernel_rfl) rfl (fun _ _ _ h=>h) (fun _=>rfl) ⟨rfl,trivial⟩ (fun B1 F1 w1=>?_);refine qU 1 rfl ?_;refine aa.nil ⟨rfl,?_⟩;refine ZH.mv 6 rfl rfl (by kernel_rfl) (by kernel_rfl) (by kernel_rfl) rfl (fun _ _ _ h=>h) (fun _=>rfl) ⟨rfl,trivial⟩ (fun B1 F1 w1=>?_);refine qU 1 rfl ?_;refine aa.nil ⟨rfl,?_⟩;refine ZH.mv 11 rfl rfl (by kernel_rfl) (by kernel_rfl) (by kernel_rfl) rfl (fun _ _ _ h=>h) (fun _=>rfl) ⟨rfl,trivial⟩ (fun B1 F1 w1=>?_);refine qU 1 rfl ?_;refine aa.nil ⟨rfl,?_⟩;refine ZH.mv 14 rfl rfl (by kernel_rfl) (by kernel_rfl) (by kernel_rfl) rfl (fun _ _ _ h=>h) (fun _=>rfl) ⟨rfl,trivial⟩ (fun B1 F1 w1=>?_);refine qU 1 rfl ?_;refine aa.nil ⟨rfl,?_⟩;refine ZH.mv 17 rfl rfl (by kernel_rfl) (by kernel_rfl) (by kernel_rfl) rfl (fun _ _ _ h=>h) (fun _=>rfl) ⟨rfl,trivial⟩ (fun B1 F1 w1=>?_);refine qU 1 rfl ?_;refine aa.nil ⟨rfl,?_⟩;refine ZH.fd tok 2 rfl rfl (by kernel_rfl) (by kernel_rfl) (by kernel_rfl) rfl (fun _ _ _ h=>h) (fun _=>rfl) ⟨rfl,trivial⟩ (fun B1 F1 w1=>?_);refine qU 1 rfl ?_;refine aa.nil ⟨rfl,?_⟩;refine ZH.fd tok 8 rfl rfl (by kernel_rfl) (by kernel_rfl) (by kernel_rfl) rfl (fun _ _ _ h=>h) (fun _=>rfl) ⟨rfl,trivial⟩ (fun B1 F1 w1=>?_);refine qU 1 rfl ?_;refine aa.nil ⟨rfl,?_⟩;refine ZH.ld tok 3 rfl rfl (by kernel_rfl) (by kernel_rfl) (by kernel_rfl) rfl rfl (fun _ _ _ h=>h) (fun _=>rfl) ⟨rfl,trivial⟩ (fun B1 F1 w1=>?_);refine qU 1 rfl ?_;refine aa.nil ⟨rfl,?_⟩;refine ZH.ld tok 9 rfl rfl (by kernel_rfl) (by kernel_rfl) (by kernel_rfl) rfl rfl (fun _ _ _ h=>h) (fun _=>rfl) ⟨rfl,trivial⟩ (fun B1 F1 w1=>?_);refine qU 1 rfl ?_;refine aa.nil ⟨rfl,?_⟩;refine ZH.meet 0 (qB 21 2097151) (fun V=>[(V,AV.ow 52 (cH (aN (aN zr ja nx ny w) jb (aH nx) (aH ny) (aH w))))]) (fun V=>[(3,.bx [dS ln,ak lb,aj js,ai lds]),(5,.bx [dS jn,dI jk,dI ja,dI jp,dI jb,dI jo,dI jt]),(7,.bx [.sl 1 (v.map ae)]),(14,.d (ae nx)),(15,.d (ae ny)),(16,.d (ae w)),(70,.d (dI ja)),(71,.d (ae nx)),(72,.d (ae ny)),(73,.d (ae w)),(76,.d (dI jb)),(78,.d (ae nx)),(81,.d (ae ny)),(84,.d (ae w)),(67,.d (Lkg.D ⟨ln,lb,js,lds⟩)),(68,.d (.v V)),(74,.d (.v V)),(79,.d (ae (aH nx))),(82,.d (ae (aH ny))),(85,.d (ae (aH w))),(86,.d (.v V)),(6,.d (.v V)),(77,.d (aL v)),(80,.d (aL v)),(83,.d (aL v))]) (fun V=>?_) (fun N8_1_1_1=>?_)
 · refine ZH.done (by kernel_rfl) ⟨rfl,trivial⟩ ?_;exact AZ.ret ⟨.v V,rfl,V,rfl,rfl⟩
 refine ZH.meet 1 (qB 21 1048575) (fun V=>[(V,AV.ow 52 (cH (aN (aN zr ja nx ny w) jb (aH nx) (aH ny) (aH w))))]) (fun V=>[(3,.bx [dS ln,ak lb,aj js,ai lds]),(5,.bx [dS jn,dI jk,dI ja,dI jp,dI jb,dI jo,dI jt]),(7,.bx [.sl 1 (v.map ae)]),(14,.d (ae nx)),(15,.d (ae ny)),(16,.d (ae w)),(70,.d (dI ja)),(71,.d (ae nx)),(72,.d (ae ny)),(73,.d (ae w)),(76,.d (dI jb)),(78,.d (ae nx)),(81,.d (ae ny)),(84,.d (ae w)),(67,.d (Lkg.D ⟨ln,lb,js,lds⟩)),(68,.d (.v V)),(74,.d (.v V)),(79,.d (ae (aH nx))),(82,.d (ae (aH ny))),(85,.d (ae (aH w))),(86,.d (.v V)),(77,.d (aL v)),(80,.d (aL v)),(83,.d (aL v))]) (fun V=>?_) (fun N7_1_1_1=>?_)
 · refine ZH.all 20 (by kernel_rfl) rfl rfl (fun _=>rfl) ⟨rfl,trivial⟩ ?_;refine ah (fun B1 F1 w1=>?_);refine qU 1 rfl ?_;refine aa.nil ⟨rfl,?_⟩;exact qL (N8_1_1_1 V) (by kernel_rfl) rfl ⟨rfl,trivial⟩
 refine ZH.meet 2 (qB 21 524287) (fun V=>[(V,AV.ow 52 (cH (aN zr ja nx ny w)))]) (fun V=>[(3,.bx [dS ln,ak lb,aj js,ai lds]),(5,.bx [dS jn,dI jk,dI ja,dI jp,dI jb,dI jo,dI jt]),(7,.bx [.sl 1 (v.map ae)]),(14,.d (ae nx)),(15,.d (ae ny)),(16,.d (ae w)),(70,.d (dI ja)),(71,.d (ae nx)),(72,.d (ae ny)),(73,.d (ae w)),(76,.d (dI jb)),(78,.d (ae nx)),(81,.d (ae ny)),(84,.d (ae w)),(67,.d (Lkg.D ⟨ln,lb,js,lds⟩)),(68,.d (.v V)),(74,.d (.v V)),(79,.d (ae (aH nx))),(82,.d (ae (aH ny))),(85,.d (ae (aH w))),(77,.d (aL v)),(80,.d (aL v)),(83,.d (aL v))]) (fun V=>?_) (fun N6_1_1_1=>?_)
 · refine ZH.all 19 (by kernel_rfl) rfl rfl (fun _=>rfl) ⟨rfl,trivial⟩ ?_;refine an.a7 tok [0] rfl rfl rfl rfl rfl (by simp) rfl (bf V (aN zr ja nx ny w) jb (aH nx) (aH ny) (aH w) (hpz _ _ _ _ jb0.1 jb0.2) (by omega) (by omega)) (fun res R1 hP=>by rw[hP.2];exact Nat.le_refl _) (fun res R1 hP=>?_);obtain ⟨rfl,rfl⟩:=hP;refine an.nil ?_;exact qL (N7_1_1_1 V) (by kernel_rfl) rfl ⟨rfl,trivial⟩
 refine ZH.meet 3 (qB 21 262143) (fun V=>[(V,AV.ow 52 (cH (aN zr ja nx ny w)))]) (fun V=>[(3,.bx [dS ln,ak lb,aj js,ai lds]),(5,.bx [dS jn,dI jk,dI ja,dI jp,dI jb,dI jo,dI jt]),(7,.bx [.sl 1 (v.map ae)]),(14,.d (ae nx)),(15,.d (ae ny)),(16,.d (ae w)),(70,.d (dI ja)),(71,.d (ae nx)),(72,.d (ae ny)),(73,.d (ae w)),(76,.d (dI jb)),(78,.d (ae nx)),(81,.d (ae ny)),(84,.d (ae w)),(67,.d (Lkg.D ⟨ln,lb,js,lds⟩)),(68,.d (.v V)),(74,.d (.v V)),(79,.d (ae (aH nx))),(82,.d (ae (aH ny))),(77,.d (aL v)),(80,.d (aL v)),(83,.d (aL v))]) (fun V=>?_) (fun N5_1_1_1=>?_)
 · refine ZH.all 18 (by kernel_rfl) rfl rfl (fun _=>rfl) ⟨rfl,trivial⟩ ?_;refine ah (fun B1 F1 w1=>?_);refine aa.call tok rfl rfl rfl rfl n3 ?_;refine aa.nil ⟨rfl,?_⟩;exact qL (N6_1_1_1 V) (by kernel_rfl) rfl ⟨rfl,trivial⟩
 refine ZH.meet 4 (qB 21 229375) (fun V=>[(V,AV.ow 52 (cH (aN zr ja nx ny w)))]) (fun V=>[(3,.bx [dS ln,ak lb,aj js,ai lds]),(5,.bx [dS jn,dI jk,dI ja,dI jp,dI jb,dI jo,dI jt]),(7,.bx [.sl 1 (v.map ae)]),(14,.d (ae nx)),(15,.d (ae ny)),(16,.d (ae w)),(70,.d (dI ja)),(71,.d (ae nx)),(72,.d (ae ny)),(73,.d (ae w)),(76,.d (dI jb)),(78,.d (ae nx)),(81,.d (ae ny)),(84,.d (ae w)),(67,.d (Lkg.D ⟨ln,lb,js,lds⟩)),(68,.d (.v V)),(74,.d (.v V)),(79,.d (ae (aH nx))),(77,.d (aL v)),(80,.d (aL v)),(83,.d (aL v))]) (fun V=>?_) (fun N4_1_1_1=>?_)
 · refine ZH.all 15 (by kernel_rfl) rfl rfl (fun _=>rfl) ⟨rfl,trivial⟩ ?_;refine ah (fun B1 F1 w1=>?_);refine aa.call tok rfl rfl rfl rfl n2 ?_;refine aa.nil ⟨rfl,?_⟩;exact qL (N5_1_1_1 V) (by kernel_rfl) rfl ⟨rfl,trivial⟩
 refine ZH.meet 4 (qB 21 196607) (fun V=>[(V,AV.ow 52 (cH (aN zr ja nx ny w)))]) (fun V=>[(3,.bx [dS ln,ak lb,aj js,ai lds]),(5,.bx [dS jn,dI jk,dI ja,dI jp,dI jb,dI jo,dI jt]),(7,.bx [.sl 1 (v.map ae)]),(14,.d (ae nx)),(15,.d (ae ny)),(16,.d (ae w)),(70,.d (dI ja)),(71,.d (ae nx)),(72,.d (ae ny)),(73,.d (ae w)),(76,.d (dI jb)),(78,.d (ae nx)),(81,.d (ae ny)),(84,.d (ae w)),(67,.d (Lkg.D ⟨ln,lb,js,lds⟩)),(68,.d (.v V)),(74,.d (.v V)),(79,.d (ae (aH nx))),(82,.d (ae (aH ny))),(77,.d (aL v)),(80,.d (aL v))]) (fun V=>?_) (fun N5_1_1_0=>?_)
 · refine ZH.all 16 (by kernel_rfl) rfl rfl (fun _=>rfl) ⟨rfl,trivial⟩ ?_;refine ah (fun B1 F1 w1=>?_);refine qU 1 rfl ?_;refine aa.nil ⟨rfl,?_⟩;exact qL (N5_1_1_1 V) (by kernel_rfl) rfl ⟨rfl,trivial⟩
 refine ZH.meet 5 (qB 21 225279) (fun V=>[(V,AV.ow 52 (cH (aN zr ja nx ny w)))]) (fun V=>[(3,.bx [dS ln,ak lb,aj js,ai lds]),(5,.bx [dS jn,dI jk,dI ja,dI jp,dI jb,dI jo,dI jt]),(7,.bx [.sl 1 (v.map ae)]),(14,.d (ae nx)),(15,.d (ae ny)),(16,.d (ae w)),(70,.d (dI ja)),(71,.d (ae nx)),(72,.d (ae ny)),(73,.d (ae w)),(76,.d (dI jb)),(78,.d (ae nx)),(81,.d (ae ny)),(84,.d (ae w)),(67,.d (Lkg.D ⟨ln,lb,js,lds⟩)),(68,.d (.v V)),(74,.d (.v V)),(77,.d (aL v)),(80,.d (aL v)),(83,.d (aL v))]) (fun V=>?_) (fun N3_1_1_1=>?_)
 · refine ZH.all 12 (by kernel_rfl) rfl rfl (fun _=>rfl) ⟨rfl,trivial⟩ ?_;refine ah (fun B1 F1 w1=>?_);refine aa.call tok rfl rfl rfl rfl n1 ?_;refine aa.nil ⟨rfl,?_⟩;exact qL (N4_1_1_1 V) (by kernel_rfl) rfl ⟨rfl,trivial⟩
 refine ZH.meet 5 (qB 21 221183) (fun V=>[(V,AV.ow 52 (cH (aN zr ja nx ny w)))]) (fun V=>[(3,.bx [dS ln,ak lb,aj js,ai lds]),(5,.bx [dS jn,dI jk,dI ja,dI jp,dI jb,dI jo,dI jt]),(7,.bx [.sl 1 (v.map ae)]),(14,.d (ae nx)),(15,.d (ae ny)),(16,.d (ae w)),(70,.d (dI ja)),(71,.d (ae nx)),(72,.d (ae ny)),(73,.d (ae w)),(76,.d (dI jb)),(78,.d (ae nx)),(81,.d (ae ny)),(84,.d (ae w)),(67,.d (Lkg.D ⟨ln,lb,js,lds⟩)),(68,.d (.v V)),(74,.d (.v V)),(79,.d (ae (aH nx))),(77,.d (aL v)),(83,.d (aL v))]) (fun V=>?_) (fun N4_1_0_1=>?_)
 · refine ZH.all 13 (by kernel_rfl) rfl rfl (fun _=>rfl) ⟨rfl,trivial⟩ ?_;refine ah (fun B1 F1 w1=>?_);refine qU 1 rfl ?_;refine aa.nil ⟨rfl,?_⟩;exact qL (N4_1_1_1 V) (by kernel_rfl) rfl ⟨rfl,trivial⟩
 refine ZH.meet 5 (qB 21 163839) (fun V=>[(V,AV.ow 52 (cH (aN zr ja nx ny w)))]) (fun V=>[(3,.bx [dS ln,ak lb,aj js,ai lds]),(5,.bx [dS jn,dI jk,dI ja,dI jp,dI jb,dI jo,dI jt]),(7,.bx [.sl 1 (v.map ae)]),(14,.d (ae nx)),(15,.d (ae ny)),(16,.d (ae w)),(70,.d (dI ja)),(71,.d (ae nx)),(72,.d (ae ny)),(73,.d (ae w)),(76,.d (dI jb)),(78,.d (ae nx)),(81,.d (ae ny)),(84,.d (ae w)),(67,.d (Lkg.D ⟨ln,lb,js,lds⟩)),(68,.d (.v V)),(74,.d (.v V)),(79,.d (ae (aH nx))),(77,.d (aL v)),(80,.d (aL v))]) (fun V=>?_) (fun N4_1_1_0=>?_)
 · refine ZH.two 15 16 (by kernel_rfl) rfl rfl rfl rfl (fun _=>rfl) (fun _=>rfl) ⟨rfl,trivial⟩ ?_ ?_
   · refine ah (fun B1 F1 w1=>?_);refine aa.call tok rfl rfl rfl rfl n2 ?_;refine aa.nil ⟨rfl,?_⟩;exact qL (N5_1_1_0 V) (by kernel_rfl) rfl ⟨rfl,trivial⟩
   · refine ah (fun B1 F1 w1=>?_);refine qU 1 rfl ?_;refine aa.nil ⟨rfl,?_⟩;exact qL (N4_1_1_1 V) (by kernel_rfl) rfl ⟨rfl,trivial⟩
 refine ZH.meet 6 (qB 21 225151) (fun V=>[(V,AV.ow 52 (cH zr))]) (fun V=>[(3,.bx [dS ln,ak lb,aj js,ai lds]),(5,.bx [dS jn,dI jk,dI ja,dI jp,dI jb,dI jo,dI jt]),(7,.bx [.sl 1 (v.map ae)]),(14,.d (ae nx)),(15,.d (ae ny)),(16,.d (ae w)),(70,.d (dI ja)),(71,.d (ae nx)),(72,.d (ae ny)),(73,.d (ae w)),(76,.d (dI jb)),(78,.d (ae nx)),(81,.d (ae ny)),(84,.d (ae w)),(67,.d (Lkg.D ⟨ln,lb,js,lds⟩)),(68,.d (.v V)),(77,.d (aL v)),(80,.d (aL v)),(83,.d (aL v))]) (fun V=>?_) (fun N2_1_1_1=>?_)
 · refine ZH.all 7 (by kernel_rfl) rfl rfl (fun _=>rfl) ⟨rfl,trivial⟩ ?_;refine an.a7 tok [0] rfl rfl rfl rfl rfl (by simp) rfl (bf V zr ja nx ny w (hzl _ ja0.1 ja0.2) (by omega) (by omega)) (fun res R1 hP=>by rw[hP.2];exact Nat.le_refl _) (fun res R1 hP=>?_);obtain ⟨rfl,rfl⟩:=hP;refine an.nil ?_;exact qL (N3_1_1_1 V) (by kernel_rfl) rfl ⟨rfl,trivial⟩
 refine ZH.meet 6 (qB 21 224255) (fun V=>[(V,AV.ow 52 (cH (aN zr ja nx ny w)))]) (fun V=>[(3,.bx [dS ln,ak lb,aj js,ai lds]),(5,.bx [dS jn,dI jk,dI ja,dI jp,dI jb,dI jo,dI jt]),(7,.bx [.sl 1 (v.map ae)]),(14,.d (ae nx)),(15,.d (ae ny)),(16,.d (ae w)),(70,.d (dI ja)),(71,.d (ae nx)),(72,.d (ae ny)),(73,.d (ae w)),(76,.d (dI jb)),(78,.d (ae nx)),(81,.d (ae ny)),(84,.d (ae w)),(67,.d (Lkg.D ⟨ln,lb,js,lds⟩)),(68,.d (.v V)),(74,.d (.v V)),(80,.d (aL v)),(83,.d (aL v))]) (fun V=>?_) (fun N3_0_1_1=>?_)
 · refine ZH.all 10 (by kernel_rfl) rfl rfl (fun _=>rfl) ⟨rfl,trivial⟩ ?_;refine ah (fun B1 F1 w1=>?_);refine qU 1 rfl ?_;refine aa.nil ⟨rfl,?_⟩;exact qL (N3_1_1_1 V) (by kernel_rfl) rfl ⟨rfl,trivial⟩
 refine ZH.meet 6 (qB 21 217087) (fun V=>[(V,AV.ow 52 (cH (aN zr ja nx ny w)))]) (fun V=>[(3,.bx [dS ln,ak lb,aj js,ai lds]),(5,.bx [dS jn,dI jk,dI ja,dI jp,dI jb,dI jo,dI jt]),(7,.bx [.sl 1 (v.map ae)]),(14,.d (ae nx)),(15,.d (ae ny)),(16,.d (ae w)),(70,.d (dI ja)),(71,.d (ae nx)),(72,.d (ae ny)),(73,.d (ae w)),(76,.d (dI jb)),(78,.d (ae nx)),(81,.d (ae ny)),(84,.d (ae w)),(67,.d (Lkg.D ⟨ln,lb,js,lds⟩)),(68,.d (.v V)),(74,.d (.v V)),(77,.d (aL v)),(83,.d (aL v))]) (fun V=>?_) (fun N3_1_0_1=>?_)
 · refine ZH.two 12 13 (by kernel_rfl) rfl rfl rfl rfl (fun _=>rfl) (fun _=>rfl) ⟨rfl,trivial⟩ ?_ ?_
   · refine ah (fun B1 F1 w1=>?_);refine aa.call tok rfl rfl rfl rfl n1 ?_;refine aa.nil ⟨rfl,?_⟩;exact qL (N4_1_0_1 V) (by kernel_rfl) rfl ⟨rfl,trivial⟩
   · refine ah (fun B1 F1 w1=>?_);refine qU 1 rfl ?_;refine aa.nil ⟨rfl,?_⟩;exact qL (N3_1_1_1 V) (by kernel_rfl) rfl ⟨rfl,trivial⟩
 refine ZH.meet 6 (qB 21 159743) (fun V=>[(V,AV.ow 52 (cH (aN zr ja nx ny w)))]) (fun V=>[(3,.bx [dS ln,ak lb,aj js,ai lds]),(5,.bx [dS jn,dI jk,dI ja,dI jp,dI jb,dI jo,dI jt]),(7,.bx [.sl 1 (v.map ae)]),(14,.d (ae nx)),(15,.d (ae ny)),(16,.d (ae w)),(70,.d (dI ja)),(71,.d (ae nx)),(72,.d (ae ny)),(73,.d (ae w)),(76,.d (dI jb)),(78,.d (ae nx)),(81,.d (ae ny)),(84,.d (ae w)),(67,.d (Lkg.D ⟨ln,lb,js,lds⟩)),(68,.d (.v V)),(74,.d (.v V)),(77,.d (aL v)),(80,.d (aL v))]) (fun V=>?_) (fun N3_1_1_0=>?_)
 · refine ZH.two 12 16 (by kernel_rfl) rfl rfl rfl rfl (fun _=>rfl) (fun _=>rfl) ⟨rfl,trivial⟩ ?_ ?_
   · refine ah (fun B1 F1 w1=>?_);refine aa.call tok rfl rfl rfl rfl n1 ?_;refine aa.nil ⟨rfl,?_⟩;exact qL (N4_1_1_0 V) (by kernel_rfl) rfl ⟨rfl,trivial⟩
   · refine ah (fun B1 F1 w1=>?_);refine qU 1 rfl ?_;refine aa.nil ⟨rfl,?_⟩;exact qL (N3_1_1_1 V) (by kernel_rfl) rfl ⟨rfl,trivial⟩
 refine ZH.meet 6 (qB 21 155647) (fun V=>[(V,AV.ow 52 (cH (aN zr ja nx ny w)))]) (fun V=>[(3,.bx [dS ln,ak lb,aj js,ai lds]),(5,.bx [dS jn,dI jk,dI ja,dI jp,dI jb,dI jo,dI jt]),(7,.bx [.sl 1 (v.map ae)]),(14,.d (ae nx)),(15,.d (ae ny)),(16,.d (ae w)),(70,.d (dI ja)),(71,.d (ae nx)),(72,.d (ae ny)),(73,.d (ae w)),(76,.d (dI jb)),(78,.d (ae nx)),(81,.d (ae ny)),(84,.d (ae w)),(67,.d (Lkg.D ⟨ln,lb,js,lds⟩)),(68,.d (.v V)),(74,.d (.v V)),(79,.d (ae (aH nx))),(77,.d (aL v))]) (fun V=>?_) (fun N4_1_0_0=>?_)
 · refine ZH.two 13 16 (by kernel_rfl) rfl rfl rfl rfl (fun _=>rfl) (fun _=>rfl) ⟨rfl,trivial⟩ ?_ ?_
   · refine ah (fun B1 F1 w1=>?_);refine qU 1 rfl ?_;refine aa.nil ⟨rfl,?_⟩;exact qL (N4_1_1_0 V) (by kernel_rfl) rfl ⟨rfl,trivial⟩
   · refine ah (fun B1 F1 w1=>?_);refine qU 1 rfl ?_;refine aa.nil ⟨rfl,?_⟩;exact qL (N4_1_0_1 V) (by kernel_rfl) rfl ⟨rfl,trivial⟩
 refine ZH.meet 7 (qB 21 225149) (fun V=>[]) (fun V=>[(3,.bx [dS ln,ak lb,aj js,ai lds]),(5,.bx [dS jn,dI jk,dI ja,dI jp,dI jb,dI jo,dI jt]),(7,.bx [.sl 1 (v.map ae)]),(14,.d (ae nx)),(15,.d (ae ny)),(16,.d (ae w)),(70,.d (dI ja)),(71,.d (ae nx)),(72,.d (ae ny)),(73,.d (ae w)),(76,.d (dI jb)),(78,.d (ae nx)),(81,.d (ae ny)),(84,.d (ae w)),(67,.d (Lkg.D ⟨ln,lb,js,lds⟩)),(77,.d (aL v)),(80,.d (aL v)),(83,.d (aL v))]) (fun V=>?_) (fun N1_1_1_1=>?_)
 · refine ZH.all 1 (by kernel_rfl) rfl rfl (fun _=>rfl) ⟨rfl,trivial⟩ ?_;refine an.a7 tok [] rfl rfl rfl rfl rfl List.nodup_nil rfl hrow (fun _ _ _=>Nat.zero_le _) (fun res R1 hP=>?_);obtain ⟨V,rfl,rfl⟩:=hP;refine an.nil ?_;exact qL (N2_1_1_1 V) (by kernel_rfl) rfl ⟨rfl,trivial⟩
 refine ZH.meet 7 (qB 21 224127) (fun V=>[(V,AV.ow 52 (cH zr))]) (fun V=>[(3,.bx [dS ln,ak lb,aj js,ai lds]),(5,.bx [dS jn,dI jk,dI ja,dI jp,dI jb,dI jo,dI jt]),(7,.bx [.sl 1 (v.map ae)]),(14,.d (ae nx)),(15,.d (ae ny)),(16,.d (ae w)),(70,.d (dI ja)),(71,.d (ae nx)),(72,.d (ae ny)),(73,.d (ae w)),(76,.d (dI jb)),(78,.d (ae nx)),(81,.d (ae ny)),(84,.d (ae w)),(67,.d (Lkg.D ⟨ln,lb,js,lds⟩)),(68,.d (.v V)),(80,.d (aL v)),(83,.d (aL v))]) (fun V=>?_) (fun N2_0_1_1=>?_)
 · refine ZH.two 7 10 (by kernel_rfl) rfl rfl rfl rfl (fun _=>rfl) (fun _=>rfl) ⟨rfl,trivial⟩ ?_ ?_
   · refine an.a7 tok [0] rfl rfl rfl rfl rfl (by simp) rfl (bf V zr ja nx ny w (hzl _ ja0.1 ja0.2) (by omega) (by omega)) (fun res R1 hP=>by rw[hP.2];exact Nat.le_refl _) (fun res R1 hP=>?_);obtain ⟨rfl,rfl⟩:=hP;refine an.nil ?_;exact qL (N3_0_1_1 V) (by kernel_rfl) rfl ⟨rfl,trivial⟩
   · refine ah (fun B1 F1 w1=>?_);refine qU 1 rfl ?_;refine aa.nil ⟨rfl,?_⟩;exact qL (N2_1_1_1 V) (by kernel_rfl) rfl ⟨rfl,trivial⟩
 refine ZH.meet 7 (qB 21 216959) (fun V=>[(V,AV.ow 52 (cH zr))]) (fun V=>[(3,.bx [dS ln,ak lb,aj js,ai lds]),(5,.bx [dS jn,dI jk,dI ja,dI jp,dI jb,dI jo,dI jt]),(7,.bx [.sl 1 (v.map ae)]),(14,.d (ae nx)),(15,.d (ae ny)),(16,.d (ae w)),(70,.d (dI ja)),(71,.d (ae nx)),(72,.d (ae ny)),(73,.d (ae w)),(76,.d (dI jb)),(78,.d (ae nx)),(81,.d (ae ny)),(84,.d (ae w)),(67,.d (Lkg.D ⟨ln,lb,js,lds⟩)),(68,.d (.v V)),(77,.d (aL v)),(83,.d (aL v))]) (fun V=>?_) (fun N2_1_0_1=>?_)
 · refine ZH.two 7 13 (by kernel_rfl) rfl rfl rfl rfl (fun _=>rfl) (fun _=>rfl) ⟨rfl,trivial⟩ ?_ ?_
   · refine an.a7 tok [0] rfl rfl rfl rfl rfl (by simp) rfl (bf V zr ja nx ny w (hzl _ ja0.1 ja0.2) (by omega) (by omega)) (fun res R1 hP=>by rw[hP.2];exact Nat.le_refl _) (fun res R1 hP=>?_);obtain ⟨rfl,rfl⟩:=hP;refine an.nil ?_;exact qL (N3_1_0_1 V) (by kernel_rfl) rfl ⟨rfl,trivial⟩
   · refine ah (fun B1 F1 w1=>?_);refine qU 1 rfl ?_;refine aa.nil ⟨rfl,?_⟩;exact qL (N2_1_1_1 V) (by kernel_rfl) rfl ⟨rfl,trivial⟩
 refine ZH.meet 7 (qB 21 159615) (fun V=>[(V,AV.ow 52 (cH zr))]) (fun V=>[(3,.bx [dS ln,ak lb,aj js,ai lds]),(5,.bx [dS jn,dI jk,dI ja,dI jp,dI jb,dI jo,dI jt]),(7,.bx [.sl 1 (v.map ae)]),(14,.d (ae nx)),(15,.d (ae ny)),(16,.d (ae w)),(70,.d (dI ja)),(71,.d (ae nx)),(72,.d (ae ny)),(73,.d (ae w)),(76,.d (dI jb)),(78,.d (ae nx)),(81,.d (ae ny)),(84,.d (ae w)),(67,.d (Lkg.D ⟨ln,lb,js,lds⟩)),(68,.d (.v V)),(77,.d (aL v)),(80,.d (aL v))]) (fun V=>?_) (fun N2_1_1_0=>?_)
 · refine ZH.two 7 16 (by kernel_rfl) rfl rfl rfl rfl (fun _=>rfl) (fun _=>rfl) ⟨rfl,trivial⟩ ?_ ?_
   · refine an.a7 tok [0] rfl rfl rfl rfl rfl (by simp) rfl (bf V zr ja nx ny w (hzl _ ja0.1 ja0.2) (by omega) (by omega)) (fun res R1 hP=>by rw[hP.2];exact Nat.le_refl _) (fun res R1 hP=>?_);obtain ⟨rfl,rfl⟩:=hP;refine an.nil ?_;exact qL (N3_1_1_0 V) (by kernel_rfl) rfl ⟨rfl,trivial⟩
   · refine ah (fun B1 F1 w1=>?_);refine qU 1 rfl ?_;refine aa.nil ⟨rfl,?_⟩;exact qL (N2_1_1_1 V) (by kernel_rfl) rfl ⟨rfl,trivial⟩
 refine ZH.meet 7 (qB 21 216063) (fun V=>[(V,AV.ow 52 (cH (aN zr ja nx ny w)))]) (fun V=>[(3,.bx [dS ln,ak lb,aj js,ai lds]),(5,.bx [dS jn,dI jk,dI ja,dI jp,dI jb,dI jo,dI jt]),(7,.bx [.sl 1 (v.map ae)]),(14,.d (ae nx)),(15,.d (ae ny)),(16,.d (ae w)),(70,.d (dI ja)),(71,.d (ae nx)),(72,.d (ae ny)),(73,.d (ae w)),(76,.d (dI jb)),(78,.d (ae nx)),(81,.d (ae ny)),(84,.d (ae w)),(67,.d (Lkg.D ⟨ln,lb,js,lds⟩)),(68,.d (.v V)),(74,.d (.v V)),(83,.d (aL v))]) (fun V=>?_) (fun N3_0_0_1=>?_)
 · refine ZH.two 10 13 (by kernel_rfl) rfl rfl rfl rfl (fun _=>rfl) (fun _=>rfl) ⟨rfl,trivial⟩ ?_ ?_
   · refine ah (fun B1 F1 w1=>?_);refine qU 1 rfl ?_;refine aa.nil ⟨rfl,?_⟩;exact qL (N3_1_0_1 V) (by kernel_rfl) rfl ⟨rfl,trivial⟩
   · refine ah (fun B1 F1 w1=>?_);refine qU 1 rfl ?_;refine aa.nil ⟨rfl,?_⟩;exact qL (N3_0_1_1 V) (by kernel_rfl) rfl ⟨rfl,trivial⟩
 refine ZH.meet 7 (qB 21 158719) (fun V=>[(V,AV.ow 52 (cH (aN zr ja nx ny w)))]) (fun V=>[(3,.bx [dS ln,ak lb,aj js,ai lds]),(5,.bx [dS jn,dI jk,dI ja,dI jp,dI jb,dI jo,dI jt]),(7,.bx [.sl 1 (v.map ae)]),(14,.d (ae nx)),(15,.d (ae ny)),(16,.d (ae w)),(70,.d (dI ja)),(71,.d (ae nx)),(72,.d (ae ny)),(73,.d (ae w)),(76,.d (dI jb)),(78,.d (ae nx)),(81,.d (ae ny)),(84,.d (ae w)),(67,.d (Lkg.D ⟨ln,lb,js,lds⟩)),(68,.d (.v V)),(74,.d (.v V)),(80,.d (aL v))]) (fun V=>?_) (fun N3_0_1_0=>?_)
 · refine ZH.two 10 16 (by kernel_rfl) rfl rfl rfl rfl (fun _=>rfl) (fun _=>rfl) ⟨rfl,trivial⟩ ?_ ?_
   · refine ah (fun B1 F1 w1=>?_);refine qU 1 rfl ?_;refine aa.nil ⟨rfl,?_⟩;exact qL (N3_1_1_0 V) (by kernel_rfl) rfl ⟨rfl,trivial⟩
   · refine ah (fun B1 F1 w1=>?_);refine qU 1 rfl ?_;refine aa.nil ⟨rfl,?_⟩;exact qL (N3_0_1_1 V) (by kernel_rfl) rfl ⟨rfl,trivial⟩
 refine ZH.meet 7 (qB 21 151551) (fun V=>[(V,AV.ow 52 (cH (aN zr ja nx ny w)))]) (fun V=>[(3,.bx [dS ln,ak lb,aj js,ai lds]),(5,.bx [dS jn,dI jk,dI ja,dI jp,dI jb,dI jo,dI jt]),(7,.bx [.sl 1 (v.map ae)]),(14,.d (ae nx)),(15,.d (ae ny)),(16,.d (ae w)),(70,.d (dI ja)),(71,.d (ae nx)),(72,.d (ae ny)),(73,.d (ae w)),(76,.d (dI jb)),(78,.d (ae nx)),(81,.d (ae ny)),(84,.d (ae w)),(67,.d (Lkg.D ⟨ln,lb,js,lds⟩)),(68,.d (.v V)),(74,.d (.v V)),(77,.d (aL v))]) (fun V=>?_) (fun N3_1_0_0=>?_)
 · refine ZH.three 12 13 16 (by kernel_rfl) rfl rfl rfl rfl rfl rfl (fun _=>rfl) (fun _=>rfl) (fun _=>rfl) ⟨rfl,trivial⟩ ?_ ?_ ?_
   · refine ah (fun B1 F1 w1=>?_);refine aa.call tok rfl rfl rfl rfl n1 ?_;refine aa.nil ⟨rfl,?_⟩;exact qL (N4_1_0_0 V) (by kernel_rfl) rfl ⟨rfl,trivial⟩
   · refine ah (fun B1 F1 w1=>?_);refine qU 1 rfl ?_;refine aa.nil ⟨rfl,?_⟩;exact qL (N3_1_1_0 V) (by kernel_rfl) rfl ⟨rfl,trivial⟩
   · refine ah (fun B1 F1 w1=>?_);refine qU 1 rfl ?_;refine aa.nil ⟨rfl,?_⟩;exact qL (N3_1_0_1 V) (by kernel_rfl) rfl ⟨rfl,trivial⟩
 refine ZH.meet 8 (qB 21 225148) (fun V=>[]) (fun V=>[(3,.bx [dS ln,ak lb,aj js,ai lds]),(5,.bx [dS jn,dI jk,dI ja,dI jp,dI jb,dI jo,dI jt]),(7,.bx [.sl 1 (v.map ae)]),(14,.d (ae nx)),(15,.d (ae ny)),(16,.d (ae w)),(70,.d (dI ja)),(71,.d (ae nx)),(72,.d (ae ny)),(73,.d (ae w)),(76,.d (dI jb)),(78,.d (ae nx)),(81,.d (ae ny)),(84,.d (ae w)),(77,.d (aL v)),(80,.d (aL v)),(83,.d (aL v))]) (fun V=>?_) (fun N0_1_1_1=>?_)
 · refine ZH.all 0 (by kernel_rfl) rfl rfl (fun _=>rfl) ⟨rfl,trivial⟩ ?_;refine ah (fun B1 F1 w1=>?_);refine qU 1 rfl ?_;refine aa.nil ⟨rfl,?_⟩;exact qL (N1_1_1_1 V) (by kernel_rfl) rfl ⟨rfl,trivial⟩
 refine ZH.meet 8 (qB 21 224125) (fun V=>[]) (fun V=>[(3,.bx [dS ln,ak lb,aj js,ai lds]),(5,.bx [dS jn,dI jk,dI ja,dI jp,dI jb,dI jo,dI jt]),(7,.bx [.sl 1 (v.map ae)]),(14,.d (ae nx)),(15,.d (ae ny)),(16,.d (ae w)),(70,.d (dI ja)),(71,.d (ae nx)),(72,.d (ae ny)),(73,.d (ae w)),(76,.d (dI jb)),(78,.d (ae nx)),(81,.d (ae ny)),(84,.d (ae w)),(67,.d (Lkg.D ⟨ln,lb,js,lds⟩)),(80,.d (aL v)),(83,.d (aL v))]) (fun V=>?_) (fun N1_0_1_1=>?_)
 · refine ZH.two 1 10 (by kernel_rfl) rfl rfl rfl rfl (fun _=>rfl) (fun _=>rfl) ⟨rfl,trivial⟩ ?_ ?_
   · refine an.a7 tok [] rfl rfl rfl rfl rfl List.nodup_nil rfl hrow (fun _ _ _=>Nat.zero_le _) (fun res R1 hP=>?_);obtain ⟨V,rfl,rfl⟩:=hP;refine an.nil ?_;exact qL (N2_0_1_1 V) (by kernel_rfl) rfl ⟨rfl,trivial⟩
   · refine ah (fun B1 F1 w1=>?_);refine qU 1 rfl ?_;refine aa.nil ⟨rfl,?_⟩;exact qL (N1_1_1_1 V) (by kernel_rfl) rfl ⟨rfl,trivial⟩
 refine ZH.meet 8 (qB 21 216957) (fun V=>[]) (fun V=>[(3,.bx [dS ln,ak lb,aj js,ai lds]),(5,.bx [dS jn,dI jk,dI ja,dI jp,dI jb,dI jo,dI jt]),(7,.bx [.sl 1 (v.map ae)]),(14,.d (ae nx)),(15,.d (ae ny)),(16,.d (ae w)),(70,.d (dI ja)),(71,.d (ae nx)),(72,.d (ae ny)),(73,.d (ae w)),(76,.d (dI jb)),(78,.d (ae nx)),(81,.d (ae ny)),(84,.d (ae w)),(67,.d (Lkg.D ⟨ln,lb,js,lds⟩)),(77,.d (aL v)),(83,.d (aL v))]) (fun V=>?_) (fun N1_1_0_1=>?_)
 · refine ZH.two 1 13 (by kernel_rfl) rfl rfl rfl rfl (fun _=>rfl) (fun _=>rfl) ⟨rfl,trivial⟩ ?_ ?_
   · refine an.a7 tok [] rfl rfl rfl rfl rfl List.nodup_nil rfl hrow (fun _ _ _=>Nat.zero_le _) (fun res R1 hP=>?_);obtain ⟨V,rfl,rfl⟩:=hP;refine an.nil ?_;exact qL (N2_1_0_1 V) (by kernel_rfl) rfl ⟨rfl,trivial⟩
   · refine ah (fun B1 F1 w1=>?_);refine qU 1 rfl ?_;refine aa.nil ⟨rfl,?_⟩;exact qL (N1_1_1_1 V) (by kernel_rfl) rfl ⟨rfl,trivial⟩
 refine ZH.meet 8 (qB 21 159613) (fun V=>[]) (fun V=>[(3,.bx [dS ln,ak lb,aj js,ai lds]),(5,.bx [dS jn,dI jk,dI ja,dI jp,dI jb,dI jo,dI jt]),(7,.bx [.sl 1 (v.map ae)]),(14,.d (ae nx)),(15,.d (ae ny)),(16,.d (ae w)),(70,.d (dI ja)),(71,.d (ae nx)),(72,.d (ae ny)),(73,.d (ae w)),(76,.d (dI jb)),(78,.d (ae nx)),(81,.d (ae ny)),(84,.d (ae w)),(67,.d (Lkg.D ⟨ln,lb,js,lds⟩)),(77,.d (aL v)),(80,.d (aL v))]) (fun V=>?_) (fun N1_1_1_0=>?_)
 · refine ZH.two 1 16 (by kernel_rfl) rfl rfl rfl rfl (fun _=>rfl) (fun _=>rfl) ⟨rfl,trivial⟩ ?_ ?_
   · refine an.a7 tok [] rfl rfl rfl rfl rfl List.nodup_nil rfl hrow (fun _ _ _=>Nat.zero_le _) (fun res R1 hP=>?_);obtain ⟨V,rfl,rfl⟩:=hP;refine an.nil ?_;exact qL (N2_1_1_0 V) (by kernel_rfl) rfl ⟨rfl,trivial⟩
   · refine ah (fun B1 F1 w1=>?_);refine qU 1 rfl ?_;refine aa.nil ⟨rfl,?_⟩;exact qL (N1_1_1_1 V) (by kernel_rfl) rfl ⟨rfl,trivial⟩
 refine ZH.meet 8 (qB 21 215935) (fun V=>[(V,AV.ow 52 (cH zr))]) (fun V=>[(3,.bx [dS ln,ak lb,aj js,ai lds]),(5,.bx [dS jn,dI jk,dI ja,dI jp,dI jb,dI jo,dI jt]),(7,.bx [.sl 1 (v.map ae)]),(14,.d (ae nx)),(15,.d (ae ny)),(16,.d (ae w)),(70,.d (dI ja)),(71,.d (ae nx)),(72,.d (ae ny)),(73,.d (ae w)),(76,.d (dI jb)),(78,.d (ae nx)),(81,.d (ae ny)),(84,.d (ae w)),(67,.d (Lkg.D ⟨ln,lb,js,lds⟩)),(68,.d (.v V)),(83,.d (aL v))]) (fun V=>?_) (fun N2_0_0_1=>?_)
 · refine ZH.three 7 10 13 (by kernel_rfl) rfl rfl rfl rfl rfl rfl (fun _=>rfl) (fun _=>rfl) (fun _=>rfl) ⟨rfl,trivial⟩ ?_ ?_ ?_
   · refine an.a7 tok [0] rfl rfl rfl rfl rfl (by simp) rfl (bf V zr ja nx ny w (hzl _ ja0.1 ja0.2) (by omega) (by omega)) (fun res R1 hP=>by rw[hP.2];exact Nat.le_refl _) (fun res R1 hP=>?_);obtain ⟨rfl,rfl⟩:=hP;refine an.nil ?_;exact qL (N3_0_0_1 V) (by kernel_rfl) rfl ⟨rfl,trivial⟩
   · refine ah (fun B1 F1 w1=>?_);refine qU 1 rfl ?_;refine aa.nil ⟨rfl,?_⟩;exact qL (N2_1_0_1 V) (by kernel_rfl) rfl ⟨rfl,trivial⟩
   · refine ah (fun B1 F1 w1=>?_);refine qU 1 rfl ?_;refine aa.nil ⟨rfl,?_⟩;exact qL (N2_0_1_1 V) (by kernel_rfl) rfl ⟨rfl,trivial⟩
 refine ZH.meet 8 (qB 21 158591) (fun V=>[(V,AV.ow 52 (cH zr))]) (fun V=>[(3,.bx [dS ln,ak lb,aj js,ai lds]),(5,.bx [dS jn,dI jk,dI ja,dI jp,dI jb,dI jo,dI jt]),(7,.bx [.sl 1 (v.map ae)]),(14,.d (ae nx)),(15,.d (ae ny)),(16,.d (ae w)),(70,.d (dI ja)),(71,.d (ae nx)),(72,.d (ae ny)),(73,.d (ae w)),(76,.d (dI jb)),(78,.d (ae nx)),(81,.d (ae ny)),(84,.d (ae w)),(67,.d (Lkg.D ⟨ln,lb,js,lds⟩)),(68,.d (.v V)),(80,.d (aL v))]) (fun V=>?_) (fun N2_0_1_0=>?_)
 · refine ZH.three 7 10 16 (by kernel_rfl) rfl rfl rfl rfl rfl rfl (fun _=>rfl) (fun _=>rfl) (fun _=>rfl) ⟨rfl,trivial⟩ ?_ ?_ ?_
   · refine an.a7 tok [0] rfl rfl rfl rfl rfl (by simp) rfl (bf V zr ja nx ny w (hzl _ ja0.1 ja0.2) (by omega) (by omega)) (fun res R1 hP=>by rw[hP.2];exact Nat.le_refl _) (fun res R1 hP=>?_);obtain ⟨rfl,rfl⟩:=hP;refine an.nil ?_;exact qL (N3_0_1_0 V) (by kernel_rfl) rfl ⟨rfl,trivial⟩
   · refine ah (fun B1 F1 w1=>?_);refine qU 1 rfl ?_;refine aa.nil ⟨rfl,?_⟩;exact qL (N2_1_1_0 V) (by kernel_rfl) rfl ⟨rfl,trivial⟩
   · refine ah (fun B1 F1 w1=>?_);refine qU 1 rfl ?_;refine aa.nil ⟨rfl,?_⟩;exact qL (N2_0_1_1 V) (by kernel_rfl) rfl ⟨rfl,trivial⟩
 refine ZH.meet 8 (qB 21 151423) (fun V=>[(V,AV.ow 52 (cH zr))]) (fun V=>[(3,.bx [dS ln,ak lb,aj js,ai lds]),(5,.bx [dS jn,dI jk,dI ja,dI jp,dI jb,dI jo,dI jt]),(7,.bx [.sl 1 (v.map ae)]),(14,.d (ae nx)),(15,.d (ae ny)),(16,.d (ae w)),(70,.d (dI ja)),(71,.d (ae nx)),(72,.d (ae ny)),(73,.d (ae w)),(76,.d (dI jb)),(78,.d (ae nx)),(81,.d (ae ny)),(84,.d (ae w)),(67,.d (Lkg.D ⟨ln,lb,js,lds⟩)),(68,.d (.v V)),(77,.d (aL v))]) (fun V=>?_) (fun N2_1_0_0=>?_)
 · refine ZH.three 7 13 16 (by kernel_rfl) rfl rfl rfl rfl rfl rfl (fun _=>rfl) (fun _=>rfl) (fun _=>rfl) ⟨rfl,trivial⟩ ?_ ?_ ?_
   · refine an.a7 tok [0] rfl rfl rfl rfl rfl (by simp) rfl (bf V zr ja nx ny w (hzl _ ja0.1 ja0.2) (by omega) (by omega)) (fun res R1 hP=>by rw[hP.2];exact Nat.le_refl _) (fun res R1 hP=>?_);obtain ⟨rfl,rfl⟩:=hP;refine an.nil ?_;exact qL (N3_1_0_0 V) (by kernel_rfl) rfl ⟨rfl,trivial⟩
   · refine ah (fun B1 F1 w1=>?_);refine qU 1 rfl ?_;refine aa.nil ⟨rfl,?_⟩;exact qL (N2_1_1_0 V) (by kernel_rfl) rfl ⟨rfl,trivial⟩
   · refine ah (fun B1 F1 w1=>?_);refine qU 1 rfl ?_;refine aa.nil ⟨rfl,?_⟩;exact qL (N2_1_0_1 V) (by kernel_rfl) rfl ⟨rfl,trivial⟩
 refine ZH.meet 8 (qB 21 150527) (fun V=>[(V,AV.ow 52 (cH (aN zr ja nx ny w)))]) (fun V=>[(3,.bx [dS ln,ak lb,aj js,ai lds]),(5,.bx [dS jn,dI jk,dI ja,dI jp,dI jb,dI jo,dI jt]),(7,.bx [.sl 1 (v.map ae)]),(14,.d (ae nx)),(15,.d (ae ny)),(16,.d (ae w)),(70,.d (dI ja)),(71,.d (ae nx)),(72,.d (ae ny)),(73,.d (ae w)),(76,.d (dI jb)),(78,.d (ae nx)),(81,.d (ae ny)),(84,.d (ae w)),(67,.d (Lkg.D ⟨ln,lb,js,lds⟩)),(68,.d (.v V)),(74,.d (.v V))]) (fun V=>?_) (fun N3_0_0_0=>?_)
 · refine ZH.three 10 13 16 (by kernel_rfl) rfl rfl rfl rfl rfl rfl (fun _=>rfl) (fun _=>rfl) (fun _=>rfl) ⟨rfl,trivial⟩ ?_ ?_ ?_
   · refine ah (fun B1 F1 w1=>?_);refine qU 1 rfl ?_;refine aa.nil ⟨rfl,?_⟩;exact qL (N3_1_0_0 V) (by kernel_rfl) rfl ⟨rfl,trivial⟩
   · refine ah (fun B1 F1 w1=>?_);refine qU 1 rfl ?_;refine aa.nil ⟨rfl,?_⟩;exact qL (N3_0_1_0 V) (by kernel_rfl) rfl ⟨rfl,trivial⟩
   · refine ah (fun B1 F1 w1=>?_);refine qU 1 rfl ?_;refine aa.nil ⟨rfl,?_⟩;exact qL (N3_0_0_1 V) (by kernel_rfl) rfl ⟨rfl,trivial⟩
 refine ZH.meet 9 (qB 21 224124) (fun V=>[]) (fun V=>[(3,.bx [dS ln,ak lb,aj js,ai lds]),(5,.bx [dS jn,dI jk,dI ja,dI jp,dI jb,dI jo,dI jt]),(7,.bx [.sl 1 (v.map ae)]),(14,.d (ae nx)),(15,.d (ae ny)),(16,.d (ae w)),(70,.d (dI ja)),(71,.d (ae nx)),(72,.d (ae ny)),(73,.d (ae w)),(76,.d (dI jb)),(78,.d (ae nx)),(81,.d (ae ny)),(84,.d (ae w)),(80,.d (aL v)),(83,.d (aL v))]) (fun V=>?_) (fun N0_0_1_1=>?_)
 · refine ZH.two 0 10 (by kernel_rfl) rfl rfl rfl rfl (fun _=>rfl) (fun _=>rfl) ⟨rfl,trivial⟩ ?_ ?_
   · refine ah (fun B1 F1 w1=>?_);refine qU 1 rfl ?_;refine aa.nil ⟨rfl,?_⟩;exact qL (N1_0_1_1 V) (by kernel_rfl) rfl ⟨rfl,trivial⟩
   · refine ah (fun B1 F1 w1=>?_);refine qU 1 rfl ?_;refine aa.nil ⟨rfl,?_⟩;exact qL (N0_1_1_1 V) (by kernel_rfl) rfl ⟨rfl,trivial⟩
 refine ZH.meet 9 (qB 21 216956) (fun V=>[]) (fun V=>[(3,.bx [dS ln,ak lb,aj js,ai lds]),(5,.bx [dS jn,dI jk,dI ja,dI jp,dI jb,dI jo,dI jt]),(7,.bx [.sl 1 (v.map ae)]),(14,.d (ae nx)),(15,.d (ae ny)),(16,.d (ae w)),(70,.d (dI ja)),(71,.d (ae nx)),(72,.d (ae ny)),(73,.d (ae w)),(76,.d (dI jb)),(78,.d (ae nx)),(81,.d (ae ny)),(84,.d (ae w)),(77,.d (aL v)),(83,.d (aL v))]) (fun V=>?_) (fun N0_1_0_1=>?_)
 · refine ZH.two 0 13 (by kernel_rfl) rfl rfl rfl rfl (fun _=>rfl) (fun _=>rfl) ⟨rfl,trivial⟩ ?_ ?_
   · refine ah (fun B1 F1 w1=>?_);refine qU 1 rfl ?_;refine aa.nil ⟨rfl,?_⟩;exact qL (N1_1_0_1 V) (by kernel_rfl) rfl ⟨rfl,trivial⟩
   · refine ah (fun B1 F1 w1=>?_);refine qU 1 rfl ?_;refine aa.nil ⟨rfl,?_⟩;exact qL (N0_1_1_1 V) (by kernel_rfl) rfl ⟨rfl,trivial⟩
 refine ZH.meet 9 (qB 21 159612) (fun V=>[]) (fun V=>[(3,.bx [dS ln,ak lb,aj js,ai lds]),(5,.bx [dS jn,dI jk,dI ja,dI jp,dI jb,dI jo,dI jt]),(7,.bx [.sl 1 (v.map ae)]),(14,.d (ae nx)),(15,.d (ae ny)),(16,.d (ae w)),(70,.d (dI ja)),(71,.d (ae nx)),(72,.d (ae ny)),(73,.d (ae w)),(76,.d (dI jb)),(78,.d (ae nx)),(81,.d (ae ny)),(84,.d (ae w)),(77,.d (aL v)),(80,.d (aL v))]) (fun V=>?_) (fun N0_1_1_0=>?_)
 · refine ZH.two 0 16 (by kernel_rfl) rfl rfl rfl rfl (fun _=>rfl) (fun _=>rfl) ⟨rfl,trivial⟩ ?_ ?_
   · refine ah (fun B1 F1 w1=>?_);refine qU 1 rfl ?_;refine aa.nil ⟨rfl,?_⟩;exact qL (N1_1_1_0 V) (by kernel_rfl) rfl ⟨rfl,trivial⟩
   · refine ah (fun B1 F1 w1=>?_);refine qU 1 rfl ?_;refine aa.nil ⟨rfl,?_⟩;exact qL (N0_1_1_1 V) (by kernel_rfl) rfl ⟨rfl,trivial⟩
 refine ZH.meet 9 (qB 21 215933) (fun V=>[]) (fun V=>[(3,.bx [dS ln,ak lb,aj js,ai lds]),(5,.bx [dS jn,dI jk,dI ja,dI jp,dI jb,dI jo,dI jt]),(7,.bx [.sl 1 (v.map ae)]),(14,.d (ae nx)),(15,.d (ae ny)),(16,.d (ae w)),(70,.d (dI ja)),(71,.d (ae nx)),(72,.d (ae ny)),(73,.d (ae w)),(76,.d (dI jb)),(78,.d (ae nx)),(81,.d (ae ny)),(84,.d (ae w)),(67,.d (Lkg.D ⟨ln,lb,js,lds⟩)),(83,.d (aL v))]) (fun V=>?_) (fun N1_0_0_1=>?_)
 · refine ZH.three 1 10 13 (by kernel_rfl) rfl rfl rfl rfl rfl rfl (fun _=>rfl) (fun _=>rfl) (fun _=>rfl) ⟨rfl,trivial⟩ ?_ ?_ ?_
   · refine an.a7 tok [] rfl rfl rfl rfl rfl List.nodup_nil rfl hrow (fun _ _ _=>Nat.zero_le _) (fun res R1 hP=>?_);obtain ⟨V,rfl,rfl⟩:=hP;refine an.nil ?_;exact qL (N2_0_0_1 V) (by kernel_rfl) rfl ⟨rfl,trivial⟩
   · refine ah (fun B1 F1 w1=>?_);refine qU 1 rfl ?_;refine aa.nil ⟨rfl,?_⟩;exact qL (N1_1_0_1 V) (by kernel_rfl) rfl ⟨rfl,trivial⟩
   · refine ah (fun B1 F1 w1=>?_);refine qU 1 rfl ?_;refine aa.nil ⟨rfl,?_⟩;exact qL (N1_0_1_1 V) (by kernel_rfl) rfl ⟨rfl,trivial⟩
 refine ZH.meet 9 (qB 21 158589) (fun V=>[]) (fun V=>[(3,.bx [dS ln,ak lb,aj js,ai lds]),(5,.bx [dS jn,dI jk,dI ja,dI jp,dI jb,dI jo,dI jt]),(7,.bx [.sl 1 (v.map ae)]),(14,.d (ae nx)),(15,.d (ae ny)),(16,.d (ae w)),(70,.d (dI ja)),(71,.d (ae nx)),(72,.d (ae ny)),(73,.d (ae w)),(76,.d (dI jb)),(78,.d (ae nx)),(81,.d (ae ny)),(84,.d (ae w)),(67,.d (Lkg.D ⟨ln,lb,js,lds⟩)),(80,.d (aL v))]) (fun V=>?_) (fun N1_0_1_0=>?_)
 · refine ZH.three 1 10 16 (by kernel_rfl) rfl rfl rfl rfl rfl rfl (fun _=>rfl) (fun _=>rfl) (fun _=>rfl) ⟨rfl,trivial⟩ ?_ ?_ ?_
   · refine an.a7 tok [] rfl rfl rfl rfl rfl List.nodup_nil rfl hrow (fun _ _ _=>Nat.zero_le _) (fun res R1 hP=>?_);obtain ⟨V,rfl,rfl⟩:=hP;refine an.nil ?_;exact qL (N2_0_1_0 V) (by kernel_rfl) rfl ⟨rfl,trivial⟩
   · refine ah (fun B1 F1 w1=>?_);refine qU 1 rfl ?_;refine aa.nil ⟨rfl,?_⟩;exact qL (N1_1_1_0 V) (by kernel_rfl) rfl ⟨rfl,trivial⟩
   · refine ah (fun B1 F1 w1=>?_);refine qU 1 rfl ?_;refine aa.nil ⟨rfl,?_⟩;exact qL (N1_0_1_1 V) (by kernel_rfl) rfl ⟨rfl,trivial⟩
 refine ZH.meet 9 (qB 21 151421) (fun V=>[]) (fun V=>[(3,.bx [dS ln,ak lb,aj js,ai lds]),(5,.bx [dS jn,dI jk,dI ja,dI jp,dI jb,dI jo,dI jt]),(7,.bx [.sl 1 (v.map ae)]),(14,.d (ae nx)),(15,.d (ae ny)),(16,.d (ae w)),(70,.d (dI ja)),(71,.d (ae nx)),(72,.d (ae ny)),(73,.d (ae w)),(76,.d (dI jb)),(78,.d (ae nx)),(81,.d (ae ny)),(84,.d (ae w)),(67,.d (Lkg.D ⟨ln,lb,js,lds⟩)),(77,.d (aL v))]) (fun V=>?_) (fun N1_1_0_0=>?_)
 · refine ZH.three 1 13 16 (by kernel_rfl) rfl rfl rfl rfl rfl rfl (fun _=>rfl) (fun _=>rfl) (fun _=>rfl) ⟨rfl,trivial⟩ ?_ ?_ ?_
   · refine an.a7 tok [] rfl rfl rfl rfl rfl List.nodup_nil rfl hrow (fun _ _ _=>Nat.zero_le _) (fun res R1 hP=>?_);obtain ⟨V,rfl,rfl⟩:=hP;refine an.nil ?_;exact qL (N2_1_0_0 V) (by kernel_rfl) rfl ⟨rfl,trivial⟩
   · refine ah (fun B1 F1 w1=>?_);refine qU 1 rfl ?_;refine aa.nil ⟨rfl,?_⟩;exact qL (N1_1_1_0 V) (by kernel_rfl) rfl ⟨rfl,trivial⟩
   · refine ah (fun B1 F1 w1=>?_);refine qU 1 rfl ?_;refine aa.nil ⟨rfl,?_⟩;exact qL (N1_1_0_1 V) (by kernel_rfl) rfl ⟨rfl,trivial⟩
 refine ZH.meet 9 (qB 21 150399) (fun V=>[(V,AV.ow 52 (cH zr))]) (fun V=>[(3,.bx [dS ln,ak lb,aj js,ai lds]),(5,.bx [dS jn,dI jk,dI ja,dI jp,dI jb,dI jo,dI jt]),(7,.bx [.sl 1 (v.map ae)]),(14,.d (ae nx)),(15,.d (ae ny)),(16,.d (ae w)),(70,.d (dI ja)),(71,.d (ae nx)),(72,.d (ae ny)),(73,.d (ae w)),(76,.d (dI jb)),(78,.d (ae nx)),(81,.d (ae ny)),(84,.d (ae w)),(67,.d (Lkg.D ⟨ln,lb,js,lds⟩)),(68,.d (.v V))]) (fun V=>?_) (fun N2_0_0_0=>?_)
 · refine ZH.four 7 10 13 16 (by kernel_rfl) rfl rfl rfl rfl rfl rfl rfl rfl (fun _=>rfl) (fun _=>rfl) (fun _=>rfl) (fun _=>rfl) ⟨rfl,trivial⟩ ?_ ?_ ?_ ?_
   · refine an.a7 tok [0] rfl rfl rfl rfl rfl (by simp) rfl (bf V zr ja nx ny w (hzl _ ja0.1 ja0.2) (by omega) (by omega)) (fun res R1 hP=>by rw[hP.2];exact Nat.le_refl _) (fun res R1 hP=>?_);obtain ⟨rfl,rfl⟩:=hP;refine an.nil ?_;exact qL (N3_0_0_0 V) (by kernel_rfl) rfl ⟨rfl,trivial⟩
   · refine ah (fun B1 F1 w1=>?_);refine qU 1 rfl ?_;refine aa.nil ⟨rfl,?_⟩;exact qL (N2_1_0_0 V) (by kernel_rfl) rfl ⟨rfl,trivial⟩
   · refine ah (fun B1 F1 w1=>?_);refine qU 1 rfl ?_;refine aa.nil ⟨rfl,?_⟩;exact qL (N2_0_1_0 V) (by kernel_rfl) rfl ⟨rfl,trivial⟩
   · refine ah (fun B1 F1 w1=>?_);refine qU 1 rfl ?_;refine aa.nil ⟨rfl,?_⟩;exact qL (N2_0_0_1 V) (by kernel_rfl) rfl ⟨rfl,trivial⟩
 refine ZH.meet 10 (qB 21 215932) (fun V=>[]) (fun V=>[(3,.bx [dS ln,ak lb,aj js,ai lds]),(5,.bx [dS jn,dI jk,dI ja,dI jp,dI jb,dI jo,dI jt]),(7,.bx [.sl 1 (v.map ae)]),(14,.d (ae nx)),(15,.d (ae ny)),(16,.d (ae w)),(70,.d (dI ja)),(71,.d (ae nx)),(72,.d (ae ny)),(73,.d (ae w)),(76,.d (dI jb)),(78,.d (ae nx)),(81,.d (ae ny)),(84,.d (ae w)),(83,.d (aL v))]) (fun V=>?_) (fun N0_0_0_1=>?_)
 · refine ZH.three 0 10 13 (by kernel_rfl) rfl rfl rfl rfl rfl rfl (fun _=>rfl) (fun _=>rfl) (fun _=>rfl) ⟨rfl,trivial⟩ ?_ ?_ ?_
   · refine ah (fun B1 F1 w1=>?_);refine qU 1 rfl ?_;refine aa.nil ⟨rfl,?_⟩;exact qL (N1_0_0_1 V) (by kernel_rfl) rfl ⟨rfl,trivial⟩
   · refine ah (fun B1 F1 w1=>?_);refine qU 1 rfl ?_;refine aa.nil ⟨rfl,?_⟩;exact qL (N0_1_0_1 V) (by kernel_rfl) rfl ⟨rfl,trivial⟩
   · refine ah (fun B1 F1 w1=>?_);refine qU 1 rfl ?_;refine aa.nil ⟨rfl,?_⟩;exact qL (N0_0_1_1 V) (by kernel_rfl) rfl ⟨rfl,trivial⟩
 refine ZH.meet 10 (qB 21 158588) (fun V=>[]) (fun V=>[(3,.bx [dS ln,ak lb,aj js,ai lds]),(5,.bx [dS jn,dI jk,dI ja,dI jp,dI jb,dI jo,dI jt]),(7,.bx [.sl 1 (v.map ae)]),(14,.d (ae nx)),(15,.d (ae ny)),(16,.d (ae w)),(70,.d (dI ja)),(71,.d (ae nx)),(72,.d (ae ny)),(73,.d (ae w)),(76,.d (dI jb)),(78,.d (ae nx)),(81,.d (ae ny)),(84,.d (ae w)),(80,.d (aL v))]) (fun V=>?_) (fun N0_0_1_0=>?_)
 · refine ZH.three 0 10 16 (by kernel_rfl) rfl rfl rfl rfl rfl rfl (fun _=>rfl) (fun _=>rfl) (fun _=>rfl) ⟨rfl,trivial⟩ ?_ ?_ ?_
   · refine ah (fun B1 F1 w1=>?_);refine qU 1 rfl ?_;refine aa.nil ⟨rfl,?_⟩;exact qL (N1_0_1_0 V) (by kernel_rfl) rfl ⟨rfl,trivial⟩
   · refine ah (fun B1 F1 w1=>?_);refine qU 1 rfl ?_;refine aa.nil ⟨rfl,?_⟩;exact qL (N0_1_1_0 V) (by kernel_rfl) rfl ⟨rfl,trivial⟩
   · refine ah (fun B1 F1 w1=>?_);refine qU 1 rfl ?_;refine aa.nil ⟨rfl,?_⟩;exact qL (N0_0_1_1 V) (by kernel_rfl) rfl ⟨rfl,trivial⟩
 refine ZH.meet 10 (qB 21 151420) (fun V=>[]) (fun V=>[(3,.bx [dS ln,ak lb,aj js,ai lds]),(5,.bx [dS jn,dI jk,dI ja,dI jp,dI jb,dI jo,dI jt]),(7,.bx [.sl 1 (v.map ae)]),(14,.d (ae nx)),(15,.d (ae ny)),(16,.d (ae w)),(70,.d (dI ja)),(71,.d (ae nx)),(72,.d (ae ny)),(73,.d (ae w)),(76,.d (dI jb)),(78,.d (ae nx)),(81,.d (ae ny)),(84,.d (ae w)),(77,.d (aL v))]) (fun V=>?_) (fun N0_1_0_0=>?_)
 · refine ZH.three 0 13 16 (by kernel_rfl) rfl rfl rfl rfl rfl rfl (fun _=>rfl) (fun _=>rfl) (fun _=>rfl) ⟨rfl,trivial⟩ ?_ ?_ ?_
   · refine ah (fun B1 F1 w1=>?_);refine qU 1 rfl ?_;refine aa.nil ⟨rfl,?_⟩;exact qL (N1_1_0_0 V) (by kernel_rfl) rfl ⟨rfl,trivial⟩
   · refine ah (fun B1 F1 w1=>?_);refine qU 1 rfl ?_;refine aa.nil ⟨rfl,?_⟩;exact qL (N0_1_1_0 V) (by kernel_rfl) rfl ⟨rfl,trivial⟩
   · refine ah (fun B1 F1 w1=>?_);refine qU 1 rfl ?_;refine aa.nil ⟨rfl,?_⟩;exact qL (N0_1_0_1 V) (by kernel_rfl) rfl ⟨rfl,trivial⟩
 refine ZH.meet 10 (qB 21 150397) (fun V=>[]) (fun V=>[(3,.bx [dS ln,ak lb,aj js,ai lds]),(5,.bx [dS jn,dI jk,dI ja,dI jp,dI jb,dI jo,dI jt]),(7,.bx [.sl 1 (v.map ae)]),(14,.d (ae nx)),(15,.d (ae ny)),(16,.d (ae w)),(70,.d (dI ja)),(71,.d (ae nx)),(72,.d (ae ny)),(73,.d (ae w)),(76,.d (dI jb)),(78,.d (ae nx)),(81,.d (ae ny)),(84,.d (ae w)),(67,.d (Lkg.D ⟨ln,lb,js,lds⟩))]) (fun V=>?_) (fun N1_0_0_0=>?_)
 · refine ZH.four 1 10 13 16 (by kernel_rfl) rfl rfl rfl rfl rfl rfl rfl rfl (fun _=>rfl) (fun _=>rfl) (fun _=>rfl) (fun _=>rfl) ⟨rfl,trivial⟩ ?_ ?_ ?_ ?_
   · refine an.a7 tok [] rfl rfl rfl rfl rfl List.nodup_nil rfl hrow (fun _ _ _=>Nat.zero_le _) (fun res R1 hP=>?_);obtain ⟨V,rfl,rfl⟩:=hP;refine an.nil ?_;exact qL (N2_0_0_0 V) (by kernel_rfl) rfl ⟨rfl,trivial⟩
   · refine ah (fun B1 F1 w1=>?_);refine qU 1 rfl ?_;refine aa.nil ⟨rfl,?_⟩;exact qL (N1_1_0_0 V) (by kernel_rfl) rfl ⟨rfl,trivial⟩
   · refine ah (fun B1 F1 w1=>?_);refine qU 1 rfl ?_;refine aa.nil ⟨rfl,?_⟩;exact qL (N1_0_1_0 V) (by kernel_rfl) rfl ⟨rfl,trivial⟩
   · refine ah (fun B1 F1 w1=>?_);refine qU 1 rfl ?_;refine aa.nil ⟨rfl,?_⟩;exact qL (N1_0_0_1 V) (by kernel_rfl) rfl ⟨rfl,trivial⟩
 refine ZH.meet 11 (qB 21 150396) (fun V=>[]) (fun V=>[(3,.bx [dS ln,ak lb,aj js,ai lds]),(5,.bx [dS jn,dI jk,dI ja,dI jp,dI jb,dI jo,dI jt]),(7,.bx [.sl 1 (v.map ae)]),(14,.d (ae nx)),(15,.d (ae ny)),(16,.d (ae w)),(70,.d (dI ja)),(71,.d (ae nx)),(72,.d (ae ny)),(73,.d (ae w)),(76,.d (dI jb)),(78,.d (ae nx)),(81,.d (ae ny)),(84,.d (ae w))]) (fun V=>?_) (fun N0_0_0_0=>?_)
 · refine ZH.four 0 10 13 16 (by kernel_rfl) rfl rfl rfl rfl rfl rfl rfl rfl (fun _=>rfl) (fun _=>rfl) (fun _=>rfl) (fun _=>rfl) ⟨rfl,trivial⟩ ?_ ?_ ?_ ?_
   · refine ah (fun B1 F1 w1=>?_);refine qU 1 rfl ?_;refine aa.nil ⟨rfl,?_⟩;exact qL (N1_0_0_0 V) (by kernel_rfl) rfl ⟨rfl,trivial⟩
   · refine ah (fun B1 F1 w1=>?_);refine qU 1 rfl ?_;refine aa.nil ⟨rfl,?_⟩;exact qL (N0_1_0_0 V) (by kernel_rfl) rfl ⟨rfl,trivial⟩
   · refine ah (fun B1 F1 w1=>?_);refine qU 1 rfl ?_;refine aa.nil ⟨rfl,?_⟩;exact qL (N0_0_1_0 V) (by kernel_rfl) rfl ⟨rfl,trivial⟩
   · refine ah (fun B1 F1 w1=>?_);refine qU 1 rfl ?_;refine aa.nil ⟨rfl,?_⟩;exact qL (N0_0_0_1 V) (by kernel_rfl) rfl ⟨rfl,trivial⟩
 exact qL (N0_0_0_0 de) (by kernel_rfl) rfl ⟨rfl,trivial⟩
end Lift
namespace Lift
open Go Go.Proofs
theorem qe(l:Lkg){K:Nat}(hl:l.ok K):Pure Tryz.prog 20 [l.D] (dI (yH l)):=by
 refine qJ 29 Tryz.func20 rfl rfl rfl rfl (by kernel_rfl) (fun B0 F0 w0=>?_);have nb:=hl.nb;have nj:=hl.nj;unfold big at nb nj;unfold yH;clear hl;obtain ⟨ln,bs,js,ds⟩:=l;simp only[] at nb nj ⊢;refine qX 2 rfl ?_;refine qK 3 rfl ?_;rw[List.length_map];refine qU 1 rfl ?_;rw[au (x:=(bs.length:Int) -1) (by omega) (by omega)];refine qU 1 rfl ?_;rw[au (x:=3*((bs.length:Int) -1)) (by omega) (by omega)];refine qU 1 rfl ?_;refine qI ?_;refine qX 1 rfl ?_;refine aa.nil ?_;refine AW.block ?_;refine AW.aD [1,3,4] (fun i:Nat=>[(1,.bx [dS ln,ak bs,aj js,ai ds]),(3,.d (dI (3*((bs.length:Int) -1) -pk js i))),(4,.d (dI i))]) (fun i=>i≤js.length) (fun i=>js.length-i) 0 (by show _=([(1,.bx [dS ln,ak bs,aj js,ai ds]),(3,.d (dI (3*((bs.length:Int) -1) -0))),(4,.d (dI (0:Nat)))]:St);rw[Int.sub_zero];rfl) (Nat.zero_le _) (fun i hi=>?_)
 · show AW _ _ _ _ _ _ _ [(1,.bx [dS ln,ak bs,aj js,ai ds]),(3,.d (dI (3*((bs.length:Int) -1) -pk js i))),(4,.d (dI i))];refine AW.seq ?_;refine qX 4 rfl ?_;rw[List.length_map];refine qU 1 rfl ?_;refine aa.nil ?_;refine AW.cond rfl (fun h=>?_) (fun h=>?_)
   · have hii:i<js.length:=by have:=of_decide_eq_true h;omega
     have hg:(js.map bp.D)[i]?=some (js.getD i default).D:=by simp[hii]
     have hgc:pk js (i+1)=pk js i+if (js.getD i default).kind=0 then 2 else 1:=rfl
     have gb:=yI js i;generalize js.getD i default=j at hg hgc;obtain ⟨nm,kd,a,pt,b,on,to⟩:=j;simp only[] at hgc;refine AW.skip (AW.seq (AW.block ?_));refine qX 3 rfl ?_;refine aa.idx tok (bp.D ⟨nm,kd,a,pt,b,on,to⟩) rfl rfl rfl rfl (Int.natCast_nonneg i) hg ?_;refine qU 3 rfl ?_;refine aa.nil ?_;refine AW.cond rfl (fun h=>?_) (fun h=>?_)
     · have h0:kd=0:=beq_iff_eq.1 h;rw[if_pos h0] at hgc;refine qT 2 rfl ?_;rw[au (x:=3*((bs.length:Int) -1) -pk js i-2) (by omega) (by omega)];refine qU 1 rfl ?_;refine aa.nil ?_;refine qT 2 rfl ?_;rw[au (x:=(i:Int)+1) (by omega) (by omega)];refine qU 1 rfl ?_;refine aa.nil ?_
       exact⟨i+1,by
        show _=([(1,.bx [dS ln,ak bs,aj js,ai ds]),(3,.d (dI (3*((bs.length:Int) -1) -pk js (i+1)))),(4,.d (dI ((i+1:Nat):Int)))]:St);rw[hgc,show 3*((bs.length:Int) -1) -(pk js i+2)=3*((bs.length:Int) -1) -pk js i-2 by omega]
        rfl,hii,by omega⟩
     · have h0:kd≠0:=beq_eq_false_iff_ne.1 h;rw[if_neg h0] at hgc;refine qT 2 rfl ?_;rw[au (x:=3*((bs.length:Int) -1) -pk js i-1) (by omega) (by omega)];refine qU 1 rfl ?_;refine aa.nil ?_;refine qT 2 rfl ?_;rw[au (x:=(i:Int)+1) (by omega) (by omega)];refine qU 1 rfl ?_;refine aa.nil ?_
       exact⟨i+1,by
        show _=([(1,.bx [dS ln,ak bs,aj js,ai ds]),(3,.d (dI (3*((bs.length:Int) -1) -pk js (i+1)))),(4,.d (dI ((i+1:Nat):Int)))]:St);rw[hgc,show 3*((bs.length:Int) -1) -(pk js i+1)=3*((bs.length:Int) -1) -pk js i-1 by omega]
        rfl,hii,by omega⟩
   have hii:i=js.length:=by have:=of_decide_eq_false h;have:i≤js.length:=hi;omega
   subst hii;refine AW.exit ?_;refine qX 2 rfl ?_;exact qN rfl
set_option maxHeartbeats 1600000 in
theorem tf{l:Lkg}{v:List NQ}{bs:List dL}{md:List Int}{a:Asm}(W:GP l v bs md (qC v l a) (qA v l a))(hj:l.joints.length≤1000)(J: ∀i,i<l.joints.length→GA l.bodies (l.joints.getD i default)):Pure Tryz.prog 19 [l.D,GC v bs md] (gT (iO v l a l.joints.length)):=by
 refine qJ 43 Tryz.func19 rfl rfl rfl rfl (by kernel_rfl) (fun B0 F0 w0=>?_);have hpin:=fun i hi=>yj W _ (J i hi);have hsld:=fun i hi=>uV W _ (J i hi);have hk:=fun i hi=>(J i hi).k;have hRs: ∀i,iO v l a (i+1)=iO v l a i++Ch v l a (l.joints.getD i default):=fun i=>rfl;have hR0:iO v l a 0=[]:=rfl;have hRl:=l7 v l a;have hJ: ∀j,Ch v l a j=if j.kind=1 then [Ao v (iZ l.bodies.length) j.a j.b (qC v l a j.a j.pt) (qA v l a j.a j.pt) (qC v l a j.b j.on) (qA v l a j.b j.on) (qC v l a j.b j.to) (qA v l a j.b j.to)] else [BS (iZ l.bodies.length) j.a j.b (qA v l a j.a j.pt) (qA v l a j.b j.on),BR (iZ l.bodies.length) j.a j.b (qC v l a j.a j.pt) (qC v l a j.b j.on)]:=fun j=>rfl
 generalize iO v l a=R at hRs hR0 hRl ⊢;generalize qC v l a=X at *;generalize qA v l a=Y at *;generalize Ch v l a=jr at hRs hJ;clear J;obtain ⟨ln,lb,js,lds⟩:=l;simp only[] at *;refine AZ.aw ?_;refine AZ.seq ?_;refine AZ.dm (fun B1 F1 w1=>?_);refine qU 3 rfl ?_;refine aa.nil ⟨rfl,?_⟩;refine AZ.seq ?_;refine AZ.dm (fun B1 F1 w1=>?_);refine qU 1 rfl ?_;refine aa.nil ⟨rfl,?_⟩;refine AZ.seq ?_;refine AZ.seq ?_;refine AZ.dm (fun B1 F1 w1=>?_);refine qU 1 rfl ?_;refine aa.nil ⟨rfl,?_⟩;refine AZ.block ?_;refine AZ.aD [2,3,5,6] (fun i:Nat=>([],[(2,.bx [dS ln,ak lb,aj js,ai lds]),(3,.bx [.sl 1 (v.map ae),.sl 4 (bs.map dL.D),.sl 1 (md.map (fun n=>dI n))]),(5,.ow 27 ((R i).map gx)),(6,.d (dI i))])) (fun i=>i≤js.length) (fun i=>js.length-i) 0 (by rw[hR0];rfl) (Nat.zero_le _) (fun i hi=>?_)
 · show AZ _ _ _ _ _ _ _ [] [(2,.bx [dS ln,ak lb,aj js,ai lds]),(3,.bx [.sl 1 (v.map ae),.sl 4 (bs.map dL.D),.sl 1 (md.map (fun n=>dI n))]),(5,.ow 27 ((R i).map gx)),(6,.d (dI i))];refine AZ.seq ?_;refine AZ.seq ?_;refine AZ.dm (fun B1 F1 w1=>?_);refine qU 4 rfl ?_;rw[List.length_map];refine qU 1 rfl ?_;refine aa.nil ⟨rfl,?_⟩;refine AZ.cond rfl (fun h=>?_) (fun h=>?_)
   · have hii:i<js.length:=by have:=of_decide_eq_true h;omega
     have hg:(js.map bp.D)[i]?=some (js.getD i default).D:=by simp[hii]
     have hpin:=hpin i hii;have hsld:=hsld i hii;have hk:=hk i hii;have hRs:=hRs i;have hJ:=hJ (js.getD i default);have hRl:=hRl i;generalize js.getD i default=j at hg hpin hsld hk hRs hJ;obtain ⟨jn,jk,ja,jp,jb,jo,jt⟩:=j;simp only[] at hpin hsld hJ;have hk:jk=0∨jk=1:=hk;refine AZ.skip ?_;refine AZ.seq ?_;refine AZ.block ?_;refine AZ.seq ?_;refine AZ.dm (fun B1 F1 w1=>?_);refine qU 3 rfl ?_;refine aa.idx tok (bp.D ⟨jn,jk,ja,jp,jb,jo,jt⟩) rfl rfl rfl rfl (Int.natCast_nonneg i) hg ?_;refine qU 3 rfl ?_;refine aa.nil ⟨rfl,?_⟩;refine AZ.cond rfl (fun h=>?_) (fun h=>?_)
     · have h0:jk=0:=beq_iff_eq.1 h;rw[if_neg (by omega)] at hJ;refine AZ.any aI (iW.pY 9 (by kernel_rfl) (fun B1 F1 w1 hS=>?_));refine qP 6 rfl ?_;refine af.idx tok (bp.D ⟨jn,jk,ja,jp,jb,jo,jt⟩) rfl rfl rfl rfl rfl (Int.natCast_nonneg i) hg ?_;refine qP 1 rfl ?_;refine af.call tok rfl rfl rfl rfl rfl hpin ?_;rw[← hJ];refine af.nil ⟨rfl,?_⟩;refine an.cut 2 rfl (fun B1 F1 w1=>?_);have hjl:(jr ⟨jn,jk,ja,jp,jb,jo,jt⟩).length≤2:=by rw[hJ];exact Nat.le_refl _
       refine aa.kI tok rfl rfl rfl rfl rfl rfl (by rw[List.length_map,List.length_map];show (_+_)*24≤_;omega) (by rw[List.length_map,List.length_map];omega) ?_;refine qU 1 rfl ?_;refine aa.nil ⟨rfl,?_⟩;refine an.nil ?_;refine AZ.dm (fun B1 F1 w1=>?_);refine qU 2 rfl ?_;rw[au (x:=(i:Int)+1) (by omega) (by omega)];refine qU 1 rfl ?_;refine aa.nil ⟨rfl,?_⟩;exact⟨i+1,by rw[hRs,List.map_append];rfl,hii,by omega⟩
     · have h0:jk=1:=hk.resolve_left (beq_eq_false_iff_ne.1 h);rw[if_pos h0] at hJ;have hsld:=hsld (show jk≠0 by omega);refine AZ.any aI (iW.DO 0 (by kernel_rfl) rfl rfl (fun _ _ _ h=>h) (fun _ _ h=>h) (iW.pY 8 (by kernel_rfl) (fun B1 F1 w1 hS=>?_)));refine qP 6 rfl ?_;refine af.idx tok (bp.D ⟨jn,jk,ja,jp,jb,jo,jt⟩) rfl rfl rfl rfl rfl (Int.natCast_nonneg i) hg ?_;refine qP 1 rfl ?_;refine af.nil ⟨rfl,?_⟩;refine an.a7 tok [] rfl rfl rfl rfl rfl List.nodup_nil rfl hsld (fun _ _ _=>Nat.zero_le _) (fun res R1 hP=>?_);obtain ⟨V,rfl,rfl⟩:=hP;refine an.cy 39 0 rfl rfl rfl ?_;refine an.cut 3 rfl (fun B1 F1 w1=>?_);refine aa.gO tok 39 rfl rfl ?_;refine aa.kc tok rfl rfl rfl rfl rfl ?_;refine aa.kI tok rfl rfl rfl rfl rfl rfl (by show (((R i).map gx).length+1)*24≤_;rw[List.length_map];omega) (by show ((R i).map gx).length+1≤_;rw[List.length_map];omega) ?_;refine qU 1 rfl ?_;refine aa.nil ⟨rfl,?_⟩;refine an.nil ?_;refine AZ.z7 [] (fun i r h=>by simp at h) ?_;refine AZ.dm (fun B1 F1 w1=>?_);refine qU 2 rfl ?_;rw[au (x:=(i:Int)+1) (by omega) (by omega)];refine qU 1 rfl ?_;refine aa.nil ⟨rfl,?_⟩;exact⟨i+1,by rw[hRs,hJ,List.map_append];rfl,hii,by omega⟩
   have hii:i=js.length:=by have:=of_decide_eq_false h;omega
   subst hii;refine AZ.exit ?_;refine AZ.seq ?_;refine AZ.dm (fun B1 F1 w1=>?_);refine qU 2 rfl ?_;refine aa.nil ⟨rfl,?_⟩;exact AZ.ret rfl
end Lift
namespace Lift
open Go Go.Proofs
def p9(v:List NQ)(q:NQ):Prop:=ay v.length q∧az 300000 q
theorem qW(v:List NQ):p9 v []:=⟨bY _,dD (by decide)⟩
theorem Ef{P:NQ→Prop}{r:List NQ}(h: ∀q∈r,P q)(h0:P [])(k:Nat):P (r.getD k []):=by
 by_cases hk:k<r.length
 · rw[List.getD_eq_getElem?_getD,List.getElem?_eq_getElem hk];exact h _ (List.getElem_mem hk)
 · rw[vF (by omega)];exact h0
theorem DD{P:NQ→Prop}{r:List NQ}{b:Int}{x y w:NQ}(h: ∀q∈r,P q)(hx:P x)(hy:P y)(hw:P w): ∀q∈aN r b x y w,P q:=fun q hq=>by
 unfold aN at hq;split at hq
 · rcases List.mem_append.1 hq with hq | hq
   · rcases List.mem_append.1 hq with hq | hq
     · exact h q (List.mem_of_mem_take hq)
     · simp only[List.mem_cons,List.not_mem_nil,or_false] at hq;rcases hq with rfl | rfl | rfl
       · exact hx
       · exact hy
       · exact hw
   · exact h q (List.mem_of_mem_drop hq)
 · exact h q hq
theorem BH(v:List NQ)(n:Nat): ∀q∈iZ n,p9 v q:=fun q hq=>by
 rw[(List.mem_replicate.1 hq).2];exact qW v
def FQ(v:List NQ)(n:Nat)(r:List NQ):Prop:=r.length=3*(n-1)∧ ∀q∈r,p9 v q
theorem jW{v:List NQ}{n:Nat}{r:List NQ}{b:Int}{x y w:NQ}(h:FQ v n r)(hb:0≤b∧b<n)(hn:0<n)(hx:p9 v x)(hy:p9 v y)(hw:p9 v w):FQ v n (aN r b x y w) :=
 ⟨oT x y w h.1 hb.2 hb.1 hn,DD h.2 hx hy hw⟩
structure AS (l:Lkg) (a:Asm):Prop where
 G:Gv l a
 V:iz 16 (a.rt.map aC)
 l2:(a.rt.map aC).length≤2
 X: ∀b p:Int,0≤b→b<l.bodies.length→0≤p→p<(l.bodies.getD b.toNat default).pts.length→(ay (a.rt.map aC).length (qC (a.rt.map aC) l a b p)∧az 1400 (qC (a.rt.map aC) l a b p))∧(ay (a.rt.map aC).length (qA (a.rt.map aC) l a b p)∧az 1400 (qA (a.rt.map aC) l a b p))
 P: ∀b:Int,0≤b→b<l.bodies.length→(a.bodies.map dL.D)[b.toNat]?=some (zI (a.bodies.getD b.toNat default)).D∧(zI (a.bodies.getD b.toNat default)).ok (a.rt.map aC).length 16
 D:a.D=GC (a.rt.map aC) a.bodies a.modes
theorem BO{l:Lkg}{a:Asm}(hl:l.ok 16)(ha:a.ok 16)(h2:a.rt.length≤2)(h:fD l a=0):AS l a:=by
 have G:=u6 h;have V:=iz.of ha.t G.tw;have W:=nA ha.t G.tw;have hvl:(a.rt.map aC).length≤2:=by rw[List.length_map];exact h2
 have gP: ∀b:Int,0≤b→b<l.bodies.length→(a.bodies.map dL.D)[b.toNat]?=some (zI (a.bodies.getD b.toNat default)).D∧(zI (a.bodies.getD b.toNat default)).ok (a.rt.map aC).length 16:=fun b b0 b1=>by
  have hln:=G.ln;have hb:b.toNat<a.bodies.length:=by omega
  have h3:=BQ (by decide) (ha.b _ hb) (G.pl _ hb);rw[List.length_map,← h3.2];exact⟨by simp[hb],h3.1⟩
 refine⟨G,V,hvl,fun b p b0 b1 p0 p1=>?_,gP,?_⟩
 · have hm:=(hl.b b.toNat).2.2 p.toNat;exact EH V hvl (gP b b0 b1).2 (kz _ (bC hm.2.1 (by decide))) (kz _ (bC hm.2.2 (by decide)))
 · have:=W.eq;show D.ag [.sl 1 (a.rt.map a9),_,_]=D.ag [.sl 1 ((a.rt.map aC).map ae),_,_];rw[show a.rt.map a9=(a.rt.map aC).map ae by simpa using this]
theorem AS.wh{l:Lkg}{a:Asm}(O:AS l a)(hl:l.ok 16):GP l (a.rt.map aC) a.bodies a.modes (qC (a.rt.map aC) l a) (qA (a.rt.map aC) l a) :=
 ⟨O.G.lk.b1,O.G.lk.b8,O.V,O.l2,fun b p b0 b1 p0 p1=>by
   have hm:=(hl.b b.toNat).2.2 p.toNat
   exact uU l a.bodies a.modes b p O.V O.l2 b0 b1 p0 p1 (O.P b b0 b1).1 (O.P b b0 b1).2 hm.2.1 hm.2.2,O.X⟩
theorem p9.of{v:List NQ}{q:NQ}{k:Nat}(h:ay v.length q∧az k q)(hk:k≤300000):p9 v q:=⟨h.1,h.2.mono hk⟩
theorem yD{l:Lkg}{a:Asm}(O:AS l a){j:bp}(J:GA l.bodies j): ∀r∈Ch (a.rt.map aC) l a j,FQ (a.rt.map aC) l.bodies.length r:=by
 have b1:=O.G.lk.b1;have l2:=O.l2;obtain ⟨x1,x2⟩:=O.X j.a j.pt J.a.1 J.a.2 J.pt.1 J.pt.2;obtain ⟨y1,y2⟩:=O.X j.b j.on J.b.1 J.b.2 J.on.1 J.on.2;have V:=O.V.mono (show 16≤3000 by decide) (by decide);have hz:FQ (a.rt.map aC) l.bodies.length (iZ l.bodies.length):=⟨nG _,BH _ _⟩;have ja:=J.a;have jb:=J.b;have one:p9 (a.rt.map aC) [1]:=⟨dA _ _,dZ (by have:=eO;omega)⟩;have neg: ∀{q:NQ},p9 (a.rt.map aC) q→p9 (a.rt.map aC) (aH q):=fun h=>DN h.1 h.2;have nil:=qW (a.rt.map aC);unfold Ch;intro r hr;split at hr
 · rename_i hk;obtain ⟨z1,z2⟩:=O.X j.b j.to J.b.1 J.b.2 (J.to (by omega)).1 (J.to (by omega)).2;rw[List.mem_singleton] at hr;subst hr;have q1:=eZ y2.1 y2.2 z2.1 z2.2;have q2:=eZ z1.1 z1.2 y1.1 y1.2;have hT:sT (a.rt.map aC).length 3000≤126009:=Nat.le_trans (l6 l2) (by decide);have p1:=cG V q2.1 (q2.2.mono (by decide)) x1.1 (x1.2.mono (by decide));have p2:=cG V q1.1 (q1.2.mono (by decide)) x2.1 (x2.2.mono (by decide));have q3:=eZ p1.1 (p1.2.mono hT) p2.1 (p2.2.mono hT);have e1:p9 (a.rt.map aC) _:=p9.of q1 (by decide);have e2:p9 (a.rt.map aC) _:=p9.of q2 (by decide);have e3:p9 (a.rt.map aC) _:=p9.of q3 (by decide);exact jW (jW hz ja b1 e1 e2 e3) jb b1 (neg e1) (neg e2) (neg e3)
 · have e1:p9 (a.rt.map aC) _:=p9.of x1 (by decide);have e2:p9 (a.rt.map aC) _:=p9.of x2 (by decide);have e3:p9 (a.rt.map aC) _:=p9.of y1 (by decide);have e4:p9 (a.rt.map aC) _:=p9.of y2 (by decide);simp only[List.mem_cons,List.not_mem_nil,or_false] at hr;rcases hr with rfl | rfl
   · exact jW (jW hz ja b1 one nil (neg e2)) jb b1 (neg one) nil e4
   · exact jW (jW hz ja b1 nil one e1) jb b1 nil (neg one) (neg e3)
theorem tW{l:Lkg}{a:Asm}(O:AS l a): ∀i,i≤l.joints.length→ ∀r∈iO (a.rt.map aC) l a i,FQ (a.rt.map aC) l.bodies.length r
 | 0,_,r,hr=>by cases hr
 | i+1,hi,r,hr=>by
   rcases List.mem_append.1 hr with h | h
   · exact tW O i (by omega) r h
   · exact yD O (O.G.lk.j i (by omega)) r h
theorem yv{l:Lkg}{a:Asm}(O:AS l a){i:Nat}(hi:i<(pQ l a).length):FQ (a.rt.map aC) l.bodies.length ((pQ l a).getD i []):=by
 rw[List.getD_eq_getElem?_getD,List.getElem?_eq_getElem hi];exact tW O _ (Nat.le_refl _) _ (List.getElem_mem hi)
theorem B7{l:Lkg}{a:Asm}(O:AS l a)(i k:Nat):p9 (a.rt.map aC) (ib (pQ l a) i k):=by
 unfold ib;by_cases hi:i<(pQ l a).length
 · exact Ef (yv O hi).2 (qW _) k
 · rw[vG (by omega)];exact qW _
theorem Fg{l:Lkg}{a:Asm}(O:AS l a):(pQ l a).length≤32:=by
 have h1:=l7 (a.rt.map aC) l a l.joints.length;have h2:=O.G.lk.j16;unfold pQ;omega
theorem zP{l:Lkg}{a:Asm}(O:AS l a)(h:0<(pQ l a).length):gf (pQ l a)=3*(l.bodies.length-1):=(yv O h).1
theorem Es{l:Lkg}{a:Asm}(O:AS l a):Gw (a.rt.map aC) (pQ l a):=by
 refine⟨Fg O,fun j hj=>?_,?_,fun i k=>(B7 O i k).1⟩
 · rw[(yv O hj).1,zP O (by omega)]
 · by_cases h:0<(pQ l a).length
   · rw[zP O h];have:=O.G.lk.b8;omega
   · unfold gf;rw[vG (by omega)];exact Nat.zero_le _
end Lift
namespace Lift
open Go Go.Proofs
theorem lM(n:Int)(hn: -1000≤n∧n≤1000):Pure Tryz.prog 50 [dI n] (a9 [Qr (n:Rat)]):=by
 refine qJ 6 Tryz.func50 rfl rfl rfl rfl (by kernel_rfl) (fun B F0 w0=>?_);have c1:=tZ n (by omega) (by omega);refine qX 1 rfl ?_;refine qK 1 rfl ?_;refine aa.call tok rfl rfl rfl rfl c1 ?_;refine aa.kc tok rfl rfl rfl rfl rfl ?_;refine qU 1 rfl ?_;exact qN rfl
abbrev G5:List Mark:=[⟨⟨#[79]⟩,Qr 0,Qr 0⟩,⟨⟨#[65]⟩,Qr ((1:Int):Rat),Qr 0⟩]
abbrev yQ:Lkg:=⟨⟨#[109]⟩,[⟨⟨#[102,114,97,109,101]⟩,G5⟩,⟨⟨#[99,114,97,110,107]⟩,G5⟩],[⟨⟨#[106]⟩,0,1,0,0,0,0⟩],[]⟩
abbrev GK:dL:=⟨[Qr ((1:Int):Rat)],[Qr ((0:Int):Rat)],[Qr ((0:Int):Rat)],[Qr ((0:Int):Rat)]⟩
abbrev z6:Asm:=⟨[],[GK,GK],[]⟩
theorem pd:Pure Tryz.prog 29 [] (.tu [yQ.D,z6.D]):=by
 refine qJ 27 Tryz.func29 rfl rfl rfl rfl (by kernel_rfl) (fun B F0 w0=>?_);have c1:=tZ 1 (by omega) (by omega);have w1:=lM 1 (by omega);have w0':=lM 0 (by omega)
 have e1:Mark.D ⟨⟨#[79]⟩,Qr 0,Qr 0⟩= .ag [dS ⟨#[79]⟩,dB false,.sl 1 [],.sl 1 [],dB false,.sl 1 [],.sl 1 []]:=by
  show D.ag [dS ⟨#[79]⟩,dB (Qr 0).g,Wd (Qr 0).n,Wd (Qr 0).d,dB (Qr 0).g,Wd (Qr 0).n,Wd (Qr 0).d]=_;rw[eF];rfl
 have e2: ∀r:RD,Mark.D ⟨⟨#[65]⟩,r,Qr 0⟩= .ag [dS ⟨#[65]⟩,dB r.g,Wd r.n,Wd r.d,dB false,.sl 1 [],.sl 1 []]:=fun r=>by
  show D.ag [dS ⟨#[65]⟩,dB r.g,Wd r.n,Wd r.d,dB (Qr 0).g,Wd (Qr 0).n,Wd (Qr 0).d]=_;rw[eF];rfl
 have eL:yQ.D= .ag [dS ⟨#[109]⟩,.sl 2 [.ag [dS ⟨#[102,114,97,109,101]⟩,.sl 7 [.ag [dS ⟨#[79]⟩,dB false,.sl 1 [],.sl 1 [],dB false,.sl 1 [],.sl 1 []],.ag [dS ⟨#[65]⟩,dB (Qr ((1:Int):Rat)).g,Wd (Qr ((1:Int):Rat)).n,Wd (Qr ((1:Int):Rat)).d,dB false,.sl 1 [],.sl 1 []]]],.ag [dS ⟨#[99,114,97,110,107]⟩,.sl 7 [.ag [dS ⟨#[79]⟩,dB false,.sl 1 [],.sl 1 [],dB false,.sl 1 [],.sl 1 []],.ag [dS ⟨#[65]⟩,dB (Qr ((1:Int):Rat)).g,Wd (Qr ((1:Int):Rat)).n,Wd (Qr ((1:Int):Rat)).d,dB false,.sl 1 [],.sl 1 []]]]],.sl 7 [.ag [dS ⟨#[106]⟩,dI 0,dI 1,dI 0,dI 0,dI 0,dI 0]],.sl 2 []]:=by
  rw[← e1,← e2];rfl
 have eA:z6.D= .ag [.sl 1 [],.sl 4 [.ag [a9 [Qr ((1:Int):Rat)],a9 [Qr ((0:Int):Rat)],a9 [Qr ((0:Int):Rat)],a9 [Qr ((0:Int):Rat)]],.ag [a9 [Qr ((1:Int):Rat)],a9 [Qr ((0:Int):Rat)],a9 [Qr ((0:Int):Rat)],a9 [Qr ((0:Int):Rat)]]],.sl 1 []]:=rfl;rw[eL,eA];clear eL eA e1 e2;generalize Qr ((1:Int):Rat)=q at *;generalize Qr ((0:Int):Rat)=z at *;refine qX 2 rfl ?_;refine qK 1 rfl ?_;refine aa.call tok rfl rfl rfl rfl c1 ?_;refine qU 1 rfl ?_;refine aa.kc tok rfl rfl rfl rfl rfl ?_;refine qU 1 rfl ?_;refine qK 4 rfl ?_;refine aa.kc tok rfl rfl rfl rfl rfl ?_;refine qU 1 rfl ?_;refine aa.kc tok rfl rfl rfl rfl rfl ?_;refine qU 3 rfl ?_;refine qI (AW.region ?_);refine aa.call tok rfl rfl rfl rfl w1 ?_;refine aa.call tok rfl rfl rfl rfl w0' ?_;refine aa.call tok rfl rfl rfl rfl w0' ?_;refine aa.call tok rfl rfl rfl rfl w0' ?_;refine qU 3 rfl ?_;refine qI ?_;refine AW.lV tok aI [(1,true),(4,false)] 5 [0,1] (by kernel_rfl) ⟨rfl,?_⟩;refine qP 1 rfl ?_;refine af.nil ⟨rfl,?_⟩;refine qP 2 rfl ?_;refine af.kc tok rfl rfl rfl rfl rfl rfl ?_;refine qP 1 rfl ?_;refine af.nil ⟨_,k5.cons (.bx rfl) (k5.cons (.bx rfl) (k5.nil)),?_⟩;exact qN rfl
abbrev pX:il:=[[[1],[],[]],[[],[1],[]]]
instance:DecidableEq mq:=fun a b=>if h:a.rows=b.rows∧a.cols=b.cols∧a.sg=b.sg∧a.det=b.det then isTrue (by
  cases a;cases b;obtain ⟨h1,h2,h3,h4⟩:=h;simp only[] at h1 h2 h3 h4;subst h1;subst h2;subst h3;subst h4;rfl) else isFalse (fun e=>h (by subst e;exact⟨rfl,rfl,rfl,rfl⟩))
theorem yO:fD yQ z6=0:=by decide +kernel
theorem D9:tD yQ=0:=by decide +kernel
theorem Ey:pQ yQ z6=pX:=by decide +kernel
theorem Gi:fU [] pX 1=⟨pX,[0],1,[1]⟩:=by decide +kernel
theorem Gh:fU [] pX 2=⟨pX,[0,1],1,[1]⟩:=by decide +kernel
theorem Gg:fU [] pX 3=⟨pX,[0,1],1,[1]⟩:=by decide +kernel
theorem yP(i k:Nat):az 1 (ib pX i k)∧ay 0 (ib pX i k):=by
 have h:ib pX i k=[]∨ib pX i k=[1]:=by
  match i,k with
  | 0,0=>exact .inr rfl
  | 0,1=>exact .inl rfl
  | 0,2=>exact .inl rfl
  | 0,_+3=>exact .inl rfl
  | 1,0=>exact .inl rfl
  | 1,1=>exact .inr rfl
  | 1,2=>exact .inl rfl
  | 1,_+3=>exact .inl rfl
  | _+2,_=>exact .inl rfl
 rcases h with h | h
 · rw[h];exact⟨dD (by decide),bY _⟩
 · rw[h];exact⟨dZ eO,dA _ _⟩
theorem we{k:Nat}(h:1≤k):fA k []:=fun i=>by
 rw[show ([]:List NQ).getD i []=[] by simp];exact dD h
theorem xJ:db []:=fun j hj=>absurd hj (Nat.not_lt_zero _)
theorem BX{a b:NQ}(ha:ay 0 a)(hb:ay 0 b)(sa:az 1 a)(sb:az 1 b):zK [] a b :=
 ⟨sa.mono (by decide),sb.mono (by decide),oX 0 ha hb xJ (Nat.le_refl _) sa sb (we (Nat.le_refl _)) (by decide),(cO 0 ha hb xJ (Nat.le_refl _) sa sb (we (Nat.le_refl _))).2.mono (by decide)⟩
theorem Cw:tC 0 [] [1]=[1]:=by decide +kernel
theorem Fb{a:NQ}(ha:ay 0 a)(sa:az 1 a):BZ [] a [1]:=by
 have h1:az 1 ([1]:NQ):=dZ eO;have hb:ay 0 ([1]:NQ):=dA _ _;have m:=BX ha hb sa h1;refine⟨m.1,m.2.1,m.2.1,by decide +kernel,⟨m.2.1,by decide +kernel⟩,?_,?_⟩
 · show zJ 0 [] a (tC 0 [] [1]);rw[Cw];exact m.2.2.1
 · show mM (bc 0 [] a (tC 0 [] [1]));rw[Cw];exact m.2.2.2
theorem vI{cols:List Nat}{c:Nat}{p:NQ}(h1:atR [] ⟨pX,cols,1,[1]⟩ c<2→bR [] ⟨pX,cols,1,[1]⟩ c=pX∧eR [] ⟨pX,cols,1,[1]⟩ c=pX∧pR [] ⟨pX,cols,1,[1]⟩ c=[1])
  (h2:atR [] ⟨pX,cols,1,[1]⟩ c<2→ ∀i,i<2→i≠cols.length→xN [] (ib pX i c)=0):sP [] ⟨pX,cols,1,[1]⟩ c:=by
 have k: ∀i k,mM (ib pX i k):=fun i k=>(yP i k).1.mono (by decide);refine⟨fun j _ _=>k j c,fun h=>?_,fun h j _=>?_,fun h i _ _=>?_,fun h i hi hn hs=>?_⟩
 · rw[(h1 h).2.2];exact BX (dA _ _) (dA _ _) (dZ eO) (dZ eO)
 · rw[(h1 h).2.2,(h1 h).1];exact Fb (yP _ _).2 (yP _ _).1
 · rw[(h1 h).2.1];exact k i c
 · rw[(h1 h).2.1] at hs;exact absurd (h2 h i hi hn) hs
theorem Gj: ∀c,c<3→sP [] (fU [] pX c) c
 | 0,_=>vI (p:=[]) (fun _=>⟨by decide +kernel,by decide +kernel,by decide +kernel⟩) (fun _ i hi hn=>by
   have h: ∀i:Fin 2,i.val≠0→xN [] (ib pX i.val 0)=0:=by decide +kernel
   exact h ⟨i,hi⟩ hn)
 | 1,_=>by
   rw[Gi]
   exact vI (p:=[]) (fun _=>⟨by decide +kernel,by decide +kernel,by decide +kernel⟩) (fun _ i hi hn=>by
    have h: ∀i:Fin 2,i.val≠1→xN [] (ib pX i.val 1)=0:=by decide +kernel
    exact h ⟨i,hi⟩ hn)
 | 2,_=>by
   rw[Gh];have h: ¬atR [] ⟨pX,[0,1],1,[1]⟩ 2<2:=by decide +kernel
   exact vI (p:=[]) (fun g=>absurd g h) (fun g=>absurd g h)
theorem D8:yQ.ok 16:=by
 have q1:(Qr ((1:Int):Rat)).w 16:=eN _ (by have:=eO;rw[show ((1:Int):Rat)=1 from rfl];omega);have q0:(Qr 0).w 16:=eN _ (jK (by decide));have d0:(default:RD).w 16:=⟨fun x h=>absurd h (List.not_mem_nil (a:=x)),fun x h=>absurd h (List.not_mem_nil (a:=x)),Nat.zero_le _,Nat.zero_le _⟩;have dM:(default:Mark).ok 16:=⟨by decide,d0,d0⟩
 have hp: ∀k,(G5.getD k default).ok 16:=fun k=>by
  match k with
  | 0=>exact⟨by decide,q0,q0⟩
  | 1=>exact⟨by decide,q1,q0⟩
  | _+2=>exact dM
 refine⟨by decide,by decide,by decide,by decide,fun i=>?_,fun i=>?_,fun i=>by show (default:Driver).nm.size≤_;decide⟩
 · match i with
   | 0=>exact⟨by decide,by decide,hp⟩
   | 1=>exact⟨by decide,by decide,hp⟩
   | _+2=>exact⟨by show (default:Body).nm.size≤_;decide,by show (default:Body).pts.length≤_;decide,fun k=>dM⟩
 · match i with
   | 0=>show (ByteArray.size ⟨#[106]⟩)≤_;decide
   | _+1=>show (default:bp).nm.size≤_;decide
end Lift
namespace Lift
open Go Go.Proofs
theorem Cv:AS yQ z6:=by
 have d0: ∀a:List RD,(∀r∈a,r=Qr ((1:Int):Rat)∨r=Qr ((0:Int):Rat))→wN 16 a:=fun a h i hi=>by
  have h1:(Qr ((1:Int):Rat)).w 16:=eN _ (by have:=eO;rw[show ((1:Int):Rat)=1 from rfl];omega);have h0:(Qr ((0:Int):Rat)).w 16:=eN _ (by have:=mh;rw[show ((0:Int):Rat)=0 from rfl];omega);rw[List.getD_eq_getElem?_getD,List.getElem?_eq_getElem hi];rcases h _ (List.getElem_mem hi) with e | e
  · rw[show (some a[i]).getD default=a[i] from rfl,e];exact h1
  · rw[show (some a[i]).getD default=a[i] from rfl,e];exact h0
 have w1:wN 16 [Qr ((1:Int):Rat)]:=d0 _ (fun r hr=> .inl (List.mem_singleton.1 hr));have w0:wN 16 [Qr ((0:Int):Rat)]:=d0 _ (fun r hr=> .inr (List.mem_singleton.1 hr));have hb:dL.ok 16 [] GK:=⟨⟨fun _=>w1,show 1≤4398046511104 by decide⟩,⟨fun _=>w0,show 1≤4398046511104 by decide⟩,⟨fun _=>w0,show 1≤4398046511104 by decide⟩,⟨fun _=>w0,show 1≤4398046511104 by decide⟩⟩;refine BO D8 ⟨⟨⟨1,by decide,by decide,fun i hi=>absurd hi (Nat.not_lt_zero _),fun _=>show 1≤17300000000000 by decide⟩,by decide,by decide,fun i hi=>absurd hi (Nat.not_lt_zero _)⟩,fun i hi=>?_,by decide⟩ (by decide) yO;have hi:i<2:=hi
 match i,hi with
 | 0,_=>exact hb
 | 1,_=>exact hb
theorem Cx:z6.ok 16:=by
 have w1:wN 16 [Qr ((1:Int):Rat)]:=fun i hi=>by
  have hi:i<1:=hi;obtain rfl:i=0:=by omega
  exact eN _ (by have:=eO;rw[show ((1:Int):Rat)=1 from rfl];omega)
 have w0:wN 16 [Qr ((0:Int):Rat)]:=fun i hi=>by
  have hi:i<1:=hi;obtain rfl:i=0:=by omega
  exact eN _ (by have:=mh;rw[show ((0:Int):Rat)=0 from rfl];omega)
 have hb:dL.ok 16 [] GK:=⟨⟨fun _=>w1,show 1≤4398046511104 by decide⟩,⟨fun _=>w0,show 1≤4398046511104 by decide⟩,⟨fun _=>w0,show 1≤4398046511104 by decide⟩,⟨fun _=>w0,show 1≤4398046511104 by decide⟩⟩;refine⟨⟨⟨1,by decide,by decide,fun i hi=>absurd hi (Nat.not_lt_zero _),fun _=>show 1≤17300000000000 by decide⟩,by decide,by decide,fun i hi=>absurd hi (Nat.not_lt_zero _)⟩,fun i hi=>?_,by decide⟩;have hi:i<2:=hi
 match i,hi with
 | 0,_=>exact hb
 | 1,_=>exact hb
theorem z0:Pure Tryz.prog 46 [aL (z6.rt.map aC),gT (pQ yQ z6)] (.tu [dI (2:Nat),aq]):=by
 have V:iz 300000 (z6.rt.map aC):=Cv.V.mono (by decide) (by decide)
 have h:=sd V (show 300000≤17300000000000 by decide) (Es Cv) (fun i k=>(B7 Cv i k).2) (fun c hc=>by
  rw[Ey] at hc ⊢
  exact Gj c hc)
 rw[show (DB (z6.rt.map aC) (pQ yQ z6)).cols.length=2 by rw[Ey];show (fU [] pX 3).cols.length=2;rw[Gg];rfl] at h;exact h
theorem lN:Pure Tryz.prog 9 [] (dB true):=by
 refine qJ 52 Tryz.func9 rfl rfl rfl rfl (by kernel_rfl) (fun B F0 w0=>?_);have ce:=pd;have c1:=kS yQ D8 (by decide);have c2:=pT yQ z6 D8 Cx (by decide) (by decide) (fun _=>z0);have c3:=r6 yQ z6 (r:=2) (by decide) D8 Cx (by decide) (by decide) (fun _=>z0);unfold AG at c1;unfold zG at c2;unfold Ct at c3;rw[if_neg (by rw[D9];decide),show yH yQ=1 by decide +kernel] at c1;rw[if_neg (by rw[yO];decide)] at c2;rw[if_neg (by rw[yO];decide),show (3*((yQ.bodies.length:Int) -1) -((2:Nat):Int))=1 by decide] at c3;have hL: ∃x:List D,yQ.D= .ag x∧x.length=4:=⟨_,rfl,rfl⟩;have hA: ∃x:List D,z6.D= .ag x∧x.length=3:=⟨_,rfl,rfl⟩;refine qX 1 rfl ?_;refine qI (AW.region ?_);refine aa.call tok rfl rfl rfl rfl ce ?_;refine qU 7 rfl ?_;refine qK 1 rfl ?_;refine aa.call tok rfl rfl rfl rfl c1 ?_;refine qU 5 rfl ?_;refine qK 2 rfl ?_;refine aa.call tok rfl rfl rfl rfl c2 ?_;refine qU 5 rfl ?_;refine qK 2 rfl ?_;refine aa.call tok rfl rfl rfl rfl c3 ?_;refine qU 5 rfl ?_;refine qK 1 rfl ?_;refine aa.err tok rfl rfl rfl rfl rfl ?_;refine qU 2 rfl ?_;refine aa.err tok rfl rfl rfl rfl rfl ?_;refine qU 3 rfl ?_;refine aa.err tok rfl rfl rfl rfl rfl ?_;refine qU 14 rfl ?_;exact qN rfl
theorem wT{m:Nat}{v:List NQ}{a b:NQ}(V:iz m v)(hk:2*m+1≤1000000)(hok:oF v.length (2*m+1))(ha:ay v.length a)(sa:az m a)(hb:ay v.length b)(sb:az m b):Pure Tryz.prog 39 [aL v,ae a,ae b] (.tu [dI (bD v v.length (cf (bh a (aY b)))),dI 0]):=by
 refine qJ 23 Tryz.func39 rfl rfl rfl rfl (by kernel_rfl) (fun B F0 w0=>?_);have ce:=im V ha sa hb sb;have hm:=V.m2;have h5:=V.l5;have la:=ha.len (by omega);have lb:=hb.len (by omega);have cl:=jq b sb (by omega) (by omega);have cp:=fo a (aY b) sa sb.minus (by omega) (by omega) (by rw[fc];omega);have hp:=ha.plus hb.minus;have cs:=lA v.length (k:=2*m+1) (xs:=v.map ae) hp h5 V.ro (Nat.le_refl _) (fun j hj=>xu hj) ((sa.plus sb.minus).mono (by omega)) (V.sz.mono (by omega)) hok;rw[jS v.length hp V.ro V.pos (Nat.le_refl _)] at cs;refine qX 3 rfl ?_;refine qI ?_;refine qX 3 rfl ?_;refine aa.kc tok rfl rfl rfl rfl rfl ?_;refine aa.call tok rfl rfl rfl rfl ce ?_;refine qU 1 rfl ?_;refine qK 2 rfl ?_;refine aa.nil ?_;refine AW.ar rfl ?_
 · refine AW.skip (AW.seq ?_);refine AW.draw aI 6 (by kernel_rfl) ?_;refine qP 3 rfl ?_;refine af.call tok rfl rfl rfl rfl rfl cl ?_;refine af.call tok rfl rfl rfl rfl rfl cp ?_;refine af.call tok rfl rfl rfl rfl rfl cs ?_;refine af.nil ?_;refine qU 2 rfl ?_;exact qN rfl
theorem Ed(a:NQ):cf (bh a (aY a))=zC:=funext fun i=>by
 show (bh a (aY a)).getD i 0=0;rw[jY,kC];exact Rat.add_neg_cancel _
theorem sh{m:Nat}{v:List NQ}{a:il}(V:iz m v)(hm2:2*m+1≤1000000)(hok:oF v.length (2*m+1))(G:Gw v a)(hs: ∀i k,az m (ib a i k)):Pure Tryz.prog 18 [aL v,gT a,gT a] (dB true):=by
 refine qJ 67 Tryz.func18 rfl rfl rfl rfl (by kernel_rfl) (fun B F0 w0=>?_);have hl:=G.l;refine qX 2 rfl ?_;refine qI ?_;refine qX 2 rfl ?_;rw[List.length_map];refine qU 2 rfl ?_;rw[List.length_map];refine qU 1 rfl ?_;rw[bne_eq_false_iff_eq.2 rfl];refine aa.nil ?_;refine AW.ar rfl ?_
 · refine AW.skip (AW.seq ?_);refine qX 1 rfl ?_;refine aa.nil ?_;refine AW.block ?_;refine AW.aD [1,2,3,7] (fun i:Nat=>[(1,.d (gT a)),(2,.d (gT a)),(3,.bx [.sl 1 (v.map ae)]),(7,.d (dI i))]) (fun i=>i≤a.length) (fun i=>a.length-i) 0 rfl (Nat.zero_le _) (fun i hi=>?_)
   · show AW _ _ _ _ _ _ _ [(1,.d (gT a)),(2,.d (gT a)),(3,.bx [.sl 1 (v.map ae)]),(7,.d (dI i))];refine AW.seq ?_;refine qX 3 rfl ?_;rw[List.length_map];refine qU 1 rfl ?_;refine aa.nil ?_;refine AW.cond rfl (fun h=>?_) (fun h=>?_)
     · have hii:i<a.length:=by have:=of_decide_eq_true h;omega
       have hg:=getM gx (l:=a) (i:=i) hii;have hrl:(a.getD i []).length≤32:=by rw[G.r i hii];exact G.c
       have hL:=G.lt i;have hS:=hs i;have hE: ∀k,ib a i k=(a.getD i []).getD k []:=fun k=>rfl;generalize ib a i=el at hL hS hE;generalize a.getD i []=r at hg hrl hE;refine AW.skip (AW.seq (AW.block (AW.seq (AW.seq ?_))));refine AW.draw aI 11 (by kernel_rfl) ?_;refine qP 2 rfl ?_;refine af.idx tok (gx r) rfl rfl rfl rfl rfl (Int.natCast_nonneg i) hg ?_;refine qP 2 rfl ?_;rw[List.length_map];refine qP 2 rfl ?_;refine af.idx tok (gx r) rfl rfl rfl rfl rfl (Int.natCast_nonneg i) hg ?_;refine qP 2 rfl ?_;rw[List.length_map];refine qP 1 rfl ?_;rw[bne_eq_false_iff_eq.2 rfl];refine af.nil ?_;refine aa.nil ?_;refine AW.ar rfl ?_
       · refine AW.skip ?_;refine qX 1 rfl ?_;refine aa.nil ?_;refine AW.block ?_;refine AW.aD [1,2,3,7,8] (fun k:Nat=>[(1,.d (gT a)),(2,.d (gT a)),(3,.bx [.sl 1 (v.map ae)]),(7,.d (dI i)),(8,.d (dI k))]) (fun k=>k≤r.length) (fun k=>r.length-k) 0 rfl (Nat.zero_le _) (fun k hk=>?_)
         · show AW _ _ _ _ _ _ _ [(1,.d (gT a)),(2,.d (gT a)),(3,.bx [.sl 1 (v.map ae)]),(7,.d (dI i)),(8,.d (dI k))];refine AW.seq ?_;refine qX 3 rfl ?_;refine aa.idx tok (gx r) rfl rfl rfl rfl (Int.natCast_nonneg i) hg ?_;refine qU 2 rfl ?_;rw[List.length_map];refine qU 1 rfl ?_;refine aa.nil ?_;refine AW.cond rfl (fun h=>?_) (fun h=>?_)
           · have hkk:k<r.length:=by have:=of_decide_eq_true h;omega
             have hg2:=getM ae (l:=r) (i:=k) hkk;have cc:=wT V hm2 hok (hL k) (hS k) (hL k) (hS k);rw[hE,Ed,jO] at cc;refine AW.skip (AW.seq (AW.block (AW.seq ?_)));refine AW.draw aI 20 (by kernel_rfl) ?_;refine qP 3 rfl ?_;refine af.idx tok (gx r) rfl rfl rfl rfl rfl (Int.natCast_nonneg i) hg ?_;refine qP 2 rfl ?_;refine af.idx tok (ae (r.getD k [])) rfl rfl rfl rfl rfl (Int.natCast_nonneg k) hg2 ?_;refine qP 3 rfl ?_;refine af.idx tok (gx r) rfl rfl rfl rfl rfl (Int.natCast_nonneg i) hg ?_;refine qP 2 rfl ?_;refine af.idx tok (ae (r.getD k [])) rfl rfl rfl rfl rfl (Int.natCast_nonneg k) hg2 ?_;refine qP 1 rfl ?_;refine af.call tok rfl rfl rfl rfl rfl cc ?_;refine qP 4 rfl ?_;refine af.nil ?_;refine qU 1 rfl ?_;refine qK 6 rfl ?_;refine aa.nil ?_;refine AW.ar rfl ?_
             · refine AW.skip ?_;refine qT 2 rfl ?_;rw[au (x:=(k:Int)+1) (by omega) (by omega)];refine qU 1 rfl ?_;refine aa.nil ?_;exact⟨k+1,rfl,hkk,by omega⟩
           have hkk:k=r.length:=by have:=of_decide_eq_false h;omega
           refine AW.exit ?_;refine qT 2 rfl ?_;rw[au (x:=(i:Int)+1) (by omega) (by omega)];refine qU 1 rfl ?_;refine aa.nil ?_;exact⟨i+1,rfl,hii,by omega⟩
     refine AW.exit ?_;refine qX 1 rfl ?_;exact qN rfl
end Lift
namespace Lift
open Go Go.Proofs
theorem wG{l:Lkg}{a:Asm}(O:AS l a)(hl:l.ok 16):Pure Tryz.prog 19 [l.D,a.D] (gT (pQ l a)):=by
 have h:=tf (a:=a) (O.wh hl) (by have:=O.G.lk.j16;omega) O.G.lk.j;rw[← O.D] at h;exact h
theorem Fo{l:Lkg}{a:Asm}(O:AS l a):Pure Tryz.prog 18 [aL (a.rt.map aC),gT (pQ l a),gT (pQ l a)] (dB true):=by
 have l2:=O.l2;have V:iz 300000 (a.rt.map aC):=O.V.mono (by decide) (by decide);refine sh V (by decide) ?_ (Es O) (fun i k=>(B7 O i k).2);refine ve ?_ l2;have e1: ∀k,sT 1 k=6*k+1:=fun k=>by show 2*(2*k)+2*k+1=_;omega
 have e2: ∀m,sT 2 m=42*m+9:=fun m=>by
  show sT 1 (sT 1 m)+sT 1 m+1=_;rw[e1,e1];omega
 show sT 2 (2*300000+1)≤17300000000000∧sT 1 (sT 2 (2*300000+1))≤17300000000000∧sT 1 (sT 2 (2*300000+1))≤17300000000000;rw[e2,e1];omega
set_option maxHeartbeats 1600000 in
theorem law24_Matrix_ok(l:Lkg)(a:Asm){K:Nat}(hl:l.ok K)(hK:K≤big)(ha:AsB a):Pure Tryz.prog 4 [l.D,a.D] (dB true):=by
 refine qJ 84 Tryz.func4 rfl rfl rfl rfl (by kernel_rfl) (fun B F0 w0=>?_);have cl:=sf l a hl hK ha;have S:=fun h=>Br (l:=l) (a:=a) h;have hbig:(⟨l.nm,l.bodies,l.joints,l.drivers⟩:Lkg)=l:=rfl;refine qX 3 rfl ?_;refine qI (AW.seq (AW.region ?_));refine aa.call tok rfl rfl rfl rfl lN ?_;refine qU 4 rfl ?_;refine aa.call tok rfl rfl rfl rfl cl ?_;refine qU 1 rfl ?_;refine aa.nil ?_;cases hL:sj l a with
 | true =>
   refine AW.aB rfl ?_;refine AW.seq (AW.region ?_);refine aa.call tok rfl rfl rfl rfl lN ?_;refine qU 1 rfl ?_;exact qN rfl
 | false =>
 have S:=S hL;have hl16:=S.lok hl;have ha16:=S.aok ha;have hn:=S.nb;have c1:=kS l hl16 (by decide);have c2:=tA l a hl16 ha16 S.r2 (by omega);have c3:=nK l hl16 (by decide);have c4:=uW l a hl16 (by decide) ha16;have c5:=qe l hl16;have cM:fD l a=0→Pure Tryz.prog 19 [l.D,a.D] (gT (pQ l a)):=fun h=>wG (BO hl16 ha16 S.r2 h) hl16
 have cE:fD l a=0→Pure Tryz.prog 18 [sW a.rt,gT (pQ l a),gT (pQ l a)] (dB true):=fun h=>by
  have h1:=Fo (BO hl16 ha16 S.r2 h);rw[← (nA ha16.t (u6 h).tw).eq] at h1;exact h1
 have hg1:tD l≠0→AG l= .tu [dI 0,ml (tD l)]:=fun h=>if_pos h;have hg2:tD l=0→AG l= .tu [dI (yH l),aq]:=fun h=>if_neg (fun g=>g h);have hm1:fD l a≠0→B9 l a= .tu [.sl 1 [],ml (fD l a)]:=fun h=>if_pos h;have hm2:fD l a=0→B9 l a= .tu [gT (pQ l a),aq]:=fun h=>if_neg (fun g=>g h);have n1:=p6 (tD l);have n2:=p6 (fD l a);generalize tD l=y at *;generalize fD l a=z at *;generalize AG l=gd at *;generalize yH l=gn at *;generalize B9 l a=md' at *;generalize pQ l a=M at *;clear cl hl ha hl16 ha16 S hn hbig;obtain ⟨ln,lb,js,lds⟩:=l;obtain ⟨rt,bs,md⟩:=a;simp only[] at *;refine AW.ar rfl ?_;refine AW.skip ?_;refine AW.cut [2,3,5,6] (fun q:Int=>[(2,.bx [dS ln,ak lb,aj js,ai lds]),(3,.bx [.sl 1 (rt.map a9),.sl 4 (bs.map dL.D),.sl 1 (md.map (fun n=>dI n))]),(5,.d (dI q)),(6,.d (ml y))]) (fun q=>(y≠0∧q=0)∨(y=0∧q=gn)) ?_ (fun q hq=>?_)
 · refine qT 1 rfl ?_;by_cases hy:y=0
   · rw[hg2 hy] at c1;refine aa.call tok rfl rfl rfl rfl c1 ?_;refine qU 5 rfl ?_;refine aa.nil ?_;exact⟨gn,by rw[hy];rfl,.inr ⟨hy,rfl⟩⟩
   · rw[hg1 hy] at c1;refine aa.call tok rfl rfl rfl rfl c1 ?_;refine qU 5 rfl ?_;refine aa.nil ?_;exact⟨0,rfl,.inl ⟨hy,rfl⟩⟩
 show AW _ _ _ _ _ _ _ [(2,.bx [dS ln,ak lb,aj js,ai lds]),(3,.bx [.sl 1 (rt.map a9),.sl 4 (bs.map dL.D),.sl 1 (md.map (fun n=>dI n))]),(5,.d (dI q)),(6,.d (ml y))];refine AW.cut [2,3,5,6,7,8] (fun x:D=>[(2,.bx [dS ln,ak lb,aj js,ai lds]),(3,.bx [.sl 1 (rt.map a9),.sl 4 (bs.map dL.D),.sl 1 (md.map (fun n=>dI n))]),(5,.d (dI q)),(6,.d (ml y)),(7,.d x),(8,.d (ml z))]) (fun x=>(z≠0∧x= .sl 1 [])∨(z=0∧x=gT M)) ?_ (fun x hx=>?_)
 · refine qT 2 rfl ?_;by_cases hz:z=0
   · rw[hm2 hz] at c2;refine aa.call tok rfl rfl rfl rfl c2 ?_;refine qU 5 rfl ?_;refine aa.nil ?_;exact⟨gT M,by rw[hz];rfl,.inr ⟨hz,rfl⟩⟩
   · rw[hm1 hz] at c2;refine aa.call tok rfl rfl rfl rfl c2 ?_;refine qU 5 rfl ?_;refine aa.nil ?_;exact⟨.sl 1 [],rfl,.inl ⟨hz,rfl⟩⟩
 show AW _ _ _ _ _ _ _ [(2,.bx [dS ln,ak lb,aj js,ai lds]),(3,.bx [.sl 1 (rt.map a9),.sl 4 (bs.map dL.D),.sl 1 (md.map (fun n=>dI n))]),(5,.d (dI q)),(6,.d (ml y)),(7,.d x),(8,.d (ml z))];refine AW.seq ?_;refine AW.draw aI 5 (by kernel_rfl) ?_;refine qP 1 rfl ?_;refine af.call tok rfl rfl rfl rfl rfl c3 ?_;refine qP 2 rfl ?_;refine af.call tok rfl rfl rfl rfl rfl c4 ?_;refine af.nil ?_;refine qU 2 rfl ?_;refine aa.nil ?_;refine AW.cut [2,5,6,9] (fun _:Unit=>[(2,.bx [dS ln,ak lb,aj js,ai lds]),(5,.d (dI q)),(6,.d (ml y)),(9,.d (dI y))]) (fun _=>True) ?_ (fun _ _=>?_)
 · refine AW.seq ?_;refine AW.draw aI 27 (by kernel_rfl) ?_;refine qP 1 rfl ?_;refine af.call tok rfl rfl rfl rfl rfl n2 ?_;refine qP 2 rfl ?_;rw[bne_eq_false_iff_eq.2 rfl];refine qP 3 rfl ?_;rcases hx with ⟨hz,rfl⟩ | ⟨hz,rfl⟩
   · rw[bne_iff_ne.2 (show (z:Int)≠0 by omega)];refine qP 9 rfl ?_;rw[beq_eq_false_iff_ne.2 (show (z:Int)≠0 by omega)];refine qP 11 rfl ?_;refine af.nil ?_;refine aa.nil ?_;refine AW.ar rfl ?_;refine AW.skip ?_;exact⟨(),rfl,trivial⟩
   · subst hz;refine qP 15 rfl ?_;refine af.call tok rfl rfl rfl rfl rfl (cM rfl) ?_;refine af.call tok rfl rfl rfl rfl rfl (cE rfl) ?_;refine qP 3 rfl ?_;refine af.nil ?_;refine aa.nil ?_;refine AW.ar rfl ?_;refine AW.skip ?_;exact⟨(),rfl,trivial⟩
 show AW _ _ _ _ _ _ _ [(2,.bx [dS ln,ak lb,aj js,ai lds]),(5,.d (dI q)),(6,.d (ml y)),(9,.d (dI y))];refine qX 1 rfl ?_;refine aa.call tok rfl rfl rfl rfl n1 ?_;refine qU 2 rfl ?_;rw[beq_iff_eq.2 rfl];refine qU 3 rfl ?_;rcases hq with ⟨hy,rfl⟩ | ⟨hy,rfl⟩
 · rw[bne_iff_ne.2 (show (y:Int)≠0 by omega)];refine qU 5 rfl ?_;refine qU 11 rfl ?_;exact qN rfl
 · subst hy;refine qU 10 rfl ?_;refine aa.call tok rfl rfl rfl rfl c5 ?_;refine qU 1 rfl ?_;rw[beq_iff_eq.2 rfl];refine qU 4 rfl ?_;exact qN rfl
end Lift

