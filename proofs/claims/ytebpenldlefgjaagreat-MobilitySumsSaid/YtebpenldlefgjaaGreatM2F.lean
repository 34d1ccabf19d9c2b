/- Parts of the proof, one behind the other: the logic, the contracts of the functions that the statement reaches. -/
import Derived.Test.YtebpenldlefgjaaGreatM2E
set_option linter.unusedVariables false
set_option linter.unusedSimpArgs false
namespace Lift
open Go Go.Proofs
set_option maxHeartbeats 1600000 in
theorem uo(l:Lkg)(i:Nat){K:Nat}(hl:l.ok K)(hK:K≤5000000)(hin:i<l.joints.length):Pure Tryz.prog 35 [l.D,dI i] (dI (de l.bodies l.joints i:Nat)):=by
 refine qJ 112 Tryz.func35 rfl rfl rfl rfl (by kernel_rfl) (fun B F0 w0=>?_);obtain ⟨ln,bs,js,ds⟩:=l;have hb:=hl.b;have jok:=hl.j i;have hn:=hl.nj;simp only[] at hb jok hn hin ⊢;unfold big at jok hn;show AW _ _ _ _ _ _ _ (cW 0 [D.ag [dS ln,ay bs,ak js,an ds],dI i]);obtain ⟨j,hje⟩: ∃j,j=js.getD i default:=⟨_,rfl⟩;rw[← hje] at jok;have hdup:ye js i=dD (fun k=>decide ((js.getD k default).nm=j.nm)) i 0:=by rw[hje];rfl
 have hbd:de bs js i=if b3 j.nm=false then 5 else if ye js i=true then 6 else jE bs j:=by rw[hje];rfl
 generalize de bs js i=E at *;refine qX 2 rfl ?_;refine qK 3 rfl ?_;refine aa.idx tok j.D rfl rfl rfl rfl (Int.natCast_nonneg i) (by rw[hje];exact getM bu.D hin) ?_;refine qU 3 rfl ?_;refine aa.nil ?_;obtain ⟨nm,kind,a,pt,b,on,to⟩:=j;simp only[] at jok hdup hbd
 have hj:jE bs ⟨nm,kind,a,pt,b,on,to⟩=if kind≠0∧kind≠1 then 7 else if (gn a bs.length&&gn b bs.length)=false then 9 else if a=b then 13 else
  if (gn pt (bs.getD a.toNat default).pts.length&&gn on (bs.getD b.toNat default).pts.length)=false then 9 else
  if kind=0 then (if to=0 then 0 else 2) else if gn to (bs.getD b.toNat default).pts.length=false then 9 else
  if ju ((bs.getD b.toNat default).pts.getD on.toNat default) ((bs.getD b.toNat default).pts.getD to.toNat default)=true then 8 else 0:=rfl
 generalize jE bs ⟨nm,kind,a,pt,b,on,to⟩=E2 at *;refine AW.seq ?_;refine qX 2 rfl ?_;refine aa.call tok rfl rfl rfl rfl (gk nm jok) ?_;refine qU 1 rfl ?_;refine aa.nil ?_;refine AW.cond rfl (fun h=>?_) (fun h=>?_)
 · rw[if_pos (iz h)] at hbd;rw[hbd];refine qX 1 rfl ?_;exact qN rfl
 rw[if_neg (by simpa using h)] at hbd;refine AW.skip (AW.seq ?_);refine qX 1 rfl ?_;refine aa.nil ?_;refine AW.block ?_
 refine AW.aD [1,2,5,6] (fun k:Nat=>[(1,.d (dI i)),(2,.bx [dS ln,ay bs,ak js,an ds]),(5,.bx [dS nm,dI kind,dI a,dI pt,dI b,dI on,dI to]),(6,.d (dI k))])
  (fun k=>k≤i∧ye js i=dD (fun k=>decide ((js.getD k default).nm=nm)) (i-k) k) (fun k=>i-k) 0 rfl ⟨Nat.zero_le _,hdup⟩ (fun k ⟨hk,hD⟩=>?_)
 refine AW.seq ?_;refine qX 3 rfl ?_;refine aa.nil ?_;refine AW.cond rfl (fun h=>?_) (fun h=>?_)
 · have hki:k<i:=by have:=of_decide_eq_true h;omega
   refine AW.skip (AW.seq (AW.block (AW.seq ?_)));refine AW.draw aJ 9 (by kernel_rfl) ?_;refine qP 3 rfl ?_;refine ae.idx tok (js.getD k default).D rfl rfl rfl rfl rfl (Int.natCast_nonneg k) (getM bu.D (by omega)) ?_;refine qP 5 rfl ?_;rw[jS];refine ae.nil ?_;refine aa.nil ?_;refine AW.cond rfl (fun h=>?_) (fun h=>?_)
   · rw[hD.trans (dZ hki h)] at hbd;rw[show E=6 from hbd];refine qX 1 rfl ?_;exact qN rfl
   · refine AW.skip ?_;refine qT 3 rfl ?_;rw[aq (x:=(k:Int)+1) (by omega) (by omega)];refine aa.nil ?_;exact⟨k+1,rfl,⟨hki,hD.trans (cY hki h)⟩,by omega⟩
 have hki: ¬k<i:=by have:=of_decide_eq_false h;omega
 rw[hD.trans (ea hki),if_neg (by decide)] at hbd;rw[hbd];clear hbd;refine AW.exit (AW.seq ?_);refine AW.cut [2,5,39] (fun _:Unit=>[(2,.bx [dS ln,ay bs,ak js,an ds]),(5,.bx [dS nm,dI kind,dI a,dI pt,dI b,dI on,dI to]),(39,.d (dB (decide (kind≠0∧kind≠1))))]) (fun _=>True) ?_ (fun _ _=>?_)
 · refine qT 3 rfl ?_;refine aa.split (t:=34) rfl (fun h=>?_) (fun h=>?_)
   · have h1:kind≠0:=by simpa using h
     refine qU 5 rfl ?_;refine aa.nil ?_;exact⟨(),by rw[show decide (kind≠0∧kind≠1)=(kind != 1) by rw[Bool.eq_iff_iff];simp[h1]];rfl,trivial⟩
   · have h1:kind=0:=by simpa using h
     refine qU 5 rfl ?_;refine aa.nil ?_;exact⟨(),by rw[show decide (kind≠0∧kind≠1)=false by simp[h1]];rfl,trivial⟩
 refine AW.cond rfl (fun h=>?_) (fun h=>?_)
 · rw[if_pos (of_decide_eq_true h)] at hj;rw[hj];refine qX 1 rfl ?_;exact qN rfl
 rw[if_neg (of_decide_eq_false h)] at hj;refine AW.skip (AW.seq ?_);refine AW.cut [2,5,55] (fun _:Unit=>[(2,.bx [dS ln,ay bs,ak js,an ds]),(5,.bx [dS nm,dI kind,dI a,dI pt,dI b,dI on,dI to]),(55,.d (dB (!(gn a bs.length&&gn b bs.length))))]) (fun _=>True) ?_ (fun _ _=>?_)
 · refine qT 5 rfl ?_;rw[List.length_map];refine aa.call tok rfl rfl rfl rfl (ed a bs.length) ?_;refine aa.split (t:=45) rfl (fun h=>?_) (fun h=>?_)
   · refine qU 7 rfl ?_;rw[List.length_map];refine aa.call tok rfl rfl rfl rfl (ed b bs.length) ?_;refine qU 2 rfl ?_;refine aa.nil ?_;exact⟨(),by rw[h];rfl,trivial⟩
   · refine qU 10 rfl ?_;refine aa.nil ?_;exact⟨(),by rw[h];rfl,trivial⟩
 refine AW.cond rfl (fun h=>?_) (fun h=>?_)
 · rw[if_pos (iz h)] at hj;rw[hj];refine qX 1 rfl ?_;exact qN rfl
 have hab:gn a bs.length=true∧gn b bs.length=true:=by simpa using h
 rw[if_neg (by simp[hab])] at hj;obtain ⟨ha0,ha1⟩:=pj hab.1;obtain ⟨hb0,hb1⟩:=pj hab.2;obtain ⟨Bb,hBb⟩: ∃x,x=bs.getD b.toNat default:=⟨_,rfl⟩;obtain ⟨Ba,hBa⟩: ∃x,x=bs.getD a.toNat default:=⟨_,rfl⟩;have okb:=hb b.toNat;rw[← hBb] at hj okb;rw[← hBa] at hj;refine AW.skip (AW.seq ?_);refine qX 5 rfl ?_;refine aa.nil ?_;refine AW.cond rfl (fun h=>?_) (fun h=>?_)
 · rw[if_pos (by simpa using h)] at hj;rw[hj];refine qX 1 rfl ?_;exact qN rfl
 rw[if_neg (by simpa using h)] at hj;refine AW.skip (AW.seq ?_);refine AW.draw aJ 15 (by kernel_rfl) ?_;refine qP 4 rfl ?_;refine ae.idx tok Ba.D rfl rfl rfl rfl rfl ha0 (by rw[hBa];exact getM Body.D ha1) ?_;refine qP 6 rfl ?_;refine ae.idx tok Bb.D rfl rfl rfl rfl rfl hb0 (by rw[hBb];exact getM Body.D hb1) ?_;refine qP 3 rfl ?_;refine ae.nil ?_;refine qU 1 rfl ?_;refine qI ?_;refine AW.cut [5,8,88] (fun _:Unit=>[(5,.bx [dS nm,dI kind,dI a,dI pt,dI b,dI on,dI to]),(8,.d (mK Bb.pts)),(88,.d (dB (!(gn pt Ba.pts.length&&gn on Bb.pts.length))))]) (fun _=>True) ?_ (fun _ _=>?_)
 · refine qT 4 rfl ?_;rw[List.length_map];refine aa.call tok rfl rfl rfl rfl (ed pt Ba.pts.length) ?_;refine aa.split (t:=79) rfl (fun h=>?_) (fun h=>?_)
   · refine qU 6 rfl ?_;rw[List.length_map];refine aa.call tok rfl rfl rfl rfl (ed on Bb.pts.length) ?_;refine qU 2 rfl ?_;refine aa.nil ?_;exact⟨(),by rw[h];rfl,trivial⟩
   · refine qU 9 rfl ?_;refine aa.nil ?_;exact⟨(),by rw[h];rfl,trivial⟩
 refine AW.cond rfl (fun h=>?_) (fun h=>?_)
 · rw[if_pos (iz h)] at hj;rw[hj];refine qX 1 rfl ?_;exact qN rfl
 have hpo:gn pt Ba.pts.length=true∧gn on Bb.pts.length=true:=by simpa using h
 rw[if_neg (by simp[hpo])] at hj;obtain ⟨ho0,ho1⟩:=pj hpo.2;refine AW.skip (AW.seq ?_);refine qX 3 rfl ?_;refine aa.nil ?_;refine AW.cond rfl (fun h=>?_) (fun h=>?_)
 · rw[if_pos (by simpa using h)] at hj;refine AW.seq ?_;refine qX 3 rfl ?_;refine aa.nil ?_;refine AW.cond rfl (fun h=>?_) (fun h=>?_)
   · rw[if_neg (by simpa using h)] at hj;rw[hj];refine qX 1 rfl ?_;exact qN rfl
   · rw[if_pos (by simpa using h)] at hj;rw[hj];refine AW.skip ?_;refine qX 1 rfl ?_;exact qN rfl
 rw[if_neg (by simpa using h)] at hj;refine AW.skip (AW.seq ?_);refine qX 4 rfl ?_;rw[List.length_map];refine aa.call tok rfl rfl rfl rfl (ed to Bb.pts.length) ?_;refine qU 1 rfl ?_;refine aa.nil ?_;refine AW.cond rfl (fun h=>?_) (fun h=>?_)
 · rw[if_pos (iz h)] at hj;rw[hj];refine qX 1 rfl ?_;exact qN rfl
 have hto:gn to Bb.pts.length=true:=by simpa using h
 rw[if_neg (by simp[hto])] at hj;obtain ⟨ht0,ht1⟩:=pj hto;obtain ⟨p,hp⟩: ∃x,x=Bb.pts.getD on.toNat default:=⟨_,rfl⟩;obtain ⟨q,hq⟩: ∃x,x=Bb.pts.getD to.toNat default:=⟨_,rfl⟩;have okp:=okb.2.2 on.toNat;have okq:=okb.2.2 to.toNat;rw[← hp] at hj okp;rw[← hq] at hj okq;refine AW.skip (AW.seq (AW.seq ?_));refine AW.draw aJ 11 (by kernel_rfl) ?_;refine qP 3 rfl ?_;refine ae.idx tok p.D rfl rfl rfl rfl rfl ho0 (by rw[hp];exact getM Mark.D ho1) ?_;refine qP 4 rfl ?_;refine ae.idx tok q.D rfl rfl rfl rfl rfl ht0 (by rw[hq];exact getM Mark.D ht1) ?_;refine qP 1 rfl ?_;refine ae.call tok rfl rfl rfl rfl rfl (vQ p q okp okq hK) ?_;refine ae.nil ?_;refine aa.nil ?_;refine AW.cond rfl (fun h=>?_) (fun h=>?_)
 · rw[if_pos h] at hj;rw[hj];refine qX 1 rfl ?_;exact qN rfl
 · rw[if_neg (by rw[h];decide)] at hj;rw[hj];refine AW.skip ?_;refine qX 1 rfl ?_;exact qN rfl
set_option maxHeartbeats 1600000 in
theorem sF(l:Lkg)(i:Nat){K:Nat}(hl:l.ok K)(hin:i<l.drivers.length):Pure Tryz.prog 36 [l.D,dI i] (dI (cI l.bodies.length l.drivers i:Nat)):=by
 refine qJ 55 Tryz.func36 rfl rfl rfl rfl (by kernel_rfl) (fun B F0 w0=>?_);obtain ⟨ln,bs,js,ds⟩:=l;have dok:=hl.d i;have hn:=hl.nd;simp only[] at dok hn hin ⊢;unfold big at dok hn;show AW _ _ _ _ _ _ _ (cW 0 [D.ag [dS ln,ay bs,ak js,an ds],dI i]);obtain ⟨d,hde⟩: ∃d,d=ds.getD i default:=⟨_,rfl⟩;rw[← hde] at dok;have hdup:yh ds i=dD (fun k=>decide ((ds.getD k default).nm=d.nm)) i 0:=by rw[hde];rfl
 have hdup2:ya ds i=dD (fun k=>decide ((ds.getD k default).body=d.body)) i 0:=by rw[hde];rfl
 have hbd:cI bs.length ds i=if b3 d.nm=false then 5 else if yh ds i=true then 6 else if gn d.body bs.length=false then 9 else if d.body=0 then 7 else if ya ds i=true then 6 else 0:=by rw[hde];rfl
 generalize cI bs.length ds i=E at *;refine qX 2 rfl ?_;refine qK 3 rfl ?_;refine aa.idx tok d.D rfl rfl rfl rfl (Int.natCast_nonneg i) (by rw[hde];exact getM Driver.D hin) ?_;refine qU 3 rfl ?_;refine qI ?_;refine qX 2 rfl ?_;refine aa.call tok rfl rfl rfl rfl (gk d.nm dok) ?_;refine qU 1 rfl ?_;refine aa.nil ?_;refine AW.cond rfl (fun h=>?_) (fun h=>?_)
 · rw[if_pos (iz h)] at hbd;rw[hbd];refine qX 1 rfl ?_;exact qN rfl
 rw[if_neg (by simpa using h)] at hbd;refine AW.skip (AW.seq ?_);refine qX 1 rfl ?_;refine aa.nil ?_;refine AW.block ?_
 refine AW.aD [1,2,5,6] (fun k:Nat=>[(1,.d (dI i)),(2,.bx [dS ln,ay bs,ak js,an ds]),(5,.bx [dS d.nm,dI d.body]),(6,.d (dI k))])
  (fun k=>k≤i∧yh ds i=dD (fun k=>decide ((ds.getD k default).nm=d.nm)) (i-k) k) (fun k=>i-k) 0 rfl ⟨Nat.zero_le _,hdup⟩ (fun k ⟨hk,hD⟩=>?_)
 refine AW.seq ?_;refine qX 3 rfl ?_;refine aa.nil ?_;refine AW.cond rfl (fun h=>?_) (fun h=>?_)
 · have hki:k<i:=by have:=of_decide_eq_true h;omega
   refine AW.skip (AW.seq (AW.block (AW.seq ?_)));refine AW.draw aJ 9 (by kernel_rfl) ?_;refine qP 3 rfl ?_;refine ae.idx tok (ds.getD k default).D rfl rfl rfl rfl rfl (Int.natCast_nonneg k) (getM Driver.D (by omega)) ?_;refine qP 5 rfl ?_;rw[jS];refine ae.nil ?_;refine aa.nil ?_;refine AW.cond rfl (fun h=>?_) (fun h=>?_)
   · rw[hD.trans (dZ hki h)] at hbd;rw[show E=6 from hbd];refine qX 1 rfl ?_;exact qN rfl
   · refine AW.skip ?_;refine qT 3 rfl ?_;rw[aq (x:=(k:Int)+1) (by omega) (by omega)];refine aa.nil ?_;exact⟨k+1,rfl,⟨hki,hD.trans (cY hki h)⟩,by omega⟩
 have hki: ¬k<i:=by have:=of_decide_eq_false h;omega
 rw[hD.trans (ea hki),if_neg (by decide)] at hbd;refine AW.exit (AW.seq ?_);refine qX 5 rfl ?_;rw[List.length_map];refine aa.call tok rfl rfl rfl rfl (ed d.body bs.length) ?_;refine qU 1 rfl ?_;refine aa.nil ?_;refine AW.cond rfl (fun h=>?_) (fun h=>?_)
 · rw[if_pos (iz h)] at hbd;rw[hbd];refine qX 1 rfl ?_;exact qN rfl
 have hinb:gn d.body bs.length=true:=by simpa using h
 rw[if_neg (by simp[hinb])] at hbd;refine AW.skip (AW.seq ?_);refine qX 3 rfl ?_;refine aa.nil ?_;refine AW.cond rfl (fun h=>?_) (fun h=>?_)
 · rw[if_pos (by simpa using h)] at hbd;rw[hbd];refine qX 1 rfl ?_;exact qN rfl
 rw[if_neg (by simpa using h)] at hbd;refine AW.skip (AW.seq ?_);refine qX 1 rfl ?_;refine aa.nil ?_;refine AW.block ?_
 refine AW.aD [1,2,5,7] (fun k:Nat=>[(1,.d (dI i)),(2,.bx [dS ln,ay bs,ak js,an ds]),(5,.bx [dS d.nm,dI d.body]),(7,.d (dI k))])
  (fun k=>k≤i∧ya ds i=dD (fun k=>decide ((ds.getD k default).body=d.body)) (i-k) k) (fun k=>i-k) 0 rfl ⟨Nat.zero_le _,hdup2⟩ (fun k ⟨hk,hD⟩=>?_)
 refine AW.seq ?_;refine qX 3 rfl ?_;refine aa.nil ?_;refine AW.cond rfl (fun h=>?_) (fun h=>?_)
 · have hki:k<i:=by have:=of_decide_eq_true h;omega
   refine AW.skip (AW.seq (AW.block (AW.seq ?_)));refine AW.draw aJ 9 (by kernel_rfl) ?_;refine qP 3 rfl ?_;refine ae.idx tok (ds.getD k default).D rfl rfl rfl rfl rfl (Int.natCast_nonneg k) (getM Driver.D (by omega)) ?_;refine qP 5 rfl ?_;refine ae.nil ?_;refine aa.nil ?_;refine AW.cond rfl (fun h=>?_) (fun h=>?_)
   · have h':decide ((ds.getD k default).body=d.body)=true:=by simpa using h
     rw[hD.trans (dZ hki h')] at hbd;rw[show E=6 from hbd];refine qX 1 rfl ?_;exact qN rfl
   · have h':decide ((ds.getD k default).body=d.body)=false:=by simpa using h
     refine AW.skip ?_;refine qT 3 rfl ?_;rw[aq (x:=(k:Int)+1) (by omega) (by omega)];refine aa.nil ?_;exact⟨k+1,rfl,⟨hki,hD.trans (cY hki h')⟩,by omega⟩
 have hki: ¬k<i:=by have:=of_decide_eq_false h;omega
 rw[hD.trans (ea hki),if_neg (by decide)] at hbd;rw[hbd];refine AW.exit ?_;refine qX 1 rfl ?_;exact qN rfl
theorem uO{n:Nat}(h:(((n:Nat):Int) != 0)=true):n≠0:=by rintro rfl;cases h
theorem x8{n:Nat}(h:(((n:Nat):Int) != 0)=false):n=0:=by
 have:((n:Nat):Int)=0:=by simpa using h
 omega
set_option maxHeartbeats 1600000 in
theorem uq(l:Lkg){K:Nat}(hl:l.ok K)(hK:K≤5000000):Pure Tryz.prog 15 [l.D] (dI (w7 l:Nat)):=by
 refine qJ 59 Tryz.func15 rfl rfl rfl rfl (by kernel_rfl) (fun B F0 w0=>?_);have c1:=sG l hl (by omega);have c2:=fun i=>uo l i hl hK;have c3:=fun i=>sF l i hl
 have hcd:w7 l=if b3 l.nm=false then 5 else if l.bodies=[] then 10 else if 8<l.bodies.length then 4 else
  if bh l.bodies≠0 then bh l.bodies else if cG l.bodies l.joints≠0 then cG l.bodies l.joints else gr l.bodies.length l.drivers:=rfl
 generalize w7 l=E at *;obtain ⟨ln,bs,js,ds⟩:=l;have hnm:=hl.nm;have hnb:=hl.nb;have hnj:=hl.nj;have hnd:=hl.nd;simp only[] at hcd c1 c2 c3 hnm hnb hnj hnd ⊢;unfold big at hnm hnb hnj hnd;show AW _ _ _ _ _ _ _ (cW 0 [D.ag [dS ln,ay bs,ak js,an ds]]);refine qX 2 rfl ?_;refine qI ?_;refine qX 2 rfl ?_;refine aa.call tok rfl rfl rfl rfl (gk ln hnm) ?_;refine qU 1 rfl ?_;refine aa.nil ?_;refine AW.cond rfl (fun h=>?_) (fun h=>?_)
 · rw[if_pos (iz h)] at hcd;rw[hcd];refine qX 1 rfl ?_;exact qN rfl
 rw[if_neg (by simpa using h)] at hcd;refine AW.skip (AW.seq ?_);refine qX 4 rfl ?_;rw[List.length_map];refine aa.nil ?_;refine AW.cond rfl (fun h=>?_) (fun h=>?_)
 · have h0:bs=[]:=List.length_eq_zero_iff.1 (by have:(bs.length:Int)=0:=by simpa using h
                                                omega)
   rw[if_pos h0] at hcd;rw[hcd];refine qX 1 rfl ?_;exact qN rfl
 have h0:bs≠[]:=by rintro rfl;simp at h
 rw[if_neg h0] at hcd;refine AW.skip (AW.seq ?_);refine qX 4 rfl ?_;rw[List.length_map];refine aa.nil ?_;refine AW.cond rfl (fun h=>?_) (fun h=>?_)
 · have h8:8<bs.length:=by have:=of_decide_eq_true h;omega
   rw[if_pos h8] at hcd;rw[hcd];refine qX 1 rfl ?_;exact qN rfl
 have h8: ¬8<bs.length:=by have:=of_decide_eq_false h;omega
 rw[if_neg h8] at hcd;refine AW.skip (AW.seq ?_);refine qX 1 rfl ?_;refine aa.call tok rfl rfl rfl rfl c1 ?_;refine qU 1 rfl ?_;refine qK 2 rfl ?_;refine aa.nil ?_;refine AW.cond rfl (fun h=>?_) (fun h=>?_)
 · rw[if_pos (uO h)] at hcd;rw[hcd];refine qX 2 rfl ?_;exact qN rfl
 rw[if_neg (fun e=>e (x8 h))] at hcd;refine AW.skip (AW.seq ?_);refine qX 4 rfl ?_;rw[List.length_map];refine aa.nil ?_;refine AW.cond rfl (fun h=>?_) (fun h=>?_)
 · have h16:16<js.length:=by have:=of_decide_eq_true h;omega
   have hje:cG bs js=4:=by rw[cG,if_pos h16]
   rw[hje,if_pos (by decide)] at hcd;rw[hcd];refine qX 1 rfl ?_;exact qN rfl
 have h16: ¬16<js.length:=by have:=of_decide_eq_false h;omega
 have hje:cG bs js=fE (de bs js) js.length 0:=by rw[cG,if_neg h16]
 refine AW.skip (AW.seq ?_);refine qX 1 rfl ?_;refine aa.nil ?_;refine AW.block ?_
 refine AW.aD [1,4] (fun i:Nat=>[(1,.bx [dS ln,ay bs,ak js,an ds]),(4,.d (dI i))])
  (fun i=>i≤js.length∧cG bs js=fE (de bs js) (js.length-i) i) (fun i=>js.length-i) 0 rfl ⟨Nat.zero_le _,hje⟩ (fun i ⟨hi,hE⟩=>?_)
 refine AW.seq ?_;refine qX 5 rfl ?_;rw[List.length_map];refine aa.nil ?_;refine AW.cond rfl (fun h=>?_) (fun h=>?_)
 · have hin:i<js.length:=by have:=of_decide_eq_true h;omega
   refine AW.skip (AW.seq (AW.block ?_));refine qX 2 rfl ?_;refine aa.call tok rfl rfl rfl rfl (c2 i hin) ?_;refine qU 1 rfl ?_;refine qK 2 rfl ?_;refine aa.nil ?_;refine AW.cond rfl (fun h=>?_) (fun h=>?_)
   · rw[hE.trans (dh hin (uO h)),if_pos (uO h)] at hcd;rw[hcd];refine qX 2 rfl ?_;exact qN rfl
   · refine AW.skip ?_;refine qT 3 rfl ?_;rw[aq (x:=(i:Int)+1) (by omega) (by omega)];refine aa.nil ?_;exact⟨i+1,rfl,⟨hin,hE.trans (bU hin (x8 h))⟩,by omega⟩
 have hin: ¬i<js.length:=by have:=of_decide_eq_false h;omega
 rw[hE.trans (dk hin),if_neg (by decide)] at hcd;refine AW.exit (AW.seq ?_);refine qX 4 rfl ?_;rw[List.length_map];refine aa.nil ?_;refine AW.cond rfl (fun h=>?_) (fun h=>?_)
 · have h2:2<ds.length:=by have:=of_decide_eq_true h;omega
   rw[gr,if_pos h2] at hcd;rw[hcd];refine qX 1 rfl ?_;exact qN rfl
 have h2: ¬2<ds.length:=by have:=of_decide_eq_false h;omega
 rw[gr,if_neg h2] at hcd;refine AW.skip (AW.seq ?_);refine qX 1 rfl ?_;refine aa.nil ?_;refine AW.block ?_
 refine AW.aD [1,6] (fun i:Nat=>[(1,.bx [dS ln,ay bs,ak js,an ds]),(6,.d (dI i))])
  (fun i=>i≤ds.length∧E=fE (cI bs.length ds) (ds.length-i) i) (fun i=>ds.length-i) 0 rfl ⟨Nat.zero_le _,hcd⟩ (fun i ⟨hi,hE⟩=>?_)
 refine AW.seq ?_;refine qX 5 rfl ?_;rw[List.length_map];refine aa.nil ?_;refine AW.cond rfl (fun h=>?_) (fun h=>?_)
 · have hin:i<ds.length:=by have:=of_decide_eq_true h;omega
   refine AW.skip (AW.seq (AW.block ?_));refine qX 2 rfl ?_;refine aa.call tok rfl rfl rfl rfl (c3 i hin) ?_;refine qU 1 rfl ?_;refine qK 2 rfl ?_;refine aa.nil ?_;refine AW.cond rfl (fun h=>?_) (fun h=>?_)
   · rw[hE.trans (dh hin (uO h))];refine qX 2 rfl ?_;exact qN rfl
   · refine AW.skip ?_;refine qT 3 rfl ?_;rw[aq (x:=(i:Int)+1) (by omega) (by omega)];refine aa.nil ?_;exact⟨i+1,rfl,⟨hin,hE.trans (bU hin (x8 h))⟩,by omega⟩
 have hin: ¬i<ds.length:=by have:=of_decide_eq_false h;omega
 rw[hE.trans (dk hin)];refine AW.exit ?_;refine qX 1 rfl ?_;exact qN rfl
end Lift
namespace Lift
open Go Go.Proofs
def A2(rt:List (List RD))(a:List RD):D:=if iH rt [a]≠0 then .tu [af [],dI (iH rt [a])] else .tu [af (fm (ar a)),dI 0]
theorem xz{m:Nat}{rt:List (List RD)}{a:List RD}(T:mJ m rt)(A:iI m rt a):Pure Tryz.prog 68 [se rt,aY a] (A2 rt a):=by
 refine qJ 17 Tryz.func68 rfl rfl rfl rfl (by kernel_rfl) (fun B F0 w0=>?_);have ce:=vS T A;have hm:=T.m2;unfold A2;refine qX 3 rfl ?_;refine qI ?_;refine qX 2 rfl ?_;refine aa.mF tok rfl rfl rfl rfl rfl ?_;refine aa.call tok rfl rfl rfl rfl ce ?_;refine qU 1 rfl ?_;refine qK 2 rfl ?_;refine aa.nil ?_;by_cases e2:iH rt [a]=0;rotate_left
 · rw[if_pos e2,bne_iff_ne.2 (show ((iH rt [a]:Nat):Int)≠0 by omega)];refine AW.az rfl ?_;refine qX 3 rfl ?_;exact qN rfl
 rw[if_neg (fun h=>h e2),bne_eq_false_iff_eq.2 (show ((iH rt [a]:Nat):Int)=0 by omega)];obtain ⟨k1,k2⟩:=vm e2;have h5:=(nJ k1).1;obtain ⟨n1,n2,n3⟩:=gD T.m1 A k2;have nl:=n1.len (by omega);have cl:=o7 (ar a) n2 (by omega) (by omega);have cs:=gQ (bc (ar a)) n1.minus h5;rw[← n3] at cl;refine AW.ao rfl ?_;refine AW.skip ?_;refine qX 1 rfl ?_;refine aa.call tok rfl rfl rfl rfl cl ?_;refine aa.call tok rfl rfl rfl rfl cs ?_;refine qU 2 rfl ?_;exact qN rfl
theorem qM{m:Nat}{rt:List (List RD)}(p:dH)(T:mJ m rt)(hp:p.ok m rt)(h0:ck rt=0):Pure Tryz.prog 38 [se rt,p.D] (dI (tt rt p)):=by
 refine qJ 36 Tryz.func38 rfl rfl rfl rfl (by kernel_rfl) (fun B F0 w0=>?_)
 have hq: ∀k,k<4→ ∃q,[aY p.c,aY p.s,aY p.x,aY p.y][k]?=some (aY q)∧zQ rt p k=bp rt.length q∧iI m rt q:=fun k hk=>by
  rcases k with _ | k
  · exact⟨p.c,rfl,rfl,hp.c⟩
  rcases k with _ | k
  · exact⟨p.s,rfl,rfl,hp.s⟩
  rcases k with _ | k
  · exact⟨p.x,rfl,rfl,hp.x⟩
  rcases k with _ | k
  · exact⟨p.y,rfl,rfl,hp.y⟩
  omega
 unfold tt;obtain ⟨E,hE⟩: ∃E,fE (zQ rt p) (4-0) 0=E:=⟨_,rfl⟩;rw[hE];refine qX 3 rfl ?_;refine qK 8 rfl ?_;refine aa.mF tok rfl rfl rfl rfl rfl ?_;refine qU 1 rfl ?_;refine qI ?_;refine qX 1 rfl ?_;refine aa.nil ?_;refine AW.block ?_;refine AW.aD [2,5,6] (fun i:Nat=>[(2,.bx [.sl 1 (rt.map aY)]),(5,.d (.sl 1 [aY p.c,aY p.s,aY p.x,aY p.y])),(6,.d (dI i))]) (fun i=>i≤4∧fE (zQ rt p) (4-i) i=E) (fun i=>4-i) 0 rfl ⟨Nat.zero_le _,hE⟩ (fun i ⟨hi,hiE⟩=>?_);refine AW.seq ?_;refine qX 4 rfl ?_;refine aa.nil ?_;by_cases hii:i<4;rotate_left
 · rw[dk hii] at hiE;subst hiE;have:i=4:=by omega
   subst this;refine AW.ao rfl ?_;refine AW.exit ?_;refine qX 1 rfl ?_;exact qN rfl
 obtain ⟨q,hg,hgq,hqo⟩:=hq i hii;have cn:=xz T hqo;have hmiss:=fun h0:zQ rt p i=0=>(bU hii h0).symm.trans hiE;have hhit:=fun h0:zQ rt p i≠0=>(dh hii h0).symm.trans hiE;unfold A2 at cn;rw[D1 h0] at cn;rw[hgq] at hmiss hhit;rw[show decide ((i:Int)<(([aY p.c,aY p.s,aY p.x,aY p.y]:List D).length:Int))=true from decide_eq_true (by show (i:Int)<((4:Nat):Int);omega)];refine AW.az rfl ?_;refine AW.skip (AW.seq (AW.block (AW.seq ?_)));by_cases hz:bp rt.length q=0;rotate_left
 · rw[if_pos hz] at cn;have:=hhit hz;subst this;refine AW.draw aJ 10 (by kernel_rfl) ?_;refine qP 3 rfl ?_;refine ae.idx tok (aY q) rfl rfl rfl rfl rfl (Int.natCast_nonneg i) hg ?_;refine qP 1 rfl ?_;refine ae.call tok rfl rfl rfl rfl rfl cn ?_;refine qP 4 rfl ?_;refine ae.nil ?_;refine qU 1 rfl ?_;refine qK 2 rfl ?_;rw[bne_iff_ne.2 (show ((bp rt.length q:Nat):Int)≠0 by omega)];refine aa.nil ?_;refine AW.az rfl ?_;refine qX 2 rfl ?_;exact qN rfl
 rw[if_neg (fun h=>h hz)] at cn;refine AW.draw aJ 10 (by kernel_rfl) ?_;refine qP 3 rfl ?_;refine ae.idx tok (aY q) rfl rfl rfl rfl rfl (Int.natCast_nonneg i) hg ?_;refine qP 1 rfl ?_;refine ae.call tok rfl rfl rfl rfl rfl cn ?_;refine qP 4 rfl ?_;refine ae.nil ?_;refine qU 1 rfl ?_;refine qK 2 rfl ?_;refine aa.nil ?_;refine AW.ao rfl ?_;refine AW.skip ?_;refine qT 2 rfl ?_;rw[aq (x:=(i:Int)+1) (by omega) (by omega)];refine qU 1 rfl ?_;refine aa.nil ?_;exact⟨i+1,rfl,⟨hii,hmiss hz⟩,by omega⟩
end Lift
namespace Lift
open Go Go.Proofs
theorem um(l:Lkg)(a:Asm){K m:Nat}(hl:l.ok K)(hK:K≤5000000)(ha:a.ok m):Pure Tryz.prog 16 [l.D,a.D] (dI (fo l a)):=by
 refine qJ 45 Tryz.func16 rfl rfl rfl rfl (by kernel_rfl) (fun B0 F0 w0=>?_);have cM:=uq l hl hK;obtain ⟨m0,t1,t2,tw,tk⟩:=ha.t.t;have cT:=nf a.rt tw t1 ha.t.l ha.t.ll tk;have hal:=ha.l;have haT:=ha.t;have hab:=ha.b;unfold fo;obtain ⟨E,hE⟩: ∃E,fE (fun i=>tt a.rt (a.bodies.getD i default)) (a.bodies.length-0) 0=E:=⟨_,rfl⟩;rw[hE];generalize w7 l=c1 at cM ⊢;obtain ⟨ln,lb,js,lds⟩:=l;obtain ⟨rt,bs,md⟩:=a;simp only[] at *;refine qX 3 rfl ?_;refine qI ?_;refine qX 1 rfl ?_;refine aa.call tok rfl rfl rfl rfl cM ?_;refine qU 1 rfl ?_;refine qK 2 rfl ?_;refine aa.nil ?_;by_cases e1:c1=0;rotate_left
 · rw[if_pos e1,bne_iff_ne.2 (show ((c1:Nat):Int)≠0 by omega)];refine AW.az rfl ?_;refine qX 2 rfl ?_;exact qN rfl
 rw[if_neg (fun h=>h e1),bne_eq_false_iff_eq.2 (show ((c1:Nat):Int)=0 by omega)];refine AW.ao rfl ?_;refine AW.skip (AW.seq ?_);refine qX 2 rfl ?_;refine aa.call tok rfl rfl rfl rfl cT ?_;refine qU 1 rfl ?_;refine qK 2 rfl ?_;refine aa.nil ?_;by_cases e2:ck rt=0;rotate_left
 · rw[if_pos e2,bne_iff_ne.2 (show ((ck rt:Nat):Int)≠0 by omega)];refine AW.az rfl ?_;refine qX 2 rfl ?_;exact qN rfl
 rw[if_neg (fun h=>h e2),bne_eq_false_iff_eq.2 (show ((ck rt:Nat):Int)=0 by omega)];refine AW.ao rfl ?_;refine AW.skip (AW.seq ?_);refine qX 2 rfl ?_;refine qU 1 rfl ?_;rw[List.length_map];refine qU 3 rfl ?_;rw[List.length_map];refine qU 1 rfl ?_;refine aa.nil ?_;by_cases e3:bs.length=lb.length;rotate_left
 · rw[if_pos e3,bne_iff_ne.2 (show ((bs.length:Nat):Int)≠((lb.length:Nat):Int) by omega)];refine AW.az rfl ?_;refine qX 1 rfl ?_;exact qN rfl
 rw[if_neg (fun h=>h e3),bne_eq_false_iff_eq.2 (show ((bs.length:Nat):Int)=((lb.length:Nat):Int) by omega)];refine AW.ao rfl ?_;refine AW.skip (AW.seq ?_);refine qX 1 rfl ?_;refine aa.nil ?_;refine AW.block ?_;refine AW.aD [3,7] (fun i:Nat=>[(3,.bx [.sl 1 (rt.map aY),.sl 4 (bs.map dH.D),.sl 1 (md.map (fun n=>dI n))]),(7,.d (dI i))]) (fun i=>i≤bs.length∧fE (fun i=>tt rt (bs.getD i default)) (bs.length-i) i=E) (fun i=>bs.length-i) 0 rfl ⟨Nat.zero_le _,hE⟩ (fun i ⟨hi,hiE⟩=>?_);refine AW.seq ?_;refine qX 4 rfl ?_;rw[List.length_map];refine qU 1 rfl ?_;refine aa.nil ?_;refine AW.cond rfl (fun h=>?_) (fun h=>?_);rotate_left
 · have hii: ¬i<bs.length:=by have:=of_decide_eq_false h;omega
   rw[dk hii] at hiE;subst hiE;refine AW.exit ?_;refine qX 1 rfl ?_;exact qN rfl
 have hii:i<bs.length:=by have:=of_decide_eq_true h;omega
 have hg:=getM dH.D hii;have cn:=qM (bs.getD i default) haT (hab i hii) e2;have hmiss:=fun h0:tt rt (bs.getD i default)=0=>(bU (f:=fun i=>tt rt (bs.getD i default)) hii h0).symm.trans hiE;have hhit:=fun h0:tt rt (bs.getD i default)≠0=>(dh (f:=fun i=>tt rt (bs.getD i default)) hii h0).symm.trans hiE;generalize tt rt (bs.getD i default)=z at cn hmiss hhit;refine AW.skip (AW.seq (AW.block (AW.seq ?_)));refine AW.draw aJ 8 (by kernel_rfl) ?_;refine qP 5 rfl ?_;refine ae.idx tok (bs.getD i default).D rfl rfl rfl rfl rfl (Int.natCast_nonneg i) hg ?_;refine qP 1 rfl ?_;refine ae.call tok rfl rfl rfl rfl rfl cn ?_;refine ae.nil ?_;refine qU 1 rfl ?_;refine qK 2 rfl ?_;refine aa.nil ?_;by_cases hz:z=0;rotate_left
 · have:=hhit hz;subst this;rw[bne_iff_ne.2 (show ((z:Nat):Int)≠0 by omega)];refine AW.az rfl ?_;refine qX 2 rfl ?_;exact qN rfl
 rw[bne_eq_false_iff_eq.2 (show ((z:Nat):Int)=0 by omega)];refine AW.ao rfl ?_;refine AW.skip ?_;refine qT 2 rfl ?_;rw[aq (x:=(i:Int)+1) (by omega) (by omega)];refine qU 1 rfl ?_;refine aa.nil ?_;exact⟨i+1,rfl,⟨hii,hmiss hz⟩,by omega⟩
end Lift
namespace Lift
open Go Go.Proofs
end Lift
namespace Lift
open Go Go.Proofs
abbrev AsD(v:List NQ)(bs:List dH)(md:List Int):D:= .ag [.sl 1 (v.map af),.sl 4 (bs.map dH.D),.sl 1 (md.map (fun n=>dI n))]
structure WhG (l:Lkg) (v:List NQ) (bs:List dH) (md:List Int) (X Y:Int→Int→NQ):Prop where
 b1:0<l.bodies.length
 b8:l.bodies.length≤8
 V:lr 16 v
 l2:v.length≤2
 w: ∀b p:Int,0≤b→b<l.bodies.length→0≤p→p<(l.bodies.getD b.toNat default).pts.length→Pure Tryz.prog 72 [l.D,AsD v bs md,dI b,dI p] (.tu [af (X b p),af (Y b p)])
 s: ∀b p:Int,0≤b→b<l.bodies.length→0≤p→p<(l.bodies.getD b.toNat default).pts.length→(aB v.length (X b p)∧aC 1400 (X b p))∧(aB v.length (Y b p)∧aC 1400 (Y b p))
theorem zP{r:List NQ}{b:Int}{n:Nat}(x y w:NQ)(hr:r.length=3*(n-1))(h:b<n)(h0:0≤b)(hn:0<n):(fC r b x y w).length=3*(n-1):=by
 rw[kP x y w (fun _=>by omega)];exact hr
end Lift
namespace Lift
open Go Go.Proofs
end Lift
namespace Lift
open Go Go.Proofs
def nP(v:List NQ)(q:NQ):Prop:=aB v.length q∧aC 300000 q
theorem nO(v:List NQ):nP v []:=⟨bG _,cE (by decide)⟩
theorem zA{P:NQ→Prop}{r:List NQ}(h: ∀q∈r,P q)(h0:P [])(k:Nat):P (r.getD k []):=by
 by_cases hk:k<r.length
 · rw[List.getD_eq_getElem?_getD,List.getElem?_eq_getElem hk];exact h _ (List.getElem_mem hk)
 · rw[u5 (by omega)];exact h0
theorem C1{P:NQ→Prop}{r:List NQ}{b:Int}{x y w:NQ}(h: ∀q∈r,P q)(hx:P x)(hy:P y)(hw:P w): ∀q∈fC r b x y w,P q:=fun q hq=>by
 unfold fC at hq;split at hq
 · rcases List.mem_append.1 hq with hq | hq
   · rcases List.mem_append.1 hq with hq | hq
     · exact h q (List.mem_of_mem_take hq)
     · simp only[List.mem_cons,List.not_mem_nil,or_false] at hq;rcases hq with rfl | rfl | rfl
       · exact hx
       · exact hy
       · exact hw
   · exact h q (List.mem_of_mem_drop hq)
 · exact h q hq
theorem A0(v:List NQ)(n:Nat): ∀q∈mg n,nP v q:=fun q hq=>by
 rw[(List.mem_replicate.1 hq).2];exact nO v
def E'(v:List NQ)(n:Nat)(r:List NQ):Prop:=r.length=3*(n-1)∧ ∀q∈r,nP v q
theorem jx{v:List NQ}{n:Nat}{r:List NQ}{b:Int}{x y w:NQ}(h:E' v n r)(hb:0≤b∧b<n)(hn:0<n)(hx:nP v x)(hy:nP v y)(hw:nP v w):E' v n (fC r b x y w) :=
 ⟨zP x y w h.1 hb.2 hb.1 hn,C1 h.2 hx hy hw⟩
structure DF (l:Lkg) (a:Asm):Prop where
 G:FU l a
 V:lr 16 (a.rt.map ar)
 l2:(a.rt.map ar).length≤2
 X: ∀b p:Int,0≤b→b<l.bodies.length→0≤p→p<(l.bodies.getD b.toNat default).pts.length→(aB (a.rt.map ar).length (w4 (a.rt.map ar) l a b p)∧aC 1400 (w4 (a.rt.map ar) l a b p))∧(aB (a.rt.map ar).length (w3 (a.rt.map ar) l a b p)∧aC 1400 (w3 (a.rt.map ar) l a b p))
 P: ∀b:Int,0≤b→b<l.bodies.length→(a.bodies.map dH.D)[b.toNat]?=some (yY (a.bodies.getD b.toNat default)).D∧(yY (a.bodies.getD b.toNat default)).ok (a.rt.map ar).length 16
 D:a.D=AsD (a.rt.map ar) a.bodies a.modes
theorem DL{l:Lkg}{a:Asm}(hl:l.ok 16)(ha:a.ok 16)(h2:a.rt.length≤2)(h:fo l a=0):DF l a:=by
 have G:=uw h;have V:=lr.of ha.t G.tw;have W:=mT ha.t G.tw;have hvl:(a.rt.map ar).length≤2:=by rw[List.length_map];exact h2
 have gP: ∀b:Int,0≤b→b<l.bodies.length→(a.bodies.map dH.D)[b.toNat]?=some (yY (a.bodies.getD b.toNat default)).D∧(yY (a.bodies.getD b.toNat default)).ok (a.rt.map ar).length 16:=fun b b0 b1=>by
  have hln:=G.ln;have hb:b.toNat<a.bodies.length:=by omega
  have h3:=Be (by decide) (ha.b _ hb) (G.pl _ hb);rw[List.length_map,← h3.2];exact⟨by simp[hb],h3.1⟩
 refine⟨G,V,hvl,fun b p b0 b1 p0 p1=>?_,gP,?_⟩
 · have hm:=(hl.b b.toNat).2.2 p.toNat;exact D4 V hvl (gP b b0 b1).2 (mq _ (bE hm.2.1 (by decide))) (mq _ (bE hm.2.2 (by decide)))
 · have:=W.eq;show D.ag [.sl 1 (a.rt.map aY),_,_]=D.ag [.sl 1 ((a.rt.map ar).map af),_,_];rw[show a.rt.map aY=(a.rt.map ar).map af by simpa using this]
theorem nP.of{v:List NQ}{q:NQ}{k:Nat}(h:aB v.length q∧aC k q)(hk:k≤300000):nP v q:=⟨h.1,h.2.mono hk⟩
theorem xP{l:Lkg}{a:Asm}(O:DF l a){j:bu}(J:GD l.bodies j): ∀r∈zW (a.rt.map ar) l a j,E' (a.rt.map ar) l.bodies.length r:=by
 have b1:=O.G.lk.b1;have l2:=O.l2;obtain ⟨x1,x2⟩:=O.X j.a j.pt J.a.1 J.a.2 J.pt.1 J.pt.2;obtain ⟨y1,y2⟩:=O.X j.b j.on J.b.1 J.b.2 J.on.1 J.on.2;have V:=O.V.mono (show 16≤3000 by decide) (by decide);have hz:E' (a.rt.map ar) l.bodies.length (mg l.bodies.length):=⟨qF _,A0 _ _⟩;have ja:=J.a;have jb:=J.b;have one:nP (a.rt.map ar) [1]:=⟨dG _ _,eB (by have:=fy;omega)⟩;have neg: ∀{q:NQ},nP (a.rt.map ar) q→nP (a.rt.map ar) (fm q):=fun h=>y7 h.1 h.2;have nil:=nO (a.rt.map ar);unfold zW;intro r hr;split at hr
 · rename_i hk;obtain ⟨z1,z2⟩:=O.X j.b j.to J.b.1 J.b.2 (J.to (by omega)).1 (J.to (by omega)).2;rw[List.mem_singleton] at hr;subst hr;have q1:=iN y2.1 y2.2 z2.1 z2.2;have q2:=iN z1.1 z1.2 y1.1 y1.2;have hT:sT (a.rt.map ar).length 3000≤126009:=Nat.le_trans (pW l2) (by decide);have p1:=eJ V q2.1 (q2.2.mono (by decide)) x1.1 (x1.2.mono (by decide));have p2:=eJ V q1.1 (q1.2.mono (by decide)) x2.1 (x2.2.mono (by decide));have q3:=iN p1.1 (p1.2.mono hT) p2.1 (p2.2.mono hT);have e1:nP (a.rt.map ar) _:=nP.of q1 (by decide);have e2:nP (a.rt.map ar) _:=nP.of q2 (by decide);have e3:nP (a.rt.map ar) _:=nP.of q3 (by decide);exact jx (jx hz ja b1 e1 e2 e3) jb b1 (neg e1) (neg e2) (neg e3)
 · have e1:nP (a.rt.map ar) _:=nP.of x1 (by decide);have e2:nP (a.rt.map ar) _:=nP.of x2 (by decide);have e3:nP (a.rt.map ar) _:=nP.of y1 (by decide);have e4:nP (a.rt.map ar) _:=nP.of y2 (by decide);simp only[List.mem_cons,List.not_mem_nil,or_false] at hr;rcases hr with rfl | rfl
   · exact jx (jx hz ja b1 one nil (neg e2)) jb b1 (neg one) nil e4
   · exact jx (jx hz ja b1 nil one e1) jb b1 nil (neg one) (neg e3)
theorem tc{l:Lkg}{a:Asm}(O:DF l a): ∀i,i≤l.joints.length→ ∀r∈gJ (a.rt.map ar) l a i,E' (a.rt.map ar) l.bodies.length r
 | 0,_,r,hr=>by cases hr
 | i+1,hi,r,hr=>by
   rcases List.mem_append.1 hr with h | h
   · exact tc O i (by omega) r h
   · exact xP O (O.G.lk.j i (by omega)) r h
theorem uP{l:Lkg}{a:Asm}(O:DF l a){i:Nat}(hi:i<(mu l a).length):E' (a.rt.map ar) l.bodies.length ((mu l a).getD i []):=by
 rw[List.getD_eq_getElem?_getD,List.getElem?_eq_getElem hi];exact tc O _ (Nat.le_refl _) _ (List.getElem_mem hi)
theorem DO{l:Lkg}{a:Asm}(O:DF l a)(i k:Nat):nP (a.rt.map ar) (ig (mu l a) i k):=by
 unfold ig;by_cases hi:i<(mu l a).length
 · exact zA (uP O hi).2 (nO _) k
 · rw[u7 (by omega)];exact nO _
theorem Bp{l:Lkg}{a:Asm}(O:DF l a):(mu l a).length≤32:=by
 have h1:=lC (a.rt.map ar) l a l.joints.length;have h2:=O.G.lk.j16;unfold mu;omega
theorem y9{l:Lkg}{a:Asm}(O:DF l a)(h:0<(mu l a).length):fK (mu l a)=3*(l.bodies.length-1):=(uP O h).1
theorem Ft{l:Lkg}{a:Asm}(O:DF l a):Gc (a.rt.map ar) (mu l a):=by
 refine⟨Bp O,fun j hj=>?_,?_,fun i k=>(DO O i k).1⟩
 · rw[(uP O hj).1,y9 O (by omega)]
 · by_cases h:0<(mu l a).length
   · rw[y9 O h];have:=O.G.lk.b8;omega
   · unfold fK;rw[u7 (by omega)];exact Nat.zero_le _
end Lift
namespace Lift
open Go Go.Proofs
theorem kX(n:Int)(hn: -1000≤n∧n≤1000):Pure Tryz.prog 50 [dI n] (aY [Qr (n:Rat)]):=by
 refine qJ 6 Tryz.func50 rfl rfl rfl rfl (by kernel_rfl) (fun B F0 w0=>?_);have c1:=tj n (by omega) (by omega);refine qX 1 rfl ?_;refine qK 1 rfl ?_;refine aa.call tok rfl rfl rfl rfl c1 ?_;refine aa.mF tok rfl rfl rfl rfl rfl ?_;refine qU 1 rfl ?_;exact qN rfl
abbrev Gr:List Mark:=[⟨⟨#[79]⟩,Qr 0,Qr 0⟩,⟨⟨#[65]⟩,Qr ((1:Int):Rat),Qr 0⟩]
abbrev x6:Lkg:=⟨⟨#[109]⟩,[⟨⟨#[102,114,97,109,101]⟩,Gr⟩,⟨⟨#[99,114,97,110,107]⟩,Gr⟩],[⟨⟨#[106]⟩,0,1,0,0,0,0⟩],[]⟩
abbrev F7:dH:=⟨[Qr ((1:Int):Rat)],[Qr ((0:Int):Rat)],[Qr ((0:Int):Rat)],[Qr ((0:Int):Rat)]⟩
abbrev zm:Asm:=⟨[],[F7,F7],[]⟩
theorem oB:Pure Tryz.prog 29 [] (.tu [x6.D,zm.D]):=by
 refine qJ 27 Tryz.func29 rfl rfl rfl rfl (by kernel_rfl) (fun B F0 w0=>?_);have c1:=tj 1 (by omega) (by omega);have w1:=kX 1 (by omega);have w0':=kX 0 (by omega)
 have e1:Mark.D ⟨⟨#[79]⟩,Qr 0,Qr 0⟩= .ag [dS ⟨#[79]⟩,dB false,.sl 1 [],.sl 1 [],dB false,.sl 1 [],.sl 1 []]:=by
  show D.ag [dS ⟨#[79]⟩,dB (Qr 0).g,Wd (Qr 0).n,Wd (Qr 0).d,dB (Qr 0).g,Wd (Qr 0).n,Wd (Qr 0).d]=_;rw[gg];rfl
 have e2: ∀r:RD,Mark.D ⟨⟨#[65]⟩,r,Qr 0⟩= .ag [dS ⟨#[65]⟩,dB r.g,Wd r.n,Wd r.d,dB false,.sl 1 [],.sl 1 []]:=fun r=>by
  show D.ag [dS ⟨#[65]⟩,dB r.g,Wd r.n,Wd r.d,dB (Qr 0).g,Wd (Qr 0).n,Wd (Qr 0).d]=_;rw[gg];rfl
 have eL:x6.D= .ag [dS ⟨#[109]⟩,.sl 2 [.ag [dS ⟨#[102,114,97,109,101]⟩,.sl 7 [.ag [dS ⟨#[79]⟩,dB false,.sl 1 [],.sl 1 [],dB false,.sl 1 [],.sl 1 []],.ag [dS ⟨#[65]⟩,dB (Qr ((1:Int):Rat)).g,Wd (Qr ((1:Int):Rat)).n,Wd (Qr ((1:Int):Rat)).d,dB false,.sl 1 [],.sl 1 []]]],.ag [dS ⟨#[99,114,97,110,107]⟩,.sl 7 [.ag [dS ⟨#[79]⟩,dB false,.sl 1 [],.sl 1 [],dB false,.sl 1 [],.sl 1 []],.ag [dS ⟨#[65]⟩,dB (Qr ((1:Int):Rat)).g,Wd (Qr ((1:Int):Rat)).n,Wd (Qr ((1:Int):Rat)).d,dB false,.sl 1 [],.sl 1 []]]]],.sl 7 [.ag [dS ⟨#[106]⟩,dI 0,dI 1,dI 0,dI 0,dI 0,dI 0]],.sl 2 []]:=by
  rw[← e1,← e2];rfl
 have eA:zm.D= .ag [.sl 1 [],.sl 4 [.ag [aY [Qr ((1:Int):Rat)],aY [Qr ((0:Int):Rat)],aY [Qr ((0:Int):Rat)],aY [Qr ((0:Int):Rat)]],.ag [aY [Qr ((1:Int):Rat)],aY [Qr ((0:Int):Rat)],aY [Qr ((0:Int):Rat)],aY [Qr ((0:Int):Rat)]]],.sl 1 []]:=rfl;rw[eL,eA];clear eL eA e1 e2;generalize Qr ((1:Int):Rat)=q at *;generalize Qr ((0:Int):Rat)=z at *;refine qX 2 rfl ?_;refine qK 1 rfl ?_;refine aa.call tok rfl rfl rfl rfl c1 ?_;refine qU 1 rfl ?_;refine aa.mF tok rfl rfl rfl rfl rfl ?_;refine qU 1 rfl ?_;refine qK 4 rfl ?_;refine aa.mF tok rfl rfl rfl rfl rfl ?_;refine qU 1 rfl ?_;refine aa.mF tok rfl rfl rfl rfl rfl ?_;refine qU 3 rfl ?_;refine qI (AW.region ?_);refine aa.call tok rfl rfl rfl rfl w1 ?_;refine aa.call tok rfl rfl rfl rfl w0' ?_;refine aa.call tok rfl rfl rfl rfl w0' ?_;refine aa.call tok rfl rfl rfl rfl w0' ?_;refine qU 3 rfl ?_;refine qI ?_;refine AW.l7 tok aJ [(1,true),(4,false)] 5 [0,1] (by kernel_rfl) ⟨rfl,?_⟩;refine qP 1 rfl ?_;refine ae.nil ⟨rfl,?_⟩;refine qP 2 rfl ?_;refine ae.mF tok rfl rfl rfl rfl rfl rfl ?_;refine qP 1 rfl ?_;refine ae.nil ⟨_,l8.cons (.bx rfl) (l8.cons (.bx rfl) (l8.nil)),?_⟩;exact qN rfl
abbrev po:gY:=[[[1],[],[]],[[],[1],[]]]
instance:DecidableEq lS:=fun a b=>if h:a.rows=b.rows∧a.cols=b.cols∧a.sg=b.sg∧a.det=b.det then isTrue (by
  cases a;cases b;obtain ⟨h1,h2,h3,h4⟩:=h;simp only[] at h1 h2 h3 h4;subst h1;subst h2;subst h3;subst h4;rfl) else isFalse (fun e=>h (by subst e;exact⟨rfl,rfl,rfl,rfl⟩))
theorem x4:fo x6 zm=0:=by decide +kernel
theorem Dv:w7 x6=0:=by decide +kernel
theorem DT:mu x6 zm=po:=by decide +kernel
theorem FF:fB [] po 1=⟨po,[0],1,[1]⟩:=by decide +kernel
theorem FE:fB [] po 2=⟨po,[0,1],1,[1]⟩:=by decide +kernel
theorem FD:fB [] po 3=⟨po,[0,1],1,[1]⟩:=by decide +kernel
theorem x5(i k:Nat):aC 1 (ig po i k)∧aB 0 (ig po i k):=by
 have h:ig po i k=[]∨ig po i k=[1]:=by
  match i,k with
  | 0,0=>exact .inr rfl
  | 0,1=>exact .inl rfl
  | 0,2=>exact .inl rfl
  | 0,_+3=>exact .inl rfl
  | 1,0=>exact .inl rfl
  | 1,1=>exact .inr rfl
  | 1,2=>exact .inl rfl
  | 1,_+3=>exact .inl rfl
  | _+2,_=>exact .inl rfl
 rcases h with h | h
 · rw[h];exact⟨cE (by decide),bG _⟩
 · rw[h];exact⟨eB fy,dG _ _⟩
theorem vA{k:Nat}(h:1≤k):ff k []:=fun i=>by
 rw[show ([]:List NQ).getD i []=[] by simp];exact cE h
theorem wW:cZ []:=fun j hj=>absurd hj (Nat.not_lt_zero _)
theorem Bj{a b:NQ}(ha:aB 0 a)(hb:aB 0 b)(sa:aC 1 a)(sb:aC 1 b):y0 [] a b :=
 ⟨sa.mono (by decide),sb.mono (by decide),oe 0 ha hb wW (Nat.le_refl _) sa sb (vA (Nat.le_refl _)) (by decide),(cD 0 ha hb wW (Nat.le_refl _) sa sb (vA (Nat.le_refl _))).2.mono (by decide)⟩
theorem BO:sN 0 [] [1]=[1]:=by decide +kernel
theorem Ez{a:NQ}(ha:aB 0 a)(sa:aC 1 a):Bl [] a [1]:=by
 have h1:aC 1 ([1]:NQ):=eB fy;have hb:aB 0 ([1]:NQ):=dG _ _;have m:=Bj ha hb sa h1;refine⟨m.1,m.2.1,m.2.1,by decide +kernel,⟨m.2.1,by decide +kernel⟩,?_,?_⟩
 · show yZ 0 [] a (sN 0 [] [1]);rw[BO];exact m.2.2.1
 · show mc (a6 0 [] a (sN 0 [] [1]));rw[BO];exact m.2.2.2
theorem vb{cols:List Nat}{c:Nat}{p:NQ}(h1:atR [] ⟨po,cols,1,[1]⟩ c<2→bR [] ⟨po,cols,1,[1]⟩ c=po∧eR [] ⟨po,cols,1,[1]⟩ c=po∧pR [] ⟨po,cols,1,[1]⟩ c=[1])
  (h2:atR [] ⟨po,cols,1,[1]⟩ c<2→ ∀i,i<2→i≠cols.length→vr [] (ig po i c)=0):sh [] ⟨po,cols,1,[1]⟩ c:=by
 have k: ∀i k,mc (ig po i k):=fun i k=>(x5 i k).1.mono (by decide);refine⟨fun j _ _=>k j c,fun h=>?_,fun h j _=>?_,fun h i _ _=>?_,fun h i hi hn hs=>?_⟩
 · rw[(h1 h).2.2];exact Bj (dG _ _) (dG _ _) (eB fy) (eB fy)
 · rw[(h1 h).2.2,(h1 h).1];exact Ez (x5 _ _).2 (x5 _ _).1
 · rw[(h1 h).2.1];exact k i c
 · rw[(h1 h).2.1] at hs;exact absurd (h2 h i hi hn) hs
theorem FG: ∀c,c<3→sh [] (fB [] po c) c
 | 0,_=>vb (p:=[]) (fun _=>⟨by decide +kernel,by decide +kernel,by decide +kernel⟩) (fun _ i hi hn=>by
   have h: ∀i:Fin 2,i.val≠0→vr [] (ig po i.val 0)=0:=by decide +kernel
   exact h ⟨i,hi⟩ hn)
 | 1,_=>by
   rw[FF]
   exact vb (p:=[]) (fun _=>⟨by decide +kernel,by decide +kernel,by decide +kernel⟩) (fun _ i hi hn=>by
    have h: ∀i:Fin 2,i.val≠1→vr [] (ig po i.val 1)=0:=by decide +kernel
    exact h ⟨i,hi⟩ hn)
 | 2,_=>by
   rw[FE];have h: ¬atR [] ⟨po,[0,1],1,[1]⟩ 2<2:=by decide +kernel
   exact vb (p:=[]) (fun g=>absurd g h) (fun g=>absurd g h)
theorem Du:x6.ok 16:=by
 have q1:(Qr ((1:Int):Rat)).w 16:=fv _ (by have:=fy;rw[show ((1:Int):Rat)=1 from rfl];omega);have q0:(Qr 0).w 16:=fv _ (mM (by decide));have d0:(default:RD).w 16:=⟨fun x h=>absurd h (List.not_mem_nil (a:=x)),fun x h=>absurd h (List.not_mem_nil (a:=x)),Nat.zero_le _,Nat.zero_le _⟩;have dM:(default:Mark).ok 16:=⟨by decide,d0,d0⟩
 have hp: ∀k,(Gr.getD k default).ok 16:=fun k=>by
  match k with
  | 0=>exact⟨by decide,q0,q0⟩
  | 1=>exact⟨by decide,q1,q0⟩
  | _+2=>exact dM
 refine⟨by decide,by decide,by decide,by decide,fun i=>?_,fun i=>?_,fun i=>by show (default:Driver).nm.size≤_;decide⟩
 · match i with
   | 0=>exact⟨by decide,by decide,hp⟩
   | 1=>exact⟨by decide,by decide,hp⟩
   | _+2=>exact⟨by show (default:Body).nm.size≤_;decide,by show (default:Body).pts.length≤_;decide,fun k=>dM⟩
 · match i with
   | 0=>show (ByteArray.size ⟨#[106]⟩)≤_;decide
   | _+1=>show (default:bu).nm.size≤_;decide
end Lift
namespace Lift
open Go Go.Proofs
theorem BN:DF x6 zm:=by
 have d0: ∀a:List RD,(∀r∈a,r=Qr ((1:Int):Rat)∨r=Qr ((0:Int):Rat))→wN 16 a:=fun a h i hi=>by
  have h1:(Qr ((1:Int):Rat)).w 16:=fv _ (by have:=fy;rw[show ((1:Int):Rat)=1 from rfl];omega);have h0:(Qr ((0:Int):Rat)).w 16:=fv _ (by have:=lN;rw[show ((0:Int):Rat)=0 from rfl];omega);rw[List.getD_eq_getElem?_getD,List.getElem?_eq_getElem hi];rcases h _ (List.getElem_mem hi) with e | e
  · rw[show (some a[i]).getD default=a[i] from rfl,e];exact h1
  · rw[show (some a[i]).getD default=a[i] from rfl,e];exact h0
 have w1:wN 16 [Qr ((1:Int):Rat)]:=d0 _ (fun r hr=> .inl (List.mem_singleton.1 hr));have w0:wN 16 [Qr ((0:Int):Rat)]:=d0 _ (fun r hr=> .inr (List.mem_singleton.1 hr));have hb:dH.ok 16 [] F7:=⟨⟨fun _=>w1,show 1≤4398046511104 by decide⟩,⟨fun _=>w0,show 1≤4398046511104 by decide⟩,⟨fun _=>w0,show 1≤4398046511104 by decide⟩,⟨fun _=>w0,show 1≤4398046511104 by decide⟩⟩;refine DL Du ⟨⟨⟨1,by decide,by decide,fun i hi=>absurd hi (Nat.not_lt_zero _),fun _=>show 1≤17300000000000 by decide⟩,by decide,by decide,fun i hi=>absurd hi (Nat.not_lt_zero _)⟩,fun i hi=>?_,by decide⟩ (by decide) x4;have hi:i<2:=hi
 match i,hi with
 | 0,_=>exact hb
 | 1,_=>exact hb
theorem BP:zm.ok 16:=by
 have w1:wN 16 [Qr ((1:Int):Rat)]:=fun i hi=>by
  have hi:i<1:=hi;obtain rfl:i=0:=by omega
  exact fv _ (by have:=fy;rw[show ((1:Int):Rat)=1 from rfl];omega)
 have w0:wN 16 [Qr ((0:Int):Rat)]:=fun i hi=>by
  have hi:i<1:=hi;obtain rfl:i=0:=by omega
  exact fv _ (by have:=lN;rw[show ((0:Int):Rat)=0 from rfl];omega)
 have hb:dH.ok 16 [] F7:=⟨⟨fun _=>w1,show 1≤4398046511104 by decide⟩,⟨fun _=>w0,show 1≤4398046511104 by decide⟩,⟨fun _=>w0,show 1≤4398046511104 by decide⟩,⟨fun _=>w0,show 1≤4398046511104 by decide⟩⟩;refine⟨⟨⟨1,by decide,by decide,fun i hi=>absurd hi (Nat.not_lt_zero _),fun _=>show 1≤17300000000000 by decide⟩,by decide,by decide,fun i hi=>absurd hi (Nat.not_lt_zero _)⟩,fun i hi=>?_,by decide⟩;have hi:i<2:=hi
 match i,hi with
 | 0,_=>exact hb
 | 1,_=>exact hb
theorem zl:Pure Tryz.prog 46 [bF (zm.rt.map ar),jL (mu x6 zm)] (.tu [dI (2:Nat),aj]):=by
 have V:lr 300000 (zm.rt.map ar):=BN.V.mono (by decide) (by decide)
 have h:=rC V (show 300000≤17300000000000 by decide) (Ft BN) (fun i k=>(DO BN i k).2) (fun c hc=>by
  rw[DT] at hc ⊢
  exact FG c hc)
 rw[show (CZ (zm.rt.map ar) (mu x6 zm)).cols.length=2 by rw[DT];show (fB [] po 3).cols.length=2;rw[FD];rfl] at h;exact h
theorem kY:Pure Tryz.prog 9 [] (dB true):=by
 refine qJ 52 Tryz.func9 rfl rfl rfl rfl (by kernel_rfl) (fun B F0 w0=>?_);have ce:=oB;have c1:=pH x6 Du (by decide);have c2:=pg x6 zm Du BP (by decide) (by decide) (fun _=>zl);have c3:=rv x6 zm (r:=2) (by decide) Du BP (by decide) (by decide) (fun _=>zl);unfold EI at c1;unfold yW at c2;unfold BL at c3;rw[if_neg (by rw[Dv];decide),show EH x6=1 by decide +kernel] at c1;rw[if_neg (by rw[x4];decide)] at c2;rw[if_neg (by rw[x4];decide),show (3*((x6.bodies.length:Int) -1) -((2:Nat):Int))=1 by decide] at c3;have hL: ∃x:List D,x6.D= .ag x∧x.length=4:=⟨_,rfl,rfl⟩;have hA: ∃x:List D,zm.D= .ag x∧x.length=3:=⟨_,rfl,rfl⟩;refine qX 1 rfl ?_;refine qI (AW.region ?_);refine aa.call tok rfl rfl rfl rfl ce ?_;refine qU 7 rfl ?_;refine qK 1 rfl ?_;refine aa.call tok rfl rfl rfl rfl c1 ?_;refine qU 5 rfl ?_;refine qK 2 rfl ?_;refine aa.call tok rfl rfl rfl rfl c2 ?_;refine qU 5 rfl ?_;refine qK 2 rfl ?_;refine aa.call tok rfl rfl rfl rfl c3 ?_;refine qU 5 rfl ?_;refine qK 1 rfl ?_;refine aa.err tok rfl rfl rfl rfl rfl ?_;refine qU 2 rfl ?_;refine aa.err tok rfl rfl rfl rfl rfl ?_;refine qU 3 rfl ?_;refine aa.err tok rfl rfl rfl rfl rfl ?_;refine qU 14 rfl ?_;exact qN rfl
end Lift
namespace Lift
open Go Go.Proofs
theorem rE(l:Lkg)(a:Asm){K:Nat}(hl:l.ok K)(hK:K≤big)(ha:AsB a):Pure Tryz.prog 10 [l.D,a.D] (dB (!je l a&&decide (fo l a=0))):=by
 refine qJ 15 Tryz.func10 rfl rfl rfl rfl (by kernel_rfl) (fun B F0 w0=>?_);have cl:=rF l a hl hK ha
 have cc:je l a=false→Pure Tryz.prog 16 [l.D,a.D] (dI (fo l a)):=fun h =>
  um l a ((qA h).lok hl) (by decide) ((qA h).aok ha)
 generalize je l a=b at cl cc ⊢;generalize fo l a=z at cc ⊢;obtain ⟨ln,lb,js,lds⟩:=l;obtain ⟨rt,bs,md⟩:=a;refine qX 3 rfl ?_;refine qK 2 rfl ?_;refine aa.call tok rfl rfl rfl rfl cl ?_;cases b with
 | true =>
   refine qU 8 rfl ?_;exact qN rfl
 | false =>
 refine qU 4 rfl ?_;refine aa.call tok rfl rfl rfl rfl (cc rfl) ?_;refine qU 3 rfl ?_;rw[show ((z:Int)==0)=decide (z=0) by by_cases h:z=0<;>simp[h]];exact qN rfl
end Lift
namespace Lift
open Go Go.Proofs
def GC(r:List NQ)(a b:Int):Prop:=0<a→0<b→ ∀c,c<2→r.getD (3*b.toNat-3+c) []=fm (r.getD (3*a.toNat-3+c) [])
theorem Dq{x y:List NQ}{i:Nat}(h:i<x.length):(x++y).getD i []=x.getD i []:=by
 rw[List.getD_eq_getElem?_getD,List.getD_eq_getElem?_getD,List.getElem?_append_left h]
theorem u6{x y:List NQ}{i:Nat}(h:x.length≤i):(x++y).getD i []=y.getD (i-x.length) []:=by
 rw[List.getD_eq_getElem?_getD,List.getD_eq_getElem?_getD,List.getElem?_append_right h]
theorem tq{r:List NQ}{b:Int}{x y w:NQ}(h0:0<b)(h:3*b.toNat≤r.length):(fC r b x y w).getD (3*b.toNat-3+0) []=x∧(fC r b x y w).getD (3*b.toNat-3+1) []=y:=by
 unfold fC;rw[if_pos h0];have hl:(r.take (3*(b.toNat-1))).length=3*(b.toNat-1):=by rw[List.length_take];omega
 constructor
 · rw[List.append_assoc,u6 (by rw[hl];omega),hl,show 3*b.toNat-3+0-3*(b.toNat-1)=0 by omega];rfl
 · rw[List.append_assoc,u6 (by rw[hl];omega),hl,show 3*b.toNat-3+1-3*(b.toNat-1)=1 by omega];rfl
theorem xF{r:List NQ}{a b:Int}{x y w:NQ}{c:Nat}(hc:c<2)(ha:0<a)(hab:a≠b)(h:0<b→3*b.toNat≤r.length):(fC r b x y w).getD (3*a.toNat-3+c) []=r.getD (3*a.toNat-3+c) []:=by
 unfold fC;split
 · rename_i h0;have hl:(r.take (3*(b.toNat-1))).length=3*(b.toNat-1):=by rw[List.length_take];have:=h h0;omega
   rcases Int.lt_or_gt_of_ne hab with g | g
   · rw[List.append_assoc,Dq (by rw[hl];omega),List.getD_eq_getElem?_getD,List.getElem?_take,if_pos (by omega),List.getD_eq_getElem?_getD]
   · rw[u6 (by rw[List.length_append,hl];show _+3≤_;omega),List.length_append,hl,List.getD_eq_getElem?_getD,List.getElem?_drop,List.getD_eq_getElem?_getD]
     congr 2
     show _+((_:Nat) -(_+3))=_;omega
 · rfl
theorem v9:fm []=[]:=rfl
theorem uz{r:List NQ}{a b:Int}{x y w w':NQ}{x' y':NQ}(hx:x'=fm x)(hy:y'=fm y)(hab:a≠b)(ha:0<a→3*a.toNat≤r.length)(hb:0<b→3*b.toNat≤r.length):GC (fC (fC r a x y w) b x' y' w') a b:=fun h1 h2 c hc=>by
 have hl:(fC r a x y w).length=r.length:=kP x y w ha;have e1:=tq (r:=fC r a x y w) (x:=x') (y:=y') (w:=w') h2 (by rw[hl];exact hb h2);have e2:=tq (r:=r) (x:=x) (y:=y) (w:=w) h1 (ha h1);rw[xF hc h1 hab (fun h=>by rw[hl];exact hb h)]
 match c,hc with
 | 0,_=>rw[e1.1,e2.1,hx]
 | 1,_=>rw[e1.2,e2.2,hy]
theorem zX{v:List NQ}{l:Lkg}{a:Asm}{j:bu}(J:GD l.bodies j): ∀r∈zW v l a j,GC r j.a j.b:=by
 have ja:=J.a;have jb:=J.b;have hz:(mg l.bodies.length).length=3*(l.bodies.length-1):=qF _;have h1:0<j.a→3*j.a.toNat≤(mg l.bodies.length).length:=fun h=>by rw[hz];omega
 have h2:0<j.b→3*j.b.toNat≤(mg l.bodies.length).length:=fun h=>by rw[hz];omega
 unfold zW;intro r hr;split at hr
 · rw[List.mem_singleton] at hr;subst hr;exact uz rfl rfl J.ab h1 h2
 · simp only[List.mem_cons,List.not_mem_nil,or_false] at hr;rcases hr with rfl | rfl
   · exact uz rfl v9.symm J.ab h1 h2
   · exact uz v9.symm rfl J.ab h1 h2
theorem C4{l:Nat}{x:NQ}(hx:aB l x):wV x (fm x)=[]:=by
 have hn:=hx.minus
 have hc:cf (bj x (fm x))=cf []:=funext fun i=>by
  rw[gf];show cf x i+cf (aF (bc x)) i=0;rw[dY hn,rV];exact Rat.add_neg_cancel _
 have h:=vD (hx.plus (bQ hn)) (bG l) hc;exact h
def yS(v:List NQ)(l:Lkg)(a:Asm)(i:Nat):Nat:=(gJ v l a i).length
theorem vL(v:List NQ)(l:Lkg)(a:Asm)(i:Nat):yS v l a (i+1)=yS v l a i+xO (l.joints.getD i default):=by
 show (gJ v l a i++_).length=_;rw[List.length_append,uW];rfl
theorem td(v:List NQ)(l:Lkg)(a:Asm)(i:Nat): ∀n,∃t,gJ v l a (i+n)=gJ v l a i++t
 | 0=>⟨[],(List.append_nil _).symm⟩
 | n+1=>by
   obtain ⟨t,h⟩:=td v l a i n;exact⟨t++zW v l a (l.joints.getD (i+n) default),by show gJ v l a (i+n)++_=_;rw[h,List.append_assoc];rfl⟩
theorem Fu{l:Lkg}{a:Asm}{i k:Nat}(hi:i<l.joints.length)(h1:yS (a.rt.map ar) l a i≤k)(h2:k<yS (a.rt.map ar) l a (i+1)):k<(mu l a).length∧(mu l a).getD k []∈zW (a.rt.map ar) l a (l.joints.getD i default):=by
 obtain ⟨t,ht⟩:=td (a.rt.map ar) l a (i+1) (l.joints.length-(i+1));rw[show i+1+(l.joints.length-(i+1))=l.joints.length by omega] at ht
 have e:mu l a=gJ (a.rt.map ar) l a i++(zW (a.rt.map ar) l a (l.joints.getD i default)++t):=by
  rw[← List.append_assoc];exact ht
 have hs:=vL (a.rt.map ar) l a i;have hj:=uW (a.rt.map ar) l a (l.joints.getD i default);unfold yS at *;generalize l.joints.getD i default=j at *;refine⟨by rw[e,List.length_append,List.length_append];omega,?_⟩;rw[e];rw[List.getD_eq_getElem?_getD,List.getElem?_append_right h1,List.getElem?_append_left (by omega),List.getElem?_eq_getElem (by omega)];exact List.getElem_mem _
theorem CW(v:List NQ):vr v []=0:=by
 unfold vr;cases v.length<;>rfl
theorem Bi(v:List NQ):vY v []:=by
 unfold vY;cases v.length with
 | zero=>exact cE (by decide)
 | succ n=>exact⟨cE (by decide),fun h=>absurd rfl h⟩
theorem xl{l:Lkg}{a:Asm}{K:Nat}(hl:l.ok K)(ha:AsB a)(hL:(!je l a&&decide (fo l a=0))=true):
  Pure Tryz.prog 14 [l.D,a.D] (.tu [jL (mu l a),aj])
  ∧(∀x,nP (a.rt.map ar) x→Pure Tryz.prog 21 [se a.rt,af x,af (fm x)] (.tu [af [],aj]))
  ∧Pure Tryz.prog 22 [se a.rt,af []] (.tu [dI 0,aj])
  ∧(∀i,i<l.joints.length→(((l.joints.getD i default).a<l.bodies.length∧ -1000000<(l.joints.getD i default).a)∧((l.joints.getD i default).b<l.bodies.length∧ -1000000<(l.joints.getD i default).b)∧yS (a.rt.map ar) l a (i+1)≤1000)∧(∀k,yS (a.rt.map ar) l a i≤k→k<yS (a.rt.map ar) l a (i+1)→k<(mu l a).length∧((mu l a).map gI)[k]?=some (gI ((mu l a).getD k []))∧(((mu l a).getD k []).length:Int)=3*((l.bodies.length:Int) -1)∧(GC ((mu l a).getD k []) (l.joints.getD i default).a (l.joints.getD i default).b)∧(∀t,nP (a.rt.map ar) (((mu l a).getD k []).getD t []))))
  ∧l.bodies.length≤8∧l.joints.length≤16∧(mu l a).length≤32∧(∀i,yS (a.rt.map ar) l a (i+1)=yS (a.rt.map ar) l a i+xO (l.joints.getD i default)):=by
 obtain ⟨h1,h2⟩:=(Bool.and_eq_true _ _).mp hL;have hlg:je l a=false:=by simpa using h1
 have hm:fo l a=0:=of_decide_eq_true h2;have S:=qA hlg;have hl16:=S.lok hl;have ha16:=S.aok ha;have O:=DL hl16 ha16 S.r2 hm;have hnb:=S.nb;have c2:=sL l a hl16 ha16 S.r2 (by omega);unfold EC at c2;rw[if_neg (fun g=>g hm)] at c2;have hT:se a.rt=bF (a.rt.map ar):=(mT ha16.t (uw hm).tw).eq;have V:lr 300000 (a.rt.map ar):=O.V.mono (by decide) (by decide);refine⟨c2,fun x hx=>?_,?_,fun i hi=>?_,O.G.lk.b8,O.G.lk.j16,Bp O,fun i=>vL _ _ _ i⟩
 · have hn:=y7 hx.1 hx.2;have h:=lW V hx.1 hx.2 hn.1 hn.2;rw[C4 hx.1,← hT] at h;exact h
 · have h:=oV V.a (bG _) (Bi (a.rt.map ar));rw[CW,← hT] at h;exact h
 · have J:=O.G.lk.j i hi;have b8:=O.G.lk.b8;have j16:=O.G.lk.j16;have hr:=lC (a.rt.map ar) l a (i+1);refine⟨⟨⟨by have:=J.a;omega,by have:=J.a;omega⟩,⟨by have:=J.b;omega,by have:=J.b;omega⟩,by unfold yS;omega⟩,fun k hk1 hk2=>?_⟩;obtain ⟨g1,g2⟩:=Fu hi hk1 hk2;have hrow:=uP O g1;have b1:=O.G.lk.b1;exact⟨g1,getM gI g1,by rw[hrow.1];omega,zX J _ g2,fun t=>zA hrow.2 (nO _) t⟩
set_option maxHeartbeats 1600000 in
theorem law24_Sums_ok(l:Lkg)(a:Asm){K:Nat}(hl:l.ok K)(hK:K≤big)(ha:AsB a):Pure Tryz.prog 5 [l.D,a.D] (dB true):=by
 refine qJ 134 Tryz.func5 rfl rfl rfl rfl (by kernel_rfl) (fun B F0 w0=>?_);have cv:=rE l a hl hK ha;refine qX 3 rfl ?_;refine qI (AW.seq (AW.region ?_));refine aa.call tok rfl rfl rfl rfl kY ?_;refine qU 4 rfl ?_;refine aa.call tok rfl rfl rfl rfl cv ?_;cases hL:(!je l a&&decide (fo l a=0)) with
 | false =>
   refine qU 2 rfl ?_;refine aa.nil ?_;refine AW.az rfl ?_;refine AW.seq (AW.region ?_);refine aa.call tok rfl rfl rfl rfl kY ?_;refine qU 1 rfl ?_;exact qN rfl
 | true =>
 obtain ⟨c2,cA,cS,hOp,hb8,hj16,hM32,hrw⟩:=xl hl ha hL;have h0:yS (a.rt.map ar) l a 0=0:=rfl;have hE:yS (a.rt.map ar) l a l.joints.length=(mu l a).length:=rfl;generalize mu l a=M at *;generalize yS (a.rt.map ar) l a=f at *;clear cv hl ha hL;generalize a.rt.map ar=v at *;obtain ⟨ln,lb,js,lds⟩:=l;obtain ⟨rt,bs,md⟩:=a;simp only[] at *;refine qU 2 rfl ?_;refine aa.nil ?_;refine AW.ao rfl ?_;refine AW.skip ?_;refine qX 2 rfl ?_;refine aa.call tok rfl rfl rfl rfl c2 ?_;refine qU 5 rfl ?_;refine qI ?_;refine qX 1 rfl ?_;refine aa.err tok rfl rfl rfl rfl rfl ?_;refine aa.nil ?_;refine AW.ao rfl ?_;refine AW.skip ?_;refine qX 1 rfl ?_;refine qI ?_;refine qX 1 rfl ?_;refine aa.nil ?_;refine AW.block ?_;refine AW.aD [2,3,5,7,8] (fun i:Nat=>[(2,.bx [dS ln,ay lb,ak js,an lds]),(3,.bx [.sl 1 (rt.map aY),.sl 4 (bs.map dH.D),.sl 1 (md.map (fun n=>dI n))]),(5,.d (jL M)),(7,.d (dI (f i))),(8,.d (dI i))]) (fun i=>i≤js.length) (fun i=>js.length-i) 0 (by show _=([(2,.bx [dS ln,ay lb,ak js,an lds]),(3,.bx [.sl 1 (rt.map aY),.sl 4 (bs.map dH.D),.sl 1 (md.map (fun n=>dI n))]),(5,.d (jL M)),(7,.d (dI (f 0))),(8,.d (dI (0:Nat)))]:St);rw[h0];rfl) (Nat.zero_le _) (fun i hi=>?_);show AW _ _ _ _ _ _ _ [(2,.bx [dS ln,ay lb,ak js,an lds]),(3,.bx [.sl 1 (rt.map aY),.sl 4 (bs.map dH.D),.sl 1 (md.map (fun n=>dI n))]),(5,.d (jL M)),(7,.d (dI (f i))),(8,.d (dI i))];refine AW.seq ?_;refine qX 3 rfl ?_;refine qU 1 rfl ?_;rw[List.length_map];refine qU 1 rfl ?_;refine aa.nil ?_;refine AW.cond rfl (fun h=>?_) (fun h=>?_);rotate_left
 · have hii:i=js.length:=by have:=of_decide_eq_false h;omega
   subst hii;refine AW.exit ?_;refine qX 3 rfl ?_;rw[List.length_map];refine qU 1 rfl ?_;rw[beq_iff_eq.2 (show ((f js.length:Nat):Int)=(M.length:Int) by rw[hE])];refine qU 1 rfl ?_;exact qN rfl
 have hii:i<js.length:=by have:=of_decide_eq_true h;omega
 have hg:=getM bu.D (l:=js) (i:=i) hii;obtain ⟨hj1,hj2⟩:=hOp i hii;have hfs:=hrw i;have hfM:f (i+1)≤1000:=hj1.2.2;generalize js.getD i default=j at hg hj1 hj2 hfs;obtain ⟨jn,jk,ja,jp,jb,jo,jt⟩:=j;simp only[] at hj1 hj2;obtain ⟨hja,hjb,_⟩:=hj1;refine AW.skip (AW.seq (AW.block ?_));refine qX 3 rfl ?_;refine aa.idx tok (bu.D ⟨jn,jk,ja,jp,jb,jo,jt⟩) rfl rfl rfl rfl (Int.natCast_nonneg i) hg ?_;refine qU 3 rfl ?_;refine qK 1 rfl ?_;refine aa.nil ?_;refine AW.cut [2,3,5,7,8,9,10] (fun n:Nat=>[(2,.bx [dS ln,ay lb,ak js,an lds]),(3,.bx [.sl 1 (rt.map aY),.sl 4 (bs.map dH.D),.sl 1 (md.map (fun n=>dI n))]),(5,.d (jL M)),(7,.d (dI (f i))),(8,.d (dI i)),(9,.bx [dS jn,dI jk,dI ja,dI jp,dI jb,dI jo,dI jt]),(10,.d (dI n))]) (fun n=>n=xO ⟨jn,jk,ja,jp,jb,jo,jt⟩) ?_ (fun n0 hn0=>?_)
 · refine qX 3 rfl ?_;refine aa.nil ?_;refine AW.cond rfl (fun h=>?_) (fun h=>?_)
   · refine qT 1 rfl ?_;refine aa.nil ?_;exact⟨1,rfl,(if_pos (beq_iff_eq.1 h)).symm⟩
   · refine AW.skip ?_;exact⟨2,rfl,(if_neg (beq_eq_false_iff_ne.1 h)).symm⟩
 show AW _ _ _ _ _ _ _ [(2,.bx [dS ln,ay lb,ak js,an lds]),(3,.bx [.sl 1 (rt.map aY),.sl 4 (bs.map dH.D),.sl 1 (md.map (fun n=>dI n))]),(5,.d (jL M)),(7,.d (dI (f i))),(8,.d (dI i)),(9,.bx [dS jn,dI jk,dI ja,dI jp,dI jb,dI jo,dI jt]),(10,.d (dI n0))];refine AW.block ?_;refine AW.aD [2,3,5,7,8,9,10] (fun s:Nat×Nat=>[(2,.bx [dS ln,ay lb,ak js,an lds]),(3,.bx [.sl 1 (rt.map aY),.sl 4 (bs.map dH.D),.sl 1 (md.map (fun n=>dI n))]),(5,.d (jL M)),(7,.d (dI s.1)),(8,.d (dI i)),(9,.bx [dS jn,dI jk,dI ja,dI jp,dI jb,dI jo,dI jt]),(10,.d (dI s.2))]) (fun s=>s.1+s.2=f (i+1)∧f i≤s.1) (fun s=>s.2) (f i,n0) rfl ⟨by show f i+n0=_;omega,Nat.le_refl _⟩ (fun s hs=>?_);obtain ⟨k,n⟩:=s;obtain ⟨hkn,hfk⟩:=hs;simp only[] at hkn hfk;show AW _ _ _ _ _ _ _ [(2,.bx [dS ln,ay lb,ak js,an lds]),(3,.bx [.sl 1 (rt.map aY),.sl 4 (bs.map dH.D),.sl 1 (md.map (fun n=>dI n))]),(5,.d (jL M)),(7,.d (dI k)),(8,.d (dI i)),(9,.bx [dS jn,dI jk,dI ja,dI jp,dI jb,dI jo,dI jt]),(10,.d (dI n))];refine AW.seq ?_;refine qX 2 rfl ?_;refine aa.nil ?_;refine AW.cond rfl (fun h=>?_) (fun h=>?_);rotate_left
 · have hn:n=0:=by have:=of_decide_eq_false h;omega
   have hk:k=f (i+1):=by omega
   subst hk;refine AW.exit ?_;refine qT 2 rfl ?_;rw[aq (x:=(i:Int)+1) (by omega) (by omega)];refine qU 1 rfl ?_;refine aa.nil ?_;exact⟨i+1,rfl,hii,by show js.length-(i+1)<js.length-i;omega⟩
 have hn:0<n:=by have:=of_decide_eq_true h;omega
 obtain ⟨n,rfl⟩: ∃m,n=m+1:=⟨n-1,by omega⟩;obtain ⟨hkM,hgk,hlen,hopp,hel⟩:=hj2 k hfk (by omega);generalize M.getD k []=row at hgk hlen hopp hel;refine AW.skip (AW.seq (AW.block (AW.seq (AW.seq ?_))));refine AW.draw aJ 17 (by kernel_rfl) ?_;refine qP 3 rfl ?_;rw[List.length_map];refine qP 1 rfl ?_;rw[decide_eq_false (show ¬(k:Int)≥(M.length:Int) by omega)];refine qP 3 rfl ?_;refine ae.idx tok (gI row) rfl rfl rfl rfl rfl (Int.natCast_nonneg k) hgk ?_;refine qP 2 rfl ?_;rw[List.length_map];refine qP 3 rfl ?_;rw[List.length_map];refine qP 1 rfl ?_;rw[aq (x:=(lb.length:Int) -1) (by omega) (by omega)];refine qP 1 rfl ?_;rw[aq (x:=3*((lb.length:Int) -1)) (by omega) (by omega)];refine qP 1 rfl ?_;rw[bne_eq_false_iff_eq.2 (show (row.length:Int)=3*((lb.length:Int) -1) by omega)];refine qP 1 rfl ?_;refine ae.nil ?_;refine aa.nil ?_;refine AW.ao rfl ?_;refine AW.skip (AW.seq ?_);refine qX 1 rfl ?_;refine aa.nil ?_;refine AW.block ?_;refine AW.aD [2,3,5,7,8,9,10,11] (fun c:Nat=>[(2,.bx [dS ln,ay lb,ak js,an lds]),(3,.bx [.sl 1 (rt.map aY),.sl 4 (bs.map dH.D),.sl 1 (md.map (fun n=>dI n))]),(5,.d (jL M)),(7,.d (dI k)),(8,.d (dI i)),(9,.bx [dS jn,dI jk,dI ja,dI jp,dI jb,dI jo,dI jt]),(10,.d (dI ((n+1:Nat):Int))),(11,.d (dI c))]) (fun c=>c≤2) (fun c=>2-c) 0 rfl (Nat.zero_le _) (fun c hc2=>?_);show AW _ _ _ _ _ _ _ [(2,.bx [dS ln,ay lb,ak js,an lds]),(3,.bx [.sl 1 (rt.map aY),.sl 4 (bs.map dH.D),.sl 1 (md.map (fun n=>dI n))]),(5,.d (jL M)),(7,.d (dI k)),(8,.d (dI i)),(9,.bx [dS jn,dI jk,dI ja,dI jp,dI jb,dI jo,dI jt]),(10,.d (dI ((n+1:Nat):Int))),(11,.d (dI c))];refine AW.seq ?_;refine qX 2 rfl ?_;by_cases hc:c<2;rotate_left
 · rw[decide_eq_false (show ¬(c:Int)<2 by omega)];refine qU 10 rfl ?_;refine aa.nil ?_;refine AW.ao rfl ?_;refine AW.exit ?_;refine qT 2 rfl ?_;rw[aq (x:=(k:Int)+1) (by omega) (by omega)];refine qU 1 rfl ?_;refine aa.nil ?_;refine qT 2 rfl ?_;rw[aq (x:=((n+1:Nat):Int) -1) (by omega) (by omega),show ((n+1:Nat):Int) -1=(n:Int) by omega];refine qU 1 rfl ?_;refine aa.nil ?_;exact⟨(k+1,n),rfl,⟨by show k+1+n=_;omega,by show f i≤k+1;omega⟩,Nat.lt_succ_self n⟩
 rw[decide_eq_true (show (c:Int)<2 by omega)];refine qU 3 rfl ?_;refine qU 1 rfl ?_;by_cases h1:0<ja;rotate_left
 · rw[decide_eq_false (show ¬ja>0 by omega)];refine qU 6 rfl ?_;refine aa.nil ?_;refine AW.ao rfl ?_;refine AW.exit ?_;refine qT 2 rfl ?_;rw[aq (x:=(k:Int)+1) (by omega) (by omega)];refine qU 1 rfl ?_;refine aa.nil ?_;refine qT 2 rfl ?_;rw[aq (x:=((n+1:Nat):Int) -1) (by omega) (by omega),show ((n+1:Nat):Int) -1=(n:Int) by omega];refine qU 1 rfl ?_;refine aa.nil ?_;exact⟨(k+1,n),rfl,⟨by show k+1+n=_;omega,by show f i≤k+1;omega⟩,Nat.lt_succ_self n⟩
 rw[decide_eq_true (show ja>0 by omega)];refine qU 4 rfl ?_;refine qU 1 rfl ?_;by_cases h2:0<jb;rotate_left
 · rw[decide_eq_false (show ¬jb>0 by omega)];refine qU 1 rfl ?_;refine aa.nil ?_;refine AW.ao rfl ?_;refine AW.exit ?_;refine qT 2 rfl ?_;rw[aq (x:=(k:Int)+1) (by omega) (by omega)];refine qU 1 rfl ?_;refine aa.nil ?_;refine qT 2 rfl ?_;rw[aq (x:=((n+1:Nat):Int) -1) (by omega) (by omega),show ((n+1:Nat):Int) -1=(n:Int) by omega];refine qU 1 rfl ?_;refine aa.nil ?_;exact⟨(k+1,n),rfl,⟨by show k+1+n=_;omega,by show f i≤k+1;omega⟩,Nat.lt_succ_self n⟩
 rw[decide_eq_true (show jb>0 by omega)];refine qU 1 rfl ?_;refine aa.nil ?_;refine AW.az rfl ?_;have hop:=hopp h1 h2 c hc
 have e1:(row.map af)[(3*ja-3+(c:Int)).toNat]?=some (af (row.getD (3*ja.toNat-3+c) [])):=by
  rw[show (3*ja-3+(c:Int)).toNat=3*ja.toNat-3+c by omega];exact getM af (by omega)
 have e2:(row.map af)[(3*jb-3+(c:Int)).toNat]?=some (af (fm (row.getD (3*ja.toNat-3+c) []))):=by
  rw[show (3*jb-3+(c:Int)).toNat=3*jb.toNat-3+c by omega,← hop];exact getM af (by omega)
 have hcA:=cA _ (hel (3*ja.toNat-3+c));generalize row.getD (3*ja.toNat-3+c) []=q at e1 e2 hcA;clear hop hopp hel;refine AW.skip (AW.seq (AW.block (AW.seq ?_)));refine AW.draw aJ 31 (by kernel_rfl) ?_;refine qP 4 rfl ?_;refine ae.idx tok (gI row) rfl rfl rfl rfl rfl (Int.natCast_nonneg k) hgk ?_;refine qP 4 rfl ?_;rw[aq (x:=3*ja) (by omega) (by omega)];refine qP 1 rfl ?_;rw[aq (x:=3*ja-3) (by omega) (by omega)];refine qP 2 rfl ?_;rw[aq (x:=3*ja-3+(c:Int)) (by omega) (by omega)];refine ae.idx tok (af q) rfl rfl rfl rfl rfl (by omega) e1 ?_;refine qP 3 rfl ?_;refine ae.idx tok (gI row) rfl rfl rfl rfl rfl (Int.natCast_nonneg k) hgk ?_;refine qP 4 rfl ?_;rw[aq (x:=3*jb) (by omega) (by omega)];refine qP 1 rfl ?_;rw[aq (x:=3*jb-3) (by omega) (by omega)];refine qP 2 rfl ?_;rw[aq (x:=3*jb-3+(c:Int)) (by omega) (by omega)];refine ae.idx tok (af (fm q)) rfl rfl rfl rfl rfl (by omega) e2 ?_;refine qP 1 rfl ?_;refine ae.call tok rfl rfl rfl rfl rfl hcA ?_;refine qP 4 rfl ?_;refine ae.nil ?_;refine qU 1 rfl ?_;refine qI ?_;refine qX 1 rfl ?_;refine aa.err tok rfl rfl rfl rfl rfl ?_;refine aa.nil ?_;refine AW.ao rfl ?_;refine AW.skip ?_;refine qX 3 rfl ?_;refine aa.call tok rfl rfl rfl rfl cS ?_;refine qU 5 rfl ?_;refine qK 1 rfl ?_;refine aa.err tok rfl rfl rfl rfl rfl ?_;refine qU 4 rfl ?_;refine aa.nil ?_;refine AW.ao rfl ?_;refine AW.skip ?_;refine qT 2 rfl ?_;rw[aq (x:=(c:Int)+1) (by omega) (by omega)];refine qU 1 rfl ?_;refine aa.nil ?_;exact⟨c+1,rfl,hc,by show 2-(c+1)<2-c;omega⟩
end Lift

