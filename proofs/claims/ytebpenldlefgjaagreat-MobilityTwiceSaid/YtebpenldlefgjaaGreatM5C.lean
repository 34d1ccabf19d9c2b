/- Parts of the proof, one behind the other: the logic, the contracts of the functions that the statement reaches. -/
import Derived.Test.YtebpenldlefgjaaGreatM5B
import Derived.Laws.Strings
import Derived.Test.YtebpenldlefgjaaGreatRows
import Derived.OrdersHeld
import Derived.OrdersIn
import Derived.TacticsIn
import Derived.RangeFuncCalls
import Derived.RangeFuncKeeps
set_option linter.unusedVariables false
set_option linter.unusedSimpArgs false
namespace Lift
open Go Go.Proofs
theorem rS(M:List Nat)(lo m:Nat):((M.map wd).drop lo).take m=(dE M lo m).map wd:=by
 rw[dE,List.map_take,List.map_drop]
theorem we(xs:List Nat)(x:Nat):xs.map wd++[wd x]=(xs++[x]).map wd:=by simp
theorem EB(xs:List Nat)(x:Nat):nv (xs++[x])=nv xs+4294967296^xs.length*x:=by
 rw[su];simp[nv]
theorem oH(l:List Nat)(h:a8 l)(N i:Nat)(hN:l.length≤N):(dg N (nv l)).getD i 0=l.getD i 0:=by
 have hlt:nv l<4294967296^N:=Nat.lt_of_lt_of_le (dm h) (iU hN);rw[fG (fx N (nv l)) i,fG h i,iN,Nat.mod_eq_of_lt hlt]
theorem vR{a b:List Nat}(ha:a8 a)(hb:a8 b){i:Nat}(hib:i<b.length)(h:a.getD i 0<b.getD i 0)(he: ∀j,i<j→a.getD j 0=b.getD j 0):nv a<nv b:=by
 obtain ⟨N,hN⟩: ∃N,N=max a.length b.length:=⟨_,rfl⟩
 have e: ∀l:List Nat,a8 l→l.length≤N→nv (dg N (nv l))=nv l:=fun l hl hlen=>by
  rw[iN];exact Nat.mod_eq_of_lt (Nat.lt_of_lt_of_le (dm hl) (iU hlen))
 rw[← e a ha (by omega),← e b hb (by omega)];refine so (fx _ _) (fx _ _) (i:=i) (by rw[aT];omega) (by rw[aT];omega) ?_ ?_
 · rw[oH a ha N i (by omega),oH b hb N i (by omega)];exact h
 · refine rH (by simp[aT]) (fun j hj=>?_);rw[lS,lS,oH a ha N _ (by omega),oH b hb N _ (by omega)];exact he _ (by omega)
theorem FU{a b:List Nat}(ha:a8 a)(hb:a8 b)(he: ∀j,a.getD j 0=b.getD j 0):nv a=nv b:=by
 obtain ⟨N,hN⟩: ∃N,N=max a.length b.length:=⟨_,rfl⟩
 have e: ∀l:List Nat,a8 l→l.length≤N→nv (dg N (nv l))=nv l:=fun l hl hlen=>by
  rw[iN];exact Nat.mod_eq_of_lt (Nat.lt_of_lt_of_le (dm hl) (iU hlen))
 rw[← e a ha (by omega),← e b hb (by omega)]
 congr 1
 refine rH (by rw[aT,aT]) (fun j _=>?_);rw[oH a ha N j (by omega),oH b hb N j (by omega)];exact he j
theorem Jr(m n:Nat)(h:n≤m)(hm:m<18446744073709551616):IntKind.u64.wrap ((m:Int) -(n:Int))=((m-n:Nat):Int):=by rw[tR (by omega) (by omega)];omega
theorem Nv(x:Nat)(h:x<4294967296):IntKind.u64.wrap (4294967296+(x:Int))=((4294967296+x:Nat):Int):=by rw[tR (by omega) (by omega)];omega
theorem GP(x:Nat)(h:x≤1):IntKind.u64.wrap (1-(x:Int))=((1-x:Nat):Int):=by rw[tR (by omega) (by omega)];omega
theorem fq(ws:List Nat)(hw:a8 ws)(i:Nat):Pure Tryz.prog 207 [Wd ws,dI i] (dU (ws.getD i 0:Nat)):=by
 refine qJ 14 Tryz.func207 rfl rfl rfl rfl (by kernel_rfl) (fun B F0 w0=>?_);refine AW.seq (AW.region (qU 1 rfl (ae.nil (AW.seq (AW.seq (AW.region (qU 4 rfl (ae.nil ?_))))))));refine AW.cond rfl (fun h=>?_) (fun h=>?_)
 · have h':i<ws.length:=by simpa using h
   refine AW.seq (AW.region (qU 2 rfl (ae.idx tok (wd (ws.getD i 0)) rfl rfl rfl rfl (aj i) (bS h') ?_)));refine qU 3 rfl ?_;have hb:=hw.getD i;rw[tR (by omega) (by omega)];exact qN rfl
 · have h':ws.getD i 0=0:=by
    have:ws.length≤i:=by simpa using h
    simp[List.getD,List.getElem?_eq_none this]
   rw[h'];exact AW.skip (AW.seq (AW.region (qU 1 rfl (qN rfl))))
theorem pI(M:List Nat)(lo m:Nat)(hw:a8 M)(i:Nat):Pure Tryz.prog 207 [.sl 1 (((M.map wd).drop lo).take m),dI i] (dU ((dE M lo m).getD i 0:Nat)):=by
 rw[rS];exact fq _ (hw.dE lo m) i
set_option maxHeartbeats 800000 in
theorem pH(a:List Nat)(ha:a8 a)(hla:a.length≤35184372088831):lY Tryz.prog 189 [Wd a] 117 (a.map wd) 0 (tw (nv a)).length:=by
 refine lY.intro (n:=25) tok Tryz.func189 rfl rfl rfl (Nat.le_of_ble_eq_true rfl) (by kernel_rfl) (fun B F0 w0=>?_);refine qX 1 rfl (qK 2 rfl ?_);refine ae.Ct tok rfl rfl rfl rfl (by show ((a.map wd).length)*4≤_;rw[ba];omega) ?_;refine qU 1 rfl (ae.GC 3 rfl ?_);rw[ba];refine qI (AW.block ?_);refine AW.aL [3] (fun k:Nat=>[(3,.wn false 117 (a.map wd) 0 k)]) (fun k=>k≤a.length∧ ∀i,k≤i→a.getD i 0=0) (fun k=>k) a.length rfl ⟨ai _,fun i hi=>eW hi⟩ (fun k ⟨hk,hz⟩=>?_);refine AW.seq ?_;have hwl:(((a.map wd).drop 0).take k).length=k:=by simp;omega
 refine AW.cut [3,18] (fun b:Bool=>[(3,.wn false 117 (a.map wd) 0 k),(18,.d (dB b))]) (fun b=>(b=true→0<k∧a.getD (k-1) 0=0)∧(b=false→k=0∨a.getD (k-1) 0≠0)) ?_ (fun b ⟨ht,hf⟩=>?_)
 · refine qT 4 rfl ?_;rw[hwl];refine ae.split (t:=10) rfl (fun h=>?_) (fun h=>?_)
   · have hk0:0<k:=by have:=ao h;omega
     obtain ⟨j,rfl⟩: ∃j,k=j+1:=⟨k-1,by omega⟩;refine qU 4 rfl ?_;rw[hwl,aI (by omega) (by omega),show ((j+1:Nat):Int) -1=(j:Int) by omega];refine ae.oX tok rfl rfl rfl rfl (aj j) (by simp only[Int.toNat_natCast];omega) ?_;rw[Int.toNat_natCast,Nat.zero_add];refine ae.df tok (wd (a.getD j 0)) rfl rfl rfl rfl (bS (by omega)) rfl ?_;refine qU 2 rfl (ae.nil ?_);exact⟨_,rfl,⟨fun h=>⟨by omega,by have:=ao h;simp at this;simpa using this⟩,fun h=> .inr (by simpa using h)⟩⟩
   · have hk0:k=0:=by have:=ar h;omega
     refine qU 8 rfl (ae.nil ?_);exact⟨_,rfl,⟨fun h=>by simp at h,fun h=> .inl hk0⟩⟩
 · refine AW.cond rfl (fun h=>?_) (fun h=>?_)
   · obtain ⟨h0,h1⟩:=ht h;refine AW.skip (AW.block (qT 4 rfl ?_));rw[hwl,aI (by omega) (by omega),show (k:Int) -1=((k-1:Nat):Int) by omega];refine ae.Mr tok rfl rfl rfl rfl trivial (aj _) (by simp only[fU,cV,Int.toNat_natCast];omega) (by simp only[cV,Int.toNat_natCast];omega) ?_;rw[show 0+fU none=0 from rfl,show cV k (some ((k-1:Nat):Int)) -fU none=k-1 by simp[cV,fU]];refine qU 1 rfl (ae.nil ?_);refine⟨k-1,rfl,⟨by omega,fun i hi=>?_⟩,by omega⟩;by_cases he:i=k-1
     · rw[he,h1]
     · exact hz i (by omega)
   · have hres:=y5 ha hk hz (hf h);have hlen:k=(tw (nv a)).length:=by rw[← hres];simp;omega
     refine AW.exit ?_;rw[← hlen];exact qX 2 rfl (qN rfl)
theorem Gz{a:List Nat}(ha:a8 a):dE a 0 (tw (nv a)).length=tw (nv a):=by
 have h:=qj ha;have hv:nv (a.drop (tw (nv a)).length)=0:=q7 _ (eV _) h;have h2:=bC a (tw (nv a)).length h;rw[hv,Nat.mul_zero,Nat.add_zero] at h2;rw[dE,List.drop_zero];exact vS (ha.take _) (fr _) (by simp;omega) (by rw[ez,← h2])
theorem gT(a:List Nat)(ha:a8 a)(hla:a.length≤35184372088831):Pure Tryz.prog 189 [Wd a] (Wd (tw (nv a))):=by
 have:=lY.pure tok (pH a ha hla) (te:=_) rfl;rw[rS,Gz ha] at this;exact this
set_option maxHeartbeats 800000 in
theorem ku(a b:List Nat)(ha:a8 a)(hb:a8 b)(hla:a.length≤35184372088831)(hlb:b.length≤35184372088831):Pure Tryz.prog 194 [Wd a,Wd b] (dI (iZ (nv a) (nv b))):=by
 refine qJ 30 Tryz.func194 rfl rfl rfl rfl (by kernel_rfl) (fun B F0 w0=>?_);obtain ⟨N,hN⟩: ∃N,N=max a.length b.length:=⟨_,rfl⟩;refine qX 1 rfl (qI (qX 7 rfl ?_));rw[ba,ba,show (if (b.length:Int)>(a.length:Int) then (b.length:Int) else (a.length:Int))=(N:Int) by split<;>omega,aI (by omega) (by omega)];refine ae.nil ?_;refine AW.block (AW.aL [0,1,5] (fun k:Nat=>[(0,.d (Wd a)),(1,.d (Wd b)),(5,.d (dI ((k:Int) -1)))]) (fun k=>k≤N∧ ∀j,k≤j→a.getD j 0=b.getD j 0) (fun k=>k) N rfl ⟨ai _,fun j hj=>by rw[eW (by omega),eW (by omega)]⟩ (fun k ⟨hk,hd⟩=>?_));refine AW.seq (qX 2 rfl (ae.nil (AW.cond rfl (fun h=>?_) (fun h=>?_))))
 · have hk0:0<k:=by have:=ao h;omega
   obtain ⟨j,rfl⟩: ∃j,k=j+1:=⟨k-1,by omega⟩;rw[show ((j+1:Nat):Int) -1=(j:Int) by omega];refine AW.skip (AW.seq (AW.block (qX 2 rfl (qM rfl (fq a ha j) ?_))));refine qU 2 rfl (qM rfl (fq b hb j) ?_);refine qU 1 rfl (ae.nil (AW.cond rfl (fun h=>?_) (fun h=>?_)))
   · have hne:a.getD j 0≠b.getD j 0:=fun e=>by rw[e] at h;simp at h
     refine AW.seq (qX 2 rfl (qM rfl (fq a ha j) ?_));refine qU 2 rfl (qM rfl (fq b hb j) ?_);refine qU 1 rfl (ae.nil (AW.cond rfl (fun h=>?_) (fun h=>?_)))
     · have hlt:a.getD j 0<b.getD j 0:=by have:=ao h;omega
       have hjb:j<b.length:=by
        rcases Nat.lt_or_ge j b.length with h | h
        · exact h
        · rw[eW h] at hlt;omega
       have hv:=vR ha hb hjb hlt (fun i hi=>hd i (by omega));rw[show iZ (nv a) (nv b)= -1 by simp[iZ,hv]];exact qX 1 rfl (qN rfl)
     · have hlt:b.getD j 0<a.getD j 0:=by have:=ar h;omega
       have hja:j<a.length:=by
        rcases Nat.lt_or_ge j a.length with h | h
        · exact h
        · rw[eW h] at hlt;omega
       have hv:=vR hb ha hja hlt (fun i hi=>(hd i (by omega)).symm);rw[show iZ (nv a) (nv b)=1 by unfold iZ;rw[if_neg (by omega),if_neg (by omega)]];exact AW.skip (qX 1 rfl (qN rfl))
   · have he:a.getD j 0=b.getD j 0:=by
      have:((a.getD j 0:Nat):Int)=((b.getD j 0:Nat):Int):=by simpa using h
      omega
     refine AW.skip (qT 3 rfl ?_);rw[aI (by omega) (by omega)];refine ae.nil ?_;refine⟨j,rfl,⟨by omega,fun i hi=>?_⟩,by omega⟩;by_cases hij:i=j
     · rw[hij,he]
     · exact hd i (by omega)
 · have hk0:k=0:=by have:=ar h;omega
   subst hk0;rw[show iZ (nv a) (nv b)=0 by rw[FU ha hb (fun j=>hd j (Nat.zero_le _))];simp[iZ]];exact AW.exit (qX 1 rfl (qN rfl))
set_option maxHeartbeats 800000 in
theorem nA(a b:List Nat)(ha:a8 a)(hb:a8 b)(hla:a.length≤35184372088830)(hlb:b.length≤35184372088830):Pure Tryz.prog 187 [Wd a,Wd b] (Wd (tw (nv a+nv b))):=by
 refine qJ 37 Tryz.func187 rfl rfl rfl rfl (by kernel_rfl) (fun B F0 w0=>?_);obtain ⟨N,hN⟩: ∃N,N=max a.length b.length+1:=⟨_,rfl⟩;refine qX 1 rfl (qK 1 rfl (qK 1 rfl (qI (qX 7 rfl ?_))));rw[ba,ba,show (if (b.length:Int)>(a.length:Int) then (b.length:Int) else (a.length:Int))=((N-1:Nat):Int) by split<;>omega,aI (by omega) (by omega),show ((N-1:Nat):Int)+1=(N:Int) by omega];refine ae.nil (AW.block ?_)
 refine AW.aL [0,1,5,6,14,15] (fun s:Nat×List Nat×Nat=>[(0,.d (Wd a)),(1,.d (Wd b)),(5,.ow 117 (s.2.1.map wd)),(6,.d (dU s.2.2)),(14,.d (dI N)),(15,.d (dI s.1))])
  (fun s=>s.1≤N∧s.2.1.length=s.1∧a8 s.2.1∧s.2.2≤1∧nv s.2.1+4294967296^s.1*s.2.2=nv (a.take s.1)+nv (b.take s.1)) (fun s=>N-s.1) (0,[],0) rfl ⟨Nat.zero_le _,rfl,a8.nil,by simp,by simp[nv]⟩ (fun (i,out,c) ⟨hi,hol,how,hc,hv⟩=>?_)
 simp only[] at hi hol how hc hv;refine qX 1 rfl (qI (AW.cond rfl (fun h=>?_) (fun h=>?_)))
 · have cV:i<N:=by have:=ao h;omega
   refine AW.skip (AW.seq (AW.block (qX 2 rfl (qK 2 rfl (qM rfl (fq a ha i) ?_)))));refine qU 2 rfl (qM rfl (fq b hb i) ?_);refine qU 4 rfl ?_;have hx:=ha.getD i;have hy:=hb.getD i;rw[uq (a.getD i 0) (b.getD i 0) (by omega),uq (a.getD i 0+b.getD i 0) c (by omega)];refine ae.nil ?_;obtain ⟨S,hS⟩: ∃S,S=a.getD i 0+b.getD i 0+c:=⟨_,rfl⟩;rw[← hS];refine qT 3 rfl ?_;rw[fm];refine ae.bs tok rfl rfl rfl rfl ?_;refine ae.lB tok rfl rfl rfl rfl rfl rfl (by show ((out.map wd).length+1)*4≤_;rw[ba];omega) (by show (out.map wd).length+1≤_;rw[ba];omega) ?_;refine qU 4 rfl ?_;rw[kq];refine ae.nil (qT 2 rfl ?_);rw[aI (by omega) (by omega)];refine ae.nil ?_;refine⟨(i+1,out++[S%4294967296],S / 4294967296),by rw[← we];rfl,⟨by omega,by simp[hol],a8.append.2 ⟨how,a8.cons.2 ⟨Nat.mod_lt _ (by decide),a8.nil⟩⟩,by show S / _≤1;omega,?_⟩,by simp only[];omega⟩;simp only[EB,hol,aW a i,aW b i,Nat.pow_succ];have:=gE (4294967296^i) S;have h3:4294967296^i*S=4294967296^i*a.getD i 0+4294967296^i*b.getD i 0+4294967296^i*c:=by rw[hS,Nat.mul_add,Nat.mul_add]
   omega
 · have cV:i=N:=by have:=ar h;omega
   subst cV;rw[List.take_of_length_le (by omega),List.take_of_length_le (by omega)] at hv;have h1:=dm ha;have h2:=dm hb
   have hc0:c=0:=by
    have h3:=iU (show a.length≤i-1 by omega);have h4:=iU (show b.length≤i-1 by omega);have h5:4294967296^i=4294967296^(i-1)*4294967296:=by rw[← Nat.pow_succ];congr 1;omega
    rcases Nat.eq_zero_or_pos c with h | h
    · exact h
    · have:4294967296^i*1≤4294967296^i*c:=Nat.mul_le_mul_left _ h;omega
   have hres:nv out=nv a+nv b:=by rw[hc0] at hv;simpa using hv
   refine AW.exit (qX 1 rfl (ae.jh tok 5 rfl rfl ?_));refine qM rfl (gT out how (by omega)) ?_;refine qU 1 rfl (ae.nil ?_);rw[hres];exact AW.ret rfl
theorem x7{x y c:Nat}(hx:x<4294967296)(hy:y<4294967296)(hc:c≤1):y+c≤4294967296+x∧(4294967296+x-y-c) / 4294967296≤1∧(4294967296+x-y-c)%4294967296+y+c=x+4294967296*(1-(4294967296+x-y-c) / 4294967296):=by omega
set_option maxHeartbeats 800000 in
theorem qO(a b:List Nat)(ha:a8 a)(hb:a8 b)(hla:a.length≤35184372088830)(hle:nv b≤nv a):Pure Tryz.prog 188 [Wd a,Wd b] (Wd (tw (nv a-nv b))):=by
 refine qJ 35 Tryz.func188 rfl rfl rfl rfl (by kernel_rfl) (fun B F0 w0=>?_);obtain ⟨N,hN⟩: ∃N,N=a.length:=⟨_,rfl⟩;refine qX 1 rfl (qK 1 rfl (qK 1 rfl (qI (qX 3 rfl ?_))));rw[ba,← hN];refine ae.nil (AW.block ?_)
 refine AW.aL [0,1,5,6,10,11] (fun s:Nat×List Nat×Nat=>[(0,.d (Wd a)),(1,.d (Wd b)),(5,.ow 117 (s.2.1.map wd)),(6,.d (dU s.2.2)),(10,.d (dI N)),(11,.d (dI s.1))])
  (fun s=>s.1≤N∧s.2.1.length=s.1∧a8 s.2.1∧s.2.2≤1∧nv s.2.1+nv (b.take s.1)=nv (a.take s.1)+4294967296^s.1*s.2.2) (fun s=>N-s.1) (0,[],0) rfl ⟨Nat.zero_le _,rfl,a8.nil,by simp,by simp[nv]⟩ (fun (i,out,c) ⟨hi,hol,how,hc,hv⟩=>?_)
 simp only[] at hi hol how hc hv;refine qX 1 rfl (qI (AW.cond rfl (fun h=>?_) (fun h=>?_)))
 · have cV:i<N:=by have:=ao h;omega
   refine AW.skip (AW.seq (AW.block (qX 2 rfl (qK 2 rfl (qM rfl (fq a ha i) ?_)))));refine qU 3 rfl (qM rfl (fq b hb i) ?_);refine qU 4 rfl ?_;have hx:=ha.getD i;have hy:=hb.getD i;obtain ⟨hd1,hd2,hd3⟩:=x7 hx hy hc;rw[Nv (a.getD i 0) hx,Jr (4294967296+a.getD i 0) (b.getD i 0) (by omega) (by omega),Jr (4294967296+a.getD i 0-b.getD i 0) c (by omega) (by omega)];refine ae.nil ?_;obtain ⟨S,hS⟩: ∃S,S=4294967296+a.getD i 0-b.getD i 0-c:=⟨_,rfl⟩;rw[← hS] at hd2 hd3 ⊢;refine qT 3 rfl ?_;rw[fm];refine ae.bs tok rfl rfl rfl rfl ?_;refine ae.lB tok rfl rfl rfl rfl rfl rfl (by show ((out.map wd).length+1)*4≤_;rw[ba];omega) (by show (out.map wd).length+1≤_;rw[ba];omega) ?_;refine qU 5 rfl ?_;rw[kq,GP (S / 4294967296) hd2];refine ae.nil (qT 2 rfl ?_);rw[aI (by omega) (by omega)];refine ae.nil ?_;refine⟨(i+1,out++[S%4294967296],1-S / 4294967296),by rw[← we];rfl,⟨by omega,by simp[hol],a8.append.2 ⟨how,a8.cons.2 ⟨Nat.mod_lt _ (by decide),a8.nil⟩⟩,by show 1-S / _≤1;omega,?_⟩,by simp only[];omega⟩;simp only[EB,hol,aW a i,aW b i,Nat.pow_succ];have:=congrArg (fun z=>4294967296^i*z) hd3;simp only[Nat.mul_add] at this;rw[Nat.mul_assoc];omega
 · have cV:i=N:=by have:=ar h;omega
   subst cV;rw[List.take_of_length_le (l:=a) (by omega)] at hv;have h1:=dm ha;have h3:=dm how;rw[hol] at h3;rw[← hN] at h1
   have hbt:nv (b.take i)=nv b:=by
    by_cases hlb:i≤b.length
    · have h4:=bC b i hlb;rcases Nat.eq_zero_or_pos (nv (b.drop i)) with h | h
      · rw[h4,h];omega
      · have:4294967296^i*1≤4294967296^i*nv (b.drop i):=Nat.mul_le_mul_left _ h;omega
    · rw[List.take_of_length_le (by omega)]
   have hc0:c=0:=by
    rcases Nat.eq_zero_or_pos c with h | h
    · exact h
    · have:4294967296^i*1≤4294967296^i*c:=Nat.mul_le_mul_left _ h;omega
   have hres:nv out=nv a-nv b:=by rw[hc0] at hv;omega
   refine AW.exit (qX 1 rfl (ae.jh tok 5 rfl rfl ?_));refine qM rfl (gT out how (by omega)) ?_;refine qU 1 rfl (ae.nil ?_);rw[hres];exact AW.ret rfl
end Lift
namespace Lift
open Go Go.Proofs
set_option maxHeartbeats 800000 in
theorem zF(a b:List Nat)(ha:a8 a)(hb:a8 b)(hla:a.length≤17450000000000)(hlb:b.length≤17450000000000):Pure Tryz.prog 195 [Wd a,Wd b] (Wd (tw (nv a*nv b))):=by
 refine qJ 68 Tryz.func195 rfl rfl rfl rfl (by kernel_rfl) (fun B F0 w0=>?_);refine qX 1 rfl (qK 5 rfl ?_);refine ae.pb tok (a.length+b.length) rfl rfl rfl rfl rfl rfl (by simp only[af];rw[aI (by omega) (by omega)];omega) rfl (by omega) ?_;refine qU 1 rfl (qI (qX 3 rfl ?_));rw[ba a];refine ae.nil (AW.block ?_)
 refine AW.aL [0,1,5,17,18] (fun s:Nat×List Nat=>[(0,.d (Wd a)),(1,.d (Wd b)),(5,.ow 117 (s.2.map wd)),(17,.d (dI a.length)),(18,.d (dI s.1))])
  (fun s=>s.1≤a.length∧s.2.length=a.length+b.length∧a8 s.2∧(∀j,s.1+b.length≤j→s.2.getD j 0=0)∧nv s.2=nv (a.take s.1)*nv b) (fun s=>a.length-s.1) (0,List.replicate (a.length+b.length) 0) rfl ⟨Nat.zero_le _,by simp,a8.replicate _,fun j _=>by simp[List.getD,List.getElem?_replicate];split<;>rfl,by simp[nv,ir]⟩ (fun (i,out) ⟨hi,hol,how,hz,hv⟩=>?_)
 simp only[] at hi hol how hz hv;refine qX 1 rfl (qI (AW.cond rfl (fun h=>?_) (fun h=>?_)))
 · have cV:i<a.length:=by have:=ao h;omega
   have hx:=ha.getD i;refine AW.skip (AW.seq (AW.block (qX 2 rfl (qK 1 rfl (qI (qX 3 rfl ?_))))));rw[ba b];refine ae.nil (AW.block ?_)
   refine AW.aL [0,1,5,17,18,6,7,22,23] (fun s:Nat×List Nat×Nat=>[(0,.d (Wd a)),(1,.d (Wd b)),(5,.ow 117 (s.2.1.map wd)),(17,.d (dI a.length)),(18,.d (dI i)),(6,.d (dI i)),(7,.d (dU s.2.2)),(22,.d (dI b.length)),(23,.d (dI s.1))])
    (fun s=>s.1≤b.length∧s.2.1.length=a.length+b.length∧a8 s.2.1∧(∀j,i+b.length≤j→s.2.1.getD j 0=0)∧s.2.2<4294967296∧nv s.2.1+4294967296^(i+s.1)*s.2.2=nv (a.take i)*nv b+4294967296^i*(a.getD i 0*nv (b.take s.1))) (fun s=>b.length-s.1) (0,out,0) rfl ⟨Nat.zero_le _,hol,how,hz,by simp,by simp[nv,hv]⟩ (fun (k,o,c) ⟨hk,hol,how,hz,hc,hv⟩=>?_)
   simp only[] at hk hol how hz hc hv;refine qX 1 rfl (qI (AW.cond rfl (fun h=>?_) (fun h=>?_)))
   · have hkN:k<b.length:=by have:=ao h;omega
     have hy:=hb.getD k;have ho:=how.getD (i+k);have hxy:a.getD i 0*b.getD k 0≤4294967295*4294967295:=Nat.mul_le_mul (by omega) (by omega);refine AW.skip (AW.seq (AW.block (qX 2 rfl (qI (AW.draw aS 21 (by kernel_rfl) ?_)))));refine qP 2 rfl (ah.idx tok (wd (a.getD i 0)) rfl rfl rfl rfl rfl (aj i) (bS (by omega)) ?_);refine qP 4 rfl (ah.idx tok (wd (b.getD k 0)) rfl rfl rfl rfl rfl (aj k) (bS (by omega)) ?_);refine qP 7 rfl ?_;rw[aI (x:=(i:Int)+(k:Int)) (by omega) (by omega),← Int.natCast_add i k];refine ah.gD tok rfl rfl rfl rfl rfl rfl (aj (i+k)) (by simp;omega) ?_;refine ah.df tok (wd (o.getD (i+k) 0)) rfl rfl rfl rfl rfl (bS (by simp;omega)) rfl ?_;refine qP 4 rfl ?_;rw[fK (a.getD i 0) (by omega),fK (b.getD k 0) (by omega),JV (a.getD i 0) (b.getD k 0) (by omega),fK (o.getD (i+k) 0) (by omega),uq _ (o.getD (i+k) 0) (by omega),uq _ c (by omega)];refine ah.nil (qU 1 rfl (ae.nil ?_));obtain ⟨S,hS0⟩: ∃S,S=a.getD i 0*b.getD k 0+o.getD (i+k) 0+c:=⟨_,rfl⟩;rw[← hS0];have hS:S=c+(a.getD i 0*b.getD k 0+o.getD (i+k) 0):=by omega
     refine qT 8 rfl ?_;rw[aI (x:=(i:Int)+(k:Int)) (by omega) (by omega),← Int.natCast_add i k,kq];refine ae.gD tok rfl rfl rfl rfl (aj (i+k)) (by simp;omega) ?_;refine ae.jI tok (S%4294967296) rfl rfl rfl (by simp;omega) (fm _) ?_;refine qU 1 rfl (ae.nil (qT 2 rfl ?_));rw[aI (by omega) (by omega)];refine ae.nil ?_;refine⟨(k+1,o.set (i+k) (S%4294967296),S / 4294967296),rfl,⟨by omega,by simpa using hol,how.set _ (by omega),fun j hj=>?_,by show S / 4294967296<4294967296;omega,?_⟩,by simp only[];omega⟩
     · rw[fk _ _ _ _ (by omega),if_neg (by (try simp only[] at hj);omega)];exact hz j hj
     · have h1:=gx (l:=o) (i:=i+k) (x:=S%4294967296) (by omega);have h2:=gE (4294967296^(i+k)) S;have h3:4294967296^(i+k)*S=4294967296^(i+k)*c+(4294967296^(i+k)*(a.getD i 0*b.getD k 0)+4294967296^(i+k)*o.getD (i+k) 0):=by rw[hS,Nat.mul_add,Nat.mul_add]
       have h4:4294967296^i*(a.getD i 0*(nv (b.take k)+4294967296^k*b.getD k 0))=4294967296^i*(a.getD i 0*nv (b.take k))+4294967296^(i+k)*(a.getD i 0*b.getD k 0):=by
        rw[Nat.pow_add];simp only[Nat.mul_add]
        congr 1
        ac_rfl
       simp only[aW b k];rw[h4,show i+(k+1)=i+k+1 by omega,Nat.pow_succ];omega
   · have hkN:k=b.length:=by have:=ar h;omega
     subst hkN;refine AW.exit (qT 7 rfl ?_);rw[ba b,aI (x:=(i:Int)+(b.length:Int)) (by omega) (by omega),← Int.natCast_add i b.length];refine ae.gD tok rfl rfl rfl rfl (aj (i+b.length)) (by simp;omega) ?_;refine ae.jI tok (c%4294967296) rfl rfl rfl (by simp;omega) (fm _) ?_;refine ae.nil (qT 2 rfl ?_);rw[aI (by omega) (by omega)];refine ae.nil ?_;refine⟨(i+1,o.set (i+b.length) (c%4294967296)),rfl,⟨by omega,by simpa using hol,how.set _ (by omega),fun j hj=>?_,?_⟩,by simp only[];omega⟩
     · rw[fk _ _ _ _ (by omega),if_neg (by (try simp only[] at hj);omega)];exact hz j (by (try simp only[] at hj);omega)
     · have h1:=gx (l:=o) (i:=i+b.length) (x:=c%4294967296) (by omega);rw[hz (i+b.length) (ai _),Nat.mul_zero,Nat.add_zero,Nat.mod_eq_of_lt hc,hv,List.take_of_length_le (ai _)] at h1;simp only[aW a i];rw[Nat.mod_eq_of_lt hc,h1,Nat.add_mul]
       ac_rfl
 · have cV:i=a.length:=by have:=ar h;omega
   subst cV;rw[List.take_of_length_le (ai _)] at hv;refine AW.exit (qX 1 rfl (ae.jh tok 5 rfl rfl ?_));refine qM rfl (gT out how (by omega)) ?_;refine qU 1 rfl (ae.nil ?_);rw[hv];exact AW.ret rfl
set_option maxHeartbeats 800000 in
theorem vF(L:List Nat)(lo m:Nat)(hL:a8 L)(hlm:lo+m≤L.length)(hm:m≤35184372088831):
  D4 Tryz.prog 205 117 (L.map wd) lo m [] (L.map wd) (.part lo (tw (nv (dE L lo m))).length):=by
 refine D4.intro (n:=21) tok Tryz.func205 rfl rfl rfl (Nat.le_of_ble_eq_true rfl) (by kernel_rfl) rfl (fun B F0 w0=>?_);obtain ⟨a,ha0⟩: ∃a,a=dE L lo m:=⟨_,rfl⟩;have ha:a8 a:=by rw[ha0];exact hL.dE _ _
 have hal:a.length=m:=by rw[ha0,bU hlm]
 have hag: ∀j,j<m→a.getD j 0=L.getD (lo+j) 0:=fun j hj=>by rw[ha0,gm _ _ _ _ hj]
 rw[← ha0];refine qX 1 rfl (qI (AW.block ?_));refine AW.aL [0] (fun k:Nat=>[(0,.wn true 117 (L.map wd) lo k)]) (fun k=>k≤m∧ ∀i,k≤i→a.getD i 0=0) (fun k=>k) m rfl ⟨ai _,fun i hi=>eW (by omega)⟩ (fun k ⟨hk,hz⟩=>?_);refine AW.seq ?_;have hwl:(((L.map wd).drop lo).take k).length=k:=nN (by omega);refine AW.cut [0,14] (fun b:Bool=>[(0,.wn true 117 (L.map wd) lo k),(14,.d (dB b))]) (fun b=>(b=true→0<k∧a.getD (k-1) 0=0)∧(b=false→k=0∨a.getD (k-1) 0≠0)) ?_ (fun b ⟨ht,hf⟩=>?_)
 · refine qT 4 rfl ?_;rw[hwl];refine ae.split (t:=6) rfl (fun h=>?_) (fun h=>?_)
   · have hk0:0<k:=by have:=ao h;omega
     obtain ⟨j,rfl⟩: ∃j,k=j+1:=⟨k-1,by omega⟩;refine qU 4 rfl ?_;rw[hwl,aI (by omega) (by omega),show ((j+1:Nat):Int) -1=(j:Int) by omega];refine ae.oX tok rfl rfl rfl rfl (aj j) (by simp only[Int.toNat_natCast];omega) ?_;rw[Int.toNat_natCast];refine ae.df tok (wd (L.getD (lo+j) 0)) rfl rfl rfl rfl (bS (by omega)) rfl ?_;refine qU 2 rfl (ae.nil ?_);rw[← hag j (by omega)];exact⟨_,rfl,⟨fun h=>⟨by omega,by have:=ao h;simp at this;simpa using this⟩,fun h=> .inr (by simpa using h)⟩⟩
   · have hk0:k=0:=by have:=ar h;omega
     refine qU 8 rfl (ae.nil ?_);exact⟨_,rfl,⟨fun h=>by simp at h,fun h=> .inl hk0⟩⟩
 · refine AW.cond rfl (fun h=>?_) (fun h=>?_)
   · obtain ⟨h0,h1⟩:=ht h;refine AW.skip (AW.block (qT 4 rfl ?_));rw[hwl,aI (by omega) (by omega),show (k:Int) -1=((k-1:Nat):Int) by omega];refine ae.Mr tok rfl rfl rfl rfl trivial (aj _) (by simp only[fU,cV,Int.toNat_natCast];omega) (by simp only[cV,Int.toNat_natCast];omega) ?_;rw[show lo+fU none=lo from rfl,show cV k (some ((k-1:Nat):Int)) -fU none=k-1 by simp[cV,fU]];refine qU 1 rfl (ae.nil ?_);refine⟨k-1,rfl,⟨by omega,fun i hi=>?_⟩,by omega⟩;by_cases he:i=k-1
     · rw[he,h1]
     · exact hz i (by omega)
   · have hres:=y5 ha (by omega) hz (hf h);have hlen:k=(tw (nv a)).length:=by rw[← hres];simp;omega
     refine AW.exit ?_;rw[← hlen];refine qX 2 rfl (ae.gw 2 0 rfl rfl rfl rfl ?_);exact ae.nil (AW.ret ⟨0,⟨lo,k,rfl⟩,2,rfl,_,rfl,rfl⟩)
theorem Dq(v i:Nat):v / 2 / 4294967296^i%4294967296=(v / 4294967296^(i+1)%4294967296*4294967296+v / 4294967296^i%4294967296) / 2%4294967296:=by
 have:=wJ v 1 i (by decide);simpa using this
theorem J8(x y:Nat)(hx:x<4294967296)(hy:y<4294967296):(x / 2 ||| y*2147483648)%4294967296=(y*4294967296+x) / 2%4294967296:=by
 have h:=zL y 31 (x / 2) (by omega);rw[show (2:Nat)^31=2147483648 from rfl] at h;rw[h];omega
set_option maxHeartbeats 800000 in
theorem zH(L:List Nat)(lo m:Nat)(hL:a8 L)(hlm:lo+m≤L.length)(hm:m≤35184372088830)(hm0:0<m):
  D4 Tryz.prog 203 117 (L.map wd) lo m [] ((put L lo m (dg m (nv (dE L lo m) / 2))).map wd) (.part lo (tw (nv (dE L lo m) / 2)).length):=by
 refine D4.intro (n:=26) tok Tryz.func203 rfl rfl rfl (Nat.le_of_ble_eq_true rfl) (by kernel_rfl) (by rw[af,af,ei hlm (aT _ _)]) (fun B F0 w0=>?_);obtain ⟨V,hV⟩: ∃V,V=nv (dE L lo m):=⟨_,rfl⟩;rw[← hV]
 have hVd: ∀j,L.getD (lo+j) 0=V / 4294967296^j%4294967296∨m≤j:=fun j=>by
  rcases Nat.lt_or_ge j m with h | h
  · exact .inl (by rw[hV,← fG (hL.dE lo m) j,gm _ _ _ _ h])
  · exact .inr h
 refine qX 1 rfl (qI (qX 3 rfl ?_));rw[nN hlm];refine ae.nil (AW.block ?_)
 refine AW.aL [0,5,6] (fun s:Nat×List Nat=>[(0,.wn true 117 (s.2.map wd) lo m),(5,.d (dI m)),(6,.d (dI s.1))])
  (fun s=>s.1≤m∧s.2.length=L.length∧a8 s.2∧s.2.take lo=L.take lo∧s.2.drop (lo+s.1)=L.drop (lo+s.1)∧ ∀j,j<s.1→s.2.getD (lo+j) 0=V / 2 / 4294967296^j%4294967296) (fun s=>m-s.1) (0,L) rfl ⟨Nat.zero_le _,rfl,hL,rfl,rfl,fun j hj=>by simp at hj⟩ (fun (i,M) ⟨hi,hMl,hMw,ht,hd,he⟩=>?_)
 simp only[] at hi hMl hMw ht hd he;refine qX 1 rfl (qI (AW.cond rfl (fun h=>?_) (fun h=>?_)))
 · have cV:i<m:=by have:=ao h;omega
   have hx:=(hMw.dE lo m).getD i;have hy:=(hMw.dE lo m).getD (i+1);have hME:=fW hd;refine AW.skip (AW.seq (AW.block (qX 2 rfl (ae.nil (qT 4 rfl (ae.calls tok rfl rfl rfl rfl (pI M lo m hMw i) rfl ?_))))));refine qU 4 rfl ?_;rw[aI (x:=(i:Int)+1) (by omega) (by omega),show (i:Int)+1=((i+1:Nat):Int) by omega];refine ae.calls tok rfl rfl rfl rfl (pI M lo m hMw (i+1)) rfl ?_;refine qU 3 rfl ?_;rw[Jx _ 1 (by decide),Lm _ 31 (by decide) (by omega),N4 _ _ (by omega) (by omega),fm];refine ae.oX tok rfl rfl rfl rfl (aj i) cV ?_;rw[Int.toNat_natCast];refine ae.zb tok (((dE M lo m).getD i 0 / 2^1 ||| (dE M lo m).getD (i+1) 0*2^31)%4294967296) rfl rfl rfl (by omega) rfl ?_;refine ae.nil ?_;rw[show (2:Nat)^1=2 from rfl,show (2:Nat)^31=2147483648 from rfl,J8 _ _ hx hy]
   have hdig:((dE M lo m).getD (i+1) 0*4294967296+(dE M lo m).getD i 0) / 2%4294967296=V / 2 / 4294967296^i%4294967296:=by
    rw[Dq]
    have e1:(dE M lo m).getD i 0=V / 4294967296^i%4294967296:=by
     rw[gm _ _ _ _ cV,hME];exact(hVd i).resolve_right (by omega)
    have e2:(dE M lo m).getD (i+1) 0=V / 4294967296^(i+1)%4294967296:=by
     rcases Nat.lt_or_ge (i+1) m with h | h
     · rw[gm _ _ _ _ h,← Nat.add_assoc,fW (kj hd),Nat.add_assoc];exact(hVd (i+1)).resolve_right (by omega)
     · rw[eW (by rw[bU (by omega)];exact h)]
       have:V<4294967296^(i+1):=by
        have:=dm (hL.dE lo m);rw[bU hlm,← hV] at this;exact Nat.lt_of_lt_of_le this (iU (by omega))
       rw[Nat.div_eq_of_lt this]
    rw[e1,e2]
   rw[hdig];refine qT 2 rfl ?_;rw[aI (by omega) (by omega)];refine ae.nil ?_;refine⟨(i+1,M.set (lo+i) (V / 2 / 4294967296^i%4294967296)),rfl,⟨by omega,by simpa using hMl,hMw.set _ (Nat.mod_lt _ (by decide)),by simp only[kO,ht],by simp only[];rw[← Nat.add_assoc,gW,kj hd],fun j hj=>?_⟩,by simp only[];omega⟩;simp only[] at hj ⊢;rw[fk _ _ _ _ (by omega)];split
   · rename_i hji;have:j=i:=by omega
     subst this;rfl
   · exact he j (by omega)
 · have cV:i=m:=by have:=ar h;omega
   subst cV
   have hw:dE M lo i=dg i (V / 2):=by
    refine rH (by rw[bU (by omega),aT]) (fun j hj=>?_);rw[bU (by omega)] at hj;rw[gm _ _ _ _ hj,he j hj,fG (fx i (V / 2)) j,iN]
    have hlt:V / 2<4294967296^i:=by
     have:=dm (hL.dE lo i);rw[bU hlm,← hV] at this;omega
    rw[Nat.mod_eq_of_lt hlt]
   have hres:put L lo i (dg i (V / 2))=M:=(Ar ht hd hw).symm
   have hwv:nv (dE M lo i)=V / 2:=by
    rw[hw,iN];have:=dm (hL.dE lo i);rw[bU hlm,← hV] at this;exact Nat.mod_eq_of_lt (by omega)
   have hcut:=vF M lo i hMw (by omega) (by omega);rw[hwv] at hcut;rw[hres];refine AW.exit (qX 1 rfl (ae.tJ tok rfl rfl rfl rfl hcut hm0 (fR _) rfl ?_));exact qU 1 rfl (ae.nil (AW.ret ⟨2,⟨_,_,rfl⟩,2,rfl,_,rfl,rfl⟩))
set_option maxHeartbeats 800000 in
theorem tn(L v:List Nat)(lo m:Nat)(hL:a8 L)(hv:a8 v)(hlm:lo+m≤L.length)(hm:m≤35184372088830)(hle:nv v≤nv (dE L lo m)):
  D4 Tryz.prog 204 117 (L.map wd) lo m [Wd v] ((put L lo m (dg m (nv (dE L lo m) -nv v))).map wd) (.val (.tu [])):=by
 refine D4.intro (n:=31) tok Tryz.func204 rfl rfl rfl (Nat.le_of_ble_eq_true rfl) (by kernel_rfl) (by rw[af,af,ei hlm (aT _ _)]) (fun B F0 w0=>?_);refine qX 1 rfl (qK 3 rfl ?_);rw[nN hlm];refine ae.nil (AW.block ?_)
 refine AW.aL [0,1,4,8,9] (fun s:Nat×List Nat×Nat=>[(0,.wn true 117 (s.2.1.map wd) lo m),(1,.d (Wd v)),(4,.d (dU s.2.2)),(8,.d (dI m)),(9,.d (dI s.1))])
  (fun s=>s.1≤m∧s.2.1.length=L.length∧a8 s.2.1∧s.2.2≤1∧s.2.1.take lo=L.take lo∧s.2.1.drop (lo+s.1)=L.drop (lo+s.1)∧nv ((s.2.1.drop lo).take s.1)+nv (v.take s.1)=nv ((L.drop lo).take s.1)+4294967296^s.1*s.2.2) (fun s=>m-s.1) (0,L,0) rfl ⟨Nat.zero_le _,rfl,hL,by simp,rfl,rfl,by simp[nv]⟩ (fun (i,M,c) ⟨hi,hMl,hMw,hc,ht,hd,he⟩=>?_)
 simp only[] at hi hMl hMw hc ht hd he;refine qX 1 rfl (qI (AW.cond rfl (fun h=>?_) (fun h=>?_)))
 · have cV:i<m:=by have:=ao h;omega
   have hx:=hMw.getD (lo+i);have hy:=hv.getD i;have hME:=fW hd;refine AW.skip (AW.seq (AW.block (qX 2 rfl (qK 2 rfl (ae.calls tok rfl rfl rfl rfl (pI M lo m hMw i) rfl ?_)))));rw[gm M lo m i cV];refine qU 3 rfl (qM rfl (fq v hv i) ?_);refine qU 4 rfl ?_;obtain ⟨hd1,hd2,hd3⟩:=x7 hx hy hc;rw[Nv (M.getD (lo+i) 0) hx,Jr (4294967296+M.getD (lo+i) 0) (v.getD i 0) (by omega) (by omega),Jr (4294967296+M.getD (lo+i) 0-v.getD i 0) c (by omega) (by omega)];refine ae.nil ?_;obtain ⟨S,hS⟩: ∃S,S=4294967296+M.getD (lo+i) 0-v.getD i 0-c:=⟨_,rfl⟩;rw[← hS] at hd2 hd3 ⊢;refine qT 7 rfl ?_;rw[kq,GP (S / 4294967296) hd2];refine ae.oX tok rfl rfl rfl rfl (aj i) cV ?_;refine ae.zb tok (S%4294967296) rfl rfl rfl (by simp;omega) (fm _) ?_;refine qU 1 rfl (ae.nil (qT 2 rfl ?_));rw[aI (by omega) (by omega)];refine ae.nil ?_;refine⟨(i+1,M.set (lo+i) (S%4294967296),1-S / 4294967296),rfl,⟨by omega,by simpa using hMl,hMw.set _ (by omega),by show 1-S / 4294967296≤1;omega,?_,?_,?_⟩,by simp only[];omega⟩
   · simp only[kO,ht]
   · simp only[];rw[← Nat.add_assoc,gW,kj hd]
   · simp only[];rw[pS (by omega),aW (L.drop lo) i,aW v i,lS,← hME,Nat.pow_succ];have:=congrArg (fun z=>4294967296^i*z) hd3;simp only[Nat.mul_add] at this;rw[Nat.mul_assoc];omega
 · have cV:i=m:=by have:=ar h;omega
   subst cV;have e:nv (dE M lo i)+nv (v.take i)=nv (dE L lo i)+4294967296^i*c:=he;have h3:nv (dE M lo i)<4294967296^i:=by have:=dm (hMw.dE lo i);rwa [bU (by omega)] at this
   have h1:nv (dE L lo i)<4294967296^i:=by have:=dm (hL.dE lo i);rwa [bU (by omega)] at this
   have hbt:nv (v.take i)=nv v:=by
    by_cases hlb:i≤v.length
    · have h4:=bC v i hlb;rcases Nat.eq_zero_or_pos (nv (v.drop i)) with h | h
      · rw[h4,h];omega
      · have:4294967296^i*1≤4294967296^i*nv (v.drop i):=Nat.mul_le_mul_left _ h;omega
    · rw[List.take_of_length_le (by omega)]
   have hc0:c=0:=by
    rcases Nat.eq_zero_or_pos c with h | h
    · exact h
    · have:4294967296^i*1≤4294967296^i*c:=Nat.mul_le_mul_left _ h;omega
   have hres:put L lo i (dg i (nv (dE L lo i) -nv v))=M:=by
    have hw:dE M lo i=dg i (nv (dE L lo i) -nv v):=Ci (hMw.dE lo i) (bU (by omega)) (by rw[hc0] at e;omega);exact(Ar ht hd hw).symm
   rw[hres];refine AW.exit ?_;exact⟨⟨lo,i,rfl⟩,rfl,rfl⟩
theorem Mb{a:List Nat}(ha:a8 a)(na:Nm a)(h0:a≠[]):bl (nv a)=32*(a.length-1)+bl (a.getD (a.length-1) 0):=by
 have hl:0<a.length:=List.length_pos_iff.2 h0;have h1:=zT na h0;have h2:=vU a (a.length-1) (by omega);rw[List.drop_of_length_le (by omega)] at h2;simp only[nv,Nat.mul_zero,Nat.add_zero] at h2;have h3:=mu ha (a.length-1);have e:(2:Nat)^(32*(a.length-1))=4294967296^(a.length-1):=by rw[Nat.pow_mul]
 rw[rK (32*(a.length-1)) (nv a) (by rw[e];exact h1),e,h2,Nat.add_mul_div_left _ _ (pow_pos _),Nat.div_eq_of_lt h3,Nat.zero_add]
set_option maxHeartbeats 800000 in
theorem BB(a:List Nat)(ha:a8 a)(na:Nm a)(hla:a.length≤35184372088830):Pure Tryz.prog 206 [Wd a] (dI (bl (nv a))):=by
 refine qJ 25 Tryz.func206 rfl rfl rfl rfl (by kernel_rfl) (fun B F0 w0=>?_);refine qX 1 rfl (qI (qX 3 rfl (ae.nil (AW.cond rfl (fun h=>?_) (fun h=>?_)))))
 · have h0:a=[]:=by simpa using h
   rw[h0,show nv []=0 from rfl,oK];exact qX 1 rfl (qN rfl)
 · have h0:a≠[]:=by simpa using h
   have hl:0<a.length:=List.length_pos_iff.2 h0;have hT:=ha.getD (a.length-1);have hbl:=Mb ha na h0;have hb32:=gX (show a.getD (a.length-1) 0<2^32 by omega);refine AW.skip (qX 5 rfl ?_);rw[ba,aI (x:=(a.length:Int) -1) (by omega) (by omega),aI (by omega) (by omega),show (32:Int)*((a.length:Int) -1)=((32*(a.length-1):Nat):Int) by omega];refine qI (qX 4 rfl ?_);rw[ba,aI (x:=(a.length:Int) -1) (by omega) (by omega),show (a.length:Int) -1=((a.length-1:Nat):Int) by omega];refine ae.idx tok (wd (a.getD (a.length-1) 0)) rfl rfl rfl rfl (aj _) (bS (by omega)) ?_;refine qU 2 rfl (ae.nil ?_);refine AW.block (AW.aL [3,4] (fun s:Nat×Nat=>[(3,.d (dI s.1)),(4,.d (wd s.2))]) (fun s=>s.1+bl s.2=bl (nv a)∧s.2<4294967296) (fun s=>s.2) (32*(a.length-1),a.getD (a.length-1) 0) rfl ⟨hbl.symm,hT⟩ (fun (k,x) ⟨hk,hx⟩=>?_));simp only[] at hk hx;refine AW.seq (qX 2 rfl (ae.nil (AW.cond rfl (fun h=>?_) (fun h=>?_))))
   · have hx0:x≠0:=by have:=ao h;omega
     rw[AD hx0] at hk;refine AW.skip (AW.seq (AW.block (qT 3 rfl ?_)));rw[aI (by omega) (by omega)];refine ae.nil (qT 3 rfl ?_);rw[GY x 1 (by decide)];refine ae.nil ?_;exact⟨(k+1,x / 2^1),rfl,⟨by simp only[Nat.pow_one];omega,by simp only[Nat.pow_one];omega⟩,by simp only[Nat.pow_one];omega⟩
   · have hx0:x=0:=by have:=ar h;omega
     subst hx0;rw[oK,Nat.add_zero] at hk;subst hk;exact AW.exit (qX 2 rfl (qN rfl))
end Lift
namespace Lift
open Go Go.Proofs
theorem IS(x:Nat)(h:x<4294967296):IntKind.u32.wrap ((BitVec.ofInt IntKind.u32.bits (x:Int) &&& BitVec.ofInt IntKind.u32.bits 1).toNat:Int)=((x%2:Nat):Int):=by
 have hb:IntKind.u32.bits=32:=rfl;rw[hb,BitVec.ofInt_natCast,show BitVec.ofInt 32 1=BitVec.ofNat 32 1 from rfl,BitVec.toNat_and,BitVec.toNat_ofNat,BitVec.toNat_ofNat,Nat.mod_eq_of_lt h,Nat.mod_eq_of_lt (by decide),Nat.and_one_is_mod];exact Mz (by omega) (by omega)
structure l4 (A:List Nat) (x:Nat):Prop where
 w:a8 A
 len:A.length≤35184372088830
 le:(tw x).length≤A.length
 dE:dE A 0 (tw x).length=tw x
abbrev xm(A:List Nat)(x:Nat):AV:= .wn false 117 (A.map wd) 0 (tw x).length
theorem Nn{v k:Nat}(h:v<4294967296^k):(dg k v).take (tw v).length=tw v:=by
 rw[Au _ _ _ (gL h)];exact(Ci (fr v) rfl (ez v)).symm
theorem l4.nv{A:List Nat}{x:Nat}(h:l4 A x):nv (Lift.dE A 0 (tw x).length)=x:=by rw[h.dE,ez]
theorem l4.trim{a:List Nat}(ha:a8 a)(hl:a.length≤35184372088830):l4 a (Lift.nv a):=⟨ha,hl,qj ha,Gz ha⟩
theorem l4.put{A:List Nat}{x v:Nat}(h:l4 A x)(hv:v≤x):l4 (put A 0 (tw x).length (dg (tw x).length v)) v:=by
 have hlt:v<4294967296^(tw x).length:=Nat.lt_of_le_of_lt hv (eV x);have hl:(Lift.put A 0 (tw x).length (dg (tw x).length v)).length=A.length:=ei (by have:=h.le;omega) (aT _ _);have hle:=gL hlt;refine⟨h.w.put (fx _ _) _ _,by rw[hl];exact h.len,by rw[hl];have:=h.le;omega,?_⟩;have hw:=uu (l:=A) (lo:=0) (m:=(tw x).length) (w:=dg (tw x).length v) (by have:=h.le;omega) (aT _ _);rw[Lift.dE,List.drop_zero] at hw ⊢;have:((Lift.put A 0 (tw x).length (dg (tw x).length v)).take (tw x).length).take (tw v).length=tw v:=by rw[hw];exact Nn hlt
 rwa [List.take_take,Nat.min_eq_left hle] at this
theorem l4.NY{A:List Nat}{x v:Nat}(h:l4 A x)(hv:v≤x):Lift.nv (Lift.dE (Lift.put A 0 (tw x).length (dg (tw x).length v)) 0 (tw x).length)=v:=by
 rw[uu (by have:=h.le;omega) (aT _ _),iN];exact Nat.mod_eq_of_lt (Nat.lt_of_le_of_lt hv (eV x))
theorem bI{x:Nat}(h:0<x):0<(tw x).length:=List.length_pos_iff.2 (GB (by omega))
theorem l4.first{A:List Nat}{x:Nat}(h:l4 A x)(h0:0<x):A.getD 0 0=x%4294967296:=by
 have h1:=gm A 0 (tw x).length 0 (bI h0);rw[h.dE] at h1;rw[← h1,fG (fr x) 0,ez];simp
theorem l4.even{A:List Nat}{x:Nat}(h:l4 A x)(h0:0<x):(((A.getD 0 0%2:Nat):Int)==0)=decide (x%2=0):=by
 rw[h.first h0,Bool.eq_iff_iff];simp;omega
theorem l4.EO{A:List Nat}{x:Nat}(h:l4 A x)(h0:0<x):D4 Tryz.prog 203 117 (A.map wd) 0 (tw x).length [] ((Lift.put A 0 (tw x).length (dg (tw x).length (x / 2))).map wd) (.part 0 (tw (x / 2)).length):=by
 have:=zH A 0 (tw x).length h.w (by have:=h.le;omega) (by have:=h.le;have:=h.len;omega) (bI h0)
 rwa [h.nv] at this
theorem l4.take{A B:List Nat}{x y:Nat}(h:l4 A x)(k:l4 B y)(hle:y≤x):D4 Tryz.prog 204 117 (A.map wd) 0 (tw x).length [.sl 1 (((B.map wd).drop 0).take (tw y).length)] ((Lift.put A 0 (tw x).length (dg (tw x).length (x-y))).map wd) (.val (.tu [])):=by
 have:=tn A (tw y) 0 (tw x).length h.w (fr y) (by have:=h.le;omega) (by have:=h.le;have:=h.len;omega) (by rw[h.nv,ez];exact hle);rw[h.nv,ez] at this;rw[rS,k.dE];exact this
theorem l4.cut{A:List Nat}{x v:Nat}(h:l4 A x)(hv:v≤x):D4 Tryz.prog 205 117 ((Lift.put A 0 (tw x).length (dg (tw x).length v)).map wd) 0 (tw x).length [] ((Lift.put A 0 (tw x).length (dg (tw x).length v)).map wd) (.part 0 (tw v).length):=by
 have hl:(Lift.put A 0 (tw x).length (dg (tw x).length v)).length=A.length:=ei (by have:=h.le;omega) (aT _ _);have:=vF (Lift.put A 0 (tw x).length (dg (tw x).length v)) 0 (tw x).length (h.w.put (fx _ _) _ _) (by rw[hl];have:=h.le;omega) (by have:=h.le;have:=h.len;omega)
 rwa [h.NY hv] at this
theorem l4.cmp{A B:List Nat}{x y:Nat}(h:l4 A x)(k:l4 B y):Pure Tryz.prog 194 [.sl 1 (((A.map wd).drop 0).take (tw x).length),.sl 1 (((B.map wd).drop 0).take (tw y).length)] (dI (iZ x y)):=by
 rw[rS,rS,h.dE,k.dE];have:=ku (tw x) (tw y) (fr x) (fr y) (by have:=h.le;have:=h.len;omega) (by have:=k.le;have:=k.len;omega)
 rwa [ez,ez] at this
theorem Oh{y:Nat}(h:y%2=1):Nat.Coprime 2 y:=by
 rw[Nat.Coprime,Nat.gcd_rec,h];decide
theorem wq{x y:Nat}(hx:x%2=0)(hy:y%2=1):Nat.gcd (x / 2) y=Nat.gcd x y:=by
 have:x=2*(x / 2):=by omega
 conv=>rhs;rw[this]
 exact(Nat.Coprime.gcd_mul_left_cancel (x / 2) (Oh hy)).symm
theorem Dw{x y:Nat}(hx:x%2=1)(hy:y%2=0):Nat.gcd x (y / 2)=Nat.gcd x y:=by
 rw[Nat.gcd_comm,wq hy hx,Nat.gcd_comm]
theorem Dz{x y:Nat}(hx:x%2=0)(hy:y%2=0):Nat.gcd x y=2*Nat.gcd (x / 2) (y / 2):=by
 have e1:x=2*(x / 2):=by omega
 have e2:y=2*(y / 2):=by omega
 conv=>lhs;rw[e1,e2]
 exact Nat.gcd_mul_left 2 _ _
theorem J'{x y:Nat}(h:y≤x):Nat.gcd (x-y) y=Nat.gcd x y:=by
 have e:x=(x-y)+y:=by omega
 conv=>rhs;rw[e]
 rw[Nat.gcd_comm,Nat.gcd_comm (x-y+y)];exact(Nat.gcd_add_self_right y (x-y)).symm
set_option maxHeartbeats 3200000 in
theorem Da(a b:List Nat)(ha:a8 a)(hb:a8 b)(hla:a.length≤35184372088829)(hlb:b.length≤35184372088829):Pure Tryz.prog 185 [Wd a,Wd b] (Wd (tw (Nat.gcd (nv a) (nv b)))):=by
 refine qJ 72 Tryz.func185 rfl rfl rfl rfl (by kernel_rfl) (fun B F0 w0=>?_);have ka:=l4.trim ha (by omega);have kb:=l4.trim hb (by omega);obtain ⟨X,hX⟩: ∃X,X=nv a:=⟨_,rfl⟩;obtain ⟨Y,hY⟩: ∃Y,Y=nv b:=⟨_,rfl⟩;have hta:=pH a ha (by omega);have htb:=pH b hb (by omega);have hXl:=dm ha;rw[← hX] at ka hta hXl ⊢;rw[← hY] at kb htb ⊢;refine qX 1 rfl (qK 1 rfl (ae.wU tok rfl rfl rfl rfl hta (fR _) ?_));refine qU 1 rfl (ae.wU tok rfl rfl rfl rfl htb (fR _) ?_);refine qU 2 rfl (ae.nil (AW.norm [0,1] [(0,xm a X),(1,xm b Y)] rfl ?_))
 have hlen0: ∀(A:List Nat) (x:Nat),l4 A x→(((((A.map wd).drop 0).take (tw x).length).length:Int)==0)=decide (x=0):=fun A x h=>by
  rw[nN (by have:=h.le;omega),Bool.eq_iff_iff];have:=jf (tA x);rw[ez] at this;rw[decide_eq_true_eq,this,beq_iff_eq];constructor
  · intro h;exact List.eq_nil_of_length_eq_zero (by omega)
  · intro h;rw[h];rfl
 have hdat: ∀(A:List Nat) (x:Nat),l4 A x→D.sl 1 (((A.map wd).drop 0).take (tw x).length)=Wd (tw x):=fun A x h=>by rw[rS,h.dE];rfl
 refine AW.seq (qX 3 rfl ?_);rw[hlen0 a X ka];refine ae.nil (AW.cond rfl (fun h=>?_) (fun h=>?_))
 · have h0:=ao h;rw[h0,Nat.gcd_zero_left,← hdat b Y kb];exact qX 2 rfl (qN rfl)
 have hX0:X≠0:=ar h;refine AW.skip (AW.seq (qX 3 rfl ?_));rw[hlen0 b Y kb];refine ae.nil (AW.cond rfl (fun h=>?_) (fun h=>?_))
 · have h0:=ao h;rw[h0,Nat.gcd_zero_right,← hdat a X ka];exact qX 2 rfl (qN rfl)
 have hY0:Y≠0:=ar h;obtain ⟨G,hG⟩: ∃G,G=Nat.gcd X Y:=⟨_,rfl⟩;rw[← hG];have hGX:G≤X:=by rw[hG];exact Nat.gcd_le_left Y (by omega)
 refine AW.skip (qX 1 rfl (ae.nil ?_))
 refine AW.cut [0,1,5] (fun s:(List Nat×Nat)×(List Nat×Nat)×Nat=>[(0,xm s.1.1 s.1.2),(1,xm s.2.1.1 s.2.1.2),(5,.d (dI s.2.2))])
  (fun s=>l4 s.1.1 s.1.2∧l4 s.2.1.1 s.2.1.2∧0<s.1.2∧0<s.2.1.2∧Nat.gcd s.1.2 s.2.1.2*2^s.2.2=G∧s.2.2≤32*a.length∧(s.1.2%2=1∨s.2.1.2%2=1)) ?_ (fun ⟨⟨A1,x1⟩,⟨B1,y1⟩,k⟩ ⟨hA1,hB1,hx1,hy1,hg1,hk1,ho1⟩=>?_)
 · refine AW.block ?_
   refine AW.aL [0,1,5] (fun s:(List Nat×Nat)×(List Nat×Nat)×Nat=>[(0,xm s.1.1 s.1.2),(1,xm s.2.1.1 s.2.1.2),(5,.d (dI s.2.2))])
    (fun s=>l4 s.1.1 s.1.2∧l4 s.2.1.1 s.2.1.2∧0<s.1.2∧0<s.2.1.2∧Nat.gcd s.1.2 s.2.1.2*2^s.2.2=G∧s.1.2*2^s.2.2=X) (fun s=>s.1.2) ((a,X),(b,Y),0) rfl ⟨ka,kb,by simp only[];omega,by simp only[];omega,by simp[hG],by simp⟩ (fun ⟨⟨A,x⟩,⟨B,y⟩,k⟩ ⟨hA,hB,hx,hy,hg,hxk⟩=>?_)
   simp only[] at hA hB hx hy hg hxk
   have hkl:k<32*a.length:=by
    have h1:2^k≤X:=by rw[← hxk];exact Nat.le_mul_of_pos_left _ hx
    have e:(4294967296:Nat)^a.length=2^(32*a.length):=by rw[Nat.pow_mul]
    rw[e] at hXl;exact(Nat.pow_lt_pow_iff_right (by decide:1<2)).1 (Nat.lt_of_le_of_lt h1 hXl)
   refine AW.seq ?_;refine AW.cut [0,1,5,29] (fun c:Bool=>[(0,xm A x),(1,xm B y),(5,.d (dI k)),(29,.d (dB c))]) (fun c=>c=decide (x%2=0∧y%2=0)) ?_ (fun c hc=>?_)
   · refine qT 1 rfl (ae.oX tok rfl rfl rfl rfl (Int.le_refl 0) (bI hx) ?_);refine ae.df tok (wd (A.getD 0 0)) rfl rfl rfl rfl (bS (by have:=hA.le;have:=bI hx;simp;omega)) rfl ?_;refine qU 3 rfl ?_;rw[IS _ (hA.w.getD 0),hA.even hx];refine ae.split (t:=23) rfl (fun h=>?_) (fun h=>?_)
     · have hxe:=ao h;refine qU 1 rfl (ae.oX tok rfl rfl rfl rfl (Int.le_refl 0) (bI hy) ?_);refine ae.df tok (wd (B.getD 0 0)) rfl rfl rfl rfl (bS (by have:=hB.le;have:=bI hy;simp;omega)) rfl ?_;refine qU 3 rfl ?_;rw[IS _ (hB.w.getD 0),hB.even hy];refine ae.nil ?_;exact⟨_,rfl,by show decide _=decide _;rw[decide_eq_decide];exact⟨fun h=>⟨hxe,h⟩,fun h=>h.2⟩⟩
     · have hxe:=ar h;refine qU 6 rfl (ae.nil ?_);exact⟨false,rfl,(a7 (fun h=>hxe h.1)).symm⟩
   · refine AW.cond rfl (fun h=>?_) (fun h=>?_)
     · rw[h] at hc;obtain ⟨hxe,hye⟩:=ao hc.symm;refine AW.skip (AW.block (qX 1 rfl (ae.tJ tok rfl rfl rfl rfl (hA.EO hx) (bI hx) (fR _) rfl ?_)));refine qU 1 rfl (ae.tJ tok rfl rfl rfl rfl (hB.EO hy) (bI hy) (fR _) rfl ?_);refine qU 2 rfl (ae.nil (qT 3 rfl ?_));rw[aI (by omega) (by omega)];refine ae.nil ?_;refine⟨((_,x / 2),(_,y / 2),k+1),rfl,⟨hA.put (by omega),hB.put (by omega),by simp only[];omega,by simp only[];omega,?_,?_⟩,by simp only[];omega⟩
       · simp only[];rw[← hg,Dz hxe hye,Nat.pow_succ];ac_rfl
       · simp only[];rw[← hxk,Nat.pow_succ,Nat.mul_comm (2^k),← Nat.mul_assoc,show x / 2*2=x by omega]
     · rw[h] at hc;have hne:=ar hc.symm;refine AW.exit ?_;exact⟨((A,x),(B,y),k),rfl,⟨hA,hB,hx,hy,hg,by simp only[];omega,by simp only[];omega⟩⟩
 simp only[] at hA1 hB1 hx1 hy1 hg1 hk1 ho1;obtain ⟨g0,hg0⟩: ∃g0,g0=Nat.gcd x1 y1:=⟨_,rfl⟩;rw[← hg0] at hg1;refine AW.cut [1,5] (fun s:List Nat×Nat=>[(1,xm s.1 s.2),(5,.d (dI k))]) (fun s=>l4 s.1 s.2∧s.2=g0) ?_ (fun ⟨B2,y2⟩ ⟨hB2,hy2⟩=>?_)
 · refine AW.block ?_
   refine AW.aL [0,1,5] (fun s:(List Nat×Nat)×(List Nat×Nat)=>[(0,xm s.1.1 s.1.2),(1,xm s.2.1 s.2.2),(5,.d (dI k))])
    (fun s=>l4 s.1.1 s.1.2∧l4 s.2.1 s.2.2∧0<s.2.2∧Nat.gcd s.1.2 s.2.2=g0∧(s.1.2=0∨s.1.2%2=1∨s.2.2%2=1)) (fun s=>s.1.2+s.2.2) ((A1,x1),(B1,y1)) rfl ⟨hA1,hB1,hy1,hg0.symm,.inr ho1⟩ (fun ⟨⟨A,x⟩,⟨B,y⟩⟩ ⟨hA,hB,hy,hg,ho⟩=>?_)
   simp only[] at hA hB hy hg ho;refine AW.seq (qX 3 rfl ?_);rw[nN (show 0+(tw x).length≤A.length by have:=hA.le;omega)];refine ae.nil (AW.cond rfl (fun h=>?_) (fun h=>?_))
   · have hx:0<x:=by
      rcases Nat.eq_zero_or_pos x with h0 | h0
      · subst h0;rw[jW] at h;simp at h
      · exact h0
     have ho':x%2=1∨y%2=1:=ho.resolve_left (by omega);refine AW.skip (AW.block ?_);refine AW.cut [0,1,5] (fun s:List Nat×Nat=>[(0,xm s.1 s.2),(1,xm B y),(5,.d (dI k))]) (fun s=>l4 s.1 s.2∧s.2%2=1∧s.2≤x∧Nat.gcd s.2 y=g0) ?_ (fun ⟨A',x'⟩ ⟨hA',hxo,hxl,hg'⟩=>?_)
     · refine AW.block (AW.aL [0,1,5] (fun s:List Nat×Nat=>[(0,xm s.1 s.2),(1,xm B y),(5,.d (dI k))]) (fun s=>l4 s.1 s.2∧0<s.2∧s.2≤x∧Nat.gcd s.2 y=g0∧(s.2%2=1∨y%2=1)) (fun s=>s.2) (A,x) rfl ⟨hA,hx,ai _,hg,ho'⟩ (fun ⟨A',x'⟩ ⟨hA',hx',hxl,hg',ho2⟩=>?_));simp only[] at hA' hx' hxl hg' ho2;refine AW.seq (qX 1 rfl (ae.oX tok rfl rfl rfl rfl (Int.le_refl 0) (bI hx') ?_));refine ae.df tok (wd (A'.getD 0 0)) rfl rfl rfl rfl (bS (by have:=hA'.le;have:=bI hx';simp;omega)) rfl ?_;refine qU 2 rfl ?_;rw[IS _ (hA'.w.getD 0),hA'.even hx'];refine ae.nil (AW.cond rfl (fun h=>?_) (fun h=>?_))
       · have hxe:=ao h;refine AW.skip (AW.block (qT 1 rfl (ae.tJ tok rfl rfl rfl rfl (hA'.EO hx') (bI hx') (fR _) rfl ?_)));refine qU 1 rfl (ae.nil ?_);exact⟨(_,x' / 2),rfl,⟨hA'.put (by omega),by simp only[];omega,by simp only[];omega,by simp only[];rw[wq hxe (by omega),hg'],by simp only[];omega⟩,by simp only[];omega⟩
       · have hxo:=ar h;refine AW.exit ?_;exact⟨(A',x'),rfl,⟨hA',by simp only[];omega,hxl,hg'⟩⟩
     simp only[] at hA' hxo hxl hg';refine AW.cut [0,1,5] (fun s:List Nat×Nat=>[(0,xm A' x'),(1,xm s.1 s.2),(5,.d (dI k))]) (fun s=>l4 s.1 s.2∧s.2%2=1∧s.2≤y∧Nat.gcd x' s.2=g0) ?_ (fun ⟨B',y'⟩ ⟨hB',hyo,hyl,hg2⟩=>?_)
     · refine AW.block (AW.aL [0,1,5] (fun s:List Nat×Nat=>[(0,xm A' x'),(1,xm s.1 s.2),(5,.d (dI k))]) (fun s=>l4 s.1 s.2∧0<s.2∧s.2≤y∧Nat.gcd x' s.2=g0) (fun s=>s.2) (B,y) rfl ⟨hB,hy,ai _,hg'⟩ (fun ⟨B',y'⟩ ⟨hB',hy',hyl,hg2⟩=>?_));simp only[] at hB' hy' hyl hg2;refine AW.seq (qX 1 rfl (ae.oX tok rfl rfl rfl rfl (Int.le_refl 0) (bI hy') ?_));refine ae.df tok (wd (B'.getD 0 0)) rfl rfl rfl rfl (bS (by have:=hB'.le;have:=bI hy';simp;omega)) rfl ?_;refine qU 2 rfl ?_;rw[IS _ (hB'.w.getD 0),hB'.even hy'];refine ae.nil (AW.cond rfl (fun h=>?_) (fun h=>?_))
       · have hye:=ao h;refine AW.skip (AW.block (qT 1 rfl (ae.tJ tok rfl rfl rfl rfl (hB'.EO hy') (bI hy') (fR _) rfl ?_)));refine qU 1 rfl (ae.nil ?_);exact⟨(_,y' / 2),rfl,⟨hB'.put (by omega),by simp only[];omega,by simp only[];omega,by simp only[];rw[Dw hxo hye,hg2]⟩,by simp only[];omega⟩
       · have hyo:=ar h;refine AW.exit ?_;exact⟨(B',y'),rfl,⟨hB',by simp only[];omega,hyl,hg2⟩⟩
     simp only[] at hB' hyo hyl hg2;refine AW.cut [0,1,5] (fun s:(List Nat×Nat)×(List Nat×Nat)=>[(0,xm s.1.1 s.1.2),(1,xm s.2.1 s.2.2),(5,.d (dI k))]) (fun s=>l4 s.1.1 s.1.2∧l4 s.2.1 s.2.2∧s.2.2≤s.1.2∧s.1.2%2=1∧s.2.2%2=1∧Nat.gcd s.1.2 s.2.2=g0∧s.1.2+s.2.2≤x+y) ?_ (fun ⟨⟨A3,x3⟩,⟨B3,y3⟩⟩ ⟨hA3,hB3,hle,hx3,hy3,hg3,hsum⟩=>?_)
     · refine qX 2 rfl (ae.calls tok rfl rfl rfl rfl (hA'.cmp hB') rfl ?_);refine qU 1 rfl (ae.nil (AW.cond rfl (fun h=>?_) (fun h=>?_)))
       · have hlt:x'<y':=by
          have:=ao h;unfold iZ at this;split at this
          · assumption
          · split at this<;>omega
         refine qT 2 rfl (ae.gw 1 57 rfl rfl rfl rfl ?_);refine ae.gw 0 58 rfl rfl rfl rfl ?_;refine qU 2 rfl (ae.nil ?_);exact⟨((B',y'),(A',x')),rfl,⟨hB',hA',by simp only[];omega,hyo,hxo,by simp only[];rw[Nat.gcd_comm,hg2],by simp only[];omega⟩⟩
       · have hlt:y'≤x':=by
          have:=ar h;unfold iZ at this;split at this
          · omega
          · omega
         refine AW.skip ?_;exact⟨((A',x'),(B',y')),rfl,⟨hA',hB',hlt,hxo,hyo,hg2,by simp only[];omega⟩⟩
     simp only[] at hA3 hB3 hle hx3 hy3 hg3 hsum;have hx3p:0<x3:=by omega
     refine qX 2 rfl (ae.yW tok rfl rfl rfl rfl (hA3.take hB3 hle) (bI hx3p) (fR _) rfl ?_);refine ae.nil (qT 1 rfl (ae.tJ tok rfl rfl rfl rfl (hA3.cut (v:=x3-y3) (by omega)) (bI hx3p) (fR _) rfl ?_));refine qU 1 rfl (ae.nil ?_);exact⟨((_,x3-y3),(B3,y3)),rfl,⟨hA3.put (by omega),hB3,by simp only[];omega,by simp only[];rw[J' hle,hg3],.inr (.inr hy3)⟩,by simp only[];omega⟩
   · have hx:x=0:=by
      rcases Nat.eq_zero_or_pos x with h0 | h0
      · exact h0
      · have:=bI h0;have:=ar h;omega
     subst hx;rw[Nat.gcd_zero_left] at hg;refine AW.exit ?_;exact⟨(B,y),rfl,⟨hB,hg⟩⟩
 simp only[] at hB2 hy2;have hgy:=hg1;rw[← hy2] at hgy
 have hlz: ∀j,j≤k→(tw (y2*2^j)).length≤a.length:=fun j hj=>gL (by
  have:2^j≤2^k:=Nat.pow_le_pow_right (by decide) hj;have:y2*2^j≤y2*2^k:=Nat.mul_le_mul_left _ this
  omega)
 refine AW.F8 tok 1 rfl rfl ?_;rw[show D.sl (TI.size ⟨1,4,false,[.v (.int .u32 0)],[],0,2,.u32⟩) (((B2.map wd).drop 0).take (tw y2).length)=Wd (tw y2) from hdat B2 y2 hB2];refine AW.seq (qX 2 rfl (ae.nil (AW.block ?_)));refine AW.aL [1,64,65] (fun s:Nat=>[(1,.d (Wd (tw (y2*2^s)))),(64,.d (dI k)),(65,.d (dI s))]) (fun s=>s≤k) (fun s=>k-s) 0 (by rw[Nat.pow_zero,Nat.mul_one];rfl) (Nat.zero_le _) (fun j hj=>?_);refine qX 1 rfl (qI (AW.cond rfl (fun h=>?_) (fun h=>?_)))
 · have hjk:j<k:=by have:=ao h;omega
   have hl:=hlz j hj;have hplus:=nA (tw (y2*2^j)) (tw (y2*2^j)) (fr _) (fr _) (by omega) (by omega);rw[ez,show y2*2^j+y2*2^j=y2*2^(j+1) by rw[Nat.pow_succ,← Nat.mul_assoc];omega] at hplus;refine AW.skip (AW.seq (AW.block (qT 2 rfl (qM rfl hplus (qU 1 rfl (ae.nil (qT 2 rfl ?_)))))));rw[aI (by omega) (by omega)];refine ae.nil ?_;exact⟨j+1,rfl,hjk,by omega⟩
 · have hjk:j=k:=by have:=ar h;omega
   subst hjk;refine AW.exit (qX 2 rfl (ae.nil ?_));rw[← hgy];exact AW.ret rfl
end Lift
namespace Lift
open Go Go.Proofs
theorem KW(i c:Nat)(hc:0<c)(h:i≤9223372036854775807):mW true .i64 (i:Int) (c:Int)= .int .i64 ((i / c:Nat):Int):=by
 have e:((i:Int).tdiv (c:Int))=((i / c:Nat):Int):=rfl;have:i / c≤i:=Nat.div_le_self i c;generalize i / c=q at e this ⊢;simp only[mW,e,aI (x:=(q:Int)) (by omega) (by omega)]
theorem KV(i c:Nat):mW false .i64 (i:Int) (c:Int)= .int .i64 ((i%c:Nat):Int):=rfl
theorem Md(A i:Nat):A / 4294967296^(i / 32)%4294967296 / 2^(i%32)%2=A / 2^i%2:=by
 have e:(2:Nat)^i=4294967296^(i / 32)*2^(i%32):=by
  rw[show (4294967296:Nat)=2^32 from rfl,← Nat.pow_mul,← Nat.pow_add];congr 1;omega
 rw[e,← Nat.div_div_eq_div_mul];generalize A / 4294967296^(i / 32)=w
 have h32:(4294967296:Nat)=2^(i%32)*(2*2^(31-i%32)):=by
  rw[show 2*2^(31-i%32)=2^(32-i%32) by rw[← Nat.pow_succ'];congr 1;omega,← Nat.pow_add,show i%32+(32-i%32)=32 by omega]
 have h1:w=4294967296*(w / 4294967296)+w%4294967296:=by omega
 conv=>rhs;rw[h1,h32,Nat.mul_assoc,Nat.mul_add_div (Nat.pow_pos (by decide)),Nat.mul_assoc,Nat.mul_add_mod,← h32]
theorem Gc{x c:Nat}(hx:x<4294967296)(hc:c≤1):(x*2%4294967296 ||| c)=x*2%4294967296+c∧x*2%4294967296+c<4294967296∧x*2%4294967296+c+4294967296*(x / 2147483648)=2*x+c:=by
 have h:=zM (x%2147483648) 1 c (by omega);rw[show x%2147483648*2^1=x*2%4294967296 by omega] at h;exact⟨h,by omega,by omega⟩
theorem JC{q:List Nat}{i m:Nat}(hw:a8 q)(hq:nv q=2^(i+1)*m)(hi:i / 32<q.length):
  (q.getD (i / 32) 0 ||| 2^(i%32))=q.getD (i / 32) 0+2^(i%32)∧q.getD (i / 32) 0+2^(i%32)<4294967296∧nv (q.set (i / 32) (q.getD (i / 32) 0+2^(i%32)))=nv q+2^i:=by
 have e:(2:Nat)^i=4294967296^(i / 32)*2^(i%32):=by
  rw[show (4294967296:Nat)=2^32 from rfl,← Nat.pow_mul,← Nat.pow_add];congr 1;omega
 have hd:=fG hw (i / 32)
 have hd2:nv q / 4294967296^(i / 32)=2^(i%32+1)*m:=by
  rw[hq,Nat.pow_succ,e,show 4294967296^(i / 32)*2^(i%32)*2*m=4294967296^(i / 32)*(2^(i%32+1)*m) by rw[Nat.pow_succ];ac_rfl];exact Nat.mul_div_cancel_left _ (pow_pos _)
 have h32:(4294967296:Nat)=2^(i%32+1)*2^(31-i%32):=by
  rw[← Nat.pow_add,show i%32+1+(31-i%32)=32 by omega]
 have hdig:q.getD (i / 32) 0=2^(i%32+1)*(m%2^(31-i%32)):=by
  rw[hd,hd2]
  conv=>lhs;rw[h32]
  exact Nat.mul_mod_mul_left _ _ _
 have hml:m%2^(31-i%32)+1≤2^(31-i%32):=Nat.mod_lt _ (Nat.pow_pos (by decide));have hmm:2^(i%32+1)*(m%2^(31-i%32)+1)≤2^(i%32+1)*2^(31-i%32):=Nat.mul_le_mul_left _ hml;rw[← h32,Nat.mul_add,Nat.mul_one,← hdig] at hmm;have hp:(2:Nat)^(i%32+1)=2^(i%32)*2:=Nat.pow_succ ..;have hp0:0<(2:Nat)^(i%32):=Nat.pow_pos (by decide);have hlt:q.getD (i / 32) 0+2^(i%32)<4294967296:=by omega
 refine⟨?_,hlt,?_⟩
 · rw[hdig,Nat.mul_comm];exact zM _ _ _ (by omega)
 · have h1:=gx (l:=q) (i:=i / 32) (x:=q.getD (i / 32) 0+2^(i%32)) hi;rw[Nat.mul_add,← e] at h1;omega
theorem DT{n V Q R:Nat}(h:n=V*Q+R)(h1:V≤R)(h2:R<V+V):n / V=Q+1∧n%V=R-V:=by
 have e:n=V*(Q+1)+(R-V):=by rw[h,Nat.mul_add,Nat.mul_one];omega
 rw[e,Nat.mul_add_div (by omega),Nat.mul_add_mod,Nat.div_eq_of_lt (by omega),Nat.mod_eq_of_lt (by omega)];exact⟨rfl,rfl⟩
set_option maxHeartbeats 1600000 in
theorem xF(a b:List Nat)(ha:a8 a)(hb:a8 b)(na:Nm a)(hla:a.length≤34800000000000)(hlb:b.length≤34800000000000)(hb0:nv b≠0):Pure Tryz.prog 186 [Wd a,Wd b] (.tu [Wd (tw (nv a / nv b)),Wd (tw (nv a%nv b))]):=by
 refine qJ 76 Tryz.func186 rfl rfl rfl rfl (by kernel_rfl) (fun B F0 w0=>?_);obtain ⟨V,hV⟩: ∃V,V=nv b:=⟨_,rfl⟩;obtain ⟨A,hA⟩: ∃A,A=nv a:=⟨_,rfl⟩;have hVl:=dm hb;have hAl:=dm ha;have hbits:=BB a ha na (by omega);rw[← hV] at hb0 hVl ⊢;rw[← hA] at hAl hbits ⊢;have hbl:bl A≤32*a.length:=gX (by rw[Nat.pow_mul];exact hAl);have hdA: ∀j,a.getD j 0=A / 4294967296^j%4294967296:=fun j=>by rw[hA];exact fG ha j
 refine qX 2 rfl (qK 2 rfl ?_);refine ae.pb tok a.length rfl rfl rfl rfl rfl rfl (by rw[ba]) rfl (by omega) ?_;refine qU 1 rfl (qK 3 rfl ?_);refine ae.pb tok (b.length+1) rfl rfl rfl rfl rfl rfl (by rw[ba,aI (by omega) (by omega)];omega) rfl (by omega) ?_;refine qU 1 rfl (qI (qX 1 rfl (qM rfl hbits (qU 2 rfl ?_))));rw[aI (x:=(bl A:Int) -1) (by omega) (by omega)];refine ae.nil (AW.block ?_);have hAbl:A / 2^bl A=0:=Nat.div_eq_of_lt (HL A)
 refine AW.aL [0,1,6,7,8] (fun s:Nat×List Nat×List Nat=>[(0,.d (Wd a)),(1,.d (Wd b)),(6,.ow 117 (s.2.1.map wd)),(7,.ow 117 (s.2.2.map wd)),(8,.d (dI ((s.1:Int) -1)))])
  (fun s=>s.1≤bl A∧s.2.1.length=a.length∧a8 s.2.1∧s.2.2.length=b.length+1∧a8 s.2.2∧nv s.2.1=2^s.1*(A / 2^s.1 / V)∧nv s.2.2=A / 2^s.1%V) (fun s=>s.1) (bl A,List.replicate a.length 0,List.replicate (b.length+1) 0) rfl
  ⟨ai _,by simp,a8.replicate _,by simp,a8.replicate _,by simp[ir,hAbl],by simp[ir,hAbl]⟩ (fun (k,q,r) ⟨hk,hql,hqw,hrl,hrw,hqv,hrv⟩=>?_)
 simp only[] at hk hql hqw hrl hrw hqv hrv;refine AW.seq (qX 2 rfl (ae.nil (AW.cond rfl (fun h=>?_) (fun h=>?_))))
 · have hk0:0<k:=by have:=ao h;omega
   obtain ⟨i,rfl⟩: ∃i,k=i+1:=⟨k-1,by omega⟩;rw[show ((i+1:Nat):Int) -1=(i:Int) by omega];have hi32:i / 32<a.length:=by omega
   obtain ⟨bit,hbit⟩: ∃bit,bit=A / 2^i%2:=⟨_,rfl⟩;have hbit1:bit≤1:=by omega
   refine AW.skip (AW.seq (AW.block (qX 2 rfl (ae.div tok rfl rfl rfl rfl (by decide) ?_))));rw[show mW true .i64 (i:Int) 32= .int .i64 ((i / 32:Nat):Int) from KW i 32 (by decide) (by omega)];refine ae.idx tok (wd (a.getD (i / 32) 0)) rfl rfl rfl rfl (aj _) (bS hi32) ?_;refine qU 2 rfl (ae.div tok rfl rfl rfl rfl (by decide) ?_);rw[show mW false .i64 (i:Int) 32= .int .i64 ((i%32:Nat):Int) from KV i 32];refine qU 3 rfl ?_;have hsh:((a.getD (i / 32) 0:Nat):Int).fdiv (2^(min (i%32) IntKind.u32.bits))=((a.getD (i / 32) 0 / 2^(i%32):Nat):Int):=GY _ _ (by omega);rw[hsh,IS _ (Nat.lt_of_le_of_lt (Nat.div_le_self _ _) (ha.getD _)),hdA,Md,← hbit];refine ae.nil (AW.norm [0,1,6,7,8,9] [(0,.d (Wd a)),(1,.d (Wd b)),(6,.ow 117 (q.map wd)),(7,.ow 117 (r.map wd)),(8,.d (dI i)),(9,.d (wd bit))] rfl ?_);obtain ⟨r0,hr0⟩: ∃r0,r0=nv r:=⟨_,rfl⟩;have hr0V:r0<V:=by rw[hr0,hrv];exact Nat.mod_lt _ (by omega)
   refine AW.cut [0,1,6,7,8] (fun s:List Nat=>[(0,.d (Wd a)),(1,.d (Wd b)),(6,.ow 117 (q.map wd)),(7,.ow 117 (s.map wd)),(8,.d (dI i))]) (fun s=>s.length=b.length+1∧a8 s∧nv s=2*r0+bit) ?_ (fun r' ⟨hrl',hrw',hrv'⟩=>?_)
   · as_aux_lemma =>
     refine qX 3 rfl ?_;rw[ba,hrl];refine ae.nil (AW.block ?_)
     refine AW.aL [0,1,6,7,8,9,35,36] (fun s:Nat×List Nat×Nat=>[(0,.d (Wd a)),(1,.d (Wd b)),(6,.ow 117 (q.map wd)),(7,.ow 117 (s.2.1.map wd)),(8,.d (dI i)),(9,.d (wd s.2.2)),(35,.d (dI (b.length+1:Nat))),(36,.d (dI s.1))])
      (fun s=>s.1≤b.length+1∧s.2.1.length=b.length+1∧a8 s.2.1∧s.2.2≤1∧s.2.1.drop s.1=r.drop s.1∧nv (s.2.1.take s.1)+4294967296^s.1*s.2.2=2*nv (r.take s.1)+bit) (fun s=>b.length+1-s.1) (0,r,bit) rfl ⟨Nat.zero_le _,hrl,hrw,hbit1,rfl,by simp[nv]⟩ (fun (j,M,c) ⟨hj,hMl,hMw,hc,hd,hv⟩=>?_)
     simp only[] at hj hMl hMw hc hd hv;refine qX 1 rfl (qI (AW.cond rfl (fun h=>?_) (fun h=>?_)))
     · have hjN:j<b.length+1:=by have:=ao h;omega
       have hx:=hMw.getD j;have hME:=fW hd;obtain ⟨hor,hlt,hkey⟩:=Gc hx hc;refine AW.skip (AW.seq (AW.block (qX 2 rfl (ae.nil (AW.nW tok aS [(13,true),(1,false),(1,true)] 15 [7] (by kernel_rfl) ⟨rfl,?_⟩)))));refine qP 4 rfl ?_;refine ah.gD tok rfl rfl rfl rfl rfl rfl (aj j) (by simp;omega) ?_;refine ah.df tok (wd (M.getD j 0)) rfl rfl rfl rfl rfl (bS (by simp;omega)) rfl ?_;refine qP 5 rfl ?_;refine ah.gD tok rfl rfl rfl rfl rfl rfl (aj j) (by simp;omega) ?_;refine ah.df tok (wd (M.getD j 0)) rfl rfl rfl rfl rfl (bS (by simp;omega)) rfl ?_;refine ah.nil ⟨rfl,?_⟩;refine qP 1 rfl (ah.nil ⟨rfl,?_⟩);refine ah.gD tok rfl rfl rfl rfl rfl rfl (aj j) (by simp;omega) ?_
       have hshl:IntKind.u32.wrap (((M.getD j 0:Nat):Int)*2^(min 1 IntKind.u32.bits))=((M.getD j 0*2%4294967296:Nat):Int):=by
        rw[show ((M.getD j 0:Nat):Int)*2^(min 1 IntKind.u32.bits)=((M.getD j 0*2:Nat):Int) by rw[show min 1 IntKind.u32.bits=1 from rfl];push_cast;rfl];exact fm _
       have hshr:((M.getD j 0:Nat):Int).fdiv (2^(min 31 IntKind.u32.bits))=((M.getD j 0 / 2147483648:Nat):Int):=GY _ 31 (by decide);rw[hshl,hshr,Hs _ c (Nat.mod_lt _ (by decide)) (by omega),hor];refine ah.nil ⟨_,oM.cons (sX.elW (M.getD j 0*2%4294967296+c) rfl (by omega) rfl) oM.nil,?_⟩;refine qU 1 rfl (ae.nil (qT 2 rfl ?_));rw[aI (by omega) (by omega)];refine ae.nil ?_;refine⟨(j+1,M.set j (M.getD j 0*2%4294967296+c),M.getD j 0 / 2147483648),rfl,⟨by omega,by simpa using hMl,hMw.set _ hlt,by show _ / _≤1;omega,?_,?_⟩,by simp only[];omega⟩
       · simp only[];rw[gW,kj hd]
       · simp only[];rw[kW (by omega),aW r j,← hME,Nat.pow_succ,Nat.mul_assoc];have h2:=congrArg (fun z=>4294967296^j*z) hkey;simp only[Nat.mul_add] at h2;have h3:4294967296^j*(2*M.getD j 0)=2*(4294967296^j*M.getD j 0):=by ac_rfl
         rw[Nat.mul_add];omega
     · have hjN:j=b.length+1:=by have:=ar h;omega
       subst hjN;rw[List.take_of_length_le (by omega),List.take_of_length_le (by omega),← hr0] at hv
       have hc0:c=0:=by
        rw[Nat.pow_succ] at hv;rcases Nat.eq_zero_or_pos c with h | h
        · exact h
        · have:4294967296^b.length*4294967296*1≤4294967296^b.length*4294967296*c:=Nat.mul_le_mul_left _ h;omega
       rw[hc0,Nat.mul_zero,Nat.add_zero] at hv;refine AW.exit ?_;exact⟨M,rfl,⟨hMl,hMw,hv⟩⟩
   · have hAi:A / 2^i=V*(2*(A / 2^(i+1) / V))+(2*r0+bit):=by
      have e1:A / 2^i=2*(A / 2^(i+1))+bit:=by
       rw[hbit,Nat.pow_succ,← Nat.div_div_eq_div_mul];omega
      have e2:=Nat.div_add_mod (A / 2^(i+1)) V;rw[← hrv,← hr0] at e2;have e3:V*(2*(A / 2^(i+1) / V))=2*(V*(A / 2^(i+1) / V)):=by ac_rfl
      omega
     have hq1:2^(i+1)*(A / 2^(i+1) / V)=2^i*(2*(A / 2^(i+1) / V)):=by rw[Nat.pow_succ];ac_rfl
     refine qX 2 rfl (ae.calls tok rfl rfl rfl rfl (ku r' b hrw' hb (by omega) (by omega)) rfl ?_);refine qU 1 rfl (ae.nil ?_);rw[hrv',← hV];refine AW.cond rfl (fun h=>?_) (fun h=>?_)
     · as_aux_lemma =>
       have hge:V≤2*r0+bit:=by
        have:=ao h;unfold iZ at this;split at this<;>omega
       have hdm:=DT (n:=A / 2^i) (V:=V) (Q:=2*(A / 2^(i+1) / V)) (R:=2*r0+bit) hAi hge (by omega);obtain ⟨hs1,hs2,hs3⟩:=JC hqw hqv (show i / 32<q.length by omega);have hwn:dE r' 0 (b.length+1)=r':=by rw[dE,List.drop_zero,List.take_of_length_le (by omega)]
       have htake:=tn r' b 0 (b.length+1) hrw' hb (by omega) (by omega) (by rw[hwn,hrv',← hV];exact hge);rw[hwn,hrv',← hV] at htake;obtain ⟨r2,hr2⟩: ∃r2,r2=put r' 0 (b.length+1) (dg (b.length+1) (2*r0+bit-V)):=⟨_,rfl⟩;have hr2l:r2.length=b.length+1:=by rw[hr2,ei (by omega) (aT _ _)];exact hrl'
       have hr2w:a8 r2:=by rw[hr2];exact hrw'.put (fx _ _) _ _
       have hr2v:nv r2=2*r0+bit-V:=by
        have h1:=uu (l:=r') (lo:=0) (m:=b.length+1) (w:=dg (b.length+1) (2*r0+bit-V)) (by omega) (aT _ _);rw[← hr2,dE,List.drop_zero,List.take_of_length_le (by omega)] at h1;rw[h1,iN];refine Nat.mod_eq_of_lt ?_;rw[Nat.pow_succ];omega
       rw[← hr2] at htake;have hml:(r'.map wd).length=b.length+1:=by rw[ba];exact hrl'
       rw[← hml] at htake;refine qX 2 rfl ?_;refine ae.yW tok rfl rfl rfl rfl htake (by rw[hml];omega) (fR _) rfl ?_;refine ae.nil (AW.norm [0,1,6,7,8] [(0,.d (Wd a)),(1,.d (Wd b)),(6,.ow 117 (q.map wd)),(7,.ow 117 (r2.map wd)),(8,.d (dI i))] rfl ?_);refine AW.draw aS 10 (by kernel_rfl) ?_;refine qP 2 rfl (ah.div tok rfl rfl rfl rfl rfl (by decide) ?_);rw[show mW true .i64 (i:Int) 32= .int .i64 ((i / 32:Nat):Int) from KW i 32 (by decide) (by omega)];refine ah.gD tok rfl rfl rfl rfl rfl rfl (aj _) (by simp;omega) ?_;refine ah.df tok (wd (q.getD (i / 32) 0)) rfl rfl rfl rfl rfl (bS (by simp;omega)) rfl ?_;refine qP 1 rfl (ah.div tok rfl rfl rfl rfl rfl (by decide) ?_);rw[show mW false .i64 (i:Int) 32= .int .i64 ((i%32:Nat):Int) from KV i 32];refine qP 2 rfl ?_;refine ah.gD tok rfl rfl rfl rfl rfl rfl (aj _) (by simp;omega) ?_;refine ah.nil ?_;have hpw:2^(i%32)<4294967296:=by omega
       have hshl:IntKind.u32.wrap (1*2^(min (i%32) IntKind.u32.bits))=((2^(i%32):Nat):Int):=by
        rw[show min (i%32) IntKind.u32.bits=i%32 from Nat.min_eq_left (by show i%32≤32;omega),Int.one_mul];have e:(2:Int)^(i%32)=((2^(i%32):Nat):Int):=by push_cast;rfl
        rw[e];rw[fm,Nat.mod_eq_of_lt hpw]
       rw[hshl,Hs _ _ (hqw.getD _) hpw,hs1];refine ae.jI tok (q.getD (i / 32) 0+2^(i%32)) rfl rfl rfl (by simp;omega) rfl ?_;refine ae.nil (qT 3 rfl ?_);rw[aI (x:=(i:Int) -1) (by omega) (by omega)];refine ae.nil ?_;refine⟨(i,q.set (i / 32) (q.getD (i / 32) 0+2^(i%32)),r2),rfl,⟨by simp only[];omega,by simpa using hql,hqw.set _ hs2,hr2l,hr2w,?_,?_⟩,by simp only[];omega⟩
       · simp only[];rw[hs3,hdm.1,hqv,hq1,Nat.mul_add,Nat.mul_one]
       · simp only[];rw[hdm.2,hr2v]
     · have hlt:2*r0+bit<V:=by
        have:=ar h;unfold iZ at this;split at this<;>omega
       have e1:A / 2^i / V=2*(A / 2^(i+1) / V):=by rw[hAi,Nat.mul_add_div (by omega),Nat.div_eq_of_lt hlt,Nat.add_zero]
       have e2:A / 2^i%V=2*r0+bit:=by rw[hAi,Nat.mul_add_mod,Nat.mod_eq_of_lt hlt]
       refine AW.skip (qT 3 rfl ?_);rw[aI (x:=(i:Int) -1) (by omega) (by omega)];refine ae.nil ?_;exact⟨(i,q,r'),rfl,⟨by simp only[];omega,hql,hqw,hrl',hrw',by simp only[];rw[e1,hqv,hq1],by simp only[];rw[e2,hrv']⟩,by simp only[];omega⟩
 · have hk0:k=0:=by have:=ar h;omega
   subst hk0;simp only[Nat.pow_zero,Nat.div_one,Nat.one_mul] at hqv hrv;refine AW.exit (qX 1 rfl (ae.jh tok 6 rfl rfl ?_));refine qM rfl (gT q hqw (by omega)) ?_;refine qU 1 rfl (ae.jh tok 7 rfl rfl ?_);refine qM rfl (gT r hrw (by omega)) ?_;refine qU 2 rfl (ae.nil ?_);rw[hqv,hrv];exact AW.ret rfl
end Lift
namespace Lift
open Go Go.Proofs
theorem qV(g:Bool)(m:List Nat)(hm:a8 m)(hl:m.length≤35184372088831):Pure Tryz.prog 202 [Wh g m] (dB (okW g m)):=by
 refine qJ 19 Tryz.func202 rfl rfl rfl rfl (by kernel_rfl) (fun B F0 w0=>?_);refine qX 2 rfl (qI (qX 4 rfl (ae.nil (AW.cond rfl (fun h=>?_) (fun h=>?_)))))
 · have h0:m=[]:=by simpa using h
   rw[okW,if_pos h0];exact qX 4 rfl (qN rfl)
 · have h0:m≠[]:=by simpa using h
   have hp:0<m.length:=List.length_pos_iff.2 h0;rw[okW,if_neg h0];refine AW.skip (qX 6 rfl ?_);rw[ba,aI (by omega) (by omega),show (m.length:Int) -1=((m.length-1:Nat):Int) by omega];refine ae.idx tok (wd (m.getD (m.length-1) 0)) rfl rfl rfl rfl (aj _) (bS (by omega)) ?_;refine qU 3 rfl (ae.nil ?_)
   have e:(m.getD (m.length-1) 0 != 0)=(((m.getD (m.length-1) 0:Nat):Int) != 0):=by
    rw[Bool.eq_iff_iff];simp
   rw[e];exact AW.ret rfl
theorem dA(z:Int)(hl:L z≤35184372088831):Pure Tryz.prog 183 [fa z] (Wd (iw z)):=by
 refine qJ 8 Tryz.func183 rfl rfl rfl rfl (by kernel_rfl) (fun B F0 w0=>?_);refine qX 2 rfl (qI (qX 1 rfl (qM rfl (qV (decide (z<0)) (iw z) (bV z) hl) ?_)));rw[zO];exact qU 1 rfl (ae.nil (AW.aH rfl (AW.skip (qX 3 rfl (qN rfl)))))
theorem cY(z:Int)(hl:L z≤35184372088831):Pure Tryz.prog 184 [fa z] (dB (decide (z<0))):=by
 refine qJ 9 Tryz.func184 rfl rfl rfl rfl (by kernel_rfl) (fun B F0 w0=>?_);refine qX 2 rfl (qK 1 rfl (qM rfl (qV (decide (z<0)) (iw z) (bV z) hl) ?_));rw[zO];exact qU 5 rfl (qN rfl)
theorem nB(g:Bool)(m:List Nat)(hm:a8 m)(hl:m.length≤35184372088831):Pure Tryz.prog 143 [dB g,Wd m] (fa (sg g (nv m))):=by
 refine qJ 14 Tryz.func143 rfl rfl rfl rfl (by kernel_rfl) (fun B F0 w0=>?_);refine qX 1 rfl (qK 1 rfl (qM rfl (gT m hm hl) ?_));refine qU 1 rfl (ae.nil ?_);have hz:=jf (tA (nv m));rw[ez] at hz;rw[CK];refine AW.seq (qX 3 rfl ?_);rw[xJ];refine ae.nil (AW.cond rfl (fun h=>?_) (fun h=>?_))
 · have h0:=ao h;rw[hz.2 h0,jW,show (g&&decide ((0:Nat)≠0))=false by simp];exact qX 2 rfl (qN rfl)
 · have h0:=ar h;rw[show (g&&decide (nv m≠0))=g by simp[mt hz.1 h0]];exact AW.skip (qX 4 rfl (qN rfl))
theorem BA(g:Bool)(z:Int)(hl:L z≤35184372088831):Pure Tryz.prog 143 [dB g,Wd (iw z)] (fa (sg g z.natAbs)):=by
 have:=nB g (iw z) (bV z) hl
 rwa [cS] at this
theorem fD(g:Bool)(n:Nat)(hl:(tw n).length≤35184372088831):Pure Tryz.prog 143 [dB g,Wd (tw n)] (fa (sg g n)):=by
 have:=nB g (tw n) (fr n) hl
 rwa [ez] at this
theorem yw(n:Int)(h0: -9223372036854775808≤n)(h1:n≤9223372036854775807):Pure Tryz.prog 95 [dI n] (fa n):=by
 refine qJ 19 Tryz.func95 rfl rfl rfl rfl (by kernel_rfl) (fun B F0 w0=>?_)
 have hfin: ∀(m:Nat),m<18446744073709551616→m=n.natAbs→Pure Tryz.prog 143 [dB (decide (n<0)),Wd [m%4294967296,m / 4294967296%4294967296]] (fa n):=fun m hm he=>by
  have:=nB (decide (n<0)) [m%4294967296,m / 4294967296%4294967296] (a8.cons.2 ⟨Nat.mod_lt _ (by decide),a8.cons.2 ⟨Nat.mod_lt _ (by decide),a8.nil⟩⟩) (by simp);rw[xU m hm,he,CY] at this;rw[he];exact this
 refine qX 1 rfl (qK 3 rfl (ae.nil ?_));refine AW.cut [0,2,3] (fun _:Unit=>[(0,.d (dI n)),(2,.bx [dB false,.sl 1 []]),(3,.d (dU n.natAbs))]) (fun _=>True) ?_ (fun _ _=>?_)
 · refine qX 2 rfl (ae.nil (AW.cond rfl (fun h=>?_) (fun h=>?_)))
   · have hn:=ao h;refine qT 3 rfl ?_;rw[Iq n hn h0,MS _ (by omega) (by omega),show 18446744073709551616-(18446744073709551616-n.natAbs)=n.natAbs by omega];refine ae.nil ?_;exact⟨(),rfl,trivial⟩
   · have hn:=ar h;refine AW.skip ?_;rw[tR (x:=n) (by omega) (by omega)];exact⟨(),by rw[show ((n.natAbs:Nat):Int)=n by omega];rfl,trivial⟩
 · refine qX 7 rfl ?_;rw[fm,kq,fm];refine ae.bs tok rfl rfl rfl rfl ?_;refine ae.jh tok 17 rfl rfl ?_;refine qM rfl (hfin n.natAbs (by omega) rfl) ?_;exact qU 1 rfl (qN rfl)
theorem jx(z:Int)(hl:L z≤35184372088831):Pure Tryz.prog 139 [fa z] (dI (jJ z)):=by
 refine qJ 9 Tryz.func139 rfl rfl rfl rfl (by kernel_rfl) (fun B F0 w0=>?_);refine qX 2 rfl (qI (qX 1 rfl (qM rfl (dA z hl) ?_)));refine qU 2 rfl ?_;rw[xJ];refine ae.nil (AW.cond rfl (fun h=>?_) (fun h=>?_))
 · have h0:z=0:=nP.1 (ao h);rw[show jJ z=0 by subst h0;rfl];exact qX 1 rfl (qN rfl)
 · have h0:z≠0:=fun e=>(ar h) (nP.2 e);refine AW.skip (AW.seq (qX 1 rfl (qM rfl (cY z hl) ?_)));refine ae.nil (AW.cond rfl (fun h=>?_) (fun h=>?_))
   · have hn:=ao h;rw[show jJ z= -1 by unfold jJ;rw[if_pos hn]];exact qX 1 rfl (qN rfl)
   · have hn:=ar h;rw[show jJ z=1 by unfold jJ;rw[if_neg hn,if_neg h0]];exact AW.skip (qX 1 rfl (qN rfl))
theorem vG(x y:Int)(hx:L x≤35184372088831)(hy:L y≤35184372088831):Pure Tryz.prog 194 [Wd (iw x),Wd (iw y)] (dI (iL x.natAbs y.natAbs)):=by
 rw[← E4];exact ku (iw x) (iw y) (bV x) (bV y) hx hy
theorem mj(z:Int)(hl:L z≤35184372088831):Pure Tryz.prog 140 [fa z] (fa (-z)):=by
 refine qJ 9 Tryz.func140 rfl rfl rfl rfl (by kernel_rfl) (fun B F0 w0=>?_);refine qX 2 rfl (qI (AW.draw aS 6 (by kernel_rfl) ?_));refine qP 1 rfl (qQ rfl (cY z hl) ?_);refine qP 2 rfl (qQ rfl (dA z hl) ?_);refine qQ rfl (BA (!decide (z<0)) z hl) ?_;refine ah.nil (qU 1 rfl (ae.nil ?_));rw[G1];exact AW.ret rfl
theorem By(x y:Int)(hx:L x≤35184372088830)(hy:L y≤35184372088830):Pure Tryz.prog 187 [Wd (iw x),Wd (iw y)] (Wd (tw (x.natAbs+y.natAbs))):=by
 have:=nA (iw x) (iw y) (bV x) (bV y) hx hy
 rwa [cS,cS] at this
theorem qS(x y:Int)(hx:L x≤35184372088830)(hle:y.natAbs≤x.natAbs):Pure Tryz.prog 188 [Wd (iw x),Wd (iw y)] (Wd (tw (x.natAbs-y.natAbs))):=by
 have:=qO (iw x) (iw y) (bV x) (bV y) hx (by rwa [cS,cS])
 rwa [cS,cS] at this
theorem zG(x y:Int)(hx:L x≤17450000000000)(hy:L y≤17450000000000):Pure Tryz.prog 195 [Wd (iw x),Wd (iw y)] (Wd (tw (x.natAbs*y.natAbs))):=by
 have:=zF (iw x) (iw y) (bV x) (bV y) hx hy
 rwa [cS,cS] at this
theorem xG(x y:Int)(hx:L x≤34800000000000)(hy:L y≤34800000000000)(h0:y≠0):Pure Tryz.prog 186 [Wd (iw x),Wd (iw y)] (.tu [Wd (tw (x.natAbs / y.natAbs)),Wd (tw (x.natAbs%y.natAbs))]):=by
 have:=xF (iw x) (iw y) (bV x) (bV y) (tB x) hx hy (by rw[cS];omega)
 rwa [cS,cS] at this
set_option maxHeartbeats 400000 in
theorem vJ(a b:Int)(ha:L a≤35184372088830)(hb:L b≤35184372088830):Pure Tryz.prog 158 [fa a,fa b] (fa (a+b)):=by
 refine qJ 38 Tryz.func158 rfl rfl rfl rfl (by kernel_rfl) (fun B F0 w0=>?_);refine qX 3 rfl (qI (AW.draw aS 4 (by kernel_rfl) ?_));refine qP 1 rfl (qQ rfl (dA a (by omega)) ?_);refine qP 1 rfl (qQ rfl (dA b (by omega)) ?_);refine ah.nil (qU 2 rfl (ae.nil (AW.norm [2,3,4,5,6] [(2,.bx [dB (decide (a<0)),Wd (iw a)]),(3,.bx [dB (decide (b<0)),Wd (iw b)]),(4,.bx [dB false,.sl 1 []]),(5,.d (Wd (iw a))),(6,.d (Wd (iw b)))] rfl ?_)));refine AW.seq (AW.seq (AW.draw aS 5 (by kernel_rfl) ?_));refine qP 1 rfl (qQ rfl (cY a (by omega)) ?_);refine qP 1 rfl (qQ rfl (cY b (by omega)) ?_);refine ah.be tok rfl rfl rfl rfl rfl ?_;refine ah.nil (ae.nil (AW.norm [2,3,4,5,6,15] [(2,.bx [dB (decide (a<0)),Wd (iw a)]),(3,.bx [dB (decide (b<0)),Wd (iw b)]),(4,.bx [dB false,.sl 1 []]),(5,.d (Wd (iw a))),(6,.d (Wd (iw b))),(15,.d (dB ((decide (a<0)==decide (b<0))==true)))] rfl ?_));refine AW.cond rfl (fun h=>?_) (fun h=>?_)
 · have he:decide (a<0)=decide (b<0):=by simpa using h
   rw[← add_same he];have hl:=EL a b;refine qX 1 rfl (qM rfl (cY a (by omega)) ?_);refine qU 2 rfl (qM rfl (By a b ha hb) ?_);refine qM rfl (fD (decide (a<0)) _ (by omega)) ?_;exact qU 1 rfl (qN rfl)
 · have he:decide (a<0)≠decide (b<0):=by simpa using h
   refine AW.skip (AW.seq (qX 2 rfl (qM rfl (vG a b (by omega) (by omega)) ?_)));refine qU 1 rfl (ae.nil (AW.cond rfl (fun h=>?_) (fun h=>?_)))
   · have hc:=E6 (ao h);rw[← AE he hc];have hl:=jO (z:=a) (n:=a.natAbs-b.natAbs) (by omega);refine qX 1 rfl (qM rfl (cY a (by omega)) ?_);refine qU 2 rfl (qM rfl (qS a b ha hc) ?_);refine qM rfl (fD (decide (a<0)) _ (by omega)) ?_;exact qU 1 rfl (qN rfl)
   · have hc:=E5 (ar h);rw[Int.add_comm,← AE (Ne.symm he) (Nat.le_of_lt hc)];have hl:=jO (z:=b) (n:=b.natAbs-a.natAbs) (by omega);refine AW.skip (qX 1 rfl (qM rfl (cY b (by omega)) ?_));refine qU 2 rfl (qM rfl (qS b a hb (by omega)) ?_);refine qM rfl (fD (decide (b<0)) _ (by omega)) ?_;exact qU 1 rfl (qN rfl)
theorem kv(a b:Int)(ha:L a≤17450000000000)(hb:L b≤17450000000000):Pure Tryz.prog 159 [fa a,fa b] (fa (a*b)):=by
 refine qJ 16 Tryz.func159 rfl rfl rfl rfl (by kernel_rfl) (fun B F0 w0=>?_);have hl:=EK a b;refine qX 3 rfl (qI (AW.draw aS 11 (by kernel_rfl) ?_));refine qP 1 rfl (qQ rfl (cY a (by omega)) ?_);refine qP 1 rfl (qQ rfl (cY b (by omega)) ?_);refine ah.be tok rfl rfl rfl rfl rfl ?_;refine qP 1 rfl (qQ rfl (dA a (by omega)) ?_);refine qP 1 rfl (qQ rfl (dA b (by omega)) ?_);refine qQ rfl (zG a b ha hb) ?_;refine qQ rfl (fD ((decide (a<0)==decide (b<0))==false) _ (by omega)) ?_;refine ah.nil (qU 1 rfl (ae.nil ?_));rw[HE];exact AW.ret rfl
theorem Db(a b:Int)(ha:L a≤35184372088830)(hb:L b≤35184372088830):Pure Tryz.prog 192 [fa a,fa b] (fa (a-b)):=by
 refine qJ 9 Tryz.func192 rfl rfl rfl rfl (by kernel_rfl) (fun B F0 w0=>?_);rw[Int.sub_eq_add_neg];refine qX 3 rfl (qI (AW.draw aS 4 (by kernel_rfl) ?_));refine qP 2 rfl (qQ rfl (mj b (by omega)) ?_);refine qQ rfl (vJ a (-b) ha (by rw[n0];exact hb)) ?_;exact ah.nil (qU 1 rfl (qN rfl))
theorem JB(a b:Int):jJ (a-b)=iL a b:=by
 unfold jJ iL
 repeat' split
 all_goals first | rfl | omega
theorem Nz(a b:Int):L (a-b)≤max (L a) (L b)+1:=by
 have:=Cz a (-b)
 rwa [n0,← Int.sub_eq_add_neg] at this
theorem Dd(a b:Int)(ha:L a≤35184372088830)(hb:L b≤35184372088830):Pure Tryz.prog 153 [fa a,fa b] (dI (iL a b)):=by
 refine qJ 9 Tryz.func153 rfl rfl rfl rfl (by kernel_rfl) (fun B F0 w0=>?_);have hl:=Nz a b;rw[← JB];refine qX 3 rfl (qK 2 rfl (qM rfl (Db a b ha hb) ?_));refine qM rfl (jx (a-b) (by omega)) ?_;exact qU 1 rfl (qN rfl)
theorem vH(a b:Int)(ha:L a≤35184372088829)(hb:L b≤35184372088829):Pure Tryz.prog 141 [fa a,fa b] (fa (Nat.gcd a.natAbs b.natAbs)):=by
 refine qJ 11 Tryz.func141 rfl rfl rfl rfl (by kernel_rfl) (fun B F0 w0=>?_);have hgcd:=Da (iw a) (iw b) (bV a) (bV b) ha hb;rw[cS,cS] at hgcd
 have hgl:(tw (Nat.gcd a.natAbs b.natAbs)).length≤35184372088829:=by
  rcases Nat.eq_zero_or_pos a.natAbs with h | h
  · rw[h,Nat.gcd_zero_left];exact hb
  · exact Nat.le_trans (jO (z:=a) (Nat.gcd_le_left _ h)) ha
 refine qX 3 rfl (qI (AW.draw aS 6 (by kernel_rfl) ?_));refine qP 1 rfl (qQ rfl (dA a (by omega)) ?_);refine qP 1 rfl (qQ rfl (dA b (by omega)) ?_);refine qQ rfl hgcd (qQ rfl (fD false _ (by omega)) ?_);exact ah.nil (qU 1 rfl (qN rfl))
set_option maxHeartbeats 800000 in
theorem vI(a b:Int)(ha:L a≤34800000000000)(hb:L b≤34800000000000)(h0:b≠0):Pure Tryz.prog 142 [fa a,fa b] (.tu [fa (a / b),fa (a%b),dI 0]):=by
 refine qJ 45 Tryz.func142 rfl rfl rfl rfl (by kernel_rfl) (fun B F0 w0=>?_);refine qX 5 rfl (qI (qX 1 rfl (qM rfl (jx b (by omega)) ?_)));refine qU 1 rfl ?_;rw[show (jJ b==0)=false by unfold jJ;(repeat' split)<;>first | rfl | (exact absurd ‹_› h0)];refine ae.nil (AW.aH rfl (AW.skip (AW.seq (AW.draw aS 9 (by kernel_rfl) ?_))));refine qP 1 rfl (qQ rfl (dA a (by omega)) ?_);refine qP 1 rfl (qQ rfl (dA b (by omega)) ?_);refine qQ rfl (xG a b ha hb h0) ?_;refine qP 4 rfl (ah.nil (qU 1 rfl (ae.nil ?_)));have hlt:a.natAbs%b.natAbs<b.natAbs:=Nat.mod_lt _ (by omega);have hdl:a.natAbs / b.natAbs≤a.natAbs:=Nat.div_le_self _ _;have hr0:=rT (a.natAbs%b.natAbs);have hl1:=jO (z:=a) hdl;have hl2:=jO (z:=b) (n:=a.natAbs%b.natAbs) (by omega)
 refine AW.cut [2,3,4,5,7,8] (fun s:Nat×Nat=>[(2,.bx [dB (decide (a<0)),Wd (iw a)]),(3,.bx [dB (decide (b<0)),Wd (iw b)]),(4,.bx [dB false,.sl 1 []]),(5,.bx [dB false,.sl 1 []]),(7,.d (Wd (tw s.1))),(8,.d (Wd (tw s.2)))])
  (fun s=>(tw s.1).length≤34800000000002∧(tw s.2).length≤34800000000002∧sg ((decide (a<0)==decide (b<0))==false) s.1=a / b∧sg false s.2=a%b) ?_ (fun (m,n) ⟨hm,hn,hq,hr⟩=>?_)
 · refine AW.cut [2,3,4,5,7,8,28] (fun c:Bool=>[(2,.bx [dB (decide (a<0)),Wd (iw a)]),(3,.bx [dB (decide (b<0)),Wd (iw b)]),(4,.bx [dB false,.sl 1 []]),(5,.bx [dB false,.sl 1 []]),(7,.d (Wd (tw (a.natAbs / b.natAbs)))),(8,.d (Wd (tw (a.natAbs%b.natAbs)))),(28,.d (dB c))])
    (fun c=>(c=true→a<0∧a.natAbs%b.natAbs≠0)∧(c=false→0≤a∨a.natAbs%b.natAbs=0)) ?_ (fun c ⟨ht,hf⟩=>?_)
   · refine qT 1 rfl (qM rfl (cY a (by omega)) ?_);refine qU 1 rfl ?_;refine ae.split (t:=24) rfl (fun h=>?_) (fun h=>?_)
     · have hneg:=ao h;refine qU 4 rfl (ae.nil ?_);refine⟨_,rfl,⟨fun h=>⟨hneg,hr0.1 (ao h)⟩,fun h=> .inr ?_⟩⟩;have:=ar h;rw[hr0] at this;exact Decidable.not_not.1 this
     · have hneg:=ar h;refine qU 4 rfl (ae.nil ?_);exact⟨false,rfl,⟨(fun h=>by cases h),fun _=> .inl (by omega)⟩⟩
   · refine AW.cond rfl (fun h=>?_) (fun h=>?_)
     · subst h;obtain ⟨hneg,hrn⟩:=ht rfl;have hl3:=B6 (a.natAbs / b.natAbs);have hp:=nA (tw (a.natAbs / b.natAbs)) [1] (fr _) (a8.cons.2 ⟨by decide,a8.nil⟩) (by omega) (by decide);have hm:=qO (iw b) (tw (a.natAbs%b.natAbs)) (bV b) (fr _) (Nat.le_trans hb (by decide)) (by rw[ez,cS];omega);rw[ez,show nv [1]=1 from rfl] at hp;rw[ez,cS] at hm;refine AW.draw aS 7 (by kernel_rfl) ?_;refine qP 1 rfl (ah.mX tok rfl rfl rfl rfl rfl rfl ?_);refine qQ rfl hp (qP 1 rfl (qQ rfl (dA b (by omega)) ?_));refine qP 1 rfl (qQ rfl hm (ah.nil (qU 2 rfl (ae.nil ?_))));exact⟨(a.natAbs / b.natAbs+1,b.natAbs-a.natAbs%b.natAbs),rfl,⟨Nat.le_trans hl3 (by omega),Nat.le_trans (jO (z:=b) (by simp only[];omega)) (by omega),At h0 _ _ (.inl ⟨hneg,hrn,rfl,rfl⟩)⟩⟩
     · subst h;refine AW.skip ?_;exact⟨(a.natAbs / b.natAbs,a.natAbs%b.natAbs),rfl,⟨by simp only[];omega,by simp only[];omega,At h0 _ _ (.inr ⟨hf rfl,rfl,rfl⟩)⟩⟩
 · simp only[] at hm hn hq hr;refine AW.seq (AW.draw aS 9 (by kernel_rfl) ?_);refine qP 1 rfl (qQ rfl (cY a (by omega)) ?_);refine qP 1 rfl (qQ rfl (cY b (by omega)) ?_);refine ah.be tok rfl rfl rfl rfl rfl ?_;refine qP 1 rfl (qQ rfl (fD ((decide (a<0)==decide (b<0))==false) m (by omega)) ?_);refine qP 1 rfl (qQ rfl (fD false n (by omega)) ?_);refine ah.nil (qU 3 rfl (ae.nil ?_));rw[hq,hr];exact AW.ret rfl
end Lift
namespace Lift
open Go Go.Proofs
theorem pG:Pure Tryz.prog 96 [] (fa 1):=by
 refine qJ 2 Tryz.func96 rfl rfl rfl rfl (by kernel_rfl) (fun B F0 w0=>?_);refine qX 1 rfl (qI (AW.region (qM rfl (yw 1 (by decide) (by decide)) ?_)));exact qU 1 rfl (qN rfl)
theorem qH(m:List Nat)(hm:a8 m)(hl:m.length≤35184372088831):Pure Tryz.prog 152 [Wd m] (dB (decide (m≠[]∧okW false m=true))):=by
 refine qJ 15 Tryz.func152 rfl rfl rfl rfl (by kernel_rfl) (fun B F0 w0=>?_);refine qX 1 rfl (qK 3 rfl ?_);rw[ba];refine ae.split (t:=5) rfl (fun h=>?_) (fun h=>?_)
 · have h1:m≠[]:=by
    have:=ao h;intro e;subst e;simp at this
   have hl0:0<m.length:=List.length_pos_iff.2 h1;refine qU 5 rfl ?_;rw[ba,aI (x:=(m.length:Int) -1) (by omega) (by omega),show (m.length:Int) -1=((m.length-1:Nat):Int) by omega];refine ae.idx tok (wd (m.getD (m.length-1) 0)) rfl rfl rfl rfl (aj _) (bS (by omega)) ?_;refine qU 4 rfl (ae.nil ?_)
   rw[show decide (m≠[]∧okW false m=true)=(((m.getD (m.length-1) 0:Nat):Int) != 0) by
    unfold okW;rw[if_neg h1,Bool.eq_iff_iff]
    simp[h1]]
   exact AW.ret rfl
 · have h1:m=[]:=by
    have:=ar h;exact List.length_eq_zero_iff.1 (by omega)
   refine qU 10 rfl (ae.nil ?_);rw[show decide (m≠[]∧okW false m=true)=false by simp[h1]];exact AW.ret rfl
set_option maxHeartbeats 800000 in
theorem jZ(r:RD){k:Nat}(hw:r.w k)(hk:k≤35184372088829):Pure Tryz.prog 111 [r.D] (dB r.okB):=by
 obtain ⟨g,m,d⟩:=r;obtain ⟨hm,hd,hlm,hld⟩:=hw;simp only[] at hm hd hlm hld;refine qJ 36 Tryz.func111 rfl rfl rfl rfl (by kernel_rfl) (fun B F0 w0=>?_);refine qX 2 rfl (qI ?_);refine AW.cut [1,12] (fun _:Unit=>[(1,.bx [dB g,Wd m,Wd d]),(12,.d (dB (decide (m=[]∧d=[]))))]) (fun _=>True) ?_ (fun _ _=>?_)
 · refine qT 4 rfl ?_;rw[xJ];refine ae.split (t:=6) rfl (fun h=>?_) (fun h=>?_)
   · refine qU 6 rfl (ae.nil ?_);have:=ao h;exact⟨(),by rw[show decide (m=[]∧d=[])=(((d.map wd).length:Int)==0) by rw[xJ,Bool.eq_iff_iff];simp only[decide_eq_true_eq];exact⟨fun e=>e.2,fun e=>⟨this,e⟩⟩];rfl,trivial⟩
   · refine qU 6 rfl (ae.nil ?_);have:=ar h;exact⟨(),by rw[show decide (m=[]∧d=[])=false by simp[this]];rfl,trivial⟩
 refine AW.cond rfl (fun h=>?_) (fun h=>?_)
 · have h0:=ao h;rw[show RD.okB ⟨g,m,d⟩= !g by unfold RD.okB;rw[if_pos h0]];exact qX 4 rfl (qN rfl)
 · have h0:=ar h;have hokB:RD.okB ⟨g,m,d⟩=decide (m≠[]∧d≠[]∧okW false m=true∧okW false d=true∧Nat.gcd (nv m) (nv d)=1):=by unfold RD.okB;rw[if_neg h0]
   rw[hokB];clear hokB;refine AW.skip (qX 2 rfl (qM rfl (qH m hm (by omega)) ?_));refine ae.split (t:=18) rfl (fun h=>?_) (fun h=>?_)
   · obtain ⟨hm0,ok1⟩:=ao h;refine qU 3 rfl (qM rfl (qH d hd (by omega)) ?_);refine qU 1 rfl ?_;refine ae.split (t:=23) rfl (fun h=>?_) (fun h=>?_)
     · obtain ⟨hd0,ok2⟩:=ao h;have e1:=oG hm ok1;have e2:=oG hd ok2;have l1:=rP hm ok1;have l2:=rP hd ok2
       have hgl:L ((Nat.gcd (nv m) (nv d):Nat):Int)≤35184372088829:=by
        have hp:0<nv m:=Nat.pos_of_ne_zero fun e=>hm0 ((jf (sf ok1)).1 e);have:=Nat.gcd_le_left (nv d) hp;have:=n9 (a:=((Nat.gcd (nv m) (nv d):Nat):Int)) (b:=((nv m:Nat):Int)) (by simpa using this);omega
       have hgcd:=vH (nv m:Nat) (nv d:Nat) (by omega) (by omega);rw[← e1,← e2,Int.natAbs_natCast,Int.natAbs_natCast] at hgcd;refine qU 7 rfl (qM rfl hgcd (qM rfl pG ?_));refine qM rfl (Dd ((Nat.gcd (nv m) (nv d):Nat):Int) 1 (by omega) (by rw[xb];decide)) ?_;refine qU 3 rfl (ae.nil ?_)
       rw[show decide (m≠[]∧d≠[]∧okW false m=true∧okW false d=true∧Nat.gcd (nv m) (nv d)=1)=(iL ((Nat.gcd (nv m) (nv d):Nat):Int) 1==0) by
        rw[Bool.eq_iff_iff];simp only[ne_eq,hm0,not_false_eq_true,hd0,ok1,ok2,true_and,decide_eq_true_eq,beq_iff_eq];unfold iL;constructor
        · intro h;rw[h];rfl
        · intro h;split at h
          · cases h
          · split at h
            · omega
            · cases h]
       exact AW.ret rfl
     · have h2:=ar h;refine qU 13 rfl (ae.nil ?_);rw[show decide (m≠[]∧d≠[]∧okW false m=true∧okW false d=true∧Nat.gcd (nv m) (nv d)=1)=false from a7 fun e=>h2 ⟨e.2.1,e.2.2.2.1⟩];exact AW.ret rfl
   · have h1:=ar h;refine qU 5 rfl (qU 13 rfl (ae.nil ?_));rw[show decide (m≠[]∧d≠[]∧okW false m=true∧okW false d=true∧Nat.gcd (nv m) (nv d)=1)=false from a7 fun e=>h1 ⟨e.1,e.2.2.1⟩];exact AW.ret rfl
theorem fQ(r:RD){k:Nat}(hw:r.w k)(hk:k≤34800000000000):Pure Tryz.prog 156 [r.D] (.tu [fa r.val.num,fa r.val.den]):=by
 refine qJ 23 Tryz.func156 rfl rfl rfl rfl (by kernel_rfl) (fun B F0 w0=>?_);refine qX 3 rfl (qI ?_);refine AW.cut [1,2,3,12] (fun _:Unit=>[(1,.bx [dB r.g,Wd r.n,Wd r.d]),(2,.bx [dB false,.sl 1 []]),(3,.bx [dB false,.sl 1 []]),(12,.d (dB (decide (r.okB=false∨r.n=[]))))]) (fun _=>True) ?_ (fun _ _=>?_)
 · refine qT 1 rfl (qM rfl (jZ r hw (by omega)) ?_);refine qU 2 rfl ?_;refine ae.split (t:=7) rfl (fun h=>?_) (fun h=>?_)
   · have h1:r.okB=false:=by simpa using h
     refine qU 5 rfl (ae.nil ?_);exact⟨(),by rw[show decide (r.okB=false∨r.n=[])=true by simp[h1]];rfl,trivial⟩
   · have h1:r.okB=true:=by simpa using h
     refine qU 5 rfl ?_;rw[xJ];refine ae.nil ?_;exact⟨(),by rw[show decide (r.okB=false∨r.n=[])=decide (r.n=[]) by simp only[h1];simp];rfl,trivial⟩
 refine AW.cond rfl (fun h=>?_) (fun h=>?_)
 · have h1:=ao h
   have hv:r.val=0:=by
    rcases h1 with h1 | h1
    · exact RD.uw h1
    · exact RD.oe h1
   rw[hv,show (0:Rat).num=0 from rfl,show (((0:Rat).den:Nat):Int)=1 from rfl,AO];exact qX 1 rfl (qM rfl pG (qU 2 rfl (qN rfl)))
 · have h1:=ar h
   have h2:r.okB=true:=by cases ho:r.okB with
    | true=>rfl
    | false=>exact absurd (.inl ho) h1
   obtain ⟨_,_,p3,p4,p5,_⟩:=RD.parts hw h2 (fun e=>h1 (.inr e));have e1:fa r.val.num=Wh r.g r.n:=by rw[fa,← p3,← p4]
   have e2:fa (r.val.den:Nat)=Wh false r.d:=by
    have:decide (((r.val.den:Nat):Int)<0)=false:=by simp
    rw[fa,this,iw,Int.natAbs_natCast,← p5]
   rw[e1,e2];have hl1:=hw.2.2.1;have hl2:=hw.2.2.2;refine AW.skip (AW.seq (AW.nW tok aS [(5,true),(3,false)] 8 [2,3] (by kernel_rfl) ⟨rfl,?_⟩));refine qP 5 rfl (ah.nil ⟨rfl,?_⟩);refine qP 3 rfl (ah.nil ⟨_,oM.cons (.bx rfl) (oM.cons (.bx rfl) oM.nil),ae.nil ?_⟩);exact AW.ret rfl
theorem Kt{n d:Int}(hd:0<d)(hn:n≠0):(Qr (Rat.divInt n d)).D= .ag [dB (decide (n / (Nat.gcd n.natAbs d.natAbs:Int)<0)),Wd (iw (n / (Nat.gcd n.natAbs d.natAbs:Int))),Wd (iw (d / (Nat.gcd n.natAbs d.natAbs:Int)))]:=by
 obtain ⟨h1,h2⟩:=wv (n:=n) hd
 have hnz:(Rat.divInt n d).num≠0:=by
  intro e;rw[h1] at e;exact hn (Int.eq_zero_of_ediv_eq_zero (Int.ofNat_dvd_left.2 (Nat.gcd_dvd_left _ _)) e)
 show D.ag [dB (decide ((Rat.divInt n d).num<0)),Wd (iw (Rat.divInt n d).num),Wd (if (Rat.divInt n d).num=0 then [] else tw (Rat.divInt n d).den)]=_;rw[if_neg hnz,h1,← h2,iw,iw,Int.natAbs_natCast]
set_option maxHeartbeats 800000 in
theorem kU(n d:Int)(hn:L n≤34800000000000)(hd:L d≤34800000000000)(h0:d≠0):Pure Tryz.prog 94 [fa n,fa d] (Qr (Rat.divInt n d)).D:=by
 refine qJ 47 Tryz.func94 rfl rfl rfl rfl (by kernel_rfl) (fun B F0 w0=>?_);refine qX 3 rfl (qI (qX 1 rfl (qM rfl (jx n (by omega)) ?_)));refine qU 1 rfl (ae.nil (AW.cond rfl (fun h=>?_) (fun h=>?_)))
 · have hn0:n=0:=by
    have:jJ n=0:=by simpa using h
    unfold jJ at this
    repeat' split at this
    all_goals omega
   rw[hn0,Rat.zero_divInt,jl];exact qX 2 rfl (qN rfl)
 · have hn0:n≠0:=by rintro rfl;simp[jJ] at h
   refine AW.skip ?_
   refine AW.cut [2,3,4] (fun s:Int×Int=>[(2,.bx [dB (decide (s.1<0)),Wd (iw s.1)]),(3,.bx [dB (decide (s.2<0)),Wd (iw s.2)]),(4,.bx [dB false,.sl 1 [],.sl 1 []])])
    (fun s=>0<s.2∧s.1≠0∧L s.1≤34800000000000∧L s.2≤34800000000000∧Rat.divInt s.1 s.2=Rat.divInt n d) ?_ (fun (x,y) ⟨hy,hx,hlx,hly,he⟩=>?_)
   · refine qX 1 rfl (qM rfl (jx d (by omega)) ?_);refine qU 1 rfl (ae.nil (AW.cond rfl (fun h=>?_) (fun h=>?_)))
     · have hd0:d<0:=by
        have:=ao h;unfold jJ at this
        repeat' split at this
        all_goals omega
       refine AW.draw aS 4 (by kernel_rfl) ?_;refine qP 1 rfl (qQ rfl (mj n (by omega)) ?_);refine qP 1 rfl (qQ rfl (mj d (by omega)) ?_);refine ah.nil (qU 2 rfl (ae.nil ?_));exact⟨(-n, -d),rfl,⟨by simp only[];omega,by simp only[];omega,by rw[n0];exact hn,by rw[n0];exact hd,Rat.neg_divInt_neg n d⟩⟩
     · have hd0:0<d:=by
        have:=ar h;unfold jJ at this
        repeat' split at this
        all_goals omega
       refine AW.skip ?_;exact⟨(n,d),rfl,⟨hd0,hn0,hn,hd,rfl⟩⟩
   · simp only[] at hy hx hlx hly he;rw[← he]
     have hgl:L ((Nat.gcd x.natAbs y.natAbs:Nat):Int)≤34800000000000:=by
      have:=Nat.gcd_le_left y.natAbs (show 0<x.natAbs by omega);have:=n9 (a:=((Nat.gcd x.natAbs y.natAbs:Nat):Int)) (b:=x) (by simpa using this);omega
     have hg0:((Nat.gcd x.natAbs y.natAbs:Nat):Int)≠0:=by
      have:0<Nat.gcd x.natAbs y.natAbs:=Nat.gcd_pos_of_pos_left _ (by omega);omega
     rw[Kt hy hx];have hgcd:=vH x y (by omega) (by omega);generalize ((Nat.gcd x.natAbs y.natAbs:Nat):Int)=g at *;refine qX 2 rfl (qM rfl hgcd (qU 2 rfl (qK 2 rfl (qM rfl (vI x g hlx hgl hg0) ?_))));refine qU 9 rfl (qK 2 rfl (qM rfl (vI y g hly hgl hg0) ?_));exact qU 9 rfl (qK 8 rfl (qN rfl))
theorem yv(n:Int)(h0: -9223372036854775808≤n)(h1:n≤9223372036854775807):Pure Tryz.prog 49 [dI n] (Qr n).D:=by
 refine qJ 7 Tryz.func49 rfl rfl rfl rfl (by kernel_rfl) (fun B F0 w0=>?_);have hl:=NA n (by omega);have hf:=kU n 1 (by omega) (by rw[xb];decide) (by decide);rw[sh] at hf;refine qX 1 rfl (qK 1 rfl (qM rfl (yw n h0 h1) ?_));exact qM rfl pG (qM rfl hf (qU 1 rfl (qN rfl)))
theorem vB(r:RD){k:Nat}(hw:r.w k)(hk:k≤17300000000000):Pure Tryz.prog 119 [r.D] (Qr (-r.val)).D:=by
 refine qJ 14 Tryz.func119 rfl rfl rfl rfl (by kernel_rfl) (fun B F0 w0=>?_);have hl:=cF (hw.mono (Nat.le_max_left k 1)) (Nat.le_max_right k 1);have hn:=j8 r.val;have hd:=kL r.val;rw[← neg_divInt];refine qX 2 rfl (qK 1 rfl (qM rfl (fQ r hw (by omega)) ?_));refine qU 7 rfl (qI (AW.draw aS 4 (by kernel_rfl) ?_));refine qP 1 rfl (qQ rfl (mj r.val.num (by omega)) ?_);refine qP 1 rfl ?_;refine qQ rfl (kU (-r.val.num) r.val.den (by rw[n0];omega) (by omega) (sU _)) ?_;exact ah.nil (qU 1 rfl (qN rfl))
theorem tj(r:RD){k:Nat}(hr:r.w k)(hk:k≤17300000000000):Pure Tryz.prog 115 [r.D] (dI (jJ r.val.num)):=by
 refine qJ 12 Tryz.func115 rfl rfl rfl rfl (by kernel_rfl) (fun B F0 w0=>?_);have hl:=cF (hr.mono (Nat.le_max_left k 1)) (Nat.le_max_right k 1);have:=j8 r.val;refine qX 2 rfl (qK 1 rfl (qM rfl (fQ r hr (by omega)) ?_));refine qU 7 rfl (qK 1 rfl (qM rfl (jx r.val.num (by omega)) ?_));exact qU 1 rfl (qN rfl)
theorem vD(r s:RD){k:Nat}(hr:r.w k)(hs:s.w k)(hk:k≤17300000000000):Pure Tryz.prog 118 [r.D,s.D] (Qr (r.val+s.val)).D:=by
 refine qJ 30 Tryz.func118 rfl rfl rfl rfl (by kernel_rfl) (fun B F0 w0=>?_);have hl:=cF (hr.mono (Nat.le_max_left k 1)) (Nat.le_max_right k 1);have hm:=cF (hs.mono (Nat.le_max_left k 1)) (Nat.le_max_right k 1);have:=j8 r.val;have:=kL r.val;have:=j8 s.val;have:=kL s.val;have:=fY r.val.num s.val.den;have:=fY s.val.num r.val.den;have:=fY r.val.den s.val.den;have:=Cz (r.val.num*s.val.den) (s.val.num*r.val.den);rw[← p8];refine qX 3 rfl (qK 1 rfl (qM rfl (fQ r hr (by omega)) ?_));refine qU 7 rfl (qK 1 rfl (qM rfl (fQ s hs (by omega)) ?_));refine qU 7 rfl (qI (AW.draw aS 11 (by kernel_rfl) ?_));refine qP 2 rfl (qQ rfl (kv r.val.num s.val.den (by omega) (by omega)) ?_);refine qP 2 rfl (qQ rfl (kv s.val.num r.val.den (by omega) (by omega)) ?_);refine qQ rfl (vJ (r.val.num*s.val.den) (s.val.num*r.val.den) (by omega) (by omega)) ?_;refine qP 2 rfl (qQ rfl (kv r.val.den s.val.den (by omega) (by omega)) ?_);refine qQ rfl (kU (r.val.num*s.val.den+s.val.num*r.val.den) (r.val.den*s.val.den) (by omega) (by omega) (iY _ _)) ?_;exact ah.nil (qU 1 rfl (qN rfl))
theorem C'(r s:RD){k:Nat}(hr:r.w k)(hs:s.w k)(hk:k≤17300000000000):Pure Tryz.prog 193 [r.D,s.D] (Qr (r.val*s.val)).D:=by
 refine qJ 26 Tryz.func193 rfl rfl rfl rfl (by kernel_rfl) (fun B F0 w0=>?_);have hl:=cF (hr.mono (Nat.le_max_left k 1)) (Nat.le_max_right k 1);have hm:=cF (hs.mono (Nat.le_max_left k 1)) (Nat.le_max_right k 1);have:=j8 r.val;have:=kL r.val;have:=j8 s.val;have:=kL s.val;have:=fY r.val.num s.val.num;have:=fY r.val.den s.val.den;rw[← pU];refine qX 3 rfl (qK 1 rfl (qM rfl (fQ r hr (by omega)) ?_));refine qU 7 rfl (qK 1 rfl (qM rfl (fQ s hs (by omega)) ?_));refine qU 7 rfl (qI (AW.draw aS 7 (by kernel_rfl) ?_));refine qP 2 rfl (qQ rfl (kv r.val.num s.val.num (by omega) (by omega)) ?_);refine qP 2 rfl (qQ rfl (kv r.val.den s.val.den (by omega) (by omega)) ?_);refine qQ rfl (kU (r.val.num*s.val.num) (r.val.den*s.val.den) (by omega) (by omega) (iY _ _)) ?_;exact ah.nil (qU 1 rfl (qN rfl))
theorem C9(r s:RD){k:Nat}(hr:r.w k)(hs:s.w k)(hk:k≤17300000000000):Pure Tryz.prog 154 [r.D,s.D] (Qr (r.val-s.val)).D:=by
 refine qJ 9 Tryz.func154 rfl rfl rfl rfl (by kernel_rfl) (fun B F0 w0=>?_);have hm:=cF (hs.mono (Nat.le_max_left k 1)) (Nat.le_max_right k 1);have hadd:=vD r (Qr (-s.val)) (k:=max k 1) (hr.mono (by omega)) (iG _ (by rw[AI];omega)) (by omega);rw[dk,← Rat.sub_eq_add_neg] at hadd;refine qX 3 rfl (qI (AW.draw aS 4 (by kernel_rfl) ?_));refine qP 2 rfl (qQ rfl (vB s hs (by omega)) ?_);exact qQ rfl hadd (ah.nil (qU 1 rfl (qN rfl)))
theorem G5(a b:Rat):jJ (a-b).num=Av a b:=by
 rw[← Iw]
theorem vC(r s:RD){k:Nat}(hr:r.w k)(hs:s.w k)(hk:k≤8600000000000):Pure Tryz.prog 112 [r.D,s.D] (dI (Av r.val s.val)):=by
 refine qJ 9 Tryz.func112 rfl rfl rfl rfl (by kernel_rfl) (fun B F0 w0=>?_);have hl:=cF (hr.mono (Nat.le_max_left k 1)) (Nat.le_max_right k 1);have hm:=cF (hs.mono (Nat.le_max_left k 1)) (Nat.le_max_right k 1);have hq:=D6 r.val s.val;have hsg:=tj (Qr (r.val-s.val)) (iG _ (ai _)) (by omega);rw[dk,G5] at hsg;refine qX 3 rfl (qK 2 rfl (qM rfl (C9 r s hr hs (by omega)) ?_));exact qM rfl hsg (qU 1 rfl (qN rfl))
end Lift
namespace Lift
open Go Go.Proofs
def qc(c:Nat):Bool:=(decide (97≤c)&&decide (c≤122))||(decide (65≤c)&&decide (c≤90))
def wj(c:Nat):Bool:=decide (48≤c)&&decide (c≤57)
def ud(c:Nat):Bool:=qc c||wj c||decide (c=95)
abbrev d8(c:Nat):D:= .v (.int .u8 (c:Int))
abbrev dS(s:ByteArray):D:= .v (.string s)
def qd(s:ByteArray):List Nat:=s.data.toList.map UInt8.toNat
theorem uQ(s:ByteArray):(qd s).length=s.size:=by simp[qd]
theorem wW(s:ByteArray)(i:Nat):(s.data.toList.getD i 0).toNat=(qd s).getD i 0:=by
 simp only[qd,aK,List.getElem?_map];cases s.data.toList[i]?<;>rfl
def tQ(l:List Nat):Nat:=if qc (l.getD 0 0)=true then (l.takeWhile ud).length else 0
def cU(s:ByteArray):Bool:=decide (0<tQ (qd s)∧tQ (qd s)=s.size∧s.size≤24)
theorem M7{c:Nat}(h:qc c=true):ud c=true:=by simp[ud,h]
theorem ql{l:List Nat}{n:Nat}(h1:n≤l.length)(h2: ∀i,i<n→ud (l.getD i 0)=true)(h3:ud (l.getD n 0)=false):(l.takeWhile ud).length=n:=by
 induction l generalizing n with
 | nil=>simp at h1;subst h1;rfl
 | cons a r ih =>
   cases n with
   | zero =>
     have:ud a=false:=by simpa using h3
     simp[List.takeWhile,this]
   | succ m =>
     have ha:ud a=true:=by simpa using h2 0 (by omega)
     have:=ih (n:=m) (by simpa using h1) (fun i hi=>by simpa using h2 (i+1) (by omega)) (by simpa using h3);simp[List.takeWhile,ha,this]
theorem lR{l:List Nat}{n:Nat}(h:l.length≤n):l.getD n 0=0:=by
 rw[aK,List.getElem?_eq_none h];rfl
theorem vf(c:Nat):Pure Tryz.prog 190 [d8 c] (dB (wj c)):=by
 refine qJ 9 Tryz.func190 rfl rfl rfl rfl (by kernel_rfl) (fun B F0 w0=>?_);refine qX 1 rfl (qK 2 rfl ?_);refine ae.split (t:=4) rfl (fun h=>?_) (fun h=>?_)
 · have h1:=ao h;refine qU 5 rfl (ae.nil ?_);rw[show wj c=decide ((c:Int)≤57) by unfold wj;rw[Bool.eq_iff_iff];simp<;>omega];exact AW.ret rfl
 · have h1:=ar h;refine qU 5 rfl (ae.nil ?_);rw[show wj c=false by unfold wj;rw[Bool.eq_iff_iff];simp<;>omega];exact AW.ret rfl
theorem mJ(c:Nat):Pure Tryz.prog 144 [d8 c] (dB (qc c)):=by
 refine qJ 17 Tryz.func144 rfl rfl rfl rfl (by kernel_rfl) (fun B F0 w0=>?_);refine qX 1 rfl (qK 2 rfl ?_);refine ae.split (t:=4) rfl (fun h=>?_) (fun h=>?_)
 · have h1:=ao h;refine qU 5 rfl ?_;refine ae.split (t:=9) rfl (fun h=>?_) (fun h=>?_)
   · have h2:=ao h;refine qU 8 rfl (ae.nil ?_);rw[show qc c=true by unfold qc;rw[Bool.eq_iff_iff];simp<;>omega];exact AW.ret rfl
   · have h2:=ar h;refine qU 2 rfl ?_;refine ae.split (t:=11) rfl (fun h=>?_) (fun h=>?_)
     · have h3:=ao h;refine qU 6 rfl (ae.nil ?_);rw[show qc c=decide ((c:Int)≤90) by unfold qc;rw[Bool.eq_iff_iff];simp<;>omega];exact AW.ret rfl
     · have h3:=ar h;refine qU 6 rfl (ae.nil ?_);rw[show qc c=false by unfold qc;rw[Bool.eq_iff_iff];simp<;>omega];exact AW.ret rfl
 · have h1:=ar h;refine qU 7 rfl ?_;refine ae.split (t:=11) rfl (fun h=>?_) (fun h=>?_)
   · have h3:=ao h;refine qU 6 rfl (ae.nil ?_);rw[show qc c=decide ((c:Int)≤90) by unfold qc;rw[Bool.eq_iff_iff];simp<;>omega];exact AW.ret rfl
   · have h3:=ar h;refine qU 6 rfl (ae.nil ?_);rw[show qc c=false by unfold qc;rw[Bool.eq_iff_iff];simp<;>omega];exact AW.ret rfl
theorem xu(c:Nat):Pure Tryz.prog 145 [d8 c] (dB (ud c)):=by
 refine qJ 13 Tryz.func145 rfl rfl rfl rfl (by kernel_rfl) (fun B F0 w0=>?_);refine qX 1 rfl (qK 1 rfl (qM rfl (mJ c) ?_));refine ae.split (t:=4) rfl (fun h=>?_) (fun h=>?_)
 · refine qU 9 rfl (ae.nil ?_);rw[show ud c=true by simp[ud,h]];exact AW.ret rfl
 · refine qU 2 rfl (qM rfl (vf c) ?_);refine qU 2 rfl ?_;refine ae.split (t:=9) rfl (fun h2=>?_) (fun h2=>?_)
   · refine qU 4 rfl (ae.nil ?_);rw[show ud c=true by simp[ud,h2]];exact AW.ret rfl
   · refine qU 4 rfl (ae.nil ?_);rw[show ud c=((c:Int)==95) by unfold ud;rw[h,h2,Bool.eq_iff_iff];simp<;>omega];exact AW.ret rfl
theorem l9(a b:ByteArray):(a.toList==b.toList)=decide (a=b):=by
 rw[ByteArray.toList_eq,ByteArray.toList_eq,Bool.eq_iff_iff];simp only[beq_iff_eq,decide_eq_true_eq];exact⟨fun h=>Go.WideShapes.bytes_inj h,fun h=>by rw[h]⟩
theorem FB(s:ByteArray):(s.toList==(⟨#[]⟩:ByteArray).toList)=decide (s.size=0):=by
 rw[l9,Bool.eq_iff_iff];simp only[decide_eq_true_eq];constructor
 · intro h;rw[h];rfl
 · intro h;exact Go.WideShapes.bytes_inj (by
    have:s.data.toList.length=0:=h
    rw[List.length_eq_zero_iff.1 this])
set_option maxHeartbeats 400000 in
theorem xt(s:ByteArray)(hs:s.size≤1000000000000000):Pure Tryz.prog 97 [dS s] (dI (tQ (qd s):Nat)):=by
 refine qJ 25 Tryz.func97 rfl rfl rfl rfl (by kernel_rfl) (fun B F0 w0=>?_);refine qX 1 rfl (qI ?_);have hl:=uQ s;refine AW.cut [0,11] (fun _:Unit=>[(0,.d (dS s)),(11,.d (dB (!qc ((qd s).getD 0 0))))]) (fun _=>True) ?_ (fun _ _=>?_)
 · refine qT 2 rfl ?_;rw[FB];refine ae.split (t:=5) rfl (fun h=>?_) (fun h=>?_)
   · have h1:=ao h;refine qU 6 rfl (ae.nil ?_);refine⟨(),?_,trivial⟩;rw[lR (by omega)];rfl
   · have h1:=ar h;refine qU 2 rfl (ae.x8 tok rfl rfl rfl rfl (Int.le_refl 0) (Nat.pos_of_ne_zero h1) ?_);rw[show (0:Int).toNat=0 from rfl,wW];refine qM rfl (mJ ((qd s).getD 0 0)) ?_;refine qU 2 rfl (ae.nil ?_);exact⟨(),rfl,trivial⟩
 refine AW.cond rfl (fun h=>?_) (fun h=>?_)
 · have h1:qc ((qd s).getD 0 0)=false:=by simpa using h
   rw[tQ,h1];exact qX 1 rfl (qN rfl)
 · have h1:qc ((qd s).getD 0 0)=true:=by simpa using h
   rw[tQ,if_pos h1]
   have hs0:0<s.size:=by
    rcases Nat.eq_zero_or_pos s.size with e | e
    · rw[lR (by omega)] at h1;cases h1
    · exact e
   refine AW.skip (qX 1 rfl (qI (AW.block ?_)))
   refine AW.aL [0,3] (fun k:Nat=>[(0,.d (dS s)),(3,.d (dI k))]) (fun k=>k≤s.size∧ ∀i,i<k→ud ((qd s).getD i 0)=true) (fun k=>s.size-k) 1 rfl
    ⟨hs0,fun i hi=>by rw[show i=0 by omega];exact M7 h1⟩ (fun k ⟨hk,hp⟩=>?_)
   refine AW.seq ?_;refine AW.cut [0,3,21] (fun _:Unit=>[(0,.d (dS s)),(3,.d (dI k)),(21,.d (dB (ud ((qd s).getD k 0))))]) (fun _=>True) ?_ (fun _ _=>?_)
   · refine qT 4 rfl ?_;refine ae.split (t:=15) rfl (fun h=>?_) (fun h=>?_)
     · have h2:=ao h;refine qU 3 rfl ?_;refine ae.x8 tok rfl rfl rfl rfl (aj k) (by simp only[Int.toNat_natCast];omega) ?_;rw[Int.toNat_natCast,wW];refine qM rfl (xu ((qd s).getD k 0)) ?_;refine qU 1 rfl (ae.nil ?_);exact⟨(),rfl,trivial⟩
     · have h2:=ar h;refine qU 6 rfl (ae.nil ?_);refine⟨(),?_,trivial⟩;rw[lR (by omega)];rfl
   refine AW.cond rfl (fun h=>?_) (fun h=>?_)
   · have hks:k<s.size:=by
      rcases Nat.lt_or_ge k s.size with e | e
      · exact e
      · rw[lR (by omega)] at h;cases h
     refine AW.skip (AW.block (qT 3 rfl ?_));rw[aI (x:=(k:Int)+1) (by omega) (by omega)];refine ae.nil ?_;refine⟨k+1,rfl,⟨hks,fun i hi=>?_⟩,by omega⟩;rcases Nat.lt_or_ge i k with e | e
     · exact hp i e
     · rw[show i=k by omega];exact h
   · rw[ql (by omega) hp h];exact AW.exit (qX 2 rfl (qN rfl))
theorem gf(s:ByteArray)(hs:s.size≤1000000000000000):Pure Tryz.prog 51 [dS s] (dB (cU s)):=by
 refine qJ 18 Tryz.func51 rfl rfl rfl rfl (by kernel_rfl) (fun B F0 w0=>?_);refine qX 1 rfl (qK 1 rfl (qM rfl (xt s hs) ?_));refine qU 1 rfl (qK 2 rfl ?_);unfold cU;generalize tQ (qd s)=n;refine ae.split (t:=7) rfl (fun h=>?_) (fun h=>?_)
 · have h1:=ao h;refine qU 6 rfl ?_;refine ae.split (t:=13) rfl (fun h=>?_) (fun h=>?_)
   · have h2:(n:Int)=s.size:=by simpa using h
     refine qU 5 rfl (ae.nil ?_);rw[show decide (0<n∧n=s.size∧s.size≤24)=decide ((n:Int)≤24) by rw[Bool.eq_iff_iff];simp only[decide_eq_true_eq];omega];exact AW.ret rfl
   · have h2: ¬(n:Int)=s.size:=by simpa using h
     refine qU 5 rfl (ae.nil ?_);rw[show decide (0<n∧n=s.size∧s.size≤24)=false by rw[Bool.eq_iff_iff];simp<;>omega];exact AW.ret rfl
 · have h1:=ar h;refine qU 11 rfl (ae.nil ?_);rw[show decide (0<n∧n=s.size∧s.size≤24)=false by rw[Bool.eq_iff_iff];simp<;>omega];exact AW.ret rfl
theorem vA(c:Nat):Pure Tryz.prog 110 [d8 c] (dB (wj c)):=by
 refine qJ 9 Tryz.func110 rfl rfl rfl rfl (by kernel_rfl) (fun B F0 w0=>?_);refine qX 1 rfl (qK 2 rfl ?_);refine ae.split (t:=4) rfl (fun h=>?_) (fun h=>?_)
 · have h1:=ao h;refine qU 5 rfl (ae.nil ?_);rw[show wj c=decide ((c:Int)≤57) by unfold wj;rw[Bool.eq_iff_iff];simp<;>omega];exact AW.ret rfl
 · have h1:=ar h;refine qU 5 rfl (ae.nil ?_);rw[show wj c=false by unfold wj;rw[Bool.eq_iff_iff];simp<;>omega];exact AW.ret rfl
theorem mL(c:Nat):Pure Tryz.prog 108 [d8 c] (dB (qc c)):=by
 refine qJ 17 Tryz.func108 rfl rfl rfl rfl (by kernel_rfl) (fun B F0 w0=>?_);refine qX 1 rfl (qK 2 rfl ?_);refine ae.split (t:=4) rfl (fun h=>?_) (fun h=>?_)
 · have h1:=ao h;refine qU 5 rfl ?_;refine ae.split (t:=9) rfl (fun h=>?_) (fun h=>?_)
   · have h2:=ao h;refine qU 8 rfl (ae.nil ?_);rw[show qc c=true by unfold qc;rw[Bool.eq_iff_iff];simp<;>omega];exact AW.ret rfl
   · have h2:=ar h;refine qU 2 rfl ?_;refine ae.split (t:=11) rfl (fun h=>?_) (fun h=>?_)
     · have h3:=ao h;refine qU 6 rfl (ae.nil ?_);rw[show qc c=decide ((c:Int)≤122) by unfold qc;rw[Bool.eq_iff_iff];simp<;>omega];exact AW.ret rfl
     · have h3:=ar h;refine qU 6 rfl (ae.nil ?_);rw[show qc c=false by unfold qc;rw[Bool.eq_iff_iff];simp<;>omega];exact AW.ret rfl
 · have h1:=ar h;refine qU 7 rfl ?_;refine ae.split (t:=11) rfl (fun h=>?_) (fun h=>?_)
   · have h3:=ao h;refine qU 6 rfl (ae.nil ?_);rw[show qc c=decide ((c:Int)≤122) by unfold qc;rw[Bool.eq_iff_iff];simp<;>omega];exact AW.ret rfl
   · have h3:=ar h;refine qU 6 rfl (ae.nil ?_);rw[show qc c=false by unfold qc;rw[Bool.eq_iff_iff];simp<;>omega];exact AW.ret rfl
theorem oC(s:ByteArray)(i:Nat):Pure Tryz.prog 109 [dS s,dI i] (d8 ((qd s).getD i 0)):=by
 refine qJ 12 Tryz.func109 rfl rfl rfl rfl (by kernel_rfl) (fun B F0 w0=>?_);have hl:=uQ s;refine qX 1 rfl (qI (qX 4 rfl (ae.nil (AW.cond rfl (fun h=>?_) (fun h=>?_)))))
 · have h1:=ao h;refine qX 2 rfl ?_;refine ae.x8 tok rfl rfl rfl rfl (aj i) (by simp only[Int.toNat_natCast];omega) ?_;rw[Int.toNat_natCast,wW];exact qU 1 rfl (qN rfl)
 · have h1:=ar h;rw[lR (by omega)];exact AW.skip (qX 1 rfl (qN rfl))
set_option maxHeartbeats 400000 in
theorem vz(s:ByteArray)(hs:s.size≤1000000000000000):Pure Tryz.prog 62 [dS s,dI 0] (dI (tQ (qd s):Nat)):=by
 refine qJ 30 Tryz.func62 rfl rfl rfl rfl (by kernel_rfl) (fun B F0 w0=>?_);have hl:=uQ s;refine qX 1 rfl (qI (qX 2 rfl (qM rfl (oC s 0) ?_)));refine qM rfl (mL ((qd s).getD 0 0)) ?_;refine qU 1 rfl (ae.nil (AW.cond rfl (fun h=>?_) (fun h=>?_)))
 · have h1:qc ((qd s).getD 0 0)=false:=by simpa using h
   rw[tQ,h1];exact qX 2 rfl (qN rfl)
 · have h1:qc ((qd s).getD 0 0)=true:=by simpa using h
   rw[tQ,if_pos h1];refine AW.skip (AW.seq (AW.block ?_))
   refine AW.aL [0,1] (fun k:Nat=>[(0,.d (dS s)),(1,.d (dI k))]) (fun k=>k≤s.size∧ ∀i,i<k→ud ((qd s).getD i 0)=true) (fun k=>s.size-k) 0 rfl
    ⟨Nat.zero_le _,fun i hi=>by omega⟩ (fun k ⟨hk,hp⟩=>?_)
   refine AW.seq ?_;refine AW.cut [0,1,26] (fun _:Unit=>[(0,.d (dS s)),(1,.d (dI k)),(26,.d (dB (ud ((qd s).getD k 0))))]) (fun _=>True) ?_ (fun _ _=>?_)
   · refine qT 2 rfl (qM rfl (oC s k) ?_);refine qM rfl (mL ((qd s).getD k 0)) ?_;refine ae.split (t:=14) rfl (fun h=>?_) (fun h=>?_)
     · refine qU 12 rfl (ae.nil ?_);exact⟨(),by rw[show ud ((qd s).getD k 0)=true by unfold ud;rw[h];rfl];rfl,trivial⟩
     · refine qU 3 rfl (qM rfl (oC s k) ?_);refine qM rfl (vA ((qd s).getD k 0)) ?_;refine qU 2 rfl ?_;refine ae.split (t:=21) rfl (fun h2=>?_) (fun h2=>?_)
       · refine qU 5 rfl (ae.nil ?_);exact⟨(),by rw[show ud ((qd s).getD k 0)=true by unfold ud;rw[h,h2];rfl];rfl,trivial⟩
       · refine qU 2 rfl (qM rfl (oC s k) ?_);refine qU 2 rfl (ae.nil ?_);exact⟨(),by rw[show ud ((qd s).getD k 0)=((((qd s).getD k 0:Nat):Int)==95) by unfold ud;rw[h,h2,Bool.eq_iff_iff];simp<;>omega];rfl,trivial⟩
   refine AW.cond rfl (fun h=>?_) (fun h=>?_)
   · have hks:k<s.size:=by
      rcases Nat.lt_or_ge k s.size with e | e
      · exact e
      · rw[lR (by omega)] at h;cases h
     refine AW.skip (AW.block (qT 3 rfl ?_));rw[aI (x:=(k:Int)+1) (by omega) (by omega)];refine ae.nil ?_;refine⟨k+1,rfl,⟨hks,fun i hi=>?_⟩,by omega⟩;rcases Nat.lt_or_ge i k with e | e
     · exact hp i e
     · rw[show i=k by omega];exact h
   · rw[ql (by omega) hp h];exact AW.exit (qX 2 rfl (qN rfl))
theorem jw(s:ByteArray)(hs:s.size≤1000000000000000):Pure Tryz.prog 33 [dS s] (dB (cU s)):=by
 refine qJ 18 Tryz.func33 rfl rfl rfl rfl (by kernel_rfl) (fun B F0 w0=>?_)
 have hle:tQ (qd s)≤s.size:=by
  unfold tQ;split
  · rw[← uQ];exact(List.takeWhile_prefix _).length_le
  · omega
 have hw:=vz s hs;unfold cU;generalize tQ (qd s)=n at *;refine qX 1 rfl (qK 3 rfl ?_);refine ae.split (t:=5) rfl (fun h=>?_) (fun h=>?_)
 · have h1:=ao h;refine qU 5 rfl ?_;refine ae.split (t:=10) rfl (fun h=>?_) (fun h=>?_)
   · have h2:=ao h;refine qU 2 rfl (qM rfl hw (qU 5 rfl (ae.nil ?_)));rw[show decide (0<n∧n=s.size∧s.size≤24)=((n:Int)==s.size) by rw[Bool.eq_iff_iff];simp only[decide_eq_true_eq,beq_iff_eq];omega];exact AW.ret rfl
   · have h2:=ar h;refine qU 8 rfl (ae.nil ?_);rw[show decide (0<n∧n=s.size∧s.size≤24)=false by rw[Bool.eq_iff_iff];simp<;>omega];exact AW.ret rfl
 · have h1:=ar h;refine qU 13 rfl (ae.nil ?_);rw[show decide (0<n∧n=s.size∧s.size≤24)=false by rw[Bool.eq_iff_iff];simp<;>omega];exact AW.ret rfl
end Lift
namespace Lift
open Go Go.Proofs
instance:Inhabited RD:=⟨⟨false,[],[]⟩⟩
structure Mark where
 nm:ByteArray
 x:RD
 y:RD
deriving Inhabited
structure Body where
 nm:ByteArray
 pts:List Mark
deriving Inhabited
structure a9 where
 nm:ByteArray
 kind:Int
 a:Int
 pt:Int
 b:Int
 on:Int
 to:Int
deriving Inhabited
structure Driver where
 nm:ByteArray
 body:Int
deriving Inhabited
structure Lkg where
 nm:ByteArray
 bodies:List Body
 joints:List a9
 drivers:List Driver
deriving Inhabited
abbrev Mark.D(p:Mark):D:= .ag [dS p.nm,dB p.x.g,Wd p.x.n,Wd p.x.d,dB p.y.g,Wd p.y.n,Wd p.y.d]
abbrev qb(l:List Mark):D:= .sl 7 (l.map Mark.D)
abbrev Body.D(b:Body):D:= .ag [dS b.nm,qb b.pts]
abbrev a9.D(j:a9):D:= .ag [dS j.nm,dI j.kind,dI j.a,dI j.pt,dI j.b,dI j.on,dI j.to]
abbrev Driver.D(d:Driver):D:= .ag [dS d.nm,dI d.body]
abbrev aC(l:List Body):D:= .sl 2 (l.map Body.D)
abbrev aB(l:List a9):D:= .sl 7 (l.map a9.D)
abbrev ay(l:List Driver):D:= .sl 2 (l.map Driver.D)
abbrev Lkg.D(l:Lkg):D:= .ag [dS l.nm,aC l.bodies,aB l.joints,ay l.drivers]
def big:Nat:=1000000000000000
def Mark.ok(k:Nat)(p:Mark):Prop:=p.nm.size≤big∧p.x.w k∧p.y.w k
def Body.ok(k:Nat)(b:Body):Prop:=b.nm.size≤big∧b.pts.length≤big∧ ∀i,(b.pts.getD i default).ok k
structure Lkg.ok (k:Nat) (l:Lkg):Prop where
 nm:l.nm.size≤big
 nb:l.bodies.length≤big
 nj:l.joints.length≤big
 nd:l.drivers.length≤big
 b: ∀i,(l.bodies.getD i default).ok k
 j: ∀i,(l.joints.getD i default).nm.size≤big
 d: ∀i,(l.drivers.getD i default).nm.size≤big
def eP(g:Nat→Bool):Nat→Nat→Bool
 | 0,_=>false
 | m+1,i=>g i||eP g m (i+1)
def fE(f:Nat→Nat):Nat→Nat→Nat
 | 0,_=>0
 | m+1,i=>if f i=0 then fE f m (i+1) else f i
theorem eZ{f:Nat→Nat}{n i:Nat}(h:i<n)(h0:f i≠0):fE f (n-i) i=f i:=by
 rw[show n-i=(n-(i+1))+1 by omega,fE,if_neg h0]
theorem dh{f:Nat→Nat}{n i:Nat}(h:i<n)(h0:f i=0):fE f (n-i) i=fE f (n-(i+1)) (i+1):=by
 rw[show n-i=(n-(i+1))+1 by omega,fE,if_pos h0]
theorem e7{f:Nat→Nat}{n i:Nat}(h: ¬i<n):fE f (n-i) i=0:=by
 rw[show n-i=0 by omega,fE]
theorem fL{f:Nat→Bool}{n i:Nat}(h:i<n)(h0:f i=true):eP f (n-i) i=true:=by
 rw[show n-i=(n-(i+1))+1 by omega,eP,h0];rfl
theorem eO{f:Nat→Bool}{n i:Nat}(h:i<n)(h0:f i=false):eP f (n-i) i=eP f (n-(i+1)) (i+1):=by
 rw[show n-i=(n-(i+1))+1 by omega,eP,h0];rfl
theorem fM{f:Nat→Bool}{n i:Nat}(h: ¬i<n):eP f (n-i) i=false:=by
 rw[show n-i=0 by omega,eP]
theorem getM{α:Type}[Inhabited α](f:α→D){l:List α}{i:Nat}(h:i<l.length):(l.map f)[i]?=some (f (l.getD i default)):=by
 simp[h]
theorem H2{α:Type}[Inhabited α](f:α→D){l:List α}{i k:Nat}(h:k<l.length)(hk:k<i):((l.map f).take i)[k]?=some (f (l.getD k default)):=by
 rw[List.getElem?_take_of_lt hk,getM f h]
theorem vn{l:List D}{i:Nat}(h:i≤l.length):((l.take (cV l.length (some (i:Int)))).drop (fU none)).length=i:=by
 show ((l.take i).drop 0).length=i;rw[List.drop_zero,bb];omega
def DO(l:List Mark)(i:Nat):Bool:=eP (fun k=>decide ((l.getD k default).nm=(l.getD i default).nm)) i 0
def DQ(l:List Body)(i:Nat):Bool:=eP (fun k=>decide ((l.getD k default).nm=(l.getD i default).nm)) i 0
def um(l:List a9)(i:Nat):Bool:=eP (fun k=>decide ((l.getD k default).nm=(l.getD i default).nm)) i 0
def DP(l:List Driver)(i:Nat):Bool:=eP (fun k=>decide ((l.getD k default).nm=(l.getD i default).nm)) i 0
def DN(l:List Driver)(i:Nat):Bool:=eP (fun k=>decide ((l.getD k default).body=(l.getD i default).body)) i 0
def uB(l:List Mark)(i:Nat):Nat:=if cU (l.getD i default).nm=false then 5 else if DO l i=true then 6 else
 if (l.getD i default).x.okB=true∧(l.getD i default).y.okB=true then 0 else 3
def r9(l:List Mark):Nat:=if 8<l.length then 4 else fE (uB l) l.length 0
def fX(l:List Body)(i:Nat):Nat:=if cU (l.getD i default).nm=false then 5 else if DQ l i=true then 6 else r9 (l.getD i default).pts
def bM(l:List Body):Nat:=fE (fX l) l.length 0
def jz(i:Int)(n:Nat):Bool:=decide (0≤i∧i<n)
def lH(p q:Mark):Bool:=decide (p.x.val=q.x.val∧p.y.val=q.y.val)
def jE(l:List Body)(j:a9):Nat :=
 if j.kind≠0∧j.kind≠1 then 7 else if (jz j.a l.length&&jz j.b l.length)=false then 9 else if j.a=j.b then 13 else
 if (jz j.pt (l.getD j.a.toNat default).pts.length&&jz j.on (l.getD j.b.toNat default).pts.length)=false then 9 else
 if j.kind=0 then (if j.to=0 then 0 else 2) else if jz j.to (l.getD j.b.toNat default).pts.length=false then 9 else
 if lH ((l.getD j.b.toNat default).pts.getD j.on.toNat default) ((l.getD j.b.toNat default).pts.getD j.to.toNat default)=true then 8 else 0
def cZ(b:List Body)(l:List a9)(i:Nat):Nat:=if cU (l.getD i default).nm=false then 5 else if um l i=true then 6 else jE b (l.getD i default)
def bA(b:List Body)(l:List a9):Nat:=if 16<l.length then 4 else fE (cZ b l) l.length 0
def dW(n:Nat)(l:List Driver)(i:Nat):Nat:=if cU (l.getD i default).nm=false then 5 else if DP l i=true then 6 else
 if jz (l.getD i default).body n=false then 9 else if (l.getD i default).body=0 then 7 else if DN l i=true then 6 else 0
def iD(n:Nat)(l:List Driver):Nat:=if 2<l.length then 4 else fE (dW n l) l.length 0
def uo(l:Lkg):Nat:=if cU l.nm=false then 5 else if l.bodies=[] then 10 else if 8<l.bodies.length then 4 else
 if bM l.bodies≠0 then bM l.bodies else if bA l.bodies l.joints≠0 then bA l.bodies l.joints else iD l.bodies.length l.drivers
def uM(n:Nat):D:=match n with
 | 0=>aQ
 | m+1=>er ((m+1:Nat):Int)
end Lift
namespace Lift
open Go Go.Proofs
theorem K9:RT Tryz.prog 4 Bool (fun b=>[dB b]) (fun _=>True):=RT.bool (by kernel_rfl) (by kernel_rfl)
theorem s7:RT Tryz.prog 3 Int (fun n=>[dI n]) (fun n=>(Lit.int .i64 n).wf=true):=RT.int (by kernel_rfl) (by kernel_rfl)
theorem m8:RT Tryz.prog 9 ByteArray (fun s=>[dS s]) (fun s=>s.size≤reachBytes):=RT.string (by kernel_rfl) (by kernel_rfl)
theorem K6:RT Tryz.prog 117 Nat (fun n=>[wd n]) (fun n=>n<4294967296):=by
 refine(RT.int (k:= .u32) (by kernel_rfl) (by kernel_rfl)).map Int.toNat (fun n h=>?_) (fun n h=>?_) (fun v=>⟨by kernel_rfl,fun d hd=>by simp at hd;subst hd;rfl⟩)
 · have:0≤n∧n≤4294967295:=by simpa[Lit.wf,IntKind.min,IntKind.max,IntKind.signed,IntKind.bits] using h
   rw[wd,Int.toNat_of_nonneg this.1]
 · have:0≤n∧n≤4294967295:=by simpa[Lit.wf,IntKind.min,IntKind.max,IntKind.signed,IntKind.bits] using h
   omega
theorem Eb:RT Tryz.prog 66 (List Nat) (fun l=>[Wd l]) (fun l=>a8 l∧l.length≤reachBytes) :=
 (RT.slice (el:=wd) (s:=1) (by kernel_rfl) (by kernel_rfl) (by kernel_rfl) (by decide) (Nat.le_of_ble_eq_true (by kernel_rfl)) K6 (fun v=>rfl)).map id (fun l h=>rfl) (fun l h=>⟨h.2,h.1⟩) (fun v=>⟨by kernel_rfl,fun d hd=>by simp at hd;subst hd;rfl⟩)
theorem Gt:RT Tryz.prog 68 RD (fun r=>[dB r.g,Wd r.n,Wd r.d]) (fun r=>r.w reachBytes):=by
 have h:=RT.struct (P:=Tryz.prog) (t:=68) (m:=3) Tryz.underlying68 (by kernel_rfl) (k8.cons (by kernel_rfl) K9 (k8.cons (by kernel_rfl) Eb (k8.cons (by kernel_rfl) Eb k8.nil))) (fun v=>rfl)
 exact h.map (fun v=>⟨v.1,v.2.1,v.2.2.1⟩) (fun v h=>rfl) (fun v h=>⟨h.2.1.1,h.2.2.1.1,h.2.1.2,h.2.2.1.2⟩) (fun v=>⟨by kernel_rfl,fun d hd=>by
  simp only[List.mem_cons,List.mem_nil_iff,or_false] at hd
  rcases hd with rfl | rfl | rfl<;>rfl⟩)
theorem K8:RT Tryz.prog 70 Mark (fun p=>p.D.flat) (fun p=>p.ok reachBytes):=by
 have h:=RT.struct (P:=Tryz.prog) (t:=70) (m:=7) Tryz.underlying70 (by kernel_rfl) (k8.cons (by kernel_rfl) m8 (k8.cons (by kernel_rfl) Gt (k8.cons (by kernel_rfl) Gt k8.nil))) (fun v=>rfl)
 exact h.map (fun v=>⟨v.1,v.2.1,v.2.2.1⟩) (fun v h=>rfl) (fun v h=>⟨Nat.le_trans h.1 (by decide),h.2.1,h.2.2.1⟩) (fun v=>⟨by kernel_rfl,fun d hd=>by
  simp only[D.flat,List.mem_cons,List.mem_nil_iff,or_false] at hd
  rcases hd with rfl | rfl | rfl | rfl | rfl | rfl | rfl<;>rfl⟩)
theorem Jk:RT Tryz.prog 63 (List Mark) (fun l=>[qb l]) (fun l=>l.length≤reachBytes∧ ∀v∈l,v.ok reachBytes) :=
 RT.slice (el:=Mark.D) (s:=7) (by kernel_rfl) (by kernel_rfl) (by kernel_rfl) (by decide) (Nat.le_of_ble_eq_true (by kernel_rfl)) K8 (fun v=>rfl)
theorem k6{α:Type}[Inhabited α]{p:α→Prop}{l:List α}(h: ∀v∈l,p v)(h0:p default)(i:Nat):p (l.getD i default):=by
 rw[aK];rcases Nat.lt_or_ge i l.length with hi | hi
 · rw[bP hi];exact h _ (List.getElem_mem hi)
 · rw[List.getElem?_eq_none hi];exact h0
theorem BZ(k:Nat):(default:Mark).ok k:=⟨by decide,⟨a8.nil,a8.nil,Nat.zero_le _,Nat.zero_le _⟩,⟨a8.nil,a8.nil,Nat.zero_le _,Nat.zero_le _⟩⟩
theorem IH(k:Nat):(default:Body).ok k:=⟨by decide,by decide,fun i=>k6 (l:=[]) (fun v h=>by cases h) (BZ k) i⟩
theorem La:RT Tryz.prog 65 Body (fun b=>b.D.flat) (fun b=>b.ok reachBytes):=by
 have h:=RT.struct (P:=Tryz.prog) (t:=65) (m:=2) Tryz.underlying65 (by kernel_rfl) (k8.cons (by kernel_rfl) m8 (k8.cons (by kernel_rfl) Jk k8.nil)) (fun v=>rfl)
 exact h.map (fun v=>⟨v.1,v.2.1⟩) (fun v h=>rfl) (fun v h=>⟨Nat.le_trans h.1 (by decide),Nat.le_trans h.2.1.1 (by decide),k6 h.2.1.2 (BZ _)⟩) (fun v=>⟨by kernel_rfl,fun d hd=>by
  simp only[D.flat,List.mem_cons,List.mem_nil_iff,or_false] at hd
  rcases hd with rfl | rfl<;>rfl⟩)
theorem Gx:RT Tryz.prog 22 (List Body) (fun l=>[aC l]) (fun l=>l.length≤reachBytes∧ ∀v∈l,v.ok reachBytes) :=
 RT.slice (el:=Body.D) (s:=2) (by kernel_rfl) (by kernel_rfl) (by kernel_rfl) (by decide) (Nat.le_of_ble_eq_true (by kernel_rfl)) La (fun v=>rfl)
theorem Jl:RT Tryz.prog 41 a9 (fun j=>j.D.flat) (fun j=>j.nm.size≤big):=by
 have h:=RT.struct (P:=Tryz.prog) (t:=41) (m:=7) Tryz.underlying41 (by kernel_rfl) (k8.cons (by kernel_rfl) m8 (k8.cons (by kernel_rfl) s7 (k8.cons (by kernel_rfl) s7 (k8.cons (by kernel_rfl) s7 (k8.cons (by kernel_rfl) s7 (k8.cons (by kernel_rfl) s7 (k8.cons (by kernel_rfl) s7 k8.nil))))))) (fun v=>rfl)
 exact h.map (fun v=>⟨v.1,v.2.1,v.2.2.1,v.2.2.2.1,v.2.2.2.2.1,v.2.2.2.2.2.1,v.2.2.2.2.2.2.1⟩) (fun v h=>rfl) (fun v h=>Nat.le_trans h.1 (by decide)) (fun v=>⟨by kernel_rfl,fun d hd=>by
  simp only[D.flat,List.mem_cons,List.mem_nil_iff,or_false] at hd
  rcases hd with rfl | rfl | rfl | rfl | rfl | rfl | rfl<;>rfl⟩)
theorem Gv:RT Tryz.prog 23 (List a9) (fun l=>[aB l]) (fun l=>l.length≤reachBytes∧ ∀v∈l,v.nm.size≤big) :=
 RT.slice (el:=a9.D) (s:=7) (by kernel_rfl) (by kernel_rfl) (by kernel_rfl) (by decide) (Nat.le_of_ble_eq_true (by kernel_rfl)) Jl (fun v=>rfl)
theorem Gw:RT Tryz.prog 110 Driver (fun d=>d.D.flat) (fun d=>d.nm.size≤big):=by
 have h:=RT.struct (P:=Tryz.prog) (t:=110) (m:=2) Tryz.underlying110 (by kernel_rfl) (k8.cons (by kernel_rfl) m8 (k8.cons (by kernel_rfl) s7 k8.nil)) (fun v=>rfl)
 exact h.map (fun v=>⟨v.1,v.2.1⟩) (fun v h=>rfl) (fun v h=>Nat.le_trans h.1 (by decide)) (fun v=>⟨by kernel_rfl,fun d hd=>by
  simp only[D.flat,List.mem_cons,List.mem_nil_iff,or_false] at hd
  rcases hd with rfl | rfl<;>rfl⟩)
theorem Ft:RT Tryz.prog 24 (List Driver) (fun l=>[ay l]) (fun l=>l.length≤reachBytes∧ ∀v∈l,v.nm.size≤big) :=
 RT.slice (el:=Driver.D) (s:=2) (by kernel_rfl) (by kernel_rfl) (by kernel_rfl) (by decide) (Nat.le_of_ble_eq_true (by kernel_rfl)) Gw (fun v=>rfl)
theorem Lkg.ok.mono{l:Lkg}{k m:Nat}(h:l.ok k)(hk:k≤m):l.ok m :=
 ⟨h.nm,h.nb,h.nj,h.nd,fun i=>⟨(h.b i).1,(h.b i).2.1,fun j=>⟨((h.b i).2.2 j).1,((h.b i).2.2 j).2.1.mono hk,((h.b i).2.2 j).2.2.mono hk⟩⟩,h.j,h.d⟩
theorem Fs:RT Tryz.prog 26 Lkg (fun l=>l.D.flat) (fun l=>l.ok big):=by
 have h:=RT.struct (P:=Tryz.prog) (t:=26) (m:=4) Tryz.underlying26 (by kernel_rfl) (k8.cons (by kernel_rfl) m8 (k8.cons (by kernel_rfl) Gx (k8.cons (by kernel_rfl) Gv (k8.cons (by kernel_rfl) Ft k8.nil)))) (fun v=>rfl)
 exact h.map (fun v=>⟨v.1,v.2.1,v.2.2.1,v.2.2.2.1⟩) (fun v h=>rfl) (fun v h=>Lkg.ok.mono (k:=reachBytes) ⟨Nat.le_trans h.1 (by decide),Nat.le_trans h.2.1.1 (by decide),Nat.le_trans h.2.2.1.1 (by decide),Nat.le_trans h.2.2.2.1.1 (by decide),
  k6 h.2.1.2 (IH _),k6 (p:=fun j:a9=>j.nm.size≤big) h.2.2.1.2 (by decide),k6 (p:=fun d:Driver=>d.nm.size≤big) h.2.2.2.1.2 (by decide)⟩ (by decide)) (fun v=>⟨by kernel_rfl,fun d hd=>by
  simp only[D.flat,List.mem_cons,List.mem_nil_iff,or_false] at hd
  rcases hd with rfl | rfl | rfl | rfl<;>rfl⟩)
end Lift
namespace Go.Proofs.YtebpenldlefgjaaGreat
open Lift Go
theorem Tryz.own:ownKnob Tryz.prog.godebug=none:=by kernel_rfl
theorem Tryz.laidOut:laidOutB Tryz.prog=true:=by kernel_rfl
theorem a_linkage:RA Tryz.prog 26 Lkg (fun l=>l.D) (fun l=>l.ok big):=RA.agg Tryz.underlying26 Fs
end Go.Proofs.YtebpenldlefgjaaGreat
namespace Lift
open Go Go.Proofs
end Lift
namespace Lift
open Go Go.Proofs
theorem wK(a b:Rat)(h:b≠0):Rat.divInt (a.num*(b.den:Int)) ((a.den:Int)*b.num)=a / b:=by
 have h1:((a.den:Int):Rat)≠0:=by have:=a.den_nz;exact_mod_cast this
 have h2:((b.den:Int):Rat)≠0:=by have:=b.den_nz;exact_mod_cast this
 have h3:b.num≠0:=fun e=>h (Rat.num_eq_zero.1 e);have h4:(b.num:Rat)≠0:=by exact_mod_cast h3
 have ha:(a.num:Rat) / ((a.den:Int):Rat)=a:=by rw[← Rat.divInt_eq_div];exact Rat.num_divInt_den a
 have hb:(b.num:Rat) / ((b.den:Int):Rat)=b:=by rw[← Rat.divInt_eq_div];exact Rat.num_divInt_den b
 rw[Rat.divInt_eq_div,Rat.intCast_mul,Rat.intCast_mul];generalize (a.num:Rat)=x at *;generalize ((a.den:Int):Rat)=y at *;generalize (b.num:Rat)=z at *;generalize ((b.den:Int):Rat)=u at *;subst ha;subst hb
 grind
theorem G4{z:Int}(h:z≠0):(jJ z==0)=false:=by
 unfold jJ;rcases Int.lt_trichotomy z 0 with g | g | g
 · simp[g]
 · exact absurd g h
 · have: ¬z<0:=by omega
   simp[this,h]
theorem Dg{q:Rat}(h:q≠0):q.num≠0:=fun e=>h (Rat.num_eq_zero.1 e)
theorem L4{r s:Rat}{k:Nat}(h1:LQ r≤k)(h2:LQ s≤k)(h0:s≠0):L (r.num*(s.den:Int))≤2*k∧L ((r.den:Int)*s.num)≤2*k∧(r.den:Int)*s.num≠0:=by
 have:=j8 r;have:=kL r;have:=j8 s;have:=kL s;have:=fY r.num s.den;have:=fY r.den s.num;exact⟨by omega,by omega,Int.mul_ne_zero (sU r) (Dg h0)⟩
theorem Mp{r s:Rat}(h0:s≠0):LQ (r / s)≤LQ r+LQ s:=by
 have:=j8 r;have:=kL r;have:=j8 s;have:=kL s;have:=fY r.num s.den;have:=fY r.den s.num;have:=l0 (r.num*(s.den:Int)) ((r.den:Int)*s.num) (Int.mul_ne_zero (sU r) (Dg h0));rw[wK r s h0] at this;omega
theorem iC(n:Int)(h0: -9223372036854775808≤n)(h1:n≤9223372036854775807):Pure Tryz.prog 107 [dI n] (Qr n).D:=by
 refine qJ 7 Tryz.func107 rfl rfl rfl rfl (by kernel_rfl) (fun B F0 w0=>?_);have hn:=NA n (by omega);rw[← sh];refine qX 1 rfl (qK 1 rfl (qM rfl (pe n h0 h1) ?_));refine qM rfl jQ ?_;refine qM rfl (eK n 1 (by omega) (by rw[xb];omega) (by decide)) ?_;exact qU 1 rfl (qN rfl)
theorem lT(r:RD){k:Nat}(hr:r.w k)(hk:k≤17300000000000):Pure Tryz.prog 86 [r.D] (dI (jJ r.val.num)):=by
 refine qJ 12 Tryz.func86 rfl rfl rfl rfl (by kernel_rfl) (fun B F0 w0=>?_);have hl:=cF (hr.mono (Nat.le_max_left k 1)) (Nat.le_max_right k 1);have:=j8 r.val;refine qX 2 rfl (qK 1 rfl (qM rfl (bk r hr (by omega)) ?_));refine qU 7 rfl (qK 1 rfl (qM rfl (da r.val.num (by omega)) ?_));exact qU 1 rfl (qN rfl)
theorem sP(n d:Int)(hn:L n≤34800000000000)(hd:L d≤34800000000000)(h0:d≠0):Pure Tryz.prog 214 [fa n,fa d] (.tu [(Qr (Rat.divInt n d)).D,aQ]):=by
 refine qJ 14 Tryz.func214 rfl rfl rfl rfl (by kernel_rfl) (fun B F0 w0=>?_);refine qX 4 rfl (qI (qX 1 rfl (qM rfl (da d (by omega)) ?_)));refine qU 1 rfl ?_;rw[G4 h0];refine ae.nil (AW.aH rfl ?_)
 · skip
   refine AW.skip (qX 2 rfl (qM rfl (eK n d hn hd h0) ?_));exact qU 2 rfl (qN rfl)
theorem uk(r s:RD){k:Nat}(hr:r.w k)(hs:s.w k)(hk:k≤17300000000000)(h0:s.val≠0):Pure Tryz.prog 198 [r.D,s.D] (.tu [(Qr (r.val / s.val)).D,aQ]):=by
 refine qJ 29 Tryz.func198 rfl rfl rfl rfl (by kernel_rfl) (fun B F0 w0=>?_);have hl:=cF (hr.mono (Nat.le_max_left k 1)) (Nat.le_max_right k 1);have hm:=cF (hs.mono (Nat.le_max_left k 1)) (Nat.le_max_right k 1);have:=j8 r.val;have:=kL r.val;have:=j8 s.val;have:=kL s.val;obtain ⟨d1,d2,d3⟩:=L4 hl hm h0;rw[← wK r.val s.val h0];refine qX 4 rfl (qK 1 rfl (qM rfl (bk r hr (by omega)) ?_));refine qU 7 rfl (qK 1 rfl (qM rfl (bk s hs (by omega)) ?_));refine qU 7 rfl (qI (AW.draw aS 9 (by kernel_rfl) ?_));refine qP 2 rfl (qQ rfl (b7 r.val.num s.val.den (by omega) (by omega)) ?_);refine qP 2 rfl (qQ rfl (b7 r.val.den s.val.num (by omega) (by omega)) ?_);refine qQ rfl (sP (r.val.num*s.val.den) (r.val.den*s.val.num) (by omega) (by omega) d3) ?_;exact qP 2 rfl (ah.nil (qU 2 rfl (qN rfl)))
end Lift
namespace Lift
open Go Go.Proofs
theorem RD.canon{r:RD}{k:Nat}(hw:r.w k)(h:r.okB=true):r=Qr r.val:=by
 by_cases hn:r.n=[]
 · have hv:=RD.oe hn;rw[hv,jl];obtain ⟨g,m,d⟩:=r
   dsimp only at hn
   subst hn;unfold RD.okB at h;simp only[true_and] at h;split at h
   · rename_i hd;subst hd;simpa using h
   · simp at h
 · obtain ⟨h1,h2,h3,h4,h5,h6⟩:=RD.parts hw h hn;obtain ⟨g,m,d⟩:=r
   dsimp only at h3 h4 h5 hn
   unfold Qr;rw[if_neg h6,← h4,← h5,← h3]
theorem NT{q:Rat}:jJ q.num=0↔q=0:=by
 constructor
 · intro h;by_cases hq:q=0
   · exact hq
   · have:=G4 (Dg hq);rw[h] at this;cases this
 · intro h;subst h;rfl
abbrev fv(r:List Rat):List D:=r.map (fun q=>(Qr q).D)
theorem mV{r:List Rat}{i:Nat}(h:i<r.length):(fv r)[i]?=some (Qr (r.getD i 0)).D:=by simp[h]
section
variable {P:Program} {T:Ty} {B:Nat} {F0:Nat→Prop} {w0:cX} {n:Nat} {σ τ:St} {K:St→Prop} {all:Array Oper} {o:Oper} {d:Nat} {rest:List Oper}
theorem ae.CU(hT:bD P T){k e i:Nat}{r:List Rat}(q:Rat)(hd:o.dst=none)(hg:aG all σ o=true)(hx:Ep T σ o.op=some (k,.ow e (fv r),fv r,i,0,(Qr q).D))(hi:i<r.length)
  (h:ae P B F0 w0 n all rest K ((k,.ow e (fv (r.set i q)))::σ)):ae P B F0 w0 n all (o::rest) K σ:=by
 refine ae.kQ hT (Qr (r.getD i 0)).D hd hg hx (mV hi) rfl ?_;show ae P B F0 w0 n all rest K ((k,.ow e ((fv r).set i (Qr q).D))::σ);rw[show (fv r).set i (Qr q).D=fv (r.set i q) from (List.map_set ..).symm];exact h
end
end Lift
namespace Lift
abbrev V2:=Rat×Rat
def jr(x:Rat):Int:=if x=0 then 0 else if x<0 then -1 else 1
theorem qt{x:Rat}:0<jr x↔0<x:=by
 unfold jr;split
 · rename_i h;subst h;constructor<;>intro h<;>grind
 · split<;>constructor<;>intro h<;>grind
theorem zg{x:Rat}:jr x<0↔x<0:=by
 unfold jr;split
 · rename_i h;subst h;constructor<;>intro h<;>grind
 · split<;>constructor<;>intro h<;>grind
theorem db{x:Rat}:jr x=0↔x=0:=by
 unfold jr;split
 · rename_i h;exact⟨fun _=>h,fun _=>rfl⟩
 · rename_i h0;split
   · exact⟨fun h=>absurd h (by decide),fun h=>absurd h h0⟩
   · exact⟨fun h=>absurd h (by decide),fun h=>absurd h h0⟩
theorem gQ(x:Rat):jr x=0∨jr x=1∨jr x= -1:=by
 unfold jr;split
 · exact .inl rfl
 · split
   · exact .inr (.inr rfl)
   · exact .inr (.inl rfl)
theorem pD(x:Rat):jr (-x)= -jr x:=by
 unfold jr;by_cases h:x=0
 · subst h;rfl
 · rw[if_neg (by grind),if_neg h];by_cases h2:x<0
   · rw[if_pos h2,if_neg (by grind)];rfl
   · rw[if_neg h2,if_pos (by grind)]
end Lift
namespace Lift
abbrev NQ:=List Rat
def aE(k:Nat)(a:NQ):Prop:= ∀c,LQ (a.getD c 0)≤k
def dt(k:Nat)(rt:List NQ):Prop:= ∀i,aE k (rt.getD i [])
def bG(a:NQ):Bool:=a.all (fun q=>decide (q=0))
def bo(a:NQ)(n:Nat):NQ:=a.take n++List.replicate (n-a.length) 0
def aX(a b:NQ):NQ:=(List.range (max a.length b.length)).map fun i=>a.getD i 0+b.getD i 0
def aZ(a:NQ):NQ:=a.map (fun q=> -q)
def dR(a b:NQ)(n:Nat):NQ:=bo a n++bo b n
def jN(R:NQ→NQ→NQ)(rt:List NQ)(a b:NQ):NQ :=
 if (bG a||bG b)=true then [] else if a.length=1 then [a.getD 0 0*b.getD 0 0] else
 if b.length≤a.length / 2 then dR (R (a.take (a.length / 2)) b) (R (a.drop (a.length / 2)) b) (a.length / 2) else
 dR (aX (R (a.take (a.length / 2)) (b.take (a.length / 2))) (R (R (a.drop (a.length / 2)) (b.drop (a.length / 2))) (rt.getD (a.length.log2-1) [])))
  (aX (R (a.take (a.length / 2)) (b.drop (a.length / 2))) (R (a.drop (a.length / 2)) (b.take (a.length / 2)))) (a.length / 2)
def kG(R:NQ→NQ→NQ)(a b:NQ):NQ:=if a.length<b.length then R b a else R a b
def aV:Nat→List NQ→NQ→NQ→NQ
 | 0,rt,a,b=>kG (jN (fun _ _=>[]) rt) a b
 | l+1,rt,a,b=>kG (jN (aV l rt) rt) a b
def aA(l:Nat)(a:NQ):Prop:=a.length=0∨ ∃i,i≤l∧a.length=2^i
def cP(rt:List NQ):Prop:= ∀j,j<rt.length→(rt.getD j []).length=2^j
def sT:Nat→Nat→Nat
 | 0,k=>2*k
 | l+1,k=>sT l (sT l k)+sT l k+1
theorem uz: ∀{l k m:Nat},k≤m→sT l k≤sT l m
 | 0,k,m,h=>by show 2*k≤2*m;omega
 | l+1,k,m,h=>by
   have h1:=uz (l:=l) h;have h2:=uz (l:=l) h1;show sT l (sT l k)+sT l k+1≤sT l (sT l m)+sT l m+1;omega
theorem cD: ∀(l k:Nat),2*k≤sT l k
 | 0,k=>ai _
 | l+1,k=>by
   have h1:=cD l k;show 2*k≤sT l (sT l k)+sT l k+1;omega
theorem aE.mono{k m:Nat}{a:NQ}(h:aE k a)(hk:k≤m):aE m a:=fun c=>Nat.le_trans (h c) hk
theorem dt.mono{k m:Nat}{a:List NQ}(h:dt k a)(hk:k≤m):dt m a:=fun i=>(h i).mono hk
theorem aE.pos{k:Nat}{a:NQ}(h:aE k a):1≤k:=Nat.le_trans (AH _) (h 0)
theorem oc{k:Nat}(h:1≤k):LQ 0≤k:=by rw[jm];exact h
theorem gu{a:NQ}{c:Nat}(h:a.length≤c):a.getD c 0=0:=by rw[aK,List.getElem?_eq_none h];rfl
theorem cL{k:Nat}(h:1≤k):aE k []:=fun c=>by rw[gu (Nat.zero_le _)];exact oc h
theorem mA(a:NQ)(n c:Nat):(a.take n).getD c 0=if c<n then a.getD c 0 else 0:=by
 rw[aK,List.getElem?_take];split
 · rw[aK]
 · rfl
theorem uL(a:NQ)(n c:Nat):(a.drop n).getD c 0=a.getD (n+c) 0:=by
 rw[aK,List.getElem?_drop,aK]
theorem aE.take{k:Nat}{a:NQ}(h:aE k a)(n:Nat):aE k (a.take n):=fun c=>by
 rw[mA];split
 · exact h c
 · exact oc h.pos
theorem aE.drop{k:Nat}{a:NQ}(h:aE k a)(n:Nat):aE k (a.drop n):=fun c=>by rw[uL];exact h _
theorem yI(a b:NQ)(c:Nat):(a++b).getD c 0=if c<a.length then a.getD c 0 else b.getD (c-a.length) 0:=by
 rw[aK,List.getElem?_append];split<;>rw[aK]
theorem bK(a:NQ)(n:Nat):(bo a n).length=n:=by
 unfold bo;rw[List.length_append,bb,List.length_replicate];omega
theorem gK(a:NQ)(n c:Nat):(bo a n).getD c 0=if c<n then a.getD c 0 else 0:=by
 unfold bo;rw[yI,bb,mA];by_cases h:c<min n a.length
 · rw[if_pos h,if_pos (by omega)]
 · rw[if_neg h]
   have e:(List.replicate (n-a.length) (0:Rat)).getD (c-min n a.length) 0=0:=by
    rw[aK,List.getElem?_replicate];split<;>rfl
   rw[e];by_cases h2:c<n
   · rw[if_pos h2,gu (by omega)]
   · rw[if_neg h2]
theorem aE.wide{k:Nat}{a:NQ}(h:aE k a)(n:Nat):aE k (bo a n):=fun c=>by
 rw[gK];split
 · exact h c
 · exact oc h.pos
theorem kf(a b:NQ):(aX a b).length=max a.length b.length:=by unfold aX;rw[af,List.length_range]
theorem oD(a b:NQ)(c:Nat):(aX a b).getD c 0=a.getD c 0+b.getD c 0:=by
 by_cases h:c<max a.length b.length
 · unfold aX;rw[aK,List.getElem?_map,List.getElem?_range h];rfl
 · rw[gu (by rw[kf];omega),gu (a:=a) (by omega),gu (a:=b) (by omega),Rat.add_zero]
theorem aE.plus{k m:Nat}{a b:NQ}(h:aE k a)(h2:aE m b):aE (k+m+1) (aX a b):=fun c=>by
 rw[oD];have:=xc (a.getD c 0) (b.getD c 0);have:=h c;have:=h2 c;omega
theorem gy(a:NQ):(aZ a).length=a.length:=af ..
theorem pV(a:NQ)(c:Nat):(aZ a).getD c 0= -a.getD c 0:=by
 unfold aZ;rw[aK,List.getElem?_map,aK];cases a[c]? with
 | none=>rfl
 | some q=>rfl
theorem aE.minus{k:Nat}{a:NQ}(h:aE k a):aE k (aZ a):=fun c=>by rw[pV,AI];exact h c
theorem dL(a b:NQ)(n:Nat):(dR a b n).length=n+n:=by unfold dR;rw[List.length_append,bK,bK]
theorem oF(a b:NQ)(n c:Nat):(dR a b n).getD c 0=if c<n then a.getD c 0 else if c<n+n then b.getD (c-n) 0 else 0:=by
 unfold dR;rw[yI,bK,gK,gK];by_cases h:c<n
 · rw[if_pos h,if_pos h,if_pos h]
 · rw[if_neg h,if_neg h];by_cases h2:c<n+n
   · rw[if_pos h2,if_pos (by omega)]
   · rw[if_neg h2,if_neg (by omega)]
theorem aE.join{k:Nat}{a b:NQ}(h:aE k a)(h2:aE k b)(n:Nat):aE k (dR a b n):=fun c=>by
 rw[oF];split
 · exact h c
 · split
   · exact h2 _
   · exact oc h.pos
theorem gg{k:Nat}{q:Rat}(h:LQ q≤k):aE k [q]:=fun c=>by
 have:=AH q;cases c with
 | zero=>exact h
 | succ c=>rw[gu (by simp)];exact oc (by omega)
theorem kc{a:NQ}(h:bG a=false):a≠[]:=by
 intro e;subst e;cases h
theorem aA.mono{l m:Nat}{a:NQ}(h:aA l a)(hl:l≤m):aA m a:=h.imp id (fun ⟨i,h1,h2⟩=>⟨i,by omega,h2⟩)
theorem cg(l:Nat):aA l []:= .inl rfl
theorem fb(l:Nat)(q:Rat):aA l [q]:= .inr ⟨0,Nat.zero_le _,rfl⟩
theorem aA.le{l:Nat}{a:NQ}(h:aA l a):a.length≤2^l:=by
 rcases h with h | ⟨i,h1,h2⟩
 · rw[h];exact Nat.zero_le _
 · rw[h2];exact Nat.pow_le_pow_right (by decide) h1
theorem aA.plus{l:Nat}{a b:NQ}(h:aA l a)(h2:aA l b):aA l (aX a b):=by
 unfold aA;rw[kf];by_cases e:a.length≤b.length
 · rw[Nat.max_eq_right e];exact h2
 · rw[Nat.max_eq_left (by omega)];exact h
theorem aA.minus{l:Nat}{a:NQ}(h:aA l a):aA l (aZ a):=by unfold aA;rw[gy];exact h
theorem lM(i:Nat):2^(i+1) / 2=2^i:=by rw[Nat.pow_succ];omega
theorem bF{a:NQ}{i:Nat}(h:a.length=2^(i+1)):(a.take (a.length / 2)).length=2^i∧(a.drop (a.length / 2)).length=2^i∧a.length / 2=2^i:=by
 have e:=lM i;have e2:2^(i+1)=2^i*2:=Nat.pow_succ ..;rw[bb,List.length_drop,h,e];omega
theorem uI{l k:Nat}{R:NQ→NQ→NQ}{rt:List NQ}{a b:NQ}(ha:aA l a)(hb:aA l b)(hab:b.length≤a.length)(hrt:cP rt)(hl:l≤rt.length)(sa:aE k a)(sb:aE k b)(sr:dt k rt)
  (hR: ∀l',l=l'+1→ ∀a' b' m,k≤m→aA l' a'→aA l' b'→aE m a'→aE m b'→aA l' (R a' b')∧aE (sT l' m) (R a' b')):aA l (jN R rt a b)∧aE (sT l k) (jN R rt a b):=by
 have hk:=sa.pos;have h2:=cD l k;unfold jN;by_cases h0:(bG a||bG b)=true
 · rw[if_pos h0];exact⟨cg _,cL (by omega)⟩
 rw[if_neg h0];by_cases h1:a.length=1
 · rw[if_pos h1];refine⟨fb _ _,gg ?_⟩;have:=s4 (a.getD 0 0) (b.getD 0 0);have:=sa 0;have:=sb 0;omega
 rw[if_neg h1];have hz:=fun z:bG a=true=>h0 (by rw[z];rfl);have hz2:=fun z:bG b=true=>h0 (by rw[z,Bool.or_true])
 obtain ⟨i,hi,hla⟩: ∃i,i≤l∧a.length=2^i:=by
  rcases ha with e | e
  · exact absurd (by rw[List.length_eq_zero_iff.1 e];rfl) hz
  · exact e
 have wm:i≠0:=fun e=>h1 (by rw[hla,e]);obtain ⟨j,rfl⟩: ∃j,i=j+1:=⟨i-1,by omega⟩;obtain ⟨l',rfl⟩: ∃l',l=l'+1:=⟨l-1,by omega⟩;have hj:j≤l':=by omega
 have hR:=fun a' b' m h1 h2 h3 h4 h5=>hR l' rfl a' b' m h1 h2 h3 h4 h5;obtain ⟨e1,e2,e3⟩:=bF hla;have hx:aA l' (a.take (a.length / 2)):= .inr ⟨j,hj,e1⟩;have hy:aA l' (a.drop (a.length / 2)):= .inr ⟨j,hj,e2⟩;have hJ: ∀c d,aA (l'+1) (dR c d (a.length / 2)):=fun c d=> .inr ⟨j+1,by omega,by rw[dL,e3,Nat.pow_succ];omega⟩;have hs0:=cD l' k;have hs1:=cD l' (sT l' k);by_cases h3:b.length≤a.length / 2
 · rw[if_pos h3]
   have hb':aA l' b:=by
    rcases hb with e | ⟨i',_,e⟩
    · exact .inl e
    · refine .inr ⟨i',?_,e⟩;rw[e3,e] at h3;have:=(Nat.pow_le_pow_iff_right (a:=2) (by decide)).1 h3;omega
   have r1:=hR _ _ k (ai _) hx hb' (sa.take _) sb;have r2:=hR _ _ k (ai _) hy hb' (sa.drop _) sb;refine⟨hJ _ _,(r1.2.join r2.2 _).mono ?_⟩;show _≤sT l' (sT l' k)+sT l' k+1;omega
 rw[if_neg h3]
 have hlb:b.length=2^(j+1):=by
  rcases hb with e | ⟨i',_,e⟩
  · exact absurd (by rw[List.length_eq_zero_iff.1 e];rfl) hz2
  · rw[e] at h3 hab ⊢;rw[hla] at hab;rw[e3] at h3;have h4:=(Nat.pow_le_pow_iff_right (a:=2) (by decide)).1 hab;have h5: ¬i'≤j:=fun h=>h3 ((Nat.pow_le_pow_iff_right (a:=2) (by decide)).2 h);rw[show i'=j+1 by omega]
 obtain ⟨f1,f2,f3⟩:=bF hlb;rw[show b.length / 2=a.length / 2 by rw[f3,e3]] at f1 f2;have hu:aA l' (b.take (a.length / 2)):= .inr ⟨j,hj,f1⟩;have hv:aA l' (b.drop (a.length / 2)):= .inr ⟨j,hj,f2⟩;have r1:=hR _ _ k (ai _) hx hu (sa.take _) (sb.take _);have r2:=hR _ _ k (ai _) hy hv (sa.drop _) (sb.drop _);have r3:=hR _ _ k (ai _) hx hv (sa.take _) (sb.drop _);have r4:=hR _ _ k (ai _) hy hu (sa.drop _) (sb.take _);have hlog:a.length.log2-1=j:=by rw[hla,Nat.log2_two_pow];omega
 have hd:aA l' (rt.getD (a.length.log2-1) []):= .inr ⟨j,hj,by rw[hlog];exact hrt j (by omega)⟩;have r5:=hR _ _ (sT l' k) (by omega) r2.1 hd r2.2 ((sr _).mono (by omega));refine⟨hJ _ _,(((r1.2.plus r5.2).mono ?_).join ((r3.2.plus r4.2).mono ?_) _)⟩
 · show _≤sT l' (sT l' k)+sT l' k+1;omega
 · show _≤sT l' (sT l' k)+sT l' k+1;omega
theorem dw: ∀(l:Nat) {k:Nat} {rt:List NQ} {a b:NQ},aA l a→aA l b→cP rt→l≤rt.length→aE k a→aE k b→dt k rt→aA l (aV l rt a b)∧aE (sT l k) (aV l rt a b)
 | 0,k,rt,a,b,ha,hb,hrt,hl,sa,sb,sr=>by
   show aA 0 (kG (jN _ rt) a b)∧aE (sT 0 k) (kG (jN _ rt) a b);unfold kG;split
   · exact uI hb ha (by omega) hrt hl sb sa sr (fun l' h=>by omega)
   · exact uI ha hb (by omega) hrt hl sa sb sr (fun l' h=>by omega)
 | l+1,k,rt,a,b,ha,hb,hrt,hl,sa,sb,sr=>by
   show aA (l+1) (kG (jN (aV l rt) rt) a b)∧aE (sT (l+1) k) (kG (jN (aV l rt) rt) a b);unfold kG
   have ih: ∀l',l+1=l'+1→ ∀a' b' m,k≤m→aA l' a'→aA l' b'→aE m a'→aE m b'→aA l' (aV l rt a' b')∧aE (sT l' m) (aV l rt a' b'):=fun l' e a' b' m hm h1 h2 h3 h4=>by
    obtain rfl:l=l':=by omega
    exact dw l h1 h2 hrt (by omega) h3 h4 (sr.mono hm)
   split
   · exact uI hb ha (by omega) hrt hl sb sa sr ih
   · exact uI ha hb (by omega) hrt hl sa sb sr ih
theorem Ec(a:NQ): ∃K,aE K a:=by
 induction a with
 | nil=>exact⟨1,cL (ai _)⟩
 | cons x r ih =>
   obtain ⟨K,hK⟩:=ih;refine⟨max K (LQ x),fun c=>?_⟩;cases c with
   | zero=>exact Nat.le_max_right _ _
   | succ c=>exact Nat.le_trans (hK c) (Nat.le_max_left _ _)
theorem Lc(rt:List NQ): ∃K,dt K rt:=by
 induction rt with
 | nil=>exact⟨1,fun i=>cL (ai _)⟩
 | cons x r ih =>
   obtain ⟨K,hK⟩:=ih;obtain ⟨M,hM⟩:=Ec x;refine⟨max K M,fun i=>?_⟩;cases i with
   | zero=>exact hM.mono (Nat.le_max_right _ _)
   | succ i=>exact(hK i).mono (Nat.le_max_left _ _)
theorem x5(a b:NQ)(rt:List NQ): ∃K,aE K a∧aE K b∧dt K rt:=by
 obtain ⟨k1,h1⟩:=Ec a;obtain ⟨k2,h2⟩:=Ec b;obtain ⟨k3,h3⟩:=Lc rt;exact⟨max k1 (max k2 k3),h1.mono (by omega),h2.mono (by omega),h3.mono (by omega)⟩
end Lift
namespace Lift
open Go
open Go.RowKit (Below)
abbrev LR:=Value×AV
section
variable {P:Program} {T:Ty} {B:Nat} {F0:Nat→Prop} {w0:cX} {n:Nat} {σ σ':St} {R R':List LR} {a:Act} {w:World}
def mG(P:Program)(w:World)(O:Nat→Option Nat)(F:Nat→Prop)(t:Nat)(r:LR):Prop :=
 r.2= .junk∨r.2.row.isSome=true∧r.2.tag=false∧eQ P (fun _=>False) w O F (fun _=>none) (fun _=>none) t r.2 r.1
structure cH (P:Program) (B:Nat) (F0:Nat→Prop) (w0:cX) (n:Nat) (R:List LR) (σ:St) (a:Act) (w:World):Prop where
 below:iI B w0 w0.w w
 base:B≤w.heap.size
 f0:D8 B F0 w0
 defers:a.defers=[]
 size:a.tmps.size=n
 own: ∃O:Nat→Option Nat,(∀b t,O b=some t→j7 B w0 w b)∧(∀t av,σ.get t=some av→ ∃v,a.tmps[t]?=some v∧eQ P w0.X w O (FW B F0 w) σ.get (fun h=>a.tmps[h]?) t av v) ∧
  ∀i r,R[i]?=some r→mG P w O (FW B F0 w) (n+i) r
theorem cH.rel(h:cH P B F0 w0 n R σ a w):Rel P B F0 w0 n σ a w:=by
 obtain ⟨O,h1,h2,_⟩:=h.own;exact⟨h.below,h.base,h.f0,h.defers,h.size,O,h1,h2⟩
theorem Rel.z(h:Rel P B F0 w0 n σ a w):cH P B F0 w0 n [] σ a w:=by
 obtain ⟨O,h1,h2⟩:=h.own;exact⟨h.below,h.base,h.f0,h.defers,h.size,O,h1,h2,fun i r hr=>by simp at hr⟩
theorem eQ.reX{X X':Nat→Prop}{O:Nat→Option Nat}{F:Nat→Prop}{hm:Nat→Option AV}{tm:Nat→Option Value}{t:Nat}{av:AV}{v:Value}(h:eQ P X w O F hm tm t av v)
  (hx:av.tag=true→ ∀b,O b=some t→X' b):eQ P X' w O F hm tm t av v:=by
 cases av with
 | wn q e l lo m =>
   rcases h with h | ⟨b,o,cap,cs,hq,h1,h0,h2,h3⟩
   · exact .inl h
   · exact .inr ⟨b,o,cap,cs,fun e=>hx e b h2,h1,h0,h2,h3⟩
 | _=>exact h
theorem eQ.owner{X X':Nat→Prop}{O O':Nat→Option Nat}{F F':Nat→Prop}{hm hm':Nat→Option AV}{tm tm':Nat→Option Value}{s t:Nat}{av:AV}{v:Value}(h:eQ P X w O F hm tm s av v)(hrow:av.row.isSome=true)(htag:av.tag=false)
  (hO: ∀c,O c=some s→O' c=some t) (hF: ∀c,aP O F c→aP O' F' c):eQ P X' w O' F' hm' tm' t av v:=by
 cases av<;>simp[AV.row] at hrow
 · rcases h with h | ⟨b,cap,cs,h1,h2,h3,h4,h5,h6,h7,h8⟩
   · exact .inl h
   · exact .inr ⟨b,cap,cs,h1,hO b h2,h3,h4,h5,h6,h7,fun i d hd=>⟨(h8 i d hd).1,let ⟨u,hu,hr⟩:=(h8 i d hd).2;⟨u,hu,hr.mono hF (fun _ _=>rfl)⟩⟩⟩
 · simp only[AV.tag] at htag;subst htag;rcases h with h | ⟨b,o,cap,cs,_,h1,h0,h2,h3,h4,h5,h6,h7,h8⟩
   · exact .inl h
   · exact .inr ⟨b,o,cap,cs,(fun e=>by cases e),h1,h0,hO b h2,h3,h4,h5,h6,h7,fun i d hd=>⟨(h8 i d hd).1,let ⟨u,hu,hr⟩:=(h8 i d hd).2;⟨u,hu,hr.mono hF (fun _ _=>rfl)⟩⟩⟩
def St.gk:St→Bool
 | []=>true
 | (_,a)::r=>match a.tag with
   | true=>false
   | false=>St.gk r
theorem St.yD: ∀{σ:St},σ.gk=true→ ∀(t:Nat) (av:AV),σ.get t=some av→av.tag=false
 | [],_,t,av,h=>by cases h
 | (k,a)::r,hn,t,av,h=>by
   rw[St.aM] at h;simp only[St.gk] at hn;split at hn
   · cases hn
   · rename_i ha;split at h
     · cases h;exact ha
     · exact St.yD hn t av h
def Seen(P:Program)(B:Nat)(F0:Nat→Prop)(w0:cX)(V:Value)(e:Nat)(xs:List D):Prop :=
 ∃b cap cs,V= .slice (some ⟨b,0,none⟩) xs.length cap∧b<B∧ ¬w0.X b∧w0.w.heap[b]?=some (.cells cs e (0,0))∧(∀x,x∈xs→x.flat.length=P.cellsOf e) ∧
  ∀(i:Nat) (d:D),(flatAll xs)[i]?=some d→d.bc=true∧ ∃u,cs[i]?=some u∧ ∀(w:World) (O:Nat→Option Nat),iI B w0 w0.w w→(∀b t,O b=some t→j7 B w0 w b)→Rd w (aP O (FW B F0 w)) d u
theorem cH.Jq(hR:cH P B F0 w0 n R σ a w): ∃B1 F1 w1,Rel P B1 F1 w1 n σ a w∧(∀(i:Nat) (V:Value) (e:Nat) (xs:List D),R[i]?=some (V,.ow e xs)→xs≠[]→Seen P B1 F1 w1 V e xs)∧ ∀σ' a' w',σ'.gk=true→Rel P B1 F1 w1 n σ' a' w'→cH P B F0 w0 n R σ' a' w':=by
 obtain ⟨O,hOr,hO,hL⟩:=hR.own
 let X1:Nat→Prop:=fun b=> ∃t,t<n∧O b=some t
 let F1:Nat→Prop:=fun b=>FW B F0 w b∧ ∀t,O b=some t→t<n
 let O1:Nat→Option Nat:=fun b=>match O b with
  | some t=>if t<n then some t else none
  | none=>none
 have hO1: ∀b t,O1 b=some t↔O b=some t∧t<n:=fun b t=>by
  simp only[O1];split
  · rename_i t' ht';rw[ht'];split
    · rename_i hlt;constructor
      · intro h;cases h;exact⟨rfl,hlt⟩
      · intro h;exact h.1
    · rename_i hlt;constructor
      · intro h;cases h
      · intro h;obtain ⟨h,h'⟩:=h;cases h;exact absurd h' hlt
  · rename_i ht';rw[ht'];simp
 have hO1z: ∀b,O b=none→O1 b=none:=fun b hb=>by simp only[O1,hb]
 have hlt: ∀t av,σ.get t=some av→t<n:=fun t av h=>by
  obtain ⟨v,hv,_⟩:=hO t av h;rw[← hR.size];exact(Array.getElem?_eq_some_iff.1 hv).1
 have hFlt: ∀b,FW B F0 w b→b<w.heap.size:=fun b hb=>(FW.step hR.f0 hR.base (ai _) b hb).1;have hFree: ∀c,aP O (FW B F0 w) c→aP O1 (FW w.heap.size F1 w) c:=fun c hc=>⟨hO1z c hc.1,.inl ⟨hc.2,fun t ht=>by rw[hc.1] at ht;cases ht⟩⟩;refine⟨w.heap.size,F1,⟨w,X1⟩,⟨.refl _ _ _,ai _,⟨fun b hb=>hFlt b hb.1,fun b hb=>?_⟩,hR.defers,hR.size,O1,fun b t hb=>?_,fun t av hav=>?_⟩,fun i V e xs hi hne=>?_,?_⟩
 · obtain ⟨t,h1,h2⟩:=hb;exact⟨(hOr b t h2).fw hR.f0,fun t' h'=>by rw[h2] at h';cases h';exact h1⟩
 · have:=(hO1 b t).1 hb;exact⟨.inr ⟨t,this.2,this.1⟩,(hOr b t this.1).2⟩
 · obtain ⟨v,hv,hr⟩:=hO t av hav;refine⟨v,hv,eQ.reX (hr.move (fun c hc=>⟨hFree c hc,rfl⟩) (fun _ c hc=>⟨(hO1 c t).2 ⟨hc,hlt t av hav⟩,rfl⟩) (fun k _ x _ hk=>⟨hk,rfl⟩)) (fun _ b hb=>?_)⟩;have:=(hO1 b t).1 hb;exact⟨t,this.2,this.1⟩
 · rcases hL i _ hi with h | ⟨_,_,h⟩
   · cases h
   · rcases h with ⟨base,_,h4⟩ | ⟨b,cap,cs,h3,h4,h5,h6,h7,h8,h9,h10⟩
     · exact absurd h4 hne
     refine⟨b,cap,cs,h3,(hOr b _ h4).2,fun ⟨t,g1,g2⟩=>by rw[h4] at g2;cases g2;omega,h5,h9,fun j d hd=>?_⟩;obtain ⟨f1,u,f2,f3⟩:=h10 j d hd;refine⟨f1,u,f2,fun w' O' hb' hO'=>f3.mono (fun c hc=>?_) (fun c hc=>hb'.block c (hFlt c hc.2) (fun ⟨t,_,g⟩=>by rw[hc.1] at g;cases g))⟩;refine⟨?_,.inl ⟨hc.2,fun t ht=>by rw[hc.1] at ht;cases ht⟩⟩;cases hx:O' c with
     | none=>rfl
     | some t =>
       exfalso;rcases (hO' c t hx).1 with g | ⟨s,_,g⟩
       · have:=hFlt c hc.2;have g:w.heap.size≤c:=g;omega
       · rw[hc.1] at g;cases g
 · intro σ' a' w' htag h2;have htag:=St.yD htag;obtain ⟨O2,hOr2,hO2⟩:=h2.own;have hsz:w.heap.size≤w'.heap.size:=h2.below.size;have hX1: ∀b,X1 b→B≤b∨w0.X b:=fun b ⟨t,_,h⟩=>(hOr b t h).1
   have k1: ∀b t t',O2 b=some t→O b=some t'→t'<n:=fun b t t' h h'=>by
    rcases (hOr2 b t h).1 with g | ⟨t2,g1,g2⟩
    · have g:w.heap.size≤b:=g;have h1:b<w.heap.size:=(hOr b t' h').2;omega
    · rw[h'] at g2;cases g2;exact g1
   let O3:Nat→Option Nat:=fun b=>match O b with
    | some t=>if t<n then O2 b else some t
    | none=>O2 b
   have k2: ∀b t,O2 b=some t→O3 b=some t:=fun b t h=>by
    simp only[O3];split
    · rename_i t' ht';rw[if_pos (k1 b t t' h ht')];exact h
    · exact h
   have k3: ∀c,aP O2 (FW w.heap.size F1 w') c→aP O3 (FW B F0 w') c:=fun c hc=>by
    rcases hc.2 with g | ⟨g1,g2⟩
    · refine⟨?_,?_⟩
      · simp only[O3];split
        · rename_i t' ht';rw[if_pos (g.2 t' ht')];exact hc.1
        · exact hc.1
      · rcases g.1 with g | ⟨g1,g2⟩
        · exact .inl g
        · exact .inr ⟨g1,Nat.lt_of_lt_of_le g2 hsz⟩
    · refine⟨?_,.inr ⟨Nat.le_trans hR.base g1,g2⟩⟩;simp only[O3];split
      · rename_i t' ht';have:c<w.heap.size:=(hOr c t' ht').2;omega
      · exact hc.1
   refine⟨hR.below.back hR.base hX1 h2.below,Nat.le_trans hR.base hsz,hR.f0,h2.defers,h2.size,O3,fun b t hb=>?_,fun t av hav=>?_,fun i r hr=>?_⟩
   · simp only[O3] at hb
     have e2:O2 b=some t→j7 B w0 w' b:=fun h=>by
      refine⟨?_,(hOr2 b t h).2⟩;rcases (hOr2 b t h).1 with g | g
      · exact .inl (Nat.le_trans hR.base g)
      · exact hX1 b g
     split at hb
     · rename_i t' ht';split at hb
       · exact e2 hb
       · exact⟨(hOr b t' ht').1,Nat.lt_of_lt_of_le (hOr b t' ht').2 hsz⟩
     · exact e2 hb
   · obtain ⟨v,hv,hr⟩:=hO2 t av hav;refine⟨v,hv,eQ.reX (hr.move (fun c hc=>⟨k3 c hc,rfl⟩) (fun _ c hc=>⟨k2 c t hc,rfl⟩) (fun k _ x _ hk=>⟨hk,rfl⟩)) (fun e=>?_)⟩;rw[htag t av hav] at e;cases e
   · rcases hL i r hr with h | ⟨h1,h2',h3⟩
     · exact .inl h
     refine .inr ⟨h1,h2',h3.move (fun c hc=>?_) (fun _ c hc=>?_) (fun k _ x _ hk=>by cases hk)⟩
     · have hc':=hFlt c hc.2;have hnx: ¬X1 c:=fun ⟨t,_,h⟩=>by rw[hc.1] at h;cases h
       refine⟨⟨?_,?_⟩,h2.below.block c hc' hnx⟩
       · simp only[O3,hc.1];cases h:O2 c with
         | none=>rfl
         | some t =>
           exfalso;rcases (hOr2 c t h).1 with g | g
           · have g:w.heap.size≤c:=g;omega
           · exact hnx g
       · rcases hc.2 with g | ⟨g1,g2⟩
         · exact .inl g
         · exact .inr ⟨g1,Nat.lt_of_lt_of_le g2 hsz⟩
     · have hnx: ¬X1 c:=fun ⟨t,h,h'⟩=>by rw[hc] at h';cases h';omega
       refine⟨?_,h2.below.block c (hOr c _ hc).2 hnx⟩;simp only[O3,hc];rw[if_neg (by omega)]
theorem cH.sub(hR:cH P B F0 w0 n R σ a w): ∃B1 F1 w1,Rel P B1 F1 w1 n σ a w∧ ∀σ' a' w',σ'.gk=true→Rel P B1 F1 w1 n σ' a' w'→cH P B F0 w0 n R σ' a' w':=by
 obtain ⟨B1,F1,w1,h1,_,h2⟩:=hR.Jq;exact⟨B1,F1,w1,h1,h2⟩
theorem ke{R:List LR}{i j:Nat}{x r:LR}(hj:j≠i)(h:(R.set i x)[j]?=some r):R[j]?=some r:=by
 rw[List.getElem?_set_ne (Ne.symm hj)] at h;exact h
theorem eQ.swap{X:Nat→Prop}{O:Nat→Option Nat}{F:Nat→Prop}{u t:Nat}{tm:Nat→Option Value}{x:AV}{v:Value}{av:AV}{k:Nat}(hk:k≠t)(hku:k≠u)(h:eQ P X w O F σ.get tm k x v)(ha:av.home=true→True):
  eQ P X w (rV O u t) F (St.get ((t,av)::σ.kill t)) tm k (x.kill t) v:=by
 rcases AV.kZ t x with ⟨h1,h2⟩ | h1
 · rw[h1];refine h.move (fun c hc=>⟨⟨ff.2 hc.1,hc.2⟩,rfl⟩) (fun _ c hc=>⟨fN hc hku hk,rfl⟩) (fun j hj y hy hg=>?_);have hjt:j≠t:=fun e=>h2 (e▸hj);rw[St.aM,if_neg (Ne.symm hjt),St.dV] at hg;cases hgj:σ.get j with
   | none=>simp[hgj] at hg
   | some y' =>
     simp only[hgj,Option.map_some,Option.some.injEq] at hg;subst hg;rw[gA hy];exact⟨rfl,rfl⟩
 · rw[h1];trivial
theorem cH.fp{t i:Nat}{V:Value}{av:AV}(hR:cH P B F0 w0 n R σ a w)(hi:R[i]?=some (V,av))(hrow:av.row.isSome=true)(ht:σ.get t=some (.d (.v V))):
  cH P B F0 w0 n (R.set i (V,.junk)) ((t,av)::σ.kill t) a w:=by
 obtain ⟨O,hOr,hO,hL⟩:=hR.own;obtain ⟨v,hv,hr⟩:=hO t _ ht;have hvV:=(Rd.kn hr).1;subst hvV;have htn:t<n:=by rw[← hR.size];exact(Array.getElem?_eq_some_iff.1 hv).1
 refine⟨hR.below,hR.base,hR.f0,hR.defers,hR.size,rV O (n+i) t,nq hOr,fun k x hk=>?_,fun j r hr'=>?_⟩
 · rw[St.aM] at hk;split at hk
   · rename_i e;subst e;cases hk;rcases hL i _ hi with h | ⟨h1,h2,h3⟩
     · simp only at h;subst h;cases hrow
     exact⟨v,hv,h3.owner h1 h2 (fun c hc=>by simp[rV,hc]) (fun c hc=>⟨ff.2 hc.1,hc.2⟩)⟩
   · rename_i hkt;rw[St.dV] at hk;cases hg:σ.get k with
     | none=>simp[hg] at hk
     | some y =>
       simp only[hg,Option.map_some,Option.some.injEq] at hk;subst hk;obtain ⟨z,hz,hzr⟩:=hO k y hg;have hkn:k<n:=by rw[← hR.size];exact(Array.getElem?_eq_some_iff.1 hz).1
       exact⟨z,hz,hzr.swap (Ne.symm hkt) (by omega) (fun _=>trivial)⟩
 · by_cases hj:j=i
   · subst hj;have hlt:j<R.length:=(List.getElem?_eq_some_iff.1 hi).1;rw[List.getElem?_set_self hlt] at hr';cases hr';exact .inl rfl
   · have:=ke hj hr';rcases hL j r this with h | ⟨h1,h2,h3⟩
     · exact .inl h
     · exact .inr ⟨h1,h2,h3.move (fun c hc=>⟨⟨ff.2 hc.1,hc.2⟩,rfl⟩) (fun _ c hc=>⟨fN hc (by omega) (by omega),rfl⟩) (fun k _ x _ hk=>by cases hk)⟩
theorem cH.gz{t i:Nat}{V:Value}{av:AV}(hR:cH P B F0 w0 n R σ a w)(ht:σ.get t=some av)(hrow:av.row.isSome=true)(htag:av.tag=false)(hV:a.tmps[t]?=some V)
  (hi:R'[i]?=some (V,av)) (hj: ∀j r,j≠i→R'[j]?=some r→R[j]?=some r):cH P B F0 w0 n R' ((t,.d (.v V))::σ.kill t) a w:=by
 obtain ⟨O,hOr,hO,hL⟩:=hR.own;obtain ⟨v,hv,hr⟩:=hO t _ ht;rw[hV] at hv;cases hv;have htn:t<n:=by rw[← hR.size];exact(Array.getElem?_eq_some_iff.1 hV).1
 refine⟨hR.below,hR.base,hR.f0,hR.defers,hR.size,rV O (n+i) t,nq hOr,fun k x hk=>?_,fun j r hr'=>?_⟩
 · rw[St.aM] at hk;split at hk
   · rename_i e;subst e;cases hk;refine⟨V,hV,.v ?_⟩;cases av<;>simp[AV.row] at hrow
     · rcases hr with ⟨_,rfl,_⟩ | ⟨_,_,_,rfl,_⟩<;>rfl
     · rcases hr with ⟨_,_,rfl,_⟩ | ⟨_,_,_,_,_,rfl,_⟩<;>rfl
   · rename_i hkt;rw[St.dV] at hk;cases hg:σ.get k with
     | none=>simp[hg] at hk
     | some y =>
       simp only[hg,Option.map_some,Option.some.injEq] at hk;subst hk;obtain ⟨z,hz,hzr⟩:=hO k y hg;have hkn:k<n:=by rw[← hR.size];exact(Array.getElem?_eq_some_iff.1 hz).1
       exact⟨z,hz,hzr.swap (Ne.symm hkt) (by omega) (fun _=>trivial)⟩
 · by_cases hji:j=i
   · subst hji;rw[hi] at hr';cases hr';refine .inr ⟨hrow,htag,hr.owner hrow htag (fun c hc=>?_) (fun c hc=>⟨ff.2 hc.1,hc.2⟩)⟩;simp only[rV];rw[if_neg (by rw[hc];intro e;cases e;omega),if_pos hc]
   · rcases hL j r (hj j r hji hr') with h | ⟨h1,h2,h3⟩
     · exact .inl h
     · exact .inr ⟨h1,h2,h3.move (fun c hc=>⟨⟨ff.2 hc.1,hc.2⟩,rfl⟩) (fun _ c hc=>⟨fN hc (by omega) (by omega),rfl⟩) (fun k _ x _ hk=>by cases hk)⟩
theorem cH.dJ(ks:List Nat)(hR:cH P B F0 w0 n R σ a w):cH P B F0 w0 n R (σ.dJ ks) a w:=by
 obtain ⟨O,hOr,hO,hL⟩:=hR.own;refine⟨hR.below,hR.base,hR.f0,hR.defers,hR.size,O,hOr,fun t av h=>?_,hL⟩;rw[St.rE] at h;split at h<;>try (cases h;done)
 obtain ⟨v,hv,hr⟩:=hO t av h;refine⟨v,hv,hr.move (fun c hc=>⟨hc,rfl⟩) (fun _ c hc=>⟨hc,rfl⟩) (fun k hk x hx hg=>?_)⟩;rw[St.rE] at hg;split at hg
 · exact⟨hg,rfl⟩
 · cases hg
theorem cH.drop(hR:cH P B F0 w0 n R σ a w)(h: ∀(i:Nat) (r:LR),R'[i]?=some r→R[i]?=some r∨r.2= .junk):cH P B F0 w0 n R' σ a w:=by
 obtain ⟨O,hOr,hO,hL⟩:=hR.own;refine⟨hR.below,hR.base,hR.f0,hR.defers,hR.size,O,hOr,hO,fun i r hr=>?_⟩;rcases h i r hr with g | g
 · exact hL i r g
 · exact .inl g
end
end Lift
namespace Lift
open Go
open Go.RowKit (Below)
section
variable {P:Program} {T:Ty} {B:Nat} {F0:Nat→Prop} {w0:cX} {n:Nat} {σ σ':St} {R R':List LR} {all:Array Oper} {l:List Oper} {o:Oper}
theorem oh{o:Oper}{a:Act}{next next':Act→World→Prop}{Q Q':Exit→Act→World→Prop}(hp: ∀c a w,Q (.panic c) a w→Q' (.panic c) a w)(ho:LetsOut Q→LetsOut Q')
  (hn: ∀v d w,next ({a with defers:=d}.put o.dst v) w→next' ({a with defers:=d}.put o.dst v) w) {r:Result Next} (h:o.upon P a next Q r):o.upon P a next' Q' r:=by
 cases r with
 | ok x w' =>
   cases x<;>simp only[Oper.upon] at h ⊢
   · exact hn _ a.defers _ h
   · exact hn _ a.defers _ h
   · exact Calls.mono h (fun e w'' he=>by cases e<;>first | exact hn _ a.defers _ he | exact hp _ _ _ he | exact ho he)
   · exact hn _ _ _ h
   · exact Rows.mono h (fun v w'' he=>hn _ a.defers _ he)
 | halt x w'=>cases x<;>simp only[Oper.upon] at h ⊢ <;>exact hp _ _ _ h
def M4(t:Nat)(x:Option Value)(Q:Exit→Act→World→Prop):Exit→Act→World→Prop:=fun e a w=>Q e a w∧(e= .normal→a.tmps[t]?=x)
theorem m6{t:Nat}{x:Option Value}{Q:Exit→Act→World→Prop}: ∀(l:List Oper) (a:Act) (w:World),(∀o,o∈l→o.dst≠some t)→a.tmps[t]?=x→wpList P all Q l a w→wpList P all (M4 t x Q) l a w
 | [],a,w,_,hx,h=>⟨h,fun _=>hx⟩
 | o::l,a,w,hd,hx,h=>by
   have hput: ∀v d,({a with defers:=d}.put o.dst v).tmps[t]?=x:=fun v d=>by
    cases hdst:o.dst with
    | none=>exact hx
    | some k =>
      have:k≠t:=fun e=>hd o (by simp) (by rw[hdst,e]);rw[dF (Ne.symm this)];exact hx
   unfold wpList at h ⊢;split at h
   · rw[if_pos (by assumption)];rcases h with h | ⟨h1,a1,w1,h2⟩
     · exact .inl (oh (fun c a w h=>⟨h,fun e=>by cases e⟩) (fun ⟨a,w,h⟩=>⟨a,w,h,fun e=>by cases e⟩) (fun v d w h=>m6 l _ _ (fun o ho=>hd o (by simp[ho])) (hput v d) h) h)
     · exact .inr ⟨h1,a1,w1,h2,fun e=>by cases e⟩
   · rw[if_neg (by assumption)];exact m6 l _ _ (fun o ho=>hd o (by simp[ho])) (hput undef a.defers) h
theorem gG{Q Q':Exit→Act→World→Prop}(hq: ∀e a w,Q e a w→Q' e a w): ∀{l:List Oper} {a:Act} {w:World},wpList P all Q l a w→wpList P all Q' l a w
 | [],a,w,h=>hq _ _ _ h
 | o::l,a,w,h=>by
   unfold wpList at h ⊢;split at h
   · rw[if_pos (by assumption)];rcases h with h | ⟨h1,a1,w1,h2⟩
     · exact .inl (oh (fun c a w h=>hq _ _ _ h) (fun ⟨a,w,h⟩=>⟨a,w,hq _ _ _ h⟩) (fun v d w h=>gG hq h) h)
     · exact .inr ⟨h1,a1,w1,hq _ _ _ h2⟩
   · rw[if_neg (by assumption)];exact gG hq h
abbrev lZ:=List (Nat×Value)
def lD(p:lZ)(a:Act):Prop:= ∀e,e∈p→a.tmps[e.1]?=some e.2
def Cl(t:Nat):List Oper→Bool
 | []=>true
 | o::r=>match o.dst with
   | some d=>match Nat.beq d t with
     | true=>false
     | false=>Cl t r
   | none=>Cl t r
theorem wG{t:Nat}: ∀{l:List Oper},Cl t l=true→ ∀o,o∈l→o.dst≠some t
 | [],_,o,ho=>by cases ho
 | x::r,h,o,ho=>by
   simp only[Cl] at h;rcases List.mem_cons.1 ho with rfl | ho
   · split at h
     · rename_i d hd;split at h
       · cases h
       · rename_i hb;rw[hd];intro e;cases e;exact Nat.ne_of_beq_eq_false hb rfl
     · rename_i hd;rw[hd];intro e;cases e
   · split at h
     · split at h
       · cases h
       · exact wG h o ho
     · exact wG h o ho
def kx(p:lZ)(l:List Oper):Bool:=match p with
 | []=>true
 | (t,_)::r=>match Cl t l with
   | true=>kx r l
   | false=>false
theorem nD: ∀{p:lZ} {l:List Oper},kx p l=true→ ∀e,e∈p→ ∀o,o∈l→o.dst≠some e.1
 | [],l,_,e,he=>by cases he
 | (t,V)::r,l,h,e,he=>by
   simp only[kx] at h;split at h
   · rename_i h1;rcases List.mem_cons.1 he with rfl | he
     · exact wG h1
     · exact nD h e he
   · cases h
theorem kM{Q:Exit→Act→World→Prop}{a:Act}{w:World}: ∀{p:lZ},lD p a→(∀e,e∈p→ ∀o,o∈l→o.dst≠some e.1)→wpList P all Q l a w→wpList P all (fun e a w=>Q e a w∧(e= .normal→lD p a)) l a w
 | [],_,_,h=>gG (fun e a w h=>⟨h,fun _ e he=>by cases he⟩) h
 | (t,V)::r,hp,hd,h=>by
   have h1:=kM (p:=r) (fun e he=>hp e (by simp[he])) (fun e he=>hd e (by simp[he])) h;have h2:=m6 l a w (hd (t,V) (by simp)) (hp (t,V) (by simp)) h1;refine gG (fun e a w ⟨⟨h1,h2⟩,h3⟩=>⟨h1,fun he e' he'=>?_⟩) h2;rcases List.mem_cons.1 he' with rfl | he'
   · exact h3 he
   · exact h2 he e' he'
def ak(P:Program)(B:Nat)(F0:Nat→Prop)(w0:cX)(n:Nat)(all:Array Oper)(l:List Oper)(K:List LR→St→Prop)(p:lZ)(R:List LR)(σ:St):Prop :=
 ∀(a:Act) (w:World),cH P B F0 w0 n R σ a w→lD p a→ ∀Q:Exit→Act→World→Prop,(∀a w R' σ',K R' σ'→cH P B F0 w0 n R' σ' a w→Q .normal a w)→wpList P all Q l a w
variable {K:List LR→St→Prop} {p:lZ}
theorem ak.nil(h:K R σ):ak P B F0 w0 n all [] K p R σ:=fun a w hR _ Q hQ=>hQ a w R σ h hR
theorem ak.cut(k:Nat)(hp:kx p (l.take k)=true)(h: ∀B1 F1 w1,ae P B1 F1 w1 n all (l.take k) (fun σ'=>σ'.gk=true∧ak P B F0 w0 n all (l.drop k) K p R σ') σ):ak P B F0 w0 n all l K p R σ:=by
 intro a w hR hpin Q hQ;obtain ⟨B1,F1,w1,hR1,hback⟩:=hR.sub;rw[← List.take_append_drop k l];refine jc (l.drop k) (l.take k) a w ?_;have h1:=h B1 F1 w1 a w hR1 (fun e a' w'=>e= .normal∧ ∃σ',σ'.gk=true∧ak P B F0 w0 n all (l.drop k) K p R σ'∧cH P B F0 w0 n R σ' a' w') (fun a' w' σ' ⟨h1,h2⟩ hR'=>⟨rfl,σ',h1,h2,hback σ' a' w' h1 hR'⟩);refine gG (fun e a' w' ⟨⟨he,σ',_,h2,h3⟩,h4⟩=>?_) (kM hpin (nD hp) h1);subst he;exact h2 a' w' h3 (h4 rfl) Q hQ
theorem ak.fp(t i:Nat){V:Value}{av:AV}(hi:R[i]?=some (V,av))(ht:σ.get t=some (.d (.v V)))(hrow:av.row.isSome=true)(h:ak P B F0 w0 n all l K ((t,V)::p) (R.set i (V,.junk)) ((t,av)::σ.kill t)):ak P B F0 w0 n all l K p R σ:=by
 intro a w hR hpin Q hQ;refine h a w (hR.fp hi hrow ht) (fun e he=>?_) Q hQ;rcases List.mem_cons.1 he with rfl | he
 · obtain ⟨O,_,hO,_⟩:=hR.own;obtain ⟨v,hv,hr⟩:=hO t _ ht;rw[hv,(Rd.kn hr).1]
 · exact hpin e he
theorem ak.back(t i:Nat){V V':Value}{av av':AV}(ht:σ.get t=some av)(hrow:av.row.isSome=true)(htag:av.tag=false)(hp:(t,V)∈p)(hi:R[i]?=some (V',av'))(h:ak P B F0 w0 n all l K p (R.set i (V,av)) ((t,.d (.v V))::σ.kill t)):ak P B F0 w0 n all l K p R σ:=by
 intro a w hR hpin Q hQ;exact h a w (hR.gz ht hrow htag (hpin _ hp) (List.getElem?_set_self (List.getElem?_eq_some_iff.1 hi).1) (fun j r hj hr=>ke hj hr)) hpin Q hQ
theorem ak.gz(t:Nat){av:AV}(ht:σ.get t=some av)(hrow:av.row.isSome=true)(htag:av.tag=false)(h: ∀V:Value,ak P B F0 w0 n all l K p (R++[(V,av)]) ((t,.d (.v V))::σ.kill t)):ak P B F0 w0 n all l K p R σ:=by
 intro a w hR hpin Q hQ;obtain ⟨O,_,hO,_⟩:=hR.own;obtain ⟨V,hV,_⟩:=hO t _ ht;refine h V a w (hR.gz (i:=R.length) ht hrow htag hV (by simp) (fun j r hj hr=>?_)) hpin Q hQ;rcases Nat.lt_or_ge j R.length with hlt | hge
 · rw[List.getElem?_append_left hlt] at hr;exact hr
 · rw[List.getElem?_append_right hge] at hr;have:j-R.length≠0:=by omega
   cases hj':j-R.length with
   | zero=>omega
   | succ m=>rw[hj'] at hr;simp at hr
theorem ak.dJ(ks:List Nat)(h:ak P B F0 w0 n all l K p R (σ.dJ ks)):ak P B F0 w0 n all l K p R σ:=fun a w hR=>h a w (hR.dJ ks)
theorem ak.yT(h:R=R')(hk:ak P B F0 w0 n all l K p R' σ):ak P B F0 w0 n all l K p R σ:=h▸hk
def AZ(P:Program)(B:Nat)(F0:Nat→Prop)(w0:cX)(n:Nat)(c:Code)(Q:Exit→List LR→St→Prop)(R:List LR)(σ:St):Prop :=
 ∀(a:Act) (w:World),cH P B F0 w0 n R σ a w→c.wp P (fun e a' w'=> ∃R' σ',Q e R' σ'∧cH P B F0 w0 n R' σ' a' w') a w
variable {Q:Exit→List LR→St→Prop} {x y:Code}
def Kw(K:List LR→St→Prop)(Q:Exit→List LR→St→Prop):Exit→List LR→St→Prop
 | .normal,R,σ=>K R σ
 | .exit i,R,σ=>Q (.exit i) R σ
 | .goto i,R,σ=>Q (.goto i) R σ
 | .ret,R,σ=>Q .ret R σ
 | .panic c,R,σ=>Q (.panic c) R σ
 | .outgrown,R,σ=>Q .outgrown R σ
def II(id:Nat)(Q:Exit→List LR→St→Prop):Exit→List LR→St→Prop
 | .normal,R,σ=>Q .normal R σ
 | .exit i,R,σ=>match Nat.beq i id with
   | true=>Q .normal R σ
   | false=>Q (.exit i) R σ
 | .goto i,R,σ=>Q (.goto i) R σ
 | .ret,R,σ=>Q .ret R σ
 | .panic c,R,σ=>Q (.panic c) R σ
 | .outgrown,R,σ=>Q .outgrown R σ
theorem AZ.skip(h:Q .normal R σ):AZ P B F0 w0 n .skip Q R σ:=fun a w hR=>wp_skip ⟨R,σ,h,hR⟩
theorem AZ.exit{id:Nat}(h:Q (.exit id) R σ):AZ P B F0 w0 n (.exit id) Q R σ:=fun a w hR=>wp_exit ⟨R,σ,h,hR⟩
theorem AZ.ret(h:Q .ret R σ):AZ P B F0 w0 n .ret Q R σ:=fun a w hR=>wp_ret ⟨R,σ,h,hR⟩
theorem AZ.seq(h:AZ P B F0 w0 n x (Kw (AZ P B F0 w0 n y Q) Q) R σ):AZ P B F0 w0 n (.seq x y) Q R σ:=by
 intro a w hR;refine wp_seq (wp_mono (h a w hR) fun e a' w' ⟨R',σ',hq,hR'⟩=>?_);cases e<;>first | exact hq a' w' hR' | exact⟨R',σ',hq,hR'⟩
theorem AZ.block{id:Nat}(h:AZ P B F0 w0 n x (II id Q) R σ):AZ P B F0 w0 n (.block id x) Q R σ:=by
 intro a w hR;refine wp_block (wp_mono (h a w hR) fun e a' w' ⟨R',σ',hq,hR'⟩=>?_);cases e with
 | exit i =>
   simp only[II] at hq;simp only[Exit.inBlock];split at hq
   · rename_i hb;rw[if_pos (Nat.eq_of_beq_eq_true hb)];exact⟨R',σ',hq,hR'⟩
   · rename_i hb;rw[if_neg (Nat.ne_of_beq_eq_false hb)];exact⟨R',σ',hq,hR'⟩
 | _=>exact⟨R',σ',hq,hR'⟩
theorem AZ.cond{c:Operand}{b:Bool}(hc:nX σ c=some b)(h1:b=true→AZ P B F0 w0 n x Q R σ)(h2:b=false→AZ P B F0 w0 n y Q R σ):AZ P B F0 w0 n (.cond c x y) Q R σ:=by
 intro a w hR
 have he:a.eval c= .bool b:=by
  unfold nX at hc;split at hc<;>try (cases hc;done)
  · split at hc<;>simp at hc;rename_i hg;subst hc;obtain ⟨O,hOr,hO,_⟩:=hR.own;obtain ⟨v,hv,hr⟩:=hO _ _ hg;have:=(Rd.kn hr).1;subst this;exact gn hv
  · simp at hc;subst hc;rfl
 refine wp_cond he ?_;cases b with
 | true=>exact h1 rfl a w hR
 | false=>exact h2 rfl a w hR
theorem AZ.aJ{c:Operand}(hc:nX σ c=some true)(h1:AZ P B F0 w0 n x Q R σ):AZ P B F0 w0 n (.cond c x y) Q R σ:=AZ.cond hc (fun _=>h1) (fun h=>by cases h)
theorem AZ.aH{c:Operand}(hc:nX σ c=some false)(h1:AZ P B F0 w0 n y Q R σ):AZ P B F0 w0 n (.cond c x y) Q R σ:=AZ.cond hc (fun h=>by cases h) (fun _=>h1)
theorem AZ.region{id:Nat}{ops:Array Oper}(h:ak P B F0 w0 n ops ops.toList (Q .normal) [] R σ):AZ P B F0 w0 n (.region id ops false) Q R σ :=
 fun a w hR=>wp_region_list (h a w hR (fun e he=>by cases he) _ fun a' w' R' σ' hk hR'=>⟨R',σ',hk,hR'⟩)
theorem AZ.frame(h: ∀B1 F1 w1,AW P B1 F1 w1 n x (fun e σ'=>σ'.gk=true∧Q e R σ') σ):AZ P B F0 w0 n x Q R σ:=by
 intro a w hR;obtain ⟨B1,F1,w1,hR1,hback⟩:=hR.sub;exact wp_mono (h B1 F1 w1 a w hR1) fun e a' w' ⟨σ',⟨h1,h2⟩,hR'⟩=>⟨R,σ',h2,hback σ' a' w' h1 hR'⟩
theorem AZ.dJ(ks:List Nat)(h:AZ P B F0 w0 n x Q R (σ.dJ ks)):AZ P B F0 w0 n x Q R σ:=fun a w hR=>h a w (hR.dJ ks)
theorem AZ.conv(h:σ=σ')(hk:AZ P B F0 w0 n x Q R σ'):AZ P B F0 w0 n x Q R σ:=h▸hk
theorem AZ.yT(h:R=R')(hk:AZ P B F0 w0 n x Q R' σ):AZ P B F0 w0 n x Q R σ:=h▸hk
theorem AZ.mono{Q':Exit→List LR→St→Prop}(h:AZ P B F0 w0 n x Q R σ)(hq: ∀e R σ,Q e R σ→Q' e R σ):AZ P B F0 w0 n x Q' R σ:=fun a w hR=>wp_mono (h a w hR) fun e a' w' ⟨R',σ',h1,h2⟩=>⟨R',σ',hq _ _ _ h1,h2⟩
theorem AZ.gz(t:Nat){av:AV}(ht:σ.get t=some av)(hrow:av.row.isSome=true)(htag:av.tag=false)(h: ∀V:Value,AZ P B F0 w0 n x Q (R++[(V,av)]) ((t,.d (.v V))::σ.kill t)):AZ P B F0 w0 n x Q R σ:=by
 intro a w hR;obtain ⟨O,_,hO,_⟩:=hR.own;obtain ⟨V,hV,_⟩:=hO t _ ht;refine h V a w (hR.gz (i:=R.length) ht hrow htag hV (by simp) (fun j r hj hr=>?_));rcases Nat.lt_or_ge j R.length with hlt | hge
 · rw[List.getElem?_append_left hlt] at hr;exact hr
 · rw[List.getElem?_append_right hge] at hr;have:j-R.length≠0:=by omega
   cases hj':j-R.length with
   | zero=>omega
   | succ m=>rw[hj'] at hr;simp at hr
theorem AZ.fp(t i:Nat){V:Value}{av:AV}(hi:R[i]?=some (V,av))(ht:σ.get t=some (.d (.v V)))(hrow:av.row.isSome=true)(h:AZ P B F0 w0 n x Q (R.set i (V,.junk)) ((t,av)::σ.kill t)):AZ P B F0 w0 n x Q R σ :=
 fun a w hR=>h a w (hR.fp hi hrow ht)
theorem AZ.aL{S:Type}(ks:List Nat)(mk:S→List LR×St)(I:S→Prop)(μ:S→Nat)(s0:S)(h0:(R,σ.dJ ks)=mk s0)(hI:I s0)
  (hb: ∀s,I s→AZ P B F0 w0 n x (Kw (fun R' σ'=> ∃s',(R',σ'.dJ ks)=mk s'∧I s'∧μ s'<μ s) Q) (mk s).1 (mk s).2):AZ P B F0 w0 n (.loop x) Q R σ:=by
 intro a w hR
 let G:Act→World→S→Prop:=fun a w s=>I s∧cH P B F0 w0 n (mk s).1 (mk s).2 a w
 have hex: ∀a w,(∃s,G a w s)→ ∃m,(∃s,μ s=m∧G a w s)∧ ∀s,G a w s→m≤μ s:=fun a w ⟨s,h1⟩=>by
  let q:Nat→Prop:=fun m=> ∃s,μ s=m∧G a w s
  have key: ∀k m,m≤k→q m→ ∃m0,q m0∧ ∀m',q m'→m0≤m':=by
   intro k
   induction k with
   | zero=>intro m hm hp;exact⟨m,hp,fun m' _=>by omega⟩
   | succ k ih =>
     intro m hm hp;by_cases hlt: ∃m',m'≤k∧q m'
     · obtain ⟨m',h1,h2⟩:=hlt;exact ih m' h1 h2
     · exact⟨m,hp,fun m' hp'=>by
        rcases Nat.lt_or_ge k m' with h | h
        · omega
        · exact absurd ⟨m',h,hp'⟩ hlt⟩
  obtain ⟨m0,h3,h4⟩:=key (μ s) (μ s) (ai _) ⟨s,rfl,h1⟩;exact⟨m0,h3,fun s' g=>h4 _ ⟨s',rfl,g⟩⟩
 let M:Act→World→Nat:=fun a w=>open Classical in if h: ∃s,G a w s then Classical.choose (hex a w h) else 0
 have hM: ∀a w,(∃s,G a w s)→(∃s,μ s=M a w∧G a w s)∧ ∀s,G a w s→M a w≤μ s:=fun a w h=>by
  have:=Classical.choose_spec (hex a w h);simp only[M,dif_pos h];exact this
 have hG0:G a w s0:=⟨hI,by rw[← h0];exact hR.dJ ks⟩;refine wp_loop (fun a w=> ∃s,G a w s) M ⟨s0,hG0⟩ (fun a w hg=>?_);obtain ⟨⟨s1,hm,hI1,hR1⟩,_⟩:=hM a w hg;refine wp_mono (hb s1 hI1 a w hR1) fun e a' w' ⟨R',σ',hq,hR'⟩=>?_;cases e with
 | normal =>
   obtain ⟨s',h1,h2,h3⟩:=hq;have hg':G a' w' s':=⟨h2,by rw[← h1];exact hR'.dJ ks⟩;refine⟨⟨s',hg'⟩,?_⟩;have:=(hM a' w' ⟨s',hg'⟩).2 s' hg';omega
 | _=>exact⟨R',σ',hq,hR'⟩
def Of{S:Type}(ks:List Nat)(mk:S→List LR×St)(I:S→Prop)(Q:Exit→List LR→St→Prop):Exit→List LR→St→Prop
 | .normal,R,σ=> ∃s,(R,σ.dJ ks)=mk s∧I s
 | .exit i,R,σ=>Q (.exit i) R σ
 | .goto i,R,σ=>Q (.goto i) R σ
 | .ret,R,σ=>Q .ret R σ
 | .panic c,R,σ=>Q (.panic c) R σ
 | .outgrown,R,σ=>Q .outgrown R σ
theorem AZ.cut{S:Type}(ks:List Nat)(mk:S→List LR×St)(I:S→Prop)(hx:AZ P B F0 w0 n x (Of ks mk I Q) R σ)(hy: ∀s,I s→AZ P B F0 w0 n y Q (mk s).1 (mk s).2):AZ P B F0 w0 n (.seq x y) Q R σ:=by
 refine AZ.seq (AZ.mono hx fun e R' σ' hq=>?_);cases e with
 | normal =>
   obtain ⟨s,h1,h2⟩:=hq;have h1':=Prod.mk.inj (h1.trans (Prod.eta (mk s)).symm);refine AZ.yT h1'.1 (AZ.dJ ks (AZ.conv h1'.2 (hy s h2)))
 | _=>exact hq
end
end Lift
namespace Lift
open Go
open Go.RowKit (Below)
section
variable {P:Program} {T:Ty} {B:Nat} {F0:Nat→Prop} {w0:cX} {n:Nat} {σ σ':St} {R R':List LR} {ops:Array Oper}
def Kf(T:Ty)(σ:St):Op→Bool
 | .fieldAddr t (.tmp s) f=>match T.get t,σ.get s with
   | some i,some (.bx _)=>(sR i f).isSome
   | _,_=>false
 | _=>false
theorem Ke(hT:bD P T){a:Act}{w:World}(hR:Rel P B F0 w0 n σ a w){o:Oper}(h:Kf T σ o.op=true): ∃v,∀w',(execOp a.eval o).run P w'= .ok (.value v) w':=by
 obtain ⟨dst,op,ty,pos,after,guard⟩:=o;simp only[] at h;cases op<;>simp only[Kf] at h<;>try (cases h;done)
 rename_i t x f;cases x<;>simp only[Kf] at h<;>try (cases h;done)
 rename_i s;split at h<;>try (cases h;done)
 rename_i i ds hi hs;obtain ⟨⟨off,size,g⟩,hf⟩:=Option.isSome_iff_exists.1 h;obtain ⟨info,dd,z,hok⟩:=hT t i hi;obtain ⟨fs,fl,j,dd',h1,h2,h3,h4,h5,h6,h7,h8⟩:=mB hok hf;obtain ⟨O,hOr,hO⟩:=hR.own;obtain ⟨v,hv,b,cs,e,rfl,_⟩:=hO s _ hs;have he:a.eval (.tmp s)= .pointer (some ⟨b,0,none⟩):=gn hv;refine⟨.pointer (some ⟨b,0+off,none⟩),fun w'=>?_⟩;have hs:j.size≠0:=by omega
 simp[execOp,Instr.fieldAt,run_underlying h1,h2,he,Instr.sureAddr,fieldPlace,Go.sizeOf,typeInfo,h4,hs,h3,Addr.add_lit]
def lX(P:Program)(B:Nat)(F0:Nat→Prop)(w0:cX)(n:Nat)(ops:Array Oper)(Q:Exit→List LR→St→Prop)(R:List LR)(σ:St):Prop :=
 ∀(a:Act) (w:World),cH P B F0 w0 n R σ a w→wpAny P .any ops (fun e a' w'=> ∃R' σ',Q e R' σ'∧cH P B F0 w0 n R' σ' a' w') ops.size (Array.replicate ops.size false) a {w with drawn:=w.drawn+1}
variable {Q:Exit→List LR→St→Prop}
theorem AZ.any{id:Nat}(jG:P.follows .mixedOrders=true)(h:lX P B F0 w0 n ops Q R σ):AZ P B F0 w0 n (.region id ops true) Q R σ:=fun a w hR=>wp_region_any jG (h a w hR)
theorem lX.draw(m:Nat)(hB:wI ops m=true)
  (h: ∀B1 F1 w1,ah P B1 F1 w1 n ops (eC ops m) (σ.less (eC ops m)) (ops.toList.take m) (σ.less (eC ops m)) (fun τ=>τ.gk=true∧ak P B F0 w0 n ops (ops.toList.drop m) (Q .normal) [] R τ)):lX P B F0 w0 n ops Q R σ:=by
 intro a w hR;obtain ⟨B1,F1,w1,hR1,hback⟩:=hR.sub;exact xi.Ik m hB (fun τ a' w' ⟨ht,hz⟩ hR'=>hz a' w' (hback τ a' w' ht hR') (fun e he=>by cases he) _ (fun a w R' σ' hk hr=>⟨R',σ',hk,hr⟩)) (h B1 F1 w1) a w hR1
end
end Lift
namespace Lift
open Go
open Go.RowKit (Below)
section
variable {P:Program} {T:Ty} {B:Nat} {F0:Nat→Prop} {w0:cX} {n:Nat} {σ σ':St} {R R':List LR} {ops all:Array Oper} {l:List Oper} {x:Code} {a:Act} {w:World} {K:List LR→St→Prop} {p:lZ}
theorem AZ.aw{Q:Exit→St→Prop}(h:AZ P B F0 w0 n x (fun e _ σ'=>Q e σ') [] σ):AW P B F0 w0 n x Q σ:=fun a w hR=>wp_mono (h a w hR.z) fun e a' w' ⟨R',σ',h1,h2⟩=>⟨σ',h1,h2.rel⟩
variable {Q:Exit→List LR→St→Prop}
theorem AZ.iK{id:Nat}(h: ∀B1 F1 w1,ae P B1 F1 w1 n ops ops.toList (fun σ'=>σ'.gk=true∧Q .normal R σ') σ):AZ P B F0 w0 n (.region id ops false) Q R σ :=
 AZ.frame fun B1 F1 w1=>AW.region (h B1 F1 w1)
theorem AZ.drw{id:Nat}(jG:P.follows .mixedOrders=true)(m:Nat)(hB:wI ops m=true)
  (h: ∀B1 F1 w1,ah P B1 F1 w1 n ops (eC ops m) (σ.less (eC ops m)) (ops.toList.take m) (σ.less (eC ops m)) (fun τ=>ae P B1 F1 w1 n ops (ops.toList.drop m) (fun σ'=>σ'.gk=true∧Q .normal R σ') τ)):AZ P B F0 w0 n (.region id ops true) Q R σ :=
 AZ.frame fun B1 F1 w1=>AW.draw jG m hB (h B1 F1 w1)
theorem cH.DD{t i k e:Nat}{V:Value}{xs cs:List D}(hR:cH P B F0 w0 n R σ a w)(ht:σ.get t=some (.bx cs))(hk:cs[k]?=some (.v V))(hi:R[i]?=some (V,.ow e xs)):
  cH P B F0 w0 n (R.set i (V,.junk)) ((t,.bx (cs.set k (.sl (P.cellsOf e) xs)))::σ) a w:=by
 obtain ⟨O,hOr,hO,hL⟩:=hR.own
 let O':Nat→Option Nat:=fun b=>if O b=some (n+i) then none else O b
 have h1: ∀b t,O' b=some t→O b=some t:=fun b t h=>by
  simp only[O'] at h;split at h
  · cases h
  · exact h
 have h2: ∀b t,t≠n+i→O b=some t→O' b=some t:=fun b t ht h=>by
  simp only[O',h];rw[if_neg (by simpa using ht)]
 have hF: ∀c,aP O (FW B F0 w) c→aP O' (FW B F0 w) c:=fun c hc=>⟨by simp only[O',hc.1];simp,hc.2⟩
 have hlt: ∀t av,σ.get t=some av→t<n:=fun t av h=>by
  obtain ⟨v,hv,_⟩:=hO t av h;rw[← hR.size];exact(Array.getElem?_eq_some_iff.1 hv).1
 refine⟨hR.below,hR.base,hR.f0,hR.defers,hR.size,O',fun b t hb=>hOr b t (h1 b t hb),fun j av hav=>?_,fun j r hr=>?_⟩
 · have key: ∀j,(∀ds,St.get ((t,AV.bx (cs.set k (.sl (P.cellsOf e) xs)))::σ) j=some (.bx ds)→ ∃ds',σ.get j=some (.bx ds'))∧(∀x e' l,St.get ((t,AV.bx (cs.set k (.sl (P.cellsOf e) xs)))::σ) j=some x→x.row=some (e',l)→ ∃y l',σ.get j=some y∧y.row=some (e',l')∧l'.length=l.length∧y.tag=x.tag):=fun j=>by
    rw[St.aM];by_cases hj:t=j
    · subst hj;refine⟨fun ds _=>⟨cs,ht⟩,fun x e' l hx hrow=>?_⟩;rw[if_pos rfl] at hx;cases hx;simp[AV.row] at hrow
    · rw[if_neg hj];exact⟨fun ds hds=>⟨ds,hds⟩,fun x e' l hx hrow=>⟨x,l,hx,hrow,rfl,rfl⟩⟩
   rw[St.aM] at hav;split at hav
   · rename_i e';subst e';cases hav;obtain ⟨v,hv,b,cells,eb,rfl,g1,g2,g3⟩:=hO t _ ht;refine⟨_,hv,b,cells,eb,rfl,h2 b t (by have:=hlt t _ ht;omega) g1,g2,by simpa using g3.1,fun j d u hd hu=>?_⟩;by_cases hj:j=k
     · subst hj;rw[List.getElem?_set_self (List.getElem?_eq_some_iff.1 hk).1] at hd;cases hd;have:=(Rd.kn (g3.2 j _ u hk hu).2).1;subst this;refine⟨rfl,?_⟩;rcases hL i _ hi with h | ⟨_,_,h⟩
       · cases h
       · rcases h with ⟨base,h3,h4⟩ | ⟨b',cap,cs',h3,h4,h5,h6,h7,h8,h9,h10⟩
         · simp only at h3 h4;subst h3;subst h4;exact .nil (Nat.zero_le _)
         · simp only at h3;subst h3;refine Rd.mK (off:=0) ⟨by simp only[O',h4];simp,(hOr b' _ h4).fw hR.f0⟩ h5 h6 h7 h9 (fun m d hd=>?_);obtain ⟨f1,u,f2,f3⟩:=h10 m d hd;exact⟨f1,u,by simpa using f2,f3.mono hF (fun _ _=>rfl)⟩
     · rw[List.getElem?_set_ne (Ne.symm hj)] at hd;exact⟨(g3.2 j d u hd hu).1,(g3.2 j d u hd hu).2.mono hF (fun _ _=>rfl)⟩
   · obtain ⟨v,hv,hr⟩:=hO j av hav;have hr':eQ P w0.X w O' (FW B F0 w) σ.get (fun h=>a.tmps[h]?) j av v:=hr.move (fun c hc=>⟨hF c hc,rfl⟩) (fun _ c hc=>⟨h2 c j (by have:=hlt j av hav;omega) hc,rfl⟩) (fun k _ x _ hk=>⟨hk,rfl⟩);exact⟨v,hv,hr'.KA (fun j _=>key j)⟩
 · by_cases hj:j=i
   · subst hj;rw[List.getElem?_set_self (List.getElem?_eq_some_iff.1 hi).1] at hr;cases hr;exact .inl rfl
   · have:=ke hj hr;rcases hL j r this with h | ⟨g1,g2,g3⟩
     · exact .inl h
     · exact .inr ⟨g1,g2,g3.move (fun c hc=>⟨hF c hc,rfl⟩) (fun _ c hc=>⟨h2 c _ (by omega) hc,rfl⟩) (fun k _ x _ hk=>by cases hk)⟩
theorem AZ.DD(hT:bD P T)(t k i:Nat){V:Value}{e:Nat}{te:TI}{xs cs:List D}(ht:σ.get t=some (.bx cs))(hk:cs[k]?=some (.v V))(hi:R[i]?=some (V,.ow e xs))(he:T.get e=some te)
  (h:AZ P B F0 w0 n x Q (R.set i (V,.junk)) ((t,.bx (cs.set k (.sl te.size xs)))::σ)):AZ P B F0 w0 n x Q R σ:=by
 obtain ⟨info,d,z,hok⟩:=hT e te he;intro a w hR;have:=hR.DD ht hk hi;rw[hok.cellsOf] at this;exact h a w this
theorem ak.DD(hT:bD P T)(t k i:Nat){V:Value}{e:Nat}{te:TI}{xs cs:List D}(ht:σ.get t=some (.bx cs))(hk:cs[k]?=some (.v V))(hi:R[i]?=some (V,.ow e xs))(he:T.get e=some te)
  (h:ak P B F0 w0 n all l K p (R.set i (V,.junk)) ((t,.bx (cs.set k (.sl te.size xs)))::σ)):ak P B F0 w0 n all l K p R σ:=by
 obtain ⟨info,d,z,hok⟩:=hT e te he;intro a w hR;have:=hR.DD ht hk hi;rw[hok.cellsOf] at this;exact h a w this
end
end Lift
namespace Lift
open Go
open Go.RowKit (Below)
section
variable {P:Program} {T:Ty} {B:Nat} {F0:Nat→Prop} {w0:cX} {n:Nat} {σ σ':St} {R R':List LR} {ops:Array Oper}
variable {Q:Exit→Act→World→Prop}
variable {Q:Exit→List LR→St→Prop}
theorem ak.to{all:Array Oper}{l:List Oper}{K:List LR→St→Prop}{p:lZ}(ks:List Nat)(τ:St)(h:σ.dJ ks=τ)(hk:ak P B F0 w0 n all l K p R τ):ak P B F0 w0 n all l K p R σ:=ak.dJ ks (h▸hk)
theorem AZ.to{c:Code}(ks:List Nat)(τ:St)(h:σ.dJ ks=τ)(hk:AZ P B F0 w0 n c Q R τ):AZ P B F0 w0 n c Q R σ:=AZ.dJ ks (h▸hk)
theorem AZ.forget{c:Code}(h:AZ P B F0 w0 n c Q [] σ):AZ P B F0 w0 n c Q R σ:=fun a w hR=>h a w (hR.drop (fun i r hr=>by simp at hr))
end
end Lift
namespace Lift
open Go
open Go.RowKit (Below)
def pq(O:Nat→Option Nat)(b:Nat):Prop:= ∃t,O b=some t
def l3(P:Program)(f:FuncId)(args:List D)(R:List LR)(Post:D→List LR→Prop):Prop :=
 s5 P f∧ ∀(w:World) (F:Nat→Prop) (O:Nat→Option Nat) (vs:List Value),(∀b,F b→b<w.heap.size)→(∀b t,O b=some t→F b)→vs.length=args.length →
  (∀(i:Nat) (d:D) (v:Value),args[i]?=some d→vs[i]?=some v→Rd w (aP O F) d v)→(∀(i:Nat) (r:LR),R[i]?=some r→mG P w O F i r) →
  Calls P f vs.toArray w (fun ee w'=> ∃v res R' O',ee= .returned v∧Post res R'∧iI w.heap.size ⟨w,pq O⟩ w w'∧(∀b t,O' b=some t→j7 w.heap.size ⟨w,pq O⟩ w' b)∧Rd w' (aP O' (FW w.heap.size F w')) res v ∧
   ∀(i:Nat) (r:LR),R'[i]?=some r→mG P w' O' (FW w.heap.size F w') i r)
section
variable {P:Program} {T:Ty} {B:Nat} {F0:Nat→Prop} {w0:cX} {n:Nat} {σ σ':St} {R R':List LR} {all:Array Oper} {l rest:List Oper} {o:Oper} {d:Nat} {K:List LR→St→Prop} {p:lZ}
def uA(T:Ty)(σ:St):ResultVar→Option D
 | .tmp t=>dC T (ex T σ.get 0 (.tmp t))
 | .cell c t=>match T.get t,σ.get c with
   | some i,some (.bx ds)=>match kC i ds with
     | some (.d x)=>some x
     | _=>none
   | _,_=>none
def qu(T:Ty)(σ:St):List ResultVar→Option (List D)
 | []=>some []
 | r::rs=>match uA T σ r,qu T σ rs with
   | some d,some ds=>some (d::ds)
   | _,_=>none
def Hg(T:Ty)(σ:St)(rs:List ResultVar):Option D:=match qu T σ rs with
 | some [d]=>some d
 | some []=>some (.tu [])
 | some (d::e::r)=>some (.tu (d::e::r))
 | none=>none
def NV(T:Ty)(rs:List ResultVar)(Post:D→List LR→Prop):Exit→List LR→St→Prop
 | .normal,R,σ=> ∃res,Hg T σ rs=some res∧Post res R
 | .ret,R,σ=> ∃res,Hg T σ rs=some res∧Post res R
 | .exit _,_,_=>False
 | .goto _,_,_=>False
 | .panic _,_,_=>False
 | .outgrown,_,_=>False
theorem xy(hT:bD P T){a:Act}{w:World}{O:Nat→Option Nat}(hR:Rel P B F0 w0 n σ a w)(hOr: ∀b t,O b=some t→j7 B w0 w b)
  (hO: ∀t av,σ.get t=some av→ ∃v,a.tmps[t]?=some v∧eQ P w0.X w O (FW B F0 w) σ.get (fun h=>a.tmps[h]?) t av v) {r:ResultVar} {d:D} (h:uA T σ r=some d):
  ∃v,(nt a.tmps r).run P w= .ok v w∧Rd w (aP O (FW B F0 w)) d v:=by
 have hI:Inv P B F0 w0 (fun _=>True) σ.get σ.get a w O:=⟨hR.below,hR.base,hR.f0,hOr,fun t _ av h=>hO t av h,fun t av h _=>hO t av h⟩;cases r with
 | tmp t =>
   simp only[uA] at h;exact⟨_,rfl,dX hT hI (fun _ _=>trivial) h⟩
 | cell c t =>
   simp only[uA] at h;split at h<;>try (cases h;done)
   rename_i i ds hi hc;split at h<;>simp at h;rename_i y hy;subst h;obtain ⟨info,dd,z,hok⟩:=hT t i hi;obtain ⟨u,hu,b,cs,e,rfl,h2,h3,h4⟩:=hO c _ hc;obtain ⟨x,v,hx,hrun,hrd⟩:=lQ (off:=0) hok h3 (fun j x hj=>by obtain ⟨g1,g2⟩:=h4.get hj;exact⟨g1,by simpa using g2⟩) hy;simp at hx;subst hx;refine⟨v,?_,hrd⟩;have hgd:a.tmps.getD c undef= .pointer (some ⟨b,0,none⟩):=by simp[Array.getD_eq_getD_getElem?,hu]
   simp only[nt,hgd,asAddr,Sem.run_bind,Sem.run_pure,Result.andThen_ok,hrun]
theorem je(hT:bD P T){a:Act}{w:World}{O:Nat→Option Nat}(hR:Rel P B F0 w0 n σ a w)(hOr: ∀b t,O b=some t→j7 B w0 w b)
  (hO: ∀t av,σ.get t=some av→ ∃v,a.tmps[t]?=some v∧eQ P w0.X w O (FW B F0 w) σ.get (fun h=>a.tmps[h]?) t av v): ∀(rs:List ResultVar) (ds:List D),qu T σ rs=some ds →
  ∃vs:List Value,(rs.mapM (nt a.tmps)).run P w= .ok vs w∧vs.length=ds.length ∧
   ∀(i:Nat) (d:D) (v:Value),ds[i]?=some d→vs[i]?=some v→Rd w (aP O (FW B F0 w)) d v
 | [],ds,h=>by simp[qu] at h;subst h;exact⟨[],by simp,rfl,fun i d v h=>by simp at h⟩
 | r::rs,ds,h=>by
   simp only[qu] at h;split at h<;>simp at h;rename_i d ds' h1 h2;subst h;obtain ⟨v,hv,hr⟩:=xy hT hR hOr hO h1;obtain ⟨vs,hvs,hl,hall⟩:=je hT hR hOr hO rs ds' h2;refine⟨v::vs,?_,by simp[hl],fun i d' u h3 h4=>?_⟩
   · simp only[List.mapM_cons,Sem.run_bind,Result.andThen_ok,hvs,Sem.run_pure,hv]
   · cases i with
     | zero=>simp at h3 h4;subst h3;subst h4;exact hr
     | succ i=>exact hall i d' u (by simpa using h3) (by simpa using h4)
theorem C5(hT:bD P T){fn:Func}{rs:List ResultVar}(hrs:fn.results.toList=rs){a:Act}{w:World}{O:Nat→Option Nat}(hR:Rel P B F0 w0 n σ a w)(hOr: ∀b t,O b=some t→j7 B w0 w b)
  (hO: ∀t av,σ.get t=some av→ ∃v,a.tmps[t]?=some v∧eQ P w0.X w O (FW B F0 w) σ.get (fun h=>a.tmps[h]?) t av v) {res:D} (hq:Hg T σ rs=some res):
  ∃v,(results fn a.tmps).run P w= .ok v w∧Rd w (aP O (FW B F0 w)) res v:=by
 unfold Hg at hq;split at hq<;>simp at hq
 · rename_i d hd;subst hq;obtain ⟨vs',hrun,hl',hall⟩:=je hT hR hOr hO rs _ hd
   match vs',hl' with
   | [v],_ =>
     refine⟨v,?_,hall 0 d v rfl rfl⟩;rw[eg];simp only[Sem.run_bind,Array.mapM_eq_mapM_toList,hrs,Sem.run_map,hrun,Result.andThen_ok,Sem.run_pure];rfl
 · rename_i hd;subst hq;obtain ⟨vs',hrun,hl',hall⟩:=je hT hR hOr hO rs _ hd
   match vs',hl' with
   | [],_ =>
     refine⟨.tuple #[],?_,Rd.tu (vs:=[]) rfl (fun i d v h=>by simp at h)⟩;rw[eg];simp only[Sem.run_bind,Array.mapM_eq_mapM_toList,hrs,Sem.run_map,hrun,Result.andThen_ok,Sem.run_pure];rfl
 · rename_i d e r hd;subst hq;obtain ⟨vs',hrun,hl',hall⟩:=je hT hR hOr hO rs _ hd;refine⟨.tuple vs'.toArray,?_,Rd.tu hl' (fun i d v h1 h2=>hall i d v h1 h2)⟩;rw[eg];simp only[Sem.run_bind,Array.mapM_eq_mapM_toList,hrs,Sem.run_map,hrun,Result.andThen_ok,Sem.run_pure];rw[dif_neg (by simp at hl' ⊢; omega)]
theorem mG.owner{w:World}{O O':Nat→Option Nat}{F F':Nat→Prop}{s t:Nat}{r:LR}(h:mG P w O F s r)(hO: ∀c,O c=some s→O' c=some t)(hF: ∀c,aP O F c→aP O' F' c):mG P w O' F' t r:=by
 rcases h with h | ⟨h1,h2,h3⟩
 · exact .inl h
 · exact .inr ⟨h1,h2,h3.owner h1 h2 hO hF⟩
theorem l3.intro{f:FuncId}{fn:Func}{c:Code}{rs:List ResultVar}{args:List D}{Post:D→List LR→Prop}(hT:bD P T)(hf:P.funcs[f]?=some fn)(hb:fn.body=some c)(hrs:fn.results.toList=rs)(hn:fn.ntmps=n)(hl:args.length≤n)(hnm:(fn.name=="runtime.NumGoroutine")=false)
  (h: ∀(B:Nat) (F0:Nat→Prop) (w0:cX),AZ P B F0 w0 n c (NV T rs Post) R (eI 0 args)):l3 P f args R Post:=by
 refine⟨⟨fn,hf,hnm,by simp[hb]⟩,fun w F O vs hF hOF hlen hr hL=>?_⟩
 let Oz:Nat→Option Nat:=fun b=>(O b).map (n+ ·)
 have hOz: ∀b t,Oz b=some t→ ∃s,O b=some s∧t=n+s:=fun b t h=>by
  simp only[Oz,Option.map_eq_some_iff] at h;obtain ⟨s,h1,h2⟩:=h;exact⟨s,h1,h2.symm⟩
 have hfr: ∀c,aP O F c→aP Oz (FW w.heap.size F w) c:=fun c hc=>⟨by simp[Oz,hc.1],.inl hc.2⟩;refine calls_of_wp hf hb (wp_mono (h w.heap.size F ⟨w,pq O⟩ _ w ?_) ?_)
 · refine⟨.refl _ _ _,ai _,⟨hF,fun b ⟨t,hb⟩=>hOF b t hb⟩,rfl,?_,Oz,(fun b t hb=>?_),(fun t av hav=>?_),fun i r hr=>?_⟩
   · simp[hn];omega
   · obtain ⟨s,h1,_⟩:=hOz b t hb;exact⟨.inr ⟨s,h1⟩,hF b (hOF b s h1)⟩
   · rw[iX] at hav;simp only[Nat.zero_le,if_true,Nat.sub_zero,Option.map_eq_some_iff] at hav;obtain ⟨d,hd,rfl⟩:=hav;have hlt:t<vs.length:=by rw[hlen];exact(List.getElem?_eq_some_iff.1 hd).1
     refine⟨vs[t],by simp[Array.getElem?_append,hlt],?_⟩;exact(hr t d _ hd (bP hlt)).mono hfr (fun _ _=>rfl)
   · exact(hL i r hr).owner (fun c hc=>by simp[Oz,hc]) hfr
 · rintro ee a w' ⟨R',σ',hq,hR⟩
   obtain ⟨O2,hOr2,hO2,hL2⟩:=hR.own
   let O3:Nat→Option Nat:=fun b=>match O2 b with
    | some t=>if n≤t then some (t-n) else none
    | none=>none
   have h3n: ∀c,O2 c=none→O3 c=none:=fun c hc=>by simp only[O3,hc]
   have h3: ∀c t,O3 c=some t→O2 c=some (n+t):=fun c t hc=>by
    simp only[O3] at hc;split at hc
    · rename_i s hs;split at hc
      · cases hc;rw[hs];congr 1;omega
      · cases hc
    · cases hc
   have key:(∃res,Hg T σ' rs=some res∧Post res R')→a.defers=[]∧ ∃v,(results fn a.tmps).run P w'= .ok v w'∧ ∃v' res R' O',Ending.returned v= .returned v'∧Post res R'∧iI w.heap.size ⟨w,pq O⟩ w w'∧(∀b t,O' b=some t→j7 w.heap.size ⟨w,pq O⟩ w' b)∧Rd w' (aP O' (FW w.heap.size F w')) res v' ∧
     ∀(i:Nat) (r:LR),R'[i]?=some r→mG P w' O' (FW w.heap.size F w') i r:=fun ⟨res,hq,hP⟩=>by
    refine⟨hR.defers,?_⟩;obtain ⟨v,hv,hrd⟩:=C5 hT hrs hR.rel hOr2 hO2 hq;refine⟨v,hv,v,res,R',O3,rfl,hP,hR.below,fun b t hb=>hOr2 b _ (h3 b t hb),hrd.mono (fun c hc=>⟨h3n c hc.1,hc.2⟩) (fun _ _=>rfl),fun i r hr=>?_⟩;exact(hL2 i r hr).owner (fun c hc=>by simp only[O3,hc];rw[if_pos (by omega)];congr 1;omega) (fun c hc=>⟨h3n c hc.1,hc.2⟩)
   cases ee with
   | normal=>exact key hq
   | ret=>exact key hq
   | exit _=>exact hq.elim
   | goto _=>exact hq.elim
   | panic _=>exact hq.elim
   | outgrown=>exact hq.elim
end
end Lift
namespace Lift
open Go
open Go.RowKit (Below)
section
variable {P:Program} {T:Ty} {B:Nat} {F0:Nat→Prop} {w0:cX} {n:Nat} {σ σ':St} {R R':List LR} {all:Array Oper} {l rest:List Oper} {o:Oper} {d:Nat} {K:List LR→St→Prop} {p:lZ}
def zi(R:List LR):List Nat→Option (List LR)
 | []=>some []
 | i::r=>match R[i]?,zi R r with
   | some x,some xs=>some (x::xs)
   | _,_=>none
def Gr(R:List LR):List Nat→List LR→List LR
 | i::is,r::rs=>Gr (R.set i r) is rs
 | [],rs=>R++rs
 | _::_,[]=>R
theorem Bg: ∀{is:List Nat} {Rs:List LR},zi R is=some Rs→Rs.length=is.length∧ ∀(k:Nat) (r:LR),Rs[k]?=some r→ ∃i:Nat,is[k]?=some i∧R[i]?=some r
 | [],Rs,h=>by simp[zi] at h;subst h;exact⟨rfl,fun k r h=>by simp at h⟩
 | i::is,Rs,h=>by
   simp only[zi] at h;split at h<;>simp at h;rename_i x xs h1 h2;subst h;obtain ⟨g1,g2⟩:=Bg h2;refine⟨by simp[g1],fun k r hk=>?_⟩;cases k with
   | zero=>simp at hk;subst hk;exact⟨i,rfl,h1⟩
   | succ k=>simpa using g2 k r (by simpa using hk)
theorem Eo: ∀{is:List Nat} {Rs:List LR},zi R is=some Rs→ ∀i,i∈is→i<R.length
 | [],Rs,h,i,hi=>by cases hi
 | j::is,Rs,h,i,hi=>by
   simp only[zi] at h;split at h<;>simp at h;rename_i x xs h1 h2;rcases List.mem_cons.1 hi with rfl | hi
   · exact(List.getElem?_eq_some_iff.1 h1).1
   · exact Eo h2 i hi
theorem AR: ∀{is:List Nat} {R R1:List LR} {j:Nat} {r:LR},is.length≤R1.length→(∀i,i∈is→i<R.length)→is.Nodup→(Gr R is R1)[j]?=some r →
  (∃k:Nat,is[k]?=some j∧R1[k]?=some r)∨(j ∉ is∧j<R.length∧R[j]?=some r)∨ ∃k:Nat,j=R.length+k∧R1[is.length+k]?=some r
 | [],R,R1,j,r,_,_,_,h=>by
   have h:(R++R1)[j]?=some r:=by cases R1<;>simpa[Gr] using h
   rcases Nat.lt_or_ge j R.length with hj | hj
   · rw[List.getElem?_append_left hj] at h;exact .inr (.inl ⟨by simp,hj,h⟩)
   · rw[List.getElem?_append_right hj] at h;exact .inr (.inr ⟨j-R.length,by omega,by simpa using h⟩)
 | i::is,R,[],j,r,hl,_,_,h=>by simp at hl
 | i::is,R,x::R1,j,r,hl,hlt,hnd,h=>by
   simp only[Gr] at h;have hni:=(List.nodup_cons.1 hnd).1;have hil:=hlt i (by simp);rcases AR (is:=is) (R:=R.set i x) (by simpa using hl) (fun k hk=>by simpa using hlt k (by simp[hk])) (List.nodup_cons.1 hnd).2 h with ⟨k,g1,g2⟩ | ⟨g1,g2,g3⟩ | ⟨k,g1,g2⟩
   · exact .inl ⟨k+1,by simpa using g1,by simpa using g2⟩
   · by_cases hj:j=i
     · subst hj;rw[List.getElem?_set_self hil] at g3;exact .inl ⟨0,rfl,by simpa using g3⟩
     · rw[List.getElem?_set_ne (Ne.symm hj)] at g3;exact .inr (.inl ⟨by simp[hj,g1],by simpa using g2,g3⟩)
   · refine .inr (.inr ⟨k,by simpa using g1,?_⟩);rw[show (i::is).length+k=(is.length+k)+1 by simp;omega];simpa using g2
theorem FX{is:List Nat}(h:is.Nodup): ∀{j k x:Nat},is[j]?=some x→is[k]?=some x→j=k:=by
 intro j k x h1 h2;obtain ⟨a1,b1⟩:=List.getElem?_eq_some_iff.1 h1;obtain ⟨a2,b2⟩:=List.getElem?_eq_some_iff.1 h2;rcases Nat.lt_trichotomy j k with g | g | g
 · exact absurd (b1.trans b2.symm) (List.pairwise_iff_getElem.1 h j k a1 a2 g)
 · exact g
 · exact absurd (b2.trans b1.symm) (List.pairwise_iff_getElem.1 h k j a2 a1 g)
set_option maxHeartbeats 800000 in
theorem ak.jF(hT:bD P T){f:FuncId}{ds:List D}(is:List Nat){Rs:List LR}{Post:D→List LR→Prop}(hd:o.dst=some d)(hdn:Nat.ble (d+1) n=true)(hg:o.guard=none)(hx:tK T σ.get o.op=some (f,ds))(hsel:zi R is=some Rs)(hnd:is.Nodup)(hpin:kx p [o]=true)
  (hP:l3 P f ds Rs Post) (hlen: ∀res R1,Post res R1→is.length≤R1.length) (h: ∀res R1,Post res R1→ak P B F0 w0 n all rest K p (Gr R is R1) ((d,.d res)::σ)):ak P B F0 w0 n all (o::rest) K p R σ:=by
 intro a w hR hpins Q hQ;unfold wpList;rw[if_pos (by simp[Region.wanted,hg])];refine .inl ?_;obtain ⟨O,hOr,hO,hL⟩:=hR.own;obtain ⟨dst,op,ty,pos,after,guard⟩:=o;simp only[] at hd hx hg;have hdo: ∀v:Value,a.put dst v=a.put (some d) v:=fun v=>by rw[hd]
 have hpin':=nD hpin;cases op<;>simp only[tK] at hx<;>try (cases hx;done)
 rename_i c;obtain ⟨callee,args,ats⟩:=c;simp only[] at hx;split at hx<;>try (cases hx;done)
 rename_i g;split at hx<;>simp at hx;rename_i ds' hds;obtain ⟨rfl,rfl⟩:=hx;have hI:Inv P B F0 w0 (fun _=>True) σ.get σ.get a w O:=⟨hR.below,hR.base,hR.f0,hOr,fun t _ av h=>hO t av h,fun t av h _=>hO t av h⟩;have hr:=oL hT hI args.toList ats.toList ds' (fun x hx t ht=>trivial) hds;unfold Oper.wp;rw[lV hP.1];show Calls P g (args.map a.eval) w _
 let pass:Nat→Prop:=fun t=> ∃i,i∈is∧t=n+i
 let Oc:Nat→Option Nat:=fun b=>match O b with
  | some t=>if n≤t then is.idxOf? (t-n) else none
  | none=>none
 let Fc:Nat→Prop:=fun b=>FW B F0 w b∧ ∀t,O b=some t→pass t
 have hlt:=Eo hsel;obtain ⟨hsl,hsg⟩:=Bg hsel
 have hOc: ∀b k,Oc b=some k→ ∃i,is[k]?=some i∧O b=some (n+i):=fun b k h=>by
  simp only[Oc] at h;split at h
  · rename_i t ht;split at h
    · rename_i hnt;rw[List.idxOf?,List.findIdx?_eq_some_iff_getElem] at h;obtain ⟨h1,h2,_⟩:=h;refine⟨is[k],bP h1,?_⟩;have:is[k]=t-n:=by simpa using h2
      rw[this,ht];congr 1;omega
    · cases h
  · cases h
 have hOc': ∀b k i,is[k]?=some i→O b=some (n+i)→Oc b=some k:=fun b k i hk hb=>by
  simp only[Oc,hb];rw[if_pos (by omega),show n+i-n=i by omega,List.idxOf?,List.findIdx?_eq_some_iff_getElem];obtain ⟨h1,h2⟩:=List.getElem?_eq_some_iff.1 hk;refine⟨h1,by simp[h2],fun j hj=>?_⟩;intro hc;have hc:is[j]=i:=by simpa using hc
  have:=FX hnd (bP (by omega:j<is.length)) (by rw[hk,hc]:is[k]?=some is[j]);omega
 have hOcn: ∀b,(∀t,O b=some t→ ¬pass t)→Oc b=none:=fun b hb=>by
  cases h:Oc b with
  | none=>rfl
  | some k =>
    obtain ⟨i,h1,h2⟩:=hOc b k h;exact(hb _ h2 ⟨i,List.mem_of_getElem? h1,rfl⟩).elim
 have hOwn: ∀b,pq Oc b↔ ∃t,O b=some t∧pass t:=fun b=>by
  constructor
  · intro ⟨k,hk⟩;obtain ⟨i,h1,h2⟩:=hOc b k hk;exact⟨_,h2,i,List.mem_of_getElem? h1,rfl⟩
  · intro ⟨t,ht,i,hi,hti⟩;obtain ⟨k,hk,rfl⟩:=List.getElem_of_mem hi;subst hti;exact⟨k,hOc' b k _ (bP hk) ht⟩
 have hFlt: ∀b,FW B F0 w b→b<w.heap.size:=fun b hb=>(FW.step hR.f0 hR.base (ai _) b hb).1;have hfr: ∀c,aP O (FW B F0 w) c→aP Oc Fc c:=fun c hc=>⟨hOcn c (fun t ht=>by rw[hc.1] at ht;cases ht),hc.2,fun t ht=>by rw[hc.1] at ht;cases ht⟩
 have hc:=hP.2 w Fc Oc (args.toList.map a.eval) (fun b hb=>hFlt b hb.1) (fun b k hb=>by
   obtain ⟨i,h1,h2⟩:=hOc b k hb
   exact⟨(hOr b _ h2).fw hR.f0,fun t ht=>by rw[h2] at ht;cases ht;exact⟨i,List.mem_of_getElem? h1,rfl⟩⟩) hr.1 (fun i d v h1 h2=>(hr.2 i d v h1 h2).mono hfr (fun _ _=>rfl))
  (fun k r hk=>by
   obtain ⟨i,h1,h2⟩:=hsg k r hk
   exact(hL i r h2).owner (fun c hc=>hOc' c k i h1 hc) hfr)
 have he:(args.toList.map a.eval).toArray=args.map a.eval:=by apply Array.ext';simp
 rw[he] at hc;refine hc.mono fun ee w' ⟨v,res,R1,O1,he,hPost,hbel,hOr1,hrd,hL1⟩=>?_;subst he;show wpList P all Q rest (a.put dst v) w';have hsz:w.heap.size≤w'.heap.size:=hbel.size;have hlen1:=hlen res R1 hPost
 let tg:Nat→Nat:=fun k=>match is[k]? with
  | some i=>i
  | none=>R.length+(k-is.length)
 let cv:Option Nat→Option Nat:=fun x=>x.map (fun k=>n+tg k)
 let O3:Nat→Option Nat:=fun b=>match O b with
  | some t=>if t<n∨t-n ∉ is then some t else cv (O1 b)
  | none=>cv (O1 b)
 have hO1: ∀b k,O1 b=some k→O3 b=cv (O1 b):=fun b k hk=>by
  simp only[O3];split
  · rename_i t ht;rw[if_neg];intro hcon;rcases (hOr1 b k hk).1 with g1 | g1
    · have g1:w.heap.size≤b:=g1;have:=(hOr b t ht).2;omega
    · obtain ⟨t',h1,i,h2,h3⟩:=(hOwn b).1 g1;rw[ht] at h1;cases h1;subst h3;rcases hcon with h | h
      · omega
      · exact h (by rwa [show n+i-n=i by omega])
  · rfl
 have h3n: ∀c,(O c=none∨ ∃t,O c=some t∧pass t)→O1 c=none→O3 c=none:=fun c hc h1=>by
  simp only[O3];split
  · rename_i t ht;rcases hc with hc | ⟨t',h2,i,h3,h4⟩
    · rw[hc] at ht;cases ht
    · rw[ht] at h2;cases h2;subst h4;rw[if_neg (fun h=>?_),h1];rfl;rcases h with h | h
      · omega
      · exact h (by rwa [show n+i-n=i by omega])
  · rw[h1];rfl
 have hfree0: ∀c,aP O (FW B F0 w) c→aP O3 (FW B F0 w') c∧w'.heap[c]?=w.heap[c]?:=fun c hc=>by
  have hcl:=hFlt c hc.2
  have hnx: ¬pq Oc c:=fun h=>by
   obtain ⟨t,h1,_⟩:=(hOwn c).1 h;rw[hc.1] at h1;cases h1
  refine⟨⟨h3n c (.inl hc.1) ?_,?_⟩,hbel.block c hcl hnx⟩
  · cases h:O1 c with
    | none=>rfl
    | some k =>
      exfalso;rcases (hOr1 c k h).1 with g1 | g1
      · have g1:w.heap.size≤c:=g1;omega
      · exact hnx g1
  · rcases hc.2 with g | ⟨g1,g2⟩
    · exact .inl g
    · exact .inr ⟨g1,Nat.lt_of_lt_of_le g2 hsz⟩
 have hkeep: ∀t,¬pass t→ ∀c,O c=some t→O3 c=some t∧w'.heap[c]?=w.heap[c]?:=fun t ht c hc=>by
  have hnx: ¬pq Oc c:=fun h=>by
   obtain ⟨t',h1,h2⟩:=(hOwn c).1 h;rw[hc] at h1;cases h1;exact ht h2
  refine⟨?_,hbel.block c (hOr c t hc).2 hnx⟩;simp only[O3,hc];rw[if_pos];rcases Nat.lt_or_ge t n with h | h
  · exact .inl h
  · exact .inr (fun hm=>ht ⟨t-n,hm,by omega⟩)
 have hfree1: ∀c,aP O1 (FW w.heap.size Fc w') c→aP O3 (FW B F0 w') c:=fun c hc=>by
  rcases hc.2 with g | ⟨g1,g2⟩
  · refine⟨h3n c ?_ hc.1,?_⟩
    · cases h:O c with
      | none=>exact .inl rfl
      | some t=>exact .inr ⟨t,rfl,g.2 t h⟩
    · rcases g.1 with g | ⟨g1,g2⟩
      · exact .inl g
      · exact .inr ⟨g1,Nat.lt_of_lt_of_le g2 hsz⟩
  · refine⟨h3n c (.inl ?_) hc.1,.inr ⟨Nat.le_trans hR.base g1,g2⟩⟩;cases h:O c with
    | none=>rfl
    | some t=>have:=(hOr c t h).2;omega
 have hdn':d<n:=Nat.le_of_ble_eq_true hdn
 have hX: ∀b,pq Oc b→B≤b∨w0.X b:=fun b hb=>by
  obtain ⟨t,h1,_⟩:=(hOwn b).1 hb;exact(hOr b t h1).1
 rw[hdo v];refine h res R1 hPost (a.put (some d) v) w' ⟨hR.below.back (w1:=⟨w,pq Oc⟩) hR.base hX hbel,Nat.le_trans hR.base hsz,hR.f0,by simp[Act.put,hR.defers],by simp[Act.put,hR.size],O3,fun b t hb=>?_,fun t av hav=>?_,fun j r hj=>?_⟩ (fun e he=>?_) Q hQ
 · have e2: ∀k,O1 b=some k→j7 B w0 w' b:=fun k hk=>by
    refine⟨?_,(hOr1 b k hk).2⟩;rcases (hOr1 b k hk).1 with g | g
    · exact .inl (Nat.le_trans hR.base g)
    · exact hX b g
   have e3:cv (O1 b)=some t→j7 B w0 w' b:=fun h=>by
    cases h1:O1 b with
    | none=>rw[h1] at h;cases h
    | some k=>exact e2 k h1
   simp only[O3] at hb;split at hb
   · rename_i t' ht';split at hb
     · exact⟨(hOr b t' ht').1,Nat.lt_of_lt_of_le (hOr b t' ht').2 hsz⟩
     · exact e3 hb
   · exact e3 hb
 · rw[St.aM] at hav;split at hav
   · rename_i e;subst e;cases hav;exact⟨v,eT (by rw[hR.size];exact hdn'),hrd.mono hfree1 (fun _ _=>rfl)⟩
   · rename_i htd;obtain ⟨u,hu,hur⟩:=hO t av hav;have htn:t<n:=by rw[← hR.size];exact(Array.getElem?_eq_some_iff.1 hu).1
     refine⟨u,by rw[dF (Ne.symm htd)];exact hu,?_⟩;refine hur.move hfree0 (fun _ c hc=>hkeep t (fun ⟨i,_,hti⟩=>by omega) c hc) (fun k hk x hx hg=>?_);rw[St.aM] at hg;split at hg
     · cases hg;cases hx
     · rename_i hkd;exact⟨hg,dF (Ne.symm hkd)⟩
 · rcases AR hlen1 hlt hnd hj with ⟨k,g1,g2⟩ | ⟨g1,g2,g3⟩ | ⟨k,g1,g2⟩
   · exact(hL1 k r g2).owner (fun c hc=>by rw[hO1 c k hc,hc];simp only[cv,tg,g1,Option.map_some]) hfree1
   · rcases hL j r g3 with h | ⟨h1,h2,h3⟩
     · exact .inl h
     · exact .inr ⟨h1,h2,h3.move hfree0 (fun _ c hc=>hkeep (n+j) (fun ⟨i,hi,hti⟩=>g1 (by rwa [show j=i by omega])) c hc) (fun k _ x _ hk=>by cases hk)⟩
   · subst g1;refine(hL1 _ r g2).owner (fun c hc=>?_) hfree1;rw[hO1 c _ hc,hc];have:is[is.length+k]?=none:=List.getElem?_eq_none (by omega);simp only[cv,tg,this,Option.map_some]
     congr 2;omega
 · have hne:e.1≠d:=fun h=>hpin' e he _ (List.mem_singleton.2 rfl) (by simp only[];rw[h];exact hd);rw[dF hne];exact hpins e he
end
end Lift
namespace Lift
open Go
open Go.RowKit (Below)
section
variable {P:Program} {T:Ty} {B:Nat} {F0:Nat→Prop} {w0:cX} {n:Nat} {σ σ' τ σ0:St} {R R':List LR} {ops all:Array Oper} {l rest:List Oper} {o:Oper} {d:Nat} {lk hm:Nat→Option AV} {K:List LR→St→Prop} {p:lZ} {ds:List Nat}
def fh(V:Value)(k:Nat):Value:=match V with
 | .slice (some ⟨b,o,x⟩) _ _=> .pointer (some ⟨b,o+k,x⟩)
 | _=>undef
theorem Seen.plain{V:Value}{e:Nat}{xs:List D}(h:Seen P B F0 w0 V e xs)(k:Nat): ∃b cap,V= .slice (some ⟨b,0,none⟩) xs.length cap∧fh V k= .pointer (some ⟨b,k,none⟩):=by
 obtain ⟨b,cap,cs,rfl,_⟩:=h;exact⟨b,cap,rfl,by simp[fh]⟩
def J5(T:Ty)(lk:Nat→Option AV):Op→Option (Value×Nat×Int)
 | .indexAddr t x i=>match T.get t,dC T (ex T lk 0 x),kH (dC T (ex T lk 0 i)) with
   | some ti,some (.v V),some (.int _ iv)=>match Nat.beq ti.kind 4,T.get ti.elem with
     | true,some te=>some (V,te.size,iv)
     | _,_=>none
   | _,_,_=>none
 | _=>none
theorem aN.idxs(hT:bD P T){V:Value}{e s:Nat}{xs:List D}{iv:Int}(hS:Seen P B F0 w0 V e xs)(hd:o.dst=some d)(hn:hm d=none)(h:J5 T lk o.op=some (V,s,iv))(h0:0≤iv)(hl:iv.toNat<xs.length):aN P B F0 w0 d o lk hm (.d (.v (fh V (iv.toNat*s)))):=by
 refine⟨hd,hn,fun a w O hI K Q hK=>?_⟩;obtain ⟨dst,op,ty,pos,after,guard⟩:=o;simp only[] at hd h hI;cases op<;>simp only[J5] at h<;>try (cases h;done)
 rename_i t x i;split at h<;>try (cases h;done)
 rename_i ti V' k iv' hti hx hi;split at h<;>simp at h;rename_i te hk hte;obtain ⟨rfl,rfl,rfl⟩:=h;obtain ⟨info,dd,z,hok⟩:=hT t ti hti;obtain ⟨info',dd',z',hok'⟩:=hT _ te hte;have hxv:=(dX hT hI (fun t ht=>by subst ht;simp[Op.operands]) hx).kn.1;have hiv:=(cR hT hI (fun t ht=>by subst ht;simp[Op.operands]) hi).1;obtain ⟨b,cap,hV,hp⟩:=hS.plain (iv'.toNat*te.size);rw[hV] at hxv;refine bg (v:=fh V' (iv'.toNat*te.size)) (w':=w) ?_ (hK _ w O (du.refl hI.lt) (.v (by rw[hp];rfl)));have h1:0≤iv'∧iv'<(xs.length:Int):=by omega
 rw[hp];simp[execOp,Instr.indexAt,hxv,hiv,asIntOf,run_underlying (hok.jy hk).1,h1,Go.sizeOf,typeInfo,hok'.hinfo,hok'.size,Addr.add_lit]
def EI(T:Ty)(lk:Nat→Option AV):Op→Option (TI×Value)
 | .load t x=>match T.get t,dC T (ex T lk 0 x) with
   | some ti,some (.v V)=>some (ti,V)
   | _,_=>none
 | _=>none
theorem aN.eH(hT:bD P T){V:Value}{e i s:Nat}{xs:List D}{ti te:TI}{y:D}{av:AV}(hS:Seen P B F0 w0 V e xs)(hd:o.dst=some d)(hn:hm d=none)(h:EI T lk o.op=some (ti,fh V (i*s)))(hte:T.get e=some te)(hs:te.size=s)(hy:xs[i]?=some y)(hav:kC ti y.flat=some av):
  aN P B F0 w0 d o lk hm av:=by
 refine⟨hd,hn,fun a w O hI K Q hK=>?_⟩;obtain ⟨dst,op,ty,pos,after,guard⟩:=o;simp only[] at hd h hI;cases op<;>simp only[EI] at h<;>try (cases h;done)
 rename_i t x;split at h<;>simp at h;rename_i ti' V' hti hx;obtain ⟨rfl,rfl⟩:=h;obtain ⟨info,dd,z,hok⟩:=hT t ti' hti;obtain ⟨info',dd',z',hok'⟩:=hT _ te hte;have hxv:=(dX hT hI (fun t ht=>by subst ht;simp[Op.operands]) hx).kn.1;obtain ⟨b,cap,cs,hV,h1,h2,h3,h4,h5⟩:=hS;have hp:fh V (i*s)= .pointer (some ⟨b,i*s,none⟩):=by rw[hV];simp[fh]
 rw[hp] at hxv;have hb:w.heap[b]?=some (.cells cs e (0,0)):=by rw[hI.below.block b h1 h2];exact h3
 have hsz:P.cellsOf e=s:=by rw[hok'.cellsOf,hs]
 obtain ⟨x',v,rfl,hrun,hrd⟩:=lQ (F:=aP O (FW B F0 w)) hok hb (off:=i*s) (fun j z hj=>by
  have hlt:j<P.cellsOf e:=by rw[← h4 y (List.mem_of_getElem? hy)];exact(List.getElem?_eq_some_iff.1 hj).1
  have:=cO j h4 hy hlt;rw[hj] at this;obtain ⟨f1,u,f2,f3⟩:=h5 _ z this
  exact⟨f1,u,by rw[← hsz];exact f2,f3 w O hI.below hI.orange⟩) hav
 exact bg (v:=v) (w':=w) (by simp[execOp,Instr.loadAt,Instr.sureAddr,hxv,hrun]) (hK _ w O (du.refl hI.lt) hrd)
def J0(T:Ty)(lk:Nat→Option AV):Op→Option Value
 | .call c=>match c.callee with
   | .builtin .len=>match c.args.toList,c.argTypes.toList with
     | [x],[t]=>match T.get t,dC T (ex T lk 0 x) with
       | some i,some (.v V)=>match Nat.beq i.kind 4 with
         | true=>some V
         | false=>none
       | _,_=>none
     | _,_=>none
   | _=>none
 | _=>none
theorem aN.lens(hT:bD P T){V:Value}{e:Nat}{xs:List D}(hS:Seen P B F0 w0 V e xs)(hd:o.dst=some d)(hn:hm d=none)(h:J0 T lk o.op=some V):aN P B F0 w0 d o lk hm (.d (.v (.int .i64 (xs.length:Int)))):=by
 refine⟨hd,hn,fun a w O hI K Q hK=>?_⟩;obtain ⟨dst,op,ty,pos,after,guard⟩:=o;simp only[] at hd h hI;cases op<;>simp only[J0] at h<;>try (cases h;done)
 rename_i c;obtain ⟨callee,args,ats⟩:=c;simp only[] at h;split at h<;>try (cases h;done)
 split at h<;>try (cases h;done)
 rename_i x t hargs hats;split at h<;>try (cases h;done)
 rename_i i V' hti hx;split at h<;>simp at h;rename_i hk;subst h;obtain ⟨info,dd,z,hok⟩:=hT t i hti;have hargs':args= #[x]:=by apply Array.ext';simpa using hargs
 have hats':ats= #[t]:=by apply Array.ext';simpa using hats
 subst hargs';subst hats';have hxv:=(dX hT hI (fun t ht=>by subst ht;simp[Op.operands,Call.operands]) hx).kn.1;obtain ⟨b,cap,hV,_⟩:=hS.plain 0;refine bg (v:= .int .i64 (xs.length:Int)) (w':=w) ?_ (hK _ w O (du.refl hI.lt) (.v rfl))
 have hrun:(Builtin.len_ #[t] ty #[V']).run P w= .ok (.int .i64 (xs.length:Int)) w:=by
  rw[hV];simp[Builtin.len_,run_underlying (hok.jy hk).1,goInt]
 simp[execOp,resolve,invoke,builtin,hxv,hrun]
theorem ae.idxs(hT:bD P T){K:St→Prop}{V:Value}{e s:Nat}{xs:List D}{iv:Int}(hS:Seen P B F0 w0 V e xs)(hd:o.dst=some d)(hdn:Nat.ble (d+1) n=true)(hg:aG all σ o=true)(hx:J5 T σ.get o.op=some (V,s,iv))(h0:0≤iv)(hl:iv.toNat<xs.length)
  (h:ae P B F0 w0 n all rest K ((d,.d (.v (fh V (iv.toNat*s))))::σ)):ae P B F0 w0 n all (o::rest) K σ:=ae.pure hg hdn (aN.idxs hT hS hd (bu σ d) hx h0 hl) h
theorem ae.eH(hT:bD P T){K:St→Prop}{V:Value}{e i s:Nat}{xs:List D}{ti te:TI}{x:D}(y:D)(hS:Seen P B F0 w0 V e xs)(hd:o.dst=some d)(hdn:Nat.ble (d+1) n=true)(hg:aG all σ o=true)(hx:EI T σ.get o.op=some (ti,fh V (i*s)))(hte:T.get e=some te)(hs:te.size=s)(hy:xs[i]?=some y)(hav:kC ti y.flat=some (.d x))
  (h:ae P B F0 w0 n all rest K ((d,.d x)::σ)):ae P B F0 w0 n all (o::rest) K σ:=ae.pure hg hdn (aN.eH hT hS hd (bu σ d) hx hte hs hy hav) h
theorem ae.lens(hT:bD P T){K:St→Prop}{V:Value}{e:Nat}{xs:List D}(hS:Seen P B F0 w0 V e xs)(hd:o.dst=some d)(hdn:Nat.ble (d+1) n=true)(hg:aG all σ o=true)(hx:J0 T σ.get o.op=some V)
  (h:ae P B F0 w0 n all rest K ((d,.d (.v (.int .i64 (xs.length:Int))))::σ)):ae P B F0 w0 n all (o::rest) K σ:=ae.pure hg hdn (aN.lens hT hS hd (bu σ d) hx) h
theorem ah.idxs(hT:bD P T){K:St→Prop}{V:Value}{e s:Nat}{xs:List D}{iv:Int}(hS:Seen P B F0 w0 V e xs)(hd:o.dst=some d)(hdn:Nat.ble (d+1) n=true)(hg:aG ops τ o=true)(hs:σ0.get d=none)(hx:J5 T τ.get o.op=some (V,s,iv))(h0:0≤iv)(hl:iv.toNat<xs.length)
  (h:ah P B F0 w0 n ops ds σ0 rest ((d,.d (.v (fh V (iv.toNat*s))))::τ) K):ah P B F0 w0 n ops ds σ0 (o::rest) τ K:=ah.pure hd hdn rfl hg (aN.idxs hT hS hd hs hx h0 hl) h
theorem ah.eH(hT:bD P T){K:St→Prop}{V:Value}{e i s:Nat}{xs:List D}{ti te:TI}{x:D}(y:D)(hS:Seen P B F0 w0 V e xs)(hd:o.dst=some d)(hdn:Nat.ble (d+1) n=true)(hg:aG ops τ o=true)(hs:σ0.get d=none)(hx:EI T τ.get o.op=some (ti,fh V (i*s)))(hte:T.get e=some te)(hs2:te.size=s)(hy:xs[i]?=some y)(hav:kC ti y.flat=some (.d x))
  (h:ah P B F0 w0 n ops ds σ0 rest ((d,.d x)::τ) K):ah P B F0 w0 n ops ds σ0 (o::rest) τ K:=ah.pure hd hdn rfl hg (aN.eH hT hS hd hs hx hte hs2 hy hav) h
theorem ah.lens(hT:bD P T){K:St→Prop}{V:Value}{e:Nat}{xs:List D}(hS:Seen P B F0 w0 V e xs)(hd:o.dst=some d)(hdn:Nat.ble (d+1) n=true)(hg:aG ops τ o=true)(hs:σ0.get d=none)(hx:J0 T τ.get o.op=some V)
  (h:ah P B F0 w0 n ops ds σ0 rest ((d,.d (.v (.int .i64 (xs.length:Int))))::τ) K):ah P B F0 w0 n ops ds σ0 (o::rest) τ K:=ah.pure hd hdn rfl hg (aN.lens hT hS hd hs hx) h
def xa(P:Program)(B:Nat)(F0:Nat→Prop)(w0:cX)(R:List LR):Prop:= ∀(i:Nat) (V:Value) (e:Nat) (xs:List D),R[i]?=some (V,.ow e xs)→xs≠[]→Seen P B F0 w0 V e xs
theorem xa.at{i:Nat}{V:Value}{e:Nat}{xs:List D}(h:xa P B F0 w0 R)(hi:R[i]?=some (V,.ow e xs))(hne:0<xs.length):Seen P B F0 w0 V e xs:=h i V e xs hi (fun e=>by subst e;simp at hne)
theorem ak.No(k:Nat)(hp:kx p (l.take k)=true)(h: ∀B1 F1 w1,xa P B1 F1 w1 R→ae P B1 F1 w1 n all (l.take k) (fun σ'=>σ'.gk=true∧ak P B F0 w0 n all (l.drop k) K p R σ') σ):ak P B F0 w0 n all l K p R σ:=by
 intro a w hR hpin Q hQ;obtain ⟨B1,F1,w1,hR1,hS,hback⟩:=hR.Jq;rw[← List.take_append_drop k l];refine jc (l.drop k) (l.take k) a w ?_;have h1:=h B1 F1 w1 hS a w hR1 (fun e a' w'=>e= .normal∧ ∃σ',σ'.gk=true∧ak P B F0 w0 n all (l.drop k) K p R σ'∧cH P B F0 w0 n R σ' a' w') (fun a' w' σ' ⟨h1,h2⟩ hR'=>⟨rfl,σ',h1,h2,hback σ' a' w' h1 hR'⟩);refine gG (fun e a' w' ⟨⟨he,σ',_,h2,h3⟩,h4⟩=>?_) (kM hpin (nD hp) h1);subst he;exact h2 a' w' h3 (h4 rfl) Q hQ
variable {Q:Exit→List LR→St→Prop} {x:Code}
theorem AZ.LX(h: ∀B1 F1 w1,xa P B1 F1 w1 R→AW P B1 F1 w1 n x (fun e σ'=>σ'.gk=true∧Q e R σ') σ):AZ P B F0 w0 n x Q R σ:=by
 intro a w hR;obtain ⟨B1,F1,w1,hR1,hS,hback⟩:=hR.Jq;exact wp_mono (h B1 F1 w1 hS a w hR1) fun e a' w' ⟨σ',⟨h1,h2⟩,hR'⟩=>⟨R,σ',h2,hback σ' a' w' h1 hR'⟩
theorem AZ.Hh{id:Nat}(h: ∀B1 F1 w1,xa P B1 F1 w1 R→ae P B1 F1 w1 n ops ops.toList (fun σ'=>σ'.gk=true∧Q .normal R σ') σ):AZ P B F0 w0 n (.region id ops false) Q R σ :=
 AZ.LX fun B1 F1 w1 hS=>AW.region (h B1 F1 w1 hS)
theorem lX.Cn(m:Nat)(hB:wI ops m=true)
  (h: ∀B1 F1 w1,xa P B1 F1 w1 R→ah P B1 F1 w1 n ops (eC ops m) (σ.less (eC ops m)) (ops.toList.take m) (σ.less (eC ops m)) (fun τ=>τ.gk=true∧ak P B F0 w0 n ops (ops.toList.drop m) (Q .normal) [] R τ)):lX P B F0 w0 n ops Q R σ:=by
 intro a w hR;obtain ⟨B1,F1,w1,hR1,hS,hback⟩:=hR.Jq;exact xi.Ik m hB (fun τ a' w' ⟨ht,hz⟩ hR'=>hz a' w' (hback τ a' w' ht hR') (fun e he=>by cases he) _ (fun a w R' σ' hk hr=>⟨R',σ',hk,hr⟩)) (h B1 F1 w1 hS) a w hR1
theorem cH.el{t u e k:Nat}{V:Value}{xs:List D}{a:Act}{w:World}(hR:cH P B F0 w0 n R σ a w)(ht:σ.get t=some (.ow e xs))(hV:a.tmps[t]?=some V)(hu:σ.get u=some (.d (.v (fh V (k*P.cellsOf e)))))(hk:k<xs.length)(htu:t≠u):
  cH P B F0 w0 n R ((u,.el t k 0)::σ) a w:=by
 obtain ⟨O,hOr,hO,hL⟩:=hR.own;obtain ⟨v,hv,hr⟩:=hO t _ ht;rw[hV] at hv;cases hv;refine⟨hR.below,hR.base,hR.f0,hR.defers,hR.size,O,hOr,fun j av hj=>?_,hL⟩
 have hkeep: ∀j x,x.home=true→St.get ((u,AV.el t k 0)::σ) j=some x→σ.get j=some x∧a.tmps[j]?=a.tmps[j]?:=fun j x hx hj=>by
  rw[St.aM] at hj;split at hj
  · cases hj;cases hx
  · exact⟨hj,rfl⟩
 rw[St.aM] at hj;split at hj
 · rename_i e';subst e';cases hj;obtain ⟨v',hv',hr'⟩:=hO u _ hu;refine⟨v',hv',fun x e' l hx hrow=>?_⟩;have hx':=(hkeep t x (dy (by rw[hrow];rfl)) hx).1;rw[ht] at hx';cases hx';simp only[AV.row,Option.some.injEq,Prod.mk.injEq] at hrow;obtain ⟨rfl,rfl⟩:=hrow;refine⟨hk,?_⟩;rcases hr with ⟨_,_,h⟩ | ⟨b,cap,cs,rfl,_⟩
   · subst h;simp at hk
   refine⟨b,0,_,cap,hV,?_⟩;have:=(Rd.kn hr').1;rw[this];simp[fh]
 · obtain ⟨z,hz,hzr⟩:=hO j av hj;exact⟨z,hz,hzr.move (fun c hc=>⟨hc,rfl⟩) (fun _ c hc=>⟨hc,rfl⟩) (fun k _ x hx hk=>hkeep k x hx hk)⟩
theorem ak.el(hT:bD P T)(t u:Nat){e k s:Nat}{V:Value}{xs:List D}{te:TI}(ht:σ.get t=some (.ow e xs))(hp:(t,V)∈p)(hu:σ.get u=some (.d (.v (fh V (k*s)))))(hte:T.get e=some te)(hs:te.size=s)(hk:k<xs.length)(htu:Nat.beq t u=false)
  (h:ak P B F0 w0 n all l K p R ((u,.el t k 0)::σ)):ak P B F0 w0 n all l K p R σ:=by
 intro a w hR hpin Q hQ;obtain ⟨info,d,z,hok⟩:=hT e te hte;exact h a w (hR.el ht (hpin _ hp) (by rw[hok.cellsOf,hs];exact hu) hk (Nat.ne_of_beq_eq_false htu)) hpin Q hQ
end
end Lift
namespace Lift
open Go
open Go.RowKit (Below)
section
variable {P:Program} {T:Ty} {B:Nat} {F0:Nat→Prop} {w0:cX} {n:Nat} {σ:St} {ops E:Array Oper}
variable {Q:Exit→Act→World→Prop}
end
end Lift
namespace Lift
open Go
open Go.RowKit (Below)
section
variable {P:Program} {T:Ty} {B:Nat} {F0:Nat→Prop} {w0:cX} {n:Nat} {σ:St} {ops:Array Oper} {K:St→Prop}
namespace D2
variable {lt:List (Nat×Bool)} {m:Nat} {hs ds:List Nat} {σ0:St} {tl wl:List (Nat×AV)} (H:D2 P T B F0 w0 n ops lt m hs ds σ0 tl wl)
include H
end D2
variable {σ0:St}
end
end Lift
namespace Lift
open Go
open Go.RowKit (Below)
section
variable {P:Program} {T:Ty} {B:Nat} {F0:Nat→Prop} {w0:cX} {n:Nat} {σ:St} {R R':List LR} {x:Code} {Q:Exit→List LR→St→Prop} {K:List LR→St→Prop} {p:lZ} {all:Array Oper} {l:List Oper}
theorem cH.GL{a:Act}{w:World}{i j:Nat}{ri rj:LR}(hi:R[i]?=some ri)(hj:R[j]?=some rj)(hR:cH P B F0 w0 n R σ a w):cH P B F0 w0 n ((R.set i rj).set j ri) σ a w:=by
 obtain ⟨O,hOr,hO,hL⟩:=hR.own
 have hlt: ∀t av,σ.get t=some av→t<n:=fun t av h=>by
  obtain ⟨v,hv,_⟩:=hO t av h;rw[← hR.size];exact(Array.getElem?_eq_some_iff.1 hv).1
 have hF: ∀c,aP O (FW B F0 w) c→aP (rV O (n+i) (n+j)) (FW B F0 w) c:=fun c hc=>⟨ff.2 hc.1,hc.2⟩;refine⟨hR.below,hR.base,hR.f0,hR.defers,hR.size,rV O (n+i) (n+j),nq hOr,fun t av h=>?_,fun k r hr=>?_⟩
 · obtain ⟨v,hv,hr⟩:=hO t av h;have:=hlt t av h;exact⟨v,hv,hr.move (fun c hc=>⟨hF c hc,rfl⟩) (fun _ c hc=>⟨fN hc (by omega) (by omega),rfl⟩) (fun k _ x _ hk=>⟨hk,rfl⟩)⟩
 · have hil:=(List.getElem?_eq_some_iff.1 hi).1;have hjl:=(List.getElem?_eq_some_iff.1 hj).1;by_cases hkj:k=j
   · subst hkj;rw[List.getElem?_set_self (by simpa using hjl)] at hr;cases hr;exact(hL i _ hi).owner (fun c hc=>by simp[rV,hc]) hF
   · rw[List.getElem?_set_ne (Ne.symm hkj)] at hr;by_cases hki:k=i
     · subst hki;rw[List.getElem?_set_self hil] at hr;cases hr;exact(hL j _ hj).owner (fun c hc=>by simp only[rV,hc];rw[if_neg (by simp;omega)];simp) hF
     · rw[List.getElem?_set_ne (Ne.symm hki)] at hr;exact(hL k _ hr).owner (fun c hc=>fN hc (by omega) (by omega)) hF
theorem AZ.GL{ri rj:LR}(i j:Nat)(hi:R[i]?=some ri)(hj:R[j]?=some rj)(h:AZ P B F0 w0 n x Q ((R.set i rj).set j ri) σ):AZ P B F0 w0 n x Q R σ:=fun a w hR=>h a w (hR.GL hi hj)
theorem AZ.KS(R':List LR)(hd: ∀(i:Nat) (r:LR),R'[i]?=some r→R[i]?=some r∨r.2= .junk)(h:AZ P B F0 w0 n x Q R' σ):AZ P B F0 w0 n x Q R σ:=fun a w hR=>h a w (hR.drop hd)
theorem NU{i j:Nat}{x y:LR}(hi:R[i]?=some x)(hj:R[j]?=some y):zi R [i,j]=some [x,y]:=by simp[zi,hi,hj]
end
end Lift
namespace Lift
open Go
open Go.RowKit (Below)
section
variable {P:Program} {T:Ty} {B:Nat} {F0:Nat→Prop} {w0:cX} {n:Nat} {σ σ' τ σ0:St} {R R':List LR} {ops all:Array Oper} {l rest:List Oper} {o:Oper} {d:Nat} {lk hm:Nat→Option AV} {K:List LR→St→Prop} {p:lZ} {ds:List Nat}
end
end Lift
namespace Lift
open Go
open Go.RowKit (Below)
section
variable {P:Program} {T:Ty} {B:Nat} {F0:Nat→Prop} {w0:cX} {n:Nat} {σ σ' τ:St} {R R':List LR} {ops:Array Oper} {o:Oper} {d:Nat} {Q:Exit→List LR→St→Prop} {a:Act} {w:World}
abbrev gZ:=List (Nat×List D)
def SB(β:gZ)(bl:Nat→Nat)(w:World):Prop:= ∀t ds,(t,ds)∈β→ ∀(i:Nat) (u:Value),ds[i]?=some (.v u)→ ∃cs e fz,w.heap[bl t]?=some (.cells cs e fz)∧cs[i]?=some u
def fZ(β:gZ)(bl:Nat→Nat):lZ:=β.map fun x=>(x.1,.pointer (some ⟨bl x.1,0,none⟩))
def od(σ:St):gZ→Prop
 | []=>True
 | (t,ds)::r=>σ.get t=some (.bx ds)∧od σ r
theorem od.get: ∀{β:gZ},od σ β→ ∀t ds,(t,ds)∈β→σ.get t=some (.bx ds)
 | [],_,t,ds,h=>by cases h
 | (t',ds')::r,h,t,ds,hm=>by
   rcases List.mem_cons.1 hm with e | e
   · cases e;exact h.1
   · exact od.get h.2 t ds e
theorem vN{β:gZ}{bl:Nat→Nat}(h:lD (fZ β bl) a){t:Nat}{ds:List D}(hm:(t,ds)∈β):a.tmps[t]?=some (.pointer (some ⟨bl t,0,none⟩)) :=
 h (t,_) (List.mem_map.2 ⟨(t,ds),hm,rfl⟩)
theorem IX{β:gZ}{bl:Nat→Nat}(hR:cH P B F0 w0 n R σ a w)(hσ:od σ β)(hp:lD (fZ β bl) a):SB β bl w:=by
 intro t ds hm i u hu;obtain ⟨O,_,hO,_⟩:=hR.own;obtain ⟨v,hv,b,cs,e,rfl,_,g2,g3⟩:=hO t _ (hσ.get t ds hm);rw[vN hp hm] at hv;simp only[Option.some.injEq,Value.pointer.injEq,Addr.mk.injEq] at hv;obtain ⟨rfl,_,_⟩:=hv;obtain ⟨_,u',h1,h2⟩:=g3.get hu;rw[(Rd.kn h2).1] at h1;exact⟨cs,e,_,g2,by simpa using h1⟩
def ZH(P:Program)(B:Nat)(F0:Nat→Prop)(w0:cX)(n:Nat)(ops:Array Oper)(Q:Exit→List LR→St→Prop)(β:gZ)(fuel:Nat)(listed:Array Bool)(R:List LR)(σ:St):Prop :=
 od σ β∧ ∀(bl:Nat→Nat) (a:Act) (w:World),cH P B F0 w0 n R σ a w→lD (fZ β bl) a →
  wpAnyH P .any ops (fun e a' w'=> ∃R' σ',Q e R' σ'∧cH P B F0 w0 n R' σ' a' w') (SB β bl) fuel listed a w
theorem cH.drew(hR:cH P B F0 w0 n R σ a w):cH P B F0 w0 n R σ a {w with drawn:=w.drawn+1}:=by
 obtain ⟨O,hOr,hO,hL⟩:=hR.own;refine⟨hR.below.drew,hR.base,hR.f0,hR.defers,hR.size,O,hOr,fun t av h=>?_,fun i r hr=>?_⟩
 · obtain ⟨v,hv,hr⟩:=hO t av h;exact⟨v,hv,hr.move (fun c hc=>⟨hc,rfl⟩) (fun _ c hc=>⟨hc,rfl⟩) (fun k _ x _ hk=>⟨hk,rfl⟩)⟩
 · rcases hL i r hr with h | ⟨g1,g2,g3⟩
   · exact .inl h
   · exact .inr ⟨g1,g2,g3.move (fun c hc=>⟨hc,rfl⟩) (fun _ c hc=>⟨hc,rfl⟩) (fun k _ x _ hk=>by cases hk)⟩
theorem ZH.any{β:gZ}(h:ZH P B F0 w0 n ops Q β ops.size (Array.replicate ops.size false) R σ):lX P B F0 w0 n ops Q R σ:=by
 intro a w hR;refine wpAny_of_held _ _ _ _ (h.2 (fun t=>match a.tmps[t]? with | some (.pointer (some ⟨b,_,_⟩))=>b | _=>0) a _ hR.drew (fun e he=>?_));obtain ⟨⟨t,ds⟩,hm,rfl⟩:=List.mem_map.1 he;obtain ⟨O,_,hO,_⟩:=hR.own;obtain ⟨v,hv,b,cs,e,rfl,_⟩:=hO t _ (h.1.get t ds hm);show a.tmps[t]?=some _;simp only[hv]
theorem vj{β:gZ}{bl:Nat→Nat}{K:List LR→St→Prop}(hpn:kx (fZ β bl) [o]=true)(h:ak P B F0 w0 n ops [o] K [] R σ)(hR:cH P B F0 w0 n R σ a w)(hp:lD (fZ β bl) a):
  wpList P ops (fun e a' w'=>(e= .normal∧ ∃R' σ',K R' σ'∧cH P B F0 w0 n R' σ' a' w')∧(e= .normal→lD (fZ β bl) a')) [o] a w :=
 kM hp (nD hpn) (h a w hR (fun e he=>by cases he) _ (fun a w R' σ' h1 h2=>⟨rfl,R',σ',h1,h2⟩))
theorem ZH.all{β:gZ}{fuel:Nat}{listed:Array Bool}(i:Nat)(hr:Region.ready .any ops listed=[i])(ho:ops[i]?=some o)(hg:o.guard=none)(hpn: ∀bl,kx (fZ β bl) [o]=true)(hσ:od σ β)
  (h:ak P B F0 w0 n ops [o] (fun R' σ'=>ZH P B F0 w0 n ops Q β fuel (listed.setIfInBounds i true) R' σ') [] R σ):ZH P B F0 w0 n ops Q β (fuel+1) listed R σ:=by
 refine⟨hσ,fun bl a w hR hp=>wpAnyH_all hr (by simp) (fun j hj=>?_)⟩;rw[List.mem_singleton] at hj;subst hj;have h1:=vj (hpn bl) h hR hp;have hw:Region.wanted o (yielded ops a.tmps)=true:=by simp[Region.wanted,hg]
 unfold wpOp;simp only[ho,hw,if_true];unfold wpList at h1;rw[if_pos hw] at h1;rcases h1 with h1 | ⟨_,a1,w1,⟨h2,_⟩,_⟩
 · refine .inl (oh (fun c a w h=>by cases h.1.1) (fun ⟨a,w,h⟩=>by cases h.1.1) (fun v dd w' hn=>?_) h1);unfold wpList at hn;obtain ⟨⟨_,R',σ',h2,h3⟩,h4⟩:=hn;exact⟨IX h3 h2.1 (h4 rfl),h2.2 bl _ _ h3 (h4 rfl)⟩
 · cases h2
theorem ZH.done{β:gZ}{fuel:Nat}{listed:Array Bool}(hr:Region.ready .any ops listed=[])(hσ:od σ β)(h:Q .normal R σ):ZH P B F0 w0 n ops Q β fuel listed R σ :=
 ⟨hσ,fun bl a w hR hp=>wpAnyH_done hr ⟨R,σ,h,hR⟩ fuel⟩
theorem ZH.to{β:gZ}{fuel:Nat}{listed:Array Bool}(ks:List Nat)(τ:St)(h:σ.dJ ks=τ)(hσ:od σ β)(hk:ZH P B F0 w0 n ops Q β fuel listed R τ):ZH P B F0 w0 n ops Q β fuel listed R σ :=
 ⟨hσ,fun bl a w hR hp=>hk.2 bl a w (h▸hR.dJ ks) hp⟩
theorem ZH.first{β:gZ}{fuel:Nat}{listed:Array Bool}(i:Nat)(ho:ops[i]?=some o)(hg:o.guard=none)(hs:Region.noSelect ops=true)(hf:Region.free .any ops listed i=true)(hr:(Region.ready .any ops listed).contains i=true)
  (hpan: ∀c R σ,Q (.panic c) R σ→False) (hpn: ∀bl,kx (fZ β bl) [o]=true) (hσ:od σ β)
  (hy: ∀bl a w,cH P B F0 w0 n R σ a w→lD (fZ β bl) a→ ∃v,∀w',SB β bl w'→(execOp a.eval o).run P w'= .ok (.value v) w')
  (h:ak P B F0 w0 n ops [o] (fun R' σ'=>ZH P B F0 w0 n ops Q β fuel (listed.setIfInBounds i true) R' σ') [] R σ):ZH P B F0 w0 n ops Q β (fuel+1) listed R σ:=by
 refine⟨hσ,fun bl a w hR hp=>?_⟩;obtain ⟨v,hv⟩:=hy bl a w hR hp;have hS:=IX hR hσ hp;have hw:Region.wanted o (yielded ops a.tmps)=true:=by simp[Region.wanted,hg]
 refine wpAnyH_take ho hs hf hr (fun c a' w' hq=>?_) (.inl ⟨hw,hv⟩) hS ?_
 · obtain ⟨R',σ',hq,_⟩:=hq;exact(hpan c R' σ' hq).elim
 have h1:=vj (hpn bl) h hR hp;unfold wpList at h1;rw[if_pos hw] at h1;rcases h1 with h1 | ⟨_,a1,w1,⟨h2,_⟩,_⟩
 · unfold Oper.wp at h1;rw[hv w hS] at h1;simp only[Oper.upon] at h1;unfold wpList at h1;obtain ⟨⟨_,R',σ',h2,h3⟩,h4⟩:=h1;exact h2.2 bl _ _ h3 (h4 rfl)
 · cases h2
def Dp:Op→Bool
 | .move _=>true
 | _=>false
theorem HG(h:Dp o.op=true)(a:Act): ∃v,∀w',(execOp a.eval o).run P w'= .ok (.value v) w':=by
 obtain ⟨dst,op,ty,pos,after,guard⟩:=o;simp only[] at h;cases op<;>simp only[Dp] at h<;>try (cases h;done)
 rename_i x;exact⟨a.eval x,fun w'=>by simp[execOp]⟩
def NH(T:Ty)(σ:St)(β:gZ):Op→Option (TI×Nat×Nat×List D×Value)
 | .load t (.tmp s)=>match T.get t,σ.get s with
   | some i,some (.pt h off)=>match β.find? (fun x=>Nat.beq x.1 h) with
     | some (_,ds)=>match ds[off]? with
       | some (.v u)=>some (i,h,off,ds,u)
       | _=>none
     | none=>none
   | _,_=>none
 | _=>none
theorem LH(hT:bD P T){β:gZ}{bl:Nat→Nat}{i:TI}{h off:Nat}{ds:List D}{u:Value}(hR:cH P B F0 w0 n R σ a w)(hσ:od σ β)(hp:lD (fZ β bl) a)(hx:NH T σ β o.op=some (i,h,off,ds,u))(hl:kC i [.v u]=some (.d (.v u))):
  ∃v,∀w',SB β bl w'→(execOp a.eval o).run P w'= .ok (.value v) w':=by
 obtain ⟨dst,op,ty,pos,after,guard⟩:=o;simp only[] at hx;cases op<;>simp only[NH] at hx<;>try (cases hx;done)
 rename_i t x;cases x<;>simp only[NH] at hx<;>try (cases hx;done)
 rename_i s;split at hx<;>try (cases hx;done)
 rename_i i' h' off' hi hs;split at hx<;>try (cases hx;done)
 rename_i t' ds' hfind;split at hx<;>try (cases hx;done)
 rename_i u' hu;simp only[Option.some.injEq,Prod.mk.injEq] at hx;obtain ⟨rfl,rfl,rfl,rfl,rfl⟩:=hx;have hm:=List.mem_of_find?_eq_some hfind;have he:t'=h':=Nat.eq_of_beq_eq_true (@List.find?_some _ (fun x=>Nat.beq x.1 h') (t',ds') β hfind);subst he;obtain ⟨info,dd,z,hok⟩:=hT t i' hi;obtain ⟨O,hOr,hO,_⟩:=hR.own;obtain ⟨v,hv,hr⟩:=hO s _ hs;obtain ⟨b,hb,rfl⟩:=hr ds' (hσ.get t' ds' hm);obtain ⟨_,_,_,_,_,_,_,_,g3⟩:=hO t' _ (hσ.get t' ds' hm);obtain ⟨hc,u2,_,hr2⟩:=g3.get hu;have hpl:=(Rd.kn hr2).2;have hb:a.tmps[t']?=some (.pointer (some ⟨b,0,none⟩)):=hb;rw[vN hp hm] at hb;simp only[Option.some.injEq,Value.pointer.injEq,Addr.mk.injEq] at hb;obtain ⟨rfl,_,_⟩:=hb;have hev:a.eval (.tmp s)= .pointer (some ⟨bl t',off',none⟩):=gn hv;refine⟨u',fun w' hS=>?_⟩;obtain ⟨cs,e,fz,h1,h2⟩:=hS t' ds' hm off' u' hu
 obtain ⟨x,v,hx,hrun,hrd⟩:=lQ (w:=w') hok h1 (off:=off') (F:=fun _=>True) (ds:=[.v u']) (fun j z hj=>by
  cases j with
  | zero=>simp at hj;subst hj;exact⟨hc,u',h2,.v hpl⟩
  | succ j=>simp at hj) hl
 cases hx;have:=(Rd.kn hrd).1;subst this;simp[execOp,Instr.loadAt,Instr.sureAddr,hev,hrun]
end
end Lift
namespace Lift
open Go
open Go.RowKit (Below)
section
variable {P:Program} {T:Ty} {B:Nat} {F0:Nat→Prop} {w0:cX} {n:Nat} {σ:St} {R:List LR} {all:Array Oper} {l:List Oper} {x:Code} {a:Act} {w:World} {K:List LR→St→Prop} {p:lZ}
end
end Lift
namespace Lift
open Go
open Go.RowKit (Below)
abbrev iu:Value:= .slice none 0 0
def K4(d:D)(v:Value):Bool:=NB d v||match d,v with
 | .v (.slice none 0 0),.slice none 0 0=>true
 | _,_=>false
def uU:List D→List Value→Bool
 | [],[]=>true
 | d::ds,v::vs=>K4 d v&&uU ds vs
 | _,_=>false
theorem Jf{w:World}{F:Nat→Prop}{d:D}{v:Value}(h:K4 d v=true):d.bc=true∧Rd w F d v:=by
 unfold K4 at h;rw[Bool.or_eq_true] at h;rcases h with h | h
 · exact Gn h
 · split at h<;>try (cases h;done)
   exact⟨rfl,.v rfl⟩
theorem AN{w:World}{F:Nat→Prop}: ∀{ds:List D} {vs:List Value},uU ds vs=true→mF w F ds vs
 | [],[],_=>⟨rfl,fun i d u h=>by simp at h⟩
 | [],_::_,h=>by simp[uU] at h
 | _::_,[],h=>by simp[uU] at h
 | d::ds,v::vs,h=>by
   simp only[uU,Bool.and_eq_true] at h;have ih:=AN (w:=w) (F:=F) h.2;have h1:=Jf (w:=w) (F:=F) h.1;refine⟨by simp[ih.1],fun i d' u hd hu=>?_⟩;cases i with
   | zero=>simp at hd hu;subst hd;subst hu;exact h1
   | succ i=>exact ih.2 i d' u (by simpa using hd) (by simpa using hu)
section
variable {P:Program} {T:Ty} {B:Nat} {F0:Nat→Prop} {w0:cX} {n:Nat} {σ τ σ0:St} {R:List LR} {ops all:Array Oper} {l rest:List Oper} {o:Oper} {d:Nat} {lk hm:Nat→Option AV} {x:Code} {a:Act} {w:World} {K:List LR→St→Prop} {p:lZ} {ds:List Nat}
def Ma(T:Ty)(lk:Nat→Option AV)(zs:List D):Op→Option (Nat×List D)
 | .build t parts=>match T.get t,sd T lk parts.toList with
   | some i,some ps=>match Nat.beq i.kind 5 with
     | true=>match yM i.fields zs ps with
       | some cs=>some (t,cs)
       | none=>none
     | false=>none
   | _,_=>none
 | _=>none
def CG(P:Program)(t:Nat)(zs:List D):Bool:=match P.info? t with
 | some info=>match info.zero with
   | some z=>uU zs z.cells.toList
   | none=>false
 | none=>false
theorem aN.L9(hT:bD P T)(zs:List D){t:Nat}{cs:List D}(hd:o.dst=some d)(hn:hm d=none)(hx:Ma T lk zs o.op=some (t,cs))(hz:CG P t zs=true):aN P B F0 w0 d o lk hm (.d (.ag cs)):=by
 refine⟨hd,hn,fun a w O hI K Q hK=>?_⟩;obtain ⟨dst,op,ty,pos,after,guard⟩:=o;simp only[] at hd hx hI;cases op<;>simp only[Ma] at hx<;>try (cases hx;done)
 rename_i t' parts;split at hx<;>try (cases hx;done)
 rename_i i ps hi hps;split at hx<;>try (cases hx;done)
 rename_i hk;split at hx<;>simp at hx;rename_i cs' hcs;obtain ⟨rfl,rfl⟩:=hx;obtain ⟨info,dd,z,hok⟩:=hT t' i hi
 have hzs:uU zs z.cells.toList=true:=by
  unfold CG at hz;rw[hok.hinfo] at hz;simp only[hok.zero] at hz;exact hz
 obtain ⟨fs,hu,hfs,hall⟩:=hok.HQ hk
 have hp:=pK hT hI parts.toList ps (fun p hp t ht=>by
  simp only[Op.operands];have:p.2∈parts.toList.map (·.2):=List.mem_map.2 ⟨p,hp,rfl⟩;rw[ht] at this
  simpa using this) hps
 obtain ⟨cs2,e1,e2,e3⟩:=sQ ps (parts.toList.map fun (i,x)=>(i,a.eval x)) zs z.cells cs' (by simp[hp.1]) hp.2 (AN hzs) hcs
 have hmap:fs.toList.mapM (fun f=>(P.info? f.type).map fun i=>(f.offset,i.size))=some (i.fields.map fun x=>(x.1,x.2.1)):=by
  rw[← hfs];clear hfs hu hcs e1;generalize fs.toList=l at hall
  induction l with
  | nil=>rfl
  | cons f l ih =>
    obtain ⟨⟨j,hj⟩,_,_⟩:=hall f (by simp);simp[List.mapM_cons,hj,ih (fun f hf=>hall f (by simp[hf])),fieldsOf,Program.cellsOf]
 have hb:P.built t' (parts.toList.map fun (i,x)=>(i,a.eval x))=some cs2:=by
  unfold Program.built;simp only[hok.hinfo,hu,hok.zero,hmap];rw[← e1]
  congr 1
  funext k;simp
 have hrun:=run_build w t' (parts.map fun (i,x)=>(i,a.eval x)) cs2 (by simpa using hb);refine bg (v:= .agg cs2) (w':=w) (by simp only[execOp,Sem.run_bind,hrun,Result.andThen_ok];rfl) (hK _ w O (du.refl hI.lt) ?_)
 have:=Rd.ag (w:=w) (F:=aP O (FW B F0 w)) (l:=cs') (vs:=cs2.toList) e2.1 (fun x hx=>by
  obtain ⟨j,hj⟩:=List.mem_iff_getElem?.1 hx
  exact(e2.get hj).1) (fun j x u h1 h2=>(e2.2 j x u h1 h2).2)
 show Rd _ _ _ _;simpa using this
theorem ae.L9(hT:bD P T){K:St→Prop}(zs:List D){t:Nat}{cs:List D}(hd:o.dst=some d)(hdn:Nat.ble (d+1) n=true)(hg:aG all σ o=true)(hx:Ma T σ.get zs o.op=some (t,cs))(hz:CG P t zs=true)
  (h:ae P B F0 w0 n all rest K ((d,.d (.ag cs))::σ)):ae P B F0 w0 n all (o::rest) K σ:=ae.pure hg hdn (aN.L9 hT zs hd (bu σ d) hx hz) h
theorem cH.zY(e:Nat)(hR:cH P B F0 w0 n R σ a w):cH P B F0 w0 n (R++[(iu,.ow e [])]) σ a w:=by
 obtain ⟨O,hOr,hO,hL⟩:=hR.own;refine⟨hR.below,hR.base,hR.f0,hR.defers,hR.size,O,hOr,hO,fun i r hr=>?_⟩;rcases Nat.lt_or_ge i R.length with h | h
 · rw[List.getElem?_append_left h] at hr;exact hL i r hr
 · rw[List.getElem?_append_right h] at hr
   have:i-R.length=0:=by
    rcases Nat.eq_zero_or_pos (i-R.length) with e | e
    · exact e
    · rw[List.getElem?_eq_none (by simp;omega)] at hr;cases hr
   rw[this] at hr;cases hr;exact .inr ⟨rfl,rfl,.inl ⟨none,rfl,rfl⟩⟩
theorem AZ.zY{Q:Exit→List LR→St→Prop}(e:Nat)(h:AZ P B F0 w0 n x Q (R++[(iu,.ow e [])]) σ):AZ P B F0 w0 n x Q R σ:=fun a w hR=>h a w (hR.zY e)
end
end Lift
namespace Lift
open Go
open Go.RowKit (Below)
section
variable {P:Program} {T:Ty} {B:Nat} {F0:Nat→Prop} {w0:cX} {n:Nat} {σ:St} {R:List LR} {ops:Array Oper} {o:Oper} {Q:Exit→List LR→St→Prop} {β:gZ} {fuel:Nat} {listed:Array Bool}
theorem bN{K:List LR→St→Prop}(h: ∀B1 F1 w1,ae P B1 F1 w1 n ops [o] (fun σ'=>σ'.gk=true∧K R σ') σ):ak P B F0 w0 n ops [o] K [] R σ :=
 ak.cut 1 rfl (fun B1 F1 w1=>by
  have:=h B1 F1 w1
  refine fun a w hR Q hQ=>this a w hR Q (fun a' w' σ' ⟨h1,h2⟩ hR'=>hQ a' w' σ' ⟨h1,ak.nil h2⟩ hR'))
theorem ZH.mv(i:Nat)(ho:ops[i]?=some o)(hg:o.guard=none)(hs:Region.noSelect ops=true)(hf:Region.free .any ops listed i=true)(hr:(Region.ready .any ops listed).contains i=true)(hm:Dp o.op=true)
  (hpan: ∀c R σ,Q (.panic c) R σ→False) (hpn: ∀bl,kx (fZ β bl) [o]=true) (hσ:od σ β)
  (h: ∀B1 F1 w1,ae P B1 F1 w1 n ops [o] (fun σ'=>σ'.gk=true∧ZH P B F0 w0 n ops Q β fuel (listed.setIfInBounds i true) R σ') σ):ZH P B F0 w0 n ops Q β (fuel+1) listed R σ :=
 ZH.first i ho hg hs hf hr hpan hpn hσ (fun bl a w _ _=>let ⟨v,h⟩:=HG hm a;⟨v,fun w' _=>h w'⟩) (bN h)
theorem ZH.fd(hT:bD P T)(i:Nat)(ho:ops[i]?=some o)(hg:o.guard=none)(hs:Region.noSelect ops=true)(hf:Region.free .any ops listed i=true)(hr:(Region.ready .any ops listed).contains i=true)(hm:Kf T σ o.op=true)
  (hpan: ∀c R σ,Q (.panic c) R σ→False) (hpn: ∀bl,kx (fZ β bl) [o]=true) (hσ:od σ β)
  (h: ∀B1 F1 w1,ae P B1 F1 w1 n ops [o] (fun σ'=>σ'.gk=true∧ZH P B F0 w0 n ops Q β fuel (listed.setIfInBounds i true) R σ') σ):ZH P B F0 w0 n ops Q β (fuel+1) listed R σ :=
 ZH.first i ho hg hs hf hr hpan hpn hσ (fun bl a w hR _=>let ⟨v,h⟩:=Ke hT hR.rel hm;⟨v,fun w' _=>h w'⟩) (bN h)
theorem ZH.ld(hT:bD P T)(i:Nat){ti:TI}{t off:Nat}{ds:List D}{u:Value}(ho:ops[i]?=some o)(hg:o.guard=none)(hs:Region.noSelect ops=true)(hf:Region.free .any ops listed i=true)(hr:(Region.ready .any ops listed).contains i=true)(hx:NH T σ β o.op=some (ti,t,off,ds,u))(hl:kC ti [.v u]=some (.d (.v u)))
  (hpan: ∀c R σ,Q (.panic c) R σ→False) (hpn: ∀bl,kx (fZ β bl) [o]=true) (hσ:od σ β)
  (h: ∀B1 F1 w1,ae P B1 F1 w1 n ops [o] (fun σ'=>σ'.gk=true∧ZH P B F0 w0 n ops Q β fuel (listed.setIfInBounds i true) R σ') σ):ZH P B F0 w0 n ops Q β (fuel+1) listed R σ :=
 ZH.first i ho hg hs hf hr hpan hpn hσ (fun bl a w hR hp=>LH hT hR hσ hp hx hl) (bN h)
end
end Lift
namespace Lift
open Go
open Go.RowKit (Below)
section
variable {P:Program} {T:Ty} {B:Nat} {F0:Nat→Prop} {w0:cX} {n:Nat} {σ:St} {R:List LR} {ops:Array Oper} {o o1 o2 o3:Oper} {Q:Exit→List LR→St→Prop} {β:gZ} {fuel:Nat} {listed:Array Bool}
def IV(P:Program)(B:Nat)(F0:Nat→Prop)(w0:cX)(n:Nat)(ops:Array Oper)(Q:Exit→List LR→St→Prop)(β:gZ)(fuel:Nat)(listed:Array Bool)(R:List LR)(σ:St)(i:Nat)(o:Oper):Prop :=
 ak P B F0 w0 n ops [o] (fun R' σ'=>ZH P B F0 w0 n ops Q β fuel (listed.setIfInBounds i true) R' σ') [] R σ
theorem ZH.many(rs:List Nat)(hr:Region.ready .any ops listed=rs)(hne:rs≠[])(hσ:od σ β)
  (h: ∀i∈rs,∃o,ops[i]?=some o∧o.guard=none∧(∀bl,kx (fZ β bl) [o]=true)∧IV P B F0 w0 n ops Q β fuel listed R σ i o):ZH P B F0 w0 n ops Q β (fuel+1) listed R σ:=by
 refine⟨hσ,fun bl a w hR hp=>wpAnyH_all hr hne (fun j hj=>?_)⟩;obtain ⟨o,ho,hg,hpn,h⟩:=h j hj;have h1:=vj (hpn bl) h hR hp;have hw:Region.wanted o (yielded ops a.tmps)=true:=by simp[Region.wanted,hg]
 unfold wpOp;simp only[ho,hw,if_true];unfold wpList at h1;rw[if_pos hw] at h1;rcases h1 with h1 | ⟨_,a1,w1,⟨h2,_⟩,_⟩
 · refine .inl (oh (fun c a w h=>by cases h.1.1) (fun ⟨a,w,h⟩=>by cases h.1.1) (fun v dd w' hn=>?_) h1);unfold wpList at hn;obtain ⟨⟨_,R',σ',h2,h3⟩,h4⟩:=hn;exact⟨IX h3 h2.1 (h4 rfl),h2.2 bl _ _ h3 (h4 rfl)⟩
 · cases h2
theorem ZH.two(i j:Nat)(hr:Region.ready .any ops listed=[i,j])(ho1:ops[i]?=some o1)(ho2:ops[j]?=some o2)(hg1:o1.guard=none)(hg2:o2.guard=none)(hp1: ∀bl,kx (fZ β bl) [o1]=true)(hp2: ∀bl,kx (fZ β bl) [o2]=true)(hσ:od σ β)
  (h1:IV P B F0 w0 n ops Q β fuel listed R σ i o1) (h2:IV P B F0 w0 n ops Q β fuel listed R σ j o2):ZH P B F0 w0 n ops Q β (fuel+1) listed R σ :=
 ZH.many [i,j] hr (by simp) hσ (fun k hk=>by
   simp only[List.mem_cons,List.not_mem_nil,or_false] at hk;rcases hk with rfl | rfl
   · exact⟨o1,ho1,hg1,hp1,h1⟩
   · exact⟨o2,ho2,hg2,hp2,h2⟩)
theorem ZH.meet(fuel':Nat)(listed':Array Bool)(Rf:Value→List LR)(σf:Value→St)(h: ∀V,ZH P B F0 w0 n ops Q β fuel' listed' (Rf V) (σf V))
  (hk:(∀V,ZH P B F0 w0 n ops Q β fuel' listed' (Rf V) (σf V))→ZH P B F0 w0 n ops Q β fuel listed R σ):ZH P B F0 w0 n ops Q β fuel listed R σ:=hk h
theorem ZH.ls(l':Array Bool)(h:listed=l')(hk:ZH P B F0 w0 n ops Q β fuel l' R σ):ZH P B F0 w0 n ops Q β fuel listed R σ:=h▸hk
end
end Lift
namespace Lift
open Go
section
variable {P:Program} {B:Nat} {F0:Nat→Prop} {w0:cX} {n:Nat} {σ τ:St} {R:List LR} {ops:Array Oper} {Q:Exit→List LR→St→Prop} {β:gZ} {fuel:Nat} {listed l':Array Bool}
def qB(n k:Nat):Array Bool:=⟨(List.range n).map (fun i=>Nat.testBit k i)⟩
theorem qL(hk:ZH P B F0 w0 n ops Q β fuel l' R τ)(h:listed=l')(hs:σ.dJ (τ.map Prod.fst)=τ)(hσ:od σ β):ZH P B F0 w0 n ops Q β fuel listed R σ :=
 ZH.to _ _ hs hσ (ZH.ls _ h hk)
end
end Lift
namespace Lift
open Go
open Go.RowKit (Below)
section
variable {P:Program} {T:Ty} {B:Nat} {F0:Nat→Prop} {w0:cX} {n:Nat} {σ τ σ0:St} {R:List LR} {ops all:Array Oper} {l rest:List Oper} {o:Oper} {d:Nat} {lk hm:Nat→Option AV} {x:Code} {a:Act} {w:World} {K:List LR→St→Prop} {p:lZ} {ds:List Nat}
theorem Rel.N'{t:Nat}{cs:List D}(hR:Rel P B F0 w0 n σ a w)(ht:σ.get t=some (.bx cs)):Rel P B F0 w0 n ((t,.d (.pr cs))::σ.kill t) a w:=by
 obtain ⟨O,hOr,hO⟩:=hR.own
 let O':Nat→Option Nat:=fun c=>if O c=some t then none else O c
 have hfree: ∀c,aP O (FW B F0 w) c→aP O' (FW B F0 w) c:=fun c hc=>⟨by simp only[O'];rw[hc.1];simp,hc.2⟩;refine⟨hR.below,hR.base,hR.f0,hR.defers,hR.size,O',fun b k hk=>?_,fun k av hk=>?_⟩
 · simp only[O'] at hk;split at hk
   · cases hk
   · exact hOr b k hk
 have hget: ∀j x,x.home=true→St.get ((t,AV.d (.pr cs))::σ.kill t) j=some x→σ.get j=some x:=fun j x hx hg=>by
  rw[St.aM] at hg;split at hg
  · simp at hg;subst hg;simp[AV.home] at hx
  · rw[St.dV] at hg;cases hsk:σ.get j with
    | none=>simp[hsk] at hg
    | some z =>
      simp only[hsk,Option.map_some,Option.some.injEq] at hg;subst hg;rw[gA hx]
 rw[St.aM] at hk;split at hk
 · rename_i e;subst e;cases hk;obtain ⟨v,hv,hr⟩:=hO t _ ht;obtain ⟨b,es,e,rfl,h2,h3,h4⟩:=hr;refine⟨_,hv,Rd.MI ⟨by simp only[O',h2];simp,(hOr b t h2).fw hR.f0⟩ h3 (fun i d hd=>?_)⟩;obtain ⟨h5,u,hu,h6⟩:=h4.get hd;exact⟨h5,u,by simpa using hu,h6.mono hfree (fun _ _=>rfl)⟩
 · rename_i hne;rw[St.dV] at hk;cases hs:σ.get k with
   | none=>simp[hs] at hk
   | some y =>
     simp only[hs,Option.map_some,Option.some.injEq] at hk;subst hk;obtain ⟨u,hu,hur⟩:=hO k y hs;refine⟨u,hu,?_⟩;rcases AV.kZ t y with ⟨h1,h2⟩ | h1
     · rw[h1];exact hur.move (fun c hc=>⟨hfree c hc,rfl⟩) (fun _ c hc=>⟨by simp only[O',hc];rw[if_neg (by simpa using Ne.symm hne)],rfl⟩) (fun j hj z hz hg=>⟨hget j z hz hg,rfl⟩)
     · rw[h1];trivial
theorem ae.N9{K:St→Prop}(t:Nat){cs:List D}(ht:σ.get t=some (.bx cs))(h:ae P B F0 w0 n all l K ((t,.d (.pr cs))::σ.kill t)):ae P B F0 w0 n all l K σ:=fun a w hR=>h a w (hR.N' ht)
def IG(T:Ty)(lk:Nat→Option AV):Op→Option (FuncId×List D)
 | .call c=>match c.callee with
   | .value (.tmp t)=>match lk t,w5 T lk c.args.toList c.argTypes.toList with
     | some (.d (.fn k xs ys)),some ds=>some (k,xs++ds++ys)
     | _,_=>none
   | _=>none
 | _=>none
theorem DF{a:Act}{w:World}{t f:Nat}{xs ys:List Value}{args:Array Operand}{ts:Array TypeId}{ty:TypeId}{pos:String}{after:Array Edge}{guard:Option (Nat×Bool)}{dst:Option Tmp}(hok:s5 P f)(ht:a.eval (.tmp t)= .func (.func f) xs.toArray ys.toArray):
  (execOp a.eval {dst:=dst,op:= .call {callee:= .value (.tmp t),args:=args,argTypes:=ts},type:=ty,pos:=pos,after:=after,guard:=guard}).run P w= .ok (.enter f (xs++args.toList.map a.eval++ys).toArray) w:=by
 obtain ⟨fn,h1,h2,h3⟩:=hok;have e:xs.toArray++args.map a.eval++ys.toArray=(xs++args.toList.map a.eval++ys).toArray:=by apply Array.ext';simp
 simp only[execOp,resolve,Deferred.ofValue,ht,Sem.run_bind,Sem.run_pure,Result.andThen_ok,invoke,callFunc,run_program,h1,h2,h3,Bool.false_eq_true,if_false,e]
theorem KB{w:World}{F:Nat→Prop}{ds es:List D}{vs us:List Value}(h1:vs.length=ds.length)(h2:us.length=es.length)(r1: ∀(i:Nat) (d:D) (v:Value),ds[i]?=some d→vs[i]?=some v→Rd w F d v)
  (r2: ∀(i:Nat) (d:D) (v:Value),es[i]?=some d→us[i]?=some v→Rd w F d v):(vs++us).length=(ds++es).length∧ ∀(i:Nat) (d:D) (v:Value),(ds++es)[i]?=some d→(vs++us)[i]?=some v→Rd w F d v:=by
 refine⟨by simp[h1,h2],fun i d v hd hv=>?_⟩;rcases Nat.lt_or_ge i ds.length with h | h
 · rw[List.getElem?_append_left h] at hd;rw[List.getElem?_append_left (by omega)] at hv;exact r1 i d v hd hv
 · rw[List.getElem?_append_right h] at hd;rw[List.getElem?_append_right (by omega),h1] at hv;exact r2 _ d v hd hv
theorem aN.IF(hT:bD P T){f:FuncId}{ds:List D}{res:D}(hd:o.dst=some d)(hn:hm d=none)(hx:IG T lk o.op=some (f,ds))(hP:Pure P f ds res):aN P B F0 w0 d o lk hm (.d res):=by
 refine⟨hd,hn,fun a w O hI K Q hK=>?_⟩;obtain ⟨dst,op,ty,pos,after,guard⟩:=o;simp only[] at hd hx hI;cases op<;>simp only[IG] at hx<;>try (cases hx;done)
 rename_i c;obtain ⟨callee,args,ats⟩:=c;simp only[] at hx;split at hx<;>try (cases hx;done)
 rename_i t;split at hx<;>simp at hx;rename_i k xs ys ds' ht hds;obtain ⟨rfl,rfl⟩:=hx;rw[← List.append_assoc] at hP;have hr:=oL hT hI args.toList ats.toList ds' (fun x hx t ht=>by subst ht;simp[Op.operands,Call.operands];exact .inr (Array.mem_toList_iff.1 hx)) hds;obtain ⟨v,hv,hvr⟩:=hI.rd t (by simp[Op.operands,Call.operands]) _ ht;obtain ⟨va,vc,rfl,l1,l2,r1,r2⟩:=Rd.Nb hvr;have hev:=gn hv;have hA:=KB l1 hr.1 r1 hr.2;have hA2:=KB hA.1 l2 hA.2 r2;unfold Oper.wp;rw[DF hP.1 hev];show Calls P k (va++args.toList.map a.eval++vc).toArray w _;have hc:=hP.2 w (aP O (FW B F0 w)) (va++args.toList.map a.eval++vc) (fun b hb=>(FW.step hI.f0 hI.base (ai _) b hb.2).1) hA2.1 hA2.2;refine hc.mono fun e w' ⟨v,he,hb,hv⟩=>?_;subst he;refine hK v w' O ⟨hb,fun _ _=>rfl,fun b t h=> .inl (hI.lt b t h)⟩ (hv.mono (fun b hb'=>?_) (fun _ _=>rfl));rcases hb' with h | ⟨h1,h2⟩
 · exact⟨h.1,(FW.step hI.f0 hI.base hb.size b h.2).2⟩
 · refine⟨?_,.inr ⟨Nat.le_trans hI.base h1,h2⟩⟩;cases ho:O b with
   | none=>rfl
   | some t=>have:=hI.lt b t ho;omega
theorem ae.IF(hT:bD P T){K:St→Prop}{f:FuncId}{xs:List D}{res:D}(hd:o.dst=some d)(hdn:Nat.ble (d+1) n=true)(hg:aG all σ o=true)(hx:IG T σ.get o.op=some (f,xs))(hP:Pure P f xs res)
  (h:ae P B F0 w0 n all rest K ((d,.d res)::σ)):ae P B F0 w0 n all (o::rest) K σ:=ae.pure hg hdn (aN.IF hT hd (bu σ d) hx hP) h
def ED(T:Ty)(lk hm:Nat→Option AV):Op→Option AV
 | .nilCheck x=>match ex T lk 0 x with
   | some (.d (.pr l))=>some (.d (.pr l))
   | some (.pt h off)=>match hm h with
     | some (.bx _)=>some (.pt h off)
     | _=>none
   | _=>none
 | _=>none
theorem aN.BO(hT:bD P T){av:AV}(hd:o.dst=some d)(hn:hm d=none)(hx:ED T lk hm o.op=some av):aN P B F0 w0 d o lk hm av:=by
 refine⟨hd,hn,fun a w O hI K Q hK=>?_⟩;obtain ⟨dst,op,ty,pos,after,guard⟩:=o;simp only[] at hd hx hI;cases op<;>simp only[ED] at hx<;>try (cases hx;done)
 rename_i x;split at hx<;>try (cases hx;done)
 · rename_i l he;simp at hx;subst hx;have hr:=(a6 hI (fun t ht=>by subst ht;simp[Op.operands]) he d).1;obtain ⟨b,cs,e,fz,hv,_⟩:=Rd.Hn hr
   have hrun:(execOp a.eval {dst:=dst,op:= .nilCheck x,type:=ty,pos:=pos,after:=after,guard:=guard}).run P w= .ok (.value (a.eval x)) w:=by
    simp only[execOp,hv];rfl
   exact bg hrun (hK _ w O (du.refl hI.lt) hr)
 · rename_i h off he;split at hx<;>try (cases hx;done)
   rename_i cs hcs;simp at hx;subst hx;have hr:=(a6 hI (fun t ht=>by subst ht;simp[Op.operands]) he d).1;obtain ⟨b,hb,hv⟩:=hr cs hcs
   have hrun:(execOp a.eval {dst:=dst,op:= .nilCheck x,type:=ty,pos:=pos,after:=after,guard:=guard}).run P w= .ok (.value (a.eval x)) w:=by
    simp only[execOp,hv];rfl
   exact bg hrun (hK _ w O (du.refl hI.lt) hr)
theorem ae.BO(hT:bD P T){K:St→Prop}{av:AV}(hd:o.dst=some d)(hdn:Nat.ble (d+1) n=true)(hg:aG all σ o=true)(hh:av.home=false)(hx:ED T σ.get (jG σ d) o.op=some av)
  (h:ae P B F0 w0 n all rest K ((d,av)::σ)):ae P B F0 w0 n all (o::rest) K σ:=ae.pure hg hdn (aN.BO hT hd (bu σ d) hx) (by rw[St.put,hh];exact h)
theorem ah.BO(hT:bD P T){K:St→Prop}{l:List D}(hd:o.dst=some d)(hdn:Nat.ble (d+1) n=true)(hg:aG ops τ o=true)(hs:σ0.get d=none)(hx:ED T τ.get σ0.get o.op=some (.d (.pr l)))
  (h:ah P B F0 w0 n ops ds σ0 rest ((d,.d (.pr l))::τ) K):ah P B F0 w0 n ops ds σ0 (o::rest) τ K:=ah.pure hd hdn rfl hg (aN.BO hT hd hs hx) h
end
end Lift
namespace Lift
open Go
open Go.RowKit (Below)
section
variable {P:Program} {T:Ty} {B:Nat} {F0:Nat→Prop} {w0:cX} {n r:Nat} {pn:lZ} {σ:St} {R:List LR} {x y:Code} {Q:Exit→List LR→St→Prop}
end
end Lift
namespace Lift
open Go
open Go.RowKit (Below)
section
variable {P:Program} {T:Ty} {B:Nat} {F0:Nat→Prop} {w0:cX} {n:Nat} {σ σ':St} {R R':List LR} {all:Array Oper} {l rest:List Oper} {o:Oper} {d:Nat} {K:List LR→St→Prop} {p:lZ}
end
end Lift
namespace Lift
open Go
open Go.RowKit (Below)
section
variable {P:Program} {T:Ty} {G:Nat→Prop} {l n:Nat} {x:Option D} {ys:List Nat} {σ τ:St} {a a':Act} {W W':World}
variable {β:Type} {JJ:β→World→Prop} {ops:Array Oper} {os rest:List Oper} {o:Oper} {Q:Exit→β→Option D→St→Prop} {s s1 s2:β} {c c2:Code} {d:Nat}
end
end Lift
namespace Lift
open Go
open Go.RowKit (Below)
section
variable {P:Program} {T:Ty} {B:Nat} {F0:Nat→Prop} {w0:cX} {n:Nat} {σ:St} {R:List LR} {a a':Act} {W W':World}
end
end Lift
namespace Lift
open Go
open Go.RowKit (Below)
section
variable {P:Program} {T:Ty} {B:Nat} {F0:Nat→Prop} {w0:cX} {n:Nat} {o:Oper} {d:Nat} {σ σ':St}
end
end Lift
namespace Lift
open Go
open Go.RowKit (Below)
section
variable {P:Program} {T:Ty} {B:Nat} {F0:Nat→Prop} {w0:cX} {n d:Nat} {o:Oper} {σ:St} {K:St→Prop} {all:Array Oper} {rest:List Oper}
theorem FF(w:World)(dT sT ty elem:TypeId)(g o dLen dCap:Nat)(a:Addr)(sLen sCap:Nat)(cur:Array Value)(t:TypeId)(cs:List Value)(i:TypeInfo)
  (hu:P.underlying dT=some (.slice elem)) (hi:P.info? elem=some i)
  (hg:w.heap[g]?=some (.cells cur t (0,0))) (hn:cs.length=Nat.min sLen dLen*i.size)
  (hsrc: ∀j v,cs[j]?=some v→w.cell? (a.add j)=some v) (hfit:o+cs.length≤cur.size) (h1: ∀v∈cs,v.oneCell'=true):
  (Builtin.copy_ #[dT,sT] ty #[.slice (some ⟨g,o,none⟩) dLen dCap,.slice (some a) sLen sCap]).run P w =
   .ok (goInt (Nat.min sLen dLen)) (w.setRow g (cur.toList.take o++cs++cur.toList.drop (o+cs.length)).toArray):=by
 have hl:=run_firstCells_some (P:=P) w i.size (Nat.min sLen dLen) a sLen sCap cs hn hsrc;have hst:=run_storeCells_at P g o t cs 0 cur w hg (by simpa using hfit) h1;simp[Builtin.copy_,run_underlying hu,Builtin.lenOf,Go.sizeOf,typeInfo,hi,hl,hst]
theorem C3(w:World)(dT sT ty elem:TypeId)(x a:Option Addr)(dLen dCap sLen sCap:Nat)(i:TypeInfo)(hu:P.underlying dT=some (.slice elem))(hi:P.info? elem=some i)(hn:Nat.min sLen dLen=0):
  (Builtin.copy_ #[dT,sT] ty #[.slice x dLen dCap,.slice a sLen sCap]).run P w= .ok (goInt 0) w:=by
 have hl: ∀(x:Addr),(loadCells x 0).run P w= .ok #[] w:=fun x=>by simpa using run_loadCells_list (P:=P) w x [] (by simp)
 cases x<;>cases a<;>simp[Builtin.copy_,run_underlying hu,Builtin.lenOf,Builtin.firstCells,Go.sizeOf,typeInfo,hi,hn,storeCells,hl]
def NM(T:Ty)(σ:St):Op→Option (Nat×Nat×List D×List D)
 | .call c=>match c.callee with
   | .builtin .copy=>match c.args.toList,c.argTypes.toList with
     | [x,y],[t,u]=>match T.get t,ex T σ.get t x,ex T σ.get u y with
       | some ti,some (.al h),some (.d (.sl s ys))=>match σ.get h with
         | some (.ow e l)=>match Nat.beq ti.kind 4,Nat.beq e ti.elem,T.get ti.elem with
           | true,true,some te=>match Nat.beq te.size s with
             | true=>some (h,e,l,ys)
             | _=>none
           | _,_,_=>none
         | _=>none
       | _,_,_=>none
     | _,_=>none
   | _=>none
 | _=>none
theorem dZ.Ir(hT:bD P T){h e:Nat}{l ys:List D}(hd:o.dst=some d)(hdn:d<n)(hx:NM T σ o.op=some (h,e,l,ys)):
  dZ P B F0 w0 n o σ ((d,.d (.v (.int .i64 ((min ys.length l.length:Nat):Int))))::(h,.ow e (ys.take (min ys.length l.length)++l.drop (min ys.length l.length)))::σ):=by
 intro a w hR K Q hK;obtain ⟨O,hOr,hO⟩:=hR.own;have hI:Inv P B F0 w0 (fun _=>True) σ.get σ.get a w O:=⟨hR.below,hR.base,hR.f0,hOr,fun t _ av h=>hO t av h,fun t av h _=>hO t av h⟩;obtain ⟨dst,op,ty,pos,after,guard⟩:=o;simp only[] at hd hx;subst hd;cases op<;>simp only[NM] at hx<;>try (cases hx;done)
 rename_i c;obtain ⟨callee,args,ats⟩:=c;simp only[] at hx;split at hx<;>try (cases hx;done)
 split at hx<;>try (cases hx;done)
 rename_i x y t u hxy htu;split at hx<;>try (cases hx;done)
 rename_i ti h' s ys' hti hxe hye;split at hx<;>try (cases hx;done)
 rename_i e' l' hav;split at hx<;>try (cases hx;done)
 rename_i te hk hee hte;split at hx<;>simp at hx;rename_i hts;obtain ⟨rfl,rfl,rfl,rfl⟩:=hx;have hee:=Nat.eq_of_beq_eq_true hee;subst hee;have hts:=Nat.eq_of_beq_eq_true hts;subst hts;have hargs:args= #[x,y]:=by apply Array.ext';simpa using hxy
 have hats:ats= #[t,u]:=by apply Array.ext';simpa using htu
 subst hargs;subst hats;obtain ⟨info,dd,z,hok⟩:=hT t ti hti;obtain ⟨info',dd',z',hok'⟩:=hT _ te hte;have hun:=(hok.jy hk).1;have hsz:info'.size=te.size:=hok'.size;have hcel:P.cellsOf ti.elem=te.size:=hok'.cellsOf;have hw:lE σ.get (ex T σ.get t x)=some (h',ti.elem,l',0,l'.length):=by rw[hxe];simp only[lE,hav]
 have hys:xv T σ.get (ex T σ.get u y)=some (te.size,ys'):=by rw[hye];rfl
 rw[hxe] at hw;rw[hye] at hys;obtain ⟨zz,hz,hrow,hlm,cap,hcap,hmax,hv⟩:=gJ hI (a6 hI (fun _ _=>trivial) hxe 0).1 hw;rw[hav] at hz;simp at hz;subst hz;obtain ⟨ad,cap',hyv,jG,hall⟩:=lF hT hI (a6 hI (fun _ _=>trivial) hye 0).1 hys;obtain ⟨k,hkk⟩: ∃k,k=min ys'.length l'.length:=⟨_,rfl⟩;rw[← hkk] at hK;rcases Nat.eq_zero_or_pos k with hk0 | hk0
 ·
  have hval: ∃ax lc cx,a.eval x= .slice ax lc cx∧lc=l'.length:=by
   rcases hv with ⟨hl0,_,_,base,hev⟩ | ⟨b,o1,len,cap1,cs,off,hq,htm,hev,h0',hOb,hb,hu,hcells⟩
   · exact⟨base,0,_,hev,hl0.symm⟩
   · exact⟨_,_,_,hev,rfl⟩
  obtain ⟨ax,lc,cx,hev,hlc⟩:=hval;have hrun:=C3 (P:=P) w t u ty ti.elem ax ad lc cx ys'.length cap' info' hun hok'.hinfo (by rw[hlc];show min _ _=0;omega)
  have hex:(execOp a.eval {dst:=some d,op:= .call {callee:= .builtin .copy,args:= #[x,y],argTypes:= #[t,u]},type:=ty,pos:=pos,after:=after,guard:=guard}).run P w= .ok (.value (goInt 0)) w:=by
   simp[execOp,resolve,invoke,builtin,hev,hyv,hrun]
  refine bg hex ?_
  have hsame: ∀k2,St.get ((h',AV.ow ti.elem l')::σ) k2=σ.get k2:=fun k2=>by
   rw[St.aM];split
   · rename_i e1;subst e1;exact hav.symm
   · rfl
  have hR1:Rel P B F0 w0 n ((h',.ow ti.elem l')::σ) a w:=⟨hR.below,hR.base,hR.f0,hR.defers,hR.size,O,hOr,fun t av h=>by
   rw[hsame] at h;obtain ⟨v,h1,h2⟩:=hO t av h;refine⟨v,h1,?_⟩;have:St.get ((h',AV.ow ti.elem l')::σ)=σ.get:=funext hsame
   rw[this];exact h2⟩
  subst hk0;rw[List.take_zero,List.drop_zero,List.nil_append] at hK;obtain ⟨O2,hOr2,hO2⟩:=hR1.own;exact hK _ _ (hR1.put (d:=d) (av:= .d (.v (.int .i64 ((0:Nat):Int)))) (v:=goInt 0) hOr2 hO2 hdn (du.refl (fun b t hb=>(hOr2 b t hb).2)) (.v rfl))
 rcases hv with ⟨hl0,_⟩ | ⟨b,o1,len,cap1,cs,off,hq,htm,hev,h0',hOb,hb,hu,hcells⟩
 · omega
 rw[hcel] at h0' hu;have hoff:off=0:=by have:=h0'.1;omega
 subst hoff;rcases hall with h | ⟨sa,news,rfl,g1,g2,g3,g4⟩
 · subst h;simp at hkk;omega
 rw[aR g2] at g1;obtain ⟨s,hs⟩: ∃s,s=te.size:=⟨_,rfl⟩;rw[← hs] at g1 g2 hu hcel hsz;have hlfl:=aR hu
 have hcsl:l'.length*s≤cs.size:=by
  rcases Nat.eq_zero_or_pos (l'.length*s) with h0 | h0
  · omega
  · obtain ⟨_,u,f2,_⟩:=hcells (l'.length*s-1) _ (bP (by omega));have:=(Array.getElem?_eq_some_iff.1 f2).1;omega
 have hkl:k*s≤l'.length*s:=Nat.mul_le_mul_right s (by omega);have hky:k*s≤ys'.length*s:=Nat.mul_le_mul_right s (by omega);have hnk:(news.take (k*s)).length=k*s:=by rw[bb];omega
 have hrun:=FF (P:=P) w t u ty ti.elem b 0 l'.length cap sa ys'.length cap' cs ti.elem (news.take (k*s)) info' hun hok'.hinfo hb
  (by rw[hnk,hsz,hkk]) (fun j v hj=>by
   rw[List.getElem?_take] at hj;split at hj
   · exact g3 j v hj
   · cases hj) (by rw[hnk];omega) (fun v hv=>g4.wT v (List.mem_of_mem_take hv))
 rw[hnk,Nat.zero_add,List.take_zero,List.nil_append] at hrun;obtain ⟨cs',hcs'⟩: ∃cs',cs'=(news.take (k*s)++cs.toList.drop (k*s)).toArray:=⟨_,rfl⟩;rw[← hcs',show Nat.min ys'.length l'.length=k from hkk.symm] at hrun
 have hss:cs'.size=cs.size:=by
  rw[hcs'];simp only[List.size_toArray,List.length_append,hnk,List.length_drop,Array.length_toList];omega
 have hex:(execOp a.eval {dst:=some d,op:= .call {callee:= .builtin .copy,args:= #[x,y],argTypes:= #[t,u]},type:=ty,pos:=pos,after:=after,guard:=guard}).run P w= .ok (.value (goInt k)) (w.setRow b cs'):=by
  simp[execOp,resolve,invoke,builtin,hev,hyv,hrun]
 refine bg hex ?_
 have hR1:Rel P B F0 w0 n ((h',.ow ti.elem (ys'.take k++l'.drop k))::σ) a (w.setRow b cs'):=by
  refine Rel.write hb hss hR hOr hO hav hOb (.inr ⟨_,_,_,hrow,(dQ hrow).1,by simp only[List.length_append,bb,List.length_drop];omega,(dQ hrow).2.2.symm⟩) (fun v hv hr=>?_) (dQ hrow).2.1;rw[htm] at hv;simp at hv;subst hv;refine oA hr hrow hb (setRow_heap w b cs _ ti.elem _ hb) hss (by simp only[List.length_append,bb,List.length_drop];omega) (fun h0=>by subst h0;simp at hkk;omega) (fun x hx=>?_) (fun j dd hj=>?_)
  · rw[hcel];rcases List.mem_append.1 hx with hx | hx
    · exact g2 x (List.mem_of_mem_take hx)
    · exact hu x (List.mem_of_mem_drop hx)
  · have hB: ∀c,aP O (FW B F0 w) c→(w.setRow b cs').heap[c]?=w.heap[c]?:=fun c hc=>setRow_other w b c _ (fun e=>by rw[e,aP,hOb] at hc;cases hc.1);have f2:=aR (s:=s) (l:=ys'.take k) (fun x hx=>g2 x (List.mem_of_mem_take hx));have e2:flatAll ys'=flatAll (ys'.take k)++flatAll (ys'.drop k):=by rw[← b9,List.take_append_drop]
    have e3:flatAll l'=flatAll (l'.take k)++flatAll (l'.drop k):=by rw[← b9,List.take_append_drop]
    have f3:=aR (s:=s) (l:=l'.take k) (fun x hx=>hu x (List.mem_of_mem_take hx));rw[bb,show min k ys'.length=k by omega] at f2;rw[bb,show min k l'.length=k by omega] at f3;rw[b9] at hj;have hcg:cs'[j]?=(news.take (k*s)++cs.toList.drop (k*s))[j]?:=by rw[hcs',List.getElem?_toArray]
    rw[hcg];rw[List.getElem?_append] at hj;split at hj
    · rename_i hj2;have h1:(flatAll ys')[j]?=some dd:=by rw[e2,List.getElem?_append_left (by omega)];exact hj
      obtain ⟨q1,v,q2,q3⟩:=g4.get h1;exact⟨q1,v,by rw[List.getElem?_append_left (by omega),List.getElem?_take_of_lt (by omega)];exact q2,q3.mono (fun _ h=>by simpa[aP,FW] using h) hB⟩
    · rename_i hj1
      have h1:(flatAll l')[j]?=some dd:=by
       rw[e3,List.getElem?_append_right (by omega),← hj]
       congr 1
       omega
      obtain ⟨q1,v,q2,q3⟩:=hcells j dd h1
      exact⟨q1,v,by
       rw[List.getElem?_append_right (by omega),List.getElem?_drop];rw[← q2];simp
       congr 1
       omega,q3.mono (fun _ h=>by simpa[aP,FW] using h) hB⟩
 obtain ⟨O2,hOr2,hO2⟩:=hR1.own;exact hK _ _ (hR1.put (d:=d) (av:= .d (.v (.int .i64 (k:Int)))) (v:=goInt k) hOr2 hO2 hdn (du.refl (fun b t hb=>(hOr2 b t hb).2)) (.v rfl))
theorem ae.Ir(hT:bD P T){h e:Nat}{l ys:List D}(hd:o.dst=some d)(hdn:Nat.ble (d+1) n=true)(hg:aG all σ o=true)(hx:NM T σ o.op=some (h,e,l,ys))
  (hk:ae P B F0 w0 n all rest K ((d,.d (.v (.int .i64 ((min ys.length l.length:Nat):Int))))::(h,.ow e (ys.take (min ys.length l.length)++l.drop (min ys.length l.length)))::σ)):ae P B F0 w0 n all (o::rest) K σ :=
 ae.op hg (dZ.Ir hT hd (Nat.le_of_ble_eq_true hdn) hx) hk
end
end Lift
namespace Lift
end Lift
namespace Lift
def nz(x:Rat):Bool:=decide (x≠0)
end Lift
namespace Lift
end Lift
namespace Lift
end Lift
namespace Lift
open Go Go.Proofs
structure TD where
 t:RD
 h:Bool
def TQ:Option Rat→TD
 | none=>⟨Qr 0,true⟩
 | some q=>⟨Qr q,false⟩
theorem gF:LQ 1≤1:=by
 have h:=K2 1;rw[xb,show ((1:Int):Rat)=1 from rfl] at h;omega
end Lift
namespace Lift
open Go Go.Proofs
structure PD where
 x:RD
 y:RD
structure PoD where
 t:TD
 l:PD
abbrev VQ(v:V2):PD:=⟨Qr v.1,Qr v.2⟩
abbrev PoQ(p:Option Rat×V2):PoD:=⟨TQ p.1,VQ p.2⟩
end Lift
namespace Lift
open Go Go.Proofs
end Lift
namespace Lift
open Go Go.Proofs
structure DyD where
 c:PD
 m:PD
 r:RD
abbrev DyQ(d:V2×V2×Rat):DyD:=⟨VQ d.1,VQ d.2.1,Qr d.2.2⟩
instance:Inhabited PoD:=⟨PoQ (none,(0,0))⟩
theorem Mg{l:List RD}{i:Nat}(hi:i<l.length)(h:(l.getD i default).okB=false):l.all RD.okB=false:=by
 rw[List.all_eq_false];exact⟨l.getD i default,by rw[aK,bP hi];exact List.getElem_mem hi,by rw[h];simp⟩
theorem Kp{l:List RD}(h: ∀i,i<l.length→(l.getD i default).okB=true):l.all RD.okB=true:=by
 rw[List.all_eq_true];intro x hx;obtain ⟨i,hi,rfl⟩:=List.mem_iff_getElem.1 hx;have:=h i hi;rw[aK,bP hi] at this;exact this
end Lift
namespace Lift
open Go Go.Proofs
theorem vi{α:Type}(l:List α)(d:α){i:Nat}(h:i<l.length):l.take (i+1)=l.take i++[l.getD i d]:=by
 rw[List.take_add_one,aK,bP h];rfl
end Lift
namespace Lift
open Go Go.Proofs
instance:Inhabited DyD:=⟨DyQ ((0,0),(0,0),0)⟩
end Lift
namespace Lift
open Go Go.Proofs
abbrev Dy:=V2×V2×Rat
end Lift
namespace Lift
open Go Go.Proofs
theorem Em(q:Rat):jJ q.num=jr q:=by
 unfold jJ jr;have h0:q.num=0↔q=0:=Rat.num_eq_zero
 have h1:q.num<0↔q<0:=by
  have e1:= @Rat.num_nonneg q;have e2:= @Rat.not_le 0 q;rw[← e2,← e1];omega
 by_cases hz:q=0
 · subst hz;rfl
 · rw[if_neg hz];by_cases hl:q<0
   · rw[if_pos hl,if_pos (h1.2 hl)]
   · rw[if_neg hl,if_neg (fun h=>hl (h1.1 h)),if_neg (fun h=>hz (h0.1 h))]
end Lift
namespace Lift
open Go Go.Proofs
abbrev aq(a:NQ):D:= .sl 3 (fv a)
abbrev ib(rt:List NQ):D:= .ag [.sl 1 (rt.map aq)]
theorem A9{k:Nat}(hk:k≤43):IntKind.i64.wrap ((1:Int)*2^(min k IntKind.i64.bits))=((2^k:Nat):Int):=by
 have hb:IntKind.i64.bits=64:=rfl;have h:2^k≤2^43:=Nat.pow_le_pow_right (by decide) hk;rw[hb,Nat.min_eq_left (by omega),show (1:Int)*2^k=((2^k:Nat):Int) by push_cast;omega];generalize 2^k=m at h;rw[aI (by omega) (by omega)]
theorem nh(xs:List D)(r:Int)(hx:xs.length≤4398046511104)(hr: ∀k:Nat,k≤43→xs.length≤2^k→(∀j,j<k→2^j<xs.length)→r=if 2^k=xs.length then (k:Int) else -1):Pure Tryz.prog 81 [.sl 3 xs] (dI r):=by
 refine qJ 17 Tryz.func81 rfl rfl rfl rfl (by kernel_rfl) (fun B F0 w0=>?_);refine qX 1 rfl (qK 1 rfl (qI (AW.block ?_)));refine AW.aL [0,3] (fun k:Nat=>[(0,.d (.sl 3 xs)),(3,.d (dI k))]) (fun k=>k≤43∧ ∀j,j<k→2^j<xs.length) (fun k=>43-k) 0 rfl ⟨Nat.zero_le _,fun j h=>by omega⟩ (fun k hi=>?_)
 · obtain ⟨hk,hi⟩:=hi;show AW _ _ _ _ _ _ _ [(0,.d (.sl 3 xs)),(3,.d (dI k))];have hp:2^k≤2^43:=Nat.pow_le_pow_right (by decide) hk;refine AW.seq (qX 2 rfl ?_);rw[A9 hk];refine qU 3 rfl (ae.nil (AW.cond rfl (fun h=>?_) (fun h=>?_)))
   · have h:2^k<xs.length:=by have:=ao h;omega
     have hk4:k≠43:=fun e=>by subst e;omega
     refine AW.skip (AW.block (qT 2 rfl ?_));rw[aI (x:=(k:Int)+1) (by omega) (by omega)];refine qU 1 rfl (ae.nil ?_)
     exact⟨k+1,rfl,⟨by omega,fun j hj=>by
      by_cases e:j=k
      · rw[e];exact h
      · exact hi j (by omega)⟩,by omega⟩
   have h: ¬2^k<xs.length:=by have:=ar h;omega
   rw[hr k hk (by omega) hi];refine AW.exit (AW.seq (qX 2 rfl ?_));rw[A9 hk];refine qU 3 rfl (ae.nil ?_);by_cases e:2^k=xs.length
   · rw[if_pos e,e,bne_eq_false_iff_eq.2 rfl];exact AW.aH rfl (AW.skip (qX 2 rfl (qN rfl)))
   rw[if_neg e,bne_iff_ne.2 (fun h=>e (by omega))];exact AW.aJ rfl (qX 1 rfl (qN rfl))
theorem iq{i j:Nat}(h:2^i≤2^j):i≤j:=(Nat.pow_le_pow_iff_right (a:=2) (by decide)).1 h
theorem fc(xs:List D){i:Nat}(h:xs.length=2^i)(hi:i≤42):Pure Tryz.prog 81 [.sl 3 xs] (dI i):=by
 have hp:2^i≤2^42:=Nat.pow_le_pow_right (by decide) hi;refine nh xs i (by omega) (fun k hk h1 h2=>?_);rw[h] at h1;have h1:=iq h1;by_cases e:i<k
 · have:=h2 i e;omega
 · have e:i=k:=by omega
   rw[if_pos (by rw[h,e]),e]
theorem mI(xs:List D)(h: ∀i,xs.length≠2^i)(hx:xs.length≤4398046511104):Pure Tryz.prog 81 [.sl 3 xs] (dI (-1)):=by
 refine nh xs (-1) hx (fun k hk h1 h2=>?_);rw[if_neg (fun e=>h k e.symm)]
theorem uW{a:NQ}{i:Nat}(hi:i<a.length)(h:a.getD i 0≠0):bG a=false:=by
 unfold bG;rw[List.all_eq_false];exact⟨a.getD i 0,by rw[aK,bP hi];exact List.getElem_mem hi,by rw[a7 h];simp⟩
theorem rR{a:NQ}(h: ∀i,i<a.length→a.getD i 0=0):bG a=true:=by
 unfold bG;rw[List.all_eq_true];intro x hx;obtain ⟨i,hi,rfl⟩:=List.mem_iff_getElem.1 hx;have:=h i hi;rw[aK,bP hi] at this;exact aO this
theorem o6(a:NQ){k:Nat}(hs:aE k a)(hk:k≤17300000000000)(hl:a.length≤1000000):Pure Tryz.prog 170 [aq a] (dB (bG a)):=by
 refine qJ 15 Tryz.func170 rfl rfl rfl rfl (by kernel_rfl) (fun B F0 w0=>?_);have hno:=fun i hi=>uW (a:=a) (i:=i) hi;have hyes:=rR (a:=a);generalize bG a=E at hno hyes ⊢;refine qX 1 rfl (qI (qX 2 rfl ?_));rw[af];refine qU 1 rfl (ae.nil (AW.block ?_));refine AW.aL [5,6,7] (fun i:Nat=>[(5,.d (aq a)),(6,.d (dI a.length)),(7,.d (dI i))]) (fun i=> ∀j,j<i→j<a.length→a.getD j 0=0) (fun i=>a.length-i) 0 rfl (fun j h=>by omega) (fun i hi=>?_)
 · show AW _ _ _ _ _ _ _ [(5,.d (aq a)),(6,.d (dI a.length)),(7,.d (dI i))];refine qX 1 rfl (qI (AW.cond rfl (fun h=>?_) (fun h=>?_)))
   · have hii:i<a.length:=by have:=ao h;omega
     have g:=mV hii;have cs:=lT (Qr (a.getD i 0)) (iG _ (hs i)) hk;have hn:=hno i hii;rw[dk] at cs;have s0:=NT (q:=a.getD i 0);generalize hq:a.getD i 0=q at g cs hn s0;generalize jJ q.num=s at cs s0;refine AW.skip (AW.seq (AW.block (AW.seq (AW.region (ae.idx tok (Qr q).D rfl rfl rfl rfl (aj i) g ?_)))));refine qU 3 rfl (qK 1 rfl (qM rfl cs (qU 1 rfl (ae.nil (AW.cond rfl (fun h=>?_) (fun h=>?_))))))
     · have h:s≠0:=bne_iff_ne.1 h;rw[hn (fun e=>h (s0.2 e))];exact qX 1 rfl (qN rfl)
     · have h:s=0:=bne_eq_false_iff_eq.1 h;refine AW.skip (qT 1 rfl ?_);rw[aI (x:=(i:Int)+1) (by omega) (by omega)];refine qU 1 rfl (ae.nil ?_);refine⟨i+1,rfl,fun j h1 h2=>?_,by omega⟩;by_cases e:j=i
       · rw[e,hq];exact s0.1 h
       · exact hi j (by omega) h2
   have hii: ¬i<a.length:=by have:=ar h;omega
   rw[hyes (fun j h=>hi j (by omega) h)];exact AW.exit (qX 1 rfl (qN rfl))
theorem I3(q:Rat):((Qr q).g=false∧(Qr q).n.length=0∧(Qr q).d.length=0)↔q=0:=by
 constructor
 · rintro ⟨_,h,_⟩
   have:=RD.oe (r:=Qr q) (List.length_eq_zero_iff.1 h);rw[dk] at this;exact this
 · intro e;subst e;rw[jl];exact⟨rfl,rfl,rfl⟩
theorem ni(a:NQ)(hl:a.length≤1000000):Pure Tryz.prog 83 [aq a] (dB (bG a)):=by
 refine qJ 26 Tryz.func83 rfl rfl rfl rfl (by kernel_rfl) (fun B F0 w0=>?_);have hno:=fun i hi=>uW (a:=a) (i:=i) hi;have hyes:=rR (a:=a);generalize bG a=E at hno hyes ⊢;refine qX 1 rfl (qI (qX 2 rfl ?_));rw[af];refine qU 1 rfl (ae.nil (AW.block ?_));refine AW.aL [5,6,7] (fun i:Nat=>[(5,.d (aq a)),(6,.d (dI a.length)),(7,.d (dI i))]) (fun i=> ∀j,j<i→j<a.length→a.getD j 0=0) (fun i=>a.length-i) 0 rfl (fun j h=>by omega) (fun i hi=>?_)
 · show AW _ _ _ _ _ _ _ [(5,.d (aq a)),(6,.d (dI a.length)),(7,.d (dI i))];refine qX 1 rfl (qI (AW.cond rfl (fun h=>?_) (fun h=>?_)))
   · have hii:i<a.length:=by have:=ao h;omega
     have g:=mV hii;have hn:=hno i hii;have s0:=I3 (a.getD i 0);generalize hq:a.getD i 0=q at g hn s0;generalize Qr q=y at g s0;obtain ⟨yg,yn,yd⟩:=y;simp only[] at s0;refine AW.skip (AW.seq (AW.block (AW.seq (AW.region (ae.idx tok (RD.mk yg yn yd).D rfl rfl rfl rfl (aj i) g ?_)))));refine qU 3 rfl (qK 3 rfl ?_);cases yg with
     | true =>
       refine qU 11 rfl (ae.nil (AW.aJ rfl ?_));rw[hn (fun e=>by have:=s0.2 e;cases this.1)];exact qX 1 rfl (qN rfl)
     | false =>
     refine qU 3 rfl ?_;rw[ba];refine qU 1 rfl ?_;by_cases h1:(0:Int)<(yn.length:Int)
     · rw[aO h1];refine qU 7 rfl (ae.nil (AW.aJ rfl ?_));rw[hn (fun e=>by have:=(s0.2 e).2.1;omega)];exact qX 1 rfl (qN rfl)
     rw[a7 h1];refine qU 5 rfl ?_;rw[ba];refine qU 1 rfl ?_;by_cases h2:(0:Int)<(yd.length:Int)
     · rw[aO h2];refine qU 1 rfl (ae.nil (AW.aJ rfl ?_));rw[hn (fun e=>by have:=(s0.2 e).2.2;omega)];exact qX 1 rfl (qN rfl)
     rw[a7 h2];refine qU 1 rfl (ae.nil (AW.aH rfl (AW.skip (qT 1 rfl ?_))));rw[aI (x:=(i:Int)+1) (by omega) (by omega)];refine qU 1 rfl (ae.nil ?_);refine⟨i+1,rfl,fun j h1 h2=>?_,by omega⟩;by_cases e:j=i
     · rw[e,hq];exact s0.1 ⟨rfl,by omega,by omega⟩
     · exact hi j (by omega) h2
   have hii: ¬i<a.length:=by have:=ar h;omega
   rw[hyes (fun j h=>hi j (by omega) h)];exact AW.exit (qX 1 rfl (qN rfl))
end Lift
namespace Lift
open Go Go.Proofs
section
variable {P:Program} {T:Ty} {B:Nat} {F0:Nat→Prop} {w0:cX} {n:Nat} {σ τ:St} {K:St→Prop} {all:Array Oper} {o:Oper} {d:Nat} {rest:List Oper}
theorem ae.KE(hT:bD P T)(z:Nat){e:Nat}{te:TI}{m:Int}(hd:o.dst=some d)(hdn:Nat.ble (d+1) n=true)(hg:aG all σ o=true)(hx:Mt T σ.get o.op=some (e,te,m))(hz:l6 te=true)(hzd:uX te= .ag [.v (.bool false),.sl 1 [],.sl 1 []])(hb:te.bytes=56)(hm:m=z)(h1:z≤1000000)
  (h:ae P B F0 w0 n all rest K ((d,.ow e (fv (List.replicate z 0)))::σ.kill d)):ae P B F0 w0 n all (o::rest) K σ:=by
 subst hm;refine ae.make hT hd hdn hg hx hz (by omega) (by rw[hb];omega) (by omega) ?_;have hq:(Qr 0).D= .ag [.v (.bool false),.sl 1 [],.sl 1 []]:=by rw[jl];rfl
 rw[hzd,← hq,show List.replicate ((z:Int)).toNat (Qr 0).D=fv (List.replicate z 0) by rw[fv,List.map_replicate];rfl];exact h
theorem Gp(a:NQ)(m:Nat):(fv a).take (min (fv a).length (fv (List.replicate m 0)).length)++(fv (List.replicate m 0)).drop (min (fv a).length (fv (List.replicate m 0)).length)=fv (bo a m):=by
 rw[af,af,List.length_replicate,← List.map_take,← List.map_drop,← List.map_append];unfold bo;rw[List.drop_replicate]
 congr 2
 · by_cases h:a.length≤m
   · rw[Nat.min_eq_left h,List.take_of_length_le (ai _),List.take_of_length_le h]
   · rw[Nat.min_eq_right (by omega)]
 · congr 1;omega
theorem ae.Np(hT:bD P T){h e m:Nat}{a:NQ}(hd:o.dst=some d)(hdn:Nat.ble (d+1) n=true)(hg:aG all σ o=true)(hx:NM T σ o.op=some (h,e,fv (List.replicate m 0),fv a))
  (hk: ∀z,ae P B F0 w0 n all rest K ((d,.d (.v (.int .i64 z)))::(h,.ow e (fv (bo a m)))::σ)):ae P B F0 w0 n all (o::rest) K σ:=by
 refine ae.Ir hT hd hdn hg hx ?_;rw[Gp];exact hk _
end
theorem Dh{a b:NQ}(h:a.length=b.length)(h2: ∀i,i<a.length→a.getD i 0=b.getD i 0):a=b:=by
 refine List.ext_getElem h (fun i h3 h4=>?_);have:=h2 i h3;rw[aK,aK,bP h3,bP h4] at this;exact this
theorem DC(r:NQ)(i j:Nat)(q:Rat):(r.set i q).getD j 0=if j=i∧i<r.length then q else r.getD j 0:=by
 rw[aK,List.getElem?_set,aK];by_cases e:i=j
 · subst e;by_cases h:i<r.length
   · rw[if_pos rfl,if_pos h,if_pos ⟨rfl,h⟩];rfl
   · rw[if_pos rfl,if_neg h,if_neg (fun e=>h e.2),List.getElem?_eq_none (by omega)]
 · rw[if_neg e,if_neg (fun h=>e h.1.symm)]
def Ht(r:NQ)(res:D)(R':List LR):Prop:= ∃V,res= .v V∧R'=[(V,AV.ow 68 (fv r))]
theorem jd(a:NQ)(n:Nat)(hn:n≤1000000):l3 Tryz.prog 84 [aq a,dI n] [] (Ht (bo a n)):=by
 refine l3.intro (n:=12) tok Tryz.func84 rfl rfl rfl (Nat.le_of_ble_eq_true rfl) (by kernel_rfl) (fun B F0 w0=>?_);refine AZ.seq (AZ.iK (fun B1 F1 w1=>?_));refine qU 1 rfl (ae.nil ⟨rfl,?_⟩);refine AZ.seq (AZ.iK (fun B1 F1 w1=>?_));refine qU 1 rfl (ae.KE tok n rfl rfl rfl rfl rfl rfl rfl rfl hn ?_);refine qU 1 rfl (ae.nil ⟨rfl,?_⟩);refine AZ.seq (AZ.iK (fun B1 F1 w1=>?_));refine qU 2 rfl ?_;refine ae.Np tok (a:=a) (m:=n) rfl rfl rfl rfl (fun z=>?_);refine ae.nil ⟨rfl,?_⟩;refine AZ.seq (AZ.iK (fun B1 F1 w1=>?_));refine qU 2 rfl (ae.nil ⟨rfl,?_⟩);refine AZ.gz 4 rfl rfl rfl (fun V=>AZ.ret ⟨.v V,rfl,V,rfl,rfl⟩)
theorem fA(a:NQ){k:Nat}(hs:aE k a)(hk:k≤17300000000000)(hl:a.length≤1000000):Pure Tryz.prog 129 [aq a] (aq (aZ a)):=by
 refine qJ 23 Tryz.func129 rfl rfl rfl rfl (by kernel_rfl) (fun B F0 w0=>?_);refine qX 1 rfl (qK 2 rfl ?_);rw[af];refine ae.KE tok a.length rfl rfl rfl rfl rfl rfl rfl rfl hl ?_;refine qU 1 rfl (qI (qX 2 rfl ?_));rw[af];refine qU 1 rfl (ae.nil (AW.block ?_));refine AW.aL [0,3,9,10] (fun s:Nat×NQ=>[(0,.d (aq a)),(3,.ow 68 (fv s.2)),(9,.d (dI a.length)),(10,.d (dI s.1))]) (fun s=>s.2.length=a.length∧ ∀j,j<s.1→j<a.length→s.2.getD j 0= -a.getD j 0) (fun s=>a.length-s.1) (0,List.replicate a.length 0) rfl ⟨List.length_replicate,fun j h=>by omega⟩ (fun s hi=>?_)
 · obtain ⟨i,r⟩:=s;obtain ⟨hrl,hi⟩:=hi;simp only[] at hrl hi;show AW _ _ _ _ _ _ _ [(0,.d (aq a)),(3,.ow 68 (fv r)),(9,.d (dI a.length)),(10,.d (dI i))];refine qX 1 rfl (qI (AW.cond rfl (fun h=>?_) (fun h=>?_)))
   · have hii:i<a.length:=by have:=ao h;omega
     have g:=mV hii;have cn:=ui (Qr (a.getD i 0)) (iG _ (hs i)) hk;rw[dk] at cn;refine AW.skip (AW.seq (AW.block (qX 2 rfl (ae.nil (qT 4 rfl (ae.idx tok (Qr (a.getD i 0)).D rfl rfl rfl rfl (aj i) g ?_))))));refine qU 1 rfl (qM rfl cn ?_);refine ae.gD tok rfl rfl rfl rfl (aj i) (by rw[af];show i<_;omega) ?_;refine ae.CU tok (-a.getD i 0) rfl rfl rfl (by show i<_;omega) ?_;refine ae.nil (qT 1 rfl ?_);rw[aI (x:=(i:Int)+1) (by omega) (by omega)];refine qU 1 rfl (ae.nil ?_);refine⟨(i+1,r.set i (-a.getD i 0)),rfl,⟨by rw[List.length_set];exact hrl,fun j h1 h2=>?_⟩,by show a.length-(i+1)<a.length-i;omega⟩;show (r.set i (-a.getD i 0)).getD j 0=_;rw[DC];by_cases e:j=i
     · rw[if_pos ⟨e,by omega⟩,e]
     · rw[if_neg (fun h=>e h.1)];exact hi j (by omega) h2
   have hii: ¬i<a.length:=by have:=ar h;omega
   obtain rfl:r=aZ a:=Dh (by rw[hrl,gy]) (fun j hj=>by rw[pV];exact hi j (by omega) (by omega));exact AW.exit (qX 2 rfl (qN rfl))
theorem JX(a b:Nat):(if (b:Int)>(a:Int) then (b:Int) else (a:Int))=((max a b:Nat):Int):=by
 split<;>omega
theorem ec(a b:NQ){k:Nat}(ha:aE k a)(hb:aE k b)(hk:k≤17300000000000)(hl:a.length≤1000000)(hl2:b.length≤1000000):Pure Tryz.prog 44 [aq a,aq b] (aq (aX a b)):=by
 refine qJ 37 Tryz.func44 rfl rfl rfl rfl (by kernel_rfl) (fun B F0 w0=>?_);obtain ⟨n,hn⟩: ∃n,n=max a.length b.length:=⟨_,rfl⟩;have cw1:=jd a n (by omega);have cw2:=jd b n (by omega);have l1:=bK a n;have l2:=bK b n;have g1: ∀i,i<n→(bo a n).getD i 0=a.getD i 0:=fun i hi=>by rw[gK,if_pos hi]
 have g2: ∀i,i<n→(bo b n).getD i 0=b.getD i 0:=fun i hi=>by rw[gK,if_pos hi]
 have hpl:(aX a b).length=n:=by rw[kf,hn]
 generalize bo a n=wa at cw1 l1 g1;generalize bo b n=wb at cw2 l2 g2;refine qX 1 rfl (qK 4 rfl ?_);rw[af,af];refine qU 2 rfl ?_;rw[JX,← hn];refine qI (AZ.aw ?_);refine AZ.region ?_;refine ak.cut 2 rfl (fun B1 F1 w1=>?_);refine qU 2 rfl (ae.nil ⟨rfl,?_⟩);refine ak.jF tok [] rfl rfl rfl rfl rfl List.nodup_nil rfl cw1 (fun _ _ _=>Nat.zero_le _) (fun res R1 hP=>?_);obtain ⟨V1,rfl,rfl⟩:=hP;refine ak.cut 2 rfl (fun B1 F1 w1=>?_);refine qU 2 rfl (ae.nil ⟨rfl,?_⟩);refine ak.jF tok [] rfl rfl rfl rfl rfl List.nodup_nil rfl cw2 (fun _ _ _=>Nat.zero_le _) (fun res R1 hP=>?_);obtain ⟨V2,rfl,rfl⟩:=hP;refine ak.cut 2 rfl (fun B1 F1 w1=>?_);refine qU 2 rfl (ae.nil ⟨rfl,?_⟩);refine ak.to [0,1] [(0,.d (.v V1)),(1,.d (.v V2))] rfl ?_;refine ak.fp 0 0 (V:=V1) (av:= .ow 68 (fv wa)) rfl rfl rfl ?_;refine ak.to [0,1] [(0,.ow 68 (fv wa)),(1,.d (.v V2))] rfl ?_;refine ak.fp 1 1 (V:=V2) (av:= .ow 68 (fv wb)) rfl rfl rfl ?_;refine ak.to [0,1] [(0,.ow 68 (fv wa)),(1,.ow 68 (fv wb))] rfl ?_;refine ak.nil (AW.jh tok 1 rfl rfl ?_);refine AW.seq (qX 2 rfl ?_);rw[af,l1];refine qU 1 rfl (ae.nil (AW.block ?_));refine AW.aL [0,1,19,20] (fun s:Nat×NQ=>[(0,.ow 68 (fv s.2)),(1,.d (aq wb)),(19,.d (dI n)),(20,.d (dI s.1))]) (fun s=>s.2.length=n∧ ∀j,j<n→s.2.getD j 0=if j<s.1 then a.getD j 0+b.getD j 0 else a.getD j 0) (fun s=>n-s.1) (0,wa) rfl ⟨l1,fun j h=>by rw[if_neg (Nat.not_lt_zero _)];exact g1 j h⟩ (fun s hi=>?_)
 · obtain ⟨i,r⟩:=s;obtain ⟨hrl,hi⟩:=hi;simp only[] at hrl hi;show AW _ _ _ _ _ _ _ [(0,.ow 68 (fv r)),(1,.d (aq wb)),(19,.d (dI n)),(20,.d (dI i))];refine qX 1 rfl (qI (AW.cond rfl (fun h=>?_) (fun h=>?_)))
   · have hii:i<n:=by have:=ao h;omega
     have e1:=mV (r:=r) (i:=i) (by omega);have e2:=mV (r:=wb) (i:=i) (by omega);rw[hi i hii,if_neg (Nat.lt_irrefl _)] at e1;rw[g2 i hii] at e2;have ca:=mT (Qr (a.getD i 0)) (Qr (b.getD i 0)) (iG _ (ha i)) (iG _ (hb i)) hk;rw[dk,dk] at ca;refine AW.skip (AW.seq (AW.block (qX 2 rfl (ae.nil (AW.draw aS 12 (by kernel_rfl) ?_)))));refine qP 4 rfl ?_;refine ah.gD tok rfl rfl rfl rfl rfl rfl (aj i) (by rw[af];show i<_;omega) ?_;refine ah.df tok (Qr (a.getD i 0)).D rfl rfl rfl rfl rfl e1 rfl ?_;refine qP 2 rfl (ah.idx tok (Qr (b.getD i 0)).D rfl rfl rfl rfl rfl (aj i) e2 ?_);refine qP 1 rfl (qQ rfl ca ?_);refine ah.gD tok rfl rfl rfl rfl rfl rfl (aj i) (by rw[af];show i<_;omega) ?_;refine ah.nil ?_;refine ae.CU tok (a.getD i 0+b.getD i 0) rfl rfl rfl (by show i<_;omega) ?_;refine ae.nil (qT 1 rfl ?_);rw[aI (x:=(i:Int)+1) (by omega) (by omega)];refine qU 1 rfl (ae.nil ?_);refine⟨(i+1,r.set i (a.getD i 0+b.getD i 0)),rfl,⟨by rw[List.length_set];exact hrl,fun j h1=>?_⟩,by show n-(i+1)<n-i;omega⟩;show (r.set i (a.getD i 0+b.getD i 0)).getD j 0=if j<i+1 then _ else _
     rw[DC];by_cases e:j=i
     · rw[if_pos ⟨e,by omega⟩,e,if_pos (by omega)]
     · rw[if_neg (fun h=>e h.1),hi j h1];by_cases h2:j<i
       · rw[if_pos h2,if_pos (by omega)]
       · rw[if_neg h2,if_neg (by omega)]
   have hii: ¬i<n:=by have:=ar h;omega
   obtain rfl:r=aX a b:=Dh (by rw[hrl,hpl]) (fun j hj=>by rw[oD,hi j (by omega),if_pos (by omega)]);exact AW.exit (qX 2 rfl (qN rfl))
theorem k9(a b:NQ)(n:Nat)(hn:n≤100000):Pure Tryz.prog 172 [aq a,aq b,dI n] (aq (dR a b n)):=by
 refine qJ 14 Tryz.func172 rfl rfl rfl rfl (by kernel_rfl) (fun B F0 w0=>?_);have cw1:=jd a n (by omega);have cw2:=jd b n (by omega);have l1:=bK a n;have l2:=bK b n;unfold dR;generalize bo a n=wa at cw1 l1 ⊢;generalize bo b n=wb at cw2 l2 ⊢;refine qX 1 rfl (qI (AZ.aw ?_));refine AZ.region ?_;refine ak.cut 2 rfl (fun B1 F1 w1=>?_);refine qU 2 rfl (ae.nil ⟨rfl,?_⟩);refine ak.jF tok [] rfl rfl rfl rfl rfl List.nodup_nil rfl cw1 (fun _ _ _=>Nat.zero_le _) (fun res R1 hP=>?_);obtain ⟨V1,rfl,rfl⟩:=hP;refine ak.cut 2 rfl (fun B1 F1 w1=>?_);refine qU 2 rfl (ae.nil ⟨rfl,?_⟩);refine ak.jF tok [] rfl rfl rfl rfl rfl List.nodup_nil rfl cw2 (fun _ _ _=>Nat.zero_le _) (fun res R1 hP=>?_);obtain ⟨V2,rfl,rfl⟩:=hP;refine ak.to [9,12] [(9,.d (.v V1)),(12,.d (.v V2))] rfl ?_;refine ak.fp 9 0 (V:=V1) (av:= .ow 68 (fv wa)) rfl rfl rfl ?_;refine ak.to [9,12] [(9,.ow 68 (fv wa)),(12,.d (.v V2))] rfl ?_;refine ak.fp 12 1 (V:=V2) (av:= .ow 68 (fv wb)) rfl rfl rfl ?_;refine ak.to [9,12] [(9,.ow 68 (fv wa)),(12,.ow 68 (fv wb))] rfl ?_;refine ak.cut 2 rfl (fun B1 F1 w1=>?_);refine ae.jh tok 12 rfl rfl ?_;refine ae.lB tok rfl rfl rfl rfl rfl rfl (by rw[af,af,l1,l2];show (_+_)*56≤_;omega) (by rw[af,af,l1,l2];omega) ?_;refine qU 1 rfl (ae.nil ⟨rfl,?_⟩);refine ak.nil ?_;rw[show fv wa++fv wb=fv (wa++wb) from List.map_append.symm];exact AW.ret rfl
theorem jH(a:NQ){k:Nat}(hs:aE k a)(hk:k≤17300000000000)(hl:a.length≤1000000):Pure Tryz.prog 82 [aq a] (aq a):=by
 refine qJ 28 Tryz.func82 rfl rfl rfl rfl (by kernel_rfl) (fun B F0 w0=>?_);refine qX 1 rfl (qK 1 rfl (qI (qX 2 rfl ?_)));rw[af];refine qU 1 rfl (ae.nil (AW.block ?_));refine AW.aL [3,6,7,8] (fun i:Nat=>[(3,.ow 68 (fv (a.take i))),(6,.d (aq a)),(7,.d (dI a.length)),(8,.d (dI i))]) (fun i=>i≤a.length) (fun i=>a.length-i) 0 rfl (Nat.zero_le _) (fun i hi=>?_)
 · have hi:i≤a.length:=hi;show AW _ _ _ _ _ _ _ [(3,.ow 68 (fv (a.take i))),(6,.d (aq a)),(7,.d (dI a.length)),(8,.d (dI i))];refine qX 1 rfl (qI (AW.cond rfl (fun h=>?_) (fun h=>?_)))
   · have hii:i<a.length:=by have:=ao h;omega
     have g:=mV hii;have hw:=iG _ (hs i);have htk:=vi a 0 hii;have hol:(a.take i).length=i:=by rw[bb];omega
     generalize a.getD i 0=q at g hw htk;have hw1:=hw.2.2.1;have hw2:=hw.2.2.2;refine AW.skip (AW.seq (AW.block (AW.seq (AW.region (ae.idx tok (Qr q).D rfl rfl rfl rfl (aj i) g ?_)))));refine qU 3 rfl (ae.nil (AW.draw aS 13 (by kernel_rfl) ?_));refine qP 6 rfl ?_;refine ah.nY tok rfl rfl rfl rfl rfl (by show (((Qr q).n.map wd).length)*4≤_;rw[ba];omega) ?_;refine qP 3 rfl ?_;refine ah.nY tok rfl rfl rfl rfl rfl (by show (((Qr q).d.map wd).length)*4≤_;rw[ba];omega) ?_;refine qP 1 rfl (ah.mX tok rfl rfl rfl rfl rfl rfl ?_);refine ah.nil ?_;refine ae.lB tok rfl rfl rfl rfl rfl rfl (by rw[af,hol];show (_+1)*56≤_;omega) (by rw[af,hol];show _+1≤_;omega) ?_;refine qU 1 rfl (ae.nil (qT 1 rfl ?_));rw[aI (x:=(i:Int)+1) (by omega) (by omega)];refine qU 1 rfl (ae.nil ?_);exact⟨i+1,by rw[htk];show _=[(3,AV.ow _ (List.map _ _)),_,_,_];rw[List.map_append];rfl,hii,by omega⟩
   have hii:i=a.length:=by have:=ar h;omega
   subst hii;rw[List.take_length];exact AW.exit (qX 2 rfl (qN rfl))
end Lift
namespace Lift
open Go Go.Proofs
section
variable {P:Program} {T:Ty} {B:Nat} {F0:Nat→Prop} {w0:cX} {n:Nat} {σ σ0 τ:St} {K:St→Prop} {all ops:Array Oper} {o:Oper} {d:Nat} {ds:List Nat} {rest:List Oper}
theorem Ei(a:NQ)(lo hi:Option Int):((fv a).take (cV (fv a).length hi)).drop (fU lo)=fv ((a.take (cV a.length hi)).drop (fU lo)):=by
 show List.drop _ (List.take (cV (List.map _ a).length hi) (List.map _ a))=List.map _ _;rw[List.map_drop,List.map_take,af]
theorem ae.hZ(hT:bD P T){a:NQ}{lo hi:Option Int}(x:NQ)(hd:o.dst=some d)(hdn:Nat.ble (d+1) n=true)(hg:aG all σ o=true)(hx:FE T σ.get o.op=some (aq a,lo,hi))(g1:okB lo)(g2:okB hi)(g3:fU lo≤cV a.length hi)(g4:cV a.length hi≤a.length)(hxx:(a.take (cV a.length hi)).drop (fU lo)=x)
  (h:ae P B F0 w0 n all rest K ((d,.d (aq x))::σ)):ae P B F0 w0 n all (o::rest) K σ:=by
 refine ae.Ej hT hd hdn hg hx g1 g2 (by rw[af];exact g3) (by rw[af];exact g4) ?_;rw[Ei,hxx];exact h
theorem ah.hZ(hT:bD P T){a:NQ}{lo hi:Option Int}(x:NQ)(hd:o.dst=some d)(hdn:Nat.ble (d+1) n=true)(hg:aG ops τ o=true)(hs:σ0.get d=none)(hx:FE T τ.get o.op=some (aq a,lo,hi))(g1:okB lo)(g2:okB hi)(g3:fU lo≤cV a.length hi)(g4:cV a.length hi≤a.length)(hxx:(a.take (cV a.length hi)).drop (fU lo)=x)
  (h:ah P B F0 w0 n ops ds σ0 rest ((d,.d (aq x))::τ) K):ah P B F0 w0 n ops ds σ0 (o::rest) τ K:=by
 refine ah.Ej hT hd hdn hg hs hx g1 g2 (by rw[af];exact g3) (by rw[af];exact g4) ?_;rw[Ei,hxx];exact h
end
theorem iP(i:Nat)(h:i≤9223372036854775807):mW true .i64 (i:Int) 2= .int .i64 ((i / 2:Nat):Int):=by
 have e:((i:Int).tdiv ((2:Nat):Int))=((i / 2:Nat):Int):=rfl;show Value.int .i64 (IntKind.i64.wrap ((i:Int).tdiv ((2:Nat):Int)))=_;rw[e,aI (by omega) (by omega)]
theorem H3{rt:List NQ}{i:Nat}(h:i<rt.length):(rt.map aq)[i]?=some (aq (rt.getD i [])):=by simp[h]
theorem aA.len{l:Nat}{a:NQ}(h:aA l a)(hl:l≤10):a.length≤1024:=Nat.le_trans h.le (Nat.pow_le_pow_right (n:=2) (by decide) hl)
def iR:Nat→NQ→NQ
 | 0,a=>if bG (a.take 1)=true then [] else a.take 1
 | i+1,a=>if bG ((a.take (2^(i+1))).drop (2^i))=true then iR i a else a.take (2^(i+1))
def aD(a:NQ):NQ:=if a.length=0 then [] else iR a.length.log2 a
theorem Ek: ∀{i:Nat} {a:NQ} {k:Nat},2^i≤a.length→aE k a→aA i (iR i a)∧aE k (iR i a)
 | 0,a,k,h,hs=>by
   unfold iR;split
   · exact⟨cg _,cL hs.pos⟩
   · exact⟨.inr ⟨0,ai _,by rw[bb];have h:1≤a.length:=h;show min 1 _=1;omega⟩,hs.take _⟩
 | i+1,a,k,h,hs=>by
   unfold iR;have e:2^(i+1)=2^i*2:=Nat.pow_succ ..;split
   · have:=Ek (i:=i) (a:=a) (by omega) hs;exact⟨this.1.mono (by omega),this.2⟩
   · exact⟨.inr ⟨i+1,ai _,by rw[bb];omega⟩,hs.take _⟩
theorem bh{l k:Nat}{a:NQ}(h:aA l a)(hs:aE k a):aA l (aD a)∧aE k (aD a):=by
 unfold aD;split
 · exact⟨cg _,cL hs.pos⟩
 rename_i h0;rcases h with e | ⟨i,hi,e⟩
 · exact absurd e h0
 rw[e,Nat.log2_two_pow];have:=Ek (i:=i) (a:=a) (by omega) hs;exact⟨this.1.mono hi,this.2⟩
theorem bQ(a:NQ){l k:Nat}(ha:aA l a)(hl:l≤5)(hs:aE k a)(hk:k≤17300000000000):Pure Tryz.prog 43 [aq a] (aq (aD a)):=by
 refine qJ 45 Tryz.func43 rfl rfl rfl rfl (by kernel_rfl) (fun B F0 w0=>?_);have hl10:=ha.len (by omega);rcases ha with h0 | ⟨i,hi,hai⟩
 · obtain rfl:a=[]:=List.length_eq_zero_iff.1 h0;have cl:=mI (fv []) (fun i=>by have:=Nat.two_pow_pos i;show 0≠_;omega) (by decide);have cc:=jH [] hs hk (by decide);refine qX 1 rfl (qI (qX 1 rfl (qM rfl cl (qU 1 rfl (qK 11 rfl (ae.nil (AW.aH rfl (AW.skip (qX 3 rfl ?_)))))))));refine qI (AW.block ?_);refine AW.aL [0,4] (fun _:Unit=>[(0,.d (aq [])),(4,.d (dI 0))]) (fun _=>True) (fun _=>0) () rfl trivial (fun _ _=>?_);refine AW.seq (qX 10 rfl (ae.nil (AW.aH rfl (AW.exit (AW.seq (qX 7 rfl (ae.nil (AW.aH rfl ?_))))))));refine AW.skip (qX 2 rfl (ae.hZ tok (a:=[]) [] rfl rfl rfl rfl trivial (Int.le_refl _) (ai _) (ai _) rfl ?_));exact qM rfl cc (qU 1 rfl (qN rfl))
 have cl:=fc (fv a) (by rw[af];exact hai) (by omega);have hp:=Nat.two_pow_pos i;have hE:aD a=iR i a:=by unfold aD;rw[if_neg (by omega),hai,Nat.log2_two_pow]
 rw[hE];refine qX 1 rfl (qI (qX 1 rfl (qM rfl cl (qU 1 rfl (qK 2 rfl ?_)))));rw[af];refine qU 1 rfl ?_;rw[aO (show (0:Int)<(a.length:Int) by omega)];refine qU 3 rfl ?_;rw[a7 (show ¬((i:Int)<0) by omega)];refine qU 3 rfl ?_;rw[a7 (show ¬((5:Int)<(i:Int)) by omega)];refine qU 2 rfl (ae.nil (AW.aH rfl (AW.skip (qX 2 rfl ?_))));rw[af,hai];refine qU 1 rfl (qI (AW.block ?_));refine AW.aL [0,4] (fun j:Nat=>[(0,.d (aq a)),(4,.d (dI (2^j:Nat)))]) (fun j=>j≤i∧iR j a=iR i a) (fun j=>j) i rfl ⟨ai _,rfl⟩ (fun j hj=>?_);obtain ⟨hj,hjE⟩:=hj;show AW _ _ _ _ _ _ _ [(0,.d (aq a)),(4,.d (dI (2^j:Nat)))];have hpj:2^j≤2^i:=Nat.pow_le_pow_right (by decide) hj;have hpp:=Nat.two_pow_pos j;refine AW.seq (qX 2 rfl ?_);rcases j with _ | j
 · refine qU 8 rfl (ae.nil (AW.aH rfl (AW.exit (AW.seq (qX 4 rfl ?_)))));refine ae.hZ tok (a:=a) (a.take 1) rfl rfl rfl rfl trivial (show (0:Int)≤1 by decide) (Nat.zero_le _) (show 1≤a.length by omega) rfl ?_;refine qM rfl (ni (a.take 1) (by rw[bb];omega)) ?_;refine qU 1 rfl (ae.nil ?_);rw[← hjE];unfold iR;cases hz:bG (a.take 1) with
   | true =>
     rw[if_pos rfl];exact AW.aJ rfl (qX 1 rfl (qN rfl))
   | false =>
     rw[if_neg (by simp)];refine AW.aH rfl (AW.skip (qX 2 rfl ?_));refine ae.hZ tok (a:=a) (a.take 1) rfl rfl rfl rfl trivial (show (0:Int)≤1 by decide) (Nat.zero_le _) (show 1≤a.length by omega) rfl ?_;refine qM rfl (jH (a.take 1) (hs.take 1) hk (by rw[bb];omega)) ?_;exact qU 1 rfl (qN rfl)
 have e2:2^(j+1)=2^j*2:=Nat.pow_succ ..;have eh:=lM j;rw[aO (show (1:Int)<((2^(j+1):Nat):Int) by have:=Nat.two_pow_pos j;omega)];refine qU 3 rfl (ae.div tok rfl rfl rfl rfl (by decide) ?_);rw[iP _ (by omega),eh];refine qU 1 rfl ?_;refine ae.hZ tok (a:=a) ((a.take (2^(j+1))).drop (2^j)) rfl rfl rfl rfl (aj _) (aj _) (show 2^j≤2^(j+1) by omega) (show 2^(j+1)≤a.length by omega) rfl ?_;refine qM rfl (ni _ (by rw[List.length_drop,bb];omega)) ?_;refine qU 1 rfl (ae.nil ?_);cases hz:bG ((a.take (2^(j+1))).drop (2^j)) with
 | true =>
   refine AW.aJ rfl (AW.skip (AW.block (qT 1 rfl (ae.div tok rfl rfl rfl rfl (by decide) ?_))));rw[iP _ (by omega),eh];refine qU 1 rfl (ae.nil ?_);exact⟨j,rfl,⟨by omega,by rw[← hjE];show _=if bG ((a.take (2^(j+1))).drop (2^j))=true then _ else _;rw[if_pos hz]⟩,by omega⟩
 | false =>
 refine AW.aH rfl (AW.exit (AW.seq (qX 2 rfl ?_)));rw[beq_eq_false_iff_ne.2 (show ((2^(j+1):Nat):Int)≠1 by have:=Nat.two_pow_pos j;omega)];refine qU 5 rfl (ae.nil (AW.aH rfl (AW.skip (qX 2 rfl ?_))));refine ae.hZ tok (a:=a) (a.take (2^(j+1))) rfl rfl rfl rfl trivial (aj _) (Nat.zero_le _) (show 2^(j+1)≤a.length by omega) rfl ?_;refine qM rfl (jH _ (hs.take _) hk (by rw[bb];omega)) ?_;refine qU 1 rfl (ae.nil ?_);rw[← hjE];unfold iR;rw[if_neg (by rw[hz];simp)];exact AW.ret rfl
end Lift
