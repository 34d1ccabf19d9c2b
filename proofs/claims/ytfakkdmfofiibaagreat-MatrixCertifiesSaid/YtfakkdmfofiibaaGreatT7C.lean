/- Parts of the proof, one behind the other: the logic, the contracts of the functions that the statement reaches. -/
import Derived.Test.YtfakkdmfofiibaaGreatT7B
import Derived.Laws.Strings
import Derived.Test.YtfakkdmfofiibaaGreatRows
import Derived.OrdersHeld
import Derived.OrdersIn
import Derived.TacticsIn
import Derived.RangeFuncCalls
import Derived.RangeFuncKeeps
set_option linter.unusedVariables false
set_option linter.unusedSimpArgs false
namespace Lift
open Go Go.Proofs
theorem ry(M:List Nat)(lo m:Nat):((M.map wd).drop lo).take m=(dv M lo m).map wd:=by
 rw[dv,List.map_take,List.map_drop]
theorem vD(xs:List Nat)(x:Nat):xs.map wd++[wd x]=(xs++[x]).map wd:=by simp
theorem Cv(xs:List Nat)(x:Nat):nv (xs++[x])=nv xs+4294967296^xs.length*x:=by
 rw[rR];simp[nv]
theorem oq(l:List Nat)(h:a9 l)(N i:Nat)(hN:l.length≤N):(dg N (nv l)).getD i 0=l.getD i 0:=by
 have hlt:nv l<4294967296^N:=Nat.lt_of_lt_of_le (dz h) (iL hN);rw[fC (fk N (nv l)) i,fC h i,iA,Nat.mod_eq_of_lt hlt]
theorem vp{a b:List Nat}(ha:a9 a)(hb:a9 b){i:Nat}(hib:i<b.length)(h:a.getD i 0<b.getD i 0)(he: ∀j,i<j→a.getD j 0=b.getD j 0):nv a<nv b:=by
 obtain ⟨N,hN⟩: ∃N,N=max a.length b.length:=⟨_,rfl⟩
 have e: ∀l:List Nat,a9 l→l.length≤N→nv (dg N (nv l))=nv l:=fun l hl hlen=>by
  rw[iA];exact Nat.mod_eq_of_lt (Nat.lt_of_lt_of_le (dz hl) (iL hlen))
 rw[← e a ha (by omega),← e b hb (by omega)];refine rQ (fk _ _) (fk _ _) (i:=i) (by rw[aU];omega) (by rw[aU];omega) ?_ ?_
 · rw[oq a ha N i (by omega),oq b hb N i (by omega)];exact h
 · refine qY (by simp[aU]) (fun j hj=>?_);rw[lL,lL,oq a ha N _ (by omega),oq b hb N _ (by omega)];exact he _ (by omega)
theorem Di{a b:List Nat}(ha:a9 a)(hb:a9 b)(he: ∀j,a.getD j 0=b.getD j 0):nv a=nv b:=by
 obtain ⟨N,hN⟩: ∃N,N=max a.length b.length:=⟨_,rfl⟩
 have e: ∀l:List Nat,a9 l→l.length≤N→nv (dg N (nv l))=nv l:=fun l hl hlen=>by
  rw[iA];exact Nat.mod_eq_of_lt (Nat.lt_of_lt_of_le (dz hl) (iL hlen))
 rw[← e a ha (by omega),← e b hb (by omega)]
 congr 1
 refine qY (by rw[aU,aU]) (fun j _=>?_);rw[oq a ha N j (by omega),oq b hb N j (by omega)];exact he j
theorem Gi(m n:Nat)(h:n≤m)(hm:m<18446744073709551616):IntKind.u64.wrap ((m:Int) -(n:Int))=((m-n:Nat):Int):=by rw[th (by omega) (by omega)];omega
theorem JO(x:Nat)(h:x<4294967296):IntKind.u64.wrap (4294967296+(x:Int))=((4294967296+x:Nat):Int):=by rw[th (by omega) (by omega)];omega
theorem D0(x:Nat)(h:x≤1):IntKind.u64.wrap (1-(x:Int))=((1-x:Nat):Int):=by rw[th (by omega) (by omega)];omega
theorem e8(ws:List Nat)(hw:a9 ws)(i:Nat):Pure Tryz.prog 188 [Wd ws,dI i] (dU (ws.getD i 0:Nat)):=by
 refine qJ 14 Tryz.func188 rfl rfl rfl rfl (by kernel_rfl) (fun B F0 w0=>?_);refine AW.seq (AW.region ?_);refine qU 1 rfl ?_;refine ab.nil ?_;refine AW.seq (AW.seq (AW.region ?_));refine qU 4 rfl ?_;refine ab.nil ?_;refine AW.cond rfl (fun h=>?_) (fun h=>?_)
 · have h':i<ws.length:=by simpa using h
   refine AW.seq (AW.region ?_);refine qU 2 rfl ?_;refine ab.idx tok (wd (ws.getD i 0)) rfl rfl rfl rfl (aj i) (bV h') ?_;refine qU 3 rfl ?_;have hb:=hw.getD i;rw[th (by omega) (by omega)];exact qN rfl
 · have h':ws.getD i 0=0:=by
    have:ws.length≤i:=by simpa using h
    simp[List.getD,List.getElem?_eq_none this]
   rw[h'];refine AW.skip (AW.seq (AW.region ?_));refine qU 1 rfl ?_;exact qN rfl
theorem po(M:List Nat)(lo m:Nat)(hw:a9 M)(i:Nat):Pure Tryz.prog 188 [.sl 1 (((M.map wd).drop lo).take m),dI i] (dU ((dv M lo m).getD i 0:Nat)):=by
 rw[ry];exact e8 _ (hw.dv lo m) i
set_option maxHeartbeats 800000 in
theorem pk(a:List Nat)(ha:a9 a)(hla:a.length≤35184372088831):lU Tryz.prog 171 [Wd a] 113 (a.map wd) 0 (tw (nv a)).length:=by
 refine lU.intro (n:=25) tok Tryz.func171 rfl rfl rfl (Nat.le_of_ble_eq_true rfl) (by kernel_rfl) (fun B F0 w0=>?_);refine qX 1 rfl ?_;refine qK 2 rfl ?_;refine ab.tS tok rfl rfl rfl rfl (by show ((a.map wd).length)*4≤_;rw[bo];omega) ?_;refine qU 1 rfl ?_;refine ab.DQ 3 rfl ?_;rw[bo];refine qI (AW.block ?_);refine AW.aG [3] (fun k:Nat=>[(3,.wn false 113 (a.map wd) 0 k)]) (fun k=>k≤a.length∧ ∀i,k≤i→a.getD i 0=0) (fun k=>k) a.length rfl ⟨ak _,fun i hi=>eL hi⟩ (fun k ⟨hk,hz⟩=>?_);refine AW.seq ?_;have hwl:(((a.map wd).drop 0).take k).length=k:=by simp;omega
 refine AW.cut [3,18] (fun b:Bool=>[(3,.wn false 113 (a.map wd) 0 k),(18,.d (dB b))]) (fun b=>(b=true→0<k∧a.getD (k-1) 0=0)∧(b=false→k=0∨a.getD (k-1) 0≠0)) ?_ (fun b ⟨ht,hf⟩=>?_)
 · refine qT 4 rfl ?_;rw[hwl];refine ab.split (t:=10) rfl (fun h=>?_) (fun h=>?_)
   · have hk0:0<k:=by have:=aq h;omega
     obtain ⟨j,rfl⟩: ∃j,k=j+1:=⟨k-1,by omega⟩;refine qU 4 rfl ?_;rw[hwl,aF (by omega) (by omega),show ((j+1:Nat):Int) -1=(j:Int) by omega];refine ab.oH tok rfl rfl rfl rfl (aj j) (by simp only[Int.toNat_natCast];omega) ?_;rw[Int.toNat_natCast,Nat.zero_add];refine ab.dh tok (wd (a.getD j 0)) rfl rfl rfl rfl (bV (by omega)) rfl ?_;refine qU 2 rfl ?_;refine ab.nil ?_;exact⟨_,rfl,⟨fun h=>⟨by omega,by have:=aq h;simp at this;simpa using this⟩,fun h=> .inr (by simpa using h)⟩⟩
   · have hk0:k=0:=by have:=au h;omega
     refine qU 8 rfl ?_;refine ab.nil ?_;exact⟨_,rfl,⟨fun h=>by simp at h,fun h=> .inl hk0⟩⟩
 · refine AW.cond rfl (fun h=>?_) (fun h=>?_)
   · obtain ⟨h0,h1⟩:=ht h;refine AW.skip (AW.block ?_);refine qT 4 rfl ?_;rw[hwl,aF (by omega) (by omega),show (k:Int) -1=((k-1:Nat):Int) by omega];refine ab.Jg tok rfl rfl rfl rfl trivial (aj _) (by simp only[fK,cR,Int.toNat_natCast];omega) (by simp only[cR,Int.toNat_natCast];omega) ?_;rw[show 0+fK none=0 from rfl,show cR k (some ((k-1:Nat):Int)) -fK none=k-1 by simp[cR,fK]];refine qU 1 rfl ?_;refine ab.nil ?_;refine⟨k-1,rfl,⟨by omega,fun i hi=>?_⟩,by omega⟩;by_cases he:i=k-1
     · rw[he,h1]
     · exact hz i (by omega)
   · have hres:=xQ ha hk hz (hf h);have hlen:k=(tw (nv a)).length:=by rw[← hres];simp;omega
     refine AW.exit ?_;rw[← hlen];refine qX 2 rfl ?_;exact qN rfl
theorem DO{a:List Nat}(ha:a9 a):dv a 0 (tw (nv a)).length=tw (nv a):=by
 have h:=p6 ha;have hv:nv (a.drop (tw (nv a)).length)=0:=qq _ (gY _) h;have h2:=bC a (tw (nv a)).length h;rw[hv,Nat.mul_zero,Nat.add_zero] at h2;rw[dv,List.drop_zero];exact vq (ha.take _) (fb _) (by simp;omega) (by rw[dV,← h2])
theorem gF(a:List Nat)(ha:a9 a)(hla:a.length≤35184372088831):Pure Tryz.prog 171 [Wd a] (Wd (tw (nv a))):=by
 have:=lU.pure tok (pk a ha hla) (te:=_) rfl;rw[ry,DO ha] at this;exact this
set_option maxHeartbeats 800000 in
theorem kc(a b:List Nat)(ha:a9 a)(hb:a9 b)(hla:a.length≤35184372088831)(hlb:b.length≤35184372088831):Pure Tryz.prog 173 [Wd a,Wd b] (dI (iT (nv a) (nv b))):=by
 refine qJ 30 Tryz.func173 rfl rfl rfl rfl (by kernel_rfl) (fun B F0 w0=>?_);obtain ⟨N,hN⟩: ∃N,N=max a.length b.length:=⟨_,rfl⟩;refine qX 1 rfl ?_;refine qI (qX 7 rfl ?_);rw[bo,bo,show (if (b.length:Int)>(a.length:Int) then (b.length:Int) else (a.length:Int))=(N:Int) by split<;>omega,aF (by omega) (by omega)];refine ab.nil ?_;refine AW.block (AW.aG [0,1,5] (fun k:Nat=>[(0,.d (Wd a)),(1,.d (Wd b)),(5,.d (dI ((k:Int) -1)))]) (fun k=>k≤N∧ ∀j,k≤j→a.getD j 0=b.getD j 0) (fun k=>k) N rfl ⟨ak _,fun j hj=>by rw[eL (by omega),eL (by omega)]⟩ (fun k ⟨hk,hd⟩=>?_));refine AW.seq (qX 2 rfl ?_);refine ab.nil ?_;refine AW.cond rfl (fun h=>?_) (fun h=>?_)
 · have hk0:0<k:=by have:=aq h;omega
   obtain ⟨j,rfl⟩: ∃j,k=j+1:=⟨k-1,by omega⟩;rw[show ((j+1:Nat):Int) -1=(j:Int) by omega];refine AW.skip (AW.seq (AW.block ?_));refine qX 2 rfl ?_;refine ab.call tok rfl rfl rfl rfl (e8 a ha j) ?_;refine qU 2 rfl ?_;refine ab.call tok rfl rfl rfl rfl (e8 b hb j) ?_;refine qU 1 rfl ?_;refine ab.nil ?_;refine AW.cond rfl (fun h=>?_) (fun h=>?_)
   · have hne:a.getD j 0≠b.getD j 0:=fun e=>by rw[e] at h;simp at h
     refine AW.seq (qX 2 rfl ?_);refine ab.call tok rfl rfl rfl rfl (e8 a ha j) ?_;refine qU 2 rfl ?_;refine ab.call tok rfl rfl rfl rfl (e8 b hb j) ?_;refine qU 1 rfl ?_;refine ab.nil ?_;refine AW.cond rfl (fun h=>?_) (fun h=>?_)
     · have hlt:a.getD j 0<b.getD j 0:=by have:=aq h;omega
       have hjb:j<b.length:=by
        rcases Nat.lt_or_ge j b.length with h | h
        · exact h
        · rw[eL h] at hlt;omega
       have hv:=vp ha hb hjb hlt (fun i hi=>hd i (by omega));rw[show iT (nv a) (nv b)= -1 by simp[iT,hv]];refine qX 1 rfl ?_;exact qN rfl
     · have hlt:b.getD j 0<a.getD j 0:=by have:=au h;omega
       have hja:j<a.length:=by
        rcases Nat.lt_or_ge j a.length with h | h
        · exact h
        · rw[eL h] at hlt;omega
       have hv:=vp hb ha hja hlt (fun i hi=>(hd i (by omega)).symm);rw[show iT (nv a) (nv b)=1 by unfold iT;rw[if_neg (by omega),if_neg (by omega)]];refine AW.skip (qX 1 rfl ?_);exact qN rfl
   · have he:a.getD j 0=b.getD j 0:=by
      have:((a.getD j 0:Nat):Int)=((b.getD j 0:Nat):Int):=by simpa using h
      omega
     refine AW.skip (qT 3 rfl ?_);rw[aF (by omega) (by omega)];refine ab.nil ?_;refine⟨j,rfl,⟨by omega,fun i hi=>?_⟩,by omega⟩;by_cases hij:i=j
     · rw[hij,he]
     · exact hd i (by omega)
 · have hk0:k=0:=by have:=au h;omega
   subst hk0;rw[show iT (nv a) (nv b)=0 by rw[Di ha hb (fun j=>hd j (Nat.zero_le _))];simp[iT]];refine AW.exit ?_;refine qX 1 rfl ?_;exact qN rfl
set_option maxHeartbeats 800000 in
theorem nt(a b:List Nat)(ha:a9 a)(hb:a9 b)(hla:a.length≤35184372088830)(hlb:b.length≤35184372088830):Pure Tryz.prog 176 [Wd a,Wd b] (Wd (tw (nv a+nv b))):=by
 refine qJ 37 Tryz.func176 rfl rfl rfl rfl (by kernel_rfl) (fun B F0 w0=>?_);obtain ⟨N,hN⟩: ∃N,N=max a.length b.length+1:=⟨_,rfl⟩;refine qX 1 rfl ?_;refine qK 1 rfl ?_;refine qK 1 rfl ?_;refine qI (qX 7 rfl ?_);rw[bo,bo,show (if (b.length:Int)>(a.length:Int) then (b.length:Int) else (a.length:Int))=((N-1:Nat):Int) by split<;>omega,aF (by omega) (by omega),show ((N-1:Nat):Int)+1=(N:Int) by omega];refine ab.nil ?_;refine AW.block ?_
 refine AW.aG [0,1,5,6,14,15] (fun s:Nat×List Nat×Nat=>[(0,.d (Wd a)),(1,.d (Wd b)),(5,.ow 113 (s.2.1.map wd)),(6,.d (dU s.2.2)),(14,.d (dI N)),(15,.d (dI s.1))])
  (fun s=>s.1≤N∧s.2.1.length=s.1∧a9 s.2.1∧s.2.2≤1∧nv s.2.1+4294967296^s.1*s.2.2=nv (a.take s.1)+nv (b.take s.1)) (fun s=>N-s.1) (0,[],0) rfl ⟨Nat.zero_le _,rfl,a9.nil,by simp,by simp[nv]⟩ (fun (i,out,c) ⟨hi,hol,how,hc,hv⟩=>?_)
 simp only[] at hi hol how hc hv;refine qX 1 rfl ?_;refine qI ?_;refine AW.cond rfl (fun h=>?_) (fun h=>?_)
 · have cR:i<N:=by have:=aq h;omega
   refine AW.skip (AW.seq (AW.block ?_));refine qX 2 rfl ?_;refine qK 2 rfl ?_;refine ab.call tok rfl rfl rfl rfl (e8 a ha i) ?_;refine qU 2 rfl ?_;refine ab.call tok rfl rfl rfl rfl (e8 b hb i) ?_;refine qU 4 rfl ?_;have hx:=ha.getD i;have hy:=hb.getD i;rw[tU (a.getD i 0) (b.getD i 0) (by omega),tU (a.getD i 0+b.getD i 0) c (by omega)];refine ab.nil ?_;obtain ⟨S,hS⟩: ∃S,S=a.getD i 0+b.getD i 0+c:=⟨_,rfl⟩;rw[← hS];refine qT 3 rfl ?_;rw[e7];refine ab.bs tok rfl rfl rfl rfl ?_;refine ab.gv tok rfl rfl rfl rfl rfl rfl (by show ((out.map wd).length+1)*4≤_;rw[bo];omega) (by show (out.map wd).length+1≤_;rw[bo];omega) ?_;refine qU 4 rfl ?_;rw[j7];refine ab.nil ?_;refine qT 2 rfl ?_;rw[aF (by omega) (by omega)];refine ab.nil ?_;refine⟨(i+1,out++[S%4294967296],S / 4294967296),by rw[← vD];rfl,⟨by omega,by simp[hol],a9.append.2 ⟨how,a9.cons.2 ⟨Nat.mod_lt _ (by decide),a9.nil⟩⟩,by show S / _≤1;omega,?_⟩,by simp only[];omega⟩;simp only[Cv,hol,aY a i,aY b i,Nat.pow_succ];have:=gu (4294967296^i) S;have h3:4294967296^i*S=4294967296^i*a.getD i 0+4294967296^i*b.getD i 0+4294967296^i*c:=by rw[hS,Nat.mul_add,Nat.mul_add]
   omega
 · have cR:i=N:=by have:=au h;omega
   subst cR;rw[List.take_of_length_le (by omega),List.take_of_length_le (by omega)] at hv;have h1:=dz ha;have h2:=dz hb
   have hc0:c=0:=by
    have h3:=iL (show a.length≤i-1 by omega);have h4:=iL (show b.length≤i-1 by omega);have h5:4294967296^i=4294967296^(i-1)*4294967296:=by rw[← Nat.pow_succ];congr 1;omega
    rcases Nat.eq_zero_or_pos c with h | h
    · exact h
    · have:4294967296^i*1≤4294967296^i*c:=Nat.mul_le_mul_left _ h;omega
   have hres:nv out=nv a+nv b:=by rw[hc0] at hv;simpa using hv
   refine AW.exit ?_;refine qX 1 rfl ?_;refine ab.fT tok 5 rfl rfl ?_;refine ab.call tok rfl rfl rfl rfl (gF out how (by omega)) ?_;refine qU 1 rfl ?_;refine ab.nil ?_;rw[hres];exact AW.ret rfl
theorem xe{x y c:Nat}(hx:x<4294967296)(hy:y<4294967296)(hc:c≤1):y+c≤4294967296+x∧(4294967296+x-y-c) / 4294967296≤1∧(4294967296+x-y-c)%4294967296+y+c=x+4294967296*(1-(4294967296+x-y-c) / 4294967296):=by omega
set_option maxHeartbeats 800000 in
theorem ql(a b:List Nat)(ha:a9 a)(hb:a9 b)(hla:a.length≤35184372088830)(hle:nv b≤nv a):Pure Tryz.prog 179 [Wd a,Wd b] (Wd (tw (nv a-nv b))):=by
 refine qJ 35 Tryz.func179 rfl rfl rfl rfl (by kernel_rfl) (fun B F0 w0=>?_);obtain ⟨N,hN⟩: ∃N,N=a.length:=⟨_,rfl⟩;refine qX 1 rfl ?_;refine qK 1 rfl ?_;refine qK 1 rfl ?_;refine qI (qX 3 rfl ?_);rw[bo,← hN];refine ab.nil ?_;refine AW.block ?_
 refine AW.aG [0,1,5,6,10,11] (fun s:Nat×List Nat×Nat=>[(0,.d (Wd a)),(1,.d (Wd b)),(5,.ow 113 (s.2.1.map wd)),(6,.d (dU s.2.2)),(10,.d (dI N)),(11,.d (dI s.1))])
  (fun s=>s.1≤N∧s.2.1.length=s.1∧a9 s.2.1∧s.2.2≤1∧nv s.2.1+nv (b.take s.1)=nv (a.take s.1)+4294967296^s.1*s.2.2) (fun s=>N-s.1) (0,[],0) rfl ⟨Nat.zero_le _,rfl,a9.nil,by simp,by simp[nv]⟩ (fun (i,out,c) ⟨hi,hol,how,hc,hv⟩=>?_)
 simp only[] at hi hol how hc hv;refine qX 1 rfl ?_;refine qI ?_;refine AW.cond rfl (fun h=>?_) (fun h=>?_)
 · have cR:i<N:=by have:=aq h;omega
   refine AW.skip (AW.seq (AW.block ?_));refine qX 2 rfl ?_;refine qK 2 rfl ?_;refine ab.call tok rfl rfl rfl rfl (e8 a ha i) ?_;refine qU 3 rfl ?_;refine ab.call tok rfl rfl rfl rfl (e8 b hb i) ?_;refine qU 4 rfl ?_;have hx:=ha.getD i;have hy:=hb.getD i;obtain ⟨hd1,hd2,hd3⟩:=xe hx hy hc;rw[JO (a.getD i 0) hx,Gi (4294967296+a.getD i 0) (b.getD i 0) (by omega) (by omega),Gi (4294967296+a.getD i 0-b.getD i 0) c (by omega) (by omega)];refine ab.nil ?_;obtain ⟨S,hS⟩: ∃S,S=4294967296+a.getD i 0-b.getD i 0-c:=⟨_,rfl⟩;rw[← hS] at hd2 hd3 ⊢;refine qT 3 rfl ?_;rw[e7];refine ab.bs tok rfl rfl rfl rfl ?_;refine ab.gv tok rfl rfl rfl rfl rfl rfl (by show ((out.map wd).length+1)*4≤_;rw[bo];omega) (by show (out.map wd).length+1≤_;rw[bo];omega) ?_;refine qU 5 rfl ?_;rw[j7,D0 (S / 4294967296) hd2];refine ab.nil ?_;refine qT 2 rfl ?_;rw[aF (by omega) (by omega)];refine ab.nil ?_;refine⟨(i+1,out++[S%4294967296],1-S / 4294967296),by rw[← vD];rfl,⟨by omega,by simp[hol],a9.append.2 ⟨how,a9.cons.2 ⟨Nat.mod_lt _ (by decide),a9.nil⟩⟩,by show 1-S / _≤1;omega,?_⟩,by simp only[];omega⟩;simp only[Cv,hol,aY a i,aY b i,Nat.pow_succ];have:=congrArg (fun z=>4294967296^i*z) hd3;simp only[Nat.mul_add] at this;rw[Nat.mul_assoc];omega
 · have cR:i=N:=by have:=au h;omega
   subst cR;rw[List.take_of_length_le (l:=a) (by omega)] at hv;have h1:=dz ha;have h3:=dz how;rw[hol] at h3;rw[← hN] at h1
   have hbt:nv (b.take i)=nv b:=by
    by_cases hlb:i≤b.length
    · have h4:=bC b i hlb;rcases Nat.eq_zero_or_pos (nv (b.drop i)) with h | h
      · rw[h4,h];omega
      · have:4294967296^i*1≤4294967296^i*nv (b.drop i):=Nat.mul_le_mul_left _ h;omega
    · rw[List.take_of_length_le (by omega)]
   have hc0:c=0:=by
    rcases Nat.eq_zero_or_pos c with h | h
    · exact h
    · have:4294967296^i*1≤4294967296^i*c:=Nat.mul_le_mul_left _ h;omega
   have hres:nv out=nv a-nv b:=by rw[hc0] at hv;omega
   refine AW.exit ?_;refine qX 1 rfl ?_;refine ab.fT tok 5 rfl rfl ?_;refine ab.call tok rfl rfl rfl rfl (gF out how (by omega)) ?_;refine qU 1 rfl ?_;refine ab.nil ?_;rw[hres];exact AW.ret rfl
end Lift
namespace Lift
open Go Go.Proofs
set_option maxHeartbeats 800000 in
theorem yb(a b:List Nat)(ha:a9 a)(hb:a9 b)(hla:a.length≤17450000000000)(hlb:b.length≤17450000000000):Pure Tryz.prog 187 [Wd a,Wd b] (Wd (tw (nv a*nv b))):=by
 refine qJ 68 Tryz.func187 rfl rfl rfl rfl (by kernel_rfl) (fun B F0 w0=>?_);refine qX 1 rfl ?_;refine qK 5 rfl ?_;refine ab.oT tok (a.length+b.length) rfl rfl rfl rfl rfl rfl (by simp only[ae];rw[aF (by omega) (by omega)];omega) rfl (by omega) ?_;refine qU 1 rfl ?_;refine qI (qX 3 rfl ?_);rw[bo a];refine ab.nil ?_;refine AW.block ?_
 refine AW.aG [0,1,5,17,18] (fun s:Nat×List Nat=>[(0,.d (Wd a)),(1,.d (Wd b)),(5,.ow 113 (s.2.map wd)),(17,.d (dI a.length)),(18,.d (dI s.1))])
  (fun s=>s.1≤a.length∧s.2.length=a.length+b.length∧a9 s.2∧(∀j,s.1+b.length≤j→s.2.getD j 0=0)∧nv s.2=nv (a.take s.1)*nv b) (fun s=>a.length-s.1) (0,List.replicate (a.length+b.length) 0) rfl ⟨Nat.zero_le _,by simp,a9.replicate _,fun j _=>by simp[List.getD,List.getElem?_replicate];split<;>rfl,by simp[nv,gW]⟩ (fun (i,out) ⟨hi,hol,how,hz,hv⟩=>?_)
 simp only[] at hi hol how hz hv;refine qX 1 rfl ?_;refine qI ?_;refine AW.cond rfl (fun h=>?_) (fun h=>?_)
 · have cR:i<a.length:=by have:=aq h;omega
   have hx:=ha.getD i;refine AW.skip (AW.seq (AW.block ?_));refine qX 2 rfl ?_;refine qK 1 rfl ?_;refine qI (qX 3 rfl ?_);rw[bo b];refine ab.nil ?_;refine AW.block ?_
   refine AW.aG [0,1,5,17,18,6,7,22,23] (fun s:Nat×List Nat×Nat=>[(0,.d (Wd a)),(1,.d (Wd b)),(5,.ow 113 (s.2.1.map wd)),(17,.d (dI a.length)),(18,.d (dI i)),(6,.d (dI i)),(7,.d (dU s.2.2)),(22,.d (dI b.length)),(23,.d (dI s.1))])
    (fun s=>s.1≤b.length∧s.2.1.length=a.length+b.length∧a9 s.2.1∧(∀j,i+b.length≤j→s.2.1.getD j 0=0)∧s.2.2<4294967296∧nv s.2.1+4294967296^(i+s.1)*s.2.2=nv (a.take i)*nv b+4294967296^i*(a.getD i 0*nv (b.take s.1))) (fun s=>b.length-s.1) (0,out,0) rfl ⟨Nat.zero_le _,hol,how,hz,by simp,by simp[nv,hv]⟩ (fun (k,o,c) ⟨hk,hol,how,hz,hc,hv⟩=>?_)
   simp only[] at hk hol how hz hc hv;refine qX 1 rfl ?_;refine qI ?_;refine AW.cond rfl (fun h=>?_) (fun h=>?_)
   · have hkN:k<b.length:=by have:=aq h;omega
     have hy:=hb.getD k;have ho:=how.getD (i+k);have hxy:a.getD i 0*b.getD k 0≤4294967295*4294967295:=Nat.mul_le_mul (by omega) (by omega);refine AW.skip (AW.seq (AW.block ?_));refine qX 2 rfl ?_;refine qI (AW.draw aQ 21 (by kernel_rfl) ?_);refine qP 2 rfl ?_;refine af.idx tok (wd (a.getD i 0)) rfl rfl rfl rfl rfl (aj i) (bV (by omega)) ?_;refine qP 4 rfl ?_;refine af.idx tok (wd (b.getD k 0)) rfl rfl rfl rfl rfl (aj k) (bV (by omega)) ?_;refine qP 7 rfl ?_;rw[aF (x:=(i:Int)+(k:Int)) (by omega) (by omega),← Int.natCast_add i k];refine af.fR tok rfl rfl rfl rfl rfl rfl (aj (i+k)) (by simp;omega) ?_;refine af.dh tok (wd (o.getD (i+k) 0)) rfl rfl rfl rfl rfl (bV (by simp;omega)) rfl ?_;refine qP 4 rfl ?_;rw[fI (a.getD i 0) (by omega),fI (b.getD k 0) (by omega),GU (a.getD i 0) (b.getD k 0) (by omega),fI (o.getD (i+k) 0) (by omega),tU _ (o.getD (i+k) 0) (by omega),tU _ c (by omega)];refine af.nil ?_;refine qU 1 rfl ?_;refine ab.nil ?_;obtain ⟨S,hS0⟩: ∃S,S=a.getD i 0*b.getD k 0+o.getD (i+k) 0+c:=⟨_,rfl⟩;rw[← hS0];have hS:S=c+(a.getD i 0*b.getD k 0+o.getD (i+k) 0):=by omega
     refine qT 8 rfl ?_;rw[aF (x:=(i:Int)+(k:Int)) (by omega) (by omega),← Int.natCast_add i k,j7];refine ab.fR tok rfl rfl rfl rfl (aj (i+k)) (by simp;omega) ?_;refine ab.jq tok (S%4294967296) rfl rfl rfl (by simp;omega) (e7 _) ?_;refine qU 1 rfl ?_;refine ab.nil ?_;refine qT 2 rfl ?_;rw[aF (by omega) (by omega)];refine ab.nil ?_;refine⟨(k+1,o.set (i+k) (S%4294967296),S / 4294967296),rfl,⟨by omega,by simpa using hol,how.set _ (by omega),fun j hj=>?_,by show S / 4294967296<4294967296;omega,?_⟩,by simp only[];omega⟩
     · rw[eZ _ _ _ _ (by omega),if_neg (by (try simp only[] at hj);omega)];exact hz j hj
     · have h1:=gq (l:=o) (i:=i+k) (x:=S%4294967296) (by omega);have h2:=gu (4294967296^(i+k)) S;have h3:4294967296^(i+k)*S=4294967296^(i+k)*c+(4294967296^(i+k)*(a.getD i 0*b.getD k 0)+4294967296^(i+k)*o.getD (i+k) 0):=by rw[hS,Nat.mul_add,Nat.mul_add]
       have h4:4294967296^i*(a.getD i 0*(nv (b.take k)+4294967296^k*b.getD k 0))=4294967296^i*(a.getD i 0*nv (b.take k))+4294967296^(i+k)*(a.getD i 0*b.getD k 0):=by
        rw[Nat.pow_add];simp only[Nat.mul_add]
        congr 1
        ac_rfl
       simp only[aY b k];rw[h4,show i+(k+1)=i+k+1 by omega,Nat.pow_succ];omega
   · have hkN:k=b.length:=by have:=au h;omega
     subst hkN;refine AW.exit ?_;refine qT 7 rfl ?_;rw[bo b,aF (x:=(i:Int)+(b.length:Int)) (by omega) (by omega),← Int.natCast_add i b.length];refine ab.fR tok rfl rfl rfl rfl (aj (i+b.length)) (by simp;omega) ?_;refine ab.jq tok (c%4294967296) rfl rfl rfl (by simp;omega) (e7 _) ?_;refine ab.nil ?_;refine qT 2 rfl ?_;rw[aF (by omega) (by omega)];refine ab.nil ?_;refine⟨(i+1,o.set (i+b.length) (c%4294967296)),rfl,⟨by omega,by simpa using hol,how.set _ (by omega),fun j hj=>?_,?_⟩,by simp only[];omega⟩
     · rw[eZ _ _ _ _ (by omega),if_neg (by (try simp only[] at hj);omega)];exact hz j (by (try simp only[] at hj);omega)
     · have h1:=gq (l:=o) (i:=i+b.length) (x:=c%4294967296) (by omega);rw[hz (i+b.length) (ak _),Nat.mul_zero,Nat.add_zero,Nat.mod_eq_of_lt hc,hv,List.take_of_length_le (ak _)] at h1;simp only[aY a i];rw[Nat.mod_eq_of_lt hc,h1,Nat.add_mul]
       ac_rfl
 · have cR:i=a.length:=by have:=au h;omega
   subst cR;rw[List.take_of_length_le (ak _)] at hv;refine AW.exit ?_;refine qX 1 rfl ?_;refine ab.fT tok 5 rfl rfl ?_;refine ab.call tok rfl rfl rfl rfl (gF out how (by omega)) ?_;refine qU 1 rfl ?_;refine ab.nil ?_;rw[hv];exact AW.ret rfl
set_option maxHeartbeats 800000 in
theorem u7(L:List Nat)(lo m:Nat)(hL:a9 L)(hlm:lo+m≤L.length)(hm:m≤35184372088831):
  B6 Tryz.prog 175 113 (L.map wd) lo m [] (L.map wd) (.part lo (tw (nv (dv L lo m))).length):=by
 refine B6.intro (n:=21) tok Tryz.func175 rfl rfl rfl (Nat.le_of_ble_eq_true rfl) (by kernel_rfl) rfl (fun B F0 w0=>?_);obtain ⟨a,ha0⟩: ∃a,a=dv L lo m:=⟨_,rfl⟩;have ha:a9 a:=by rw[ha0];exact hL.dv _ _
 have hal:a.length=m:=by rw[ha0,bY hlm]
 have hag: ∀j,j<m→a.getD j 0=L.getD (lo+j) 0:=fun j hj=>by rw[ha0,gf _ _ _ _ hj]
 rw[← ha0];refine qX 1 rfl ?_;refine qI (AW.block ?_);refine AW.aG [0] (fun k:Nat=>[(0,.wn true 113 (L.map wd) lo k)]) (fun k=>k≤m∧ ∀i,k≤i→a.getD i 0=0) (fun k=>k) m rfl ⟨ak _,fun i hi=>eL (by omega)⟩ (fun k ⟨hk,hz⟩=>?_);refine AW.seq ?_;have hwl:(((L.map wd).drop lo).take k).length=k:=nE (by omega);refine AW.cut [0,14] (fun b:Bool=>[(0,.wn true 113 (L.map wd) lo k),(14,.d (dB b))]) (fun b=>(b=true→0<k∧a.getD (k-1) 0=0)∧(b=false→k=0∨a.getD (k-1) 0≠0)) ?_ (fun b ⟨ht,hf⟩=>?_)
 · refine qT 4 rfl ?_;rw[hwl];refine ab.split (t:=6) rfl (fun h=>?_) (fun h=>?_)
   · have hk0:0<k:=by have:=aq h;omega
     obtain ⟨j,rfl⟩: ∃j,k=j+1:=⟨k-1,by omega⟩;refine qU 4 rfl ?_;rw[hwl,aF (by omega) (by omega),show ((j+1:Nat):Int) -1=(j:Int) by omega];refine ab.oH tok rfl rfl rfl rfl (aj j) (by simp only[Int.toNat_natCast];omega) ?_;rw[Int.toNat_natCast];refine ab.dh tok (wd (L.getD (lo+j) 0)) rfl rfl rfl rfl (bV (by omega)) rfl ?_;refine qU 2 rfl ?_;refine ab.nil ?_;rw[← hag j (by omega)];exact⟨_,rfl,⟨fun h=>⟨by omega,by have:=aq h;simp at this;simpa using this⟩,fun h=> .inr (by simpa using h)⟩⟩
   · have hk0:k=0:=by have:=au h;omega
     refine qU 8 rfl ?_;refine ab.nil ?_;exact⟨_,rfl,⟨fun h=>by simp at h,fun h=> .inl hk0⟩⟩
 · refine AW.cond rfl (fun h=>?_) (fun h=>?_)
   · obtain ⟨h0,h1⟩:=ht h;refine AW.skip (AW.block ?_);refine qT 4 rfl ?_;rw[hwl,aF (by omega) (by omega),show (k:Int) -1=((k-1:Nat):Int) by omega];refine ab.Jg tok rfl rfl rfl rfl trivial (aj _) (by simp only[fK,cR,Int.toNat_natCast];omega) (by simp only[cR,Int.toNat_natCast];omega) ?_;rw[show lo+fK none=lo from rfl,show cR k (some ((k-1:Nat):Int)) -fK none=k-1 by simp[cR,fK]];refine qU 1 rfl ?_;refine ab.nil ?_;refine⟨k-1,rfl,⟨by omega,fun i hi=>?_⟩,by omega⟩;by_cases he:i=k-1
     · rw[he,h1]
     · exact hz i (by omega)
   · have hres:=xQ ha (by omega) hz (hf h);have hlen:k=(tw (nv a)).length:=by rw[← hres];simp;omega
     refine AW.exit ?_;rw[← hlen];refine qX 2 rfl ?_;refine ab.gm 2 0 rfl rfl rfl rfl ?_;refine ab.nil ?_;exact AW.ret ⟨0,⟨lo,k,rfl⟩,2,rfl,_,rfl,rfl⟩
theorem BI(v i:Nat):v / 2 / 4294967296^i%4294967296=(v / 4294967296^(i+1)%4294967296*4294967296+v / 4294967296^i%4294967296) / 2%4294967296:=by
 have:=v7 v 1 i (by decide);simpa using this
theorem G8(x y:Nat)(hx:x<4294967296)(hy:y<4294967296):(x / 2 ||| y*2147483648)%4294967296=(y*4294967296+x) / 2%4294967296:=by
 have h:=yj y 31 (x / 2) (by omega);rw[show (2:Nat)^31=2147483648 from rfl] at h;rw[h];omega
set_option maxHeartbeats 800000 in
theorem ye(L:List Nat)(lo m:Nat)(hL:a9 L)(hlm:lo+m≤L.length)(hm:m≤35184372088830)(hm0:0<m):
  B6 Tryz.prog 172 113 (L.map wd) lo m [] ((put L lo m (dg m (nv (dv L lo m) / 2))).map wd) (.part lo (tw (nv (dv L lo m) / 2)).length):=by
 refine B6.intro (n:=26) tok Tryz.func172 rfl rfl rfl (Nat.le_of_ble_eq_true rfl) (by kernel_rfl) (by rw[ae,ae,dR hlm (aU _ _)]) (fun B F0 w0=>?_);obtain ⟨V,hV⟩: ∃V,V=nv (dv L lo m):=⟨_,rfl⟩;rw[← hV]
 have hVd: ∀j,L.getD (lo+j) 0=V / 4294967296^j%4294967296∨m≤j:=fun j=>by
  rcases Nat.lt_or_ge j m with h | h
  · exact .inl (by rw[hV,← fC (hL.dv lo m) j,gf _ _ _ _ h])
  · exact .inr h
 refine qX 1 rfl ?_;refine qI (qX 3 rfl ?_);rw[nE hlm];refine ab.nil ?_;refine AW.block ?_
 refine AW.aG [0,5,6] (fun s:Nat×List Nat=>[(0,.wn true 113 (s.2.map wd) lo m),(5,.d (dI m)),(6,.d (dI s.1))])
  (fun s=>s.1≤m∧s.2.length=L.length∧a9 s.2∧s.2.take lo=L.take lo∧s.2.drop (lo+s.1)=L.drop (lo+s.1)∧ ∀j,j<s.1→s.2.getD (lo+j) 0=V / 2 / 4294967296^j%4294967296) (fun s=>m-s.1) (0,L) rfl ⟨Nat.zero_le _,rfl,hL,rfl,rfl,fun j hj=>by simp at hj⟩ (fun (i,M) ⟨hi,hMl,hMw,ht,hd,he⟩=>?_)
 simp only[] at hi hMl hMw ht hd he;refine qX 1 rfl ?_;refine qI ?_;refine AW.cond rfl (fun h=>?_) (fun h=>?_)
 · have cR:i<m:=by have:=aq h;omega
   have hx:=(hMw.dv lo m).getD i;have hy:=(hMw.dv lo m).getD (i+1);have hME:=fS hd;refine AW.skip (AW.seq (AW.block ?_));refine qX 2 rfl ?_;refine ab.nil ?_;refine qT 4 rfl ?_;refine ab.calls tok rfl rfl rfl rfl (po M lo m hMw i) rfl ?_;refine qU 4 rfl ?_;rw[aF (x:=(i:Int)+1) (by omega) (by omega),show (i:Int)+1=((i+1:Nat):Int) by omega];refine ab.calls tok rfl rfl rfl rfl (po M lo m hMw (i+1)) rfl ?_;refine qU 3 rfl ?_;rw[Gr _ 1 (by decide),H8 _ 31 (by decide) (by omega),Kf _ _ (by omega) (by omega),e7];refine ab.oH tok rfl rfl rfl rfl (aj i) cR ?_;rw[Int.toNat_natCast];refine ab.xU tok (((dv M lo m).getD i 0 / 2^1 ||| (dv M lo m).getD (i+1) 0*2^31)%4294967296) rfl rfl rfl (by omega) rfl ?_;refine ab.nil ?_;rw[show (2:Nat)^1=2 from rfl,show (2:Nat)^31=2147483648 from rfl,G8 _ _ hx hy]
   have hdig:((dv M lo m).getD (i+1) 0*4294967296+(dv M lo m).getD i 0) / 2%4294967296=V / 2 / 4294967296^i%4294967296:=by
    rw[BI]
    have e1:(dv M lo m).getD i 0=V / 4294967296^i%4294967296:=by
     rw[gf _ _ _ _ cR,hME];exact(hVd i).resolve_right (by omega)
    have e2:(dv M lo m).getD (i+1) 0=V / 4294967296^(i+1)%4294967296:=by
     rcases Nat.lt_or_ge (i+1) m with h | h
     · rw[gf _ _ _ _ h,← Nat.add_assoc,fS (jZ hd),Nat.add_assoc];exact(hVd (i+1)).resolve_right (by omega)
     · rw[eL (by rw[bY (by omega)];exact h)]
       have:V<4294967296^(i+1):=by
        have:=dz (hL.dv lo m);rw[bY hlm,← hV] at this;exact Nat.lt_of_lt_of_le this (iL (by omega))
       rw[Nat.div_eq_of_lt this]
    rw[e1,e2]
   rw[hdig];refine qT 2 rfl ?_;rw[aF (by omega) (by omega)];refine ab.nil ?_;refine⟨(i+1,M.set (lo+i) (V / 2 / 4294967296^i%4294967296)),rfl,⟨by omega,by simpa using hMl,hMw.set _ (Nat.mod_lt _ (by decide)),by simp only[kz,ht],by simp only[];rw[← Nat.add_assoc,gL,jZ hd],fun j hj=>?_⟩,by simp only[];omega⟩;simp only[] at hj ⊢;rw[eZ _ _ _ _ (by omega)];split
   · rename_i hji;have:j=i:=by omega
     subst this;rfl
   · exact he j (by omega)
 · have cR:i=m:=by have:=au h;omega
   subst cR
   have hw:dv M lo i=dg i (V / 2):=by
    refine qY (by rw[bY (by omega),aU]) (fun j hj=>?_);rw[bY (by omega)] at hj;rw[gf _ _ _ _ hj,he j hj,fC (fk i (V / 2)) j,iA]
    have hlt:V / 2<4294967296^i:=by
     have:=dz (hL.dv lo i);rw[bY hlm,← hV] at this;omega
    rw[Nat.mod_eq_of_lt hlt]
   have hres:put L lo i (dg i (V / 2))=M:=(yL ht hd hw).symm
   have hwv:nv (dv M lo i)=V / 2:=by
    rw[hw,iA];have:=dz (hL.dv lo i);rw[bY hlm,← hV] at this;exact Nat.mod_eq_of_lt (by omega)
   have hcut:=u7 M lo i hMw (by omega) (by omega);rw[hwv] at hcut;rw[hres];refine AW.exit ?_;refine qX 1 rfl ?_;refine ab.s7 tok rfl rfl rfl rfl hcut hm0 (fP _) rfl ?_;refine qU 1 rfl ?_;refine ab.nil ?_;exact AW.ret ⟨2,⟨_,_,rfl⟩,2,rfl,_,rfl,rfl⟩
set_option maxHeartbeats 800000 in
theorem sS(L v:List Nat)(lo m:Nat)(hL:a9 L)(hv:a9 v)(hlm:lo+m≤L.length)(hm:m≤35184372088830)(hle:nv v≤nv (dv L lo m)):
  B6 Tryz.prog 174 113 (L.map wd) lo m [Wd v] ((put L lo m (dg m (nv (dv L lo m) -nv v))).map wd) (.val (.tu [])):=by
 refine B6.intro (n:=31) tok Tryz.func174 rfl rfl rfl (Nat.le_of_ble_eq_true rfl) (by kernel_rfl) (by rw[ae,ae,dR hlm (aU _ _)]) (fun B F0 w0=>?_);refine qX 1 rfl ?_;refine qK 3 rfl ?_;rw[nE hlm];refine ab.nil ?_;refine AW.block ?_
 refine AW.aG [0,1,4,8,9] (fun s:Nat×List Nat×Nat=>[(0,.wn true 113 (s.2.1.map wd) lo m),(1,.d (Wd v)),(4,.d (dU s.2.2)),(8,.d (dI m)),(9,.d (dI s.1))])
  (fun s=>s.1≤m∧s.2.1.length=L.length∧a9 s.2.1∧s.2.2≤1∧s.2.1.take lo=L.take lo∧s.2.1.drop (lo+s.1)=L.drop (lo+s.1)∧nv ((s.2.1.drop lo).take s.1)+nv (v.take s.1)=nv ((L.drop lo).take s.1)+4294967296^s.1*s.2.2) (fun s=>m-s.1) (0,L,0) rfl ⟨Nat.zero_le _,rfl,hL,by simp,rfl,rfl,by simp[nv]⟩ (fun (i,M,c) ⟨hi,hMl,hMw,hc,ht,hd,he⟩=>?_)
 simp only[] at hi hMl hMw hc ht hd he;refine qX 1 rfl ?_;refine qI ?_;refine AW.cond rfl (fun h=>?_) (fun h=>?_)
 · have cR:i<m:=by have:=aq h;omega
   have hx:=hMw.getD (lo+i);have hy:=hv.getD i;have hME:=fS hd;refine AW.skip (AW.seq (AW.block ?_));refine qX 2 rfl ?_;refine qK 2 rfl ?_;refine ab.calls tok rfl rfl rfl rfl (po M lo m hMw i) rfl ?_;rw[gf M lo m i cR];refine qU 3 rfl ?_;refine ab.call tok rfl rfl rfl rfl (e8 v hv i) ?_;refine qU 4 rfl ?_;obtain ⟨hd1,hd2,hd3⟩:=xe hx hy hc;rw[JO (M.getD (lo+i) 0) hx,Gi (4294967296+M.getD (lo+i) 0) (v.getD i 0) (by omega) (by omega),Gi (4294967296+M.getD (lo+i) 0-v.getD i 0) c (by omega) (by omega)];refine ab.nil ?_;obtain ⟨S,hS⟩: ∃S,S=4294967296+M.getD (lo+i) 0-v.getD i 0-c:=⟨_,rfl⟩;rw[← hS] at hd2 hd3 ⊢;refine qT 7 rfl ?_;rw[j7,D0 (S / 4294967296) hd2];refine ab.oH tok rfl rfl rfl rfl (aj i) cR ?_;refine ab.xU tok (S%4294967296) rfl rfl rfl (by simp;omega) (e7 _) ?_;refine qU 1 rfl ?_;refine ab.nil ?_;refine qT 2 rfl ?_;rw[aF (by omega) (by omega)];refine ab.nil ?_;refine⟨(i+1,M.set (lo+i) (S%4294967296),1-S / 4294967296),rfl,⟨by omega,by simpa using hMl,hMw.set _ (by omega),by show 1-S / 4294967296≤1;omega,?_,?_,?_⟩,by simp only[];omega⟩
   · simp only[kz,ht]
   · simp only[];rw[← Nat.add_assoc,gL,jZ hd]
   · simp only[];rw[py (by omega),aY (L.drop lo) i,aY v i,lL,← hME,Nat.pow_succ];have:=congrArg (fun z=>4294967296^i*z) hd3;simp only[Nat.mul_add] at this;rw[Nat.mul_assoc];omega
 · have cR:i=m:=by have:=au h;omega
   subst cR;have e:nv (dv M lo i)+nv (v.take i)=nv (dv L lo i)+4294967296^i*c:=he;have h3:nv (dv M lo i)<4294967296^i:=by have:=dz (hMw.dv lo i);rwa [bY (by omega)] at this
   have h1:nv (dv L lo i)<4294967296^i:=by have:=dz (hL.dv lo i);rwa [bY (by omega)] at this
   have hbt:nv (v.take i)=nv v:=by
    by_cases hlb:i≤v.length
    · have h4:=bC v i hlb;rcases Nat.eq_zero_or_pos (nv (v.drop i)) with h | h
      · rw[h4,h];omega
      · have:4294967296^i*1≤4294967296^i*nv (v.drop i):=Nat.mul_le_mul_left _ h;omega
    · rw[List.take_of_length_le (by omega)]
   have hc0:c=0:=by
    rcases Nat.eq_zero_or_pos c with h | h
    · exact h
    · have:4294967296^i*1≤4294967296^i*c:=Nat.mul_le_mul_left _ h;omega
   have hres:put L lo i (dg i (nv (dv L lo i) -nv v))=M:=by
    have hw:dv M lo i=dg i (nv (dv L lo i) -nv v):=Ar (hMw.dv lo i) (bY (by omega)) (by rw[hc0] at e;omega);exact(yL ht hd hw).symm
   rw[hres];refine AW.exit ?_;exact⟨⟨lo,i,rfl⟩,rfl,rfl⟩
theorem II{a:List Nat}(ha:a9 a)(na:Nm a)(h0:a≠[]):bl (nv a)=32*(a.length-1)+bl (a.getD (a.length-1) 0):=by
 have hl:0<a.length:=List.length_pos_iff.2 h0;have h1:=yp na h0;have h2:=vt a (a.length-1) (by omega);rw[List.drop_of_length_le (by omega)] at h2;simp only[nv,Nat.mul_zero,Nat.add_zero] at h2;have h3:=mf ha (a.length-1);have e:(2:Nat)^(32*(a.length-1))=4294967296^(a.length-1):=by rw[Nat.pow_mul]
 rw[rk (32*(a.length-1)) (nv a) (by rw[e];exact h1),e,h2,Nat.add_mul_div_left _ _ (pow_pos _),Nat.div_eq_of_lt h3,Nat.zero_add]
set_option maxHeartbeats 800000 in
theorem zT(a:List Nat)(ha:a9 a)(na:Nm a)(hla:a.length≤35184372088830):Pure Tryz.prog 189 [Wd a] (dI (bl (nv a))):=by
 refine qJ 25 Tryz.func189 rfl rfl rfl rfl (by kernel_rfl) (fun B F0 w0=>?_);refine qX 1 rfl ?_;refine qI (qX 3 rfl ?_);refine ab.nil ?_;refine AW.cond rfl (fun h=>?_) (fun h=>?_)
 · have h0:a=[]:=by simpa using h
   rw[h0,show nv []=0 from rfl,oA];refine qX 1 rfl ?_;exact qN rfl
 · have h0:a≠[]:=by simpa using h
   have hl:0<a.length:=List.length_pos_iff.2 h0;have hT:=ha.getD (a.length-1);have hbl:=II ha na h0;have hb32:=gN (show a.getD (a.length-1) 0<2^32 by omega);refine AW.skip (qX 5 rfl ?_);rw[bo,aF (x:=(a.length:Int) -1) (by omega) (by omega),aF (by omega) (by omega),show (32:Int)*((a.length:Int) -1)=((32*(a.length-1):Nat):Int) by omega];refine qI (qX 4 rfl ?_);rw[bo,aF (x:=(a.length:Int) -1) (by omega) (by omega),show (a.length:Int) -1=((a.length-1:Nat):Int) by omega];refine ab.idx tok (wd (a.getD (a.length-1) 0)) rfl rfl rfl rfl (aj _) (bV (by omega)) ?_;refine qU 2 rfl ?_;refine ab.nil ?_;refine AW.block (AW.aG [3,4] (fun s:Nat×Nat=>[(3,.d (dI s.1)),(4,.d (wd s.2))]) (fun s=>s.1+bl s.2=bl (nv a)∧s.2<4294967296) (fun s=>s.2) (32*(a.length-1),a.getD (a.length-1) 0) rfl ⟨hbl.symm,hT⟩ (fun (k,x) ⟨hk,hx⟩=>?_));simp only[] at hk hx;refine AW.seq (qX 2 rfl ?_);refine ab.nil ?_;refine AW.cond rfl (fun h=>?_) (fun h=>?_)
   · have hx0:x≠0:=by have:=aq h;omega
     rw[yR hx0] at hk;refine AW.skip (AW.seq (AW.block ?_));refine qT 3 rfl ?_;rw[aF (by omega) (by omega)];refine ab.nil ?_;refine qT 3 rfl ?_;rw[D8 x 1 (by decide)];refine ab.nil ?_;exact⟨(k+1,x / 2^1),rfl,⟨by simp only[Nat.pow_one];omega,by simp only[Nat.pow_one];omega⟩,by simp only[Nat.pow_one];omega⟩
   · have hx0:x=0:=by have:=au h;omega
     subst hx0;rw[oA,Nat.add_zero] at hk;subst hk;refine AW.exit ?_;refine qX 2 rfl ?_;exact qN rfl
end Lift
namespace Lift
open Go Go.Proofs
theorem FR(x:Nat)(h:x<4294967296):IntKind.u32.wrap ((BitVec.ofInt IntKind.u32.bits (x:Int) &&& BitVec.ofInt IntKind.u32.bits 1).toNat:Int)=((x%2:Nat):Int):=by
 have hb:IntKind.u32.bits=32:=rfl;rw[hb,BitVec.ofInt_natCast,show BitVec.ofInt 32 1=BitVec.ofNat 32 1 from rfl,BitVec.toNat_and,BitVec.toNat_ofNat,BitVec.toNat_ofNat,Nat.mod_eq_of_lt h,Nat.mod_eq_of_lt (by decide),Nat.and_one_is_mod];exact I9 (by omega) (by omega)
structure lW (A:List Nat) (x:Nat):Prop where
 w:a9 A
 len:A.length≤35184372088830
 le:(tw x).length≤A.length
 dv:dv A 0 (tw x).length=tw x
abbrev wE(A:List Nat)(x:Nat):AV:= .wn false 113 (A.map wd) 0 (tw x).length
theorem JI{v k:Nat}(h:v<4294967296^k):(dg k v).take (tw v).length=tw v:=by
 rw[yN _ _ _ (iG h)];exact(Ar (fb v) rfl (dV v)).symm
theorem lW.nv{A:List Nat}{x:Nat}(h:lW A x):nv (Lift.dv A 0 (tw x).length)=x:=by rw[h.dv,dV]
theorem lW.trim{a:List Nat}(ha:a9 a)(hl:a.length≤35184372088830):lW a (Lift.nv a):=⟨ha,hl,p6 ha,DO ha⟩
theorem lW.put{A:List Nat}{x v:Nat}(h:lW A x)(hv:v≤x):lW (put A 0 (tw x).length (dg (tw x).length v)) v:=by
 have hlt:v<4294967296^(tw x).length:=Nat.lt_of_le_of_lt hv (gY x);have hl:(Lift.put A 0 (tw x).length (dg (tw x).length v)).length=A.length:=dR (by have:=h.le;omega) (aU _ _);have hle:=iG hlt;refine⟨h.w.put (fk _ _) _ _,by rw[hl];exact h.len,by rw[hl];have:=h.le;omega,?_⟩;have hw:=tW (l:=A) (lo:=0) (m:=(tw x).length) (w:=dg (tw x).length v) (by have:=h.le;omega) (aU _ _);rw[Lift.dv,List.drop_zero] at hw ⊢;have:((Lift.put A 0 (tw x).length (dg (tw x).length v)).take (tw x).length).take (tw v).length=tw v:=by rw[hw];exact JI hlt
 rwa [List.take_take,Nat.min_eq_left hle] at this
theorem lW.Kb{A:List Nat}{x v:Nat}(h:lW A x)(hv:v≤x):Lift.nv (Lift.dv (Lift.put A 0 (tw x).length (dg (tw x).length v)) 0 (tw x).length)=v:=by
 rw[tW (by have:=h.le;omega) (aU _ _),iA];exact Nat.mod_eq_of_lt (Nat.lt_of_le_of_lt hv (gY x))
theorem bI{x:Nat}(h:0<x):0<(tw x).length:=List.length_pos_iff.2 (DP (by omega))
theorem lW.first{A:List Nat}{x:Nat}(h:lW A x)(h0:0<x):A.getD 0 0=x%4294967296:=by
 have h1:=gf A 0 (tw x).length 0 (bI h0);rw[h.dv] at h1;rw[← h1,fC (fb x) 0,dV];simp
theorem lW.even{A:List Nat}{x:Nat}(h:lW A x)(h0:0<x):(((A.getD 0 0%2:Nat):Int)==0)=decide (x%2=0):=by
 rw[h.first h0,Bool.eq_iff_iff];simp;omega
theorem lW.CI{A:List Nat}{x:Nat}(h:lW A x)(h0:0<x):B6 Tryz.prog 172 113 (A.map wd) 0 (tw x).length [] ((Lift.put A 0 (tw x).length (dg (tw x).length (x / 2))).map wd) (.part 0 (tw (x / 2)).length):=by
 have:=ye A 0 (tw x).length h.w (by have:=h.le;omega) (by have:=h.le;have:=h.len;omega) (bI h0)
 rwa [h.nv] at this
theorem lW.take{A B:List Nat}{x y:Nat}(h:lW A x)(k:lW B y)(hle:y≤x):B6 Tryz.prog 174 113 (A.map wd) 0 (tw x).length [.sl 1 (((B.map wd).drop 0).take (tw y).length)] ((Lift.put A 0 (tw x).length (dg (tw x).length (x-y))).map wd) (.val (.tu [])):=by
 have:=sS A (tw y) 0 (tw x).length h.w (fb y) (by have:=h.le;omega) (by have:=h.le;have:=h.len;omega) (by rw[h.nv,dV];exact hle);rw[h.nv,dV] at this;rw[ry,k.dv];exact this
theorem lW.cut{A:List Nat}{x v:Nat}(h:lW A x)(hv:v≤x):B6 Tryz.prog 175 113 ((Lift.put A 0 (tw x).length (dg (tw x).length v)).map wd) 0 (tw x).length [] ((Lift.put A 0 (tw x).length (dg (tw x).length v)).map wd) (.part 0 (tw v).length):=by
 have hl:(Lift.put A 0 (tw x).length (dg (tw x).length v)).length=A.length:=dR (by have:=h.le;omega) (aU _ _);have:=u7 (Lift.put A 0 (tw x).length (dg (tw x).length v)) 0 (tw x).length (h.w.put (fk _ _) _ _) (by rw[hl];have:=h.le;omega) (by have:=h.le;have:=h.len;omega)
 rwa [h.Kb hv] at this
theorem lW.cmp{A B:List Nat}{x y:Nat}(h:lW A x)(k:lW B y):Pure Tryz.prog 173 [.sl 1 (((A.map wd).drop 0).take (tw x).length),.sl 1 (((B.map wd).drop 0).take (tw y).length)] (dI (iT x y)):=by
 rw[ry,ry,h.dv,k.dv];have:=kc (tw x) (tw y) (fb x) (fb y) (by have:=h.le;have:=h.len;omega) (by have:=k.le;have:=k.len;omega)
 rwa [dV,dV] at this
theorem Kn{y:Nat}(h:y%2=1):Nat.Coprime 2 y:=by
 rw[Nat.Coprime,Nat.gcd_rec,h];decide
theorem vQ{x y:Nat}(hx:x%2=0)(hy:y%2=1):Nat.gcd (x / 2) y=Nat.gcd x y:=by
 have:x=2*(x / 2):=by omega
 conv=>rhs;rw[this]
 exact(Nat.Coprime.gcd_mul_left_cancel (x / 2) (Kn hy)).symm
theorem BM{x y:Nat}(hx:x%2=1)(hy:y%2=0):Nat.gcd x (y / 2)=Nat.gcd x y:=by
 rw[Nat.gcd_comm,vQ hy hx,Nat.gcd_comm]
theorem BN{x y:Nat}(hx:x%2=0)(hy:y%2=0):Nat.gcd x y=2*Nat.gcd (x / 2) (y / 2):=by
 have e1:x=2*(x / 2):=by omega
 have e2:y=2*(y / 2):=by omega
 conv=>lhs;rw[e1,e2]
 exact Nat.gcd_mul_left 2 _ _
theorem G'{x y:Nat}(h:y≤x):Nat.gcd (x-y) y=Nat.gcd x y:=by
 have e:x=(x-y)+y:=by omega
 conv=>rhs;rw[e]
 rw[Nat.gcd_comm,Nat.gcd_comm (x-y+y)];exact(Nat.gcd_add_self_right y (x-y)).symm
set_option maxHeartbeats 3200000 in
theorem Bp(a b:List Nat)(ha:a9 a)(hb:a9 b)(hla:a.length≤35184372088829)(hlb:b.length≤35184372088829):Pure Tryz.prog 148 [Wd a,Wd b] (Wd (tw (Nat.gcd (nv a) (nv b)))):=by
 refine qJ 72 Tryz.func148 rfl rfl rfl rfl (by kernel_rfl) (fun B F0 w0=>?_);have ka:=lW.trim ha (by omega);have kb:=lW.trim hb (by omega);obtain ⟨X,hX⟩: ∃X,X=nv a:=⟨_,rfl⟩;obtain ⟨Y,hY⟩: ∃Y,Y=nv b:=⟨_,rfl⟩;have hta:=pk a ha (by omega);have htb:=pk b hb (by omega);have hXl:=dz ha;rw[← hX] at ka hta hXl ⊢;rw[← hY] at kb htb ⊢;refine qX 1 rfl ?_;refine qK 1 rfl ?_;refine ab.wi tok rfl rfl rfl rfl hta (fP _) ?_;refine qU 1 rfl ?_;refine ab.wi tok rfl rfl rfl rfl htb (fP _) ?_;refine qU 2 rfl ?_;refine ab.nil ?_;refine AW.norm [0,1] [(0,wE a X),(1,wE b Y)] rfl ?_
 have hlen0: ∀(A:List Nat) (x:Nat),lW A x→(((((A.map wd).drop 0).take (tw x).length).length:Int)==0)=decide (x=0):=fun A x h=>by
  rw[nE (by have:=h.le;omega),Bool.eq_iff_iff];have:=iZ (sV x);rw[dV] at this;rw[decide_eq_true_eq,this,beq_iff_eq];constructor
  · intro h;exact List.eq_nil_of_length_eq_zero (by omega)
  · intro h;rw[h];rfl
 have hdat: ∀(A:List Nat) (x:Nat),lW A x→D.sl 1 (((A.map wd).drop 0).take (tw x).length)=Wd (tw x):=fun A x h=>by rw[ry,h.dv];rfl
 refine AW.seq (qX 3 rfl ?_);rw[hlen0 a X ka];refine ab.nil ?_;refine AW.cond rfl (fun h=>?_) (fun h=>?_)
 · have h0:=aq h;rw[h0,Nat.gcd_zero_left,← hdat b Y kb];refine qX 2 rfl ?_;exact qN rfl
 have hX0:X≠0:=au h;refine AW.skip (AW.seq ?_);refine qX 3 rfl ?_;rw[hlen0 b Y kb];refine ab.nil ?_;refine AW.cond rfl (fun h=>?_) (fun h=>?_)
 · have h0:=aq h;rw[h0,Nat.gcd_zero_right,← hdat a X ka];refine qX 2 rfl ?_;exact qN rfl
 have hY0:Y≠0:=au h;obtain ⟨G,hG⟩: ∃G,G=Nat.gcd X Y:=⟨_,rfl⟩;rw[← hG];have hGX:G≤X:=by rw[hG];exact Nat.gcd_le_left Y (by omega)
 refine AW.skip (qX 1 rfl ?_);refine ab.nil ?_
 refine AW.cut [0,1,5] (fun s:(List Nat×Nat)×(List Nat×Nat)×Nat=>[(0,wE s.1.1 s.1.2),(1,wE s.2.1.1 s.2.1.2),(5,.d (dI s.2.2))])
  (fun s=>lW s.1.1 s.1.2∧lW s.2.1.1 s.2.1.2∧0<s.1.2∧0<s.2.1.2∧Nat.gcd s.1.2 s.2.1.2*2^s.2.2=G∧s.2.2≤32*a.length∧(s.1.2%2=1∨s.2.1.2%2=1)) ?_ (fun ⟨⟨A1,x1⟩,⟨B1,y1⟩,k⟩ ⟨hA1,hB1,hx1,hy1,hg1,hk1,ho1⟩=>?_)
 · refine AW.block ?_
   refine AW.aG [0,1,5] (fun s:(List Nat×Nat)×(List Nat×Nat)×Nat=>[(0,wE s.1.1 s.1.2),(1,wE s.2.1.1 s.2.1.2),(5,.d (dI s.2.2))])
    (fun s=>lW s.1.1 s.1.2∧lW s.2.1.1 s.2.1.2∧0<s.1.2∧0<s.2.1.2∧Nat.gcd s.1.2 s.2.1.2*2^s.2.2=G∧s.1.2*2^s.2.2=X) (fun s=>s.1.2) ((a,X),(b,Y),0) rfl ⟨ka,kb,by simp only[];omega,by simp only[];omega,by simp[hG],by simp⟩ (fun ⟨⟨A,x⟩,⟨B,y⟩,k⟩ ⟨hA,hB,hx,hy,hg,hxk⟩=>?_)
   simp only[] at hA hB hx hy hg hxk
   have hkl:k<32*a.length:=by
    have h1:2^k≤X:=by rw[← hxk];exact Nat.le_mul_of_pos_left _ hx
    have e:(4294967296:Nat)^a.length=2^(32*a.length):=by rw[Nat.pow_mul]
    rw[e] at hXl;exact(Nat.pow_lt_pow_iff_right (by decide:1<2)).1 (Nat.lt_of_le_of_lt h1 hXl)
   refine AW.seq ?_;refine AW.cut [0,1,5,29] (fun c:Bool=>[(0,wE A x),(1,wE B y),(5,.d (dI k)),(29,.d (dB c))]) (fun c=>c=decide (x%2=0∧y%2=0)) ?_ (fun c hc=>?_)
   · refine qT 1 rfl ?_;refine ab.oH tok rfl rfl rfl rfl (Int.le_refl 0) (bI hx) ?_;refine ab.dh tok (wd (A.getD 0 0)) rfl rfl rfl rfl (bV (by have:=hA.le;have:=bI hx;simp;omega)) rfl ?_;refine qU 3 rfl ?_;rw[FR _ (hA.w.getD 0),hA.even hx];refine ab.split (t:=23) rfl (fun h=>?_) (fun h=>?_)
     · have hxe:=aq h;refine qU 1 rfl ?_;refine ab.oH tok rfl rfl rfl rfl (Int.le_refl 0) (bI hy) ?_;refine ab.dh tok (wd (B.getD 0 0)) rfl rfl rfl rfl (bV (by have:=hB.le;have:=bI hy;simp;omega)) rfl ?_;refine qU 3 rfl ?_;rw[FR _ (hB.w.getD 0),hB.even hy];refine ab.nil ?_;exact⟨_,rfl,by show decide _=decide _;rw[decide_eq_decide];exact⟨fun h=>⟨hxe,h⟩,fun h=>h.2⟩⟩
     · have hxe:=au h;refine qU 6 rfl ?_;refine ab.nil ?_;exact⟨false,rfl,(aO (fun h=>hxe h.1)).symm⟩
   · refine AW.cond rfl (fun h=>?_) (fun h=>?_)
     · rw[h] at hc;obtain ⟨hxe,hye⟩:=aq hc.symm;refine AW.skip (AW.block ?_);refine qX 1 rfl ?_;refine ab.s7 tok rfl rfl rfl rfl (hA.CI hx) (bI hx) (fP _) rfl ?_;refine qU 1 rfl ?_;refine ab.s7 tok rfl rfl rfl rfl (hB.CI hy) (bI hy) (fP _) rfl ?_;refine qU 2 rfl ?_;refine ab.nil ?_;refine qT 3 rfl ?_;rw[aF (by omega) (by omega)];refine ab.nil ?_;refine⟨((_,x / 2),(_,y / 2),k+1),rfl,⟨hA.put (by omega),hB.put (by omega),by simp only[];omega,by simp only[];omega,?_,?_⟩,by simp only[];omega⟩
       · simp only[];rw[← hg,BN hxe hye,Nat.pow_succ];ac_rfl
       · simp only[];rw[← hxk,Nat.pow_succ,Nat.mul_comm (2^k),← Nat.mul_assoc,show x / 2*2=x by omega]
     · rw[h] at hc;have hne:=au hc.symm;refine AW.exit ?_;exact⟨((A,x),(B,y),k),rfl,⟨hA,hB,hx,hy,hg,by simp only[];omega,by simp only[];omega⟩⟩
 simp only[] at hA1 hB1 hx1 hy1 hg1 hk1 ho1;obtain ⟨g0,hg0⟩: ∃g0,g0=Nat.gcd x1 y1:=⟨_,rfl⟩;rw[← hg0] at hg1;refine AW.cut [1,5] (fun s:List Nat×Nat=>[(1,wE s.1 s.2),(5,.d (dI k))]) (fun s=>lW s.1 s.2∧s.2=g0) ?_ (fun ⟨B2,y2⟩ ⟨hB2,hy2⟩=>?_)
 · refine AW.block ?_
   refine AW.aG [0,1,5] (fun s:(List Nat×Nat)×(List Nat×Nat)=>[(0,wE s.1.1 s.1.2),(1,wE s.2.1 s.2.2),(5,.d (dI k))])
    (fun s=>lW s.1.1 s.1.2∧lW s.2.1 s.2.2∧0<s.2.2∧Nat.gcd s.1.2 s.2.2=g0∧(s.1.2=0∨s.1.2%2=1∨s.2.2%2=1)) (fun s=>s.1.2+s.2.2) ((A1,x1),(B1,y1)) rfl ⟨hA1,hB1,hy1,hg0.symm,.inr ho1⟩ (fun ⟨⟨A,x⟩,⟨B,y⟩⟩ ⟨hA,hB,hy,hg,ho⟩=>?_)
   simp only[] at hA hB hy hg ho;refine AW.seq (qX 3 rfl ?_);rw[nE (show 0+(tw x).length≤A.length by have:=hA.le;omega)];refine ab.nil ?_;refine AW.cond rfl (fun h=>?_) (fun h=>?_)
   · have hx:0<x:=by
      rcases Nat.eq_zero_or_pos x with h0 | h0
      · subst h0;rw[jH] at h;simp at h
      · exact h0
     have ho':x%2=1∨y%2=1:=ho.resolve_left (by omega);refine AW.skip (AW.block ?_);refine AW.cut [0,1,5] (fun s:List Nat×Nat=>[(0,wE s.1 s.2),(1,wE B y),(5,.d (dI k))]) (fun s=>lW s.1 s.2∧s.2%2=1∧s.2≤x∧Nat.gcd s.2 y=g0) ?_ (fun ⟨A',x'⟩ ⟨hA',hxo,hxl,hg'⟩=>?_)
     · refine AW.block (AW.aG [0,1,5] (fun s:List Nat×Nat=>[(0,wE s.1 s.2),(1,wE B y),(5,.d (dI k))]) (fun s=>lW s.1 s.2∧0<s.2∧s.2≤x∧Nat.gcd s.2 y=g0∧(s.2%2=1∨y%2=1)) (fun s=>s.2) (A,x) rfl ⟨hA,hx,ak _,hg,ho'⟩ (fun ⟨A',x'⟩ ⟨hA',hx',hxl,hg',ho2⟩=>?_));simp only[] at hA' hx' hxl hg' ho2;refine AW.seq (qX 1 rfl ?_);refine ab.oH tok rfl rfl rfl rfl (Int.le_refl 0) (bI hx') ?_;refine ab.dh tok (wd (A'.getD 0 0)) rfl rfl rfl rfl (bV (by have:=hA'.le;have:=bI hx';simp;omega)) rfl ?_;refine qU 2 rfl ?_;rw[FR _ (hA'.w.getD 0),hA'.even hx'];refine ab.nil ?_;refine AW.cond rfl (fun h=>?_) (fun h=>?_)
       · have hxe:=aq h;refine AW.skip (AW.block ?_);refine qT 1 rfl ?_;refine ab.s7 tok rfl rfl rfl rfl (hA'.CI hx') (bI hx') (fP _) rfl ?_;refine qU 1 rfl ?_;refine ab.nil ?_;exact⟨(_,x' / 2),rfl,⟨hA'.put (by omega),by simp only[];omega,by simp only[];omega,by simp only[];rw[vQ hxe (by omega),hg'],by simp only[];omega⟩,by simp only[];omega⟩
       · have hxo:=au h;refine AW.exit ?_;exact⟨(A',x'),rfl,⟨hA',by simp only[];omega,hxl,hg'⟩⟩
     simp only[] at hA' hxo hxl hg';refine AW.cut [0,1,5] (fun s:List Nat×Nat=>[(0,wE A' x'),(1,wE s.1 s.2),(5,.d (dI k))]) (fun s=>lW s.1 s.2∧s.2%2=1∧s.2≤y∧Nat.gcd x' s.2=g0) ?_ (fun ⟨B',y'⟩ ⟨hB',hyo,hyl,hg2⟩=>?_)
     · refine AW.block (AW.aG [0,1,5] (fun s:List Nat×Nat=>[(0,wE A' x'),(1,wE s.1 s.2),(5,.d (dI k))]) (fun s=>lW s.1 s.2∧0<s.2∧s.2≤y∧Nat.gcd x' s.2=g0) (fun s=>s.2) (B,y) rfl ⟨hB,hy,ak _,hg'⟩ (fun ⟨B',y'⟩ ⟨hB',hy',hyl,hg2⟩=>?_));simp only[] at hB' hy' hyl hg2;refine AW.seq (qX 1 rfl ?_);refine ab.oH tok rfl rfl rfl rfl (Int.le_refl 0) (bI hy') ?_;refine ab.dh tok (wd (B'.getD 0 0)) rfl rfl rfl rfl (bV (by have:=hB'.le;have:=bI hy';simp;omega)) rfl ?_;refine qU 2 rfl ?_;rw[FR _ (hB'.w.getD 0),hB'.even hy'];refine ab.nil ?_;refine AW.cond rfl (fun h=>?_) (fun h=>?_)
       · have hye:=aq h;refine AW.skip (AW.block ?_);refine qT 1 rfl ?_;refine ab.s7 tok rfl rfl rfl rfl (hB'.CI hy') (bI hy') (fP _) rfl ?_;refine qU 1 rfl ?_;refine ab.nil ?_;exact⟨(_,y' / 2),rfl,⟨hB'.put (by omega),by simp only[];omega,by simp only[];omega,by simp only[];rw[BM hxo hye,hg2]⟩,by simp only[];omega⟩
       · have hyo:=au h;refine AW.exit ?_;exact⟨(B',y'),rfl,⟨hB',by simp only[];omega,hyl,hg2⟩⟩
     simp only[] at hB' hyo hyl hg2;refine AW.cut [0,1,5] (fun s:(List Nat×Nat)×(List Nat×Nat)=>[(0,wE s.1.1 s.1.2),(1,wE s.2.1 s.2.2),(5,.d (dI k))]) (fun s=>lW s.1.1 s.1.2∧lW s.2.1 s.2.2∧s.2.2≤s.1.2∧s.1.2%2=1∧s.2.2%2=1∧Nat.gcd s.1.2 s.2.2=g0∧s.1.2+s.2.2≤x+y) ?_ (fun ⟨⟨A3,x3⟩,⟨B3,y3⟩⟩ ⟨hA3,hB3,hle,hx3,hy3,hg3,hsum⟩=>?_)
     · refine qX 2 rfl ?_;refine ab.calls tok rfl rfl rfl rfl (hA'.cmp hB') rfl ?_;refine qU 1 rfl ?_;refine ab.nil ?_;refine AW.cond rfl (fun h=>?_) (fun h=>?_)
       · have hlt:x'<y':=by
          have:=aq h;unfold iT at this;split at this
          · assumption
          · split at this<;>omega
         refine qT 2 rfl ?_;refine ab.gm 1 57 rfl rfl rfl rfl ?_;refine ab.gm 0 58 rfl rfl rfl rfl ?_;refine qU 2 rfl ?_;refine ab.nil ?_;exact⟨((B',y'),(A',x')),rfl,⟨hB',hA',by simp only[];omega,hyo,hxo,by simp only[];rw[Nat.gcd_comm,hg2],by simp only[];omega⟩⟩
       · have hlt:y'≤x':=by
          have:=au h;unfold iT at this;split at this
          · omega
          · omega
         refine AW.skip ?_;exact⟨((A',x'),(B',y')),rfl,⟨hA',hB',hlt,hxo,hyo,hg2,by simp only[];omega⟩⟩
     simp only[] at hA3 hB3 hle hx3 hy3 hg3 hsum;have hx3p:0<x3:=by omega
     refine qX 2 rfl ?_;refine ab.xK tok rfl rfl rfl rfl (hA3.take hB3 hle) (bI hx3p) (fP _) rfl ?_;refine ab.nil ?_;refine qT 1 rfl ?_;refine ab.s7 tok rfl rfl rfl rfl (hA3.cut (v:=x3-y3) (by omega)) (bI hx3p) (fP _) rfl ?_;refine qU 1 rfl ?_;refine ab.nil ?_;exact⟨((_,x3-y3),(B3,y3)),rfl,⟨hA3.put (by omega),hB3,by simp only[];omega,by simp only[];rw[G' hle,hg3],.inr (.inr hy3)⟩,by simp only[];omega⟩
   · have hx:x=0:=by
      rcases Nat.eq_zero_or_pos x with h0 | h0
      · exact h0
      · have:=bI h0;have:=au h;omega
     subst hx;rw[Nat.gcd_zero_left] at hg;refine AW.exit ?_;exact⟨(B,y),rfl,⟨hB,hg⟩⟩
 simp only[] at hB2 hy2;have hgy:=hg1;rw[← hy2] at hgy
 have hlz: ∀j,j≤k→(tw (y2*2^j)).length≤a.length:=fun j hj=>iG (by
  have:2^j≤2^k:=Nat.pow_le_pow_right (by decide) hj;have:y2*2^j≤y2*2^k:=Nat.mul_le_mul_left _ this
  omega)
 refine AW.Dt tok 1 rfl rfl ?_;rw[show D.sl (TI.size ⟨1,4,false,[.v (.int .u32 0)],[],0,2,.u32⟩) (((B2.map wd).drop 0).take (tw y2).length)=Wd (tw y2) from hdat B2 y2 hB2];refine AW.seq (qX 2 rfl ?_);refine ab.nil ?_;refine AW.block ?_;refine AW.aG [1,64,65] (fun s:Nat=>[(1,.d (Wd (tw (y2*2^s)))),(64,.d (dI k)),(65,.d (dI s))]) (fun s=>s≤k) (fun s=>k-s) 0 (by rw[Nat.pow_zero,Nat.mul_one];rfl) (Nat.zero_le _) (fun j hj=>?_);refine qX 1 rfl ?_;refine qI ?_;refine AW.cond rfl (fun h=>?_) (fun h=>?_)
 · have hjk:j<k:=by have:=aq h;omega
   have hl:=hlz j hj;have hplus:=nt (tw (y2*2^j)) (tw (y2*2^j)) (fb _) (fb _) (by omega) (by omega);rw[dV,show y2*2^j+y2*2^j=y2*2^(j+1) by rw[Nat.pow_succ,← Nat.mul_assoc];omega] at hplus;refine AW.skip (AW.seq (AW.block ?_));refine qT 2 rfl ?_;refine ab.call tok rfl rfl rfl rfl hplus ?_;refine qU 1 rfl ?_;refine ab.nil ?_;refine qT 2 rfl ?_;rw[aF (by omega) (by omega)];refine ab.nil ?_;exact⟨j+1,rfl,hjk,by omega⟩
 · have hjk:j=k:=by have:=au h;omega
   subst hjk;refine AW.exit ?_;refine qX 2 rfl ?_;refine ab.nil ?_;rw[← hgy];exact AW.ret rfl
end Lift
namespace Lift
open Go Go.Proofs
theorem HQ(i c:Nat)(hc:0<c)(h:i≤9223372036854775807):mS true .i64 (i:Int) (c:Int)= .int .i64 ((i / c:Nat):Int):=by
 have e:((i:Int).tdiv (c:Int))=((i / c:Nat):Int):=rfl;have:i / c≤i:=Nat.div_le_self i c;generalize i / c=q at e this ⊢;simp only[mS,e,aF (x:=(q:Int)) (by omega) (by omega)]
theorem HP(i c:Nat):mS false .i64 (i:Int) (c:Int)= .int .i64 ((i%c:Nat):Int):=rfl
theorem IL(A i:Nat):A / 4294967296^(i / 32)%4294967296 / 2^(i%32)%2=A / 2^i%2:=by
 have e:(2:Nat)^i=4294967296^(i / 32)*2^(i%32):=by
  rw[show (4294967296:Nat)=2^32 from rfl,← Nat.pow_mul,← Nat.pow_add];congr 1;omega
 rw[e,← Nat.div_div_eq_div_mul];generalize A / 4294967296^(i / 32)=w
 have h32:(4294967296:Nat)=2^(i%32)*(2*2^(31-i%32)):=by
  rw[show 2*2^(31-i%32)=2^(32-i%32) by rw[← Nat.pow_succ'];congr 1;omega,← Nat.pow_add,show i%32+(32-i%32)=32 by omega]
 have h1:w=4294967296*(w / 4294967296)+w%4294967296:=by omega
 conv=>rhs;rw[h1,h32,Nat.mul_assoc,Nat.mul_add_div (Nat.pow_pos (by decide)),Nat.mul_assoc,Nat.mul_add_mod,← h32]
theorem Dz{x c:Nat}(hx:x<4294967296)(hc:c≤1):(x*2%4294967296 ||| c)=x*2%4294967296+c∧x*2%4294967296+c<4294967296∧x*2%4294967296+c+4294967296*(x / 2147483648)=2*x+c:=by
 have h:=yk (x%2147483648) 1 c (by omega);rw[show x%2147483648*2^1=x*2%4294967296 by omega] at h;exact⟨h,by omega,by omega⟩
theorem Gx{q:List Nat}{i m:Nat}(hw:a9 q)(hq:nv q=2^(i+1)*m)(hi:i / 32<q.length):
  (q.getD (i / 32) 0 ||| 2^(i%32))=q.getD (i / 32) 0+2^(i%32)∧q.getD (i / 32) 0+2^(i%32)<4294967296∧nv (q.set (i / 32) (q.getD (i / 32) 0+2^(i%32)))=nv q+2^i:=by
 have e:(2:Nat)^i=4294967296^(i / 32)*2^(i%32):=by
  rw[show (4294967296:Nat)=2^32 from rfl,← Nat.pow_mul,← Nat.pow_add];congr 1;omega
 have hd:=fC hw (i / 32)
 have hd2:nv q / 4294967296^(i / 32)=2^(i%32+1)*m:=by
  rw[hq,Nat.pow_succ,e,show 4294967296^(i / 32)*2^(i%32)*2*m=4294967296^(i / 32)*(2^(i%32+1)*m) by rw[Nat.pow_succ];ac_rfl];exact Nat.mul_div_cancel_left _ (pow_pos _)
 have h32:(4294967296:Nat)=2^(i%32+1)*2^(31-i%32):=by
  rw[← Nat.pow_add,show i%32+1+(31-i%32)=32 by omega]
 have hdig:q.getD (i / 32) 0=2^(i%32+1)*(m%2^(31-i%32)):=by
  rw[hd,hd2]
  conv=>lhs;rw[h32]
  exact Nat.mul_mod_mul_left _ _ _
 have hml:m%2^(31-i%32)+1≤2^(31-i%32):=Nat.mod_lt _ (Nat.pow_pos (by decide));have hmm:2^(i%32+1)*(m%2^(31-i%32)+1)≤2^(i%32+1)*2^(31-i%32):=Nat.mul_le_mul_left _ hml;rw[← h32,Nat.mul_add,Nat.mul_one,← hdig] at hmm;have hp:(2:Nat)^(i%32+1)=2^(i%32)*2:=Nat.pow_succ ..;have hp0:0<(2:Nat)^(i%32):=Nat.pow_pos (by decide);have hlt:q.getD (i / 32) 0+2^(i%32)<4294967296:=by omega
 refine⟨?_,hlt,?_⟩
 · rw[hdig,Nat.mul_comm];exact yk _ _ _ (by omega)
 · have h1:=gq (l:=q) (i:=i / 32) (x:=q.getD (i / 32) 0+2^(i%32)) hi;rw[Nat.mul_add,← e] at h1;omega
theorem BU{n V Q R:Nat}(h:n=V*Q+R)(h1:V≤R)(h2:R<V+V):n / V=Q+1∧n%V=R-V:=by
 have e:n=V*(Q+1)+(R-V):=by rw[h,Nat.mul_add,Nat.mul_one];omega
 rw[e,Nat.mul_add_div (by omega),Nat.mul_add_mod,Nat.div_eq_of_lt (by omega),Nat.mod_eq_of_lt (by omega)];exact⟨rfl,rfl⟩
set_option maxHeartbeats 1600000 in
theorem wL(a b:List Nat)(ha:a9 a)(hb:a9 b)(na:Nm a)(hla:a.length≤34800000000000)(hlb:b.length≤34800000000000)(hb0:nv b≠0):Pure Tryz.prog 178 [Wd a,Wd b] (.tu [Wd (tw (nv a / nv b)),Wd (tw (nv a%nv b))]):=by
 refine qJ 76 Tryz.func178 rfl rfl rfl rfl (by kernel_rfl) (fun B F0 w0=>?_);obtain ⟨V,hV⟩: ∃V,V=nv b:=⟨_,rfl⟩;obtain ⟨A,hA⟩: ∃A,A=nv a:=⟨_,rfl⟩;have hVl:=dz hb;have hAl:=dz ha;have hbits:=zT a ha na (by omega);rw[← hV] at hb0 hVl ⊢;rw[← hA] at hAl hbits ⊢;have hbl:bl A≤32*a.length:=gN (by rw[Nat.pow_mul];exact hAl);have hdA: ∀j,a.getD j 0=A / 4294967296^j%4294967296:=fun j=>by rw[hA];exact fC ha j
 refine qX 2 rfl ?_;refine qK 2 rfl ?_;refine ab.oT tok a.length rfl rfl rfl rfl rfl rfl (by rw[bo]) rfl (by omega) ?_;refine qU 1 rfl ?_;refine qK 3 rfl ?_;refine ab.oT tok (b.length+1) rfl rfl rfl rfl rfl rfl (by rw[bo,aF (by omega) (by omega)];omega) rfl (by omega) ?_;refine qU 1 rfl ?_;refine qI (qX 1 rfl ?_);refine ab.call tok rfl rfl rfl rfl hbits ?_;refine qU 2 rfl ?_;rw[aF (x:=(bl A:Int) -1) (by omega) (by omega)];refine ab.nil ?_;refine AW.block ?_;have hAbl:A / 2^bl A=0:=Nat.div_eq_of_lt (EP A)
 refine AW.aG [0,1,6,7,8] (fun s:Nat×List Nat×List Nat=>[(0,.d (Wd a)),(1,.d (Wd b)),(6,.ow 113 (s.2.1.map wd)),(7,.ow 113 (s.2.2.map wd)),(8,.d (dI ((s.1:Int) -1)))])
  (fun s=>s.1≤bl A∧s.2.1.length=a.length∧a9 s.2.1∧s.2.2.length=b.length+1∧a9 s.2.2∧nv s.2.1=2^s.1*(A / 2^s.1 / V)∧nv s.2.2=A / 2^s.1%V) (fun s=>s.1) (bl A,List.replicate a.length 0,List.replicate (b.length+1) 0) rfl
  ⟨ak _,by simp,a9.replicate _,by simp,a9.replicate _,by simp[gW,hAbl],by simp[gW,hAbl]⟩ (fun (k,q,r) ⟨hk,hql,hqw,hrl,hrw,hqv,hrv⟩=>?_)
 simp only[] at hk hql hqw hrl hrw hqv hrv;refine AW.seq (qX 2 rfl ?_);refine ab.nil ?_;refine AW.cond rfl (fun h=>?_) (fun h=>?_)
 · have hk0:0<k:=by have:=aq h;omega
   obtain ⟨i,rfl⟩: ∃i,k=i+1:=⟨k-1,by omega⟩;rw[show ((i+1:Nat):Int) -1=(i:Int) by omega];have hi32:i / 32<a.length:=by omega
   obtain ⟨bit,hbit⟩: ∃bit,bit=A / 2^i%2:=⟨_,rfl⟩;have hbit1:bit≤1:=by omega
   refine AW.skip (AW.seq (AW.block ?_));refine qX 2 rfl ?_;refine ab.div tok rfl rfl rfl rfl (by decide) ?_;rw[show mS true .i64 (i:Int) 32= .int .i64 ((i / 32:Nat):Int) from HQ i 32 (by decide) (by omega)];refine ab.idx tok (wd (a.getD (i / 32) 0)) rfl rfl rfl rfl (aj _) (bV hi32) ?_;refine qU 2 rfl ?_;refine ab.div tok rfl rfl rfl rfl (by decide) ?_;rw[show mS false .i64 (i:Int) 32= .int .i64 ((i%32:Nat):Int) from HP i 32];refine qU 3 rfl ?_;have hsh:((a.getD (i / 32) 0:Nat):Int).fdiv (2^(min (i%32) IntKind.u32.bits))=((a.getD (i / 32) 0 / 2^(i%32):Nat):Int):=D8 _ _ (by omega);rw[hsh,FR _ (Nat.lt_of_le_of_lt (Nat.div_le_self _ _) (ha.getD _)),hdA,IL,← hbit];refine ab.nil ?_;refine AW.norm [0,1,6,7,8,9] [(0,.d (Wd a)),(1,.d (Wd b)),(6,.ow 113 (q.map wd)),(7,.ow 113 (r.map wd)),(8,.d (dI i)),(9,.d (wd bit))] rfl ?_;obtain ⟨r0,hr0⟩: ∃r0,r0=nv r:=⟨_,rfl⟩;have hr0V:r0<V:=by rw[hr0,hrv];exact Nat.mod_lt _ (by omega)
   refine AW.cut [0,1,6,7,8] (fun s:List Nat=>[(0,.d (Wd a)),(1,.d (Wd b)),(6,.ow 113 (q.map wd)),(7,.ow 113 (s.map wd)),(8,.d (dI i))]) (fun s=>s.length=b.length+1∧a9 s∧nv s=2*r0+bit) ?_ (fun r' ⟨hrl',hrw',hrv'⟩=>?_)
   · as_aux_lemma =>
     refine qX 3 rfl ?_;rw[bo,hrl];refine ab.nil ?_;refine AW.block ?_
     refine AW.aG [0,1,6,7,8,9,35,36] (fun s:Nat×List Nat×Nat=>[(0,.d (Wd a)),(1,.d (Wd b)),(6,.ow 113 (q.map wd)),(7,.ow 113 (s.2.1.map wd)),(8,.d (dI i)),(9,.d (wd s.2.2)),(35,.d (dI (b.length+1:Nat))),(36,.d (dI s.1))])
      (fun s=>s.1≤b.length+1∧s.2.1.length=b.length+1∧a9 s.2.1∧s.2.2≤1∧s.2.1.drop s.1=r.drop s.1∧nv (s.2.1.take s.1)+4294967296^s.1*s.2.2=2*nv (r.take s.1)+bit) (fun s=>b.length+1-s.1) (0,r,bit) rfl ⟨Nat.zero_le _,hrl,hrw,hbit1,rfl,by simp[nv]⟩ (fun (j,M,c) ⟨hj,hMl,hMw,hc,hd,hv⟩=>?_)
     simp only[] at hj hMl hMw hc hd hv;refine qX 1 rfl ?_;refine qI ?_;refine AW.cond rfl (fun h=>?_) (fun h=>?_)
     · have hjN:j<b.length+1:=by have:=aq h;omega
       have hx:=hMw.getD j;have hME:=fS hd;obtain ⟨hor,hlt,hkey⟩:=Dz hx hc;refine AW.skip (AW.seq (AW.block ?_));refine qX 2 rfl ?_;refine ab.nil ?_;refine AW.mO tok aQ [(13,true),(1,false),(1,true)] 15 [7] (by kernel_rfl) ⟨rfl,?_⟩;refine qP 4 rfl ?_;refine af.fR tok rfl rfl rfl rfl rfl rfl (aj j) (by simp;omega) ?_;refine af.dh tok (wd (M.getD j 0)) rfl rfl rfl rfl rfl (bV (by simp;omega)) rfl ?_;refine qP 5 rfl ?_;refine af.fR tok rfl rfl rfl rfl rfl rfl (aj j) (by simp;omega) ?_;refine af.dh tok (wd (M.getD j 0)) rfl rfl rfl rfl rfl (bV (by simp;omega)) rfl ?_;refine af.nil ⟨rfl,?_⟩;refine qP 1 rfl ?_;refine af.nil ⟨rfl,?_⟩;refine af.fR tok rfl rfl rfl rfl rfl rfl (aj j) (by simp;omega) ?_
       have hshl:IntKind.u32.wrap (((M.getD j 0:Nat):Int)*2^(min 1 IntKind.u32.bits))=((M.getD j 0*2%4294967296:Nat):Int):=by
        rw[show ((M.getD j 0:Nat):Int)*2^(min 1 IntKind.u32.bits)=((M.getD j 0*2:Nat):Int) by rw[show min 1 IntKind.u32.bits=1 from rfl];push_cast;rfl];exact e7 _
       have hshr:((M.getD j 0:Nat):Int).fdiv (2^(min 31 IntKind.u32.bits))=((M.getD j 0 / 2147483648:Nat):Int):=D8 _ 31 (by decide);rw[hshl,hshr,Ew _ c (Nat.mod_lt _ (by decide)) (by omega),hor];refine af.nil ⟨_,oB.cons (sF.elW (M.getD j 0*2%4294967296+c) rfl (by omega) rfl) oB.nil,?_⟩;refine qU 1 rfl ?_;refine ab.nil ?_;refine qT 2 rfl ?_;rw[aF (by omega) (by omega)];refine ab.nil ?_;refine⟨(j+1,M.set j (M.getD j 0*2%4294967296+c),M.getD j 0 / 2147483648),rfl,⟨by omega,by simpa using hMl,hMw.set _ hlt,by show _ / _≤1;omega,?_,?_⟩,by simp only[];omega⟩
       · simp only[];rw[gL,jZ hd]
       · simp only[];rw[kG (by omega),aY r j,← hME,Nat.pow_succ,Nat.mul_assoc];have h2:=congrArg (fun z=>4294967296^j*z) hkey;simp only[Nat.mul_add] at h2;have h3:4294967296^j*(2*M.getD j 0)=2*(4294967296^j*M.getD j 0):=by ac_rfl
         rw[Nat.mul_add];omega
     · have hjN:j=b.length+1:=by have:=au h;omega
       subst hjN;rw[List.take_of_length_le (by omega),List.take_of_length_le (by omega),← hr0] at hv
       have hc0:c=0:=by
        rw[Nat.pow_succ] at hv;rcases Nat.eq_zero_or_pos c with h | h
        · exact h
        · have:4294967296^b.length*4294967296*1≤4294967296^b.length*4294967296*c:=Nat.mul_le_mul_left _ h;omega
       rw[hc0,Nat.mul_zero,Nat.add_zero] at hv;refine AW.exit ?_;exact⟨M,rfl,⟨hMl,hMw,hv⟩⟩
   · have hAi:A / 2^i=V*(2*(A / 2^(i+1) / V))+(2*r0+bit):=by
      have e1:A / 2^i=2*(A / 2^(i+1))+bit:=by
       rw[hbit,Nat.pow_succ,← Nat.div_div_eq_div_mul];omega
      have e2:=Nat.div_add_mod (A / 2^(i+1)) V;rw[← hrv,← hr0] at e2;have e3:V*(2*(A / 2^(i+1) / V))=2*(V*(A / 2^(i+1) / V)):=by ac_rfl
      omega
     have hq1:2^(i+1)*(A / 2^(i+1) / V)=2^i*(2*(A / 2^(i+1) / V)):=by rw[Nat.pow_succ];ac_rfl
     refine qX 2 rfl ?_;refine ab.calls tok rfl rfl rfl rfl (kc r' b hrw' hb (by omega) (by omega)) rfl ?_;refine qU 1 rfl ?_;refine ab.nil ?_;rw[hrv',← hV];refine AW.cond rfl (fun h=>?_) (fun h=>?_)
     · as_aux_lemma =>
       have hge:V≤2*r0+bit:=by
        have:=aq h;unfold iT at this;split at this<;>omega
       have hdm:=BU (n:=A / 2^i) (V:=V) (Q:=2*(A / 2^(i+1) / V)) (R:=2*r0+bit) hAi hge (by omega);obtain ⟨hs1,hs2,hs3⟩:=Gx hqw hqv (show i / 32<q.length by omega);have hwn:dv r' 0 (b.length+1)=r':=by rw[dv,List.drop_zero,List.take_of_length_le (by omega)]
       have htake:=sS r' b 0 (b.length+1) hrw' hb (by omega) (by omega) (by rw[hwn,hrv',← hV];exact hge);rw[hwn,hrv',← hV] at htake;obtain ⟨r2,hr2⟩: ∃r2,r2=put r' 0 (b.length+1) (dg (b.length+1) (2*r0+bit-V)):=⟨_,rfl⟩;have hr2l:r2.length=b.length+1:=by rw[hr2,dR (by omega) (aU _ _)];exact hrl'
       have hr2w:a9 r2:=by rw[hr2];exact hrw'.put (fk _ _) _ _
       have hr2v:nv r2=2*r0+bit-V:=by
        have h1:=tW (l:=r') (lo:=0) (m:=b.length+1) (w:=dg (b.length+1) (2*r0+bit-V)) (by omega) (aU _ _);rw[← hr2,dv,List.drop_zero,List.take_of_length_le (by omega)] at h1;rw[h1,iA];refine Nat.mod_eq_of_lt ?_;rw[Nat.pow_succ];omega
       rw[← hr2] at htake;have hml:(r'.map wd).length=b.length+1:=by rw[bo];exact hrl'
       rw[← hml] at htake;refine qX 2 rfl ?_;refine ab.xK tok rfl rfl rfl rfl htake (by rw[hml];omega) (fP _) rfl ?_;refine ab.nil ?_;refine AW.norm [0,1,6,7,8] [(0,.d (Wd a)),(1,.d (Wd b)),(6,.ow 113 (q.map wd)),(7,.ow 113 (r2.map wd)),(8,.d (dI i))] rfl ?_;refine AW.draw aQ 10 (by kernel_rfl) ?_;refine qP 2 rfl ?_;refine af.div tok rfl rfl rfl rfl rfl (by decide) ?_;rw[show mS true .i64 (i:Int) 32= .int .i64 ((i / 32:Nat):Int) from HQ i 32 (by decide) (by omega)];refine af.fR tok rfl rfl rfl rfl rfl rfl (aj _) (by simp;omega) ?_;refine af.dh tok (wd (q.getD (i / 32) 0)) rfl rfl rfl rfl rfl (bV (by simp;omega)) rfl ?_;refine qP 1 rfl ?_;refine af.div tok rfl rfl rfl rfl rfl (by decide) ?_;rw[show mS false .i64 (i:Int) 32= .int .i64 ((i%32:Nat):Int) from HP i 32];refine qP 2 rfl ?_;refine af.fR tok rfl rfl rfl rfl rfl rfl (aj _) (by simp;omega) ?_;refine af.nil ?_;have hpw:2^(i%32)<4294967296:=by omega
       have hshl:IntKind.u32.wrap (1*2^(min (i%32) IntKind.u32.bits))=((2^(i%32):Nat):Int):=by
        rw[show min (i%32) IntKind.u32.bits=i%32 from Nat.min_eq_left (by show i%32≤32;omega),Int.one_mul];have e:(2:Int)^(i%32)=((2^(i%32):Nat):Int):=by push_cast;rfl
        rw[e];rw[e7,Nat.mod_eq_of_lt hpw]
       rw[hshl,Ew _ _ (hqw.getD _) hpw,hs1];refine ab.jq tok (q.getD (i / 32) 0+2^(i%32)) rfl rfl rfl (by simp;omega) rfl ?_;refine ab.nil ?_;refine qT 3 rfl ?_;rw[aF (x:=(i:Int) -1) (by omega) (by omega)];refine ab.nil ?_;refine⟨(i,q.set (i / 32) (q.getD (i / 32) 0+2^(i%32)),r2),rfl,⟨by simp only[];omega,by simpa using hql,hqw.set _ hs2,hr2l,hr2w,?_,?_⟩,by simp only[];omega⟩
       · simp only[];rw[hs3,hdm.1,hqv,hq1,Nat.mul_add,Nat.mul_one]
       · simp only[];rw[hdm.2,hr2v]
     · have hlt:2*r0+bit<V:=by
        have:=au h;unfold iT at this;split at this<;>omega
       have e1:A / 2^i / V=2*(A / 2^(i+1) / V):=by rw[hAi,Nat.mul_add_div (by omega),Nat.div_eq_of_lt hlt,Nat.add_zero]
       have e2:A / 2^i%V=2*r0+bit:=by rw[hAi,Nat.mul_add_mod,Nat.mod_eq_of_lt hlt]
       refine AW.skip (qT 3 rfl ?_);rw[aF (x:=(i:Int) -1) (by omega) (by omega)];refine ab.nil ?_;exact⟨(i,q,r'),rfl,⟨by simp only[];omega,hql,hqw,hrl',hrw',by simp only[];rw[e1,hqv,hq1],by simp only[];rw[e2,hrv']⟩,by simp only[];omega⟩
 · have hk0:k=0:=by have:=au h;omega
   subst hk0;simp only[Nat.pow_zero,Nat.div_one,Nat.one_mul] at hqv hrv;refine AW.exit ?_;refine qX 1 rfl ?_;refine ab.fT tok 6 rfl rfl ?_;refine ab.call tok rfl rfl rfl rfl (gF q hqw (by omega)) ?_;refine qU 1 rfl ?_;refine ab.fT tok 7 rfl rfl ?_;refine ab.call tok rfl rfl rfl rfl (gF r hrw (by omega)) ?_;refine qU 2 rfl ?_;refine ab.nil ?_;rw[hqv,hrv];exact AW.ret rfl
end Lift
namespace Lift
open Go Go.Proofs
theorem qn(g:Bool)(m:List Nat)(hm:a9 m)(hl:m.length≤35184372088831):Pure Tryz.prog 177 [Wh g m] (dB (okW g m)):=by
 refine qJ 19 Tryz.func177 rfl rfl rfl rfl (by kernel_rfl) (fun B F0 w0=>?_);refine qX 2 rfl ?_;refine qI (qX 4 rfl ?_);refine ab.nil ?_;refine AW.cond rfl (fun h=>?_) (fun h=>?_)
 · have h0:m=[]:=by simpa using h
   rw[okW,if_pos h0];refine qX 4 rfl ?_;exact qN rfl
 · have h0:m≠[]:=by simpa using h
   have hp:0<m.length:=List.length_pos_iff.2 h0;rw[okW,if_neg h0];refine AW.skip (qX 6 rfl ?_);rw[bo,aF (by omega) (by omega),show (m.length:Int) -1=((m.length-1:Nat):Int) by omega];refine ab.idx tok (wd (m.getD (m.length-1) 0)) rfl rfl rfl rfl (aj _) (bV (by omega)) ?_;refine qU 3 rfl ?_;refine ab.nil ?_
   have e:(m.getD (m.length-1) 0 != 0)=(((m.getD (m.length-1) 0:Nat):Int) != 0):=by
    rw[Bool.eq_iff_iff];simp
   rw[e];exact AW.ret rfl
theorem df(z:Int)(hl:L z≤35184372088831):Pure Tryz.prog 149 [eF z] (Wd (iw z)):=by
 refine qJ 8 Tryz.func149 rfl rfl rfl rfl (by kernel_rfl) (fun B F0 w0=>?_);refine qX 2 rfl ?_;refine qI (qX 1 rfl ?_);refine ab.call tok rfl rfl rfl rfl (qn (decide (z<0)) (iw z) (bZ z) hl) ?_;rw[yl];refine qU 1 rfl ?_;refine ab.nil ?_;refine AW.aA rfl ?_;refine AW.skip (qX 3 rfl ?_);exact qN rfl
theorem cZ(z:Int)(hl:L z≤35184372088831):Pure Tryz.prog 170 [eF z] (dB (decide (z<0))):=by
 refine qJ 9 Tryz.func170 rfl rfl rfl rfl (by kernel_rfl) (fun B F0 w0=>?_);refine qX 2 rfl ?_;refine qK 1 rfl ?_;refine ab.call tok rfl rfl rfl rfl (qn (decide (z<0)) (iw z) (bZ z) hl) ?_;rw[yl];refine qU 5 rfl ?_;exact qN rfl
theorem nu(g:Bool)(m:List Nat)(hm:a9 m)(hl:m.length≤35184372088831):Pure Tryz.prog 147 [dB g,Wd m] (eF (sg g (nv m))):=by
 refine qJ 14 Tryz.func147 rfl rfl rfl rfl (by kernel_rfl) (fun B F0 w0=>?_);refine qX 1 rfl ?_;refine qK 1 rfl ?_;refine ab.call tok rfl rfl rfl rfl (gF m hm hl) ?_;refine qU 1 rfl ?_;refine ab.nil ?_;have hz:=iZ (sV (nv m));rw[dV] at hz;rw[AQ];refine AW.seq (qX 3 rfl ?_);rw[wR];refine ab.nil ?_;refine AW.cond rfl (fun h=>?_) (fun h=>?_)
 · have h0:=aq h;rw[hz.2 h0,jH,show (g&&decide ((0:Nat)≠0))=false by simp];refine qX 2 rfl ?_;exact qN rfl
 · have h0:=au h;rw[show (g&&decide (nv m≠0))=g by simp[mt hz.1 h0]];refine AW.skip (qX 4 rfl ?_);exact qN rfl
theorem zS(g:Bool)(z:Int)(hl:L z≤35184372088831):Pure Tryz.prog 147 [dB g,Wd (iw z)] (eF (sg g z.natAbs)):=by
 have:=nu g (iw z) (bZ z) hl
 rwa [cU] at this
theorem fA(g:Bool)(n:Nat)(hl:(tw n).length≤35184372088831):Pure Tryz.prog 147 [dB g,Wd (tw n)] (eF (sg g n)):=by
 have:=nu g (tw n) (fb n) hl
 rwa [dV] at this
theorem xp(n:Int)(h0: -9223372036854775808≤n)(h1:n≤9223372036854775807):Pure Tryz.prog 124 [dI n] (eF n):=by
 refine qJ 19 Tryz.func124 rfl rfl rfl rfl (by kernel_rfl) (fun B F0 w0=>?_)
 have hfin: ∀(m:Nat),m<18446744073709551616→m=n.natAbs→Pure Tryz.prog 147 [dB (decide (n<0)),Wd [m%4294967296,m / 4294967296%4294967296]] (eF n):=fun m hm he=>by
  have:=nu (decide (n<0)) [m%4294967296,m / 4294967296%4294967296] (a9.cons.2 ⟨Nat.mod_lt _ (by decide),a9.cons.2 ⟨Nat.mod_lt _ (by decide),a9.nil⟩⟩) (by simp);rw[w5 m hm,he,Bc] at this;rw[he];exact this
 refine qX 1 rfl ?_;refine qK 3 rfl ?_;refine ab.nil ?_;refine AW.cut [0,2,3] (fun _:Unit=>[(0,.d (dI n)),(2,.bx [dB false,.sl 1 []]),(3,.d (dU n.natAbs))]) (fun _=>True) ?_ (fun _ _=>?_)
 · refine qX 2 rfl ?_;refine ab.nil ?_;refine AW.cond rfl (fun h=>?_) (fun h=>?_)
   · have hn:=aq h;refine qT 3 rfl ?_;rw[Fz n hn h0,Jt _ (by omega) (by omega),show 18446744073709551616-(18446744073709551616-n.natAbs)=n.natAbs by omega];refine ab.nil ?_;exact⟨(),rfl,trivial⟩
   · have hn:=au h;refine AW.skip ?_;rw[th (x:=n) (by omega) (by omega)];exact⟨(),by rw[show ((n.natAbs:Nat):Int)=n by omega];rfl,trivial⟩
 · refine qX 7 rfl ?_;rw[e7,j7,e7];refine ab.bs tok rfl rfl rfl rfl ?_;refine ab.fT tok 17 rfl rfl ?_;refine ab.call tok rfl rfl rfl rfl (hfin n.natAbs (by omega) rfl) ?_;refine qU 1 rfl ?_;exact qN rfl
theorem gG(z:Int)(hl:L z≤35184372088831):Pure Tryz.prog 145 [eF z] (dI (jS z)):=by
 refine qJ 9 Tryz.func145 rfl rfl rfl rfl (by kernel_rfl) (fun B F0 w0=>?_);refine qX 2 rfl ?_;refine qI (qX 1 rfl ?_);refine ab.call tok rfl rfl rfl rfl (df z hl) ?_;refine qU 2 rfl ?_;rw[wR];refine ab.nil ?_;refine AW.cond rfl (fun h=>?_) (fun h=>?_)
 · have h0:z=0:=nJ.1 (aq h);rw[show jS z=0 by subst h0;rfl];refine qX 1 rfl ?_;exact qN rfl
 · have h0:z≠0:=fun e=>(au h) (nJ.2 e);refine AW.skip (AW.seq ?_);refine qX 1 rfl ?_;refine ab.call tok rfl rfl rfl rfl (cZ z hl) ?_;refine ab.nil ?_;refine AW.cond rfl (fun h=>?_) (fun h=>?_)
   · have hn:=aq h;rw[show jS z= -1 by unfold jS;rw[if_pos hn]];refine qX 1 rfl ?_;exact qN rfl
   · have hn:=au h;rw[show jS z=1 by unfold jS;rw[if_neg hn,if_neg h0]];refine AW.skip (qX 1 rfl ?_);exact qN rfl
theorem u9(x y:Int)(hx:L x≤35184372088831)(hy:L y≤35184372088831):Pure Tryz.prog 173 [Wd (iw x),Wd (iw y)] (dI (jm x.natAbs y.natAbs)):=by
 rw[← CQ];exact kc (iw x) (iw y) (bZ x) (bZ y) hx hy
theorem mb(z:Int)(hl:L z≤35184372088831):Pure Tryz.prog 153 [eF z] (eF (-z)):=by
 refine qJ 9 Tryz.func153 rfl rfl rfl rfl (by kernel_rfl) (fun B F0 w0=>?_);refine qX 2 rfl ?_;refine qI (AW.draw aQ 6 (by kernel_rfl) ?_);refine qP 1 rfl ?_;refine af.call tok rfl rfl rfl rfl rfl (cZ z hl) ?_;refine qP 2 rfl ?_;refine af.call tok rfl rfl rfl rfl rfl (df z hl) ?_;refine af.call tok rfl rfl rfl rfl rfl (zS (!decide (z<0)) z hl) ?_;refine af.nil ?_;refine qU 1 rfl ?_;refine ab.nil ?_;rw[D'];exact AW.ret rfl
theorem zQ(x y:Int)(hx:L x≤35184372088830)(hy:L y≤35184372088830):Pure Tryz.prog 176 [Wd (iw x),Wd (iw y)] (Wd (tw (x.natAbs+y.natAbs))):=by
 have:=nt (iw x) (iw y) (bZ x) (bZ y) hx hy
 rwa [cU,cU] at this
theorem qm(x y:Int)(hx:L x≤35184372088830)(hle:y.natAbs≤x.natAbs):Pure Tryz.prog 179 [Wd (iw x),Wd (iw y)] (Wd (tw (x.natAbs-y.natAbs))):=by
 have:=ql (iw x) (iw y) (bZ x) (bZ y) hx (by rwa [cU,cU])
 rwa [cU,cU] at this
theorem yc(x y:Int)(hx:L x≤17450000000000)(hy:L y≤17450000000000):Pure Tryz.prog 187 [Wd (iw x),Wd (iw y)] (Wd (tw (x.natAbs*y.natAbs))):=by
 have:=yb (iw x) (iw y) (bZ x) (bZ y) hx hy
 rwa [cU,cU] at this
theorem wM(x y:Int)(hx:L x≤34800000000000)(hy:L y≤34800000000000)(h0:y≠0):Pure Tryz.prog 178 [Wd (iw x),Wd (iw y)] (.tu [Wd (tw (x.natAbs / y.natAbs)),Wd (tw (x.natAbs%y.natAbs))]):=by
 have:=wL (iw x) (iw y) (bZ x) (bZ y) (sW x) hx hy (by rw[cU];omega)
 rwa [cU,cU] at this
set_option maxHeartbeats 400000 in
theorem vf(a b:Int)(ha:L a≤35184372088830)(hb:L b≤35184372088830):Pure Tryz.prog 163 [eF a,eF b] (eF (a+b)):=by
 refine qJ 38 Tryz.func163 rfl rfl rfl rfl (by kernel_rfl) (fun B F0 w0=>?_);refine qX 3 rfl ?_;refine qI (AW.draw aQ 4 (by kernel_rfl) ?_);refine qP 1 rfl ?_;refine af.call tok rfl rfl rfl rfl rfl (df a (by omega)) ?_;refine qP 1 rfl ?_;refine af.call tok rfl rfl rfl rfl rfl (df b (by omega)) ?_;refine af.nil ?_;refine qU 2 rfl ?_;refine ab.nil ?_;refine AW.norm [2,3,4,5,6] [(2,.bx [dB (decide (a<0)),Wd (iw a)]),(3,.bx [dB (decide (b<0)),Wd (iw b)]),(4,.bx [dB false,.sl 1 []]),(5,.d (Wd (iw a))),(6,.d (Wd (iw b)))] rfl ?_;refine AW.seq (AW.seq ?_);refine AW.draw aQ 5 (by kernel_rfl) ?_;refine qP 1 rfl ?_;refine af.call tok rfl rfl rfl rfl rfl (cZ a (by omega)) ?_;refine qP 1 rfl ?_;refine af.call tok rfl rfl rfl rfl rfl (cZ b (by omega)) ?_;refine af.be tok rfl rfl rfl rfl rfl ?_;refine af.nil ?_;refine ab.nil ?_;refine AW.norm [2,3,4,5,6,15] [(2,.bx [dB (decide (a<0)),Wd (iw a)]),(3,.bx [dB (decide (b<0)),Wd (iw b)]),(4,.bx [dB false,.sl 1 []]),(5,.d (Wd (iw a))),(6,.d (Wd (iw b))),(15,.d (dB ((decide (a<0)==decide (b<0))==true)))] rfl ?_;refine AW.cond rfl (fun h=>?_) (fun h=>?_)
 · have he:decide (a<0)=decide (b<0):=by simpa using h
   rw[← add_same he];have hl:=CB a b;refine qX 1 rfl ?_;refine ab.call tok rfl rfl rfl rfl (cZ a (by omega)) ?_;refine qU 2 rfl ?_;refine ab.call tok rfl rfl rfl rfl (zQ a b ha hb) ?_;refine ab.call tok rfl rfl rfl rfl (fA (decide (a<0)) _ (by omega)) ?_;refine qU 1 rfl ?_;exact qN rfl
 · have he:decide (a<0)≠decide (b<0):=by simpa using h
   refine AW.skip (AW.seq ?_);refine qX 2 rfl ?_;refine ab.call tok rfl rfl rfl rfl (u9 a b (by omega) (by omega)) ?_;refine qU 1 rfl ?_;refine ab.nil ?_;refine AW.cond rfl (fun h=>?_) (fun h=>?_)
   · have hc:=CS (aq h);rw[← yU he hc];have hl:=jw (z:=a) (n:=a.natAbs-b.natAbs) (by omega);refine qX 1 rfl ?_;refine ab.call tok rfl rfl rfl rfl (cZ a (by omega)) ?_;refine qU 2 rfl ?_;refine ab.call tok rfl rfl rfl rfl (qm a b ha hc) ?_;refine ab.call tok rfl rfl rfl rfl (fA (decide (a<0)) _ (by omega)) ?_;refine qU 1 rfl ?_;exact qN rfl
   · have hc:=CR (au h);rw[Int.add_comm,← yU (Ne.symm he) (Nat.le_of_lt hc)];have hl:=jw (z:=b) (n:=b.natAbs-a.natAbs) (by omega);refine AW.skip (qX 1 rfl ?_);refine ab.call tok rfl rfl rfl rfl (cZ b (by omega)) ?_;refine qU 2 rfl ?_;refine ab.call tok rfl rfl rfl rfl (qm b a hb (by omega)) ?_;refine ab.call tok rfl rfl rfl rfl (fA (decide (b<0)) _ (by omega)) ?_;refine qU 1 rfl ?_;exact qN rfl
theorem gp(a b:Int)(ha:L a≤17450000000000)(hb:L b≤17450000000000):Pure Tryz.prog 164 [eF a,eF b] (eF (a*b)):=by
 refine qJ 16 Tryz.func164 rfl rfl rfl rfl (by kernel_rfl) (fun B F0 w0=>?_);have hl:=Cz a b;refine qX 3 rfl ?_;refine qI (AW.draw aQ 11 (by kernel_rfl) ?_);refine qP 1 rfl ?_;refine af.call tok rfl rfl rfl rfl rfl (cZ a (by omega)) ?_;refine qP 1 rfl ?_;refine af.call tok rfl rfl rfl rfl rfl (cZ b (by omega)) ?_;refine af.be tok rfl rfl rfl rfl rfl ?_;refine qP 1 rfl ?_;refine af.call tok rfl rfl rfl rfl rfl (df a (by omega)) ?_;refine qP 1 rfl ?_;refine af.call tok rfl rfl rfl rfl rfl (df b (by omega)) ?_;refine af.call tok rfl rfl rfl rfl rfl (yc a b ha hb) ?_;refine af.call tok rfl rfl rfl rfl rfl (fA ((decide (a<0)==decide (b<0))==false) _ (by omega)) ?_;refine af.nil ?_;refine qU 1 rfl ?_;refine ab.nil ?_;rw[EK];exact AW.ret rfl
theorem Bq(a b:Int)(ha:L a≤35184372088830)(hb:L b≤35184372088830):Pure Tryz.prog 146 [eF a,eF b] (eF (a-b)):=by
 refine qJ 9 Tryz.func146 rfl rfl rfl rfl (by kernel_rfl) (fun B F0 w0=>?_);rw[Int.sub_eq_add_neg];refine qX 3 rfl ?_;refine qI (AW.draw aQ 4 (by kernel_rfl) ?_);refine qP 2 rfl ?_;refine af.call tok rfl rfl rfl rfl rfl (mb b (by omega)) ?_;refine af.call tok rfl rfl rfl rfl rfl (vf a (-b) ha (by rw[nS];exact hb)) ?_;refine af.nil ?_;refine qU 1 rfl ?_;exact qN rfl
theorem Gw(a b:Int):jS (a-b)=jm a b:=by
 unfold jS jm
 repeat' split
 all_goals first | rfl | omega
theorem JQ(a b:Int):L (a-b)≤max (L a) (L b)+1:=by
 have:=AK a (-b)
 rwa [nS,← Int.sub_eq_add_neg] at this
theorem Br(a b:Int)(ha:L a≤35184372088830)(hb:L b≤35184372088830):Pure Tryz.prog 115 [eF a,eF b] (dI (jm a b)):=by
 refine qJ 9 Tryz.func115 rfl rfl rfl rfl (by kernel_rfl) (fun B F0 w0=>?_);have hl:=JQ a b;rw[← Gw];refine qX 3 rfl ?_;refine qK 2 rfl ?_;refine ab.call tok rfl rfl rfl rfl (Bq a b ha hb) ?_;refine ab.call tok rfl rfl rfl rfl (gG (a-b) (by omega)) ?_;refine qU 1 rfl ?_;exact qN rfl
theorem vd(a b:Int)(ha:L a≤35184372088829)(hb:L b≤35184372088829):Pure Tryz.prog 116 [eF a,eF b] (eF (Nat.gcd a.natAbs b.natAbs)):=by
 refine qJ 11 Tryz.func116 rfl rfl rfl rfl (by kernel_rfl) (fun B F0 w0=>?_);have hgcd:=Bp (iw a) (iw b) (bZ a) (bZ b) ha hb;rw[cU,cU] at hgcd
 have hgl:(tw (Nat.gcd a.natAbs b.natAbs)).length≤35184372088829:=by
  rcases Nat.eq_zero_or_pos a.natAbs with h | h
  · rw[h,Nat.gcd_zero_left];exact hb
  · exact Nat.le_trans (jw (z:=a) (Nat.gcd_le_left _ h)) ha
 refine qX 3 rfl ?_;refine qI (AW.draw aQ 6 (by kernel_rfl) ?_);refine qP 1 rfl ?_;refine af.call tok rfl rfl rfl rfl rfl (df a (by omega)) ?_;refine qP 1 rfl ?_;refine af.call tok rfl rfl rfl rfl rfl (df b (by omega)) ?_;refine af.call tok rfl rfl rfl rfl rfl hgcd ?_;refine af.call tok rfl rfl rfl rfl rfl (fA false _ (by omega)) ?_;refine af.nil ?_;refine qU 1 rfl ?_;exact qN rfl
set_option maxHeartbeats 800000 in
theorem ve(a b:Int)(ha:L a≤34800000000000)(hb:L b≤34800000000000)(h0:b≠0):Pure Tryz.prog 154 [eF a,eF b] (.tu [eF (a / b),eF (a%b),dI 0]):=by
 refine qJ 45 Tryz.func154 rfl rfl rfl rfl (by kernel_rfl) (fun B F0 w0=>?_);refine qX 5 rfl ?_;refine qI (qX 1 rfl ?_);refine ab.call tok rfl rfl rfl rfl (gG b (by omega)) ?_;refine qU 1 rfl ?_;rw[show (jS b==0)=false by unfold jS;(repeat' split)<;>first | rfl | (exact absurd ‹_› h0)];refine ab.nil ?_;refine AW.aA rfl ?_;refine AW.skip (AW.seq ?_);refine AW.draw aQ 9 (by kernel_rfl) ?_;refine qP 1 rfl ?_;refine af.call tok rfl rfl rfl rfl rfl (df a (by omega)) ?_;refine qP 1 rfl ?_;refine af.call tok rfl rfl rfl rfl rfl (df b (by omega)) ?_;refine af.call tok rfl rfl rfl rfl rfl (wM a b ha hb h0) ?_;refine qP 4 rfl ?_;refine af.nil ?_;refine qU 1 rfl ?_;refine ab.nil ?_;have hlt:a.natAbs%b.natAbs<b.natAbs:=Nat.mod_lt _ (by omega);have hdl:a.natAbs / b.natAbs≤a.natAbs:=Nat.div_le_self _ _;have hr0:=rz (a.natAbs%b.natAbs);have hl1:=jw (z:=a) hdl;have hl2:=jw (z:=b) (n:=a.natAbs%b.natAbs) (by omega)
 refine AW.cut [2,3,4,5,7,8] (fun s:Nat×Nat=>[(2,.bx [dB (decide (a<0)),Wd (iw a)]),(3,.bx [dB (decide (b<0)),Wd (iw b)]),(4,.bx [dB false,.sl 1 []]),(5,.bx [dB false,.sl 1 []]),(7,.d (Wd (tw s.1))),(8,.d (Wd (tw s.2)))])
  (fun s=>(tw s.1).length≤34800000000002∧(tw s.2).length≤34800000000002∧sg ((decide (a<0)==decide (b<0))==false) s.1=a / b∧sg false s.2=a%b) ?_ (fun (m,n) ⟨hm,hn,hq,hr⟩=>?_)
 · refine AW.cut [2,3,4,5,7,8,28] (fun c:Bool=>[(2,.bx [dB (decide (a<0)),Wd (iw a)]),(3,.bx [dB (decide (b<0)),Wd (iw b)]),(4,.bx [dB false,.sl 1 []]),(5,.bx [dB false,.sl 1 []]),(7,.d (Wd (tw (a.natAbs / b.natAbs)))),(8,.d (Wd (tw (a.natAbs%b.natAbs)))),(28,.d (dB c))])
    (fun c=>(c=true→a<0∧a.natAbs%b.natAbs≠0)∧(c=false→0≤a∨a.natAbs%b.natAbs=0)) ?_ (fun c ⟨ht,hf⟩=>?_)
   · refine qT 1 rfl ?_;refine ab.call tok rfl rfl rfl rfl (cZ a (by omega)) ?_;refine qU 1 rfl ?_;refine ab.split (t:=24) rfl (fun h=>?_) (fun h=>?_)
     · have hneg:=aq h;refine qU 4 rfl ?_;refine ab.nil ?_;refine⟨_,rfl,⟨fun h=>⟨hneg,hr0.1 (aq h)⟩,fun h=> .inr ?_⟩⟩;have:=au h;rw[hr0] at this;exact Decidable.not_not.1 this
     · have hneg:=au h;refine qU 4 rfl ?_;refine ab.nil ?_;exact⟨false,rfl,⟨(fun h=>by cases h),fun _=> .inl (by omega)⟩⟩
   · refine AW.cond rfl (fun h=>?_) (fun h=>?_)
     · subst h;obtain ⟨hneg,hrn⟩:=ht rfl;have hl3:=Aj (a.natAbs / b.natAbs);have hp:=nt (tw (a.natAbs / b.natAbs)) [1] (fb _) (a9.cons.2 ⟨by decide,a9.nil⟩) (by omega) (by decide);have hm:=ql (iw b) (tw (a.natAbs%b.natAbs)) (bZ b) (fb _) (Nat.le_trans hb (by decide)) (by rw[dV,cU];omega);rw[dV,show nv [1]=1 from rfl] at hp;rw[dV,cU] at hm;refine AW.draw aQ 7 (by kernel_rfl) ?_;refine qP 1 rfl ?_;refine af.fj tok rfl rfl rfl rfl rfl rfl ?_;refine af.call tok rfl rfl rfl rfl rfl hp ?_;refine qP 1 rfl ?_;refine af.call tok rfl rfl rfl rfl rfl (df b (by omega)) ?_;refine qP 1 rfl ?_;refine af.call tok rfl rfl rfl rfl rfl hm ?_;refine af.nil ?_;refine qU 2 rfl ?_;refine ab.nil ?_;exact⟨(a.natAbs / b.natAbs+1,b.natAbs-a.natAbs%b.natAbs),rfl,⟨Nat.le_trans hl3 (by omega),Nat.le_trans (jw (z:=b) (by simp only[];omega)) (by omega),yM h0 _ _ (.inl ⟨hneg,hrn,rfl,rfl⟩)⟩⟩
     · subst h;refine AW.skip ?_;exact⟨(a.natAbs / b.natAbs,a.natAbs%b.natAbs),rfl,⟨by simp only[];omega,by simp only[];omega,yM h0 _ _ (.inr ⟨hf rfl,rfl,rfl⟩)⟩⟩
 · simp only[] at hm hn hq hr;refine AW.seq (AW.draw aQ 9 (by kernel_rfl) ?_);refine qP 1 rfl ?_;refine af.call tok rfl rfl rfl rfl rfl (cZ a (by omega)) ?_;refine qP 1 rfl ?_;refine af.call tok rfl rfl rfl rfl rfl (cZ b (by omega)) ?_;refine af.be tok rfl rfl rfl rfl rfl ?_;refine qP 1 rfl ?_;refine af.call tok rfl rfl rfl rfl rfl (fA ((decide (a<0)==decide (b<0))==false) m (by omega)) ?_;refine qP 1 rfl ?_;refine af.call tok rfl rfl rfl rfl rfl (fA false n (by omega)) ?_;refine af.nil ?_;refine qU 3 rfl ?_;refine ab.nil ?_;rw[hq,hr];exact AW.ret rfl
end Lift
namespace Lift
open Go Go.Proofs
theorem pj:Pure Tryz.prog 117 [] (eF 1):=by
 refine qJ 2 Tryz.func117 rfl rfl rfl rfl (by kernel_rfl) (fun B F0 w0=>?_);refine qX 1 rfl ?_;refine qI (AW.region ?_);refine ab.call tok rfl rfl rfl rfl (xp 1 (by decide) (by decide)) ?_;refine qU 1 rfl ?_;exact qN rfl
theorem qj(m:List Nat)(hm:a9 m)(hl:m.length≤35184372088831):Pure Tryz.prog 114 [Wd m] (dB (decide (m≠[]∧okW false m=true))):=by
 refine qJ 15 Tryz.func114 rfl rfl rfl rfl (by kernel_rfl) (fun B F0 w0=>?_);refine qX 1 rfl ?_;refine qK 3 rfl ?_;rw[bo];refine ab.split (t:=5) rfl (fun h=>?_) (fun h=>?_)
 · have h1:m≠[]:=by
    have:=aq h;intro e;subst e;simp at this
   have hl0:0<m.length:=List.length_pos_iff.2 h1;refine qU 5 rfl ?_;rw[bo,aF (x:=(m.length:Int) -1) (by omega) (by omega),show (m.length:Int) -1=((m.length-1:Nat):Int) by omega];refine ab.idx tok (wd (m.getD (m.length-1) 0)) rfl rfl rfl rfl (aj _) (bV (by omega)) ?_;refine qU 4 rfl ?_;refine ab.nil ?_
   rw[show decide (m≠[]∧okW false m=true)=(((m.getD (m.length-1) 0:Nat):Int) != 0) by
    unfold okW;rw[if_neg h1,Bool.eq_iff_iff]
    simp[h1]]
   exact AW.ret rfl
 · have h1:m=[]:=by
    have:=au h;exact List.length_eq_zero_iff.1 (by omega)
   refine qU 10 rfl ?_;refine ab.nil ?_;rw[show decide (m≠[]∧okW false m=true)=false by simp[h1]];exact AW.ret rfl
set_option maxHeartbeats 800000 in
theorem qk(r:RD){k:Nat}(hw:r.w k)(hk:k≤35184372088829):Pure Tryz.prog 77 [r.D] (dB r.okB):=by
 obtain ⟨g,m,d⟩:=r;obtain ⟨hm,hd,hlm,hld⟩:=hw;simp only[] at hm hd hlm hld;refine qJ 36 Tryz.func77 rfl rfl rfl rfl (by kernel_rfl) (fun B F0 w0=>?_);refine qX 2 rfl ?_;refine qI ?_;refine AW.cut [1,12] (fun _:Unit=>[(1,.bx [dB g,Wd m,Wd d]),(12,.d (dB (decide (m=[]∧d=[]))))]) (fun _=>True) ?_ (fun _ _=>?_)
 · refine qT 4 rfl ?_;rw[wR];refine ab.split (t:=6) rfl (fun h=>?_) (fun h=>?_)
   · refine qU 6 rfl ?_;refine ab.nil ?_;have:=aq h;exact⟨(),by rw[show decide (m=[]∧d=[])=(((d.map wd).length:Int)==0) by rw[wR,Bool.eq_iff_iff];simp only[decide_eq_true_eq];exact⟨fun e=>e.2,fun e=>⟨this,e⟩⟩];rfl,trivial⟩
   · refine qU 6 rfl ?_;refine ab.nil ?_;have:=au h;exact⟨(),by rw[show decide (m=[]∧d=[])=false by simp[this]];rfl,trivial⟩
 refine AW.cond rfl (fun h=>?_) (fun h=>?_)
 · have h0:=aq h;rw[show RD.okB ⟨g,m,d⟩= !g by unfold RD.okB;rw[if_pos h0]];refine qX 4 rfl ?_;exact qN rfl
 · have h0:=au h;have hokB:RD.okB ⟨g,m,d⟩=decide (m≠[]∧d≠[]∧okW false m=true∧okW false d=true∧Nat.gcd (nv m) (nv d)=1):=by unfold RD.okB;rw[if_neg h0]
   rw[hokB];clear hokB;refine AW.skip (qX 2 rfl ?_);refine ab.call tok rfl rfl rfl rfl (qj m hm (by omega)) ?_;refine ab.split (t:=18) rfl (fun h=>?_) (fun h=>?_)
   · obtain ⟨hm0,ok1⟩:=aq h;refine qU 3 rfl ?_;refine ab.call tok rfl rfl rfl rfl (qj d hd (by omega)) ?_;refine qU 1 rfl ?_;refine ab.split (t:=23) rfl (fun h=>?_) (fun h=>?_)
     · obtain ⟨hd0,ok2⟩:=aq h;have e1:=oo hm ok1;have e2:=oo hd ok2;have l1:=rr hm ok1;have l2:=rr hd ok2
       have hgl:L ((Nat.gcd (nv m) (nv d):Nat):Int)≤35184372088829:=by
        have hp:0<nv m:=Nat.pos_of_ne_zero fun e=>hm0 ((iZ (rN ok1)).1 e);have:=Nat.gcd_le_left (nv d) hp;have:=pU (a:=((Nat.gcd (nv m) (nv d):Nat):Int)) (b:=((nv m:Nat):Int)) (by simpa using this);omega
       have hgcd:=vd (nv m:Nat) (nv d:Nat) (by omega) (by omega);rw[← e1,← e2,Int.natAbs_natCast,Int.natAbs_natCast] at hgcd;refine qU 7 rfl ?_;refine ab.call tok rfl rfl rfl rfl hgcd ?_;refine ab.call tok rfl rfl rfl rfl pj ?_;refine ab.call tok rfl rfl rfl rfl (Br ((Nat.gcd (nv m) (nv d):Nat):Int) 1 (by omega) (by rw[wz];decide)) ?_;refine qU 3 rfl ?_;refine ab.nil ?_
       rw[show decide (m≠[]∧d≠[]∧okW false m=true∧okW false d=true∧Nat.gcd (nv m) (nv d)=1)=(jm ((Nat.gcd (nv m) (nv d):Nat):Int) 1==0) by
        rw[Bool.eq_iff_iff];simp only[ne_eq,hm0,not_false_eq_true,hd0,ok1,ok2,true_and,decide_eq_true_eq,beq_iff_eq];unfold jm;constructor
        · intro h;rw[h];rfl
        · intro h;split at h
          · cases h
          · split at h
            · omega
            · cases h]
       exact AW.ret rfl
     · have h2:=au h;refine qU 13 rfl ?_;refine ab.nil ?_;rw[show decide (m≠[]∧d≠[]∧okW false m=true∧okW false d=true∧Nat.gcd (nv m) (nv d)=1)=false from aO fun e=>h2 ⟨e.2.1,e.2.2.2.1⟩];exact AW.ret rfl
   · have h1:=au h;refine qU 5 rfl ?_;refine qU 13 rfl ?_;refine ab.nil ?_;rw[show decide (m≠[]∧d≠[]∧okW false m=true∧okW false d=true∧Nat.gcd (nv m) (nv d)=1)=false from aO fun e=>h1 ⟨e.1,e.2.2.1⟩];exact AW.ret rfl
theorem dG(r:RD){k:Nat}(hw:r.w k)(hk:k≤34800000000000):Pure Tryz.prog 162 [r.D] (.tu [eF r.val.num,eF r.val.den]):=by
 refine qJ 23 Tryz.func162 rfl rfl rfl rfl (by kernel_rfl) (fun B F0 w0=>?_);refine qX 3 rfl ?_;refine qI ?_;refine AW.cut [1,2,3,12] (fun _:Unit=>[(1,.bx [dB r.g,Wd r.n,Wd r.d]),(2,.bx [dB false,.sl 1 []]),(3,.bx [dB false,.sl 1 []]),(12,.d (dB (decide (r.okB=false∨r.n=[]))))]) (fun _=>True) ?_ (fun _ _=>?_)
 · refine qT 1 rfl ?_;refine ab.call tok rfl rfl rfl rfl (qk r hw (by omega)) ?_;refine qU 2 rfl ?_;refine ab.split (t:=7) rfl (fun h=>?_) (fun h=>?_)
   · have h1:r.okB=false:=by simpa using h
     refine qU 5 rfl ?_;refine ab.nil ?_;exact⟨(),by rw[show decide (r.okB=false∨r.n=[])=true by simp[h1]];rfl,trivial⟩
   · have h1:r.okB=true:=by simpa using h
     refine qU 5 rfl ?_;rw[wR];refine ab.nil ?_;exact⟨(),by rw[show decide (r.okB=false∨r.n=[])=decide (r.n=[]) by simp only[h1];simp];rfl,trivial⟩
 refine AW.cond rfl (fun h=>?_) (fun h=>?_)
 · have h1:=aq h
   have hv:r.val=0:=by
    rcases h1 with h1 | h1
    · exact RD.xP h1
    · exact RD.p0 h1
   rw[hv,show (0:Rat).num=0 from rfl,show (((0:Rat).den:Nat):Int)=1 from rfl,y5];refine qX 1 rfl ?_;refine ab.call tok rfl rfl rfl rfl pj ?_;refine qU 2 rfl ?_;exact qN rfl
 · have h1:=au h
   have h2:r.okB=true:=by cases ho:r.okB with
    | true=>rfl
    | false=>exact absurd (.inl ho) h1
   obtain ⟨_,_,p3,p4,p5,_⟩:=RD.parts hw h2 (fun e=>h1 (.inr e));have e1:eF r.val.num=Wh r.g r.n:=by rw[eF,← p3,← p4]
   have e2:eF (r.val.den:Nat)=Wh false r.d:=by
    have:decide (((r.val.den:Nat):Int)<0)=false:=by simp
    rw[eF,this,iw,Int.natAbs_natCast,← p5]
   rw[e1,e2];have hl1:=hw.2.2.1;have hl2:=hw.2.2.2;refine AW.skip (AW.seq ?_);refine AW.mO tok aQ [(5,true),(3,false)] 8 [2,3] (by kernel_rfl) ⟨rfl,?_⟩;refine qP 5 rfl ?_;refine af.nil ⟨rfl,?_⟩;refine qP 3 rfl ?_;refine af.nil ⟨_,oB.cons (.bx rfl) (oB.cons (.bx rfl) oB.nil),ab.nil ?_⟩;exact AW.ret rfl
theorem Hs{n d:Int}(hd:0<d)(hn:n≠0):(Qr (Rat.divInt n d)).D= .ag [dB (decide (n / (Nat.gcd n.natAbs d.natAbs:Int)<0)),Wd (iw (n / (Nat.gcd n.natAbs d.natAbs:Int))),Wd (iw (d / (Nat.gcd n.natAbs d.natAbs:Int)))]:=by
 obtain ⟨h1,h2⟩:=vS (n:=n) hd
 have hnz:(Rat.divInt n d).num≠0:=by
  intro e;rw[h1] at e;exact hn (Int.eq_zero_of_ediv_eq_zero (Int.ofNat_dvd_left.2 (Nat.gcd_dvd_left _ _)) e)
 show D.ag [dB (decide ((Rat.divInt n d).num<0)),Wd (iw (Rat.divInt n d).num),Wd (if (Rat.divInt n d).num=0 then [] else tw (Rat.divInt n d).den)]=_;rw[if_neg hnz,h1,← h2,iw,iw,Int.natAbs_natCast]
set_option maxHeartbeats 800000 in
theorem jg(n d:Int)(hn:L n≤34800000000000)(hd:L d≤34800000000000)(h0:d≠0):Pure Tryz.prog 123 [eF n,eF d] (Qr (Rat.divInt n d)).D:=by
 refine qJ 47 Tryz.func123 rfl rfl rfl rfl (by kernel_rfl) (fun B F0 w0=>?_);refine qX 3 rfl ?_;refine qI (qX 1 rfl ?_);refine ab.call tok rfl rfl rfl rfl (gG n (by omega)) ?_;refine qU 1 rfl ?_;refine ab.nil ?_;refine AW.cond rfl (fun h=>?_) (fun h=>?_)
 · have hn0:n=0:=by
    have:jS n=0:=by simpa using h
    unfold jS at this
    repeat' split at this
    all_goals omega
   rw[hn0,Rat.zero_divInt,jO];refine qX 2 rfl ?_;exact qN rfl
 · have hn0:n≠0:=by rintro rfl;simp[jS] at h
   refine AW.skip ?_
   refine AW.cut [2,3,4] (fun s:Int×Int=>[(2,.bx [dB (decide (s.1<0)),Wd (iw s.1)]),(3,.bx [dB (decide (s.2<0)),Wd (iw s.2)]),(4,.bx [dB false,.sl 1 [],.sl 1 []])])
    (fun s=>0<s.2∧s.1≠0∧L s.1≤34800000000000∧L s.2≤34800000000000∧Rat.divInt s.1 s.2=Rat.divInt n d) ?_ (fun (x,y) ⟨hy,hx,hlx,hly,he⟩=>?_)
   · refine qX 1 rfl ?_;refine ab.call tok rfl rfl rfl rfl (gG d (by omega)) ?_;refine qU 1 rfl ?_;refine ab.nil ?_;refine AW.cond rfl (fun h=>?_) (fun h=>?_)
     · have hd0:d<0:=by
        have:=aq h;unfold jS at this
        repeat' split at this
        all_goals omega
       refine AW.draw aQ 4 (by kernel_rfl) ?_;refine qP 1 rfl ?_;refine af.call tok rfl rfl rfl rfl rfl (mb n (by omega)) ?_;refine qP 1 rfl ?_;refine af.call tok rfl rfl rfl rfl rfl (mb d (by omega)) ?_;refine af.nil ?_;refine qU 2 rfl ?_;refine ab.nil ?_;exact⟨(-n, -d),rfl,⟨by simp only[];omega,by simp only[];omega,by rw[nS];exact hn,by rw[nS];exact hd,Rat.neg_divInt_neg n d⟩⟩
     · have hd0:0<d:=by
        have:=au h;unfold jS at this
        repeat' split at this
        all_goals omega
       refine AW.skip ?_;exact⟨(n,d),rfl,⟨hd0,hn0,hn,hd,rfl⟩⟩
   · simp only[] at hy hx hlx hly he;rw[← he]
     have hgl:L ((Nat.gcd x.natAbs y.natAbs:Nat):Int)≤34800000000000:=by
      have:=Nat.gcd_le_left y.natAbs (show 0<x.natAbs by omega);have:=pU (a:=((Nat.gcd x.natAbs y.natAbs:Nat):Int)) (b:=x) (by simpa using this);omega
     have hg0:((Nat.gcd x.natAbs y.natAbs:Nat):Int)≠0:=by
      have:0<Nat.gcd x.natAbs y.natAbs:=Nat.gcd_pos_of_pos_left _ (by omega);omega
     rw[Hs hy hx];have hgcd:=vd x y (by omega) (by omega);generalize ((Nat.gcd x.natAbs y.natAbs:Nat):Int)=g at *;refine qX 2 rfl ?_;refine ab.call tok rfl rfl rfl rfl hgcd ?_;refine qU 2 rfl ?_;refine qK 2 rfl ?_;refine ab.call tok rfl rfl rfl rfl (ve x g hlx hgl hg0) ?_;refine qU 9 rfl ?_;refine qK 2 rfl ?_;refine ab.call tok rfl rfl rfl rfl (ve y g hly hgl hg0) ?_;refine qU 9 rfl ?_;refine qK 8 rfl ?_;exact qN rfl
theorem lD(n:Int)(h0: -9223372036854775808≤n)(h1:n≤9223372036854775807):Pure Tryz.prog 84 [dI n] (Qr n).D:=by
 refine qJ 7 Tryz.func84 rfl rfl rfl rfl (by kernel_rfl) (fun B F0 w0=>?_);have hl:=JR n (by omega);have hf:=jg n 1 (by omega) (by rw[wz];decide) (by decide);rw[rP] at hf;refine qX 1 rfl ?_;refine qK 1 rfl ?_;refine ab.call tok rfl rfl rfl rfl (xp n h0 h1) ?_;refine ab.call tok rfl rfl rfl rfl pj ?_;refine ab.call tok rfl rfl rfl rfl hf ?_;refine qU 1 rfl ?_;exact qN rfl
theorem Bn(r:RD){k:Nat}(hw:r.w k)(hk:k≤17300000000000):Pure Tryz.prog 143 [r.D] (Qr (-r.val)).D:=by
 refine qJ 14 Tryz.func143 rfl rfl rfl rfl (by kernel_rfl) (fun B F0 w0=>?_);have hl:=fe (hw.mono (Nat.le_max_left k 1)) (Nat.le_max_right k 1);have hn:=jQ r.val;have hd:=kt r.val;rw[← neg_divInt];refine qX 2 rfl ?_;refine qK 1 rfl ?_;refine ab.call tok rfl rfl rfl rfl (dG r hw (by omega)) ?_;refine qU 7 rfl ?_;refine qI (AW.draw aQ 4 (by kernel_rfl) ?_);refine qP 1 rfl ?_;refine af.call tok rfl rfl rfl rfl rfl (mb r.val.num (by omega)) ?_;refine qP 1 rfl ?_;refine af.call tok rfl rfl rfl rfl rfl (jg (-r.val.num) r.val.den (by rw[nS];omega) (by omega) (sE _)) ?_;refine af.nil ?_;refine qU 1 rfl ?_;exact qN rfl
theorem sQ(r:RD){k:Nat}(hr:r.w k)(hk:k≤17300000000000):Pure Tryz.prog 135 [r.D] (dI (jS r.val.num)):=by
 refine qJ 12 Tryz.func135 rfl rfl rfl rfl (by kernel_rfl) (fun B F0 w0=>?_);have hl:=fe (hr.mono (Nat.le_max_left k 1)) (Nat.le_max_right k 1);have:=jQ r.val;refine qX 2 rfl ?_;refine qK 1 rfl ?_;refine ab.call tok rfl rfl rfl rfl (dG r hr (by omega)) ?_;refine qU 7 rfl ?_;refine qK 1 rfl ?_;refine ab.call tok rfl rfl rfl rfl (gG r.val.num (by omega)) ?_;refine qU 1 rfl ?_;exact qN rfl
theorem u6(r s:RD){k:Nat}(hr:r.w k)(hs:s.w k)(hk:k≤17300000000000):Pure Tryz.prog 136 [r.D,s.D] (Qr (r.val+s.val)).D:=by
 refine qJ 30 Tryz.func136 rfl rfl rfl rfl (by kernel_rfl) (fun B F0 w0=>?_);have hl:=fe (hr.mono (Nat.le_max_left k 1)) (Nat.le_max_right k 1);have hm:=fe (hs.mono (Nat.le_max_left k 1)) (Nat.le_max_right k 1);have:=jQ r.val;have:=kt r.val;have:=jQ s.val;have:=kt s.val;have:=gO r.val.num s.val.den;have:=gO s.val.num r.val.den;have:=gO r.val.den s.val.den;have:=AK (r.val.num*s.val.den) (s.val.num*r.val.den);rw[← pS];refine qX 3 rfl ?_;refine qK 1 rfl ?_;refine ab.call tok rfl rfl rfl rfl (dG r hr (by omega)) ?_;refine qU 7 rfl ?_;refine qK 1 rfl ?_;refine ab.call tok rfl rfl rfl rfl (dG s hs (by omega)) ?_;refine qU 7 rfl ?_;refine qI (AW.draw aQ 11 (by kernel_rfl) ?_);refine qP 2 rfl ?_;refine af.call tok rfl rfl rfl rfl rfl (gp r.val.num s.val.den (by omega) (by omega)) ?_;refine qP 2 rfl ?_;refine af.call tok rfl rfl rfl rfl rfl (gp s.val.num r.val.den (by omega) (by omega)) ?_;refine af.call tok rfl rfl rfl rfl rfl (vf (r.val.num*s.val.den) (s.val.num*r.val.den) (by omega) (by omega)) ?_;refine qP 2 rfl ?_;refine af.call tok rfl rfl rfl rfl rfl (gp r.val.den s.val.den (by omega) (by omega)) ?_;refine af.call tok rfl rfl rfl rfl rfl (jg (r.val.num*s.val.den+s.val.num*r.val.den) (r.val.den*s.val.den) (by omega) (by omega) (iS _ _)) ?_;refine af.nil ?_;refine qU 1 rfl ?_;exact qN rfl
theorem Bo(r s:RD){k:Nat}(hr:r.w k)(hs:s.w k)(hk:k≤17300000000000):Pure Tryz.prog 152 [r.D,s.D] (Qr (r.val*s.val)).D:=by
 refine qJ 26 Tryz.func152 rfl rfl rfl rfl (by kernel_rfl) (fun B F0 w0=>?_);have hl:=fe (hr.mono (Nat.le_max_left k 1)) (Nat.le_max_right k 1);have hm:=fe (hs.mono (Nat.le_max_left k 1)) (Nat.le_max_right k 1);have:=jQ r.val;have:=kt r.val;have:=jQ s.val;have:=kt s.val;have:=gO r.val.num s.val.num;have:=gO r.val.den s.val.den;rw[← pz];refine qX 3 rfl ?_;refine qK 1 rfl ?_;refine ab.call tok rfl rfl rfl rfl (dG r hr (by omega)) ?_;refine qU 7 rfl ?_;refine qK 1 rfl ?_;refine ab.call tok rfl rfl rfl rfl (dG s hs (by omega)) ?_;refine qU 7 rfl ?_;refine qI (AW.draw aQ 7 (by kernel_rfl) ?_);refine qP 2 rfl ?_;refine af.call tok rfl rfl rfl rfl rfl (gp r.val.num s.val.num (by omega) (by omega)) ?_;refine qP 2 rfl ?_;refine af.call tok rfl rfl rfl rfl rfl (gp r.val.den s.val.den (by omega) (by omega)) ?_;refine af.call tok rfl rfl rfl rfl rfl (jg (r.val.num*s.val.num) (r.val.den*s.val.den) (by omega) (by omega) (iS _ _)) ?_;refine af.nil ?_;refine qU 1 rfl ?_;exact qN rfl
end Lift
namespace Lift
open Go Go.Proofs
end Lift
namespace Lift
open Go Go.Proofs
instance:Inhabited RD:=⟨⟨false,[],[]⟩⟩
structure Mark where
 nm:ByteArray
 x:RD
 y:RD
deriving Inhabited
structure Body where
 nm:ByteArray
 pts:List Mark
deriving Inhabited
structure JT where
 nm:ByteArray
 kind:Int
 a:Int
 pt:Int
 b:Int
 on:Int
 to:Int
deriving Inhabited
structure Driver where
 nm:ByteArray
 body:Int
deriving Inhabited
structure Lkg where
 nm:ByteArray
 bodies:List Body
 joints:List JT
 drivers:List Driver
deriving Inhabited
def big:Nat:=1000000000000000
def Kr(g:Nat→Bool):Nat→Nat→Bool
 | 0,_=>false
 | m+1,i=>g i||Kr g m (i+1)
def fE(f:Nat→Nat):Nat→Nat→Nat
 | 0,_=>0
 | m+1,i=>if f i=0 then fE f m (i+1) else f i
theorem iP{f:Nat→Nat}{n i:Nat}(h:i<n)(h0:f i≠0):fE f (n-i) i=f i:=by
 rw[show n-i=(n-(i+1))+1 by omega,fE,if_neg h0]
theorem fU{f:Nat→Nat}{n i:Nat}(h:i<n)(h0:f i=0):fE f (n-i) i=fE f (n-(i+1)) (i+1):=by
 rw[show n-i=(n-(i+1))+1 by omega,fE,if_pos h0]
theorem iR{f:Nat→Nat}{n i:Nat}(h: ¬i<n):fE f (n-i) i=0:=by
 rw[show n-i=0 by omega,fE]
theorem getM{α:Type}[Inhabited α](f:α→D){l:List α}{i:Nat}(h:i<l.length):(l.map f)[i]?=some (f (l.getD i default)):=by
 simp[h]
def tR(n:Nat):D:=match n with
 | 0=>aP
 | m+1=>er ((m+1:Nat):Int)
end Lift
namespace Lift
open Go Go.Proofs
theorem HY:RT Tryz.prog 4 Bool (fun b=>[dB b]) (fun _=>True):=RT.bool (by kernel_rfl) (by kernel_rfl)
theorem Jb:RT Tryz.prog 3 Int (fun n=>[dI n]) (fun n=>(Lit.int .i64 n).wf=true):=RT.int (by kernel_rfl) (by kernel_rfl)
theorem HX:RT Tryz.prog 113 Nat (fun n=>[wd n]) (fun n=>n<4294967296):=by
 refine(RT.int (k:= .u32) (by kernel_rfl) (by kernel_rfl)).map Int.toNat (fun n h=>?_) (fun n h=>?_) (fun v=>⟨by kernel_rfl,fun d hd=>by simp at hd;subst hd;rfl⟩)
 · have:0≤n∧n≤4294967295:=by simpa[Lit.wf,IntKind.min,IntKind.max,IntKind.signed,IntKind.bits] using h
   rw[wd,Int.toNat_of_nonneg this.1]
 · have:0≤n∧n≤4294967295:=by simpa[Lit.wf,IntKind.min,IntKind.max,IntKind.signed,IntKind.bits] using h
   omega
theorem Cc:RT Tryz.prog 109 (List Nat) (fun l=>[Wd l]) (fun l=>a9 l∧l.length≤reachBytes) :=
 (RT.slice (el:=wd) (s:=1) (by kernel_rfl) (by kernel_rfl) (by kernel_rfl) (by decide) (Nat.le_of_ble_eq_true (by kernel_rfl)) HX (fun v=>rfl)).map id (fun l h=>rfl) (fun l h=>⟨h.2,h.1⟩) (fun v=>⟨by kernel_rfl,fun d hd=>by simp at hd;subst hd;rfl⟩)
theorem Ja:RT Tryz.prog 111 RD (fun r=>[dB r.g,Wd r.n,Wd r.d]) (fun r=>r.w reachBytes):=by
 have h:=RT.struct (P:=Tryz.prog) (t:=111) (m:=3) Tryz.underlying111 (by kernel_rfl) (RTF.cons (by kernel_rfl) HY (RTF.cons (by kernel_rfl) Cc (RTF.cons (by kernel_rfl) Cc RTF.nil))) (fun v=>rfl)
 exact h.map (fun v=>⟨v.1,v.2.1,v.2.2.1⟩) (fun v h=>rfl) (fun v h=>⟨h.2.1.1,h.2.2.1.1,h.2.1.2,h.2.2.1.2⟩) (fun v=>⟨by kernel_rfl,fun d hd=>by
  simp only[List.mem_cons,List.mem_nil_iff,or_false] at hd
  rcases hd with rfl | rfl | rfl<;>rfl⟩)
theorem yG{α:Type}[Inhabited α]{p:α→Prop}{l:List α}(h: ∀v∈l,p v)(h0:p default)(i:Nat):p (l.getD i default):=by
 rw[aE];rcases Nat.lt_or_ge i l.length with hi | hi
 · rw[a8 hi];exact h _ (List.getElem_mem hi)
 · rw[List.getElem?_eq_none hi];exact h0
end Lift
namespace Go.Proofs.YtfakkdmfofiibaaGreat
open Lift Go
theorem Tryz.own:ownKnob Tryz.prog.godebug=none:=by kernel_rfl
theorem Tryz.laidOut:laidOutB Tryz.prog=true:=by kernel_rfl
end Go.Proofs.YtfakkdmfofiibaaGreat
namespace Lift
structure Rg where
 T:Type
 add:T→T→T
 mul:T→T→T
 neg:T→T
 z:T
 o:T
 ac: ∀x y,add x y=add y x
 aa: ∀x y w,add (add x y) w=add x (add y w)
 az: ∀x,add x z=x
 an: ∀x,add x (neg x)=z
 mc: ∀x y,mul x y=mul y x
 ma: ∀x y w,mul (mul x y) w=mul x (mul y w)
 mo: ∀x,mul x o=x
 md: ∀x y w,mul x (add y w)=add (mul x y) (mul x w)
instance (R:Rg):Add R.T:=⟨R.add⟩
instance (R:Rg):Mul R.T:=⟨R.mul⟩
instance (R:Rg):Neg R.T:=⟨R.neg⟩
instance (R:Rg):Sub R.T:=⟨fun x y=>R.add x (R.neg y)⟩
instance (R:Rg):OfNat R.T 0:=⟨R.z⟩
instance (R:Rg):OfNat R.T 1:=⟨R.o⟩
section
variable {R:Rg}
theorem Rg.sub_def(x y:R.T):x-y=x+ -y:=rfl
theorem Rg.add_comm(x y:R.T):x+y=y+x:=R.ac x y
theorem Rg.add_assoc(x y w:R.T):x+y+w=x+(y+w):=R.aa x y w
theorem Rg.add_zero(x:R.T):x+0=x:=R.az x
theorem Rg.zero_add(x:R.T):0+x=x:=by rw[Rg.add_comm,Rg.add_zero]
theorem Rg.add_neg(x:R.T):x+ -x=0:=R.an x
theorem Rg.mul_comm(x y:R.T):x*y=y*x:=R.mc x y
theorem Rg.mul_assoc(x y w:R.T):x*y*w=x*(y*w):=R.ma x y w
theorem Rg.mul_one(x:R.T):x*1=x:=R.mo x
theorem Rg.one_mul(x:R.T):1*x=x:=by rw[Rg.mul_comm,Rg.mul_one]
theorem Rg.mul_add(x y w:R.T):x*(y+w)=x*y+x*w:=R.md x y w
theorem Rg.add_mul(x y w:R.T):(y+w)*x=y*x+w*x:=by rw[Rg.mul_comm,Rg.mul_add,Rg.mul_comm x y,Rg.mul_comm x w]
theorem Rg.AF{x y w:R.T}(h:x+y=x+w):y=w:=by
 have: -x+(x+y)= -x+(x+w):=by rw[h]
 rw[← Rg.add_assoc,← Rg.add_assoc,Rg.add_comm (-x),Rg.add_neg,Rg.zero_add,Rg.zero_add] at this;exact this
theorem Rg.neg_eq{x y:R.T}(h:x+y=0): -x=y:=Rg.AF (x:=x) (by rw[Rg.add_neg,h])
theorem Rg.neg_neg(x:R.T): - -x=x:=Rg.neg_eq (by rw[Rg.add_comm,Rg.add_neg])
theorem Rg.neg_zero: -(0:R.T)=0:=Rg.neg_eq (Rg.add_zero 0)
theorem Rg.mul_zero(x:R.T):x*0=0:=Rg.AF (x:=x*0) (by rw[← Rg.mul_add,Rg.add_zero,Rg.add_zero])
theorem Rg.zero_mul(x:R.T):0*x=0:=by rw[Rg.mul_comm,Rg.mul_zero]
theorem Rg.mul_neg(x y:R.T):x* -y= -(x*y):=(Rg.neg_eq (by rw[← Rg.mul_add,Rg.add_neg,Rg.mul_zero])).symm
theorem Rg.neg_mul(x y:R.T): -x*y= -(x*y):=by rw[Rg.mul_comm,Rg.mul_neg,Rg.mul_comm]
theorem Rg.neg_add(x y:R.T): -(x+y)= -x+ -y:=Rg.neg_eq (by
 rw[Rg.add_assoc,← Rg.add_assoc y,Rg.add_comm y,Rg.add_assoc,Rg.add_neg,Rg.add_zero,Rg.add_neg])
theorem Rg.sub_self(x:R.T):x-x=0:=Rg.add_neg x
theorem Rg.xF{x y:R.T}(h:x-y=0):x=y:=by
 have:x+ -y+y=0+y:=by rw[← Rg.sub_def,h]
 rwa [Rg.add_assoc,Rg.add_comm (-y),Rg.add_neg,Rg.add_zero,Rg.zero_add] at this
end
inductive Px where
 | v (i:Nat)
 | z
 | o
 | add (p q:Px)
 | mul (p q:Px)
 | neg (p:Px)
 | sub (p q:Px)
instance:Add Px:=⟨.add⟩
instance:Mul Px:=⟨.mul⟩
instance:Neg Px:=⟨.neg⟩
instance:Sub Px:=⟨.sub⟩
instance:OfNat Px 0:=⟨.z⟩
instance:OfNat Px 1:=⟨.o⟩
def Px.ev{R:Rg}(ρ:List R.T):Px→R.T
 | .v i=>ρ.getD i 0
 | .z=>0
 | .o=>1
 | .add p q=>p.ev ρ+q.ev ρ
 | .mul p q=>p.ev ρ*q.ev ρ
 | .neg p=> -p.ev ρ
 | .sub p q=>p.ev ρ-q.ev ρ
def Dn(i:Nat):List Nat→List Nat
 | []=>[i]
 | j::r=>if i≤j then i::j::r else j::Dn i r
def Jx:List Nat→List Nat→List Nat
 | [],l=>l
 | i::r,l=>Dn i (Jx r l)
abbrev Pl:=List (Bool×List Nat)
def Pl.flip(p:Pl):Pl:=p.map fun m=>(!m.1,m.2)
def Pl.J4(m:Bool×List Nat)(p:Pl):Pl:=p.map fun n=>(m.1==n.1,Jx m.2 n.2)
def Pl.mul:Pl→Pl→Pl
 | [],_=>[]
 | m::r,q=>Pl.J4 m q++Pl.mul r q
def Px.nf:Px→Pl
 | .v i=>[(true,[i])]
 | .z=>[]
 | .o=>[(true,[])]
 | .add p q=>p.nf++q.nf
 | .mul p q=>Pl.mul p.nf q.nf
 | .neg p=>Pl.flip p.nf
 | .sub p q=>p.nf++Pl.flip q.nf
def Pl.rem(m:Bool×List Nat):Pl→Option Pl
 | []=>none
 | n::r=>if (m.1 != n.1)&&(m.2==n.2) then some r else match Pl.rem m r with
   | some r'=>some (n::r')
   | none=>none
def Pl.GR:Nat→Pl→Bool
 | _,[]=>true
 | 0,_::_=>false
 | f+1,m::r=>match Pl.rem m r with
   | some r'=>Pl.GR f r'
   | none=>false
def Px.chk(p q:Px):Bool:=let l:=(Px.sub p q).nf;Pl.GR l.length l
section
variable {R:Rg}
def mN(ρ:List R.T):List Nat→R.T
 | []=>1
 | i::r=>ρ.getD i 0*mN ρ r
def wC(b:Bool)(x:R.T):R.T:=if b then x else -x
def oF(ρ:List R.T):Pl→R.T
 | []=>0
 | m::r=>wC m.1 (mN ρ m.2)+oF ρ r
theorem EN(ρ:List R.T)(i:Nat): ∀l,mN ρ (Dn i l)=ρ.getD i 0*mN ρ l
 | []=>rfl
 | j::r=>by
   unfold Dn;split
   · rfl
   · show ρ.getD j 0*mN ρ (Dn i r)=ρ.getD i 0*(ρ.getD j 0*mN ρ r);rw[EN ρ i r,← Rg.mul_assoc,Rg.mul_comm (ρ.getD j 0),Rg.mul_assoc]
theorem HF(ρ:List R.T): ∀l m,mN ρ (Jx l m)=mN ρ l*mN ρ m
 | [],m=>(Rg.one_mul _).symm
 | i::r,m=>by
   show mN ρ (Dn i (Jx r m))=ρ.getD i 0*mN ρ r*mN ρ m;rw[EN,HF ρ r m,Rg.mul_assoc]
theorem ud(ρ:List R.T): ∀p q,oF ρ (p++q)=oF ρ p+oF ρ q
 | [],q=>(Rg.zero_add _).symm
 | m::r,q=>by
   show wC m.1 (mN ρ m.2)+oF ρ (r++q)=wC m.1 (mN ρ m.2)+oF ρ r+oF ρ q;rw[ud ρ r q,Rg.add_assoc]
theorem Cm(b:Bool)(x:R.T):wC (!b) x= -wC b x:=by
 cases b
 · exact(Rg.neg_neg x).symm
 · rfl
theorem Gu(a b:Bool)(x y:R.T):wC (a==b) (x*y)=wC a x*wC b y:=by
 cases a<;>cases b
 · show x*y= -x* -y;rw[Rg.neg_mul,Rg.mul_neg,Rg.neg_neg]
 · show -(x*y)= -x*y;rw[Rg.neg_mul]
 · show -(x*y)=x* -y;rw[Rg.mul_neg]
 · rfl
theorem vg(ρ:List R.T): ∀p:Pl,oF ρ (Pl.flip p)= -oF ρ p
 | []=>Rg.neg_zero.symm
 | m::r=>by
   show wC (!m.1) (mN ρ m.2)+oF ρ (Pl.flip r)= -(wC m.1 (mN ρ m.2)+oF ρ r);rw[vg ρ r,Cm,Rg.neg_add]
theorem Ct(ρ:List R.T)(m:Bool×List Nat): ∀p:Pl,oF ρ (Pl.J4 m p)=wC m.1 (mN ρ m.2)*oF ρ p
 | []=>(Rg.mul_zero _).symm
 | n::r=>by
   show wC (m.1==n.1) (mN ρ (Jx m.2 n.2))+oF ρ (Pl.J4 m r)=wC m.1 (mN ρ m.2)*(wC n.1 (mN ρ n.2)+oF ρ r);rw[Ct ρ m r,HF,Gu,Rg.mul_add]
theorem Cs(ρ:List R.T): ∀p q:Pl,oF ρ (Pl.mul p q)=oF ρ p*oF ρ q
 | [],q=>(Rg.zero_mul _).symm
 | m::r,q=>by
   show oF ρ (Pl.J4 m q++Pl.mul r q)=(wC m.1 (mN ρ m.2)+oF ρ r)*oF ρ q;rw[ud,Ct,Cs ρ r q,Rg.add_mul]
theorem Px.s5(ρ:List R.T): ∀p:Px,oF ρ p.nf=p.ev ρ
 | .v i=>by
   show ρ.getD i 0*1+0=_;rw[Rg.mul_one,Rg.add_zero];rfl
 | .z=>rfl
 | .o=>Rg.add_zero _
 | .add p q=>by
   show oF ρ (p.nf++q.nf)=p.ev ρ+q.ev ρ;rw[ud,Px.s5 ρ p,Px.s5 ρ q]
 | .mul p q=>by
   show oF ρ (Pl.mul p.nf q.nf)=p.ev ρ*q.ev ρ;rw[Cs,Px.s5 ρ p,Px.s5 ρ q]
 | .neg p=>by
   show oF ρ (Pl.flip p.nf)= -p.ev ρ;rw[vg,Px.s5 ρ p]
 | .sub p q=>by
   show oF ρ (p.nf++Pl.flip q.nf)=p.ev ρ-q.ev ρ;rw[ud,vg,Px.s5 ρ p,Px.s5 ρ q];rfl
theorem Cr(ρ:List R.T)(m:Bool×List Nat): ∀{p p':Pl},Pl.rem m p=some p'→wC m.1 (mN ρ m.2)+oF ρ p=oF ρ p'
 | [],p',h=>by cases h
 | n::r,p',h=>by
   unfold Pl.rem at h;split at h
   · rename_i hc;cases h;rw[Bool.and_eq_true] at hc
     have e1:n.1= !m.1:=by
      have h1:=hc.1
      revert h1
      cases m.1<;>cases n.1<;>simp
     have e2:m.2=n.2:=beq_iff_eq.1 hc.2;show wC m.1 (mN ρ m.2)+(wC n.1 (mN ρ n.2)+oF ρ r)=oF ρ r;rw[e1,← e2,Cm,← Rg.add_assoc,Rg.add_neg,Rg.zero_add]
   · split at h
     · rename_i r' hr;cases h;have ih:=Cr ρ m hr;show wC m.1 (mN ρ m.2)+(wC n.1 (mN ρ n.2)+oF ρ r)=wC n.1 (mN ρ n.2)+oF ρ r';rw[← ih,← Rg.add_assoc,Rg.add_comm (wC m.1 _),Rg.add_assoc]
     · cases h
theorem zV(ρ:List R.T): ∀(f:Nat) {p:Pl},Pl.GR f p=true→oF ρ p=0
 | _,[],_=>rfl
 | 0,_::_,h=>by cases h
 | f+1,m::r,h=>by
   have h:(match Pl.rem m r with
    | some r'=>Pl.GR f r'
    | none=>false)=true:=h
   split at h
   · rename_i r' hr;exact(Cr ρ m hr).trans (zV ρ f h)
   · cases h
theorem Rg.fW(ρ:List R.T)(p q:Px)(h:Px.chk p q=true):p.ev ρ=q.ev ρ:=by
 have h1:=zV ρ _ h;rw[Px.s5] at h1;exact Rg.xF h1
end
abbrev X0:Px:= .v 0
abbrev X1:Px:= .v 1
abbrev X2:Px:= .v 2
abbrev X3:Px:= .v 3
abbrev X4:Px:= .v 4
abbrev X5:Px:= .v 5
abbrev X6:Px:= .v 6
end Lift
namespace Lift
structure OR extends Rg where
 sgn:T→Int
 s3: ∀x,sgn x=1∨sgn x=0∨sgn x= -1
 sn: ∀x,sgn (neg x)= -sgn x
 sm: ∀x y,sgn (mul x y)=sgn x*sgn y
 sp: ∀x y,sgn x=1→sgn y=1→sgn (add x y)=1
 s0: ∀x y,sgn x=0→sgn (add x y)=sgn y
 s1:sgn o=1
section
variable {R:OR}
theorem OR.ng(x:R.T):R.sgn (-x)= -R.sgn x:=R.sn x
theorem OR.ml(x y:R.T):R.sgn (x*y)=R.sgn x*R.sgn y:=R.sm x y
theorem OR.null(x y:R.T)(h:R.sgn x=0):R.sgn (x+y)=R.sgn y:=R.s0 x y h
theorem OR.xr(x y:R.T)(h:R.sgn y=0):R.sgn (x+y)=R.sgn x:=by rw[Rg.add_comm];exact R.s0 y x h
theorem OR.zero:R.sgn (0:R.T)=0:=by
 have h:=OR.ng (R:=R) 0;rw[Rg.neg_zero] at h;omega
theorem OR.one:R.sgn (1:R.T)=1:=R.s1
theorem OR.pp{x y:R.T}(h1:R.sgn x=1)(h2:0≤R.sgn y):R.sgn (x+y)=1:=by
 rcases R.s3 y with h | h | h
 · exact R.sp x y h1 h
 · rw[OR.xr x y h];exact h1
 · omega
theorem OR.nn{x y:R.T}(h1:R.sgn x= -1)(h2:R.sgn y≤0):R.sgn (x+y)= -1:=by
 have h:=OR.pp (x:= -x) (y:= -y) (by rw[OR.ng];omega) (by rw[OR.ng];omega);rw[← Rg.neg_add,OR.ng] at h;omega
theorem OR.kr{x:R.T}(y:R.T)(h:R.sgn x=0):R.sgn (x*y)=0:=by rw[OR.ml,h,Int.zero_mul]
theorem OR.Ae{x:R.T}(y:R.T)(h:R.sgn x=0):R.sgn (y*x)=0:=by rw[OR.ml,h,Int.mul_zero]
theorem OR.sq(x:R.T):0≤R.sgn (x*x):=by
 rw[OR.ml];rcases R.s3 x with h | h | h<;>rw[h]<;>decide
theorem OR.J7{x:R.T}(h:R.sgn (x*x)=0):R.sgn x=0:=by
 rw[OR.ml] at h;rcases R.s3 x with e | e | e<;>rw[e] at h ⊢ <;>revert h<;>decide
theorem OR.JY{x:R.T}(h:R.sgn x≠0):R.sgn (x*x)=1:=by
 rw[OR.ml];rcases R.s3 x with e | e | e
 · rw[e];rfl
 · exact absurd e h
 · rw[e];rfl
theorem OR.more{x y:R.T}(h:R.sgn (x*x-y*y)=1):R.sgn (x+y)=R.sgn x:=by
 have hx:R.sgn x≠0:=fun e=>by
  have h1:=OR.null (x*x) (-(y*y)) (OR.kr x e);have h2:=OR.sq y;rw[OR.ng] at h1;have h1:R.sgn (x*x-y*y)= -R.sgn (y*y):=h1;omega
 have key: ∀{x y:R.T},R.sgn (x*x-y*y)=1→R.sgn x=1→R.sgn (x+y)=1:=fun {x y} h hx=>by
  rcases R.s3 y with e | e | e
  · exact OR.pp hx (by omega)
  · exact OR.pp hx (by omega)
  · have h1:R.sgn (x-y)=1:=OR.pp (y:= -y) hx (by rw[OR.ng];omega);have e:x*x-y*y=(x-y)*(x+y):=Rg.fW [x,y] (X0*X0-X1*X1) ((X0-X1)*(X0+X1)) rfl;rw[e,OR.ml,h1] at h;omega
 rcases R.s3 x with e | e | e
 · rw[e];exact key h e
 · exact absurd e hx
 · have h1:=key (x:= -x) (y:= -y) (by
    rw[← h];congr 1
    exact Rg.fW [x,y] (-X0* -X0- -X1* -X1) (X0*X0-X1*X1) rfl) (by rw[OR.ng];omega)
   rw[← Rg.neg_add,OR.ng] at h1;omega
end
def Rg.ext(R:Rg)(d:R.T):Rg where
 T:=R.T×R.T
 add x y:=(x.1+y.1,x.2+y.2)
 mul x y:=(x.1*y.1+x.2*y.2*d,x.1*y.2+x.2*y.1)
 neg x:=(-x.1, -x.2)
 z:=(0,0)
 o:=(1,0)
 ac x y:=Prod.ext (Rg.add_comm _ _) (Rg.add_comm _ _)
 aa x y w:=Prod.ext (Rg.add_assoc _ _ _) (Rg.add_assoc _ _ _)
 az x:=Prod.ext (Rg.add_zero _) (Rg.add_zero _)
 an x:=Prod.ext (Rg.add_neg _) (Rg.add_neg _)
 mc x y:=Prod.ext (Rg.fW [x.1,x.2,y.1,y.2,d] (X0*X2+X1*X3*X4) (X2*X0+X3*X1*X4) rfl) (Rg.fW [x.1,x.2,y.1,y.2] (X0*X3+X1*X2) (X2*X1+X3*X0) rfl)
 ma x y w:=Prod.ext
  (Rg.fW [x.1,x.2,y.1,y.2,w.1,w.2,d] ((X0*X2+X1*X3*X6)*X4+(X0*X3+X1*X2)*X5*X6) (X0*(X2*X4+X3*X5*X6)+X1*(X2*X5+X3*X4)*X6) rfl)
  (Rg.fW [x.1,x.2,y.1,y.2,w.1,w.2,d] ((X0*X2+X1*X3*X6)*X5+(X0*X3+X1*X2)*X4) (X0*(X2*X5+X3*X4)+X1*(X2*X4+X3*X5*X6)) rfl)
 mo x:=Prod.ext (Rg.fW [x.1,x.2,d] (X0*1+X1*0*X2) X0 rfl) (Rg.fW [x.1,x.2] (X0*0+X1*1) X1 rfl)
 md x y w:=Prod.ext
  (Rg.fW [x.1,x.2,y.1,y.2,w.1,w.2,d] (X0*(X2+X4)+X1*(X3+X5)*X6) (X0*X2+X1*X3*X6+(X0*X4+X1*X5*X6)) rfl)
  (Rg.fW [x.1,x.2,y.1,y.2,w.1,w.2] (X0*(X3+X5)+X1*(X2+X4)) (X0*X3+X1*X2+(X0*X5+X1*X4)) rfl)
end Lift
namespace Lift
def OR.es(R:OR)(d:R.T)(x:R.T×R.T):Int :=
 if R.sgn d=0 then R.sgn x.1 else if R.sgn x.1=R.sgn x.2∨R.sgn x.2=0 then R.sgn x.1 else
  if R.sgn x.1=0 then R.sgn x.2 else R.sgn x.1*R.sgn (x.1*x.1-x.2*x.2*d)
section
variable {R:OR} {d:R.T}
def OR.nr(d:R.T)(x:R.T×R.T):R.T:=x.1*x.1-x.2*x.2*d
theorem OR.FP(hd:R.sgn d=1)(b:R.T):R.sgn (b*b*d)=R.sgn (b*b):=by rw[OR.ml (b*b) d,hd,Int.mul_one]
theorem OR.C3(x y:R.T)(h:R.sgn x=0):R.sgn (x-y)= -R.sgn y:=(OR.null x (-y) h).trans (OR.ng y)
theorem OR.xd(x y:R.T)(h:R.sgn y=0):R.sgn (x-y)=R.sgn x:=OR.xr x (-y) (by rw[OR.ng,h];rfl)
theorem OR.jy(hd:R.sgn d=1){x:R.T×R.T}(h:R.sgn (OR.nr d x)=1):R.es d x=R.sgn x.1:=by
 obtain ⟨a,b⟩:=x;unfold OR.es OR.nr at *;simp only[] at *;rw[if_neg (by omega)];by_cases c1:R.sgn a=R.sgn b∨R.sgn b=0
 · rw[if_pos c1]
 rw[if_neg c1];by_cases c2:R.sgn a=0
 · have h1:=OR.C3 (a*a) (b*b*d) (OR.kr a c2);rw[OR.FP hd] at h1;have:=OR.sq b;omega
 · rw[if_neg c2,h,Int.mul_one]
theorem OR.kV(hd:R.sgn d=1){x:R.T×R.T}(h:R.sgn (OR.nr d x)= -1):R.es d x=R.sgn x.2:=by
 obtain ⟨a,b⟩:=x;unfold OR.es OR.nr at *;simp only[] at *;rw[if_neg (by omega)];by_cases c0:R.sgn b=0
 · have h1:=OR.xd (a*a) (b*b*d) (by rw[OR.FP hd];exact OR.kr b c0);have:=OR.sq a;omega
 by_cases c1:R.sgn a=R.sgn b
 · rw[if_pos (.inl c1),c1]
 rw[if_neg (by simp[c0,c1])];by_cases c2:R.sgn a=0
 · rw[if_pos c2]
 rw[if_neg c2,h];rcases R.s3 a with e | e | e<;>rcases R.s3 b with g | g | g<;>omega
theorem OR.mz(hd:R.sgn d=1){x:R.T×R.T}(h1:R.sgn x.1=0)(h2:R.sgn x.2=0):R.es d x=0:=by
 unfold OR.es;rw[if_neg (by omega),if_pos (.inr h2),h1]
theorem OR.By(x y:R.T×R.T):OR.nr d (x.1*y.1+x.2*y.2*d,x.1*y.2+x.2*y.1)=OR.nr d x*OR.nr d y :=
 Rg.fW [x.1,x.2,y.1,y.2,d] ((X0*X2+X1*X3*X4)*(X0*X2+X1*X3*X4) -(X0*X3+X1*X2)*(X0*X3+X1*X2)*X4) ((X0*X0-X1*X1*X4)*(X2*X2-X3*X3*X4)) rfl
theorem OR.Im(x:R.T×R.T):OR.nr d (-x.1, -x.2)=OR.nr d x :=
 Rg.fW [x.1,x.2,d] (-X0* -X0- -X1* -X1*X2) (X0*X0-X1*X1*X2) rfl
theorem OR.IA{p q:R.T}(hd:R.sgn d=1)(hp:R.sgn p=1)(hq:R.sgn q=1)(h:R.sgn (p*p-q*q*d)=0)(x:R.T×R.T):R.es d x=R.sgn (x.1*q+x.2*p):=by
 obtain ⟨a,b⟩:=x;unfold OR.es;simp only[];rw[if_neg (by omega)];have ea:R.sgn (a*q)=R.sgn a:=by rw[OR.ml,hq,Int.mul_one]
 have eb:R.sgn (b*p)=R.sgn b:=by rw[OR.ml,hp,Int.mul_one]
 by_cases c0:R.sgn b=0
 · rw[if_pos (.inr c0),OR.xr _ _ (by rw[eb,c0]),ea]
 by_cases c1:R.sgn a=R.sgn b
 · rw[if_pos (.inl c1)];rcases R.s3 a with e | e | e
   · rw[OR.pp (by rw[ea,e]) (by rw[eb];omega),e]
   · omega
   · rw[OR.nn (by rw[ea,e]) (by rw[eb];omega),e]
 rw[if_neg (by simp[c0,c1])];by_cases c2:R.sgn a=0
 · rw[if_pos c2,OR.null _ _ (by rw[ea,c2]),eb]
 rw[if_neg c2]
 have e1:q*q*(a*a-b*b*d)=(a*q-b*p)*(a*q+b*p)+b*b*(p*p-q*q*d) :=
  Rg.fW [a,b,p,q,d] (X3*X3*(X0*X0-X1*X1*X4)) ((X0*X3-X1*X2)*(X0*X3+X1*X2)+X1*X1*(X2*X2-X3*X3*X4)) rfl
 have e2:R.sgn (a*a-b*b*d)=R.sgn (a*q-b*p)*R.sgn (a*q+b*p):=by
  have h1:R.sgn (q*q*(a*a-b*b*d))=R.sgn (a*a-b*b*d):=by rw[OR.ml,OR.ml,hq];omega
  rw[← h1,e1,OR.xr _ _ (OR.Ae _ h),OR.ml]
 have e3:R.sgn (a*q-b*p)=R.sgn a:=by
  show R.sgn (a*q+ -(b*p))=_;rcases R.s3 a with e | e | e
  · rw[e];exact OR.pp (by rw[ea,e]) (by rw[OR.ng,eb];rcases R.s3 b with g | g | g<;>omega)
  · exact absurd e c2
  · rw[e];exact OR.nn (by rw[ea,e]) (by rw[OR.ng,eb];rcases R.s3 b with g | g | g<;>omega)
 rw[e2,e3,← Int.mul_assoc];rcases R.s3 a with e | e | e
 · rw[e];omega
 · exact absurd e c2
 · rw[e];omega
theorem OR.Kg(hd:R.sgn d=1)(hns: ∀p q:R.T,R.sgn p=1→R.sgn q=1→R.sgn (p*p-q*q*d)≠0){x:R.T×R.T}(h:R.sgn (OR.nr d x)=0):R.sgn x.1=0∧R.sgn x.2=0:=by
 obtain ⟨a,b⟩:=x;unfold OR.nr at h;simp only[] at *
 have hb:R.sgn b=0:=by
  by_cases hb:R.sgn b=0
  · exact hb
  exfalso
  have ha:R.sgn a≠0:=fun ha=>by
   have h1:=OR.C3 (a*a) (b*b*d) (OR.kr a ha);rw[OR.FP hd,OR.JY hb] at h1;omega
  obtain ⟨p,hp,ep⟩: ∃p:R.T,R.sgn p=1∧p*p=a*a:=by
   rcases R.s3 a with e | e | e
   · exact⟨a,e,rfl⟩
   · exact absurd e ha
   · exact⟨-a,by rw[OR.ng];omega,Rg.fW [a] (-X0* -X0) (X0*X0) rfl⟩
  obtain ⟨q,hq,eq⟩: ∃q:R.T,R.sgn q=1∧q*q=b*b:=by
   rcases R.s3 b with e | e | e
   · exact⟨b,e,rfl⟩
   · exact absurd e hb
   · exact⟨-b,by rw[OR.ng];omega,Rg.fW [b] (-X0* -X0) (X0*X0) rfl⟩
  exact hns p q hp hq (by rw[ep,eq];exact h)
 refine⟨?_,hb⟩;rw[OR.xd _ _ (by rw[OR.FP hd];exact OR.kr b hb)] at h;exact OR.J7 h
end
end Lift
namespace Lift
section
variable {R:OR} {d:R.T}
def pM(d:R.T)(x y:R.T×R.T):R.T×R.T:=(x.1*y.1+x.2*y.2*d,x.1*y.2+x.2*y.1)
def pA(x y:R.T×R.T):R.T×R.T:=(x.1+y.1,x.2+y.2)
def pN(x:R.T×R.T):R.T×R.T:=(-x.1, -x.2)
structure FY (R:OR) (d:R.T):Prop where
 s3: ∀x,R.es d x=1∨R.es d x=0∨R.es d x= -1
 sn: ∀x,R.es d (pN x)= -R.es d x
 sm: ∀x y,R.es d (pM d x y)=R.es d x*R.es d y
 sp: ∀x y,R.es d x=1→R.es d y=1→R.es d (pA x y)=1
 s0: ∀x y,R.es d x=0→R.es d (pA x y)=R.es d y
 s1:R.es d (1,0)=1
theorem Fh(f:R.T×R.T→R.T)(q:R.T)(hq:R.sgn q=1)(h: ∀x,R.es d x=R.sgn (f x))(hn: ∀x,f (pN x)= -f x)(ha: ∀x y,f (pA x y)=f x+f y)(hm: ∀x y,R.sgn (q*f (pM d x y))=R.sgn (f x*f y))(h1:f (1,0)=q):FY R d where
 s3 x:=by rw[h];exact R.s3 _
 sn x:=by rw[h,h,hn,OR.ng]
 sm x y:=by
  rw[h,h,h,← OR.ml,← hm,OR.ml,hq,Int.one_mul]
 sp x y hx hy:=by
  rw[h] at *;rw[ha];exact R.sp _ _ hx hy
 s0 x y hx:=by
  rw[h] at *;rw[h,ha];exact R.s0 _ _ hx
 s1:=by rw[h,h1];exact hq
theorem Ix(hd:R.sgn d=0):FY R d:=by
 refine Fh (fun x=>x.1) 1 OR.one (fun x=>?_) (fun x=>rfl) (fun x y=>rfl) (fun x y=>?_) rfl
 · unfold OR.es;rw[if_pos hd]
 · show R.sgn (1*(x.1*y.1+x.2*y.2*d))=_;rw[Rg.one_mul];exact OR.xr _ _ (OR.Ae _ hd)
theorem Iy{p q:R.T}(hd:R.sgn d=1)(hp:R.sgn p=1)(hq:R.sgn q=1)(h:R.sgn (p*p-q*q*d)=0):FY R d:=by
 refine Fh (fun x=>x.1*q+x.2*p) q hq (fun x=>OR.IA hd hp hq h x) (fun x=>?_) (fun x y=>?_) (fun x y=>?_) ?_
 · exact Rg.fW [x.1,x.2,p,q] (-X0*X3+ -X1*X2) (-(X0*X3+X1*X2)) rfl
 · exact Rg.fW [x.1,x.2,y.1,y.2,p,q] ((X0+X2)*X5+(X1+X3)*X4) (X0*X5+X1*X4+(X2*X5+X3*X4)) rfl
 · have e:(x.1*q+x.2*p)*(y.1*q+y.2*p)=q*((x.1*y.1+x.2*y.2*d)*q+(x.1*y.2+x.2*y.1)*p)+x.2*y.2*(p*p-q*q*d) :=
    Rg.fW [x.1,x.2,y.1,y.2,p,q,d] ((X0*X5+X1*X4)*(X2*X5+X3*X4)) (X5*((X0*X2+X1*X3*X6)*X5+(X0*X3+X1*X2)*X4)+X1*X3*(X4*X4-X5*X5*X6)) rfl
   show R.sgn (q*((x.1*y.1+x.2*y.2*d)*q+(x.1*y.2+x.2*y.1)*p))=R.sgn ((x.1*q+x.2*p)*(y.1*q+y.2*p));rw[e,OR.xr _ _ (OR.Ae _ h)]
 · exact Rg.fW [p,q] (1*X1+0*X0) X1 rfl
theorem JF(hd:R.sgn d=1)(x:R.T×R.T)(hx:R.sgn (OR.nr d x)=1∨R.sgn (OR.nr d x)= -1∨(R.sgn x.1=0∧R.sgn x.2=0)):R.es d (pN x)= -R.es d x:=by
 have e:OR.nr d (pN x)=OR.nr d x:=OR.Im x;rcases hx with h | h | ⟨h1,h2⟩
 · rw[OR.jy hd h,OR.jy hd (by rw[e];exact h)];exact OR.ng _
 · rw[OR.kV hd h,OR.kV hd (by rw[e];exact h)];exact OR.ng _
 · rw[OR.mz hd h1 h2,OR.mz hd (by show R.sgn (-x.1)=0;rw[OR.ng];omega) (by show R.sgn (-x.2)=0;rw[OR.ng];omega)];rfl
theorem yh(x y:R.T×R.T):pM d x y=pM d y x:=(R.toRg.ext d).mc x y
theorem JH(hd:R.sgn d=1){x y:R.T×R.T}(hx:R.sgn (OR.nr d x)=1)(hy:R.sgn (OR.nr d y)=1):R.es d (pM d x y)=R.es d x*R.es d y:=by
 have hn:R.sgn (OR.nr d (pM d x y))=1:=by rw[show OR.nr d (pM d x y)=_ from OR.By x y,OR.ml,hx,hy];rfl
 rw[OR.jy hd hx,OR.jy hd hy,OR.jy hd hn,← OR.ml];show R.sgn (x.1*y.1+x.2*y.2*d)=_;refine OR.more ?_
 have e:x.1*y.1*(x.1*y.1) -x.2*y.2*d*(x.2*y.2*d)=x.1*x.1*(y.1*y.1-y.2*y.2*d)+y.2*y.2*d*(x.1*x.1-x.2*x.2*d) :=
  Rg.fW [x.1,x.2,y.1,y.2,d] (X0*X2*(X0*X2) -X1*X3*X4*(X1*X3*X4)) (X0*X0*(X2*X2-X3*X3*X4)+X3*X3*X4*(X0*X0-X1*X1*X4)) rfl
 rw[e]
 have h1:R.sgn x.1≠0:=fun h0=>by
  have:=OR.C3 (x.1*x.1) (x.2*x.2*d) (OR.kr _ h0);rw[OR.FP hd] at this;have h2:=OR.sq x.2;unfold OR.nr at hx;omega
 refine OR.pp (by rw[OR.ml,OR.JY h1];unfold OR.nr at hy;rw[hy];rfl) ?_;rw[OR.ml,OR.FP hd];unfold OR.nr at hx;rw[hx,Int.mul_one];exact OR.sq _
theorem HL(hd:R.sgn d=1){x y:R.T×R.T}(hx:R.sgn (OR.nr d x)=1)(hy:R.sgn (OR.nr d y)= -1):R.es d (pM d x y)=R.es d x*R.es d y:=by
 have hn:R.sgn (OR.nr d (pM d x y))= -1:=by rw[show OR.nr d (pM d x y)=_ from OR.By x y,OR.ml,hx,hy];rfl
 rw[OR.jy hd hx,OR.kV hd hy,OR.kV hd hn,← OR.ml];show R.sgn (x.1*y.2+x.2*y.1)=_;refine OR.more ?_;unfold OR.nr at hx hy
 have e:(x.1*y.2*(x.1*y.2) -x.2*y.1*(x.2*y.1))*d=x.1*x.1* -(y.1*y.1-y.2*y.2*d)+y.1*y.1*(x.1*x.1-x.2*x.2*d) :=
  Rg.fW [x.1,x.2,y.1,y.2,d] ((X0*X3*(X0*X3) -X1*X2*(X1*X2))*X4) (X0*X0* -(X2*X2-X3*X3*X4)+X2*X2*(X0*X0-X1*X1*X4)) rfl
 have h1:R.sgn x.1≠0:=fun h0=>by
  have:=OR.C3 (x.1*x.1) (x.2*x.2*d) (OR.kr _ h0);rw[OR.FP hd] at this;have h2:=OR.sq x.2;omega
 have h2:R.sgn ((x.1*y.2*(x.1*y.2) -x.2*y.1*(x.2*y.1))*d)=1:=by
  rw[e];refine OR.pp (by rw[OR.ml,OR.JY h1,OR.ng,hy];rfl) ?_;rw[OR.ml,hx,Int.mul_one];exact OR.sq _
 rw[OR.ml,hd,Int.mul_one] at h2;exact h2
theorem JG(hd:R.sgn d=1){x y:R.T×R.T}(hx:R.sgn (OR.nr d x)= -1)(hy:R.sgn (OR.nr d y)= -1):R.es d (pM d x y)=R.es d x*R.es d y:=by
 have hn:R.sgn (OR.nr d (pM d x y))=1:=by rw[show OR.nr d (pM d x y)=_ from OR.By x y,OR.ml,hx,hy];rfl
 rw[OR.kV hd hx,OR.kV hd hy,OR.jy hd hn,← OR.ml];show R.sgn (x.1*y.1+x.2*y.2*d)=_;have e0:R.sgn (x.2*y.2*d)=R.sgn (x.2*y.2):=by rw[OR.ml _ d,hd,Int.mul_one]
 rw[Rg.add_comm,← e0];refine OR.more ?_;unfold OR.nr at hx hy
 have e:x.2*y.2*d*(x.2*y.2*d) -x.1*y.1*(x.1*y.1)=x.2*x.2*d* -(y.1*y.1-y.2*y.2*d)+y.1*y.1* -(x.1*x.1-x.2*x.2*d) :=
  Rg.fW [x.1,x.2,y.1,y.2,d] (X1*X3*X4*(X1*X3*X4) -X0*X2*(X0*X2)) (X1*X1*X4* -(X2*X2-X3*X3*X4)+X2*X2* -(X0*X0-X1*X1*X4)) rfl
 have h1:R.sgn x.2≠0:=fun h0=>by
  have:=OR.xd (x.1*x.1) (x.2*x.2*d) (by rw[OR.FP hd];exact OR.kr _ h0);have h2:=OR.sq x.1;omega
 rw[e];refine OR.pp (by rw[OR.ml,OR.FP hd,OR.JY h1,OR.ng,hy];rfl) ?_;rw[OR.ml,OR.ng,hx];have:=OR.sq y.1;omega
theorem Fi(hd:R.sgn d=1)(hns: ∀p q:R.T,R.sgn p=1→R.sgn q=1→R.sgn (p*p-q*q*d)≠0){c:R.T}{x:R.T×R.T}(hc:R.sgn c=1)(hx:R.es d x=1):R.es d (c+x.1,x.2)=1:=by
 have e:OR.nr d (c+x.1,x.2)=c*(c+(x.1+x.1))+OR.nr d x :=
  Rg.fW [x.1,x.2,c,d] ((X2+X0)*(X2+X0) -X1*X1*X3) (X2*(X2+(X0+X0))+(X0*X0-X1*X1*X3)) rfl
 rcases R.s3 (OR.nr d x) with h | h | h
 · rw[OR.jy hd h] at hx;have h1:R.sgn (c+x.1)=1:=R.sp _ _ hc hx
   have h2:R.sgn (OR.nr d (c+x.1,x.2))=1:=by
    rw[e];refine OR.pp ?_ (by rw[h];decide);rw[OR.ml,hc,OR.pp hc (by rw[OR.pp hx (by rw[hx];decide)];decide)];rfl
   rw[OR.jy hd h2];exact h1
 · have:=OR.Kg hd hns h;rw[OR.mz hd this.1 this.2] at hx;omega
 · rw[OR.kV hd h] at hx;rcases R.s3 (OR.nr d (c+x.1,x.2)) with g | g | g
   · rw[OR.jy hd g];show R.sgn (c+x.1)=1
     have h1:R.sgn (c*(c+(x.1+x.1)))=1:=by
      have e2:c*(c+(x.1+x.1))=OR.nr d (c+x.1,x.2)+ -OR.nr d x:=by
       rw[e];exact Rg.fW [c*(c+(x.1+x.1)),OR.nr d x] X0 (X0+X1+ -X1) rfl
      rw[e2];exact OR.pp g (by rw[OR.ng,h];decide)
     rw[OR.ml,hc,Int.one_mul] at h1
     have h2:R.sgn (c+x.1+(c+x.1))=1:=by
      rw[show c+x.1+(c+x.1)=c+(c+(x.1+x.1)) from Rg.fW [c,x.1] (X0+X1+(X0+X1)) (X0+(X0+(X1+X1))) rfl];exact OR.pp hc (by rw[h1];decide)
     rcases R.s3 (c+x.1) with k | k | k
     · exact k
     · rw[OR.null _ _ k,k] at h2;omega
     · rw[OR.nn k (by rw[k];decide)] at h2;omega
   · have:=(OR.Kg hd hns g).2;have:R.sgn x.2=0:=this;omega
   · rw[OR.kV hd g];exact hx
theorem Iz(hd:R.sgn d=1)(hns: ∀p q:R.T,R.sgn p=1→R.sgn q=1→R.sgn (p*p-q*q*d)≠0):FY R d:=by
 have hN: ∀x:R.T×R.T,R.sgn (OR.nr d x)=1∨R.sgn (OR.nr d x)= -1∨(R.sgn x.1=0∧R.sgn x.2=0):=fun x=>by
  rcases R.s3 (OR.nr d x) with h | h | h
  · exact .inl h
  · exact .inr (.inr (OR.Kg hd hns h))
  · exact .inr (.inl h)
 have s3: ∀x,R.es d x=1∨R.es d x=0∨R.es d x= -1:=fun x=>by
  rcases hN x with h | h | ⟨h1,h2⟩
  · rw[OR.jy hd h];exact R.s3 _
  · rw[OR.kV hd h];exact R.s3 _
  · rw[OR.mz hd h1 h2];exact .inr (.inl rfl)
 have sn: ∀x,R.es d (pN x)= -R.es d x:=fun x=>JF hd x (hN x)
 have nil: ∀{x y:R.T×R.T},R.sgn x.1=0→R.sgn x.2=0→R.es d (pM d x y)=0:=fun {x y} h1 h2 =>
  OR.mz hd (by
    show R.sgn (x.1*y.1+x.2*y.2*d)=0;rw[OR.null _ _ (OR.kr _ h1)];exact OR.kr _ (OR.kr _ h2)) (by
    show R.sgn (x.1*y.2+x.2*y.1)=0
    rw[OR.null _ _ (OR.kr _ h1)];exact OR.kr _ h2)
 have sm: ∀x y,R.es d (pM d x y)=R.es d x*R.es d y:=fun x y=>by
  rcases hN x with h | h | ⟨h1,h2⟩
  · rcases hN y with g | g | ⟨g1,g2⟩
    · exact JH hd h g
    · exact HL hd h g
    · rw[yh,nil g1 g2,OR.mz hd g1 g2,Int.mul_zero]
  · rcases hN y with g | g | ⟨g1,g2⟩
    · rw[yh,HL hd g h,Int.mul_comm]
    · exact JG hd h g
    · rw[yh,nil g1 g2,OR.mz hd g1 g2,Int.mul_zero]
  · rw[nil h1 h2,OR.mz hd h1 h2,Int.zero_mul]
 have nz: ∀x,R.es d x=0→R.sgn x.1=0∧R.sgn x.2=0:=fun x hx=>by
  rcases hN x with h | h | h
  · rw[OR.jy hd h] at hx;exfalso;have:=OR.C3 (x.1*x.1) (x.2*x.2*d) (OR.kr _ hx);rw[OR.FP hd] at this;have h2:=OR.sq x.2;unfold OR.nr at h;omega
  · rw[OR.kV hd h] at hx;exfalso;have:=OR.xd (x.1*x.1) (x.2*x.2*d) (by rw[OR.FP hd];exact OR.kr _ hx);have h2:=OR.sq x.1;unfold OR.nr at h;omega
  · exact h
 have s0: ∀x y,R.es d x=0→R.es d (pA x y)=R.es d y:=fun x y hx=>by
  obtain ⟨h1,h2⟩:=nz x hx;have e1:R.sgn (pA x y).1=R.sgn y.1:=OR.null _ _ h1;have e2:R.sgn (pA x y).2=R.sgn y.2:=OR.null _ _ h2
  have e3:R.sgn (OR.nr d (pA x y))=R.sgn (OR.nr d y):=by
   have e:OR.nr d (pA x y)=x.1*(x.1+(y.1+y.1))+(x.2* -((x.2+(y.2+y.2))*d)+OR.nr d y) :=
    Rg.fW [x.1,x.2,y.1,y.2,d] ((X0+X2)*(X0+X2) -(X1+X3)*(X1+X3)*X4) (X0*(X0+(X2+X2))+(X1* -((X1+(X3+X3))*X4)+(X2*X2-X3*X3*X4))) rfl
   rw[e,OR.null _ _ (OR.kr _ h1),OR.null _ _ (OR.kr _ h2)]
  unfold OR.es;unfold OR.nr at e3;rw[e1,e2,e3]
 refine⟨s3,sn,sm,fun x y hx hy=>?_,s0,?_⟩
 · have hc:R.es d (OR.nr d x,0)=R.es d (x.1, -x.2)*R.es d x:=by
    rw[← sm]
    congr 1
    exact Prod.ext (Rg.fW [x.1,x.2,d] (X0*X0-X1*X1*X2) (X0*X0+ -X1*X1*X2) rfl) (Rg.fW [x.1,x.2] 0 (X0*X1+ -X1*X0) rfl)
   have hs:R.es d (OR.nr d x,0)=R.sgn (OR.nr d x):=by
    unfold OR.es;rw[if_neg (by omega),if_pos (.inr OR.zero)]
   have hw:=sm (x.1, -x.2) y;have ht:=sm (x.1, -x.2) (pA x y)
   have e:pM d (x.1, -x.2) (pA x y)=(OR.nr d x+(pM d (x.1, -x.2) y).1,(pM d (x.1, -x.2) y).2):=Prod.ext
    (Rg.fW [x.1,x.2,y.1,y.2,d] (X0*(X0+X2)+ -X1*(X1+X3)*X4) (X0*X0-X1*X1*X4+(X0*X2+ -X1*X3*X4)) rfl)
    (Rg.fW [x.1,x.2,y.1,y.2,d] (X0*(X1+X3)+ -X1*(X0+X2)) (X0*X3+ -X1*X2) rfl)
   rw[hx,Int.mul_one] at hc;rw[hy,Int.mul_one] at hw;rw[hs] at hc;rcases hN x with h | h | ⟨h1,h2⟩
   · rw[h] at hc;rw[← hc] at hw ht;have h3:=Fi hd hns h hw;rw[e,h3] at ht;omega
   · rw[h] at hc;rw[← hc] at hw ht;have hw2:=sn (pM d (x.1, -x.2) y);rw[hw] at hw2;have h3:=Fi hd hns (c:= -OR.nr d x) (by rw[OR.ng,h];rfl) hw2;have h4:=sn (pM d (x.1, -x.2) (pA x y));rw[e] at h4;rw[show pN (OR.nr d x+(pM d (x.1, -x.2) y).1,(pM d (x.1, -x.2) y).2)=(-OR.nr d x+(pN (pM d (x.1, -x.2) y)).1,(pN (pM d (x.1, -x.2) y)).2) from Prod.ext (Rg.neg_add _ _) rfl,h3] at h4;rw[e] at ht;omega
   · rw[OR.mz hd h1 h2] at hx;omega
 · unfold OR.es;rw[if_neg (by omega),if_pos (.inr OR.zero)];exact OR.one
theorem vU(hd:0≤R.sgn d):FY R d:=by
 rcases R.s3 d with h | h | h
 · by_cases hns: ∃p q:R.T,R.sgn p=1∧R.sgn q=1∧R.sgn (p*p-q*q*d)=0
   · obtain ⟨p,q,hp,hq,e⟩:=hns;exact Iy h hp hq e
   · exact Iz h (fun p q hp hq e=>hns ⟨p,q,hp,hq,e⟩)
 · exact Ix h
 · omega
end
def OR.ext(R:OR)(d:R.T)(hd:0≤R.sgn d):OR where
 toRg:=R.toRg.ext d
 sgn:=R.es d
 s3:=(vU hd).s3
 sn:=(vU hd).sn
 sm:=(vU hd).sm
 sp:=(vU hd).sp
 s0:=(vU hd).s0
 s1:=(vU hd).s1
end Lift
namespace Lift
structure Fd extends Rg where
 inv:T→T
 mi: ∀x,x≠z→mul x (inv x)=o
 ne:o≠z
def OR.Inv(R:OR):Prop:= ∀x:R.T,R.sgn x≠0→ ∃y:R.T,R.sgn (x*y-1)=0
section
variable {R:OR} {d:R.T}
theorem OR.C5(x:R.T):R.sgn (x-x)=0:=by rw[Rg.sub_self];exact OR.zero
theorem OR.C4{x y:R.T}(h:R.sgn (x-y)=0):R.sgn (y-x)=0:=by
 have e:y-x= -(x-y):=Rg.fW [x,y] (X1-X0) (-(X0-X1)) rfl;rw[e,OR.ng,h];rfl
theorem OR.A8{x y w:R.T}(h1:R.sgn (x-y)=0)(h2:R.sgn (y-w)=0):R.sgn (x-w)=0:=by
 have e:x-w=(x-y)+(y-w):=Rg.fW [x,y,w] (X0-X2) (X0-X1+(X1-X2)) rfl;rw[e,OR.null _ _ h1];exact h2
theorem OR.Ks{x y x' y':R.T}(h1:R.sgn (x-x')=0)(h2:R.sgn (y-y')=0):R.sgn (x+y-(x'+y'))=0:=by
 have e:x+y-(x'+y')=(x-x')+(y-y'):=Rg.fW [x,y,x',y'] (X0+X1-(X2+X3)) (X0-X2+(X1-X3)) rfl;rw[e,OR.null _ _ h1];exact h2
theorem OR.Jv{x y x' y':R.T}(h1:R.sgn (x-x')=0)(h2:R.sgn (y-y')=0):R.sgn (x*y-x'*y')=0:=by
 have e:x*y-x'*y'=(x-x')*y+x'*(y-y'):=Rg.fW [x,y,x',y'] (X0*X1-X2*X3) ((X0-X2)*X1+X2*(X1-X3)) rfl;rw[e,OR.null _ _ (OR.kr _ h1)];exact OR.Ae _ h2
theorem OR.Kh{x x':R.T}(h1:R.sgn (x-x')=0):R.sgn (-x- -x')=0:=by
 have e: -x- -x'= -(x-x'):=Rg.fW [x,x'] (-X0- -X1) (-(X0-X1)) rfl;rw[e,OR.ng,h1];rfl
theorem OR.sub_zero(x:R.T):x-0=x:=Rg.fW [x] (X0-0) X0 rfl
theorem OR.Fx(hd:0≤R.sgn d){a b:R.T}(hx:R.es d (a,b)≠0)(hn:R.sgn (OR.nr d (a,b))=0):R.es d (-a,b)=0∧R.sgn (a+a)≠0:=by
 have hnn:R.sgn (-a* -a-b*b*d)=0:=by
  rw[show -a* -a-b*b*d=OR.nr d (a,b) from Rg.fW [a,b,d] (-X0* -X0-X1*X1*X2) (X0*X0-X1*X1*X2) rfl];exact hn
 have dbl:R.sgn a≠0→R.sgn (a+a)≠0:=fun h e=>by
  rcases R.s3 a with g | g | g
  · rw[OR.pp g (by omega)] at e;omega
  · exact h g
  · rw[OR.nn g (by omega)] at e;omega
 unfold OR.es at hx ⊢;simp only[] at hx ⊢;by_cases c0:R.sgn d=0
 · exfalso;rw[if_pos c0] at hx;unfold OR.nr at hn;simp only[] at hn;rw[OR.xd _ _ (OR.Ae _ c0)] at hn;exact hx (OR.J7 hn)
 rw[if_neg c0] at hx ⊢;by_cases c1:R.sgn a=R.sgn b∨R.sgn b=0
 · rw[if_pos c1] at hx
   have c2:R.sgn a=R.sgn b:=by
    rcases c1 with c1 | c1
    · exact c1
    · exfalso;unfold OR.nr at hn;simp only[] at hn;rw[OR.xd _ _ (OR.kr _ (OR.kr _ c1))] at hn;exact hx (OR.J7 hn)
   refine⟨?_,dbl hx⟩;rw[OR.ng,if_neg (by rcases R.s3 a with g | g | g<;>omega),if_neg (by omega),hnn,Int.mul_zero]
 · exfalso;rw[if_neg c1] at hx;by_cases c2:R.sgn a=0
   · rw[if_pos c2] at hx;unfold OR.nr at hn;simp only[] at hn;rw[OR.C3 _ _ (OR.kr _ c2),OR.ml,OR.ml] at hn;have:=R.s3 d;rcases R.s3 b with g | g | g
     · rw[g] at hn;omega
     · exact hx g
     · rw[g] at hn;omega
   · rw[if_neg c2,show R.sgn (a*a-b*b*d)=0 from hn,Int.mul_zero] at hx;exact hx rfl
theorem OR.He(hR:R.Inv)(hd:0≤R.sgn d):(R.ext d hd).Inv:=fun x hx=>by
 obtain ⟨a,b⟩:=x;have hx:R.es d (a,b)≠0:=hx;have S:=vU hd
 have lift: ∀w:R.T,R.sgn w=0→R.es d (w,0)=0:=fun w hw=>by
  unfold OR.es;split
  · exact hw
  · rw[if_pos (.inr OR.zero)];exact hw
 by_cases hn:R.sgn (OR.nr d (a,b))=0
 ·
  have h2:=OR.Fx hd hx hn;obtain ⟨r,hr⟩:=hR (a+a) h2.2;refine⟨(r,0),?_⟩;show R.es d (pA (pM d (a,b) (r,0)) (pN (1,0)))=0
  have e:pA (pM d (a,b) (r,0)) (pN (1,0))=pA (pM d (-a,b) (r,0)) ((a+a)*r-1,0):=Prod.ext
   (Rg.fW [a,b,r,d] (X0*X2+X1*0*X3+ -1) (-X0*X2+X1*0*X3+((X0+X0)*X2-1)) rfl)
   (Rg.fW [a,b,r] (X0*0+X1*X2+ -0) (-X0*0+X1*X2+0) rfl)
  rw[e,S.s0 _ _ (by rw[S.sm,h2.1,Int.zero_mul])];exact lift _ hr
 · obtain ⟨r,hr⟩:=hR _ hn;refine⟨(a*r, -b*r),?_⟩;show R.es d (pA (pM d (a,b) (a*r, -b*r)) (pN (1,0)))=0
   have e:pA (pM d (a,b) (a*r, -b*r)) (pN (1,0))=(OR.nr d (a,b)*r-1,0):=Prod.ext
    (Rg.fW [a,b,r,d] (X0*(X0*X2)+X1*(-X1*X2)*X3+ -1) ((X0*X0-X1*X1*X3)*X2-1) rfl)
    (Rg.fW [a,b,r] (X0*(-X1*X2)+X1*(X0*X2)+ -0) 0 rfl)
   rw[e];exact lift _ hr
end
def OR.eqv(R:OR):Setoid R.T:=⟨fun x y=>R.sgn (x-y)=0,⟨fun x=>OR.C5 x,OR.C4,OR.A8⟩⟩
theorem OR.pick{R:OR}(hR:R.Inv)(x:R.T): ∃y:R.T,R.sgn x≠0→R.sgn (x*y-1)=0:=by
 by_cases h:R.sgn x=0
 · exact⟨x,fun g=>absurd h g⟩
 · obtain ⟨y,hy⟩:=hR x h;exact⟨y,fun _=>hy⟩
noncomputable def OR.fd (R:OR) (hR:R.Inv):Fd where
 T:=Quotient R.eqv
 add x y:=Quotient.liftOn₂ x y (fun a b=>Quotient.mk R.eqv (a+b)) (fun _ _ _ _ h1 h2=>Quotient.sound (OR.Ks h1 h2))
 mul x y:=Quotient.liftOn₂ x y (fun a b=>Quotient.mk R.eqv (a*b)) (fun _ _ _ _ h1 h2=>Quotient.sound (OR.Jv h1 h2))
 neg x:=Quotient.liftOn x (fun a=>Quotient.mk R.eqv (-a)) (fun _ _ h1=>Quotient.sound (OR.Kh h1))
 z:=Quotient.mk R.eqv 0
 o:=Quotient.mk R.eqv 1
 ac x y:=Quotient.inductionOn₂ x y fun a b=>congrArg (Quotient.mk R.eqv) (Rg.add_comm a b)
 aa x y w:=Quotient.inductionOn₃ x y w fun a b c=>congrArg (Quotient.mk R.eqv) (Rg.add_assoc a b c)
 az x:=Quotient.inductionOn x fun a=>congrArg (Quotient.mk R.eqv) (Rg.add_zero a)
 an x:=Quotient.inductionOn x fun a=>congrArg (Quotient.mk R.eqv) (Rg.add_neg a)
 mc x y:=Quotient.inductionOn₂ x y fun a b=>congrArg (Quotient.mk R.eqv) (Rg.mul_comm a b)
 ma x y w:=Quotient.inductionOn₃ x y w fun a b c=>congrArg (Quotient.mk R.eqv) (Rg.mul_assoc a b c)
 mo x:=Quotient.inductionOn x fun a=>congrArg (Quotient.mk R.eqv) (Rg.mul_one a)
 md x y w:=Quotient.inductionOn₃ x y w fun a b c=>congrArg (Quotient.mk R.eqv) (Rg.mul_add a b c)
 inv x:=Quotient.mk R.eqv (Classical.choose (OR.pick hR (Classical.choose (Quotient.exists_rep x))))
 mi x hx:=by
  obtain ⟨a,ha⟩: ∃a,a=Classical.choose (Quotient.exists_rep x):=⟨_,rfl⟩;have h1:Quotient.mk R.eqv a=x:=by rw[ha];exact Classical.choose_spec (Quotient.exists_rep x)
  rw[← ha];have h2:=Classical.choose_spec (OR.pick hR a)
  have h3:R.sgn a≠0:=fun h0=>hx (by
   rw[← h1]
   exact Quotient.sound (show R.sgn (a-0)=0 by rw[OR.sub_zero];exact h0))
  have h4:=h2 h3;generalize Classical.choose (OR.pick hR a)=b at h4;rw[← h1];exact Quotient.sound (show R.sgn (a*b-1)=0 from h4)
 ne h:=by
  have h1:R.sgn ((1:R.T) -0)=0:=Quotient.exact h;rw[OR.sub_zero,OR.one] at h1;exact absurd h1 (by decide)
def OR.cl{R:OR}(hR:R.Inv)(x:R.T):(R.fd hR).T:=Quotient.mk R.eqv x
section
variable {R:OR} {hR:R.Inv}
theorem OR.FG{x y:R.T}:OR.cl hR x=OR.cl hR y↔R.sgn (x-y)=0:=⟨fun h=>Quotient.exact h,fun h=>Quotient.sound h⟩
theorem OR.FF(x y:R.T):OR.cl hR (x*y)=OR.cl hR x*OR.cl hR y:=rfl
theorem OR.Hi:OR.cl hR (0:R.T)=0:=rfl
theorem OR.IE:OR.cl hR (1:R.T)=1:=rfl
theorem OR.Ko{x:R.T}:OR.cl hR x=0↔R.sgn x=0:=by
 rw[← OR.Hi,OR.FG,OR.sub_zero]
end
section
variable {K:Fd}
theorem Fd.oe{x:K.T}(h:x≠0):x*K.inv x=1:=K.mi x h
theorem Fd.Bt:(1:K.T)≠0:=K.ne
theorem Fd.inv_eq{x y:K.T}(h:x*y=1):y=K.inv x:=by
 have hx:x≠0:=fun e=>Fd.Bt (by rw[← h,e,Rg.zero_mul]);have h1:=Fd.oe hx;have:K.inv x*(x*y)=K.inv x*1:=by rw[h]
 rw[← Rg.mul_assoc,Rg.mul_comm (K.inv x),h1,Rg.one_mul,Rg.mul_one] at this;exact this
theorem Fd.Jw{x y:K.T}(h:x*y=0):x=0∨y=0:=by
 by_cases hx:x=0
 · exact .inl hx
 · refine .inr ?_;have:K.inv x*(x*y)=K.inv x*0:=by rw[h]
   rw[← Rg.mul_assoc,Rg.mul_comm (K.inv x),Fd.oe hx,Rg.one_mul,Rg.mul_zero] at this;exact this
theorem Fd.It{x:K.T}(h:x≠0):K.inv x≠0:=fun e=>Fd.Bt (by rw[← Fd.oe h,e,Rg.mul_zero])
end
end Lift
namespace Lift
section
variable {K:Fd}
def sm{K:Fd}(n:Nat)(f:Nat→K.T):K.T:=match n with
 | 0=>0
 | n+1=>sm n f+f n
theorem bN{n:Nat}{f g:Nat→K.T}(h: ∀k,k<n→f k=g k):sm n f=sm n g:=by
 induction n with
 | zero=>rfl
 | succ n ih =>
   show sm n f+f n=sm n g+g n;rw[ih (fun k hk=>h k (by omega)),h n (by omega)]
theorem gh{n:Nat}{f:Nat→K.T}(h: ∀k,k<n→f k=0):sm n f=0:=by
 induction n with
 | zero=>rfl
 | succ n ih =>
   show sm n f+f n=0;rw[ih (fun k hk=>h k (by omega)),h n (by omega),Rg.add_zero]
theorem Bb(n:Nat)(f g:Nat→K.T):sm n (fun k=>f k+g k)=sm n f+sm n g:=by
 induction n with
 | zero=>exact(Rg.add_zero _).symm
 | succ n ih =>
   show sm n _+(f n+g n)=sm n f+f n+(sm n g+g n);rw[ih];exact Rg.fW [sm n f,sm n g,f n,g n] (X0+X1+(X2+X3)) (X0+X2+(X1+X3)) rfl
theorem l6(n:Nat)(c:K.T)(f:Nat→K.T):sm n (fun k=>c*f k)=c*sm n f:=by
 induction n with
 | zero=>exact(Rg.mul_zero _).symm
 | succ n ih =>
   show sm n _+c*f n=c*(sm n f+f n);rw[ih,Rg.mul_add]
theorem nY(n:Nat)(c:K.T)(f:Nat→K.T):sm n (fun k=>f k*c)=sm n f*c:=by
 rw[Rg.mul_comm,← l6];exact bN fun k _=>Rg.mul_comm _ _
theorem H6(n:Nat)(f:Nat→K.T):sm n (fun k=> -f k)= -sm n f:=by
 induction n with
 | zero=>exact Rg.neg_zero.symm
 | succ n ih =>
   show sm n _+ -f n= -(sm n f+f n);rw[ih,Rg.neg_add]
theorem Ba(n:Nat)(f g:Nat→K.T):sm n (fun k=>f k-g k)=sm n f-sm n g:=by
 rw[show (fun k=>f k-g k)=fun k=>f k+ -g k from rfl,Bb,H6];rfl
theorem m8{n j:Nat}{f:Nat→K.T}(hj:j<n)(h: ∀k,k<n→k≠j→f k=0):sm n f=f j:=by
 induction n with
 | zero=>omega
 | succ n ih =>
   show sm n f+f n=f j;by_cases e:j=n
   · subst e;rw[gh (fun k hk=>h k (by omega) (by omega)),Rg.zero_add]
   · rw[ih (by omega) (fun k hk hk2=>h k (by omega) hk2),h n (by omega) (fun g=>e g.symm),Rg.add_zero]
theorem nZ(m n:Nat)(f:Nat→Nat→K.T):sm m (fun i=>sm n (fun k=>f i k))=sm n (fun k=>sm m (fun i=>f i k)):=by
 induction m with
 | zero=>exact(gh (fun k _=>rfl)).symm
 | succ m ih =>
   show sm m _+sm n (fun k=>f m k)=sm n (fun k=>sm m (fun i=>f i k)+f m k);rw[ih,Bb]
def sk(j k:Nat):Nat:=if k<j then k else k+1
theorem Jh(j k:Nat):sk j k≠j:=by unfold sk;split<;>omega
theorem Ji{j k n:Nat}(h:k<n):sk j k<n+1:=by unfold sk;split<;>omega
theorem Gn{n j:Nat}(f:Nat→K.T)(hj:j<n+1):sm (n+1) f=sm n (fun k=>f (sk j k))+f j:=by
 induction n with
 | zero =>
   obtain rfl:j=0:=by omega
   rfl
 | succ n ih =>
   show sm (n+1) f+f (n+1)=sm n (fun k=>f (sk j k))+f (sk j n)+f j;by_cases e:j=n+1
   · subst e;have:sk (n+1) n=n:=by unfold sk;rw[if_pos (by omega)]
     rw[this];show sm n f+f n+f (n+1)=_
     rw[show sm n (fun k=>f (sk (n+1) k))=sm n f from bN fun k hk=>by
      show f (sk (n+1) k)=f k
      unfold sk;rw[if_pos (by omega)]]
   · have:sk j n=n+1:=by unfold sk;rw[if_neg (by omega)]
     rw[ih (by omega),this];exact Rg.fW [sm n (fun k=>f (sk j k)),f j,f (n+1)] (X0+X1+X2) (X0+X2+X1) rfl
theorem rB: ∀(s r:Nat) (R:Nat→Nat→K.T),s<r→ ∃x:Nat→K.T,(∃k,k<r∧x k≠0)∧ ∀p,p<s→sm r (fun k=>R p k*x k)=0
 | 0,r,R,h=>⟨fun _=>1,⟨0,h,Fd.Bt⟩,fun p hp=>by omega⟩
 | s+1,r,R,h=>by
   by_cases hz: ∀k,k<r→R s k=0
   · obtain ⟨x,h1,h2⟩:=rB s r R (by omega);refine⟨x,h1,fun p hp=>?_⟩;by_cases e:p=s
     · subst e;exact gh fun k hk=>by rw[hz k hk,Rg.zero_mul]
     · exact h2 p (by omega)
   · obtain ⟨j,hj⟩:=Classical.not_forall.1 hz;obtain ⟨hj,hne⟩:=Classical.not_imp.1 hj;obtain ⟨n,rfl⟩: ∃n,r=n+1:=⟨r-1,by omega⟩;obtain ⟨y,⟨k0,hk0,hy0⟩,hy⟩:=rB s n (fun p k=>R p (sk j k) -R p j*K.inv (R s j)*R s (sk j k)) (by omega)
     have back: ∀k,k≠j→sk j (if k<j then k else k-1)=k:=fun k hk=>by
      unfold sk;by_cases c:k<j
      · rw[if_pos c,if_pos c]
      · rw[if_neg c,if_neg (by omega)];omega
     let x:Nat→K.T:=fun k=>if k=j then -(K.inv (R s j)*sm n (fun k=>R s (sk j k)*y k)) else y (if k<j then k else k-1)
     have xj:x j= -(K.inv (R s j)*sm n (fun k=>R s (sk j k)*y k)):=if_pos rfl
     have xs: ∀k,x (sk j k)=y k:=fun k=>by
      show (if sk j k=j then _ else _)=_;rw[if_neg (Jh j k)];unfold sk;by_cases c:k<j
      · rw[if_pos c,if_pos c]
      · rw[if_neg c,if_neg (by omega)];rfl
     refine⟨x,⟨sk j k0,Ji hk0,by rw[xs];exact hy0⟩,fun p hp=>?_⟩;rw[Gn _ hj,xj,show sm n (fun k=>R p (sk j k)*x (sk j k))=sm n (fun k=>R p (sk j k)*y k) from bN fun k _=>by rw[xs]];by_cases e:p=s
     · subst e;generalize sm n (fun k=>R p (sk j k)*y k)=S;have h1:=Fd.oe hne;rw[show S+R p j* -(K.inv (R p j)*S)=S-R p j*K.inv (R p j)*S from Rg.fW [S,R p j,K.inv (R p j)] (X0+X1* -(X2*X0)) (X0-X1*X2*X0) rfl,h1,Rg.one_mul];exact Rg.sub_self S
     · have h1:=hy p (by omega)
       rw[show (fun k=>(R p (sk j k) -R p j*K.inv (R s j)*R s (sk j k))*y k)=fun k=>R p (sk j k)*y k-R p j*K.inv (R s j)*(R s (sk j k)*y k) from funext fun k =>
        Rg.fW [R p (sk j k),R p j,K.inv (R s j),R s (sk j k),y k] ((X0-X1*X2*X3)*X4) (X0*X4-X1*X2*(X3*X4)) rfl,Ba,l6] at h1
       rw[← h1];exact Rg.fW [sm n (fun k=>R p (sk j k)*y k),R p j,K.inv (R s j),sm n (fun k=>R s (sk j k)*y k)] (X0+X1* -(X2*X3)) (X0-X1*X2*X3) rfl
abbrev Mk(K:Fd):=Nat→Nat→K.T
def AM(m n s:Nat)(A:Mk K):Prop:= ∃(L R:Mk K),∀i k,i<m→k<n→A i k=sm s (fun p=>L i p*R p k)
theorem AM.Jc{m n s:Nat}{A:Mk K}(h:AM m n s A):AM n m s (fun i k=>A k i):=by
 obtain ⟨L,R,h⟩:=h
 exact⟨fun i p=>R p i,fun p k=>L k p,fun i k hi hk=>by
  show A k i=_
  rw[h k i hk hi];exact bN fun p _=>Rg.mul_comm _ _⟩
theorem AM.congr{m n s:Nat}{A B:Mk K}(h:AM m n s A)(he: ∀i k,i<m→k<n→A i k=B i k):AM m n s B:=by
 obtain ⟨L,R,h⟩:=h;exact⟨L,R,fun i k hi hk=>by rw[← he i k hi hk];exact h i k hi hk⟩
theorem Gp{s t:Nat}(h:s≤t)(f:Nat→K.T):sm t (fun p=>if p<s then f p else 0)=sm s f:=by
 induction t with
 | zero =>
   obtain rfl:s=0:=by omega
   rfl
 | succ t ih =>
   show sm t _+(if t<s then f t else 0)=sm s f;by_cases e:s=t+1
   · subst e;rw[if_pos (by omega)];show _=sm t f+f t;rw[show sm t (fun p=>if p<t+1 then f p else 0)=sm t f from bN fun p hp=>if_pos (by omega)]
   · rw[if_neg (by omega),Rg.add_zero,ih (by omega)]
theorem AM.more{m n s t:Nat}{A:Mk K}(h:AM m n s A)(hs:s≤t):AM m n t A:=by
 obtain ⟨L,R,h⟩:=h;refine⟨L,fun p k=>if p<s then R p k else 0,fun i k hi hk=>?_⟩;rw[h i k hi hk,← Gp hs]
 exact bN fun p _=>by
  show (if p<s then L i p*R p k else 0)=L i p*(if p<s then R p k else 0);split
  · rfl
  · exact(Rg.mul_zero _).symm
theorem AM.ge{m n s r:Nat}{A:Mk K}(h:AM m n s A)(c:Nat→Nat)(hc: ∀p,p<r→c p<n)(hi: ∀x:Nat→K.T,(∀i,i<m→sm r (fun p=>A i (c p)*x p)=0)→ ∀p,p<r→x p=0):r≤s:=by
 by_cases hrs:r≤s
 · exact hrs
 exfalso;obtain ⟨L,R,h⟩:=h;obtain ⟨x,⟨k,hk,hx⟩,h0⟩:=rB s r (fun p k=>R p (c k)) (by omega);refine hx (hi x (fun i him=>?_) k hk)
 rw[show sm r (fun p=>A i (c p)*x p)=sm r (fun p=>sm s (fun q=>L i q*(R q (c p)*x p))) from bN fun p hp=>by
  rw[h i (c p) him (hc p hp),← nY]
  exact bN fun q _=>Rg.mul_assoc _ _ _,nZ]
 exact gh fun q hq=>by rw[l6,h0 q hq,Rg.mul_zero]
end
end Lift
namespace Lift
section
variable {K:Fd}
structure RI (m N c:Nat) (A M:Mk K) (cols:List Nat):Prop where
 cN:c≤N
 eqv: ∀x:Nat→K.T,(∀i,i<m→sm N (fun k=>A i k*x k)=0)↔(∀i,i<m→sm N (fun k=>M i k*x k)=0)
 lt: ∀p,p<cols.length→cols.getD p 0<c
 rm:cols.length≤m
 piv: ∀p q,p<cols.length→q<m→M q (cols.getD p 0)=if q=p then 1 else 0
 zr: ∀q k,cols.length≤q→q<m→k<c→M q k=0
 asc: ∀p q,p<q→q<cols.length→cols.getD p 0<cols.getD q 0
 left: ∀p k,p<cols.length→k<cols.getD p 0→M p k=0
def sw(r t i:Nat):Nat:=if i=r then t else if i=t then r else i
theorem Hx(r t i:Nat):sw r t (sw r t i)=i:=by
 unfold sw;by_cases h1:i=r
 · subst h1;rw[if_pos rfl];by_cases h2:t=i
   · rw[if_pos h2,h2]
   · rw[if_neg h2,if_pos rfl]
 · rw[if_neg h1];by_cases h2:i=t
   · subst h2;rw[if_pos rfl,if_pos rfl]
   · rw[if_neg h2,if_neg h1,if_neg h2]
theorem A6(r t:Nat):sw r t r=t:=if_pos rfl
theorem zb{r t i m:Nat}(hr:r<m)(ht:t<m)(hi:i<m):sw r t i<m:=by unfold sw;split;exact ht;split;exact hr;exact hi
theorem DX{r t i:Nat}(ht:r≤t)(hi:r≤i):r≤sw r t i:=by unfold sw;split;exact ht;split;exact ak _;exact hi
theorem A7{r t i:Nat}(ht:r≤t)(hi:i<r):sw r t i=i:=by unfold sw;rw[if_neg (by omega),if_neg (by omega)]
theorem uk(l:List Nat)(c:Nat):(l++[c]).getD l.length 0=c:=by
 rw[aE,List.getElem?_append_right (ak _),Nat.sub_self];rfl
theorem sf{l:List Nat}{p:Nat}(c:Nat)(h:p<l.length):(l++[c]).getD p 0=l.getD p 0:=by
 rw[aE,List.getElem?_append_left h,aE]
theorem RI.start(m N:Nat)(A:Mk K):RI m N 0 A A [] :=
 ⟨Nat.zero_le _,fun x=>Iff.rfl,fun p hp=>absurd hp (Nat.not_lt_zero _),Nat.zero_le _,fun p q hp=>absurd hp (Nat.not_lt_zero _),fun q k _ _ hk=>absurd hk (Nat.not_lt_zero _),fun p q _ hq=>absurd hq (Nat.not_lt_zero _),fun p k hp=>absurd hp (Nat.not_lt_zero _)⟩
theorem RI.Ki{m N c:Nat}{A M:Mk K}{cols:List Nat}(I:RI m N c A M cols)(hc:c<N)(h: ∀q,cols.length≤q→q<m→M q c=0):RI m N (c+1) A M cols :=
 ⟨hc,I.eqv,fun p hp=>Nat.lt_succ_of_lt (I.lt p hp),I.rm,I.piv,fun q k h1 h2 h3=>by
  by_cases e:k=c
  · subst e;exact h q h1 h2
  · exact I.zr q k h1 h2 (by omega),I.asc,I.left⟩
theorem RI.hit{m N c t:Nat}{A M M':Mk K}{cols:List Nat}(I:RI m N c A M cols)(hc:c<N)(h1:cols.length≤t)(h2:t<m)(h3:M t c≠0)
  (h4: ∀i k,i<m→k<N→M' i k=if i=cols.length then M t k*K.inv (M t c) else M (sw cols.length t i) k-M (sw cols.length t i) c*(M t k*K.inv (M t c))):RI m N (c+1) A M' (cols++[c]):=by
 have hrm:cols.length<m:=by omega
 have hp1:=Fd.oe h3;have hinv:=Fd.It h3;have hll:(cols++[c]).length=cols.length+1:=by rw[List.length_append];rfl
 have hBt: ∀k,k<c→M t k=0:=fun k hk=>I.zr t k h1 h2 hk;have hBl: ∀p,p<cols.length→M t (cols.getD p 0)=0:=fun p hp=>hBt _ (I.lt p hp)
 have hcc: ∀q,q<m→M' q c=if q=cols.length then 1 else 0:=fun q hq=>by
  rw[h4 q c hq hc];split
  · exact hp1
  · rw[hp1,Rg.mul_one];exact Rg.sub_self _
 have dot: ∀(x:Nat→K.T) i,i<m→sm N (fun k=>M' i k*x k)=if i=cols.length then sm N (fun k=>M t k*x k)*K.inv (M t c) else sm N (fun k=>M (sw cols.length t i) k*x k) -M (sw cols.length t i) c*K.inv (M t c)*sm N (fun k=>M t k*x k):=fun x i hi=>by
  by_cases e:i=cols.length
  · rw[if_pos e,← nY]
    exact bN fun k hk=>by
     rw[h4 i k hi hk,if_pos e];exact Rg.fW [M t k,K.inv (M t c),x k] (X0*X1*X2) (X0*X2*X1) rfl
  · rw[if_neg e,← l6,← Ba]
    exact bN fun k hk=>by
     rw[h4 i k hi hk,if_neg e];exact Rg.fW [M (sw cols.length t i) k,M (sw cols.length t i) c,M t k,K.inv (M t c),x k] ((X0-X1*(X2*X3))*X4) (X0*X4-X1*X3*(X2*X4)) rfl
 refine⟨hc,fun x=>(I.eqv x).trans ⟨fun h i hi=>?_,fun h=>?_⟩,fun p hp=>?_,by omega,fun p q hp hq=>?_,fun q k k1 k2 k3=>?_,fun p q hpq hq=>?_,fun p k hp hk=>?_⟩
 · rw[dot x i hi,h t h2,h _ (zb hrm h2 hi)];split
   · exact Rg.zero_mul _
   · rw[Rg.mul_zero];exact Rg.sub_self _
 · have ht:sm N (fun k=>M t k*x k)=0:=by
    have:=h cols.length hrm;rw[dot x _ hrm,if_pos rfl] at this;rcases Fd.Jw this with e | e
    · exact e
    · exact absurd e hinv
   intro i hi;have hs:=zb hrm h2 hi;by_cases e:sw cols.length t i=cols.length
   · have:i=t:=by rw[← Hx cols.length t i,e];exact A6 _ _
     rw[this];exact ht
   · have:=h _ hs;rw[dot x _ hs,if_neg e,Hx,ht,Rg.mul_zero] at this;rw[← this];exact Rg.fW [sm N (fun k=>M i k*x k)] X0 (X0-0) rfl
 · rw[hll] at hp;by_cases e:p=cols.length
   · rw[e,uk];omega
   · rw[sf c (by omega)];have:=I.lt p (by omega);omega
 · rw[hll] at hp;by_cases e:p=cols.length
   · rw[e,uk];exact hcc q hq
   · have hp:p<cols.length:=by omega
     have hpc:=I.lt p hp;rw[sf c hp,h4 q _ hq (by omega),hBl p hp];by_cases eq:q=cols.length
     · rw[if_pos eq,Rg.zero_mul,if_neg (by omega)]
     · rw[if_neg eq,I.piv p _ hp (zb hrm h2 hq),Rg.zero_mul,Rg.mul_zero]
       have:(sw cols.length t q=p)↔(q=p):=by
        constructor
        · intro h;by_cases g:q<cols.length
          · rwa [A7 h1 g] at h
          · have:=DX h1 (show cols.length≤q by omega);omega
        · intro h;rw[h];exact A7 h1 hp
       by_cases g:q=p
       · rw[if_pos g,if_pos (this.2 g)];exact Rg.fW [] (1-0) 1 rfl
       · rw[if_neg g,if_neg (fun h=>g (this.1 h))];exact Rg.sub_self _
 · rw[hll] at k1;by_cases e:k=c
   · rw[e,hcc q k2,if_neg (by omega)]
   · rw[h4 q k k2 (by omega),if_neg (by omega),hBt k (by omega),I.zr _ k (DX h1 (by omega)) (zb hrm h2 k2) (by omega),Rg.zero_mul,Rg.mul_zero];exact Rg.sub_self _
 · rw[hll] at hq;by_cases e:q=cols.length
   · rw[e,uk,sf c (by omega)];exact I.lt p (by omega)
   · rw[sf c (by omega),sf c (by omega)];exact I.asc p q hpq (by omega)
 · rw[hll] at hp;by_cases e:p=cols.length
   · rw[e,uk] at hk;rw[e,h4 _ k hrm (by omega),if_pos rfl,hBt k hk,Rg.zero_mul]
   · have hp:p<cols.length:=by omega
     have hpc:=I.lt p hp;rw[sf c hp] at hk;rw[h4 p k (by omega) (by omega),if_neg e,A7 h1 hp,I.left p k hp hk,hBt k (by omega),Rg.zero_mul,Rg.mul_zero];exact Rg.sub_self _
theorem RI.at{m N c:Nat}{A M:Mk K}{cols:List Nat}(I:RI m N c A M cols)(X y:Nat→K.T):sm N (fun j=>X j*sm cols.length (fun p=>if j=cols.getD p 0 then y p else 0))=sm cols.length (fun p=>X (cols.getD p 0)*y p):=by
 have hcN:=I.cN;rw[show sm N (fun j=>X j*sm cols.length (fun p=>if j=cols.getD p 0 then y p else 0))=sm N (fun j=>sm cols.length (fun p=>X j*(if j=cols.getD p 0 then y p else 0))) from bN fun j _=>(l6 _ _ _).symm,nZ];refine bN fun p hp=>?_;have:=I.lt p hp;rw[m8 (j:=cols.getD p 0) (by omega) (fun k _ hk=>by rw[if_neg hk,Rg.mul_zero]),if_pos rfl]
theorem RI.indep{m N c:Nat}{A M:Mk K}{cols:List Nat}(I:RI m N c A M cols)(x:Nat→K.T)(h: ∀i,i<m→sm cols.length (fun p=>A i (cols.getD p 0)*x p)=0): ∀p,p<cols.length→x p=0:=fun q hq=>by
 have h1:=(I.eqv (fun j=>sm cols.length (fun p=>if j=cols.getD p 0 then x p else 0))).1 (fun i hi=>by rw[I.at (A i) x];exact h i hi) q (by have:=I.rm;omega);rw[I.at (M q) x,m8 (j:=q) hq (fun p hp hne=>by rw[I.piv p q hp (by have:=I.rm;omega),if_neg (fun e=>hne e.symm),Rg.zero_mul]),I.piv q q hq (by have:=I.rm;omega),if_pos rfl,Rg.one_mul] at h1;exact h1
theorem RI.by{m N c:Nat}{A M:Mk K}{cols:List Nat}(I:RI m N c A M cols){k:Nat}(hk:k<c){i:Nat}(hi:i<m):A i k=sm cols.length (fun p=>A i (cols.getD p 0)*M p k):=by
 have hcN:=I.cN;have hrm:=I.rm
 have key: ∀X:Nat→K.T,sm N (fun j=>X j*((if j=k then 1 else 0) -sm cols.length (fun p=>if j=cols.getD p 0 then M p k else 0)))=X k-sm cols.length (fun p=>X (cols.getD p 0)*M p k):=fun X=>by
  rw[← I.at X (fun p=>M p k),show (fun j=>X j*((if j=k then 1 else 0) -sm cols.length (fun p=>if j=cols.getD p 0 then M p k else 0)))=fun j=>X j*(if j=k then 1 else 0) -X j*sm cols.length (fun p=>if j=cols.getD p 0 then M p k else 0) from funext fun j =>
   Rg.fW [X j,(if j=k then 1 else 0),sm cols.length (fun p=>if j=cols.getD p 0 then M p k else 0)] (X0*(X1-X2)) (X0*X1-X0*X2) rfl,Ba]
  congr 1
  rw[m8 (j:=k) (by omega) (fun j _ hj=>by rw[if_neg hj,Rg.mul_zero]),if_pos rfl,Rg.mul_one]
 have h:=(I.eqv (fun j=>(if j=k then 1 else 0) -sm cols.length (fun p=>if j=cols.getD p 0 then M p k else 0))).2 (fun q hq=>by
  rw[key (M q)];by_cases e:q<cols.length
  · rw[m8 (j:=q) e (fun p hp hne=>by rw[I.piv p q hp hq,if_neg (fun e=>hne e.symm),Rg.zero_mul]),I.piv q q e hq,if_pos rfl,Rg.one_mul];exact Rg.sub_self _
  · rw[I.zr q k (by omega) hq hk,gh fun p hp=>by rw[I.piv p q hp hq,if_neg (by omega),Rg.zero_mul]]
    exact Rg.sub_self _) i hi
 rw[key (A i)] at h;exact Rg.xF h
theorem RI.I7{m N c s:Nat}{A M:Mk K}{cols:List Nat}(I:RI m N c A M cols):AM m c s A↔cols.length≤s:=by
 constructor
 · intro h;exact h.ge (fun p=>cols.getD p 0) I.lt I.indep
 · intro h;exact AM.more ⟨fun i p=>A i (cols.getD p 0),M,fun i k hi hk=>I.by hk hi⟩ h
end
end Lift
namespace Lift
open Go Go.Proofs
theorem kQ(n:Nat):Pure Tryz.prog 19 [tR n] (dI n):=by
 refine qJ 15 Tryz.func19 rfl rfl rfl rfl (by kernel_rfl) (fun B F0 w0=>?_);cases n with
 | zero =>
   refine qX 1 rfl ?_;refine qI (qX 1 rfl ?_);refine ab.err tok rfl rfl rfl rfl rfl ?_;refine ab.nil ?_;refine AW.aL rfl ?_;refine qX 1 rfl ?_;exact qN rfl
 | succ m =>
   refine qX 1 rfl ?_;refine qI (qX 1 rfl ?_);refine ab.err tok rfl rfl rfl rfl rfl ?_;refine ab.nil ?_;refine AW.aA rfl ?_;refine AW.skip (qX 1 rfl ?_);refine ab.ta tok rfl rfl rfl rfl ?_;refine qU 5 rfl ?_;refine qI (qX 2 rfl ?_);refine ab.nil ?_;refine AW.aA rfl ?_;refine AW.skip (qX 2 rfl ?_);exact qN rfl
end Lift
namespace Lift
open Go Go.Proofs
theorem pP(a b:Rat)(h:b≠0):Rat.divInt (a.num*(b.den:Int)) ((a.den:Int)*b.num)=a / b:=by
 have h1:((a.den:Int):Rat)≠0:=by have:=a.den_nz;exact_mod_cast this
 have h2:((b.den:Int):Rat)≠0:=by have:=b.den_nz;exact_mod_cast this
 have h3:b.num≠0:=fun e=>h (Rat.num_eq_zero.1 e);have h4:(b.num:Rat)≠0:=by exact_mod_cast h3
 have ha:(a.num:Rat) / ((a.den:Int):Rat)=a:=by rw[← Rat.divInt_eq_div];exact Rat.num_divInt_den a
 have hb:(b.num:Rat) / ((b.den:Int):Rat)=b:=by rw[← Rat.divInt_eq_div];exact Rat.num_divInt_den b
 rw[Rat.divInt_eq_div,Rat.intCast_mul,Rat.intCast_mul];generalize (a.num:Rat)=x at *;generalize ((a.den:Int):Rat)=y at *;generalize (b.num:Rat)=z at *;generalize ((b.den:Int):Rat)=u at *;subst ha;subst hb
 grind
theorem Be{z:Int}(h:z≠0):(jS z==0)=false:=by
 unfold jS;rcases Int.lt_trichotomy z 0 with g | g | g
 · simp[g]
 · exact absurd g h
 · have: ¬z<0:=by omega
   simp[this,h]
theorem Bx{q:Rat}(h:q≠0):q.num≠0:=fun e=>h (Rat.num_eq_zero.1 e)
theorem Ft{r s:Rat}{k:Nat}(h1:LQ r≤k)(h2:LQ s≤k)(h0:s≠0):L (r.num*(s.den:Int))≤2*k∧L ((r.den:Int)*s.num)≤2*k∧(r.den:Int)*s.num≠0:=by
 have:=jQ r;have:=kt r;have:=jQ s;have:=kt s;have:=gO r.num s.den;have:=gO r.den s.num;exact⟨by omega,by omega,Int.mul_ne_zero (sE r) (Bx h0)⟩
theorem I3{r s:Rat}(h0:s≠0):LQ (r / s)≤LQ r+LQ s:=by
 have:=jQ r;have:=kt r;have:=jQ s;have:=kt s;have:=gO r.num s.den;have:=gO r.den s.num;have:=oC (r.num*(s.den:Int)) ((r.den:Int)*s.num) (Int.mul_ne_zero (sE r) (Bx h0));rw[pP r s h0] at this;omega
theorem ic(n:Int)(h0: -9223372036854775808≤n)(h1:n≤9223372036854775807):Pure Tryz.prog 88 [dI n] (Qr n).D:=by
 refine qJ 7 Tryz.func88 rfl rfl rfl rfl (by kernel_rfl) (fun B F0 w0=>?_);have hn:=JR n (by omega);rw[← rP];refine qX 1 rfl ?_;refine qK 1 rfl ?_;refine ab.call tok rfl rfl rfl rfl (oV n h0 h1) ?_;refine ab.call tok rfl rfl rfl rfl jx ?_;refine ab.call tok rfl rfl rfl rfl (ew n 1 (by omega) (by rw[wz];omega) (by decide)) ?_;refine qU 1 rfl ?_;exact qN rfl
theorem lN(r:RD){k:Nat}(hr:r.w k)(hk:k≤17300000000000):Pure Tryz.prog 108 [r.D] (dI (jS r.val.num)):=by
 refine qJ 12 Tryz.func108 rfl rfl rfl rfl (by kernel_rfl) (fun B F0 w0=>?_);have hl:=fe (hr.mono (Nat.le_max_left k 1)) (Nat.le_max_right k 1);have:=jQ r.val;refine qX 2 rfl ?_;refine qK 1 rfl ?_;refine ab.call tok rfl rfl rfl rfl (bQ r hr (by omega)) ?_;refine qU 7 rfl ?_;refine qK 1 rfl ?_;refine ab.call tok rfl rfl rfl rfl (c6 r.val.num (by omega)) ?_;refine qU 1 rfl ?_;exact qN rfl
theorem so(n d:Int)(hn:L n≤34800000000000)(hd:L d≤34800000000000)(h0:d≠0):Pure Tryz.prog 185 [eF n,eF d] (.tu [(Qr (Rat.divInt n d)).D,aP]):=by
 refine qJ 14 Tryz.func185 rfl rfl rfl rfl (by kernel_rfl) (fun B F0 w0=>?_);refine qX 4 rfl ?_;refine qI (qX 1 rfl ?_);refine ab.call tok rfl rfl rfl rfl (c6 d (by omega)) ?_;refine qU 1 rfl ?_;rw[Be h0];refine ab.nil ?_;refine AW.aA rfl ?_
 · skip
   refine AW.skip (qX 2 rfl ?_);refine ab.call tok rfl rfl rfl rfl (ew n d hn hd h0) ?_;refine qU 2 rfl ?_;exact qN rfl
theorem tQ(r s:RD){k:Nat}(hr:r.w k)(hs:s.w k)(hk:k≤17300000000000)(h0:s.val≠0):Pure Tryz.prog 160 [r.D,s.D] (.tu [(Qr (r.val / s.val)).D,aP]):=by
 refine qJ 29 Tryz.func160 rfl rfl rfl rfl (by kernel_rfl) (fun B F0 w0=>?_);have hl:=fe (hr.mono (Nat.le_max_left k 1)) (Nat.le_max_right k 1);have hm:=fe (hs.mono (Nat.le_max_left k 1)) (Nat.le_max_right k 1);have:=jQ r.val;have:=kt r.val;have:=jQ s.val;have:=kt s.val;obtain ⟨d1,d2,d3⟩:=Ft hl hm h0;rw[← pP r.val s.val h0];refine qX 4 rfl ?_;refine qK 1 rfl ?_;refine ab.call tok rfl rfl rfl rfl (bQ r hr (by omega)) ?_;refine qU 7 rfl ?_;refine qK 1 rfl ?_;refine ab.call tok rfl rfl rfl rfl (bQ s hs (by omega)) ?_;refine qU 7 rfl ?_;refine qI (AW.draw aQ 9 (by kernel_rfl) ?_);refine qP 2 rfl ?_;refine af.call tok rfl rfl rfl rfl rfl (dm r.val.num s.val.den (by omega) (by omega)) ?_;refine qP 2 rfl ?_;refine af.call tok rfl rfl rfl rfl rfl (dm r.val.den s.val.num (by omega) (by omega)) ?_;refine af.call tok rfl rfl rfl rfl rfl (so (r.val.num*s.val.den) (r.val.den*s.val.num) (by omega) (by omega) d3) ?_;refine qP 2 rfl ?_;refine af.nil ?_;refine qU 2 rfl ?_;exact qN rfl
theorem zP(n d:Int)(hn:L n≤34800000000000)(hd:L d≤34800000000000)(h0:d≠0):Pure Tryz.prog 186 [eF n,eF d] (.tu [(Qr (Rat.divInt n d)).D,dI 0]):=by
 refine qJ 13 Tryz.func186 rfl rfl rfl rfl (by kernel_rfl) (fun B F0 w0=>?_);refine qX 4 rfl ?_;refine qI (qX 1 rfl ?_);refine ab.call tok rfl rfl rfl rfl (gG d (by omega)) ?_;refine qU 1 rfl ?_;rw[Be h0];refine ab.nil ?_;refine AW.aA rfl ?_
 · skip
   refine AW.skip (qX 2 rfl ?_);refine ab.call tok rfl rfl rfl rfl (jg n d hn hd h0) ?_;refine qU 2 rfl ?_;exact qN rfl
end Lift
namespace Lift
open Go Go.Proofs
theorem RD.canon{r:RD}{k:Nat}(hw:r.w k)(h:r.okB=true):r=Qr r.val:=by
 by_cases hn:r.n=[]
 · have hv:=RD.p0 hn;rw[hv,jO];obtain ⟨g,m,d⟩:=r
   dsimp only at hn
   subst hn;unfold RD.okB at h;simp only[true_and] at h;split at h
   · rename_i hd;subst hd;simpa using h
   · simp at h
 · obtain ⟨h1,h2,h3,h4,h5,h6⟩:=RD.parts hw h hn;obtain ⟨g,m,d⟩:=r
   dsimp only at h3 h4 h5 hn
   unfold Qr;rw[if_neg h6,← h4,← h5,← h3]
theorem J9{q:Rat}:jS q.num=0↔q=0:=by
 constructor
 · intro h;by_cases hq:q=0
   · exact hq
   · have:=Be (Bx hq);rw[h] at this;cases this
 · intro h;subst h;rfl
abbrev fa(r:List Rat):List D:=r.map (fun q=>(Qr q).D)
theorem mu{r:List Rat}{i:Nat}(h:i<r.length):(fa r)[i]?=some (Qr (r.getD i 0)).D:=by simp[h]
section
variable {P:Program} {T:Ty} {B:Nat} {F0:Nat→Prop} {w0:c7} {n:Nat} {σ τ:St} {K:St→Prop} {all:Array Oper} {o:Oper} {d:Nat} {rest:List Oper}
theorem ab.A9(hT:bH P T){k e i:Nat}{r:List Rat}(q:Rat)(hd:o.dst=none)(hg:aH all σ o=true)(hx:Co T σ o.op=some (k,.ow e (fa r),fa r,i,0,(Qr q).D))(hi:i<r.length)
  (h:ab P B F0 w0 n all rest K ((k,.ow e (fa (r.set i q)))::σ)):ab P B F0 w0 n all (o::rest) K σ:=by
 refine ab.kA hT (Qr (r.getD i 0)).D hd hg hx (mu hi) rfl ?_;show ab P B F0 w0 n all rest K ((k,.ow e ((fa r).set i (Qr q).D))::σ);rw[show (fa r).set i (Qr q).D=fa (r.set i q) from (List.map_set ..).symm];exact h
end
end Lift
namespace Lift
abbrev V2:=Rat×Rat
def dt(a b:V2):Rat:=a.1*b.1+a.2*b.2
def k7(x:Rat):Int:=if x=0 then 0 else if x<0 then -1 else 1
theorem qb{x:Rat}:0<k7 x↔0<x:=by
 unfold k7;split
 · rename_i h;subst h;constructor<;>intro h<;>grind
 · split<;>constructor<;>intro h<;>grind
theorem xX{x:Rat}:k7 x<0↔x<0:=by
 unfold k7;split
 · rename_i h;subst h;constructor<;>intro h<;>grind
 · split<;>constructor<;>intro h<;>grind
theorem jd{x:Rat}:k7 x=0↔x=0:=by
 unfold k7;split
 · rename_i h;exact⟨fun _=>h,fun _=>rfl⟩
 · rename_i h0;split
   · exact⟨fun h=>absurd h (by decide),fun h=>absurd h h0⟩
   · exact⟨fun h=>absurd h (by decide),fun h=>absurd h h0⟩
theorem gC(x:Rat):k7 x=0∨k7 x=1∨k7 x= -1:=by
 unfold k7;split
 · exact .inl rfl
 · split
   · exact .inr (.inr rfl)
   · exact .inr (.inl rfl)
theorem uO(x:Rat):k7 (-x)= -k7 x:=by
 unfold k7;by_cases h:x=0
 · subst h;rfl
 · rw[if_neg (by grind),if_neg h];by_cases h2:x<0
   · rw[if_pos h2,if_neg (by grind)];rfl
   · rw[if_neg h2,if_pos (by grind)]
end Lift
namespace Lift
abbrev NQ:=List Rat
def ay(k:Nat)(a:NQ):Prop:= ∀c,LQ (a.getD c 0)≤k
def fq(k:Nat)(rt:List NQ):Prop:= ∀i,ay k (rt.getD i [])
def bF(a:NQ):Bool:=a.all (fun q=>decide (q=0))
def bq(a:NQ)(n:Nat):NQ:=a.take n++List.replicate (n-a.length) 0
def aW(a b:NQ):NQ:=(List.range (max a.length b.length)).map fun i=>a.getD i 0+b.getD i 0
def aM(a:NQ):NQ:=a.map (fun q=> -q)
def dL(a b:NQ)(n:Nat):NQ:=bq a n++bq b n
def jv(R:NQ→NQ→NQ)(rt:List NQ)(a b:NQ):NQ :=
 if (bF a||bF b)=true then [] else if a.length=1 then [a.getD 0 0*b.getD 0 0] else
 if b.length≤a.length / 2 then dL (R (a.take (a.length / 2)) b) (R (a.drop (a.length / 2)) b) (a.length / 2) else
 dL (aW (R (a.take (a.length / 2)) (b.take (a.length / 2))) (R (R (a.drop (a.length / 2)) (b.drop (a.length / 2))) (rt.getD (a.length.log2-1) [])))
  (aW (R (a.take (a.length / 2)) (b.drop (a.length / 2))) (R (a.drop (a.length / 2)) (b.take (a.length / 2)))) (a.length / 2)
def kp(R:NQ→NQ→NQ)(a b:NQ):NQ:=if a.length<b.length then R b a else R a b
def bd:Nat→List NQ→NQ→NQ→NQ
 | 0,rt,a,b=>kp (jv (fun _ _=>[]) rt) a b
 | l+1,rt,a,b=>kp (jv (bd l rt) rt) a b
def aC(l:Nat)(a:NQ):Prop:=a.length=0∨ ∃i,i≤l∧a.length=2^i
def da(rt:List NQ):Prop:= ∀j,j<rt.length→(rt.getD j []).length=2^j
def sT:Nat→Nat→Nat
 | 0,k=>2*k
 | l+1,k=>sT l (sT l k)+sT l k+1
theorem tZ: ∀{l k m:Nat},k≤m→sT l k≤sT l m
 | 0,k,m,h=>by show 2*k≤2*m;omega
 | l+1,k,m,h=>by
   have h1:=tZ (l:=l) h;have h2:=tZ (l:=l) h1;show sT l (sT l k)+sT l k+1≤sT l (sT l m)+sT l m+1;omega
theorem bU: ∀(l k:Nat),2*k≤sT l k
 | 0,k=>ak _
 | l+1,k=>by
   have h1:=bU l k;show 2*k≤sT l (sT l k)+sT l k+1;omega
theorem ay.mono{k m:Nat}{a:NQ}(h:ay k a)(hk:k≤m):ay m a:=fun c=>Nat.le_trans (h c) hk
theorem fq.mono{k m:Nat}{a:List NQ}(h:fq k a)(hk:k≤m):fq m a:=fun i=>(h i).mono hk
theorem ay.pos{k:Nat}{a:NQ}(h:ay k a):1≤k:=Nat.le_trans (B7 _) (h 0)
theorem mD{k:Nat}(h:1≤k):LQ 0≤k:=by rw[ru];exact h
theorem gj{a:NQ}{c:Nat}(h:a.length≤c):a.getD c 0=0:=by rw[aE,List.getElem?_eq_none h];rfl
theorem bn{k:Nat}(h:1≤k):ay k []:=fun c=>by rw[gj (Nat.zero_le _)];exact mD h
theorem mw(a:NQ)(n c:Nat):(a.take n).getD c 0=if c<n then a.getD c 0 else 0:=by
 rw[aE,List.getElem?_take];split
 · rw[aE]
 · rfl
theorem um(a:NQ)(n c:Nat):(a.drop n).getD c 0=a.getD (n+c) 0:=by
 rw[aE,List.getElem?_drop,aE]
theorem ay.take{k:Nat}{a:NQ}(h:ay k a)(n:Nat):ay k (a.take n):=fun c=>by
 rw[mw];split
 · exact h c
 · exact mD h.pos
theorem ay.drop{k:Nat}{a:NQ}(h:ay k a)(n:Nat):ay k (a.drop n):=fun c=>by rw[um];exact h _
theorem sh(a b:NQ)(c:Nat):(a++b).getD c 0=if c<a.length then a.getD c 0 else b.getD (c-a.length) 0:=by
 rw[aE,List.getElem?_append];split<;>rw[aE]
theorem bM(a:NQ)(n:Nat):(bq a n).length=n:=by
 unfold bq;rw[List.length_append,aT,List.length_replicate];omega
theorem gz(a:NQ)(n c:Nat):(bq a n).getD c 0=if c<n then a.getD c 0 else 0:=by
 unfold bq;rw[sh,aT,mw];by_cases h:c<min n a.length
 · rw[if_pos h,if_pos (by omega)]
 · rw[if_neg h]
   have e:(List.replicate (n-a.length) (0:Rat)).getD (c-min n a.length) 0=0:=by
    rw[aE,List.getElem?_replicate];split<;>rfl
   rw[e];by_cases h2:c<n
   · rw[if_pos h2,gj (by omega)]
   · rw[if_neg h2]
theorem ay.wide{k:Nat}{a:NQ}(h:ay k a)(n:Nat):ay k (bq a n):=fun c=>by
 rw[gz];split
 · exact h c
 · exact mD h.pos
theorem jV(a b:NQ):(aW a b).length=max a.length b.length:=by unfold aW;rw[ae,List.length_range]
theorem n9(a b:NQ)(c:Nat):(aW a b).getD c 0=a.getD c 0+b.getD c 0:=by
 by_cases h:c<max a.length b.length
 · unfold aW;rw[aE,List.getElem?_map,List.getElem?_range h];rfl
 · rw[gj (by rw[jV];omega),gj (a:=a) (by omega),gj (a:=b) (by omega),Rat.add_zero]
theorem ay.plus{k m:Nat}{a b:NQ}(h:ay k a)(h2:ay m b):ay (k+m+1) (aW a b):=fun c=>by
 rw[n9];have:=yX (a.getD c 0) (b.getD c 0);have:=h c;have:=h2 c;omega
theorem bB(a:NQ):(aM a).length=a.length:=ae ..
theorem pB(a:NQ)(c:Nat):(aM a).getD c 0= -a.getD c 0:=by
 unfold aM;rw[aE,List.getElem?_map,aE];cases a[c]? with
 | none=>rfl
 | some q=>rfl
theorem ay.minus{k:Nat}{a:NQ}(h:ay k a):ay k (aM a):=fun c=>by rw[pB,F5];exact h c
theorem et(a b:NQ)(n:Nat):(dL a b n).length=n+n:=by unfold dL;rw[List.length_append,bM,bM]
theorem oh(a b:NQ)(n c:Nat):(dL a b n).getD c 0=if c<n then a.getD c 0 else if c<n+n then b.getD (c-n) 0 else 0:=by
 unfold dL;rw[sh,bM,gz,gz];by_cases h:c<n
 · rw[if_pos h,if_pos h,if_pos h]
 · rw[if_neg h,if_neg h];by_cases h2:c<n+n
   · rw[if_pos h2,if_pos (by omega)]
   · rw[if_neg h2,if_neg (by omega)]
theorem ay.join{k:Nat}{a b:NQ}(h:ay k a)(h2:ay k b)(n:Nat):ay k (dL a b n):=fun c=>by
 rw[oh];split
 · exact h c
 · split
   · exact h2 _
   · exact mD h.pos
theorem ft{k:Nat}{q:Rat}(h:LQ q≤k):ay k [q]:=fun c=>by
 have:=B7 q;cases c with
 | zero=>exact h
 | succ c=>rw[gj (by simp)];exact mD (by omega)
theorem nU{a:NQ}(h:bF a=false):a≠[]:=by
 intro e;subst e;cases h
theorem aC.mono{l m:Nat}{a:NQ}(h:aC l a)(hl:l≤m):aC m a:=h.imp id (fun ⟨i,h1,h2⟩=>⟨i,by omega,h2⟩)
theorem bm(l:Nat):aC l []:= .inl rfl
theorem fh(l:Nat)(q:Rat):aC l [q]:= .inr ⟨0,Nat.zero_le _,rfl⟩
theorem aC.le{l:Nat}{a:NQ}(h:aC l a):a.length≤2^l:=by
 rcases h with h | ⟨i,h1,h2⟩
 · rw[h];exact Nat.zero_le _
 · rw[h2];exact Nat.pow_le_pow_right (by decide) h1
theorem aC.plus{l:Nat}{a b:NQ}(h:aC l a)(h2:aC l b):aC l (aW a b):=by
 unfold aC;rw[jV];by_cases e:a.length≤b.length
 · rw[Nat.max_eq_right e];exact h2
 · rw[Nat.max_eq_left (by omega)];exact h
theorem aC.minus{l:Nat}{a:NQ}(h:aC l a):aC l (aM a):=by unfold aC;rw[bB];exact h
theorem lE(i:Nat):2^(i+1) / 2=2^i:=by rw[Nat.pow_succ];omega
theorem bD{a:NQ}{i:Nat}(h:a.length=2^(i+1)):(a.take (a.length / 2)).length=2^i∧(a.drop (a.length / 2)).length=2^i∧a.length / 2=2^i:=by
 have e:=lE i;have e2:2^(i+1)=2^i*2:=Nat.pow_succ ..;rw[aT,List.length_drop,h,e];omega
theorem ui{l k:Nat}{R:NQ→NQ→NQ}{rt:List NQ}{a b:NQ}(ha:aC l a)(hb:aC l b)(hab:b.length≤a.length)(hrt:da rt)(hl:l≤rt.length)(sa:ay k a)(sb:ay k b)(sr:fq k rt)
  (hR: ∀l',l=l'+1→ ∀a' b' m,k≤m→aC l' a'→aC l' b'→ay m a'→ay m b'→aC l' (R a' b')∧ay (sT l' m) (R a' b')):aC l (jv R rt a b)∧ay (sT l k) (jv R rt a b):=by
 have hk:=sa.pos;have h2:=bU l k;unfold jv;by_cases h0:(bF a||bF b)=true
 · rw[if_pos h0];exact⟨bm _,bn (by omega)⟩
 rw[if_neg h0];by_cases h1:a.length=1
 · rw[if_pos h1];refine⟨fh _ _,ft ?_⟩;have:=B8 (a.getD 0 0) (b.getD 0 0);have:=sa 0;have:=sb 0;omega
 rw[if_neg h1];have hz:=fun z:bF a=true=>h0 (by rw[z];rfl);have hz2:=fun z:bF b=true=>h0 (by rw[z,Bool.or_true])
 obtain ⟨i,hi,hla⟩: ∃i,i≤l∧a.length=2^i:=by
  rcases ha with e | e
  · exact absurd (by rw[List.length_eq_zero_iff.1 e];rfl) hz
  · exact e
 have xz:i≠0:=fun e=>h1 (by rw[hla,e]);obtain ⟨j,rfl⟩: ∃j,i=j+1:=⟨i-1,by omega⟩;obtain ⟨l',rfl⟩: ∃l',l=l'+1:=⟨l-1,by omega⟩;have hj:j≤l':=by omega
 have hR:=fun a' b' m h1 h2 h3 h4 h5=>hR l' rfl a' b' m h1 h2 h3 h4 h5;obtain ⟨e1,e2,e3⟩:=bD hla;have hx:aC l' (a.take (a.length / 2)):= .inr ⟨j,hj,e1⟩;have hy:aC l' (a.drop (a.length / 2)):= .inr ⟨j,hj,e2⟩;have hJ: ∀c d,aC (l'+1) (dL c d (a.length / 2)):=fun c d=> .inr ⟨j+1,by omega,by rw[et,e3,Nat.pow_succ];omega⟩;have hs0:=bU l' k;have hs1:=bU l' (sT l' k);by_cases h3:b.length≤a.length / 2
 · rw[if_pos h3]
   have hb':aC l' b:=by
    rcases hb with e | ⟨i',_,e⟩
    · exact .inl e
    · refine .inr ⟨i',?_,e⟩;rw[e3,e] at h3;have:=(Nat.pow_le_pow_iff_right (a:=2) (by decide)).1 h3;omega
   have r1:=hR _ _ k (ak _) hx hb' (sa.take _) sb;have r2:=hR _ _ k (ak _) hy hb' (sa.drop _) sb;refine⟨hJ _ _,(r1.2.join r2.2 _).mono ?_⟩;show _≤sT l' (sT l' k)+sT l' k+1;omega
 rw[if_neg h3]
 have hlb:b.length=2^(j+1):=by
  rcases hb with e | ⟨i',_,e⟩
  · exact absurd (by rw[List.length_eq_zero_iff.1 e];rfl) hz2
  · rw[e] at h3 hab ⊢;rw[hla] at hab;rw[e3] at h3;have h4:=(Nat.pow_le_pow_iff_right (a:=2) (by decide)).1 hab;have h5: ¬i'≤j:=fun h=>h3 ((Nat.pow_le_pow_iff_right (a:=2) (by decide)).2 h);rw[show i'=j+1 by omega]
 obtain ⟨f1,f2,f3⟩:=bD hlb;rw[show b.length / 2=a.length / 2 by rw[f3,e3]] at f1 f2;have hu:aC l' (b.take (a.length / 2)):= .inr ⟨j,hj,f1⟩;have hv:aC l' (b.drop (a.length / 2)):= .inr ⟨j,hj,f2⟩;have r1:=hR _ _ k (ak _) hx hu (sa.take _) (sb.take _);have r2:=hR _ _ k (ak _) hy hv (sa.drop _) (sb.drop _);have r3:=hR _ _ k (ak _) hx hv (sa.take _) (sb.drop _);have r4:=hR _ _ k (ak _) hy hu (sa.drop _) (sb.take _);have hlog:a.length.log2-1=j:=by rw[hla,Nat.log2_two_pow];omega
 have hd:aC l' (rt.getD (a.length.log2-1) []):= .inr ⟨j,hj,by rw[hlog];exact hrt j (by omega)⟩;have r5:=hR _ _ (sT l' k) (by omega) r2.1 hd r2.2 ((sr _).mono (by omega));refine⟨hJ _ _,(((r1.2.plus r5.2).mono ?_).join ((r3.2.plus r4.2).mono ?_) _)⟩
 · show _≤sT l' (sT l' k)+sT l' k+1;omega
 · show _≤sT l' (sT l' k)+sT l' k+1;omega
theorem eQ: ∀(l:Nat) {k:Nat} {rt:List NQ} {a b:NQ},aC l a→aC l b→da rt→l≤rt.length→ay k a→ay k b→fq k rt→aC l (bd l rt a b)∧ay (sT l k) (bd l rt a b)
 | 0,k,rt,a,b,ha,hb,hrt,hl,sa,sb,sr=>by
   show aC 0 (kp (jv _ rt) a b)∧ay (sT 0 k) (kp (jv _ rt) a b);unfold kp;split
   · exact ui hb ha (by omega) hrt hl sb sa sr (fun l' h=>by omega)
   · exact ui ha hb (by omega) hrt hl sa sb sr (fun l' h=>by omega)
 | l+1,k,rt,a,b,ha,hb,hrt,hl,sa,sb,sr=>by
   show aC (l+1) (kp (jv (bd l rt) rt) a b)∧ay (sT (l+1) k) (kp (jv (bd l rt) rt) a b);unfold kp
   have ih: ∀l',l+1=l'+1→ ∀a' b' m,k≤m→aC l' a'→aC l' b'→ay m a'→ay m b'→aC l' (bd l rt a' b')∧ay (sT l' m) (bd l rt a' b'):=fun l' e a' b' m hm h1 h2 h3 h4=>by
    obtain rfl:l=l':=by omega
    exact eQ l h1 h2 hrt (by omega) h3 h4 (sr.mono hm)
   split
   · exact ui hb ha (by omega) hrt hl sb sa sr ih
   · exact ui ha hb (by omega) hrt hl sa sb sr ih
theorem Cg(a:NQ): ∃K,ay K a:=by
 induction a with
 | nil=>exact⟨1,bn (ak _)⟩
 | cons x r ih =>
   obtain ⟨K,hK⟩:=ih;refine⟨max K (LQ x),fun c=>?_⟩;cases c with
   | zero=>exact Nat.le_max_right _ _
   | succ c=>exact Nat.le_trans (hK c) (Nat.le_max_left _ _)
theorem H3(rt:List NQ): ∃K,fq K rt:=by
 induction rt with
 | nil=>exact⟨1,fun i=>bn (ak _)⟩
 | cons x r ih =>
   obtain ⟨K,hK⟩:=ih;obtain ⟨M,hM⟩:=Cg x;refine⟨max K M,fun i=>?_⟩;cases i with
   | zero=>exact hM.mono (Nat.le_max_right _ _)
   | succ i=>exact(hK i).mono (Nat.le_max_left _ _)
theorem xb(a b:NQ)(rt:List NQ): ∃K,ay K a∧ay K b∧fq K rt:=by
 obtain ⟨k1,h1⟩:=Cg a;obtain ⟨k2,h2⟩:=Cg b;obtain ⟨k3,h3⟩:=H3 rt;exact⟨max k1 (max k2 k3),h1.mono (by omega),h2.mono (by omega),h3.mono (by omega)⟩
end Lift
namespace Lift
open Go
open Go.RowKit (Below)
abbrev LR:=Value×AV
section
variable {P:Program} {T:Ty} {B:Nat} {F0:Nat→Prop} {w0:c7} {n:Nat} {σ σ':St} {R R':List LR} {a:Act} {w:World}
def mC(P:Program)(w:World)(O:Nat→Option Nat)(F:Nat→Prop)(t:Nat)(r:LR):Prop :=
 r.2= .junk∨r.2.row.isSome=true∧r.2.tag=false∧eG P (fun _=>False) w O F (fun _=>none) (fun _=>none) t r.2 r.1
structure cK (P:Program) (B:Nat) (F0:Nat→Prop) (w0:c7) (n:Nat) (R:List LR) (σ:St) (a:Act) (w:World):Prop where
 below:iq B w0 w0.w w
 base:B≤w.heap.size
 f0:B9 B F0 w0
 defers:a.defers=[]
 size:a.tmps.size=n
 own: ∃O:Nat→Option Nat,(∀b t,O b=some t→jP B w0 w b)∧(∀t av,σ.get t=some av→ ∃v,a.tmps[t]?=some v∧eG P w0.X w O (FW B F0 w) σ.get (fun h=>a.tmps[h]?) t av v) ∧
  ∀i r,R[i]?=some r→mC P w O (FW B F0 w) (n+i) r
theorem cK.rel(h:cK P B F0 w0 n R σ a w):Rel P B F0 w0 n σ a w:=by
 obtain ⟨O,h1,h2,_⟩:=h.own;exact⟨h.below,h.base,h.f0,h.defers,h.size,O,h1,h2⟩
theorem Rel.z(h:Rel P B F0 w0 n σ a w):cK P B F0 w0 n [] σ a w:=by
 obtain ⟨O,h1,h2⟩:=h.own;exact⟨h.below,h.base,h.f0,h.defers,h.size,O,h1,h2,fun i r hr=>by simp at hr⟩
theorem eG.reX{X X':Nat→Prop}{O:Nat→Option Nat}{F:Nat→Prop}{hm:Nat→Option AV}{tm:Nat→Option Value}{t:Nat}{av:AV}{v:Value}(h:eG P X w O F hm tm t av v)
  (hx:av.tag=true→ ∀b,O b=some t→X' b):eG P X' w O F hm tm t av v:=by
 cases av with
 | wn q e l lo m =>
   rcases h with h | ⟨b,o,cap,cs,hq,h1,h0,h2,h3⟩
   · exact .inl h
   · exact .inr ⟨b,o,cap,cs,fun e=>hx e b h2,h1,h0,h2,h3⟩
 | _=>exact h
theorem eG.owner{X X':Nat→Prop}{O O':Nat→Option Nat}{F F':Nat→Prop}{hm hm':Nat→Option AV}{tm tm':Nat→Option Value}{s t:Nat}{av:AV}{v:Value}(h:eG P X w O F hm tm s av v)(hrow:av.row.isSome=true)(htag:av.tag=false)
  (hO: ∀c,O c=some s→O' c=some t) (hF: ∀c,aR O F c→aR O' F' c):eG P X' w O' F' hm' tm' t av v:=by
 cases av<;>simp[AV.row] at hrow
 · rcases h with h | ⟨b,cap,cs,h1,h2,h3,h4,h5,h6,h7,h8⟩
   · exact .inl h
   · exact .inr ⟨b,cap,cs,h1,hO b h2,h3,h4,h5,h6,h7,fun i d hd=>⟨(h8 i d hd).1,let ⟨u,hu,hr⟩:=(h8 i d hd).2;⟨u,hu,hr.mono hF (fun _ _=>rfl)⟩⟩⟩
 · simp only[AV.tag] at htag;subst htag;rcases h with h | ⟨b,o,cap,cs,_,h1,h0,h2,h3,h4,h5,h6,h7,h8⟩
   · exact .inl h
   · exact .inr ⟨b,o,cap,cs,(fun e=>by cases e),h1,h0,hO b h2,h3,h4,h5,h6,h7,fun i d hd=>⟨(h8 i d hd).1,let ⟨u,hu,hr⟩:=(h8 i d hd).2;⟨u,hu,hr.mono hF (fun _ _=>rfl)⟩⟩⟩
def St.gH:St→Bool
 | []=>true
 | (_,a)::r=>match a.tag with
   | true=>false
   | false=>St.gH r
theorem St.xu: ∀{σ:St},σ.gH=true→ ∀(t:Nat) (av:AV),σ.get t=some av→av.tag=false
 | [],_,t,av,h=>by cases h
 | (k,a)::r,hn,t,av,h=>by
   rw[St.aI] at h;simp only[St.gH] at hn;split at hn
   · cases hn
   · rename_i ha;split at h
     · cases h;exact ha
     · exact St.xu hn t av h
def Seen(P:Program)(B:Nat)(F0:Nat→Prop)(w0:c7)(V:Value)(e:Nat)(xs:List D):Prop :=
 ∃b cap cs,V= .slice (some ⟨b,0,none⟩) xs.length cap∧b<B∧ ¬w0.X b∧w0.w.heap[b]?=some (.cells cs e (0,0))∧(∀x,x∈xs→x.flat.length=P.cellsOf e) ∧
  ∀(i:Nat) (d:D),(flatAll xs)[i]?=some d→d.ba=true∧ ∃u,cs[i]?=some u∧ ∀(w:World) (O:Nat→Option Nat),iq B w0 w0.w w→(∀b t,O b=some t→jP B w0 w b)→Rd w (aR O (FW B F0 w)) d u
theorem cK.Gf(hR:cK P B F0 w0 n R σ a w): ∃B1 F1 w1,Rel P B1 F1 w1 n σ a w∧(∀(i:Nat) (V:Value) (e:Nat) (xs:List D),R[i]?=some (V,.ow e xs)→xs≠[]→Seen P B1 F1 w1 V e xs)∧ ∀σ' a' w',σ'.gH=true→Rel P B1 F1 w1 n σ' a' w'→cK P B F0 w0 n R σ' a' w':=by
 obtain ⟨O,hOr,hO,hL⟩:=hR.own
 let X1:Nat→Prop:=fun b=> ∃t,t<n∧O b=some t
 let F1:Nat→Prop:=fun b=>FW B F0 w b∧ ∀t,O b=some t→t<n
 let O1:Nat→Option Nat:=fun b=>match O b with
  | some t=>if t<n then some t else none
  | none=>none
 have hO1: ∀b t,O1 b=some t↔O b=some t∧t<n:=fun b t=>by
  simp only[O1];split
  · rename_i t' ht';rw[ht'];split
    · rename_i hlt;constructor
      · intro h;cases h;exact⟨rfl,hlt⟩
      · intro h;exact h.1
    · rename_i hlt;constructor
      · intro h;cases h
      · intro h;obtain ⟨h,h'⟩:=h;cases h;exact absurd h' hlt
  · rename_i ht';rw[ht'];simp
 have hO1z: ∀b,O b=none→O1 b=none:=fun b hb=>by simp only[O1,hb]
 have hlt: ∀t av,σ.get t=some av→t<n:=fun t av h=>by
  obtain ⟨v,hv,_⟩:=hO t av h;rw[← hR.size];exact(Array.getElem?_eq_some_iff.1 hv).1
 have hFlt: ∀b,FW B F0 w b→b<w.heap.size:=fun b hb=>(FW.step hR.f0 hR.base (ak _) b hb).1;have hFree: ∀c,aR O (FW B F0 w) c→aR O1 (FW w.heap.size F1 w) c:=fun c hc=>⟨hO1z c hc.1,.inl ⟨hc.2,fun t ht=>by rw[hc.1] at ht;cases ht⟩⟩;refine⟨w.heap.size,F1,⟨w,X1⟩,⟨.refl _ _ _,ak _,⟨fun b hb=>hFlt b hb.1,fun b hb=>?_⟩,hR.defers,hR.size,O1,fun b t hb=>?_,fun t av hav=>?_⟩,fun i V e xs hi hne=>?_,?_⟩
 · obtain ⟨t,h1,h2⟩:=hb;exact⟨(hOr b t h2).fw hR.f0,fun t' h'=>by rw[h2] at h';cases h';exact h1⟩
 · have:=(hO1 b t).1 hb;exact⟨.inr ⟨t,this.2,this.1⟩,(hOr b t this.1).2⟩
 · obtain ⟨v,hv,hr⟩:=hO t av hav;refine⟨v,hv,eG.reX (hr.move (fun c hc=>⟨hFree c hc,rfl⟩) (fun _ c hc=>⟨(hO1 c t).2 ⟨hc,hlt t av hav⟩,rfl⟩) (fun k _ x _ hk=>⟨hk,rfl⟩)) (fun _ b hb=>?_)⟩;have:=(hO1 b t).1 hb;exact⟨t,this.2,this.1⟩
 · rcases hL i _ hi with h | ⟨_,_,h⟩
   · cases h
   · rcases h with ⟨base,_,h4⟩ | ⟨b,cap,cs,h3,h4,h5,h6,h7,h8,h9,h10⟩
     · exact absurd h4 hne
     refine⟨b,cap,cs,h3,(hOr b _ h4).2,fun ⟨t,g1,g2⟩=>by rw[h4] at g2;cases g2;omega,h5,h9,fun j d hd=>?_⟩;obtain ⟨f1,u,f2,f3⟩:=h10 j d hd;refine⟨f1,u,f2,fun w' O' hb' hO'=>f3.mono (fun c hc=>?_) (fun c hc=>hb'.block c (hFlt c hc.2) (fun ⟨t,_,g⟩=>by rw[hc.1] at g;cases g))⟩;refine⟨?_,.inl ⟨hc.2,fun t ht=>by rw[hc.1] at ht;cases ht⟩⟩;cases hx:O' c with
     | none=>rfl
     | some t =>
       exfalso;rcases (hO' c t hx).1 with g | ⟨s,_,g⟩
       · have:=hFlt c hc.2;have g:w.heap.size≤c:=g;omega
       · rw[hc.1] at g;cases g
 · intro σ' a' w' htag h2;have htag:=St.xu htag;obtain ⟨O2,hOr2,hO2⟩:=h2.own;have hsz:w.heap.size≤w'.heap.size:=h2.below.size;have hX1: ∀b,X1 b→B≤b∨w0.X b:=fun b ⟨t,_,h⟩=>(hOr b t h).1
   have k1: ∀b t t',O2 b=some t→O b=some t'→t'<n:=fun b t t' h h'=>by
    rcases (hOr2 b t h).1 with g | ⟨t2,g1,g2⟩
    · have g:w.heap.size≤b:=g;have h1:b<w.heap.size:=(hOr b t' h').2;omega
    · rw[h'] at g2;cases g2;exact g1
   let O3:Nat→Option Nat:=fun b=>match O b with
    | some t=>if t<n then O2 b else some t
    | none=>O2 b
   have k2: ∀b t,O2 b=some t→O3 b=some t:=fun b t h=>by
    simp only[O3];split
    · rename_i t' ht';rw[if_pos (k1 b t t' h ht')];exact h
    · exact h
   have k3: ∀c,aR O2 (FW w.heap.size F1 w') c→aR O3 (FW B F0 w') c:=fun c hc=>by
    rcases hc.2 with g | ⟨g1,g2⟩
    · refine⟨?_,?_⟩
      · simp only[O3];split
        · rename_i t' ht';rw[if_pos (g.2 t' ht')];exact hc.1
        · exact hc.1
      · rcases g.1 with g | ⟨g1,g2⟩
        · exact .inl g
        · exact .inr ⟨g1,Nat.lt_of_lt_of_le g2 hsz⟩
    · refine⟨?_,.inr ⟨Nat.le_trans hR.base g1,g2⟩⟩;simp only[O3];split
      · rename_i t' ht';have:c<w.heap.size:=(hOr c t' ht').2;omega
      · exact hc.1
   refine⟨hR.below.back hR.base hX1 h2.below,Nat.le_trans hR.base hsz,hR.f0,h2.defers,h2.size,O3,fun b t hb=>?_,fun t av hav=>?_,fun i r hr=>?_⟩
   · simp only[O3] at hb
     have e2:O2 b=some t→jP B w0 w' b:=fun h=>by
      refine⟨?_,(hOr2 b t h).2⟩;rcases (hOr2 b t h).1 with g | g
      · exact .inl (Nat.le_trans hR.base g)
      · exact hX1 b g
     split at hb
     · rename_i t' ht';split at hb
       · exact e2 hb
       · exact⟨(hOr b t' ht').1,Nat.lt_of_lt_of_le (hOr b t' ht').2 hsz⟩
     · exact e2 hb
   · obtain ⟨v,hv,hr⟩:=hO2 t av hav;refine⟨v,hv,eG.reX (hr.move (fun c hc=>⟨k3 c hc,rfl⟩) (fun _ c hc=>⟨k2 c t hc,rfl⟩) (fun k _ x _ hk=>⟨hk,rfl⟩)) (fun e=>?_)⟩;rw[htag t av hav] at e;cases e
   · rcases hL i r hr with h | ⟨h1,h2',h3⟩
     · exact .inl h
     refine .inr ⟨h1,h2',h3.move (fun c hc=>?_) (fun _ c hc=>?_) (fun k _ x _ hk=>by cases hk)⟩
     · have hc':=hFlt c hc.2;have hnx: ¬X1 c:=fun ⟨t,_,h⟩=>by rw[hc.1] at h;cases h
       refine⟨⟨?_,?_⟩,h2.below.block c hc' hnx⟩
       · simp only[O3,hc.1];cases h:O2 c with
         | none=>rfl
         | some t =>
           exfalso;rcases (hOr2 c t h).1 with g | g
           · have g:w.heap.size≤c:=g;omega
           · exact hnx g
       · rcases hc.2 with g | ⟨g1,g2⟩
         · exact .inl g
         · exact .inr ⟨g1,Nat.lt_of_lt_of_le g2 hsz⟩
     · have hnx: ¬X1 c:=fun ⟨t,h,h'⟩=>by rw[hc] at h';cases h';omega
       refine⟨?_,h2.below.block c (hOr c _ hc).2 hnx⟩;simp only[O3,hc];rw[if_neg (by omega)]
theorem cK.sub(hR:cK P B F0 w0 n R σ a w): ∃B1 F1 w1,Rel P B1 F1 w1 n σ a w∧ ∀σ' a' w',σ'.gH=true→Rel P B1 F1 w1 n σ' a' w'→cK P B F0 w0 n R σ' a' w':=by
 obtain ⟨B1,F1,w1,h1,_,h2⟩:=hR.Gf;exact⟨B1,F1,w1,h1,h2⟩
theorem jT{R:List LR}{i j:Nat}{x r:LR}(hj:j≠i)(h:(R.set i x)[j]?=some r):R[j]?=some r:=by
 rw[List.getElem?_set_ne (Ne.symm hj)] at h;exact h
theorem eG.swap{X:Nat→Prop}{O:Nat→Option Nat}{F:Nat→Prop}{u t:Nat}{tm:Nat→Option Value}{x:AV}{v:Value}{av:AV}{k:Nat}(hk:k≠t)(hku:k≠u)(h:eG P X w O F σ.get tm k x v)(ha:av.home=true→True):
  eG P X w (rA O u t) F (St.get ((t,av)::σ.kill t)) tm k (x.kill t) v:=by
 rcases AV.kL t x with ⟨h1,h2⟩ | h1
 · rw[h1];refine h.move (fun c hc=>⟨⟨eU.2 hc.1,hc.2⟩,rfl⟩) (fun _ c hc=>⟨fM hc hku hk,rfl⟩) (fun j hj y hy hg=>?_);have hjt:j≠t:=fun e=>h2 (e▸hj);rw[St.aI,if_neg (Ne.symm hjt),St.dM] at hg;cases hgj:σ.get j with
   | none=>simp[hgj] at hg
   | some y' =>
     simp only[hgj,Option.map_some,Option.some.injEq] at hg;subst hg;rw[gr hy];exact⟨rfl,rfl⟩
 · rw[h1];trivial
theorem cK.c8{t i:Nat}{V:Value}{av:AV}(hR:cK P B F0 w0 n R σ a w)(hi:R[i]?=some (V,av))(hrow:av.row.isSome=true)(ht:σ.get t=some (.d (.v V))):
  cK P B F0 w0 n (R.set i (V,.junk)) ((t,av)::σ.kill t) a w:=by
 obtain ⟨O,hOr,hO,hL⟩:=hR.own;obtain ⟨v,hv,hr⟩:=hO t _ ht;have hvV:=(Rd.lZ hr).1;subst hvV;have htn:t<n:=by rw[← hR.size];exact(Array.getElem?_eq_some_iff.1 hv).1
 refine⟨hR.below,hR.base,hR.f0,hR.defers,hR.size,rA O (n+i) t,m6 hOr,fun k x hk=>?_,fun j r hr'=>?_⟩
 · rw[St.aI] at hk;split at hk
   · rename_i e;subst e;cases hk;rcases hL i _ hi with h | ⟨h1,h2,h3⟩
     · simp only at h;subst h;cases hrow
     exact⟨v,hv,h3.owner h1 h2 (fun c hc=>by simp[rA,hc]) (fun c hc=>⟨eU.2 hc.1,hc.2⟩)⟩
   · rename_i hkt;rw[St.dM] at hk;cases hg:σ.get k with
     | none=>simp[hg] at hk
     | some y =>
       simp only[hg,Option.map_some,Option.some.injEq] at hk;subst hk;obtain ⟨z,hz,hzr⟩:=hO k y hg;have hkn:k<n:=by rw[← hR.size];exact(Array.getElem?_eq_some_iff.1 hz).1
       exact⟨z,hz,hzr.swap (Ne.symm hkt) (by omega) (fun _=>trivial)⟩
 · by_cases hj:j=i
   · subst hj;have hlt:j<R.length:=(List.getElem?_eq_some_iff.1 hi).1;rw[List.getElem?_set_self hlt] at hr';cases hr';exact .inl rfl
   · have:=jT hj hr';rcases hL j r this with h | ⟨h1,h2,h3⟩
     · exact .inl h
     · exact .inr ⟨h1,h2,h3.move (fun c hc=>⟨⟨eU.2 hc.1,hc.2⟩,rfl⟩) (fun _ c hc=>⟨fM hc (by omega) (by omega),rfl⟩) (fun k _ x _ hk=>by cases hk)⟩
theorem cK.iM{t i:Nat}{V:Value}{av:AV}(hR:cK P B F0 w0 n R σ a w)(ht:σ.get t=some av)(hrow:av.row.isSome=true)(htag:av.tag=false)(hV:a.tmps[t]?=some V)
  (hi:R'[i]?=some (V,av)) (hj: ∀j r,j≠i→R'[j]?=some r→R[j]?=some r):cK P B F0 w0 n R' ((t,.d (.v V))::σ.kill t) a w:=by
 obtain ⟨O,hOr,hO,hL⟩:=hR.own;obtain ⟨v,hv,hr⟩:=hO t _ ht;rw[hV] at hv;cases hv;have htn:t<n:=by rw[← hR.size];exact(Array.getElem?_eq_some_iff.1 hV).1
 refine⟨hR.below,hR.base,hR.f0,hR.defers,hR.size,rA O (n+i) t,m6 hOr,fun k x hk=>?_,fun j r hr'=>?_⟩
 · rw[St.aI] at hk;split at hk
   · rename_i e;subst e;cases hk;refine⟨V,hV,.v ?_⟩;cases av<;>simp[AV.row] at hrow
     · rcases hr with ⟨_,rfl,_⟩ | ⟨_,_,_,rfl,_⟩<;>rfl
     · rcases hr with ⟨_,_,rfl,_⟩ | ⟨_,_,_,_,_,rfl,_⟩<;>rfl
   · rename_i hkt;rw[St.dM] at hk;cases hg:σ.get k with
     | none=>simp[hg] at hk
     | some y =>
       simp only[hg,Option.map_some,Option.some.injEq] at hk;subst hk;obtain ⟨z,hz,hzr⟩:=hO k y hg;have hkn:k<n:=by rw[← hR.size];exact(Array.getElem?_eq_some_iff.1 hz).1
       exact⟨z,hz,hzr.swap (Ne.symm hkt) (by omega) (fun _=>trivial)⟩
 · by_cases hji:j=i
   · subst hji;rw[hi] at hr';cases hr';refine .inr ⟨hrow,htag,hr.owner hrow htag (fun c hc=>?_) (fun c hc=>⟨eU.2 hc.1,hc.2⟩)⟩;simp only[rA];rw[if_neg (by rw[hc];intro e;cases e;omega),if_pos hc]
   · rcases hL j r (hj j r hji hr') with h | ⟨h1,h2,h3⟩
     · exact .inl h
     · exact .inr ⟨h1,h2,h3.move (fun c hc=>⟨⟨eU.2 hc.1,hc.2⟩,rfl⟩) (fun _ c hc=>⟨fM hc (by omega) (by omega),rfl⟩) (fun k _ x _ hk=>by cases hk)⟩
theorem cK.dW(ks:List Nat)(hR:cK P B F0 w0 n R σ a w):cK P B F0 w0 n R (σ.dW ks) a w:=by
 obtain ⟨O,hOr,hO,hL⟩:=hR.own;refine⟨hR.below,hR.base,hR.f0,hR.defers,hR.size,O,hOr,fun t av h=>?_,hL⟩;rw[St.qQ] at h;split at h<;>try (cases h;done)
 obtain ⟨v,hv,hr⟩:=hO t av h;refine⟨v,hv,hr.move (fun c hc=>⟨hc,rfl⟩) (fun _ c hc=>⟨hc,rfl⟩) (fun k hk x hx hg=>?_)⟩;rw[St.qQ] at hg;split at hg
 · exact⟨hg,rfl⟩
 · cases hg
theorem cK.drop(hR:cK P B F0 w0 n R σ a w)(h: ∀(i:Nat) (r:LR),R'[i]?=some r→R[i]?=some r∨r.2= .junk):cK P B F0 w0 n R' σ a w:=by
 obtain ⟨O,hOr,hO,hL⟩:=hR.own;refine⟨hR.below,hR.base,hR.f0,hR.defers,hR.size,O,hOr,hO,fun i r hr=>?_⟩;rcases h i r hr with g | g
 · exact hL i r g
 · exact .inl g
end
end Lift
namespace Lift
open Go
open Go.RowKit (Below)
section
variable {P:Program} {T:Ty} {B:Nat} {F0:Nat→Prop} {w0:c7} {n:Nat} {σ σ':St} {R R':List LR} {all:Array Oper} {l:List Oper} {o:Oper}
theorem nV{o:Oper}{a:Act}{next next':Act→World→Prop}{Q Q':Exit→Act→World→Prop}(hp: ∀c a w,Q (.panic c) a w→Q' (.panic c) a w)(ho:LetsOut Q→LetsOut Q')
  (hn: ∀v d w,next ({a with defers:=d}.put o.dst v) w→next' ({a with defers:=d}.put o.dst v) w) {r:Result Next} (h:o.upon P a next Q r):o.upon P a next' Q' r:=by
 cases r with
 | ok x w' =>
   cases x<;>simp only[Oper.upon] at h ⊢
   · exact hn _ a.defers _ h
   · exact hn _ a.defers _ h
   · exact Calls.mono h (fun e w'' he=>by cases e<;>first | exact hn _ a.defers _ he | exact hp _ _ _ he | exact ho he)
   · exact hn _ _ _ h
   · exact Rows.mono h (fun v w'' he=>hn _ a.defers _ he)
 | halt x w'=>cases x<;>simp only[Oper.upon] at h ⊢ <;>exact hp _ _ _ h
def JB(t:Nat)(x:Option Value)(Q:Exit→Act→World→Prop):Exit→Act→World→Prop:=fun e a w=>Q e a w∧(e= .normal→a.tmps[t]?=x)
theorem mV{t:Nat}{x:Option Value}{Q:Exit→Act→World→Prop}: ∀(l:List Oper) (a:Act) (w:World),(∀o,o∈l→o.dst≠some t)→a.tmps[t]?=x→wpList P all Q l a w→wpList P all (JB t x Q) l a w
 | [],a,w,_,hx,h=>⟨h,fun _=>hx⟩
 | o::l,a,w,hd,hx,h=>by
   have hput: ∀v d,({a with defers:=d}.put o.dst v).tmps[t]?=x:=fun v d=>by
    cases hdst:o.dst with
    | none=>exact hx
    | some k =>
      have:k≠t:=fun e=>hd o (by simp) (by rw[hdst,e]);rw[dH (Ne.symm this)];exact hx
   unfold wpList at h ⊢;split at h
   · rw[if_pos (by assumption)];rcases h with h | ⟨h1,a1,w1,h2⟩
     · exact .inl (nV (fun c a w h=>⟨h,fun e=>by cases e⟩) (fun ⟨a,w,h⟩=>⟨a,w,h,fun e=>by cases e⟩) (fun v d w h=>mV l _ _ (fun o ho=>hd o (by simp[ho])) (hput v d) h) h)
     · exact .inr ⟨h1,a1,w1,h2,fun e=>by cases e⟩
   · rw[if_neg (by assumption)];exact mV l _ _ (fun o ho=>hd o (by simp[ho])) (hput undef a.defers) h
theorem gw{Q Q':Exit→Act→World→Prop}(hq: ∀e a w,Q e a w→Q' e a w): ∀{l:List Oper} {a:Act} {w:World},wpList P all Q l a w→wpList P all Q' l a w
 | [],a,w,h=>hq _ _ _ h
 | o::l,a,w,h=>by
   unfold wpList at h ⊢;split at h
   · rw[if_pos (by assumption)];rcases h with h | ⟨h1,a1,w1,h2⟩
     · exact .inl (nV (fun c a w h=>hq _ _ _ h) (fun ⟨a,w,h⟩=>⟨a,w,hq _ _ _ h⟩) (fun v d w h=>gw hq h) h)
     · exact .inr ⟨h1,a1,w1,hq _ _ _ h2⟩
   · rw[if_neg (by assumption)];exact gw hq h
abbrev lV:=List (Nat×Value)
def kY(p:lV)(a:Act):Prop:= ∀e,e∈p→a.tmps[e.1]?=some e.2
def Aw(t:Nat):List Oper→Bool
 | []=>true
 | o::r=>match o.dst with
   | some d=>match Nat.beq d t with
     | true=>false
     | false=>Aw t r
   | none=>Aw t r
theorem vZ{t:Nat}: ∀{l:List Oper},Aw t l=true→ ∀o,o∈l→o.dst≠some t
 | [],_,o,ho=>by cases ho
 | x::r,h,o,ho=>by
   simp only[Aw] at h;rcases List.mem_cons.1 ho with rfl | ho
   · split at h
     · rename_i d hd;split at h
       · cases h
       · rename_i hb;rw[hd];intro e;cases e;exact Nat.ne_of_beq_eq_false hb rfl
     · rename_i hd;rw[hd];intro e;cases e
   · split at h
     · split at h
       · cases h
       · exact vZ h o ho
     · exact vZ h o ho
def iz(p:lV)(l:List Oper):Bool:=match p with
 | []=>true
 | (t,_)::r=>match Aw t l with
   | true=>iz r l
   | false=>false
theorem nw: ∀{p:lV} {l:List Oper},iz p l=true→ ∀e,e∈p→ ∀o,o∈l→o.dst≠some e.1
 | [],l,_,e,he=>by cases he
 | (t,V)::r,l,h,e,he=>by
   simp only[iz] at h;split at h
   · rename_i h1;rcases List.mem_cons.1 he with rfl | he
     · exact vZ h1
     · exact nw h e he
   · cases h
theorem kx{Q:Exit→Act→World→Prop}{a:Act}{w:World}: ∀{p:lV},kY p a→(∀e,e∈p→ ∀o,o∈l→o.dst≠some e.1)→wpList P all Q l a w→wpList P all (fun e a w=>Q e a w∧(e= .normal→kY p a)) l a w
 | [],_,_,h=>gw (fun e a w h=>⟨h,fun _ e he=>by cases he⟩) h
 | (t,V)::r,hp,hd,h=>by
   have h1:=kx (p:=r) (fun e he=>hp e (by simp[he])) (fun e he=>hd e (by simp[he])) h;have h2:=mV l a w (hd (t,V) (by simp)) (hp (t,V) (by simp)) h1;refine gw (fun e a w ⟨⟨h1,h2⟩,h3⟩=>⟨h1,fun he e' he'=>?_⟩) h2;rcases List.mem_cons.1 he' with rfl | he'
   · exact h3 he
   · exact h2 he e' he'
def ai(P:Program)(B:Nat)(F0:Nat→Prop)(w0:c7)(n:Nat)(all:Array Oper)(l:List Oper)(K:List LR→St→Prop)(p:lV)(R:List LR)(σ:St):Prop :=
 ∀(a:Act) (w:World),cK P B F0 w0 n R σ a w→kY p a→ ∀Q:Exit→Act→World→Prop,(∀a w R' σ',K R' σ'→cK P B F0 w0 n R' σ' a w→Q .normal a w)→wpList P all Q l a w
variable {K:List LR→St→Prop} {p:lV}
theorem ai.nil(h:K R σ):ai P B F0 w0 n all [] K p R σ:=fun a w hR _ Q hQ=>hQ a w R σ h hR
theorem ai.cut(k:Nat)(hp:iz p (l.take k)=true)(h: ∀B1 F1 w1,ab P B1 F1 w1 n all (l.take k) (fun σ'=>σ'.gH=true∧ai P B F0 w0 n all (l.drop k) K p R σ') σ):ai P B F0 w0 n all l K p R σ:=by
 intro a w hR hpin Q hQ;obtain ⟨B1,F1,w1,hR1,hback⟩:=hR.sub;rw[← List.take_append_drop k l];refine iU (l.drop k) (l.take k) a w ?_;have h1:=h B1 F1 w1 a w hR1 (fun e a' w'=>e= .normal∧ ∃σ',σ'.gH=true∧ai P B F0 w0 n all (l.drop k) K p R σ'∧cK P B F0 w0 n R σ' a' w') (fun a' w' σ' ⟨h1,h2⟩ hR'=>⟨rfl,σ',h1,h2,hback σ' a' w' h1 hR'⟩);refine gw (fun e a' w' ⟨⟨he,σ',_,h2,h3⟩,h4⟩=>?_) (kx hpin (nw hp) h1);subst he;exact h2 a' w' h3 (h4 rfl) Q hQ
theorem ai.c8(t i:Nat){V:Value}{av:AV}(hi:R[i]?=some (V,av))(ht:σ.get t=some (.d (.v V)))(hrow:av.row.isSome=true)(h:ai P B F0 w0 n all l K ((t,V)::p) (R.set i (V,.junk)) ((t,av)::σ.kill t)):ai P B F0 w0 n all l K p R σ:=by
 intro a w hR hpin Q hQ;refine h a w (hR.c8 hi hrow ht) (fun e he=>?_) Q hQ;rcases List.mem_cons.1 he with rfl | he
 · obtain ⟨O,_,hO,_⟩:=hR.own;obtain ⟨v,hv,hr⟩:=hO t _ ht;rw[hv,(Rd.lZ hr).1]
 · exact hpin e he
theorem ai.back(t i:Nat){V V':Value}{av av':AV}(ht:σ.get t=some av)(hrow:av.row.isSome=true)(htag:av.tag=false)(hp:(t,V)∈p)(hi:R[i]?=some (V',av'))(h:ai P B F0 w0 n all l K p (R.set i (V,av)) ((t,.d (.v V))::σ.kill t)):ai P B F0 w0 n all l K p R σ:=by
 intro a w hR hpin Q hQ;exact h a w (hR.iM ht hrow htag (hpin _ hp) (List.getElem?_set_self (List.getElem?_eq_some_iff.1 hi).1) (fun j r hj hr=>jT hj hr)) hpin Q hQ
theorem ai.iM(t:Nat){av:AV}(ht:σ.get t=some av)(hrow:av.row.isSome=true)(htag:av.tag=false)(h: ∀V:Value,ai P B F0 w0 n all l K p (R++[(V,av)]) ((t,.d (.v V))::σ.kill t)):ai P B F0 w0 n all l K p R σ:=by
 intro a w hR hpin Q hQ;obtain ⟨O,_,hO,_⟩:=hR.own;obtain ⟨V,hV,_⟩:=hO t _ ht;refine h V a w (hR.iM (i:=R.length) ht hrow htag hV (by simp) (fun j r hj hr=>?_)) hpin Q hQ;rcases Nat.lt_or_ge j R.length with hlt | hge
 · rw[List.getElem?_append_left hlt] at hr;exact hr
 · rw[List.getElem?_append_right hge] at hr;have:j-R.length≠0:=by omega
   cases hj':j-R.length with
   | zero=>omega
   | succ m=>rw[hj'] at hr;simp at hr
theorem ai.dW(ks:List Nat)(h:ai P B F0 w0 n all l K p R (σ.dW ks)):ai P B F0 w0 n all l K p R σ:=fun a w hR=>h a w (hR.dW ks)
theorem ai.jl(h:R=R')(hk:ai P B F0 w0 n all l K p R' σ):ai P B F0 w0 n all l K p R σ:=h▸hk
def AZ(P:Program)(B:Nat)(F0:Nat→Prop)(w0:c7)(n:Nat)(c:Code)(Q:Exit→List LR→St→Prop)(R:List LR)(σ:St):Prop :=
 ∀(a:Act) (w:World),cK P B F0 w0 n R σ a w→c.wp P (fun e a' w'=> ∃R' σ',Q e R' σ'∧cK P B F0 w0 n R' σ' a' w') a w
variable {Q:Exit→List LR→St→Prop} {x y:Code}
def Hw(K:List LR→St→Prop)(Q:Exit→List LR→St→Prop):Exit→List LR→St→Prop
 | .normal,R,σ=>K R σ
 | .exit i,R,σ=>Q (.exit i) R σ
 | .goto i,R,σ=>Q (.goto i) R σ
 | .ret,R,σ=>Q .ret R σ
 | .panic c,R,σ=>Q (.panic c) R σ
 | .outgrown,R,σ=>Q .outgrown R σ
def FK(id:Nat)(Q:Exit→List LR→St→Prop):Exit→List LR→St→Prop
 | .normal,R,σ=>Q .normal R σ
 | .exit i,R,σ=>match Nat.beq i id with
   | true=>Q .normal R σ
   | false=>Q (.exit i) R σ
 | .goto i,R,σ=>Q (.goto i) R σ
 | .ret,R,σ=>Q .ret R σ
 | .panic c,R,σ=>Q (.panic c) R σ
 | .outgrown,R,σ=>Q .outgrown R σ
theorem AZ.skip(h:Q .normal R σ):AZ P B F0 w0 n .skip Q R σ:=fun a w hR=>wp_skip ⟨R,σ,h,hR⟩
theorem AZ.exit{id:Nat}(h:Q (.exit id) R σ):AZ P B F0 w0 n (.exit id) Q R σ:=fun a w hR=>wp_exit ⟨R,σ,h,hR⟩
theorem AZ.ret(h:Q .ret R σ):AZ P B F0 w0 n .ret Q R σ:=fun a w hR=>wp_ret ⟨R,σ,h,hR⟩
theorem AZ.seq(h:AZ P B F0 w0 n x (Hw (AZ P B F0 w0 n y Q) Q) R σ):AZ P B F0 w0 n (.seq x y) Q R σ:=by
 intro a w hR;refine wp_seq (wp_mono (h a w hR) fun e a' w' ⟨R',σ',hq,hR'⟩=>?_);cases e<;>first | exact hq a' w' hR' | exact⟨R',σ',hq,hR'⟩
theorem AZ.block{id:Nat}(h:AZ P B F0 w0 n x (FK id Q) R σ):AZ P B F0 w0 n (.block id x) Q R σ:=by
 intro a w hR;refine wp_block (wp_mono (h a w hR) fun e a' w' ⟨R',σ',hq,hR'⟩=>?_);cases e with
 | exit i =>
   simp only[FK] at hq;simp only[Exit.inBlock];split at hq
   · rename_i hb;rw[if_pos (Nat.eq_of_beq_eq_true hb)];exact⟨R',σ',hq,hR'⟩
   · rename_i hb;rw[if_neg (Nat.ne_of_beq_eq_false hb)];exact⟨R',σ',hq,hR'⟩
 | _=>exact⟨R',σ',hq,hR'⟩
theorem AZ.cond{c:Operand}{b:Bool}(hc:nP σ c=some b)(h1:b=true→AZ P B F0 w0 n x Q R σ)(h2:b=false→AZ P B F0 w0 n y Q R σ):AZ P B F0 w0 n (.cond c x y) Q R σ:=by
 intro a w hR
 have he:a.eval c= .bool b:=by
  unfold nP at hc;split at hc<;>try (cases hc;done)
  · split at hc<;>simp at hc;rename_i hg;subst hc;obtain ⟨O,hOr,hO,_⟩:=hR.own;obtain ⟨v,hv,hr⟩:=hO _ _ hg;have:=(Rd.lZ hr).1;subst this;exact ij hv
  · simp at hc;subst hc;rfl
 refine wp_cond he ?_;cases b with
 | true=>exact h1 rfl a w hR
 | false=>exact h2 rfl a w hR
theorem AZ.aL{c:Operand}(hc:nP σ c=some true)(h1:AZ P B F0 w0 n x Q R σ):AZ P B F0 w0 n (.cond c x y) Q R σ:=AZ.cond hc (fun _=>h1) (fun h=>by cases h)
theorem AZ.aA{c:Operand}(hc:nP σ c=some false)(h1:AZ P B F0 w0 n y Q R σ):AZ P B F0 w0 n (.cond c x y) Q R σ:=AZ.cond hc (fun h=>by cases h) (fun _=>h1)
theorem AZ.region{id:Nat}{ops:Array Oper}(h:ai P B F0 w0 n ops ops.toList (Q .normal) [] R σ):AZ P B F0 w0 n (.region id ops false) Q R σ :=
 fun a w hR=>wp_region_list (h a w hR (fun e he=>by cases he) _ fun a' w' R' σ' hk hR'=>⟨R',σ',hk,hR'⟩)
theorem AZ.frame(h: ∀B1 F1 w1,AW P B1 F1 w1 n x (fun e σ'=>σ'.gH=true∧Q e R σ') σ):AZ P B F0 w0 n x Q R σ:=by
 intro a w hR;obtain ⟨B1,F1,w1,hR1,hback⟩:=hR.sub;exact wp_mono (h B1 F1 w1 a w hR1) fun e a' w' ⟨σ',⟨h1,h2⟩,hR'⟩=>⟨R,σ',h2,hback σ' a' w' h1 hR'⟩
theorem AZ.dW(ks:List Nat)(h:AZ P B F0 w0 n x Q R (σ.dW ks)):AZ P B F0 w0 n x Q R σ:=fun a w hR=>h a w (hR.dW ks)
theorem AZ.conv(h:σ=σ')(hk:AZ P B F0 w0 n x Q R σ'):AZ P B F0 w0 n x Q R σ:=h▸hk
theorem AZ.jl(h:R=R')(hk:AZ P B F0 w0 n x Q R' σ):AZ P B F0 w0 n x Q R σ:=h▸hk
theorem AZ.mono{Q':Exit→List LR→St→Prop}(h:AZ P B F0 w0 n x Q R σ)(hq: ∀e R σ,Q e R σ→Q' e R σ):AZ P B F0 w0 n x Q' R σ:=fun a w hR=>wp_mono (h a w hR) fun e a' w' ⟨R',σ',h1,h2⟩=>⟨R',σ',hq _ _ _ h1,h2⟩
theorem AZ.iM(t:Nat){av:AV}(ht:σ.get t=some av)(hrow:av.row.isSome=true)(htag:av.tag=false)(h: ∀V:Value,AZ P B F0 w0 n x Q (R++[(V,av)]) ((t,.d (.v V))::σ.kill t)):AZ P B F0 w0 n x Q R σ:=by
 intro a w hR;obtain ⟨O,_,hO,_⟩:=hR.own;obtain ⟨V,hV,_⟩:=hO t _ ht;refine h V a w (hR.iM (i:=R.length) ht hrow htag hV (by simp) (fun j r hj hr=>?_));rcases Nat.lt_or_ge j R.length with hlt | hge
 · rw[List.getElem?_append_left hlt] at hr;exact hr
 · rw[List.getElem?_append_right hge] at hr;have:j-R.length≠0:=by omega
   cases hj':j-R.length with
   | zero=>omega
   | succ m=>rw[hj'] at hr;simp at hr
theorem AZ.c8(t i:Nat){V:Value}{av:AV}(hi:R[i]?=some (V,av))(ht:σ.get t=some (.d (.v V)))(hrow:av.row.isSome=true)(h:AZ P B F0 w0 n x Q (R.set i (V,.junk)) ((t,av)::σ.kill t)):AZ P B F0 w0 n x Q R σ :=
 fun a w hR=>h a w (hR.c8 hi hrow ht)
theorem AZ.aG{S:Type}(ks:List Nat)(mk:S→List LR×St)(I:S→Prop)(μ:S→Nat)(s0:S)(h0:(R,σ.dW ks)=mk s0)(hI:I s0)
  (hb: ∀s,I s→AZ P B F0 w0 n x (Hw (fun R' σ'=> ∃s',(R',σ'.dW ks)=mk s'∧I s'∧μ s'<μ s) Q) (mk s).1 (mk s).2):AZ P B F0 w0 n (.loop x) Q R σ:=by
 intro a w hR
 let G:Act→World→S→Prop:=fun a w s=>I s∧cK P B F0 w0 n (mk s).1 (mk s).2 a w
 have hex: ∀a w,(∃s,G a w s)→ ∃m,(∃s,μ s=m∧G a w s)∧ ∀s,G a w s→m≤μ s:=fun a w ⟨s,h1⟩=>by
  let q:Nat→Prop:=fun m=> ∃s,μ s=m∧G a w s
  have key: ∀k m,m≤k→q m→ ∃m0,q m0∧ ∀m',q m'→m0≤m':=by
   intro k
   induction k with
   | zero=>intro m hm hp;exact⟨m,hp,fun m' _=>by omega⟩
   | succ k ih =>
     intro m hm hp;by_cases hlt: ∃m',m'≤k∧q m'
     · obtain ⟨m',h1,h2⟩:=hlt;exact ih m' h1 h2
     · exact⟨m,hp,fun m' hp'=>by
        rcases Nat.lt_or_ge k m' with h | h
        · omega
        · exact absurd ⟨m',h,hp'⟩ hlt⟩
  obtain ⟨m0,h3,h4⟩:=key (μ s) (μ s) (ak _) ⟨s,rfl,h1⟩;exact⟨m0,h3,fun s' g=>h4 _ ⟨s',rfl,g⟩⟩
 let M:Act→World→Nat:=fun a w=>open Classical in if h: ∃s,G a w s then Classical.choose (hex a w h) else 0
 have hM: ∀a w,(∃s,G a w s)→(∃s,μ s=M a w∧G a w s)∧ ∀s,G a w s→M a w≤μ s:=fun a w h=>by
  have:=Classical.choose_spec (hex a w h);simp only[M,dif_pos h];exact this
 have hG0:G a w s0:=⟨hI,by rw[← h0];exact hR.dW ks⟩;refine wp_loop (fun a w=> ∃s,G a w s) M ⟨s0,hG0⟩ (fun a w hg=>?_);obtain ⟨⟨s1,hm,hI1,hR1⟩,_⟩:=hM a w hg;refine wp_mono (hb s1 hI1 a w hR1) fun e a' w' ⟨R',σ',hq,hR'⟩=>?_;cases e with
 | normal =>
   obtain ⟨s',h1,h2,h3⟩:=hq;have hg':G a' w' s':=⟨h2,by rw[← h1];exact hR'.dW ks⟩;refine⟨⟨s',hg'⟩,?_⟩;have:=(hM a' w' ⟨s',hg'⟩).2 s' hg';omega
 | _=>exact⟨R',σ',hq,hR'⟩
def Kl{S:Type}(ks:List Nat)(mk:S→List LR×St)(I:S→Prop)(Q:Exit→List LR→St→Prop):Exit→List LR→St→Prop
 | .normal,R,σ=> ∃s,(R,σ.dW ks)=mk s∧I s
 | .exit i,R,σ=>Q (.exit i) R σ
 | .goto i,R,σ=>Q (.goto i) R σ
 | .ret,R,σ=>Q .ret R σ
 | .panic c,R,σ=>Q (.panic c) R σ
 | .outgrown,R,σ=>Q .outgrown R σ
theorem AZ.cut{S:Type}(ks:List Nat)(mk:S→List LR×St)(I:S→Prop)(hx:AZ P B F0 w0 n x (Kl ks mk I Q) R σ)(hy: ∀s,I s→AZ P B F0 w0 n y Q (mk s).1 (mk s).2):AZ P B F0 w0 n (.seq x y) Q R σ:=by
 refine AZ.seq (AZ.mono hx fun e R' σ' hq=>?_);cases e with
 | normal =>
   obtain ⟨s,h1,h2⟩:=hq;have h1':=Prod.mk.inj (h1.trans (Prod.eta (mk s)).symm);refine AZ.jl h1'.1 (AZ.dW ks (AZ.conv h1'.2 (hy s h2)))
 | _=>exact hq
end
end Lift
namespace Lift
open Go
open Go.RowKit (Below)
section
variable {P:Program} {T:Ty} {B:Nat} {F0:Nat→Prop} {w0:c7} {n:Nat} {σ σ':St} {R R':List LR} {ops:Array Oper}
def Hd(T:Ty)(σ:St):Op→Bool
 | .fieldAddr t (.tmp s) f=>match T.get t,σ.get s with
   | some i,some (.bx _)=>(vT i f).isSome
   | _,_=>false
 | _=>false
theorem Hc(hT:bH P T){a:Act}{w:World}(hR:Rel P B F0 w0 n σ a w){o:Oper}(h:Hd T σ o.op=true): ∃v,∀w',(execOp a.eval o).run P w'= .ok (.value v) w':=by
 obtain ⟨dst,op,ty,pos,after,guard⟩:=o;simp only[] at h;cases op<;>simp only[Hd] at h<;>try (cases h;done)
 rename_i t x f;cases x<;>simp only[Hd] at h<;>try (cases h;done)
 rename_i s;split at h<;>try (cases h;done)
 rename_i i ds hi hs;obtain ⟨⟨off,size,g⟩,hf⟩:=Option.isSome_iff_exists.1 h;obtain ⟨info,dd,z,hok⟩:=hT t i hi;obtain ⟨fs,fl,j,dd',h1,h2,h3,h4,h5,h6,h7,h8⟩:=pK hok hf;obtain ⟨O,hOr,hO⟩:=hR.own;obtain ⟨v,hv,b,cs,e,rfl,_⟩:=hO s _ hs;have he:a.eval (.tmp s)= .pointer (some ⟨b,0,none⟩):=ij hv;refine⟨.pointer (some ⟨b,0+off,none⟩),fun w'=>?_⟩;have hs:j.size≠0:=by omega
 simp[execOp,Instr.fieldAt,run_underlying h1,h2,he,Instr.sureAddr,fieldPlace,Go.sizeOf,typeInfo,h4,hs,h3,Addr.add_lit]
def iy(P:Program)(B:Nat)(F0:Nat→Prop)(w0:c7)(n:Nat)(ops:Array Oper)(Q:Exit→List LR→St→Prop)(R:List LR)(σ:St):Prop :=
 ∀(a:Act) (w:World),cK P B F0 w0 n R σ a w→wpAny P .any ops (fun e a' w'=> ∃R' σ',Q e R' σ'∧cK P B F0 w0 n R' σ' a' w') ops.size (Array.replicate ops.size false) a {w with drawn:=w.drawn+1}
variable {Q:Exit→List LR→St→Prop}
theorem AZ.any{id:Nat}(jG:P.follows .mixedOrders=true)(h:iy P B F0 w0 n ops Q R σ):AZ P B F0 w0 n (.region id ops true) Q R σ:=fun a w hR=>wp_region_any jG (h a w hR)
end
end Lift
namespace Lift
open Go
open Go.RowKit (Below)
section
variable {P:Program} {T:Ty} {B:Nat} {F0:Nat→Prop} {w0:c7} {n:Nat} {σ σ':St} {R R':List LR} {ops all:Array Oper} {l:List Oper} {x:Code} {a:Act} {w:World} {K:List LR→St→Prop} {p:lV}
theorem AZ.aw{Q:Exit→St→Prop}(h:AZ P B F0 w0 n x (fun e _ σ'=>Q e σ') [] σ):AW P B F0 w0 n x Q σ:=fun a w hR=>wp_mono (h a w hR.z) fun e a' w' ⟨R',σ',h1,h2⟩=>⟨σ',h1,h2.rel⟩
variable {Q:Exit→List LR→St→Prop}
theorem AZ.cQ{id:Nat}(h: ∀B1 F1 w1,ab P B1 F1 w1 n ops ops.toList (fun σ'=>σ'.gH=true∧Q .normal R σ') σ):AZ P B F0 w0 n (.region id ops false) Q R σ :=
 AZ.frame fun B1 F1 w1=>AW.region (h B1 F1 w1)
theorem cK.Hb{t i k e:Nat}{V:Value}{xs cs:List D}(hR:cK P B F0 w0 n R σ a w)(ht:σ.get t=some (.bx cs))(hk:cs[k]?=some (.v V))(hi:R[i]?=some (V,.ow e xs)):
  cK P B F0 w0 n (R.set i (V,.junk)) ((t,.bx (cs.set k (.sl (P.cellsOf e) xs)))::σ) a w:=by
 obtain ⟨O,hOr,hO,hL⟩:=hR.own
 let O':Nat→Option Nat:=fun b=>if O b=some (n+i) then none else O b
 have h1: ∀b t,O' b=some t→O b=some t:=fun b t h=>by
  simp only[O'] at h;split at h
  · cases h
  · exact h
 have h2: ∀b t,t≠n+i→O b=some t→O' b=some t:=fun b t ht h=>by
  simp only[O',h];rw[if_neg (by simpa using ht)]
 have hF: ∀c,aR O (FW B F0 w) c→aR O' (FW B F0 w) c:=fun c hc=>⟨by simp only[O',hc.1];simp,hc.2⟩
 have hlt: ∀t av,σ.get t=some av→t<n:=fun t av h=>by
  obtain ⟨v,hv,_⟩:=hO t av h;rw[← hR.size];exact(Array.getElem?_eq_some_iff.1 hv).1
 refine⟨hR.below,hR.base,hR.f0,hR.defers,hR.size,O',fun b t hb=>hOr b t (h1 b t hb),fun j av hav=>?_,fun j r hr=>?_⟩
 · have key: ∀j,(∀ds,St.get ((t,AV.bx (cs.set k (.sl (P.cellsOf e) xs)))::σ) j=some (.bx ds)→ ∃ds',σ.get j=some (.bx ds'))∧(∀x e' l,St.get ((t,AV.bx (cs.set k (.sl (P.cellsOf e) xs)))::σ) j=some x→x.row=some (e',l)→ ∃y l',σ.get j=some y∧y.row=some (e',l')∧l'.length=l.length∧y.tag=x.tag):=fun j=>by
    rw[St.aI];by_cases hj:t=j
    · subst hj;refine⟨fun ds _=>⟨cs,ht⟩,fun x e' l hx hrow=>?_⟩;rw[if_pos rfl] at hx;cases hx;simp[AV.row] at hrow
    · rw[if_neg hj];exact⟨fun ds hds=>⟨ds,hds⟩,fun x e' l hx hrow=>⟨x,l,hx,hrow,rfl,rfl⟩⟩
   rw[St.aI] at hav;split at hav
   · rename_i e';subst e';cases hav;obtain ⟨v,hv,b,cells,eb,rfl,g1,g2,g3⟩:=hO t _ ht;refine⟨_,hv,b,cells,eb,rfl,h2 b t (by have:=hlt t _ ht;omega) g1,g2,by simpa using g3.1,fun j d u hd hu=>?_⟩;by_cases hj:j=k
     · subst hj;rw[List.getElem?_set_self (List.getElem?_eq_some_iff.1 hk).1] at hd;cases hd;have:=(Rd.lZ (g3.2 j _ u hk hu).2).1;subst this;refine⟨rfl,?_⟩;rcases hL i _ hi with h | ⟨_,_,h⟩
       · cases h
       · rcases h with ⟨base,h3,h4⟩ | ⟨b',cap,cs',h3,h4,h5,h6,h7,h8,h9,h10⟩
         · simp only at h3 h4;subst h3;subst h4;exact .nil (Nat.zero_le _)
         · simp only at h3;subst h3;refine Rd.mI (off:=0) ⟨by simp only[O',h4];simp,(hOr b' _ h4).fw hR.f0⟩ h5 h6 h7 h9 (fun m d hd=>?_);obtain ⟨f1,u,f2,f3⟩:=h10 m d hd;exact⟨f1,u,by simpa using f2,f3.mono hF (fun _ _=>rfl)⟩
     · rw[List.getElem?_set_ne (Ne.symm hj)] at hd;exact⟨(g3.2 j d u hd hu).1,(g3.2 j d u hd hu).2.mono hF (fun _ _=>rfl)⟩
   · obtain ⟨v,hv,hr⟩:=hO j av hav;have hr':eG P w0.X w O' (FW B F0 w) σ.get (fun h=>a.tmps[h]?) j av v:=hr.move (fun c hc=>⟨hF c hc,rfl⟩) (fun _ c hc=>⟨h2 c j (by have:=hlt j av hav;omega) hc,rfl⟩) (fun k _ x _ hk=>⟨hk,rfl⟩);exact⟨v,hv,hr'.Hz (fun j _=>key j)⟩
 · by_cases hj:j=i
   · subst hj;rw[List.getElem?_set_self (List.getElem?_eq_some_iff.1 hi).1] at hr;cases hr;exact .inl rfl
   · have:=jT hj hr;rcases hL j r this with h | ⟨g1,g2,g3⟩
     · exact .inl h
     · exact .inr ⟨g1,g2,g3.move (fun c hc=>⟨hF c hc,rfl⟩) (fun _ c hc=>⟨h2 c _ (by omega) hc,rfl⟩) (fun k _ x _ hk=>by cases hk)⟩
theorem AZ.Hb(hT:bH P T)(t k i:Nat){V:Value}{e:Nat}{te:TI}{xs cs:List D}(ht:σ.get t=some (.bx cs))(hk:cs[k]?=some (.v V))(hi:R[i]?=some (V,.ow e xs))(he:T.get e=some te)
  (h:AZ P B F0 w0 n x Q (R.set i (V,.junk)) ((t,.bx (cs.set k (.sl te.size xs)))::σ)):AZ P B F0 w0 n x Q R σ:=by
 obtain ⟨info,d,z,hok⟩:=hT e te he;intro a w hR;have:=hR.Hb ht hk hi;rw[hok.cellsOf] at this;exact h a w this
end
end Lift
namespace Lift
open Go
open Go.RowKit (Below)
section
variable {P:Program} {T:Ty} {B:Nat} {F0:Nat→Prop} {w0:c7} {n:Nat} {σ σ':St} {R R':List LR} {ops:Array Oper}
variable {Q:Exit→Act→World→Prop}
variable {Q:Exit→List LR→St→Prop}
theorem ai.to{all:Array Oper}{l:List Oper}{K:List LR→St→Prop}{p:lV}(ks:List Nat)(τ:St)(h:σ.dW ks=τ)(hk:ai P B F0 w0 n all l K p R τ):ai P B F0 w0 n all l K p R σ:=ai.dW ks (h▸hk)
theorem AZ.to{c:Code}(ks:List Nat)(τ:St)(h:σ.dW ks=τ)(hk:AZ P B F0 w0 n c Q R τ):AZ P B F0 w0 n c Q R σ:=AZ.dW ks (h▸hk)
end
end Lift
namespace Lift
open Go
open Go.RowKit (Below)
def o9(O:Nat→Option Nat)(b:Nat):Prop:= ∃t,O b=some t
def jn(P:Program)(f:FuncId)(args:List D)(R:List LR)(Post:D→List LR→Prop):Prop :=
 sG P f∧ ∀(w:World) (F:Nat→Prop) (O:Nat→Option Nat) (vs:List Value),(∀b,F b→b<w.heap.size)→(∀b t,O b=some t→F b)→vs.length=args.length →
  (∀(i:Nat) (d:D) (v:Value),args[i]?=some d→vs[i]?=some v→Rd w (aR O F) d v)→(∀(i:Nat) (r:LR),R[i]?=some r→mC P w O F i r) →
  Calls P f vs.toArray w (fun ee w'=> ∃v res R' O',ee= .returned v∧Post res R'∧iq w.heap.size ⟨w,o9 O⟩ w w'∧(∀b t,O' b=some t→jP w.heap.size ⟨w,o9 O⟩ w' b)∧Rd w' (aR O' (FW w.heap.size F w')) res v ∧
   ∀(i:Nat) (r:LR),R'[i]?=some r→mC P w' O' (FW w.heap.size F w') i r)
section
variable {P:Program} {T:Ty} {B:Nat} {F0:Nat→Prop} {w0:c7} {n:Nat} {σ σ':St} {R R':List LR} {all:Array Oper} {l rest:List Oper} {o:Oper} {d:Nat} {K:List LR→St→Prop} {p:lV}
def ua(T:Ty)(σ:St):ResultVar→Option D
 | .tmp t=>dp T (ex T σ.get 0 (.tmp t))
 | .cell c t=>match T.get t,σ.get c with
   | some i,some (.bx ds)=>match kf i ds with
     | some (.d x)=>some x
     | _=>none
   | _,_=>none
def qc(T:Ty)(σ:St):List ResultVar→Option (List D)
 | []=>some []
 | r::rs=>match ua T σ r,qc T σ rs with
   | some d,some ds=>some (d::ds)
   | _,_=>none
def Eg(T:Ty)(σ:St)(rs:List ResultVar):Option D:=match qc T σ rs with
 | some [d]=>some d
 | some []=>some (.tu [])
 | some (d::e::r)=>some (.tu (d::e::r))
 | none=>none
def J'(T:Ty)(rs:List ResultVar)(Post:D→List LR→Prop):Exit→List LR→St→Prop
 | .normal,R,σ=> ∃res,Eg T σ rs=some res∧Post res R
 | .ret,R,σ=> ∃res,Eg T σ rs=some res∧Post res R
 | .exit _,_,_=>False
 | .goto _,_,_=>False
 | .panic _,_,_=>False
 | .outgrown,_,_=>False
theorem wH(hT:bH P T){a:Act}{w:World}{O:Nat→Option Nat}(hR:Rel P B F0 w0 n σ a w)(hOr: ∀b t,O b=some t→jP B w0 w b)
  (hO: ∀t av,σ.get t=some av→ ∃v,a.tmps[t]?=some v∧eG P w0.X w O (FW B F0 w) σ.get (fun h=>a.tmps[h]?) t av v) {r:ResultVar} {d:D} (h:ua T σ r=some d):
  ∃v,(nj a.tmps r).run P w= .ok v w∧Rd w (aR O (FW B F0 w)) d v:=by
 have hI:Inv P B F0 w0 (fun _=>True) σ.get σ.get a w O:=⟨hR.below,hR.base,hR.f0,hOr,fun t _ av h=>hO t av h,fun t av h _=>hO t av h⟩;cases r with
 | tmp t =>
   simp only[ua] at h;exact⟨_,rfl,dY hT hI (fun _ _=>trivial) h⟩
 | cell c t =>
   simp only[ua] at h;split at h<;>try (cases h;done)
   rename_i i ds hi hc;split at h<;>simp at h;rename_i y hy;subst h;obtain ⟨info,dd,z,hok⟩:=hT t i hi;obtain ⟨u,hu,b,cs,e,rfl,h2,h3,h4⟩:=hO c _ hc;obtain ⟨x,v,hx,hrun,hrd⟩:=lK (off:=0) hok h3 (fun j x hj=>by obtain ⟨g1,g2⟩:=h4.get hj;exact⟨g1,by simpa using g2⟩) hy;simp at hx;subst hx;refine⟨v,?_,hrd⟩;have hgd:a.tmps.getD c undef= .pointer (some ⟨b,0,none⟩):=by simp[Array.getD_eq_getD_getElem?,hu]
   simp only[nj,hgd,asAddr,Sem.run_bind,Sem.run_pure,Result.andThen_ok,hrun]
theorem iW(hT:bH P T){a:Act}{w:World}{O:Nat→Option Nat}(hR:Rel P B F0 w0 n σ a w)(hOr: ∀b t,O b=some t→jP B w0 w b)
  (hO: ∀t av,σ.get t=some av→ ∃v,a.tmps[t]?=some v∧eG P w0.X w O (FW B F0 w) σ.get (fun h=>a.tmps[h]?) t av v): ∀(rs:List ResultVar) (ds:List D),qc T σ rs=some ds →
  ∃vs:List Value,(rs.mapM (nj a.tmps)).run P w= .ok vs w∧vs.length=ds.length ∧
   ∀(i:Nat) (d:D) (v:Value),ds[i]?=some d→vs[i]?=some v→Rd w (aR O (FW B F0 w)) d v
 | [],ds,h=>by simp[qc] at h;subst h;exact⟨[],by simp,rfl,fun i d v h=>by simp at h⟩
 | r::rs,ds,h=>by
   simp only[qc] at h;split at h<;>simp at h;rename_i d ds' h1 h2;subst h;obtain ⟨v,hv,hr⟩:=wH hT hR hOr hO h1;obtain ⟨vs,hvs,hl,hall⟩:=iW hT hR hOr hO rs ds' h2;refine⟨v::vs,?_,by simp[hl],fun i d' u h3 h4=>?_⟩
   · simp only[List.mapM_cons,Sem.run_bind,Result.andThen_ok,hvs,Sem.run_pure,hv]
   · cases i with
     | zero=>simp at h3 h4;subst h3;subst h4;exact hr
     | succ i=>exact hall i d' u (by simpa using h3) (by simpa using h4)
theorem Bj(hT:bH P T){fn:Func}{rs:List ResultVar}(hrs:fn.results.toList=rs){a:Act}{w:World}{O:Nat→Option Nat}(hR:Rel P B F0 w0 n σ a w)(hOr: ∀b t,O b=some t→jP B w0 w b)
  (hO: ∀t av,σ.get t=some av→ ∃v,a.tmps[t]?=some v∧eG P w0.X w O (FW B F0 w) σ.get (fun h=>a.tmps[h]?) t av v) {res:D} (hq:Eg T σ rs=some res):
  ∃v,(results fn a.tmps).run P w= .ok v w∧Rd w (aR O (FW B F0 w)) res v:=by
 unfold Eg at hq;split at hq<;>simp at hq
 · rename_i d hd;subst hq;obtain ⟨vs',hrun,hl',hall⟩:=iW hT hR hOr hO rs _ hd
   match vs',hl' with
   | [v],_ =>
     refine⟨v,?_,hall 0 d v rfl rfl⟩;rw[dP];simp only[Sem.run_bind,Array.mapM_eq_mapM_toList,hrs,Sem.run_map,hrun,Result.andThen_ok,Sem.run_pure];rfl
 · rename_i hd;subst hq;obtain ⟨vs',hrun,hl',hall⟩:=iW hT hR hOr hO rs _ hd
   match vs',hl' with
   | [],_ =>
     refine⟨.tuple #[],?_,Rd.tu (vs:=[]) rfl (fun i d v h=>by simp at h)⟩;rw[dP];simp only[Sem.run_bind,Array.mapM_eq_mapM_toList,hrs,Sem.run_map,hrun,Result.andThen_ok,Sem.run_pure];rfl
 · rename_i d e r hd;subst hq;obtain ⟨vs',hrun,hl',hall⟩:=iW hT hR hOr hO rs _ hd;refine⟨.tuple vs'.toArray,?_,Rd.tu hl' (fun i d v h1 h2=>hall i d v h1 h2)⟩;rw[dP];simp only[Sem.run_bind,Array.mapM_eq_mapM_toList,hrs,Sem.run_map,hrun,Result.andThen_ok,Sem.run_pure];rw[dif_neg (by simp at hl' ⊢; omega)]
theorem mC.owner{w:World}{O O':Nat→Option Nat}{F F':Nat→Prop}{s t:Nat}{r:LR}(h:mC P w O F s r)(hO: ∀c,O c=some s→O' c=some t)(hF: ∀c,aR O F c→aR O' F' c):mC P w O' F' t r:=by
 rcases h with h | ⟨h1,h2,h3⟩
 · exact .inl h
 · exact .inr ⟨h1,h2,h3.owner h1 h2 hO hF⟩
theorem jn.intro{f:FuncId}{fn:Func}{c:Code}{rs:List ResultVar}{args:List D}{Post:D→List LR→Prop}(hT:bH P T)(hf:P.funcs[f]?=some fn)(hb:fn.body=some c)(hrs:fn.results.toList=rs)(hn:fn.ntmps=n)(hl:args.length≤n)(hnm:(fn.name=="runtime.NumGoroutine")=false)
  (h: ∀(B:Nat) (F0:Nat→Prop) (w0:c7),AZ P B F0 w0 n c (J' T rs Post) R (ki 0 args)):jn P f args R Post:=by
 refine⟨⟨fn,hf,hnm,by simp[hb]⟩,fun w F O vs hF hOF hlen hr hL=>?_⟩
 let Oz:Nat→Option Nat:=fun b=>(O b).map (n+ ·)
 have hOz: ∀b t,Oz b=some t→ ∃s,O b=some s∧t=n+s:=fun b t h=>by
  simp only[Oz,Option.map_eq_some_iff] at h;obtain ⟨s,h1,h2⟩:=h;exact⟨s,h1,h2.symm⟩
 have hfr: ∀c,aR O F c→aR Oz (FW w.heap.size F w) c:=fun c hc=>⟨by simp[Oz,hc.1],.inl hc.2⟩;refine calls_of_wp hf hb (wp_mono (h w.heap.size F ⟨w,o9 O⟩ _ w ?_) ?_)
 · refine⟨.refl _ _ _,ak _,⟨hF,fun b ⟨t,hb⟩=>hOF b t hb⟩,rfl,?_,Oz,(fun b t hb=>?_),(fun t av hav=>?_),fun i r hr=>?_⟩
   · simp[hn];omega
   · obtain ⟨s,h1,_⟩:=hOz b t hb;exact⟨.inr ⟨s,h1⟩,hF b (hOF b s h1)⟩
   · rw[iO] at hav;simp only[Nat.zero_le,if_true,Nat.sub_zero,Option.map_eq_some_iff] at hav;obtain ⟨d,hd,rfl⟩:=hav;have hlt:t<vs.length:=by rw[hlen];exact(List.getElem?_eq_some_iff.1 hd).1
     refine⟨vs[t],by simp[Array.getElem?_append,hlt],?_⟩;exact(hr t d _ hd (a8 hlt)).mono hfr (fun _ _=>rfl)
   · exact(hL i r hr).owner (fun c hc=>by simp[Oz,hc]) hfr
 · rintro ee a w' ⟨R',σ',hq,hR⟩
   obtain ⟨O2,hOr2,hO2,hL2⟩:=hR.own
   let O3:Nat→Option Nat:=fun b=>match O2 b with
    | some t=>if n≤t then some (t-n) else none
    | none=>none
   have h3n: ∀c,O2 c=none→O3 c=none:=fun c hc=>by simp only[O3,hc]
   have h3: ∀c t,O3 c=some t→O2 c=some (n+t):=fun c t hc=>by
    simp only[O3] at hc;split at hc
    · rename_i s hs;split at hc
      · cases hc;rw[hs];congr 1;omega
      · cases hc
    · cases hc
   have key:(∃res,Eg T σ' rs=some res∧Post res R')→a.defers=[]∧ ∃v,(results fn a.tmps).run P w'= .ok v w'∧ ∃v' res R' O',Ending.returned v= .returned v'∧Post res R'∧iq w.heap.size ⟨w,o9 O⟩ w w'∧(∀b t,O' b=some t→jP w.heap.size ⟨w,o9 O⟩ w' b)∧Rd w' (aR O' (FW w.heap.size F w')) res v' ∧
     ∀(i:Nat) (r:LR),R'[i]?=some r→mC P w' O' (FW w.heap.size F w') i r:=fun ⟨res,hq,hP⟩=>by
    refine⟨hR.defers,?_⟩;obtain ⟨v,hv,hrd⟩:=Bj hT hrs hR.rel hOr2 hO2 hq;refine⟨v,hv,v,res,R',O3,rfl,hP,hR.below,fun b t hb=>hOr2 b _ (h3 b t hb),hrd.mono (fun c hc=>⟨h3n c hc.1,hc.2⟩) (fun _ _=>rfl),fun i r hr=>?_⟩;exact(hL2 i r hr).owner (fun c hc=>by simp only[O3,hc];rw[if_pos (by omega)];congr 1;omega) (fun c hc=>⟨h3n c hc.1,hc.2⟩)
   cases ee with
   | normal=>exact key hq
   | ret=>exact key hq
   | exit _=>exact hq.elim
   | goto _=>exact hq.elim
   | panic _=>exact hq.elim
   | outgrown=>exact hq.elim
end
end Lift
namespace Lift
open Go
open Go.RowKit (Below)
section
variable {P:Program} {T:Ty} {B:Nat} {F0:Nat→Prop} {w0:c7} {n:Nat} {σ σ':St} {R R':List LR} {all:Array Oper} {l rest:List Oper} {o:Oper} {d:Nat} {K:List LR→St→Prop} {p:lV}
def tj(R:List LR):List Nat→Option (List LR)
 | []=>some []
 | i::r=>match R[i]?,tj R r with
   | some x,some xs=>some (x::xs)
   | _,_=>none
def C0(R:List LR):List Nat→List LR→List LR
 | i::is,r::rs=>C0 (R.set i r) is rs
 | [],rs=>R++rs
 | _::_,[]=>R
theorem zt: ∀{is:List Nat} {Rs:List LR},tj R is=some Rs→Rs.length=is.length∧ ∀(k:Nat) (r:LR),Rs[k]?=some r→ ∃i:Nat,is[k]?=some i∧R[i]?=some r
 | [],Rs,h=>by simp[tj] at h;subst h;exact⟨rfl,fun k r h=>by simp at h⟩
 | i::is,Rs,h=>by
   simp only[tj] at h;split at h<;>simp at h;rename_i x xs h1 h2;subst h;obtain ⟨g1,g2⟩:=zt h2;refine⟨by simp[g1],fun k r hk=>?_⟩;cases k with
   | zero=>simp at hk;subst hk;exact⟨i,rfl,h1⟩
   | succ k=>simpa using g2 k r (by simpa using hk)
theorem Cn: ∀{is:List Nat} {Rs:List LR},tj R is=some Rs→ ∀i,i∈is→i<R.length
 | [],Rs,h,i,hi=>by cases hi
 | j::is,Rs,h,i,hi=>by
   simp only[tj] at h;split at h<;>simp at h;rename_i x xs h1 h2;rcases List.mem_cons.1 hi with rfl | hi
   · exact(List.getElem?_eq_some_iff.1 h1).1
   · exact Cn h2 i hi
theorem y7: ∀{is:List Nat} {R R1:List LR} {j:Nat} {r:LR},is.length≤R1.length→(∀i,i∈is→i<R.length)→is.Nodup→(C0 R is R1)[j]?=some r →
  (∃k:Nat,is[k]?=some j∧R1[k]?=some r)∨(j ∉ is∧j<R.length∧R[j]?=some r)∨ ∃k:Nat,j=R.length+k∧R1[is.length+k]?=some r
 | [],R,R1,j,r,_,_,_,h=>by
   have h:(R++R1)[j]?=some r:=by cases R1<;>simpa[C0] using h
   rcases Nat.lt_or_ge j R.length with hj | hj
   · rw[List.getElem?_append_left hj] at h;exact .inr (.inl ⟨by simp,hj,h⟩)
   · rw[List.getElem?_append_right hj] at h;exact .inr (.inr ⟨j-R.length,by omega,by simpa using h⟩)
 | i::is,R,[],j,r,hl,_,_,h=>by simp at hl
 | i::is,R,x::R1,j,r,hl,hlt,hnd,h=>by
   simp only[C0] at h;have hni:=(List.nodup_cons.1 hnd).1;have hil:=hlt i (by simp);rcases y7 (is:=is) (R:=R.set i x) (by simpa using hl) (fun k hk=>by simpa using hlt k (by simp[hk])) (List.nodup_cons.1 hnd).2 h with ⟨k,g1,g2⟩ | ⟨g1,g2,g3⟩ | ⟨k,g1,g2⟩
   · exact .inl ⟨k+1,by simpa using g1,by simpa using g2⟩
   · by_cases hj:j=i
     · subst hj;rw[List.getElem?_set_self hil] at g3;exact .inl ⟨0,rfl,by simpa using g3⟩
     · rw[List.getElem?_set_ne (Ne.symm hj)] at g3;exact .inr (.inl ⟨by simp[hj,g1],by simpa using g2,g3⟩)
   · refine .inr (.inr ⟨k,by simpa using g1,?_⟩);rw[show (i::is).length+k=(is.length+k)+1 by simp;omega];simpa using g2
theorem Dj{is:List Nat}(h:is.Nodup): ∀{j k x:Nat},is[j]?=some x→is[k]?=some x→j=k:=by
 intro j k x h1 h2;obtain ⟨a1,b1⟩:=List.getElem?_eq_some_iff.1 h1;obtain ⟨a2,b2⟩:=List.getElem?_eq_some_iff.1 h2;rcases Nat.lt_trichotomy j k with g | g | g
 · exact absurd (b1.trans b2.symm) (List.pairwise_iff_getElem.1 h j k a1 a2 g)
 · exact g
 · exact absurd (b2.trans b1.symm) (List.pairwise_iff_getElem.1 h k j a2 a1 g)
set_option maxHeartbeats 800000 in
theorem ai.iD(hT:bH P T){f:FuncId}{ds:List D}(is:List Nat){Rs:List LR}{Post:D→List LR→Prop}(hd:o.dst=some d)(hdn:Nat.ble (d+1) n=true)(hg:o.guard=none)(hx:xL T σ.get o.op=some (f,ds))(hsel:tj R is=some Rs)(hnd:is.Nodup)(hpin:iz p [o]=true)
  (hP:jn P f ds Rs Post) (hlen: ∀res R1,Post res R1→is.length≤R1.length) (h: ∀res R1,Post res R1→ai P B F0 w0 n all rest K p (C0 R is R1) ((d,.d res)::σ)):ai P B F0 w0 n all (o::rest) K p R σ:=by
 intro a w hR hpins Q hQ;unfold wpList;rw[if_pos (by simp[Region.wanted,hg])];refine .inl ?_;obtain ⟨O,hOr,hO,hL⟩:=hR.own;obtain ⟨dst,op,ty,pos,after,guard⟩:=o;simp only[] at hd hx hg;have hdo: ∀v:Value,a.put dst v=a.put (some d) v:=fun v=>by rw[hd]
 have hpin':=nw hpin;cases op<;>simp only[xL] at hx<;>try (cases hx;done)
 rename_i c;obtain ⟨callee,args,ats⟩:=c;simp only[] at hx;split at hx<;>try (cases hx;done)
 rename_i g;split at hx<;>simp at hx;rename_i ds' hds;obtain ⟨rfl,rfl⟩:=hx;have hI:Inv P B F0 w0 (fun _=>True) σ.get σ.get a w O:=⟨hR.below,hR.base,hR.f0,hOr,fun t _ av h=>hO t av h,fun t av h _=>hO t av h⟩;have hr:=j4 hT hI args.toList ats.toList ds' (fun x hx t ht=>trivial) hds;unfold Oper.wp;rw[lP hP.1];show Calls P g (args.map a.eval) w _
 let pass:Nat→Prop:=fun t=> ∃i,i∈is∧t=n+i
 let Oc:Nat→Option Nat:=fun b=>match O b with
  | some t=>if n≤t then is.idxOf? (t-n) else none
  | none=>none
 let Fc:Nat→Prop:=fun b=>FW B F0 w b∧ ∀t,O b=some t→pass t
 have hlt:=Cn hsel;obtain ⟨hsl,hsg⟩:=zt hsel
 have hOc: ∀b k,Oc b=some k→ ∃i,is[k]?=some i∧O b=some (n+i):=fun b k h=>by
  simp only[Oc] at h;split at h
  · rename_i t ht;split at h
    · rename_i hnt;rw[List.idxOf?,List.findIdx?_eq_some_iff_getElem] at h;obtain ⟨h1,h2,_⟩:=h;refine⟨is[k],a8 h1,?_⟩;have:is[k]=t-n:=by simpa using h2
      rw[this,ht];congr 1;omega
    · cases h
  · cases h
 have hOc': ∀b k i,is[k]?=some i→O b=some (n+i)→Oc b=some k:=fun b k i hk hb=>by
  simp only[Oc,hb];rw[if_pos (by omega),show n+i-n=i by omega,List.idxOf?,List.findIdx?_eq_some_iff_getElem];obtain ⟨h1,h2⟩:=List.getElem?_eq_some_iff.1 hk;refine⟨h1,by simp[h2],fun j hj=>?_⟩;intro hc;have hc:is[j]=i:=by simpa using hc
  have:=Dj hnd (a8 (by omega:j<is.length)) (by rw[hk,hc]:is[k]?=some is[j]);omega
 have hOcn: ∀b,(∀t,O b=some t→ ¬pass t)→Oc b=none:=fun b hb=>by
  cases h:Oc b with
  | none=>rfl
  | some k =>
    obtain ⟨i,h1,h2⟩:=hOc b k h;exact(hb _ h2 ⟨i,List.mem_of_getElem? h1,rfl⟩).elim
 have hOwn: ∀b,o9 Oc b↔ ∃t,O b=some t∧pass t:=fun b=>by
  constructor
  · intro ⟨k,hk⟩;obtain ⟨i,h1,h2⟩:=hOc b k hk;exact⟨_,h2,i,List.mem_of_getElem? h1,rfl⟩
  · intro ⟨t,ht,i,hi,hti⟩;obtain ⟨k,hk,rfl⟩:=List.getElem_of_mem hi;subst hti;exact⟨k,hOc' b k _ (a8 hk) ht⟩
 have hFlt: ∀b,FW B F0 w b→b<w.heap.size:=fun b hb=>(FW.step hR.f0 hR.base (ak _) b hb).1;have hfr: ∀c,aR O (FW B F0 w) c→aR Oc Fc c:=fun c hc=>⟨hOcn c (fun t ht=>by rw[hc.1] at ht;cases ht),hc.2,fun t ht=>by rw[hc.1] at ht;cases ht⟩
 have hc:=hP.2 w Fc Oc (args.toList.map a.eval) (fun b hb=>hFlt b hb.1) (fun b k hb=>by
   obtain ⟨i,h1,h2⟩:=hOc b k hb
   exact⟨(hOr b _ h2).fw hR.f0,fun t ht=>by rw[h2] at ht;cases ht;exact⟨i,List.mem_of_getElem? h1,rfl⟩⟩) hr.1 (fun i d v h1 h2=>(hr.2 i d v h1 h2).mono hfr (fun _ _=>rfl))
  (fun k r hk=>by
   obtain ⟨i,h1,h2⟩:=hsg k r hk
   exact(hL i r h2).owner (fun c hc=>hOc' c k i h1 hc) hfr)
 have he:(args.toList.map a.eval).toArray=args.map a.eval:=by apply Array.ext';simp
 rw[he] at hc;refine hc.mono fun ee w' ⟨v,res,R1,O1,he,hPost,hbel,hOr1,hrd,hL1⟩=>?_;subst he;show wpList P all Q rest (a.put dst v) w';have hsz:w.heap.size≤w'.heap.size:=hbel.size;have hlen1:=hlen res R1 hPost
 let tg:Nat→Nat:=fun k=>match is[k]? with
  | some i=>i
  | none=>R.length+(k-is.length)
 let cv:Option Nat→Option Nat:=fun x=>x.map (fun k=>n+tg k)
 let O3:Nat→Option Nat:=fun b=>match O b with
  | some t=>if t<n∨t-n ∉ is then some t else cv (O1 b)
  | none=>cv (O1 b)
 have hO1: ∀b k,O1 b=some k→O3 b=cv (O1 b):=fun b k hk=>by
  simp only[O3];split
  · rename_i t ht;rw[if_neg];intro hcon;rcases (hOr1 b k hk).1 with g1 | g1
    · have g1:w.heap.size≤b:=g1;have:=(hOr b t ht).2;omega
    · obtain ⟨t',h1,i,h2,h3⟩:=(hOwn b).1 g1;rw[ht] at h1;cases h1;subst h3;rcases hcon with h | h
      · omega
      · exact h (by rwa [show n+i-n=i by omega])
  · rfl
 have h3n: ∀c,(O c=none∨ ∃t,O c=some t∧pass t)→O1 c=none→O3 c=none:=fun c hc h1=>by
  simp only[O3];split
  · rename_i t ht;rcases hc with hc | ⟨t',h2,i,h3,h4⟩
    · rw[hc] at ht;cases ht
    · rw[ht] at h2;cases h2;subst h4;rw[if_neg (fun h=>?_),h1];rfl;rcases h with h | h
      · omega
      · exact h (by rwa [show n+i-n=i by omega])
  · rw[h1];rfl
 have hfree0: ∀c,aR O (FW B F0 w) c→aR O3 (FW B F0 w') c∧w'.heap[c]?=w.heap[c]?:=fun c hc=>by
  have hcl:=hFlt c hc.2
  have hnx: ¬o9 Oc c:=fun h=>by
   obtain ⟨t,h1,_⟩:=(hOwn c).1 h;rw[hc.1] at h1;cases h1
  refine⟨⟨h3n c (.inl hc.1) ?_,?_⟩,hbel.block c hcl hnx⟩
  · cases h:O1 c with
    | none=>rfl
    | some k =>
      exfalso;rcases (hOr1 c k h).1 with g1 | g1
      · have g1:w.heap.size≤c:=g1;omega
      · exact hnx g1
  · rcases hc.2 with g | ⟨g1,g2⟩
    · exact .inl g
    · exact .inr ⟨g1,Nat.lt_of_lt_of_le g2 hsz⟩
 have hkeep: ∀t,¬pass t→ ∀c,O c=some t→O3 c=some t∧w'.heap[c]?=w.heap[c]?:=fun t ht c hc=>by
  have hnx: ¬o9 Oc c:=fun h=>by
   obtain ⟨t',h1,h2⟩:=(hOwn c).1 h;rw[hc] at h1;cases h1;exact ht h2
  refine⟨?_,hbel.block c (hOr c t hc).2 hnx⟩;simp only[O3,hc];rw[if_pos];rcases Nat.lt_or_ge t n with h | h
  · exact .inl h
  · exact .inr (fun hm=>ht ⟨t-n,hm,by omega⟩)
 have hfree1: ∀c,aR O1 (FW w.heap.size Fc w') c→aR O3 (FW B F0 w') c:=fun c hc=>by
  rcases hc.2 with g | ⟨g1,g2⟩
  · refine⟨h3n c ?_ hc.1,?_⟩
    · cases h:O c with
      | none=>exact .inl rfl
      | some t=>exact .inr ⟨t,rfl,g.2 t h⟩
    · rcases g.1 with g | ⟨g1,g2⟩
      · exact .inl g
      · exact .inr ⟨g1,Nat.lt_of_lt_of_le g2 hsz⟩
  · refine⟨h3n c (.inl ?_) hc.1,.inr ⟨Nat.le_trans hR.base g1,g2⟩⟩;cases h:O c with
    | none=>rfl
    | some t=>have:=(hOr c t h).2;omega
 have hdn':d<n:=Nat.le_of_ble_eq_true hdn
 have hX: ∀b,o9 Oc b→B≤b∨w0.X b:=fun b hb=>by
  obtain ⟨t,h1,_⟩:=(hOwn b).1 hb;exact(hOr b t h1).1
 rw[hdo v];refine h res R1 hPost (a.put (some d) v) w' ⟨hR.below.back (w1:=⟨w,o9 Oc⟩) hR.base hX hbel,Nat.le_trans hR.base hsz,hR.f0,by simp[Act.put,hR.defers],by simp[Act.put,hR.size],O3,fun b t hb=>?_,fun t av hav=>?_,fun j r hj=>?_⟩ (fun e he=>?_) Q hQ
 · have e2: ∀k,O1 b=some k→jP B w0 w' b:=fun k hk=>by
    refine⟨?_,(hOr1 b k hk).2⟩;rcases (hOr1 b k hk).1 with g | g
    · exact .inl (Nat.le_trans hR.base g)
    · exact hX b g
   have e3:cv (O1 b)=some t→jP B w0 w' b:=fun h=>by
    cases h1:O1 b with
    | none=>rw[h1] at h;cases h
    | some k=>exact e2 k h1
   simp only[O3] at hb;split at hb
   · rename_i t' ht';split at hb
     · exact⟨(hOr b t' ht').1,Nat.lt_of_lt_of_le (hOr b t' ht').2 hsz⟩
     · exact e3 hb
   · exact e3 hb
 · rw[St.aI] at hav;split at hav
   · rename_i e;subst e;cases hav;exact⟨v,fO (by rw[hR.size];exact hdn'),hrd.mono hfree1 (fun _ _=>rfl)⟩
   · rename_i htd;obtain ⟨u,hu,hur⟩:=hO t av hav;have htn:t<n:=by rw[← hR.size];exact(Array.getElem?_eq_some_iff.1 hu).1
     refine⟨u,by rw[dH (Ne.symm htd)];exact hu,?_⟩;refine hur.move hfree0 (fun _ c hc=>hkeep t (fun ⟨i,_,hti⟩=>by omega) c hc) (fun k hk x hx hg=>?_);rw[St.aI] at hg;split at hg
     · cases hg;cases hx
     · rename_i hkd;exact⟨hg,dH (Ne.symm hkd)⟩
 · rcases y7 hlen1 hlt hnd hj with ⟨k,g1,g2⟩ | ⟨g1,g2,g3⟩ | ⟨k,g1,g2⟩
   · exact(hL1 k r g2).owner (fun c hc=>by rw[hO1 c k hc,hc];simp only[cv,tg,g1,Option.map_some]) hfree1
   · rcases hL j r g3 with h | ⟨h1,h2,h3⟩
     · exact .inl h
     · exact .inr ⟨h1,h2,h3.move hfree0 (fun _ c hc=>hkeep (n+j) (fun ⟨i,hi,hti⟩=>g1 (by rwa [show j=i by omega])) c hc) (fun k _ x _ hk=>by cases hk)⟩
   · subst g1;refine(hL1 _ r g2).owner (fun c hc=>?_) hfree1;rw[hO1 c _ hc,hc];have:is[is.length+k]?=none:=List.getElem?_eq_none (by omega);simp only[cv,tg,this,Option.map_some]
     congr 2;omega
 · have hne:e.1≠d:=fun h=>hpin' e he _ (List.mem_singleton.2 rfl) (by simp only[];rw[h];exact hd);rw[dH hne];exact hpins e he
end
end Lift
namespace Lift
open Go
open Go.RowKit (Below)
section
variable {P:Program} {T:Ty} {B:Nat} {F0:Nat→Prop} {w0:c7} {n:Nat} {σ σ' τ σ0:St} {R R':List LR} {ops all:Array Oper} {l rest:List Oper} {o:Oper} {d:Nat} {lk hm:Nat→Option AV} {K:List LR→St→Prop} {p:lV} {ds:List Nat}
def eV(V:Value)(k:Nat):Value:=match V with
 | .slice (some ⟨b,o,x⟩) _ _=> .pointer (some ⟨b,o+k,x⟩)
 | _=>undef
theorem Seen.plain{V:Value}{e:Nat}{xs:List D}(h:Seen P B F0 w0 V e xs)(k:Nat): ∃b cap,V= .slice (some ⟨b,0,none⟩) xs.length cap∧eV V k= .pointer (some ⟨b,k,none⟩):=by
 obtain ⟨b,cap,cs,rfl,_⟩:=h;exact⟨b,cap,rfl,by simp[eV]⟩
def G5(T:Ty)(lk:Nat→Option AV):Op→Option (Value×Nat×Int)
 | .indexAddr t x i=>match T.get t,dp T (ex T lk 0 x),j8 (dp T (ex T lk 0 i)) with
   | some ti,some (.v V),some (.int _ iv)=>match Nat.beq ti.kind 4,T.get ti.elem with
     | true,some te=>some (V,te.size,iv)
     | _,_=>none
   | _,_,_=>none
 | _=>none
theorem aK.idxs(hT:bH P T){V:Value}{e s:Nat}{xs:List D}{iv:Int}(hS:Seen P B F0 w0 V e xs)(hd:o.dst=some d)(hn:hm d=none)(h:G5 T lk o.op=some (V,s,iv))(h0:0≤iv)(hl:iv.toNat<xs.length):aK P B F0 w0 d o lk hm (.d (.v (eV V (iv.toNat*s)))):=by
 refine⟨hd,hn,fun a w O hI K Q hK=>?_⟩;obtain ⟨dst,op,ty,pos,after,guard⟩:=o;simp only[] at hd h hI;cases op<;>simp only[G5] at h<;>try (cases h;done)
 rename_i t x i;split at h<;>try (cases h;done)
 rename_i ti V' k iv' hti hx hi;split at h<;>simp at h;rename_i te hk hte;obtain ⟨rfl,rfl,rfl⟩:=h;obtain ⟨info,dd,z,hok⟩:=hT t ti hti;obtain ⟨info',dd',z',hok'⟩:=hT _ te hte;have hxv:=(dY hT hI (fun t ht=>by subst ht;simp[Op.operands]) hx).lZ.1;have hiv:=(cL hT hI (fun t ht=>by subst ht;simp[Op.operands]) hi).1;obtain ⟨b,cap,hV,hp⟩:=hS.plain (iv'.toNat*te.size);rw[hV] at hxv;refine br (v:=eV V' (iv'.toNat*te.size)) (w':=w) ?_ (hK _ w O (dy.refl hI.lt) (.v (by rw[hp];rfl)));have h1:0≤iv'∧iv'<(xs.length:Int):=by omega
 rw[hp];simp[execOp,Instr.indexAt,hxv,hiv,asIntOf,run_underlying (hok.jF hk).1,h1,Go.sizeOf,typeInfo,hok'.hinfo,hok'.size,Addr.add_lit]
def Cx(T:Ty)(lk:Nat→Option AV):Op→Option (TI×Value)
 | .load t x=>match T.get t,dp T (ex T lk 0 x) with
   | some ti,some (.v V)=>some (ti,V)
   | _,_=>none
 | _=>none
theorem aK.bc(hT:bH P T){V:Value}{e i s:Nat}{xs:List D}{ti te:TI}{y:D}{av:AV}(hS:Seen P B F0 w0 V e xs)(hd:o.dst=some d)(hn:hm d=none)(h:Cx T lk o.op=some (ti,eV V (i*s)))(hte:T.get e=some te)(hs:te.size=s)(hy:xs[i]?=some y)(hav:kf ti y.flat=some av):
  aK P B F0 w0 d o lk hm av:=by
 refine⟨hd,hn,fun a w O hI K Q hK=>?_⟩;obtain ⟨dst,op,ty,pos,after,guard⟩:=o;simp only[] at hd h hI;cases op<;>simp only[Cx] at h<;>try (cases h;done)
 rename_i t x;split at h<;>simp at h;rename_i ti' V' hti hx;obtain ⟨rfl,rfl⟩:=h;obtain ⟨info,dd,z,hok⟩:=hT t ti' hti;obtain ⟨info',dd',z',hok'⟩:=hT _ te hte;have hxv:=(dY hT hI (fun t ht=>by subst ht;simp[Op.operands]) hx).lZ.1;obtain ⟨b,cap,cs,hV,h1,h2,h3,h4,h5⟩:=hS;have hp:eV V (i*s)= .pointer (some ⟨b,i*s,none⟩):=by rw[hV];simp[eV]
 rw[hp] at hxv;have hb:w.heap[b]?=some (.cells cs e (0,0)):=by rw[hI.below.block b h1 h2];exact h3
 have hsz:P.cellsOf e=s:=by rw[hok'.cellsOf,hs]
 obtain ⟨x',v,rfl,hrun,hrd⟩:=lK (F:=aR O (FW B F0 w)) hok hb (off:=i*s) (fun j z hj=>by
  have hlt:j<P.cellsOf e:=by rw[← h4 y (List.mem_of_getElem? hy)];exact(List.getElem?_eq_some_iff.1 hj).1
  have:=cP j h4 hy hlt;rw[hj] at this;obtain ⟨f1,u,f2,f3⟩:=h5 _ z this
  exact⟨f1,u,by rw[← hsz];exact f2,f3 w O hI.below hI.orange⟩) hav
 exact br (v:=v) (w':=w) (by simp[execOp,Instr.loadAt,Instr.sureAddr,hxv,hrun]) (hK _ w O (dy.refl hI.lt) hrd)
def GX(T:Ty)(lk:Nat→Option AV):Op→Option Value
 | .call c=>match c.callee with
   | .builtin .len=>match c.args.toList,c.argTypes.toList with
     | [x],[t]=>match T.get t,dp T (ex T lk 0 x) with
       | some i,some (.v V)=>match Nat.beq i.kind 4 with
         | true=>some V
         | false=>none
       | _,_=>none
     | _,_=>none
   | _=>none
 | _=>none
theorem aK.lens(hT:bH P T){V:Value}{e:Nat}{xs:List D}(hS:Seen P B F0 w0 V e xs)(hd:o.dst=some d)(hn:hm d=none)(h:GX T lk o.op=some V):aK P B F0 w0 d o lk hm (.d (.v (.int .i64 (xs.length:Int)))):=by
 refine⟨hd,hn,fun a w O hI K Q hK=>?_⟩;obtain ⟨dst,op,ty,pos,after,guard⟩:=o;simp only[] at hd h hI;cases op<;>simp only[GX] at h<;>try (cases h;done)
 rename_i c;obtain ⟨callee,args,ats⟩:=c;simp only[] at h;split at h<;>try (cases h;done)
 split at h<;>try (cases h;done)
 rename_i x t hargs hats;split at h<;>try (cases h;done)
 rename_i i V' hti hx;split at h<;>simp at h;rename_i hk;subst h;obtain ⟨info,dd,z,hok⟩:=hT t i hti;have hargs':args= #[x]:=by apply Array.ext';simpa using hargs
 have hats':ats= #[t]:=by apply Array.ext';simpa using hats
 subst hargs';subst hats';have hxv:=(dY hT hI (fun t ht=>by subst ht;simp[Op.operands,Call.operands]) hx).lZ.1;obtain ⟨b,cap,hV,_⟩:=hS.plain 0;refine br (v:= .int .i64 (xs.length:Int)) (w':=w) ?_ (hK _ w O (dy.refl hI.lt) (.v rfl))
 have hrun:(Builtin.len_ #[t] ty #[V']).run P w= .ok (.int .i64 (xs.length:Int)) w:=by
  rw[hV];simp[Builtin.len_,run_underlying (hok.jF hk).1,goInt]
 simp[execOp,resolve,invoke,builtin,hxv,hrun]
theorem ab.idxs(hT:bH P T){K:St→Prop}{V:Value}{e s:Nat}{xs:List D}{iv:Int}(hS:Seen P B F0 w0 V e xs)(hd:o.dst=some d)(hdn:Nat.ble (d+1) n=true)(hg:aH all σ o=true)(hx:G5 T σ.get o.op=some (V,s,iv))(h0:0≤iv)(hl:iv.toNat<xs.length)
  (h:ab P B F0 w0 n all rest K ((d,.d (.v (eV V (iv.toNat*s))))::σ)):ab P B F0 w0 n all (o::rest) K σ:=ab.pure hg hdn (aK.idxs hT hS hd (bp σ d) hx h0 hl) h
theorem ab.bc(hT:bH P T){K:St→Prop}{V:Value}{e i s:Nat}{xs:List D}{ti te:TI}{x:D}(y:D)(hS:Seen P B F0 w0 V e xs)(hd:o.dst=some d)(hdn:Nat.ble (d+1) n=true)(hg:aH all σ o=true)(hx:Cx T σ.get o.op=some (ti,eV V (i*s)))(hte:T.get e=some te)(hs:te.size=s)(hy:xs[i]?=some y)(hav:kf ti y.flat=some (.d x))
  (h:ab P B F0 w0 n all rest K ((d,.d x)::σ)):ab P B F0 w0 n all (o::rest) K σ:=ab.pure hg hdn (aK.bc hT hS hd (bp σ d) hx hte hs hy hav) h
theorem ab.lens(hT:bH P T){K:St→Prop}{V:Value}{e:Nat}{xs:List D}(hS:Seen P B F0 w0 V e xs)(hd:o.dst=some d)(hdn:Nat.ble (d+1) n=true)(hg:aH all σ o=true)(hx:GX T σ.get o.op=some V)
  (h:ab P B F0 w0 n all rest K ((d,.d (.v (.int .i64 (xs.length:Int))))::σ)):ab P B F0 w0 n all (o::rest) K σ:=ab.pure hg hdn (aK.lens hT hS hd (bp σ d) hx) h
theorem af.idxs(hT:bH P T){K:St→Prop}{V:Value}{e s:Nat}{xs:List D}{iv:Int}(hS:Seen P B F0 w0 V e xs)(hd:o.dst=some d)(hdn:Nat.ble (d+1) n=true)(hg:aH ops τ o=true)(hs:σ0.get d=none)(hx:G5 T τ.get o.op=some (V,s,iv))(h0:0≤iv)(hl:iv.toNat<xs.length)
  (h:af P B F0 w0 n ops ds σ0 rest ((d,.d (.v (eV V (iv.toNat*s))))::τ) K):af P B F0 w0 n ops ds σ0 (o::rest) τ K:=af.pure hd hdn rfl hg (aK.idxs hT hS hd hs hx h0 hl) h
theorem af.bc(hT:bH P T){K:St→Prop}{V:Value}{e i s:Nat}{xs:List D}{ti te:TI}{x:D}(y:D)(hS:Seen P B F0 w0 V e xs)(hd:o.dst=some d)(hdn:Nat.ble (d+1) n=true)(hg:aH ops τ o=true)(hs:σ0.get d=none)(hx:Cx T τ.get o.op=some (ti,eV V (i*s)))(hte:T.get e=some te)(hs2:te.size=s)(hy:xs[i]?=some y)(hav:kf ti y.flat=some (.d x))
  (h:af P B F0 w0 n ops ds σ0 rest ((d,.d x)::τ) K):af P B F0 w0 n ops ds σ0 (o::rest) τ K:=af.pure hd hdn rfl hg (aK.bc hT hS hd hs hx hte hs2 hy hav) h
theorem af.lens(hT:bH P T){K:St→Prop}{V:Value}{e:Nat}{xs:List D}(hS:Seen P B F0 w0 V e xs)(hd:o.dst=some d)(hdn:Nat.ble (d+1) n=true)(hg:aH ops τ o=true)(hs:σ0.get d=none)(hx:GX T τ.get o.op=some V)
  (h:af P B F0 w0 n ops ds σ0 rest ((d,.d (.v (.int .i64 (xs.length:Int))))::τ) K):af P B F0 w0 n ops ds σ0 (o::rest) τ K:=af.pure hd hdn rfl hg (aK.lens hT hS hd hs hx) h
def td(P:Program)(B:Nat)(F0:Nat→Prop)(w0:c7)(R:List LR):Prop:= ∀(i:Nat) (V:Value) (e:Nat) (xs:List D),R[i]?=some (V,.ow e xs)→xs≠[]→Seen P B F0 w0 V e xs
theorem td.at{i:Nat}{V:Value}{e:Nat}{xs:List D}(h:td P B F0 w0 R)(hi:R[i]?=some (V,.ow e xs))(hne:0<xs.length):Seen P B F0 w0 V e xs:=h i V e xs hi (fun e=>by subst e;simp at hne)
theorem ai.we(k:Nat)(hp:iz p (l.take k)=true)(h: ∀B1 F1 w1,td P B1 F1 w1 R→ab P B1 F1 w1 n all (l.take k) (fun σ'=>σ'.gH=true∧ai P B F0 w0 n all (l.drop k) K p R σ') σ):ai P B F0 w0 n all l K p R σ:=by
 intro a w hR hpin Q hQ;obtain ⟨B1,F1,w1,hR1,hS,hback⟩:=hR.Gf;rw[← List.take_append_drop k l];refine iU (l.drop k) (l.take k) a w ?_;have h1:=h B1 F1 w1 hS a w hR1 (fun e a' w'=>e= .normal∧ ∃σ',σ'.gH=true∧ai P B F0 w0 n all (l.drop k) K p R σ'∧cK P B F0 w0 n R σ' a' w') (fun a' w' σ' ⟨h1,h2⟩ hR'=>⟨rfl,σ',h1,h2,hback σ' a' w' h1 hR'⟩);refine gw (fun e a' w' ⟨⟨he,σ',_,h2,h3⟩,h4⟩=>?_) (kx hpin (nw hp) h1);subst he;exact h2 a' w' h3 (h4 rfl) Q hQ
variable {Q:Exit→List LR→St→Prop} {x:Code}
theorem AZ.Fe(h: ∀B1 F1 w1,td P B1 F1 w1 R→AW P B1 F1 w1 n x (fun e σ'=>σ'.gH=true∧Q e R σ') σ):AZ P B F0 w0 n x Q R σ:=by
 intro a w hR;obtain ⟨B1,F1,w1,hR1,hS,hback⟩:=hR.Gf;exact wp_mono (h B1 F1 w1 hS a w hR1) fun e a' w' ⟨σ',⟨h1,h2⟩,hR'⟩=>⟨R,σ',h2,hback σ' a' w' h1 hR'⟩
theorem AZ.rG{id:Nat}(h: ∀B1 F1 w1,td P B1 F1 w1 R→ab P B1 F1 w1 n ops ops.toList (fun σ'=>σ'.gH=true∧Q .normal R σ') σ):AZ P B F0 w0 n (.region id ops false) Q R σ :=
 AZ.Fe fun B1 F1 w1 hS=>AW.region (h B1 F1 w1 hS)
theorem AZ.Fs{id:Nat}(jG:P.follows .mixedOrders=true)(m:Nat)(hB:xG ops m=true)
  (h: ∀B1 F1 w1,td P B1 F1 w1 R→af P B1 F1 w1 n ops (eY ops m) (σ.less (eY ops m)) (ops.toList.take m) (σ.less (eY ops m)) (fun τ=>ab P B1 F1 w1 n ops (ops.toList.drop m) (fun σ'=>σ'.gH=true∧Q .normal R σ') τ)):AZ P B F0 w0 n (.region id ops true) Q R σ :=
 AZ.Fe fun B1 F1 w1 hS=>AW.draw jG m hB (h B1 F1 w1 hS)
theorem iy.kP(m:Nat)(hB:xG ops m=true)
  (h: ∀B1 F1 w1,td P B1 F1 w1 R→af P B1 F1 w1 n ops (eY ops m) (σ.less (eY ops m)) (ops.toList.take m) (σ.less (eY ops m)) (fun τ=>τ.gH=true∧ai P B F0 w0 n ops (ops.toList.drop m) (Q .normal) [] R τ)):iy P B F0 w0 n ops Q R σ:=by
 intro a w hR;obtain ⟨B1,F1,w1,hR1,hS,hback⟩:=hR.Gf;exact pV.HM m hB (fun τ a' w' ⟨ht,hz⟩ hR'=>hz a' w' (hback τ a' w' ht hR') (fun e he=>by cases he) _ (fun a w R' σ' hk hr=>⟨R',σ',hk,hr⟩)) (h B1 F1 w1 hS) a w hR1
theorem cK.el{t u e k:Nat}{V:Value}{xs:List D}{a:Act}{w:World}(hR:cK P B F0 w0 n R σ a w)(ht:σ.get t=some (.ow e xs))(hV:a.tmps[t]?=some V)(hu:σ.get u=some (.d (.v (eV V (k*P.cellsOf e)))))(hk:k<xs.length)(htu:t≠u):
  cK P B F0 w0 n R ((u,.el t k 0)::σ) a w:=by
 obtain ⟨O,hOr,hO,hL⟩:=hR.own;obtain ⟨v,hv,hr⟩:=hO t _ ht;rw[hV] at hv;cases hv;refine⟨hR.below,hR.base,hR.f0,hR.defers,hR.size,O,hOr,fun j av hj=>?_,hL⟩
 have hkeep: ∀j x,x.home=true→St.get ((u,AV.el t k 0)::σ) j=some x→σ.get j=some x∧a.tmps[j]?=a.tmps[j]?:=fun j x hx hj=>by
  rw[St.aI] at hj;split at hj
  · cases hj;cases hx
  · exact⟨hj,rfl⟩
 rw[St.aI] at hj;split at hj
 · rename_i e';subst e';cases hj;obtain ⟨v',hv',hr'⟩:=hO u _ hu;refine⟨v',hv',fun x e' l hx hrow=>?_⟩;have hx':=(hkeep t x (de (by rw[hrow];rfl)) hx).1;rw[ht] at hx';cases hx';simp only[AV.row,Option.some.injEq,Prod.mk.injEq] at hrow;obtain ⟨rfl,rfl⟩:=hrow;refine⟨hk,?_⟩;rcases hr with ⟨_,_,h⟩ | ⟨b,cap,cs,rfl,_⟩
   · subst h;simp at hk
   refine⟨b,0,_,cap,hV,?_⟩;have:=(Rd.lZ hr').1;rw[this];simp[eV]
 · obtain ⟨z,hz,hzr⟩:=hO j av hj;exact⟨z,hz,hzr.move (fun c hc=>⟨hc,rfl⟩) (fun _ c hc=>⟨hc,rfl⟩) (fun k _ x hx hk=>hkeep k x hx hk)⟩
theorem ai.el(hT:bH P T)(t u:Nat){e k s:Nat}{V:Value}{xs:List D}{te:TI}(ht:σ.get t=some (.ow e xs))(hp:(t,V)∈p)(hu:σ.get u=some (.d (.v (eV V (k*s)))))(hte:T.get e=some te)(hs:te.size=s)(hk:k<xs.length)(htu:Nat.beq t u=false)
  (h:ai P B F0 w0 n all l K p R ((u,.el t k 0)::σ)):ai P B F0 w0 n all l K p R σ:=by
 intro a w hR hpin Q hQ;obtain ⟨info,d,z,hok⟩:=hT e te hte;exact h a w (hR.el ht (hpin _ hp) (by rw[hok.cellsOf,hs];exact hu) hk (Nat.ne_of_beq_eq_false htu)) hpin Q hQ
end
end Lift
namespace Lift
open Go
open Go.RowKit (Below)
section
variable {P:Program} {T:Ty} {B:Nat} {F0:Nat→Prop} {w0:c7} {n:Nat} {σ:St} {ops E:Array Oper}
variable {Q:Exit→Act→World→Prop}
end
end Lift
namespace Lift
open Go
open Go.RowKit (Below)
section
variable {P:Program} {T:Ty} {B:Nat} {F0:Nat→Prop} {w0:c7} {n:Nat} {σ:St} {ops:Array Oper} {K:St→Prop}
namespace D2
variable {lt:List (Nat×Bool)} {m:Nat} {hs ds:List Nat} {σ0:St} {tl wl:List (Nat×AV)} (H:D2 P T B F0 w0 n ops lt m hs ds σ0 tl wl)
include H
end D2
variable {σ0:St}
end
end Lift
namespace Lift
open Go
open Go.RowKit (Below)
section
variable {P:Program} {T:Ty} {B:Nat} {F0:Nat→Prop} {w0:c7} {n:Nat} {σ:St} {R R':List LR} {x:Code} {Q:Exit→List LR→St→Prop} {K:List LR→St→Prop} {p:lV} {all:Array Oper} {l:List Oper}
theorem cK.xc{a:Act}{w:World}{i j:Nat}{ri rj:LR}(hi:R[i]?=some ri)(hj:R[j]?=some rj)(hR:cK P B F0 w0 n R σ a w):cK P B F0 w0 n ((R.set i rj).set j ri) σ a w:=by
 obtain ⟨O,hOr,hO,hL⟩:=hR.own
 have hlt: ∀t av,σ.get t=some av→t<n:=fun t av h=>by
  obtain ⟨v,hv,_⟩:=hO t av h;rw[← hR.size];exact(Array.getElem?_eq_some_iff.1 hv).1
 have hF: ∀c,aR O (FW B F0 w) c→aR (rA O (n+i) (n+j)) (FW B F0 w) c:=fun c hc=>⟨eU.2 hc.1,hc.2⟩;refine⟨hR.below,hR.base,hR.f0,hR.defers,hR.size,rA O (n+i) (n+j),m6 hOr,fun t av h=>?_,fun k r hr=>?_⟩
 · obtain ⟨v,hv,hr⟩:=hO t av h;have:=hlt t av h;exact⟨v,hv,hr.move (fun c hc=>⟨hF c hc,rfl⟩) (fun _ c hc=>⟨fM hc (by omega) (by omega),rfl⟩) (fun k _ x _ hk=>⟨hk,rfl⟩)⟩
 · have hil:=(List.getElem?_eq_some_iff.1 hi).1;have hjl:=(List.getElem?_eq_some_iff.1 hj).1;by_cases hkj:k=j
   · subst hkj;rw[List.getElem?_set_self (by simpa using hjl)] at hr;cases hr;exact(hL i _ hi).owner (fun c hc=>by simp[rA,hc]) hF
   · rw[List.getElem?_set_ne (Ne.symm hkj)] at hr;by_cases hki:k=i
     · subst hki;rw[List.getElem?_set_self hil] at hr;cases hr;exact(hL j _ hj).owner (fun c hc=>by simp only[rA,hc];rw[if_neg (by simp;omega)];simp) hF
     · rw[List.getElem?_set_ne (Ne.symm hki)] at hr;exact(hL k _ hr).owner (fun c hc=>fM hc (by omega) (by omega)) hF
theorem AZ.xc{ri rj:LR}(i j:Nat)(hi:R[i]?=some ri)(hj:R[j]?=some rj)(h:AZ P B F0 w0 n x Q ((R.set i rj).set j ri) σ):AZ P B F0 w0 n x Q R σ:=fun a w hR=>h a w (hR.xc hi hj)
theorem AZ.oZ(R':List LR)(hd: ∀(i:Nat) (r:LR),R'[i]?=some r→R[i]?=some r∨r.2= .junk)(h:AZ P B F0 w0 n x Q R' σ):AZ P B F0 w0 n x Q R σ:=fun a w hR=>h a w (hR.drop hd)
theorem Ib{i j:Nat}{x y:LR}(hi:R[i]?=some x)(hj:R[j]?=some y):tj R [i,j]=some [x,y]:=by simp[tj,hi,hj]
end
end Lift
namespace Lift
open Go
open Go.RowKit (Below)
section
variable {P:Program} {T:Ty} {B:Nat} {F0:Nat→Prop} {w0:c7} {n:Nat} {σ σ' τ σ0:St} {R R':List LR} {ops all:Array Oper} {l rest:List Oper} {o:Oper} {d:Nat} {lk hm:Nat→Option AV} {K:List LR→St→Prop} {p:lV} {ds:List Nat}
end
end Lift
namespace Lift
open Go
open Go.RowKit (Below)
section
variable {P:Program} {T:Ty} {B:Nat} {F0:Nat→Prop} {w0:c7} {n:Nat} {σ σ' τ:St} {R R':List LR} {ops:Array Oper} {o:Oper} {d:Nat} {Q:Exit→List LR→St→Prop} {a:Act} {w:World}
abbrev gP:=List (Nat×List D)
def SB(β:gP)(bl:Nat→Nat)(w:World):Prop:= ∀t ds,(t,ds)∈β→ ∀(i:Nat) (u:Value),ds[i]?=some (.v u)→ ∃cs e fz,w.heap[bl t]?=some (.cells cs e fz)∧cs[i]?=some u
def eK(β:gP)(bl:Nat→Nat):lV:=β.map fun x=>(x.1,.pointer (some ⟨bl x.1,0,none⟩))
def mU(σ:St):gP→Prop
 | []=>True
 | (t,ds)::r=>σ.get t=some (.bx ds)∧mU σ r
theorem mU.get: ∀{β:gP},mU σ β→ ∀t ds,(t,ds)∈β→σ.get t=some (.bx ds)
 | [],_,t,ds,h=>by cases h
 | (t',ds')::r,h,t,ds,hm=>by
   rcases List.mem_cons.1 hm with e | e
   · cases e;exact h.1
   · exact mU.get h.2 t ds e
theorem vi{β:gP}{bl:Nat→Nat}(h:kY (eK β bl) a){t:Nat}{ds:List D}(hm:(t,ds)∈β):a.tmps[t]?=some (.pointer (some ⟨bl t,0,none⟩)) :=
 h (t,_) (List.mem_map.2 ⟨(t,ds),hm,rfl⟩)
theorem FZ{β:gP}{bl:Nat→Nat}(hR:cK P B F0 w0 n R σ a w)(hσ:mU σ β)(hp:kY (eK β bl) a):SB β bl w:=by
 intro t ds hm i u hu;obtain ⟨O,_,hO,_⟩:=hR.own;obtain ⟨v,hv,b,cs,e,rfl,_,g2,g3⟩:=hO t _ (hσ.get t ds hm);rw[vi hp hm] at hv;simp only[Option.some.injEq,Value.pointer.injEq,Addr.mk.injEq] at hv;obtain ⟨rfl,_,_⟩:=hv;obtain ⟨_,u',h1,h2⟩:=g3.get hu;rw[(Rd.lZ h2).1] at h1;exact⟨cs,e,_,g2,by simpa using h1⟩
def ZH(P:Program)(B:Nat)(F0:Nat→Prop)(w0:c7)(n:Nat)(ops:Array Oper)(Q:Exit→List LR→St→Prop)(β:gP)(fuel:Nat)(listed:Array Bool)(R:List LR)(σ:St):Prop :=
 mU σ β∧ ∀(bl:Nat→Nat) (a:Act) (w:World),cK P B F0 w0 n R σ a w→kY (eK β bl) a →
  wpAnyH P .any ops (fun e a' w'=> ∃R' σ',Q e R' σ'∧cK P B F0 w0 n R' σ' a' w') (SB β bl) fuel listed a w
theorem cK.drew(hR:cK P B F0 w0 n R σ a w):cK P B F0 w0 n R σ a {w with drawn:=w.drawn+1}:=by
 obtain ⟨O,hOr,hO,hL⟩:=hR.own;refine⟨hR.below.drew,hR.base,hR.f0,hR.defers,hR.size,O,hOr,fun t av h=>?_,fun i r hr=>?_⟩
 · obtain ⟨v,hv,hr⟩:=hO t av h;exact⟨v,hv,hr.move (fun c hc=>⟨hc,rfl⟩) (fun _ c hc=>⟨hc,rfl⟩) (fun k _ x _ hk=>⟨hk,rfl⟩)⟩
 · rcases hL i r hr with h | ⟨g1,g2,g3⟩
   · exact .inl h
   · exact .inr ⟨g1,g2,g3.move (fun c hc=>⟨hc,rfl⟩) (fun _ c hc=>⟨hc,rfl⟩) (fun k _ x _ hk=>by cases hk)⟩
theorem ZH.any{β:gP}(h:ZH P B F0 w0 n ops Q β ops.size (Array.replicate ops.size false) R σ):iy P B F0 w0 n ops Q R σ:=by
 intro a w hR;refine wpAny_of_held _ _ _ _ (h.2 (fun t=>match a.tmps[t]? with | some (.pointer (some ⟨b,_,_⟩))=>b | _=>0) a _ hR.drew (fun e he=>?_));obtain ⟨⟨t,ds⟩,hm,rfl⟩:=List.mem_map.1 he;obtain ⟨O,_,hO,_⟩:=hR.own;obtain ⟨v,hv,b,cs,e,rfl,_⟩:=hO t _ (h.1.get t ds hm);show a.tmps[t]?=some _;simp only[hv]
theorem uL{β:gP}{bl:Nat→Nat}{K:List LR→St→Prop}(hpn:iz (eK β bl) [o]=true)(h:ai P B F0 w0 n ops [o] K [] R σ)(hR:cK P B F0 w0 n R σ a w)(hp:kY (eK β bl) a):
  wpList P ops (fun e a' w'=>(e= .normal∧ ∃R' σ',K R' σ'∧cK P B F0 w0 n R' σ' a' w')∧(e= .normal→kY (eK β bl) a')) [o] a w :=
 kx hp (nw hpn) (h a w hR (fun e he=>by cases he) _ (fun a w R' σ' h1 h2=>⟨rfl,R',σ',h1,h2⟩))
theorem ZH.all{β:gP}{fuel:Nat}{listed:Array Bool}(i:Nat)(hr:Region.ready .any ops listed=[i])(ho:ops[i]?=some o)(hg:o.guard=none)(hpn: ∀bl,iz (eK β bl) [o]=true)(hσ:mU σ β)
  (h:ai P B F0 w0 n ops [o] (fun R' σ'=>ZH P B F0 w0 n ops Q β fuel (listed.setIfInBounds i true) R' σ') [] R σ):ZH P B F0 w0 n ops Q β (fuel+1) listed R σ:=by
 refine⟨hσ,fun bl a w hR hp=>wpAnyH_all hr (by simp) (fun j hj=>?_)⟩;rw[List.mem_singleton] at hj;subst hj;have h1:=uL (hpn bl) h hR hp;have hw:Region.wanted o (yielded ops a.tmps)=true:=by simp[Region.wanted,hg]
 unfold wpOp;simp only[ho,hw,if_true];unfold wpList at h1;rw[if_pos hw] at h1;rcases h1 with h1 | ⟨_,a1,w1,⟨h2,_⟩,_⟩
 · refine .inl (nV (fun c a w h=>by cases h.1.1) (fun ⟨a,w,h⟩=>by cases h.1.1) (fun v dd w' hn=>?_) h1);unfold wpList at hn;obtain ⟨⟨_,R',σ',h2,h3⟩,h4⟩:=hn;exact⟨FZ h3 h2.1 (h4 rfl),h2.2 bl _ _ h3 (h4 rfl)⟩
 · cases h2
theorem ZH.done{β:gP}{fuel:Nat}{listed:Array Bool}(hr:Region.ready .any ops listed=[])(hσ:mU σ β)(h:Q .normal R σ):ZH P B F0 w0 n ops Q β fuel listed R σ :=
 ⟨hσ,fun bl a w hR hp=>wpAnyH_done hr ⟨R,σ,h,hR⟩ fuel⟩
theorem ZH.to{β:gP}{fuel:Nat}{listed:Array Bool}(ks:List Nat)(τ:St)(h:σ.dW ks=τ)(hσ:mU σ β)(hk:ZH P B F0 w0 n ops Q β fuel listed R τ):ZH P B F0 w0 n ops Q β fuel listed R σ :=
 ⟨hσ,fun bl a w hR hp=>hk.2 bl a w (h▸hR.dW ks) hp⟩
theorem ZH.first{β:gP}{fuel:Nat}{listed:Array Bool}(i:Nat)(ho:ops[i]?=some o)(hg:o.guard=none)(hs:Region.noSelect ops=true)(hf:Region.free .any ops listed i=true)(hr:(Region.ready .any ops listed).contains i=true)
  (hpan: ∀c R σ,Q (.panic c) R σ→False) (hpn: ∀bl,iz (eK β bl) [o]=true) (hσ:mU σ β)
  (hy: ∀bl a w,cK P B F0 w0 n R σ a w→kY (eK β bl) a→ ∃v,∀w',SB β bl w'→(execOp a.eval o).run P w'= .ok (.value v) w')
  (h:ai P B F0 w0 n ops [o] (fun R' σ'=>ZH P B F0 w0 n ops Q β fuel (listed.setIfInBounds i true) R' σ') [] R σ):ZH P B F0 w0 n ops Q β (fuel+1) listed R σ:=by
 refine⟨hσ,fun bl a w hR hp=>?_⟩;obtain ⟨v,hv⟩:=hy bl a w hR hp;have hS:=FZ hR hσ hp;have hw:Region.wanted o (yielded ops a.tmps)=true:=by simp[Region.wanted,hg]
 refine wpAnyH_take ho hs hf hr (fun c a' w' hq=>?_) (.inl ⟨hw,hv⟩) hS ?_
 · obtain ⟨R',σ',hq,_⟩:=hq;exact(hpan c R' σ' hq).elim
 have h1:=uL (hpn bl) h hR hp;unfold wpList at h1;rw[if_pos hw] at h1;rcases h1 with h1 | ⟨_,a1,w1,⟨h2,_⟩,_⟩
 · unfold Oper.wp at h1;rw[hv w hS] at h1;simp only[Oper.upon] at h1;unfold wpList at h1;obtain ⟨⟨_,R',σ',h2,h3⟩,h4⟩:=h1;exact h2.2 bl _ _ h3 (h4 rfl)
 · cases h2
def BG:Op→Bool
 | .move _=>true
 | _=>false
theorem EL(h:BG o.op=true)(a:Act): ∃v,∀w',(execOp a.eval o).run P w'= .ok (.value v) w':=by
 obtain ⟨dst,op,ty,pos,after,guard⟩:=o;simp only[] at h;cases op<;>simp only[BG] at h<;>try (cases h;done)
 rename_i x;exact⟨a.eval x,fun w'=>by simp[execOp]⟩
def J0(T:Ty)(σ:St)(β:gP):Op→Option (TI×Nat×Nat×List D×Value)
 | .load t (.tmp s)=>match T.get t,σ.get s with
   | some i,some (.pt h off)=>match β.find? (fun x=>Nat.beq x.1 h) with
     | some (_,ds)=>match ds[off]? with
       | some (.v u)=>some (i,h,off,ds,u)
       | _=>none
     | none=>none
   | _,_=>none
 | _=>none
theorem Ir(hT:bH P T){β:gP}{bl:Nat→Nat}{i:TI}{h off:Nat}{ds:List D}{u:Value}(hR:cK P B F0 w0 n R σ a w)(hσ:mU σ β)(hp:kY (eK β bl) a)(hx:J0 T σ β o.op=some (i,h,off,ds,u))(hl:kf i [.v u]=some (.d (.v u))):
  ∃v,∀w',SB β bl w'→(execOp a.eval o).run P w'= .ok (.value v) w':=by
 obtain ⟨dst,op,ty,pos,after,guard⟩:=o;simp only[] at hx;cases op<;>simp only[J0] at hx<;>try (cases hx;done)
 rename_i t x;cases x<;>simp only[J0] at hx<;>try (cases hx;done)
 rename_i s;split at hx<;>try (cases hx;done)
 rename_i i' h' off' hi hs;split at hx<;>try (cases hx;done)
 rename_i t' ds' hfind;split at hx<;>try (cases hx;done)
 rename_i u' hu;simp only[Option.some.injEq,Prod.mk.injEq] at hx;obtain ⟨rfl,rfl,rfl,rfl,rfl⟩:=hx;have hm:=List.mem_of_find?_eq_some hfind;have he:t'=h':=Nat.eq_of_beq_eq_true (@List.find?_some _ (fun x=>Nat.beq x.1 h') (t',ds') β hfind);subst he;obtain ⟨info,dd,z,hok⟩:=hT t i' hi;obtain ⟨O,hOr,hO,_⟩:=hR.own;obtain ⟨v,hv,hr⟩:=hO s _ hs;obtain ⟨b,hb,rfl⟩:=hr ds' (hσ.get t' ds' hm);obtain ⟨_,_,_,_,_,_,_,_,g3⟩:=hO t' _ (hσ.get t' ds' hm);obtain ⟨hc,u2,_,hr2⟩:=g3.get hu;have hpl:=(Rd.lZ hr2).2;have hb:a.tmps[t']?=some (.pointer (some ⟨b,0,none⟩)):=hb;rw[vi hp hm] at hb;simp only[Option.some.injEq,Value.pointer.injEq,Addr.mk.injEq] at hb;obtain ⟨rfl,_,_⟩:=hb;have hev:a.eval (.tmp s)= .pointer (some ⟨bl t',off',none⟩):=ij hv;refine⟨u',fun w' hS=>?_⟩;obtain ⟨cs,e,fz,h1,h2⟩:=hS t' ds' hm off' u' hu
 obtain ⟨x,v,hx,hrun,hrd⟩:=lK (w:=w') hok h1 (off:=off') (F:=fun _=>True) (ds:=[.v u']) (fun j z hj=>by
  cases j with
  | zero=>simp at hj;subst hj;exact⟨hc,u',h2,.v hpl⟩
  | succ j=>simp at hj) hl
 cases hx;have:=(Rd.lZ hrd).1;subst this;simp[execOp,Instr.loadAt,Instr.sureAddr,hev,hrun]
end
end Lift
namespace Lift
open Go
open Go.RowKit (Below)
section
variable {P:Program} {T:Ty} {B:Nat} {F0:Nat→Prop} {w0:c7} {n:Nat} {σ:St} {R:List LR} {all:Array Oper} {l:List Oper} {x:Code} {a:Act} {w:World} {K:List LR→St→Prop} {p:lV}
end
end Lift
namespace Lift
open Go
open Go.RowKit (Below)
abbrev gQ:Value:= .slice none 0 0
def HV(d:D)(v:Value):Bool:=JV d v||match d,v with
 | .v (.slice none 0 0),.slice none 0 0=>true
 | _,_=>false
def uz:List D→List Value→Bool
 | [],[]=>true
 | d::ds,v::vs=>HV d v&&uz ds vs
 | _,_=>false
theorem F9{w:World}{F:Nat→Prop}{d:D}{v:Value}(h:HV d v=true):d.ba=true∧Rd w F d v:=by
 unfold HV at h;rw[Bool.or_eq_true] at h;rcases h with h | h
 · exact DJ h
 · split at h<;>try (cases h;done)
   exact⟨rfl,.v rfl⟩
theorem y0{w:World}{F:Nat→Prop}: ∀{ds:List D} {vs:List Value},uz ds vs=true→mP w F ds vs
 | [],[],_=>⟨rfl,fun i d u h=>by simp at h⟩
 | [],_::_,h=>by simp[uz] at h
 | _::_,[],h=>by simp[uz] at h
 | d::ds,v::vs,h=>by
   simp only[uz,Bool.and_eq_true] at h;have ih:=y0 (w:=w) (F:=F) h.2;have h1:=F9 (w:=w) (F:=F) h.1;refine⟨by simp[ih.1],fun i d' u hd hu=>?_⟩;cases i with
   | zero=>simp at hd hu;subst hd;subst hu;exact h1
   | succ i=>exact ih.2 i d' u (by simpa using hd) (by simpa using hu)
section
variable {P:Program} {T:Ty} {B:Nat} {F0:Nat→Prop} {w0:c7} {n:Nat} {σ τ σ0:St} {R:List LR} {ops all:Array Oper} {l rest:List Oper} {o:Oper} {d:Nat} {lk hm:Nat→Option AV} {x:Code} {a:Act} {w:World} {K:List LR→St→Prop} {p:lV} {ds:List Nat}
def IH(T:Ty)(lk:Nat→Option AV)(zs:List D):Op→Option (Nat×List D)
 | .build t parts=>match T.get t,rM T lk parts.toList with
   | some i,some ps=>match Nat.beq i.kind 5 with
     | true=>match xD i.fields zs ps with
       | some cs=>some (t,cs)
       | none=>none
     | false=>none
   | _,_=>none
 | _=>none
def AO(P:Program)(t:Nat)(zs:List D):Bool:=match P.info? t with
 | some info=>match info.zero with
   | some z=>uz zs z.cells.toList
   | none=>false
 | none=>false
theorem aK.IG(hT:bH P T)(zs:List D){t:Nat}{cs:List D}(hd:o.dst=some d)(hn:hm d=none)(hx:IH T lk zs o.op=some (t,cs))(hz:AO P t zs=true):aK P B F0 w0 d o lk hm (.d (.ag cs)):=by
 refine⟨hd,hn,fun a w O hI K Q hK=>?_⟩;obtain ⟨dst,op,ty,pos,after,guard⟩:=o;simp only[] at hd hx hI;cases op<;>simp only[IH] at hx<;>try (cases hx;done)
 rename_i t' parts;split at hx<;>try (cases hx;done)
 rename_i i ps hi hps;split at hx<;>try (cases hx;done)
 rename_i hk;split at hx<;>simp at hx;rename_i cs' hcs;obtain ⟨rfl,rfl⟩:=hx;obtain ⟨info,dd,z,hok⟩:=hT t' i hi
 have hzs:uz zs z.cells.toList=true:=by
  unfold AO at hz;rw[hok.hinfo] at hz;simp only[hok.zero] at hz;exact hz
 obtain ⟨fs,hu,hfs,hall⟩:=hok.EW hk
 have hp:=pv hT hI parts.toList ps (fun p hp t ht=>by
  simp only[Op.operands];have:p.2∈parts.toList.map (·.2):=List.mem_map.2 ⟨p,hp,rfl⟩;rw[ht] at this
  simpa using this) hps
 obtain ⟨cs2,e1,e2,e3⟩:=su ps (parts.toList.map fun (i,x)=>(i,a.eval x)) zs z.cells cs' (by simp[hp.1]) hp.2 (y0 hzs) hcs
 have hmap:fs.toList.mapM (fun f=>(P.info? f.type).map fun i=>(f.offset,i.size))=some (i.fields.map fun x=>(x.1,x.2.1)):=by
  rw[← hfs];clear hfs hu hcs e1;generalize fs.toList=l at hall
  induction l with
  | nil=>rfl
  | cons f l ih =>
    obtain ⟨⟨j,hj⟩,_,_⟩:=hall f (by simp);simp[List.mapM_cons,hj,ih (fun f hf=>hall f (by simp[hf])),fieldsOf,Program.cellsOf]
 have hb:P.built t' (parts.toList.map fun (i,x)=>(i,a.eval x))=some cs2:=by
  unfold Program.built;simp only[hok.hinfo,hu,hok.zero,hmap];rw[← e1]
  congr 1
  funext k;simp
 have hrun:=run_build w t' (parts.map fun (i,x)=>(i,a.eval x)) cs2 (by simpa using hb);refine br (v:= .agg cs2) (w':=w) (by simp only[execOp,Sem.run_bind,hrun,Result.andThen_ok];rfl) (hK _ w O (dy.refl hI.lt) ?_)
 have:=Rd.ag (w:=w) (F:=aR O (FW B F0 w)) (l:=cs') (vs:=cs2.toList) e2.1 (fun x hx=>by
  obtain ⟨j,hj⟩:=List.mem_iff_getElem?.1 hx
  exact(e2.get hj).1) (fun j x u h1 h2=>(e2.2 j x u h1 h2).2)
 show Rd _ _ _ _;simpa using this
theorem ab.IG(hT:bH P T){K:St→Prop}(zs:List D){t:Nat}{cs:List D}(hd:o.dst=some d)(hdn:Nat.ble (d+1) n=true)(hg:aH all σ o=true)(hx:IH T σ.get zs o.op=some (t,cs))(hz:AO P t zs=true)
  (h:ab P B F0 w0 n all rest K ((d,.d (.ag cs))::σ)):ab P B F0 w0 n all (o::rest) K σ:=ab.pure hg hdn (aK.IG hT zs hd (bp σ d) hx hz) h
theorem cK.yv(e:Nat)(hR:cK P B F0 w0 n R σ a w):cK P B F0 w0 n (R++[(gQ,.ow e [])]) σ a w:=by
 obtain ⟨O,hOr,hO,hL⟩:=hR.own;refine⟨hR.below,hR.base,hR.f0,hR.defers,hR.size,O,hOr,hO,fun i r hr=>?_⟩;rcases Nat.lt_or_ge i R.length with h | h
 · rw[List.getElem?_append_left h] at hr;exact hL i r hr
 · rw[List.getElem?_append_right h] at hr
   have:i-R.length=0:=by
    rcases Nat.eq_zero_or_pos (i-R.length) with e | e
    · exact e
    · rw[List.getElem?_eq_none (by simp;omega)] at hr;cases hr
   rw[this] at hr;cases hr;exact .inr ⟨rfl,rfl,.inl ⟨none,rfl,rfl⟩⟩
theorem AZ.yv{Q:Exit→List LR→St→Prop}(e:Nat)(h:AZ P B F0 w0 n x Q (R++[(gQ,.ow e [])]) σ):AZ P B F0 w0 n x Q R σ:=fun a w hR=>h a w (hR.yv e)
end
end Lift
namespace Lift
open Go
open Go.RowKit (Below)
section
variable {P:Program} {T:Ty} {B:Nat} {F0:Nat→Prop} {w0:c7} {n:Nat} {σ:St} {R:List LR} {ops:Array Oper} {o:Oper} {Q:Exit→List LR→St→Prop} {β:gP} {fuel:Nat} {listed:Array Bool}
theorem aD{K:List LR→St→Prop}(h: ∀B1 F1 w1,ab P B1 F1 w1 n ops [o] (fun σ'=>σ'.gH=true∧K R σ') σ):ai P B F0 w0 n ops [o] K [] R σ :=
 ai.cut 1 rfl (fun B1 F1 w1=>by
  have:=h B1 F1 w1
  refine fun a w hR Q hQ=>this a w hR Q (fun a' w' σ' ⟨h1,h2⟩ hR'=>hQ a' w' σ' ⟨h1,ai.nil h2⟩ hR'))
theorem ZH.mv(i:Nat)(ho:ops[i]?=some o)(hg:o.guard=none)(hs:Region.noSelect ops=true)(hf:Region.free .any ops listed i=true)(hr:(Region.ready .any ops listed).contains i=true)(hm:BG o.op=true)
  (hpan: ∀c R σ,Q (.panic c) R σ→False) (hpn: ∀bl,iz (eK β bl) [o]=true) (hσ:mU σ β)
  (h: ∀B1 F1 w1,ab P B1 F1 w1 n ops [o] (fun σ'=>σ'.gH=true∧ZH P B F0 w0 n ops Q β fuel (listed.setIfInBounds i true) R σ') σ):ZH P B F0 w0 n ops Q β (fuel+1) listed R σ :=
 ZH.first i ho hg hs hf hr hpan hpn hσ (fun bl a w _ _=>let ⟨v,h⟩:=EL hm a;⟨v,fun w' _=>h w'⟩) (aD h)
theorem ZH.fd(hT:bH P T)(i:Nat)(ho:ops[i]?=some o)(hg:o.guard=none)(hs:Region.noSelect ops=true)(hf:Region.free .any ops listed i=true)(hr:(Region.ready .any ops listed).contains i=true)(hm:Hd T σ o.op=true)
  (hpan: ∀c R σ,Q (.panic c) R σ→False) (hpn: ∀bl,iz (eK β bl) [o]=true) (hσ:mU σ β)
  (h: ∀B1 F1 w1,ab P B1 F1 w1 n ops [o] (fun σ'=>σ'.gH=true∧ZH P B F0 w0 n ops Q β fuel (listed.setIfInBounds i true) R σ') σ):ZH P B F0 w0 n ops Q β (fuel+1) listed R σ :=
 ZH.first i ho hg hs hf hr hpan hpn hσ (fun bl a w hR _=>let ⟨v,h⟩:=Hc hT hR.rel hm;⟨v,fun w' _=>h w'⟩) (aD h)
theorem ZH.ld(hT:bH P T)(i:Nat){ti:TI}{t off:Nat}{ds:List D}{u:Value}(ho:ops[i]?=some o)(hg:o.guard=none)(hs:Region.noSelect ops=true)(hf:Region.free .any ops listed i=true)(hr:(Region.ready .any ops listed).contains i=true)(hx:J0 T σ β o.op=some (ti,t,off,ds,u))(hl:kf ti [.v u]=some (.d (.v u)))
  (hpan: ∀c R σ,Q (.panic c) R σ→False) (hpn: ∀bl,iz (eK β bl) [o]=true) (hσ:mU σ β)
  (h: ∀B1 F1 w1,ab P B1 F1 w1 n ops [o] (fun σ'=>σ'.gH=true∧ZH P B F0 w0 n ops Q β fuel (listed.setIfInBounds i true) R σ') σ):ZH P B F0 w0 n ops Q β (fuel+1) listed R σ :=
 ZH.first i ho hg hs hf hr hpan hpn hσ (fun bl a w hR hp=>Ir hT hR hσ hp hx hl) (aD h)
end
end Lift
namespace Lift
open Go
open Go.RowKit (Below)
section
variable {P:Program} {T:Ty} {B:Nat} {F0:Nat→Prop} {w0:c7} {n:Nat} {σ:St} {R:List LR} {ops:Array Oper} {o o1 o2 o3:Oper} {Q:Exit→List LR→St→Prop} {β:gP} {fuel:Nat} {listed:Array Bool}
def xN(P:Program)(B:Nat)(F0:Nat→Prop)(w0:c7)(n:Nat)(ops:Array Oper)(Q:Exit→List LR→St→Prop)(β:gP)(fuel:Nat)(listed:Array Bool)(R:List LR)(σ:St)(i:Nat)(o:Oper):Prop :=
 ai P B F0 w0 n ops [o] (fun R' σ'=>ZH P B F0 w0 n ops Q β fuel (listed.setIfInBounds i true) R' σ') [] R σ
theorem ZH.many(rs:List Nat)(hr:Region.ready .any ops listed=rs)(hne:rs≠[])(hσ:mU σ β)
  (h: ∀i∈rs,∃o,ops[i]?=some o∧o.guard=none∧(∀bl,iz (eK β bl) [o]=true)∧xN P B F0 w0 n ops Q β fuel listed R σ i o):ZH P B F0 w0 n ops Q β (fuel+1) listed R σ:=by
 refine⟨hσ,fun bl a w hR hp=>wpAnyH_all hr hne (fun j hj=>?_)⟩;obtain ⟨o,ho,hg,hpn,h⟩:=h j hj;have h1:=uL (hpn bl) h hR hp;have hw:Region.wanted o (yielded ops a.tmps)=true:=by simp[Region.wanted,hg]
 unfold wpOp;simp only[ho,hw,if_true];unfold wpList at h1;rw[if_pos hw] at h1;rcases h1 with h1 | ⟨_,a1,w1,⟨h2,_⟩,_⟩
 · refine .inl (nV (fun c a w h=>by cases h.1.1) (fun ⟨a,w,h⟩=>by cases h.1.1) (fun v dd w' hn=>?_) h1);unfold wpList at hn;obtain ⟨⟨_,R',σ',h2,h3⟩,h4⟩:=hn;exact⟨FZ h3 h2.1 (h4 rfl),h2.2 bl _ _ h3 (h4 rfl)⟩
 · cases h2
theorem ZH.two(i j:Nat)(hr:Region.ready .any ops listed=[i,j])(ho1:ops[i]?=some o1)(ho2:ops[j]?=some o2)(hg1:o1.guard=none)(hg2:o2.guard=none)(hp1: ∀bl,iz (eK β bl) [o1]=true)(hp2: ∀bl,iz (eK β bl) [o2]=true)(hσ:mU σ β)
  (h1:xN P B F0 w0 n ops Q β fuel listed R σ i o1) (h2:xN P B F0 w0 n ops Q β fuel listed R σ j o2):ZH P B F0 w0 n ops Q β (fuel+1) listed R σ :=
 ZH.many [i,j] hr (by simp) hσ (fun k hk=>by
   simp only[List.mem_cons,List.not_mem_nil,or_false] at hk;rcases hk with rfl | rfl
   · exact⟨o1,ho1,hg1,hp1,h1⟩
   · exact⟨o2,ho2,hg2,hp2,h2⟩)
theorem ZH.three(i j k:Nat)(hr:Region.ready .any ops listed=[i,j,k])(ho1:ops[i]?=some o1)(ho2:ops[j]?=some o2)(ho3:ops[k]?=some o3)(hg1:o1.guard=none)(hg2:o2.guard=none)(hg3:o3.guard=none)(hp1: ∀bl,iz (eK β bl) [o1]=true)(hp2: ∀bl,iz (eK β bl) [o2]=true)(hp3: ∀bl,iz (eK β bl) [o3]=true)(hσ:mU σ β)
  (h1:xN P B F0 w0 n ops Q β fuel listed R σ i o1) (h2:xN P B F0 w0 n ops Q β fuel listed R σ j o2) (h3:xN P B F0 w0 n ops Q β fuel listed R σ k o3):ZH P B F0 w0 n ops Q β (fuel+1) listed R σ :=
 ZH.many [i,j,k] hr (by simp) hσ (fun m hk=>by
   simp only[List.mem_cons,List.not_mem_nil,or_false] at hk;rcases hk with rfl | rfl | rfl
   · exact⟨o1,ho1,hg1,hp1,h1⟩
   · exact⟨o2,ho2,hg2,hp2,h2⟩
   · exact⟨o3,ho3,hg3,hp3,h3⟩)
theorem ZH.meet(fuel':Nat)(listed':Array Bool)(Rf:Value→List LR)(σf:Value→St)(h: ∀V,ZH P B F0 w0 n ops Q β fuel' listed' (Rf V) (σf V))
  (hk:(∀V,ZH P B F0 w0 n ops Q β fuel' listed' (Rf V) (σf V))→ZH P B F0 w0 n ops Q β fuel listed R σ):ZH P B F0 w0 n ops Q β fuel listed R σ:=hk h
theorem ZH.ls(l':Array Bool)(h:listed=l')(hk:ZH P B F0 w0 n ops Q β fuel l' R σ):ZH P B F0 w0 n ops Q β fuel listed R σ:=h▸hk
end
end Lift
namespace Lift
open Go
section
variable {P:Program} {B:Nat} {F0:Nat→Prop} {w0:c7} {n:Nat} {σ τ:St} {R:List LR} {ops:Array Oper} {Q:Exit→List LR→St→Prop} {β:gP} {fuel:Nat} {listed l':Array Bool}
def qB(n k:Nat):Array Bool:=⟨(List.range n).map (fun i=>Nat.testBit k i)⟩
theorem qL(hk:ZH P B F0 w0 n ops Q β fuel l' R τ)(h:listed=l')(hs:σ.dW (τ.map Prod.fst)=τ)(hσ:mU σ β):ZH P B F0 w0 n ops Q β fuel listed R σ :=
 ZH.to _ _ hs hσ (ZH.ls _ h hk)
end
end Lift
namespace Lift
open Go
open Go.RowKit (Below)
section
variable {P:Program} {T:Ty} {B:Nat} {F0:Nat→Prop} {w0:c7} {n:Nat} {σ τ σ0:St} {R:List LR} {ops all:Array Oper} {l rest:List Oper} {o:Oper} {d:Nat} {lk hm:Nat→Option AV} {x:Code} {a:Act} {w:World} {K:List LR→St→Prop} {p:lV} {ds:List Nat}
theorem Rel.Kk{t:Nat}{cs:List D}(hR:Rel P B F0 w0 n σ a w)(ht:σ.get t=some (.bx cs)):Rel P B F0 w0 n ((t,.d (.pr cs))::σ.kill t) a w:=by
 obtain ⟨O,hOr,hO⟩:=hR.own
 let O':Nat→Option Nat:=fun c=>if O c=some t then none else O c
 have hfree: ∀c,aR O (FW B F0 w) c→aR O' (FW B F0 w) c:=fun c hc=>⟨by simp only[O'];rw[hc.1];simp,hc.2⟩;refine⟨hR.below,hR.base,hR.f0,hR.defers,hR.size,O',fun b k hk=>?_,fun k av hk=>?_⟩
 · simp only[O'] at hk;split at hk
   · cases hk
   · exact hOr b k hk
 have hget: ∀j x,x.home=true→St.get ((t,AV.d (.pr cs))::σ.kill t) j=some x→σ.get j=some x:=fun j x hx hg=>by
  rw[St.aI] at hg;split at hg
  · simp at hg;subst hg;simp[AV.home] at hx
  · rw[St.dM] at hg;cases hsk:σ.get j with
    | none=>simp[hsk] at hg
    | some z =>
      simp only[hsk,Option.map_some,Option.some.injEq] at hg;subst hg;rw[gr hx]
 rw[St.aI] at hk;split at hk
 · rename_i e;subst e;cases hk;obtain ⟨v,hv,hr⟩:=hO t _ ht;obtain ⟨b,es,e,rfl,h2,h3,h4⟩:=hr;refine⟨_,hv,Rd.Jm ⟨by simp only[O',h2];simp,(hOr b t h2).fw hR.f0⟩ h3 (fun i d hd=>?_)⟩;obtain ⟨h5,u,hu,h6⟩:=h4.get hd;exact⟨h5,u,by simpa using hu,h6.mono hfree (fun _ _=>rfl)⟩
 · rename_i hne;rw[St.dM] at hk;cases hs:σ.get k with
   | none=>simp[hs] at hk
   | some y =>
     simp only[hs,Option.map_some,Option.some.injEq] at hk;subst hk;obtain ⟨u,hu,hur⟩:=hO k y hs;refine⟨u,hu,?_⟩;rcases AV.kL t y with ⟨h1,h2⟩ | h1
     · rw[h1];exact hur.move (fun c hc=>⟨hfree c hc,rfl⟩) (fun _ c hc=>⟨by simp only[O',hc];rw[if_neg (by simpa using Ne.symm hne)],rfl⟩) (fun j hj z hz hg=>⟨hget j z hz hg,rfl⟩)
     · rw[h1];trivial
theorem ab.Kj{K:St→Prop}(t:Nat){cs:List D}(ht:σ.get t=some (.bx cs))(h:ab P B F0 w0 n all l K ((t,.d (.pr cs))::σ.kill t)):ab P B F0 w0 n all l K σ:=fun a w hR=>h a w (hR.Kk ht)
def Ip(T:Ty)(lk:Nat→Option AV):Op→Option (Nat×List D×List D)
 | .makeFunc fn first cap=>match fn with
   | .func k=>match rl T lk first.toList (List.replicate first.size 0),rl T lk cap.toList (List.replicate cap.size 0) with
     | some xs,some ys=>some (k,xs,ys)
     | _,_=>none
   | _=>none
 | _=>none
theorem aK.Io(hT:bH P T){k:Nat}{xs ys:List D}(hd:o.dst=some d)(hn:hm d=none)(hx:Ip T lk o.op=some (k,xs,ys)):aK P B F0 w0 d o lk hm (.d (.fn k xs ys)):=by
 refine⟨hd,hn,fun a w O hI K Q hK=>?_⟩;obtain ⟨dst,op,ty,pos,after,guard⟩:=o;simp only[] at hd hx hI;cases op<;>simp only[Ip] at hx<;>try (cases hx;done)
 rename_i fn first cap
 split at hx<;>try (cases hx;done)
 rename_i k';split at hx<;>simp at hx;rename_i xs' ys' h1 h2;obtain ⟨rfl,rfl,rfl⟩:=hx;have r1:=j4 hT hI first.toList _ xs' (fun x hx t ht=>by subst ht;simp[Op.operands];exact .inl (Array.mem_toList_iff.1 hx)) h1
 have r2:=j4 hT hI cap.toList _ ys' (fun x hx t ht=>by subst ht;simp[Op.operands];exact .inr (Array.mem_toList_iff.1 hx)) h2;have hrun:(execOp a.eval {dst:=dst,op:= .makeFunc (.func k') first cap,type:=ty,pos:=pos,after:=after,guard:=guard}).run P w= .ok (.value (.func (.func k') (first.map a.eval) (cap.map a.eval))) w:=rfl;refine br hrun (hK _ w O (dy.refl hI.lt) ?_);have:=Rd.fn (w:=w) (F:=aR O (FW B F0 w)) (k:=k') (a:=xs') (c:=ys') r1.1 r2.1 r1.2 r2.2;have e1:(first.toList.map a.eval).toArray=first.map a.eval:=by apply Array.ext';simp
 have e2:(cap.toList.map a.eval).toArray=cap.map a.eval:=by apply Array.ext';simp
 rw[e1,e2] at this;exact this
theorem ab.Io(hT:bH P T){K:St→Prop}{k:Nat}{xs ys:List D}(hd:o.dst=some d)(hdn:Nat.ble (d+1) n=true)(hg:aH all σ o=true)(hx:Ip T σ.get o.op=some (k,xs,ys))
  (h:ab P B F0 w0 n all rest K ((d,.d (.fn k xs ys))::σ)):ab P B F0 w0 n all (o::rest) K σ:=ab.pure hg hdn (aK.Io hT hd (bp σ d) hx) h
def FJ(T:Ty)(lk:Nat→Option AV):Op→Option (FuncId×List D)
 | .call c=>match c.callee with
   | .value (.tmp t)=>match lk t,rl T lk c.args.toList c.argTypes.toList with
     | some (.d (.fn k xs ys)),some ds=>some (k,xs++ds++ys)
     | _,_=>none
   | _=>none
 | _=>none
theorem BP{a:Act}{w:World}{t f:Nat}{xs ys:List Value}{args:Array Operand}{ts:Array TypeId}{ty:TypeId}{pos:String}{after:Array Edge}{guard:Option (Nat×Bool)}{dst:Option Tmp}(hok:sG P f)(ht:a.eval (.tmp t)= .func (.func f) xs.toArray ys.toArray):
  (execOp a.eval {dst:=dst,op:= .call {callee:= .value (.tmp t),args:=args,argTypes:=ts},type:=ty,pos:=pos,after:=after,guard:=guard}).run P w= .ok (.enter f (xs++args.toList.map a.eval++ys).toArray) w:=by
 obtain ⟨fn,h1,h2,h3⟩:=hok;have e:xs.toArray++args.map a.eval++ys.toArray=(xs++args.toList.map a.eval++ys).toArray:=by apply Array.ext';simp
 simp only[execOp,resolve,Deferred.ofValue,ht,Sem.run_bind,Sem.run_pure,Result.andThen_ok,invoke,callFunc,run_program,h1,h2,h3,Bool.false_eq_true,if_false,e]
theorem HA{w:World}{F:Nat→Prop}{ds es:List D}{vs us:List Value}(h1:vs.length=ds.length)(h2:us.length=es.length)(r1: ∀(i:Nat) (d:D) (v:Value),ds[i]?=some d→vs[i]?=some v→Rd w F d v)
  (r2: ∀(i:Nat) (d:D) (v:Value),es[i]?=some d→us[i]?=some v→Rd w F d v):(vs++us).length=(ds++es).length∧ ∀(i:Nat) (d:D) (v:Value),(ds++es)[i]?=some d→(vs++us)[i]?=some v→Rd w F d v:=by
 refine⟨by simp[h1,h2],fun i d v hd hv=>?_⟩;rcases Nat.lt_or_ge i ds.length with h | h
 · rw[List.getElem?_append_left h] at hd;rw[List.getElem?_append_left (by omega)] at hv;exact r1 i d v hd hv
 · rw[List.getElem?_append_right h] at hd;rw[List.getElem?_append_right (by omega),h1] at hv;exact r2 _ d v hd hv
theorem aK.FI(hT:bH P T){f:FuncId}{ds:List D}{res:D}(hd:o.dst=some d)(hn:hm d=none)(hx:FJ T lk o.op=some (f,ds))(hP:Pure P f ds res):aK P B F0 w0 d o lk hm (.d res):=by
 refine⟨hd,hn,fun a w O hI K Q hK=>?_⟩;obtain ⟨dst,op,ty,pos,after,guard⟩:=o;simp only[] at hd hx hI;cases op<;>simp only[FJ] at hx<;>try (cases hx;done)
 rename_i c;obtain ⟨callee,args,ats⟩:=c;simp only[] at hx;split at hx<;>try (cases hx;done)
 rename_i t;split at hx<;>simp at hx;rename_i k xs ys ds' ht hds;obtain ⟨rfl,rfl⟩:=hx;rw[← List.append_assoc] at hP;have hr:=j4 hT hI args.toList ats.toList ds' (fun x hx t ht=>by subst ht;simp[Op.operands,Call.operands];exact .inr (Array.mem_toList_iff.1 hx)) hds;obtain ⟨v,hv,hvr⟩:=hI.rd t (by simp[Op.operands,Call.operands]) _ ht;obtain ⟨va,vc,rfl,l1,l2,r1,r2⟩:=Rd.JE hvr;have hev:=ij hv;have hA:=HA l1 hr.1 r1 hr.2;have hA2:=HA hA.1 l2 hA.2 r2;unfold Oper.wp;rw[BP hP.1 hev];show Calls P k (va++args.toList.map a.eval++vc).toArray w _;have hc:=hP.2 w (aR O (FW B F0 w)) (va++args.toList.map a.eval++vc) (fun b hb=>(FW.step hI.f0 hI.base (ak _) b hb.2).1) hA2.1 hA2.2;refine hc.mono fun e w' ⟨v,he,hb,hv⟩=>?_;subst he;refine hK v w' O ⟨hb,fun _ _=>rfl,fun b t h=> .inl (hI.lt b t h)⟩ (hv.mono (fun b hb'=>?_) (fun _ _=>rfl));rcases hb' with h | ⟨h1,h2⟩
 · exact⟨h.1,(FW.step hI.f0 hI.base hb.size b h.2).2⟩
 · refine⟨?_,.inr ⟨Nat.le_trans hI.base h1,h2⟩⟩;cases ho:O b with
   | none=>rfl
   | some t=>have:=hI.lt b t ho;omega
theorem ab.FI(hT:bH P T){K:St→Prop}{f:FuncId}{xs:List D}{res:D}(hd:o.dst=some d)(hdn:Nat.ble (d+1) n=true)(hg:aH all σ o=true)(hx:FJ T σ.get o.op=some (f,xs))(hP:Pure P f xs res)
  (h:ab P B F0 w0 n all rest K ((d,.d res)::σ)):ab P B F0 w0 n all (o::rest) K σ:=ab.pure hg hdn (aK.FI hT hd (bp σ d) hx hP) h
end
end Lift
namespace Lift
open Go
open Go.RowKit (Below)
section
variable {P:Program} {T:Ty} {B:Nat} {F0:Nat→Prop} {w0:c7} {n r:Nat} {pn:lV} {σ:St} {R:List LR} {x y:Code} {Q:Exit→List LR→St→Prop}
end
end Lift
namespace Lift
open Go
open Go.RowKit (Below)
section
variable {P:Program} {T:Ty} {B:Nat} {F0:Nat→Prop} {w0:c7} {n:Nat} {σ σ':St} {R R':List LR} {all:Array Oper} {l rest:List Oper} {o:Oper} {d:Nat} {K:List LR→St→Prop} {p:lV}
end
end Lift
namespace Lift
open Go
open Go.RowKit (Below)
section
variable {P:Program} {T:Ty} {G:Nat→Prop} {l n:Nat} {x:Option D} {ys:List Nat} {σ τ:St} {a a':Act} {W W':World}
variable {β:Type} {JJ:β→World→Prop} {ops:Array Oper} {os rest:List Oper} {o:Oper} {Q:Exit→β→Option D→St→Prop} {s s1 s2:β} {c c2:Code} {d:Nat}
end
end Lift
namespace Lift
open Go
open Go.RowKit (Below)
section
variable {P:Program} {T:Ty} {B:Nat} {F0:Nat→Prop} {w0:c7} {n:Nat} {σ:St} {R:List LR} {a a':Act} {W W':World}
end
end Lift
namespace Lift
open Go
open Go.RowKit (Below)
section
variable {P:Program} {T:Ty} {B:Nat} {F0:Nat→Prop} {w0:c7} {n:Nat} {o:Oper} {d:Nat} {σ σ':St}
end
end Lift
