/- Parts of the proof, one behind the other: the logic, the contracts of the functions that the statement reaches. -/
import Derived.Test.YtebpenldlefgjaaGreatM3C
import Derived.Laws.StructEq
set_option linter.unusedVariables false
set_option linter.unusedSimpArgs false
namespace Lift
open Go Go.Proofs
abbrev ao(a:NQ):D:= .sl 3 (fp a)
abbrev iF(rt:List NQ):D:= .ag [.sl 1 (rt.map ao)]
theorem Am{k:Nat}(hk:k≤43):IntKind.i64.wrap ((1:Int)*2^(min k IntKind.i64.bits))=((2^k:Nat):Int):=by
 have hb:IntKind.i64.bits=64:=rfl;have h:2^k≤2^43:=Nat.pow_le_pow_right (by decide) hk;rw[hb,Nat.min_eq_left (by omega),show (1:Int)*2^k=((2^k:Nat):Int) by push_cast;omega];generalize 2^k=m at h;rw[aG (by omega) (by omega)]
theorem mQ(xs:List D)(r:Int)(hx:xs.length≤4398046511104)(hr: ∀k:Nat,k≤43→xs.length≤2^k→(∀j,j<k→2^j<xs.length)→r=if 2^k=xs.length then (k:Int) else -1):Pure Tryz.prog 81 [.sl 3 xs] (dI r):=by
 refine qJ 17 Tryz.func81 rfl rfl rfl rfl (by kernel_rfl) (fun B F0 w0=>?_);refine qX 1 rfl ?_;refine qK 1 rfl ?_;refine qI (AW.block ?_);refine AW.aL [0,3] (fun k:Nat=>[(0,.d (.sl 3 xs)),(3,.d (dI k))]) (fun k=>k≤43∧ ∀j,j<k→2^j<xs.length) (fun k=>43-k) 0 rfl ⟨Nat.zero_le _,fun j h=>by omega⟩ (fun k hi=>?_)
 · obtain ⟨hk,hi⟩:=hi;show AW _ _ _ _ _ _ _ [(0,.d (.sl 3 xs)),(3,.d (dI k))];have hp:2^k≤2^43:=Nat.pow_le_pow_right (by decide) hk;refine AW.seq (qX 2 rfl ?_);rw[Am hk];refine qU 3 rfl ?_;refine ae.nil ?_;refine AW.cond rfl (fun h=>?_) (fun h=>?_)
   · have h:2^k<xs.length:=by have:=aq h;omega
     have hk4:k≠43:=fun e=>by subst e;omega
     refine AW.skip (AW.block ?_);refine qT 2 rfl ?_;rw[aG (x:=(k:Int)+1) (by omega) (by omega)];refine qU 1 rfl ?_;refine ae.nil ?_
     exact⟨k+1,rfl,⟨by omega,fun j hj=>by
      by_cases e:j=k
      · rw[e];exact h
      · exact hi j (by omega)⟩,by omega⟩
   have h: ¬2^k<xs.length:=by have:=ar h;omega
   rw[hr k hk (by omega) hi];refine AW.exit (AW.seq ?_);refine qX 2 rfl ?_;rw[Am hk];refine qU 3 rfl ?_;refine ae.nil ?_;by_cases e:2^k=xs.length
   · rw[if_pos e,e,bne_eq_false_iff_eq.2 rfl];refine AW.aD rfl ?_;refine AW.skip (qX 2 rfl ?_);exact qN rfl
   rw[if_neg e,bne_iff_ne.2 (fun h=>e (by omega))];refine AW.aC rfl ?_;refine qX 1 rfl ?_;exact qN rfl
theorem hC{i j:Nat}(h:2^i≤2^j):i≤j:=(Nat.pow_le_pow_iff_right (a:=2) (by decide)).1 h
theorem eZ(xs:List D){i:Nat}(h:xs.length=2^i)(hi:i≤42):Pure Tryz.prog 81 [.sl 3 xs] (dI i):=by
 have hp:2^i≤2^42:=Nat.pow_le_pow_right (by decide) hi;refine mQ xs i (by omega) (fun k hk h1 h2=>?_);rw[h] at h1;have h1:=hC h1;by_cases e:i<k
 · have:=h2 i e;omega
 · have e:i=k:=by omega
   rw[if_pos (by rw[h,e]),e]
theorem mu(xs:List D)(h: ∀i,xs.length≠2^i)(hx:xs.length≤4398046511104):Pure Tryz.prog 81 [.sl 3 xs] (dI (-1)):=by
 refine mQ xs (-1) hx (fun k hk h1 h2=>?_);rw[if_neg (fun e=>h k e.symm)]
theorem ui{a:NQ}{i:Nat}(hi:i<a.length)(h:a.getD i 0≠0):bD a=false:=by
 unfold bD;rw[List.all_eq_false];exact⟨a.getD i 0,by rw[aN,b9 hi];exact List.getElem_mem hi,by rw[ba h];simp⟩
theorem q8{a:NQ}(h: ∀i,i<a.length→a.getD i 0=0):bD a=true:=by
 unfold bD;rw[List.all_eq_true];intro x hx;obtain ⟨i,hi,rfl⟩:=List.mem_iff_getElem.1 hx;have:=h i hi;rw[aN,b9 hi] at this;exact aO this
theorem oA(a:NQ){k:Nat}(hs:aB k a)(hk:k≤17300000000000)(hl:a.length≤1000000):Pure Tryz.prog 170 [ao a] (dB (bD a)):=by
 refine qJ 15 Tryz.func170 rfl rfl rfl rfl (by kernel_rfl) (fun B F0 w0=>?_);have hno:=fun i hi=>ui (a:=a) (i:=i) hi;have hyes:=q8 (a:=a);generalize bD a=E at hno hyes ⊢;refine qX 1 rfl ?_;refine qI (qX 2 rfl ?_);rw[ah];refine qU 1 rfl ?_;refine ae.nil ?_;refine AW.block ?_;refine AW.aL [5,6,7] (fun i:Nat=>[(5,.d (ao a)),(6,.d (dI a.length)),(7,.d (dI i))]) (fun i=> ∀j,j<i→j<a.length→a.getD j 0=0) (fun i=>a.length-i) 0 rfl (fun j h=>by omega) (fun i hi=>?_)
 · show AW _ _ _ _ _ _ _ [(5,.d (ao a)),(6,.d (dI a.length)),(7,.d (dI i))];refine qX 1 rfl ?_;refine qI ?_;refine AW.cond rfl (fun h=>?_) (fun h=>?_)
   · have hii:i<a.length:=by have:=aq h;omega
     have g:=mG hii;have cs:=lF (Qr (a.getD i 0)) (ir _ (hs i)) hk;have hn:=hno i hii;rw[da] at cs;have s0:=MP (q:=a.getD i 0);generalize hq:a.getD i 0=q at g cs hn s0;generalize jz q.num=s at cs s0;refine AW.skip (AW.seq (AW.block (AW.seq (AW.region ?_))));refine ae.idx tok (Qr q).D rfl rfl rfl rfl (aj i) g ?_;refine qU 3 rfl ?_;refine qK 1 rfl ?_;refine ae.call tok rfl rfl rfl rfl cs ?_;refine qU 1 rfl ?_;refine ae.nil ?_;refine AW.cond rfl (fun h=>?_) (fun h=>?_)
     · have h:s≠0:=bne_iff_ne.1 h;rw[hn (fun e=>h (s0.2 e))];refine qX 1 rfl ?_;exact qN rfl
     · have h:s=0:=bne_eq_false_iff_eq.1 h;refine AW.skip (qT 1 rfl ?_);rw[aG (x:=(i:Int)+1) (by omega) (by omega)];refine qU 1 rfl ?_;refine ae.nil ?_;refine⟨i+1,rfl,fun j h1 h2=>?_,by omega⟩;by_cases e:j=i
       · rw[e,hq];exact s0.1 h
       · exact hi j (by omega) h2
   have hii: ¬i<a.length:=by have:=ar h;omega
   rw[hyes (fun j h=>hi j (by omega) h)];refine AW.exit ?_;refine qX 1 rfl ?_;exact qN rfl
theorem HY(q:Rat):((Qr q).g=false∧(Qr q).n.length=0∧(Qr q).d.length=0)↔q=0:=by
 constructor
 · rintro ⟨_,h,_⟩
   have:=RD.nN (r:=Qr q) (List.length_eq_zero_iff.1 h);rw[da] at this;exact this
 · intro e;subst e;rw[iW];exact⟨rfl,rfl,rfl⟩
theorem mR(a:NQ)(hl:a.length≤1000000):Pure Tryz.prog 83 [ao a] (dB (bD a)):=by
 refine qJ 26 Tryz.func83 rfl rfl rfl rfl (by kernel_rfl) (fun B F0 w0=>?_);have hno:=fun i hi=>ui (a:=a) (i:=i) hi;have hyes:=q8 (a:=a);generalize bD a=E at hno hyes ⊢;refine qX 1 rfl ?_;refine qI (qX 2 rfl ?_);rw[ah];refine qU 1 rfl ?_;refine ae.nil ?_;refine AW.block ?_;refine AW.aL [5,6,7] (fun i:Nat=>[(5,.d (ao a)),(6,.d (dI a.length)),(7,.d (dI i))]) (fun i=> ∀j,j<i→j<a.length→a.getD j 0=0) (fun i=>a.length-i) 0 rfl (fun j h=>by omega) (fun i hi=>?_)
 · show AW _ _ _ _ _ _ _ [(5,.d (ao a)),(6,.d (dI a.length)),(7,.d (dI i))];refine qX 1 rfl ?_;refine qI ?_;refine AW.cond rfl (fun h=>?_) (fun h=>?_)
   · have hii:i<a.length:=by have:=aq h;omega
     have g:=mG hii;have hn:=hno i hii;have s0:=HY (a.getD i 0);generalize hq:a.getD i 0=q at g hn s0;generalize Qr q=y at g s0;obtain ⟨yg,yn,yd⟩:=y;simp only[] at s0;refine AW.skip (AW.seq (AW.block (AW.seq (AW.region ?_))));refine ae.idx tok (RD.mk yg yn yd).D rfl rfl rfl rfl (aj i) g ?_;refine qU 3 rfl ?_;refine qK 3 rfl ?_;cases yg with
     | true =>
       refine qU 11 rfl ?_;refine ae.nil ?_;refine AW.aC rfl ?_;rw[hn (fun e=>by have:=s0.2 e;cases this.1)];refine qX 1 rfl ?_;exact qN rfl
     | false =>
     refine qU 3 rfl ?_;rw[a8];refine qU 1 rfl ?_;by_cases h1:(0:Int)<(yn.length:Int)
     · rw[aO h1];refine qU 7 rfl ?_;refine ae.nil ?_;refine AW.aC rfl ?_;rw[hn (fun e=>by have:=(s0.2 e).2.1;omega)];refine qX 1 rfl ?_;exact qN rfl
     rw[ba h1];refine qU 5 rfl ?_;rw[a8];refine qU 1 rfl ?_;by_cases h2:(0:Int)<(yd.length:Int)
     · rw[aO h2];refine qU 1 rfl ?_;refine ae.nil ?_;refine AW.aC rfl ?_;rw[hn (fun e=>by have:=(s0.2 e).2.2;omega)];refine qX 1 rfl ?_;exact qN rfl
     rw[ba h2];refine qU 1 rfl ?_;refine ae.nil ?_;refine AW.aD rfl ?_;refine AW.skip (qT 1 rfl ?_);rw[aG (x:=(i:Int)+1) (by omega) (by omega)];refine qU 1 rfl ?_;refine ae.nil ?_;refine⟨i+1,rfl,fun j h1 h2=>?_,by omega⟩;by_cases e:j=i
     · rw[e,hq];exact s0.1 ⟨rfl,by omega,by omega⟩
     · exact hi j (by omega) h2
   have hii: ¬i<a.length:=by have:=ar h;omega
   rw[hyes (fun j h=>hi j (by omega) h)];refine AW.exit ?_;refine qX 1 rfl ?_;exact qN rfl
end Lift
namespace Lift
open Go Go.Proofs
section
variable {P:Program} {T:Ty} {B:Nat} {F0:Nat→Prop} {w0:cU} {n:Nat} {σ τ:St} {K:St→Prop} {all:Array Oper} {o:Oper} {d:Nat} {rest:List Oper}
theorem ae.JI(hT:bF P T)(z:Nat){e:Nat}{te:TI}{m:Int}(hd:o.dst=some d)(hdn:Nat.ble (d+1) n=true)(hg:aF all σ o=true)(hx:Ls T σ.get o.op=some (e,te,m))(hz:lQ te=true)(hzd:uj te= .ag [.v (.bool false),.sl 1 [],.sl 1 []])(hb:te.bytes=56)(hm:m=z)(h1:z≤1000000)
  (h:ae P B F0 w0 n all rest K ((d,.ow e (fp (List.replicate z 0)))::σ.kill d)):ae P B F0 w0 n all (o::rest) K σ:=by
 subst hm;refine ae.make hT hd hdn hg hx hz (by omega) (by rw[hb];omega) (by omega) ?_;have hq:(Qr 0).D= .ag [.v (.bool false),.sl 1 [],.sl 1 []]:=by rw[iW];rfl
 rw[hzd,← hq,show List.replicate ((z:Int)).toNat (Qr 0).D=fp (List.replicate z 0) by rw[fp,List.map_replicate];rfl];exact h
theorem Fp(a:NQ)(m:Nat):(fp a).take (min (fp a).length (fp (List.replicate m 0)).length)++(fp (List.replicate m 0)).drop (min (fp a).length (fp (List.replicate m 0)).length)=fp (bj a m):=by
 rw[ah,ah,List.length_replicate,← List.map_take,← List.map_drop,← List.map_append];unfold bj;rw[List.drop_replicate]
 congr 2
 · by_cases h:a.length≤m
   · rw[Nat.min_eq_left h,List.take_of_length_le (ai _),List.take_of_length_le h]
   · rw[Nat.min_eq_right (by omega)]
 · congr 1;omega
theorem ae.Mp(hT:bF P T){h e m:Nat}{a:NQ}(hd:o.dst=some d)(hdn:Nat.ble (d+1) n=true)(hg:aF all σ o=true)(hx:MJ T σ o.op=some (h,e,fp (List.replicate m 0),fp a))
  (hk: ∀z,ae P B F0 w0 n all rest K ((d,.d (.v (.int .i64 z)))::(h,.ow e (fp (bj a m)))::σ)):ae P B F0 w0 n all (o::rest) K σ:=by
 refine ae.Hv hT hd hdn hg hx ?_;rw[Fp];exact hk _
end
theorem Cv{a b:NQ}(h:a.length=b.length)(h2: ∀i,i<a.length→a.getD i 0=b.getD i 0):a=b:=by
 refine List.ext_getElem h (fun i h3 h4=>?_);have:=h2 i h3;rw[aN,aN,b9 h3,b9 h4] at this;exact this
theorem CM(r:NQ)(i j:Nat)(q:Rat):(r.set i q).getD j 0=if j=i∧i<r.length then q else r.getD j 0:=by
 rw[aN,List.getElem?_set,aN];by_cases e:i=j
 · subst e;by_cases h:i<r.length
   · rw[if_pos rfl,if_pos h,if_pos ⟨rfl,h⟩];rfl
   · rw[if_pos rfl,if_neg h,if_neg (fun e=>h e.2),List.getElem?_eq_none (by omega)]
 · rw[if_neg e,if_neg (fun h=>e h.1.symm)]
def Gx(r:NQ)(res:D)(R':List LR):Prop:= ∃V,res= .v V∧R'=[(V,AV.ow 68 (fp r))]
theorem iS(a:NQ)(n:Nat)(hn:n≤1000000):lO Tryz.prog 84 [ao a,dI n] [] (Gx (bj a n)):=by
 refine lO.intro (n:=12) tok Tryz.func84 rfl rfl rfl (Nat.le_of_ble_eq_true rfl) (by kernel_rfl) (fun B F0 w0=>?_);refine AZ.seq (AZ.jw (fun B1 F1 w1=>?_));refine qU 1 rfl ?_;refine ae.nil ⟨rfl,?_⟩;refine AZ.seq (AZ.jw (fun B1 F1 w1=>?_));refine qU 1 rfl ?_;refine ae.JI tok n rfl rfl rfl rfl rfl rfl rfl rfl hn ?_;refine qU 1 rfl ?_;refine ae.nil ⟨rfl,?_⟩;refine AZ.seq (AZ.jw (fun B1 F1 w1=>?_));refine qU 2 rfl ?_;refine ae.Mp tok (a:=a) (m:=n) rfl rfl rfl rfl (fun z=>?_);refine ae.nil ⟨rfl,?_⟩;refine AZ.seq (AZ.jw (fun B1 F1 w1=>?_));refine qU 2 rfl ?_;refine ae.nil ⟨rfl,?_⟩;refine AZ.iL 4 rfl rfl rfl (fun V=>AZ.ret ⟨.v V,rfl,V,rfl,rfl⟩)
theorem ft(a:NQ){k:Nat}(hs:aB k a)(hk:k≤17300000000000)(hl:a.length≤1000000):Pure Tryz.prog 129 [ao a] (ao (aZ a)):=by
 refine qJ 23 Tryz.func129 rfl rfl rfl rfl (by kernel_rfl) (fun B F0 w0=>?_);refine qX 1 rfl ?_;refine qK 2 rfl ?_;rw[ah];refine ae.JI tok a.length rfl rfl rfl rfl rfl rfl rfl rfl hl ?_;refine qU 1 rfl ?_;refine qI (qX 2 rfl ?_);rw[ah];refine qU 1 rfl ?_;refine ae.nil ?_;refine AW.block ?_;refine AW.aL [0,3,9,10] (fun s:Nat×NQ=>[(0,.d (ao a)),(3,.ow 68 (fp s.2)),(9,.d (dI a.length)),(10,.d (dI s.1))]) (fun s=>s.2.length=a.length∧ ∀j,j<s.1→j<a.length→s.2.getD j 0= -a.getD j 0) (fun s=>a.length-s.1) (0,List.replicate a.length 0) rfl ⟨List.length_replicate,fun j h=>by omega⟩ (fun s hi=>?_)
 · obtain ⟨i,r⟩:=s;obtain ⟨hrl,hi⟩:=hi;simp only[] at hrl hi;show AW _ _ _ _ _ _ _ [(0,.d (ao a)),(3,.ow 68 (fp r)),(9,.d (dI a.length)),(10,.d (dI i))];refine qX 1 rfl ?_;refine qI ?_;refine AW.cond rfl (fun h=>?_) (fun h=>?_)
   · have hii:i<a.length:=by have:=aq h;omega
     have g:=mG hii;have cn:=tA (Qr (a.getD i 0)) (ir _ (hs i)) hk;rw[da] at cn;refine AW.skip (AW.seq (AW.block ?_));refine qX 2 rfl ?_;refine ae.nil ?_;refine qT 4 rfl ?_;refine ae.idx tok (Qr (a.getD i 0)).D rfl rfl rfl rfl (aj i) g ?_;refine qU 1 rfl ?_;refine ae.call tok rfl rfl rfl rfl cn ?_;refine ae.gU tok rfl rfl rfl rfl (aj i) (by rw[ah];show i<_;omega) ?_;refine ae.BZ tok (-a.getD i 0) rfl rfl rfl (by show i<_;omega) ?_;refine ae.nil ?_;refine qT 1 rfl ?_;rw[aG (x:=(i:Int)+1) (by omega) (by omega)];refine qU 1 rfl ?_;refine ae.nil ?_;refine⟨(i+1,r.set i (-a.getD i 0)),rfl,⟨by rw[List.length_set];exact hrl,fun j h1 h2=>?_⟩,by show a.length-(i+1)<a.length-i;omega⟩;show (r.set i (-a.getD i 0)).getD j 0=_;rw[CM];by_cases e:j=i
     · rw[if_pos ⟨e,by omega⟩,e]
     · rw[if_neg (fun h=>e h.1)];exact hi j (by omega) h2
   have hii: ¬i<a.length:=by have:=ar h;omega
   obtain rfl:r=aZ a:=Cv (by rw[hrl,gq]) (fun j hj=>by rw[pf];exact hi j (by omega) (by omega));refine AW.exit ?_;refine qX 2 rfl ?_;exact qN rfl
theorem IV(a b:Nat):(if (b:Int)>(a:Int) then (b:Int) else (a:Int))=((max a b:Nat):Int):=by
 split<;>omega
theorem dX(a b:NQ){k:Nat}(ha:aB k a)(hb:aB k b)(hk:k≤17300000000000)(hl:a.length≤1000000)(hl2:b.length≤1000000):Pure Tryz.prog 44 [ao a,ao b] (ao (aX a b)):=by
 refine qJ 37 Tryz.func44 rfl rfl rfl rfl (by kernel_rfl) (fun B F0 w0=>?_);obtain ⟨n,hn⟩: ∃n,n=max a.length b.length:=⟨_,rfl⟩;have cw1:=iS a n (by omega);have cw2:=iS b n (by omega);have l1:=bJ a n;have l2:=bJ b n;have g1: ∀i,i<n→(bj a n).getD i 0=a.getD i 0:=fun i hi=>by rw[gD,if_pos hi]
 have g2: ∀i,i<n→(bj b n).getD i 0=b.getD i 0:=fun i hi=>by rw[gD,if_pos hi]
 have hpl:(aX a b).length=n:=by rw[jZ,hn]
 generalize bj a n=wa at cw1 l1 g1;generalize bj b n=wb at cw2 l2 g2;refine qX 1 rfl ?_;refine qK 4 rfl ?_;rw[ah,ah];refine qU 2 rfl ?_;rw[IV,← hn];refine qI (AZ.aw ?_);refine AZ.region ?_;refine ak.cut 2 rfl (fun B1 F1 w1=>?_);refine qU 2 rfl ?_;refine ae.nil ⟨rfl,?_⟩;refine ak.ju tok [] rfl rfl rfl rfl rfl List.nodup_nil rfl cw1 (fun _ _ _=>Nat.zero_le _) (fun res R1 hP=>?_);obtain ⟨V1,rfl,rfl⟩:=hP;refine ak.cut 2 rfl (fun B1 F1 w1=>?_);refine qU 2 rfl ?_;refine ae.nil ⟨rfl,?_⟩;refine ak.ju tok [] rfl rfl rfl rfl rfl List.nodup_nil rfl cw2 (fun _ _ _=>Nat.zero_le _) (fun res R1 hP=>?_);obtain ⟨V2,rfl,rfl⟩:=hP;refine ak.cut 2 rfl (fun B1 F1 w1=>?_);refine qU 2 rfl ?_;refine ae.nil ⟨rfl,?_⟩;refine ak.to [0,1] [(0,.d (.v V1)),(1,.d (.v V2))] rfl ?_;refine ak.fo 0 0 (V:=V1) (av:= .ow 68 (fp wa)) rfl rfl rfl ?_;refine ak.to [0,1] [(0,.ow 68 (fp wa)),(1,.d (.v V2))] rfl ?_;refine ak.fo 1 1 (V:=V2) (av:= .ow 68 (fp wb)) rfl rfl rfl ?_;refine ak.to [0,1] [(0,.ow 68 (fp wa)),(1,.ow 68 (fp wb))] rfl ?_;refine ak.nil ?_;refine AW.jK tok 1 rfl rfl ?_;refine AW.seq (qX 2 rfl ?_);rw[ah,l1];refine qU 1 rfl ?_;refine ae.nil ?_;refine AW.block ?_;refine AW.aL [0,1,19,20] (fun s:Nat×NQ=>[(0,.ow 68 (fp s.2)),(1,.d (ao wb)),(19,.d (dI n)),(20,.d (dI s.1))]) (fun s=>s.2.length=n∧ ∀j,j<n→s.2.getD j 0=if j<s.1 then a.getD j 0+b.getD j 0 else a.getD j 0) (fun s=>n-s.1) (0,wa) rfl ⟨l1,fun j h=>by rw[if_neg (Nat.not_lt_zero _)];exact g1 j h⟩ (fun s hi=>?_)
 · obtain ⟨i,r⟩:=s;obtain ⟨hrl,hi⟩:=hi;simp only[] at hrl hi;show AW _ _ _ _ _ _ _ [(0,.ow 68 (fp r)),(1,.d (ao wb)),(19,.d (dI n)),(20,.d (dI i))];refine qX 1 rfl ?_;refine qI ?_;refine AW.cond rfl (fun h=>?_) (fun h=>?_)
   · have hii:i<n:=by have:=aq h;omega
     have e1:=mG (r:=r) (i:=i) (by omega);have e2:=mG (r:=wb) (i:=i) (by omega);rw[hi i hii,if_neg (Nat.lt_irrefl _)] at e1;rw[g2 i hii] at e2;have ca:=mF (Qr (a.getD i 0)) (Qr (b.getD i 0)) (ir _ (ha i)) (ir _ (hb i)) hk;rw[da,da] at ca;refine AW.skip (AW.seq (AW.block ?_));refine qX 2 rfl ?_;refine ae.nil ?_;refine AW.draw aW 12 (by kernel_rfl) ?_;refine qP 4 rfl ?_;refine af.gU tok rfl rfl rfl rfl rfl rfl (aj i) (by rw[ah];show i<_;omega) ?_;refine af.du tok (Qr (a.getD i 0)).D rfl rfl rfl rfl rfl e1 rfl ?_;refine qP 2 rfl ?_;refine af.idx tok (Qr (b.getD i 0)).D rfl rfl rfl rfl rfl (aj i) e2 ?_;refine qP 1 rfl ?_;refine af.call tok rfl rfl rfl rfl rfl ca ?_;refine af.gU tok rfl rfl rfl rfl rfl rfl (aj i) (by rw[ah];show i<_;omega) ?_;refine af.nil ?_;refine ae.BZ tok (a.getD i 0+b.getD i 0) rfl rfl rfl (by show i<_;omega) ?_;refine ae.nil ?_;refine qT 1 rfl ?_;rw[aG (x:=(i:Int)+1) (by omega) (by omega)];refine qU 1 rfl ?_;refine ae.nil ?_;refine⟨(i+1,r.set i (a.getD i 0+b.getD i 0)),rfl,⟨by rw[List.length_set];exact hrl,fun j h1=>?_⟩,by show n-(i+1)<n-i;omega⟩;show (r.set i (a.getD i 0+b.getD i 0)).getD j 0=if j<i+1 then _ else _
     rw[CM];by_cases e:j=i
     · rw[if_pos ⟨e,by omega⟩,e,if_pos (by omega)]
     · rw[if_neg (fun h=>e h.1),hi j h1];by_cases h2:j<i
       · rw[if_pos h2,if_pos (by omega)]
       · rw[if_neg h2,if_neg (by omega)]
   have hii: ¬i<n:=by have:=ar h;omega
   obtain rfl:r=aX a b:=Cv (by rw[hrl,hpl]) (fun j hj=>by rw[nW,hi j (by omega),if_pos (by omega)]);refine AW.exit ?_;refine qX 2 rfl ?_;exact qN rfl
theorem kR(a b:NQ)(n:Nat)(hn:n≤100000):Pure Tryz.prog 172 [ao a,ao b,dI n] (ao (dN a b n)):=by
 refine qJ 14 Tryz.func172 rfl rfl rfl rfl (by kernel_rfl) (fun B F0 w0=>?_);have cw1:=iS a n (by omega);have cw2:=iS b n (by omega);have l1:=bJ a n;have l2:=bJ b n;unfold dN;generalize bj a n=wa at cw1 l1 ⊢;generalize bj b n=wb at cw2 l2 ⊢;refine qX 1 rfl ?_;refine qI (AZ.aw ?_);refine AZ.region ?_;refine ak.cut 2 rfl (fun B1 F1 w1=>?_);refine qU 2 rfl ?_;refine ae.nil ⟨rfl,?_⟩;refine ak.ju tok [] rfl rfl rfl rfl rfl List.nodup_nil rfl cw1 (fun _ _ _=>Nat.zero_le _) (fun res R1 hP=>?_);obtain ⟨V1,rfl,rfl⟩:=hP;refine ak.cut 2 rfl (fun B1 F1 w1=>?_);refine qU 2 rfl ?_;refine ae.nil ⟨rfl,?_⟩;refine ak.ju tok [] rfl rfl rfl rfl rfl List.nodup_nil rfl cw2 (fun _ _ _=>Nat.zero_le _) (fun res R1 hP=>?_);obtain ⟨V2,rfl,rfl⟩:=hP;refine ak.to [9,12] [(9,.d (.v V1)),(12,.d (.v V2))] rfl ?_;refine ak.fo 9 0 (V:=V1) (av:= .ow 68 (fp wa)) rfl rfl rfl ?_;refine ak.to [9,12] [(9,.ow 68 (fp wa)),(12,.d (.v V2))] rfl ?_;refine ak.fo 12 1 (V:=V2) (av:= .ow 68 (fp wb)) rfl rfl rfl ?_;refine ak.to [9,12] [(9,.ow 68 (fp wa)),(12,.ow 68 (fp wb))] rfl ?_;refine ak.cut 2 rfl (fun B1 F1 w1=>?_);refine ae.jK tok 12 rfl rfl ?_;refine ae.ou tok rfl rfl rfl rfl rfl rfl (by rw[ah,ah,l1,l2];show (_+_)*56≤_;omega) (by rw[ah,ah,l1,l2];omega) ?_;refine qU 1 rfl ?_;refine ae.nil ⟨rfl,?_⟩;refine ak.nil ?_;rw[show fp wa++fp wb=fp (wa++wb) from List.map_append.symm];exact AW.ret rfl
theorem jx(a:NQ){k:Nat}(hs:aB k a)(hk:k≤17300000000000)(hl:a.length≤1000000):Pure Tryz.prog 82 [ao a] (ao a):=by
 refine qJ 28 Tryz.func82 rfl rfl rfl rfl (by kernel_rfl) (fun B F0 w0=>?_);refine qX 1 rfl ?_;refine qK 1 rfl ?_;refine qI (qX 2 rfl ?_);rw[ah];refine qU 1 rfl ?_;refine ae.nil ?_;refine AW.block ?_;refine AW.aL [3,6,7,8] (fun i:Nat=>[(3,.ow 68 (fp (a.take i))),(6,.d (ao a)),(7,.d (dI a.length)),(8,.d (dI i))]) (fun i=>i≤a.length) (fun i=>a.length-i) 0 rfl (Nat.zero_le _) (fun i hi=>?_)
 · have hi:i≤a.length:=hi;show AW _ _ _ _ _ _ _ [(3,.ow 68 (fp (a.take i))),(6,.d (ao a)),(7,.d (dI a.length)),(8,.d (dI i))];refine qX 1 rfl ?_;refine qI ?_;refine AW.cond rfl (fun h=>?_) (fun h=>?_)
   · have hii:i<a.length:=by have:=aq h;omega
     have g:=mG hii;have hw:=ir _ (hs i);have htk:=uz a 0 hii;have hol:(a.take i).length=i:=by rw[bg];omega
     generalize a.getD i 0=q at g hw htk;have hw1:=hw.2.2.1;have hw2:=hw.2.2.2;refine AW.skip (AW.seq (AW.block (AW.seq (AW.region ?_))));refine ae.idx tok (Qr q).D rfl rfl rfl rfl (aj i) g ?_;refine qU 3 rfl ?_;refine ae.nil ?_;refine AW.draw aW 13 (by kernel_rfl) ?_;refine qP 6 rfl ?_;refine af.nG tok rfl rfl rfl rfl rfl (by show (((Qr q).n.map wd).length)*4≤_;rw[a8];omega) ?_;refine qP 3 rfl ?_;refine af.nG tok rfl rfl rfl rfl rfl (by show (((Qr q).d.map wd).length)*4≤_;rw[a8];omega) ?_;refine qP 1 rfl ?_;refine af.pv tok rfl rfl rfl rfl rfl rfl ?_;refine af.nil ?_;refine ae.ou tok rfl rfl rfl rfl rfl rfl (by rw[ah,hol];show (_+1)*56≤_;omega) (by rw[ah,hol];show _+1≤_;omega) ?_;refine qU 1 rfl ?_;refine ae.nil ?_;refine qT 1 rfl ?_;rw[aG (x:=(i:Int)+1) (by omega) (by omega)];refine qU 1 rfl ?_;refine ae.nil ?_;exact⟨i+1,by rw[htk];show _=[(3,AV.ow _ (List.map _ _)),_,_,_];rw[List.map_append];rfl,hii,by omega⟩
   have hii:i=a.length:=by have:=ar h;omega
   subst hii;rw[List.take_length];refine AW.exit ?_;refine qX 2 rfl ?_;exact qN rfl
end Lift
namespace Lift
open Go Go.Proofs
section
variable {P:Program} {T:Ty} {B:Nat} {F0:Nat→Prop} {w0:cU} {n:Nat} {σ σ0 τ:St} {K:St→Prop} {all ops:Array Oper} {o:Oper} {d:Nat} {ds:List Nat} {rest:List Oper}
theorem Du(a:NQ)(lo hi:Option Int):((fp a).take (cI (fp a).length hi)).drop (fI lo)=fp ((a.take (cI a.length hi)).drop (fI lo)):=by
 show List.drop _ (List.take (cI (List.map _ a).length hi) (List.map _ a))=List.map _ _;rw[List.map_drop,List.map_take,ah]
theorem ae.gT(hT:bF P T){a:NQ}{lo hi:Option Int}(x:NQ)(hd:o.dst=some d)(hdn:Nat.ble (d+1) n=true)(hg:aF all σ o=true)(hx:EI T σ.get o.op=some (ao a,lo,hi))(g1:okB lo)(g2:okB hi)(g3:fI lo≤cI a.length hi)(g4:cI a.length hi≤a.length)(hxx:(a.take (cI a.length hi)).drop (fI lo)=x)
  (h:ae P B F0 w0 n all rest K ((d,.d (ao x))::σ)):ae P B F0 w0 n all (o::rest) K σ:=by
 refine ae.B7 hT hd hdn hg hx g1 g2 (by rw[ah];exact g3) (by rw[ah];exact g4) ?_;rw[Du,hxx];exact h
theorem af.gT(hT:bF P T){a:NQ}{lo hi:Option Int}(x:NQ)(hd:o.dst=some d)(hdn:Nat.ble (d+1) n=true)(hg:aF ops τ o=true)(hs:σ0.get d=none)(hx:EI T τ.get o.op=some (ao a,lo,hi))(g1:okB lo)(g2:okB hi)(g3:fI lo≤cI a.length hi)(g4:cI a.length hi≤a.length)(hxx:(a.take (cI a.length hi)).drop (fI lo)=x)
  (h:af P B F0 w0 n ops ds σ0 rest ((d,.d (ao x))::τ) K):af P B F0 w0 n ops ds σ0 (o::rest) τ K:=by
 refine af.B7 hT hd hdn hg hs hx g1 g2 (by rw[ah];exact g3) (by rw[ah];exact g4) ?_;rw[Du,hxx];exact h
end
theorem iE(i:Nat)(h:i≤9223372036854775807):mI true .i64 (i:Int) 2= .int .i64 ((i / 2:Nat):Int):=by
 have e:((i:Int).tdiv ((2:Nat):Int))=((i / 2:Nat):Int):=rfl;show Value.int .i64 (IntKind.i64.wrap ((i:Int).tdiv ((2:Nat):Int)))=_;rw[e,aG (by omega) (by omega)]
theorem G8{rt:List NQ}{i:Nat}(h:i<rt.length):(rt.map ao)[i]?=some (ao (rt.getD i [])):=by simp[h]
theorem au.len{l:Nat}{a:NQ}(h:au l a)(hl:l≤10):a.length≤1024:=Nat.le_trans h.le (Nat.pow_le_pow_right (n:=2) (by decide) hl)
def iG:Nat→NQ→NQ
 | 0,a=>if bD (a.take 1)=true then [] else a.take 1
 | i+1,a=>if bD ((a.take (2^(i+1))).drop (2^i))=true then iG i a else a.take (2^(i+1))
def aA(a:NQ):NQ:=if a.length=0 then [] else iG a.length.log2 a
theorem Dv: ∀{i:Nat} {a:NQ} {k:Nat},2^i≤a.length→aB k a→au i (iG i a)∧aB k (iG i a)
 | 0,a,k,h,hs=>by
   unfold iG;split
   · exact⟨cy _,cG hs.pos⟩
   · exact⟨.inr ⟨0,ai _,by rw[bg];have h:1≤a.length:=h;show min 1 _=1;omega⟩,hs.take _⟩
 | i+1,a,k,h,hs=>by
   unfold iG;have e:2^(i+1)=2^i*2:=Nat.pow_succ ..;split
   · have:=Dv (i:=i) (a:=a) (by omega) hs;exact⟨this.1.mono (by omega),this.2⟩
   · exact⟨.inr ⟨i+1,ai _,by rw[bg];omega⟩,hs.take _⟩
theorem bd{l k:Nat}{a:NQ}(h:au l a)(hs:aB k a):au l (aA a)∧aB k (aA a):=by
 unfold aA;split
 · exact⟨cy _,cG hs.pos⟩
 rename_i h0;rcases h with e | ⟨i,hi,e⟩
 · exact absurd e h0
 rw[e,Nat.log2_two_pow];have:=Dv (i:=i) (a:=a) (by omega) hs;exact⟨this.1.mono hi,this.2⟩
theorem bO(a:NQ){l k:Nat}(ha:au l a)(hl:l≤5)(hs:aB k a)(hk:k≤17300000000000):Pure Tryz.prog 43 [ao a] (ao (aA a)):=by
 refine qJ 45 Tryz.func43 rfl rfl rfl rfl (by kernel_rfl) (fun B F0 w0=>?_);have hl10:=ha.len (by omega);rcases ha with h0 | ⟨i,hi,hai⟩
 · obtain rfl:a=[]:=List.length_eq_zero_iff.1 h0;have cl:=mu (fp []) (fun i=>by have:=Nat.two_pow_pos i;show 0≠_;omega) (by decide);have cc:=jx [] hs hk (by decide);refine qX 1 rfl ?_;refine qI (qX 1 rfl ?_);refine ae.call tok rfl rfl rfl rfl cl ?_;refine qU 1 rfl ?_;refine qK 11 rfl ?_;refine ae.nil ?_;refine AW.aD rfl ?_;refine AW.skip (qX 3 rfl ?_);refine qI (AW.block ?_);refine AW.aL [0,4] (fun _:Unit=>[(0,.d (ao [])),(4,.d (dI 0))]) (fun _=>True) (fun _=>0) () rfl trivial (fun _ _=>?_);refine AW.seq (qX 10 rfl ?_);refine ae.nil ?_;refine AW.aD rfl ?_;refine AW.exit (AW.seq ?_);refine qX 7 rfl ?_;refine ae.nil ?_;refine AW.aD rfl ?_;refine AW.skip (qX 2 rfl ?_);refine ae.gT tok (a:=[]) [] rfl rfl rfl rfl trivial (Int.le_refl _) (ai _) (ai _) rfl ?_;refine ae.call tok rfl rfl rfl rfl cc ?_;refine qU 1 rfl ?_;exact qN rfl
 have cl:=eZ (fp a) (by rw[ah];exact hai) (by omega);have hp:=Nat.two_pow_pos i;have hE:aA a=iG i a:=by unfold aA;rw[if_neg (by omega),hai,Nat.log2_two_pow]
 rw[hE];refine qX 1 rfl ?_;refine qI (qX 1 rfl ?_);refine ae.call tok rfl rfl rfl rfl cl ?_;refine qU 1 rfl ?_;refine qK 2 rfl ?_;rw[ah];refine qU 1 rfl ?_;rw[aO (show (0:Int)<(a.length:Int) by omega)];refine qU 3 rfl ?_;rw[ba (show ¬((i:Int)<0) by omega)];refine qU 3 rfl ?_;rw[ba (show ¬((5:Int)<(i:Int)) by omega)];refine qU 2 rfl ?_;refine ae.nil ?_;refine AW.aD rfl ?_;refine AW.skip (qX 2 rfl ?_);rw[ah,hai];refine qU 1 rfl ?_;refine qI (AW.block ?_);refine AW.aL [0,4] (fun j:Nat=>[(0,.d (ao a)),(4,.d (dI (2^j:Nat)))]) (fun j=>j≤i∧iG j a=iG i a) (fun j=>j) i rfl ⟨ai _,rfl⟩ (fun j hj=>?_);obtain ⟨hj,hjE⟩:=hj;show AW _ _ _ _ _ _ _ [(0,.d (ao a)),(4,.d (dI (2^j:Nat)))];have hpj:2^j≤2^i:=Nat.pow_le_pow_right (by decide) hj;have hpp:=Nat.two_pow_pos j;refine AW.seq (qX 2 rfl ?_);rcases j with _ | j
 · refine qU 8 rfl ?_;refine ae.nil ?_;refine AW.aD rfl ?_;refine AW.exit (AW.seq ?_);refine qX 4 rfl ?_;refine ae.gT tok (a:=a) (a.take 1) rfl rfl rfl rfl trivial (show (0:Int)≤1 by decide) (Nat.zero_le _) (show 1≤a.length by omega) rfl ?_;refine ae.call tok rfl rfl rfl rfl (mR (a.take 1) (by rw[bg];omega)) ?_;refine qU 1 rfl ?_;refine ae.nil ?_;rw[← hjE];unfold iG;cases hz:bD (a.take 1) with
   | true =>
     rw[if_pos rfl];refine AW.aC rfl ?_;refine qX 1 rfl ?_;exact qN rfl
   | false =>
     rw[if_neg (by simp)];refine AW.aD rfl ?_;refine AW.skip (qX 2 rfl ?_);refine ae.gT tok (a:=a) (a.take 1) rfl rfl rfl rfl trivial (show (0:Int)≤1 by decide) (Nat.zero_le _) (show 1≤a.length by omega) rfl ?_;refine ae.call tok rfl rfl rfl rfl (jx (a.take 1) (hs.take 1) hk (by rw[bg];omega)) ?_;refine qU 1 rfl ?_;exact qN rfl
 have e2:2^(j+1)=2^j*2:=Nat.pow_succ ..;have eh:=lz j;rw[aO (show (1:Int)<((2^(j+1):Nat):Int) by have:=Nat.two_pow_pos j;omega)];refine qU 3 rfl ?_;refine ae.div tok rfl rfl rfl rfl (by decide) ?_;rw[iE _ (by omega),eh];refine qU 1 rfl ?_;refine ae.gT tok (a:=a) ((a.take (2^(j+1))).drop (2^j)) rfl rfl rfl rfl (aj _) (aj _) (show 2^j≤2^(j+1) by omega) (show 2^(j+1)≤a.length by omega) rfl ?_;refine ae.call tok rfl rfl rfl rfl (mR _ (by rw[List.length_drop,bg];omega)) ?_;refine qU 1 rfl ?_;refine ae.nil ?_;cases hz:bD ((a.take (2^(j+1))).drop (2^j)) with
 | true =>
   refine AW.aC rfl ?_;refine AW.skip (AW.block ?_);refine qT 1 rfl ?_;refine ae.div tok rfl rfl rfl rfl (by decide) ?_;rw[iE _ (by omega),eh];refine qU 1 rfl ?_;refine ae.nil ?_;exact⟨j,rfl,⟨by omega,by rw[← hjE];show _=if bD ((a.take (2^(j+1))).drop (2^j))=true then _ else _;rw[if_pos hz]⟩,by omega⟩
 | false =>
 refine AW.aD rfl ?_;refine AW.exit (AW.seq ?_);refine qX 2 rfl ?_;rw[beq_eq_false_iff_ne.2 (show ((2^(j+1):Nat):Int)≠1 by have:=Nat.two_pow_pos j;omega)];refine qU 5 rfl ?_;refine ae.nil ?_;refine AW.aD rfl ?_;refine AW.skip (qX 2 rfl ?_);refine ae.gT tok (a:=a) (a.take (2^(j+1))) rfl rfl rfl rfl trivial (aj _) (Nat.zero_le _) (show 2^(j+1)≤a.length by omega) rfl ?_;refine ae.call tok rfl rfl rfl rfl (jx _ (hs.take _) hk (by rw[bg];omega)) ?_;refine qU 1 rfl ?_;refine ae.nil ?_;rw[← hjE];unfold iG;rw[if_neg (by rw[hz];simp)];exact AW.ret rfl
end Lift
namespace Lift
open Go Go.Proofs
abbrev oT(a:NQ):Prop:=aB 17300000000000 a
def LN(R:NQ→NQ→NQ)(O:NQ→NQ→Prop)(rt:List NQ)(a b:NQ):Prop :=
 oT a∧oT b∧(a.length≠1→bD a=false→bD b=false →
  (b.length≤a.length / 2→O (a.take (a.length / 2)) b∧O (a.drop (a.length / 2)) b) ∧
  (¬b.length≤a.length / 2→(O (a.take (a.length / 2)) (b.take (a.length / 2))∧O (a.drop (a.length / 2)) (b.drop (a.length / 2))∧O (R (a.drop (a.length / 2)) (b.drop (a.length / 2))) (rt.getD (a.length.log2-1) []) ∧
   O (a.take (a.length / 2)) (b.drop (a.length / 2))∧O (a.drop (a.length / 2)) (b.take (a.length / 2))) ∧
   oT (R (a.take (a.length / 2)) (b.take (a.length / 2)))∧oT (R (R (a.drop (a.length / 2)) (b.drop (a.length / 2))) (rt.getD (a.length.log2-1) []))∧oT (R (a.take (a.length / 2)) (b.drop (a.length / 2)))∧oT (R (a.drop (a.length / 2)) (b.take (a.length / 2)))))
def s8(R:NQ→NQ→NQ)(O:NQ→NQ→Prop)(rt:List NQ)(a b:NQ):Prop:=if a.length<b.length then LN R O rt b a else LN R O rt a b
def AM:Nat→List NQ→NQ→NQ→Prop
 | 0,rt,a,b=>s8 (fun _ _=>[]) (fun _ _=>True) rt a b
 | l+1,rt,a,b=>s8 (aU l rt) (AM l rt) rt a b
set_option maxHeartbeats 1600000 in
theorem uy{l:Nat}{R:NQ→NQ→NQ}{O:NQ→NQ→Prop}{rt:List NQ}{a b:NQ}(ha:au l a)(hb:au l b)(hrt:cK rt)(hl:l≤rt.length)(hl5:rt.length≤10)(hok:s8 R O rt a b)
  (hR: ∀l',l=l'+1→ ∀a' b',au l' a'→au l' b'→O a' b'→Pure Tryz.prog 128 [iF rt,ao a',ao b'] (ao (R a' b'))∧au l' (R a' b')):
  Pure Tryz.prog 128 [iF rt,ao a,ao b] (ao (ku (jD R rt) a b)):=by
 refine qJ 100 Tryz.func128 rfl rfl rfl rfl (by kernel_rfl) (fun B F0 w0=>?_);have hla:=ha.len (by omega);have hlb:=hb.len (by omega);unfold s8 at hok;refine qX 2 rfl ?_;refine ae.nil ?_;refine AW.cut [1,2,3] (fun s:NQ×NQ=>[(1,.d (ao s.1)),(2,.d (ao s.2)),(3,.bx [.sl 1 (rt.map ao)])]) (fun s=>jD R rt s.1 s.2=ku (jD R rt) a b∧s.2.length≤s.1.length∧au l s.1∧au l s.2∧LN R O rt s.1 s.2) ?_ (fun s hs=>?_)
 · refine qX 4 rfl ?_;rw[ah,ah];refine qU 1 rfl ?_;refine ae.nil ?_;unfold ku;by_cases hab:a.length<b.length
   · rw[aO (show (a.length:Int)<(b.length:Int) by omega),if_pos hab];refine AW.aC rfl ?_;refine qT 4 rfl ?_;refine ae.nil ?_;exact⟨(b,a),rfl,rfl,by show a.length≤b.length;omega,hb,ha,by rw[if_pos hab] at hok;exact hok⟩
   · rw[ba (show ¬(a.length:Int)<(b.length:Int) by omega),if_neg hab];refine AW.aD rfl ?_;refine AW.skip ?_;exact⟨(a,b),rfl,rfl,by show b.length≤a.length;omega,ha,hb,by rw[if_neg hab] at hok;exact hok⟩
 · obtain ⟨x,y⟩:=s;obtain ⟨hE,hab,ha,hb,sa,sb,hm⟩:=hs;simp only[] at hE hab ha hb sa sb hm;show AW _ _ _ _ _ _ _ [(1,.d (ao x)),(2,.d (ao y)),(3,.bx [.sl 1 (rt.map ao)])];rw[← hE];clear hE;clear hok;generalize x=a at *;generalize y=b at *;have hla:=ha.len (by omega);have hlb:=hb.len (by omega);have cz1:=oA a sa (by omega) (by omega);have cz2:=oA b sb (by omega) (by omega);unfold jD;refine AW.seq (AW.block ?_);refine qX 1 rfl ?_;refine ae.call tok rfl rfl rfl rfl cz1 ?_;cases hza:bD a with
   | true =>
     rw[if_pos (by rfl)];refine qU 5 rfl ?_;refine ae.nil ?_;refine AW.aC rfl ?_;refine qX 1 rfl ?_;exact qN rfl
   | false =>
   refine qU 2 rfl ?_;refine ae.call tok rfl rfl rfl rfl cz2 ?_;refine qU 2 rfl ?_;refine ae.nil ?_;cases hzb:bD b with
   | true =>
     rw[if_pos (by rfl)];refine AW.aC rfl ?_;refine qX 1 rfl ?_;exact qN rfl
   | false =>
   rw[if_neg (by decide)];refine AW.aD rfl ?_;refine qX 2 rfl ?_;rw[ah];refine qU 2 rfl ?_;refine ae.nil ?_;have hb0:0<b.length:=List.length_pos_iff.2 (jX hzb);have ha0:0<a.length:=List.length_pos_iff.2 (jX hza);by_cases h1:a.length=1
   · rw[if_pos h1,beq_iff_eq.2 (show (a.length:Int)=1 by omega)];have g1:=mG (r:=a) (i:=0) ha0;have g2:=mG (r:=b) (i:=0) hb0;have cm:=tB (Qr (a.getD 0 0)) (Qr (b.getD 0 0)) (ir _ (sa 0)) (ir _ (sb 0)) (by omega);rw[da,da] at cm;refine AW.aC rfl ?_;refine AW.seq (AW.draw aW 8 (by kernel_rfl) ?_);refine qP 1 rfl ?_;refine af.idx tok (Qr (a.getD 0 0)).D rfl rfl rfl rfl rfl (Int.le_refl _) g1 ?_;refine qP 2 rfl ?_;refine af.idx tok (Qr (b.getD 0 0)).D rfl rfl rfl rfl rfl (Int.le_refl _) g2 ?_;refine qP 1 rfl ?_;refine af.call tok rfl rfl rfl rfl rfl cm ?_;refine af.pv tok rfl rfl rfl rfl rfl rfl ?_;refine af.nil ?_;refine qU 1 rfl ?_;exact qN rfl
   rw[if_neg h1,beq_eq_false_iff_ne.2 (show (a.length:Int)≠1 by omega)];refine AW.aD rfl ?_;refine AW.skip ?_
   obtain ⟨i,hi,hla2⟩: ∃i,i≤l∧a.length=2^i:=by
    rcases ha with e | e
    · omega
    · exact e
   have vy:i≠0:=fun e=>h1 (by rw[hla2,e]);obtain ⟨j,rfl⟩: ∃j,i=j+1:=⟨i-1,by omega⟩;obtain ⟨l',rfl⟩: ∃l',l=l'+1:=⟨l-1,by omega⟩;have hj:j≤l':=by omega
   have hR:=fun a' b' h1 h2 h3=>hR l' rfl a' b' h1 h2 h3;obtain ⟨hm1,hm2⟩:=hm h1 hza hzb;obtain ⟨e1,e2,e3⟩:=bC hla2;have hx:au l' (a.take (a.length / 2)):= .inr ⟨j,hj,e1⟩;have hy:au l' (a.drop (a.length / 2)):= .inr ⟨j,hj,e2⟩;have hlog:a.length.log2-1=j:=by rw[hla2,Nat.log2_two_pow];omega
   obtain ⟨n,hn⟩: ∃n,n=a.length / 2:=⟨_,rfl⟩
   have hn2:a.length=n+n:=by
    have:2^(j+1)=2^j*2:=Nat.pow_succ ..;omega
   rw[← hn] at e1 e2 e3 hx hy hm1 hm2 ⊢;refine qX 2 rfl ?_;rw[ah];refine ae.div tok rfl rfl rfl rfl (by decide) ?_;rw[iE _ (by omega),← hn];refine qU 1 rfl ?_;refine qI (AW.draw aW 7 (by kernel_rfl) ?_);refine qP 2 rfl ?_;refine af.gT tok (a:=a) (a.take n) rfl rfl rfl rfl rfl trivial (aj n) (Nat.zero_le _) (show n≤a.length by omega) rfl ?_;refine qP 2 rfl ?_;refine af.gT tok (a:=a) (a.drop n) rfl rfl rfl rfl rfl (aj n) trivial (show n≤a.length by omega) (ai _) (by show (a.take a.length).drop n=_;rw[List.take_length]) ?_;refine qP 1 rfl ?_;refine af.nil ?_;refine qU 1 rfl ?_;refine qI (qX 2 rfl ?_);rw[ah];refine qU 2 rfl ?_;refine ae.nil ?_;by_cases h3:b.length≤n
   · rw[if_pos h3,aO (show (b.length:Int)≤(n:Int) by omega)]
     have hb':au l' b:=by
      rcases hb with e | ⟨i',_,e⟩
      · exact .inl e
      · refine .inr ⟨i',?_,e⟩;rw[e3,e] at h3;have:=hC h3;omega
     have r1:=hR _ _ hx hb' (hm1 h3).1;have r2:=hR _ _ hy hb' (hm1 h3).2;have cj:=kR (R (a.take n) b) (R (a.drop n) b) n (by omega);refine AW.aC rfl ?_;refine AW.seq (AW.draw aW 10 (by kernel_rfl) ?_);refine qP 3 rfl ?_;refine af.call tok rfl rfl rfl rfl rfl r1.1 ?_;refine qP 3 rfl ?_;refine af.call tok rfl rfl rfl rfl rfl r2.1 ?_;refine qP 1 rfl ?_;refine af.call tok rfl rfl rfl rfl rfl cj ?_;refine af.nil ?_;refine qU 1 rfl ?_;exact qN rfl
   rw[if_neg h3,ba (show ¬(b.length:Int)≤(n:Int) by omega)]
   have hlb2:b.length=2^(j+1):=by
    rcases hb with e | ⟨i',_,e⟩
    · omega
    · rw[e] at h3 hab ⊢;rw[hla2] at hab;rw[e3] at h3;have h4:=hC hab;have h5: ¬i'≤j:=fun h=>h3 (Nat.pow_le_pow_right (by decide) h);rw[show i'=j+1 by omega]
   obtain ⟨f1,f2,f3⟩:=bC hlb2;rw[show b.length / 2=n by omega] at f1 f2;have hu:au l' (b.take n):= .inr ⟨j,hj,f1⟩;have hv:au l' (b.drop n):= .inr ⟨j,hj,f2⟩;obtain ⟨⟨o1,o2,o5,o3,o4⟩,z1,z5,z3,z4⟩:=hm2 h3;rw[hlog] at o5 z5;have r1:=hR _ _ hx hu o1;have r2:=hR _ _ hy hv o2;have r3:=hR _ _ hx hv o3;have r4:=hR _ _ hy hu o4;rw[hlog];have hd:au l' (rt.getD j []):= .inr ⟨j,hj,hrt j (by omega)⟩;have r5:=hR _ _ r2.2 hd o5;have n1:=r1.2.len (by omega);have n3:=r3.2.len (by omega);have n4:=r4.2.len (by omega);have n5:=r5.2.len (by omega);have p1:=dX (R (a.take n) (b.take n)) (R (R (a.drop n) (b.drop n)) (rt.getD j [])) z1 z5 (by omega) (by omega) (by omega);have p2:=dX (R (a.take n) (b.drop n)) (R (a.drop n) (b.take n)) z3 z4 (by omega) (by omega) (by omega);have cj:=kR (aX (R (a.take n) (b.take n)) (R (R (a.drop n) (b.drop n)) (rt.getD j []))) (aX (R (a.take n) (b.drop n)) (R (a.drop n) (b.take n))) n (by omega);have cl:=eZ (fp a) (by rw[ah];exact hla2) (by omega);refine AW.aD rfl ?_;refine AW.skip (AW.seq ?_);refine AW.draw aW 7 (by kernel_rfl) ?_;refine qP 2 rfl ?_;refine af.gT tok (a:=b) (b.take n) rfl rfl rfl rfl rfl trivial (aj n) (Nat.zero_le _) (show n≤b.length by omega) rfl ?_;refine qP 2 rfl ?_;refine af.gT tok (a:=b) (b.drop n) rfl rfl rfl rfl rfl (aj n) trivial (show n≤b.length by omega) (ai _) (by show (b.take b.length).drop n=_;rw[List.take_length]) ?_;refine qP 1 rfl ?_;refine af.nil ?_;refine qU 1 rfl ?_;refine qI (AW.draw aW 7 (by kernel_rfl) ?_);refine qP 3 rfl ?_;refine af.call tok rfl rfl rfl rfl rfl cl ?_;refine qP 1 rfl ?_;rw[aG (x:=((j+1:Nat):Int) -1) (by omega) (by omega),show ((j+1:Nat):Int) -1=(j:Int) by omega];refine af.idx tok (ao (rt.getD j [])) rfl rfl rfl rfl rfl (aj j) (G8 (by omega)) ?_;refine qP 1 rfl ?_;refine af.nil ?_;refine qU 1 rfl ?_;refine qI (AW.draw aW 12 (by kernel_rfl) ?_);refine qP 3 rfl ?_;refine af.call tok rfl rfl rfl rfl rfl r1.1 ?_;refine qP 4 rfl ?_;refine af.call tok rfl rfl rfl rfl rfl r2.1 ?_;refine qP 1 rfl ?_;refine af.call tok rfl rfl rfl rfl rfl r5.1 ?_;refine af.call tok rfl rfl rfl rfl rfl p1 ?_;refine af.nil ?_;refine qU 1 rfl ?_;refine qI (AW.draw aW 12 (by kernel_rfl) ?_);refine qP 4 rfl ?_;refine af.call tok rfl rfl rfl rfl rfl r3.1 ?_;refine qP 3 rfl ?_;refine af.call tok rfl rfl rfl rfl rfl r4.1 ?_;refine af.call tok rfl rfl rfl rfl rfl p2 ?_;refine qP 1 rfl ?_;refine af.call tok rfl rfl rfl rfl rfl cj ?_;refine af.nil ?_;refine qU 1 rfl ?_;exact qN rfl
theorem b7: ∀(l:Nat) {rt:List NQ} {a b:NQ},au l a→au l b→cK rt→l≤rt.length→rt.length≤10→AM l rt a b→Pure Tryz.prog 128 [iF rt,ao a,ao b] (ao (aU l rt a b))
 | 0,rt,a,b,ha,hb,hrt,hl,hl5,hok=>uy (O:=fun _ _=>True) ha hb hrt hl hl5 hok (fun l' h=>by omega)
 | l+1,rt,a,b,ha,hb,hrt,hl,hl5,hok=>uy (O:=AM l rt) ha hb hrt hl hl5 hok (fun l' e a' b' h1 h2 h3=>by
    obtain rfl:l=l':=by omega
    obtain ⟨K,k1,k2,k3⟩:=xf a' b' rt
    exact⟨b7 l h1 h2 hrt (by omega) hl5 h3,(dp l h1 h2 hrt (by omega) k1 k2 k3).1⟩)
theorem yU{l k:Nat}{R:NQ→NQ→NQ}{O:NQ→NQ→Prop}{rt:List NQ}{a b:NQ}(ha:au l a)(hb:au l b)(hab:b.length≤a.length)(hrt:cK rt)(hl:l≤rt.length)(sa:aB k a)(sb:aB k b)(sr:dh k rt)(hk:sT l k≤17300000000000)
  (hR: ∀l',l=l'+1→ ∀a' b' m,k≤m→au l' a'→au l' b'→aB m a'→aB m b'→sT l' m≤17300000000000→O a' b'∧au l' (R a' b')∧aB (sT l' m) (R a' b')):LN R O rt a b:=by
 have hk1:=sa.pos;have h2:=cg l k;refine⟨sa.mono (by omega),sb.mono (by omega),fun h1 hza hzb=>?_⟩;have hb0:0<b.length:=List.length_pos_iff.2 (jX hzb);have ha0:0<a.length:=List.length_pos_iff.2 (jX hza)
 obtain ⟨i,hi,hla⟩: ∃i,i≤l∧a.length=2^i:=by
  rcases ha with e | e
  · omega
  · exact e
 have vy:i≠0:=fun e=>h1 (by rw[hla,e]);obtain ⟨j,rfl⟩: ∃j,i=j+1:=⟨i-1,by omega⟩;obtain ⟨l',rfl⟩: ∃l',l=l'+1:=⟨l-1,by omega⟩;have hj:j≤l':=by omega
 have hR:=fun a' b' m h1 h2 h3 h4 h5=>hR l' rfl a' b' m h1 h2 h3 h4 h5;obtain ⟨e1,e2,e3⟩:=bC hla;have hx:au l' (a.take (a.length / 2)):= .inr ⟨j,hj,e1⟩;have hy:au l' (a.drop (a.length / 2)):= .inr ⟨j,hj,e2⟩;have hs0:=cg l' k;have hs1:=cg l' (sT l' k);have hk:sT l' (sT l' k)+sT l' k+1≤17300000000000:=hk;refine⟨fun h3=>?_,fun h3=>?_⟩
 · have hb':au l' b:=by
    rcases hb with e | ⟨i',_,e⟩
    · exact .inl e
    · refine .inr ⟨i',?_,e⟩;rw[e3,e] at h3;have:=hC h3;omega
   exact⟨(hR _ _ k (ai _) hx hb' (sa.take _) sb (by omega)).1,(hR _ _ k (ai _) hy hb' (sa.drop _) sb (by omega)).1⟩
 have hlb:b.length=2^(j+1):=by
  rcases hb with e | ⟨i',_,e⟩
  · omega
  · rw[e] at h3 hab ⊢;rw[hla] at hab;rw[e3] at h3;have h4:=hC hab;have h5: ¬i'≤j:=fun h=>h3 (Nat.pow_le_pow_right (by decide) h);rw[show i'=j+1 by omega]
 obtain ⟨f1,f2,f3⟩:=bC hlb;rw[show b.length / 2=a.length / 2 by rw[f3,e3]] at f1 f2;have hu:au l' (b.take (a.length / 2)):= .inr ⟨j,hj,f1⟩;have hv:au l' (b.drop (a.length / 2)):= .inr ⟨j,hj,f2⟩;have r1:=hR _ _ k (ai _) hx hu (sa.take _) (sb.take _) (by omega);have r2:=hR _ _ k (ai _) hy hv (sa.drop _) (sb.drop _) (by omega);have r3:=hR _ _ k (ai _) hx hv (sa.take _) (sb.drop _) (by omega);have r4:=hR _ _ k (ai _) hy hu (sa.drop _) (sb.take _) (by omega);have hlog:a.length.log2-1=j:=by rw[hla,Nat.log2_two_pow];omega
 have hd:au l' (rt.getD (a.length.log2-1) []):= .inr ⟨j,hj,by rw[hlog];exact hrt j (by omega)⟩;have r5:=hR _ _ (sT l' k) (by omega) r2.2.1 hd r2.2.2 ((sr _).mono (by omega)) (by omega);exact⟨⟨r1.1,r2.1,r5.1,r3.1,r4.1⟩,r1.2.2.mono (by omega),r5.2.2.mono (by omega),r3.2.2.mono (by omega),r4.2.2.mono (by omega)⟩
theorem o9: ∀(l:Nat) {k:Nat} {rt:List NQ} {a b:NQ},au l a→au l b→cK rt→l≤rt.length→aB k a→aB k b→dh k rt→sT l k≤17300000000000→AM l rt a b
 | 0,k,rt,a,b,ha,hb,hrt,hl,sa,sb,sr,hk=>by
   show s8 _ _ rt a b;unfold s8;split
   · exact yU hb ha (by omega) hrt hl sb sa sr hk (fun l' h=>by omega)
   · exact yU ha hb (by omega) hrt hl sa sb sr hk (fun l' h=>by omega)
 | l+1,k,rt,a,b,ha,hb,hrt,hl,sa,sb,sr,hk=>by
   show s8 (aU l rt) (AM l rt) rt a b;unfold s8
   have ih: ∀l',l+1=l'+1→ ∀a' b' m,k≤m→au l' a'→au l' b'→aB m a'→aB m b'→sT l' m≤17300000000000→AM l rt a' b'∧au l' (aU l rt a' b')∧aB (sT l' m) (aU l rt a' b'):=fun l' e a' b' m hm h1 h2 h3 h4 h5=>by
    obtain rfl:l=l':=by omega
    exact⟨o9 l h1 h2 hrt (by omega) h3 h4 (sr.mono hm) h5,dp l h1 h2 hrt (by omega) h3 h4 (sr.mono hm)⟩
   split
   · exact yU hb ha (by omega) hrt hl sb sa sr hk ih
   · exact yU ha hb (by omega) hrt hl sa sb sr hk ih
theorem uv(l:Nat){k:Nat}{rt:List NQ}{a b:NQ}(ha:au l a)(hb:au l b)(hrt:cK rt)(hl:l≤rt.length)(hl5:rt.length≤10)(sa:aB k a)(sb:aB k b)(sr:dh k rt)(hk:sT l k≤17300000000000):Pure Tryz.prog 128 [iF rt,ao a,ao b] (ao (aU l rt a b)) :=
 b7 l ha hb hrt hl hl5 (o9 l ha hb hrt hl sa sb sr (by omega))
end Lift
namespace Lift
open Go Go.Proofs
def fc(l:Nat)(rt:List NQ)(a:NQ):NQ :=
 aX (aU l rt (a.take (a.length / 2)) (a.take (a.length / 2))) (aZ (aU l rt (aU l rt (a.drop (a.length / 2)) (a.drop (a.length / 2))) (rt.getD (a.length.log2-1) [])))
def wF(R:NQ→Int)(N:NQ→NQ)(rt:List NQ)(a:NQ):Int :=
 if a.length=0 then 0 else if a.length=1 then jc (a.getD 0 0) else
 if R (rt.getD (a.length.log2-1) [])=0 then R (a.take (a.length / 2)) else
 if R (a.take (a.length / 2))=R (a.drop (a.length / 2))∨R (a.drop (a.length / 2))=0 then R (a.take (a.length / 2)) else
 if R (a.take (a.length / 2))=0 then R (a.drop (a.length / 2)) else R (a.take (a.length / 2))*R (N a)
def ed:Nat→List NQ→NQ→Int
 | 0,rt,a=>wF (fun _=>0) (fun a=>a) rt (aA a)
 | l+1,rt,a=>wF (ed l rt) (fc l rt) rt (aA a)
def pG:Nat→Nat→Prop
 | 0,k=>k≤17300000000000
 | l+1,k=>sT (l+1) k≤17300000000000∧pG l (sT (l+1) k)
theorem AN: ∀{l k m:Nat},pG l k→m≤k→pG l m
 | 0,k,m,h,hm=>Nat.le_trans hm h
 | l+1,k,m,h,hm=>⟨Nat.le_trans (tL hm) h.1,AN h.2 (tL hm)⟩
theorem yS: ∀{l k:Nat},pG l k→k≤17300000000000
 | 0,k,h=>h
 | l+1,k,h=>by have:=cg (l+1) k;have:=h.1;omega
theorem kj{l k:Nat}(h:pG (l+1) k):pG l k:=AN h.2 (by have:=cg (l+1) k;omega)
def xa(z:Int):Prop:=z=0∨z=1∨z= -1
theorem lS{x y:Int}(hx:xa x)(hy:xa y):xa (x*y):=by
 unfold xa at *;rcases hx with rfl | rfl | rfl<;>rcases hy with rfl | rfl | rfl<;>decide
theorem An{R:NQ→Int}{N:NQ→NQ}{rt:List NQ}{a:NQ}(hR: ∀b,xa (R b)):xa (wF R N rt a):=by
 unfold wF;split
 · exact .inl rfl
 split
 · exact gG _
 split
 · exact hR _
 split
 · exact hR _
 split
 · exact hR _
 · exact lS (hR _) (hR _)
theorem nQ: ∀(l:Nat) (rt:List NQ) (a:NQ),xa (ed l rt a)
 | 0,rt,a=>An (fun _=> .inl rfl)
 | l+1,rt,a=>An (fun b=>nQ l rt b)
theorem yZ{l k j:Nat}{rt:List NQ}{a:NQ}(hj:j≤l)(ha:a.length=2^(j+1))(hrt:cK rt)(hl:l<rt.length)(sa:aB k a)(sr:dh k rt):au l (fc l rt a)∧aB (sT (l+1) k) (fc l rt a):=by
 obtain ⟨e1,e2,e3⟩:=bC ha;have hx:au l (a.take (a.length / 2)):= .inr ⟨j,hj,e1⟩;have hy:au l (a.drop (a.length / 2)):= .inr ⟨j,hj,e2⟩;have hlog:a.length.log2-1=j:=by rw[ha,Nat.log2_two_pow];omega
 have hd:au l (rt.getD j []):= .inr ⟨j,hj,hrt j (by omega)⟩;have h0:=cg l k;have h1:=cg l (sT l k);have r1:=dp l hx hx hrt (by omega) (sa.take _) (sa.take _) sr;have r2:=dp l hy hy hrt (by omega) (sa.drop _) (sa.drop _) sr;have r3:=dp l r2.1 hd hrt (by omega) r2.2 ((sr _).mono (by omega)) (sr.mono (by omega));unfold fc;rw[hlog];refine⟨r1.1.plus r3.1.minus,(r1.2.plus r3.2.minus).mono ?_⟩;show _≤sT l (sT l k)+sT l k+1;omega
def KC(l:Nat)(rt:List NQ)(a:NQ):Prop :=
 AM l rt (a.take (a.length / 2)) (a.take (a.length / 2))∧AM l rt (a.drop (a.length / 2)) (a.drop (a.length / 2))∧AM l rt (aU l rt (a.drop (a.length / 2)) (a.drop (a.length / 2))) (rt.getD (a.length.log2-1) []) ∧
 oT (aU l rt (a.take (a.length / 2)) (a.take (a.length / 2)))∧oT (aU l rt (aU l rt (a.drop (a.length / 2)) (a.drop (a.length / 2))) (rt.getD (a.length.log2-1) []))
theorem tU{l j:Nat}{rt:List NQ}{a:NQ}(hj:j≤l)(ha:a.length=2^(j+1))(hrt:cK rt)(hl:l<rt.length):au l (fc l rt a):=by
 obtain ⟨K,k1,_,k3⟩:=xf a a rt;exact(yZ hj ha hrt hl k1 k3).1
theorem e7(l:Nat){rt:List NQ}{a b:NQ}(ha:au l a)(hb:au l b)(hrt:cK rt)(hl:l≤rt.length):au l (aU l rt a b):=by
 obtain ⟨K,k1,k2,k3⟩:=xf a b rt;exact(dp l ha hb hrt hl k1 k2 k3).1
theorem mP{l j:Nat}{rt:List NQ}{a:NQ}(hj:j≤l)(ha:a.length=2^(j+1))(hrt:cK rt)(hl:l<rt.length)(hl5:rt.length≤10)(hok:KC l rt a):
  Pure Tryz.prog 87 [iF rt,ao a] (ao (fc l rt a)):=by
 refine qJ 36 Tryz.func87 rfl rfl rfl rfl (by kernel_rfl) (fun B F0 w0=>?_);obtain ⟨e1,e2,e3⟩:=bC ha;have hx:au l (a.take (a.length / 2)):= .inr ⟨j,hj,e1⟩;have hy:au l (a.drop (a.length / 2)):= .inr ⟨j,hj,e2⟩;have hlog:a.length.log2-1=j:=by rw[ha,Nat.log2_two_pow];omega
 have hd:au l (rt.getD j []):= .inr ⟨j,hj,hrt j (by omega)⟩;obtain ⟨o1,o2,o3,z1,z3⟩:=hok;rw[hlog] at o3 z3;have r1:=e7 l hx hx hrt (by omega);have r2:=e7 l hy hy hrt (by omega);have r3:=e7 l r2 hd hrt (by omega);have c1:=b7 l hx hx hrt (by omega) hl5 o1;have c2:=b7 l hy hy hrt (by omega) hl5 o2;have c3:=b7 l r2 hd hrt (by omega) hl5 o3;have n1:=r1.len (by omega);have n3:=r3.len (by omega);have c4:=ft _ z3 (by omega) (by omega);have c5:=dX _ _ z1 z3.minus (by omega) (by omega) (by rw[gq];omega);have cl:=eZ (fp a) (by rw[ah];exact ha) (by omega);have hp:2^(j+1)≤2^10:=Nat.pow_le_pow_right (by decide) (by omega);unfold fc;rw[hlog];obtain ⟨n,hn⟩: ∃n,n=a.length / 2:=⟨_,rfl⟩;rw[← hn] at e1 e2 e3 hx hy c1 c2 c3 c4 c5 ⊢;refine qX 2 rfl ?_;refine qK 2 rfl ?_;rw[ah];refine ae.div tok rfl rfl rfl rfl (by decide) ?_;rw[iE _ (by omega),← hn];refine qU 1 rfl ?_;refine qI (AW.draw aW 7 (by kernel_rfl) ?_);refine qP 2 rfl ?_;refine af.gT tok (a:=a) (a.take n) rfl rfl rfl rfl rfl trivial (aj n) (Nat.zero_le _) (show n≤a.length by omega) rfl ?_;refine qP 2 rfl ?_;refine af.gT tok (a:=a) (a.drop n) rfl rfl rfl rfl rfl (aj n) trivial (show n≤a.length by omega) (ai _) (by show (a.take a.length).drop n=_;rw[List.take_length]) ?_;refine qP 1 rfl ?_;refine af.nil ?_;refine qU 1 rfl ?_;refine qI (AW.draw aW 19 (by kernel_rfl) ?_);refine qP 3 rfl ?_;refine af.call tok rfl rfl rfl rfl rfl c1 ?_;refine qP 4 rfl ?_;refine af.call tok rfl rfl rfl rfl rfl c2 ?_;refine qP 3 rfl ?_;refine af.call tok rfl rfl rfl rfl rfl cl ?_;refine qP 1 rfl ?_;rw[aG (x:=((j+1:Nat):Int) -1) (by omega) (by omega),show ((j+1:Nat):Int) -1=(j:Int) by omega];refine af.idx tok (ao (rt.getD j [])) rfl rfl rfl rfl rfl (aj j) (G8 (by omega)) ?_;refine qP 1 rfl ?_;refine af.call tok rfl rfl rfl rfl rfl c3 ?_;refine af.call tok rfl rfl rfl rfl rfl c4 ?_;refine af.call tok rfl rfl rfl rfl rfl c5 ?_;refine af.nil ?_;refine qU 1 rfl ?_;exact qN rfl
theorem GA{l k j:Nat}{rt:List NQ}{a:NQ}(hj:j≤l)(ha:a.length=2^(j+1))(hrt:cK rt)(hl:l<rt.length)(sa:aB k a)(sr:dh k rt)(hk:sT (l+1) k≤17300000000000):KC l rt a:=by
 obtain ⟨e1,e2,e3⟩:=bC ha;have hx:au l (a.take (a.length / 2)):= .inr ⟨j,hj,e1⟩;have hy:au l (a.drop (a.length / 2)):= .inr ⟨j,hj,e2⟩;have hlog:a.length.log2-1=j:=by rw[ha,Nat.log2_two_pow];omega
 have hd:au l (rt.getD j []):= .inr ⟨j,hj,hrt j (by omega)⟩;have h0:=cg l k;have h1:=cg l (sT l k);have hk:sT l (sT l k)+sT l k+1≤17300000000000:=hk;have r1:=dp l hx hx hrt (by omega) (sa.take _) (sa.take _) sr;have r2:=dp l hy hy hrt (by omega) (sa.drop _) (sa.drop _) sr;have r3:=dp l r2.1 hd hrt (by omega) r2.2 ((sr _).mono (by omega)) (sr.mono (by omega));unfold KC;rw[hlog];exact⟨o9 l hx hx hrt (by omega) (sa.take _) (sa.take _) sr (by omega),o9 l hy hy hrt (by omega) (sa.drop _) (sa.drop _) sr (by omega),o9 l r2.1 hd hrt (by omega) r2.2 ((sr j).mono (by omega)) (sr.mono (by omega)) (by omega),r1.2.mono (by omega),r3.2.mono (by omega)⟩
def LP(O:NQ→Prop)(N:NQ→NQ)(Nk:NQ→Prop)(rt:List NQ)(s:NQ):Prop:=s.length≠0→s.length≠1 →
 O (s.take (s.length / 2))∧O (s.drop (s.length / 2))∧O (rt.getD (s.length.log2-1) [])∧Nk s∧O (N s)
def GC:Nat→List NQ→NQ→Prop
 | 0,rt,a=>oT a
 | l+1,rt,a=>oT a∧LP (GC l rt) (fc l rt) (KC l rt) rt (aA a)
theorem pa: ∀(l:Nat) {k:Nat} {rt:List NQ} {a:NQ},au l a→cK rt→l≤rt.length→aB k a→dh k rt→pG l k→GC l rt a
 | 0,k,rt,a,ha,hrt,hl,sa,sr,hok=>sa.mono (Nat.le_trans hok (by decide))
 | l+1,k,rt,a,ha,hrt,hl,sa,sr,hok=>by
   have hk:=yS hok;refine⟨sa.mono (by omega),fun h0 h1=>?_⟩;obtain ⟨ha,sa⟩:=bd ha sa;generalize aA a=b at ha sa h0 h1 ⊢
   obtain ⟨i,hi,hla⟩: ∃i,i≤l+1∧b.length=2^i:=by
    rcases ha with e | e
    · omega
    · exact e
   have vy:i≠0:=fun e=>h1 (by rw[hla,e]);obtain ⟨j,rfl⟩: ∃j,i=j+1:=⟨i-1,by omega⟩;have hj:j≤l:=by omega
   obtain ⟨e1,e2,e3⟩:=bC hla;have hx:au l (b.take (b.length / 2)):= .inr ⟨j,hj,e1⟩;have hy:au l (b.drop (b.length / 2)):= .inr ⟨j,hj,e2⟩;have hlog:b.length.log2-1=j:=by rw[hla,Nat.log2_two_pow];omega
   have hd:au l (rt.getD (b.length.log2-1) []):= .inr ⟨j,hj,by rw[hlog];exact hrt j (by omega)⟩;have hn:=yZ hj hla hrt (by omega) sa sr;have h2:=cg (l+1) k;have h3:=hok.1;exact⟨pa l hx hrt (by omega) (sa.take _) sr (kj hok),pa l hy hrt (by omega) (sa.drop _) sr (kj hok),pa l hd hrt (by omega) (sr _) sr (kj hok),GA hj hla hrt (by omega) sa sr (by omega),pa l hn.1 hrt (by omega) hn.2 (sr.mono (by omega)) hok.2⟩
theorem GC.sz{l:Nat}{rt:List NQ}{a:NQ}(h:GC l rt a):oT a:=by
 cases l with
 | zero=>exact h
 | succ l=>exact h.1
set_option maxHeartbeats 1600000 in
theorem xq{l:Nat}{R:NQ→Int}{O:NQ→Prop}{N:NQ→NQ}{Nk:NQ→Prop}{rt:List NQ}{a:NQ}(ha:au l a)(hl5:l≤5)(hrt:cK rt)(hl:l≤rt.length)(hl10:rt.length≤10)(sa:oT a)(hok:l≠0→LP O N Nk rt (aA a))
  (hR: ∀l',l=l'+1→ ∀b,au l' b→O b→Pure Tryz.prog 45 [iF rt,ao b] (dI (R b))) (hT: ∀b,xa (R b))
  (hN: ∀l',l=l'+1→ ∀b j,j≤l'→b.length=2^(j+1)→Nk b→Pure Tryz.prog 87 [iF rt,ao b] (ao (N b))∧au l' (N b)):
  Pure Tryz.prog 45 [iF rt,ao a] (dI (wF R N rt (aA a))):=by
 refine qJ 64 Tryz.func45 rfl rfl rfl rfl (by kernel_rfl) (fun B F0 w0=>?_);have cs:=bO a ha hl5 sa (by omega);obtain ⟨ha,sa⟩:=bd ha sa;generalize aA a=b at cs ha sa hok ⊢;have hlb:=ha.len (by omega);unfold wF;refine qX 2 rfl ?_;refine qK 1 rfl ?_;refine ae.call tok rfl rfl rfl rfl cs ?_;refine qU 1 rfl ?_;refine qI (qX 2 rfl ?_);rw[ah];refine qU 1 rfl ?_;refine ae.nil ?_;by_cases h0:b.length=0
 · rw[if_pos h0,h0];refine AW.aC rfl ?_;refine qX 1 rfl ?_;exact qN rfl
 rw[if_neg h0,beq_eq_false_iff_ne.2 (show (b.length:Int)≠0 by omega)];refine AW.aD rfl ?_;refine AW.skip (AW.seq ?_);refine qX 2 rfl ?_;rw[ah];refine qU 1 rfl ?_;refine ae.nil ?_;by_cases h1:b.length=1
 · have g:=mG (r:=b) (i:=0) (by omega);have cq:=lF (Qr (b.getD 0 0)) (ir _ (sa 0)) (by omega);rw[da,Dz] at cq;rw[if_pos h1,h1];refine AW.aC rfl ?_;refine qX 1 rfl ?_;refine ae.idx tok (Qr (b.getD 0 0)).D rfl rfl rfl rfl (Int.le_refl _) g ?_;refine qU 1 rfl ?_;refine ae.call tok rfl rfl rfl rfl cq ?_;refine qU 1 rfl ?_;exact qN rfl
 rw[if_neg h1,beq_eq_false_iff_ne.2 (show (b.length:Int)≠1 by omega)];refine AW.aD rfl ?_;refine AW.skip ?_
 obtain ⟨i,hi,hla2⟩: ∃i,i≤l∧b.length=2^i:=by
  rcases ha with e | e
  · omega
  · exact e
 have vy:i≠0:=fun e=>h1 (by rw[hla2,e]);obtain ⟨j,rfl⟩: ∃j,i=j+1:=⟨i-1,by omega⟩;obtain ⟨l',rfl⟩: ∃l',l=l'+1:=⟨l-1,by omega⟩;have hj:j≤l':=by omega
 have hR:=hR l' rfl;obtain ⟨o1,o2,o3,o4,o5⟩:=hok (by omega) h0 h1;have hN:=hN l' rfl b j hj hla2 o4;obtain ⟨e1,e2,e3⟩:=bC hla2;have hx:au l' (b.take (b.length / 2)):= .inr ⟨j,hj,e1⟩;have hy:au l' (b.drop (b.length / 2)):= .inr ⟨j,hj,e2⟩;have hlog:b.length.log2-1=j:=by rw[hla2,Nat.log2_two_pow];omega
 have hd:au l' (rt.getD j []):= .inr ⟨j,hj,hrt j (by omega)⟩;rw[hlog] at o3;have r1:=hR _ hx o1;have r2:=hR _ hy o2;have r3:=hR _ hd o3;have r4:=hR _ hN.2 o5;have t1:=hT (b.take (b.length / 2));have t2:=hT (b.drop (b.length / 2));have t4:=lS t1 (hT (N b));have cn:=hN.1;have cl:=eZ (fp b) (by rw[ah];exact hla2) (by omega);rw[hlog];obtain ⟨n,hn⟩: ∃n,n=b.length / 2:=⟨_,rfl⟩;rw[← hn] at e1 e2 e3 hx hy r1 r2 t1 t2 t4 ⊢;generalize R (b.take n)=x at r1 t1 t4 ⊢;generalize R (b.drop n)=y at r2 t2 ⊢;generalize R (rt.getD j [])=z at r3 ⊢;generalize R (N b)=u at r4 t4 ⊢;refine qX 2 rfl ?_;rw[ah];refine ae.div tok rfl rfl rfl rfl (by decide) ?_;rw[iE _ (by omega),← hn];refine qU 1 rfl ?_;refine qI (AW.draw aW 10 (by kernel_rfl) ?_);refine qP 3 rfl ?_;refine af.gT tok (a:=b) (b.take n) rfl rfl rfl rfl rfl trivial (aj n) (Nat.zero_le _) (show n≤b.length by omega) rfl ?_;refine af.call tok rfl rfl rfl rfl rfl r1 ?_;refine qP 3 rfl ?_;refine af.gT tok (a:=b) (b.drop n) rfl rfl rfl rfl rfl (aj n) trivial (show n≤b.length by omega) (ai _) (by show (b.take b.length).drop n=_;rw[List.take_length]) ?_;refine af.call tok rfl rfl rfl rfl rfl r2 ?_;refine af.nil ?_;refine qU 2 rfl ?_;refine qI (AW.seq ?_);refine AW.draw aW 10 (by kernel_rfl) ?_;refine qP 4 rfl ?_;refine af.call tok rfl rfl rfl rfl rfl cl ?_;refine qP 1 rfl ?_;rw[aG (x:=((j+1:Nat):Int) -1) (by omega) (by omega),show ((j+1:Nat):Int) -1=(j:Int) by omega];refine af.idx tok (ao (rt.getD j [])) rfl rfl rfl rfl rfl (aj j) (G8 (by omega)) ?_;refine qP 1 rfl ?_;refine af.call tok rfl rfl rfl rfl rfl r3 ?_;refine qP 1 rfl ?_;refine af.nil ?_;refine ae.nil ?_;by_cases hz:z=0
 · rw[if_pos hz,beq_iff_eq.2 hz];refine AW.aC rfl ?_;refine qX 2 rfl ?_;exact qN rfl
 rw[if_neg hz,beq_eq_false_iff_ne.2 hz];refine AW.aD rfl ?_;refine AW.skip (AW.seq (AW.block ?_));refine qX 3 rfl ?_;by_cases hxy:x=y
 · rw[if_pos (.inl hxy),beq_iff_eq.2 hxy];refine qU 5 rfl ?_;refine ae.nil ?_;refine AW.aC rfl ?_;refine qX 2 rfl ?_;exact qN rfl
 rw[beq_eq_false_iff_ne.2 hxy];refine qU 3 rfl ?_;by_cases hy0:y=0
 · rw[if_pos (.inr hy0),beq_iff_eq.2 hy0];refine qU 2 rfl ?_;refine ae.nil ?_;refine AW.aC rfl ?_;refine qX 2 rfl ?_;exact qN rfl
 rw[if_neg (fun h=>h.elim hxy hy0),beq_eq_false_iff_ne.2 hy0];refine qU 2 rfl ?_;refine ae.nil ?_;refine AW.aD rfl ?_;refine qX 3 rfl ?_;refine ae.nil ?_;by_cases hx0:x=0
 · rw[if_pos hx0,beq_iff_eq.2 hx0];refine AW.aC rfl ?_;refine qX 2 rfl ?_;exact qN rfl
 rw[if_neg hx0,beq_eq_false_iff_ne.2 hx0];refine AW.aD rfl ?_;refine AW.skip (AW.seq ?_);refine AW.draw aW 7 (by kernel_rfl) ?_;refine qP 4 rfl ?_;refine af.call tok rfl rfl rfl rfl rfl cn ?_;refine af.call tok rfl rfl rfl rfl rfl r4 ?_;refine qP 1 rfl ?_;rw[aG (x:=x*u) (by unfold xa at t4;omega) (by unfold xa at t4;omega)];refine af.nil ?_;refine qU 1 rfl ?_;exact qN rfl
theorem fr: ∀(l:Nat) {rt:List NQ} {a:NQ},au l a→l≤5→cK rt→l≤rt.length→rt.length≤10→GC l rt a→Pure Tryz.prog 45 [iF rt,ao a] (dI (ed l rt a))
 | 0,rt,a,ha,hl5,hrt,hl,hl10,hok=>xq (O:=fun _=>True) (Nk:=fun _=>True) ha hl5 hrt hl hl10 hok (fun h=>absurd rfl h) (fun l' h=>by omega) (fun _=> .inl rfl) (fun l' h=>by omega)
 | l+1,rt,a,ha,hl5,hrt,hl,hl10,hok=>xq (O:=GC l rt) (Nk:=KC l rt) ha hl5 hrt hl hl10 hok.1 (fun _=>hok.2) (fun l' e b h1 h2=>by
    obtain rfl:l=l':=by omega
    exact fr l h1 (by omega) hrt (by omega) hl10 h2) (nQ l rt) (fun l' e b j h1 h2 h3=>by
    obtain rfl:l=l':=by omega
    exact⟨mP h1 h2 hrt (by omega) hl10 h3,tU h1 h2 hrt (by omega)⟩)
theorem oB(l:Nat){k:Nat}{rt:List NQ}{a:NQ}(ha:au l a)(hl5:l≤5)(hrt:cK rt)(hl:l≤rt.length)(hl10:rt.length≤10)(sa:aB k a)(sr:dh k rt)(hok:pG l k):Pure Tryz.prog 45 [iF rt,ao a] (dI (ed l rt a)) :=
 fr l ha hl5 hrt hl hl10 (pa l ha hrt hl sa sr hok)
end Lift
namespace Lift
open Go Go.Proofs
abbrev bG(a:List RD):D:= .sl 3 (a.map RD.D)
abbrev wm(rt:List (List RD)):D:= .ag [.sl 1 (rt.map bG)]
def kM(a:List RD):Bool:=a.all RD.okB
def Cy(m n:Nat):Bool:=(List.range (m+1)).any fun i=>decide (n=2^i)
def bY(m:Nat)(a:List RD):Nat:=if a.length≠0∧Cy m a.length=false then 10 else if kM a=false then 2 else 0
def ay(a:List RD):NQ:=a.map RD.val
def wN(k:Nat)(a:List RD):Prop:= ∀i,i<a.length→(a.getD i default).w k
def wk(rt:List (List RD))(k:Nat):Nat:=if (rt.getD k []).length≠2^k then 10 else if bY k (rt.getD k [])≠0 then bY k (rt.getD k []) else if ed k ((rt.take k).map ay) (ay (rt.getD k []))<0 then 3 else 0
def dD(rt:List (List RD)):Nat:=if 5<rt.length then 4 else fE (wk rt) (rt.length-0) 0
def kt(rt l:List (List RD)):Nat:=if dD rt≠0 then dD rt else fE (fun i=>bY rt.length (l.getD i [])) (l.length-0) 0
theorem AP(a:List RD)(i:Nat):(ay a).getD i 0=if i<a.length then (a.getD i default).val else 0:=by
 unfold ay;rw[aN,List.getElem?_map,aN];by_cases h:i<a.length
 · rw[if_pos h,b9 h];rfl
 · rw[if_neg h,List.getElem?_eq_none (by omega)];rfl
theorem mT{a:List RD}{k:Nat}(h:wN k a)(h1:1≤k):aB k (ay a):=fun c=>by
 rw[AP];split
 · rename_i hc;exact cu (h c hc) h1
 · exact nL h1
theorem lB{a:List RD}{k:Nat}(hw:wN k a)(h:kM a=true):bG a=ao (ay a):=by
 show D.sl 3 (a.map RD.D)=D.sl 3 (List.map _ (List.map _ a));rw[List.map_map]
 congr 1
 refine List.map_congr_left fun x hx=>?_;obtain ⟨i,hi,rfl⟩:=List.mem_iff_getElem.1 hx;have hi2:=hw i hi;rw[aN,b9 hi] at hi2;unfold kM at h;rw[List.all_eq_true] at h;have:=RD.canon hi2 (h _ (List.getElem_mem hi));simp only[Option.getD_some] at this;show (a[i]).D=(Qr (a[i]).val).D;rw[← this]
theorem AR{l:List RD}{i:Nat}(hi:i<l.length)(h:(l.getD i default).okB=false):kM l=false:=Lf hi h
theorem xH{l:List RD}(h: ∀i,i<l.length→(l.getD i default).okB=true):kM l=true:=Jr h
theorem zg(m i:Nat):Cy m (2^i)=decide (i≤m):=by
 unfold Cy;by_cases h:i≤m
 · rw[aO h,List.any_eq_true];exact⟨i,List.mem_range.2 (by omega),aO rfl⟩
 · rw[ba h,List.any_eq_false];intro j hj;have hj:=List.mem_range.1 hj;rw[ba]
   · simp
   · intro e;have h1:=hC (Nat.le_of_eq e);omega
theorem IW{m n:Nat}(h: ∀i,n≠2^i):Cy m n=false:=by
 unfold Cy;rw[List.any_eq_false];intro j _;rw[ba (h j)];simp
theorem GP{m n:Nat}(h:Cy m n=true): ∃i,i≤m∧n=2^i:=by
 unfold Cy at h;rw[List.any_eq_true] at h;obtain ⟨i,h1,h2⟩:=h;exact⟨i,by have:=List.mem_range.1 h1;omega,aq h2⟩
theorem qn{m:Nat}{a:List RD}(h:bY m a=0):au m (ay a)∧kM a=true:=by
 unfold bY at h;split at h
 · cases h
 rename_i h1;split at h
 · cases h
 rename_i h2;constructor
 · by_cases h0:a.length=0
   · exact .inl (by unfold ay;rw[ah];exact h0)
   · have h3:Cy m a.length=true:=by
      cases hv:Cy m a.length
      · exact absurd ⟨h0,hv⟩ h1
      · rfl
     obtain ⟨i,h4,h5⟩:=GP h3;exact .inr ⟨i,h4,by unfold ay;rw[ah];exact h5⟩
 · cases hv:kM a
   · exact absurd hv h2
   · rfl
def Db(m:Nat)(a:List RD):Prop:= ¬(a.length≠0∧Cy m a.length=false)
theorem yX{m:Nat}{a:List RD}(h:bY m a=0):Db m a:=by
 unfold bY at h;split at h
 · cases h
 · assumption
theorem mr(xs:List D)(a:List RD){k:Nat}(hw:Db xs.length a→wN k a)(hk:k≤17300000000000)(hl:a.length≤4398046511104)(hx:xs.length≤1000000):Pure Tryz.prog 80 [.ag [.sl 1 xs],bG a] (vC (bY xs.length a)):=by
 refine qJ 34 Tryz.func80 rfl rfl rfl rfl (by kernel_rfl) (fun B F0 w0=>?_);have hno:=fun i hi=>AR (l:=a) (i:=i) hi;have hyes:=xH (l:=a);unfold bY;generalize kM a=E at hno hyes ⊢;refine qX 2 rfl ?_;refine ae.nil ?_;refine AW.cut [1] (fun _:Unit=>[(1,.d (bG a))]) (fun _=> ¬(a.length≠0∧Cy xs.length a.length=false)) ?_ (fun _ hs=>?_)
 · refine qX 2 rfl ?_;rw[ah];refine qU 1 rfl ?_;refine ae.nil ?_;by_cases h0:a.length=0
   · rw[h0];refine AW.aD rfl ?_;refine AW.skip ?_;exact⟨(),rfl,fun h=>h.1 rfl⟩
   rw[aO (show (0:Int)<(a.length:Int) by omega)];refine AW.aC rfl ?_;by_cases hp: ∃i,a.length=2^i
   · obtain ⟨i,hp⟩:=hp
     have hi:i≤42:=by
      refine hC ?_;rw[← hp];omega
     have cl:=eZ (a.map RD.D) (by rw[ah];exact hp) (by omega);rw[hp,zg];refine qX 1 rfl ?_;refine ae.call tok rfl rfl rfl rfl cl ?_;refine qU 1 rfl ?_;refine qK 2 rfl ?_;rw[ba (show ¬((i:Int)<0) by omega)];refine qU 6 rfl ?_;by_cases hm:i≤xs.length
     · rw[aO hm,ba (show ¬((xs.length:Int)<(i:Int)) by omega)];refine qU 1 rfl ?_;refine ae.nil ?_;refine AW.aD rfl ?_;refine AW.skip ?_;exact⟨(),rfl,fun h=>by cases h.2⟩
     · rw[ba hm,aO (show (xs.length:Int)<(i:Int) by omega),if_pos ⟨by have:=Nat.two_pow_pos i;omega,rfl⟩];refine qU 1 rfl ?_;refine ae.nil ?_;refine AW.aC rfl ?_;refine qX 2 rfl ?_;exact qN rfl
   · have hp: ∀i,a.length≠2^i:=fun i e=>hp ⟨i,e⟩;have cl:=mu (a.map RD.D) (by rw[ah];exact hp) (by rw[ah];omega);rw[if_pos ⟨h0,IW hp⟩];refine qX 1 rfl ?_;refine ae.call tok rfl rfl rfl rfl cl ?_;refine qU 1 rfl ?_;refine qK 9 rfl ?_;refine ae.nil ?_;refine AW.aC rfl ?_;refine qX 2 rfl ?_;exact qN rfl
 · rw[if_neg hs];have hw:=hw hs;show AW _ _ _ _ _ _ _ [(1,.d (bG a))];refine AW.seq (qX 2 rfl ?_);rw[ah];refine qU 1 rfl ?_;refine ae.nil ?_;refine AW.block (AW.aL [23,24,25] (fun i:Nat=>[(23,.d (bG a)),(24,.d (dI a.length)),(25,.d (dI i))]) (fun i=>i≤a.length∧ ∀j,j<i→(a.getD j default).okB=true) (fun i=>a.length-i) 0 rfl ⟨Nat.zero_le _,fun j hj=>by omega⟩ (fun i ⟨hi,hall⟩=>?_));refine qX 1 rfl ?_;refine qI ?_;refine AW.cond rfl (fun h=>?_) (fun h=>?_)
   · have hii:i<a.length:=by have:=aq h;omega
     have hg:=getM RD.D (l:=a) (i:=i) hii;have hno:=hno i hii;have cv:=fm (a.getD i default) (hw i hii) (by omega);refine AW.skip (AW.seq (AW.block (AW.seq (AW.region ?_))));refine ae.idx tok (a.getD i default).D rfl rfl rfl rfl (aj i) hg ?_;refine qU 3 rfl ?_;refine qK 1 rfl ?_;refine ae.call tok rfl rfl rfl rfl cv ?_;refine qU 1 rfl ?_;cases hv:(a.getD i default).okB with
     | false =>
       rw[hno hv,if_pos rfl];refine ae.nil ?_;refine AW.aC rfl ?_;refine qX 2 rfl ?_;exact qN rfl
     | true =>
       refine ae.nil ?_;refine AW.aD rfl ?_;refine AW.skip (qT 1 rfl ?_);rw[aG (x:=(i:Int)+1) (by omega) (by omega)];refine qU 1 rfl ?_;refine ae.nil ?_
       exact⟨i+1,rfl,⟨hii,fun j hj=>by
        by_cases e:j=i
        · subst e;exact hv
        · exact hall j (by omega)⟩,by omega⟩
   have hii:i=a.length:=by have:=ar h;omega
   subst hii;rw[hyes hall,if_neg (by simp)];refine AW.exit ?_;refine qX 1 rfl ?_;exact qN rfl
end Lift
namespace Lift
open Go Go.Proofs
theorem FX(rt:List (List RD))(k:Nat):((rt.map bG).take (cI (rt.map bG).length (some (k:Int)))).drop (fI none)=(rt.take k).map bG:=by
 show ((rt.map bG).take k).drop 0=_;rw[List.drop_zero,List.map_take]
theorem oW{rt:List (List RD)}{k m:Nat}(hw: ∀i,i<k→wN m (rt.getD i []))(hk:k≤rt.length)(h: ∀j,j<k→kM (rt.getD j [])=true):(rt.take k).map bG=((rt.take k).map ay).map ao:=by
 rw[List.map_map];refine List.map_congr_left fun x hx=>?_;obtain ⟨i,hi,rfl⟩:=List.mem_iff_getElem.1 hx;rw[bg] at hi
 have e:(rt.take k)[i]'(by rw[bg];exact hi)=rt.getD i []:=by
  rw[List.getElem_take,aN,b9 (by omega)];rfl
 rw[e];exact lB (hw i (by omega)) (h i (by omega))
theorem pO{rt:List (List RD)}{k i:Nat}(hi:i<k):((rt.take k).map ay).getD i []=ay (rt.getD i []):=by
 rw[aN,List.getElem?_map,List.getElem?_take_of_lt hi,aN];cases rt[i]? with
 | none=>rfl
 | some x=>rfl
theorem Ew{rt:List (List RD)}{k i:Nat}(hi:k≤i):((rt.take k).map ay).getD i []=[]:=by
 rw[aN,List.getElem?_eq_none (by rw[ah,bg];omega)];rfl
theorem fV{rt:List (List RD)}{k:Nat}(hk:k≤rt.length):((rt.take k).map ay).length=k:=by rw[ah,bg];omega
theorem tH{rt:List (List RD)}{k m:Nat}(hw: ∀i,i<k→wN m (rt.getD i []))(h1:1≤m)(hk:k≤rt.length):dh m ((rt.take k).map ay):=fun i=>by
 by_cases h:i<k
 · rw[pO h];exact mT (hw i (by omega)) h1
 · rw[Ew (by omega)];exact cG h1
theorem GF(a:List RD):(ay a).length=a.length:=ah ..
theorem iH{rt:List (List RD)}{k:Nat}(h:wk rt k=0):(rt.getD k []).length=2^k∧kM (rt.getD k [])=true∧ ¬ed k ((rt.take k).map ay) (ay (rt.getD k []))<0:=by
 unfold wk at h;split at h
 · cases h
 rename_i h1;split at h
 · rename_i h2;exact absurd h h2
 rename_i h2;split at h
 · cases h
 rename_i h3;exact⟨by omega,(qn (m:=k) (by omega)).2,h3⟩
theorem lR{rt:List (List RD)}{k:Nat}(hk:k≤rt.length)(h: ∀j,j<k→wk rt j=0):cK ((rt.take k).map ay):=fun j hj=>by
 rw[fV hk] at hj;rw[pO hj,GF];exact(iH (h j hj)).1
theorem u5{l m k:Nat}(h:pG l k)(hm:m≤l):pG m k:=by
 induction l with
 | zero=>obtain rfl:m=0:=by omega
         exact h
 | succ l ih =>
   by_cases e:m=l+1
   · rw[e];exact h
   · exact ih (kj h) (by omega)
theorem j9(rt:List (List RD)){m:Nat}(hw: ∀i,i<rt.length→(rt.getD i []).length=2^i→wN m (rt.getD i []))(h1:1≤m)(hl:rt.length≤1000000)(hll: ∀i,i<rt.length→(rt.getD i []).length≤4398046511104)(hok:rt.length≤5→pG rt.length m):Pure Tryz.prog 79 [wm rt] (vC (dD rt)):=by
 refine qJ 43 Tryz.func79 rfl rfl rfl rfl (by kernel_rfl) (fun B F0 w0=>?_);unfold dD;obtain ⟨E,hE⟩: ∃E,fE (wk rt) (rt.length-0) 0=E:=⟨_,rfl⟩;rw[hE];refine qX 2 rfl ?_;refine qI (qX 3 rfl ?_);rw[ah];refine qU 1 rfl ?_;refine ae.nil ?_;by_cases h5:5<rt.length
 · rw[if_pos h5,aO (show (5:Int)<(rt.length:Int) by omega)];refine AW.aC rfl ?_;refine qX 2 rfl ?_;exact qN rfl
 rw[if_neg h5,ba (show ¬(5:Int)<(rt.length:Int) by omega)];have hok:=hok (by omega);have hm7:=yS hok;refine AW.aD rfl ?_;refine AW.skip (AW.seq ?_);refine qX 3 rfl ?_;rw[ah];refine qU 1 rfl ?_;refine ae.nil ?_;refine AW.block (AW.aL [1,13,14,15] (fun i:Nat=>[(1,.bx [.sl 1 (rt.map bG)]),(13,.d (.sl 1 (rt.map bG))),(14,.d (dI rt.length)),(15,.d (dI i))]) (fun i=>i≤rt.length∧fE (wk rt) (rt.length-i) i=E∧ ∀j,j<i→wk rt j=0) (fun i=>rt.length-i) 0 rfl ⟨Nat.zero_le _,hE,fun j hj=>by omega⟩ (fun i ⟨hi,hiE,hall⟩=>?_));refine qX 1 rfl ?_;refine qI (AW.cond rfl (fun h=>?_) (fun h=>?_));rotate_left
 · have hii: ¬i<rt.length:=by have:=ar h;omega
   rw[eS hii] at hiE;subst hiE;refine AW.exit ?_;refine qX 1 rfl ?_;exact qN rfl
 have hii:i<rt.length:=by have:=aq h;omega
 have hg:(rt.map bG)[i]?=some (bG (rt.getD i [])):=by simp[hii]
 have hwi:=hw i hii;have hli:=hll i hii;have hmiss:=fun h0:wk rt i=0=>(cZ hii h0).symm.trans hiE;have hhit:=fun h0:wk rt i≠0=>(eQ hii h0).symm.trans hiE;have hp:2^i≤2^5:=Nat.pow_le_pow_right (by decide) (by omega);have hrt:wk rt i=if (rt.getD i []).length≠2^i then 10 else if bY i (rt.getD i [])≠0 then bY i (rt.getD i []) else if ed i ((rt.take i).map ay) (ay (rt.getD i []))<0 then 3 else 0:=rfl
 refine AW.skip (AW.seq (AW.block ?_));refine qX 1 rfl ?_;refine ae.idx tok (bG (rt.getD i [])) rfl rfl rfl rfl (aj i) hg ?_;refine qU 3 rfl ?_;refine qI (qX 2 rfl ?_);rw[ah];refine qU 2 rfl ?_;rw[Am (by omega)];refine qU 1 rfl ?_;refine ae.nil ?_;by_cases e1:(rt.getD i []).length=2^i;rotate_left
 · rw[if_pos e1] at hrt;rw[bne_iff_ne.2 (show (((rt.getD i []).length:Nat):Int)≠((2^i:Nat):Int) by omega)];have:=hhit (by rw[hrt];decide);rw[hrt] at this;subst this;refine AW.aC rfl ?_;refine qX 2 rfl ?_;exact qN rfl
 rw[if_neg (fun h=>h e1)] at hrt;have hwi:=hwi e1;have cn:=mr ((rt.take i).map bG) (rt.getD i []) (fun _=>hwi) (by omega) hli (by rw[ah,bg];omega);rw[ah,bg,Nat.min_eq_left hi] at cn;rw[e1,bne_eq_false_iff_eq.2 rfl];refine AW.aD rfl ?_;refine AW.skip (qX 3 rfl ?_);refine ae.B7 tok rfl rfl rfl rfl trivial (aj i) (Nat.zero_le _) (by show i≤_;rw[ah];omega) ?_;rw[FX];refine qU 3 rfl ?_;refine qI (qX 2 rfl ?_);refine ae.call tok rfl rfl rfl rfl cn ?_;refine qU 1 rfl ?_;refine ae.nil ?_;rcases e2:bY i (rt.getD i []) with _ | z
 rotate_left
 · rw[e2,if_pos (Nat.succ_ne_zero z)] at hrt;have:=hhit (by rw[hrt];exact Nat.succ_ne_zero z);rw[hrt] at this;subst this;refine qX 1 rfl ?_;refine ae.err tok rfl rfl rfl rfl rfl ?_;refine ae.nil ?_;refine AW.aC rfl ?_;refine qX 2 rfl ?_;exact qN rfl
 rw[if_neg (by rw[e2];simp)] at hrt;obtain ⟨n1,n2⟩:=qn e2;have cs:=oB i (k:=m) n1 (by omega) (lR hi hall) (by rw[fV hi];exact ai _) (by rw[fV hi];omega) (mT hwi h1) (tH (fun j hj=>hw j (by omega) (iH (hall j hj)).1) h1 hi) (u5 hok hi);have tr:=nQ i ((rt.take i).map ay) (ay (rt.getD i []));rw[show iF ((rt.take i).map ay)= .ag [.sl 1 ((rt.take i).map bG)] from by rw[oW (fun j hj=>hw j (by omega) (iH (hall j hj)).1) hi (fun j hj=>(iH (hall j hj)).2.1)],← lB hwi n2] at cs;generalize ed i ((rt.take i).map ay) (ay (rt.getD i []))=s at cs hrt tr;refine qX 1 rfl ?_;refine ae.err tok rfl rfl rfl rfl rfl ?_;refine ae.nil ?_;refine AW.aD rfl ?_;refine AW.skip (qX 2 rfl ?_);refine ae.call tok rfl rfl rfl rfl cs ?_;refine qU 1 rfl ?_;refine ae.nil ?_;by_cases e3:s<0
 · rw[if_pos e3] at hrt;rw[aO e3];have:=hhit (by rw[hrt];decide);rw[hrt] at this;subst this;refine AW.aC rfl ?_;refine qX 2 rfl ?_;exact qN rfl
 rw[if_neg e3] at hrt;rw[ba e3];refine AW.aD rfl ?_;refine AW.skip (qT 1 rfl ?_);rw[aG (x:=(i:Int)+1) (by omega) (by omega)];refine qU 1 rfl ?_;refine ae.nil ?_
 exact⟨i+1,rfl,⟨hii,hmiss hrt,fun j hj=>by
  by_cases e:j=i
  · rw[e];exact hrt
  · exact hall j (by omega)⟩,by omega⟩
theorem gg(rt l:List (List RD)){m mn:Nat}(hw: ∀i,i<rt.length→(rt.getD i []).length=2^i→wN m (rt.getD i []))(h1:1≤m)(hl:rt.length≤1000000)(hll: ∀i,i<rt.length→(rt.getD i []).length≤4398046511104)(hok:rt.length≤5→pG rt.length m)
  (hlw: ∀i,i<l.length→Db rt.length (l.getD i [])→wN mn (l.getD i [])) (hl2:l.length≤1000000) (hl3: ∀i,i<l.length→(l.getD i []).length≤4398046511104) (hm:mn≤17300000000000):Pure Tryz.prog 42 [wm rt,.sl 1 (l.map bG)] (vC (kt rt l)):=by
 refine qJ 27 Tryz.func42 rfl rfl rfl rfl (by kernel_rfl) (fun B F0 w0=>?_);have cC:=j9 rt hw h1 hl hll hok;unfold kt;obtain ⟨E,hE⟩: ∃E,fE (fun i=>bY rt.length (l.getD i [])) (l.length-0) 0=E:=⟨_,rfl⟩;rw[hE];refine qX 2 rfl ?_;refine qI (qX 1 rfl ?_);refine ae.call tok rfl rfl rfl rfl cC ?_;refine qU 1 rfl ?_;refine ae.nil ?_;rcases e2:dD rt with _ | z
 rotate_left
 · rw[if_pos (Nat.succ_ne_zero z)];refine qX 1 rfl ?_;refine ae.err tok rfl rfl rfl rfl rfl ?_;refine ae.nil ?_;refine AW.aC rfl ?_;refine qX 2 rfl ?_;exact qN rfl
 rw[if_neg (by simp)];refine qX 1 rfl ?_;refine ae.err tok rfl rfl rfl rfl rfl ?_;refine ae.nil ?_;refine AW.aD rfl ?_;refine AW.skip (AW.seq ?_);refine qX 2 rfl ?_;rw[ah];refine qU 1 rfl ?_;refine ae.nil ?_;refine AW.block (AW.aL [2,14,15,16] (fun i:Nat=>[(2,.bx [.sl 1 (rt.map bG)]),(14,.d (.sl 1 (l.map bG))),(15,.d (dI l.length)),(16,.d (dI i))]) (fun i=>i≤l.length∧fE (fun i=>bY rt.length (l.getD i [])) (l.length-i) i=E) (fun i=>l.length-i) 0 rfl ⟨Nat.zero_le _,hE⟩ (fun i ⟨hi,hiE⟩=>?_));refine qX 1 rfl ?_;refine qI (AW.cond rfl (fun h=>?_) (fun h=>?_));rotate_left
 · have hii: ¬i<l.length:=by have:=ar h;omega
   rw[eS hii] at hiE;subst hiE;refine AW.exit ?_;refine qX 1 rfl ?_;exact qN rfl
 have hii:i<l.length:=by have:=aq h;omega
 have hg:(l.map bG)[i]?=some (bG (l.getD i [])):=by simp[hii]
 have hmiss:=fun h0:bY rt.length (l.getD i [])=0=>(cZ (f:=fun i=>bY rt.length (l.getD i [])) hii h0).symm.trans hiE;have hhit:=fun h0:bY rt.length (l.getD i [])≠0=>(eQ (f:=fun i=>bY rt.length (l.getD i [])) hii h0).symm.trans hiE;have cn:=mr (rt.map bG) (l.getD i []) (fun h=>hlw i hii (by rw[ah] at h;exact h)) hm (hl3 i hii) (by rw[ah];omega);rw[ah] at cn;refine AW.skip (AW.seq (AW.block (AW.seq (AW.region ?_))));refine ae.idx tok (bG (l.getD i [])) rfl rfl rfl rfl (aj i) hg ?_;refine qU 2 rfl ?_;refine qK 2 rfl ?_;refine ae.call tok rfl rfl rfl rfl cn ?_;refine qU 1 rfl ?_;refine ae.nil ?_;generalize bY rt.length (l.getD i [])=v at hmiss hhit;rcases v with _ | z
 rotate_left
 · have:=hhit (Nat.succ_ne_zero z);subst this;refine qX 1 rfl ?_;refine ae.err tok rfl rfl rfl rfl rfl ?_;refine ae.nil ?_;refine AW.aC rfl ?_;refine qX 2 rfl ?_;exact qN rfl
 refine qX 1 rfl ?_;refine ae.err tok rfl rfl rfl rfl rfl ?_;refine ae.nil ?_;refine AW.aD rfl ?_;refine AW.skip (qT 1 rfl ?_);rw[aG (x:=(i:Int)+1) (by omega) (by omega)];refine qU 1 rfl ?_;refine ae.nil ?_;exact⟨i+1,rfl,⟨hii,hmiss rfl⟩,by omega⟩
theorem qO{rt:List (List RD)}(h:dD rt=0):rt.length≤5∧ ∀j,j<rt.length→wk rt j=0:=by
 unfold dD at h;split at h
 · cases h
 rename_i h1
 have key: ∀(m i:Nat),fE (wk rt) m i=0→ ∀j,i≤j→j<i+m→wk rt j=0:=by
  intro m
  induction m with
  | zero=>intro i _ j h1 h2;omega
  | succ m ih =>
    intro i h j h1 h2;rw[fE] at h;split at h
    · rename_i h0;by_cases e:j=i
      · rw[e];exact h0
      · exact ih (i+1) h j (by omega) (by omega)
    · rename_i h0;exact absurd h h0
 exact⟨by omega,fun j hj=>key _ _ h j (Nat.zero_le _) (by omega)⟩
def FZ(rt:List (List RD))(a:List RD):D:=if kt rt [a]≠0 then .tu [dI 0,vC (kt rt [a])] else .tu [dI (ed rt.length (rt.map ay) (ay a)),aR]
theorem zO{rt:List (List RD)}{a:List RD}(h:kt rt [a]=0):dD rt=0∧bY rt.length a=0:=by
 unfold kt at h;split at h
 · rename_i h0;exact absurd h h0
 rename_i h0;refine⟨by omega,?_⟩;have e:fE (fun i=>bY rt.length ([a].getD i [])) ([a].length-0) 0=if bY rt.length a=0 then 0 else bY rt.length a:=rfl
 rw[e] at h;split at h
 · assumption
 · rename_i h1;exact absurd h h1
theorem wA(rt:List (List RD))(a:List RD){m:Nat}(hw: ∀i,i<rt.length→(rt.getD i []).length=2^i→wN m (rt.getD i []))(h1:1≤m)(hl:rt.length≤1000000)(hll: ∀i,i<rt.length→(rt.getD i []).length≤4398046511104)(hok:rt.length≤5→pG rt.length m)
  (haw:Db rt.length a→wN m a) (hal:a.length≤4398046511104) (hm:m≤17300000000000):Pure Tryz.prog 22 [wm rt,bG a] (FZ rt a):=by
 refine qJ 17 Tryz.func22 rfl rfl rfl rfl (by kernel_rfl) (fun B F0 w0=>?_)
 have h0: ∀i,i<[a].length→i=0:=fun i hi=>by
  have:i<1:=hi;omega
 have cc:=gg rt [a] hw h1 hl hll hok (fun i hi=>by rw[h0 i hi];exact haw) (show 1≤1000000 by decide) (fun i hi=>by rw[h0 i hi];exact hal) hm;unfold FZ;refine qX 3 rfl ?_;refine qI (qX 2 rfl ?_);refine ae.pv tok rfl rfl rfl rfl rfl ?_;refine ae.call tok rfl rfl rfl rfl cc ?_;refine qU 1 rfl ?_;refine ae.nil ?_;rcases e2:kt rt [a] with _ | z
 rotate_left
 · rw[if_pos (Nat.succ_ne_zero z)];refine qX 1 rfl ?_;refine ae.err tok rfl rfl rfl rfl rfl ?_;refine ae.nil ?_;refine AW.aC rfl ?_;refine qX 3 rfl ?_;exact qN rfl
 rw[if_neg (by simp)];obtain ⟨k1,k2⟩:=zO e2;obtain ⟨k3,k4⟩:=qO k1;obtain ⟨n1,n2⟩:=qn k2;have vo:=lR (k:=rt.length) (ai _) k4;have vl:=fV (rt:=rt) (k:=rt.length) (ai _);have vs:=tH (k:=rt.length) (fun j hj=>hw j hj (iH (k4 j hj)).1) h1 (ai _);have vc:=oW (k:=rt.length) (fun j hj=>hw j hj (iH (k4 j hj)).1) (ai _) (fun j hj=>(iH (k4 j hj)).2.1);rw[List.take_length] at vo vl vs vc;have cs:=oB rt.length (k:=m) n1 k3 vo (by rw[vl];exact ai _) (by rw[vl];omega) (mT (haw (yX k2)) h1) vs (hok k3);rw[show iF (rt.map ay)= .ag [.sl 1 (rt.map bG)] from by rw[vc],← lB (haw (yX k2)) n2] at cs;refine qX 1 rfl ?_;refine ae.err tok rfl rfl rfl rfl rfl ?_;refine ae.nil ?_;refine AW.aD rfl ?_;refine AW.skip (qX 2 rfl ?_);refine ae.call tok rfl rfl rfl rfl cs ?_;refine qU 2 rfl ?_;exact qN rfl
end Lift
namespace Lift
open Go Go.Proofs
structure pD (m:Nat) (rt:List (List RD)):Prop where
 t: ∃m0,1≤m0∧m0≤m∧(∀i,i<rt.length→(rt.getD i []).length=2^i→wN m0 (rt.getD i []))∧(rt.length≤5→pG rt.length m0)
 m2:m≤1000000
 l:rt.length≤1000000
 ll: ∀i,i<rt.length→(rt.getD i []).length≤4398046511104
theorem pD.m1{m:Nat}{rt:List (List RD)}(T:pD m rt):1≤m:=by
 obtain ⟨m0,h1,h2,_⟩:=T.t;omega
structure kz (m:Nat) (rt:List (List RD)) (a:List RD):Prop where
 w:Db rt.length a→wN m a
 l:a.length≤4398046511104
theorem C6{m:Nat}{rt:List (List RD)}{a:List RD}(T:pD m rt)(A:kz m rt a):Pure Tryz.prog 42 [wm rt,.sl 1 [bG a]] (vC (kt rt [a])):=by
 have hm:=T.m2
 have h0: ∀i,i<[a].length→i=0:=fun i hi=>by
  have:i<1:=hi;omega
 obtain ⟨m0,t1,t2,tw,tk⟩:=T.t;exact gg rt [a] tw t1 T.l T.ll tk (fun i hi=>by rw[h0 i hi];exact A.w) (show 1≤1000000 by decide) (fun i hi=>by rw[h0 i hi];exact A.l) (by omega)
theorem po{m:Nat}{rt:List (List RD)}{a b:List RD}(T:pD m rt)(A:kz m rt a)(B:kz m rt b):Pure Tryz.prog 42 [wm rt,.sl 1 [bG a,bG b]] (vC (kt rt [a,b])):=by
 have hm:=T.m2
 have h0: ∀i,i<[a,b].length→i=0∨i=1:=fun i hi=>by
  have:i<2:=hi;omega
 obtain ⟨m0,t1,t2,tw,tk⟩:=T.t;exact gg rt [a,b] tw t1 T.l T.ll tk (fun i hi=>by rcases h0 i hi with rfl | rfl;exact A.w;exact B.w) (show 2≤1000000 by decide) (fun i hi=>by rcases h0 i hi with rfl | rfl;exact A.l;exact B.l) (by omega)
theorem zN{rt:List (List RD)}{a b:List RD}(h:kt rt [a,b]=0):dD rt=0∧bY rt.length a=0∧bY rt.length b=0:=by
 unfold kt at h;split at h
 · rename_i h0;exact absurd h h0
 rename_i h0;have e:fE (fun i=>bY rt.length ([a,b].getD i [])) ([a,b].length-0) 0=if bY rt.length a=0 then (if bY rt.length b=0 then 0 else bY rt.length b) else bY rt.length a:=rfl
 rw[e] at h;by_cases h1:bY rt.length a=0
 · rw[if_pos h1] at h;by_cases h2:bY rt.length b=0
   · exact⟨by omega,h1,h2⟩
   · rw[if_neg h2] at h;exact absurd h h2
 · rw[if_neg h1] at h;exact absurd h h1
structure Nl (m:Nat) (rt:List (List RD)) (v:List NQ):Prop where
 l5:rt.length≤5
 ln:v.length=rt.length
 ro:cK v
 sz:dh m v
 t: ∃m0,1≤m0∧m0≤m∧dh m0 v∧pG rt.length m0
 ps: ∀k,k<v.length→ ¬ed k (v.take k) (v.getD k [])<0
 eq:wm rt=iF v
theorem su{m:Nat}{rt:List (List RD)}(T:pD m rt)(h:dD rt=0):Nl m rt (rt.map ay):=by
 obtain ⟨k3,k4⟩:=qO h;have vo:=lR (k:=rt.length) (ai _) k4;have vl:=fV (rt:=rt) (k:=rt.length) (ai _);obtain ⟨m0,t1,t2,tw,tk⟩:=T.t;have hw:=fun j hj=>tw j hj (iH (k4 j hj)).1;have vs:=tH (k:=rt.length) hw t1 (ai _);have vc:=oW (k:=rt.length) hw (ai _) (fun j hj=>(iH (k4 j hj)).2.1);rw[List.take_length] at vo vl vs vc;refine⟨k3,vl,vo,vs.mono t2,⟨m0,t1,t2,vs,tk k3⟩,fun k hk=>?_,by show D.ag [.sl 1 (rt.map bG)]=_;rw[vc]⟩;rw[vl] at hk;have:=(iH (k4 k hk)).2.2
 have e:(rt.map ay).getD k []=ay (rt.getD k []):=by
  rw[aN,List.getElem?_map,aN,b9 hk];rfl
 rw[e,← List.map_take];exact this
theorem jC{m:Nat}{rt:List (List RD)}{a:List RD}(m1:1≤m)(A:kz m rt a)(h:bY rt.length a=0):au rt.length (ay a)∧aB m (ay a)∧bG a=ao (ay a):=by
 obtain ⟨n1,n2⟩:=qn h;have w:=A.w (yX h);exact⟨n1,mT w m1,lB w n2⟩
def KB(rt:List (List RD))(a:List RD)(F:NQ→NQ):D:=if kt rt [a]≠0 then .tu [ao [],vC (kt rt [a])] else .tu [ao (F (ay a)),aR]
def yQ(rt:List (List RD))(a b:List RD)(F:NQ→NQ→NQ):D:=if kt rt [a,b]≠0 then .tu [ao [],vC (kt rt [a,b])] else .tu [ao (F (ay a) (ay b)),aR]
theorem yj{m:Nat}{rt:List (List RD)}{a:List RD}(T:pD m rt)(A:kz m rt a):Pure Tryz.prog 101 [wm rt,bG a] (KB rt a (fun x=>aA (aZ x))):=by
 refine qJ 17 Tryz.func101 rfl rfl rfl rfl (by kernel_rfl) (fun B0 F0 w0=>?_);have cc:=C6 T A;have hm:=T.m2;unfold KB;refine qX 3 rfl ?_;refine qI (qX 2 rfl ?_);refine ae.pv tok rfl rfl rfl rfl rfl ?_;refine ae.call tok rfl rfl rfl rfl cc ?_;refine qU 1 rfl ?_;refine ae.nil ?_;rcases e2:kt rt [a] with _ | z
 rotate_left
 · rw[if_pos (Nat.succ_ne_zero z)];refine qX 1 rfl ?_;refine ae.err tok rfl rfl rfl rfl rfl ?_;refine ae.nil ?_;refine AW.aC rfl ?_;refine qX 3 rfl ?_;exact qN rfl
 rw[if_neg (by simp)];obtain ⟨k1,k2⟩:=zO e2;have W:=su T k1;have hl5:=W.l5;obtain ⟨n1,n2,n3⟩:=jC T.m1 A k2;have c1:=ft (ay a) (k:=m) n2 (by omega) (Nat.le_trans (n1.len (by omega)) (by decide));have c2:=bO (aZ (ay a)) n1.minus hl5 n2.minus (by omega);rw[← n3] at c1;refine qX 1 rfl ?_;refine ae.err tok rfl rfl rfl rfl rfl ?_;refine ae.nil ?_;refine AW.aD rfl ?_;refine AW.skip (qX 1 rfl ?_);refine ae.call tok rfl rfl rfl rfl c1 ?_;refine ae.call tok rfl rfl rfl rfl c2 ?_;refine qU 2 rfl ?_;exact qN rfl
theorem yl{m:Nat}{rt:List (List RD)}{a b:List RD}(T:pD m rt)(A:kz m rt a)(B:kz m rt b):Pure Tryz.prog 21 [wm rt,bG a,bG b] (yQ rt a b (fun x y=>aA (aX x y))):=by
 refine qJ 21 Tryz.func21 rfl rfl rfl rfl (by kernel_rfl) (fun B0 F0 w0=>?_);have cc:=po T A B;have hm:=T.m2;unfold yQ;refine qX 3 rfl ?_;refine qI (qX 3 rfl ?_);refine ae.pv tok rfl rfl rfl rfl rfl ?_;refine ae.call tok rfl rfl rfl rfl cc ?_;refine qU 1 rfl ?_;refine ae.nil ?_;rcases e2:kt rt [a,b] with _ | z
 rotate_left
 · rw[if_pos (Nat.succ_ne_zero z)];refine qX 1 rfl ?_;refine ae.err tok rfl rfl rfl rfl rfl ?_;refine ae.nil ?_;refine AW.aC rfl ?_;refine qX 3 rfl ?_;exact qN rfl
 rw[if_neg (by simp)];obtain ⟨k1,k2,k3⟩:=zN e2;have W:=su T k1;have hl5:=W.l5;obtain ⟨n1,n2,n3⟩:=jC T.m1 A k2;obtain ⟨p1,p2,p3⟩:=jC T.m1 B k3;have c1:=dX (ay a) (ay b) (k:=m) n2 p2 (by omega) (Nat.le_trans (n1.len (by omega)) (by decide)) (Nat.le_trans (p1.len (by omega)) (by decide));have c2:=bO (aX (ay a) (ay b)) (n1.plus p1) hl5 (n2.plus p2) (by omega);rw[← n3,← p3] at c1;refine qX 1 rfl ?_;refine ae.err tok rfl rfl rfl rfl rfl ?_;refine ae.nil ?_;refine AW.aD rfl ?_;refine AW.skip (qX 2 rfl ?_);refine ae.call tok rfl rfl rfl rfl c1 ?_;refine ae.call tok rfl rfl rfl rfl c2 ?_;refine qU 2 rfl ?_;exact qN rfl
theorem yh{m:Nat}{rt:List (List RD)}{a b:List RD}(T:pD m rt)(A:kz m rt a)(B:kz m rt b):Pure Tryz.prog 105 [wm rt,bG a,bG b] (yQ rt a b (fun x y=>aA (aX x (aZ y)))):=by
 refine qJ 22 Tryz.func105 rfl rfl rfl rfl (by kernel_rfl) (fun B0 F0 w0=>?_);have cc:=po T A B;have hm:=T.m2;unfold yQ;refine qX 3 rfl ?_;refine qI (qX 3 rfl ?_);refine ae.pv tok rfl rfl rfl rfl rfl ?_;refine ae.call tok rfl rfl rfl rfl cc ?_;refine qU 1 rfl ?_;refine ae.nil ?_;rcases e2:kt rt [a,b] with _ | z
 rotate_left
 · rw[if_pos (Nat.succ_ne_zero z)];refine qX 1 rfl ?_;refine ae.err tok rfl rfl rfl rfl rfl ?_;refine ae.nil ?_;refine AW.aC rfl ?_;refine qX 3 rfl ?_;exact qN rfl
 rw[if_neg (by simp)];obtain ⟨k1,k2,k3⟩:=zN e2;have W:=su T k1;have hl5:=W.l5;obtain ⟨n1,n2,n3⟩:=jC T.m1 A k2;obtain ⟨p1,p2,p3⟩:=jC T.m1 B k3;have c0:=ft (ay b) (k:=m) p2 (by omega) (Nat.le_trans (p1.len (by omega)) (by decide));have c1:=dX (ay a) (aZ (ay b)) (k:=m) n2 p2.minus (by omega) (Nat.le_trans (n1.len (by omega)) (by decide)) (Nat.le_trans (p1.minus.len (by omega)) (by decide));have c2:=bO (aX (ay a) (aZ (ay b))) (n1.plus p1.minus) hl5 (n2.plus p2.minus) (by omega);rw[← p3] at c0;rw[← n3] at c1;refine qX 1 rfl ?_;refine ae.err tok rfl rfl rfl rfl rfl ?_;refine ae.nil ?_;refine AW.aD rfl ?_;refine AW.skip (qX 2 rfl ?_);refine ae.call tok rfl rfl rfl rfl c0 ?_;refine ae.call tok rfl rfl rfl rfl c1 ?_;refine ae.call tok rfl rfl rfl rfl c2 ?_;refine qU 2 rfl ?_;exact qN rfl
theorem yk{m:Nat}{rt:List (List RD)}{a b:List RD}(hsT:sT rt.length m≤17300000000000)(T:pD m rt)(A:kz m rt a)(B:kz m rt b):Pure Tryz.prog 106 [wm rt,bG a,bG b] (yQ rt a b (fun x y=>aA (aU rt.length (rt.map ay) x y))):=by
 refine qJ 22 Tryz.func106 rfl rfl rfl rfl (by kernel_rfl) (fun B0 F0 w0=>?_);have cc:=po T A B;have hm:=T.m2;unfold yQ;refine qX 3 rfl ?_;refine qI (qX 3 rfl ?_);refine ae.pv tok rfl rfl rfl rfl rfl ?_;refine ae.call tok rfl rfl rfl rfl cc ?_;refine qU 1 rfl ?_;refine ae.nil ?_;rcases e2:kt rt [a,b] with _ | z
 rotate_left
 · rw[if_pos (Nat.succ_ne_zero z)];refine qX 1 rfl ?_;refine ae.err tok rfl rfl rfl rfl rfl ?_;refine ae.nil ?_;refine AW.aC rfl ?_;refine qX 3 rfl ?_;exact qN rfl
 rw[if_neg (by simp)];obtain ⟨k1,k2,k3⟩:=zN e2;have W:=su T k1;have hl5:=W.l5;obtain ⟨n1,n2,n3⟩:=jC T.m1 A k2;obtain ⟨p1,p2,p3⟩:=jC T.m1 B k3;have ht:=dp rt.length n1 p1 W.ro (by rw[W.ln];exact ai _) n2 p2 W.sz;have c1:=uv rt.length n1 p1 W.ro (by rw[W.ln];exact ai _) (by rw[W.ln];omega) n2 p2 W.sz hsT;have c2:=bO (aU rt.length (rt.map ay) (ay a) (ay b)) ht.1 hl5 ht.2 (by omega);rw[← n3,← p3,← W.eq] at c1;refine qX 1 rfl ?_;refine ae.err tok rfl rfl rfl rfl rfl ?_;refine ae.nil ?_;refine AW.aD rfl ?_;refine AW.skip (qX 3 rfl ?_);refine ae.call tok rfl rfl rfl rfl c1 ?_;refine ae.call tok rfl rfl rfl rfl c2 ?_;refine qU 2 rfl ?_;exact qN rfl
def rF(q:Rat):NQ:=if q=0 then [] else [q]
theorem EV(q:Rat):aA [q]=rF q:=by
 show (if 1=0 then [] else iG (Nat.log2 1) [q])=_;rw[if_neg (by decide),show Nat.log2 1=0 by decide];unfold iG rF;show (if bD [q]=true then [] else [q])=_;have:bD [q]=decide (q=0):=by unfold bD;simp
 rw[this];by_cases h:q=0
 · rw[aO h,if_pos rfl,if_pos h]
 · rw[ba h,if_neg (by simp),if_neg h]
theorem iZ(r:RD){k:Nat}(hr:r.w k)(h1:1≤k)(hk:k≤1000000)(ho:r.okB=true):Pure Tryz.prog 102 [r.D] (ao (rF r.val)):=by
 refine qJ 8 Tryz.func102 rfl rfl rfl rfl (by kernel_rfl) (fun B0 F0 w0=>?_);have c1:=mF r (Qr 0) (k:=k) hr (ir _ (by rw[iX];exact h1)) (by omega);have z:=cu hr h1;rw[da,Rat.add_zero] at c1;have c2:=bO [r.val] (l:=0) (k:=k) (eW 0 _) (by decide) (fX z) (by omega);rw[EV] at c2;have hz:(Qr 0).D= .ag [dB false,.sl 1 [],.sl 1 []]:=by rw[iW];rfl
 rw[hz] at c1;refine qX 2 rfl ?_;refine qK 2 rfl ?_;refine ae.call tok rfl rfl rfl rfl c1 ?_;refine ae.pv tok rfl rfl rfl rfl rfl ?_;refine ae.call tok rfl rfl rfl rfl c2 ?_;refine qU 1 rfl ?_;exact qN rfl
end Lift
namespace Lift
abbrev Cf:=Nat→Rat
def cf(a:NQ):Cf:=fun i=>a.getD i 0
def bB(l:Nat)(a:Cf):Cf:=fun i=>a (2^l+i)
def mulC(rt:List NQ):Nat→Cf→Cf→Cf
 | 0,a,b=>fun i=>if i=0 then a 0*b 0 else 0
 | l+1,a,b=>fun i=>if i<2^l then mulC rt l a b i+mulC rt l (mulC rt l (bB l a) (bB l b)) (cf (rt.getD l [])) i else mulC rt l a (bB l b) (i-2^l)+mulC rt l (bB l a) b (i-2^l)
def bN(l:Nat)(a:Cf):Prop:= ∀i,2^l≤i→a i=0
def jL(l:Nat)(a b:Cf):Prop:= ∀i,i<2^l→a i=b i
theorem bf(rt:List NQ): ∀(l:Nat) (a b:Cf),bN l (mulC rt l a b)
 | 0,a,b=>fun i hi=>by
   have:i≠0:=by have:1≤i:=hi;omega
   show (if i=0 then _ else (0:Rat))=0;rw[if_neg this]
 | l+1,a,b=>fun i hi=>by
   rw[Nat.pow_succ] at hi;have hp:0<2^l:=Nat.pow_pos (by decide);show (if i<2^l then _ else _)=(0:Rat);rw[if_neg (by omega),bf rt l _ _ _ (by omega),bf rt l _ _ _ (by omega),Rat.add_zero]
theorem jL.down{l:Nat}{a b:Cf}(h:jL (l+1) a b):jL l a b:=fun i hi=>h i (by rw[Nat.pow_succ];omega)
theorem jL.hi{l:Nat}{a b:Cf}(h:jL (l+1) a b):jL l (bB l a) (bB l b):=fun i hi=>h _ (by rw[Nat.pow_succ];omega)
theorem jL.s7{l:Nat}{a:Cf}:jL l a a:=fun _ _=>rfl
theorem jL.full{l:Nat}{a b:Cf}(h:jL l a b)(ha:bN l a)(hb:bN l b):a=b:=funext fun i=>by
 by_cases hi:i<2^l
 · exact h i hi
 · rw[ha i (by omega),hb i (by omega)]
theorem bU(rt:List NQ): ∀(l:Nat) {a b a' b':Cf},jL l a a'→jL l b b'→mulC rt l a b=mulC rt l a' b'
 | 0,a,b,a',b',h1,h2=>funext fun i=>by
   show (if i=0 then a 0*b 0 else 0)=(if i=0 then a' 0*b' 0 else 0);rw[h1 0 (by decide),h2 0 (by decide)]
 | l+1,a,b,a',b',h1,h2=>funext fun i=>by
   show (if i<2^l then mulC rt l a b i+mulC rt l (mulC rt l (bB l a) (bB l b)) (cf (rt.getD l [])) i else mulC rt l a (bB l b) (i-2^l)+mulC rt l (bB l a) b (i-2^l))=(if i<2^l then mulC rt l a' b' i+mulC rt l (mulC rt l (bB l a') (bB l b')) (cf (rt.getD l [])) i else mulC rt l a' (bB l b') (i-2^l)+mulC rt l (bB l a') b' (i-2^l));rw[bU rt l h1.down h2.down,bU rt l h1.hi h2.hi,bU rt l h1.down h2.hi,bU rt l h1.hi h2.down]
def zC:Cf:=fun _=>0
theorem bW(rt:List NQ): ∀(l:Nat) {a b:Cf},jL l a zC∨jL l b zC→mulC rt l a b=zC
 | 0,a,b,h=>funext fun i=>by
   show (if i=0 then a 0*b 0 else 0)=0;split
   · rcases h with h | h
     · rw[h 0 (by decide)];exact Rat.zero_mul _
     · rw[h 0 (by decide)];exact Rat.mul_zero _
   · rfl
 | l+1,a,b,h=>funext fun i=>by
   have hz:jL l zC zC:=jL.s7;have r1:mulC rt l a b=zC:=bW rt l (h.imp jL.down jL.down);have r2:mulC rt l (bB l a) (bB l b)=zC:=bW rt l (h.imp jL.hi jL.hi);have r3:mulC rt l a (bB l b)=zC:=bW rt l (h.imp jL.down jL.hi);have r4:mulC rt l (bB l a) b=zC:=bW rt l (h.imp jL.hi jL.down);have r5:mulC rt l zC (cf (rt.getD l []))=zC:=bW rt l (.inl hz);show (if i<2^l then mulC rt l a b i+mulC rt l (mulC rt l (bB l a) (bB l b)) (cf (rt.getD l [])) i else mulC rt l a (bB l b) (i-2^l)+mulC rt l (bB l a) b (i-2^l))=0;rw[r2,r1,r3,r4,r5];show (if i<2^l then (0:Rat)+0 else 0+0)=0;split<;>exact Rat.add_zero 0
theorem j4(rt:List NQ): ∀(l:Nat) (a b:Cf),mulC rt l a b=mulC rt l b a
 | 0,a,b=>funext fun i=>by
   show (if i=0 then a 0*b 0 else 0)=(if i=0 then b 0*a 0 else 0);rw[Rat.mul_comm]
 | l+1,a,b=>funext fun i=>by
   show (if i<2^l then mulC rt l a b i+mulC rt l (mulC rt l (bB l a) (bB l b)) (cf (rt.getD l [])) i else mulC rt l a (bB l b) (i-2^l)+mulC rt l (bB l a) b (i-2^l))=(if i<2^l then mulC rt l b a i+mulC rt l (mulC rt l (bB l b) (bB l a)) (cf (rt.getD l [])) i else mulC rt l b (bB l a) (i-2^l)+mulC rt l (bB l b) a (i-2^l));rw[j4 rt l a b,j4 rt l (bB l a) (bB l b),j4 rt l a (bB l b),j4 rt l (bB l a) b,Rat.add_comm (mulC rt l (bB l b) a _)]
theorem bN.mono{l m:Nat}{a:Cf}(h:bN l a)(hl:l≤m):bN m a:=fun i hi=>h i (Nat.le_trans (Nat.pow_le_pow_right (by decide) hl) hi)
theorem bN.vy{l:Nat}{a:Cf}(h:bN l a):bB l a=zC:=funext fun i=>h _ (by omega)
theorem cX(rt:List NQ){j:Nat}{a b:Cf}(ha:bN j a)(hb:bN j b): ∀{l:Nat},j≤l→mulC rt l a b=mulC rt j a b:=fun {l} h=>by
 obtain ⟨d,rfl⟩: ∃d,l=j+d:=⟨l-j,by omega⟩;clear h
 induction d with
 | zero=>rfl
 | succ d ih =>
   have ha':bN (j+d) a:=ha.mono (by omega);have hb':bN (j+d) b:=hb.mono (by omega);have hz:jL (j+d) zC zC:=jL.s7;rw[← ih];funext i;show (if i<2^(j+d) then mulC rt (j+d) a b i+mulC rt (j+d) (mulC rt (j+d) (bB (j+d) a) (bB (j+d) b)) (cf (rt.getD (j+d) [])) i else mulC rt (j+d) a (bB (j+d) b) (i-2^(j+d))+mulC rt (j+d) (bB (j+d) a) b (i-2^(j+d)))=_;rw[ha'.vy,hb'.vy,bW rt (j+d) (a:=zC) (b:=zC) (.inl hz),bW rt (j+d) (a:=zC) (.inl hz),bW rt (j+d) (b:=zC) (.inr hz),bW rt (j+d) (a:=zC) (.inl hz)];by_cases hi:i<2^(j+d)
   · rw[if_pos hi];exact Rat.add_zero _
   · rw[if_neg hi,bf rt (j+d) a b i (by omega)];exact Rat.add_zero _
theorem aT{l:Nat}{a:NQ}(h:a.length≤2^l):bN l (cf a):=fun i hi=>gl (by omega)
theorem dR(a b:NQ)(i:Nat):cf (aX a b) i=cf a i+cf b i:=nW a b i
theorem iq(a:NQ)(i:Nat):cf (aZ a) i= -cf a i:=pf a i
theorem ua{a:NQ}(h:bD a=true):cf a=zC:=funext fun i=>by
 unfold bD at h;rw[List.all_eq_true] at h;by_cases hi:i<a.length
 · have:=aq (h a[i] (List.getElem_mem hi));show a.getD i 0=0;rw[aN,b9 hi];exact this
 · exact gl (by omega)
theorem Em{j:Nat}{p q:NQ}(n:Nat)(hn:n=2^j)(hq:q.length≤2^j)(i:Nat):cf (dN p q n) i=if i<2^j then cf p i else cf q (i-2^j):=by
 show (dN p q n).getD i 0=_;rw[nY,hn];by_cases h:i<2^j
 · rw[if_pos h,if_pos h];rfl
 · rw[if_neg h,if_neg h];by_cases h2:i<2^j+2^j
   · rw[if_pos h2];rfl
   · rw[if_neg h2];exact(gl (by omega)).symm
theorem eT{j:Nat}{a:NQ}(n:Nat)(hn:n=2^j):jL j (cf (a.take n)) (cf a):=fun i hi=>by
 show (a.take n).getD i 0=a.getD i 0;rw[l9,if_pos (by omega)]
theorem iV{j:Nat}{a:NQ}(n:Nat)(hn:n=2^j):cf (a.drop n)=bB j (cf a):=funext fun i=>by
 show (a.drop n).getD i 0=a.getD (2^j+i) 0;rw[tY,hn]
theorem zd{l:Nat}{R:NQ→NQ→NQ}{rt:List NQ}{a b:NQ}(ha:au l a)(hb:au l b)(hab:b.length≤a.length)(hrt:cK rt)(hl:l≤rt.length)
  (hR: ∀l',l=l'+1→ ∀a' b',au l' a'→au l' b'→au l' (R a' b')∧cf (R a' b')=mulC rt l' (cf a') (cf b')):cf (jD R rt a b)=mulC rt l (cf a) (cf b):=by
 unfold jD;by_cases h0:(bD a||bD b)=true
 · rw[if_pos h0];have:cf ([]:NQ)=zC:=rfl;rw[this,bW];rw[Bool.or_eq_true] at h0;rcases h0 with h | h
   · left;rw[ua h];exact jL.s7
   · right;rw[ua h];exact jL.s7
 rw[if_neg h0];have hz:=fun z:bD a=true=>h0 (by rw[z];rfl);have hz2:=fun z:bD b=true=>h0 (by rw[z,Bool.or_true]);by_cases h1:a.length=1
 · rw[if_pos h1];have lb:b.length≤1:=by omega
   rw[cX rt (j:=0) (aT (by rw[h1];exact ai _)) (aT lb) (Nat.zero_le _)];funext i;show [a.getD 0 0*b.getD 0 0].getD i 0=if i=0 then a.getD 0 0*b.getD 0 0 else 0
   cases i with
   | zero=>rfl
   | succ i=>rw[if_neg (by omega)];rfl
 rw[if_neg h1]
 obtain ⟨i,hi,hla⟩: ∃i,i≤l∧a.length=2^i:=by
  rcases ha with e | e
  · exact absurd (by rw[List.length_eq_zero_iff.1 e];rfl) hz
  · exact e
 have vy:i≠0:=fun e=>h1 (by rw[hla,e]);obtain ⟨j,rfl⟩: ∃j,i=j+1:=⟨i-1,by omega⟩;obtain ⟨l',rfl⟩: ∃l',l=l'+1:=⟨l-1,by omega⟩;have hj:j≤l':=by omega
 have hR:=fun a' b' h1 h2=>hR l' rfl a' b' h1 h2;obtain ⟨e1,e2,e3⟩:=bC hla;have hx:au l' (a.take (a.length / 2)):= .inr ⟨j,hj,e1⟩;have hy:au l' (a.drop (a.length / 2)):= .inr ⟨j,hj,e2⟩;have la:bN (j+1) (cf a):=aT (by omega);have lb:bN (j+1) (cf b):=aT (by omega);rw[cX rt la lb hi]
 have low: ∀{p q:NQ},p.length≤2^j→q.length≤2^j→au l' p→au l' q→cf (R p q)=mulC rt j (cf p) (cf q):=fun {p q} hp hq h1 h2=>by
  rw[(hR p q h1 h2).2,cX rt (aT hp) (aT hq) hj]
 have lenR: ∀{p q:NQ},p.length≤2^j→q.length≤2^j→au l' p→au l' q→bN j (cf (R p q)):=fun {p q} hp hq h1 h2=>by
  rw[low hp hq h1 h2];exact bf rt j _ _
 have tk:=eT (a:=a) (a.length / 2) e3;have dr:=iV (a:=a) (a.length / 2) e3
 have cj: ∀{p q:NQ},bN j (cf q)→ ∀i,cf (dN p q (a.length / 2)) i=if i<2^j then cf p i else cf q (i-2^j):=fun {p q} hq i=>by
  show (dN p q (a.length / 2)).getD i 0=_;rw[nY,e3];by_cases h:i<2^j
  · rw[if_pos h,if_pos h];rfl
  · rw[if_neg h,if_neg h];by_cases h2:i<2^j+2^j
    · rw[if_pos h2];rfl
    · rw[if_neg h2,hq _ (by omega)]
 by_cases h3:b.length≤a.length / 2
 · rw[if_pos h3]
   have hb':au l' b:=by
    rcases hb with e | ⟨i',_,e⟩
    · exact .inl e
    · refine .inr ⟨i',?_,e⟩;rw[e3,e] at h3;have:=(Nat.pow_le_pow_iff_right (a:=2) (by decide)).1 h3;omega
   rw[e3] at h3;have lbj:bN j (cf b):=aT h3;funext i;rw[cj (lenR (by omega) h3 hy hb'),low (by omega) h3 hx hb',low (by omega) h3 hy hb',dr,bU rt j tk jL.s7];show _=if i<2^j then mulC rt j (cf a) (cf b) i+mulC rt j (mulC rt j (bB j (cf a)) (bB j (cf b))) (cf (rt.getD j [])) i else mulC rt j (cf a) (bB j (cf b)) (i-2^j)+mulC rt j (bB j (cf a)) (cf b) (i-2^j)
   have hzz:jL j zC zC:=jL.s7;rw[lbj.vy,bW rt j (b:=zC) (.inr hzz),bW rt j (b:=zC) (.inr hzz),bW rt j (a:=zC) (.inl hzz)];by_cases h:i<2^j
   · rw[if_pos h,if_pos h];exact(Rat.add_zero _).symm
   · rw[if_neg h,if_neg h];exact(Rat.zero_add _).symm
 rw[if_neg h3]
 have hlb:b.length=2^(j+1):=by
  rcases hb with e | ⟨i',_,e⟩
  · exact absurd (by rw[List.length_eq_zero_iff.1 e];rfl) hz2
  · rw[e] at h3 hab ⊢;rw[hla] at hab;rw[e3] at h3;have h4:=(Nat.pow_le_pow_iff_right (a:=2) (by decide)).1 hab;have h5: ¬i'≤j:=fun h=>h3 ((Nat.pow_le_pow_iff_right (a:=2) (by decide)).2 h);rw[show i'=j+1 by omega]
 obtain ⟨f1,f2,f3⟩:=bC hlb;rw[show b.length / 2=a.length / 2 by rw[f3,e3]] at f1 f2;have hu:au l' (b.take (a.length / 2)):= .inr ⟨j,hj,f1⟩;have hv:au l' (b.drop (a.length / 2)):= .inr ⟨j,hj,f2⟩;have tkb:=eT (a:=b) (a.length / 2) e3;have drb:=iV (a:=b) (a.length / 2) e3;have hlog:a.length.log2-1=j:=by rw[hla,Nat.log2_two_pow];omega
 rw[hlog];have hdl:(rt.getD j []).length=2^j:=hrt j (by omega);have hd:au l' (rt.getD j []):= .inr ⟨j,hj,hdl⟩;have Ryv:=hR _ _ hy hv;have lyv:bN j (cf (R (a.drop (a.length / 2)) (b.drop (a.length / 2)))):=lenR (by omega) (by omega) hy hv;have c1:=low (p:=a.take (a.length / 2)) (q:=b.take (a.length / 2)) (by omega) (by omega) hx hu;have c2:=low (p:=a.drop (a.length / 2)) (q:=b.drop (a.length / 2)) (by omega) (by omega) hy hv;have c3:=low (p:=a.take (a.length / 2)) (q:=b.drop (a.length / 2)) (by omega) (by omega) hx hv;have c4:=low (p:=a.drop (a.length / 2)) (q:=b.take (a.length / 2)) (by omega) (by omega) hy hu
 have c5:cf (R (R (a.drop (a.length / 2)) (b.drop (a.length / 2))) (rt.getD j []))=mulC rt j (cf (R (a.drop (a.length / 2)) (b.drop (a.length / 2)))) (cf (rt.getD j [])):=by
  rw[(hR _ _ Ryv.1 hd).2,cX rt lyv (aT (by omega)) hj]
 have lq:bN j (cf (aX (R (a.take (a.length / 2)) (b.drop (a.length / 2))) (R (a.drop (a.length / 2)) (b.take (a.length / 2))))):=fun i hi=>by
  rw[dR,c3,c4,bf rt j _ _ i hi,bf rt j _ _ i hi];exact Rat.add_zero _
 funext i;rw[cj lq,dR,dR,c1,c5,c2,c3,c4,dr,drb,bU rt j tk tkb,bU rt j tk jL.s7,bU rt j jL.s7 tkb];rfl
theorem fu: ∀(l:Nat) {rt:List NQ} {a b:NQ},au l a→au l b→cK rt→l≤rt.length→au l (aU l rt a b)∧cf (aU l rt a b)=mulC rt l (cf a) (cf b)
 | 0,rt,a,b,ha,hb,hrt,hl=>by
   have key: ∀{a b:NQ},au 0 a→au 0 b→b.length≤a.length→au 0 (jD (fun _ _=>[]) rt a b)∧cf (jD (fun _ _=>[]) rt a b)=mulC rt 0 (cf a) (cf b):=fun {a b} ha hb hab =>
    ⟨by
     unfold jD;split
     · exact cy _
     split
     · exact eW _ _
     · rename_i h0 h1;have:a.length≤1:=ha.le;have:a=[]:=List.length_eq_zero_iff.1 (by omega);subst this
       exact absurd rfl h0,zd ha hb hab hrt hl (fun l' h=>by omega)⟩
   show au 0 (ku (jD (fun _ _=>[]) rt) a b)∧cf (ku (jD (fun _ _=>[]) rt) a b)=_;unfold ku;split
   · have:=key hb ha (by omega);exact⟨this.1,by rw[this.2,j4]⟩
   · exact key ha hb (by omega)
 | l+1,rt,a,b,ha,hb,hrt,hl=>by
   have ih: ∀l',l+1=l'+1→ ∀a' b',au l' a'→au l' b'→au l' (aU l rt a' b')∧cf (aU l rt a' b')=mulC rt l' (cf a') (cf b'):=fun l' e a' b' h1 h2=>by
    obtain rfl:l=l':=by omega
    exact fu l h1 h2 hrt (by omega)
   have lt:au (l+1) (aU (l+1) rt a b):=by
    obtain ⟨K,hK⟩: ∃K,aB K a∧aB K b∧dh K rt:=xf a b rt;exact(dp (l+1) ha hb hrt hl hK.1 hK.2.1 hK.2.2).1
   refine⟨lt,?_⟩;show cf (ku (jD (aU l rt) rt) a b)=_;unfold ku;split
   · rw[zd hb ha (by omega) hrt hl ih,j4]
   · exact zd ha hb (by omega) hrt hl ih
end Lift
namespace Lift
theorem F7:jc 0=0:=cV.2 rfl
theorem HE: ∀{i:Nat} {a:NQ},bN i (cf a)→cf (iG i a)=cf a
 | 0,a,h=>by
   unfold iG;by_cases h0:bD (a.take 1)=true
   · rw[if_pos h0];have z:=ua h0;funext c;show (0:Rat)=a.getD c 0;cases c with
     | zero =>
       have:(a.take 1).getD 0 0=0:=congrFun z 0;rw[l9,if_pos (by decide)] at this;exact this.symm
     | succ c=>exact(h (c+1) (by show 1≤c+1;omega)).symm
   · rw[if_neg h0];funext c;show (a.take 1).getD c 0=a.getD c 0;rw[l9];split
     · rfl
     · exact(h c (by show 1≤c;omega)).symm
 | i+1,a,h=>by
   unfold iG;have e:2^(i+1)=2^i*2:=Nat.pow_succ ..;by_cases h0:bD ((a.take (2^(i+1))).drop (2^i))=true
   · rw[if_pos h0];refine HE fun c hc=>?_;by_cases hc2:c<2^(i+1)
     · have:=congrFun (ua h0) (c-2^i);have:((a.take (2^(i+1))).drop (2^i)).getD (c-2^i) 0=0:=this;rw[tY,l9,if_pos (by omega),show 2^i+(c-2^i)=c by omega] at this;exact this
     · exact h c (by omega)
   · rw[if_neg h0];funext c;show (a.take (2^(i+1))).getD c 0=a.getD c 0;rw[l9];split
     · rfl
     · exact(h c (by omega)).symm
theorem bb{l:Nat}{a:NQ}(ha:au l a):cf (aA a)=cf a:=by
 unfold aA;split
 · rename_i h;rw[List.length_eq_zero_iff.1 h]
 rename_i h0;rcases ha with e | ⟨i,hi,e⟩
 · exact absurd e h0
 rw[e,Nat.log2_two_pow];exact HE (aT (by omega))
theorem bV{l:Nat}{a:NQ}(ha:au l a):au l (aA a):=by
 obtain ⟨K,hK⟩:=Dm a;exact(bd ha hK).1
structure v7 (a:NQ):Prop where
 one:a.length=1→a.getD 0 0≠0
 two: ∀i,a.length=2^(i+1)→ ¬bN i (cf a)
theorem xe:v7 []:=⟨fun h=>absurd h (by decide),fun i h=>by
  have hp:0<2^(i+1):=Nat.pow_pos (by decide);have h:0=2^(i+1):=h
  omega⟩
theorem ug{a:NQ}(h:cf a=zC):bD a=true:=by
 unfold bD;rw[List.all_eq_true];intro x hx;obtain ⟨i,hi,rfl⟩:=List.getElem_of_mem hx;have:=congrFun h i;have:a.getD i 0=0:=this;rw[aN,b9 hi] at this;exact aO this
theorem xc: ∀{i:Nat} {a:NQ},a.length=2^i∨2^i≤a.length→v7 (iG i a)
 | 0,a,h=>by
   unfold iG;by_cases h0:bD (a.take 1)=true
   · rw[if_pos h0];exact xe
   · rw[if_neg h0]
     have hl:(a.take 1).length=1:=by rw[bg];have:1≤a.length:=by rcases h with h | h;(have h:a.length=1:=h;omega);exact h
                                     omega
     refine⟨fun _ e=>h0 (ug (funext fun c=>?_)),fun i h=>?_⟩
     · show (a.take 1).getD c 0=0;cases c with
       | zero=>exact e
       | succ c=>exact gl (by omega)
     · rw[hl,Nat.pow_succ] at h;omega
 | i+1,a,h=>by
   unfold iG;have e:2^(i+1)=2^i*2:=Nat.pow_succ ..;have hp:0<2^i:=Nat.pow_pos (by decide);by_cases h0:bD ((a.take (2^(i+1))).drop (2^i))=true
   · rw[if_pos h0];exact xc (.inr (by omega))
   · rw[if_neg h0];have hl:(a.take (2^(i+1))).length=2^(i+1):=by rw[bg];omega
     refine⟨fun h1=>?_,fun k hk hlow=>h0 (ug (funext fun c=>?_))⟩
     · rw[hl] at h1;omega
     · rw[hl] at hk
       have:k=i:=by
        have h1:=(Nat.pow_le_pow_iff_right (a:=2) (by decide)).1 (Nat.le_of_eq hk);have h2:=(Nat.pow_le_pow_iff_right (a:=2) (by decide)).1 (Nat.le_of_eq hk.symm);omega
       subst this;show ((a.take (2^(k+1))).drop (2^k)).getD c 0=0;rw[tY];exact hlow _ (by omega)
theorem gF{l:Nat}{a:NQ}(ha:au l a):v7 (aA a):=by
 unfold aA;split
 · exact xe
 rename_i h0;rcases ha with e | ⟨i,hi,e⟩
 · exact absurd e h0
 rw[e,Nat.log2_two_pow];exact xc (.inl e)
theorem IX{a b:NQ}(hl:a.length=b.length)(h:cf a=cf b):a=b:=by
 refine List.ext_getElem hl fun i h1 h2=>?_;have:a.getD i 0=b.getD i 0:=congrFun h i;rw[aN,aN,b9 h1,b9 h2] at this;exact this
theorem FF{l m:Nat}{a b:NQ}(ha:au l a)(hb:au m b)(ta:v7 a)(tb:v7 b)(h:cf a=cf b):a=b:=by
 refine IX ?_ h
 have key: ∀{l m:Nat} {a b:NQ},au l a→au m b→v7 b→cf a=cf b→b.length≤a.length:=fun {l m a b} ha hb tb h=>by
  by_cases hlt:b.length≤a.length
  · exact hlt
  exfalso;rcases hb with e | ⟨k,_,e⟩
  · omega
  rcases k with _ | k
  · have h1:b.length=1:=e;have h0:a.length=0:=by omega
    refine tb.one h1 ?_;have:a.getD 0 0=b.getD 0 0:=congrFun h 0;rw[← this];exact gl (by omega)
  · refine tb.two k e ?_;rw[← h];refine aT ?_;rcases ha with e1 | ⟨j,_,e1⟩
    · omega
    · rw[e1,e] at hlt;have: ¬k+1≤j:=fun h=>hlt (Nat.pow_le_pow_right (by decide) h);rw[e1];exact Nat.pow_le_pow_right (by decide) (by omega)
 exact Nat.le_antisymm (key hb ha ta h.symm) (key ha hb tb h)
theorem F4{l m:Nat}{a b:NQ}(ha:au l a)(hb:au m b)(h:cf a=cf b):aA a=aA b:=by
 refine FF (bV ha) (bV hb) (gF ha) (gF hb) ?_;rw[bb ha,bb hb,h]
def bo(rt:List NQ)(l:Nat)(a:Cf):Cf:=fun i=>mulC rt l a a i-mulC rt l (mulC rt l (bB l a) (bB l a)) (cf (rt.getD l [])) i
def aY(rt:List NQ):Nat→Cf→Int
 | 0,a=>jc (a 0)
 | l+1,a=>if aY rt l (cf (rt.getD l []))=0 then aY rt l a else if aY rt l a=aY rt l (bB l a)∨aY rt l (bB l a)=0 then aY rt l a else
   if aY rt l a=0 then aY rt l (bB l a) else aY rt l a*aY rt l (bo rt l a)
theorem AT(rt:List NQ){l:Nat}{a b:Cf}(h:jL (l+1) a b):bo rt l a=bo rt l b:=by
 unfold bo;rw[bU rt l h.down h.down,bU rt l h.hi h.hi]
theorem ke(rt:List NQ): ∀(l:Nat) {a b:Cf},jL l a b→aY rt l a=aY rt l b
 | 0,a,b,h=>by show jc (a 0)=jc (b 0);rw[h 0 (by decide)]
 | l+1,a,b,h=>by
   unfold aY;rw[ke rt l h.down,ke rt l h.hi,AT rt h]
theorem dF(rt:List NQ): ∀(l:Nat),aY rt l zC=0
 | 0=>by show jc 0=0;exact F7
 | l+1=>by
   have h:=dF rt l;have h2:aY rt l (bB l zC)=0:=h;unfold aY;rw[h,h2];split
   · rfl
   · rw[if_pos (Or.inl rfl)]
theorem bK(rt:List NQ){j:Nat}{a:Cf}(ha:bN j a): ∀{l:Nat},j≤l→aY rt l a=aY rt j a:=fun {l} h=>by
 obtain ⟨d,rfl⟩: ∃d,l=j+d:=⟨l-j,by omega⟩;clear h
 induction d with
 | zero=>rfl
 | succ d ih =>
   have ha':bN (j+d) a:=ha.mono (by omega);show (if aY rt (j+d) (cf (rt.getD (j+d) []))=0 then aY rt (j+d) a else if aY rt (j+d) a=aY rt (j+d) (bB (j+d) a)∨aY rt (j+d) (bB (j+d) a)=0 then aY rt (j+d) a else if aY rt (j+d) a=0 then aY rt (j+d) (bB (j+d) a) else aY rt (j+d) a*aY rt (j+d) (bo rt (j+d) a))=_;rw[ha'.vy,dF,ih];by_cases hd:aY rt (j+d) (cf (rt.getD (j+d) []))=0
   · rw[if_pos hd]
   · rw[if_neg hd,if_pos (Or.inr rfl)]
theorem qo{l j:Nat}{rt:List NQ}{a:NQ}(hj:j≤l)(ha:a.length=2^(j+1))(hrt:cK rt)(hl:l<rt.length):au l (fc l rt a)∧cf (fc l rt a)=bo rt j (cf a):=by
 obtain ⟨K,hK⟩: ∃K,aB K a∧aB K a∧dh K rt:=xf a a rt;refine⟨(yZ hj ha hrt hl hK.1 hK.2.2).1,?_⟩;obtain ⟨e1,e2,e3⟩:=bC ha;have hx:au l (a.take (a.length / 2)):= .inr ⟨j,hj,e1⟩;have hy:au l (a.drop (a.length / 2)):= .inr ⟨j,hj,e2⟩;have hlog:a.length.log2-1=j:=by rw[ha,Nat.log2_two_pow];omega
 have hdl:(rt.getD j []).length=2^j:=hrt j (by omega);have hd:au l (rt.getD j []):= .inr ⟨j,hj,hdl⟩;have r1:=fu l hx hx hrt (by omega);have r2:=fu l hy hy hrt (by omega);have r3:=fu l r2.1 hd hrt (by omega);unfold fc bo;rw[hlog];funext i;rw[dR,iq,r1.2,r3.2,r2.2,cX rt (aT (by omega)) (aT (by omega)) hj,cX rt (aT (a:=a.drop (a.length / 2)) (by omega)) (aT (by omega)) hj,cX rt (bf rt j _ _) (aT (by omega)) hj,iV _ e3,bU rt j (eT _ e3) (eT _ e3)];exact Rat.sub_eq_add_neg _ _ |>.symm
theorem dK: ∀(l:Nat) {rt:List NQ} {a:NQ},au l a→cK rt→l≤rt.length→ed l rt a=aY rt l (cf a)
 | 0,rt,a,ha,hrt,hl=>by
   have hs:=bV ha;have hc:=bb ha;show wF (fun _=>0) (fun a=>a) rt (aA a)=jc (cf a 0);rw[← hc];generalize aA a=s at hs;unfold wF;rcases hs with e | ⟨i,hi,e⟩
   · rw[if_pos e,List.length_eq_zero_iff.1 e];show 0=jc 0;rw[F7]
   · obtain rfl:i=0:=by omega
     have e:s.length=1:=e;rw[if_neg (by omega),if_pos e];rfl
 | l+1,rt,a,ha,hrt,hl=>by
   have hs:=bV ha;have hc:=bb ha;show wF (ed l rt) (fc l rt) rt (aA a)=aY rt (l+1) (cf a);rw[← hc];generalize aA a=s at hs;clear hc ha;unfold wF;by_cases h0:s.length=0
   · rw[if_pos h0,List.length_eq_zero_iff.1 h0];exact(dF rt (l+1)).symm
   rw[if_neg h0];by_cases h1:s.length=1
   · rw[if_pos h1,bK rt (j:=0) (aT (by rw[h1];exact ai _)) (Nat.zero_le _)];rfl
   rw[if_neg h1]
   obtain ⟨j,hj,hsl⟩: ∃j,j≤l∧s.length=2^(j+1):=by
    rcases hs with e | ⟨i,hi,e⟩
    · exact absurd e h0
    · rcases i with _ | j
      · exact absurd e h1
      · exact⟨j,by omega,e⟩
   obtain ⟨e1,e2,e3⟩:=bC hsl;have hx:au l (s.take (s.length / 2)):= .inr ⟨j,hj,e1⟩;have hy:au l (s.drop (s.length / 2)):= .inr ⟨j,hj,e2⟩;have hlog:s.length.log2-1=j:=by rw[hsl,Nat.log2_two_pow];omega
   have hdl:(rt.getD j []).length=2^j:=hrt j (by omega);have hd:au l (rt.getD j []):= .inr ⟨j,hj,hdl⟩;have hn:=qo hj hsl hrt (by omega)
   have lowN:bN j (bo rt j (cf s)):=fun i hi=>by
    unfold bo;rw[bf rt j _ _ i hi,bf rt j _ _ i hi];exact Rat.sub_self
   rw[hlog,dK l hd hrt (by omega),dK l hx hrt (by omega),dK l hy hrt (by omega),dK l hn.1 hrt (by omega),hn.2,iV _ e3,
    bK rt (aT (a:=rt.getD j []) (by omega)) hj,bK rt (aT (a:=s.take (s.length / 2)) (by omega)) hj,bK rt lowN hj,ke rt j (eT _ e3)]
   have lh:bN j (bB j (cf s)):=fun i hi=>(aT (l:=j+1) (by omega)) _ (by rw[Nat.pow_succ];omega);rw[bK rt lh hj,bK rt (a:=cf s) (j:=j+1) (l:=l+1) (aT (by omega)) (by omega)];rfl
end Lift
namespace Lift
def kG(R:NQ→NQ→NQ)(rt:List NQ)(a b:NQ):NQ :=
 if a.length=0∨b.length=0 then [] else if max a.length b.length=1 then [a.getD 0 0*b.getD 0 0] else
 dN (aX (R ((bj a (max a.length b.length)).take (max a.length b.length / 2)) ((bj b (max a.length b.length)).take (max a.length b.length / 2)))
   (R (R ((bj a (max a.length b.length)).drop (max a.length b.length / 2)) ((bj b (max a.length b.length)).drop (max a.length b.length / 2))) (rt.getD ((max a.length b.length).log2-1) [])))
  (aX (R ((bj a (max a.length b.length)).take (max a.length b.length / 2)) ((bj b (max a.length b.length)).drop (max a.length b.length / 2)))
   (R ((bj a (max a.length b.length)).drop (max a.length b.length / 2)) ((bj b (max a.length b.length)).take (max a.length b.length / 2)))) (max a.length b.length / 2)
def gh:Nat→List NQ→NQ→NQ→NQ
 | 0,rt,a,b=>kG (fun _ _=>[]) rt (aA a) (aA b)
 | l+1,rt,a,b=>kG (gh l rt) rt (aA a) (aA b)
theorem Ej{l:Nat}{a:NQ}(n:Nat)(ha:a.length≤n):cf (bj a n)=cf a:=funext fun i=>by
 show (bj a n).getD i 0=a.getD i 0;rw[gD];split
 · rfl
 · exact(gl (by omega)).symm
theorem Av{l:Nat}{R:NQ→NQ→NQ}{rt:List NQ}{a b:NQ}(ha:au l a)(hb:au l b)(hrt:cK rt)(hl:l≤rt.length)
  (hR: ∀l',l=l'+1→ ∀a' b',au l' a'→au l' b'→au l' (R a' b')∧cf (R a' b')=mulC rt l' (cf a') (cf b')):au l (kG R rt a b)∧cf (kG R rt a b)=mulC rt l (cf a) (cf b):=by
 have cz: ∀{x:NQ},x.length=0→cf x=zC:=fun {x} h=>by rw[List.length_eq_zero_iff.1 h];rfl
 unfold kG;by_cases h0:a.length=0∨b.length=0
 · rw[if_pos h0];refine⟨cy _,?_⟩;rw[bW rt l (h0.imp (fun h=>by rw[cz h];exact jL.s7) (fun h=>by rw[cz h];exact jL.s7))];rfl
 rw[if_neg h0];by_cases h1:max a.length b.length=1
 · rw[if_pos h1];refine⟨eW _ _,?_⟩;rw[cX rt (j:=0) (aT (show a.length≤1 by omega)) (aT (show b.length≤1 by omega)) (Nat.zero_le _)];funext i;show [a.getD 0 0*b.getD 0 0].getD i 0=if i=0 then a.getD 0 0*b.getD 0 0 else 0
   cases i with
   | zero=>rfl
   | succ i=>rw[if_neg (by omega)];rfl
 rw[if_neg h1]
 obtain ⟨i,hi,hn⟩: ∃i,i≤l∧max a.length b.length=2^i:=by
  rcases ha with e | ⟨i,hi,e⟩
  · exact absurd (.inl e) h0
  rcases hb with e2 | ⟨k,hk,e2⟩
  · exact absurd (.inr e2) h0
  by_cases h:a.length≤b.length
  · exact⟨k,hk,by rw[Nat.max_eq_right h,e2]⟩
  · exact⟨i,hi,by rw[Nat.max_eq_left (by omega),e]⟩
 have vy:i≠0:=fun e=>h1 (by rw[hn,e]);obtain ⟨j,rfl⟩: ∃j,i=j+1:=⟨i-1,by omega⟩;obtain ⟨l',rfl⟩: ∃l',l=l'+1:=⟨l-1,by omega⟩;have hj:j≤l':=by omega
 have hR:=fun a' b' h1 h2=>hR l' rfl a' b' h1 h2;have ca:=Ej (l:=l') (max a.length b.length) (Nat.le_max_left a.length b.length);have cb:=Ej (l:=l') (max a.length b.length) (Nat.le_max_right a.length b.length);have wa:=bJ a (max a.length b.length);have wb:=bJ b (max a.length b.length);rw[← ca,← cb];generalize bj a (max a.length b.length)=A at *;generalize bj b (max a.length b.length)=B at *;generalize max a.length b.length=n at *;subst hn;have e0:=lz j;have hlog:(2^(j+1)).log2-1=j:=by rw[Nat.log2_two_pow];omega
 rw[e0,hlog];obtain ⟨e1,e2,e3⟩:=bC wa;obtain ⟨f1,f2,f3⟩:=bC wb;rw[e3] at e1 e2;rw[f3] at f1 f2;have hx:au l' (A.take (2^j)):= .inr ⟨j,hj,e1⟩;have hy:au l' (A.drop (2^j)):= .inr ⟨j,hj,e2⟩;have hu:au l' (B.take (2^j)):= .inr ⟨j,hj,f1⟩;have hv:au l' (B.drop (2^j)):= .inr ⟨j,hj,f2⟩;have hdl:(rt.getD j []).length=2^j:=hrt j (by omega);have hd:au l' (rt.getD j []):= .inr ⟨j,hj,hdl⟩
 have low: ∀{p q:NQ},p.length≤2^j→q.length≤2^j→au l' p→au l' q→cf (R p q)=mulC rt j (cf p) (cf q):=fun {p q} hp hq h1 h2=>by
  rw[(hR p q h1 h2).2,cX rt (aT hp) (aT hq) hj]
 have Ryv:=hR _ _ hy hv;have c2:=low (p:=A.drop (2^j)) (q:=B.drop (2^j)) (by omega) (by omega) hy hv;have lyv:bN j (cf (R (A.drop (2^j)) (B.drop (2^j)))):=by rw[c2];exact bf rt j _ _
 have c1:=low (p:=A.take (2^j)) (q:=B.take (2^j)) (by omega) (by omega) hx hu;have c3:=low (p:=A.take (2^j)) (q:=B.drop (2^j)) (by omega) (by omega) hx hv;have c4:=low (p:=A.drop (2^j)) (q:=B.take (2^j)) (by omega) (by omega) hy hu
 have c5:cf (R (R (A.drop (2^j)) (B.drop (2^j))) (rt.getD j []))=mulC rt j (cf (R (A.drop (2^j)) (B.drop (2^j)))) (cf (rt.getD j [])):=by
  rw[(hR _ _ Ryv.1 hd).2,cX rt lyv (aT (by omega)) hj]
 refine⟨.inr ⟨j+1,by omega,by rw[dG,Nat.pow_succ];omega⟩,?_⟩;rw[cX rt (j:=j+1) (aT (by omega)) (aT (by omega)) (by omega)]
 have lq:bN j (cf (aX (R (A.take (2^j)) (B.drop (2^j))) (R (A.drop (2^j)) (B.take (2^j))))):=fun i hi=>by
  rw[dR,c3,c4,bf rt j _ _ i hi,bf rt j _ _ i hi];exact Rat.add_zero _
 have cj: ∀{p q:NQ},bN j (cf q)→ ∀i,cf (dN p q (2^j)) i=if i<2^j then cf p i else cf q (i-2^j):=fun {p q} hq i=>by
  show (dN p q (2^j)).getD i 0=_;rw[nY];by_cases h:i<2^j
  · rw[if_pos h,if_pos h];rfl
  · rw[if_neg h,if_neg h];by_cases h2:i<2^j+2^j
    · rw[if_pos h2];rfl
    · rw[if_neg h2,hq _ (by omega)]
 funext i;rw[cj lq,dR,dR,c1,c5,c2,c3,c4,iV (a:=A) (2^j) rfl,iV (a:=B) (2^j) rfl,bU rt j (eT (a:=A) (2^j) rfl) (eT (a:=B) (2^j) rfl),bU rt j (eT (a:=A) (2^j) rfl) jL.s7,bU rt j jL.s7 (eT (a:=B) (2^j) rfl)];rfl
theorem nT: ∀(l:Nat) {rt:List NQ} {a b:NQ},au l a→au l b→cK rt→l≤rt.length→au l (gh l rt a b)∧cf (gh l rt a b)=mulC rt l (cf a) (cf b)
 | 0,rt,a,b,ha,hb,hrt,hl=>by
   have:=Av (R:=fun _ _=>[]) (bV ha) (bV hb) hrt hl (fun l' h=>by omega);rw[bb ha,bb hb] at this;exact this
 | l+1,rt,a,b,ha,hb,hrt,hl=>by
   have:=Av (R:=gh l rt) (bV ha) (bV hb) hrt hl (fun l' e a' b' h1 h2=>by
    obtain rfl:l=l':=by omega
    exact nT l h1 h2 hrt (by omega))
   rw[bb ha,bb hb] at this;exact this
def kS(l:Nat)(rt:List NQ)(a:NQ):NQ :=
 aX (gh l rt (a.take (a.length / 2)) (a.take (a.length / 2))) (aZ (gh l rt (gh l rt (a.drop (a.length / 2)) (a.drop (a.length / 2))) (rt.getD (a.length.log2-1) [])))
def oC(R:NQ→Int)(N:NQ→NQ)(rt:List NQ)(a:NQ):Int :=
 if a.length=0 then 0 else if a.length=1 then jc (a.getD 0 0) else
 if R (a.take (a.length / 2))=R (a.drop (a.length / 2))*R (rt.getD (a.length.log2-1) [])∨R (a.drop (a.length / 2))*R (rt.getD (a.length.log2-1) [])=0 then R (a.take (a.length / 2)) else
 if R (a.take (a.length / 2))=0 then R (a.drop (a.length / 2))*R (rt.getD (a.length.log2-1) []) else R (a.take (a.length / 2))*R (N a)
def rq:Nat→List NQ→NQ→Int
 | 0,rt,a=>oC (fun _=>0) (fun a=>a) rt (aA a)
 | l+1,rt,a=>oC (rq l rt) (kS l rt) rt (aA a)
def oO(rt:List NQ):Prop:= ∀j,j<rt.length→0≤aY rt j (cf (rt.getD j []))
theorem Gi{l j:Nat}{rt:List NQ}{a:NQ}(hj:j≤l)(ha:a.length=2^(j+1))(hrt:cK rt)(hl:l<rt.length):au l (kS l rt a)∧cf (kS l rt a)=bo rt j (cf a):=by
 obtain ⟨e1,e2,e3⟩:=bC ha;have hx:au l (a.take (a.length / 2)):= .inr ⟨j,hj,e1⟩;have hy:au l (a.drop (a.length / 2)):= .inr ⟨j,hj,e2⟩;have hlog:a.length.log2-1=j:=by rw[ha,Nat.log2_two_pow];omega
 have hdl:(rt.getD j []).length=2^j:=hrt j (by omega);have hd:au l (rt.getD j []):= .inr ⟨j,hj,hdl⟩;have r1:=nT l hx hx hrt (by omega);have r2:=nT l hy hy hrt (by omega);have r3:=nT l r2.1 hd hrt (by omega);unfold kS;rw[hlog];refine⟨r1.1.plus r3.1.minus,?_⟩;unfold bo;funext i;rw[dR,iq,r1.2,r3.2,r2.2,cX rt (aT (by omega)) (aT (by omega)) hj,cX rt (aT (a:=a.drop (a.length / 2)) (by omega)) (aT (by omega)) hj,cX rt (bf rt j _ _) (aT (by omega)) hj,iV _ e3,bU rt j (eT _ e3) (eT _ e3)];exact Rat.sub_eq_add_neg _ _ |>.symm
theorem lg(rt:List NQ): ∀(l:Nat) (a:Cf),xa (aY rt l a)
 | 0,a=>gG _
 | l+1,a=>by
   unfold aY;split
   · exact lg rt l _
   split
   · exact lg rt l _
   split
   · exact lg rt l _
   · exact lS (lg rt l _) (lg rt l _)
theorem mV: ∀(l:Nat) {rt:List NQ} {a:NQ},au l a→cK rt→oO rt→l≤rt.length→rq l rt a=aY rt l (cf a)
 | 0,rt,a,ha,hrt,hp,hl=>by
   have hs:=bV ha;have hc:=bb ha;show oC (fun _=>0) (fun a=>a) rt (aA a)=jc (cf a 0);rw[← hc];generalize aA a=s at hs;unfold oC;rcases hs with e | ⟨i,hi,e⟩
   · rw[if_pos e,List.length_eq_zero_iff.1 e];show 0=jc 0;rw[F7]
   · obtain rfl:i=0:=by omega
     have e:s.length=1:=e;rw[if_neg (by omega),if_pos e];rfl
 | l+1,rt,a,ha,hrt,hp,hl=>by
   have hs:=bV ha;have hc:=bb ha;show oC (rq l rt) (kS l rt) rt (aA a)=aY rt (l+1) (cf a);rw[← hc];generalize aA a=s at hs;clear hc ha;unfold oC;by_cases h0:s.length=0
   · rw[if_pos h0,List.length_eq_zero_iff.1 h0];exact(dF rt (l+1)).symm
   rw[if_neg h0];by_cases h1:s.length=1
   · rw[if_pos h1,bK rt (j:=0) (aT (by rw[h1];exact ai _)) (Nat.zero_le _)];rfl
   rw[if_neg h1]
   obtain ⟨j,hj,hsl⟩: ∃j,j≤l∧s.length=2^(j+1):=by
    rcases hs with e | ⟨i,hi,e⟩
    · exact absurd e h0
    · rcases i with _ | j
      · exact absurd e h1
      · exact⟨j,by omega,e⟩
   obtain ⟨e1,e2,e3⟩:=bC hsl;have hx:au l (s.take (s.length / 2)):= .inr ⟨j,hj,e1⟩;have hy:au l (s.drop (s.length / 2)):= .inr ⟨j,hj,e2⟩;have hlog:s.length.log2-1=j:=by rw[hsl,Nat.log2_two_pow];omega
   have hdl:(rt.getD j []).length=2^j:=hrt j (by omega);have hd:au l (rt.getD j []):= .inr ⟨j,hj,hdl⟩;have hn:=Gi hj hsl hrt (by omega)
   have lowN:bN j (bo rt j (cf s)):=fun i hi=>by
    unfold bo;rw[bf rt j _ _ i hi,bf rt j _ _ i hi];exact Rat.sub_self
   have lh:bN j (bB j (cf s)):=fun i hi=>(aT (l:=j+1) (by omega)) _ (by rw[Nat.pow_succ];omega);have hpj:=hp j (by omega)
   rw[hlog,mV l hd hrt hp (by omega),mV l hx hrt hp (by omega),mV l hy hrt hp (by omega),mV l hn.1 hrt hp (by omega),hn.2,iV _ e3,
    bK rt (aT (a:=rt.getD j []) (by omega)) hj,bK rt (aT (a:=s.take (s.length / 2)) (by omega)) hj,bK rt lowN hj,ke rt j (eT _ e3),bK rt lh hj,bK rt (a:=cf s) (j:=j+1) (l:=l+1) (aT (by omega)) (by omega)]
   show _=if aY rt j (cf (rt.getD j []))=0 then aY rt j (cf s) else if aY rt j (cf s)=aY rt j (bB j (cf s))∨aY rt j (bB j (cf s))=0 then aY rt j (cf s) else
    if aY rt j (cf s)=0 then aY rt j (bB j (cf s)) else aY rt j (cf s)*aY rt j (bo rt j (cf s))
   have ht:=lg rt j (cf (rt.getD j []));generalize aY rt j (cf (rt.getD j []))=D at hpj ht;unfold xa at ht;rcases ht with rfl | rfl | rfl
   · rw[if_pos rfl,Int.mul_zero,if_pos (.inr rfl)]
   · rw[Int.mul_one,if_neg (show ¬(1:Int)=0 by decide)]
   · omega
end Lift
namespace Lift
open Go Go.Proofs
structure jv (m:Nat) (v:List NQ):Prop where
 l5:v.length≤5
 ro:cK v
 sz:dh m v
 ps: ∀k,k<v.length→ ¬ed k (v.take k) (v.getD k [])<0
 m2:m≤1000000
 t: ∃m0,1≤m0∧m0≤m∧dh m0 v∧pG v.length m0
theorem jv.m1{m:Nat}{v:List NQ}(V:jv m v):1≤m:=by
 obtain ⟨m0,h1,h2,_⟩:=V.t;omega
theorem jv.mono{m k:Nat}{v:List NQ}(V:jv m v)(h:m≤k)(hk:k≤1000000):jv k v:=by
 obtain ⟨m0,h1,h2,h3,h4⟩:=V.t;exact⟨V.l5,V.ro,V.sz.mono h,V.ps,hk,m0,h1,by omega,h3,h4⟩
theorem jv.of{m:Nat}{rt:List (List RD)}(T:pD m rt)(h:dD rt=0):jv m (rt.map ay):=by
 have W:=su T h;exact⟨by rw[W.ln];exact W.l5,W.ro,W.sz,W.ps,T.m2,by rw[W.ln];exact W.t⟩
def iI(a:NQ):List RD:=a.map Qr
theorem jd(a:NQ):ay (iI a)=a:=by
 unfold ay iI;rw[List.map_map];have:(RD.val ∘ Qr)=id:=funext da;rw[this,List.map_id]
theorem lW(a:NQ):bG (iI a)=ao a:=by
 show D.sl 3 ((a.map Qr).map RD.D)=D.sl 3 (List.map _ a);rw[List.map_map];rfl
theorem lu(a:NQ):(iI a).length=a.length:=ah ..
theorem yF{a:NQ}{k:Nat}(h:aB k a):wN k (iI a):=fun i hi=>by
 rw[lu] at hi;unfold iI;rw[aN,List.getElem?_map,b9 hi];have:=h i;rw[aN,b9 hi] at this;exact ir _ this
theorem mX{a:NQ}{l:Nat}(h:au l a):bY l (iI a)=0:=by
 unfold bY;rw[lu]
 have h1: ¬(a.length≠0∧Cy l a.length=false):=fun hs=>by
  rcases h with e | ⟨i,hi,e⟩
  · exact hs.1 e
  · rw[e,zg,aO hi] at hs;exact Bool.noConfusion hs.2
 have h2:kM (iI a)=true:=by
  unfold kM iI;rw[List.all_map,List.all_eq_true];exact fun q _=>BD q
 rw[if_neg h1,if_neg (by rw[h2];simp)]
def om(v:List NQ):List (List RD):=v.map iI
theorem fv(v:List NQ):(om v).length=v.length:=ah ..
theorem p8(v:List NQ)(i:Nat):(om v).getD i []=iI (v.getD i []):=by
 unfold om;rw[aN,List.getElem?_map,aN];cases v[i]? with
 | none=>rfl
 | some x=>rfl
theorem Ay(v:List NQ):(om v).map ay=v:=by
 unfold om;rw[List.map_map];have:(ay ∘ iI)=id:=funext jd;rw[this,List.map_id]
theorem uK(v:List NQ):wm (om v)=iF v:=by
 show D.ag [.sl 1 ((v.map iI).map bG)]=D.ag [.sl 1 (v.map ao)];rw[List.map_map];have:(bG ∘ iI)=ao:=funext lW;rw[this]
theorem mf{f:Nat→Nat}: ∀{n i:Nat},(∀j,j<i+n→f j=0)→fE f n i=0
 | 0,i,h=>rfl
 | n+1,i,h=>by
   rw[fE,if_pos (h i (by omega))];exact mf (fun j hj=>h j (by omega))
theorem jv.raw{m:Nat}{v:List NQ}(V:jv m v):pD m (om v)∧dD (om v)=0:=by
 have l5:=V.l5;have hp: ∀i,i<v.length→2^i≤2^5:=fun i hi=>Nat.pow_le_pow_right (by decide) (by omega);obtain ⟨m0,t1,t2,ts,tk⟩:=V.t
 refine⟨⟨⟨m0,t1,t2,fun i hi _=>by rw[p8];exact yF (ts i),fun _=>by rw[fv];exact tk⟩,V.m2,by rw[fv];omega,fun i hi=>by
  rw[fv] at hi;rw[p8,lu,V.ro i hi];have:=hp i hi
  omega⟩,?_⟩
 unfold dD;rw[fv,if_neg (by omega)];refine mf fun j hj=>?_;have hj:j<v.length:=by omega
 unfold wk;rw[p8,lu,if_neg (fun h=>h (V.ro j hj)),if_neg (fun h=>h (mX (.inr ⟨j,ai _,V.ro j hj⟩))),jd,List.map_take,Ay,if_neg (V.ps j hj)]
theorem lX{m:Nat}{v:List NQ}{a:NQ}(V:jv m v)(ha:au v.length a)(sa:aB m a):kz m (om v) (iI a):=⟨fun _=>yF sa,by
 have l5:=V.l5;rw[lu]
 exact Nat.le_trans (ha.len (by omega)) (by decide)⟩
theorem ck1{m:Nat}{v:List NQ}{a:NQ}(V:jv m v)(ha:au v.length a):kt (om v) [iI a]=0:=by
 unfold kt;rw[if_neg (by rw[V.raw.2];simp)];refine mf fun j hj=>?_;have hj:j<0+1:=hj;obtain rfl:j=0:=by omega
 rw[fv];exact mX ha
theorem Ng{m:Nat}{v:List NQ}{a b:NQ}(V:jv m v)(ha:au v.length a)(hb:au v.length b):kt (om v) [iI a,iI b]=0:=by
 unfold kt;rw[if_neg (by rw[V.raw.2];simp)];refine mf fun j hj=>?_;have hj:j<0+2:=hj;rw[fv]
 match j,hj with
 | 0,_=>exact mX ha
 | 1,_=>exact mX hb
def kn(a:NQ):NQ:=aA (aZ a)
def v5(a b:NQ):NQ:=aA (aX a b)
def gm(a b:NQ):NQ:=aA (aX a (aZ b))
def fN(v:List NQ)(a b:NQ):NQ:=aA (aU v.length v a b)
theorem wz{m:Nat}{v:List NQ}{a b:NQ}(V:jv m v)(ha:au v.length a)(sa:aB m a)(hb:au v.length b)(sb:aB m b):Pure Tryz.prog 21 [iF v,ao a,ao b] (.tu [ao (v5 a b),aR]):=by
 have h:=yl V.raw.1 (lX V ha sa) (lX V hb sb);unfold yQ at h;rw[if_neg (by rw[Ng V ha hb];simp),uK,lW,lW,jd,jd] at h;exact h
theorem wu{m:Nat}{v:List NQ}{a b:NQ}(V:jv m v)(ha:au v.length a)(sa:aB m a)(hb:au v.length b)(sb:aB m b):Pure Tryz.prog 105 [iF v,ao a,ao b] (.tu [ao (gm a b),aR]):=by
 have h:=yh V.raw.1 (lX V ha sa) (lX V hb sb);unfold yQ at h;rw[if_neg (by rw[Ng V ha hb];simp),uK,lW,lW,jd,jd] at h;exact h
theorem wv{m:Nat}{v:List NQ}{a b:NQ}(hsT:sT v.length m≤17300000000000)(V:jv m v)(ha:au v.length a)(sa:aB m a)(hb:au v.length b)(sb:aB m b):Pure Tryz.prog 106 [iF v,ao a,ao b] (.tu [ao (fN v a b),aR]):=by
 have h:=yk (by rw[fv];exact hsT) V.raw.1 (lX V ha sa) (lX V hb sb);unfold yQ at h;rw[if_neg (by rw[Ng V ha hb];simp),uK,lW,lW,jd,jd,fv,Ay] at h;exact h
theorem IM{l k:Nat}{a:NQ}(ha:au l a)(sa:aB k a):au l (kn a)∧aB k (kn a):=bd ha.minus sa.minus
theorem ud{l k j:Nat}{a b:NQ}(ha:au l a)(sa:aB k a)(hb:au l b)(sb:aB j b):au l (v5 a b)∧aB (k+j+1) (v5 a b):=bd (ha.plus hb) (sa.plus sb)
theorem kE{l k j:Nat}{a b:NQ}(ha:au l a)(sa:aB k a)(hb:au l b)(sb:aB j b):au l (gm a b)∧aB (k+j+1) (gm a b):=bd (ha.plus hb.minus) (sa.plus sb.minus)
theorem gi{m:Nat}{v:List NQ}{a b:NQ}(V:jv m v)(ha:au v.length a)(sa:aB m a)(hb:au v.length b)(sb:aB m b):au v.length (fN v a b)∧aB (sT v.length m) (fN v a b):=by
 have h:=dp v.length ha hb V.ro (ai _) sa sb V.sz;exact bd h.1 h.2
theorem kU(l:Nat){q:Rat}{k:Nat}(h:LQ q≤k):au l (rF q)∧aB k (rF q):=by
 unfold rF;split
 · exact⟨cy _,cG (Nat.le_trans (zV _) h)⟩
 · exact⟨eW _ _,fX h⟩
theorem jv.pos{m:Nat}{v:List NQ}(V:jv m v):oO v:=fun j hj=>by
 have h:=V.ps j hj
 have e: ∀i,i<j→(v.take j).getD i []=v.getD i []:=fun i hi=>by
  rw[aN,List.getElem?_take_of_lt hi,aN]
 have ro:cK (v.take j):=fun i hi=>by
  rw[bg] at hi;rw[e i (by omega)];exact V.ro i (by omega)
 have lt:au j (v.getD j []):= .inr ⟨j,ai _,V.ro j hj⟩;rw[dK j lt ro (by rw[bg];omega)] at h
 have key: ∀(l:Nat) (a:Cf),l≤j→aY (v.take j) l a=aY v l a∧ ∀b:Cf,mulC (v.take j) l a b=mulC v l a b:=by
  intro l
  induction l with
  | zero=>exact fun a _=>⟨rfl,fun b=>rfl⟩
  | succ l ih =>
    intro a hl;have hm: ∀x y:Cf,mulC (v.take j) l x y=mulC v l x y:=fun x y=>(ih x (by omega)).2 y;have hs: ∀x:Cf,aY (v.take j) l x=aY v l x:=fun x=>(ih x (by omega)).1;refine⟨?_,fun b=>?_⟩
    · unfold aY bo;simp only[hm,hs,e l (by omega)]
    · funext i;show (if i<2^l then mulC (v.take j) l a b i+mulC (v.take j) l (mulC (v.take j) l (bB l a) (bB l b)) (cf ((v.take j).getD l [])) i else mulC (v.take j) l a (bB l b) (i-2^l)+mulC (v.take j) l (bB l a) b (i-2^l))=_;simp only[hm,e l (by omega)];rfl
 rw[(key j _ (ai _)).1] at h;omega
end Lift
namespace Lift
open Go
open Go.RowKit (Below)
section
variable {P:Program} {T:Ty} {B:Nat} {F0:Nat→Prop} {w0:cU} {n d:Nat} {o:Oper} {σ:St} {K:St→Prop} {all:Array Oper} {rest:List Oper} {lk hm:Nat→Option AV}
end
end Lift
namespace Lift
open Go
open Go.RowKit (Below)
section
variable {P:Program} {T:Ty} {B:Nat} {F0:Nat→Prop} {w0:cU} {n:Nat} {σ τ σ0:St} {ops all:Array Oper} {l rest:List Oper} {o:Oper} {d:Nat} {lk hm:Nat→Option AV} {K:St→Prop} {ds:List Nat}
end
end Lift
namespace Lift
open Go
open Go.RowKit (Below)
section
variable {P:Program} {T:Ty} {B:Nat} {F0:Nat→Prop} {w0:cU} {n:Nat} {σ:St} {all:Array Oper} {rest:List Oper} {o1 o2:Oper} {K:St→Prop}
theorem Ao{w:World}{b:Nat}{cs:Array Value}{e:TypeId}(hb:w.heap[b]?=some (.cells cs e (0,0))):w.setRow b cs=w:=by
 have h1:=setRow_heap w b cs cs e (0,0) hb
 have hh:(w.setRow b cs).heap=w.heap:=by
  refine Array.ext_getElem? fun i=>?_;by_cases hi:i=b
  · subst hi;rw[h1,hb]
  · exact setRow_other w b i cs hi
 have:w.setRow b cs={w with heap:=(w.setRow b cs).heap}:=rfl;rw[this,hh]
theorem ae.Kk(hT:bF P T){d1 d2 off size f s t:Nat}{x:Operand}{cs:List D}{c:Value}{i j:TI}{g:Bool}
  (h1d:o1.dst=some d1) (h1:o1.op= .fieldAddr s x f) (h1g:o1.guard=none) (hdn:Nat.ble (d1+1) n=true)
  (h2d:o2.dst=none) (h2:o2.op= .store t (.tmp d1) (.tmp d2)) (h2g:o2.guard=none) (hne:Nat.beq d2 d1=false)
  (hi:T.get s=some i) (hf:rW i f=some (off,size,g)) (hj:T.get t=some j) (hj1:j.size=1)
  (hx:ex T σ.get 0 x=some (.d (.pr cs))) (hc:cs[off]?=some (.v c)) (hyv:dv T (ex T σ.get t (.tmp d2))=some (.v c))
  (h:ae P B F0 w0 n all rest K ((d1,.rf (cs.drop off))::σ)):ae P B F0 w0 n all (o1::o2::rest) K σ:=by
 intro a w hR Q hQ;obtain ⟨O,hOr,hO⟩:=hR.own;have hI:=hR.inv hOr hO (fun _=>True) d1;have hr:Rd w (aP O (FW B F0 w)) (.pr cs) (a.eval x):=(a6 hI (fun _ _=>trivial) hx d1).1;obtain ⟨b,arr,e,hv,hF,hb,hel⟩:=Rd.Kx hr;obtain ⟨_,u,hu,hru⟩:=hel off (.v c) hc;obtain rfl:=(Rd.j8 hru).1;have hyd:=dQ hT hI (fun _ _=>trivial) hyv;have hye:=(Rd.j8 hyd).1;obtain ⟨info,dd,z,hok⟩:=hT s i hi;obtain ⟨info',dd',z',hok'⟩:=hT t j hj;obtain ⟨fs,fl,jj,dd2,g1,g2,g3,g4,g5,g6,g7,g8⟩:=me hok hf;have hdn:=Nat.le_of_ble_eq_true hdn;have hne:d2≠d1:=fun e=>by subst e;rw[Nat.beq_refl] at hne;cases hne
 unfold wpList;rw[if_pos (by simp[Region.wanted,h1g])];refine .inl ?_;refine bc (v:= .pointer (some ⟨b,off,none⟩)) (w':=w) ?_ ?_
 · obtain ⟨dst,op,ty,pos,after,guard⟩:=o1;simp only[] at h1;subst h1;have hs:jj.size≠0:=by omega
   simp[execOp,Instr.fieldAt,run_underlying g1,g2,hv,Instr.sureAddr,fieldPlace,Go.sizeOf,typeInfo,g4,hs,g3,Addr.add_lit]
 · have hR':Rel P B F0 w0 n ((d1,.rf (cs.drop off))::σ) (a.put (some d1) (.pointer (some ⟨b,off,none⟩))) w :=
    hR.put (av:= .rf (cs.drop off)) hOr hO hdn (dk.refl (fun b t hb=>(hOr b t hb).2)) ⟨b,off,arr,e,(0,0),rfl,hF,hb,fun k y hy=>by
      rw[List.getElem?_drop] at hy
      exact hel _ y hy⟩
   rw[h1d];unfold wpList;rw[if_pos (by simp[Region.wanted,h2g])];refine .inl ?_
   have e1:(a.put (some d1) (.pointer (some ⟨b,off,none⟩))).eval (.tmp d1)= .pointer (some ⟨b,off,none⟩):=by
    exact gf (eM (a:=a) (d:=d1) (v:= .pointer (some ⟨b,off,none⟩)) (by rw[hR.size];exact hdn))
   have e2:(a.put (some d1) (.pointer (some ⟨b,off,none⟩))).eval (.tmp d2)=u:=by
    have h3:=dC (a:=a) (d:=d1) (v:= .pointer (some ⟨b,off,none⟩)) hne;have h4:a.eval (.tmp d2)=(a.tmps[d2]?).getD undef:=by simp[Act.eval]
    have h5:(a.put (some d1) (.pointer (some ⟨b,off,none⟩))).eval (.tmp d2)=(((a.put (some d1) (.pointer (some ⟨b,off,none⟩))).tmps)[d2]?).getD undef:=by simp[Act.eval]
    rw[h5,h3,← h4];exact hye
   have hcl:u.cells= #[u]:=by
    have:=(Rd.j8 hru).2;cases u<;>simp_all [Value.cells,eC]
   have hrun:=lU hok' hb (v:=u) (off:=off) (by rw[hcl,hj1];rfl) (by rw[hcl];have:=(Array.getElem?_eq_some_iff.1 hu).1;show off+1≤_;omega) (fun y hy=>by
    rw[hcl] at hy;have hy:y=u:=by simpa using hy
    rw[hy];have:=(Rd.j8 hru).2
    cases u<;>simp_all [eC,Value.oneCell'])
   have hsame:(arr.toList.take off++u.cells.toList++arr.toList.drop (off+u.cells.size)).toArray=arr:=by
    rw[hcl];have hlt:=(Array.getElem?_eq_some_iff.1 hu).1;apply Array.ext';have hu2:arr.toList[off]?=some u:=by simpa using hu
    have:arr.toList=arr.toList.take off++(u::arr.toList.drop (off+1)):=by
     conv=>lhs;rw[← List.take_append_drop off arr.toList]
     congr 1
     rw[List.drop_eq_getElem_cons (by simpa using hlt)]
     congr 1
     exact(List.getElem?_eq_some_iff.1 hu2).2
    show arr.toList.take off++[u]++arr.toList.drop (off+1)=arr.toList;rw[List.append_assoc];exact this.symm
   rw[hsame,Ao hb] at hrun;refine um (w':=w) ?_ ?_
   · obtain ⟨dst,op,ty,pos,after,guard⟩:=o2;simp only[] at h2;subst h2;simp only[execOp,Instr.storeAt,Instr.sureAddr,Sem.run_bind,e1,e2,Sem.run_pure,Result.andThen_ok,hrun]
   · rw[h2d,uW];exact h _ _ hR' Q hQ
end
end Lift
namespace Lift
open Go Go.Proofs
theorem gK(i:Int)(n:Nat):Pure Tryz.prog 100 [dI i,dI n] (dB (ji i n)):=by
 refine qJ 12 Tryz.func100 rfl rfl rfl rfl (by kernel_rfl) (fun B F0 w0=>?_);refine qX 1 rfl ?_;refine qK 2 rfl ?_;refine ae.split (t:=6) rfl (fun h=>?_) (fun h=>?_)
 · have h1:=aq h;refine qU 6 rfl ?_;refine ae.nil ?_;rw[show ji i n=decide (i<n) by unfold ji;rw[decide_eq_decide];omega];exact AW.ret rfl
 · have h1:=ar h;refine qU 6 rfl ?_;refine ae.nil ?_;rw[show ji i n=false by unfold ji;rw[decide_eq_false_iff_not];omega];exact AW.ret rfl
set_option maxHeartbeats 1600000 in
theorem tc(bs:List Body){K:Nat}(hn:bs.length≤big)(hb: ∀i,(bs.getD i default).ok K)(hK:K≤50000000):Pure Tryz.prog 52 [aJ bs] (vC (bL bs)):=by
 refine qJ 85 Tryz.func52 rfl rfl rfl rfl (by kernel_rfl) (fun B F0 w0=>?_);unfold big at hn;refine qX 1 rfl ?_;refine qI (qX 3 rfl ?_);rw[ah];refine ae.nil ?_;refine AW.block ?_
 refine AW.aL [0,11,12,13] (fun i:Nat=>[(0,.d (aJ bs)),(11,.d (aJ bs)),(12,.d (dI bs.length)),(13,.d (dI i))])
  (fun i=>i≤bs.length∧bL bs=fE (fR bs) (bs.length-i) i) (fun i=>bs.length-i) 0 rfl ⟨Nat.zero_le _,rfl⟩ (fun i ⟨hi,hE⟩=>?_)
 refine qX 1 rfl ?_;refine qI ?_;refine AW.cond rfl (fun h=>?_) (fun h=>?_)
 · have hin:i<bs.length:=by have:=aq h;omega
   obtain ⟨bok1,bok2,bok3⟩:=hb i;have hbE:fR bs i≠0→bL bs=fR bs i:=fun h0=>hE.trans (eQ hin h0);have hbM:fR bs i=0→bL bs=fE (fR bs) (bs.length-(i+1)) (i+1):=fun h0=>hE.trans (cZ hin h0);obtain ⟨b,hbe⟩: ∃b,b=bs.getD i default:=⟨_,rfl⟩;rw[← hbe] at bok1 bok2 bok3;unfold big at bok1 bok2;have hdup:CY bs i=eU (fun k=>decide ((bs.getD k default).nm=b.nm)) i 0:=by rw[hbe];rfl
   have hbd:fR bs i=if dc b.nm=false then 5 else if CY bs i=true then 6 else rB b.pts:=by rw[hbe];rfl
   refine AW.skip (AW.seq (AW.block ?_));refine qX 1 rfl ?_;refine ae.idx tok b.D rfl rfl rfl rfl (aj i) (by rw[hbe];exact getM Body.D hin) ?_;refine qU 4 rfl ?_;refine qI (qX 2 rfl ?_);refine ae.call tok rfl rfl rfl rfl (fW b.nm bok1) ?_;refine qU 1 rfl ?_;refine ae.nil ?_;refine AW.cond rfl (fun h=>?_) (fun h=>?_)
   · have hnm:dc b.nm=false:=by simpa using h
     have h5:fR bs i=5:=by rw[hbd,hnm];rfl
     rw[show bL bs=5 by rw[hbE (by omega),h5]];refine qX 2 rfl ?_;exact qN rfl
   · have hnm:dc b.nm=true:=by simpa using h
     rw[hnm,if_neg (by decide)] at hbd;refine AW.skip (AW.seq ?_);refine qX 2 rfl ?_;refine ae.B7 tok rfl rfl rfl rfl trivial (aj i) (Nat.zero_le _) (by show i≤_;rw[ah];omega) ?_;refine qU 2 rfl ?_;rw[uE (by rw[ah];omega)];refine ae.nil ?_;refine AW.block ?_
     refine AW.aL [0,3,4,11,12,13,25,26,27] (fun k:Nat=>[(0,.d (aJ bs)),(3,.d (dI i)),(4,.bx [dS b.nm,pE b.pts]),(11,.d (aJ bs)),(12,.d (dI bs.length)),(13,.d (dI i)),(25,.d (.sl 2 ((bs.map Body.D).take i))),(26,.d (dI i)),(27,.d (dI k))])
      (fun k=>k≤i∧CY bs i=eU (fun k=>decide ((bs.getD k default).nm=b.nm)) (i-k) k) (fun k=>i-k) 0 rfl ⟨Nat.zero_le _,hdup⟩ (fun k ⟨hk,hD⟩=>?_)
     refine qX 1 rfl ?_;refine qI ?_;refine AW.cond rfl (fun h=>?_) (fun h=>?_)
     · have hki:k<i:=by have:=aq h;omega
       refine AW.skip (AW.seq (AW.block (AW.seq (AW.region ?_))));refine ae.idx tok (bs.getD k default).D rfl rfl rfl rfl (aj k) (G7 Body.D (by omega) hki) ?_;refine qU 3 rfl ?_;refine qK 5 rfl ?_;rw[lT];refine ae.nil ?_;refine AW.cond rfl (fun h=>?_) (fun h=>?_)
       · have h6:fR bs i=6:=by rw[hbd,hD.trans (fG hki h)];rfl
         rw[show bL bs=6 by rw[hbE (by omega),h6]];refine qX 2 rfl ?_;exact qN rfl
       · refine AW.skip (qT 2 rfl ?_);rw[aG (x:=(k:Int)+1) (by omega) (by omega)];refine ae.nil ?_;exact⟨k+1,rfl,⟨hki,hD.trans (eI hki h)⟩,by omega⟩
     · have hki: ¬k<i:=by have:=ar h;omega
       rw[hD.trans (fH hki),if_neg (by decide)] at hbd;refine AW.exit (AW.seq ?_);refine qX 4 rfl ?_;rw[ah];refine ae.nil ?_;refine AW.cond rfl (fun h=>?_) (fun h=>?_)
       · have h8:8<b.pts.length:=by have:=aq h;omega
         have h4:fR bs i=4:=by rw[hbd,rB,if_pos h8]
         rw[show bL bs=4 by rw[hbE (by omega),h4]];refine qX 2 rfl ?_;exact qN rfl
       · have h8: ¬8<b.pts.length:=by have:=ar h;omega
         rw[rB,if_neg h8] at hbd;refine AW.skip (qX 4 rfl ?_);rw[ah];refine ae.nil ?_;refine AW.block ?_
         refine AW.aL [0,4,11,12,13,44,45,46] (fun p:Nat=>[(0,.d (aJ bs)),(4,.bx [dS b.nm,pE b.pts]),(11,.d (aJ bs)),(12,.d (dI bs.length)),(13,.d (dI i)),(44,.d (pE b.pts)),(45,.d (dI b.pts.length)),(46,.d (dI p))])
          (fun p=>p≤b.pts.length∧fR bs i=fE (tO b.pts) (b.pts.length-p) p) (fun p=>b.pts.length-p) 0 rfl ⟨Nat.zero_le _,hbd⟩ (fun p ⟨hp,hP⟩=>?_)
         refine qX 1 rfl ?_;refine qI ?_;refine AW.cond rfl (fun h=>?_) (fun h=>?_)
         · have hpn:p<b.pts.length:=by have:=aq h;omega
           obtain ⟨mok1,mok2,mok3⟩:=bok3 p
           have hpE:tO b.pts p≠0→bL bs=tO b.pts p:=fun h0=>by
            have:=hP.trans (eQ hpn h0);rw[hbE (by omega),this]
           have hpM:tO b.pts p=0→fR bs i=fE (tO b.pts) (b.pts.length-(p+1)) (p+1):=fun h0=>hP.trans (cZ hpn h0);obtain ⟨m,hm⟩: ∃m,m=b.pts.getD p default:=⟨_,rfl⟩;rw[← hm] at mok1 mok2 mok3;unfold big at mok1;have hdup2:CW b.pts p=eU (fun k=>decide ((b.pts.getD k default).nm=m.nm)) p 0:=by rw[hm];rfl
           have hpd:tO b.pts p=if dc m.nm=false then 5 else if CW b.pts p=true then 6 else if m.x.okB=true∧m.y.okB=true then 0 else 3:=by rw[hm];rfl
           refine AW.skip (AW.seq (AW.block ?_));refine qX 1 rfl ?_;refine ae.idx tok m.D rfl rfl rfl rfl (aj p) (by rw[hm];exact getM Mark.D hpn) ?_;refine qU 4 rfl ?_;refine qI (qX 2 rfl ?_);refine ae.call tok rfl rfl rfl rfl (fW m.nm mok1) ?_;refine qU 1 rfl ?_;refine ae.nil ?_;refine AW.cond rfl (fun h=>?_) (fun h=>?_)
           · have hnm2:dc m.nm=false:=by simpa using h
             have h5:tO b.pts p=5:=by rw[hpd,hnm2];rfl
             rw[show bL bs=5 by rw[hpE (by omega),h5]];refine qX 2 rfl ?_;exact qN rfl
           · have hnm2:dc m.nm=true:=by simpa using h
             rw[hnm2,if_neg (by decide)] at hpd;refine AW.skip (AW.seq ?_);refine qX 3 rfl ?_;refine ae.B7 tok rfl rfl rfl rfl trivial (aj p) (Nat.zero_le _) (by show p≤_;rw[ah];omega) ?_;refine qU 2 rfl ?_;rw[uE (by rw[ah];omega)];refine ae.nil ?_;refine AW.block ?_
             refine AW.aL [0,4,8,11,12,13,44,45,46,59,60,61] (fun k:Nat=>[(0,.d (aJ bs)),(4,.bx [dS b.nm,pE b.pts]),(8,.bx [dS m.nm,dB m.x.g,Wd m.x.n,Wd m.x.d,dB m.y.g,Wd m.y.n,Wd m.y.d]),(11,.d (aJ bs)),(12,.d (dI bs.length)),(13,.d (dI i)),(44,.d (pE b.pts)),(45,.d (dI b.pts.length)),(46,.d (dI p)),(59,.d (.sl 7 ((b.pts.map Mark.D).take p))),(60,.d (dI p)),(61,.d (dI k))])
              (fun k=>k≤p∧CW b.pts p=eU (fun k=>decide ((b.pts.getD k default).nm=m.nm)) (p-k) k) (fun k=>p-k) 0 rfl ⟨Nat.zero_le _,hdup2⟩ (fun k ⟨hk,hD2⟩=>?_)
             refine qX 1 rfl ?_;refine qI ?_;refine AW.cond rfl (fun h=>?_) (fun h=>?_)
             · have hkp:k<p:=by have:=aq h;omega
               refine AW.skip (AW.seq (AW.block (AW.seq (AW.region ?_))));refine ae.idx tok (b.pts.getD k default).D rfl rfl rfl rfl (aj k) (G7 Mark.D (by omega) hkp) ?_;refine qU 3 rfl ?_;refine qK 5 rfl ?_;rw[lT];refine ae.nil ?_;refine AW.cond rfl (fun h=>?_) (fun h=>?_)
               · have h6:tO b.pts p=6:=by rw[hpd,hD2.trans (fG hkp h)];rfl
                 rw[show bL bs=6 by rw[hpE (by omega),h6]];refine qX 2 rfl ?_;exact qN rfl
               · refine AW.skip (qT 2 rfl ?_);rw[aG (x:=(k:Int)+1) (by omega) (by omega)];refine ae.nil ?_;exact⟨k+1,rfl,⟨hkp,hD2.trans (eI hkp h)⟩,by omega⟩
             · have hkp: ¬k<p:=by have:=ar h;omega
               rw[hD2.trans (fH hkp),if_neg (by decide)] at hpd;refine AW.exit ?_;refine AW.cut [0,4,11,12,13,44,45,46,81] (fun _:Unit=>[(0,.d (aJ bs)),(4,.bx [dS b.nm,pE b.pts]),(11,.d (aJ bs)),(12,.d (dI bs.length)),(13,.d (dI i)),(44,.d (pE b.pts)),(45,.d (dI b.pts.length)),(46,.d (dI p)),(81,.d (dB (!decide (m.x.okB=true∧m.y.okB=true))))]) (fun _=>True) ?_ (fun _ _=>?_)
               · refine qT 2 rfl ?_;refine ae.call tok rfl rfl rfl rfl (fm m.x mok2 (by omega)) ?_;refine ae.split (t:=74) rfl (fun h=>?_) (fun h=>?_)
                 · refine qU 4 rfl ?_;refine ae.call tok rfl rfl rfl rfl (fm m.y mok3 (by omega)) ?_;refine qU 2 rfl ?_;refine ae.nil ?_;exact⟨(),by rw[show decide (m.x.okB=true∧m.y.okB=true)=m.y.okB by simp[h]];rfl,trivial⟩
                 · refine qU 7 rfl ?_;refine ae.nil ?_;exact⟨(),by rw[show decide (m.x.okB=true∧m.y.okB=true)=false by simp[h]];rfl,trivial⟩
               refine AW.cond rfl (fun h=>?_) (fun h=>?_)
               · have hno: ¬(m.x.okB=true∧m.y.okB=true):=fun e=>by rw[aO e] at h;cases h
                 have h3:tO b.pts p=3:=by rw[hpd,if_neg hno]
                 rw[show bL bs=3 by rw[hpE (by omega),h3]];refine qX 2 rfl ?_;exact qN rfl
               · have hyes:m.x.okB=true∧m.y.okB=true:=by simpa using h
                 rw[if_pos hyes] at hpd;refine AW.skip (qT 2 rfl ?_);rw[aG (x:=(p:Int)+1) (by omega) (by omega)];refine ae.nil ?_;exact⟨p+1,rfl,⟨hpn,hpM hpd⟩,by omega⟩
         · have hpn: ¬p<b.pts.length:=by have:=ar h;omega
           have h0:fR bs i=0:=hP.trans (eS hpn);refine AW.exit ?_;refine qT 2 rfl ?_;rw[aG (x:=(i:Int)+1) (by omega) (by omega)];refine ae.nil ?_;exact⟨i+1,rfl,⟨hin,hbM h0⟩,by omega⟩
 · have hin: ¬i<bs.length:=by have:=ar h;omega
   rw[hE,eS hin];refine AW.exit ?_;refine qX 1 rfl ?_;exact qN rfl
end Lift
namespace Lift
open Go Go.Proofs
theorem oc(a b:Rat):(zK a b==0)=decide (a=b):=by
 unfold zK;by_cases h:a<b
 · rw[if_pos h];have hne:a≠b:=fun e=>by rw[e] at h;exact absurd h Rat.lt_irrefl
   rw[ba hne];rfl
 · rw[if_neg h];by_cases he:a=b
   · rw[if_pos he,aO he];rfl
   · rw[if_neg he,ba he];rfl
theorem kl{b:Bool}(h:(!b)=true):b=false:=by cases b<;>simp_all
theorem sN{i:Int}{n:Nat}(h:ji i n=true):0≤i∧i.toNat<n:=by
 have:=aq h;omega
set_option maxHeartbeats 1600000 in
theorem vk(l:Lkg)(j:bm){K:Nat}(hl:l.ok K)(hK:K≤20000000):Pure Tryz.prog 99 [l.D,j.D] (vC (jE l.bodies j)):=by
 refine qJ 107 Tryz.func99 rfl rfl rfl rfl (by kernel_rfl) (fun B F0 w0=>?_);obtain ⟨ln,bs,js,ds⟩:=l;have hb:=hl.b;simp only[] at hb ⊢;obtain ⟨nm,kind,a,pt,b,on,to⟩:=j
 have hj:jE bs ⟨nm,kind,a,pt,b,on,to⟩=if kind≠0∧kind≠1 then 7 else if (ji a bs.length&&ji b bs.length)=false then 9 else if a=b then 13 else
  if (ji pt (bs.getD a.toNat default).pts.length&&ji on (bs.getD b.toNat default).pts.length)=false then 9 else
  if kind=0 then (if to=0 then 0 else 2) else if ji to (bs.getD b.toNat default).pts.length=false then 9 else
  if lp ((bs.getD b.toNat default).pts.getD on.toNat default) ((bs.getD b.toNat default).pts.getD to.toNat default)=true then 8 else 0:=rfl
 generalize jE bs ⟨nm,kind,a,pt,b,on,to⟩=E at *;refine qX 3 rfl ?_;refine qI ?_;refine AW.cut [2,3,15] (fun _:Unit=>[(2,.bx [dS ln,aJ bs,aH js,aI ds]),(3,.bx [dS nm,dI kind,dI a,dI pt,dI b,dI on,dI to]),(15,.d (dB (decide (kind≠0∧kind≠1))))]) (fun _=>True) ?_ (fun _ _=>?_)
 · refine qT 3 rfl ?_;refine ae.split (t:=10) rfl (fun h=>?_) (fun h=>?_)
   · have h1:kind≠0:=by simpa using h
     refine qU 5 rfl ?_;refine ae.nil ?_;exact⟨(),by rw[show decide (kind≠0∧kind≠1)=(kind != 1) by rw[Bool.eq_iff_iff];simp[h1]];rfl,trivial⟩
   · have h1:kind=0:=by simpa using h
     refine qU 5 rfl ?_;refine ae.nil ?_;exact⟨(),by rw[show decide (kind≠0∧kind≠1)=false by simp[h1]];rfl,trivial⟩
 refine AW.cond rfl (fun h=>?_) (fun h=>?_)
 · rw[if_pos (aq h)] at hj;rw[hj];refine qX 2 rfl ?_;exact qN rfl
 rw[if_neg (ar h)] at hj;refine AW.skip (AW.seq ?_);refine AW.cut [2,3,32] (fun _:Unit=>[(2,.bx [dS ln,aJ bs,aH js,aI ds]),(3,.bx [dS nm,dI kind,dI a,dI pt,dI b,dI on,dI to]),(32,.d (dB (!(ji a bs.length&&ji b bs.length))))]) (fun _=>True) ?_ (fun _ _=>?_)
 · refine qT 5 rfl ?_;rw[ah];refine ae.call tok rfl rfl rfl rfl (gK a bs.length) ?_;refine ae.split (t:=22) rfl (fun h=>?_) (fun h=>?_)
   · refine qU 7 rfl ?_;rw[ah];refine ae.call tok rfl rfl rfl rfl (gK b bs.length) ?_;refine qU 2 rfl ?_;refine ae.nil ?_;exact⟨(),by rw[h];rfl,trivial⟩
   · refine qU 10 rfl ?_;refine ae.nil ?_;exact⟨(),by rw[h];rfl,trivial⟩
 refine AW.cond rfl (fun h=>?_) (fun h=>?_)
 · rw[if_pos (kl h)] at hj;rw[hj];refine qX 2 rfl ?_;exact qN rfl
 have hab:ji a bs.length=true∧ji b bs.length=true:=by simpa using h
 rw[if_neg (by simp[hab])] at hj;obtain ⟨ha0,ha1⟩:=sN hab.1;obtain ⟨hb0,hb1⟩:=sN hab.2;obtain ⟨Bb,hBb⟩: ∃x,x=bs.getD b.toNat default:=⟨_,rfl⟩;obtain ⟨Ba,hBa⟩: ∃x,x=bs.getD a.toNat default:=⟨_,rfl⟩;have okb:=hb b.toNat;rw[← hBb] at hj okb;rw[← hBa] at hj;refine AW.skip (AW.seq ?_);refine qX 5 rfl ?_;refine ae.nil ?_;refine AW.cond rfl (fun h=>?_) (fun h=>?_)
 · rw[if_pos (by simpa using h)] at hj;rw[hj];refine qX 2 rfl ?_;exact qN rfl
 rw[if_neg (by simpa using h)] at hj;refine AW.skip (qX 4 rfl ?_);refine ae.idx tok Bb.D rfl rfl rfl rfl hb0 (by rw[hBb];exact getM Body.D hb1) ?_;refine qU 3 rfl ?_;refine qI ?_;refine AW.cut [2,3,5,66] (fun _:Unit=>[(2,.bx [dS ln,aJ bs,aH js,aI ds]),(3,.bx [dS nm,dI kind,dI a,dI pt,dI b,dI on,dI to]),(5,.d (pE Bb.pts)),(66,.d (dB (!(ji pt Ba.pts.length&&ji on Bb.pts.length))))]) (fun _=>True) ?_ (fun _ _=>?_)
 · have c1:=gK pt Ba.pts.length;cases hq:ji pt Ba.pts.length with
   | true =>
     rw[hq] at c1;refine AW.draw aW 20 (by kernel_rfl) ?_;refine qP 6 rfl ?_;refine af.idx tok Ba.D rfl rfl rfl rfl rfl ha0 (by rw[hBa];exact getM Body.D ha1) ?_;refine qP 3 rfl ?_;rw[ah];refine af.call tok rfl rfl rfl rfl rfl c1 ?_;refine qP 6 rfl ?_;rw[ah];refine af.call tok rfl rfl rfl rfl rfl (gK on Bb.pts.length) ?_;refine qP 2 rfl ?_;refine af.nil ?_;refine ae.nil ?_;exact⟨(),rfl,trivial⟩
   | false =>
     rw[hq] at c1;refine AW.draw aW 20 (by kernel_rfl) ?_;refine qP 6 rfl ?_;refine af.idx tok Ba.D rfl rfl rfl rfl rfl ha0 (by rw[hBa];exact getM Body.D ha1) ?_;refine qP 3 rfl ?_;rw[ah];refine af.call tok rfl rfl rfl rfl rfl c1 ?_;refine qP 9 rfl ?_;refine af.nil ?_;refine ae.nil ?_;exact⟨(),rfl,trivial⟩
 refine AW.cond rfl (fun h=>?_) (fun h=>?_)
 · rw[if_pos (kl h)] at hj;rw[hj];refine qX 2 rfl ?_;exact qN rfl
 have hpo:ji pt Ba.pts.length=true∧ji on Bb.pts.length=true:=by simpa using h
 rw[if_neg (by simp[hpo])] at hj;obtain ⟨ho0,ho1⟩:=sN hpo.2;refine AW.skip (AW.seq ?_);refine qX 3 rfl ?_;refine ae.nil ?_;refine AW.cond rfl (fun h=>?_) (fun h=>?_)
 · rw[if_pos (by simpa using h)] at hj;refine AW.seq (qX 3 rfl ?_);refine ae.nil ?_;refine AW.cond rfl (fun h=>?_) (fun h=>?_)
   · rw[if_neg (by simpa using h)] at hj;rw[hj];refine qX 2 rfl ?_;exact qN rfl
   · rw[if_pos (by simpa using h)] at hj;rw[hj];refine AW.skip (qX 1 rfl ?_);exact qN rfl
 rw[if_neg (by simpa using h)] at hj;refine AW.skip (AW.seq ?_);refine qX 4 rfl ?_;rw[ah];refine ae.call tok rfl rfl rfl rfl (gK to Bb.pts.length) ?_;refine qU 1 rfl ?_;refine ae.nil ?_;refine AW.cond rfl (fun h=>?_) (fun h=>?_)
 · rw[if_pos (by simpa using h)] at hj;rw[hj];refine qX 2 rfl ?_;exact qN rfl
 have hto:ji to Bb.pts.length=true:=by simpa using h
 rw[if_neg (by simp[hto])] at hj;obtain ⟨ht0,ht1⟩:=sN hto;obtain ⟨p,hp⟩: ∃x,x=Bb.pts.getD on.toNat default:=⟨_,rfl⟩;obtain ⟨q,hq⟩: ∃x,x=Bb.pts.getD to.toNat default:=⟨_,rfl⟩;have okp:=okb.2.2 on.toNat;have okq:=okb.2.2 to.toNat;rw[← hp] at hj okp;rw[← hq] at hj okq;refine AW.skip (AW.seq ?_);refine AW.oK tok aW [(5,true),(5,false),(2,true)] 12 [6,7] (by kernel_rfl) ⟨rfl,?_⟩;refine qP 3 rfl ?_;refine af.idx tok p.D rfl rfl rfl rfl rfl ho0 (by rw[hp];exact getM Mark.D ho1) ?_;refine qP 1 rfl ?_;refine af.nil ⟨rfl,?_⟩;refine qP 3 rfl ?_;refine af.idx tok q.D rfl rfl rfl rfl rfl ht0 (by rw[hq];exact getM Mark.D ht1) ?_;refine qP 1 rfl ?_;refine af.nil ⟨rfl,?_⟩;refine qP 2 rfl ?_;refine af.nil ⟨_,oL.cons (.bx rfl) (oL.cons (.bx rfl) (oL.nil)),?_⟩;refine qI ?_;refine AW.cut [105] (fun _:Unit=>[(105,.d (dB (lp p q)))]) (fun _=>True) ?_ (fun _ _=>?_)
 · refine qT 4 rfl ?_;refine ae.call tok rfl rfl rfl rfl (mE p.x q.x okp.2.1 okq.2.1 (by omega)) ?_;refine qU 1 rfl ?_;rw[oc];refine ae.split (t:=97) rfl (fun h=>?_) (fun h=>?_)
   · have h1:=aq h;refine qU 5 rfl ?_;refine ae.call tok rfl rfl rfl rfl (mE p.y q.y okp.2.2 okq.2.2 (by omega)) ?_;refine qU 2 rfl ?_;rw[oc];refine ae.nil ?_;exact⟨(),by rw[show lp p q=decide (p.y.val=q.y.val) by unfold lp;simp[h1]];rfl,trivial⟩
   · have h1:=ar h;refine qU 8 rfl ?_;refine ae.nil ?_;exact⟨(),by rw[show lp p q=false by unfold lp;simp[h1]];rfl,trivial⟩
 refine AW.cond rfl (fun h=>?_) (fun h=>?_)
 · rw[if_pos h] at hj;rw[hj];refine qX 2 rfl ?_;exact qN rfl
 · rw[if_neg (by rw[h];decide)] at hj;rw[hj];refine AW.skip (qX 1 rfl ?_);exact qN rfl
end Lift
namespace Lift
open Go Go.Proofs
set_option maxHeartbeats 1600000 in
theorem s9(l:Lkg){K:Nat}(hl:l.ok K)(hK:K≤20000000):Pure Tryz.prog 53 [l.D] (vC (bA l.bodies l.joints)):=by
 refine qJ 49 Tryz.func53 rfl rfl rfl rfl (by kernel_rfl) (fun B F0 w0=>?_);have hjoint:=fun j=>vk l j hl hK;obtain ⟨ln,bs,js,ds⟩:=l;have hj:=hl.j;have hn:=hl.nj;simp only[] at hj hn hjoint ⊢;show AW _ _ _ _ _ _ _ (eF 0 [D.ag [dS ln,aJ bs,aH js,aI ds]]);unfold big at hn;refine qX 2 rfl ?_;refine qI (qX 4 rfl ?_);rw[ah];refine ae.nil ?_;refine AW.cond rfl (fun h=>?_) (fun h=>?_)
 · have h16:16<js.length:=by have:=aq h;omega
   rw[bA,if_pos h16];refine qX 2 rfl ?_;exact qN rfl
 have h16: ¬16<js.length:=by have:=ar h;omega
 rw[bA,if_neg h16];refine AW.skip (AW.seq ?_);refine qX 4 rfl ?_;rw[ah];refine ae.nil ?_;refine AW.block ?_
 refine AW.aL [1,14,15,16] (fun i:Nat=>[(1,.bx [dS ln,aJ bs,aH js,aI ds]),(14,.d (aH js)),(15,.d (dI js.length)),(16,.d (dI i))])
  (fun i=>i≤js.length∧fE (cY bs js) js.length 0=fE (cY bs js) (js.length-i) i) (fun i=>js.length-i) 0 rfl ⟨Nat.zero_le _,rfl⟩ (fun i ⟨hi,hE⟩=>?_)
 refine qX 1 rfl ?_;refine qI ?_;refine AW.cond rfl (fun h=>?_) (fun h=>?_)
 · have hin:i<js.length:=by have:=aq h;omega
   have jok:=hj i;have hbE:cY bs js i≠0→fE (cY bs js) js.length 0=cY bs js i:=fun h0=>hE.trans (eQ hin h0);have hbM:cY bs js i=0→fE (cY bs js) js.length 0=fE (cY bs js) (js.length-(i+1)) (i+1):=fun h0=>hE.trans (cZ hin h0);generalize fE (cY bs js) js.length 0=E at *;obtain ⟨j,hje⟩: ∃j,j=js.getD i default:=⟨_,rfl⟩;rw[← hje] at jok;unfold big at jok;have hdup:wV js i=eU (fun k=>decide ((js.getD k default).nm=j.nm)) i 0:=by rw[hje];rfl
   have hbd:cY bs js i=if dc j.nm=false then 5 else if wV js i=true then 6 else jE bs j:=by rw[hje];rfl
   refine AW.skip (AW.seq (AW.block ?_));refine qX 1 rfl ?_;refine ae.idx tok j.D rfl rfl rfl rfl (aj i) (by rw[hje];exact getM bm.D hin) ?_;refine qU 4 rfl ?_;refine qI (qX 2 rfl ?_);refine ae.call tok rfl rfl rfl rfl (fW j.nm jok) ?_;refine qU 1 rfl ?_;refine ae.nil ?_;refine AW.cond rfl (fun h=>?_) (fun h=>?_)
   · have hnm:dc j.nm=false:=kl h;have h5:cY bs js i=5:=by rw[hbd,hnm];rfl
     rw[show E=5 by rw[hbE (by omega),h5]];refine qX 2 rfl ?_;exact qN rfl
   have hnm:dc j.nm=true:=by simpa using h
   rw[hnm,if_neg (by decide)] at hbd;refine AW.skip (AW.seq ?_);refine qX 3 rfl ?_;refine ae.B7 tok rfl rfl rfl rfl trivial (aj i) (Nat.zero_le _) (by show i≤_;rw[ah];omega) ?_;refine qU 2 rfl ?_;rw[uE (by rw[ah];omega)];refine ae.nil ?_;refine AW.block ?_
   refine AW.aL [1,4,14,15,16,29,30,31] (fun k:Nat=>[(1,.bx [dS ln,aJ bs,aH js,aI ds]),(4,.bx [dS j.nm,dI j.kind,dI j.a,dI j.pt,dI j.b,dI j.on,dI j.to]),(14,.d (aH js)),(15,.d (dI js.length)),(16,.d (dI i)),(29,.d (.sl 7 ((js.map bm.D).take i))),(30,.d (dI i)),(31,.d (dI k))])
    (fun k=>k≤i∧wV js i=eU (fun k=>decide ((js.getD k default).nm=j.nm)) (i-k) k) (fun k=>i-k) 0 rfl ⟨Nat.zero_le _,hdup⟩ (fun k ⟨hk,hD⟩=>?_)
   refine qX 1 rfl ?_;refine qI ?_;refine AW.cond rfl (fun h=>?_) (fun h=>?_)
   · have hki:k<i:=by have:=aq h;omega
     refine AW.skip (AW.seq (AW.block (AW.seq (AW.region ?_))));refine ae.idx tok (js.getD k default).D rfl rfl rfl rfl (aj k) (G7 bm.D (by omega) hki) ?_;refine qU 3 rfl ?_;refine qK 5 rfl ?_;rw[lT];refine ae.nil ?_;refine AW.cond rfl (fun h=>?_) (fun h=>?_)
     · have h6:cY bs js i=6:=by rw[hbd,hD.trans (fG hki h)];rfl
       rw[show E=6 by rw[hbE (by omega),h6]];refine qX 2 rfl ?_;exact qN rfl
     · refine AW.skip (qT 2 rfl ?_);rw[aG (x:=(k:Int)+1) (by omega) (by omega)];refine ae.nil ?_;exact⟨k+1,rfl,⟨hki,hD.trans (eI hki h)⟩,by omega⟩
   · have hki: ¬k<i:=by have:=ar h;omega
     rw[hD.trans (fH hki),if_neg (by decide)] at hbd;refine AW.exit ?_;have c:=hjoint j;cases he:jE bs j with
     | zero =>
       rw[he] at hbd c;refine qX 2 rfl ?_;refine ae.call tok rfl rfl rfl rfl c ?_;refine qU 1 rfl ?_;refine qK 1 rfl ?_;refine ae.err tok rfl rfl rfl rfl rfl ?_;refine ae.nil ?_;refine AW.aD rfl ?_;refine AW.skip (qT 2 rfl ?_);rw[aG (x:=(i:Int)+1) (by omega) (by omega)];refine ae.nil ?_;exact⟨i+1,rfl,⟨hin,hbM hbd⟩,by omega⟩
     | succ m =>
       rw[he] at hbd c;rw[show E=m+1 by rw[hbE (by omega),hbd]];refine qX 2 rfl ?_;refine ae.call tok rfl rfl rfl rfl c ?_;refine qU 1 rfl ?_;refine qK 1 rfl ?_;refine ae.err tok rfl rfl rfl rfl rfl ?_;refine ae.nil ?_;refine AW.aC rfl ?_;refine qX 2 rfl ?_;exact qN rfl
 · have hin: ¬i<js.length:=by have:=ar h;omega
   rw[hE,eS hin];refine AW.exit ?_;refine qX 1 rfl ?_;exact qN rfl
set_option maxHeartbeats 1600000 in
theorem rJ(l:Lkg){K:Nat}(hl:l.ok K):Pure Tryz.prog 54 [l.D] (vC (il l.bodies.length l.drivers)):=by
 refine qJ 72 Tryz.func54 rfl rfl rfl rfl (by kernel_rfl) (fun B F0 w0=>?_);obtain ⟨ln,bs,js,ds⟩:=l;have hd:=hl.d;have hn:=hl.nd;simp only[] at hd hn ⊢;show AW _ _ _ _ _ _ _ (eF 0 [D.ag [dS ln,aJ bs,aH js,aI ds]]);unfold big at hn;refine qX 2 rfl ?_;refine qI (qX 4 rfl ?_);rw[ah];refine ae.nil ?_;refine AW.cond rfl (fun h=>?_) (fun h=>?_)
 · have h2:2<ds.length:=by have:=aq h;omega
   rw[il,if_pos h2];refine qX 2 rfl ?_;exact qN rfl
 have h2: ¬2<ds.length:=by have:=ar h;omega
 rw[il,if_neg h2];refine AW.skip (AW.seq ?_);refine qX 4 rfl ?_;rw[ah];refine ae.nil ?_;refine AW.block ?_
 refine AW.aL [1,15,16,17] (fun i:Nat=>[(1,.bx [dS ln,aJ bs,aH js,aI ds]),(15,.d (aI ds)),(16,.d (dI ds.length)),(17,.d (dI i))])
  (fun i=>i≤ds.length∧fE (dP bs.length ds) ds.length 0=fE (dP bs.length ds) (ds.length-i) i) (fun i=>ds.length-i) 0 rfl ⟨Nat.zero_le _,rfl⟩ (fun i ⟨hi,hE⟩=>?_)
 refine qX 1 rfl ?_;refine qI ?_;refine AW.cond rfl (fun h=>?_) (fun h=>?_)
 · have hin:i<ds.length:=by have:=aq h;omega
   have dok:=hd i;have hbE:dP bs.length ds i≠0→fE (dP bs.length ds) ds.length 0=dP bs.length ds i:=fun h0=>hE.trans (eQ hin h0);have hbM:dP bs.length ds i=0→fE (dP bs.length ds) ds.length 0=fE (dP bs.length ds) (ds.length-(i+1)) (i+1):=fun h0=>hE.trans (cZ hin h0);generalize fE (dP bs.length ds) ds.length 0=E at *;obtain ⟨d,hde⟩: ∃d,d=ds.getD i default:=⟨_,rfl⟩;rw[← hde] at dok;unfold big at dok;have hdup:CX ds i=eU (fun k=>decide ((ds.getD k default).nm=d.nm)) i 0:=by rw[hde];rfl
   have hdup2:CV ds i=eU (fun k=>decide ((ds.getD k default).body=d.body)) i 0:=by rw[hde];rfl
   have hbd:dP bs.length ds i=if dc d.nm=false then 5 else if CX ds i=true then 6 else if ji d.body bs.length=false then 9 else if d.body=0 then 7 else if CV ds i=true then 6 else 0:=by rw[hde];rfl
   refine AW.skip (AW.seq (AW.block ?_));refine qX 1 rfl ?_;refine ae.idx tok d.D rfl rfl rfl rfl (aj i) (by rw[hde];exact getM Driver.D hin) ?_;refine qU 4 rfl ?_;refine qI (qX 2 rfl ?_);refine ae.call tok rfl rfl rfl rfl (fW d.nm dok) ?_;refine qU 1 rfl ?_;refine ae.nil ?_;refine AW.cond rfl (fun h=>?_) (fun h=>?_)
   · have hnm:dc d.nm=false:=kl h;have h5:dP bs.length ds i=5:=by rw[hbd,hnm];rfl
     rw[show E=5 by rw[hbE (by omega),h5]];refine qX 2 rfl ?_;exact qN rfl
   have hnm:dc d.nm=true:=by simpa using h
   rw[hnm,if_neg (by decide)] at hbd;refine AW.skip (AW.seq ?_);refine qX 3 rfl ?_;refine ae.B7 tok rfl rfl rfl rfl trivial (aj i) (Nat.zero_le _) (by show i≤_;rw[ah];omega) ?_;refine qU 2 rfl ?_;rw[uE (by rw[ah];omega)];refine ae.nil ?_;refine AW.block ?_
   refine AW.aL [1,3,4,15,16,17,30,31,32] (fun k:Nat=>[(1,.bx [dS ln,aJ bs,aH js,aI ds]),(3,.d (dI i)),(4,.bx [dS d.nm,dI d.body]),(15,.d (aI ds)),(16,.d (dI ds.length)),(17,.d (dI i)),(30,.d (.sl 2 ((ds.map Driver.D).take i))),(31,.d (dI i)),(32,.d (dI k))])
    (fun k=>k≤i∧CX ds i=eU (fun k=>decide ((ds.getD k default).nm=d.nm)) (i-k) k) (fun k=>i-k) 0 rfl ⟨Nat.zero_le _,hdup⟩ (fun k ⟨hk,hD⟩=>?_)
   refine qX 1 rfl ?_;refine qI ?_;refine AW.cond rfl (fun h=>?_) (fun h=>?_)
   · have hki:k<i:=by have:=aq h;omega
     refine AW.skip (AW.seq (AW.block (AW.seq (AW.region ?_))));refine ae.idx tok (ds.getD k default).D rfl rfl rfl rfl (aj k) (G7 Driver.D (by omega) hki) ?_;refine qU 3 rfl ?_;refine qK 5 rfl ?_;rw[lT];refine ae.nil ?_;refine AW.cond rfl (fun h=>?_) (fun h=>?_)
     · have h6:dP bs.length ds i=6:=by rw[hbd,hD.trans (fG hki h)];rfl
       rw[show E=6 by rw[hbE (by omega),h6]];refine qX 2 rfl ?_;exact qN rfl
     · refine AW.skip (qT 2 rfl ?_);rw[aG (x:=(k:Int)+1) (by omega) (by omega)];refine ae.nil ?_;exact⟨k+1,rfl,⟨hki,hD.trans (eI hki h)⟩,by omega⟩
   · have hki: ¬k<i:=by have:=ar h;omega
     rw[hD.trans (fH hki),if_neg (by decide)] at hbd;refine AW.exit (AW.seq ?_);refine qX 5 rfl ?_;rw[ah];refine ae.call tok rfl rfl rfl rfl (gK d.body bs.length) ?_;refine qU 1 rfl ?_;refine ae.nil ?_;refine AW.cond rfl (fun h=>?_) (fun h=>?_)
     · rw[if_pos (kl h)] at hbd;rw[show E=9 by rw[hbE (by omega),hbd]];refine qX 2 rfl ?_;exact qN rfl
     have hinb:ji d.body bs.length=true:=by simpa using h
     rw[if_neg (by simp[hinb])] at hbd;refine AW.skip (AW.seq ?_);refine qX 3 rfl ?_;refine ae.nil ?_;refine AW.cond rfl (fun h=>?_) (fun h=>?_)
     · rw[if_pos (by simpa using h)] at hbd;rw[show E=7 by rw[hbE (by omega),hbd]];refine qX 2 rfl ?_;exact qN rfl
     rw[if_neg (by simpa using h)] at hbd;refine AW.skip (qX 3 rfl ?_);refine ae.B7 tok rfl rfl rfl rfl trivial (aj i) (Nat.zero_le _) (by show i≤_;rw[ah];omega) ?_;refine qU 2 rfl ?_;rw[uE (by rw[ah];omega)];refine ae.nil ?_;refine AW.block ?_
     refine AW.aL [1,4,15,16,17,58,59,60] (fun k:Nat=>[(1,.bx [dS ln,aJ bs,aH js,aI ds]),(4,.bx [dS d.nm,dI d.body]),(15,.d (aI ds)),(16,.d (dI ds.length)),(17,.d (dI i)),(58,.d (.sl 2 ((ds.map Driver.D).take i))),(59,.d (dI i)),(60,.d (dI k))])
      (fun k=>k≤i∧CV ds i=eU (fun k=>decide ((ds.getD k default).body=d.body)) (i-k) k) (fun k=>i-k) 0 rfl ⟨Nat.zero_le _,hdup2⟩ (fun k ⟨hk,hD⟩=>?_)
     refine qX 1 rfl ?_;refine qI ?_;refine AW.cond rfl (fun h=>?_) (fun h=>?_)
     · have hki:k<i:=by have:=aq h;omega
       refine AW.skip (AW.seq (AW.block (AW.seq (AW.region ?_))));refine ae.idx tok (ds.getD k default).D rfl rfl rfl rfl (aj k) (G7 Driver.D (by omega) hki) ?_;refine qU 3 rfl ?_;refine qK 5 rfl ?_;refine ae.nil ?_;refine AW.cond rfl (fun h=>?_) (fun h=>?_)
       · have h':decide ((ds.getD k default).body=d.body)=true:=by simpa using h
         rw[hD.trans (fG hki h')] at hbd;rw[show E=6 by rw[hbE (by rw[hbd];decide),hbd];rfl];refine qX 2 rfl ?_;exact qN rfl
       · have h':decide ((ds.getD k default).body=d.body)=false:=by simpa using h
         refine AW.skip (qT 2 rfl ?_);rw[aG (x:=(k:Int)+1) (by omega) (by omega)];refine ae.nil ?_;exact⟨k+1,rfl,⟨hki,hD.trans (eI hki h')⟩,by omega⟩
     · have hki: ¬k<i:=by have:=ar h;omega
       rw[hD.trans (fH hki),if_neg (by decide)] at hbd;refine AW.exit ?_;refine qT 2 rfl ?_;rw[aG (x:=(i:Int)+1) (by omega) (by omega)];refine ae.nil ?_;exact⟨i+1,rfl,⟨hin,hbM hbd⟩,by omega⟩
 · have hin: ¬i<ds.length:=by have:=ar h;omega
   rw[hE,eS hin];refine AW.exit ?_;refine qX 1 rfl ?_;exact qN rfl
set_option maxHeartbeats 1600000 in
theorem nh(l:Lkg){K:Nat}(hl:l.ok K)(hK:K≤20000000):Pure Tryz.prog 31 [l.D] (vC (tD l)):=by
 refine qJ 33 Tryz.func31 rfl rfl rfl rfl (by kernel_rfl) (fun B F0 w0=>?_);have c1:=tc l.bodies hl.nb hl.b (by omega);have c2:=s9 l hl hK;have c3:=rJ l hl
 have hcd:tD l=if dc l.nm=false then 5 else if l.bodies=[] then 10 else if 8<l.bodies.length then 4 else
  if bL l.bodies≠0 then bL l.bodies else if bA l.bodies l.joints≠0 then bA l.bodies l.joints else il l.bodies.length l.drivers:=rfl
 generalize tD l=E at *;obtain ⟨ln,bs,js,ds⟩:=l;have hnm:=hl.nm;have hnb:=hl.nb;simp only[] at hcd c1 c2 c3 hnm hnb ⊢;show AW _ _ _ _ _ _ _ (eF 0 [D.ag [dS ln,aJ bs,aH js,aI ds]]);unfold big at hnm hnb;refine qX 2 rfl ?_;refine qI (qX 2 rfl ?_);refine ae.call tok rfl rfl rfl rfl (fW ln hnm) ?_;refine qU 1 rfl ?_;refine ae.nil ?_;refine AW.cond rfl (fun h=>?_) (fun h=>?_)
 · rw[if_pos (kl h)] at hcd;rw[hcd];refine qX 2 rfl ?_;exact qN rfl
 rw[if_neg (by simpa using h)] at hcd;refine AW.skip (AW.seq ?_);refine qX 4 rfl ?_;rw[ah];refine ae.nil ?_;refine AW.cond rfl (fun h=>?_) (fun h=>?_)
 · have h0:bs=[]:=List.length_eq_zero_iff.1 (by have:(bs.length:Int)=0:=by simpa using h
                                                omega)
   rw[if_pos h0] at hcd;rw[hcd];refine qX 2 rfl ?_;exact qN rfl
 have h0:bs≠[]:=by rintro rfl;simp at h
 rw[if_neg h0] at hcd;refine AW.skip (AW.seq ?_);refine qX 4 rfl ?_;rw[ah];refine ae.nil ?_;refine AW.cond rfl (fun h=>?_) (fun h=>?_)
 · have h8:8<bs.length:=by have:=aq h;omega
   rw[if_pos h8] at hcd;rw[hcd];refine qX 2 rfl ?_;exact qN rfl
 have h8: ¬8<bs.length:=by have:=ar h;omega
 rw[if_neg h8] at hcd;refine AW.skip ?_;cases he:bL bs with
 | succ m =>
   rw[he] at hcd c1;rw[show E=m+1 by rw[hcd,if_pos (by omega)]];refine AW.seq (qX 2 rfl ?_);refine ae.call tok rfl rfl rfl rfl c1 ?_;refine qU 1 rfl ?_;refine qK 1 rfl ?_;refine ae.err tok rfl rfl rfl rfl rfl ?_;refine ae.nil ?_;refine AW.aC rfl ?_;refine qX 2 rfl ?_;exact qN rfl
 | zero =>
   rw[he] at hcd c1;rw[if_neg (by omega)] at hcd;refine AW.seq (qX 2 rfl ?_);refine ae.call tok rfl rfl rfl rfl c1 ?_;refine qU 1 rfl ?_;refine qK 1 rfl ?_;refine ae.err tok rfl rfl rfl rfl rfl ?_;refine ae.nil ?_;refine AW.aD rfl ?_;refine AW.skip ?_;cases he2:bA bs js with
   | succ m =>
     rw[he2] at hcd c2;rw[show E=m+1 by rw[hcd,if_pos (by omega)]];refine AW.seq (qX 1 rfl ?_);refine ae.call tok rfl rfl rfl rfl c2 ?_;refine qU 1 rfl ?_;refine qK 1 rfl ?_;refine ae.err tok rfl rfl rfl rfl rfl ?_;refine ae.nil ?_;refine AW.aC rfl ?_;refine qX 2 rfl ?_;exact qN rfl
   | zero =>
     rw[he2] at hcd c2;rw[if_neg (by omega)] at hcd;rw[hcd];refine AW.seq (qX 1 rfl ?_);refine ae.call tok rfl rfl rfl rfl c2 ?_;refine qU 1 rfl ?_;refine qK 1 rfl ?_;refine ae.err tok rfl rfl rfl rfl rfl ?_;refine ae.nil ?_;refine AW.aD rfl ?_;refine AW.skip (qX 1 rfl ?_);refine ae.call tok rfl rfl rfl rfl c3 ?_;refine qU 1 rfl ?_;exact qN rfl
end Lift
namespace Lift
open Go Go.Proofs
end Lift
namespace Lift
open Go Go.Proofs
abbrev x9(v:List NQ):D:= .pr [.sl 1 (v.map ao),aR]
theorem oQ{v:List NQ}{f:Nat}{a b r:NQ}(hP:Pure Tryz.prog f [iF v,ao a,ao b] (.tu [ao r,aR])):Pure Tryz.prog 104 [x9 v,.fn f [] [],ao a,ao b] (ao r):=by
 refine qJ 32 Tryz.func104 rfl rfl rfl rfl (by kernel_rfl) (fun B0 F0 w0=>?_);refine qX 1 rfl ?_;refine qI (qX 1 rfl ?_);refine ae.AU tok rfl rfl rfl rfl rfl ?_;refine qU 2 rfl ?_;refine ae.err tok rfl rfl rfl rfl rfl ?_;refine ae.nil ?_;refine AW.aD rfl ?_
 · skip
   refine AW.skip (qX 2 rfl ?_);refine ae.AU tok rfl rfl rfl rfl rfl ?_;refine qU 4 rfl ?_;refine ae.HF tok rfl rfl rfl rfl hP ?_;refine qU 5 rfl ?_;refine qK 2 rfl ?_;refine ae.AU tok rfl rfl rfl rfl rfl ?_;refine ae.Kk tok rfl rfl rfl rfl rfl rfl rfl rfl rfl rfl rfl rfl rfl rfl rfl ?_;refine qK 2 rfl ?_;exact qN rfl
theorem mL{m:Nat}{v:List NQ}{a b:NQ}(V:jv m v)(ha:au v.length a)(sa:aB m a)(hb:au v.length b)(sb:aB m b):Pure Tryz.prog 103 [x9 v,ao a,ao b] (ao (v5 a b)):=by
 refine qJ 11 Tryz.func103 rfl rfl rfl rfl (by kernel_rfl) (fun B0 F0 w0=>?_);have c:=oQ (wz V ha sa hb sb);refine qX 1 rfl ?_;refine qK 3 rfl ?_;refine ae.call tok rfl rfl rfl rfl c ?_;refine qU 1 rfl ?_;exact qN rfl
theorem iY{m:Nat}{v:List NQ}{a b:NQ}(V:jv m v)(ha:au v.length a)(sa:aB m a)(hb:au v.length b)(sb:aB m b):Pure Tryz.prog 57 [x9 v,ao a,ao b] (ao (gm a b)):=by
 refine qJ 11 Tryz.func57 rfl rfl rfl rfl (by kernel_rfl) (fun B0 F0 w0=>?_);have c:=oQ (wu V ha sa hb sb);refine qX 1 rfl ?_;refine qK 3 rfl ?_;refine ae.call tok rfl rfl rfl rfl c ?_;refine qU 1 rfl ?_;exact qN rfl
theorem gA{m:Nat}{v:List NQ}{a b:NQ}(hsT:sT v.length m≤17300000000000)(V:jv m v)(ha:au v.length a)(sa:aB m a)(hb:au v.length b)(sb:aB m b):Pure Tryz.prog 58 [x9 v,ao a,ao b] (ao (fN v a b)):=by
 refine qJ 11 Tryz.func58 rfl rfl rfl rfl (by kernel_rfl) (fun B0 F0 w0=>?_);have c:=oQ (wv hsT V ha sa hb sb);refine qX 1 rfl ?_;refine qK 3 rfl ?_;refine ae.call tok rfl rfl rfl rfl c ?_;refine qU 1 rfl ?_;exact qN rfl
theorem FO{l:Nat}{a:NQ}(ha:au l a):gm [] a=kn a:=F4 ((cy l).plus ha.minus) ha.minus (funext fun i=>by
 rw[dR];show (0:Rat)+_=_
 rw[Rat.zero_add])
theorem gz{m:Nat}{v:List NQ}{a:NQ}(V:jv m v)(ha:au v.length a)(sa:aB m a):Pure Tryz.prog 60 [x9 v,ao a] (ao (kn a)):=by
 refine qJ 8 Tryz.func60 rfl rfl rfl rfl (by kernel_rfl) (fun B0 F0 w0=>?_);have c:=iY V (cy _) (cG V.m1) ha sa;rw[FO ha] at c;refine qX 1 rfl ?_;refine qK 2 rfl ?_;refine ae.call tok rfl rfl rfl rfl c ?_;refine qU 1 rfl ?_;exact qN rfl
theorem IF{l m:Nat}(hl:l≤2)(hm:m≤30000):pG l m:=by
 have h2:pG 2 m:=by
  show sT 2 m≤17300000000000∧sT 1 (sT 2 m)≤17300000000000∧sT 1 (sT 2 m)≤17300000000000;have e1: ∀k,sT 1 k=6*k+1:=fun k=>by show 2*(2*k)+2*k+1=_;omega
  have e2:sT 2 m=42*m+9:=by
   show sT 1 (sT 1 m)+sT 1 m+1=_;rw[e1,e1];omega
  rw[e2,e1];omega
 exact u5 h2 hl
theorem tK{l m:Nat}(hl:l≤2):sT l m≤42*m+9:=by
 have e1: ∀k,sT 1 k=6*k+1:=fun k=>by show 2*(2*k)+2*k+1=_;omega
 match l,hl with
 | 0,_=>show 2*m≤_;omega
 | 1,_=>rw[e1];omega
 | 2,_ =>
   show sT 1 (sT 1 m)+sT 1 m+1≤_;rw[e1,e1];omega
structure H7 where
 c:NQ
 s:NQ
 x:NQ
 y:NQ
abbrev H7.D(b:H7):D:= .ag [ao b.c,ao b.s,ao b.x,ao b.y]
structure H7.ok (l k:Nat) (b:H7):Prop where
 c:au l b.c∧aB k b.c
 s:au l b.s∧aB k b.s
 x:au l b.x∧aB k b.x
 y:au l b.y∧aB k b.y
def Lu(v:List NQ)(b:H7)(px py:NQ):NQ:=v5 (gm (fN v b.c px) (fN v b.s py)) b.x
def Lt(v:List NQ)(b:H7)(px py:NQ):NQ:=v5 (v5 (fN v b.s px) (fN v b.c py)) b.y
theorem J3{v:List NQ}{b:H7}{px py:NQ}(V:jv 16 v)(hl:v.length≤2)(hb:b.ok v.length 16)(hx:au v.length px∧aB 16 px)(hy:au v.length py∧aB 16 py):
  (au v.length (Lu v b px py)∧aB 1400 (Lu v b px py))∧(au v.length (Lt v b px py)∧aB 1400 (Lt v b px py)):=by
 have s1:=tK (m:=16) hl;have p1:=gi V hb.c.1 hb.c.2 hx.1 hx.2;have p2:=gi V hb.s.1 hb.s.2 hy.1 hy.2;have p3:=gi V hb.s.1 hb.s.2 hx.1 hx.2;have p4:=gi V hb.c.1 hb.c.2 hy.1 hy.2;have q1:=kE p1.1 p1.2 p2.1 p2.2;have q2:=ud p3.1 p3.2 p4.1 p4.2;have r1:=ud q1.1 q1.2 hb.x.1 hb.x.2;have r2:=ud q2.1 q2.2 hb.y.1 hb.y.2;exact⟨⟨r1.1,r1.2.mono (by omega)⟩,⟨r2.1,r2.2.mono (by omega)⟩⟩
set_option maxHeartbeats 800000 in
theorem BN{v:List NQ}{b:H7}{p:Mark}(V:jv 16 v)(hl:v.length≤2)(hb:b.ok v.length 16)(wx:p.x.w 16)(wy:p.y.w 16)(ox:p.x.okB=true)(oy:p.y.okB=true):
  Pure Tryz.prog 56 [x9 v,b.D,p.D] (.tu [ao (Lu v b (rF p.x.val) (rF p.y.val)),ao (Lt v b (rF p.x.val) (rF p.y.val))]):=by
 refine qJ 50 Tryz.func56 rfl rfl rfl rfl (by kernel_rfl) (fun B0 F0 w0=>?_);have c1:=iZ p.x wx (by decide) (by decide) ox;have c2:=iZ p.y wy (by decide) (by decide) oy;have hx:=kU v.length (cu wx (by decide));have hy:=kU v.length (cu wy (by decide));generalize rF p.x.val=px at *;generalize rF p.y.val=py at *;have s1:=tK (m:=16) hl;have V2:=V.mono (k:=1400) (by decide) (by decide);have m1:=gA (by omega) V hb.c.1 hb.c.2 hx.1 hx.2;have m2:=gA (by omega) V hb.s.1 hb.s.2 hy.1 hy.2;have m3:=gA (by omega) V hb.s.1 hb.s.2 hx.1 hx.2;have m4:=gA (by omega) V hb.c.1 hb.c.2 hy.1 hy.2;have p1:=gi V hb.c.1 hb.c.2 hx.1 hx.2;have p2:=gi V hb.s.1 hb.s.2 hy.1 hy.2;have p3:=gi V hb.s.1 hb.s.2 hx.1 hx.2;have p4:=gi V hb.c.1 hb.c.2 hy.1 hy.2;have q1:=kE p1.1 p1.2 p2.1 p2.2;have q2:=ud p3.1 p3.2 p4.1 p4.2;have n1:=iY V2 p1.1 (p1.2.mono (by omega)) p2.1 (p2.2.mono (by omega));have n2:=mL V2 p3.1 (p3.2.mono (by omega)) p4.1 (p4.2.mono (by omega));have o1:=mL V2 q1.1 (q1.2.mono (by omega)) hb.x.1 (hb.x.2.mono (by omega));have o2:=mL V2 q2.1 (q2.2.mono (by omega)) hb.y.1 (hb.y.2.mono (by omega));unfold Lu Lt;refine qX 4 rfl ?_;refine qI (AW.draw aW 6 (by kernel_rfl) ?_);refine qP 2 rfl ?_;refine af.call tok rfl rfl rfl rfl rfl c1 ?_;refine qP 2 rfl ?_;refine af.call tok rfl rfl rfl rfl rfl c2 ?_;refine af.nil ?_;refine qU 2 rfl ?_;refine qI (AW.draw aW 16 (by kernel_rfl) ?_);refine qP 6 rfl ?_;refine af.call tok rfl rfl rfl rfl rfl m1 ?_;refine qP 4 rfl ?_;refine af.call tok rfl rfl rfl rfl rfl m2 ?_;refine af.call tok rfl rfl rfl rfl rfl n1 ?_;refine qP 2 rfl ?_;refine af.call tok rfl rfl rfl rfl rfl o1 ?_;refine af.nil ?_;refine qU 1 rfl ?_;refine qI (AW.draw aW 16 (by kernel_rfl) ?_);refine qP 6 rfl ?_;refine af.call tok rfl rfl rfl rfl rfl m3 ?_;refine qP 4 rfl ?_;refine af.call tok rfl rfl rfl rfl rfl m4 ?_;refine af.call tok rfl rfl rfl rfl rfl n2 ?_;refine qP 2 rfl ?_;refine af.call tok rfl rfl rfl rfl rfl o2 ?_;refine af.nil ?_;refine qU 1 rfl ?_;refine qK 4 rfl ?_;exact qN rfl
theorem l6:Pure Tryz.prog 61 [] (ao [1]):=by
 refine qJ 3 Tryz.func61 rfl rfl rfl rfl (by kernel_rfl) (fun B0 F0 w0=>?_);have c1:=ij 1 (by decide) (by decide);have c2:=iZ (Qr ((1:Int):Rat)) (k:=1) (ir _ (by have:=gx;rw[show ((1:Int):Rat)=1 from rfl];omega)) (by decide) (by decide) (BD _);rw[da,show rF ((1:Int):Rat)=[1] from rfl] at c2;refine qX 1 rfl ?_;refine qI (AW.region ?_);refine ae.call tok rfl rfl rfl rfl c1 ?_;refine ae.call tok rfl rfl rfl rfl c2 ?_;refine qU 1 rfl ?_;exact qN rfl
end Lift
namespace Lift
open Go Go.Proofs
structure gw where
 c:List RD
 s:List RD
 x:List RD
 y:List RD
deriving Inhabited
abbrev gw.D(p:gw):D:= .ag [bG p.c,bG p.s,bG p.x,bG p.y]
structure Asm where
 rt:List (List RD)
 bodies:List gw
 modes:List Int
abbrev Asm.D(a:Asm):D:= .ag [.sl 1 (a.rt.map bG),.sl 4 (a.bodies.map gw.D),.sl 1 (a.modes.map (fun n=>dI n))]
structure gw.ok (m:Nat) (rt:List (List RD)) (p:gw):Prop where
 c:kz m rt p.c
 s:kz m rt p.s
 x:kz m rt p.x
 y:kz m rt p.y
structure Asm.ok (m:Nat) (a:Asm):Prop where
 t:pD m a.rt
 b: ∀i,i<a.bodies.length→(a.bodies.getD i default).ok m a.rt
 l:a.bodies.length≤1000000
def ES(rt:List (List RD))(p:gw)(k:Nat):Nat:=bY rt.length ([p.c,p.s,p.x,p.y].getD k [])
def xG(rt:List (List RD))(p:gw):Nat:=fE (ES rt p) (4-0) 0
def fU(l:Lkg)(a:Asm):Nat:=if tD l≠0 then tD l else if dD a.rt≠0 then dD a.rt else if a.bodies.length≠l.bodies.length then 10 else fE (fun i=>xG a.rt (a.bodies.getD i default)) (a.bodies.length-0) 0
theorem J1{rt:List (List RD)}{a:List RD}(h:dD rt=0):kt rt [a]=bY rt.length a:=by
 unfold kt;rw[if_neg (by rw[h];simp)];show (if bY rt.length a=0 then 0 else bY rt.length a)=_;by_cases h0:bY rt.length a=0
 · rw[if_pos h0,h0]
 · rw[if_neg h0]
set_option maxHeartbeats 1600000 in
theorem ze(l:Lkg)(a:Asm){K m:Nat}(hl:l.ok K)(hK:K≤20000000)(hb:l.bodies.length≤1000000000000)(ha:a.ok m):Pure Tryz.prog 55 [l.D,a.D] (vC (fU l a)):=by
 refine qJ 65 Tryz.func55 rfl rfl rfl rfl (by kernel_rfl) (fun B0 F0 w0=>?_);have cM:=nh l hl hK;obtain ⟨m0,t1,t2,tw,tk⟩:=ha.t.t;have cT:=j9 a.rt tw t1 ha.t.l ha.t.ll tk;have hal:=ha.l;unfold fU;obtain ⟨E,hE⟩: ∃E,fE (fun i=>xG a.rt (a.bodies.getD i default)) (a.bodies.length-0) 0=E:=⟨_,rfl⟩;rw[hE];refine qX 3 rfl ?_;refine qI (qX 1 rfl ?_);refine ae.call tok rfl rfl rfl rfl cM ?_;refine qU 1 rfl ?_;refine ae.nil ?_;rcases e1:tD l with _ | z
 rotate_left
 · rw[if_pos (Nat.succ_ne_zero z)];refine qX 1 rfl ?_;refine ae.err tok rfl rfl rfl rfl rfl ?_;refine ae.nil ?_;refine AW.aC rfl ?_;refine qX 2 rfl ?_;exact qN rfl
 rw[if_neg (by simp)];refine qX 1 rfl ?_;refine ae.err tok rfl rfl rfl rfl rfl ?_;refine ae.nil ?_;refine AW.aD rfl ?_;refine AW.skip (AW.seq ?_);refine qX 2 rfl ?_;refine ae.call tok rfl rfl rfl rfl cT ?_;refine qU 1 rfl ?_;refine ae.nil ?_;rcases e2:dD a.rt with _ | z
 rotate_left
 · rw[if_pos (Nat.succ_ne_zero z)];refine qX 1 rfl ?_;refine ae.err tok rfl rfl rfl rfl rfl ?_;refine ae.nil ?_;refine AW.aC rfl ?_;refine qX 2 rfl ?_;exact qN rfl
 rw[if_neg (by simp)];refine qX 1 rfl ?_;refine ae.err tok rfl rfl rfl rfl rfl ?_;refine ae.nil ?_;refine AW.aD rfl ?_;refine AW.skip (AW.seq ?_);refine qX 6 rfl ?_;rw[ah,ah];refine qU 1 rfl ?_;refine ae.nil ?_;by_cases hbl:a.bodies.length=l.bodies.length;rotate_left
 · rw[if_pos hbl,bne_iff_ne.2 (show (a.bodies.length:Int)≠(l.bodies.length:Int) by omega)];refine AW.aC rfl ?_;refine qX 2 rfl ?_;exact qN rfl
 rw[if_neg (fun h=>h hbl),bne_eq_false_iff_eq.2 (show (a.bodies.length:Int)=(l.bodies.length:Int) by omega)];refine AW.aD rfl ?_;refine AW.skip ?_;obtain ⟨rt,bs,md⟩:=a;simp only[] at *;refine AW.seq (qX 3 rfl ?_);rw[ah];refine qU 1 rfl ?_;refine ae.nil ?_;refine AW.block (AW.aL [3,33,34,35] (fun i:Nat=>[(3,.bx [.sl 1 (rt.map bG),.sl 4 (bs.map gw.D),.sl 1 (md.map (fun n=>dI n))]),(33,.d (.sl 4 (bs.map gw.D))),(34,.d (dI bs.length)),(35,.d (dI i))]) (fun i=>i≤bs.length∧fE (fun i=>xG rt (bs.getD i default)) (bs.length-i) i=E) (fun i=>bs.length-i) 0 rfl ⟨Nat.zero_le _,hE⟩ (fun i ⟨hi,hiE⟩=>?_));refine qX 1 rfl ?_;refine qI (AW.cond rfl (fun h=>?_) (fun h=>?_));rotate_left
 · have hii: ¬i<bs.length:=by have:=ar h;omega
   rw[eS hii] at hiE;subst hiE;refine AW.exit ?_;refine qX 1 rfl ?_;exact qN rfl
 have hii:i<bs.length:=by have:=aq h;omega
 have hg:(bs.map gw.D)[i]?=some (bs.getD i default).D:=by simp[hii]
 have hmiss:=fun h0:xG rt (bs.getD i default)=0=>(cZ (f:=fun i=>xG rt (bs.getD i default)) hii h0).symm.trans hiE;have hhit:=fun h0:xG rt (bs.getD i default)≠0=>(eQ (f:=fun i=>xG rt (bs.getD i default)) hii h0).symm.trans hiE;have hp:=ha.b i hii;generalize bs.getD i default=p at hg hmiss hhit hp;obtain ⟨P,hP⟩: ∃P,xG rt p=P:=⟨_,rfl⟩;rw[hP] at hmiss hhit;unfold xG at hP;obtain ⟨pc,ps,px,py⟩:=p;refine AW.skip (AW.seq (AW.block (AW.seq (AW.region ?_))));refine ae.idx tok (gw.mk pc ps px py).D rfl rfl rfl rfl (aj i) hg ?_;refine qU 3 rfl ?_;refine qK 8 rfl ?_;refine ae.pv tok rfl rfl rfl rfl rfl ?_;refine qU 2 rfl ?_;refine ae.nil ?_;refine AW.block (AW.aL [3,33,34,35,47,48,49] (fun k:Nat=>[(3,.bx [.sl 1 (rt.map bG),.sl 4 (bs.map gw.D),.sl 1 (md.map (fun n=>dI n))]),(33,.d (.sl 4 (bs.map gw.D))),(34,.d (dI bs.length)),(35,.d (dI i)),(47,.d (.sl 1 [bG pc,bG ps,bG px,bG py])),(48,.d (dI 4)),(49,.d (dI k))]) (fun k=>k≤4∧fE (ES rt ⟨pc,ps,px,py⟩) (4-k) k=P) (fun k=>4-k) 0 rfl ⟨Nat.zero_le _,hP⟩ (fun k ⟨hk,hkP⟩=>?_));refine qX 1 rfl ?_;refine qI (AW.cond rfl (fun h=>?_) (fun h=>?_));rotate_left
 · have hkk: ¬k<4:=by have:=ar h;omega
   rw[eS hkk] at hkP;refine AW.exit ?_;refine qT 1 rfl ?_;rw[aG (x:=(i:Int)+1) (by omega) (by omega)];refine qU 1 rfl ?_;refine ae.nil ?_;exact⟨i+1,rfl,⟨hii,hmiss hkP.symm⟩,by omega⟩
 have hkk:k<4:=by have:=aq h;omega
 have km:=fun h0:ES rt ⟨pc,ps,px,py⟩ k=0=>(cZ (f:=ES rt ⟨pc,ps,px,py⟩) hkk h0).symm.trans hkP;have kh:=fun h0:ES rt ⟨pc,ps,px,py⟩ k≠0=>(eQ (f:=ES rt ⟨pc,ps,px,py⟩) hkk h0).symm.trans hkP
 obtain ⟨q,hq,hqg,hqn⟩: ∃q,[bG pc,bG ps,bG px,bG py][k]?=some (bG q)∧ES rt ⟨pc,ps,px,py⟩ k=bY rt.length q∧kz m rt q:=by
  match k,hkk with
  | 0,_=>exact⟨pc,rfl,rfl,hp.c⟩
  | 1,_=>exact⟨ps,rfl,rfl,hp.s⟩
  | 2,_=>exact⟨px,rfl,rfl,hp.x⟩
  | 3,_=>exact⟨py,rfl,rfl,hp.y⟩
 rw[hqg] at km kh;have cN:=yj ha.t hqn;unfold KB at cN;rw[J1 e2] at cN;refine AW.skip (AW.seq (AW.block (AW.seq (AW.region ?_))));refine ae.idx tok (bG q) rfl rfl rfl rfl (aj k) hq ?_;refine qU 2 rfl ?_;refine qK 3 rfl ?_;rcases e3:bY rt.length q with _ | z
 rotate_left
 · rw[e3] at kh;rw[e3,if_pos (Nat.succ_ne_zero z)] at cN;have h1:=kh (Nat.succ_ne_zero z);have h2:=hhit (by rw[← h1];exact Nat.succ_ne_zero z);rw[← h1] at h2;subst h2;refine ae.call tok rfl rfl rfl rfl cN ?_;refine qU 5 rfl ?_;refine qK 1 rfl ?_;refine ae.err tok rfl rfl rfl rfl rfl ?_;refine ae.nil ?_;refine AW.aC rfl ?_;refine qX 2 rfl ?_;exact qN rfl
 rw[e3] at km;rw[e3,if_neg (by simp)] at cN;refine ae.call tok rfl rfl rfl rfl cN ?_;refine qU 5 rfl ?_;refine qK 1 rfl ?_;refine ae.err tok rfl rfl rfl rfl rfl ?_;refine ae.nil ?_;refine AW.aD rfl ?_;refine AW.skip (qT 1 rfl ?_);rw[aG (x:=(k:Int)+1) (by omega) (by omega)];refine qU 1 rfl ?_;refine ae.nil ?_;exact⟨k+1,rfl,⟨hkk,km rfl⟩,by omega⟩
def CI(js:List bm):Nat→Int
 | 0=>0
 | i+1=>CI js i+if (js.getD i default).kind=0 then 2 else 1
theorem G5(js:List bm): ∀i,0≤CI js i∧CI js i≤2*i
 | 0=>by exact⟨Int.le_refl _,Int.le_refl _⟩
 | i+1=>by
   have:=G5 js i;show 0≤CI js i+(if _ then _ else _)∧CI js i+(if _ then _ else _)≤_;split<;>omega
def KQ(l:Lkg):Int:=3*((l.bodies.length:Int) -1) -CI l.joints l.joints.length
def KR(l:Lkg):D:=if tD l≠0 then .tu [dI 0,vC (tD l)] else .tu [dI (KQ l),aR]
theorem td(l:Lkg){K:Nat}(hl:l.ok K)(hK:K≤20000000):Pure Tryz.prog 13 [l.D] (KR l):=by
 refine qJ 34 Tryz.func13 rfl rfl rfl rfl (by kernel_rfl) (fun B0 F0 w0=>?_);have cM:=nh l hl hK;have nb:=hl.nb;have nj:=hl.nj;unfold big at nb nj;unfold KR KQ;refine qX 3 rfl ?_;refine qI (qX 1 rfl ?_);refine ae.call tok rfl rfl rfl rfl cM ?_;refine qU 1 rfl ?_;refine ae.nil ?_;rcases e1:tD l with _ | z
 rotate_left
 · rw[if_pos (Nat.succ_ne_zero z)];refine qX 1 rfl ?_;refine ae.err tok rfl rfl rfl rfl rfl ?_;refine ae.nil ?_;refine AW.aC rfl ?_;refine qX 3 rfl ?_;exact qN rfl
 rw[if_neg (by simp)];refine qX 1 rfl ?_;refine ae.err tok rfl rfl rfl rfl rfl ?_;refine ae.nil ?_;refine AW.aD rfl ?_;refine AW.skip ?_;clear cM e1 hl;obtain ⟨ln,bs,js,ds⟩:=l;simp only[] at nb nj ⊢;refine qX 3 rfl ?_;rw[ah];refine qU 1 rfl ?_;rw[aG (x:=(bs.length:Int) -1) (by omega) (by omega)];refine qU 1 rfl ?_;rw[aG (x:=3*((bs.length:Int) -1)) (by omega) (by omega)];refine qU 1 rfl ?_;refine qI (qX 3 rfl ?_);rw[ah];refine qU 1 rfl ?_;refine ae.nil ?_;refine AW.block ?_;refine AW.aL [5,19,20,21] (fun i:Nat=>[(5,.d (dI (3*((bs.length:Int) -1) -CI js i))),(19,.d (aH js)),(20,.d (dI js.length)),(21,.d (dI i))]) (fun i=>i≤js.length) (fun i=>js.length-i) 0 (by show _=([(5,.d (dI (3*((bs.length:Int) -1) -0))),(19,.d (aH js)),(20,.d (dI js.length)),(21,.d (dI (0:Nat)))]:St);rw[Int.sub_zero];rfl) (Nat.zero_le _) (fun i hi=>?_);refine qX 1 rfl ?_;refine qI (AW.cond rfl (fun h=>?_) (fun h=>?_));rotate_left
 · have hii:i=js.length:=by have:=ar h;have:i≤js.length:=hi;omega
   subst hii;refine AW.exit ?_;refine qX 3 rfl ?_;exact qN rfl
 have hii:i<js.length:=by have:=aq h;omega
 have hg:(js.map bm.D)[i]?=some (js.getD i default).D:=by simp[hii]
 have hgc:CI js (i+1)=CI js i+if (js.getD i default).kind=0 then 2 else 1:=rfl
 have gb:=G5 js i;generalize js.getD i default=j at hg hgc;obtain ⟨nm,kd,a,pt,b,on,to⟩:=j;simp only[] at hgc;refine AW.skip (AW.seq (AW.block (AW.seq (AW.region ?_))));refine ae.idx tok (bm.mk nm kd a pt b on to).D rfl rfl rfl rfl (aj i) hg ?_;refine qU 3 rfl ?_;refine qK 3 rfl ?_;refine ae.nil ?_;by_cases hkd:kd=0
 · rw[if_pos hkd] at hgc;rw[beq_iff_eq.2 hkd];refine AW.aC rfl ?_;refine qT 2 rfl ?_;rw[aG (x:=3*((bs.length:Int) -1) -CI js i-2) (by omega) (by omega),show 3*((bs.length:Int) -1) -CI js i-2=3*((bs.length:Int) -1) -CI js (i+1) by omega];refine qU 1 rfl ?_;refine ae.nil ?_;refine qT 1 rfl ?_;rw[aG (x:=(i:Int)+1) (by omega) (by omega)];refine qU 1 rfl ?_;refine ae.nil ?_;exact⟨i+1,rfl,hii,by omega⟩
 · rw[if_neg hkd] at hgc;rw[beq_eq_false_iff_ne.2 hkd];refine AW.aD rfl ?_;refine qT 2 rfl ?_;rw[aG (x:=3*((bs.length:Int) -1) -CI js i-1) (by omega) (by omega),show 3*((bs.length:Int) -1) -CI js i-1=3*((bs.length:Int) -1) -CI js (i+1) by omega];refine qU 1 rfl ?_;refine ae.nil ?_;refine qT 1 rfl ?_;rw[aG (x:=(i:Int)+1) (by omega) (by omega)];refine qU 1 rfl ?_;refine ae.nil ?_;exact⟨i+1,rfl,hii,by omega⟩
end Lift
namespace Lift
open Go Go.Proofs
section
open Go.RowKit (Below)
variable {P:Program} {T:Ty} {B:Nat} {F0:Nat→Prop} {w0:cU} {n:Nat} {σ:St} {all:Array Oper} {rest:List Oper} {o:Oper} {d:Nat} {K:St→Prop}
theorem ae.Mq(hT:bF P T){h e lo m:Nat}{av:AV}{l ys:List D}{row:AV}(hd:o.dst=some d)(hdn:Nat.ble (d+1) n=true)(hg:aF all σ o=true)(hx:MK T σ o.op=some (h,av,e,l,lo,m,ys))(hm:0<m)(hy:ys≠[])
  (he:av.cW (l.take lo++ys.take (min ys.length m)++l.drop (lo+min ys.length m))=row)
  (hk:ae P B F0 w0 n all rest K ((d,.d (.v (.int .i64 ((min ys.length m:Nat):Int))))::(h,row)::σ)):ae P B F0 w0 n all (o::rest) K σ :=
 ae.copy hT hd hdn hg hx hm hy (by rw[he];exact hk)
end
abbrev Ev(l:List NQ):List D:=l.map ao
def l3(r:List NQ)(b:Int)(x y w:NQ):List NQ:=if 0<b then r.take (3*(b.toNat-1))++[x,y,w]++r.drop (3*(b.toNat-1)+3) else r
theorem qi{r:List NQ}{b:Int}(x y w:NQ)(h:0<b→3*b.toNat≤r.length):(l3 r b x y w).length=r.length:=by
 unfold l3;split
 · rename_i h0;have:=h h0;rw[List.length_append,List.length_append,bg,List.length_drop];show min _ _+3+_=_;omega
 · rfl
def DI(V:Value)(r:List NQ)(b:Int)(x y w:NQ)(res:D)(R':List LR):Prop:=res= .tu []∧R'=[(V,AV.ow 52 (Ev (l3 r b x y w)))]
theorem iK(V:Value)(r:List NQ)(b:Int)(x y w:NQ)(h1:0<b→3*b.toNat≤r.length)(hb:b≤1000000)(hb0: -1000000≤b):lO Tryz.prog 59 [.v V,dI b,ao x,ao y,ao w] [(V,AV.ow 52 (Ev r))] (DI V r b x y w):=by
 refine lO.intro (n:=22) tok Tryz.func59 rfl rfl rfl (Nat.le_of_ble_eq_true rfl) (by kernel_rfl) (fun B0 F0 w0=>?_);unfold DI;refine AZ.seq (AZ.jw (fun B1 F1 w1=>?_));refine qU 2 rfl ?_;by_cases h0:0<b;rotate_left
 · rw[ba h0];refine ae.nil ⟨rfl,?_⟩;refine AZ.aD rfl ?_;refine AZ.skip ?_;exact⟨.tu [],rfl,rfl,by unfold l3;rw[if_neg h0]⟩
 rw[aO h0];refine ae.nil ⟨rfl,?_⟩;have h1:=h1 h0;have hlo:3*(b-1)=((3*(b.toNat-1):Nat):Int):=by omega
 refine AZ.aC rfl ?_;refine AZ.region ?_;refine ak.cut 4 rfl (fun B1 F1 w1=>?_);refine qU 3 rfl ?_;rw[aG (x:=b-1) (by omega) (by omega)];refine qU 1 rfl ?_;rw[aG (x:=3*(b-1)) (by omega) (by omega),hlo];refine ae.nil ⟨rfl,?_⟩;refine ak.fo 12 0 rfl rfl rfl ?_;refine ak.cut 6 rfl (fun B1 F1 w1=>?_);refine ae.Lq tok rfl rfl rfl rfl (aj _) trivial (by show 3*(b.toNat-1)≤(Ev r).length;rw[ah];omega) (ai _) ?_;refine qU 3 rfl ?_;refine ae.pv tok rfl rfl rfl rfl rfl ?_;refine ae.Mq tok (row:= .ow 52 (Ev (l3 r b x y w))) rfl rfl rfl rfl (by show 0<(Ev r).length-3*(b.toNat-1);rw[ah];omega) (by simp) ?_ ?_
 · have e3:min [ao x,ao y,ao w].length ((Ev r).length-3*(b.toNat-1))=3:=by
    rw[ah];show min 3 _=3;omega
   show AV.ow _ ((Ev r).take (0+3*(b.toNat-1))++[ao x,ao y,ao w].take (min [ao x,ao y,ao w].length ((Ev r).length-3*(b.toNat-1)))++(Ev r).drop (0+3*(b.toNat-1)+min [ao x,ao y,ao w].length ((Ev r).length-3*(b.toNat-1))))=_;rw[e3,Nat.zero_add];unfold l3;rw[if_pos h0];show AV.ow _ ((r.map ao).take _++[x,y,w].map ao++(r.map ao).drop _)=AV.ow _ ((_++[x,y,w]++_).map ao);rw[List.map_append,List.map_append,List.map_take,List.map_drop]
 refine ae.nil ⟨rfl,?_⟩;refine ak.back 12 0 rfl rfl rfl (List.Mem.head _) rfl ?_;refine ak.nil ?_;exact⟨.tu [],rfl,rfl,rfl⟩
end Lift
namespace Lift
open Go Go.Proofs
theorem CN{f:Nat→Nat}: ∀{m i:Nat},fE f m i=0→ ∀k,i≤k→k<i+m→f k=0
 | 0,i,_,k,h1,h2=>by omega
 | m+1,i,h,k,h1,h2=>by
   rw[fE] at h;split at h
   · rename_i h0;rcases Nat.eq_or_lt_of_le h1 with e | e
     · subst e;exact h0
     · exact CN h k (by omega) (by omega)
   · rename_i h0;exact absurd h h0
structure No (bs:List Body) (j:bm):Prop where
 k:j.kind=0∨j.kind=1
 a:0≤j.a∧j.a<bs.length
 b:0≤j.b∧j.b<bs.length
 ab:j.a≠j.b
 pt:0≤j.pt∧j.pt<(bs.getD j.a.toNat default).pts.length
 on:0≤j.on∧j.on<(bs.getD j.b.toNat default).pts.length
 to:j.kind≠0→0≤j.to∧j.to<(bs.getD j.b.toNat default).pts.length
structure LkG (l:Lkg):Prop where
 b1:0<l.bodies.length
 b8:l.bodies.length≤8
 j16:l.joints.length≤16
 p: ∀i,i<l.bodies.length→ ∀k,k<(l.bodies.getD i default).pts.length→((l.bodies.getD i default).pts.getD k default).x.okB=true∧((l.bodies.getD i default).pts.getD k default).y.okB=true
 j: ∀i,i<l.joints.length→No l.bodies (l.joints.getD i default)
theorem Bi{i:Int}{n:Nat}(h:ji i n=true):0≤i∧i<n:=aq h
theorem J4{a b:Bool}(h: ¬(a&&b)=false):a=true∧b=true:=by cases a<;>cases b<;>simp_all
theorem L0{l:Lkg}(h:tD l=0):LkG l:=by
 unfold tD at h;split at h
 · cases h
 split at h
 · cases h
 rename_i h2;split at h
 · cases h
 rename_i h3;split at h
 · rename_i h4;exact absurd h h4
 rename_i h4;split at h
 · rename_i h5;exact absurd h h5
 rename_i h5;have h4:bL l.bodies=0:=Decidable.not_not.1 h4;have h5:bA l.bodies l.joints=0:=Decidable.not_not.1 h5;unfold bL at h4;unfold bA at h5;split at h5
 · cases h5
 rename_i h6;refine⟨List.length_pos_iff.2 h2,by omega,by omega,fun i hi k hk=>?_,fun i hi=>?_⟩
 · have:=CN h4 i (Nat.zero_le _) (by omega);unfold fR at this;split at this
   · cases this
   split at this
   · cases this
   unfold rB at this;split at this
   · cases this
   have:=CN this k (Nat.zero_le _) (by omega);unfold tO at this;split at this
   · cases this
   split at this
   · cases this
   split at this
   · assumption
   · cases this
 · have:=CN h5 i (Nat.zero_le _) (by omega);unfold cY at this;split at this
   · cases this
   split at this
   · cases this
   generalize l.joints.getD i default=j at this;unfold jE at this;split at this
   · cases this
   rename_i g1;split at this
   · cases this
   rename_i g2;split at this
   · cases this
   rename_i g3;split at this
   · cases this
   rename_i g4;obtain ⟨a1,a2⟩:=J4 g2;obtain ⟨a3,a4⟩:=J4 g4
   have hk:j.kind=0∨j.kind=1:=by
    by_cases e:j.kind=0
    · exact .inl e
    · by_cases e2:j.kind=1
      · exact .inr e2
      · exact absurd ⟨e,e2⟩ g1
   refine⟨hk,Bi a1,Bi a2,g3,Bi a3,Bi a4,fun hne=>?_⟩;rw[if_neg hne] at this;split at this
   · cases this
   rename_i g5
   have:ji j.to (l.bodies.getD j.b.toNat default).pts.length=true:=by
    cases hv:ji j.to (l.bodies.getD j.b.toNat default).pts.length
    · exact absurd hv g5
    · rfl
   exact Bi this
def wS(p:gw):H7:=⟨ay p.c,ay p.s,ay p.x,ay p.y⟩
instance:Inhabited H7:=⟨⟨[],[],[],[]⟩⟩
structure My (l:Lkg) (a:Asm):Prop where
 lk:LkG l
 tw:dD a.rt=0
 ln:a.bodies.length=l.bodies.length
 pl: ∀i,i<a.bodies.length→xG a.rt (a.bodies.getD i default)=0
theorem Cr{l:Lkg}{a:Asm}(h:fU l a=0):My l a:=by
 unfold fU at h;split at h
 · rename_i h0;exact absurd h h0
 rename_i h0;split at h
 · rename_i h1;exact absurd h h1
 rename_i h1;split at h
 · cases h
 rename_i h2;exact⟨L0 (Decidable.not_not.1 h0),Decidable.not_not.1 h1,Decidable.not_not.1 h2,fun i hi=>CN h i (Nat.zero_le _) (by omega)⟩
theorem Gu{m:Nat}{rt:List (List RD)}{p:gw}(m1:1≤m)(hp:p.ok m rt)(h:xG rt p=0):(wS p).ok rt.length m∧p.D=(wS p).D:=by
 have g:=fun k (hk:k<4)=>CN (f:=ES rt p) (m:=4) (i:=0) h k (Nat.zero_le _) (by omega);have c:=jC m1 hp.c (g 0 (by decide));have s:=jC m1 hp.s (g 1 (by decide));have x:=jC m1 hp.x (g 2 (by decide));have y:=jC m1 hp.y (g 3 (by decide));refine⟨⟨⟨c.1,c.2.1⟩,⟨s.1,s.2.1⟩,⟨x.1,x.2.1⟩,⟨y.1,y.2.1⟩⟩,?_⟩;show D.ag [bG p.c,bG p.s,bG p.x,bG p.y]=_;rw[c.2.2,s.2.2,x.2.2,y.2.2];rfl
def tR(v:List NQ)(l:Lkg)(a:Asm)(b p:Int):NQ:=Lu v (wS (a.bodies.getD b.toNat default)) (rF ((l.bodies.getD b.toNat default).pts.getD p.toNat default).x.val) (rF ((l.bodies.getD b.toNat default).pts.getD p.toNat default).y.val)
def tQ(v:List NQ)(l:Lkg)(a:Asm)(b p:Int):NQ:=Lt v (wS (a.bodies.getD b.toNat default)) (rF ((l.bodies.getD b.toNat default).pts.getD p.toNat default).x.val) (rF ((l.bodies.getD b.toNat default).pts.getD p.toNat default).y.val)
def ru(n:Nat):List NQ:=List.replicate (3*(n-1)) []
def Kp(v:List NQ)(r:List NQ)(a b:Int)(px py qx qy rx ry:NQ):List NQ :=
 l3 (l3 r a (gm qy ry) (gm rx qx) (gm (fN v (gm rx qx) px) (fN v (gm qy ry) py))) b (kn (gm qy ry)) (kn (gm rx qx)) (kn (gm (fN v (gm rx qx) px) (fN v (gm qy ry) py)))
def KA(r:List NQ)(a b:Int)(py qy:NQ):List NQ:=l3 (l3 r a [1] [] (kn py)) b (kn [1]) [] qy
def Kz(r:List NQ)(a b:Int)(px qx:NQ):List NQ:=l3 (l3 r a [] [1] px) b [] (kn [1]) (kn qx)
def DY(v:List NQ)(l:Lkg)(a:Asm)(j:bm):List (List NQ) :=
 if j.kind=1 then [Kp v (ru l.bodies.length) j.a j.b (tR v l a j.a j.pt) (tQ v l a j.a j.pt) (tR v l a j.b j.on) (tQ v l a j.b j.on) (tR v l a j.b j.to) (tQ v l a j.b j.to)]
 else [KA (ru l.bodies.length) j.a j.b (tQ v l a j.a j.pt) (tQ v l a j.b j.on),Kz (ru l.bodies.length) j.a j.b (tR v l a j.a j.pt) (tR v l a j.b j.on)]
def DZ(j:bm):Nat:=if j.kind=1 then 1 else 2
theorem DX(v:List NQ)(l:Lkg)(a:Asm)(j:bm):(DY v l a j).length=DZ j:=by
 unfold DY DZ;split<;>rfl
def iB(v:List NQ)(l:Lkg)(a:Asm):Nat→List (List NQ)
 | 0=>[]
 | i+1=>iB v l a i++DY v l a (l.joints.getD i default)
def JG(js:List bm):Nat→List Int
 | 0=>[]
 | i+1=>JG js i++List.replicate (DZ (js.getD i default)) (i:Int)
theorem rr(v:List NQ)(l:Lkg)(a:Asm): ∀i,(iB v l a i).length≤2*i
 | 0=>Nat.zero_le _
 | i+1=>by
   have h1:=rr v l a i;have h2:=DX v l a (l.joints.getD i default);have h3:DZ (l.joints.getD i default)≤2:=by unfold DZ;split<;>omega
   show (iB v l a i++_).length≤_;rw[List.length_append,h2];omega
theorem DN(js:List bm): ∀i,(JG js i).length≤2*i
 | 0=>Nat.zero_le _
 | i+1=>by
   have h1:=DN js i;have h3:DZ (js.getD i default)≤2:=by unfold DZ;split<;>omega
   show (JG js i++_).length≤_;rw[List.length_append,List.length_replicate];omega
abbrev r8(r:List NQ):D:= .sl 1 (Ev r)
abbrev Mx(m:List (List NQ)):D:= .sl 1 (m.map r8)
def Ge(l:Lkg)(a:Asm):D:=if fU l a≠0 then .tu [.sl 1 [],.sl 1 [],vC (fU l a)] else .tu [Mx (iB (a.rt.map ay) l a l.joints.length),.sl 1 ((JG l.joints l.joints.length).map (fun n=>dI n)),aR]
theorem At(n:Nat):(ru n).length=3*(n-1):=List.length_replicate
end Lift
namespace Lift
open Go Go.Proofs
section
open Go.RowKit (Below)
variable {P:Program} {T:Ty} {B:Nat} {F0:Nat→Prop} {w0:cU} {n:Nat} {σ:St} {all:Array Oper} {rest:List Oper} {o:Oper} {d:Nat} {K:St→Prop}
theorem ae.GN(hT:bF P T)(r:List NQ){z e:Nat}{te:TI}{m:Int}(hd:o.dst=some d)(hdn:Nat.ble (d+1) n=true)(hg:aF all σ o=true)(hx:Ls T σ.get o.op=some (e,te,m))(hz:lQ te=true)(hzd:uj te= .sl 3 [])(hb:te.bytes=24)(hm:m=(z:Int))(h1:z≤1000000)(hr:r=List.replicate z [])
  (h:ae P B F0 w0 n all rest K ((d,.ow e (Ev r))::σ.kill d)):ae P B F0 w0 n all (o::rest) K σ:=by
 subst hm;subst hr;refine ae.make hT hd hdn hg hx hz (by omega) (by rw[hb];omega) (by omega) ?_;rw[hzd,show List.replicate ((z:Int)).toNat (D.sl 3 [])=Ev (List.replicate z []) by unfold Ev;rw[List.map_replicate];rfl];exact h
end
set_option maxHeartbeats 6400000 in
theorem A2(l:Lkg)(a:Asm)(hl:l.ok 16)(ha:a.ok 16)(h2:a.rt.length≤2)(hnb:l.bodies.length≤1000000000000):Pure Tryz.prog 32 [l.D,a.D] (Ge l a):=by
 refine qJ 211 Tryz.func32 rfl rfl rfl rfl (by kernel_rfl) (fun B0 F0 w0=>?_);have cC:=ze l a hl (by decide) hnb ha;unfold Ge;refine qX 5 rfl ?_;refine qI (qX 2 rfl ?_);refine ae.call tok rfl rfl rfl rfl cC ?_;refine qU 1 rfl ?_;refine ae.nil ?_;rcases e1:fU l a with _ | z
 rotate_left
 · rw[if_pos (Nat.succ_ne_zero z)];refine qX 1 rfl ?_;refine ae.err tok rfl rfl rfl rfl rfl ?_;refine ae.nil ?_;refine AW.aC rfl ?_;refine qX 4 rfl ?_;exact qN rfl
 rw[if_neg (by simp)];refine qX 1 rfl ?_;refine ae.err tok rfl rfl rfl rfl rfl ?_;refine ae.nil ?_;refine AW.aD rfl ?_;refine AW.skip ?_;have G:=Cr e1;have V:=jv.of ha.t G.tw;have W:=su ha.t G.tw;have hvl:(a.rt.map ay).length≤2:=by rw[ah];exact h2
 have hrt:a.rt.map bG=(a.rt.map ay).map ao:=by
  have:=W.eq;simpa using this
 have gP: ∀b:Int,0≤b→b<l.bodies.length→(a.bodies.map gw.D)[b.toNat]?=some (wS (a.bodies.getD b.toNat default)).D∧(wS (a.bodies.getD b.toNat default)).ok (a.rt.map ay).length 16:=fun b b0 b1=>by
  have hln:=G.ln;have hb:b.toNat<a.bodies.length:=by omega
  have h3:=Gu (by decide) (ha.b _ hb) (G.pl _ hb);rw[ah,← h3.2];exact⟨by simp[hb],h3.1⟩
 have gB: ∀b:Int,0≤b→b<l.bodies.length→(l.bodies.map Body.D)[b.toNat]?=some (l.bodies.getD b.toNat default).D:=fun b b0 b1=>by
  exact getM Body.D (by omega)
 have gM: ∀(b p:Int),0≤p→p<(l.bodies.getD b.toNat default).pts.length→((l.bodies.getD b.toNat default).pts.map Mark.D)[p.toNat]?=some ((l.bodies.getD b.toNat default).pts.getD p.toNat default).D:=fun b p p0 p1=>by
  exact getM Mark.D (by omega)
 have cAt: ∀(b p:Int),0≤b→b<l.bodies.length→0≤p→p<(l.bodies.getD b.toNat default).pts.length→Pure Tryz.prog 56 [x9 (a.rt.map ay),(wS (a.bodies.getD b.toNat default)).D,((l.bodies.getD b.toNat default).pts.getD p.toNat default).D] (.tu [ao (tR (a.rt.map ay) l a b p),ao (tQ (a.rt.map ay) l a b p)]):=fun b p b0 b1 p0 p1=>by
  have hm:=(hl.b b.toNat).2.2 p.toNat;have ho:=G.lk.p b.toNat (by omega) p.toNat (by omega);exact BN V hvl (gP b b0 b1).2 hm.2.1 hm.2.2 ho.1 ho.2
 have sAt: ∀(b p:Int),0≤b→b<l.bodies.length→0≤p→p<(l.bodies.getD b.toNat default).pts.length→(au (a.rt.map ay).length (tR (a.rt.map ay) l a b p)∧aB 1400 (tR (a.rt.map ay) l a b p))∧(au (a.rt.map ay).length (tQ (a.rt.map ay) l a b p)∧aB 1400 (tQ (a.rt.map ay) l a b p)):=fun b p b0 b1 p0 p1=>by
  have hm:=(hl.b b.toNat).2.2 p.toNat;exact J3 V hvl (gP b b0 b1).2 (kU _ (cu hm.2.1 (by decide))) (kU _ (cu hm.2.2 (by decide)))
 have hRs: ∀i,iB (a.rt.map ay) l a (i+1)=iB (a.rt.map ay) l a i++DY (a.rt.map ay) l a (l.joints.getD i default):=fun i=>rfl;have hR0:iB (a.rt.map ay) l a 0=[]:=rfl;have hRl:=rr (a.rt.map ay) l a;have hJ: ∀j,DY (a.rt.map ay) l a j=if j.kind=1 then [Kp (a.rt.map ay) (ru l.bodies.length) j.a j.b (tR (a.rt.map ay) l a j.a j.pt) (tQ (a.rt.map ay) l a j.a j.pt) (tR (a.rt.map ay) l a j.b j.on) (tQ (a.rt.map ay) l a j.b j.on) (tR (a.rt.map ay) l a j.b j.to) (tQ (a.rt.map ay) l a j.b j.to)] else [KA (ru l.bodies.length) j.a j.b (tQ (a.rt.map ay) l a j.a j.pt) (tQ (a.rt.map ay) l a j.b j.on),Kz (ru l.bodies.length) j.a j.b (tR (a.rt.map ay) l a j.a j.pt) (tR (a.rt.map ay) l a j.b j.on)]:=fun j=>rfl
 generalize iB (a.rt.map ay) l a=R at hRs hR0 hRl ⊢;generalize tR (a.rt.map ay) l a=X at cAt sAt hJ;generalize tQ (a.rt.map ay) l a=Y at cAt sAt hJ;generalize DY (a.rt.map ay) l a=J at hRs hJ;have hOs: ∀i,JG l.joints (i+1)=JG l.joints i++List.replicate (DZ (l.joints.getD i default)) (i:Int):=fun i=>rfl;have hO0:JG l.joints 0=[]:=rfl;have hOl:=DN l.joints;generalize JG l.joints=O at hOs hO0 hOl ⊢;have LG:=G.lk;clear e1 G W cC ha;obtain ⟨ln,lb,js,lds⟩:=l;obtain ⟨rt,bs,md⟩:=a;have lb1:=LG.b1;have lb8:=LG.b8;have lj:=LG.j16;have lJ:=LG.j;clear LG;simp only[] at *
 have hD:(Asm.mk rt bs md).D=D.ag [.sl 1 ((rt.map ay).map ao),.sl 4 (bs.map gw.D),.sl 1 (md.map (fun n=>dI n))]:=by
  show D.ag [.sl 1 (rt.map bG),_,_]=_;rw[hrt]
 rw[hD];clear hrt hD;generalize rt.map ay=v at *;refine qX 4 rfl ?_;refine ae.M5 34 rfl ?_;refine qU 1 rfl ?_;refine qK 1 rfl ?_;refine qK 1 rfl ?_;refine qI (qX 3 rfl ?_);rw[ah];refine qU 1 rfl ?_;refine ae.nil ?_;refine AW.block ?_;refine AW.aL [2,3,8,9,10,36,37,38] (fun i:Nat=>[(2,.bx [dS ln,aJ lb,aH js,aI lds]),(3,.bx [.sl 1 (v.map ao),.sl 4 (bs.map gw.D),.sl 1 (md.map (fun n=>dI n))]),(8,.d (x9 v)),(9,.ow 27 ((R i).map r8)),(10,.ow 3 ((O i).map (fun n=>dI n))),(36,.d (aH js)),(37,.d (dI js.length)),(38,.d (dI i))]) (fun i=>i≤js.length) (fun i=>js.length-i) 0 (by show _=([(2,.bx [dS ln,aJ lb,aH js,aI lds]),(3,.bx [.sl 1 (v.map ao),.sl 4 (bs.map gw.D),.sl 1 (md.map (fun n=>dI n))]),(8,.d (x9 v)),(9,.ow 27 ((R 0).map r8)),(10,.ow 3 ((O 0).map (fun n=>dI n))),(36,.d (aH js)),(37,.d (dI js.length)),(38,.d (dI (0:Nat)))]:St);rw[hR0,hO0];rfl) (Nat.zero_le _) (fun i hi=>?_);refine qX 1 rfl ?_;refine qI (AW.cond rfl (fun h=>?_) (fun h=>?_));rotate_left
 · have hii:i=js.length:=by have:=ar h;have:i≤js.length:=hi;omega
   subst hii;refine AW.exit (AW.seq ?_);refine AW.jK tok 9 rfl rfl ?_;refine AW.jK tok 10 rfl rfl ?_;refine AW.draw aW 8 (by kernel_rfl) ?_;refine qP 3 rfl ?_;refine af.AU tok rfl rfl rfl rfl rfl ?_;refine qP 4 rfl ?_;refine af.nil ?_;refine qU 1 rfl ?_;exact qN rfl
 have hii:i<js.length:=by have:=aq h;omega
 have hg:(js.map bm.D)[i]?=some (js.getD i default).D:=by simp[hii]
 have jg:=lJ i hii;have hRi:=hRs i;have hOi:=hOs i;have hRl:=hRl i;have hOl:=hOl i;rw[hJ] at hRi;generalize js.getD i default=j at hg jg hRi hOi;obtain ⟨nm,kd,ja,jp,jb,jo,jt⟩:=j;obtain ⟨jk,⟨a0,a1⟩,⟨b0,b1⟩,ab,⟨p0,p1⟩,⟨o0,o1⟩,jto⟩:=jg;simp only[] at *;have gPa:=(gP ja a0 a1).1;have gPb:=(gP jb b0 b1).1;have gBa:=gB ja a0 a1;have gBb:=gB jb b0 b1;have gMp:=gM ja jp p0 p1;have gMo:=gM jb jo o0 o1;have cA:=cAt ja jp a0 a1 p0 p1;have cB:=cAt jb jo b0 b1 o0 o1;obtain ⟨⟨sx1,sx2⟩,⟨sy1,sy2⟩⟩:=sAt ja jp a0 a1 p0 p1;obtain ⟨⟨tx1,tx2⟩,⟨ty1,ty2⟩⟩:=sAt jb jo b0 b1 o0 o1;refine AW.skip (AW.seq (AW.block ?_));refine qX 1 rfl ?_;refine ae.idx tok (bm.mk nm kd ja jp jb jo jt).D rfl rfl rfl rfl (aj i) hg ?_;refine qU 4 rfl ?_;refine qK 4 rfl ?_;refine ae.idx tok (lb.getD jb.toNat default).D rfl rfl rfl rfl b0 gBb ?_;refine qU 3 rfl ?_;refine qI (AW.draw aW 23 (by kernel_rfl) ?_);refine qP 5 rfl ?_;refine af.idx tok (wS (bs.getD ja.toNat default)).D rfl rfl rfl rfl rfl a0 gPa ?_;refine qP 5 rfl ?_;refine af.idx tok (lb.getD ja.toNat default).D rfl rfl rfl rfl rfl a0 gBa ?_;refine qP 4 rfl ?_;refine af.idx tok ((lb.getD ja.toNat default).pts.getD jp.toNat default).D rfl rfl rfl rfl rfl p0 gMp ?_;refine qP 1 rfl ?_;refine af.call tok rfl rfl rfl rfl rfl cA ?_;refine qP 4 rfl ?_;refine af.nil ?_;refine qU 1 rfl ?_;refine qI (AW.draw aW 17 (by kernel_rfl) ?_);refine qP 5 rfl ?_;refine af.idx tok (wS (bs.getD jb.toNat default)).D rfl rfl rfl rfl rfl b0 gPb ?_;refine qP 4 rfl ?_;refine af.idx tok ((lb.getD jb.toNat default).pts.getD jo.toNat default).D rfl rfl rfl rfl rfl o0 gMo ?_;refine qP 1 rfl ?_;refine af.call tok rfl rfl rfl rfl rfl cB ?_;refine qP 4 rfl ?_;refine af.nil ?_;refine qU 1 rfl ?_;refine qK 3 rfl ?_;rw[ah];refine qU 1 rfl ?_;rw[aG (x:=(lb.length:Int) -1) (by omega) (by omega)];refine qU 1 rfl ?_;rw[aG (x:=3*((lb.length:Int) -1)) (by omega) (by omega)];refine ae.GN tok (ru lb.length) (z:=3*(lb.length-1)) rfl rfl rfl rfl rfl rfl rfl (by omega) (by omega) rfl ?_;refine qU 1 rfl ?_;refine ae.nil ?_;have hzl:=At lb.length;have hzr:ru lb.length=List.replicate (3*(lb.length-1)) []:=rfl;generalize ru lb.length=Z at hRi hzl hzr ⊢;refine AW.seq (qX 3 rfl ?_);refine ae.nil ?_;have ga:0<ja→3*ja.toNat≤Z.length:=fun h=>by rw[hzl];omega
 have gb:0<jb→3*jb.toNat≤Z.length:=fun h=>by rw[hzl];omega
 have V2:=V.mono (k:=1400) (by decide) (by decide);have V3:=V.mono (k:=2801) (by decide) (by decide);have V4:=V.mono (k:=120000) (by decide) (by decide);have V5:=V.mono (k:=240000) (by decide) (by decide);have sT3:=tK (m:=2801) hvl;by_cases hk1:kd=1
 · rw[if_pos hk1] at hRi;rw[beq_iff_eq.2 hk1];rw[show DZ (bm.mk nm kd ja jp jb jo jt)=1 by unfold DZ;rw[if_pos hk1]] at hOi;obtain ⟨r0,r1⟩:=jto (by omega);have gMt:=gM jb jt r0 r1;have cT:=cAt jb jt b0 b1 r0 r1;obtain ⟨⟨ux1,ux2⟩,⟨uy1,uy2⟩⟩:=sAt jb jt b0 b1 r0 r1;generalize X ja jp=px at *;generalize Y ja jp=py at *;generalize X jb jo=qx at *;generalize Y jb jo=qy at *;generalize X jb jt=rx at *;generalize Y jb jt=ry at *;have n1:=iY V2 ty1 ty2 uy1 uy2;have n2:=iY V2 ux1 ux2 tx1 tx2;have m1:=kE ty1 ty2 uy1 uy2;have m2:=kE ux1 ux2 tx1 tx2;unfold Kp at hRi;generalize gm qy ry=nx at *;generalize gm rx qx=ny at *;have n3:=gA (by omega) V3 m2.1 (m2.2.mono (by decide)) sx1 (sx2.mono (by decide));have n4:=gA (by omega) V3 m1.1 (m1.2.mono (by decide)) sy1 (sy2.mono (by decide));have m3:=gi V3 m2.1 (m2.2.mono (by decide)) sx1 (sx2.mono (by decide));have m4:=gi V3 m1.1 (m1.2.mono (by decide)) sy1 (sy2.mono (by decide));generalize fN v ny px=e1 at *;generalize fN v nx py=e2 at *;have n5:=iY V4 m3.1 (m3.2.mono (by omega)) m4.1 (m4.2.mono (by omega));have m5:=kE m3.1 m3.2 m4.1 m4.2;generalize gm e1 e2=mm at *;have n6:=gz V5 m1.1 (m1.2.mono (by decide));have n7:=gz V5 m2.1 (m2.2.mono (by decide));have n8:=gz V5 m5.1 (m5.2.mono (by omega));generalize kn nx=nx' at *;generalize kn ny=ny' at *;generalize kn mm=mm' at *;have u1:=fun V=>iK V Z ja nx ny mm ga (by omega) (by omega);have u2:=fun V=>iK V (l3 Z ja nx ny mm) jb nx' ny' mm' (by rw[qi _ _ _ ga];exact gb) (by omega) (by omega);refine AW.aC rfl ?_;refine AW.seq (AW.draw aW 17 (by kernel_rfl) ?_);refine qP 5 rfl ?_;refine af.idx tok (wS (bs.getD jb.toNat default)).D rfl rfl rfl rfl rfl b0 gPb ?_;refine qP 4 rfl ?_;refine af.idx tok ((lb.getD jb.toNat default).pts.getD jt.toNat default).D rfl rfl rfl rfl rfl r0 gMt ?_;refine qP 1 rfl ?_;refine af.call tok rfl rfl rfl rfl rfl cT ?_;refine qP 4 rfl ?_;refine af.nil ?_;refine qU 1 rfl ?_;refine qK 3 rfl ?_;refine ae.call tok rfl rfl rfl rfl n1 ?_;refine qU 3 rfl ?_;refine ae.call tok rfl rfl rfl rfl n2 ?_;refine qU 2 rfl ?_;refine qK 4 rfl ?_;refine ae.call tok rfl rfl rfl rfl n3 ?_;refine qU 3 rfl ?_;refine ae.call tok rfl rfl rfl rfl n4 ?_;refine ae.call tok rfl rfl rfl rfl n5 ?_;refine qU 1 rfl ?_;refine ae.nil ?_;refine AZ.aw ?_;refine AZ.iL 18 rfl rfl rfl (fun V1=>?_);refine AZ.to [2,3,8,9,10,36,37,38,11,12,18,21,22,23] ([(2,.bx [dS ln,aJ lb,aH js,aI lds]),(3,.bx [.sl 1 (v.map ao),.sl 4 (bs.map gw.D),.sl 1 (md.map (fun n=>dI n))]),(8,.d (x9 v)),(9,.ow 27 ((R i).map r8)),(10,.ow 3 ((O i).map (fun n=>dI n))),(36,.d (aH js)),(37,.d (dI js.length)),(38,.d (dI i)),(11,.d (dI i)),(12,.bx [dS nm,dI kd,dI ja,dI jp,dI jb,dI jo,dI jt]),(18,.d (.v V1)),(21,.d (ao nx)),(22,.d (ao ny)),(23,.d (ao mm))]:St) rfl ?_;refine AZ.seq (AZ.region ?_);refine ak.cut 6 rfl (fun B1 F1 w1=>?_);refine qU 6 rfl ?_;refine ae.nil ⟨rfl,?_⟩;refine ak.ju tok [0] rfl rfl rfl rfl rfl (by simp) rfl (u1 V1) (fun res R1 hP=>by rw[hP.2];exact ai _) (fun res R1 hP=>?_);obtain ⟨rfl,rfl⟩:=hP;refine ak.nil ?_;refine AZ.to [2,3,8,9,10,36,37,38,11,12,18,21,22,23] ([(2,.bx [dS ln,aJ lb,aH js,aI lds]),(3,.bx [.sl 1 (v.map ao),.sl 4 (bs.map gw.D),.sl 1 (md.map (fun n=>dI n))]),(8,.d (x9 v)),(9,.ow 27 ((R i).map r8)),(10,.ow 3 ((O i).map (fun n=>dI n))),(36,.d (aH js)),(37,.d (dI js.length)),(38,.d (dI i)),(11,.d (dI i)),(12,.bx [dS nm,dI kd,dI ja,dI jp,dI jb,dI jo,dI jt]),(18,.d (.v V1)),(21,.d (ao nx)),(22,.d (ao ny)),(23,.d (ao mm))]:St) rfl ?_;refine AZ.seq (AZ.any aW (lK.draw 12 (by kernel_rfl) (fun B1 F1 w1=>?_)));refine qP 5 rfl ?_;refine af.call tok rfl rfl rfl rfl rfl n6 ?_;refine qP 2 rfl ?_;refine af.call tok rfl rfl rfl rfl rfl n7 ?_;refine qP 2 rfl ?_;refine af.call tok rfl rfl rfl rfl rfl n8 ?_;refine af.nil ⟨rfl,?_⟩;refine ak.ju tok [0] rfl rfl rfl rfl rfl (by simp) rfl (u2 V1) (fun res R1 hP=>by rw[hP.2];exact ai _) (fun res R1 hP=>?_);obtain ⟨rfl,rfl⟩:=hP;refine ak.nil ?_;refine AZ.to [2,3,8,9,10,36,37,38,11,12,18,21,22,23] ([(2,.bx [dS ln,aJ lb,aH js,aI lds]),(3,.bx [.sl 1 (v.map ao),.sl 4 (bs.map gw.D),.sl 1 (md.map (fun n=>dI n))]),(8,.d (x9 v)),(9,.ow 27 ((R i).map r8)),(10,.ow 3 ((O i).map (fun n=>dI n))),(36,.d (aH js)),(37,.d (dI js.length)),(38,.d (dI i)),(11,.d (dI i)),(12,.bx [dS nm,dI kd,dI ja,dI jp,dI jb,dI jo,dI jt]),(18,.d (.v V1)),(21,.d (ao nx)),(22,.d (ao ny)),(23,.d (ao mm))]:St) rfl ?_;refine AZ.seq (AZ.fo 18 0 rfl rfl rfl ?_);refine AZ.jw (fun B1 F1 w1=>?_);refine ae.jK tok 18 rfl rfl ?_;refine qU 2 rfl ?_;refine ae.bs tok rfl rfl rfl rfl ?_;refine ae.ou tok rfl rfl rfl rfl rfl rfl (by rw[ah];show (_+1)*24≤_;omega) (by rw[ah];show _+1≤_;omega) ?_;refine qU 2 rfl ?_;refine ae.bs tok rfl rfl rfl rfl ?_;refine ae.ou tok rfl rfl rfl rfl rfl rfl (by rw[ah];show (_+1)*8≤_;omega) (by rw[ah];show _+1≤_;omega) ?_;refine qU 2 rfl ?_;refine ae.nil ⟨rfl,?_⟩;refine AZ.exit ?_;refine qT 1 rfl ?_;rw[aG (x:=(i:Int)+1) (by omega) (by omega)];refine qU 1 rfl ?_;refine ae.nil ?_;exact⟨i+1,by show _=([(2,.bx [dS ln,aJ lb,aH js,aI lds]),(3,.bx [.sl 1 (v.map ao),.sl 4 (bs.map gw.D),.sl 1 (md.map (fun n=>dI n))]),(8,.d (x9 v)),(9,.ow 27 ((R (i+1)).map r8)),(10,.ow 3 ((O (i+1)).map (fun n=>dI n))),(36,.d (aH js)),(37,.d (dI js.length)),(38,.d (dI (i+1:Nat)))]:St);rw[hRi,hOi,List.map_append,List.map_append];rfl,hii,by omega⟩
 rw[if_neg hk1] at hRi;rw[beq_eq_false_iff_ne.2 hk1];rw[show DZ (bm.mk nm kd ja jp jb jo jt)=2 by unfold DZ;rw[if_neg hk1]] at hOi;generalize X ja jp=px at *;generalize Y ja jp=py at *;generalize X jb jo=qx at *;generalize Y jb jo=qy at *;have o1:=kU v.length (q:=1) (k:=1) (by have:=gx;omega);have n6:=gz V2 sy1 sy2;have n7:=gz V2 tx1 tx2;have n8:Pure Tryz.prog 60 [x9 v,ao [1]] (ao (kn [1])):=gz V2 (eW _ _) (fX (by have:=gx;omega));unfold KA Kz at hRi;generalize kn py=py' at *;generalize kn qx=qx' at *;generalize kn [1]=on' at *;have u1:=fun V=>iK V Z ja [1] [] py' ga (by omega) (by omega);have u2:=fun V=>iK V (l3 Z ja [1] [] py') jb on' [] qy (by rw[qi _ _ _ ga];exact gb) (by omega) (by omega);have u3:=fun V=>iK V Z ja [] [1] px ga (by omega) (by omega);have u4:=fun V=>iK V (l3 Z ja [] [1] px) jb [] on' qx' (by rw[qi _ _ _ ga];exact gb) (by omega) (by omega);refine AW.aD rfl ?_;refine AW.skip (qX 2 rfl ?_);rw[ah,hzl];refine ae.GN tok Z (z:=3*(lb.length-1)) rfl rfl rfl rfl rfl rfl rfl rfl (by omega) hzr ?_;refine qU 1 rfl ?_;refine ae.nil ?_;refine AZ.aw ?_;refine AZ.iL 18 rfl rfl rfl (fun V1=>?_);refine AZ.iL 24 rfl rfl rfl (fun V2=>?_);refine AZ.to [2,3,8,9,10,36,37,38,11,12,14,15,16,17,18,24] ([(2,.bx [dS ln,aJ lb,aH js,aI lds]),(3,.bx [.sl 1 (v.map ao),.sl 4 (bs.map gw.D),.sl 1 (md.map (fun n=>dI n))]),(8,.d (x9 v)),(9,.ow 27 ((R i).map r8)),(10,.ow 3 ((O i).map (fun n=>dI n))),(36,.d (aH js)),(37,.d (dI js.length)),(38,.d (dI i)),(11,.d (dI i)),(12,.bx [dS nm,dI kd,dI ja,dI jp,dI jb,dI jo,dI jt]),(14,.d (ao px)),(15,.d (ao py)),(16,.d (ao qx)),(17,.d (ao qy)),(18,.d (.v V1)),(24,.d (.v V2))]:St) rfl ?_;refine AZ.seq (AZ.any aW (lK.draw 7 (by kernel_rfl) (fun B1 F1 w1=>?_)));refine qP 3 rfl ?_;refine af.call tok rfl rfl rfl rfl rfl l6 ?_;refine qP 2 rfl ?_;refine af.call tok rfl rfl rfl rfl rfl n6 ?_;refine af.nil ⟨rfl,?_⟩;refine ak.ju tok [0] rfl rfl rfl rfl rfl (by simp) rfl (u1 V1) (fun res R1 hP=>by rw[hP.2];exact ai _) (fun res R1 hP=>?_);obtain ⟨rfl,rfl⟩:=hP;refine ak.nil ?_;refine AZ.to [2,3,8,9,10,36,37,38,11,12,14,15,16,17,18,24] ([(2,.bx [dS ln,aJ lb,aH js,aI lds]),(3,.bx [.sl 1 (v.map ao),.sl 4 (bs.map gw.D),.sl 1 (md.map (fun n=>dI n))]),(8,.d (x9 v)),(9,.ow 27 ((R i).map r8)),(10,.ow 3 ((O i).map (fun n=>dI n))),(36,.d (aH js)),(37,.d (dI js.length)),(38,.d (dI i)),(11,.d (dI i)),(12,.bx [dS nm,dI kd,dI ja,dI jp,dI jb,dI jo,dI jt]),(14,.d (ao px)),(15,.d (ao py)),(16,.d (ao qx)),(17,.d (ao qy)),(18,.d (.v V1)),(24,.d (.v V2))]:St) rfl ?_;refine AZ.seq (AZ.any aW (lK.draw 7 (by kernel_rfl) (fun B1 F1 w1=>?_)));refine qP 4 rfl ?_;refine af.call tok rfl rfl rfl rfl rfl l6 ?_;refine af.call tok rfl rfl rfl rfl rfl n8 ?_;refine qP 1 rfl ?_;refine af.nil ⟨rfl,?_⟩;refine ak.ju tok [0] rfl rfl rfl rfl rfl (by simp) rfl (u2 V1) (fun res R1 hP=>by rw[hP.2];exact ai _) (fun res R1 hP=>?_);obtain ⟨rfl,rfl⟩:=hP;refine ak.nil ?_;refine AZ.to [2,3,8,9,10,36,37,38,11,12,14,15,16,17,18,24] ([(2,.bx [dS ln,aJ lb,aH js,aI lds]),(3,.bx [.sl 1 (v.map ao),.sl 4 (bs.map gw.D),.sl 1 (md.map (fun n=>dI n))]),(8,.d (x9 v)),(9,.ow 27 ((R i).map r8)),(10,.ow 3 ((O i).map (fun n=>dI n))),(36,.d (aH js)),(37,.d (dI js.length)),(38,.d (dI i)),(11,.d (dI i)),(12,.bx [dS nm,dI kd,dI ja,dI jp,dI jb,dI jo,dI jt]),(14,.d (ao px)),(15,.d (ao py)),(16,.d (ao qx)),(17,.d (ao qy)),(18,.d (.v V1)),(24,.d (.v V2))]:St) rfl ?_;refine AZ.seq (AZ.any aW (lK.draw 5 (by kernel_rfl) (fun B1 F1 w1=>?_)));refine qP 3 rfl ?_;refine af.call tok rfl rfl rfl rfl rfl l6 ?_;refine qP 1 rfl ?_;refine af.nil ⟨rfl,?_⟩;refine ak.ju tok [1] rfl rfl rfl rfl rfl (by simp) rfl (u3 V2) (fun res R1 hP=>by rw[hP.2];exact ai _) (fun res R1 hP=>?_);obtain ⟨rfl,rfl⟩:=hP;refine ak.nil ?_;refine AZ.to [2,3,8,9,10,36,37,38,11,12,14,15,16,17,18,24] ([(2,.bx [dS ln,aJ lb,aH js,aI lds]),(3,.bx [.sl 1 (v.map ao),.sl 4 (bs.map gw.D),.sl 1 (md.map (fun n=>dI n))]),(8,.d (x9 v)),(9,.ow 27 ((R i).map r8)),(10,.ow 3 ((O i).map (fun n=>dI n))),(36,.d (aH js)),(37,.d (dI js.length)),(38,.d (dI i)),(11,.d (dI i)),(12,.bx [dS nm,dI kd,dI ja,dI jp,dI jb,dI jo,dI jt]),(14,.d (ao px)),(15,.d (ao py)),(16,.d (ao qx)),(17,.d (ao qy)),(18,.d (.v V1)),(24,.d (.v V2))]:St) rfl ?_;refine AZ.seq (AZ.any aW (lK.draw 9 (by kernel_rfl) (fun B1 F1 w1=>?_)));refine qP 4 rfl ?_;refine af.call tok rfl rfl rfl rfl rfl l6 ?_;refine af.call tok rfl rfl rfl rfl rfl n8 ?_;refine qP 2 rfl ?_;refine af.call tok rfl rfl rfl rfl rfl n7 ?_;refine af.nil ⟨rfl,?_⟩;refine ak.ju tok [1] rfl rfl rfl rfl rfl (by simp) rfl (u4 V2) (fun res R1 hP=>by rw[hP.2];exact ai _) (fun res R1 hP=>?_);obtain ⟨rfl,rfl⟩:=hP;refine ak.nil ?_;refine AZ.to [2,3,8,9,10,36,37,38,11,12,14,15,16,17,18,24] ([(2,.bx [dS ln,aJ lb,aH js,aI lds]),(3,.bx [.sl 1 (v.map ao),.sl 4 (bs.map gw.D),.sl 1 (md.map (fun n=>dI n))]),(8,.d (x9 v)),(9,.ow 27 ((R i).map r8)),(10,.ow 3 ((O i).map (fun n=>dI n))),(36,.d (aH js)),(37,.d (dI js.length)),(38,.d (dI i)),(11,.d (dI i)),(12,.bx [dS nm,dI kd,dI ja,dI jp,dI jb,dI jo,dI jt]),(14,.d (ao px)),(15,.d (ao py)),(16,.d (ao qx)),(17,.d (ao qy)),(18,.d (.v V1)),(24,.d (.v V2))]:St) rfl ?_;refine AZ.fo 18 0 rfl rfl rfl ?_;refine AZ.fo 24 1 rfl rfl rfl ?_;refine AZ.jw (fun B1 F1 w1=>?_);refine ae.jK tok 18 rfl rfl ?_;refine ae.jK tok 24 rfl rfl ?_;refine qU 3 rfl ?_;refine ae.bs tok rfl rfl rfl rfl ?_;refine ae.ou tok rfl rfl rfl rfl rfl rfl (by rw[ah];show (_+2)*24≤_;omega) (by rw[ah];show _+2≤_;omega) ?_;refine qU 3 rfl ?_;refine ae.bs tok rfl rfl rfl rfl ?_;refine ae.ou tok rfl rfl rfl rfl rfl rfl (by rw[ah];show (_+2)*8≤_;omega) (by rw[ah];show _+2≤_;omega) ?_;refine qU 2 rfl ?_;refine ae.nil ⟨rfl,?_⟩;refine qT 1 rfl ?_;rw[aG (x:=(i:Int)+1) (by omega) (by omega)];refine qU 1 rfl ?_;refine ae.nil ?_;exact⟨i+1,by show _=([(2,.bx [dS ln,aJ lb,aH js,aI lds]),(3,.bx [.sl 1 (v.map ao),.sl 4 (bs.map gw.D),.sl 1 (md.map (fun n=>dI n))]),(8,.d (x9 v)),(9,.ow 27 ((R (i+1)).map r8)),(10,.ow 3 ((O (i+1)).map (fun n=>dI n))),(36,.d (aH js)),(37,.d (dI js.length)),(38,.d (dI (i+1:Nat)))]:St);rw[hRi,hOi,List.map_append,List.map_append];rfl,hii,by omega⟩
end Lift
namespace Lift
open Go Go.Proofs
def ky(R:NQ→NQ)(S:NQ→Int)(N:NQ→NQ)(T:NQ→NQ→NQ)(s:NQ):NQ :=
 if s.length=1 then [1 / s.getD 0 0] else
 if S (N s)=0 then R (aX (s.take (s.length / 2)) (s.take (s.length / 2))) else
 T (dN (s.take (s.length / 2)) (aZ (s.drop (s.length / 2))) (s.length / 2)) (R (N s))
def bX:Nat→List NQ→NQ→NQ
 | 0,rt,a=>ky (fun _=>[]) (fun _=>0) (fun a=>a) (fun _ _=>[]) (aA a)
 | l+1,rt,a=>ky (bX l rt) (ed l rt) (fc l rt) (aU (l+1) rt) (aA a)
def LO(O:NQ→Prop)(R:NQ→NQ)(S:NQ→Int)(Sk:NQ→Prop)(N:NQ→NQ)(Nk:NQ→Prop)(Tk:NQ→NQ→Prop)(s:NQ):Prop:=s.length≠0∧(s.length≠1 →
 Nk s∧Sk (N s)∧(S (N s)=0→O (aX (s.take (s.length / 2)) (s.take (s.length / 2)))) ∧
 (S (N s)≠0→O (N s)∧Tk (dN (s.take (s.length / 2)) (aZ (s.drop (s.length / 2))) (s.length / 2)) (R (N s))))
def Lr:Nat→List NQ→NQ→Prop
 | 0,rt,a=>oT a∧(aA a).length≠0
 | l+1,rt,a=>oT a∧LO (Lr l rt) (bX l rt) (ed l rt) (GC l rt) (fc l rt) (KC l rt) (AM (l+1) rt) (aA a)
theorem nR{l:Nat}{a:NQ}(ha:au l a)(h:(aA a).length=1):(aA a).getD 0 0≠0:=(gF ha).one h
theorem D0{l:Nat}{R:NQ→NQ}{S:NQ→Int}{N:NQ→NQ}{T:NQ→NQ→NQ}{s:NQ}(hs:au l s)(h0:s.length≠0)
  (hR: ∀l',l=l'+1→ ∀b,au l' b→au l' (R b)) (hN: ∀l',l=l'+1→ ∀j,j≤l'→s.length=2^(j+1)→au l' (N s)) (hT: ∀b c,au l b→au l c→au l (T b c)):au l (ky R S N T s):=by
 unfold ky;split
 · exact eW _ _
 rename_i h1
 obtain ⟨i,hi,hla2⟩: ∃i,i≤l∧s.length=2^i:=by
  rcases hs with e | e
  · omega
  · exact e
 have vy:i≠0:=fun e=>h1 (by rw[hla2,e]);obtain ⟨j,rfl⟩: ∃j,i=j+1:=⟨i-1,by omega⟩;obtain ⟨l',rfl⟩: ∃l',l=l'+1:=⟨l-1,by omega⟩;obtain ⟨e1,e2,e3⟩:=bC hla2;have hx:au l' (s.take (s.length / 2)):= .inr ⟨j,by omega,e1⟩;have hN:=hN l' rfl j (by omega) hla2;split
 · exact(hR l' rfl _ (hx.plus hx)).mono (by omega)
 · exact hT _ _ (.inr ⟨j+1,by omega,by rw[dG,e3,Nat.pow_succ];omega⟩) ((hR l' rfl _ hN).mono (by omega))
theorem gu: ∀(l:Nat) {rt:List NQ} {a:NQ},au l a→cK rt→l≤rt.length→au l (bX l rt a)
 | 0,rt,a,ha,hrt,hl=>by
   have hs:=bV ha;show au 0 (ky _ _ _ _ _);by_cases h0:(aA a).length=0
   · rw[List.length_eq_zero_iff.1 h0];exact cy _
   · exact D0 hs h0 (fun l' h=>by omega) (fun l' h=>by omega) (fun _ _ _ _=>cy _)
 | l+1,rt,a,ha,hrt,hl=>by
   have hs:=bV ha;show au (l+1) (ky _ _ _ _ _);by_cases h0:(aA a).length=0
   · rw[List.length_eq_zero_iff.1 h0];unfold ky;rw[if_neg (by decide)];split
     · exact(gu l (cy _) hrt (by omega)).mono (by omega)
     · exact e7 (l+1) (cy _) ((gu l (by
        obtain ⟨K,k1,_,k3⟩:=xf (fc l rt []) [] rt;unfold fc
        have t0: ∀c,au l (aU l rt c []):=fun c=>by
         cases l with
         | zero=>show au 0 (ku _ c []);unfold ku;rw[if_neg (show ¬c.length<([]:NQ).length from Nat.not_lt_zero _)];unfold jD;rw[if_pos (by show (bD c||true)=true;rw[Bool.or_true])];exact cy _
         | succ l=>show au (l+1) (ku _ c []);unfold ku;rw[if_neg (show ¬c.length<([]:NQ).length from Nat.not_lt_zero _)];unfold jD;rw[if_pos (by show (bD c||true)=true;rw[Bool.or_true])];exact cy _
        have e:rt.getD (Nat.log2 ([]:NQ).length-1) []=rt.getD 0 []:=rfl;have hd:au l (rt.getD 0 []):= .inr ⟨0,Nat.zero_le _,hrt 0 (by omega)⟩
        exact(t0 []).plus (e7 l (t0 []) hd hrt (by omega)).minus) hrt (by omega)).mono (by omega)) hrt hl
   · exact D0 hs h0 (fun l' e b hb=>by
      obtain rfl:l=l':=by omega
      exact gu l hb hrt (by omega)) (fun l' e j h1 h2=>by
      obtain rfl:l=l':=by omega
      exact tU h1 h2 hrt (by omega)) (fun b c hb hc=>e7 (l+1) hb hc hrt hl)
set_option maxHeartbeats 1600000 in
theorem Bg{l:Nat}{O:NQ→Prop}{R:NQ→NQ}{S:NQ→Int}{Sk:NQ→Prop}{N:NQ→NQ}{Nk:NQ→Prop}{T:NQ→NQ→NQ}{Tk:NQ→NQ→Prop}{rt:List NQ}{a:NQ}(ha:au l a)(hl5:l≤5)(hl:l≤rt.length)(hl10:rt.length≤10)(sa:oT a)(h0:(aA a).length≠0)
  (hok:l≠0→LO O R S Sk N Nk Tk (aA a))
  (hR: ∀l',l=l'+1→ ∀b,au l' b→O b→Pure Tryz.prog 175 [iF rt,ao b] (ao (R b)))
  (hRl: ∀l',l=l'+1→ ∀b,au l' b→au l' (R b))
  (hS: ∀l',l=l'+1→ ∀b,au l' b→Sk b→Pure Tryz.prog 45 [iF rt,ao b] (dI (S b)))
  (hN: ∀l',l=l'+1→ ∀b j,j≤l'→b.length=2^(j+1)→Nk b→Pure Tryz.prog 87 [iF rt,ao b] (ao (N b))∧au l' (N b))
  (hT: ∀b c,au l b→au l c→Tk b c→Pure Tryz.prog 128 [iF rt,ao b,ao c] (ao (T b c))):
  Pure Tryz.prog 175 [iF rt,ao a] (ao (ky R S N T (aA a))):=by
 refine qJ 57 Tryz.func175 rfl rfl rfl rfl (by kernel_rfl) (fun B F0 w0=>?_);have cs:=bO a ha hl5 sa (by omega);have hone:=nR ha;obtain ⟨ha,sa⟩:=bd ha sa;generalize aA a=b at cs ha sa hok hone h0 ⊢;have hlb:=ha.len (by omega);unfold ky;refine qX 2 rfl ?_;refine qK 1 rfl ?_;refine ae.call tok rfl rfl rfl rfl cs ?_;refine qU 1 rfl ?_;refine qI (qX 2 rfl ?_);rw[ah];refine qU 1 rfl ?_;refine ae.nil ?_;by_cases h1:b.length=1
 · have g:=mG (r:=b) (i:=0) (by omega);have cq:=tC (Qr 1) (Qr (b.getD 0 0)) (ir 1 (by have:=gx;omega)) (ir _ (sa 0)) (by omega) (by rw[da];exact hone h1);rw[da,da] at cq;rw[if_pos h1,beq_iff_eq.2 (show (b.length:Int)=1 by omega)];refine AW.aC rfl ?_;refine AW.seq (AW.oK tok aW [(7,true),(1,false),(1,true)] 9 [5] (by kernel_rfl) ⟨rfl,?_⟩);refine af.call tok rfl rfl rfl rfl rfl (ij 1 (by decide) (by decide)) ?_;refine qP 1 rfl ?_;refine af.idx tok (Qr (b.getD 0 0)).D rfl rfl rfl rfl rfl (Int.le_refl _) g ?_;refine qP 1 rfl ?_;refine af.call tok rfl rfl rfl rfl rfl cq ?_;refine qP 2 rfl ?_;refine af.nil ⟨rfl,?_⟩;refine qP 1 rfl ?_;refine af.nil ⟨rfl,?_⟩;refine qP 1 rfl ?_;refine af.nil ⟨_,oL.cons (.bx rfl) (oL.nil),?_⟩;refine qU 1 rfl ?_;refine qK 1 rfl ?_;refine ae.pv tok rfl rfl rfl rfl rfl ?_;refine qU 1 rfl ?_;exact qN rfl
 rw[if_neg h1,beq_eq_false_iff_ne.2 (show (b.length:Int)≠1 by omega)];refine AW.aD rfl ?_;refine AW.skip ?_
 obtain ⟨i,hi,hla2⟩: ∃i,i≤l∧b.length=2^i:=by
  rcases ha with e | e
  · omega
  · exact e
 have vy:i≠0:=fun e=>h1 (by rw[hla2,e]);obtain ⟨j,rfl⟩: ∃j,i=j+1:=⟨i-1,by omega⟩;obtain ⟨l',rfl⟩: ∃l',l=l'+1:=⟨l-1,by omega⟩;have hj:j≤l':=by omega
 obtain ⟨_,o1⟩:=hok (by omega);obtain ⟨oN,oS,oz,oi⟩:=o1 h1;have hN:=hN l' rfl b j hj hla2 oN;have hS:=hS l' rfl _ hN.2 oS;obtain ⟨e1,e2,e3⟩:=bC hla2;obtain ⟨n,hn⟩: ∃n,n=b.length / 2:=⟨_,rfl⟩;rw[← hn] at e1 e2 e3 oz oi ⊢
 have hn2:b.length=n+n:=by
  have:2^(j+1)=2^j*2:=Nat.pow_succ ..;omega
 have hx:au l' (b.take n):= .inr ⟨j,hj,e1⟩;have hy:au l' (b.drop n):= .inr ⟨j,hj,e2⟩;refine qX 2 rfl ?_;rw[ah];refine ae.div tok rfl rfl rfl rfl (by decide) ?_;rw[iE _ (by omega),← hn];refine qU 1 rfl ?_;refine qK 2 rfl ?_;refine ae.call tok rfl rfl rfl rfl hN.1 ?_;refine qU 1 rfl ?_;refine qI (qX 2 rfl ?_);refine ae.call tok rfl rfl rfl rfl hS ?_;refine qU 1 rfl ?_;refine ae.nil ?_;by_cases hz:S (N b)=0
 · have ci:=hR l' rfl _ (hx.plus hx) (oz hz);have cp:=dX (b.take n) (b.take n) (sa.take n) (sa.take n) (by omega) (by rw[e1];omega) (by rw[e1];omega);rw[if_pos hz,beq_iff_eq.2 hz];refine AW.aC rfl ?_;refine AW.seq (AW.draw aW 9 (by kernel_rfl) ?_);refine qP 3 rfl ?_;refine af.gT tok (a:=b) (b.take n) rfl rfl rfl rfl rfl trivial (aj n) (Nat.zero_le _) (show n≤b.length by omega) rfl ?_;refine qP 2 rfl ?_;refine af.gT tok (a:=b) (b.take n) rfl rfl rfl rfl rfl trivial (aj n) (Nat.zero_le _) (show n≤b.length by omega) rfl ?_;refine af.call tok rfl rfl rfl rfl rfl cp ?_;refine af.call tok rfl rfl rfl rfl rfl ci ?_;refine af.nil ?_;refine qU 1 rfl ?_;exact qN rfl
 obtain ⟨o2,o3⟩:=oi hz;have ci:=hR l' rfl _ hN.2 o2;have cm:=ft (b.drop n) (sa.drop n) (by omega) (by rw[e2];omega);have cj:=kR (b.take n) (aZ (b.drop n)) n (by omega);have ct:=hT _ _ (.inr ⟨j+1,by omega,by rw[dG,e3,Nat.pow_succ];omega⟩) ((hRl l' rfl _ hN.2).mono (by omega)) o3;rw[if_neg hz,beq_eq_false_iff_ne.2 hz];refine AW.aD rfl ?_;refine AW.skip (AW.seq ?_);refine AW.draw aW 14 (by kernel_rfl) ?_;refine qP 3 rfl ?_;refine af.gT tok (a:=b) (b.take n) rfl rfl rfl rfl rfl trivial (aj n) (Nat.zero_le _) (show n≤b.length by omega) rfl ?_;refine qP 2 rfl ?_;refine af.gT tok (a:=b) (b.drop n) rfl rfl rfl rfl rfl (aj n) trivial (show n≤b.length by omega) (ai _) (by show (b.take b.length).drop n=_;rw[List.take_length]) ?_;refine af.call tok rfl rfl rfl rfl rfl cm ?_;refine qP 1 rfl ?_;refine af.call tok rfl rfl rfl rfl rfl cj ?_;refine qP 2 rfl ?_;refine af.call tok rfl rfl rfl rfl rfl ci ?_;refine af.call tok rfl rfl rfl rfl rfl ct ?_;refine af.nil ?_;refine qU 1 rfl ?_;exact qN rfl
theorem kC: ∀(l:Nat) {rt:List NQ} {a:NQ},au l a→l≤5→cK rt→l≤rt.length→rt.length≤10→Lr l rt a→Pure Tryz.prog 175 [iF rt,ao a] (ao (bX l rt a))
 | 0,rt,a,ha,hl5,hrt,hl,hl10,hok=>Bg (O:=fun _=>True) (Sk:=fun _=>True) (Nk:=fun _=>True) (Tk:=fun _ _=>False) ha hl5 hl hl10 hok.1 hok.2 (fun h=>absurd rfl h) (fun l' h=>by omega) (fun l' h=>by omega) (fun l' h=>by omega) (fun l' h=>by omega) (fun _ _ _ _ h=>h.elim)
 | l+1,rt,a,ha,hl5,hrt,hl,hl10,hok=>Bg (O:=Lr l rt) (Sk:=GC l rt) (Nk:=KC l rt) (Tk:=AM (l+1) rt) ha hl5 hl hl10 hok.1 hok.2.1 (fun _=>hok.2) (fun l' e b h1 h2=>by
    obtain rfl:l=l':=by omega
    exact kC l h1 (by omega) hrt (by omega) hl10 h2) (fun l' e b h1=>by
    obtain rfl:l=l':=by omega
    exact gu l h1 hrt (by omega)) (fun l' e b h1 h2=>by
    obtain rfl:l=l':=by omega
    exact fr l h1 (by omega) hrt (by omega) hl10 h2) (fun l' e b j h1 h2 h3=>by
    obtain rfl:l=l':=by omega
    exact⟨mP h1 h2 hrt (by omega) hl10 h3,tU h1 h2 hrt (by omega)⟩) (fun b c h1 h2 h3=>b7 (l+1) h1 h2 hrt hl hl10 h3)
end Lift
namespace Lift
open Go Go.Proofs
def pB(v:List NQ):Prop:= ∃m,jv m v
theorem jv.a{m:Nat}{v:List NQ}(V:jv m v):pB v:=⟨m,V⟩
theorem pB.l5{v:List NQ}(V:pB v):v.length≤5:=V.elim fun _ V=>V.l5
theorem pB.ro{v:List NQ}(V:pB v):cK v:=V.elim fun _ V=>V.ro
def wW(v:List NQ)(a b:NQ):NQ:=aA (aU v.length v a (bX v.length v b))
def q7(v:List NQ)(a:NQ):Int:=ed v.length v a
def AO(v:List NQ)(a b:NQ):Prop:=oT a∧oT b∧AM v.length v a b∧oT (aU v.length v a b)
def JF(a b:NQ):Prop:=oT a∧oT b∧oT (aX a (aZ b))
def GD(v:List NQ)(a b:NQ):Prop:=oT a∧oT b∧GC v.length v b∧q7 v b≠0∧Lr v.length v b∧AM v.length v a (bX v.length v b)∧oT (aU v.length v a (bX v.length v b))
def Ct(v:List NQ)(a:NQ):Prop:=GC v.length v a
theorem Ct.sz{v:List NQ}{a:NQ}(h:Ct v a):oT a:=GC.sz h
theorem Ei{v:List NQ}(V:pB v)(l:List NQ)(hl:l.length≤1000000)(h: ∀i,i<l.length→au v.length (l.getD i [])∧oT (l.getD i [])):Pure Tryz.prog 42 [iF v,.sl 1 (l.map ao)] aR:=by
 obtain ⟨m,V⟩:=V;obtain ⟨m0,t1,t2,tw,tk⟩:=V.raw.1.t;have l5:=V.l5
 have g: ∀i,(l.map iI).getD i []=iI (l.getD i []):=fun i=>by
  rw[aN,List.getElem?_map,aN];cases l[i]? with
  | none=>rfl
  | some x=>rfl
 have c:=gg (om v) (l.map iI) (mn:=17300000000000) tw t1 V.raw.1.l V.raw.1.ll tk (fun i hi=>by
  rw[ah] at hi;rw[g];exact fun _=>yF (h i hi).2) (by rw[ah];exact hl) (fun i hi=>by
  rw[ah] at hi
  rw[g,lu];exact Nat.le_trans ((h i hi).1.len (by omega)) (by decide)) (by omega)
 have e:kt (om v) (l.map iI)=0:=by
  unfold kt;rw[if_neg (by rw[V.raw.2];simp)];refine mf fun j hj=>?_;rw[ah] at hj;rw[fv,g];exact mX (h j (by omega)).1
 rw[e,uK,List.map_map,show (bG ∘ iI)=ao from funext lW] at c;exact c
theorem HD{v:List NQ}{a:NQ}(V:pB v)(ha:au v.length a)(sa:oT a):Pure Tryz.prog 42 [iF v,.sl 1 [ao a]] aR :=
 Ei V [a] (show 1≤1000000 by decide) (fun i hi=>by
  have:i<1:=hi;obtain rfl:i=0:=by omega
  exact⟨ha,sa⟩)
theorem vQ{v:List NQ}{a b:NQ}(V:pB v)(ha:au v.length a)(sa:oT a)(hb:au v.length b)(sb:oT b):Pure Tryz.prog 42 [iF v,.sl 1 [ao a,ao b]] aR :=
 Ei V [a,b] (show 2≤1000000 by decide) (fun i hi=>by
  have:i<2:=hi
  match i,this with
  | 0,_=>exact⟨ha,sa⟩
  | 1,_=>exact⟨hb,sb⟩)
theorem BV{v:List NQ}{a:NQ}{b:NQ}(V:pB v)(ha:au v.length a)(hb:au v.length b)(ok:JF a b):Pure Tryz.prog 105 [iF v,ao a,ao b] (.tu [ao (gm a b),aR]):=by
 refine qJ 22 Tryz.func105 rfl rfl rfl rfl (by kernel_rfl) (fun B0 F0 w0=>?_);have hl5:=V.l5;have hro:=V.ro;obtain ⟨sa,sb,sc⟩:=ok;have cc:=vQ V ha sa hb sb;have c0:=ft b sb (by omega) (Nat.le_trans (hb.len (by omega)) (by decide));have c1:=dX a (aZ b) sa sb.minus (by omega) (Nat.le_trans (ha.len (by omega)) (by decide)) (Nat.le_trans (hb.minus.len (by omega)) (by decide));have c2:=bO (aX a (aZ b)) (ha.plus hb.minus) hl5 sc (by omega);refine qX 3 rfl ?_;refine qI (qX 3 rfl ?_);refine ae.pv tok rfl rfl rfl rfl rfl ?_;refine ae.call tok rfl rfl rfl rfl cc ?_;refine qU 1 rfl ?_;refine qK 1 rfl ?_;refine ae.err tok rfl rfl rfl rfl rfl ?_;refine ae.nil ?_;refine AW.aD rfl ?_
 · refine AW.skip (qX 2 rfl ?_);refine ae.call tok rfl rfl rfl rfl c0 ?_;refine ae.call tok rfl rfl rfl rfl c1 ?_;refine ae.call tok rfl rfl rfl rfl c2 ?_;refine qU 2 rfl ?_;exact qN rfl
theorem uw{v:List NQ}{a:NQ}{b:NQ}(V:pB v)(ha:au v.length a)(hb:au v.length b)(ok:AO v a b):Pure Tryz.prog 106 [iF v,ao a,ao b] (.tu [ao (fN v a b),aR]):=by
 refine qJ 22 Tryz.func106 rfl rfl rfl rfl (by kernel_rfl) (fun B0 F0 w0=>?_);have hl5:=V.l5;have hro:=V.ro;obtain ⟨sa,sb,st,sc⟩:=ok;have cc:=vQ V ha sa hb sb;have c1:=b7 v.length ha hb hro (ai _) (by omega) st;have c2:=bO _ (e7 v.length ha hb hro (ai _)) hl5 sc (by omega);refine qX 3 rfl ?_;refine qI (qX 3 rfl ?_);refine ae.pv tok rfl rfl rfl rfl rfl ?_;refine ae.call tok rfl rfl rfl rfl cc ?_;refine qU 1 rfl ?_;refine qK 1 rfl ?_;refine ae.err tok rfl rfl rfl rfl rfl ?_;refine ae.nil ?_;refine AW.aD rfl ?_
 · refine AW.skip (qX 3 rfl ?_);refine ae.call tok rfl rfl rfl rfl c1 ?_;refine ae.call tok rfl rfl rfl rfl c2 ?_;refine qU 2 rfl ?_;exact qN rfl
theorem BW{v:List NQ}{a:NQ}{b:NQ}(V:pB v)(ha:au v.length a)(hb:au v.length b)(ok:GD v a b):Pure Tryz.prog 133 [iF v,ao a,ao b] (.tu [ao (wW v a b),aR]):=by
 refine qJ 29 Tryz.func133 rfl rfl rfl rfl (by kernel_rfl) (fun B0 F0 w0=>?_);have hl5:=V.l5;have hro:=V.ro;obtain ⟨sa,sb,sg,s0,si,st,sc⟩:=ok;have cc:=vQ V ha sa hb sb;have hi:=gu v.length hb hro (ai _);have c0:=fr v.length hb hl5 hro (ai _) (by omega) sg;have c1:=kC v.length hb hl5 hro (ai _) (by omega) si;have c2:=b7 v.length ha hi hro (ai _) (by omega) st;have c3:=bO _ (e7 v.length ha hi hro (ai _)) hl5 sc (by omega);change ed v.length v b≠0 at s0;unfold wW;generalize ed v.length v b=z at c0 s0;refine qX 3 rfl ?_;refine qI (qX 3 rfl ?_);refine ae.pv tok rfl rfl rfl rfl rfl ?_;refine ae.call tok rfl rfl rfl rfl cc ?_;refine qU 1 rfl ?_;refine qK 1 rfl ?_;refine ae.err tok rfl rfl rfl rfl rfl ?_;refine ae.nil ?_;refine AW.aD rfl ?_
 · refine AW.skip (AW.seq ?_);refine qX 2 rfl ?_;refine ae.call tok rfl rfl rfl rfl c0 ?_;refine qU 1 rfl ?_;refine ae.nil ?_;rw[beq_eq_false_iff_ne.2 s0];refine AW.aD rfl ?_
   · refine AW.skip (AW.seq ?_);refine AW.draw aW 7 (by kernel_rfl) ?_;refine qP 4 rfl ?_;refine af.call tok rfl rfl rfl rfl rfl c1 ?_;refine af.call tok rfl rfl rfl rfl rfl c2 ?_;refine af.call tok rfl rfl rfl rfl rfl c3 ?_;refine af.nil ?_;refine qU 2 rfl ?_;exact qN rfl
theorem Af{v:List NQ}{a:NQ}(V:pB v)(ha:au v.length a)(ok:Ct v a):Pure Tryz.prog 22 [iF v,ao a] (.tu [dI (q7 v a),aR]):=by
 refine qJ 17 Tryz.func22 rfl rfl rfl rfl (by kernel_rfl) (fun B0 F0 w0=>?_);have hl5:=V.l5;have hro:=V.ro;have cc:=HD V ha ok.sz;have c1:=fr v.length ha hl5 hro (ai _) (by omega) ok;refine qX 3 rfl ?_;refine qI (qX 2 rfl ?_);refine ae.pv tok rfl rfl rfl rfl rfl ?_;refine ae.call tok rfl rfl rfl rfl cc ?_;refine qU 1 rfl ?_;refine qK 1 rfl ?_;refine ae.err tok rfl rfl rfl rfl rfl ?_;refine ae.nil ?_;refine AW.aD rfl ?_
 · refine AW.skip (qX 2 rfl ?_);refine ae.call tok rfl rfl rfl rfl c1 ?_;refine qU 2 rfl ?_;exact qN rfl
end Lift
namespace Lift
open Go
open Go.RowKit (Below)
section
variable {P:Program} {T:Ty} {B:Nat} {F0:Nat→Prop} {w0:cU} {n:Nat} {σ:St} {all:Array Oper} {rest:List Oper} {o:Oper} {d:Nat} {K:St→Prop}
def Hm(T:Ty)(lk:Nat→Option AV):Op→Option (Nat×List D)
 | .binOp .eql t x (.const (.slice none 0 0)) _=>match T.get t,dv T (ex T lk 0 x) with
   | some ti,some (.sl s xs)=>match Nat.beq ti.kind 4 with
     | true=>some (s,xs)
     | false=>none
   | _,_=>none
 | _=>none
theorem CS{w:World}{t e:TypeId}(hi:P.underlying t=some (.slice e))(k:Nat)(b:Option Addr)(l c:Nat):(Op.equalIn (k+1) t (.slice b l c) (.slice none 0 0)).run P w= .ok b.isNone w:=by
 cases b<;>simp[Op.equalIn,run_underlying hi]
theorem Hl{w:World}{t e:TypeId}(hi:P.underlying t=some (.slice e))(b:Option Addr)(l c:Nat):(Op.equal t (.slice b l c) (.slice none 0 0)).run P w= .ok b.isNone w:=CS hi 9999 b l c
theorem HK{w:World}{t e:TypeId}(hi:P.underlying t=some (.slice e))(b:Option Addr)(l c:Nat):(Go.binOp .eql t (.slice b l c) (.slice none 0 0)).run P w= .ok (.bool b.isNone) w:=by
 have:Go.binOp .eql t (.slice b l c) (.slice none 0 0)=(do pure (.bool (← Op.equal t (.slice b l c) (.slice none 0 0))):Sem Value):=rfl;rw[this];simp only[Sem.run_bind,Hl hi,Result.andThen_ok,Sem.run_pure]
theorem ae.eqn(hT:bF P T){s:Nat}{xs:List D}(hd:o.dst=some d)(hdn:Nat.ble (d+1) n=true)(hg:o.guard=none)(hx:Hm T σ.get o.op=some (s,xs))
  (h: ∀b:Bool,(xs≠[]→b=false)→ae P B F0 w0 n all rest K ((d,.d (.v (.bool b)))::σ)):ae P B F0 w0 n all (o::rest) K σ:=by
 intro a w hR Q hQ;unfold wpList;rw[if_pos (by simp[Region.wanted,hg])];refine .inl ?_;obtain ⟨O,hOr,hO⟩:=hR.own;have hI:=hR.inv hOr hO (fun t=> .tmp t∈o.op.operands) d;obtain ⟨dst,op,ty,pos,after,guard⟩:=o;simp only[] at hd hx hI;cases op<;>try (simp only[Hm] at hx;cases hx;done)
 rename_i bop t x y ty2;cases bop<;>try (simp only[Hm] at hx;cases hx;done)
 cases y<;>try (simp only[Hm] at hx;cases hx;done)
 rename_i c;unfold Hm at hx;split at hx<;>try (cases hx;done)
 rename_i heq;simp only[Op.binOp.injEq,Operand.const.injEq,true_and] at heq;obtain ⟨rfl,rfl,rfl,rfl⟩:=heq;split at hx<;>try (cases hx;done)
 rename_i ti s' xs' hti hdx;split at hx<;>simp at hx;rename_i hk;obtain ⟨rfl,rfl⟩:=hx;obtain ⟨info,dd,z,hok⟩:=hT _ ti hti;have hrd:=dQ hT hI (fun t ht=>by subst ht;simp[Op.operands]) hdx;obtain ⟨ad,cap,hv,h1,h2,hne⟩:=Rd.Al hrd
 have hg2:(eqGuard .eql t x (.const (.slice none 0 0)) (a.eval x) (.slice none 0 0)).run P w= .ok () w:=by
  rw[hv];simp[eqGuard]
 refine bc (v:= .bool ad.isNone) (w':=w) ?_ ?_
 · simp only[execOp,eval_const,Sem.run_bind,hg2,Result.andThen_ok];rw[hv];rw[HK (hok.jh hk).1];rfl
 · rw[hd];refine h ad.isNone (fun hx=>?_) _ _ (hR.put hOr hO (Nat.le_of_ble_eq_true hdn) (dk.refl hI.lt) (show eJ _ _ _ _ _ _ _ _ (.d (.v (.bool ad.isNone))) (.bool ad.isNone) from Rd.v rfl)) Q hQ;rcases hne with e | ⟨b,off,cs,e,fz,hb,_⟩
   · exact absurd e hx
   · rw[hb];rfl
end
end Lift
namespace Lift
open Go Go.Proofs
abbrev HV(r:List (List RD)):D:= .sl 1 (r.map bG)
abbrev BJ(a:List (List (List RD))):D:= .sl 1 (a.map HV)
abbrev qW(r:List NQ):D:= .sl 1 (r.map ao)
abbrev v9(a:List (List NQ)):D:= .sl 1 (a.map qW)
structure Lj (m:Nat) (rt:List (List RD)) (a:List (List (List RD))):Prop where
 n: ∀i k,kz m rt ((a.getD i []).getD k [])
 l:a.length≤1000000
 r: ∀i,(a.getD i []).length≤1000000
def df{α:Type}(a:List (List α)):Nat:=(a.getD 0 []).length
def H3(a:List (List (List RD)))(i:Nat):Nat:=if (a.getD i []).length≠df a then 10 else 0
def yC(rt:List (List RD))(r:List (List RD)):Nat:=fE (fun k=>kt rt [r.getD k []]) (r.length-0) 0
def GK(rt:List (List RD))(a:List (List (List RD))):Nat :=
 if a.length=0 then 0 else if 32<a.length∨32<df a then 4 else
 if fE (H3 a) (a.length-0) 0≠0 then fE (H3 a) (a.length-0) 0 else fE (fun i=>yC rt (a.getD i [])) (a.length-0) 0
def DR(rt:List (List RD))(a:List (List (List RD))):Nat:=if dD rt≠0 then dD rt else GK rt a
structure MM (m:Nat) (rt:List (List RD)):Prop where
 w: ∀i,i<rt.length→(rt.getD i []).length=2^i→wN m (rt.getD i [])
 m1:1≤m
 l:rt.length≤1000000
 ll: ∀i,i<rt.length→(rt.getD i []).length≤4398046511104
 ok:rt.length≤5→pG rt.length m
 m2:m≤1000000
theorem rL{m:Nat}{rt:List (List RD)}{x:List RD}(T:MM m rt)(X:kz m rt x):Pure Tryz.prog 174 [wm rt,bG x] (vC (kt rt [x])):=by
 refine qJ 14 Tryz.func174 rfl rfl rfl rfl (by kernel_rfl) (fun B F0 w0=>?_);have hm:=T.m2;have c:=wA rt x T.w T.m1 T.l T.ll T.ok X.w X.l (by omega);unfold FZ at c;refine qX 2 rfl ?_;refine qK 2 rfl ?_;by_cases h:kt rt [x]≠0
 · rw[if_pos h] at c;refine ae.call tok rfl rfl rfl rfl c ?_;refine qU 5 rfl ?_;refine qK 2 rfl ?_;exact qN rfl
 rw[if_neg h] at c;have h:kt rt [x]=0:=by omega
 rw[h];refine ae.call tok rfl rfl rfl rfl c ?_;refine qU 5 rfl ?_;refine qK 2 rfl ?_;exact qN rfl
set_option maxHeartbeats 1600000 in
theorem vq{rt:List (List RD)}{a:List (List (List RD))}(hal:a.length≤1000000)(har: ∀i,(a.getD i []).length≤1000000)(han: ∀i k,Pure Tryz.prog 174 [wm rt,bG ((a.getD i []).getD k [])] (vC (kt rt [(a.getD i []).getD k []]))):Pure Tryz.prog 130 [wm rt,BJ a] (vC (GK rt a)):=by
 refine qJ 61 Tryz.func130 rfl rfl rfl rfl (by kernel_rfl) (fun B F0 w0=>?_);unfold GK;obtain ⟨E,hE⟩: ∃E,fE (H3 a) (a.length-0) 0=E:=⟨_,rfl⟩;obtain ⟨G,hG⟩: ∃G,fE (fun i=>yC rt (a.getD i [])) (a.length-0) 0=G:=⟨_,rfl⟩;rw[hE,hG];refine qX 2 rfl ?_;refine qI (qX 2 rfl ?_);rw[ah];refine qU 1 rfl ?_;refine ae.nil ?_;by_cases h0:a.length=0
 · rw[if_pos h0,h0];refine AW.aC rfl ?_;refine qX 1 rfl ?_;exact qN rfl
 rw[if_neg h0,beq_eq_false_iff_ne.2 (show (a.length:Int)≠0 by omega)];have hc0:df a=(a.getD 0 []).length:=rfl;have hcl:=har 0;have g0:=getM HV (l:=a) (i:=0) (by omega);refine AW.aD rfl ?_
 · skip
   refine AW.skip (AW.seq ?_);refine qX 2 rfl ?_;rw[ah];refine qU 1 rfl ?_;by_cases h1:32<a.length
   · rw[aO (show (32:Int)<(a.length:Int) by omega),if_pos (.inl h1)];refine qU 7 rfl ?_;refine ae.nil ?_;refine AW.aC rfl ?_;refine qX 2 rfl ?_;exact qN rfl
   rw[ba (show ¬(32:Int)<(a.length:Int) by omega)];refine qU 2 rfl ?_;refine ae.idx tok (HV (a.getD 0 [])) rfl rfl rfl rfl (Int.le_refl _) g0 ?_;refine qU 2 rfl ?_;rw[ah];refine qU 1 rfl ?_;by_cases h2:32<df a
   · rw[aO (show (32:Int)<((a.getD 0 []).length:Int) by omega),if_pos (.inr h2)];refine qU 1 rfl ?_;refine ae.nil ?_;refine AW.aC rfl ?_;refine qX 2 rfl ?_;exact qN rfl
   rw[ba (show ¬(32:Int)<((a.getD 0 []).length:Int) by omega),if_neg (fun h=>h.elim h1 h2)];refine qU 1 rfl ?_;refine ae.nil ?_;refine AW.aD rfl ?_
   · refine AW.skip (AW.seq ?_);refine qX 2 rfl ?_;rw[ah];refine qU 1 rfl ?_;refine ae.nil ?_;refine AW.block ?_;refine AW.aL [1,2,26,27,28] (fun i:Nat=>[(1,.d (BJ a)),(2,.bx [.sl 1 (rt.map bG)]),(26,.d (BJ a)),(27,.d (dI a.length)),(28,.d (dI i))]) (fun i=>i≤a.length∧fE (H3 a) (a.length-i) i=E) (fun i=>a.length-i) 0 rfl ⟨Nat.zero_le _,hE⟩ (fun i ⟨hi,hiE⟩=>?_)
     · show AW _ _ _ _ _ _ _ [(1,.d (BJ a)),(2,.bx [.sl 1 (rt.map bG)]),(26,.d (BJ a)),(27,.d (dI a.length)),(28,.d (dI i))];refine qX 1 rfl ?_;refine qI ?_;refine AW.cond rfl (fun h=>?_) (fun h=>?_)
       · have hii:i<a.length:=by have:=aq h;omega
         have hg:=getM HV (l:=a) (i:=i) hii;have hri:=har i;have hmiss:=fun h0:H3 a i=0=>(cZ hii h0).symm.trans hiE;have hhit:=fun h0:H3 a i≠0=>(eQ hii h0).symm.trans hiE;refine AW.skip (AW.seq (AW.block (AW.seq (AW.region ?_))));refine ae.idx tok (HV (a.getD i [])) rfl rfl rfl rfl (aj i) hg ?_;refine qU 2 rfl ?_;refine qK 2 rfl ?_;rw[ah];refine qU 1 rfl ?_;refine ae.idx tok (HV (a.getD 0 [])) rfl rfl rfl rfl (Int.le_refl _) g0 ?_;refine qU 2 rfl ?_;rw[ah];refine qU 1 rfl ?_;refine ae.nil ?_;refine AW.cond rfl (fun h=>?_) (fun h=>?_)
         · have hne:(a.getD i []).length≠df a:=by have:=bne_iff_ne.1 h;omega
           have e:H3 a i=10:=if_pos hne;have:=hhit (by rw[e];decide);rw[e] at this;subst this;rw[if_pos (by decide)];refine qX 2 rfl ?_;exact qN rfl
         · have heq:(a.getD i []).length=df a:=by have:=bne_eq_false_iff_eq.1 h;omega
           have e:H3 a i=0:=if_neg (fun h=>h heq);refine AW.skip (qT 1 rfl ?_);rw[aG (x:=(i:Int)+1) (by omega) (by omega)];refine qU 1 rfl ?_;refine ae.nil ?_;exact⟨i+1,rfl,⟨hii,hmiss e⟩,by omega⟩
       have hii: ¬i<a.length:=by have:=ar h;omega
       rw[eS hii] at hiE;subst hiE;rw[if_neg (by decide)];refine AW.exit (AW.seq ?_);refine qX 2 rfl ?_;rw[ah];refine qU 1 rfl ?_;refine ae.nil ?_;refine AW.block ?_;refine AW.aL [1,2,41,42,43] (fun i:Nat=>[(1,.d (BJ a)),(2,.bx [.sl 1 (rt.map bG)]),(41,.d (BJ a)),(42,.d (dI a.length)),(43,.d (dI i))]) (fun i=>i≤a.length∧fE (fun i=>yC rt (a.getD i [])) (a.length-i) i=G) (fun i=>a.length-i) 0 rfl ⟨Nat.zero_le _,hG⟩ (fun i ⟨hi,hiG⟩=>?_)
       · show AW _ _ _ _ _ _ _ [(1,.d (BJ a)),(2,.bx [.sl 1 (rt.map bG)]),(41,.d (BJ a)),(42,.d (dI a.length)),(43,.d (dI i))];refine qX 1 rfl ?_;refine qI ?_;refine AW.cond rfl (fun h=>?_) (fun h=>?_)
         · have hii:i<a.length:=by have:=aq h;omega
           have hg:=getM HV (l:=a) (i:=i) hii;have hri:=har i;have hni:=han i;have hmiss:=fun h0:yC rt (a.getD i [])=0=>(cZ (f:=fun i=>yC rt (a.getD i [])) hii h0).symm.trans hiG;have hhit:=fun h0:yC rt (a.getD i [])≠0=>(eQ (f:=fun i=>yC rt (a.getD i [])) hii h0).symm.trans hiG;refine AW.skip (AW.seq (AW.block (AW.seq (AW.region ?_))));refine ae.idx tok (HV (a.getD i [])) rfl rfl rfl rfl (aj i) hg ?_;refine qU 2 rfl ?_;refine ae.nil ?_;generalize a.getD i []=r at hri hni hmiss hhit;obtain ⟨H,hH⟩: ∃H,yC rt r=H:=⟨_,rfl⟩;rw[hH] at hmiss hhit;refine qX 2 rfl ?_;rw[ah];refine qU 1 rfl ?_;refine ae.nil ?_;refine AW.block ?_;refine AW.aL [1,2,41,42,43,47,48,49] (fun k:Nat=>[(1,.d (BJ a)),(2,.bx [.sl 1 (rt.map bG)]),(41,.d (BJ a)),(42,.d (dI a.length)),(43,.d (dI i)),(47,.d (HV r)),(48,.d (dI r.length)),(49,.d (dI k))]) (fun k=>k≤r.length∧fE (fun k=>kt rt [r.getD k []]) (r.length-k) k=H) (fun k=>r.length-k) 0 rfl ⟨Nat.zero_le _,hH⟩ (fun k ⟨hk,hkH⟩=>?_)
           · show AW _ _ _ _ _ _ _ [(1,.d (BJ a)),(2,.bx [.sl 1 (rt.map bG)]),(41,.d (BJ a)),(42,.d (dI a.length)),(43,.d (dI i)),(47,.d (HV r)),(48,.d (dI r.length)),(49,.d (dI k))];refine qX 1 rfl ?_;refine qI ?_;refine AW.cond rfl (fun h=>?_) (fun h=>?_)
             · have hkk:k<r.length:=by have:=aq h;omega
               have hg2:=getM bG (l:=r) (i:=k) hkk;have cn:=hni k;have km:=fun h0:kt rt [r.getD k []]=0=>(cZ (f:=fun k=>kt rt [r.getD k []]) hkk h0).symm.trans hkH;have kh:=fun h0:kt rt [r.getD k []]≠0=>(eQ (f:=fun k=>kt rt [r.getD k []]) hkk h0).symm.trans hkH;refine AW.skip (AW.seq (AW.block (AW.seq (AW.region ?_))));refine ae.idx tok (bG (r.getD k [])) rfl rfl rfl rfl (aj k) hg2 ?_;refine qU 2 rfl ?_;refine qK 2 rfl ?_;refine ae.call tok rfl rfl rfl rfl cn ?_;refine qU 1 rfl ?_;refine ae.nil ?_;generalize kt rt [r.getD k []]=e at cn km kh;rcases e with _ | z
               rotate_left
               · have:=kh (Nat.succ_ne_zero z);subst this;have:=hhit (Nat.succ_ne_zero z);subst this;refine qX 1 rfl ?_;refine ae.err tok rfl rfl rfl rfl rfl ?_;refine ae.nil ?_;refine AW.aC rfl ?_;refine qX 2 rfl ?_;exact qN rfl
               refine qX 1 rfl ?_;refine ae.err tok rfl rfl rfl rfl rfl ?_;refine ae.nil ?_;refine AW.aD rfl ?_
               · skip
                 refine AW.skip (qT 1 rfl ?_);rw[aG (x:=(k:Int)+1) (by omega) (by omega)];refine qU 1 rfl ?_;refine ae.nil ?_;exact⟨k+1,rfl,⟨hkk,km rfl⟩,by omega⟩
             have hkk: ¬k<r.length:=by have:=ar h;omega
             rw[eS hkk] at hkH;subst hkH;refine AW.exit ?_;refine qT 1 rfl ?_;rw[aG (x:=(i:Int)+1) (by omega) (by omega)];refine qU 1 rfl ?_;refine ae.nil ?_;exact⟨i+1,rfl,⟨hii,hmiss rfl⟩,by omega⟩
         have hii: ¬i<a.length:=by have:=ar h;omega
         rw[eS hii] at hiG;subst hiG;refine AW.exit ?_;refine qX 1 rfl ?_;exact qN rfl
theorem rM{m:Nat}{rt:List (List RD)}{a:List (List (List RD))}(T:MM m rt)(A:Lj m rt a):Pure Tryz.prog 130 [wm rt,BJ a] (vC (GK rt a)) :=
 vq A.l A.r (fun i k=>rL T (A.n i k))
theorem th{m:Nat}{rt:List (List RD)}{a:List (List (List RD))}(T:MM m rt)(A:Lj m rt a):Pure Tryz.prog 88 [wm rt,BJ a] (vC (DR rt a)):=by
 refine qJ 14 Tryz.func88 rfl rfl rfl rfl (by kernel_rfl) (fun B F0 w0=>?_);have cc:=j9 rt T.w T.m1 T.l T.ll T.ok;have cm:=rM T A;unfold DR;refine qX 2 rfl ?_;refine qI (qX 1 rfl ?_);refine ae.call tok rfl rfl rfl rfl cc ?_;refine qU 1 rfl ?_;refine ae.nil ?_;generalize dD rt=e at cc ⊢;rcases e with _ | z
 rotate_left
 · rw[if_pos (Nat.succ_ne_zero z)];refine qX 1 rfl ?_;refine ae.err tok rfl rfl rfl rfl rfl ?_;refine ae.nil ?_;refine AW.aC rfl ?_;refine qX 2 rfl ?_;exact qN rfl
 rw[if_neg (by simp)];refine qX 1 rfl ?_;refine ae.err tok rfl rfl rfl rfl rfl ?_;refine ae.nil ?_;refine AW.aD rfl ?_
 · skip
   refine AW.skip (qX 2 rfl ?_);refine ae.call tok rfl rfl rfl rfl cm ?_;refine qU 1 rfl ?_;exact qN rfl
theorem np{v:List NQ}{a:NQ}(V:pB v)(ha:au v.length a)(ok:Ct v a):Pure Tryz.prog 132 [iF v,ao a] (dI (q7 v a)):=by
 refine qJ 14 Tryz.func132 rfl rfl rfl rfl (by kernel_rfl) (fun B F0 w0=>?_);have c:=Af V ha ok;refine qX 2 rfl ?_;refine qK 2 rfl ?_;refine ae.call tok rfl rfl rfl rfl c ?_;refine qU 5 rfl ?_;refine qK 2 rfl ?_;exact qN rfl
theorem qt(a:List (List NQ)):Pure Tryz.prog 90 [v9 a] (dI (df a)):=by
 refine qJ 10 Tryz.func90 rfl rfl rfl rfl (by kernel_rfl) (fun B F0 w0=>?_);refine qX 1 rfl ?_;refine qI (qX 2 rfl ?_);rw[ah];refine qU 1 rfl ?_;refine ae.nil ?_;by_cases h0:a.length=0
 · rw[List.length_eq_zero_iff.1 h0];refine AW.aC rfl ?_;refine qX 1 rfl ?_;exact qN rfl
 rw[beq_eq_false_iff_ne.2 (show (a.length:Int)≠0 by omega)];have g0:=getM qW (l:=a) (i:=0) (by omega);refine AW.aD rfl ?_
 · refine AW.skip (qX 1 rfl ?_);refine ae.idx tok (qW (a.getD 0 [])) rfl rfl rfl rfl (Int.le_refl _) g0 ?_;refine qU 2 rfl ?_;rw[ah];refine qU 1 rfl ?_;exact qN rfl
def LM(r:List NQ)(res:D)(R':List LR):Prop:= ∃V,res= .v V∧R'=[(V,AV.ow 52 (r.map ao))]
theorem Bw(r:List NQ)(hl:r.length≤1000000):lO Tryz.prog 131 [qW r] [] (LM r):=by
 refine lO.intro (n:=8) tok Tryz.func131 rfl rfl rfl (Nat.le_of_ble_eq_true rfl) (by kernel_rfl) (fun B F0 w0=>?_);refine AZ.seq (AZ.jw (fun B1 F1 w1=>?_));refine qU 1 rfl ?_;refine ae.nil ⟨rfl,?_⟩;refine AZ.seq (AZ.seq ?_);refine AZ.jw (fun B1 F1 w1=>?_);refine qU 1 rfl ?_;refine ae.eqn tok rfl rfl rfl rfl (fun b hb=>?_);refine ae.nil ⟨rfl,?_⟩;refine AZ.cond rfl (fun h=>?_) (fun h=>?_)
 · have hr:r=[]:=by
    refine Classical.byContradiction fun hr=>?_;have:=hb (by simp[hr]);rw[this] at h;cases h
   subst hr;refine AZ.seq (AZ.jw (fun B1 F1 w1=>?_));refine qU 1 rfl ?_;refine ae.nil ⟨rfl,?_⟩;exact AZ.iL 2 rfl rfl rfl (fun V=>AZ.ret ⟨.v V,rfl,V,rfl,rfl⟩)
 · skip
   refine AZ.skip (AZ.seq ?_);refine AZ.jw (fun B1 F1 w1=>?_);refine qU 2 rfl ?_;refine ae.C' tok rfl rfl rfl rfl (by rw[ah];show r.length*24≤_;omega) ?_;refine qU 1 rfl ?_;refine ae.nil ⟨rfl,?_⟩;exact AZ.iL 2 rfl rfl rfl (fun V=>AZ.ret ⟨.v V,rfl,V,rfl,rfl⟩)
end Lift
namespace Lift
open Go
open Go.RowKit (Below)
section
variable {P:Program} {T:Ty} {B:Nat} {F0:Nat→Prop} {w0:cU} {n:Nat} {σ:St} {R:List LR} {all ops:Array Oper} {l:List Oper} {o:Oper} {x:Code} {a:Act} {w:World} {K:List LR→St→Prop} {p:lM} {Q:Exit→List LR→St→Prop}
theorem nD: ∀{cs:List D},(∀d,d∈cs→d.flat=[d])→flatAll cs=cs
 | [],h=>rfl
 | d::r,h=>by
   show d.flat++flatAll r=d::r;rw[h d (List.mem_cons_self ..),nD (fun x hx=>h x (List.mem_cons_of_mem _ hx))];rfl
theorem cF.KV{i j k e eo:Nat}{V Vo:Value}{xs cs:List D}(hR:cF P B F0 w0 n R σ a w)(hj:R[j]?=some (Vo,.ow eo cs))(hc1: ∀d,d∈cs→d.flat=[d])(hk:cs[k]?=some (.v V))(hi:R[i]?=some (V,.ow e xs))(hij:i≠j):
  cF P B F0 w0 n ((R.set i (V,.junk)).set j (Vo,.ow eo (cs.set k (.sl (P.cellsOf e) xs)))) σ a w:=by
 obtain ⟨O,hOr,hO,hL⟩:=hR.own
 let O':Nat→Option Nat:=fun b=>if O b=some (n+i) then none else O b
 have h1: ∀b t,O' b=some t→O b=some t:=fun b t h=>by
  simp only[O'] at h;split at h
  · cases h
  · exact h
 have h2: ∀b t,t≠n+i→O b=some t→O' b=some t:=fun b t ht h=>by
  simp only[O',h];rw[if_neg (by simpa using ht)]
 have hF: ∀c,aP O (FW B F0 w) c→aP O' (FW B F0 w) c:=fun c hc=>⟨by simp only[O',hc.1];simp,hc.2⟩
 have hlt: ∀t av,σ.get t=some av→t<n:=fun t av h=>by
  obtain ⟨v,hv,_⟩:=hO t av h;rw[← hR.size];exact(Array.getElem?_eq_some_iff.1 hv).1
 have hil:=(List.getElem?_eq_some_iff.1 hi).1;have hjl:=(List.getElem?_eq_some_iff.1 hj).1;have hkl:=(List.getElem?_eq_some_iff.1 hk).1;refine⟨hR.below,hR.base,hR.f0,hR.defers,hR.size,O',fun b t hb=>hOr b t (h1 b t hb),fun j av hav=>?_,fun m r hr=>?_⟩
 · obtain ⟨v,hv,hr⟩:=hO j av hav;exact⟨v,hv,hr.move (fun c hc=>⟨hF c hc,rfl⟩) (fun _ c hc=>⟨h2 c j (by have:=hlt j av hav;omega) hc,rfl⟩) (fun k _ x _ hk=>⟨hk,rfl⟩)⟩
 · by_cases hmj:m=j
   · subst hmj;rw[List.getElem?_set_self (by simpa using hjl)] at hr;cases hr
     have hcs': ∀d,d∈cs.set k (.sl (P.cellsOf e) xs)→d.flat=[d]:=fun d hd=>by
      rcases List.mem_or_eq_of_mem_set hd with h | h
      · exact hc1 d h
      · subst h;rfl
     rcases hL m _ hj with h | ⟨_,_,h⟩
     · cases h
     refine .inr ⟨rfl,rfl,?_⟩;rcases h with ⟨base,h3,h4⟩ | ⟨b',cap,cs',h3,h4,h5,h6,h7,h8,h9,h10⟩
     · subst h4;simp at hk
     · simp only at h3;subst h3;refine .inr ⟨b',cap,cs',by simp,h2 b' _ (by omega) h4,h5,by simpa using h6,h7,h8,fun d hd=>?_,fun q d hd=>?_⟩
       · rcases List.mem_or_eq_of_mem_set hd with h | h
         · exact h9 d h
         · subst h;have:=h9 _ (List.mem_of_getElem? hk);exact this
       · rw[nD hcs'] at hd;rw[nD hc1] at h10;by_cases hq:q=k
         · subst hq;rw[List.getElem?_set_self hkl] at hd;cases hd;obtain ⟨_,u,hu,hru⟩:=h10 q _ hk;have:=(Rd.j8 hru).1;subst this;refine⟨rfl,_,hu,?_⟩;rcases hL i _ hi with h | ⟨_,_,h⟩
           · cases h
           · rcases h with ⟨base,h3,h4⟩ | ⟨b2,cap2,cs2,g3,g4,g5,g6,g7,g8,g9,g10⟩
             · simp only at h3 h4;subst h3;subst h4;exact .nil (Nat.zero_le _)
             · simp only at g3;subst g3;refine Rd.my (off:=0) ⟨by simp only[O',g4];simp,(hOr b2 _ g4).fw hR.f0⟩ g5 g6 g7 g9 (fun m d hd=>?_);obtain ⟨f1,u,f2,f3⟩:=g10 m d hd;exact⟨f1,u,by simpa using f2,f3.mono hF (fun _ _=>rfl)⟩
         · rw[List.getElem?_set_ne (Ne.symm hq)] at hd;obtain ⟨f1,u,f2,f3⟩:=h10 q d hd;exact⟨f1,u,f2,f3.mono hF (fun _ _=>rfl)⟩
   · have hr:=jY hmj hr;by_cases hmi:m=i
     · subst hmi;rw[List.getElem?_set_self hil] at hr;cases hr;exact .inl rfl
     · have:=jY hmi hr;rcases hL m r this with h | ⟨g1,g2,g3⟩
       · exact .inl h
       · exact .inr ⟨g1,g2,g3.move (fun c hc=>⟨hF c hc,rfl⟩) (fun _ c hc=>⟨h2 c _ (by omega) hc,rfl⟩) (fun k _ x _ hk=>by cases hk)⟩
theorem AZ.KV(hT:bF P T)(i j k:Nat){V Vo:Value}{e eo:Nat}{te:TI}{xs cs:List D}(hj:R[j]?=some (Vo,.ow eo cs))(hc1: ∀d,d∈cs→d.flat=[d])(hk:cs[k]?=some (.v V))(hi:R[i]?=some (V,.ow e xs))(hij:i≠j)(he:T.get e=some te)
  (h:AZ P B F0 w0 n x Q ((R.set i (V,.junk)).set j (Vo,.ow eo (cs.set k (.sl te.size xs)))) σ):AZ P B F0 w0 n x Q R σ:=by
 obtain ⟨info,d,z,hok⟩:=hT e te he;intro a w hR;have:=hR.KV hj hc1 hk hi hij;rw[hok.cellsOf] at this;exact h a w this
theorem ak.Bc(t i:Nat){av:AV}(ht:σ.get t=some av)(hrow:av.row.isSome=true)(htag:av.tag=false)(hi:Nat.ble (i+1) R.length=true)(h: ∀V:Value,ak P B F0 w0 n all l K p (R.set i (V,av)) ((t,.d (.v V))::σ.kill t)):ak P B F0 w0 n all l K p R σ:=by
 intro a w hR hpin Q hQ;obtain ⟨O,_,hO,_⟩:=hR.own;obtain ⟨V,hV,_⟩:=hO t _ ht;exact h V a w (hR.iL (i:=i) ht hrow htag hV (List.getElem?_set_self (Nat.le_of_ble_eq_true hi)) (fun j r hj hr=>jY hj hr)) hpin Q hQ
theorem bE{K:List LR→St→Prop}(h: ∀B1 F1 w1,v8 P B1 F1 w1 R→ae P B1 F1 w1 n ops [o] (fun σ'=>σ'.gJ=true∧K R σ') σ):ak P B F0 w0 n ops [o] K [] R σ :=
 ak.Mo 1 rfl (fun B1 F1 w1 hS=>by
  have:=h B1 F1 w1 hS
  refine fun a w hR Q hQ=>this a w hR Q (fun a' w' σ' ⟨h1,h2⟩ hR'=>hQ a' w' σ' ⟨h1,ak.nil h2⟩ hR'))
end
section
variable {P:Program} {T:Ty} {B:Nat} {F0:Nat→Prop} {w0:cU} {n:Nat} {σ:St} {R:List LR} {ops:Array Oper} {o1 o2 o3 o4:Oper} {Q:Exit→List LR→St→Prop} {β:gS} {fuel:Nat} {listed:Array Bool}
end
end Lift
namespace Lift
open Go Go.Proofs
abbrev iA(r:List NQ):AV:=AV.ow 52 (r.map ao)
def ko{α:Type}(zs xs:List α)(i:Nat):List α:=zs.take i++xs.drop i
theorem vm{α:Type}{zs xs:List α}(h:zs.length=xs.length){i:Nat}(hi:i≤xs.length):(ko zs xs i).length=xs.length:=by
 unfold ko;rw[List.length_append,bg,List.length_drop,h];omega
theorem A5{α:Type}{zs xs:List α}(h:zs.length=xs.length){i:Nat}(hi:i<xs.length)(d:α):(ko zs xs i).getD i d=xs.getD i d:=by
 unfold ko;rw[aN,List.getElem?_append_right (by rw[bg];omega),bg,h,List.getElem?_drop,aN]
 congr 2;omega
theorem A4{α:Type}{zs xs:List α}(h:zs.length=xs.length){i:Nat}(hi:i<xs.length){d z:α}(hz:zs.getD i d=z):(ko zs xs i).set i z=ko zs xs (i+1):=by
 subst hz;refine List.ext_getElem? (fun c=>?_);by_cases hc:c=i
 · subst hc;rw[List.getElem?_set_self (by rw[vm h (by omega)];exact hi)];unfold ko;rw[List.getElem?_append_left (by rw[bg];omega),List.getElem?_take,if_pos (by omega)];have h1:c<zs.length:=by omega
   simp[h1]
 · rw[List.getElem?_set_ne (Ne.symm hc)];unfold ko;rcases Nat.lt_or_ge c i with g | g
   · rw[List.getElem?_append_left (by rw[bg];omega),List.getElem?_append_left (by rw[bg];omega),List.getElem?_take,List.getElem?_take,if_pos g,if_pos (by omega)]
   · rw[List.getElem?_append_right (by rw[bg];omega),List.getElem?_append_right (by rw[bg];omega),List.getElem?_drop,List.getElem?_drop,bg,bg]
     congr 1;omega
theorem xK{α:Type}(zs xs:List α):ko zs xs 0=xs:=by unfold ko;simp
theorem A6{α:Type}{zs xs:List α}(h:zs.length=xs.length):ko zs xs xs.length=zs:=by
 unfold ko;rw[List.drop_length,List.append_nil,← h,List.take_length]
section
variable {P:Program} {T:Ty} {B:Nat} {F0:Nat→Prop} {w0:cU} {n:Nat} {σ τ:St} {K:St→Prop} {all:Array Oper} {o:Oper} {d:Nat} {rest:List Oper}
theorem ae.B4(hT:bF P T){k e i:Nat}{r:List NQ}(q:NQ)(hd:o.dst=none)(hg:aF all σ o=true)(hx:DE T σ o.op=some (k,.ow e (r.map ao),r.map ao,i,0,ao q))(hi:i<r.length)
  (h:ae P B F0 w0 n all rest K ((k,.ow e ((r.set i q).map ao))::σ)):ae P B F0 w0 n all (o::rest) K σ:=by
 refine ae.kF hT (ao (r.getD i [])) hd hg hx (getM ao hi) rfl ?_;show ae P B F0 w0 n all rest K ((k,.ow e ((r.map ao).set i (ao q)))::σ);rw[show (r.map ao).set i (ao q)=(r.set i q).map ao from (List.map_set ..).symm];exact h
end
def mS(v:List NQ)(xs ys:List NQ)(c:NQ):List NQ:=(List.range xs.length).map fun k=>gm (xs.getD k []) (fN v c (ys.getD k []))
theorem rk(v:List NQ)(xs ys:List NQ)(c:NQ):(mS v xs ys c).length=xs.length:=by unfold mS;rw[ah,List.length_range]
theorem nP(v:List NQ)(xs ys:List NQ)(c:NQ){k:Nat}(h:k<xs.length):(mS v xs ys c).getD k []=gm (xs.getD k []) (fN v c (ys.getD k [])):=by
 unfold mS;rw[aN,List.getElem?_map,List.getElem?_range h];rfl
def Gy(v:List NQ)(xs ys:List NQ)(c:NQ):Prop:= ∀k,k<xs.length→AO v c (ys.getD k [])∧JF (xs.getD k []) (fN v c (ys.getD k []))
def FG(V1 V2:Value)(zs ys:List NQ)(res:D)(R':List LR):Prop:=res=aR∧R'=[(V1,iA zs),(V2,iA ys)]
theorem ib{v:List NQ}(V:pB v){a b:NQ}(ha:au v.length a)(hb:au v.length b):au v.length (fN v a b):=bV (e7 v.length ha hb V.ro (ai _))
theorem pW{l:Nat}{a b:NQ}(ha:au l a)(hb:au l b):au l (gm a b):=bV (ha.plus hb.minus)
theorem Jk{v:List NQ}(V:pB v){a b:NQ}(ha:au v.length a)(hb:au v.length b):au v.length (wW v a b):=bV (e7 v.length ha (gu v.length hb V.ro (ai _)) V.ro (ai _))
set_option maxHeartbeats 3200000 in
theorem vn(V1 V2:Value){v:List NQ}(V:pB v){xs ys:List NQ}{c:NQ}(hl:ys.length=xs.length)(hl0:0<xs.length)(hl1:xs.length≤1000000)(hx: ∀k,au v.length (xs.getD k []))(hy: ∀k,au v.length (ys.getD k []))(hc:au v.length c)(ok:Gy v xs ys c):
  lO Tryz.prog 134 [iF v,.v V1,.v V2,ao c] [(V1,iA xs),(V2,iA ys)] (FG V1 V2 (mS v xs ys c) ys):=by
 refine lO.intro (n:=47) tok Tryz.func134 rfl rfl rfl (Nat.le_of_ble_eq_true rfl) (by kernel_rfl) (fun B F0 w0=>?_);have hz:=rk v xs ys c;obtain ⟨zs,hzs⟩: ∃zs,mS v xs ys c=zs:=⟨_,rfl⟩;rw[hzs] at hz ⊢;refine AZ.seq (AZ.jw (fun B1 F1 w1=>?_));refine qU 2 rfl ?_;refine ae.nil ⟨rfl,?_⟩;refine AZ.seq (AZ.seq ?_);refine AZ.Gk (fun B1 F1 w1 hS=>?_);refine qU 1 rfl ?_;refine ae.lens tok (hS.at (i:=0) rfl (by rw[ah];exact hl0)) rfl rfl rfl rfl ?_;refine qU 1 rfl ?_;rw[ah];refine ae.nil ⟨rfl,?_⟩;refine AZ.block ?_;refine AZ.aL [1,2,3,4,13,14] (fun i:Nat=>([(V1,iA (ko zs xs i)),(V2,iA ys)],[(1,.d (.v V1)),(2,.d (.v V2)),(3,.d (ao c)),(4,.bx [.sl 1 (v.map ao)]),(13,.d (dI xs.length)),(14,.d (dI i))])) (fun i=>i≤xs.length) (fun i=>xs.length-i) 0 (by rw[xK];rfl) (Nat.zero_le _) (fun i hi=>?_)
 · show AZ _ _ _ _ _ _ _ [(V1,iA (ko zs xs i)),(V2,iA ys)] [(1,.d (.v V1)),(2,.d (.v V2)),(3,.d (ao c)),(4,.bx [.sl 1 (v.map ao)]),(13,.d (dI xs.length)),(14,.d (dI i))];refine AZ.seq (AZ.jw (fun B1 F1 w1=>?_));refine qU 1 rfl ?_;refine ae.nil ⟨rfl,?_⟩;refine AZ.seq ?_;refine AZ.cond rfl (fun h=>?_) (fun h=>?_)
   · have hin:i<xs.length:=by have:=aq h;omega
     have hpl:=vm hz (i:=i) (by omega);have hpg:=A5 hz hin [];have hps:=A4 hz hin (d:=[]) (show zs.getD i []=gm (xs.getD i []) (fN v c (ys.getD i [])) by rw[← hzs];exact nP v xs ys c hin);have hyi:i<ys.length:=by omega
     obtain ⟨okm,oks⟩:=ok i hin;have cm:=uw V hc (hy i) okm;have cs:=BV V (hx i) (ib V hc (hy i)) oks;generalize ko zs xs i=ps at *;generalize hX:xs.getD i []=X at *;generalize hY:ys.getD i []=Y at *;generalize fN v c Y=M at *;generalize gm X M=S at *;refine AZ.skip (AZ.seq ?_);refine AZ.block (AZ.seq ?_);refine AZ.jw (fun B1 F1 w1=>?_);refine qU 2 rfl ?_;refine ae.nil ⟨rfl,?_⟩;refine AZ.seq (AZ.any aW (lK.Bt 11 (by kernel_rfl) (fun B1 F1 w1 hS=>?_)));have hS2:=hS.at (i:=1) rfl (by rw[ah];omega);refine qP 4 rfl ?_;refine af.idxs tok hS2 rfl rfl rfl rfl rfl (aj i) (by rw[ah];exact hyi) ?_;refine af.eD tok (ao (ys.getD i [])) hS2 rfl rfl rfl rfl rfl rfl rfl (getM ao hyi) rfl ?_;rw[hY];refine af.call tok rfl rfl rfl rfl rfl cm ?_;refine qP 4 rfl ?_;refine af.nil ⟨rfl,?_⟩;refine ak.cut 1 rfl (fun B1 F1 w1=>?_);refine qU 1 rfl ?_;refine ae.nil ⟨rfl,?_⟩;refine ak.nil ?_;refine AZ.to [1,2,3,4,9,10,11,13,14] [(1,.d (.v V1)),(2,.d (.v V2)),(3,.d (ao c)),(4,.bx [.sl 1 (v.map ao)]),(9,.d (dI i)),(10,.d (ao M)),(11,.d aR),(13,.d (dI xs.length)),(14,.d (dI i))] rfl ?_;refine AZ.seq (AZ.seq ?_);refine AZ.jw (fun B1 F1 w1=>?_);refine qU 1 rfl ?_;refine ae.err tok rfl rfl rfl rfl rfl ?_;refine ae.nil ⟨rfl,?_⟩;refine AZ.aD rfl ?_;refine AZ.skip (AZ.seq ?_);refine AZ.any aW (ZH.any (β:=[]) ?_);refine ZH.mv 0 rfl rfl (by kernel_rfl) (by kernel_rfl) (by kernel_rfl) rfl (fun _ _ _ h=>h) (fun _=>rfl) trivial (fun B1 F1 w1=>?_);refine qU 1 rfl ?_;refine ae.nil ⟨rfl,?_⟩;refine ZH.mv 1 rfl rfl (by kernel_rfl) (by kernel_rfl) (by kernel_rfl) rfl (fun _ _ _ h=>h) (fun _=>rfl) trivial (fun B1 F1 w1=>?_);refine qU 1 rfl ?_;refine ae.nil ⟨rfl,?_⟩;refine ZH.mv 3 rfl rfl (by kernel_rfl) (by kernel_rfl) (by kernel_rfl) rfl (fun _ _ _ h=>h) (fun _=>rfl) trivial (fun B1 F1 w1=>?_);refine qU 1 rfl ?_;refine ae.nil ⟨rfl,?_⟩;refine ZH.mv 4 rfl rfl (by kernel_rfl) (by kernel_rfl) (by kernel_rfl) rfl (fun _ _ _ h=>h) (fun _=>rfl) trivial (fun B1 F1 w1=>?_);refine qU 1 rfl ?_;refine ae.nil ⟨rfl,?_⟩;refine ZH.mv 7 rfl rfl (by kernel_rfl) (by kernel_rfl) (by kernel_rfl) rfl (fun _ _ _ h=>h) (fun _=>rfl) trivial (fun B1 F1 w1=>?_);refine qU 1 rfl ?_;refine ae.nil ⟨rfl,?_⟩;refine ZH.meet 0 (qB 15 32767) (fun V=>[(V1,iA (ko zs xs (i+1))),(V2,iA ys)]) (fun V=>[(1,.d (.v V1)),(2,.d (.v V2)),(3,.d (ao c)),(4,.bx [.sl 1 (v.map ao)]),(9,.d (dI i)),(10,.d (ao M)),(13,.d (dI xs.length)),(14,.d (dI i)),(31,.d (.v V1)),(32,.d (dI i)),(34,.d (.v V1)),(35,.d (dI i)),(38,.d (ao M)),(33,.d (iF v)),(36,.d (.v (fb V1 (i*1)))),(37,.d (ao X)),(39,.d (.tu [ao S,aR])),(30,.d (.tu [ao S,aR])),(40,.d (ao S)),(41,.d aR),(11,.d aR)]) (fun V=>?_) (fun N1_2_5_1_1=>?_)
     · refine ZH.done (by kernel_rfl) trivial ?_;refine AZ.to [1,2,3,4,11,13,14] [(1,.d (.v V1)),(2,.d (.v V2)),(3,.d (ao c)),(4,.bx [.sl 1 (v.map ao)]),(11,.d aR),(13,.d (dI xs.length)),(14,.d (dI i))] rfl ?_;refine AZ.seq (AZ.jw (fun B1 F1 w1=>?_));refine qU 1 rfl ?_;refine ae.err tok rfl rfl rfl rfl rfl ?_;refine ae.nil ⟨rfl,?_⟩;refine AZ.aD rfl ?_;refine AZ.skip (AZ.jw (fun B1 F1 w1=>?_));refine qU 1 rfl ?_;rw[aG (x:=(i:Int)+1) (by omega) (by omega)];refine qU 1 rfl ?_;refine ae.nil ⟨rfl,?_⟩;exact⟨i+1,rfl,hin,by omega⟩
     refine ZH.meet 1 (qB 15 16383) (fun V=>[(V1,iA (ko zs xs (i+1))),(V2,iA ys)]) (fun V=>[(1,.d (.v V1)),(2,.d (.v V2)),(3,.d (ao c)),(4,.bx [.sl 1 (v.map ao)]),(9,.d (dI i)),(10,.d (ao M)),(13,.d (dI xs.length)),(14,.d (dI i)),(31,.d (.v V1)),(32,.d (dI i)),(34,.d (.v V1)),(35,.d (dI i)),(38,.d (ao M)),(33,.d (iF v)),(36,.d (.v (fb V1 (i*1)))),(37,.d (ao X)),(39,.d (.tu [ao S,aR])),(30,.d (.tu [ao S,aR])),(40,.d (ao S)),(41,.d aR)]) (fun V=>?_) (fun N1_2_5_1_0=>?_)
     · refine ZH.all 14 (by kernel_rfl) rfl rfl (fun _=>rfl) trivial ?_;refine bM (fun B1 F1 w1=>?_);refine qU 1 rfl ?_;refine ae.nil ⟨rfl,?_⟩;exact qL (N1_2_5_1_1 V) (by kernel_rfl) rfl trivial
     refine ZH.meet 2 (qB 15 8191) (fun V=>[(V1,iA ps),(V2,iA ys)]) (fun V=>[(1,.d (.v V1)),(2,.d (.v V2)),(3,.d (ao c)),(4,.bx [.sl 1 (v.map ao)]),(9,.d (dI i)),(10,.d (ao M)),(13,.d (dI xs.length)),(14,.d (dI i)),(31,.d (.v V1)),(32,.d (dI i)),(34,.d (.v V1)),(35,.d (dI i)),(38,.d (ao M)),(33,.d (iF v)),(36,.d (.v (fb V1 (i*1)))),(37,.d (ao X)),(39,.d (.tu [ao S,aR])),(30,.d (.tu [ao S,aR])),(40,.d (ao S)),(42,.d (.v (fb V1 (i*1)))),(41,.d aR)]) (fun V=>?_) (fun N1_2_4_1_0=>?_)
     · refine ZH.all 13 (by kernel_rfl) rfl rfl (fun _=>rfl) trivial ?_;refine ak.fo 31 0 rfl rfl rfl ?_;refine ak.el tok 31 42 rfl (List.Mem.head _) rfl rfl rfl (by rw[ah,hpl];exact hin) rfl ?_;refine ak.cut 1 rfl (fun B1 F1 w1=>?_);refine ae.B4 tok S rfl rfl rfl (by omega) ?_;rw[hps];refine ae.nil ⟨rfl,?_⟩;refine ak.back 31 0 rfl rfl rfl (List.Mem.head _) rfl ?_;refine ak.nil ?_;exact qL (N1_2_5_1_0 V) (by kernel_rfl) rfl trivial
     refine ZH.meet 2 (qB 15 14335) (fun V=>[(V1,iA (ko zs xs (i+1))),(V2,iA ys)]) (fun V=>[(1,.d (.v V1)),(2,.d (.v V2)),(3,.d (ao c)),(4,.bx [.sl 1 (v.map ao)]),(9,.d (dI i)),(10,.d (ao M)),(13,.d (dI xs.length)),(14,.d (dI i)),(31,.d (.v V1)),(32,.d (dI i)),(34,.d (.v V1)),(35,.d (dI i)),(38,.d (ao M)),(33,.d (iF v)),(36,.d (.v (fb V1 (i*1)))),(37,.d (ao X)),(39,.d (.tu [ao S,aR])),(30,.d (.tu [ao S,aR])),(40,.d (ao S))]) (fun V=>?_) (fun N1_2_5_0_0=>?_)
     · refine ZH.all 11 (by kernel_rfl) rfl rfl (fun _=>rfl) trivial ?_;refine bM (fun B1 F1 w1=>?_);refine qU 1 rfl ?_;refine ae.nil ⟨rfl,?_⟩;exact qL (N1_2_5_1_0 V) (by kernel_rfl) rfl trivial
     refine ZH.meet 3 (qB 15 4095) (fun V=>[(V1,iA ps),(V2,iA ys)]) (fun V=>[(1,.d (.v V1)),(2,.d (.v V2)),(3,.d (ao c)),(4,.bx [.sl 1 (v.map ao)]),(9,.d (dI i)),(10,.d (ao M)),(13,.d (dI xs.length)),(14,.d (dI i)),(31,.d (.v V1)),(32,.d (dI i)),(34,.d (.v V1)),(35,.d (dI i)),(38,.d (ao M)),(33,.d (iF v)),(36,.d (.v (fb V1 (i*1)))),(37,.d (ao X)),(39,.d (.tu [ao S,aR])),(30,.d (.tu [ao S,aR])),(40,.d (ao S)),(41,.d aR)]) (fun V=>?_) (fun N1_2_3_1_0=>?_)
     · refine ZH.all 12 (by kernel_rfl) rfl rfl (fun _=>rfl) trivial ?_;refine bE (fun B1 F1 w1 hS=>?_);refine ae.idxs tok (hS.at (i:=0) rfl (by rw[ah];omega)) rfl rfl rfl rfl (aj i) (by rw[ah,hpl];exact hin) ?_;refine ae.nil ⟨rfl,?_⟩;exact qL (N1_2_4_1_0 V) (by kernel_rfl) rfl trivial
     refine ZH.meet 3 (qB 15 6143) (fun V=>[(V1,iA ps),(V2,iA ys)]) (fun V=>[(1,.d (.v V1)),(2,.d (.v V2)),(3,.d (ao c)),(4,.bx [.sl 1 (v.map ao)]),(9,.d (dI i)),(10,.d (ao M)),(13,.d (dI xs.length)),(14,.d (dI i)),(31,.d (.v V1)),(32,.d (dI i)),(34,.d (.v V1)),(35,.d (dI i)),(38,.d (ao M)),(33,.d (iF v)),(36,.d (.v (fb V1 (i*1)))),(37,.d (ao X)),(39,.d (.tu [ao S,aR])),(30,.d (.tu [ao S,aR])),(40,.d (ao S)),(42,.d (.v (fb V1 (i*1))))]) (fun V=>?_) (fun N1_2_4_0_0=>?_)
     · refine ZH.two 11 13 (by kernel_rfl) rfl rfl rfl rfl (fun _=>rfl) (fun _=>rfl) trivial ?_ ?_
       · refine bM (fun B1 F1 w1=>?_);refine qU 1 rfl ?_;refine ae.nil ⟨rfl,?_⟩;exact qL (N1_2_4_1_0 V) (by kernel_rfl) rfl trivial
       · refine ak.fo 31 0 rfl rfl rfl ?_;refine ak.el tok 31 42 rfl (List.Mem.head _) rfl rfl rfl (by rw[ah,hpl];exact hin) rfl ?_;refine ak.cut 1 rfl (fun B1 F1 w1=>?_);refine ae.B4 tok S rfl rfl rfl (by omega) ?_;rw[hps];refine ae.nil ⟨rfl,?_⟩;refine ak.back 31 0 rfl rfl rfl (List.Mem.head _) rfl ?_;refine ak.nil ?_;exact qL (N1_2_5_0_0 V) (by kernel_rfl) rfl trivial
     refine ZH.meet 4 (qB 15 3071) (fun V=>[(V1,iA ps),(V2,iA ys)]) (fun V=>[(1,.d (.v V1)),(2,.d (.v V2)),(3,.d (ao c)),(4,.bx [.sl 1 (v.map ao)]),(9,.d (dI i)),(10,.d (ao M)),(13,.d (dI xs.length)),(14,.d (dI i)),(31,.d (.v V1)),(32,.d (dI i)),(34,.d (.v V1)),(35,.d (dI i)),(38,.d (ao M)),(33,.d (iF v)),(36,.d (.v (fb V1 (i*1)))),(37,.d (ao X)),(39,.d (.tu [ao S,aR])),(30,.d (.tu [ao S,aR])),(41,.d aR)]) (fun V=>?_) (fun N1_2_2_1_0=>?_)
     · refine ZH.all 10 (by kernel_rfl) rfl rfl (fun _=>rfl) trivial ?_;refine bM (fun B1 F1 w1=>?_);refine qU 1 rfl ?_;refine ae.nil ⟨rfl,?_⟩;exact qL (N1_2_3_1_0 V) (by kernel_rfl) rfl trivial
     refine ZH.meet 4 (qB 15 2047) (fun V=>[(V1,iA ps),(V2,iA ys)]) (fun V=>[(1,.d (.v V1)),(2,.d (.v V2)),(3,.d (ao c)),(4,.bx [.sl 1 (v.map ao)]),(9,.d (dI i)),(10,.d (ao M)),(13,.d (dI xs.length)),(14,.d (dI i)),(31,.d (.v V1)),(32,.d (dI i)),(34,.d (.v V1)),(35,.d (dI i)),(38,.d (ao M)),(33,.d (iF v)),(36,.d (.v (fb V1 (i*1)))),(37,.d (ao X)),(39,.d (.tu [ao S,aR])),(30,.d (.tu [ao S,aR])),(40,.d (ao S))]) (fun V=>?_) (fun N1_2_3_0_0=>?_)
     · refine ZH.two 11 12 (by kernel_rfl) rfl rfl rfl rfl (fun _=>rfl) (fun _=>rfl) trivial ?_ ?_
       · refine bM (fun B1 F1 w1=>?_);refine qU 1 rfl ?_;refine ae.nil ⟨rfl,?_⟩;exact qL (N1_2_3_1_0 V) (by kernel_rfl) rfl trivial
       · refine bE (fun B1 F1 w1 hS=>?_);refine ae.idxs tok (hS.at (i:=0) rfl (by rw[ah];omega)) rfl rfl rfl rfl (aj i) (by rw[ah,hpl];exact hin) ?_;refine ae.nil ⟨rfl,?_⟩;exact qL (N1_2_4_0_0 V) (by kernel_rfl) rfl trivial
     refine ZH.meet 5 (qB 15 1023) (fun V=>[(V1,iA ps),(V2,iA ys)]) (fun V=>[(1,.d (.v V1)),(2,.d (.v V2)),(3,.d (ao c)),(4,.bx [.sl 1 (v.map ao)]),(9,.d (dI i)),(10,.d (ao M)),(13,.d (dI xs.length)),(14,.d (dI i)),(31,.d (.v V1)),(32,.d (dI i)),(34,.d (.v V1)),(35,.d (dI i)),(38,.d (ao M)),(33,.d (iF v)),(36,.d (.v (fb V1 (i*1)))),(37,.d (ao X)),(39,.d (.tu [ao S,aR])),(30,.d (.tu [ao S,aR]))]) (fun V=>?_) (fun N1_2_2_0_0=>?_)
     · refine ZH.two 10 11 (by kernel_rfl) rfl rfl rfl rfl (fun _=>rfl) (fun _=>rfl) trivial ?_ ?_
       · refine bM (fun B1 F1 w1=>?_);refine qU 1 rfl ?_;refine ae.nil ⟨rfl,?_⟩;exact qL (N1_2_3_0_0 V) (by kernel_rfl) rfl trivial
       · refine bM (fun B1 F1 w1=>?_);refine qU 1 rfl ?_;refine ae.nil ⟨rfl,?_⟩;exact qL (N1_2_2_1_0 V) (by kernel_rfl) rfl trivial
     refine ZH.meet 6 (qB 15 511) (fun V=>[(V1,iA ps),(V2,iA ys)]) (fun V=>[(1,.d (.v V1)),(2,.d (.v V2)),(3,.d (ao c)),(4,.bx [.sl 1 (v.map ao)]),(9,.d (dI i)),(10,.d (ao M)),(13,.d (dI xs.length)),(14,.d (dI i)),(31,.d (.v V1)),(32,.d (dI i)),(34,.d (.v V1)),(35,.d (dI i)),(38,.d (ao M)),(33,.d (iF v)),(36,.d (.v (fb V1 (i*1)))),(37,.d (ao X)),(39,.d (.tu [ao S,aR]))]) (fun V=>?_) (fun N1_2_1_0_0=>?_)
     · refine ZH.all 9 (by kernel_rfl) rfl rfl (fun _=>rfl) trivial ?_;refine bM (fun B1 F1 w1=>?_);refine qU 1 rfl ?_;refine ae.nil ⟨rfl,?_⟩;exact qL (N1_2_2_0_0 V) (by kernel_rfl) rfl trivial
     refine ZH.meet 7 (qB 15 255) (fun V=>[(V1,iA ps),(V2,iA ys)]) (fun V=>[(1,.d (.v V1)),(2,.d (.v V2)),(3,.d (ao c)),(4,.bx [.sl 1 (v.map ao)]),(9,.d (dI i)),(10,.d (ao M)),(13,.d (dI xs.length)),(14,.d (dI i)),(31,.d (.v V1)),(32,.d (dI i)),(34,.d (.v V1)),(35,.d (dI i)),(38,.d (ao M)),(33,.d (iF v)),(36,.d (.v (fb V1 (i*1)))),(37,.d (ao X))]) (fun V=>?_) (fun N1_2_0_0_0=>?_)
     · refine ZH.all 8 (by kernel_rfl) rfl rfl (fun _=>rfl) trivial ?_;refine bM (fun B1 F1 w1=>?_);refine ae.call tok rfl rfl rfl rfl cs ?_;refine ae.nil ⟨rfl,?_⟩;exact qL (N1_2_1_0_0 V) (by kernel_rfl) rfl trivial
     refine ZH.meet 8 (qB 15 251) (fun V=>[(V1,iA ps),(V2,iA ys)]) (fun V=>[(1,.d (.v V1)),(2,.d (.v V2)),(3,.d (ao c)),(4,.bx [.sl 1 (v.map ao)]),(9,.d (dI i)),(10,.d (ao M)),(13,.d (dI xs.length)),(14,.d (dI i)),(31,.d (.v V1)),(32,.d (dI i)),(34,.d (.v V1)),(35,.d (dI i)),(38,.d (ao M)),(36,.d (.v (fb V1 (i*1)))),(37,.d (ao X))]) (fun V=>?_) (fun N0_2_0_0_0=>?_)
     · refine ZH.all 2 (by kernel_rfl) rfl rfl (fun _=>rfl) trivial ?_;refine bM (fun B1 F1 w1=>?_);refine qU 1 rfl ?_;refine ae.nil ⟨rfl,?_⟩;exact qL (N1_2_0_0_0 V) (by kernel_rfl) rfl trivial
     refine ZH.meet 8 (qB 15 191) (fun V=>[(V1,iA ps),(V2,iA ys)]) (fun V=>[(1,.d (.v V1)),(2,.d (.v V2)),(3,.d (ao c)),(4,.bx [.sl 1 (v.map ao)]),(9,.d (dI i)),(10,.d (ao M)),(13,.d (dI xs.length)),(14,.d (dI i)),(31,.d (.v V1)),(32,.d (dI i)),(34,.d (.v V1)),(35,.d (dI i)),(38,.d (ao M)),(33,.d (iF v)),(36,.d (.v (fb V1 (i*1))))]) (fun V=>?_) (fun N1_1_0_0_0=>?_)
     · refine ZH.all 6 (by kernel_rfl) rfl rfl (fun _=>rfl) trivial ?_;refine bE (fun B1 F1 w1 hS=>?_);refine ae.eD tok (ao (ps.getD i [])) (hS.at (i:=0) rfl (by rw[ah];omega)) rfl rfl rfl rfl rfl rfl (getM ao (by omega)) rfl ?_;rw[hpg];refine ae.nil ⟨rfl,?_⟩;exact qL (N1_2_0_0_0 V) (by kernel_rfl) rfl trivial
     refine ZH.meet 9 (qB 15 187) (fun V=>[(V1,iA ps),(V2,iA ys)]) (fun V=>[(1,.d (.v V1)),(2,.d (.v V2)),(3,.d (ao c)),(4,.bx [.sl 1 (v.map ao)]),(9,.d (dI i)),(10,.d (ao M)),(13,.d (dI xs.length)),(14,.d (dI i)),(31,.d (.v V1)),(32,.d (dI i)),(34,.d (.v V1)),(35,.d (dI i)),(38,.d (ao M)),(36,.d (.v (fb V1 (i*1))))]) (fun V=>?_) (fun N0_1_0_0_0=>?_)
     · refine ZH.two 2 6 (by kernel_rfl) rfl rfl rfl rfl (fun _=>rfl) (fun _=>rfl) trivial ?_ ?_
       · refine bM (fun B1 F1 w1=>?_);refine qU 1 rfl ?_;refine ae.nil ⟨rfl,?_⟩;exact qL (N1_1_0_0_0 V) (by kernel_rfl) rfl trivial
       · refine bE (fun B1 F1 w1 hS=>?_);refine ae.eD tok (ao (ps.getD i [])) (hS.at (i:=0) rfl (by rw[ah];omega)) rfl rfl rfl rfl rfl rfl (getM ao (by omega)) rfl ?_;rw[hpg];refine ae.nil ⟨rfl,?_⟩;exact qL (N0_2_0_0_0 V) (by kernel_rfl) rfl trivial
     refine ZH.meet 9 (qB 15 159) (fun V=>[(V1,iA ps),(V2,iA ys)]) (fun V=>[(1,.d (.v V1)),(2,.d (.v V2)),(3,.d (ao c)),(4,.bx [.sl 1 (v.map ao)]),(9,.d (dI i)),(10,.d (ao M)),(13,.d (dI xs.length)),(14,.d (dI i)),(31,.d (.v V1)),(32,.d (dI i)),(34,.d (.v V1)),(35,.d (dI i)),(38,.d (ao M)),(33,.d (iF v))]) (fun V=>?_) (fun N1_0_0_0_0=>?_)
     · refine ZH.all 5 (by kernel_rfl) rfl rfl (fun _=>rfl) trivial ?_;refine bE (fun B1 F1 w1 hS=>?_);refine ae.idxs tok (hS.at (i:=0) rfl (by rw[ah];omega)) rfl rfl rfl rfl (aj i) (by rw[ah,hpl];exact hin) ?_;refine ae.nil ⟨rfl,?_⟩;exact qL (N1_1_0_0_0 V) (by kernel_rfl) rfl trivial
     refine ZH.meet 10 (qB 15 155) (fun V=>[(V1,iA ps),(V2,iA ys)]) (fun V=>[(1,.d (.v V1)),(2,.d (.v V2)),(3,.d (ao c)),(4,.bx [.sl 1 (v.map ao)]),(9,.d (dI i)),(10,.d (ao M)),(13,.d (dI xs.length)),(14,.d (dI i)),(31,.d (.v V1)),(32,.d (dI i)),(34,.d (.v V1)),(35,.d (dI i)),(38,.d (ao M))]) (fun V=>?_) (fun N0_0_0_0_0=>?_)
     · refine ZH.two 2 5 (by kernel_rfl) rfl rfl rfl rfl (fun _=>rfl) (fun _=>rfl) trivial ?_ ?_
       · refine bM (fun B1 F1 w1=>?_);refine qU 1 rfl ?_;refine ae.nil ⟨rfl,?_⟩;exact qL (N1_0_0_0_0 V) (by kernel_rfl) rfl trivial
       · refine bE (fun B1 F1 w1 hS=>?_);refine ae.idxs tok (hS.at (i:=0) rfl (by rw[ah];omega)) rfl rfl rfl rfl (aj i) (by rw[ah,hpl];exact hin) ?_;refine ae.nil ⟨rfl,?_⟩;exact qL (N0_1_0_0_0 V) (by kernel_rfl) rfl trivial
     exact qL (N0_0_0_0_0 ia) (by kernel_rfl) rfl trivial
   have hin:i=xs.length:=by have:=ar h;omega
   subst hin;rw[A6 hz];refine AZ.exit ?_;refine AZ.seq (AZ.jw (fun B1 F1 w1=>?_));refine qU 1 rfl ?_;refine ae.nil ⟨rfl,?_⟩;exact AZ.ret ⟨aR,rfl,rfl,rfl⟩
end Lift
namespace Lift
abbrev dW:=List (List NQ)
structure jJ where
 rows:dW
 cols:List Nat
 sg:Int
 gV:NQ
def mH(g:Nat→Bool):Nat→Nat→Nat
 | 0,i=>i
 | m+1,i=>if g i=true then i else mH g m (i+1)
theorem E7{g:Nat→Bool}{n i:Nat}(h:i<n)(h0:g i=false):mH g (n-i) i=mH g (n-(i+1)) (i+1):=by
 rw[show n-i=(n-(i+1))+1 by omega,mH,if_neg (by rw[h0];simp)]
theorem Ha{g:Nat→Bool}{n i:Nat}(h:i<n)(h0:g i=true):mH g (n-i) i=i:=by
 rw[show n-i=(n-(i+1))+1 by omega,mH,if_pos h0]
theorem Hb{g:Nat→Bool}{n i:Nat}(h: ¬i<n):mH g (n-i) i=i:=by rw[show n-i=0 by omega,mH]
theorem xP{g:Nat→Bool}: ∀{m i:Nat},i≤mH g m i∧mH g m i≤i+m∧(∀k,i≤k→k<mH g m i→g k=false)∧(mH g m i<i+m→g (mH g m i)=true)
 | 0,i=>⟨ai _,ai _,fun k h1 h2=>by simp only[mH] at h2;omega,fun h=>by simp only[mH] at h;omega⟩
 | m+1,i=>by
   simp only[mH];split
   · rename_i h;exact⟨ai _,by omega,fun k h1 h2=>by omega,fun _=>h⟩
   · rename_i h;obtain ⟨h1,h2,h3,h4⟩:=xP (g:=g) (m:=m) (i:=i+1);refine⟨by omega,by omega,fun k k1 k2=>?_,fun k=>h4 (by omega)⟩;by_cases e:k=i
     · subst e;simpa using h
     · exact h3 k (by omega) k2
def bk(a:dW)(i k:Nat):NQ:=(a.getD i []).getD k []
def LS(v:List NQ)(a:dW)(c j:Nat):Bool:=decide (q7 v (bk a j c)≠0)
def FN(b:dW)(r t:Nat):dW:=(b.set t (b.getD r [])).set r (b.getD t [])
def dw(v:List NQ)(e:dW)(r c:Nat):Nat→dW
 | 0=>e
 | i+1=>if i≠r∧q7 v (bk (dw v e r c i) i c)≠0 then (dw v e r c i).set i (mS v ((dw v e r c i).getD i []) ((dw v e r c i).getD r []) (bk (dw v e r c i) i c)) else dw v e r c i
def atR(v:List NQ)(s:jJ)(c:Nat):Nat:=mH (LS v s.rows c) (s.rows.length-s.cols.length) s.cols.length
def bR(v:List NQ)(s:jJ)(c:Nat):dW:=if atR v s c=s.cols.length then s.rows else FN s.rows s.cols.length (atR v s c)
def pR(v:List NQ)(s:jJ)(c:Nat):NQ:=bk (bR v s c) s.cols.length c
def Fl(v:List NQ)(r:List NQ)(p:NQ):List NQ:=r.map (fun x=>wW v x p)
def eR(v:List NQ)(s:jJ)(c:Nat):dW:=(bR v s c).set s.cols.length (Fl v ((bR v s c).getD s.cols.length []) (pR v s c))
def cL(v:List NQ)(s:jJ)(c:Nat):jJ :=
 if atR v s c<s.rows.length then ⟨dw v (eR v s c) s.cols.length c (eR v s c).length,s.cols++[c],if atR v s c=s.cols.length then s.sg else -s.sg,fN v s.gV (pR v s c)⟩ else s
def aE(v:List NQ)(a:dW):Nat→jJ
 | 0=>⟨a,[],1,[1]⟩
 | c+1=>cL v (aE v a c) c
structure nH (v:List NQ) (s:jJ) (c:Nat):Prop where
 sg: ∀j,s.cols.length≤j→j<s.rows.length→Ct v (bk s.rows j c)
 gV:atR v s c<s.rows.length→AO v s.gV (pR v s c)
 div:atR v s c<s.rows.length→ ∀k,k<((bR v s c).getD s.cols.length []).length→GD v (bk (bR v s c) s.cols.length k) (pR v s c)
 sg2:atR v s c<s.rows.length→ ∀i,i<s.rows.length→i≠s.cols.length→Ct v (bk (eR v s c) i c)
 take:atR v s c<s.rows.length→ ∀i,i<s.rows.length→i≠s.cols.length→q7 v (bk (eR v s c) i c)≠0→Gy v ((eR v s c).getD i []) ((eR v s c).getD s.cols.length []) (bk (eR v s c) i c)
def dy(N:Nat)(a:dW):Prop:= ∀j,j<a.length→(a.getD j []).length=N
def qY(l:Nat)(a:dW):Prop:= ∀j k,au l (bk a j k)
theorem eG(a:dW)(i j:Nat)(r:List NQ):(a.set i r).getD j []=if j=i∧i<a.length then r else a.getD j []:=by
 rw[aN,List.getElem?_set,aN];by_cases e:i=j
 · subst e;by_cases h:i<a.length
   · rw[if_pos rfl,if_pos h,if_pos ⟨rfl,h⟩];rfl
   · rw[if_pos rfl,if_neg h,if_neg (fun e=>h e.2),List.getElem?_eq_none (by omega)]
 · rw[if_neg e,if_neg (fun h=>e h.1.symm)]
theorem mb{a:dW}{i:Nat}(h:a.length≤i):a.getD i []=[]:=by rw[aN,List.getElem?_eq_none h];rfl
theorem qG{r:List NQ}{i:Nat}(h:r.length≤i):r.getD i []=[]:=by rw[aN,List.getElem?_eq_none h];rfl
theorem dy.set{N:Nat}{a:dW}(h:dy N a){r:List NQ}(hr:r.length=N)(i:Nat):dy N (a.set i r):=fun j hj=>by
 rw[eG];split
 · exact hr
 · exact h j (by simpa using hj)
theorem qY.set{l:Nat}{a:dW}(h:qY l a){r:List NQ}(hr: ∀k,au l (r.getD k []))(i:Nat):qY l (a.set i r):=fun j k=>by
 unfold bk;rw[eG];split
 · exact hr k
 · exact h j k
theorem Ii(b:dW)(r t:Nat):(FN b r t).length=b.length:=by unfold FN;rw[List.length_set,List.length_set]
theorem FM{N:Nat}{b:dW}(h:dy N b){r t:Nat}(hr:r<b.length)(ht:t<b.length):dy N (FN b r t):=(h.set (h r hr) t).set (h t ht) r
theorem Kj{l:Nat}{b:dW}(h:qY l b)(r t:Nat):qY l (FN b r t):=(h.set (h r) t).set (h t) r
theorem yY(v:List NQ)(r:List NQ)(p:NQ):(Fl v r p).length=r.length:=ah ..
theorem tS(v:List NQ)(r:List NQ)(p:NQ){k:Nat}(h:k<r.length):(Fl v r p).getD k []=wW v (r.getD k []) p:=by
 unfold Fl;rw[aN,List.getElem?_map,aN,b9 h];rfl
theorem KG{v:List NQ}(V:pB v){r:List NQ}{p:NQ}(hr: ∀k,au v.length (r.getD k []))(hp:au v.length p)(k:Nat):au v.length ((Fl v r p).getD k []):=by
 by_cases h:k<r.length
 · rw[tS v r p h];exact Jk V (hr k) hp
 · rw[qG (by rw[yY];omega)];exact cy _
theorem FI{v:List NQ}(V:pB v){xs ys:List NQ}{c:NQ}(hx: ∀k,au v.length (xs.getD k []))(hy: ∀k,au v.length (ys.getD k []))(hc:au v.length c)(k:Nat):au v.length ((mS v xs ys c).getD k []):=by
 by_cases h:k<xs.length
 · rw[nP v xs ys c h];exact pW (hx k) (ib V hc (hy k))
 · rw[qG (by rw[rk];omega)];exact cy _
theorem jr(v:List NQ)(e:dW)(r c:Nat): ∀i,(dw v e r c i).length=e.length
 | 0=>rfl
 | i+1=>by
   unfold dw;split
   · rw[List.length_set];exact jr v e r c i
   · exact jr v e r c i
theorem r6{N:Nat}{v:List NQ}{e:dW}{r c:Nat}(h:dy N e): ∀i,i≤e.length→dy N (dw v e r c i)
 | 0,_=>h
 | i+1,hi=>by
   have ih:=r6 (v:=v) (r:=r) (c:=c) h i (by omega);unfold dw;split
   · exact ih.set (by rw[rk];exact ih i (by rw[jr];omega)) i
   · exact ih
theorem zL{v:List NQ}(V:pB v){e:dW}{r c:Nat}(h:qY v.length e): ∀i,qY v.length (dw v e r c i)
 | 0=>h
 | i+1=>by
   have ih:=zL V (r:=r) (c:=c) h i;unfold dw;split
   · exact ih.set (FI V (ih i) (ih r) (ih i c)) i
   · exact ih
theorem im(v:List NQ)(e:dW)(r c:Nat): ∀i,(∀j,i≤j∨j=r→(dw v e r c i).getD j []=e.getD j [])
 | 0,j,_=>rfl
 | i+1,j,hj=>by
   have ih:=im v e r c i j (by omega);unfold dw;split
   · rename_i h;rw[eG,if_neg (fun g=>by rcases hj with hj | hj<;>omega)];exact ih
   · exact ih
theorem zM(v:List NQ)(e:dW)(r c:Nat)(i:Nat)(k:Nat):bk (dw v e r c i) i k=bk e i k:=by unfold bk;rw[im v e r c i i (.inl (ai _))]
structure oM (v:List NQ) (m N c:Nat) (s:jJ):Prop where
 len:s.rows.length=m
 rect:dy N s.rows
 lt:qY v.length s.rows
 cl:s.cols.length≤c
 cm:s.cols.length≤m
 gV:au v.length s.gV
 sg:s.sg=1∨s.sg= -1
theorem fi(v:List NQ)(s:jJ)(c:Nat)(h:s.cols.length≤s.rows.length):s.cols.length≤atR v s c∧atR v s c≤s.rows.length∧(∀k,s.cols.length≤k→k<atR v s c→q7 v (bk s.rows k c)=0)∧(atR v s c<s.rows.length→q7 v (bk s.rows (atR v s c) c)≠0):=by
 obtain ⟨h1,h2,h3,h4⟩:=xP (g:=LS v s.rows c) (m:=s.rows.length-s.cols.length) (i:=s.cols.length);refine⟨h1,by unfold atR;omega,fun k k1 k2=>?_,fun h=>?_⟩
 · have:=h3 k k1 k2;unfold LS at this;exact Classical.byContradiction fun g=>by rw[aO g] at this;cases this
 · exact aq (h4 (by unfold atR at h;omega))
theorem qV{v:List NQ}{m N c k:Nat}{s:jJ}(R:oM v m N k s)(h:atR v s c<s.rows.length):(bR v s c).length=m∧dy N (bR v s c)∧qY v.length (bR v s c):=by
 have hl:=R.len;have:=(fi v s c (by have:=R.cm;omega)).1;unfold bR;split
 · exact⟨R.len,R.rect,R.lt⟩
 · exact⟨by rw[Ii];exact R.len,FM R.rect (by omega) h,Kj R.lt _ _⟩
theorem xW{v:List NQ}(V:pB v){m N c k:Nat}{s:jJ}(R:oM v m N k s)(h:atR v s c<s.rows.length):(eR v s c).length=m∧dy N (eR v s c)∧qY v.length (eR v s c):=by
 obtain ⟨h1,h2,h3⟩:=qV (c:=c) R h;have hl:=R.len;have:=(fi v s c (by have:=R.cm;omega)).1;unfold eR;exact⟨by rw[List.length_set];exact h1,h2.set (by rw[yY];exact h2 _ (by omega)) _,h3.set (KG V (h3 _) (h3 _ _)) _⟩
theorem Ip{v:List NQ}(V:pB v){m N c:Nat}{s:jJ}(R:oM v m N c s):oM v m N (c+1) (cL v s c):=by
 have hl:=R.len;have hc:=R.cl;unfold cL;split
 · rename_i h;obtain ⟨e1,e2,e3⟩:=xW V (c:=c) R h;have ha:=(fi v s c (by have:=R.cm;omega)).1;refine⟨by rw[jr];exact e1,r6 e2 _ (ai _),zL V e3 _,?_,?_,ib V R.gV ((qV R h).2.2 _ _),?_⟩
   · show (s.cols++[c]).length≤c+1;rw[List.length_append];show s.cols.length+1≤_;omega
   · show (s.cols++[c]).length≤m;rw[List.length_append];show s.cols.length+1≤_;omega
   · rcases R.sg with h1 | h1<;>(show (if _ then s.sg else -s.sg)=1∨_= -1;split<;>simp[h1])
 · exact⟨R.len,R.rect,R.lt,by omega,R.cm,R.gV,R.sg⟩
theorem kT{v:List NQ}(V:pB v){a:dW}{N:Nat}(hr:dy N a)(hl:qY v.length a): ∀c,oM v a.length N c (aE v a c)
 | 0=>⟨rfl,hr,hl,ai _,Nat.zero_le _,eW _ _,.inl rfl⟩
 | c+1=>Ip V (kT V hr hl c)
theorem tN(v:List NQ): ∀c,aE v [] c=⟨[],[],1,[1]⟩
 | 0=>rfl
 | c+1=>by
   show cL v (aE v [] c) c=_;rw[tN v c];unfold cL;exact if_neg (Nat.not_lt_zero _)
end Lift
