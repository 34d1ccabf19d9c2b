/- Parts of the proof, one behind the other: the logic, the contracts of the functions that the statement reaches. -/
import Derived.Test.YtfakkdmfofiibaaGreatT2C
import Derived.Laws.StructEq
set_option linter.unusedVariables false
set_option linter.unusedSimpArgs false
namespace Lift
open Go Go.Proofs
instance:Inhabited DyD:=⟨DyQ ((0,0),(0,0),0)⟩
end Lift
namespace Lift
open Go Go.Proofs
end Lift
namespace Lift
open Go Go.Proofs
theorem yJ(q:Rat):gV q.num=ji q:=by
 unfold gV ji;have h0:q.num=0↔q=0:=Rat.num_eq_zero
 have h1:q.num<0↔q<0:=by
  have e1:= @Rat.num_nonneg q;have e2:= @Rat.not_le 0 q;rw[← e2,← e1];omega
 by_cases hz:q=0
 · subst hz;rfl
 · rw[if_neg hz];by_cases hl:q<0
   · rw[if_pos hl,if_pos (h1.2 hl)]
   · rw[if_neg hl,if_neg (fun h=>hl (h1.1 h)),if_neg (fun h=>hz (h0.1 h))]
end Lift
namespace Lift
open Go Go.Proofs
abbrev af(a:NQ):D:= .sl 3 (dG a)
abbrev bC(rt:List NQ):D:= .ag [.sl 1 (rt.map af)]
theorem vI{k:Nat}(hk:k≤43):IntKind.i64.wrap ((1:Int)*2^(min k IntKind.i64.bits))=((2^k:Nat):Int):=by
 have hb:IntKind.i64.bits=64:=rfl;have h:2^k≤2^43:=Nat.pow_le_pow_right (by decide) hk;rw[hb,Nat.min_eq_left (by omega),show (1:Int)*2^k=((2^k:Nat):Int) by push_cast;omega];generalize 2^k=m at h;rw[aC (by omega) (by omega)]
theorem kA(xs:List D)(r:Int)(hx:xs.length≤4398046511104)(hr: ∀k:Nat,k≤43→xs.length≤2^k→(∀j,j<k→2^j<xs.length)→r=if 2^k=xs.length then (k:Int) else -1):Pure Tryz.prog 102 [.sl 3 xs] (dI r):=by
 refine qJ 17 Tryz.func102 rfl rfl rfl rfl (by kernel_rfl) (fun B F0 w0=>?_);refine qX 1 rfl ?_;refine qK 1 rfl ?_;refine qI (AW.block ?_);refine AW.aE [0,3] (fun k:Nat=>[(0,.d (.sl 3 xs)),(3,.d (dI k))]) (fun k=>k≤43∧ ∀j,j<k→2^j<xs.length) (fun k=>43-k) 0 rfl ⟨Nat.zero_le _,fun j h=>by omega⟩ (fun k hi=>?_)
 · obtain ⟨hk,hi⟩:=hi;show AW _ _ _ _ _ _ _ [(0,.d (.sl 3 xs)),(3,.d (dI k))];have hp:2^k≤2^43:=Nat.pow_le_pow_right (by decide) hk;refine AW.seq ?_;refine qX 2 rfl ?_;rw[vI hk];refine qU 3 rfl ?_;refine ab.nil ?_;refine AW.cond rfl (fun h=>?_) (fun h=>?_)
   · have h:2^k<xs.length:=by have:=of_decide_eq_true h;omega
     have hk4:k≠43:=fun e=>by subst e;omega
     refine AW.skip (AW.block ?_);refine qT 2 rfl ?_;rw[aC (x:=(k:Int)+1) (by omega) (by omega)];refine qU 1 rfl ?_;refine ab.nil ?_
     exact⟨k+1,rfl,⟨by omega,fun j hj=>by
      by_cases e:j=k
      · rw[e];exact h
      · exact hi j (by omega)⟩,by omega⟩
   have h: ¬2^k<xs.length:=by have:=of_decide_eq_false h;omega
   rw[hr k hk (by omega) hi];refine AW.exit (AW.seq ?_);refine qX 2 rfl ?_;rw[vI hk];refine qU 3 rfl ?_;refine ab.nil ?_;by_cases e:2^k=xs.length
   · rw[if_pos e,e,bne_eq_false_iff_eq.2 rfl];refine AW.au rfl ?_;refine AW.skip ?_;refine qX 2 rfl ?_;exact qN rfl
   rw[if_neg e,bne_iff_ne.2 (fun h=>e (by omega))];refine AW.aF rfl ?_;refine qX 1 rfl ?_;exact qN rfl
theorem gM{i j:Nat}(h:2^i≤2^j):i≤j:=(Nat.pow_le_pow_iff_right (a:=2) (by decide)).1 h
theorem dt(xs:List D){i:Nat}(h:xs.length=2^i)(hi:i≤42):Pure Tryz.prog 102 [.sl 3 xs] (dI i):=by
 have hp:2^i≤2^42:=Nat.pow_le_pow_right (by decide) hi;refine kA xs i (by omega) (fun k hk h1 h2=>?_);rw[h] at h1;have h1:=gM h1;by_cases e:i<k
 · have:=h2 i e;omega
 · have e:i=k:=by omega
   rw[if_pos (by rw[h,e]),e]
theorem j9(xs:List D)(h: ∀i,xs.length≠2^i)(hx:xs.length≤4398046511104):Pure Tryz.prog 102 [.sl 3 xs] (dI (-1)):=by
 refine kA xs (-1) hx (fun k hk h1 h2=>?_);rw[if_neg (fun e=>h k e.symm)]
theorem qt{a:NQ}{i:Nat}(hi:i<a.length)(h:a.getD i 0≠0):a9 a=false:=by
 unfold a9;rw[List.all_eq_false];exact⟨a.getD i 0,by rw[List.getD_eq_getElem?_getD,List.getElem?_eq_getElem hi];exact List.getElem_mem hi,by rw[decide_eq_false h];simp⟩
theorem nZ{a:NQ}(h: ∀i,i<a.length→a.getD i 0=0):a9 a=true:=by
 unfold a9;rw[List.all_eq_true];intro x hx;obtain ⟨i,hi,rfl⟩:=List.mem_iff_getElem.1 hx;have:=h i hi;rw[List.getD_eq_getElem?_getD,List.getElem?_eq_getElem hi] at this;exact decide_eq_true this
theorem l6(a:NQ){k:Nat}(hs:ar k a)(hk:k≤17300000000000)(hl:a.length≤1000000):Pure Tryz.prog 105 [af a] (dB (a9 a)):=by
 refine qJ 15 Tryz.func105 rfl rfl rfl rfl (by kernel_rfl) (fun B F0 w0=>?_);have hno:=fun i hi=>qt (a:=a) (i:=i) hi;have hyes:=nZ (a:=a);generalize a9 a=E at hno hyes ⊢;refine qX 1 rfl ?_;refine qI ?_;refine qX 2 rfl ?_;rw[List.length_map];refine qU 1 rfl ?_;refine ab.nil ?_;refine AW.block ?_;refine AW.aE [5,6,7] (fun i:Nat=>[(5,.d (af a)),(6,.d (dI a.length)),(7,.d (dI i))]) (fun i=> ∀j,j<i→j<a.length→a.getD j 0=0) (fun i=>a.length-i) 0 rfl (fun j h=>by omega) (fun i hi=>?_)
 · show AW _ _ _ _ _ _ _ [(5,.d (af a)),(6,.d (dI a.length)),(7,.d (dI i))];refine qX 1 rfl ?_;refine qI ?_;refine AW.cond rfl (fun h=>?_) (fun h=>?_)
   · have hii:i<a.length:=by have:=of_decide_eq_true h;omega
     have g:=kq hii;have cs:=jy (Qr (a.getD i 0)) (jH _ (hs i)) hk;have hn:=hno i hii;rw[cX] at cs;have s0:=F4 (q:=a.getD i 0);generalize hq:a.getD i 0=q at g cs hn s0;generalize gV q.num=s at cs s0;refine AW.skip (AW.seq (AW.block (AW.seq (AW.region ?_))));refine ab.idx tok (Qr q).D rfl rfl rfl rfl (Int.natCast_nonneg i) g ?_;refine qU 3 rfl ?_;refine qK 1 rfl ?_;refine ab.call tok rfl rfl rfl rfl cs ?_;refine qU 1 rfl ?_;refine ab.nil ?_;refine AW.cond rfl (fun h=>?_) (fun h=>?_)
     · have h:s≠0:=bne_iff_ne.1 h;rw[hn (fun e=>h (s0.2 e))];refine qX 1 rfl ?_;exact qN rfl
     · have h:s=0:=bne_eq_false_iff_eq.1 h;refine AW.skip ?_;refine qT 1 rfl ?_;rw[aC (x:=(i:Int)+1) (by omega) (by omega)];refine qU 1 rfl ?_;refine ab.nil ?_;refine⟨i+1,rfl,fun j h1 h2=>?_,by omega⟩;by_cases e:j=i
       · rw[e,hq];exact s0.1 h
       · exact hi j (by omega) h2
   have hii: ¬i<a.length:=by have:=of_decide_eq_false h;omega
   rw[hyes (fun j h=>hi j (by omega) h)];refine AW.exit ?_;refine qX 1 rfl ?_;exact qN rfl
theorem Ca(q:Rat):((Qr q).g=false∧(Qr q).n.length=0∧(Qr q).d.length=0)↔q=0:=by
 constructor
 · rintro ⟨_,h,_⟩
   have:=RD.mZ (r:=Qr q) (List.length_eq_zero_iff.1 h);rw[cX] at this;exact this
 · intro e;subst e;rw[iY];exact⟨rfl,rfl,rfl⟩
theorem kB(a:NQ)(hl:a.length≤1000000):Pure Tryz.prog 104 [af a] (dB (a9 a)):=by
 refine qJ 26 Tryz.func104 rfl rfl rfl rfl (by kernel_rfl) (fun B F0 w0=>?_);have hno:=fun i hi=>qt (a:=a) (i:=i) hi;have hyes:=nZ (a:=a);generalize a9 a=E at hno hyes ⊢;refine qX 1 rfl ?_;refine qI ?_;refine qX 2 rfl ?_;rw[List.length_map];refine qU 1 rfl ?_;refine ab.nil ?_;refine AW.block ?_;refine AW.aE [5,6,7] (fun i:Nat=>[(5,.d (af a)),(6,.d (dI a.length)),(7,.d (dI i))]) (fun i=> ∀j,j<i→j<a.length→a.getD j 0=0) (fun i=>a.length-i) 0 rfl (fun j h=>by omega) (fun i hi=>?_)
 · show AW _ _ _ _ _ _ _ [(5,.d (af a)),(6,.d (dI a.length)),(7,.d (dI i))];refine qX 1 rfl ?_;refine qI ?_;refine AW.cond rfl (fun h=>?_) (fun h=>?_)
   · have hii:i<a.length:=by have:=of_decide_eq_true h;omega
     have g:=kq hii;have hn:=hno i hii;have s0:=Ca (a.getD i 0);generalize hq:a.getD i 0=q at g hn s0;generalize Qr q=y at g s0;obtain ⟨yg,yn,yd⟩:=y;simp only[] at s0;refine AW.skip (AW.seq (AW.block (AW.seq (AW.region ?_))));refine ab.idx tok (RD.mk yg yn yd).D rfl rfl rfl rfl (Int.natCast_nonneg i) g ?_;refine qU 3 rfl ?_;refine qK 3 rfl ?_;cases yg with
     | true =>
       refine qU 11 rfl ?_;refine ab.nil ?_;refine AW.aF rfl ?_;rw[hn (fun e=>by have:=s0.2 e;cases this.1)];refine qX 1 rfl ?_;exact qN rfl
     | false =>
     refine qU 3 rfl ?_;rw[aS];refine qU 1 rfl ?_;by_cases h1:(0:Int)<(yn.length:Int)
     · rw[decide_eq_true h1];refine qU 7 rfl ?_;refine ab.nil ?_;refine AW.aF rfl ?_;rw[hn (fun e=>by have:=(s0.2 e).2.1;omega)];refine qX 1 rfl ?_;exact qN rfl
     rw[decide_eq_false h1];refine qU 5 rfl ?_;rw[aS];refine qU 1 rfl ?_;by_cases h2:(0:Int)<(yd.length:Int)
     · rw[decide_eq_true h2];refine qU 1 rfl ?_;refine ab.nil ?_;refine AW.aF rfl ?_;rw[hn (fun e=>by have:=(s0.2 e).2.2;omega)];refine qX 1 rfl ?_;exact qN rfl
     rw[decide_eq_false h2];refine qU 1 rfl ?_;refine ab.nil ?_;refine AW.au rfl ?_;refine AW.skip ?_;refine qT 1 rfl ?_;rw[aC (x:=(i:Int)+1) (by omega) (by omega)];refine qU 1 rfl ?_;refine ab.nil ?_;refine⟨i+1,rfl,fun j h1 h2=>?_,by omega⟩;by_cases e:j=i
     · rw[e,hq];exact s0.1 ⟨rfl,by omega,by omega⟩
     · exact hi j (by omega) h2
   have hii: ¬i<a.length:=by have:=of_decide_eq_false h;omega
   rw[hyes (fun j h=>hi j (by omega) h)];refine AW.exit ?_;refine qX 1 rfl ?_;exact qN rfl
end Lift
namespace Lift
open Go Go.Proofs
section
variable {P:Program} {T:Ty} {B:Nat} {F0:Nat→Prop} {w0:bY} {n:Nat} {σ τ:St} {K:St→Prop} {all:Array Oper} {o:Oper} {d:Nat} {rest:List Oper}
theorem ab.DD(hT:bf P T)(z:Nat){e:Nat}{te:TI}{m:Int}(hd:o.dst=some d)(hdn:Nat.ble (d+1) n=true)(hg:aA all σ o=true)(hx:Fp T σ.get o.op=some (e,te,m))(hz:kx te=true)(hzd:tc te= .ag [.v (.bool false),.sl 1 [],.sl 1 []])(hb:te.bytes=56)(hm:m=z)(h1:z≤1000000)
  (h:ab P B F0 w0 n all rest K ((d,.ow e (dG (List.replicate z 0)))::σ.kill d)):ab P B F0 w0 n all (o::rest) K σ:=by
 subst hm;refine ab.make hT hd hdn hg hx hz (by omega) (by rw[hb];omega) (by omega) ?_;have hq:(Qr 0).D= .ag [.v (.bool false),.sl 1 [],.sl 1 []]:=by rw[iY];rfl
 rw[hzd,← hq,show List.replicate ((z:Int)).toNat (Qr 0).D=dG (List.replicate z 0) by rw[dG,List.map_replicate];rfl];exact h
theorem z9(a:NQ)(m:Nat):(dG a).take (min (dG a).length (dG (List.replicate m 0)).length)++(dG (List.replicate m 0)).drop (min (dG a).length (dG (List.replicate m 0)).length)=dG (aW a m):=by
 rw[List.length_map,List.length_map,List.length_replicate,← List.map_take,← List.map_drop,← List.map_append];unfold aW;rw[List.drop_replicate]
 congr 2
 · by_cases h:a.length≤m
   · rw[Nat.min_eq_left h,List.take_of_length_le (Nat.le_refl _),List.take_of_length_le h]
   · rw[Nat.min_eq_right (by omega)]
 · congr 1;omega
theorem ab.FB(hT:bf P T){h e m:Nat}{a:NQ}(hd:o.dst=some d)(hdn:Nat.ble (d+1) n=true)(hg:aA all σ o=true)(hx:FX T σ o.op=some (h,e,dG (List.replicate m 0),dG a))
  (hk: ∀z,ab P B F0 w0 n all rest K ((d,.d (.v (.int .i64 z)))::(h,.ow e (dG (aW a m)))::σ)):ab P B F0 w0 n all (o::rest) K σ:=by
 refine ab.BL hT hd hdn hg hx ?_;rw[z9];exact hk _
end
theorem xQ{a b:NQ}(h:a.length=b.length)(h2: ∀i,i<a.length→a.getD i 0=b.getD i 0):a=b:=by
 refine List.ext_getElem h (fun i h3 h4=>?_);have:=h2 i h3;rw[List.getD_eq_getElem?_getD,List.getD_eq_getElem?_getD,List.getElem?_eq_getElem h3,List.getElem?_eq_getElem h4] at this;exact this
theorem x7(r:NQ)(i j:Nat)(q:Rat):(r.set i q).getD j 0=if j=i∧i<r.length then q else r.getD j 0:=by
 rw[List.getD_eq_getElem?_getD,List.getElem?_set,List.getD_eq_getElem?_getD];by_cases e:i=j
 · subst e;by_cases h:i<r.length
   · rw[if_pos rfl,if_pos h,if_pos ⟨rfl,h⟩];rfl
   · rw[if_pos rfl,if_neg h,if_neg (fun e=>h e.2),List.getElem?_eq_none (by omega)]
 · rw[if_neg e,if_neg (fun h=>e h.1.symm)]
def A0(r:NQ)(res:D)(R':List LR):Prop:= ∃V,res= .v V∧R'=[(V,AV.ow 111 (dG r))]
theorem fW(a:NQ)(n:Nat)(hn:n≤1000000):lp Tryz.prog 125 [af a,dI n] [] (A0 (aW a n)):=by
 refine lp.intro (n:=12) tok Tryz.func125 rfl rfl rfl (Nat.le_of_ble_eq_true rfl) (by kernel_rfl) (fun B F0 w0=>?_);refine AZ.seq ?_;refine AZ.gK (fun B1 F1 w1=>?_);refine qU 1 rfl ?_;refine ab.nil ⟨rfl,?_⟩;refine AZ.seq ?_;refine AZ.gK (fun B1 F1 w1=>?_);refine qU 1 rfl ?_;refine ab.DD tok n rfl rfl rfl rfl rfl rfl rfl rfl hn ?_;refine qU 1 rfl ?_;refine ab.nil ⟨rfl,?_⟩;refine AZ.seq ?_;refine AZ.gK (fun B1 F1 w1=>?_);refine qU 2 rfl ?_;refine ab.FB tok (a:=a) (m:=n) rfl rfl rfl rfl (fun z=>?_);refine ab.nil ⟨rfl,?_⟩;refine AZ.seq ?_;refine AZ.gK (fun B1 F1 w1=>?_);refine qU 2 rfl ?_;refine ab.nil ⟨rfl,?_⟩;refine AZ.jc 4 rfl rfl rfl (fun V=>AZ.ret ⟨.v V,rfl,V,rfl,rfl⟩)
theorem dP(a:NQ){k:Nat}(hs:ar k a)(hk:k≤17300000000000)(hl:a.length≤1000000):Pure Tryz.prog 86 [af a] (af (aL a)):=by
 refine qJ 23 Tryz.func86 rfl rfl rfl rfl (by kernel_rfl) (fun B F0 w0=>?_);refine qX 1 rfl ?_;refine qK 2 rfl ?_;rw[List.length_map];refine ab.DD tok a.length rfl rfl rfl rfl rfl rfl rfl rfl hl ?_;refine qU 1 rfl ?_;refine qI ?_;refine qX 2 rfl ?_;rw[List.length_map];refine qU 1 rfl ?_;refine ab.nil ?_;refine AW.block ?_;refine AW.aE [0,3,9,10] (fun s:Nat×NQ=>[(0,.d (af a)),(3,.ow 111 (dG s.2)),(9,.d (dI a.length)),(10,.d (dI s.1))]) (fun s=>s.2.length=a.length∧ ∀j,j<s.1→j<a.length→s.2.getD j 0= -a.getD j 0) (fun s=>a.length-s.1) (0,List.replicate a.length 0) rfl ⟨List.length_replicate,fun j h=>by omega⟩ (fun s hi=>?_)
 · obtain ⟨i,r⟩:=s;obtain ⟨hrl,hi⟩:=hi;simp only[] at hrl hi;show AW _ _ _ _ _ _ _ [(0,.d (af a)),(3,.ow 111 (dG r)),(9,.d (dI a.length)),(10,.d (dI i))];refine qX 1 rfl ?_;refine qI ?_;refine AW.cond rfl (fun h=>?_) (fun h=>?_)
   · have hii:i<a.length:=by have:=of_decide_eq_true h;omega
     have g:=kq hii;have cn:=pX (Qr (a.getD i 0)) (jH _ (hs i)) hk;rw[cX] at cn;refine AW.skip (AW.seq (AW.block ?_));refine qX 2 rfl ?_;refine ab.nil ?_;refine qT 4 rfl ?_;refine ab.idx tok (Qr (a.getD i 0)).D rfl rfl rfl rfl (Int.natCast_nonneg i) g ?_;refine qU 1 rfl ?_;refine ab.call tok rfl rfl rfl rfl cn ?_;refine ab.ff tok rfl rfl rfl rfl (Int.natCast_nonneg i) (by rw[List.length_map];show i<_;omega) ?_;refine ab.xp tok (-a.getD i 0) rfl rfl rfl (by show i<_;omega) ?_;refine ab.nil ?_;refine qT 1 rfl ?_;rw[aC (x:=(i:Int)+1) (by omega) (by omega)];refine qU 1 rfl ?_;refine ab.nil ?_;refine⟨(i+1,r.set i (-a.getD i 0)),rfl,⟨by rw[List.length_set];exact hrl,fun j h1 h2=>?_⟩,by show a.length-(i+1)<a.length-i;omega⟩;show (r.set i (-a.getD i 0)).getD j 0=_;rw[x7];by_cases e:j=i
     · rw[if_pos ⟨e,by omega⟩,e]
     · rw[if_neg (fun h=>e h.1)];exact hi j (by omega) h2
   have hii: ¬i<a.length:=by have:=of_decide_eq_false h;omega
   obtain rfl:r=aL a:=xQ (by rw[hrl,eP]) (fun j hj=>by rw[mJ];exact hi j (by omega) (by omega));refine AW.exit ?_;refine qX 2 rfl ?_;exact qN rfl
theorem Em(a b:Nat):(if (b:Int)>(a:Int) then (b:Int) else (a:Int))=((max a b:Nat):Int):=by
 split<;>omega
theorem cT(a b:NQ){k:Nat}(ha:ar k a)(hb:ar k b)(hk:k≤17300000000000)(hl:a.length≤1000000)(hl2:b.length≤1000000):Pure Tryz.prog 85 [af a,af b] (af (aJ a b)):=by
 refine qJ 37 Tryz.func85 rfl rfl rfl rfl (by kernel_rfl) (fun B F0 w0=>?_);obtain ⟨n,hn⟩: ∃n,n=max a.length b.length:=⟨_,rfl⟩;have cw1:=fW a n (by omega);have cw2:=fW b n (by omega);have l1:=bc a n;have l2:=bc b n;have g1: ∀i,i<n→(aW a n).getD i 0=a.getD i 0:=fun i hi=>by rw[eT,if_pos hi]
 have g2: ∀i,i<n→(aW b n).getD i 0=b.getD i 0:=fun i hi=>by rw[eT,if_pos hi]
 have hpl:(aJ a b).length=n:=by rw[gX,hn]
 generalize aW a n=wa at cw1 l1 g1;generalize aW b n=wb at cw2 l2 g2;refine qX 1 rfl ?_;refine qK 4 rfl ?_;rw[List.length_map,List.length_map];refine qU 2 rfl ?_;rw[Em,← hn];refine qI ?_;refine AZ.aw ?_;refine AZ.region ?_;refine aj.cut 2 rfl (fun B1 F1 w1=>?_);refine qU 2 rfl ?_;refine ab.nil ⟨rfl,?_⟩;refine aj.iD tok [] rfl rfl rfl rfl rfl List.nodup_nil rfl cw1 (fun _ _ _=>Nat.zero_le _) (fun res R1 hP=>?_);obtain ⟨V1,rfl,rfl⟩:=hP;refine aj.cut 2 rfl (fun B1 F1 w1=>?_);refine qU 2 rfl ?_;refine ab.nil ⟨rfl,?_⟩;refine aj.iD tok [] rfl rfl rfl rfl rfl List.nodup_nil rfl cw2 (fun _ _ _=>Nat.zero_le _) (fun res R1 hP=>?_);obtain ⟨V2,rfl,rfl⟩:=hP;refine aj.cut 2 rfl (fun B1 F1 w1=>?_);refine qU 2 rfl ?_;refine ab.nil ⟨rfl,?_⟩;refine aj.to [0,1] [(0,.d (.v V1)),(1,.d (.v V2))] rfl ?_;refine aj.fa 0 0 (V:=V1) (av:= .ow 111 (dG wa)) rfl rfl rfl ?_;refine aj.to [0,1] [(0,.ow 111 (dG wa)),(1,.d (.v V2))] rfl ?_;refine aj.fa 1 1 (V:=V2) (av:= .ow 111 (dG wb)) rfl rfl rfl ?_;refine aj.to [0,1] [(0,.ow 111 (dG wa)),(1,.ow 111 (dG wb))] rfl ?_;refine aj.nil ?_;refine AW.fh tok 1 rfl rfl ?_;refine AW.seq ?_;refine qX 2 rfl ?_;rw[List.length_map,l1];refine qU 1 rfl ?_;refine ab.nil ?_;refine AW.block ?_;refine AW.aE [0,1,19,20] (fun s:Nat×NQ=>[(0,.ow 111 (dG s.2)),(1,.d (af wb)),(19,.d (dI n)),(20,.d (dI s.1))]) (fun s=>s.2.length=n∧ ∀j,j<n→s.2.getD j 0=if j<s.1 then a.getD j 0+b.getD j 0 else a.getD j 0) (fun s=>n-s.1) (0,wa) rfl ⟨l1,fun j h=>by rw[if_neg (Nat.not_lt_zero _)];exact g1 j h⟩ (fun s hi=>?_)
 · obtain ⟨i,r⟩:=s;obtain ⟨hrl,hi⟩:=hi;simp only[] at hrl hi;show AW _ _ _ _ _ _ _ [(0,.ow 111 (dG r)),(1,.d (af wb)),(19,.d (dI n)),(20,.d (dI i))];refine qX 1 rfl ?_;refine qI ?_;refine AW.cond rfl (fun h=>?_) (fun h=>?_)
   · have hii:i<n:=by have:=of_decide_eq_true h;omega
     have e1:=kq (r:=r) (i:=i) (by omega);have e2:=kq (r:=wb) (i:=i) (by omega);rw[hi i hii,if_neg (Nat.lt_irrefl _)] at e1;rw[g2 i hii] at e2;have ca:=kj (Qr (a.getD i 0)) (Qr (b.getD i 0)) (jH _ (ha i)) (jH _ (hb i)) hk;rw[cX,cX] at ca;refine AW.skip (AW.seq (AW.block ?_));refine qX 2 rfl ?_;refine ab.nil ?_;refine AW.draw aM 12 (by kernel_rfl) ?_;refine qP 4 rfl ?_;refine ae.ff tok rfl rfl rfl rfl rfl rfl (Int.natCast_nonneg i) (by rw[List.length_map];show i<_;omega) ?_;refine ae.b7 tok (Qr (a.getD i 0)).D rfl rfl rfl rfl rfl e1 rfl ?_;refine qP 2 rfl ?_;refine ae.idx tok (Qr (b.getD i 0)).D rfl rfl rfl rfl rfl (Int.natCast_nonneg i) e2 ?_;refine qP 1 rfl ?_;refine ae.call tok rfl rfl rfl rfl rfl ca ?_;refine ae.ff tok rfl rfl rfl rfl rfl rfl (Int.natCast_nonneg i) (by rw[List.length_map];show i<_;omega) ?_;refine ae.nil ?_;refine ab.xp tok (a.getD i 0+b.getD i 0) rfl rfl rfl (by show i<_;omega) ?_;refine ab.nil ?_;refine qT 1 rfl ?_;rw[aC (x:=(i:Int)+1) (by omega) (by omega)];refine qU 1 rfl ?_;refine ab.nil ?_;refine⟨(i+1,r.set i (a.getD i 0+b.getD i 0)),rfl,⟨by rw[List.length_set];exact hrl,fun j h1=>?_⟩,by show n-(i+1)<n-i;omega⟩;show (r.set i (a.getD i 0+b.getD i 0)).getD j 0=if j<i+1 then _ else _
     rw[x7];by_cases e:j=i
     · rw[if_pos ⟨e,by omega⟩,e,if_pos (by omega)]
     · rw[if_neg (fun h=>e h.1),hi j h1];by_cases h2:j<i
       · rw[if_pos h2,if_pos (by omega)]
       · rw[if_neg h2,if_neg (by omega)]
   have hii: ¬i<n:=by have:=of_decide_eq_false h;omega
   obtain rfl:r=aJ a b:=xQ (by rw[hrl,hpl]) (fun j hj=>by rw[lG,hi j (by omega),if_pos (by omega)]);refine AW.exit ?_;refine qX 2 rfl ?_;exact qN rfl
theorem iZ(a b:NQ)(n:Nat)(hn:n≤100000):Pure Tryz.prog 107 [af a,af b,dI n] (af (de a b n)):=by
 refine qJ 14 Tryz.func107 rfl rfl rfl rfl (by kernel_rfl) (fun B F0 w0=>?_);have cw1:=fW a n (by omega);have cw2:=fW b n (by omega);have l1:=bc a n;have l2:=bc b n;unfold de;generalize aW a n=wa at cw1 l1 ⊢;generalize aW b n=wb at cw2 l2 ⊢;refine qX 1 rfl ?_;refine qI ?_;refine AZ.aw ?_;refine AZ.region ?_;refine aj.cut 2 rfl (fun B1 F1 w1=>?_);refine qU 2 rfl ?_;refine ab.nil ⟨rfl,?_⟩;refine aj.iD tok [] rfl rfl rfl rfl rfl List.nodup_nil rfl cw1 (fun _ _ _=>Nat.zero_le _) (fun res R1 hP=>?_);obtain ⟨V1,rfl,rfl⟩:=hP;refine aj.cut 2 rfl (fun B1 F1 w1=>?_);refine qU 2 rfl ?_;refine ab.nil ⟨rfl,?_⟩;refine aj.iD tok [] rfl rfl rfl rfl rfl List.nodup_nil rfl cw2 (fun _ _ _=>Nat.zero_le _) (fun res R1 hP=>?_);obtain ⟨V2,rfl,rfl⟩:=hP;refine aj.to [9,12] [(9,.d (.v V1)),(12,.d (.v V2))] rfl ?_;refine aj.fa 9 0 (V:=V1) (av:= .ow 111 (dG wa)) rfl rfl rfl ?_;refine aj.to [9,12] [(9,.ow 111 (dG wa)),(12,.d (.v V2))] rfl ?_;refine aj.fa 12 1 (V:=V2) (av:= .ow 111 (dG wb)) rfl rfl rfl ?_;refine aj.to [9,12] [(9,.ow 111 (dG wa)),(12,.ow 111 (dG wb))] rfl ?_;refine aj.cut 2 rfl (fun B1 F1 w1=>?_);refine ab.fh tok 12 rfl rfl ?_;refine ab.gP tok rfl rfl rfl rfl rfl rfl (by rw[List.length_map,List.length_map,l1,l2];show (_+_)*56≤_;omega) (by rw[List.length_map,List.length_map,l1,l2];omega) ?_;refine qU 1 rfl ?_;refine ab.nil ⟨rfl,?_⟩;refine aj.nil ?_;rw[show dG wa++dG wb=dG (wa++wb) from List.map_append.symm];exact AW.ret rfl
theorem gn(a:NQ){k:Nat}(hs:ar k a)(hk:k≤17300000000000)(hl:a.length≤1000000):Pure Tryz.prog 103 [af a] (af a):=by
 refine qJ 28 Tryz.func103 rfl rfl rfl rfl (by kernel_rfl) (fun B F0 w0=>?_);refine qX 1 rfl ?_;refine qK 1 rfl ?_;refine qI ?_;refine qX 2 rfl ?_;rw[List.length_map];refine qU 1 rfl ?_;refine ab.nil ?_;refine AW.block ?_;refine AW.aE [3,6,7,8] (fun i:Nat=>[(3,.ow 111 (dG (a.take i))),(6,.d (af a)),(7,.d (dI a.length)),(8,.d (dI i))]) (fun i=>i≤a.length) (fun i=>a.length-i) 0 rfl (Nat.zero_le _) (fun i hi=>?_)
 · have hi:i≤a.length:=hi;show AW _ _ _ _ _ _ _ [(3,.ow 111 (dG (a.take i))),(6,.d (af a)),(7,.d (dI a.length)),(8,.d (dI i))];refine qX 1 rfl ?_;refine qI ?_;refine AW.cond rfl (fun h=>?_) (fun h=>?_)
   · have hii:i<a.length:=by have:=of_decide_eq_true h;omega
     have g:=kq hii;have hw:=jH _ (hs i);have htk:=qD a 0 hii;have hol:(a.take i).length=i:=by rw[List.length_take];omega
     generalize a.getD i 0=q at g hw htk;have hw1:=hw.2.2.1;have hw2:=hw.2.2.2;refine AW.skip (AW.seq (AW.block (AW.seq (AW.region ?_))));refine ab.idx tok (Qr q).D rfl rfl rfl rfl (Int.natCast_nonneg i) g ?_;refine qU 3 rfl ?_;refine ab.nil ?_;refine AW.draw aM 13 (by kernel_rfl) ?_;refine qP 6 rfl ?_;refine ae.lf tok rfl rfl rfl rfl rfl (by show (((Qr q).n.map wd).length)*4≤_;rw[aS];omega) ?_;refine qP 3 rfl ?_;refine ae.lf tok rfl rfl rfl rfl rfl (by show (((Qr q).d.map wd).length)*4≤_;rw[aS];omega) ?_;refine qP 1 rfl ?_;refine ae.e7 tok rfl rfl rfl rfl rfl rfl ?_;refine ae.nil ?_;refine ab.gP tok rfl rfl rfl rfl rfl rfl (by rw[List.length_map,hol];show (_+1)*56≤_;omega) (by rw[List.length_map,hol];show _+1≤_;omega) ?_;refine qU 1 rfl ?_;refine ab.nil ?_;refine qT 1 rfl ?_;rw[aC (x:=(i:Int)+1) (by omega) (by omega)];refine qU 1 rfl ?_;refine ab.nil ?_;exact⟨i+1,by rw[htk];show _=[(3,AV.ow _ (List.map _ _)),_,_,_];rw[List.map_append];rfl,hii,by omega⟩
   have hii:i=a.length:=by have:=of_decide_eq_false h;omega
   subst hii;rw[List.take_length];refine AW.exit ?_;refine qX 2 rfl ?_;exact qN rfl
end Lift
namespace Lift
open Go Go.Proofs
section
variable {P:Program} {T:Ty} {B:Nat} {F0:Nat→Prop} {w0:bY} {n:Nat} {σ σ0 τ:St} {K:St→Prop} {all ops:Array Oper} {o:Oper} {d:Nat} {ds:List Nat} {rest:List Oper}
theorem yG(a:NQ)(lo hi:Option Int):((dG a).take (bV (dG a).length hi)).drop (eC lo)=dG ((a.take (bV a.length hi)).drop (eC lo)):=by
 show List.drop _ (List.take (bV (List.map _ a).length hi) (List.map _ a))=List.map _ _;rw[List.map_drop,List.map_take,List.length_map]
theorem ab.fe(hT:bf P T){a:NQ}{lo hi:Option Int}(x:NQ)(hd:o.dst=some d)(hdn:Nat.ble (d+1) n=true)(hg:aA all σ o=true)(hx:zy T σ.get o.op=some (af a,lo,hi))(g1:okB lo)(g2:okB hi)(g3:eC lo≤bV a.length hi)(g4:bV a.length hi≤a.length)(hxx:(a.take (bV a.length hi)).drop (eC lo)=x)
  (h:ab P B F0 w0 n all rest K ((d,.d (af x))::σ)):ab P B F0 w0 n all (o::rest) K σ:=by
 refine ab.CC hT hd hdn hg hx g1 g2 (by rw[List.length_map];exact g3) (by rw[List.length_map];exact g4) ?_;rw[yG,hxx];exact h
theorem ae.fe(hT:bf P T){a:NQ}{lo hi:Option Int}(x:NQ)(hd:o.dst=some d)(hdn:Nat.ble (d+1) n=true)(hg:aA ops τ o=true)(hs:σ0.get d=none)(hx:zy T τ.get o.op=some (af a,lo,hi))(g1:okB lo)(g2:okB hi)(g3:eC lo≤bV a.length hi)(g4:bV a.length hi≤a.length)(hxx:(a.take (bV a.length hi)).drop (eC lo)=x)
  (h:ae P B F0 w0 n ops ds σ0 rest ((d,.d (af x))::τ) K):ae P B F0 w0 n ops ds σ0 (o::rest) τ K:=by
 refine ae.CC hT hd hdn hg hs hx g1 g2 (by rw[List.length_map];exact g3) (by rw[List.length_map];exact g4) ?_;rw[yG,hxx];exact h
end
theorem fI(i:Nat)(h:i≤9223372036854775807):kr true .i64 (i:Int) 2= .int .i64 ((i / 2:Nat):Int):=by
 have e:((i:Int).tdiv ((2:Nat):Int))=((i / 2:Nat):Int):=rfl;show Value.int .i64 (IntKind.i64.wrap ((i:Int).tdiv ((2:Nat):Int)))=_;rw[e,aC (by omega) (by omega)]
theorem y7{rt:List NQ}{i:Nat}(h:i<rt.length):(rt.map af)[i]?=some (af (rt.getD i [])):=by simp[h]
theorem aq.len{l:Nat}{a:NQ}(h:aq l a)(hl:l≤10):a.length≤1024:=Nat.le_trans h.le (Nat.pow_le_pow_right (n:=2) (by decide) hl)
def fL:Nat→NQ→NQ
 | 0,a=>if a9 (a.take 1)=true then [] else a.take 1
 | i+1,a=>if a9 ((a.take (2^(i+1))).drop (2^i))=true then fL i a else a.take (2^(i+1))
def ay(a:NQ):NQ:=if a.length=0 then [] else fL a.length.log2 a
theorem yH: ∀{i:Nat} {a:NQ} {k:Nat},2^i≤a.length→ar k a→aq i (fL i a)∧ar k (fL i a)
 | 0,a,k,h,hs=>by
   unfold fL;split
   · exact⟨bd _,bb hs.pos⟩
   · exact⟨.inr ⟨0,Nat.le_refl _,by rw[List.length_take];have h:1≤a.length:=h;show min 1 _=1;omega⟩,hs.take _⟩
 | i+1,a,k,h,hs=>by
   unfold fL;have e:2^(i+1)=2^i*2:=Nat.pow_succ ..;split
   · have:=yH (i:=i) (a:=a) (by omega) hs;exact⟨this.1.mono (by omega),this.2⟩
   · exact⟨.inr ⟨i+1,Nat.le_refl _,by rw[List.length_take];omega⟩,hs.take _⟩
theorem aU{l k:Nat}{a:NQ}(h:aq l a)(hs:ar k a):aq l (ay a)∧ar k (ay a):=by
 unfold ay;split
 · exact⟨bd _,bb hs.pos⟩
 rename_i h0;rcases h with e | ⟨i,hi,e⟩
 · exact absurd e h0
 rw[e,Nat.log2_two_pow];have:=yH (i:=i) (a:=a) (by omega) hs;exact⟨this.1.mono hi,this.2⟩
theorem bK(a:NQ){l k:Nat}(ha:aq l a)(hl:l≤5)(hs:ar k a)(hk:k≤17300000000000):Pure Tryz.prog 62 [af a] (af (ay a)):=by
 refine qJ 45 Tryz.func62 rfl rfl rfl rfl (by kernel_rfl) (fun B F0 w0=>?_);have hl10:=ha.len (by omega);rcases ha with h0 | ⟨i,hi,hai⟩
 · obtain rfl:a=[]:=List.length_eq_zero_iff.1 h0;have cl:=j9 (dG []) (fun i=>by have:=Nat.two_pow_pos i;show 0≠_;omega) (by decide);have cc:=gn [] hs hk (by decide);refine qX 1 rfl ?_;refine qI ?_;refine qX 1 rfl ?_;refine ab.call tok rfl rfl rfl rfl cl ?_;refine qU 1 rfl ?_;refine qK 11 rfl ?_;refine ab.nil ?_;refine AW.au rfl ?_;refine AW.skip ?_;refine qX 3 rfl ?_;refine qI (AW.block ?_);refine AW.aE [0,4] (fun _:Unit=>[(0,.d (af [])),(4,.d (dI 0))]) (fun _=>True) (fun _=>0) () rfl trivial (fun _ _=>?_);refine AW.seq ?_;refine qX 10 rfl ?_;refine ab.nil ?_;refine AW.au rfl ?_;refine AW.exit (AW.seq ?_);refine qX 7 rfl ?_;refine ab.nil ?_;refine AW.au rfl ?_;refine AW.skip ?_;refine qX 2 rfl ?_;refine ab.fe tok (a:=[]) [] rfl rfl rfl rfl trivial (Int.le_refl _) (Nat.le_refl _) (Nat.le_refl _) rfl ?_;refine ab.call tok rfl rfl rfl rfl cc ?_;refine qU 1 rfl ?_;exact qN rfl
 have cl:=dt (dG a) (by rw[List.length_map];exact hai) (by omega);have hp:=Nat.two_pow_pos i;have hE:ay a=fL i a:=by unfold ay;rw[if_neg (by omega),hai,Nat.log2_two_pow]
 rw[hE];refine qX 1 rfl ?_;refine qI ?_;refine qX 1 rfl ?_;refine ab.call tok rfl rfl rfl rfl cl ?_;refine qU 1 rfl ?_;refine qK 2 rfl ?_;rw[List.length_map];refine qU 1 rfl ?_;rw[decide_eq_true (show (0:Int)<(a.length:Int) by omega)];refine qU 3 rfl ?_;rw[decide_eq_false (show ¬((i:Int)<0) by omega)];refine qU 3 rfl ?_;rw[decide_eq_false (show ¬((5:Int)<(i:Int)) by omega)];refine qU 2 rfl ?_;refine ab.nil ?_;refine AW.au rfl ?_;refine AW.skip ?_;refine qX 2 rfl ?_;rw[List.length_map,hai];refine qU 1 rfl ?_;refine qI (AW.block ?_);refine AW.aE [0,4] (fun j:Nat=>[(0,.d (af a)),(4,.d (dI (2^j:Nat)))]) (fun j=>j≤i∧fL j a=fL i a) (fun j=>j) i rfl ⟨Nat.le_refl _,rfl⟩ (fun j hj=>?_);obtain ⟨hj,hjE⟩:=hj;show AW _ _ _ _ _ _ _ [(0,.d (af a)),(4,.d (dI (2^j:Nat)))];have hpj:2^j≤2^i:=Nat.pow_le_pow_right (by decide) hj;have hpp:=Nat.two_pow_pos j;refine AW.seq ?_;refine qX 2 rfl ?_;rcases j with _ | j
 · refine qU 8 rfl ?_;refine ab.nil ?_;refine AW.au rfl ?_;refine AW.exit (AW.seq ?_);refine qX 4 rfl ?_;refine ab.fe tok (a:=a) (a.take 1) rfl rfl rfl rfl trivial (show (0:Int)≤1 by decide) (Nat.zero_le _) (show 1≤a.length by omega) rfl ?_;refine ab.call tok rfl rfl rfl rfl (kB (a.take 1) (by rw[List.length_take];omega)) ?_;refine qU 1 rfl ?_;refine ab.nil ?_;rw[← hjE];unfold fL;cases hz:a9 (a.take 1) with
   | true =>
     rw[if_pos rfl];refine AW.aF rfl ?_;refine qX 1 rfl ?_;exact qN rfl
   | false =>
     rw[if_neg (by simp)];refine AW.au rfl ?_;refine AW.skip ?_;refine qX 2 rfl ?_;refine ab.fe tok (a:=a) (a.take 1) rfl rfl rfl rfl trivial (show (0:Int)≤1 by decide) (Nat.zero_le _) (show 1≤a.length by omega) rfl ?_;refine ab.call tok rfl rfl rfl rfl (gn (a.take 1) (hs.take 1) hk (by rw[List.length_take];omega)) ?_;refine qU 1 rfl ?_;exact qN rfl
 have e2:2^(j+1)=2^j*2:=Nat.pow_succ ..;have eh:=jo j;rw[decide_eq_true (show (1:Int)<((2^(j+1):Nat):Int) by have:=Nat.two_pow_pos j;omega)];refine qU 3 rfl ?_;refine ab.div tok rfl rfl rfl rfl (by decide) ?_;rw[fI _ (by omega),eh];refine qU 1 rfl ?_;refine ab.fe tok (a:=a) ((a.take (2^(j+1))).drop (2^j)) rfl rfl rfl rfl (Int.natCast_nonneg _) (Int.natCast_nonneg _) (show 2^j≤2^(j+1) by omega) (show 2^(j+1)≤a.length by omega) rfl ?_;refine ab.call tok rfl rfl rfl rfl (kB _ (by rw[List.length_drop,List.length_take];omega)) ?_;refine qU 1 rfl ?_;refine ab.nil ?_;cases hz:a9 ((a.take (2^(j+1))).drop (2^j)) with
 | true =>
   refine AW.aF rfl ?_;refine AW.skip (AW.block ?_);refine qT 1 rfl ?_;refine ab.div tok rfl rfl rfl rfl (by decide) ?_;rw[fI _ (by omega),eh];refine qU 1 rfl ?_;refine ab.nil ?_;exact⟨j,rfl,⟨by omega,by rw[← hjE];show _=if a9 ((a.take (2^(j+1))).drop (2^j))=true then _ else _;rw[if_pos hz]⟩,by omega⟩
 | false =>
 refine AW.au rfl ?_;refine AW.exit (AW.seq ?_);refine qX 2 rfl ?_;rw[beq_eq_false_iff_ne.2 (show ((2^(j+1):Nat):Int)≠1 by have:=Nat.two_pow_pos j;omega)];refine qU 5 rfl ?_;refine ab.nil ?_;refine AW.au rfl ?_;refine AW.skip ?_;refine qX 2 rfl ?_;refine ab.fe tok (a:=a) (a.take (2^(j+1))) rfl rfl rfl rfl trivial (Int.natCast_nonneg _) (Nat.zero_le _) (show 2^(j+1)≤a.length by omega) rfl ?_;refine ab.call tok rfl rfl rfl rfl (gn _ (hs.take _) hk (by rw[List.length_take];omega)) ?_;refine qU 1 rfl ?_;refine ab.nil ?_;rw[← hjE];unfold fL;rw[if_neg (by rw[hz];simp)];exact AW.ret rfl
end Lift
namespace Lift
open Go Go.Proofs
abbrev kv(a:NQ):Prop:=ar 17300000000000 a
def FQ(R:NQ→NQ→NQ)(O:NQ→NQ→Prop)(rt:List NQ)(a b:NQ):Prop :=
 kv a∧kv b∧(a.length≠1→a9 a=false→a9 b=false →
  (b.length≤a.length / 2→O (a.take (a.length / 2)) b∧O (a.drop (a.length / 2)) b) ∧
  (¬b.length≤a.length / 2→(O (a.take (a.length / 2)) (b.take (a.length / 2))∧O (a.drop (a.length / 2)) (b.drop (a.length / 2))∧O (R (a.drop (a.length / 2)) (b.drop (a.length / 2))) (rt.getD (a.length.log2-1) []) ∧
   O (a.take (a.length / 2)) (b.drop (a.length / 2))∧O (a.drop (a.length / 2)) (b.take (a.length / 2))) ∧
   kv (R (a.take (a.length / 2)) (b.take (a.length / 2)))∧kv (R (R (a.drop (a.length / 2)) (b.drop (a.length / 2))) (rt.getD (a.length.log2-1) []))∧kv (R (a.take (a.length / 2)) (b.drop (a.length / 2)))∧kv (R (a.drop (a.length / 2)) (b.take (a.length / 2)))))
def v8(R:NQ→NQ→NQ)(O:NQ→NQ→Prop)(rt:List NQ)(a b:NQ):Prop:=if a.length<b.length then FQ R O rt b a else FQ R O rt a b
def zG:Nat→List NQ→NQ→NQ→Prop
 | 0,rt,a,b=>v8 (fun _ _=>[]) (fun _ _=>True) rt a b
 | l+1,rt,a,b=>v8 (aR l rt) (zG l rt) rt a b
set_option maxHeartbeats 1600000 in
theorem qC{l:Nat}{R:NQ→NQ→NQ}{O:NQ→NQ→Prop}{rt:List NQ}{a b:NQ}(ha:aq l a)(hb:aq l b)(hrt:cD rt)(hl:l≤rt.length)(hl5:rt.length≤10)(hok:v8 R O rt a b)
  (hR: ∀l',l=l'+1→ ∀a' b',aq l' a'→aq l' b'→O a' b'→Pure Tryz.prog 63 [bC rt,af a',af b'] (af (R a' b'))∧aq l' (R a' b')):
  Pure Tryz.prog 63 [bC rt,af a,af b] (af (iG (gw R rt) a b)):=by
 refine qJ 100 Tryz.func63 rfl rfl rfl rfl (by kernel_rfl) (fun B F0 w0=>?_);have hla:=ha.len (by omega);have hlb:=hb.len (by omega);unfold v8 at hok;refine qX 2 rfl ?_;refine ab.nil ?_;refine AW.cut [1,2,3] (fun s:NQ×NQ=>[(1,.d (af s.1)),(2,.d (af s.2)),(3,.bx [.sl 1 (rt.map af)])]) (fun s=>gw R rt s.1 s.2=iG (gw R rt) a b∧s.2.length≤s.1.length∧aq l s.1∧aq l s.2∧FQ R O rt s.1 s.2) ?_ (fun s hs=>?_)
 · refine qX 4 rfl ?_;rw[List.length_map,List.length_map];refine qU 1 rfl ?_;refine ab.nil ?_;unfold iG;by_cases hab:a.length<b.length
   · rw[decide_eq_true (show (a.length:Int)<(b.length:Int) by omega),if_pos hab];refine AW.aF rfl ?_;refine qT 4 rfl ?_;refine ab.nil ?_;exact⟨(b,a),rfl,rfl,by show a.length≤b.length;omega,hb,ha,by rw[if_pos hab] at hok;exact hok⟩
   · rw[decide_eq_false (show ¬(a.length:Int)<(b.length:Int) by omega),if_neg hab];refine AW.au rfl ?_;refine AW.skip ?_;exact⟨(a,b),rfl,rfl,by show b.length≤a.length;omega,ha,hb,by rw[if_neg hab] at hok;exact hok⟩
 · obtain ⟨x,y⟩:=s;obtain ⟨hE,hab,ha,hb,sa,sb,hm⟩:=hs;simp only[] at hE hab ha hb sa sb hm;show AW _ _ _ _ _ _ _ [(1,.d (af x)),(2,.d (af y)),(3,.bx [.sl 1 (rt.map af)])];rw[← hE];clear hE;clear hok;generalize x=a at *;generalize y=b at *;have hla:=ha.len (by omega);have hlb:=hb.len (by omega);have cz1:=l6 a sa (by omega) (by omega);have cz2:=l6 b sb (by omega) (by omega);unfold gw;refine AW.seq (AW.block ?_);refine qX 1 rfl ?_;refine ab.call tok rfl rfl rfl rfl cz1 ?_;cases hza:a9 a with
   | true =>
     rw[if_pos (by rfl)];refine qU 5 rfl ?_;refine ab.nil ?_;refine AW.aF rfl ?_;refine qX 1 rfl ?_;exact qN rfl
   | false =>
   refine qU 2 rfl ?_;refine ab.call tok rfl rfl rfl rfl cz2 ?_;refine qU 2 rfl ?_;refine ab.nil ?_;cases hzb:a9 b with
   | true =>
     rw[if_pos (by rfl)];refine AW.aF rfl ?_;refine qX 1 rfl ?_;exact qN rfl
   | false =>
   rw[if_neg (by decide)];refine AW.au rfl ?_;refine qX 2 rfl ?_;rw[List.length_map];refine qU 2 rfl ?_;refine ab.nil ?_;have hb0:0<b.length:=List.length_pos_iff.2 (lr hzb);have ha0:0<a.length:=List.length_pos_iff.2 (lr hza);by_cases h1:a.length=1
   · rw[if_pos h1,beq_iff_eq.2 (show (a.length:Int)=1 by omega)];have g1:=kq (r:=a) (i:=0) ha0;have g2:=kq (r:=b) (i:=0) hb0;have cm:=pY (Qr (a.getD 0 0)) (Qr (b.getD 0 0)) (jH _ (sa 0)) (jH _ (sb 0)) (by omega);rw[cX,cX] at cm;refine AW.aF rfl ?_;refine AW.seq ?_;refine AW.draw aM 8 (by kernel_rfl) ?_;refine qP 1 rfl ?_;refine ae.idx tok (Qr (a.getD 0 0)).D rfl rfl rfl rfl rfl (Int.le_refl _) g1 ?_;refine qP 2 rfl ?_;refine ae.idx tok (Qr (b.getD 0 0)).D rfl rfl rfl rfl rfl (Int.le_refl _) g2 ?_;refine qP 1 rfl ?_;refine ae.call tok rfl rfl rfl rfl rfl cm ?_;refine ae.e7 tok rfl rfl rfl rfl rfl rfl ?_;refine ae.nil ?_;refine qU 1 rfl ?_;exact qN rfl
   rw[if_neg h1,beq_eq_false_iff_ne.2 (show (a.length:Int)≠1 by omega)];refine AW.au rfl ?_;refine AW.skip ?_
   obtain ⟨i,hi,hla2⟩: ∃i,i≤l∧a.length=2^i:=by
    rcases ha with e | e
    · omega
    · exact e
   have wE:i≠0:=fun e=>h1 (by rw[hla2,e]);obtain ⟨j,rfl⟩: ∃j,i=j+1:=⟨i-1,by omega⟩;obtain ⟨l',rfl⟩: ∃l',l=l'+1:=⟨l-1,by omega⟩;have hj:j≤l':=by omega
   have hR:=fun a' b' h1 h2 h3=>hR l' rfl a' b' h1 h2 h3;obtain ⟨hm1,hm2⟩:=hm h1 hza hzb;obtain ⟨e1,e2,e3⟩:=bh hla2;have hx:aq l' (a.take (a.length / 2)):= .inr ⟨j,hj,e1⟩;have hy:aq l' (a.drop (a.length / 2)):= .inr ⟨j,hj,e2⟩;have hlog:a.length.log2-1=j:=by rw[hla2,Nat.log2_two_pow];omega
   obtain ⟨n,hn⟩: ∃n,n=a.length / 2:=⟨_,rfl⟩
   have hn2:a.length=n+n:=by
    have:2^(j+1)=2^j*2:=Nat.pow_succ ..;omega
   rw[← hn] at e1 e2 e3 hx hy hm1 hm2 ⊢;refine qX 2 rfl ?_;rw[List.length_map];refine ab.div tok rfl rfl rfl rfl (by decide) ?_;rw[fI _ (by omega),← hn];refine qU 1 rfl ?_;refine qI ?_;refine AW.draw aM 7 (by kernel_rfl) ?_;refine qP 2 rfl ?_;refine ae.fe tok (a:=a) (a.take n) rfl rfl rfl rfl rfl trivial (Int.natCast_nonneg n) (Nat.zero_le _) (show n≤a.length by omega) rfl ?_;refine qP 2 rfl ?_;refine ae.fe tok (a:=a) (a.drop n) rfl rfl rfl rfl rfl (Int.natCast_nonneg n) trivial (show n≤a.length by omega) (Nat.le_refl _) (by show (a.take a.length).drop n=_;rw[List.take_length]) ?_;refine qP 1 rfl ?_;refine ae.nil ?_;refine qU 1 rfl ?_;refine qI ?_;refine qX 2 rfl ?_;rw[List.length_map];refine qU 2 rfl ?_;refine ab.nil ?_;by_cases h3:b.length≤n
   · rw[if_pos h3,decide_eq_true (show (b.length:Int)≤(n:Int) by omega)]
     have hb':aq l' b:=by
      rcases hb with e | ⟨i',_,e⟩
      · exact .inl e
      · refine .inr ⟨i',?_,e⟩;rw[e3,e] at h3;have:=gM h3;omega
     have r1:=hR _ _ hx hb' (hm1 h3).1;have r2:=hR _ _ hy hb' (hm1 h3).2;have cj:=iZ (R (a.take n) b) (R (a.drop n) b) n (by omega);refine AW.aF rfl ?_;refine AW.seq ?_;refine AW.draw aM 10 (by kernel_rfl) ?_;refine qP 3 rfl ?_;refine ae.call tok rfl rfl rfl rfl rfl r1.1 ?_;refine qP 3 rfl ?_;refine ae.call tok rfl rfl rfl rfl rfl r2.1 ?_;refine qP 1 rfl ?_;refine ae.call tok rfl rfl rfl rfl rfl cj ?_;refine ae.nil ?_;refine qU 1 rfl ?_;exact qN rfl
   rw[if_neg h3,decide_eq_false (show ¬(b.length:Int)≤(n:Int) by omega)]
   have hlb2:b.length=2^(j+1):=by
    rcases hb with e | ⟨i',_,e⟩
    · omega
    · rw[e] at h3 hab ⊢;rw[hla2] at hab;rw[e3] at h3;have h4:=gM hab;have h5: ¬i'≤j:=fun h=>h3 (Nat.pow_le_pow_right (by decide) h);rw[show i'=j+1 by omega]
   obtain ⟨f1,f2,f3⟩:=bh hlb2;rw[show b.length / 2=n by omega] at f1 f2;have hu:aq l' (b.take n):= .inr ⟨j,hj,f1⟩;have hv:aq l' (b.drop n):= .inr ⟨j,hj,f2⟩;obtain ⟨⟨o1,o2,o5,o3,o4⟩,z1,z5,z3,z4⟩:=hm2 h3;rw[hlog] at o5 z5;have r1:=hR _ _ hx hu o1;have r2:=hR _ _ hy hv o2;have r3:=hR _ _ hx hv o3;have r4:=hR _ _ hy hu o4;rw[hlog];have hd:aq l' (rt.getD j []):= .inr ⟨j,hj,hrt j (by omega)⟩;have r5:=hR _ _ r2.2 hd o5;have n1:=r1.2.len (by omega);have n3:=r3.2.len (by omega);have n4:=r4.2.len (by omega);have n5:=r5.2.len (by omega);have p1:=cT (R (a.take n) (b.take n)) (R (R (a.drop n) (b.drop n)) (rt.getD j [])) z1 z5 (by omega) (by omega) (by omega);have p2:=cT (R (a.take n) (b.drop n)) (R (a.drop n) (b.take n)) z3 z4 (by omega) (by omega) (by omega);have cj:=iZ (aJ (R (a.take n) (b.take n)) (R (R (a.drop n) (b.drop n)) (rt.getD j []))) (aJ (R (a.take n) (b.drop n)) (R (a.drop n) (b.take n))) n (by omega);have cl:=dt (dG a) (by rw[List.length_map];exact hla2) (by omega);refine AW.au rfl ?_;refine AW.skip (AW.seq ?_);refine AW.draw aM 7 (by kernel_rfl) ?_;refine qP 2 rfl ?_;refine ae.fe tok (a:=b) (b.take n) rfl rfl rfl rfl rfl trivial (Int.natCast_nonneg n) (Nat.zero_le _) (show n≤b.length by omega) rfl ?_;refine qP 2 rfl ?_;refine ae.fe tok (a:=b) (b.drop n) rfl rfl rfl rfl rfl (Int.natCast_nonneg n) trivial (show n≤b.length by omega) (Nat.le_refl _) (by show (b.take b.length).drop n=_;rw[List.take_length]) ?_;refine qP 1 rfl ?_;refine ae.nil ?_;refine qU 1 rfl ?_;refine qI ?_;refine AW.draw aM 7 (by kernel_rfl) ?_;refine qP 3 rfl ?_;refine ae.call tok rfl rfl rfl rfl rfl cl ?_;refine qP 1 rfl ?_;rw[aC (x:=((j+1:Nat):Int) -1) (by omega) (by omega),show ((j+1:Nat):Int) -1=(j:Int) by omega];refine ae.idx tok (af (rt.getD j [])) rfl rfl rfl rfl rfl (Int.natCast_nonneg j) (y7 (by omega)) ?_;refine qP 1 rfl ?_;refine ae.nil ?_;refine qU 1 rfl ?_;refine qI ?_;refine AW.draw aM 12 (by kernel_rfl) ?_;refine qP 3 rfl ?_;refine ae.call tok rfl rfl rfl rfl rfl r1.1 ?_;refine qP 4 rfl ?_;refine ae.call tok rfl rfl rfl rfl rfl r2.1 ?_;refine qP 1 rfl ?_;refine ae.call tok rfl rfl rfl rfl rfl r5.1 ?_;refine ae.call tok rfl rfl rfl rfl rfl p1 ?_;refine ae.nil ?_;refine qU 1 rfl ?_;refine qI ?_;refine AW.draw aM 12 (by kernel_rfl) ?_;refine qP 4 rfl ?_;refine ae.call tok rfl rfl rfl rfl rfl r3.1 ?_;refine qP 3 rfl ?_;refine ae.call tok rfl rfl rfl rfl rfl r4.1 ?_;refine ae.call tok rfl rfl rfl rfl rfl p2 ?_;refine qP 1 rfl ?_;refine ae.call tok rfl rfl rfl rfl rfl cj ?_;refine ae.nil ?_;refine qU 1 rfl ?_;exact qN rfl
theorem bS: ∀(l:Nat) {rt:List NQ} {a b:NQ},aq l a→aq l b→cD rt→l≤rt.length→rt.length≤10→zG l rt a b→Pure Tryz.prog 63 [bC rt,af a,af b] (af (aR l rt a b))
 | 0,rt,a,b,ha,hb,hrt,hl,hl5,hok=>qC (O:=fun _ _=>True) ha hb hrt hl hl5 hok (fun l' h=>by omega)
 | l+1,rt,a,b,ha,hb,hrt,hl,hl5,hok=>qC (O:=zG l rt) ha hb hrt hl hl5 hok (fun l' e a' b' h1 h2 h3=>by
    obtain rfl:l=l':=by omega
    obtain ⟨K,k1,k2,k3⟩:=tA a' b' rt
    exact⟨bS l h1 h2 hrt (by omega) hl5 h3,(dQ l h1 h2 hrt (by omega) k1 k2 k3).1⟩)
theorem uM{l k:Nat}{R:NQ→NQ→NQ}{O:NQ→NQ→Prop}{rt:List NQ}{a b:NQ}(ha:aq l a)(hb:aq l b)(hab:b.length≤a.length)(hrt:cD rt)(hl:l≤rt.length)(sa:ar k a)(sb:ar k b)(sr:ed k rt)(hk:sT l k≤17300000000000)
  (hR: ∀l',l=l'+1→ ∀a' b' m,k≤m→aq l' a'→aq l' b'→ar m a'→ar m b'→sT l' m≤17300000000000→O a' b'∧aq l' (R a' b')∧ar (sT l' m) (R a' b')):FQ R O rt a b:=by
 have hk1:=sa.pos;have h2:=bA l k;refine⟨sa.mono (by omega),sb.mono (by omega),fun h1 hza hzb=>?_⟩;have hb0:0<b.length:=List.length_pos_iff.2 (lr hzb);have ha0:0<a.length:=List.length_pos_iff.2 (lr hza)
 obtain ⟨i,hi,hla⟩: ∃i,i≤l∧a.length=2^i:=by
  rcases ha with e | e
  · omega
  · exact e
 have wE:i≠0:=fun e=>h1 (by rw[hla,e]);obtain ⟨j,rfl⟩: ∃j,i=j+1:=⟨i-1,by omega⟩;obtain ⟨l',rfl⟩: ∃l',l=l'+1:=⟨l-1,by omega⟩;have hj:j≤l':=by omega
 have hR:=fun a' b' m h1 h2 h3 h4 h5=>hR l' rfl a' b' m h1 h2 h3 h4 h5;obtain ⟨e1,e2,e3⟩:=bh hla;have hx:aq l' (a.take (a.length / 2)):= .inr ⟨j,hj,e1⟩;have hy:aq l' (a.drop (a.length / 2)):= .inr ⟨j,hj,e2⟩;have hs0:=bA l' k;have hs1:=bA l' (sT l' k);have hk:sT l' (sT l' k)+sT l' k+1≤17300000000000:=hk;refine⟨fun h3=>?_,fun h3=>?_⟩
 · have hb':aq l' b:=by
    rcases hb with e | ⟨i',_,e⟩
    · exact .inl e
    · refine .inr ⟨i',?_,e⟩;rw[e3,e] at h3;have:=gM h3;omega
   exact⟨(hR _ _ k (Nat.le_refl _) hx hb' (sa.take _) sb (by omega)).1,(hR _ _ k (Nat.le_refl _) hy hb' (sa.drop _) sb (by omega)).1⟩
 have hlb:b.length=2^(j+1):=by
  rcases hb with e | ⟨i',_,e⟩
  · omega
  · rw[e] at h3 hab ⊢;rw[hla] at hab;rw[e3] at h3;have h4:=gM hab;have h5: ¬i'≤j:=fun h=>h3 (Nat.pow_le_pow_right (by decide) h);rw[show i'=j+1 by omega]
 obtain ⟨f1,f2,f3⟩:=bh hlb;rw[show b.length / 2=a.length / 2 by rw[f3,e3]] at f1 f2;have hu:aq l' (b.take (a.length / 2)):= .inr ⟨j,hj,f1⟩;have hv:aq l' (b.drop (a.length / 2)):= .inr ⟨j,hj,f2⟩;have r1:=hR _ _ k (Nat.le_refl _) hx hu (sa.take _) (sb.take _) (by omega);have r2:=hR _ _ k (Nat.le_refl _) hy hv (sa.drop _) (sb.drop _) (by omega);have r3:=hR _ _ k (Nat.le_refl _) hx hv (sa.take _) (sb.drop _) (by omega);have r4:=hR _ _ k (Nat.le_refl _) hy hu (sa.drop _) (sb.take _) (by omega);have hlog:a.length.log2-1=j:=by rw[hla,Nat.log2_two_pow];omega
 have hd:aq l' (rt.getD (a.length.log2-1) []):= .inr ⟨j,hj,by rw[hlog];exact hrt j (by omega)⟩;have r5:=hR _ _ (sT l' k) (by omega) r2.2.1 hd r2.2.2 ((sr _).mono (by omega)) (by omega);exact⟨⟨r1.1,r2.1,r5.1,r3.1,r4.1⟩,r1.2.2.mono (by omega),r5.2.2.mono (by omega),r3.2.2.mono (by omega),r4.2.2.mono (by omega)⟩
theorem oE: ∀(l:Nat) {k:Nat} {rt:List NQ} {a b:NQ},aq l a→aq l b→cD rt→l≤rt.length→ar k a→ar k b→ed k rt→sT l k≤17300000000000→zG l rt a b
 | 0,k,rt,a,b,ha,hb,hrt,hl,sa,sb,sr,hk=>by
   show v8 _ _ rt a b;unfold v8;split
   · exact uM hb ha (by omega) hrt hl sb sa sr hk (fun l' h=>by omega)
   · exact uM ha hb (by omega) hrt hl sa sb sr hk (fun l' h=>by omega)
 | l+1,k,rt,a,b,ha,hb,hrt,hl,sa,sb,sr,hk=>by
   show v8 (aR l rt) (zG l rt) rt a b;unfold v8
   have ih: ∀l',l+1=l'+1→ ∀a' b' m,k≤m→aq l' a'→aq l' b'→ar m a'→ar m b'→sT l' m≤17300000000000→zG l rt a' b'∧aq l' (aR l rt a' b')∧ar (sT l' m) (aR l rt a' b'):=fun l' e a' b' m hm h1 h2 h3 h4 h5=>by
    obtain rfl:l=l':=by omega
    exact⟨oE l h1 h2 hrt (by omega) h3 h4 (sr.mono hm) h5,dQ l h1 h2 hrt (by omega) h3 h4 (sr.mono hm)⟩
   split
   · exact uM hb ha (by omega) hrt hl sb sa sr hk ih
   · exact uM ha hb (by omega) hrt hl sa sb sr hk ih
end Lift
namespace Lift
open Go Go.Proofs
def eA(l:Nat)(rt:List NQ)(a:NQ):NQ :=
 aJ (aR l rt (a.take (a.length / 2)) (a.take (a.length / 2))) (aL (aR l rt (aR l rt (a.drop (a.length / 2)) (a.drop (a.length / 2))) (rt.getD (a.length.log2-1) [])))
def sI(R:NQ→Int)(N:NQ→NQ)(rt:List NQ)(a:NQ):Int :=
 if a.length=0 then 0 else if a.length=1 then ji (a.getD 0 0) else
 if R (rt.getD (a.length.log2-1) [])=0 then R (a.take (a.length / 2)) else
 if R (a.take (a.length / 2))=R (a.drop (a.length / 2))∨R (a.drop (a.length / 2))=0 then R (a.take (a.length / 2)) else
 if R (a.take (a.length / 2))=0 then R (a.drop (a.length / 2)) else R (a.take (a.length / 2))*R (N a)
def dw:Nat→List NQ→NQ→Int
 | 0,rt,a=>sI (fun _=>0) (fun a=>a) rt (ay a)
 | l+1,rt,a=>sI (dw l rt) (eA l rt) rt (ay a)
def ny:Nat→Nat→Prop
 | 0,k=>k≤17300000000000
 | l+1,k=>sT (l+1) k≤17300000000000∧ny l (sT (l+1) k)
theorem v9: ∀{l k m:Nat},ny l k→m≤k→ny l m
 | 0,k,m,h,hm=>Nat.le_trans hm h
 | l+1,k,m,h,hm=>⟨Nat.le_trans (p9 hm) h.1,v9 h.2 (p9 hm)⟩
theorem rl: ∀{l k:Nat},ny l k→k≤17300000000000
 | 0,k,h=>h
 | l+1,k,h=>by have:=bA (l+1) k;have:=h.1;omega
theorem il{l k:Nat}(h:ny (l+1) k):ny l k:=v9 h.2 (by have:=bA (l+1) k;omega)
def tq(z:Int):Prop:=z=0∨z=1∨z= -1
theorem jO{x y:Int}(hx:tq x)(hy:tq y):tq (x*y):=by
 unfold tq at *;rcases hx with rfl | rfl | rfl<;>rcases hy with rfl | rfl | rfl<;>decide
theorem vJ{R:NQ→Int}{N:NQ→NQ}{rt:List NQ}{a:NQ}(hR: ∀b,tq (R b)):tq (sI R N rt a):=by
 unfold sI;split
 · exact .inl rfl
 split
 · exact eV _
 split
 · exact hR _
 split
 · exact hR _
 split
 · exact hR _
 · exact jO (hR _) (hR _)
theorem lC: ∀(l:Nat) (rt:List NQ) (a:NQ),tq (dw l rt a)
 | 0,rt,a=>vJ (fun _=> .inl rfl)
 | l+1,rt,a=>vJ (fun b=>lC l rt b)
theorem qf{l k j:Nat}{rt:List NQ}{a:NQ}(hj:j≤l)(ha:a.length=2^(j+1))(hrt:cD rt)(hl:l<rt.length)(sa:ar k a)(sr:ed k rt):aq l (eA l rt a)∧ar (sT (l+1) k) (eA l rt a):=by
 obtain ⟨e1,e2,e3⟩:=bh ha;have hx:aq l (a.take (a.length / 2)):= .inr ⟨j,hj,e1⟩;have hy:aq l (a.drop (a.length / 2)):= .inr ⟨j,hj,e2⟩;have hlog:a.length.log2-1=j:=by rw[ha,Nat.log2_two_pow];omega
 have hd:aq l (rt.getD j []):= .inr ⟨j,hj,hrt j (by omega)⟩;have h0:=bA l k;have h1:=bA l (sT l k);have r1:=dQ l hx hx hrt (by omega) (sa.take _) (sa.take _) sr;have r2:=dQ l hy hy hrt (by omega) (sa.drop _) (sa.drop _) sr;have r3:=dQ l r2.1 hd hrt (by omega) r2.2 ((sr _).mono (by omega)) (sr.mono (by omega));unfold eA;rw[hlog];refine⟨r1.1.plus r3.1.minus,(r1.2.plus r3.2.minus).mono ?_⟩;show _≤sT l (sT l k)+sT l k+1;omega
def Ef(l:Nat)(rt:List NQ)(a:NQ):Prop :=
 zG l rt (a.take (a.length / 2)) (a.take (a.length / 2))∧zG l rt (a.drop (a.length / 2)) (a.drop (a.length / 2))∧zG l rt (aR l rt (a.drop (a.length / 2)) (a.drop (a.length / 2))) (rt.getD (a.length.log2-1) []) ∧
 kv (aR l rt (a.take (a.length / 2)) (a.take (a.length / 2)))∧kv (aR l rt (aR l rt (a.drop (a.length / 2)) (a.drop (a.length / 2))) (rt.getD (a.length.log2-1) []))
theorem qg{l j:Nat}{rt:List NQ}{a:NQ}(hj:j≤l)(ha:a.length=2^(j+1))(hrt:cD rt)(hl:l<rt.length):aq l (eA l rt a):=by
 obtain ⟨K,k1,_,k3⟩:=tA a a rt;exact(qf hj ha hrt hl k1 k3).1
theorem dR(l:Nat){rt:List NQ}{a b:NQ}(ha:aq l a)(hb:aq l b)(hrt:cD rt)(hl:l≤rt.length):aq l (aR l rt a b):=by
 obtain ⟨K,k1,k2,k3⟩:=tA a b rt;exact(dQ l ha hb hrt hl k1 k2 k3).1
theorem kz{l j:Nat}{rt:List NQ}{a:NQ}(hj:j≤l)(ha:a.length=2^(j+1))(hrt:cD rt)(hl:l<rt.length)(hl5:rt.length≤10)(hok:Ef l rt a):
  Pure Tryz.prog 109 [bC rt,af a] (af (eA l rt a)):=by
 refine qJ 36 Tryz.func109 rfl rfl rfl rfl (by kernel_rfl) (fun B F0 w0=>?_);obtain ⟨e1,e2,e3⟩:=bh ha;have hx:aq l (a.take (a.length / 2)):= .inr ⟨j,hj,e1⟩;have hy:aq l (a.drop (a.length / 2)):= .inr ⟨j,hj,e2⟩;have hlog:a.length.log2-1=j:=by rw[ha,Nat.log2_two_pow];omega
 have hd:aq l (rt.getD j []):= .inr ⟨j,hj,hrt j (by omega)⟩;obtain ⟨o1,o2,o3,z1,z3⟩:=hok;rw[hlog] at o3 z3;have r1:=dR l hx hx hrt (by omega);have r2:=dR l hy hy hrt (by omega);have r3:=dR l r2 hd hrt (by omega);have c1:=bS l hx hx hrt (by omega) hl5 o1;have c2:=bS l hy hy hrt (by omega) hl5 o2;have c3:=bS l r2 hd hrt (by omega) hl5 o3;have n1:=r1.len (by omega);have n3:=r3.len (by omega);have c4:=dP _ z3 (by omega) (by omega);have c5:=cT _ _ z1 z3.minus (by omega) (by omega) (by rw[eP];omega);have cl:=dt (dG a) (by rw[List.length_map];exact ha) (by omega);have hp:2^(j+1)≤2^10:=Nat.pow_le_pow_right (by decide) (by omega);unfold eA;rw[hlog];obtain ⟨n,hn⟩: ∃n,n=a.length / 2:=⟨_,rfl⟩;rw[← hn] at e1 e2 e3 hx hy c1 c2 c3 c4 c5 ⊢;refine qX 2 rfl ?_;refine qK 2 rfl ?_;rw[List.length_map];refine ab.div tok rfl rfl rfl rfl (by decide) ?_;rw[fI _ (by omega),← hn];refine qU 1 rfl ?_;refine qI ?_;refine AW.draw aM 7 (by kernel_rfl) ?_;refine qP 2 rfl ?_;refine ae.fe tok (a:=a) (a.take n) rfl rfl rfl rfl rfl trivial (Int.natCast_nonneg n) (Nat.zero_le _) (show n≤a.length by omega) rfl ?_;refine qP 2 rfl ?_;refine ae.fe tok (a:=a) (a.drop n) rfl rfl rfl rfl rfl (Int.natCast_nonneg n) trivial (show n≤a.length by omega) (Nat.le_refl _) (by show (a.take a.length).drop n=_;rw[List.take_length]) ?_;refine qP 1 rfl ?_;refine ae.nil ?_;refine qU 1 rfl ?_;refine qI ?_;refine AW.draw aM 19 (by kernel_rfl) ?_;refine qP 3 rfl ?_;refine ae.call tok rfl rfl rfl rfl rfl c1 ?_;refine qP 4 rfl ?_;refine ae.call tok rfl rfl rfl rfl rfl c2 ?_;refine qP 3 rfl ?_;refine ae.call tok rfl rfl rfl rfl rfl cl ?_;refine qP 1 rfl ?_;rw[aC (x:=((j+1:Nat):Int) -1) (by omega) (by omega),show ((j+1:Nat):Int) -1=(j:Int) by omega];refine ae.idx tok (af (rt.getD j [])) rfl rfl rfl rfl rfl (Int.natCast_nonneg j) (y7 (by omega)) ?_;refine qP 1 rfl ?_;refine ae.call tok rfl rfl rfl rfl rfl c3 ?_;refine ae.call tok rfl rfl rfl rfl rfl c4 ?_;refine ae.call tok rfl rfl rfl rfl rfl c5 ?_;refine ae.nil ?_;refine qU 1 rfl ?_;exact qN rfl
theorem A6{l k j:Nat}{rt:List NQ}{a:NQ}(hj:j≤l)(ha:a.length=2^(j+1))(hrt:cD rt)(hl:l<rt.length)(sa:ar k a)(sr:ed k rt)(hk:sT (l+1) k≤17300000000000):Ef l rt a:=by
 obtain ⟨e1,e2,e3⟩:=bh ha;have hx:aq l (a.take (a.length / 2)):= .inr ⟨j,hj,e1⟩;have hy:aq l (a.drop (a.length / 2)):= .inr ⟨j,hj,e2⟩;have hlog:a.length.log2-1=j:=by rw[ha,Nat.log2_two_pow];omega
 have hd:aq l (rt.getD j []):= .inr ⟨j,hj,hrt j (by omega)⟩;have h0:=bA l k;have h1:=bA l (sT l k);have hk:sT l (sT l k)+sT l k+1≤17300000000000:=hk;have r1:=dQ l hx hx hrt (by omega) (sa.take _) (sa.take _) sr;have r2:=dQ l hy hy hrt (by omega) (sa.drop _) (sa.drop _) sr;have r3:=dQ l r2.1 hd hrt (by omega) r2.2 ((sr _).mono (by omega)) (sr.mono (by omega));unfold Ef;rw[hlog];exact⟨oE l hx hx hrt (by omega) (sa.take _) (sa.take _) sr (by omega),oE l hy hy hrt (by omega) (sa.drop _) (sa.drop _) sr (by omega),oE l r2.1 hd hrt (by omega) r2.2 ((sr j).mono (by omega)) (sr.mono (by omega)) (by omega),r1.2.mono (by omega),r3.2.mono (by omega)⟩
def Fi(O:NQ→Prop)(N:NQ→NQ)(Nk:NQ→Prop)(rt:List NQ)(s:NQ):Prop:=s.length≠0→s.length≠1 →
 O (s.take (s.length / 2))∧O (s.drop (s.length / 2))∧O (rt.getD (s.length.log2-1) [])∧Nk s∧O (N s)
def A7:Nat→List NQ→NQ→Prop
 | 0,rt,a=>kv a
 | l+1,rt,a=>kv a∧Fi (A7 l rt) (eA l rt) (Ef l rt) rt (ay a)
theorem mG: ∀(l:Nat) {k:Nat} {rt:List NQ} {a:NQ},aq l a→cD rt→l≤rt.length→ar k a→ed k rt→ny l k→A7 l rt a
 | 0,k,rt,a,ha,hrt,hl,sa,sr,hok=>sa.mono (Nat.le_trans hok (by decide))
 | l+1,k,rt,a,ha,hrt,hl,sa,sr,hok=>by
   have hk:=rl hok;refine⟨sa.mono (by omega),fun h0 h1=>?_⟩;obtain ⟨ha,sa⟩:=aU ha sa;generalize ay a=b at ha sa h0 h1 ⊢
   obtain ⟨i,hi,hla⟩: ∃i,i≤l+1∧b.length=2^i:=by
    rcases ha with e | e
    · omega
    · exact e
   have wE:i≠0:=fun e=>h1 (by rw[hla,e]);obtain ⟨j,rfl⟩: ∃j,i=j+1:=⟨i-1,by omega⟩;have hj:j≤l:=by omega
   obtain ⟨e1,e2,e3⟩:=bh hla;have hx:aq l (b.take (b.length / 2)):= .inr ⟨j,hj,e1⟩;have hy:aq l (b.drop (b.length / 2)):= .inr ⟨j,hj,e2⟩;have hlog:b.length.log2-1=j:=by rw[hla,Nat.log2_two_pow];omega
   have hd:aq l (rt.getD (b.length.log2-1) []):= .inr ⟨j,hj,by rw[hlog];exact hrt j (by omega)⟩;have hn:=qf hj hla hrt (by omega) sa sr;have h2:=bA (l+1) k;have h3:=hok.1;exact⟨mG l hx hrt (by omega) (sa.take _) sr (il hok),mG l hy hrt (by omega) (sa.drop _) sr (il hok),mG l hd hrt (by omega) (sr _) sr (il hok),A6 hj hla hrt (by omega) sa sr (by omega),mG l hn.1 hrt (by omega) hn.2 (sr.mono (by omega)) hok.2⟩
theorem A7.sz{l:Nat}{rt:List NQ}{a:NQ}(h:A7 l rt a):kv a:=by
 cases l with
 | zero=>exact h
 | succ l=>exact h.1
set_option maxHeartbeats 1600000 in
theorem tE{l:Nat}{R:NQ→Int}{O:NQ→Prop}{N:NQ→NQ}{Nk:NQ→Prop}{rt:List NQ}{a:NQ}(ha:aq l a)(hl5:l≤5)(hrt:cD rt)(hl:l≤rt.length)(hl10:rt.length≤10)(sa:kv a)(hok:l≠0→Fi O N Nk rt (ay a))
  (hR: ∀l',l=l'+1→ ∀b,aq l' b→O b→Pure Tryz.prog 64 [bC rt,af b] (dI (R b))) (hT: ∀b,tq (R b))
  (hN: ∀l',l=l'+1→ ∀b j,j≤l'→b.length=2^(j+1)→Nk b→Pure Tryz.prog 109 [bC rt,af b] (af (N b))∧aq l' (N b)):
  Pure Tryz.prog 64 [bC rt,af a] (dI (sI R N rt (ay a))):=by
 refine qJ 64 Tryz.func64 rfl rfl rfl rfl (by kernel_rfl) (fun B F0 w0=>?_);have cs:=bK a ha hl5 sa (by omega);obtain ⟨ha,sa⟩:=aU ha sa;generalize ay a=b at cs ha sa hok ⊢;have hlb:=ha.len (by omega);unfold sI;refine qX 2 rfl ?_;refine qK 1 rfl ?_;refine ab.call tok rfl rfl rfl rfl cs ?_;refine qU 1 rfl ?_;refine qI ?_;refine qX 2 rfl ?_;rw[List.length_map];refine qU 1 rfl ?_;refine ab.nil ?_;by_cases h0:b.length=0
 · rw[if_pos h0,h0];refine AW.aF rfl ?_;refine qX 1 rfl ?_;exact qN rfl
 rw[if_neg h0,beq_eq_false_iff_ne.2 (show (b.length:Int)≠0 by omega)];refine AW.au rfl ?_;refine AW.skip (AW.seq ?_);refine qX 2 rfl ?_;rw[List.length_map];refine qU 1 rfl ?_;refine ab.nil ?_;by_cases h1:b.length=1
 · have g:=kq (r:=b) (i:=0) (by omega);have cq:=jy (Qr (b.getD 0 0)) (jH _ (sa 0)) (by omega);rw[cX,yJ] at cq;rw[if_pos h1,h1];refine AW.aF rfl ?_;refine qX 1 rfl ?_;refine ab.idx tok (Qr (b.getD 0 0)).D rfl rfl rfl rfl (Int.le_refl _) g ?_;refine qU 1 rfl ?_;refine ab.call tok rfl rfl rfl rfl cq ?_;refine qU 1 rfl ?_;exact qN rfl
 rw[if_neg h1,beq_eq_false_iff_ne.2 (show (b.length:Int)≠1 by omega)];refine AW.au rfl ?_;refine AW.skip ?_
 obtain ⟨i,hi,hla2⟩: ∃i,i≤l∧b.length=2^i:=by
  rcases ha with e | e
  · omega
  · exact e
 have wE:i≠0:=fun e=>h1 (by rw[hla2,e]);obtain ⟨j,rfl⟩: ∃j,i=j+1:=⟨i-1,by omega⟩;obtain ⟨l',rfl⟩: ∃l',l=l'+1:=⟨l-1,by omega⟩;have hj:j≤l':=by omega
 have hR:=hR l' rfl;obtain ⟨o1,o2,o3,o4,o5⟩:=hok (by omega) h0 h1;have hN:=hN l' rfl b j hj hla2 o4;obtain ⟨e1,e2,e3⟩:=bh hla2;have hx:aq l' (b.take (b.length / 2)):= .inr ⟨j,hj,e1⟩;have hy:aq l' (b.drop (b.length / 2)):= .inr ⟨j,hj,e2⟩;have hlog:b.length.log2-1=j:=by rw[hla2,Nat.log2_two_pow];omega
 have hd:aq l' (rt.getD j []):= .inr ⟨j,hj,hrt j (by omega)⟩;rw[hlog] at o3;have r1:=hR _ hx o1;have r2:=hR _ hy o2;have r3:=hR _ hd o3;have r4:=hR _ hN.2 o5;have t1:=hT (b.take (b.length / 2));have t2:=hT (b.drop (b.length / 2));have t4:=jO t1 (hT (N b));have cn:=hN.1;have cl:=dt (dG b) (by rw[List.length_map];exact hla2) (by omega);rw[hlog];obtain ⟨n,hn⟩: ∃n,n=b.length / 2:=⟨_,rfl⟩;rw[← hn] at e1 e2 e3 hx hy r1 r2 t1 t2 t4 ⊢;generalize R (b.take n)=x at r1 t1 t4 ⊢;generalize R (b.drop n)=y at r2 t2 ⊢;generalize R (rt.getD j [])=z at r3 ⊢;generalize R (N b)=u at r4 t4 ⊢;refine qX 2 rfl ?_;rw[List.length_map];refine ab.div tok rfl rfl rfl rfl (by decide) ?_;rw[fI _ (by omega),← hn];refine qU 1 rfl ?_;refine qI ?_;refine AW.draw aM 10 (by kernel_rfl) ?_;refine qP 3 rfl ?_;refine ae.fe tok (a:=b) (b.take n) rfl rfl rfl rfl rfl trivial (Int.natCast_nonneg n) (Nat.zero_le _) (show n≤b.length by omega) rfl ?_;refine ae.call tok rfl rfl rfl rfl rfl r1 ?_;refine qP 3 rfl ?_;refine ae.fe tok (a:=b) (b.drop n) rfl rfl rfl rfl rfl (Int.natCast_nonneg n) trivial (show n≤b.length by omega) (Nat.le_refl _) (by show (b.take b.length).drop n=_;rw[List.take_length]) ?_;refine ae.call tok rfl rfl rfl rfl rfl r2 ?_;refine ae.nil ?_;refine qU 2 rfl ?_;refine qI (AW.seq ?_);refine AW.draw aM 10 (by kernel_rfl) ?_;refine qP 4 rfl ?_;refine ae.call tok rfl rfl rfl rfl rfl cl ?_;refine qP 1 rfl ?_;rw[aC (x:=((j+1:Nat):Int) -1) (by omega) (by omega),show ((j+1:Nat):Int) -1=(j:Int) by omega];refine ae.idx tok (af (rt.getD j [])) rfl rfl rfl rfl rfl (Int.natCast_nonneg j) (y7 (by omega)) ?_;refine qP 1 rfl ?_;refine ae.call tok rfl rfl rfl rfl rfl r3 ?_;refine qP 1 rfl ?_;refine ae.nil ?_;refine ab.nil ?_;by_cases hz:z=0
 · rw[if_pos hz,beq_iff_eq.2 hz];refine AW.aF rfl ?_;refine qX 2 rfl ?_;exact qN rfl
 rw[if_neg hz,beq_eq_false_iff_ne.2 hz];refine AW.au rfl ?_;refine AW.skip (AW.seq (AW.block ?_));refine qX 3 rfl ?_;by_cases hxy:x=y
 · rw[if_pos (.inl hxy),beq_iff_eq.2 hxy];refine qU 5 rfl ?_;refine ab.nil ?_;refine AW.aF rfl ?_;refine qX 2 rfl ?_;exact qN rfl
 rw[beq_eq_false_iff_ne.2 hxy];refine qU 3 rfl ?_;by_cases hy0:y=0
 · rw[if_pos (.inr hy0),beq_iff_eq.2 hy0];refine qU 2 rfl ?_;refine ab.nil ?_;refine AW.aF rfl ?_;refine qX 2 rfl ?_;exact qN rfl
 rw[if_neg (fun h=>h.elim hxy hy0),beq_eq_false_iff_ne.2 hy0];refine qU 2 rfl ?_;refine ab.nil ?_;refine AW.au rfl ?_;refine qX 3 rfl ?_;refine ab.nil ?_;by_cases hx0:x=0
 · rw[if_pos hx0,beq_iff_eq.2 hx0];refine AW.aF rfl ?_;refine qX 2 rfl ?_;exact qN rfl
 rw[if_neg hx0,beq_eq_false_iff_ne.2 hx0];refine AW.au rfl ?_;refine AW.skip (AW.seq ?_);refine AW.draw aM 7 (by kernel_rfl) ?_;refine qP 4 rfl ?_;refine ae.call tok rfl rfl rfl rfl rfl cn ?_;refine ae.call tok rfl rfl rfl rfl rfl r4 ?_;refine qP 1 rfl ?_;rw[aC (x:=x*u) (by unfold tq at t4;omega) (by unfold tq at t4;omega)];refine ae.nil ?_;refine qU 1 rfl ?_;exact qN rfl
theorem c7: ∀(l:Nat) {rt:List NQ} {a:NQ},aq l a→l≤5→cD rt→l≤rt.length→rt.length≤10→A7 l rt a→Pure Tryz.prog 64 [bC rt,af a] (dI (dw l rt a))
 | 0,rt,a,ha,hl5,hrt,hl,hl10,hok=>tE (O:=fun _=>True) (Nk:=fun _=>True) ha hl5 hrt hl hl10 hok (fun h=>absurd rfl h) (fun l' h=>by omega) (fun _=> .inl rfl) (fun l' h=>by omega)
 | l+1,rt,a,ha,hl5,hrt,hl,hl10,hok=>tE (O:=A7 l rt) (Nk:=Ef l rt) ha hl5 hrt hl hl10 hok.1 (fun _=>hok.2) (fun l' e b h1 h2=>by
    obtain rfl:l=l':=by omega
    exact c7 l h1 (by omega) hrt (by omega) hl10 h2) (lC l rt) (fun l' e b j h1 h2 h3=>by
    obtain rfl:l=l':=by omega
    exact⟨kz h1 h2 hrt (by omega) hl10 h3,qg h1 h2 hrt (by omega)⟩)
theorem l7(l:Nat){k:Nat}{rt:List NQ}{a:NQ}(ha:aq l a)(hl5:l≤5)(hrt:cD rt)(hl:l≤rt.length)(hl10:rt.length≤10)(sa:ar k a)(sr:ed k rt)(hok:ny l k):Pure Tryz.prog 64 [bC rt,af a] (dI (dw l rt a)) :=
 c7 l ha hl5 hrt hl hl10 (mG l ha hrt hl sa sr hok)
end Lift
namespace Lift
open Go Go.Proofs
abbrev cF(a:List RD):D:= .sl 3 (a.map RD.D)
abbrev TrD(rt:List (List RD)):D:= .ag [.sl 1 (rt.map cF)]
def iV(a:List RD):Bool:=a.all RD.okB
def xT(m n:Nat):Bool:=(List.range (m+1)).any fun i=>decide (n=2^i)
def a6(m:Nat)(a:List RD):Nat:=if a.length≠0∧xT m a.length=false then 10 else if iV a=false then 2 else 0
def bm(a:List RD):NQ:=a.map RD.val
def wN(k:Nat)(a:List RD):Prop:= ∀i,i<a.length→(a.getD i default).w k
def sF(rt:List (List RD))(k:Nat):Nat:=if (rt.getD k []).length≠2^k then 10 else if a6 k (rt.getD k [])≠0 then a6 k (rt.getD k []) else if dw k ((rt.take k).map bm) (bm (rt.getD k []))<0 then 3 else 0
def ck(rt:List (List RD)):Nat:=if 5<rt.length then 4 else fE (sF rt) (rt.length-0) 0
def nS(rt l:List (List RD)):Nat:=if ck rt≠0 then ck rt else fE (fun i=>a6 rt.length (l.getD i [])) (l.length-0) 0
theorem Ba(a:List RD)(i:Nat):(bm a).getD i 0=if i<a.length then (a.getD i default).val else 0:=by
 unfold bm;rw[List.getD_eq_getElem?_getD,List.getElem?_map,List.getD_eq_getElem?_getD];by_cases h:i<a.length
 · rw[if_pos h,List.getElem?_eq_getElem h];rfl
 · rw[if_neg h,List.getElem?_eq_none (by omega)];rfl
theorem kE{a:List RD}{k:Nat}(h:wN k a)(h1:1≤k):ar k (bm a):=fun c=>by
 rw[Ba];split
 · rename_i hc;exact eG (h c hc) h1
 · exact lj h1
theorem jr{a:List RD}{k:Nat}(hw:wN k a)(h:iV a=true):cF a=af (bm a):=by
 show D.sl 3 (a.map RD.D)=D.sl 3 (List.map _ (List.map _ a));rw[List.map_map]
 congr 1
 refine List.map_congr_left fun x hx=>?_;obtain ⟨i,hi,rfl⟩:=List.mem_iff_getElem.1 hx;have hi2:=hw i hi;rw[List.getD_eq_getElem?_getD,List.getElem?_eq_getElem hi] at hi2;unfold iV at h;rw[List.all_eq_true] at h;have:=RD.canon hi2 (h _ (List.getElem_mem hi));simp only[Option.getD_some] at this;show (a[i]).D=(Qr (a[i]).val).D;rw[← this]
theorem wh{l:List RD}{i:Nat}(hi:i<l.length)(h:(l.getD i default).okB=false):iV l=false:=EN hi h
theorem tL{l:List RD}(h: ∀i,i<l.length→(l.getD i default).okB=true):iV l=true:=Dn h
theorem uU(m i:Nat):xT m (2^i)=decide (i≤m):=by
 unfold xT;by_cases h:i≤m
 · rw[decide_eq_true h,List.any_eq_true];exact⟨i,List.mem_range.2 (by omega),decide_eq_true rfl⟩
 · rw[decide_eq_false h,List.any_eq_false];intro j hj;have hj:=List.mem_range.1 hj;rw[decide_eq_false]
   · simp
   · intro e;have h1:=gM (Nat.le_of_eq e);omega
theorem CZ{m n:Nat}(h: ∀i,n≠2^i):xT m n=false:=by
 unfold xT;rw[List.any_eq_false];intro j _;rw[decide_eq_false (h j)];simp
theorem Bg{m n:Nat}(h:xT m n=true): ∃i,i≤m∧n=2^i:=by
 unfold xT at h;rw[List.any_eq_true] at h;obtain ⟨i,h1,h2⟩:=h;exact⟨i,by have:=List.mem_range.1 h1;omega,of_decide_eq_true h2⟩
theorem nC{m:Nat}{a:List RD}(h:a6 m a=0):aq m (bm a)∧iV a=true:=by
 unfold a6 at h;split at h
 · cases h
 rename_i h1;split at h
 · cases h
 rename_i h2;constructor
 · by_cases h0:a.length=0
   · exact .inl (by unfold bm;rw[List.length_map];exact h0)
   · have h3:xT m a.length=true:=by
      cases hv:xT m a.length
      · exact absurd ⟨h0,hv⟩ h1
      · rfl
     obtain ⟨i,h4,h5⟩:=Bg h3;exact .inr ⟨i,h4,by unfold bm;rw[List.length_map];exact h5⟩
 · cases hv:iV a
   · exact absurd hv h2
   · rfl
def yp(m:Nat)(a:List RD):Prop:= ¬(a.length≠0∧xT m a.length=false)
theorem uP{m:Nat}{a:List RD}(h:a6 m a=0):yp m a:=by
 unfold a6 at h;split at h
 · cases h
 · assumption
theorem j8(xs:List D)(a:List RD){k:Nat}(hw:yp xs.length a→wN k a)(hk:k≤17300000000000)(hl:a.length≤4398046511104)(hx:xs.length≤1000000):Pure Tryz.prog 99 [.ag [.sl 1 xs],cF a] (x8 (a6 xs.length a)):=by
 refine qJ 34 Tryz.func99 rfl rfl rfl rfl (by kernel_rfl) (fun B F0 w0=>?_);have hno:=fun i hi=>wh (l:=a) (i:=i) hi;have hyes:=tL (l:=a);unfold a6;generalize iV a=E at hno hyes ⊢;refine qX 2 rfl ?_;refine ab.nil ?_;refine AW.cut [1] (fun _:Unit=>[(1,.d (cF a))]) (fun _=> ¬(a.length≠0∧xT xs.length a.length=false)) ?_ (fun _ hs=>?_)
 · refine qX 2 rfl ?_;rw[List.length_map];refine qU 1 rfl ?_;refine ab.nil ?_;by_cases h0:a.length=0
   · rw[h0];refine AW.au rfl ?_;refine AW.skip ?_;exact⟨(),rfl,fun h=>h.1 rfl⟩
   rw[decide_eq_true (show (0:Int)<(a.length:Int) by omega)];refine AW.aF rfl ?_;by_cases hp: ∃i,a.length=2^i
   · obtain ⟨i,hp⟩:=hp
     have hi:i≤42:=by
      refine gM ?_;rw[← hp];omega
     have cl:=dt (a.map RD.D) (by rw[List.length_map];exact hp) (by omega);rw[hp,uU];refine qX 1 rfl ?_;refine ab.call tok rfl rfl rfl rfl cl ?_;refine qU 1 rfl ?_;refine qK 2 rfl ?_;rw[decide_eq_false (show ¬((i:Int)<0) by omega)];refine qU 6 rfl ?_;by_cases hm:i≤xs.length
     · rw[decide_eq_true hm,decide_eq_false (show ¬((xs.length:Int)<(i:Int)) by omega)];refine qU 1 rfl ?_;refine ab.nil ?_;refine AW.au rfl ?_;refine AW.skip ?_;exact⟨(),rfl,fun h=>by cases h.2⟩
     · rw[decide_eq_false hm,decide_eq_true (show (xs.length:Int)<(i:Int) by omega),if_pos ⟨by have:=Nat.two_pow_pos i;omega,rfl⟩];refine qU 1 rfl ?_;refine ab.nil ?_;refine AW.aF rfl ?_;refine qX 2 rfl ?_;exact qN rfl
   · have hp: ∀i,a.length≠2^i:=fun i e=>hp ⟨i,e⟩;have cl:=j9 (a.map RD.D) (by rw[List.length_map];exact hp) (by rw[List.length_map];omega);rw[if_pos ⟨h0,CZ hp⟩];refine qX 1 rfl ?_;refine ab.call tok rfl rfl rfl rfl cl ?_;refine qU 1 rfl ?_;refine qK 9 rfl ?_;refine ab.nil ?_;refine AW.aF rfl ?_;refine qX 2 rfl ?_;exact qN rfl
 · rw[if_neg hs];have hw:=hw hs;show AW _ _ _ _ _ _ _ [(1,.d (cF a))];refine AW.seq ?_;refine qX 2 rfl ?_;rw[List.length_map];refine qU 1 rfl ?_;refine ab.nil ?_;refine AW.block ?_;refine AW.aE [23,24,25] (fun i:Nat=>[(23,.d (cF a)),(24,.d (dI a.length)),(25,.d (dI i))]) (fun i=>i≤a.length∧ ∀j,j<i→(a.getD j default).okB=true) (fun i=>a.length-i) 0 rfl ⟨Nat.zero_le _,fun j hj=>by omega⟩ (fun i ⟨hi,hall⟩=>?_);refine qX 1 rfl ?_;refine qI ?_;refine AW.cond rfl (fun h=>?_) (fun h=>?_)
   · have hii:i<a.length:=by have:=of_decide_eq_true h;omega
     have hg:=getM RD.D (l:=a) (i:=i) hii;have hno:=hno i hii;have cv:=iX (a.getD i default) (hw i hii) (by omega);refine AW.skip (AW.seq (AW.block (AW.seq (AW.region ?_))));refine ab.idx tok (a.getD i default).D rfl rfl rfl rfl (Int.natCast_nonneg i) hg ?_;refine qU 3 rfl ?_;refine qK 1 rfl ?_;refine ab.call tok rfl rfl rfl rfl cv ?_;refine qU 1 rfl ?_;cases hv:(a.getD i default).okB with
     | false =>
       rw[hno hv,if_pos rfl];refine ab.nil ?_;refine AW.aF rfl ?_;refine qX 2 rfl ?_;exact qN rfl
     | true =>
       refine ab.nil ?_;refine AW.au rfl ?_;refine AW.skip ?_;refine qT 1 rfl ?_;rw[aC (x:=(i:Int)+1) (by omega) (by omega)];refine qU 1 rfl ?_;refine ab.nil ?_
       exact⟨i+1,rfl,⟨hii,fun j hj=>by
        by_cases e:j=i
        · subst e;exact hv
        · exact hall j (by omega)⟩,by omega⟩
   have hii:i=a.length:=by have:=of_decide_eq_false h;omega
   subst hii;rw[hyes hall,if_neg (by simp)];refine AW.exit ?_;refine qX 1 rfl ?_;exact qN rfl
end Lift
namespace Lift
open Go Go.Proofs
theorem Aw(rt:List (List RD))(k:Nat):((rt.map cF).take (bV (rt.map cF).length (some (k:Int)))).drop (eC none)=(rt.take k).map cF:=by
 show ((rt.map cF).take k).drop 0=_;rw[List.drop_zero,List.map_take]
theorem mz{rt:List (List RD)}{k m:Nat}(hw: ∀i,i<k→wN m (rt.getD i []))(hk:k≤rt.length)(h: ∀j,j<k→iV (rt.getD j [])=true):(rt.take k).map cF=((rt.take k).map bm).map af:=by
 rw[List.map_map];refine List.map_congr_left fun x hx=>?_;obtain ⟨i,hi,rfl⟩:=List.mem_iff_getElem.1 hx;rw[List.length_take] at hi
 have e:(rt.take k)[i]'(by rw[List.length_take];exact hi)=rt.getD i []:=by
  rw[List.getElem_take,List.getD_eq_getElem?_getD,List.getElem?_eq_getElem (by omega)];rfl
 rw[e];exact jr (hw i (by omega)) (h i (by omega))
theorem mY{rt:List (List RD)}{k i:Nat}(hi:i<k):((rt.take k).map bm).getD i []=bm (rt.getD i []):=by
 rw[List.getD_eq_getElem?_getD,List.getElem?_map,List.getElem?_take_of_lt hi,List.getD_eq_getElem?_getD];cases rt[i]? with
 | none=>rfl
 | some x=>rfl
theorem zp{rt:List (List RD)}{k i:Nat}(hi:k≤i):((rt.take k).map bm).getD i []=[]:=by
 rw[List.getD_eq_getElem?_getD,List.getElem?_eq_none (by rw[List.length_map,List.length_take];omega)];rfl
theorem eH{rt:List (List RD)}{k:Nat}(hk:k≤rt.length):((rt.take k).map bm).length=k:=by rw[List.length_map,List.length_take];omega
theorem p7{rt:List (List RD)}{k m:Nat}(hw: ∀i,i<k→wN m (rt.getD i []))(h1:1≤m)(hk:k≤rt.length):ed m ((rt.take k).map bm):=fun i=>by
 by_cases h:i<k
 · rw[mY h];exact kE (hw i (by omega)) h1
 · rw[zp (by omega)];exact bb h1
theorem A9(a:List RD):(bm a).length=a.length:=List.length_map ..
theorem fM{rt:List (List RD)}{k:Nat}(h:sF rt k=0):(rt.getD k []).length=2^k∧iV (rt.getD k [])=true∧ ¬dw k ((rt.take k).map bm) (bm (rt.getD k []))<0:=by
 unfold sF at h;split at h
 · cases h
 rename_i h1;split at h
 · rename_i h2;exact absurd h h2
 rename_i h2;split at h
 · cases h
 rename_i h3;exact⟨by omega,(nC (m:=k) (by omega)).2,h3⟩
theorem jM{rt:List (List RD)}{k:Nat}(hk:k≤rt.length)(h: ∀j,j<k→sF rt j=0):cD ((rt.take k).map bm):=fun j hj=>by
 rw[eH hk] at hj;rw[mY hj,A9];exact(fM (h j hj)).1
theorem A4{l m k:Nat}(h:ny l k)(hm:m≤l):ny m k:=by
 induction l with
 | zero=>obtain rfl:m=0:=by omega
         exact h
 | succ l ih =>
   by_cases e:m=l+1
   · rw[e];exact h
   · exact ih (il h) (by omega)
theorem kC(rt:List (List RD)){m:Nat}(hw: ∀i,i<rt.length→(rt.getD i []).length=2^i→wN m (rt.getD i []))(h1:1≤m)(hl:rt.length≤1000000)(hll: ∀i,i<rt.length→(rt.getD i []).length≤4398046511104)(hok:rt.length≤5→ny rt.length m):Pure Tryz.prog 54 [TrD rt] (x8 (ck rt)):=by
 refine qJ 43 Tryz.func54 rfl rfl rfl rfl (by kernel_rfl) (fun B F0 w0=>?_);unfold ck;obtain ⟨E,hE⟩: ∃E,fE (sF rt) (rt.length-0) 0=E:=⟨_,rfl⟩;rw[hE];refine qX 2 rfl ?_;refine qI ?_;refine qX 3 rfl ?_;rw[List.length_map];refine qU 1 rfl ?_;refine ab.nil ?_;by_cases h5:5<rt.length
 · rw[if_pos h5,decide_eq_true (show (5:Int)<(rt.length:Int) by omega)];refine AW.aF rfl ?_;refine qX 2 rfl ?_;exact qN rfl
 rw[if_neg h5,decide_eq_false (show ¬(5:Int)<(rt.length:Int) by omega)];have hok:=hok (by omega);have hm7:=rl hok;refine AW.au rfl ?_;refine AW.skip (AW.seq ?_);refine qX 3 rfl ?_;rw[List.length_map];refine qU 1 rfl ?_;refine ab.nil ?_;refine AW.block ?_;refine AW.aE [1,13,14,15] (fun i:Nat=>[(1,.bx [.sl 1 (rt.map cF)]),(13,.d (.sl 1 (rt.map cF))),(14,.d (dI rt.length)),(15,.d (dI i))]) (fun i=>i≤rt.length∧fE (sF rt) (rt.length-i) i=E∧ ∀j,j<i→sF rt j=0) (fun i=>rt.length-i) 0 rfl ⟨Nat.zero_le _,hE,fun j hj=>by omega⟩ (fun i ⟨hi,hiE,hall⟩=>?_);refine qX 1 rfl ?_;refine qI ?_;refine AW.cond rfl (fun h=>?_) (fun h=>?_);rotate_left
 · have hii: ¬i<rt.length:=by have:=of_decide_eq_false h;omega
   rw[iC hii] at hiE;subst hiE;refine AW.exit ?_;refine qX 1 rfl ?_;exact qN rfl
 have hii:i<rt.length:=by have:=of_decide_eq_true h;omega
 have hg:(rt.map cF)[i]?=some (cF (rt.getD i [])):=by simp[hii]
 have hwi:=hw i hii;have hli:=hll i hii;have hmiss:=fun h0:sF rt i=0=>(fA hii h0).symm.trans hiE;have hhit:=fun h0:sF rt i≠0=>(iB hii h0).symm.trans hiE;have hp:2^i≤2^5:=Nat.pow_le_pow_right (by decide) (by omega);have hrt:sF rt i=if (rt.getD i []).length≠2^i then 10 else if a6 i (rt.getD i [])≠0 then a6 i (rt.getD i []) else if dw i ((rt.take i).map bm) (bm (rt.getD i []))<0 then 3 else 0:=rfl
 refine AW.skip (AW.seq (AW.block ?_));refine qX 1 rfl ?_;refine ab.idx tok (cF (rt.getD i [])) rfl rfl rfl rfl (Int.natCast_nonneg i) hg ?_;refine qU 3 rfl ?_;refine qI ?_;refine qX 2 rfl ?_;rw[List.length_map];refine qU 2 rfl ?_;rw[vI (by omega)];refine qU 1 rfl ?_;refine ab.nil ?_;by_cases e1:(rt.getD i []).length=2^i;rotate_left
 · rw[if_pos e1] at hrt;rw[bne_iff_ne.2 (show (((rt.getD i []).length:Nat):Int)≠((2^i:Nat):Int) by omega)];have:=hhit (by rw[hrt];decide);rw[hrt] at this;subst this;refine AW.aF rfl ?_;refine qX 2 rfl ?_;exact qN rfl
 rw[if_neg (fun h=>h e1)] at hrt;have hwi:=hwi e1;have cn:=j8 ((rt.take i).map cF) (rt.getD i []) (fun _=>hwi) (by omega) hli (by rw[List.length_map,List.length_take];omega);rw[List.length_map,List.length_take,Nat.min_eq_left hi] at cn;rw[e1,bne_eq_false_iff_eq.2 rfl];refine AW.au rfl ?_;refine AW.skip ?_;refine qX 3 rfl ?_;refine ab.CC tok rfl rfl rfl rfl trivial (Int.natCast_nonneg i) (Nat.zero_le _) (by show i≤_;rw[List.length_map];omega) ?_;rw[Aw];refine qU 3 rfl ?_;refine qI ?_;refine qX 2 rfl ?_;refine ab.call tok rfl rfl rfl rfl cn ?_;refine qU 1 rfl ?_;refine ab.nil ?_;rcases e2:a6 i (rt.getD i []) with _ | z
 rotate_left
 · rw[e2,if_pos (Nat.succ_ne_zero z)] at hrt;have:=hhit (by rw[hrt];exact Nat.succ_ne_zero z);rw[hrt] at this;subst this;refine qX 1 rfl ?_;refine ab.err tok rfl rfl rfl rfl rfl ?_;refine ab.nil ?_;refine AW.aF rfl ?_;refine qX 2 rfl ?_;exact qN rfl
 rw[if_neg (by rw[e2];simp)] at hrt;obtain ⟨n1,n2⟩:=nC e2;have cs:=l7 i (k:=m) n1 (by omega) (jM hi hall) (by rw[eH hi];exact Nat.le_refl _) (by rw[eH hi];omega) (kE hwi h1) (p7 (fun j hj=>hw j (by omega) (fM (hall j hj)).1) h1 hi) (A4 hok hi);have tr:=lC i ((rt.take i).map bm) (bm (rt.getD i []));rw[show bC ((rt.take i).map bm)= .ag [.sl 1 ((rt.take i).map cF)] from by rw[mz (fun j hj=>hw j (by omega) (fM (hall j hj)).1) hi (fun j hj=>(fM (hall j hj)).2.1)],← jr hwi n2] at cs;generalize dw i ((rt.take i).map bm) (bm (rt.getD i []))=s at cs hrt tr;refine qX 1 rfl ?_;refine ab.err tok rfl rfl rfl rfl rfl ?_;refine ab.nil ?_;refine AW.au rfl ?_;refine AW.skip ?_;refine qX 2 rfl ?_;refine ab.call tok rfl rfl rfl rfl cs ?_;refine qU 1 rfl ?_;refine ab.nil ?_;by_cases e3:s<0
 · rw[if_pos e3] at hrt;rw[decide_eq_true e3];have:=hhit (by rw[hrt];decide);rw[hrt] at this;subst this;refine AW.aF rfl ?_;refine qX 2 rfl ?_;exact qN rfl
 rw[if_neg e3] at hrt;rw[decide_eq_false e3];refine AW.au rfl ?_;refine AW.skip ?_;refine qT 1 rfl ?_;rw[aC (x:=(i:Int)+1) (by omega) (by omega)];refine qU 1 rfl ?_;refine ab.nil ?_
 exact⟨i+1,rfl,⟨hii,hmiss hrt,fun j hj=>by
  by_cases e:j=i
  · rw[e];exact hrt
  · exact hall j (by omega)⟩,by omega⟩
theorem kc(rt l:List (List RD)){m mn:Nat}(hw: ∀i,i<rt.length→(rt.getD i []).length=2^i→wN m (rt.getD i []))(h1:1≤m)(hl:rt.length≤1000000)(hll: ∀i,i<rt.length→(rt.getD i []).length≤4398046511104)(hok:rt.length≤5→ny rt.length m)
  (hlw: ∀i,i<l.length→yp rt.length (l.getD i [])→wN mn (l.getD i [])) (hl2:l.length≤1000000) (hl3: ∀i,i<l.length→(l.getD i []).length≤4398046511104) (hm:mn≤17300000000000):Pure Tryz.prog 61 [TrD rt,.sl 1 (l.map cF)] (x8 (nS rt l)):=by
 refine qJ 27 Tryz.func61 rfl rfl rfl rfl (by kernel_rfl) (fun B F0 w0=>?_);have cC:=kC rt hw h1 hl hll hok;unfold nS;obtain ⟨E,hE⟩: ∃E,fE (fun i=>a6 rt.length (l.getD i [])) (l.length-0) 0=E:=⟨_,rfl⟩;rw[hE];refine qX 2 rfl ?_;refine qI ?_;refine qX 1 rfl ?_;refine ab.call tok rfl rfl rfl rfl cC ?_;refine qU 1 rfl ?_;refine ab.nil ?_;rcases e2:ck rt with _ | z
 rotate_left
 · rw[if_pos (Nat.succ_ne_zero z)];refine qX 1 rfl ?_;refine ab.err tok rfl rfl rfl rfl rfl ?_;refine ab.nil ?_;refine AW.aF rfl ?_;refine qX 2 rfl ?_;exact qN rfl
 rw[if_neg (by simp)];refine qX 1 rfl ?_;refine ab.err tok rfl rfl rfl rfl rfl ?_;refine ab.nil ?_;refine AW.au rfl ?_;refine AW.skip (AW.seq ?_);refine qX 2 rfl ?_;rw[List.length_map];refine qU 1 rfl ?_;refine ab.nil ?_;refine AW.block ?_;refine AW.aE [2,14,15,16] (fun i:Nat=>[(2,.bx [.sl 1 (rt.map cF)]),(14,.d (.sl 1 (l.map cF))),(15,.d (dI l.length)),(16,.d (dI i))]) (fun i=>i≤l.length∧fE (fun i=>a6 rt.length (l.getD i [])) (l.length-i) i=E) (fun i=>l.length-i) 0 rfl ⟨Nat.zero_le _,hE⟩ (fun i ⟨hi,hiE⟩=>?_);refine qX 1 rfl ?_;refine qI ?_;refine AW.cond rfl (fun h=>?_) (fun h=>?_);rotate_left
 · have hii: ¬i<l.length:=by have:=of_decide_eq_false h;omega
   rw[iC hii] at hiE;subst hiE;refine AW.exit ?_;refine qX 1 rfl ?_;exact qN rfl
 have hii:i<l.length:=by have:=of_decide_eq_true h;omega
 have hg:(l.map cF)[i]?=some (cF (l.getD i [])):=by simp[hii]
 have hmiss:=fun h0:a6 rt.length (l.getD i [])=0=>(fA (f:=fun i=>a6 rt.length (l.getD i [])) hii h0).symm.trans hiE;have hhit:=fun h0:a6 rt.length (l.getD i [])≠0=>(iB (f:=fun i=>a6 rt.length (l.getD i [])) hii h0).symm.trans hiE;have cn:=j8 (rt.map cF) (l.getD i []) (fun h=>hlw i hii (by rw[List.length_map] at h;exact h)) hm (hl3 i hii) (by rw[List.length_map];omega);rw[List.length_map] at cn;refine AW.skip (AW.seq (AW.block (AW.seq (AW.region ?_))));refine ab.idx tok (cF (l.getD i [])) rfl rfl rfl rfl (Int.natCast_nonneg i) hg ?_;refine qU 2 rfl ?_;refine qK 2 rfl ?_;refine ab.call tok rfl rfl rfl rfl cn ?_;refine qU 1 rfl ?_;refine ab.nil ?_;generalize a6 rt.length (l.getD i [])=v at hmiss hhit;rcases v with _ | z
 rotate_left
 · have:=hhit (Nat.succ_ne_zero z);subst this;refine qX 1 rfl ?_;refine ab.err tok rfl rfl rfl rfl rfl ?_;refine ab.nil ?_;refine AW.aF rfl ?_;refine qX 2 rfl ?_;exact qN rfl
 refine qX 1 rfl ?_;refine ab.err tok rfl rfl rfl rfl rfl ?_;refine ab.nil ?_;refine AW.au rfl ?_;refine AW.skip ?_;refine qT 1 rfl ?_;rw[aC (x:=(i:Int)+1) (by omega) (by omega)];refine qU 1 rfl ?_;refine ab.nil ?_;exact⟨i+1,rfl,⟨hii,hmiss rfl⟩,by omega⟩
theorem jD{rt:List (List RD)}(h:ck rt=0):rt.length≤5∧ ∀j,j<rt.length→sF rt j=0:=by
 unfold ck at h;split at h
 · cases h
 rename_i h1
 have key: ∀(m i:Nat),fE (sF rt) m i=0→ ∀j,i≤j→j<i+m→sF rt j=0:=by
  intro m
  induction m with
  | zero=>intro i _ j h1 h2;omega
  | succ m ih =>
    intro i h j h1 h2;rw[fE] at h;split at h
    · rename_i h0;by_cases e:j=i
      · rw[e];exact h0
      · exact ih (i+1) h j (by omega) (by omega)
    · rename_i h0;exact absurd h h0
 exact⟨by omega,fun j hj=>key _ _ h j (Nat.zero_le _) (by omega)⟩
def Ay(rt:List (List RD))(a:List RD):D:=if nS rt [a]≠0 then .tu [dI 0,x8 (nS rt [a])] else .tu [dI (dw rt.length (rt.map bm) (bm a)),ao]
theorem Dj{rt:List (List RD)}{a:List RD}(h:nS rt [a]=0):ck rt=0∧a6 rt.length a=0:=by
 unfold nS at h;split at h
 · rename_i h0;exact absurd h h0
 rename_i h0;refine⟨by omega,?_⟩;have e:fE (fun i=>a6 rt.length ([a].getD i [])) ([a].length-0) 0=if a6 rt.length a=0 then 0 else a6 rt.length a:=rfl
 rw[e] at h;split at h
 · assumption
 · rename_i h1;exact absurd h h1
theorem sH(rt:List (List RD))(a:List RD){m:Nat}(hw: ∀i,i<rt.length→(rt.getD i []).length=2^i→wN m (rt.getD i []))(h1:1≤m)(hl:rt.length≤1000000)(hll: ∀i,i<rt.length→(rt.getD i []).length≤4398046511104)(hok:rt.length≤5→ny rt.length m)
  (haw:yp rt.length a→wN m a) (hal:a.length≤4398046511104) (hm:m≤17300000000000):Pure Tryz.prog 29 [TrD rt,cF a] (Ay rt a):=by
 refine qJ 17 Tryz.func29 rfl rfl rfl rfl (by kernel_rfl) (fun B F0 w0=>?_)
 have h0: ∀i,i<[a].length→i=0:=fun i hi=>by
  have:i<1:=hi;omega
 have cc:=kc rt [a] hw h1 hl hll hok (fun i hi=>by rw[h0 i hi];exact haw) (show 1≤1000000 by decide) (fun i hi=>by rw[h0 i hi];exact hal) hm;unfold Ay;refine qX 3 rfl ?_;refine qI ?_;refine qX 2 rfl ?_;refine ab.e7 tok rfl rfl rfl rfl rfl ?_;refine ab.call tok rfl rfl rfl rfl cc ?_;refine qU 1 rfl ?_;refine ab.nil ?_;rcases e2:nS rt [a] with _ | z
 rotate_left
 · rw[if_pos (Nat.succ_ne_zero z)];refine qX 1 rfl ?_;refine ab.err tok rfl rfl rfl rfl rfl ?_;refine ab.nil ?_;refine AW.aF rfl ?_;refine qX 3 rfl ?_;exact qN rfl
 rw[if_neg (by simp)];obtain ⟨k1,k2⟩:=Dj e2;obtain ⟨k3,k4⟩:=jD k1;obtain ⟨n1,n2⟩:=nC k2;have vo:=jM (k:=rt.length) (Nat.le_refl _) k4;have vl:=eH (rt:=rt) (k:=rt.length) (Nat.le_refl _);have vs:=p7 (k:=rt.length) (fun j hj=>hw j hj (fM (k4 j hj)).1) h1 (Nat.le_refl _);have vc:=mz (k:=rt.length) (fun j hj=>hw j hj (fM (k4 j hj)).1) (Nat.le_refl _) (fun j hj=>(fM (k4 j hj)).2.1);rw[List.take_length] at vo vl vs vc;have cs:=l7 rt.length (k:=m) n1 k3 vo (by rw[vl];exact Nat.le_refl _) (by rw[vl];omega) (kE (haw (uP k2)) h1) vs (hok k3);rw[show bC (rt.map bm)= .ag [.sl 1 (rt.map cF)] from by rw[vc],← jr (haw (uP k2)) n2] at cs;refine qX 1 rfl ?_;refine ab.err tok rfl rfl rfl rfl rfl ?_;refine ab.nil ?_;refine AW.au rfl ?_;refine AW.skip ?_;refine qX 2 rfl ?_;refine ab.call tok rfl rfl rfl rfl cs ?_;refine qU 2 rfl ?_;exact qN rfl
end Lift
namespace Lift
open Go Go.Proofs
structure Ds (m:Nat) (rt:List (List RD)):Prop where
 t: ∃m0,1≤m0∧m0≤m∧(∀i,i<rt.length→(rt.getD i []).length=2^i→wN m0 (rt.getD i []))∧(rt.length≤5→ny rt.length m0)
 m2:m≤1000000
 l:rt.length≤1000000
 ll: ∀i,i<rt.length→(rt.getD i []).length≤4398046511104
structure yq (m:Nat) (rt:List (List RD)) (a:List RD):Prop where
 w:yp rt.length a→wN m a
 l:a.length≤4398046511104
structure Gs (m:Nat) (rt:List (List RD)) (v:List NQ):Prop where
 l5:rt.length≤5
 ln:v.length=rt.length
 ro:cD v
 sz:ed m v
 t: ∃m0,1≤m0∧m0≤m∧ed m0 v∧ny rt.length m0
 ps: ∀k,k<v.length→ ¬dw k (v.take k) (v.getD k [])<0
 eq:TrD rt=bC v
theorem Dw{m:Nat}{rt:List (List RD)}(T:Ds m rt)(h:ck rt=0):Gs m rt (rt.map bm):=by
 obtain ⟨k3,k4⟩:=jD h;have vo:=jM (k:=rt.length) (Nat.le_refl _) k4;have vl:=eH (rt:=rt) (k:=rt.length) (Nat.le_refl _);obtain ⟨m0,t1,t2,tw,tk⟩:=T.t;have hw:=fun j hj=>tw j hj (fM (k4 j hj)).1;have vs:=p7 (k:=rt.length) hw t1 (Nat.le_refl _);have vc:=mz (k:=rt.length) hw (Nat.le_refl _) (fun j hj=>(fM (k4 j hj)).2.1);rw[List.take_length] at vo vl vs vc;refine⟨k3,vl,vo,vs.mono t2,⟨m0,t1,t2,vs,tk k3⟩,fun k hk=>?_,by show D.ag [.sl 1 (rt.map cF)]=_;rw[vc]⟩;rw[vl] at hk;have:=(fM (k4 k hk)).2.2
 have e:(rt.map bm).getD k []=bm (rt.getD k []):=by
  rw[List.getD_eq_getElem?_getD,List.getElem?_map,List.getD_eq_getElem?_getD,List.getElem?_eq_getElem hk];rfl
 rw[e,← List.map_take];exact this
theorem Bb{m:Nat}{rt:List (List RD)}{a:List RD}(m1:1≤m)(A:yq m rt a)(h:a6 rt.length a=0):aq rt.length (bm a)∧ar m (bm a)∧cF a=af (bm a):=by
 obtain ⟨n1,n2⟩:=nC h;have w:=A.w (uP h);exact⟨n1,kE w m1,jr w n2⟩
def Fj(q:Rat):NQ:=if q=0 then [] else [q]
theorem zH(q:Rat):ay [q]=Fj q:=by
 show (if 1=0 then [] else fL (Nat.log2 1) [q])=_;rw[if_neg (by decide),show Nat.log2 1=0 by decide];unfold fL Fj;show (if a9 [q]=true then [] else [q])=_;have:a9 [q]=decide (q=0):=by unfold a9;simp
 rw[this];by_cases h:q=0
 · rw[decide_eq_true h,if_pos rfl,if_pos h]
 · rw[decide_eq_false h,if_neg (by simp),if_neg h]
theorem pe(r:RD){k:Nat}(hr:r.w k)(h1:1≤k)(hk:k≤1000000)(ho:r.okB=true):Pure Tryz.prog 87 [r.D] (af (Fj r.val)):=by
 refine qJ 8 Tryz.func87 rfl rfl rfl rfl (by kernel_rfl) (fun B0 F0 w0=>?_);have c1:=kj r (Qr 0) (k:=k) hr (jH _ (by rw[nX];exact h1)) (by omega);have z:=eG hr h1;rw[cX,Rat.add_zero] at c1;have c2:=bK [r.val] (l:=0) (k:=k) (gT 0 _) (by decide) (hZ z) (by omega);rw[zH] at c2;have hz:(Qr 0).D= .ag [dB false,.sl 1 [],.sl 1 []]:=by rw[iY];rfl
 rw[hz] at c1;refine qX 2 rfl ?_;refine qK 2 rfl ?_;refine ab.call tok rfl rfl rfl rfl c1 ?_;refine ab.e7 tok rfl rfl rfl rfl rfl ?_;refine ab.call tok rfl rfl rfl rfl c2 ?_;refine qU 1 rfl ?_;exact qN rfl
end Lift
namespace Lift
abbrev Cf:=Nat→Rat
def cf(a:NQ):Cf:=fun i=>a.getD i 0
def bz(l:Nat)(a:Cf):Cf:=fun i=>a (2^l+i)
def mulC(rt:List NQ):Nat→Cf→Cf→Cf
 | 0,a,b=>fun i=>if i=0 then a 0*b 0 else 0
 | l+1,a,b=>fun i=>if i<2^l then mulC rt l a b i+mulC rt l (mulC rt l (bz l a) (bz l b)) (cf (rt.getD l [])) i else mulC rt l a (bz l b) (i-2^l)+mulC rt l (bz l a) b (i-2^l)
def cG(l:Nat)(a:Cf):Prop:= ∀i,2^l≤i→a i=0
def iJ(l:Nat)(a b:Cf):Prop:= ∀i,i<2^l→a i=b i
theorem a7(rt:List NQ): ∀(l:Nat) (a b:Cf),cG l (mulC rt l a b)
 | 0,a,b=>fun i hi=>by
   have:i≠0:=by have:1≤i:=hi;omega
   show (if i=0 then _ else (0:Rat))=0;rw[if_neg this]
 | l+1,a,b=>fun i hi=>by
   rw[Nat.pow_succ] at hi;have hp:0<2^l:=Nat.pow_pos (by decide);show (if i<2^l then _ else _)=(0:Rat);rw[if_neg (by omega),a7 rt l _ _ _ (by omega),a7 rt l _ _ _ (by omega),Rat.add_zero]
theorem iJ.down{l:Nat}{a b:Cf}(h:iJ (l+1) a b):iJ l a b:=fun i hi=>h i (by rw[Nat.pow_succ];omega)
theorem iJ.hi{l:Nat}{a b:Cf}(h:iJ (l+1) a b):iJ l (bz l a) (bz l b):=fun i hi=>h _ (by rw[Nat.pow_succ];omega)
theorem iJ.pP{l:Nat}{a:Cf}:iJ l a a:=fun _ _=>rfl
theorem iJ.full{l:Nat}{a b:Cf}(h:iJ l a b)(ha:cG l a)(hb:cG l b):a=b:=funext fun i=>by
 by_cases hi:i<2^l
 · exact h i hi
 · rw[ha i (by omega),hb i (by omega)]
theorem bt(rt:List NQ): ∀(l:Nat) {a b a' b':Cf},iJ l a a'→iJ l b b'→mulC rt l a b=mulC rt l a' b'
 | 0,a,b,a',b',h1,h2=>funext fun i=>by
   show (if i=0 then a 0*b 0 else 0)=(if i=0 then a' 0*b' 0 else 0);rw[h1 0 (by decide),h2 0 (by decide)]
 | l+1,a,b,a',b',h1,h2=>funext fun i=>by
   show (if i<2^l then mulC rt l a b i+mulC rt l (mulC rt l (bz l a) (bz l b)) (cf (rt.getD l [])) i else mulC rt l a (bz l b) (i-2^l)+mulC rt l (bz l a) b (i-2^l))=(if i<2^l then mulC rt l a' b' i+mulC rt l (mulC rt l (bz l a') (bz l b')) (cf (rt.getD l [])) i else mulC rt l a' (bz l b') (i-2^l)+mulC rt l (bz l a') b' (i-2^l));rw[bt rt l h1.down h2.down,bt rt l h1.hi h2.hi,bt rt l h1.down h2.hi,bt rt l h1.hi h2.down]
def zC:Cf:=fun _=>0
theorem bP(rt:List NQ): ∀(l:Nat) {a b:Cf},iJ l a zC∨iJ l b zC→mulC rt l a b=zC
 | 0,a,b,h=>funext fun i=>by
   show (if i=0 then a 0*b 0 else 0)=0;split
   · rcases h with h | h
     · rw[h 0 (by decide)];exact Rat.zero_mul _
     · rw[h 0 (by decide)];exact Rat.mul_zero _
   · rfl
 | l+1,a,b,h=>funext fun i=>by
   have hz:iJ l zC zC:=iJ.pP;have r1:mulC rt l a b=zC:=bP rt l (h.imp iJ.down iJ.down);have r2:mulC rt l (bz l a) (bz l b)=zC:=bP rt l (h.imp iJ.hi iJ.hi);have r3:mulC rt l a (bz l b)=zC:=bP rt l (h.imp iJ.down iJ.hi);have r4:mulC rt l (bz l a) b=zC:=bP rt l (h.imp iJ.hi iJ.down);have r5:mulC rt l zC (cf (rt.getD l []))=zC:=bP rt l (.inl hz);show (if i<2^l then mulC rt l a b i+mulC rt l (mulC rt l (bz l a) (bz l b)) (cf (rt.getD l [])) i else mulC rt l a (bz l b) (i-2^l)+mulC rt l (bz l a) b (i-2^l))=0;rw[r2,r1,r3,r4,r5];show (if i<2^l then (0:Rat)+0 else 0+0)=0;split<;>exact Rat.add_zero 0
theorem gY(rt:List NQ): ∀(l:Nat) (a b:Cf),mulC rt l a b=mulC rt l b a
 | 0,a,b=>funext fun i=>by
   show (if i=0 then a 0*b 0 else 0)=(if i=0 then b 0*a 0 else 0);rw[Rat.mul_comm]
 | l+1,a,b=>funext fun i=>by
   show (if i<2^l then mulC rt l a b i+mulC rt l (mulC rt l (bz l a) (bz l b)) (cf (rt.getD l [])) i else mulC rt l a (bz l b) (i-2^l)+mulC rt l (bz l a) b (i-2^l))=(if i<2^l then mulC rt l b a i+mulC rt l (mulC rt l (bz l b) (bz l a)) (cf (rt.getD l [])) i else mulC rt l b (bz l a) (i-2^l)+mulC rt l (bz l b) a (i-2^l));rw[gY rt l a b,gY rt l (bz l a) (bz l b),gY rt l a (bz l b),gY rt l (bz l a) b,Rat.add_comm (mulC rt l (bz l b) a _)]
theorem cG.mono{l m:Nat}{a:Cf}(h:cG l a)(hl:l≤m):cG m a:=fun i hi=>h i (Nat.le_trans (Nat.pow_le_pow_right (by decide) hl) hi)
theorem cG.wE{l:Nat}{a:Cf}(h:cG l a):bz l a=zC:=funext fun i=>h _ (by omega)
theorem cy(rt:List NQ){j:Nat}{a b:Cf}(ha:cG j a)(hb:cG j b): ∀{l:Nat},j≤l→mulC rt l a b=mulC rt j a b:=fun {l} h=>by
 obtain ⟨d,rfl⟩: ∃d,l=j+d:=⟨l-j,by omega⟩;clear h
 induction d with
 | zero=>rfl
 | succ d ih =>
   have ha':cG (j+d) a:=ha.mono (by omega);have hb':cG (j+d) b:=hb.mono (by omega);have hz:iJ (j+d) zC zC:=iJ.pP;rw[← ih];funext i;show (if i<2^(j+d) then mulC rt (j+d) a b i+mulC rt (j+d) (mulC rt (j+d) (bz (j+d) a) (bz (j+d) b)) (cf (rt.getD (j+d) [])) i else mulC rt (j+d) a (bz (j+d) b) (i-2^(j+d))+mulC rt (j+d) (bz (j+d) a) b (i-2^(j+d)))=_;rw[ha'.wE,hb'.wE,bP rt (j+d) (a:=zC) (b:=zC) (.inl hz),bP rt (j+d) (a:=zC) (.inl hz),bP rt (j+d) (b:=zC) (.inr hz),bP rt (j+d) (a:=zC) (.inl hz)];by_cases hi:i<2^(j+d)
   · rw[if_pos hi];exact Rat.add_zero _
   · rw[if_neg hi,a7 rt (j+d) a b i (by omega)];exact Rat.add_zero _
theorem aN{l:Nat}{a:NQ}(h:a.length≤2^l):cG l (cf a):=fun i hi=>fx (by omega)
theorem ez(a b:NQ)(i:Nat):cf (aJ a b) i=cf a i+cf b i:=lG a b i
theorem jE(a:NQ)(i:Nat):cf (aL a) i= -cf a i:=mJ a i
theorem qn{a:NQ}(h:a9 a=true):cf a=zC:=funext fun i=>by
 unfold a9 at h;rw[List.all_eq_true] at h;by_cases hi:i<a.length
 · have:=of_decide_eq_true (h a[i] (List.getElem_mem hi));show a.getD i 0=0;rw[List.getD_eq_getElem?_getD,List.getElem?_eq_getElem hi];exact this
 · exact fx (by omega)
theorem Dm{j:Nat}{p q:NQ}(n:Nat)(hn:n=2^j)(hq:q.length≤2^j)(i:Nat):cf (de p q n) i=if i<2^j then cf p i else cf q (i-2^j):=by
 show (de p q n).getD i 0=_;rw[lK,hn];by_cases h:i<2^j
 · rw[if_pos h,if_pos h];rfl
 · rw[if_neg h,if_neg h];by_cases h2:i<2^j+2^j
   · rw[if_pos h2];rfl
   · rw[if_neg h2];exact(fx (by omega)).symm
theorem dN{j:Nat}{a:NQ}(n:Nat)(hn:n=2^j):iJ j (cf (a.take n)) (cf a):=fun i hi=>by
 show (a.take n).getD i 0=a.getD i 0;rw[j0,if_pos (by omega)]
theorem gO{j:Nat}{a:NQ}(n:Nat)(hn:n=2^j):cf (a.drop n)=bz j (cf a):=funext fun i=>by
 show (a.drop n).getD i 0=a.getD (2^j+i) 0;rw[qm,hn]
theorem uT{l:Nat}{R:NQ→NQ→NQ}{rt:List NQ}{a b:NQ}(ha:aq l a)(hb:aq l b)(hab:b.length≤a.length)(hrt:cD rt)(hl:l≤rt.length)
  (hR: ∀l',l=l'+1→ ∀a' b',aq l' a'→aq l' b'→aq l' (R a' b')∧cf (R a' b')=mulC rt l' (cf a') (cf b')):cf (gw R rt a b)=mulC rt l (cf a) (cf b):=by
 unfold gw;by_cases h0:(a9 a||a9 b)=true
 · rw[if_pos h0];have:cf ([]:NQ)=zC:=rfl;rw[this,bP];rw[Bool.or_eq_true] at h0;rcases h0 with h | h
   · left;rw[qn h];exact iJ.pP
   · right;rw[qn h];exact iJ.pP
 rw[if_neg h0];have hz:=fun z:a9 a=true=>h0 (by rw[z];rfl);have hz2:=fun z:a9 b=true=>h0 (by rw[z,Bool.or_true]);by_cases h1:a.length=1
 · rw[if_pos h1];have lb:b.length≤1:=by omega
   rw[cy rt (j:=0) (aN (by rw[h1];exact Nat.le_refl _)) (aN lb) (Nat.zero_le _)];funext i;show [a.getD 0 0*b.getD 0 0].getD i 0=if i=0 then a.getD 0 0*b.getD 0 0 else 0
   cases i with
   | zero=>rfl
   | succ i=>rw[if_neg (by omega)];rfl
 rw[if_neg h1]
 obtain ⟨i,hi,hla⟩: ∃i,i≤l∧a.length=2^i:=by
  rcases ha with e | e
  · exact absurd (by rw[List.length_eq_zero_iff.1 e];rfl) hz
  · exact e
 have wE:i≠0:=fun e=>h1 (by rw[hla,e]);obtain ⟨j,rfl⟩: ∃j,i=j+1:=⟨i-1,by omega⟩;obtain ⟨l',rfl⟩: ∃l',l=l'+1:=⟨l-1,by omega⟩;have hj:j≤l':=by omega
 have hR:=fun a' b' h1 h2=>hR l' rfl a' b' h1 h2;obtain ⟨e1,e2,e3⟩:=bh hla;have hx:aq l' (a.take (a.length / 2)):= .inr ⟨j,hj,e1⟩;have hy:aq l' (a.drop (a.length / 2)):= .inr ⟨j,hj,e2⟩;have la:cG (j+1) (cf a):=aN (by omega);have lb:cG (j+1) (cf b):=aN (by omega);rw[cy rt la lb hi]
 have low: ∀{p q:NQ},p.length≤2^j→q.length≤2^j→aq l' p→aq l' q→cf (R p q)=mulC rt j (cf p) (cf q):=fun {p q} hp hq h1 h2=>by
  rw[(hR p q h1 h2).2,cy rt (aN hp) (aN hq) hj]
 have lenR: ∀{p q:NQ},p.length≤2^j→q.length≤2^j→aq l' p→aq l' q→cG j (cf (R p q)):=fun {p q} hp hq h1 h2=>by
  rw[low hp hq h1 h2];exact a7 rt j _ _
 have tk:=dN (a:=a) (a.length / 2) e3;have dr:=gO (a:=a) (a.length / 2) e3
 have cj: ∀{p q:NQ},cG j (cf q)→ ∀i,cf (de p q (a.length / 2)) i=if i<2^j then cf p i else cf q (i-2^j):=fun {p q} hq i=>by
  show (de p q (a.length / 2)).getD i 0=_;rw[lK,e3];by_cases h:i<2^j
  · rw[if_pos h,if_pos h];rfl
  · rw[if_neg h,if_neg h];by_cases h2:i<2^j+2^j
    · rw[if_pos h2];rfl
    · rw[if_neg h2,hq _ (by omega)]
 by_cases h3:b.length≤a.length / 2
 · rw[if_pos h3]
   have hb':aq l' b:=by
    rcases hb with e | ⟨i',_,e⟩
    · exact .inl e
    · refine .inr ⟨i',?_,e⟩;rw[e3,e] at h3;have:=(Nat.pow_le_pow_iff_right (a:=2) (by decide)).1 h3;omega
   rw[e3] at h3;have lbj:cG j (cf b):=aN h3;funext i;rw[cj (lenR (by omega) h3 hy hb'),low (by omega) h3 hx hb',low (by omega) h3 hy hb',dr,bt rt j tk iJ.pP];show _=if i<2^j then mulC rt j (cf a) (cf b) i+mulC rt j (mulC rt j (bz j (cf a)) (bz j (cf b))) (cf (rt.getD j [])) i else mulC rt j (cf a) (bz j (cf b)) (i-2^j)+mulC rt j (bz j (cf a)) (cf b) (i-2^j)
   have hzz:iJ j zC zC:=iJ.pP;rw[lbj.wE,bP rt j (b:=zC) (.inr hzz),bP rt j (b:=zC) (.inr hzz),bP rt j (a:=zC) (.inl hzz)];by_cases h:i<2^j
   · rw[if_pos h,if_pos h];exact(Rat.add_zero _).symm
   · rw[if_neg h,if_neg h];exact(Rat.zero_add _).symm
 rw[if_neg h3]
 have hlb:b.length=2^(j+1):=by
  rcases hb with e | ⟨i',_,e⟩
  · exact absurd (by rw[List.length_eq_zero_iff.1 e];rfl) hz2
  · rw[e] at h3 hab ⊢;rw[hla] at hab;rw[e3] at h3;have h4:=(Nat.pow_le_pow_iff_right (a:=2) (by decide)).1 hab;have h5: ¬i'≤j:=fun h=>h3 ((Nat.pow_le_pow_iff_right (a:=2) (by decide)).2 h);rw[show i'=j+1 by omega]
 obtain ⟨f1,f2,f3⟩:=bh hlb;rw[show b.length / 2=a.length / 2 by rw[f3,e3]] at f1 f2;have hu:aq l' (b.take (a.length / 2)):= .inr ⟨j,hj,f1⟩;have hv:aq l' (b.drop (a.length / 2)):= .inr ⟨j,hj,f2⟩;have tkb:=dN (a:=b) (a.length / 2) e3;have drb:=gO (a:=b) (a.length / 2) e3;have hlog:a.length.log2-1=j:=by rw[hla,Nat.log2_two_pow];omega
 rw[hlog];have hdl:(rt.getD j []).length=2^j:=hrt j (by omega);have hd:aq l' (rt.getD j []):= .inr ⟨j,hj,hdl⟩;have Ryv:=hR _ _ hy hv;have lyv:cG j (cf (R (a.drop (a.length / 2)) (b.drop (a.length / 2)))):=lenR (by omega) (by omega) hy hv;have c1:=low (p:=a.take (a.length / 2)) (q:=b.take (a.length / 2)) (by omega) (by omega) hx hu;have c2:=low (p:=a.drop (a.length / 2)) (q:=b.drop (a.length / 2)) (by omega) (by omega) hy hv;have c3:=low (p:=a.take (a.length / 2)) (q:=b.drop (a.length / 2)) (by omega) (by omega) hx hv;have c4:=low (p:=a.drop (a.length / 2)) (q:=b.take (a.length / 2)) (by omega) (by omega) hy hu
 have c5:cf (R (R (a.drop (a.length / 2)) (b.drop (a.length / 2))) (rt.getD j []))=mulC rt j (cf (R (a.drop (a.length / 2)) (b.drop (a.length / 2)))) (cf (rt.getD j [])):=by
  rw[(hR _ _ Ryv.1 hd).2,cy rt lyv (aN (by omega)) hj]
 have lq:cG j (cf (aJ (R (a.take (a.length / 2)) (b.drop (a.length / 2))) (R (a.drop (a.length / 2)) (b.take (a.length / 2))))):=fun i hi=>by
  rw[ez,c3,c4,a7 rt j _ _ i hi,a7 rt j _ _ i hi];exact Rat.add_zero _
 funext i;rw[cj lq,ez,ez,c1,c5,c2,c3,c4,dr,drb,bt rt j tk tkb,bt rt j tk iJ.pP,bt rt j iJ.pP tkb];rfl
theorem ga: ∀(l:Nat) {rt:List NQ} {a b:NQ},aq l a→aq l b→cD rt→l≤rt.length→aq l (aR l rt a b)∧cf (aR l rt a b)=mulC rt l (cf a) (cf b)
 | 0,rt,a,b,ha,hb,hrt,hl=>by
   have key: ∀{a b:NQ},aq 0 a→aq 0 b→b.length≤a.length→aq 0 (gw (fun _ _=>[]) rt a b)∧cf (gw (fun _ _=>[]) rt a b)=mulC rt 0 (cf a) (cf b):=fun {a b} ha hb hab =>
    ⟨by
     unfold gw;split
     · exact bd _
     split
     · exact gT _ _
     · rename_i h0 h1;have:a.length≤1:=ha.le;have:a=[]:=List.length_eq_zero_iff.1 (by omega);subst this
       exact absurd rfl h0,uT ha hb hab hrt hl (fun l' h=>by omega)⟩
   show aq 0 (iG (gw (fun _ _=>[]) rt) a b)∧cf (iG (gw (fun _ _=>[]) rt) a b)=_;unfold iG;split
   · have:=key hb ha (by omega);exact⟨this.1,by rw[this.2,gY]⟩
   · exact key ha hb (by omega)
 | l+1,rt,a,b,ha,hb,hrt,hl=>by
   have ih: ∀l',l+1=l'+1→ ∀a' b',aq l' a'→aq l' b'→aq l' (aR l rt a' b')∧cf (aR l rt a' b')=mulC rt l' (cf a') (cf b'):=fun l' e a' b' h1 h2=>by
    obtain rfl:l=l':=by omega
    exact ga l h1 h2 hrt (by omega)
   have lt:aq (l+1) (aR (l+1) rt a b):=by
    obtain ⟨K,hK⟩: ∃K,ar K a∧ar K b∧ed K rt:=tA a b rt;exact(dQ (l+1) ha hb hrt hl hK.1 hK.2.1 hK.2.2).1
   refine⟨lt,?_⟩;show cf (iG (gw (aR l rt) rt) a b)=_;unfold iG;split
   · rw[uT hb ha (by omega) hrt hl ih,gY]
   · exact uT ha hb (by omega) hrt hl ih
end Lift
namespace Lift
theorem AE:ji 0=0:=ib.2 rfl
theorem BQ: ∀{i:Nat} {a:NQ},cG i (cf a)→cf (fL i a)=cf a
 | 0,a,h=>by
   unfold fL;by_cases h0:a9 (a.take 1)=true
   · rw[if_pos h0];have z:=qn h0;funext c;show (0:Rat)=a.getD c 0;cases c with
     | zero =>
       have:(a.take 1).getD 0 0=0:=congrFun z 0;rw[j0,if_pos (by decide)] at this;exact this.symm
     | succ c=>exact(h (c+1) (by show 1≤c+1;omega)).symm
   · rw[if_neg h0];funext c;show (a.take 1).getD c 0=a.getD c 0;rw[j0];split
     · rfl
     · exact(h c (by show 1≤c;omega)).symm
 | i+1,a,h=>by
   unfold fL;have e:2^(i+1)=2^i*2:=Nat.pow_succ ..;by_cases h0:a9 ((a.take (2^(i+1))).drop (2^i))=true
   · rw[if_pos h0];refine BQ fun c hc=>?_;by_cases hc2:c<2^(i+1)
     · have:=congrFun (qn h0) (c-2^i);have:((a.take (2^(i+1))).drop (2^i)).getD (c-2^i) 0=0:=this;rw[qm,j0,if_pos (by omega),show 2^i+(c-2^i)=c by omega] at this;exact this
     · exact h c (by omega)
   · rw[if_neg h0];funext c;show (a.take (2^(i+1))).getD c 0=a.getD c 0;rw[j0];split
     · rfl
     · exact(h c (by omega)).symm
theorem bN{l:Nat}{a:NQ}(ha:aq l a):cf (ay a)=cf a:=by
 unfold ay;split
 · rename_i h;rw[List.length_eq_zero_iff.1 h]
 rename_i h0;rcases ha with e | ⟨i,hi,e⟩
 · exact absurd e h0
 rw[e,Nat.log2_two_pow];exact BQ (aN (by omega))
theorem bW{l:Nat}{a:NQ}(ha:aq l a):aq l (ay a):=by
 obtain ⟨K,hK⟩:=yB a;exact(aU ha hK).1
structure zm (a:NQ):Prop where
 one:a.length=1→a.getD 0 0≠0
 two: ∀i,a.length=2^(i+1)→ ¬cG i (cf a)
theorem tz:zm []:=⟨fun h=>absurd h (by decide),fun i h=>by
  have hp:0<2^(i+1):=Nat.pow_pos (by decide);have h:0=2^(i+1):=h
  omega⟩
theorem qs{a:NQ}(h:cf a=zC):a9 a=true:=by
 unfold a9;rw[List.all_eq_true];intro x hx;obtain ⟨i,hi,rfl⟩:=List.getElem_of_mem hx;have:=congrFun h i;have:a.getD i 0=0:=this;rw[List.getD_eq_getElem?_getD,List.getElem?_eq_getElem hi] at this;exact decide_eq_true this
theorem tv: ∀{i:Nat} {a:NQ},a.length=2^i∨2^i≤a.length→zm (fL i a)
 | 0,a,h=>by
   unfold fL;by_cases h0:a9 (a.take 1)=true
   · rw[if_pos h0];exact tz
   · rw[if_neg h0]
     have hl:(a.take 1).length=1:=by rw[List.length_take];have:1≤a.length:=by rcases h with h | h;(have h:a.length=1:=h;omega);exact h
                                     omega
     refine⟨fun _ e=>h0 (qs (funext fun c=>?_)),fun i h=>?_⟩
     · show (a.take 1).getD c 0=0;cases c with
       | zero=>exact e
       | succ c=>exact fx (by omega)
     · rw[hl,Nat.pow_succ] at h;omega
 | i+1,a,h=>by
   unfold fL;have e:2^(i+1)=2^i*2:=Nat.pow_succ ..;have hp:0<2^i:=Nat.pow_pos (by decide);by_cases h0:a9 ((a.take (2^(i+1))).drop (2^i))=true
   · rw[if_pos h0];exact tv (.inr (by omega))
   · rw[if_neg h0];have hl:(a.take (2^(i+1))).length=2^(i+1):=by rw[List.length_take];omega
     refine⟨fun h1=>?_,fun k hk hlow=>h0 (qs (funext fun c=>?_))⟩
     · rw[hl] at h1;omega
     · rw[hl] at hk
       have:k=i:=by
        have h1:=(Nat.pow_le_pow_iff_right (a:=2) (by decide)).1 (Nat.le_of_eq hk);have h2:=(Nat.pow_le_pow_iff_right (a:=2) (by decide)).1 (Nat.le_of_eq hk.symm);omega
       subst this;show ((a.take (2^(k+1))).drop (2^k)).getD c 0=0;rw[qm];exact hlow _ (by omega)
theorem kD{l:Nat}{a:NQ}(ha:aq l a):zm (ay a):=by
 unfold ay;split
 · exact tz
 rename_i h0;rcases ha with e | ⟨i,hi,e⟩
 · exact absurd e h0
 rw[e,Nat.log2_two_pow];exact tv (.inl e)
def bL(rt:List NQ)(l:Nat)(a:Cf):Cf:=fun i=>mulC rt l a a i-mulC rt l (mulC rt l (bz l a) (bz l a)) (cf (rt.getD l [])) i
def aT(rt:List NQ):Nat→Cf→Int
 | 0,a=>ji (a 0)
 | l+1,a=>if aT rt l (cf (rt.getD l []))=0 then aT rt l a else if aT rt l a=aT rt l (bz l a)∨aT rt l (bz l a)=0 then aT rt l a else
   if aT rt l a=0 then aT rt l (bz l a) else aT rt l a*aT rt l (bL rt l a)
theorem wj(rt:List NQ){l:Nat}{a b:Cf}(h:iJ (l+1) a b):bL rt l a=bL rt l b:=by
 unfold bL;rw[bt rt l h.down h.down,bt rt l h.hi h.hi]
theorem jQ(rt:List NQ): ∀(l:Nat) {a b:Cf},iJ l a b→aT rt l a=aT rt l b
 | 0,a,b,h=>by show ji (a 0)=ji (b 0);rw[h 0 (by decide)]
 | l+1,a,b,h=>by
   unfold aT;rw[jQ rt l h.down,jQ rt l h.hi,wj rt h]
theorem eU(rt:List NQ): ∀(l:Nat),aT rt l zC=0
 | 0=>by show ji 0=0;exact AE
 | l+1=>by
   have h:=eU rt l;have h2:aT rt l (bz l zC)=0:=h;unfold aT;rw[h,h2];split
   · rfl
   · rw[if_pos (Or.inl rfl)]
theorem bD(rt:List NQ){j:Nat}{a:Cf}(ha:cG j a): ∀{l:Nat},j≤l→aT rt l a=aT rt j a:=fun {l} h=>by
 obtain ⟨d,rfl⟩: ∃d,l=j+d:=⟨l-j,by omega⟩;clear h
 induction d with
 | zero=>rfl
 | succ d ih =>
   have ha':cG (j+d) a:=ha.mono (by omega);show (if aT rt (j+d) (cf (rt.getD (j+d) []))=0 then aT rt (j+d) a else if aT rt (j+d) a=aT rt (j+d) (bz (j+d) a)∨aT rt (j+d) (bz (j+d) a)=0 then aT rt (j+d) a else if aT rt (j+d) a=0 then aT rt (j+d) (bz (j+d) a) else aT rt (j+d) a*aT rt (j+d) (bL rt (j+d) a))=_;rw[ha'.wE,eU,ih];by_cases hd:aT rt (j+d) (cf (rt.getD (j+d) []))=0
   · rw[if_pos hd]
   · rw[if_neg hd,if_pos (Or.inr rfl)]
theorem qh{l j:Nat}{rt:List NQ}{a:NQ}(hj:j≤l)(ha:a.length=2^(j+1))(hrt:cD rt)(hl:l<rt.length):aq l (eA l rt a)∧cf (eA l rt a)=bL rt j (cf a):=by
 obtain ⟨K,hK⟩: ∃K,ar K a∧ar K a∧ed K rt:=tA a a rt;refine⟨(qf hj ha hrt hl hK.1 hK.2.2).1,?_⟩;obtain ⟨e1,e2,e3⟩:=bh ha;have hx:aq l (a.take (a.length / 2)):= .inr ⟨j,hj,e1⟩;have hy:aq l (a.drop (a.length / 2)):= .inr ⟨j,hj,e2⟩;have hlog:a.length.log2-1=j:=by rw[ha,Nat.log2_two_pow];omega
 have hdl:(rt.getD j []).length=2^j:=hrt j (by omega);have hd:aq l (rt.getD j []):= .inr ⟨j,hj,hdl⟩;have r1:=ga l hx hx hrt (by omega);have r2:=ga l hy hy hrt (by omega);have r3:=ga l r2.1 hd hrt (by omega);unfold eA bL;rw[hlog];funext i;rw[ez,jE,r1.2,r3.2,r2.2,cy rt (aN (by omega)) (aN (by omega)) hj,cy rt (aN (a:=a.drop (a.length / 2)) (by omega)) (aN (by omega)) hj,cy rt (a7 rt j _ _) (aN (by omega)) hj,gO _ e3,bt rt j (dN _ e3) (dN _ e3)];exact Rat.sub_eq_add_neg _ _ |>.symm
theorem fj: ∀(l:Nat) {rt:List NQ} {a:NQ},aq l a→cD rt→l≤rt.length→dw l rt a=aT rt l (cf a)
 | 0,rt,a,ha,hrt,hl=>by
   have hs:=bW ha;have hc:=bN ha;show sI (fun _=>0) (fun a=>a) rt (ay a)=ji (cf a 0);rw[← hc];generalize ay a=s at hs;unfold sI;rcases hs with e | ⟨i,hi,e⟩
   · rw[if_pos e,List.length_eq_zero_iff.1 e];show 0=ji 0;rw[AE]
   · obtain rfl:i=0:=by omega
     have e:s.length=1:=e;rw[if_neg (by omega),if_pos e];rfl
 | l+1,rt,a,ha,hrt,hl=>by
   have hs:=bW ha;have hc:=bN ha;show sI (dw l rt) (eA l rt) rt (ay a)=aT rt (l+1) (cf a);rw[← hc];generalize ay a=s at hs;clear hc ha;unfold sI;by_cases h0:s.length=0
   · rw[if_pos h0,List.length_eq_zero_iff.1 h0];exact(eU rt (l+1)).symm
   rw[if_neg h0];by_cases h1:s.length=1
   · rw[if_pos h1,bD rt (j:=0) (aN (by rw[h1];exact Nat.le_refl _)) (Nat.zero_le _)];rfl
   rw[if_neg h1]
   obtain ⟨j,hj,hsl⟩: ∃j,j≤l∧s.length=2^(j+1):=by
    rcases hs with e | ⟨i,hi,e⟩
    · exact absurd e h0
    · rcases i with _ | j
      · exact absurd e h1
      · exact⟨j,by omega,e⟩
   obtain ⟨e1,e2,e3⟩:=bh hsl;have hx:aq l (s.take (s.length / 2)):= .inr ⟨j,hj,e1⟩;have hy:aq l (s.drop (s.length / 2)):= .inr ⟨j,hj,e2⟩;have hlog:s.length.log2-1=j:=by rw[hsl,Nat.log2_two_pow];omega
   have hdl:(rt.getD j []).length=2^j:=hrt j (by omega);have hd:aq l (rt.getD j []):= .inr ⟨j,hj,hdl⟩;have hn:=qh hj hsl hrt (by omega)
   have lowN:cG j (bL rt j (cf s)):=fun i hi=>by
    unfold bL;rw[a7 rt j _ _ i hi,a7 rt j _ _ i hi];exact Rat.sub_self
   rw[hlog,fj l hd hrt (by omega),fj l hx hrt (by omega),fj l hy hrt (by omega),fj l hn.1 hrt (by omega),hn.2,gO _ e3,
    bD rt (aN (a:=rt.getD j []) (by omega)) hj,bD rt (aN (a:=s.take (s.length / 2)) (by omega)) hj,bD rt lowN hj,jQ rt j (dN _ e3)]
   have lh:cG j (bz j (cf s)):=fun i hi=>(aN (l:=j+1) (by omega)) _ (by rw[Nat.pow_succ];omega);rw[bD rt lh hj,bD rt (a:=cf s) (j:=j+1) (l:=l+1) (aN (by omega)) (by omega)];rfl
end Lift
namespace Lift
def iO(R:NQ→NQ→NQ)(rt:List NQ)(a b:NQ):NQ :=
 if a.length=0∨b.length=0 then [] else if max a.length b.length=1 then [a.getD 0 0*b.getD 0 0] else
 de (aJ (R ((aW a (max a.length b.length)).take (max a.length b.length / 2)) ((aW b (max a.length b.length)).take (max a.length b.length / 2)))
   (R (R ((aW a (max a.length b.length)).drop (max a.length b.length / 2)) ((aW b (max a.length b.length)).drop (max a.length b.length / 2))) (rt.getD ((max a.length b.length).log2-1) [])))
  (aJ (R ((aW a (max a.length b.length)).take (max a.length b.length / 2)) ((aW b (max a.length b.length)).drop (max a.length b.length / 2)))
   (R ((aW a (max a.length b.length)).drop (max a.length b.length / 2)) ((aW b (max a.length b.length)).take (max a.length b.length / 2)))) (max a.length b.length / 2)
def eK:Nat→List NQ→NQ→NQ→NQ
 | 0,rt,a,b=>iO (fun _ _=>[]) rt (ay a) (ay b)
 | l+1,rt,a,b=>iO (eK l rt) rt (ay a) (ay b)
theorem zj{l:Nat}{a:NQ}(n:Nat)(ha:a.length≤n):cf (aW a n)=cf a:=funext fun i=>by
 show (aW a n).getD i 0=a.getD i 0;rw[eT];split
 · rfl
 · exact(fx (by omega)).symm
theorem vR{l:Nat}{R:NQ→NQ→NQ}{rt:List NQ}{a b:NQ}(ha:aq l a)(hb:aq l b)(hrt:cD rt)(hl:l≤rt.length)
  (hR: ∀l',l=l'+1→ ∀a' b',aq l' a'→aq l' b'→aq l' (R a' b')∧cf (R a' b')=mulC rt l' (cf a') (cf b')):aq l (iO R rt a b)∧cf (iO R rt a b)=mulC rt l (cf a) (cf b):=by
 have cz: ∀{x:NQ},x.length=0→cf x=zC:=fun {x} h=>by rw[List.length_eq_zero_iff.1 h];rfl
 unfold iO;by_cases h0:a.length=0∨b.length=0
 · rw[if_pos h0];refine⟨bd _,?_⟩;rw[bP rt l (h0.imp (fun h=>by rw[cz h];exact iJ.pP) (fun h=>by rw[cz h];exact iJ.pP))];rfl
 rw[if_neg h0];by_cases h1:max a.length b.length=1
 · rw[if_pos h1];refine⟨gT _ _,?_⟩;rw[cy rt (j:=0) (aN (show a.length≤1 by omega)) (aN (show b.length≤1 by omega)) (Nat.zero_le _)];funext i;show [a.getD 0 0*b.getD 0 0].getD i 0=if i=0 then a.getD 0 0*b.getD 0 0 else 0
   cases i with
   | zero=>rfl
   | succ i=>rw[if_neg (by omega)];rfl
 rw[if_neg h1]
 obtain ⟨i,hi,hn⟩: ∃i,i≤l∧max a.length b.length=2^i:=by
  rcases ha with e | ⟨i,hi,e⟩
  · exact absurd (.inl e) h0
  rcases hb with e2 | ⟨k,hk,e2⟩
  · exact absurd (.inr e2) h0
  by_cases h:a.length≤b.length
  · exact⟨k,hk,by rw[Nat.max_eq_right h,e2]⟩
  · exact⟨i,hi,by rw[Nat.max_eq_left (by omega),e]⟩
 have wE:i≠0:=fun e=>h1 (by rw[hn,e]);obtain ⟨j,rfl⟩: ∃j,i=j+1:=⟨i-1,by omega⟩;obtain ⟨l',rfl⟩: ∃l',l=l'+1:=⟨l-1,by omega⟩;have hj:j≤l':=by omega
 have hR:=fun a' b' h1 h2=>hR l' rfl a' b' h1 h2;have ca:=zj (l:=l') (max a.length b.length) (Nat.le_max_left a.length b.length);have cb:=zj (l:=l') (max a.length b.length) (Nat.le_max_right a.length b.length);have wa:=bc a (max a.length b.length);have wb:=bc b (max a.length b.length);rw[← ca,← cb];generalize aW a (max a.length b.length)=A at *;generalize aW b (max a.length b.length)=B at *;generalize max a.length b.length=n at *;subst hn;have e0:=jo j;have hlog:(2^(j+1)).log2-1=j:=by rw[Nat.log2_two_pow];omega
 rw[e0,hlog];obtain ⟨e1,e2,e3⟩:=bh wa;obtain ⟨f1,f2,f3⟩:=bh wb;rw[e3] at e1 e2;rw[f3] at f1 f2;have hx:aq l' (A.take (2^j)):= .inr ⟨j,hj,e1⟩;have hy:aq l' (A.drop (2^j)):= .inr ⟨j,hj,e2⟩;have hu:aq l' (B.take (2^j)):= .inr ⟨j,hj,f1⟩;have hv:aq l' (B.drop (2^j)):= .inr ⟨j,hj,f2⟩;have hdl:(rt.getD j []).length=2^j:=hrt j (by omega);have hd:aq l' (rt.getD j []):= .inr ⟨j,hj,hdl⟩
 have low: ∀{p q:NQ},p.length≤2^j→q.length≤2^j→aq l' p→aq l' q→cf (R p q)=mulC rt j (cf p) (cf q):=fun {p q} hp hq h1 h2=>by
  rw[(hR p q h1 h2).2,cy rt (aN hp) (aN hq) hj]
 have Ryv:=hR _ _ hy hv;have c2:=low (p:=A.drop (2^j)) (q:=B.drop (2^j)) (by omega) (by omega) hy hv;have lyv:cG j (cf (R (A.drop (2^j)) (B.drop (2^j)))):=by rw[c2];exact a7 rt j _ _
 have c1:=low (p:=A.take (2^j)) (q:=B.take (2^j)) (by omega) (by omega) hx hu;have c3:=low (p:=A.take (2^j)) (q:=B.drop (2^j)) (by omega) (by omega) hx hv;have c4:=low (p:=A.drop (2^j)) (q:=B.take (2^j)) (by omega) (by omega) hy hu
 have c5:cf (R (R (A.drop (2^j)) (B.drop (2^j))) (rt.getD j []))=mulC rt j (cf (R (A.drop (2^j)) (B.drop (2^j)))) (cf (rt.getD j [])):=by
  rw[(hR _ _ Ryv.1 hd).2,cy rt lyv (aN (by omega)) hj]
 refine⟨.inr ⟨j+1,by omega,by rw[dF,Nat.pow_succ];omega⟩,?_⟩;rw[cy rt (j:=j+1) (aN (by omega)) (aN (by omega)) (by omega)]
 have lq:cG j (cf (aJ (R (A.take (2^j)) (B.drop (2^j))) (R (A.drop (2^j)) (B.take (2^j))))):=fun i hi=>by
  rw[ez,c3,c4,a7 rt j _ _ i hi,a7 rt j _ _ i hi];exact Rat.add_zero _
 have cj: ∀{p q:NQ},cG j (cf q)→ ∀i,cf (de p q (2^j)) i=if i<2^j then cf p i else cf q (i-2^j):=fun {p q} hq i=>by
  show (de p q (2^j)).getD i 0=_;rw[lK];by_cases h:i<2^j
  · rw[if_pos h,if_pos h];rfl
  · rw[if_neg h,if_neg h];by_cases h2:i<2^j+2^j
    · rw[if_pos h2];rfl
    · rw[if_neg h2,hq _ (by omega)]
 funext i;rw[cj lq,ez,ez,c1,c5,c2,c3,c4,gO (a:=A) (2^j) rfl,gO (a:=B) (2^j) rfl,bt rt j (dN (a:=A) (2^j) rfl) (dN (a:=B) (2^j) rfl),bt rt j (dN (a:=A) (2^j) rfl) iJ.pP,bt rt j iJ.pP (dN (a:=B) (2^j) rfl)];rfl
theorem lE: ∀(l:Nat) {rt:List NQ} {a b:NQ},aq l a→aq l b→cD rt→l≤rt.length→aq l (eK l rt a b)∧cf (eK l rt a b)=mulC rt l (cf a) (cf b)
 | 0,rt,a,b,ha,hb,hrt,hl=>by
   have:=vR (R:=fun _ _=>[]) (bW ha) (bW hb) hrt hl (fun l' h=>by omega);rw[bN ha,bN hb] at this;exact this
 | l+1,rt,a,b,ha,hb,hrt,hl=>by
   have:=vR (R:=eK l rt) (bW ha) (bW hb) hrt hl (fun l' e a' b' h1 h2=>by
    obtain rfl:l=l':=by omega
    exact lE l h1 h2 hrt (by omega))
   rw[bN ha,bN hb] at this;exact this
def jb(l:Nat)(rt:List NQ)(a:NQ):NQ :=
 aJ (eK l rt (a.take (a.length / 2)) (a.take (a.length / 2))) (aL (eK l rt (eK l rt (a.drop (a.length / 2)) (a.drop (a.length / 2))) (rt.getD (a.length.log2-1) [])))
def l9(R:NQ→Int)(N:NQ→NQ)(rt:List NQ)(a:NQ):Int :=
 if a.length=0 then 0 else if a.length=1 then ji (a.getD 0 0) else
 if R (a.take (a.length / 2))=R (a.drop (a.length / 2))*R (rt.getD (a.length.log2-1) [])∨R (a.drop (a.length / 2))*R (rt.getD (a.length.log2-1) [])=0 then R (a.take (a.length / 2)) else
 if R (a.take (a.length / 2))=0 then R (a.drop (a.length / 2))*R (rt.getD (a.length.log2-1) []) else R (a.take (a.length / 2))*R (N a)
def oo:Nat→List NQ→NQ→Int
 | 0,rt,a=>l9 (fun _=>0) (fun a=>a) rt (ay a)
 | l+1,rt,a=>l9 (oo l rt) (jb l rt) rt (ay a)
def pH(rt:List NQ):Prop:= ∀j,j<rt.length→0≤aT rt j (cf (rt.getD j []))
theorem AL{l j:Nat}{rt:List NQ}{a:NQ}(hj:j≤l)(ha:a.length=2^(j+1))(hrt:cD rt)(hl:l<rt.length):aq l (jb l rt a)∧cf (jb l rt a)=bL rt j (cf a):=by
 obtain ⟨e1,e2,e3⟩:=bh ha;have hx:aq l (a.take (a.length / 2)):= .inr ⟨j,hj,e1⟩;have hy:aq l (a.drop (a.length / 2)):= .inr ⟨j,hj,e2⟩;have hlog:a.length.log2-1=j:=by rw[ha,Nat.log2_two_pow];omega
 have hdl:(rt.getD j []).length=2^j:=hrt j (by omega);have hd:aq l (rt.getD j []):= .inr ⟨j,hj,hdl⟩;have r1:=lE l hx hx hrt (by omega);have r2:=lE l hy hy hrt (by omega);have r3:=lE l r2.1 hd hrt (by omega);unfold jb;rw[hlog];refine⟨r1.1.plus r3.1.minus,?_⟩;unfold bL;funext i;rw[ez,jE,r1.2,r3.2,r2.2,cy rt (aN (by omega)) (aN (by omega)) hj,cy rt (aN (a:=a.drop (a.length / 2)) (by omega)) (aN (by omega)) hj,cy rt (a7 rt j _ _) (aN (by omega)) hj,gO _ e3,bt rt j (dN _ e3) (dN _ e3)];exact Rat.sub_eq_add_neg _ _ |>.symm
theorem jk(rt:List NQ): ∀(l:Nat) (a:Cf),tq (aT rt l a)
 | 0,a=>eV _
 | l+1,a=>by
   unfold aT;split
   · exact jk rt l _
   split
   · exact jk rt l _
   split
   · exact jk rt l _
   · exact jO (jk rt l _) (jk rt l _)
theorem jl: ∀(l:Nat) {rt:List NQ} {a:NQ},aq l a→cD rt→pH rt→l≤rt.length→oo l rt a=aT rt l (cf a)
 | 0,rt,a,ha,hrt,hp,hl=>by
   have hs:=bW ha;have hc:=bN ha;show l9 (fun _=>0) (fun a=>a) rt (ay a)=ji (cf a 0);rw[← hc];generalize ay a=s at hs;unfold l9;rcases hs with e | ⟨i,hi,e⟩
   · rw[if_pos e,List.length_eq_zero_iff.1 e];show 0=ji 0;rw[AE]
   · obtain rfl:i=0:=by omega
     have e:s.length=1:=e;rw[if_neg (by omega),if_pos e];rfl
 | l+1,rt,a,ha,hrt,hp,hl=>by
   have hs:=bW ha;have hc:=bN ha;show l9 (oo l rt) (jb l rt) rt (ay a)=aT rt (l+1) (cf a);rw[← hc];generalize ay a=s at hs;clear hc ha;unfold l9;by_cases h0:s.length=0
   · rw[if_pos h0,List.length_eq_zero_iff.1 h0];exact(eU rt (l+1)).symm
   rw[if_neg h0];by_cases h1:s.length=1
   · rw[if_pos h1,bD rt (j:=0) (aN (by rw[h1];exact Nat.le_refl _)) (Nat.zero_le _)];rfl
   rw[if_neg h1]
   obtain ⟨j,hj,hsl⟩: ∃j,j≤l∧s.length=2^(j+1):=by
    rcases hs with e | ⟨i,hi,e⟩
    · exact absurd e h0
    · rcases i with _ | j
      · exact absurd e h1
      · exact⟨j,by omega,e⟩
   obtain ⟨e1,e2,e3⟩:=bh hsl;have hx:aq l (s.take (s.length / 2)):= .inr ⟨j,hj,e1⟩;have hy:aq l (s.drop (s.length / 2)):= .inr ⟨j,hj,e2⟩;have hlog:s.length.log2-1=j:=by rw[hsl,Nat.log2_two_pow];omega
   have hdl:(rt.getD j []).length=2^j:=hrt j (by omega);have hd:aq l (rt.getD j []):= .inr ⟨j,hj,hdl⟩;have hn:=AL hj hsl hrt (by omega)
   have lowN:cG j (bL rt j (cf s)):=fun i hi=>by
    unfold bL;rw[a7 rt j _ _ i hi,a7 rt j _ _ i hi];exact Rat.sub_self
   have lh:cG j (bz j (cf s)):=fun i hi=>(aN (l:=j+1) (by omega)) _ (by rw[Nat.pow_succ];omega);have hpj:=hp j (by omega)
   rw[hlog,jl l hd hrt hp (by omega),jl l hx hrt hp (by omega),jl l hy hrt hp (by omega),jl l hn.1 hrt hp (by omega),hn.2,gO _ e3,
    bD rt (aN (a:=rt.getD j []) (by omega)) hj,bD rt (aN (a:=s.take (s.length / 2)) (by omega)) hj,bD rt lowN hj,jQ rt j (dN _ e3),bD rt lh hj,bD rt (a:=cf s) (j:=j+1) (l:=l+1) (aN (by omega)) (by omega)]
   show _=if aT rt j (cf (rt.getD j []))=0 then aT rt j (cf s) else if aT rt j (cf s)=aT rt j (bz j (cf s))∨aT rt j (bz j (cf s))=0 then aT rt j (cf s) else
    if aT rt j (cf s)=0 then aT rt j (bz j (cf s)) else aT rt j (cf s)*aT rt j (bL rt j (cf s))
   have ht:=jk rt j (cf (rt.getD j []));generalize aT rt j (cf (rt.getD j []))=D at hpj ht;unfold tq at ht;rcases ht with rfl | rfl | rfl
   · rw[if_pos rfl,Int.mul_zero,if_pos (.inr rfl)]
   · rw[Int.mul_one,if_neg (show ¬(1:Int)=0 by decide)]
   · omega
end Lift
namespace Lift
open Go Go.Proofs
structure nV (m:Nat) (v:List NQ):Prop where
 l5:v.length≤5
 ro:cD v
 sz:ed m v
 ps: ∀k,k<v.length→ ¬dw k (v.take k) (v.getD k [])<0
 m2:m≤1000000
 t: ∃m0,1≤m0∧m0≤m∧ed m0 v∧ny v.length m0
theorem nV.m1{m:Nat}{v:List NQ}(V:nV m v):1≤m:=by
 obtain ⟨m0,h1,h2,_⟩:=V.t;omega
theorem nV.of{m:Nat}{rt:List (List RD)}(T:Ds m rt)(h:ck rt=0):nV m (rt.map bm):=by
 have W:=Dw T h;exact⟨by rw[W.ln];exact W.l5,W.ro,W.sz,W.ps,T.m2,by rw[W.ln];exact W.t⟩
def dJ(a:NQ):List RD:=a.map Qr
theorem vS(a:NQ):bm (dJ a)=a:=by
 unfold bm dJ;rw[List.map_map];have:(RD.val ∘ Qr)=id:=funext cX;rw[this,List.map_id]
theorem ox(a:NQ):cF (dJ a)=af a:=by
 show D.sl 3 ((a.map Qr).map RD.D)=D.sl 3 (List.map _ a);rw[List.map_map];rfl
theorem gd(a:NQ):(dJ a).length=a.length:=List.length_map ..
theorem ov{a:NQ}{k:Nat}(h:ar k a):wN k (dJ a):=fun i hi=>by
 rw[gd] at hi;unfold dJ;rw[List.getD_eq_getElem?_getD,List.getElem?_map,List.getElem?_eq_getElem hi];have:=h i;rw[List.getD_eq_getElem?_getD,List.getElem?_eq_getElem hi] at this;exact jH _ this
theorem kJ{a:NQ}{l:Nat}(h:aq l a):a6 l (dJ a)=0:=by
 unfold a6;rw[gd]
 have h1: ¬(a.length≠0∧xT l a.length=false):=fun hs=>by
  rcases h with e | ⟨i,hi,e⟩
  · exact hs.1 e
  · rw[e,uU,decide_eq_true hi] at hs;exact Bool.noConfusion hs.2
 have h2:iV (dJ a)=true:=by
  unfold iV dJ;rw[List.all_map,List.all_eq_true];exact fun q _=>zn q
 rw[if_neg h1,if_neg (by rw[h2];simp)]
def jR(v:List NQ):List (List RD):=v.map dJ
theorem fm(v:List NQ):(jR v).length=v.length:=List.length_map ..
theorem nc(v:List NQ)(i:Nat):(jR v).getD i []=dJ (v.getD i []):=by
 unfold jR;rw[List.getD_eq_getElem?_getD,List.getElem?_map,List.getD_eq_getElem?_getD];cases v[i]? with
 | none=>rfl
 | some x=>rfl
theorem AQ(v:List NQ):(jR v).map bm=v:=by
 unfold jR;rw[List.map_map];have:(bm ∘ dJ)=id:=funext vS;rw[this,List.map_id]
theorem mA(v:List NQ):TrD (jR v)=bC v:=by
 show D.ag [.sl 1 ((v.map dJ).map cF)]=D.ag [.sl 1 (v.map af)];rw[List.map_map];have:(cF ∘ dJ)=af:=funext ox;rw[this]
theorem gE{f:Nat→Nat}: ∀{n i:Nat},(∀j,j<i+n→f j=0)→fE f n i=0
 | 0,i,h=>rfl
 | n+1,i,h=>by
   rw[fE,if_pos (h i (by omega))];exact gE (fun j hj=>h j (by omega))
theorem nV.raw{m:Nat}{v:List NQ}(V:nV m v):Ds m (jR v)∧ck (jR v)=0:=by
 have l5:=V.l5;have hp: ∀i,i<v.length→2^i≤2^5:=fun i hi=>Nat.pow_le_pow_right (by decide) (by omega);obtain ⟨m0,t1,t2,ts,tk⟩:=V.t
 refine⟨⟨⟨m0,t1,t2,fun i hi _=>by rw[nc];exact ov (ts i),fun _=>by rw[fm];exact tk⟩,V.m2,by rw[fm];omega,fun i hi=>by
  rw[fm] at hi;rw[nc,gd,V.ro i hi];have:=hp i hi
  omega⟩,?_⟩
 unfold ck;rw[fm,if_neg (by omega)];refine gE fun j hj=>?_;have hj:j<v.length:=by omega
 unfold sF;rw[nc,gd,if_neg (fun h=>h (V.ro j hj)),if_neg (fun h=>h (kJ (.inr ⟨j,Nat.le_refl _,V.ro j hj⟩))),vS,List.map_take,AQ,if_neg (V.ps j hj)]
theorem CM{m:Nat}{v:List NQ}{a:NQ}(V:nV m v)(ha:aq v.length a)(sa:ar m a):yq m (jR v) (dJ a):=⟨fun _=>ov sa,by
 have l5:=V.l5;rw[gd]
 exact Nat.le_trans (ha.len (by omega)) (by decide)⟩
theorem Gm{m:Nat}{v:List NQ}{a:NQ}(V:nV m v)(ha:aq v.length a):nS (jR v) [dJ a]=0:=by
 unfold nS;rw[if_neg (by rw[V.raw.2];simp)];refine gE fun j hj=>?_;have hj:j<0+1:=hj;obtain rfl:j=0:=by omega
 rw[fm];exact kJ ha
theorem ck2{m:Nat}{v:List NQ}{a b:NQ}(V:nV m v)(ha:aq v.length a)(hb:aq v.length b):nS (jR v) [dJ a,dJ b]=0:=by
 unfold nS;rw[if_neg (by rw[V.raw.2];simp)];refine gE fun j hj=>?_;have hj:j<0+2:=hj;rw[fm]
 match j,hj with
 | 0,_=>exact kJ ha
 | 1,_=>exact kJ hb
def El(a:NQ):NQ:=ay (aL a)
def vq(a b:NQ):NQ:=ay (aJ a b)
def pL(a b:NQ):NQ:=ay (aJ a (aL b))
def js(v:List NQ)(a b:NQ):NQ:=ay (aR v.length v a b)
theorem Dq{l k j:Nat}{a b:NQ}(ha:aq l a)(sa:ar k a)(hb:aq l b)(sb:ar j b):aq l (vq a b)∧ar (k+j+1) (vq a b):=aU (ha.plus hb) (sa.plus sb)
theorem Ct{l k j:Nat}{a b:NQ}(ha:aq l a)(sa:ar k a)(hb:aq l b)(sb:ar j b):aq l (pL a b)∧ar (k+j+1) (pL a b):=aU (ha.plus hb.minus) (sa.plus sb.minus)
theorem nV.pos{m:Nat}{v:List NQ}(V:nV m v):pH v:=fun j hj=>by
 have h:=V.ps j hj
 have e: ∀i,i<j→(v.take j).getD i []=v.getD i []:=fun i hi=>by
  rw[List.getD_eq_getElem?_getD,List.getElem?_take_of_lt hi,List.getD_eq_getElem?_getD]
 have ro:cD (v.take j):=fun i hi=>by
  rw[List.length_take] at hi;rw[e i (by omega)];exact V.ro i (by omega)
 have lt:aq j (v.getD j []):= .inr ⟨j,Nat.le_refl _,V.ro j hj⟩;rw[fj j lt ro (by rw[List.length_take];omega)] at h
 have key: ∀(l:Nat) (a:Cf),l≤j→aT (v.take j) l a=aT v l a∧ ∀b:Cf,mulC (v.take j) l a b=mulC v l a b:=by
  intro l
  induction l with
  | zero=>exact fun a _=>⟨rfl,fun b=>rfl⟩
  | succ l ih =>
    intro a hl;have hm: ∀x y:Cf,mulC (v.take j) l x y=mulC v l x y:=fun x y=>(ih x (by omega)).2 y;have hs: ∀x:Cf,aT (v.take j) l x=aT v l x:=fun x=>(ih x (by omega)).1;refine⟨?_,fun b=>?_⟩
    · unfold aT bL;simp only[hm,hs,e l (by omega)]
    · funext i;show (if i<2^l then mulC (v.take j) l a b i+mulC (v.take j) l (mulC (v.take j) l (bz l a) (bz l b)) (cf ((v.take j).getD l [])) i else mulC (v.take j) l a (bz l b) (i-2^l)+mulC (v.take j) l (bz l a) b (i-2^l))=_;simp only[hm,e l (by omega)];rfl
 rw[(key j _ (Nat.le_refl _)).1] at h;omega
end Lift
namespace Lift
open Go Go.Proofs
def kV(R:NQ→NQ)(S:NQ→Int)(N:NQ→NQ)(T:NQ→NQ→NQ)(s:NQ):NQ :=
 if s.length=1 then [1 / s.getD 0 0] else
 if S (N s)=0 then R (aJ (s.take (s.length / 2)) (s.take (s.length / 2))) else
 T (de (s.take (s.length / 2)) (aL (s.drop (s.length / 2))) (s.length / 2)) (R (N s))
def jw:Nat→List NQ→NQ→NQ
 | 0,rt,a=>kV (fun _=>[]) (fun _=>0) (fun a=>a) (fun _ _=>[]) (ay a)
 | l+1,rt,a=>kV (jw l rt) (dw l rt) (eA l rt) (aR (l+1) rt) (ay a)
def Fg(O:NQ→Prop)(R:NQ→NQ)(S:NQ→Int)(Sk:NQ→Prop)(N:NQ→NQ)(Nk:NQ→Prop)(Tk:NQ→NQ→Prop)(s:NQ):Prop:=s.length≠0∧(s.length≠1 →
 Nk s∧Sk (N s)∧(S (N s)=0→O (aJ (s.take (s.length / 2)) (s.take (s.length / 2)))) ∧
 (S (N s)≠0→O (N s)∧Tk (de (s.take (s.length / 2)) (aL (s.drop (s.length / 2))) (s.length / 2)) (R (N s))))
def Fh:Nat→List NQ→NQ→Prop
 | 0,rt,a=>kv a∧(ay a).length≠0
 | l+1,rt,a=>kv a∧Fg (Fh l rt) (jw l rt) (dw l rt) (A7 l rt) (eA l rt) (Ef l rt) (zG (l+1) rt) (ay a)
theorem od{l:Nat}{a:NQ}(ha:aq l a)(h:(ay a).length=1):(ay a).getD 0 0≠0:=(kD ha).one h
theorem yZ{l:Nat}{R:NQ→NQ}{S:NQ→Int}{N:NQ→NQ}{T:NQ→NQ→NQ}{s:NQ}(hs:aq l s)(h0:s.length≠0)
  (hR: ∀l',l=l'+1→ ∀b,aq l' b→aq l' (R b)) (hN: ∀l',l=l'+1→ ∀j,j≤l'→s.length=2^(j+1)→aq l' (N s)) (hT: ∀b c,aq l b→aq l c→aq l (T b c)):aq l (kV R S N T s):=by
 unfold kV;split
 · exact gT _ _
 rename_i h1
 obtain ⟨i,hi,hla2⟩: ∃i,i≤l∧s.length=2^i:=by
  rcases hs with e | e
  · omega
  · exact e
 have wE:i≠0:=fun e=>h1 (by rw[hla2,e]);obtain ⟨j,rfl⟩: ∃j,i=j+1:=⟨i-1,by omega⟩;obtain ⟨l',rfl⟩: ∃l',l=l'+1:=⟨l-1,by omega⟩;obtain ⟨e1,e2,e3⟩:=bh hla2;have hx:aq l' (s.take (s.length / 2)):= .inr ⟨j,by omega,e1⟩;have hN:=hN l' rfl j (by omega) hla2;split
 · exact(hR l' rfl _ (hx.plus hx)).mono (by omega)
 · exact hT _ _ (.inr ⟨j+1,by omega,by rw[dF,e3,Nat.pow_succ];omega⟩) ((hR l' rfl _ hN).mono (by omega))
theorem gB: ∀(l:Nat) {rt:List NQ} {a:NQ},aq l a→cD rt→l≤rt.length→aq l (jw l rt a)
 | 0,rt,a,ha,hrt,hl=>by
   have hs:=bW ha;show aq 0 (kV _ _ _ _ _);by_cases h0:(ay a).length=0
   · rw[List.length_eq_zero_iff.1 h0];exact bd _
   · exact yZ hs h0 (fun l' h=>by omega) (fun l' h=>by omega) (fun _ _ _ _=>bd _)
 | l+1,rt,a,ha,hrt,hl=>by
   have hs:=bW ha;show aq (l+1) (kV _ _ _ _ _);by_cases h0:(ay a).length=0
   · rw[List.length_eq_zero_iff.1 h0];unfold kV;rw[if_neg (by decide)];split
     · exact(gB l (bd _) hrt (by omega)).mono (by omega)
     · exact dR (l+1) (bd _) ((gB l (by
        obtain ⟨K,k1,_,k3⟩:=tA (eA l rt []) [] rt;unfold eA
        have t0: ∀c,aq l (aR l rt c []):=fun c=>by
         cases l with
         | zero=>show aq 0 (iG _ c []);unfold iG;rw[if_neg (show ¬c.length<([]:NQ).length from Nat.not_lt_zero _)];unfold gw;rw[if_pos (by show (a9 c||true)=true;rw[Bool.or_true])];exact bd _
         | succ l=>show aq (l+1) (iG _ c []);unfold iG;rw[if_neg (show ¬c.length<([]:NQ).length from Nat.not_lt_zero _)];unfold gw;rw[if_pos (by show (a9 c||true)=true;rw[Bool.or_true])];exact bd _
        have e:rt.getD (Nat.log2 ([]:NQ).length-1) []=rt.getD 0 []:=rfl;have hd:aq l (rt.getD 0 []):= .inr ⟨0,Nat.zero_le _,hrt 0 (by omega)⟩
        exact(t0 []).plus (dR l (t0 []) hd hrt (by omega)).minus) hrt (by omega)).mono (by omega)) hrt hl
   · exact yZ hs h0 (fun l' e b hb=>by
      obtain rfl:l=l':=by omega
      exact gB l hb hrt (by omega)) (fun l' e j h1 h2=>by
      obtain rfl:l=l':=by omega
      exact qg h1 h2 hrt (by omega)) (fun b c hb hc=>dR (l+1) hb hc hrt hl)
set_option maxHeartbeats 1600000 in
theorem wD{l:Nat}{O:NQ→Prop}{R:NQ→NQ}{S:NQ→Int}{Sk:NQ→Prop}{N:NQ→NQ}{Nk:NQ→Prop}{T:NQ→NQ→NQ}{Tk:NQ→NQ→Prop}{rt:List NQ}{a:NQ}(ha:aq l a)(hl5:l≤5)(hl:l≤rt.length)(hl10:rt.length≤10)(sa:kv a)(h0:(ay a).length≠0)
  (hok:l≠0→Fg O R S Sk N Nk Tk (ay a))
  (hR: ∀l',l=l'+1→ ∀b,aq l' b→O b→Pure Tryz.prog 131 [bC rt,af b] (af (R b)))
  (hRl: ∀l',l=l'+1→ ∀b,aq l' b→aq l' (R b))
  (hS: ∀l',l=l'+1→ ∀b,aq l' b→Sk b→Pure Tryz.prog 64 [bC rt,af b] (dI (S b)))
  (hN: ∀l',l=l'+1→ ∀b j,j≤l'→b.length=2^(j+1)→Nk b→Pure Tryz.prog 109 [bC rt,af b] (af (N b))∧aq l' (N b))
  (hT: ∀b c,aq l b→aq l c→Tk b c→Pure Tryz.prog 63 [bC rt,af b,af c] (af (T b c))):
  Pure Tryz.prog 131 [bC rt,af a] (af (kV R S N T (ay a))):=by
 refine qJ 57 Tryz.func131 rfl rfl rfl rfl (by kernel_rfl) (fun B F0 w0=>?_);have cs:=bK a ha hl5 sa (by omega);have hone:=od ha;obtain ⟨ha,sa⟩:=aU ha sa;generalize ay a=b at cs ha sa hok hone h0 ⊢;have hlb:=ha.len (by omega);unfold kV;refine qX 2 rfl ?_;refine qK 1 rfl ?_;refine ab.call tok rfl rfl rfl rfl cs ?_;refine qU 1 rfl ?_;refine qI ?_;refine qX 2 rfl ?_;rw[List.length_map];refine qU 1 rfl ?_;refine ab.nil ?_;by_cases h1:b.length=1
 · have g:=kq (r:=b) (i:=0) (by omega);have cq:=pZ (Qr 1) (Qr (b.getD 0 0)) (jH 1 (by have:=su;omega)) (jH _ (sa 0)) (by omega) (by rw[cX];exact hone h1);rw[cX,cX] at cq;rw[if_pos h1,beq_iff_eq.2 (show (b.length:Int)=1 by omega)];refine AW.aF rfl ?_;refine AW.seq ?_;refine AW.nQ tok aM [(7,true),(1,false),(1,true)] 9 [5] (by kernel_rfl) ⟨rfl,?_⟩;refine ae.call tok rfl rfl rfl rfl rfl (iA 1 (by decide) (by decide)) ?_;refine qP 1 rfl ?_;refine ae.idx tok (Qr (b.getD 0 0)).D rfl rfl rfl rfl rfl (Int.le_refl _) g ?_;refine qP 1 rfl ?_;refine ae.call tok rfl rfl rfl rfl rfl cq ?_;refine qP 2 rfl ?_;refine ae.nil ⟨rfl,?_⟩;refine qP 1 rfl ?_;refine ae.nil ⟨rfl,?_⟩;refine qP 1 rfl ?_;refine ae.nil ⟨_,nY.cons (.bx rfl) (nY.nil),?_⟩;refine qU 1 rfl ?_;refine qK 1 rfl ?_;refine ab.e7 tok rfl rfl rfl rfl rfl ?_;refine qU 1 rfl ?_;exact qN rfl
 rw[if_neg h1,beq_eq_false_iff_ne.2 (show (b.length:Int)≠1 by omega)];refine AW.au rfl ?_;refine AW.skip ?_
 obtain ⟨i,hi,hla2⟩: ∃i,i≤l∧b.length=2^i:=by
  rcases ha with e | e
  · omega
  · exact e
 have wE:i≠0:=fun e=>h1 (by rw[hla2,e]);obtain ⟨j,rfl⟩: ∃j,i=j+1:=⟨i-1,by omega⟩;obtain ⟨l',rfl⟩: ∃l',l=l'+1:=⟨l-1,by omega⟩;have hj:j≤l':=by omega
 obtain ⟨_,o1⟩:=hok (by omega);obtain ⟨oN,oS,oz,oi⟩:=o1 h1;have hN:=hN l' rfl b j hj hla2 oN;have hS:=hS l' rfl _ hN.2 oS;obtain ⟨e1,e2,e3⟩:=bh hla2;obtain ⟨n,hn⟩: ∃n,n=b.length / 2:=⟨_,rfl⟩;rw[← hn] at e1 e2 e3 oz oi ⊢
 have hn2:b.length=n+n:=by
  have:2^(j+1)=2^j*2:=Nat.pow_succ ..;omega
 have hx:aq l' (b.take n):= .inr ⟨j,hj,e1⟩;have hy:aq l' (b.drop n):= .inr ⟨j,hj,e2⟩;refine qX 2 rfl ?_;rw[List.length_map];refine ab.div tok rfl rfl rfl rfl (by decide) ?_;rw[fI _ (by omega),← hn];refine qU 1 rfl ?_;refine qK 2 rfl ?_;refine ab.call tok rfl rfl rfl rfl hN.1 ?_;refine qU 1 rfl ?_;refine qI ?_;refine qX 2 rfl ?_;refine ab.call tok rfl rfl rfl rfl hS ?_;refine qU 1 rfl ?_;refine ab.nil ?_;by_cases hz:S (N b)=0
 · have ci:=hR l' rfl _ (hx.plus hx) (oz hz);have cp:=cT (b.take n) (b.take n) (sa.take n) (sa.take n) (by omega) (by rw[e1];omega) (by rw[e1];omega);rw[if_pos hz,beq_iff_eq.2 hz];refine AW.aF rfl ?_;refine AW.seq ?_;refine AW.draw aM 9 (by kernel_rfl) ?_;refine qP 3 rfl ?_;refine ae.fe tok (a:=b) (b.take n) rfl rfl rfl rfl rfl trivial (Int.natCast_nonneg n) (Nat.zero_le _) (show n≤b.length by omega) rfl ?_;refine qP 2 rfl ?_;refine ae.fe tok (a:=b) (b.take n) rfl rfl rfl rfl rfl trivial (Int.natCast_nonneg n) (Nat.zero_le _) (show n≤b.length by omega) rfl ?_;refine ae.call tok rfl rfl rfl rfl rfl cp ?_;refine ae.call tok rfl rfl rfl rfl rfl ci ?_;refine ae.nil ?_;refine qU 1 rfl ?_;exact qN rfl
 obtain ⟨o2,o3⟩:=oi hz;have ci:=hR l' rfl _ hN.2 o2;have cm:=dP (b.drop n) (sa.drop n) (by omega) (by rw[e2];omega);have cj:=iZ (b.take n) (aL (b.drop n)) n (by omega);have ct:=hT _ _ (.inr ⟨j+1,by omega,by rw[dF,e3,Nat.pow_succ];omega⟩) ((hRl l' rfl _ hN.2).mono (by omega)) o3;rw[if_neg hz,beq_eq_false_iff_ne.2 hz];refine AW.au rfl ?_;refine AW.skip (AW.seq ?_);refine AW.draw aM 14 (by kernel_rfl) ?_;refine qP 3 rfl ?_;refine ae.fe tok (a:=b) (b.take n) rfl rfl rfl rfl rfl trivial (Int.natCast_nonneg n) (Nat.zero_le _) (show n≤b.length by omega) rfl ?_;refine qP 2 rfl ?_;refine ae.fe tok (a:=b) (b.drop n) rfl rfl rfl rfl rfl (Int.natCast_nonneg n) trivial (show n≤b.length by omega) (Nat.le_refl _) (by show (b.take b.length).drop n=_;rw[List.take_length]) ?_;refine ae.call tok rfl rfl rfl rfl rfl cm ?_;refine qP 1 rfl ?_;refine ae.call tok rfl rfl rfl rfl rfl cj ?_;refine qP 2 rfl ?_;refine ae.call tok rfl rfl rfl rfl rfl ci ?_;refine ae.call tok rfl rfl rfl rfl rfl ct ?_;refine ae.nil ?_;refine qU 1 rfl ?_;exact qN rfl
theorem iL: ∀(l:Nat) {rt:List NQ} {a:NQ},aq l a→l≤5→cD rt→l≤rt.length→rt.length≤10→Fh l rt a→Pure Tryz.prog 131 [bC rt,af a] (af (jw l rt a))
 | 0,rt,a,ha,hl5,hrt,hl,hl10,hok=>wD (O:=fun _=>True) (Sk:=fun _=>True) (Nk:=fun _=>True) (Tk:=fun _ _=>False) ha hl5 hl hl10 hok.1 hok.2 (fun h=>absurd rfl h) (fun l' h=>by omega) (fun l' h=>by omega) (fun l' h=>by omega) (fun l' h=>by omega) (fun _ _ _ _ h=>h.elim)
 | l+1,rt,a,ha,hl5,hrt,hl,hl10,hok=>wD (O:=Fh l rt) (Sk:=A7 l rt) (Nk:=Ef l rt) (Tk:=zG (l+1) rt) ha hl5 hl hl10 hok.1 hok.2.1 (fun _=>hok.2) (fun l' e b h1 h2=>by
    obtain rfl:l=l':=by omega
    exact iL l h1 (by omega) hrt (by omega) hl10 h2) (fun l' e b h1=>by
    obtain rfl:l=l':=by omega
    exact gB l h1 hrt (by omega)) (fun l' e b h1 h2=>by
    obtain rfl:l=l':=by omega
    exact c7 l h1 (by omega) hrt (by omega) hl10 h2) (fun l' e b j h1 h2 h3=>by
    obtain rfl:l=l':=by omega
    exact⟨kz h1 h2 hrt (by omega) hl10 h3,qg h1 h2 hrt (by omega)⟩) (fun b c h1 h2 h3=>bS (l+1) h1 h2 hrt hl hl10 h3)
end Lift
namespace Lift
open Go Go.Proofs
def kl(v:List NQ):Prop:= ∃m,nV m v
theorem nV.a{m:Nat}{v:List NQ}(V:nV m v):kl v:=⟨m,V⟩
theorem kl.l5{v:List NQ}(V:kl v):v.length≤5:=V.elim fun _ V=>V.l5
theorem kl.ro{v:List NQ}(V:kl v):cD v:=V.elim fun _ V=>V.ro
def sX(v:List NQ)(a b:NQ):NQ:=ay (aR v.length v a (jw v.length v b))
def oh(v:List NQ)(a:NQ):Int:=dw v.length v a
def rn(v:List NQ)(a b:NQ):Prop:=kv a∧kv b∧zG v.length v a b∧kv (aR v.length v a b)
def we(a b:NQ):Prop:=kv a∧kv b∧kv (aJ a b)
def A2(a b:NQ):Prop:=kv a∧kv b∧kv (aJ a (aL b))
def A8(v:List NQ)(a b:NQ):Prop:=kv a∧kv b∧A7 v.length v b∧oh v b≠0∧Fh v.length v b∧zG v.length v a (jw v.length v b)∧kv (aR v.length v a (jw v.length v b))
def pQ(v:List NQ)(a:NQ):Prop:=A7 v.length v a
theorem pQ.sz{v:List NQ}{a:NQ}(h:pQ v a):kv a:=A7.sz h
theorem zi{v:List NQ}(V:kl v)(l:List NQ)(hl:l.length≤1000000)(h: ∀i,i<l.length→aq v.length (l.getD i [])∧kv (l.getD i [])):Pure Tryz.prog 61 [bC v,.sl 1 (l.map af)] ao:=by
 obtain ⟨m,V⟩:=V;obtain ⟨m0,t1,t2,tw,tk⟩:=V.raw.1.t;have l5:=V.l5
 have g: ∀i,(l.map dJ).getD i []=dJ (l.getD i []):=fun i=>by
  rw[List.getD_eq_getElem?_getD,List.getElem?_map,List.getD_eq_getElem?_getD];cases l[i]? with
  | none=>rfl
  | some x=>rfl
 have c:=kc (jR v) (l.map dJ) (mn:=17300000000000) tw t1 V.raw.1.l V.raw.1.ll tk (fun i hi=>by
  rw[List.length_map] at hi;rw[g];exact fun _=>ov (h i hi).2) (by rw[List.length_map];exact hl) (fun i hi=>by
  rw[List.length_map] at hi
  rw[g,gd];exact Nat.le_trans ((h i hi).1.len (by omega)) (by decide)) (by omega)
 have e:nS (jR v) (l.map dJ)=0:=by
  unfold nS;rw[if_neg (by rw[V.raw.2];simp)];refine gE fun j hj=>?_;rw[List.length_map] at hj;rw[fm,g];exact kJ (h j (by omega)).1
 rw[e,mA,List.map_map,show (cF ∘ dJ)=af from funext ox] at c;exact c
theorem wU{v:List NQ}{a:NQ}(V:kl v)(ha:aq v.length a)(sa:kv a):Pure Tryz.prog 61 [bC v,.sl 1 [af a]] ao :=
 zi V [a] (show 1≤1000000 by decide) (fun i hi=>by
  have:i<1:=hi;obtain rfl:i=0:=by omega
  exact⟨ha,sa⟩)
theorem k8{v:List NQ}{a b:NQ}(V:kl v)(ha:aq v.length a)(sa:kv a)(hb:aq v.length b)(sb:kv b):Pure Tryz.prog 61 [bC v,.sl 1 [af a,af b]] ao :=
 zi V [a,b] (show 2≤1000000 by decide) (fun i hi=>by
  have:i<2:=hi
  match i,this with
  | 0,_=>exact⟨ha,sa⟩
  | 1,_=>exact⟨hb,sb⟩)
theorem xi{v:List NQ}{a:NQ}(V:kl v)(ha:aq v.length a)(sa:kv a):Pure Tryz.prog 91 [bC v,af a] (.tu [af (El a),ao]):=by
 refine qJ 17 Tryz.func91 rfl rfl rfl rfl (by kernel_rfl) (fun B0 F0 w0=>?_);have hl5:=V.l5;have hro:=V.ro;have cc:=wU V ha sa;have c1:=dP a sa (by omega) (Nat.le_trans (ha.len (by omega)) (by decide));have c2:=bK (aL a) ha.minus hl5 sa.minus (by omega);refine qX 3 rfl ?_;refine qI ?_;refine qX 2 rfl ?_;refine ab.e7 tok rfl rfl rfl rfl rfl ?_;refine ab.call tok rfl rfl rfl rfl cc ?_;refine qU 1 rfl ?_;refine qK 1 rfl ?_;refine ab.err tok rfl rfl rfl rfl rfl ?_;refine ab.nil ?_;refine AW.au rfl ?_
 · refine AW.skip ?_;refine qX 1 rfl ?_;refine ab.call tok rfl rfl rfl rfl c1 ?_;refine ab.call tok rfl rfl rfl rfl c2 ?_;refine qU 2 rfl ?_;exact qN rfl
theorem xm{v:List NQ}{a:NQ}{b:NQ}(V:kl v)(ha:aq v.length a)(hb:aq v.length b)(ok:we a b):Pure Tryz.prog 101 [bC v,af a,af b] (.tu [af (vq a b),ao]):=by
 refine qJ 21 Tryz.func101 rfl rfl rfl rfl (by kernel_rfl) (fun B0 F0 w0=>?_);have hl5:=V.l5;have hro:=V.ro;obtain ⟨sa,sb,sc⟩:=ok;have cc:=k8 V ha sa hb sb;have c1:=cT a b sa sb (by omega) (Nat.le_trans (ha.len (by omega)) (by decide)) (Nat.le_trans (hb.len (by omega)) (by decide));have c2:=bK (aJ a b) (ha.plus hb) hl5 sc (by omega);refine qX 3 rfl ?_;refine qI ?_;refine qX 3 rfl ?_;refine ab.e7 tok rfl rfl rfl rfl rfl ?_;refine ab.call tok rfl rfl rfl rfl cc ?_;refine qU 1 rfl ?_;refine qK 1 rfl ?_;refine ab.err tok rfl rfl rfl rfl rfl ?_;refine ab.nil ?_;refine AW.au rfl ?_
 · refine AW.skip ?_;refine qX 2 rfl ?_;refine ab.call tok rfl rfl rfl rfl c1 ?_;refine ab.call tok rfl rfl rfl rfl c2 ?_;refine qU 2 rfl ?_;exact qN rfl
theorem xg{v:List NQ}{a:NQ}{b:NQ}(V:kl v)(ha:aq v.length a)(hb:aq v.length b)(ok:A2 a b):Pure Tryz.prog 132 [bC v,af a,af b] (.tu [af (pL a b),ao]):=by
 refine qJ 22 Tryz.func132 rfl rfl rfl rfl (by kernel_rfl) (fun B0 F0 w0=>?_);have hl5:=V.l5;have hro:=V.ro;obtain ⟨sa,sb,sc⟩:=ok;have cc:=k8 V ha sa hb sb;have c0:=dP b sb (by omega) (Nat.le_trans (hb.len (by omega)) (by decide));have c1:=cT a (aL b) sa sb.minus (by omega) (Nat.le_trans (ha.len (by omega)) (by decide)) (Nat.le_trans (hb.minus.len (by omega)) (by decide));have c2:=bK (aJ a (aL b)) (ha.plus hb.minus) hl5 sc (by omega);refine qX 3 rfl ?_;refine qI ?_;refine qX 3 rfl ?_;refine ab.e7 tok rfl rfl rfl rfl rfl ?_;refine ab.call tok rfl rfl rfl rfl cc ?_;refine qU 1 rfl ?_;refine qK 1 rfl ?_;refine ab.err tok rfl rfl rfl rfl rfl ?_;refine ab.nil ?_;refine AW.au rfl ?_
 · refine AW.skip ?_;refine qX 2 rfl ?_;refine ab.call tok rfl rfl rfl rfl c0 ?_;refine ab.call tok rfl rfl rfl rfl c1 ?_;refine ab.call tok rfl rfl rfl rfl c2 ?_;refine qU 2 rfl ?_;exact qN rfl
theorem mu{v:List NQ}{a:NQ}{b:NQ}(V:kl v)(ha:aq v.length a)(hb:aq v.length b)(ok:rn v a b):Pure Tryz.prog 28 [bC v,af a,af b] (.tu [af (js v a b),ao]):=by
 refine qJ 22 Tryz.func28 rfl rfl rfl rfl (by kernel_rfl) (fun B0 F0 w0=>?_);have hl5:=V.l5;have hro:=V.ro;obtain ⟨sa,sb,st,sc⟩:=ok;have cc:=k8 V ha sa hb sb;have c1:=bS v.length ha hb hro (Nat.le_refl _) (by omega) st;have c2:=bK _ (dR v.length ha hb hro (Nat.le_refl _)) hl5 sc (by omega);refine qX 3 rfl ?_;refine qI ?_;refine qX 3 rfl ?_;refine ab.e7 tok rfl rfl rfl rfl rfl ?_;refine ab.call tok rfl rfl rfl rfl cc ?_;refine qU 1 rfl ?_;refine qK 1 rfl ?_;refine ab.err tok rfl rfl rfl rfl rfl ?_;refine ab.nil ?_;refine AW.au rfl ?_
 · refine AW.skip ?_;refine qX 3 rfl ?_;refine ab.call tok rfl rfl rfl rfl c1 ?_;refine ab.call tok rfl rfl rfl rfl c2 ?_;refine qU 2 rfl ?_;exact qN rfl
theorem xk{v:List NQ}{a:NQ}{b:NQ}(V:kl v)(ha:aq v.length a)(hb:aq v.length b)(ok:A8 v a b):Pure Tryz.prog 89 [bC v,af a,af b] (.tu [af (sX v a b),ao]):=by
 refine qJ 29 Tryz.func89 rfl rfl rfl rfl (by kernel_rfl) (fun B0 F0 w0=>?_);have hl5:=V.l5;have hro:=V.ro;obtain ⟨sa,sb,sg,s0,si,st,sc⟩:=ok;have cc:=k8 V ha sa hb sb;have hi:=gB v.length hb hro (Nat.le_refl _);have c0:=c7 v.length hb hl5 hro (Nat.le_refl _) (by omega) sg;have c1:=iL v.length hb hl5 hro (Nat.le_refl _) (by omega) si;have c2:=bS v.length ha hi hro (Nat.le_refl _) (by omega) st;have c3:=bK _ (dR v.length ha hi hro (Nat.le_refl _)) hl5 sc (by omega);change dw v.length v b≠0 at s0;unfold sX;generalize dw v.length v b=z at c0 s0;refine qX 3 rfl ?_;refine qI ?_;refine qX 3 rfl ?_;refine ab.e7 tok rfl rfl rfl rfl rfl ?_;refine ab.call tok rfl rfl rfl rfl cc ?_;refine qU 1 rfl ?_;refine qK 1 rfl ?_;refine ab.err tok rfl rfl rfl rfl rfl ?_;refine ab.nil ?_;refine AW.au rfl ?_
 · refine AW.skip (AW.seq ?_);refine qX 2 rfl ?_;refine ab.call tok rfl rfl rfl rfl c0 ?_;refine qU 1 rfl ?_;refine ab.nil ?_;rw[beq_eq_false_iff_ne.2 s0];refine AW.au rfl ?_
   · refine AW.skip (AW.seq ?_);refine AW.draw aM 7 (by kernel_rfl) ?_;refine qP 4 rfl ?_;refine ae.call tok rfl rfl rfl rfl rfl c1 ?_;refine ae.call tok rfl rfl rfl rfl rfl c2 ?_;refine ae.call tok rfl rfl rfl rfl rfl c3 ?_;refine ae.nil ?_;refine qU 2 rfl ?_;exact qN rfl
theorem pd{v:List NQ}{a:NQ}(V:kl v)(ha:aq v.length a)(ok:pQ v a):Pure Tryz.prog 29 [bC v,af a] (.tu [dI (oh v a),ao]):=by
 refine qJ 17 Tryz.func29 rfl rfl rfl rfl (by kernel_rfl) (fun B0 F0 w0=>?_);have hl5:=V.l5;have hro:=V.ro;have cc:=wU V ha ok.sz;have c1:=c7 v.length ha hl5 hro (Nat.le_refl _) (by omega) ok;refine qX 3 rfl ?_;refine qI ?_;refine qX 2 rfl ?_;refine ab.e7 tok rfl rfl rfl rfl rfl ?_;refine ab.call tok rfl rfl rfl rfl cc ?_;refine qU 1 rfl ?_;refine qK 1 rfl ?_;refine ab.err tok rfl rfl rfl rfl rfl ?_;refine ab.nil ?_;refine AW.au rfl ?_
 · refine AW.skip ?_;refine qX 2 rfl ?_;refine ab.call tok rfl rfl rfl rfl c1 ?_;refine qU 2 rfl ?_;exact qN rfl
end Lift
namespace Lift
theorem xv(x:Rat)(h:0<x):ji x=1:=by
 have:=m8.2 h;rcases eV x with e | e | e<;>omega
theorem Ec(x:Rat)(h:x<0):ji x= -1:=by
 have:=uv.2 h;rcases eV x with e | e | e<;>omega
theorem zA(x y:Rat):ji (x*y)=ji x*ji y:=by
 have key: ∀{x y:Rat},0<x→ji (x*y)=ji y:=fun {x y} hx=>by
  rcases eV y with e | e | e
  · rw[ib.1 e,Rat.mul_zero]
  · have h:=Rat.mul_pos hx (m8.1 (show 0<ji y by omega));rw[e,xv _ h]
  · have h:=Rat.mul_pos hx (show 0< -y from by have:=uv.1 (show ji y<0 by omega);grind);rw[e,Ec]
    grind
 rcases eV x with e | e | e
 · rw[ib.1 e,Rat.zero_mul,ib.2 rfl,Int.zero_mul]
 · rw[e,Int.one_mul];exact key (m8.1 (by omega))
 · have hx:0< -x:=by have:=uv.1 (show ji x<0 by omega);grind
   have h:=key (y:=y) hx;have h2:=qO (x*y);rw[show -(x*y)= -x*y by grind,h] at h2;rw[e];omega
def nw:Cf:=fun i=>if i=0 then 1 else 0
def E':OR where
 T:=Rat
 add:=(· + ·)
 mul:=(· * ·)
 neg:=(- ·)
 z:=0
 o:=1
 ac:=Rat.add_comm
 aa:=Rat.add_assoc
 az:=Rat.add_zero
 an:=Rat.add_neg_cancel
 mc:=Rat.mul_comm
 ma:=Rat.mul_assoc
 mo:=Rat.mul_one
 md:=Rat.mul_add
 sgn:=ji
 s3 x:=by rcases eV x with h | h | h<;>omega
 sn:=qO
 sm:=zA
 sp x y hx hy:=by
  have h1:=m8.1 (show 0<ji x by omega);have h2:=m8.1 (show 0<ji y by omega);exact xv _ (by grind)
 s0 x y hx:=by
  rw[ib.1 hx];show ji (0+y)=ji y;rw[Rat.zero_add]
 s1:=xv 1 (by decide)
theorem AR(x:Rat)(h:x≠0):ji (x*x⁻¹ + -1)=0:=by
 rw[Rat.mul_inv_cancel _ h];exact ib.2 (Rat.add_neg_cancel 1)
theorem AS:E'.Inv:=fun x hx=>⟨_,AR x (fun e=>hx (ib.2 e))⟩
structure EZ (v:List NQ) (l:Nat) where
 R:OR
 of:Cf→R.T
 inv:R.Inv
 add: ∀a b:Cf,of (fun i=>a i+b i)=of a+of b
 neg: ∀a:Cf,of (fun i=> -a i)= -of a
 mul: ∀a b:Cf,of (mulC v l a b)=of a*of b
 one:of nw=1
 zero:of zC=0
 sgn: ∀a:Cf,R.sgn (of a)=aT v l a
 inj: ∀a b:Cf,of a=of b→iJ l a b
 cong: ∀a b:Cf,iJ l a b→of a=of b
theorem EZ.sub{v:List NQ}{l:Nat}(T:EZ v l)(a b:Cf):T.of (fun i=>a i-b i)=T.of a-T.of b:=by
 rw[Rg.sub_def,← T.neg,← T.add]
 congr 1
 funext i;exact Rat.sub_eq_add_neg ..
def FZ(v:List NQ):EZ v 0 where
 R:=E'
 of a:=a 0
 inv:=AS
 add _ _:=rfl
 neg _:=rfl
 mul a b:=by
  show (if (0:Nat)=0 then a 0*b 0 else 0)=_;rw[if_pos rfl];rfl
 one:=rfl
 zero:=rfl
 sgn _:=rfl
 inj a b h i hi:=by
  obtain rfl:i=0:=by have:i<1:=hi;omega
  exact h
 cong a b h:=h 0 (by decide)
theorem Br(l:Nat):bz l zC=zC:=rfl
theorem C7(l:Nat):bz l nw=zC:=funext fun i=>by
 have hp:0<2^l:=Nat.pow_pos (by decide);show (if 2^l+i=0 then (1:Rat) else 0)=0;rw[if_neg (by omega)]
def D0{v:List NQ}{l:Nat}(T:EZ v l)(hd:0≤aT v l (cf (v.getD l []))):EZ v (l+1) where
 R:=T.R.ext (T.of (cf (v.getD l []))) (by rw[T.sgn];exact hd)
 of a:=(T.of a,T.of (bz l a))
 inv:=OR.Dd T.inv _
 add a b:=Prod.ext (T.add a b) (T.add (bz l a) (bz l b))
 neg a:=Prod.ext (T.neg a) (T.neg (bz l a))
 mul a b:=by
  refine Prod.ext ?_ ?_
  · show T.of (mulC v (l+1) a b)=T.of a*T.of b+T.of (bz l a)*T.of (bz l b)*T.of (cf (v.getD l []));rw[← T.mul,← T.mul,← T.mul,← T.add];refine T.cong _ _ fun i hi=>?_;show (if i<2^l then _ else _)=_;rw[if_pos hi]
  · show T.of (bz l (mulC v (l+1) a b))=T.of a*T.of (bz l b)+T.of (bz l a)*T.of b;rw[← T.mul,← T.mul,← T.add];refine T.cong _ _ fun i hi=>?_;show (if 2^l+i<2^l then _ else _)=_;rw[if_neg (by omega),Nat.add_sub_cancel_left]
 one:=Prod.ext T.one (by show T.of (bz l nw)=0;rw[C7,T.zero])
 zero:=Prod.ext T.zero (by show T.of (bz l zC)=0;rw[Br,T.zero])
 sgn a:=by
  show OR.es T.R (T.of (cf (v.getD l []))) (T.of a,T.of (bz l a))=aT v (l+1) a;unfold OR.es aT;simp only[];rw[T.sgn,T.sgn,T.sgn,← T.mul,← T.mul,← T.mul,← T.sub,T.sgn];rfl
 inj a b h i hi:=by
  have h1:=T.inj _ _ (congrArg Prod.fst h);have h2:=T.inj _ _ (congrArg Prod.snd h);by_cases c:i<2^l
  · exact h1 i c
  · rw[Nat.pow_succ] at hi;have:=h2 (i-2^l) (by omega);have:a (2^l+(i-2^l))=b (2^l+(i-2^l)):=this
    rwa [show 2^l+(i-2^l)=i by omega] at this
 cong a b h:=Prod.ext (T.cong _ _ h.down) (T.cong _ _ h.hi)
theorem EX{v:List NQ}(hp:pH v): ∀l,l≤v.length→Nonempty (EZ v l)
 | 0,_=>⟨FZ v⟩
 | l+1,hl=>by
   obtain ⟨T⟩:=EX hp l (by omega);exact⟨D0 T (hp l (by omega))⟩
theorem v7(l:Nat):cG l nw:=fun i hi=>by
 have hp:0<2^l:=Nat.pow_pos (by decide);exact if_neg (by omega)
def lS(a b:Cf):Cf:=fun i=>a i-b i
theorem cG.sub{l:Nat}{a b:Cf}(ha:cG l a)(hb:cG l b):cG l (lS a b):=fun i hi=>by
 show a i-b i=0;rw[ha i hi,hb i hi];exact Rat.sub_self
theorem Eo{v:List NQ}(hrt:cD v)(hp:pH v): ∀(l:Nat) {a:NQ},aq l a→l≤v.length→aT v l (cf a)≠0→aT v l (lS (mulC v l (cf a) (cf (jw l v a))) nw)=0:=by
 have one: ∀(l:Nat) (s:NQ),l≤v.length→s.length=1→s.getD 0 0≠0→aT v l (lS (mulC v l (cf s) (cf [1 / s.getD 0 0])) nw)=0:=fun l s hl h1 h0=>by
  have e:mulC v l (cf s) (cf [1 / s.getD 0 0])=nw:=by
   rw[cy v (aN (a:=s) (l:=0) (by rw[h1];exact Nat.le_refl _)) (aN (a:=[1 / s.getD 0 0]) (l:=0) (by exact Nat.le_refl _)) (Nat.zero_le l)];funext i;show (if i=0 then s.getD 0 0*(1 / s.getD 0 0) else 0)=if i=0 then 1 else 0
   split
   · rw[Rat.div_def,Rat.one_mul,Rat.mul_inv_cancel _ h0]
   · rfl
  rw[e,show lS nw nw=zC from funext fun i=>Rat.sub_self];exact eU v l
 intro l
 induction l with
 | zero =>
   intro a ha hl h;have hs:=bW ha;have hc:=bN ha;have ho:=od ha;show aT v 0 (lS (mulC v 0 (cf a) (cf (kV _ _ _ _ (ay a)))) nw)=0;rw[← hc] at h ⊢;generalize ay a=s at *;rcases hs with e | ⟨i,hi,e⟩
   · rw[List.length_eq_zero_iff.1 e] at h;exact absurd (eU v 0) h
   · obtain rfl:i=0:=by omega
     unfold kV;rw[if_pos e];exact one 0 s (Nat.zero_le _) e (ho e)
 | succ l ih =>
   intro a ha hl h;have hs:=bW ha;have hc:=bN ha;have ho:=od ha;show aT v (l+1) (lS (mulC v (l+1) (cf a) (cf (kV (jw l v) (dw l v) (eA l v) (aR (l+1) v) (ay a)))) nw)=0;rw[← hc] at h ⊢;generalize ay a=s at *;by_cases h0:s.length=0
   · rw[List.length_eq_zero_iff.1 h0] at h;exact absurd (eU v (l+1)) h
   unfold kV;by_cases h1:s.length=1
   · rw[if_pos h1];exact one (l+1) s hl h1 (ho h1)
   rw[if_neg h1]
   obtain ⟨j,hj,hsl⟩: ∃j,j≤l∧s.length=2^(j+1):=by
    rcases hs with e | ⟨i,hi,e⟩
    · exact absurd e h0
    · rcases i with _ | j
      · exact absurd e h1
      · exact⟨j,by omega,e⟩
   obtain ⟨e1,e2,e3⟩:=bh hsl;have hx:aq l (s.take (s.length / 2)):= .inr ⟨j,hj,e1⟩;have hy:aq l (s.drop (s.length / 2)):= .inr ⟨j,hj,e2⟩;have hn:=qh hj hsl hrt (by omega);have ex:iJ j (cf (s.take (s.length / 2))) (cf s):=dN _ e3;have ey:cf (s.drop (s.length / 2))=bz j (cf s):=gO _ e3
   have lowN:cG j (bL v j (cf s)):=fun i hi=>by
    unfold bL;rw[a7 v j _ _ i hi,a7 v j _ _ i hi];exact Rat.sub_self
   have ls:cG (j+1) (cf s):=aN (by omega);have lx:cG j (cf (s.take (s.length / 2))):=aN (by omega);obtain ⟨Tj⟩:=EX hp j (by omega);have hdj:=hp j (by omega)
   let T:=D0 Tj hdj
   obtain ⟨Tl⟩:=EX hp l (by omega);obtain ⟨TL⟩:=EX hp (l+1) hl;rw[fj l hn.1 hrt (by omega),hn.2,bD v lowN hj];rw[bD v ls (by omega)] at h
   have hT:Tj.R.sgn (OR.nr (Tj.of (cf (v.getD j []))) (T.of (cf s)))=aT v j (bL v j (cf s)):=by
    rw[← Tj.sgn]
    congr 1
    show Tj.of (cf s)*Tj.of (cf s) -Tj.of (bz j (cf s))*Tj.of (bz j (cf s))*Tj.of (cf (v.getD j []))=Tj.of (bL v j (cf s));rw[← Tj.mul,← Tj.mul,← Tj.mul,← Tj.sub];rfl
   by_cases hN:aT v j (bL v j (cf s))=0
   · rw[if_pos hN];have hxx:aq l (aJ (s.take (s.length / 2)) (s.take (s.length / 2))):=hx.plus hx;have cxx:cf (aJ (s.take (s.length / 2)) (s.take (s.length / 2)))=fun i=>cf (s.take (s.length / 2)) i+cf (s.take (s.length / 2)) i:=funext fun i=>ez _ _ i
     have lxx:cG j (cf (aJ (s.take (s.length / 2)) (s.take (s.length / 2)))):=by
      rw[cxx];exact fun i hi=>by
       show _+_=(0:Rat);rw[lx i hi];exact Rat.add_zero 0
     have F:T.R.sgn (-Tj.of (cf s),Tj.of (bz j (cf s)))=0∧Tj.R.sgn (Tj.of (cf s)+Tj.of (cf s))≠0:=by
      have hes:T.R.sgn (T.of (cf s))≠0:=by rw[T.sgn];exact h
      exact OR.BI (R:=Tj.R) (d:=Tj.of (cf (v.getD j []))) (by rw[Tj.sgn];exact hdj) hes (by
       have h5:=hT;rw[hN] at h5;exact h5)
     have hr:=ih hxx (by omega) (by
      rw[bD v lxx hj,← Tj.sgn,cxx,Tj.add,Tj.cong _ _ ex]
      exact F.2)
     obtain ⟨r,hrr⟩: ∃r,jw l v (aJ (s.take (s.length / 2)) (s.take (s.length / 2)))=r:=⟨_,rfl⟩;have hrl:aq l r:=by rw[← hrr];exact gB l hxx hrt (by omega)
     rw[hrr] at hr ⊢
     have g1:aT v (l+1) (lS (cf s) (cf (aJ (s.take (s.length / 2)) (s.take (s.length / 2)))))=0:=by
      rw[bD v (ls.sub (lxx.mono (by omega))) (by omega),← T.sgn]
      have:T.of (lS (cf s) (cf (aJ (s.take (s.length / 2)) (s.take (s.length / 2)))))=(-Tj.of (cf s),Tj.of (bz j (cf s))):=by
       refine Prod.ext ?_ ?_
       · show Tj.of (lS (cf s) (cf (aJ (s.take (s.length / 2)) (s.take (s.length / 2)))))= -Tj.of (cf s);rw[show Tj.of (lS (cf s) (cf (aJ (s.take (s.length / 2)) (s.take (s.length / 2)))))=Tj.of (cf s) -Tj.of (cf (aJ (s.take (s.length / 2)) (s.take (s.length / 2)))) from Tj.sub _ _,cxx,Tj.add,Tj.cong _ _ ex];exact Rg.fH [Tj.of (cf s)] (X0-(X0+X0)) (-X0) rfl
       · show Tj.of (bz j (lS (cf s) (cf (aJ (s.take (s.length / 2)) (s.take (s.length / 2))))))=Tj.of (bz j (cf s));refine Tj.cong _ _ fun i hi=>?_;show cf s (2^j+i) -cf (aJ (s.take (s.length / 2)) (s.take (s.length / 2))) (2^j+i)=cf s (2^j+i);rw[lxx _ (by omega)];exact Rat.sub_eq_add_neg .. |>.trans (by rw[Rat.neg_zero,Rat.add_zero])
      rw[this];exact F.1
     have g2:aT v (l+1) (lS (mulC v (l+1) (cf (aJ (s.take (s.length / 2)) (s.take (s.length / 2)))) (cf r)) nw)=0:=by
      rw[cy v (aN hxx.le) (aN hrl.le) (Nat.le_succ l),bD v ((a7 v l _ _).sub (v7 l)) (Nat.le_succ l)];exact hr
     rw[← TL.sgn] at g1 g2 ⊢;rw[show TL.of (lS _ _)=_ from TL.sub _ _,TL.mul,TL.one] at g2 ⊢;rw[show TL.of (lS _ _)=_ from TL.sub _ _] at g1
     have e:TL.of (cf s)*TL.of (cf r) -1=(TL.of (cf s) -TL.of (cf (aJ (s.take (s.length / 2)) (s.take (s.length / 2)))))*TL.of (cf r)+(TL.of (cf (aJ (s.take (s.length / 2)) (s.take (s.length / 2))))*TL.of (cf r) -1) :=
      Rg.fH [TL.of (cf s),TL.of (cf r),TL.of (cf (aJ (s.take (s.length / 2)) (s.take (s.length / 2))))] (X0*X1-1) ((X0-X2)*X1+(X2*X1-1)) rfl
     rw[e,OR.null _ _ (OR.iH _ g1)];exact g2
   · rw[if_neg hN];have hr:=ih hn.1 (by omega) (by rw[hn.2,bD v lowN hj];exact hN);obtain ⟨r,hrr⟩: ∃r,jw l v (eA l v s)=r:=⟨_,rfl⟩;have hrl:aq l r:=by rw[← hrr];exact gB l hn.1 hrt (by omega)
     rw[hrr] at hr ⊢;rw[hn.2] at hr
     have hjl:aq (l+1) (de (s.take (s.length / 2)) (aL (s.drop (s.length / 2))) (s.length / 2)):= .inr ⟨j+1,by omega,by
      rw[dF]
      omega⟩
     have cJ: ∀i,cf (de (s.take (s.length / 2)) (aL (s.drop (s.length / 2))) (s.length / 2)) i=if i<2^j then cf (s.take (s.length / 2)) i else cf (aL (s.drop (s.length / 2))) (i-2^j):=fun i=>Dm _ e3 (by rw[eP];omega) i
     have lJ:cG (j+1) (cf (de (s.take (s.length / 2)) (aL (s.drop (s.length / 2))) (s.length / 2))):=aN (by rw[dF];omega);have ht:=ga (l+1) hjl (hrl.mono (Nat.le_succ l)) hrt hl;rw[ht.2];generalize de (s.take (s.length / 2)) (aL (s.drop (s.length / 2))) (s.length / 2)=J at cJ lJ hjl ht
     have eN:mulC v (l+1) (cf s) (cf J)=bL v j (cf s):=by
      rw[cy v ls lJ (by omega)];refine iJ.full (T.inj _ _ ?_) (a7 v (j+1) _ _) (lowN.mono (Nat.le_succ j));rw[T.mul];have o1:Tj.of (cf J)=Tj.of (cf s):=Tj.cong _ _ fun i hi=>by rw[cJ i,if_pos hi];exact ex i hi
      have o2:Tj.of (bz j (cf J))= -Tj.of (bz j (cf s)):=by
       rw[← Tj.neg];refine Tj.cong _ _ fun i hi=>?_;show cf J (2^j+i)= -cf s (2^j+i);rw[cJ,if_neg (by omega),jE,Nat.add_sub_cancel_left,ey];rfl
      have o3:Tj.of (bz j (bL v j (cf s)))=0:=by rw[lowN.wE,Tj.zero]
      have o4:Tj.of (bL v j (cf s))=Tj.of (cf s)*Tj.of (cf s) -Tj.of (bz j (cf s))*Tj.of (bz j (cf s))*Tj.of (cf (v.getD j [])):=by
       rw[← Tj.mul,← Tj.mul,← Tj.mul,← Tj.sub];rfl
      refine Prod.ext ?_ ?_
      · show Tj.of (cf s)*Tj.of (cf J)+Tj.of (bz j (cf s))*Tj.of (bz j (cf J))*Tj.of (cf (v.getD j []))=Tj.of (bL v j (cf s));rw[o1,o2,o4];exact Rg.fH [Tj.of (cf s),Tj.of (bz j (cf s)),Tj.of (cf (v.getD j []))] (X0*X0+X1* -X1*X2) (X0*X0-X1*X1*X2) rfl
      · show Tj.of (cf s)*Tj.of (bz j (cf J))+Tj.of (bz j (cf s))*Tj.of (cf J)=Tj.of (bz j (bL v j (cf s)));rw[o1,o2,o3];exact Rg.fH [Tj.of (cf s),Tj.of (bz j (cf s))] (X0* -X1+X1*X0) 0 rfl
     have g2:aT v (l+1) (lS (mulC v (l+1) (bL v j (cf s)) (cf r)) nw)=0:=by
      rw[cy v (lowN.mono hj) (aN hrl.le) (Nat.le_succ l),bD v ((a7 v l _ _).sub (v7 l)) (Nat.le_succ l)];exact hr
     rw[← eN] at g2;rw[← TL.sgn] at g2 ⊢;rw[show TL.of (lS _ _)=_ from TL.sub _ _,TL.mul,TL.mul,TL.one] at g2 ⊢;rw[← Rg.mul_assoc];exact g2
structure FV (v:List NQ) where
 K:Fd
 val:NQ→K.T
 add: ∀{a b:NQ},aq v.length a→aq v.length b→val (vq a b)=val a+val b
 sub: ∀{a b:NQ},aq v.length a→aq v.length b→val (pL a b)=val a-val b
 neg: ∀{a:NQ},aq v.length a→val (El a)= -val a
 mul: ∀{a b:NQ},aq v.length a→aq v.length b→val (js v a b)=val a*val b
 div: ∀{a b:NQ},aq v.length a→aq v.length b→oh v b≠0→val (sX v a b)=val a*K.inv (val b)
 nil:val []=0
 one:val [1]=1
 sg: ∀{a:NQ},aq v.length a→(oh v a=0↔val a=0)
 eq: ∀{a b:NQ},aT v v.length (cf (aJ a (aL b)))=0↔val a=val b
 inv: ∀{b:NQ},aq v.length b→oh v b≠0→val (jw v.length v b)=K.inv (val b)
theorem Dl:cf []=zC:=rfl
theorem Dk:cf [1]=nw:=funext fun i=>by
 cases i with
 | zero=>rfl
 | succ i=>rfl
theorem DJ{m:Nat}{v:List NQ}(V:nV m v):Nonempty (FV v):=by
 obtain ⟨T⟩:=EX V.pos v.length (Nat.le_refl _);have hs: ∀{a:NQ},aq v.length a→oh v a=aT v v.length (cf a):=fun h=>fj v.length h V.ro (Nat.le_refl _)
 have iv: ∀{b:NQ},aq v.length b→oh v b≠0→OR.cl T.inv (T.of (cf (jw v.length v b)))=(T.R.fd T.inv).inv (OR.cl T.inv (T.of (cf b))):=fun {b} hb h0=>by
  rw[hs hb] at h0;have h:=Eo V.ro V.pos v.length hb (Nat.le_refl _) h0;refine Fd.inv_eq ?_;rw[← OR.BO,← T.mul,← OR.EE,OR.BP,← T.one,← T.sub,T.sgn];exact h
 refine⟨⟨T.R.fd T.inv,fun a=>OR.cl T.inv (T.of (cf a)),fun {a b} ha hb=>?_,fun {a b} ha hb=>?_,fun {a} ha=>?_,fun {a b} ha hb=>?_,fun {a b} ha hb h0=>?_,?_,?_,fun {a} ha=>?_,fun {a b}=>?_,iv⟩⟩
 · show OR.cl T.inv (T.of (cf (ay (aJ a b))))=_;rw[bN (ha.plus hb),show cf (aJ a b)=fun i=>cf a i+cf b i from funext fun i=>ez a b i,T.add];rfl
 · show OR.cl T.inv (T.of (cf (ay (aJ a (aL b)))))=_;rw[bN (ha.plus hb.minus),show cf (aJ a (aL b))=fun i=>cf a i-cf b i from funext fun i=>by rw[ez,jE];exact(Rat.sub_eq_add_neg ..).symm,T.sub];rfl
 · show OR.cl T.inv (T.of (cf (ay (aL a))))=_;rw[bN ha.minus,show cf (aL a)=fun i=> -cf a i from funext fun i=>jE a i,T.neg];rfl
 · have ht:=ga v.length ha hb V.ro (Nat.le_refl _);show OR.cl T.inv (T.of (cf (ay (aR v.length v a b))))=_;rw[bN ht.1,ht.2,T.mul];rfl
 · have ht:=ga v.length ha (gB v.length hb V.ro (Nat.le_refl _)) V.ro (Nat.le_refl _);show OR.cl T.inv (T.of (cf (ay (aR v.length v a (jw v.length v b)))))=_;rw[bN ht.1,ht.2,T.mul,OR.BO,iv hb h0]
 · show OR.cl T.inv (T.of (cf []))=0;rw[Dl,T.zero];rfl
 · show OR.cl T.inv (T.of (cf [1]))=1;rw[Dk,T.one];rfl
 · rw[OR.Gl,T.sgn,hs ha]
 · rw[OR.BP,← T.sub,T.sgn,show cf (aJ a (aL b))=fun i=>cf a i-cf b i from funext fun i=>by rw[ez,jE];exact(Rat.sub_eq_add_neg ..).symm]
end Lift
namespace Lift
open Go
open Go.RowKit (Below)
section
variable {P:Program} {T:Ty} {B:Nat} {F0:Nat→Prop} {w0:bY} {n d:Nat} {o:Oper} {σ:St} {K:St→Prop} {all:Array Oper} {rest:List Oper} {lk hm:Nat→Option AV}
end
end Lift
namespace Lift
open Go
open Go.RowKit (Below)
section
variable {P:Program} {T:Ty} {B:Nat} {F0:Nat→Prop} {w0:bY} {n:Nat} {σ τ σ0:St} {ops all:Array Oper} {l rest:List Oper} {o:Oper} {d:Nat} {lk hm:Nat→Option AV} {K:St→Prop} {ds:List Nat}
end
end Lift
namespace Lift
open Go
open Go.RowKit (Below)
section
variable {P:Program} {T:Ty} {B:Nat} {F0:Nat→Prop} {w0:bY} {n:Nat} {σ:St} {all:Array Oper} {rest:List Oper} {o1 o2:Oper} {K:St→Prop}
end
end Lift
namespace Lift
open Go
open Go.RowKit (Below)
section
variable {P:Program} {T:Ty} {B:Nat} {F0:Nat→Prop} {w0:bY} {n:Nat} {σ:St} {all:Array Oper} {rest:List Oper} {o:Oper} {d:Nat} {K:St→Prop}
def BE(T:Ty)(lk:Nat→Option AV):Op→Option (Nat×List D)
 | .binOp .eql t x (.const (.slice none 0 0)) _=>match T.get t,b9 T (ex T lk 0 x) with
   | some ti,some (.sl s xs)=>match Nat.beq ti.kind 4 with
     | true=>some (s,xs)
     | false=>none
   | _,_=>none
 | _=>none
theorem x9{w:World}{t e:TypeId}(hi:P.underlying t=some (.slice e))(k:Nat)(b:Option Addr)(l c:Nat):(Op.equalIn (k+1) t (.slice b l c) (.slice none 0 0)).run P w= .ok b.isNone w:=by
 cases b<;>simp[Op.equalIn,run_underlying hi]
theorem BD{w:World}{t e:TypeId}(hi:P.underlying t=some (.slice e))(b:Option Addr)(l c:Nat):(Op.equal t (.slice b l c) (.slice none 0 0)).run P w= .ok b.isNone w:=x9 hi 9999 b l c
theorem BT{w:World}{t e:TypeId}(hi:P.underlying t=some (.slice e))(b:Option Addr)(l c:Nat):(Go.binOp .eql t (.slice b l c) (.slice none 0 0)).run P w= .ok (.bool b.isNone) w:=by
 have:Go.binOp .eql t (.slice b l c) (.slice none 0 0)=(do pure (.bool (← Op.equal t (.slice b l c) (.slice none 0 0))):Sem Value):=rfl;rw[this];simp only[Sem.run_bind,BD hi,Result.andThen_ok,Sem.run_pure]
theorem ab.eqn(hT:bf P T){s:Nat}{xs:List D}(hd:o.dst=some d)(hdn:Nat.ble (d+1) n=true)(hg:o.guard=none)(hx:BE T σ.get o.op=some (s,xs))
  (h: ∀b:Bool,(xs≠[]→b=false)→ab P B F0 w0 n all rest K ((d,.d (.v (.bool b)))::σ)):ab P B F0 w0 n all (o::rest) K σ:=by
 intro a w hR Q hQ;unfold wpList;rw[if_pos (by simp[Region.wanted,hg])];refine .inl ?_;obtain ⟨O,hOr,hO⟩:=hR.own;have hI:=hR.inv hOr hO (fun t=> .tmp t∈o.op.operands) d;obtain ⟨dst,op,ty,pos,after,guard⟩:=o;simp only[] at hd hx hI;cases op<;>try (simp only[BE] at hx;cases hx;done)
 rename_i bop t x y ty2;cases bop<;>try (simp only[BE] at hx;cases hx;done)
 cases y<;>try (simp only[BE] at hx;cases hx;done)
 rename_i c;unfold BE at hx;split at hx<;>try (cases hx;done)
 rename_i heq;simp only[Op.binOp.injEq,Operand.const.injEq,true_and] at heq;obtain ⟨rfl,rfl,rfl,rfl⟩:=heq;split at hx<;>try (cases hx;done)
 rename_i ti s' xs' hti hdx;split at hx<;>simp at hx;rename_i hk;obtain ⟨rfl,rfl⟩:=hx;obtain ⟨info,dd,z,hok⟩:=hT _ ti hti;have hrd:=c6 hT hI (fun t ht=>by subst ht;simp[Op.operands]) hdx;obtain ⟨ad,cap,hv,h1,h2,hne⟩:=Rd.vH hrd
 have hg2:(eqGuard .eql t x (.const (.slice none 0 0)) (a.eval x) (.slice none 0 0)).run P w= .ok () w:=by
  rw[hv];simp[eqGuard]
 refine aV (v:= .bool ad.isNone) (w':=w) ?_ ?_
 · simp only[execOp,eval_const,Sem.run_bind,hg2,Result.andThen_ok];rw[hv];rw[BT (hok.gH hk).1];rfl
 · rw[hd];refine h ad.isNone (fun hx=>?_) _ _ (hR.put hOr hO (Nat.le_of_ble_eq_true hdn) (cO.refl hI.lt) (show dc _ _ _ _ _ _ _ _ (.d (.v (.bool ad.isNone))) (.bool ad.isNone) from Rd.v rfl)) Q hQ;rcases hne with e | ⟨b,off,cs,e,fz,hb,_⟩
   · exact absurd e hx
   · rw[hb];rfl
end
end Lift
namespace Lift
open Go Go.Proofs
end Lift
namespace Lift
open Go Go.Proofs
end Lift
namespace Lift
open Go Go.Proofs
end Lift
namespace Lift
open Go Go.Proofs
end Lift
namespace Lift
open Go Go.Proofs
abbrev RwR(r:List (List RD)):D:= .sl 1 (r.map cF)
abbrev MxR(a:List (List (List RD))):D:= .sl 1 (a.map RwR)
abbrev bu(r:List NQ):D:= .sl 1 (r.map af)
abbrev cZ(a:List (List NQ)):D:= .sl 1 (a.map bu)
structure B9 (m:Nat) (rt:List (List RD)) (a:List (List (List RD))):Prop where
 n: ∀i k,yq m rt ((a.getD i []).getD k [])
 l:a.length≤1000000
 r: ∀i,(a.getD i []).length≤1000000
def ah{α:Type}(a:List (List α)):Nat:=(a.getD 0 []).length
def tG(a:List (List (List RD)))(i:Nat):Nat:=if (a.getD i []).length≠ah a then 10 else 0
def ja(rt:List (List RD))(r:List (List RD)):Nat:=fE (fun k=>nS rt [r.getD k []]) (r.length-0) 0
def rA(rt:List (List RD))(a:List (List (List RD))):Nat :=
 if a.length=0 then 0 else if 32<a.length∨32<ah a then 4 else
 if fE (tG a) (a.length-0) 0≠0 then fE (tG a) (a.length-0) 0 else fE (fun i=>ja rt (a.getD i [])) (a.length-0) 0
def kf(rt:List (List RD))(a:List (List (List RD))):Nat:=if ck rt≠0 then ck rt else rA rt a
structure ER (m:Nat) (rt:List (List RD)):Prop where
 w: ∀i,i<rt.length→(rt.getD i []).length=2^i→wN m (rt.getD i [])
 m1:1≤m
 l:rt.length≤1000000
 ll: ∀i,i<rt.length→(rt.getD i []).length≤4398046511104
 ok:rt.length≤5→ny rt.length m
 m2:m≤1000000
theorem jt{m:Nat}{rt:List (List RD)}{x:List RD}(T:ER m rt)(X:yq m rt x):Pure Tryz.prog 67 [TrD rt,cF x] (x8 (nS rt [x])):=by
 refine qJ 14 Tryz.func67 rfl rfl rfl rfl (by kernel_rfl) (fun B F0 w0=>?_);have hm:=T.m2;have c:=sH rt x T.w T.m1 T.l T.ll T.ok X.w X.l (by omega);unfold Ay at c;refine qX 2 rfl ?_;refine qK 2 rfl ?_;by_cases h:nS rt [x]≠0
 · rw[if_pos h] at c;refine ab.call tok rfl rfl rfl rfl c ?_;refine qU 5 rfl ?_;refine qK 2 rfl ?_;exact qN rfl
 rw[if_neg h] at c;have h:nS rt [x]=0:=by omega
 rw[h];refine ab.call tok rfl rfl rfl rfl c ?_;refine qU 5 rfl ?_;refine qK 2 rfl ?_;exact qN rfl
theorem zh{rt:List (List RD)}(h:ck rt=0)(x:List RD):nS rt [x]=a6 rt.length x:=by
 unfold nS;rw[if_neg (by rw[h];simp)];show (if a6 rt.length x=0 then 0 else a6 rt.length x)=_;split
 · rename_i e;exact e.symm
 · rfl
set_option maxHeartbeats 1600000 in
theorem kS{rt:List (List RD)}{a:List (List (List RD))}(hal:a.length≤1000000)(har: ∀i,(a.getD i []).length≤1000000)(han: ∀i k,Pure Tryz.prog 67 [TrD rt,cF ((a.getD i []).getD k [])] (x8 (nS rt [(a.getD i []).getD k []]))):Pure Tryz.prog 55 [TrD rt,MxR a] (x8 (rA rt a)):=by
 refine qJ 61 Tryz.func55 rfl rfl rfl rfl (by kernel_rfl) (fun B F0 w0=>?_);unfold rA;obtain ⟨E,hE⟩: ∃E,fE (tG a) (a.length-0) 0=E:=⟨_,rfl⟩;obtain ⟨G,hG⟩: ∃G,fE (fun i=>ja rt (a.getD i [])) (a.length-0) 0=G:=⟨_,rfl⟩;rw[hE,hG];refine qX 2 rfl ?_;refine qI ?_;refine qX 2 rfl ?_;rw[List.length_map];refine qU 1 rfl ?_;refine ab.nil ?_;by_cases h0:a.length=0
 · rw[if_pos h0,h0];refine AW.aF rfl ?_;refine qX 1 rfl ?_;exact qN rfl
 rw[if_neg h0,beq_eq_false_iff_ne.2 (show (a.length:Int)≠0 by omega)];have hc0:ah a=(a.getD 0 []).length:=rfl;have hcl:=har 0;have g0:=getM RwR (l:=a) (i:=0) (by omega);refine AW.au rfl ?_
 · skip
   refine AW.skip (AW.seq ?_);refine qX 2 rfl ?_;rw[List.length_map];refine qU 1 rfl ?_;by_cases h1:32<a.length
   · rw[decide_eq_true (show (32:Int)<(a.length:Int) by omega),if_pos (.inl h1)];refine qU 7 rfl ?_;refine ab.nil ?_;refine AW.aF rfl ?_;refine qX 2 rfl ?_;exact qN rfl
   rw[decide_eq_false (show ¬(32:Int)<(a.length:Int) by omega)];refine qU 2 rfl ?_;refine ab.idx tok (RwR (a.getD 0 [])) rfl rfl rfl rfl (Int.le_refl _) g0 ?_;refine qU 2 rfl ?_;rw[List.length_map];refine qU 1 rfl ?_;by_cases h2:32<ah a
   · rw[decide_eq_true (show (32:Int)<((a.getD 0 []).length:Int) by omega),if_pos (.inr h2)];refine qU 1 rfl ?_;refine ab.nil ?_;refine AW.aF rfl ?_;refine qX 2 rfl ?_;exact qN rfl
   rw[decide_eq_false (show ¬(32:Int)<((a.getD 0 []).length:Int) by omega),if_neg (fun h=>h.elim h1 h2)];refine qU 1 rfl ?_;refine ab.nil ?_;refine AW.au rfl ?_
   · refine AW.skip (AW.seq ?_);refine qX 2 rfl ?_;rw[List.length_map];refine qU 1 rfl ?_;refine ab.nil ?_;refine AW.block ?_;refine AW.aE [1,2,26,27,28] (fun i:Nat=>[(1,.d (MxR a)),(2,.bx [.sl 1 (rt.map cF)]),(26,.d (MxR a)),(27,.d (dI a.length)),(28,.d (dI i))]) (fun i=>i≤a.length∧fE (tG a) (a.length-i) i=E) (fun i=>a.length-i) 0 rfl ⟨Nat.zero_le _,hE⟩ (fun i ⟨hi,hiE⟩=>?_)
     · show AW _ _ _ _ _ _ _ [(1,.d (MxR a)),(2,.bx [.sl 1 (rt.map cF)]),(26,.d (MxR a)),(27,.d (dI a.length)),(28,.d (dI i))];refine qX 1 rfl ?_;refine qI ?_;refine AW.cond rfl (fun h=>?_) (fun h=>?_)
       · have hii:i<a.length:=by have:=of_decide_eq_true h;omega
         have hg:=getM RwR (l:=a) (i:=i) hii;have hri:=har i;have hmiss:=fun h0:tG a i=0=>(fA hii h0).symm.trans hiE;have hhit:=fun h0:tG a i≠0=>(iB hii h0).symm.trans hiE;refine AW.skip (AW.seq (AW.block (AW.seq (AW.region ?_))));refine ab.idx tok (RwR (a.getD i [])) rfl rfl rfl rfl (Int.natCast_nonneg i) hg ?_;refine qU 2 rfl ?_;refine qK 2 rfl ?_;rw[List.length_map];refine qU 1 rfl ?_;refine ab.idx tok (RwR (a.getD 0 [])) rfl rfl rfl rfl (Int.le_refl _) g0 ?_;refine qU 2 rfl ?_;rw[List.length_map];refine qU 1 rfl ?_;refine ab.nil ?_;refine AW.cond rfl (fun h=>?_) (fun h=>?_)
         · have hne:(a.getD i []).length≠ah a:=by have:=bne_iff_ne.1 h;omega
           have e:tG a i=10:=if_pos hne;have:=hhit (by rw[e];decide);rw[e] at this;subst this;rw[if_pos (by decide)];refine qX 2 rfl ?_;exact qN rfl
         · have heq:(a.getD i []).length=ah a:=by have:=bne_eq_false_iff_eq.1 h;omega
           have e:tG a i=0:=if_neg (fun h=>h heq);refine AW.skip ?_;refine qT 1 rfl ?_;rw[aC (x:=(i:Int)+1) (by omega) (by omega)];refine qU 1 rfl ?_;refine ab.nil ?_;exact⟨i+1,rfl,⟨hii,hmiss e⟩,by omega⟩
       have hii: ¬i<a.length:=by have:=of_decide_eq_false h;omega
       rw[iC hii] at hiE;subst hiE;rw[if_neg (by decide)];refine AW.exit (AW.seq ?_);refine qX 2 rfl ?_;rw[List.length_map];refine qU 1 rfl ?_;refine ab.nil ?_;refine AW.block ?_;refine AW.aE [1,2,41,42,43] (fun i:Nat=>[(1,.d (MxR a)),(2,.bx [.sl 1 (rt.map cF)]),(41,.d (MxR a)),(42,.d (dI a.length)),(43,.d (dI i))]) (fun i=>i≤a.length∧fE (fun i=>ja rt (a.getD i [])) (a.length-i) i=G) (fun i=>a.length-i) 0 rfl ⟨Nat.zero_le _,hG⟩ (fun i ⟨hi,hiG⟩=>?_)
       · show AW _ _ _ _ _ _ _ [(1,.d (MxR a)),(2,.bx [.sl 1 (rt.map cF)]),(41,.d (MxR a)),(42,.d (dI a.length)),(43,.d (dI i))];refine qX 1 rfl ?_;refine qI ?_;refine AW.cond rfl (fun h=>?_) (fun h=>?_)
         · have hii:i<a.length:=by have:=of_decide_eq_true h;omega
           have hg:=getM RwR (l:=a) (i:=i) hii;have hri:=har i;have hni:=han i;have hmiss:=fun h0:ja rt (a.getD i [])=0=>(fA (f:=fun i=>ja rt (a.getD i [])) hii h0).symm.trans hiG;have hhit:=fun h0:ja rt (a.getD i [])≠0=>(iB (f:=fun i=>ja rt (a.getD i [])) hii h0).symm.trans hiG;refine AW.skip (AW.seq (AW.block (AW.seq (AW.region ?_))));refine ab.idx tok (RwR (a.getD i [])) rfl rfl rfl rfl (Int.natCast_nonneg i) hg ?_;refine qU 2 rfl ?_;refine ab.nil ?_;generalize a.getD i []=r at hri hni hmiss hhit;obtain ⟨H,hH⟩: ∃H,ja rt r=H:=⟨_,rfl⟩;rw[hH] at hmiss hhit;refine qX 2 rfl ?_;rw[List.length_map];refine qU 1 rfl ?_;refine ab.nil ?_;refine AW.block ?_;refine AW.aE [1,2,41,42,43,47,48,49] (fun k:Nat=>[(1,.d (MxR a)),(2,.bx [.sl 1 (rt.map cF)]),(41,.d (MxR a)),(42,.d (dI a.length)),(43,.d (dI i)),(47,.d (RwR r)),(48,.d (dI r.length)),(49,.d (dI k))]) (fun k=>k≤r.length∧fE (fun k=>nS rt [r.getD k []]) (r.length-k) k=H) (fun k=>r.length-k) 0 rfl ⟨Nat.zero_le _,hH⟩ (fun k ⟨hk,hkH⟩=>?_)
           · show AW _ _ _ _ _ _ _ [(1,.d (MxR a)),(2,.bx [.sl 1 (rt.map cF)]),(41,.d (MxR a)),(42,.d (dI a.length)),(43,.d (dI i)),(47,.d (RwR r)),(48,.d (dI r.length)),(49,.d (dI k))];refine qX 1 rfl ?_;refine qI ?_;refine AW.cond rfl (fun h=>?_) (fun h=>?_)
             · have hkk:k<r.length:=by have:=of_decide_eq_true h;omega
               have hg2:=getM cF (l:=r) (i:=k) hkk;have cn:=hni k;have km:=fun h0:nS rt [r.getD k []]=0=>(fA (f:=fun k=>nS rt [r.getD k []]) hkk h0).symm.trans hkH;have kh:=fun h0:nS rt [r.getD k []]≠0=>(iB (f:=fun k=>nS rt [r.getD k []]) hkk h0).symm.trans hkH;refine AW.skip (AW.seq (AW.block (AW.seq (AW.region ?_))));refine ab.idx tok (cF (r.getD k [])) rfl rfl rfl rfl (Int.natCast_nonneg k) hg2 ?_;refine qU 2 rfl ?_;refine qK 2 rfl ?_;refine ab.call tok rfl rfl rfl rfl cn ?_;refine qU 1 rfl ?_;refine ab.nil ?_;generalize nS rt [r.getD k []]=e at cn km kh;rcases e with _ | z
               rotate_left
               · have:=kh (Nat.succ_ne_zero z);subst this;have:=hhit (Nat.succ_ne_zero z);subst this;refine qX 1 rfl ?_;refine ab.err tok rfl rfl rfl rfl rfl ?_;refine ab.nil ?_;refine AW.aF rfl ?_;refine qX 2 rfl ?_;exact qN rfl
               refine qX 1 rfl ?_;refine ab.err tok rfl rfl rfl rfl rfl ?_;refine ab.nil ?_;refine AW.au rfl ?_
               · skip
                 refine AW.skip ?_;refine qT 1 rfl ?_;rw[aC (x:=(k:Int)+1) (by omega) (by omega)];refine qU 1 rfl ?_;refine ab.nil ?_;exact⟨k+1,rfl,⟨hkk,km rfl⟩,by omega⟩
             have hkk: ¬k<r.length:=by have:=of_decide_eq_false h;omega
             rw[iC hkk] at hkH;subst hkH;refine AW.exit ?_;refine qT 1 rfl ?_;rw[aC (x:=(i:Int)+1) (by omega) (by omega)];refine qU 1 rfl ?_;refine ab.nil ?_;exact⟨i+1,rfl,⟨hii,hmiss rfl⟩,by omega⟩
         have hii: ¬i<a.length:=by have:=of_decide_eq_false h;omega
         rw[iC hii] at hiG;subst hiG;refine AW.exit ?_;refine qX 1 rfl ?_;exact qN rfl
theorem oL{m:Nat}{rt:List (List RD)}{a:List (List (List RD))}(T:ER m rt)(A:B9 m rt a):Pure Tryz.prog 55 [TrD rt,MxR a] (x8 (rA rt a)) :=
 kS A.l A.r (fun i k=>jt T (A.n i k))
theorem gz{m:Nat}{rt:List (List RD)}{a:List (List (List RD))}(T:ER m rt)(A:B9 m rt a):Pure Tryz.prog 20 [TrD rt,MxR a] (x8 (kf rt a)):=by
 refine qJ 14 Tryz.func20 rfl rfl rfl rfl (by kernel_rfl) (fun B F0 w0=>?_);have cc:=kC rt T.w T.m1 T.l T.ll T.ok;have cm:=oL T A;unfold kf;refine qX 2 rfl ?_;refine qI ?_;refine qX 1 rfl ?_;refine ab.call tok rfl rfl rfl rfl cc ?_;refine qU 1 rfl ?_;refine ab.nil ?_;generalize ck rt=e at cc ⊢;rcases e with _ | z
 rotate_left
 · rw[if_pos (Nat.succ_ne_zero z)];refine qX 1 rfl ?_;refine ab.err tok rfl rfl rfl rfl rfl ?_;refine ab.nil ?_;refine AW.aF rfl ?_;refine qX 2 rfl ?_;exact qN rfl
 rw[if_neg (by simp)];refine qX 1 rfl ?_;refine ab.err tok rfl rfl rfl rfl rfl ?_;refine ab.nil ?_;refine AW.au rfl ?_
 · skip
   refine AW.skip ?_;refine qX 2 rfl ?_;refine ab.call tok rfl rfl rfl rfl cm ?_;refine qU 1 rfl ?_;exact qN rfl
theorem im{v:List NQ}{a:NQ}(V:kl v)(ha:aq v.length a)(ok:pQ v a):Pure Tryz.prog 69 [bC v,af a] (dI (oh v a)):=by
 refine qJ 14 Tryz.func69 rfl rfl rfl rfl (by kernel_rfl) (fun B F0 w0=>?_);have c:=pd V ha ok;refine qX 2 rfl ?_;refine qK 2 rfl ?_;refine ab.call tok rfl rfl rfl rfl c ?_;refine qU 5 rfl ?_;refine qK 2 rfl ?_;exact qN rfl
theorem bQ(a:List (List NQ)):Pure Tryz.prog 47 [cZ a] (dI (ah a)):=by
 refine qJ 10 Tryz.func47 rfl rfl rfl rfl (by kernel_rfl) (fun B F0 w0=>?_);refine qX 1 rfl ?_;refine qI ?_;refine qX 2 rfl ?_;rw[List.length_map];refine qU 1 rfl ?_;refine ab.nil ?_;by_cases h0:a.length=0
 · rw[List.length_eq_zero_iff.1 h0];refine AW.aF rfl ?_;refine qX 1 rfl ?_;exact qN rfl
 rw[beq_eq_false_iff_ne.2 (show (a.length:Int)≠0 by omega)];have g0:=getM bu (l:=a) (i:=0) (by omega);refine AW.au rfl ?_
 · refine AW.skip ?_;refine qX 1 rfl ?_;refine ab.idx tok (bu (a.getD 0 [])) rfl rfl rfl rfl (Int.le_refl _) g0 ?_;refine qU 2 rfl ?_;rw[List.length_map];refine qU 1 rfl ?_;exact qN rfl
def Fe(r:List NQ)(res:D)(R':List LR):Prop:= ∃V,res= .v V∧R'=[(V,AV.ow 53 (r.map af))]
theorem jC(r:List NQ)(hl:r.length≤1000000):lp Tryz.prog 68 [bu r] [] (Fe r):=by
 refine lp.intro (n:=8) tok Tryz.func68 rfl rfl rfl (Nat.le_of_ble_eq_true rfl) (by kernel_rfl) (fun B F0 w0=>?_);refine AZ.seq ?_;refine AZ.gK (fun B1 F1 w1=>?_);refine qU 1 rfl ?_;refine ab.nil ⟨rfl,?_⟩;refine AZ.seq ?_;refine AZ.seq ?_;refine AZ.gK (fun B1 F1 w1=>?_);refine qU 1 rfl ?_;refine ab.eqn tok rfl rfl rfl rfl (fun b hb=>?_);refine ab.nil ⟨rfl,?_⟩;refine AZ.cond rfl (fun h=>?_) (fun h=>?_)
 · have hr:r=[]:=by
    refine Classical.byContradiction fun hr=>?_;have:=hb (by simp[hr]);rw[this] at h;cases h
   subst hr;refine AZ.seq ?_;refine AZ.gK (fun B1 F1 w1=>?_);refine qU 1 rfl ?_;refine ab.nil ⟨rfl,?_⟩;exact AZ.jc 2 rfl rfl rfl (fun V=>AZ.ret ⟨.v V,rfl,V,rfl,rfl⟩)
 · skip
   refine AZ.skip ?_;refine AZ.seq ?_;refine AZ.gK (fun B1 F1 w1=>?_);refine qU 2 rfl ?_;refine ab.wY tok rfl rfl rfl rfl (by rw[List.length_map];show r.length*24≤_;omega) ?_;refine qU 1 rfl ?_;refine ab.nil ⟨rfl,?_⟩;exact AZ.jc 2 rfl rfl rfl (fun V=>AZ.ret ⟨.v V,rfl,V,rfl,rfl⟩)
end Lift
namespace Lift
open Go
open Go.RowKit (Below)
section
variable {P:Program} {T:Ty} {B:Nat} {F0:Nat→Prop} {w0:bY} {n:Nat} {σ:St} {R:List LR} {all ops:Array Oper} {l:List Oper} {o:Oper} {x:Code} {a:Act} {w:World} {K:List LR→St→Prop} {p:jJ} {Q:Exit→List LR→St→Prop}
theorem kY: ∀{cs:List D},(∀d,d∈cs→d.flat=[d])→flatAll cs=cs
 | [],h=>rfl
 | d::r,h=>by
   show d.flat++flatAll r=d::r;rw[h d (List.mem_cons_self ..),kY (fun x hx=>h x (List.mem_cons_of_mem _ hx))];rfl
theorem bI.Eu{i j k e eo:Nat}{V Vo:Value}{xs cs:List D}(hR:bI P B F0 w0 n R σ a w)(hj:R[j]?=some (Vo,.ow eo cs))(hc1: ∀d,d∈cs→d.flat=[d])(hk:cs[k]?=some (.v V))(hi:R[i]?=some (V,.ow e xs))(hij:i≠j):
  bI P B F0 w0 n ((R.set i (V,.junk)).set j (Vo,.ow eo (cs.set k (.sl (P.cellsOf e) xs)))) σ a w:=by
 obtain ⟨O,hOr,hO,hL⟩:=hR.own
 let O':Nat→Option Nat:=fun b=>if O b=some (n+i) then none else O b
 have h1: ∀b t,O' b=some t→O b=some t:=fun b t h=>by
  simp only[O'] at h;split at h
  · cases h
  · exact h
 have h2: ∀b t,t≠n+i→O b=some t→O' b=some t:=fun b t ht h=>by
  simp only[O',h];rw[if_neg (by simpa using ht)]
 have hF: ∀c,aG O (FW B F0 w) c→aG O' (FW B F0 w) c:=fun c hc=>⟨by simp only[O',hc.1];simp,hc.2⟩
 have hlt: ∀t av,σ.get t=some av→t<n:=fun t av h=>by
  obtain ⟨v,hv,_⟩:=hO t av h;rw[← hR.size];exact(Array.getElem?_eq_some_iff.1 hv).1
 have hil:=(List.getElem?_eq_some_iff.1 hi).1;have hjl:=(List.getElem?_eq_some_iff.1 hj).1;have hkl:=(List.getElem?_eq_some_iff.1 hk).1;refine⟨hR.below,hR.base,hR.f0,hR.defers,hR.size,O',fun b t hb=>hOr b t (h1 b t hb),fun j av hav=>?_,fun m r hr=>?_⟩
 · obtain ⟨v,hv,hr⟩:=hO j av hav;exact⟨v,hv,hr.move (fun c hc=>⟨hF c hc,rfl⟩) (fun _ c hc=>⟨h2 c j (by have:=hlt j av hav;omega) hc,rfl⟩) (fun k _ x _ hk=>⟨hk,rfl⟩)⟩
 · by_cases hmj:m=j
   · subst hmj;rw[List.getElem?_set_self (by simpa using hjl)] at hr;cases hr
     have hcs': ∀d,d∈cs.set k (.sl (P.cellsOf e) xs)→d.flat=[d]:=fun d hd=>by
      rcases List.mem_or_eq_of_mem_set hd with h | h
      · exact hc1 d h
      · subst h;rfl
     rcases hL m _ hj with h | ⟨_,_,h⟩
     · cases h
     refine .inr ⟨rfl,rfl,?_⟩;rcases h with ⟨base,h3,h4⟩ | ⟨b',cap,cs',h3,h4,h5,h6,h7,h8,h9,h10⟩
     · subst h4;simp at hk
     · simp only at h3;subst h3;refine .inr ⟨b',cap,cs',by simp,h2 b' _ (by omega) h4,h5,by simpa using h6,h7,h8,fun d hd=>?_,fun q d hd=>?_⟩
       · rcases List.mem_or_eq_of_mem_set hd with h | h
         · exact h9 d h
         · subst h;have:=h9 _ (List.mem_of_getElem? hk);exact this
       · rw[kY hcs'] at hd;rw[kY hc1] at h10;by_cases hq:q=k
         · subst hq;rw[List.getElem?_set_self hkl] at hd;cases hd;obtain ⟨_,u,hu,hru⟩:=h10 q _ hk;have:=(Rd.jN hru).1;subst this;refine⟨rfl,_,hu,?_⟩;rcases hL i _ hi with h | ⟨_,_,h⟩
           · cases h
           · rcases h with ⟨base,h3,h4⟩ | ⟨b2,cap2,cs2,g3,g4,g5,g6,g7,g8,g9,g10⟩
             · simp only at h3 h4;subst h3;subst h4;exact .nil (Nat.zero_le _)
             · simp only at g3;subst g3;refine Rd.kd (off:=0) ⟨by simp only[O',g4];simp,(hOr b2 _ g4).fw hR.f0⟩ g5 g6 g7 g9 (fun m d hd=>?_);obtain ⟨f1,u,f2,f3⟩:=g10 m d hd;exact⟨f1,u,by simpa using f2,f3.mono hF (fun _ _=>rfl)⟩
         · rw[List.getElem?_set_ne (Ne.symm hq)] at hd;obtain ⟨f1,u,f2,f3⟩:=h10 q d hd;exact⟨f1,u,f2,f3.mono hF (fun _ _=>rfl)⟩
   · have hr:=gW hmj hr;by_cases hmi:m=i
     · subst hmi;rw[List.getElem?_set_self hil] at hr;cases hr;exact .inl rfl
     · have:=gW hmi hr;rcases hL m r this with h | ⟨g1,g2,g3⟩
       · exact .inl h
       · exact .inr ⟨g1,g2,g3.move (fun c hc=>⟨hF c hc,rfl⟩) (fun _ c hc=>⟨h2 c _ (by omega) hc,rfl⟩) (fun k _ x _ hk=>by cases hk)⟩
theorem AZ.Eu(hT:bf P T)(i j k:Nat){V Vo:Value}{e eo:Nat}{te:TI}{xs cs:List D}(hj:R[j]?=some (Vo,.ow eo cs))(hc1: ∀d,d∈cs→d.flat=[d])(hk:cs[k]?=some (.v V))(hi:R[i]?=some (V,.ow e xs))(hij:i≠j)(he:T.get e=some te)
  (h:AZ P B F0 w0 n x Q ((R.set i (V,.junk)).set j (Vo,.ow eo (cs.set k (.sl te.size xs)))) σ):AZ P B F0 w0 n x Q R σ:=by
 obtain ⟨info,d,z,hok⟩:=hT e te he;intro a w hR;have:=hR.Eu hj hc1 hk hi hij;rw[hok.cellsOf] at this;exact h a w this
theorem aj.wA(t i:Nat){av:AV}(ht:σ.get t=some av)(hrow:av.row.isSome=true)(htag:av.tag=false)(hi:Nat.ble (i+1) R.length=true)(h: ∀V:Value,aj P B F0 w0 n all l K p (R.set i (V,av)) ((t,.d (.v V))::σ.kill t)):aj P B F0 w0 n all l K p R σ:=by
 intro a w hR hpin Q hQ;obtain ⟨O,_,hO,_⟩:=hR.own;obtain ⟨V,hV,_⟩:=hO t _ ht;exact h V a w (hR.jc (i:=i) ht hrow htag hV (List.getElem?_set_self (Nat.le_of_ble_eq_true hi)) (fun j r hj hr=>gW hj hr)) hpin Q hQ
theorem ai{K:List LR→St→Prop}(h: ∀B1 F1 w1,sh P B1 F1 w1 R→ab P B1 F1 w1 n ops [o] (fun σ'=>σ'.fq=true∧K R σ') σ):aj P B F0 w0 n ops [o] K [] R σ :=
 aj.Gi 1 rfl (fun B1 F1 w1 hS=>by
  have:=h B1 F1 w1 hS
  refine fun a w hR Q hQ=>this a w hR Q (fun a' w' σ' ⟨h1,h2⟩ hR'=>hQ a' w' σ' ⟨h1,aj.nil h2⟩ hR'))
end
section
variable {P:Program} {T:Ty} {B:Nat} {F0:Nat→Prop} {w0:bY} {n:Nat} {σ:St} {R:List LR} {ops:Array Oper} {o1 o2 o3 o4:Oper} {Q:Exit→List LR→St→Prop} {β:fc} {fuel:Nat} {listed:Array Bool}
end
end Lift
namespace Lift
open Go Go.Proofs
abbrev fg(r:List NQ):AV:=AV.ow 53 (r.map af)
def fP{α:Type}(zs xs:List α)(i:Nat):List α:=zs.take i++xs.drop i
theorem rB{α:Type}{zs xs:List α}(h:zs.length=xs.length){i:Nat}(hi:i≤xs.length):(fP zs xs i).length=xs.length:=by
 unfold fP;rw[List.length_append,List.length_take,List.length_drop,h];omega
theorem wu{α:Type}{zs xs:List α}(h:zs.length=xs.length){i:Nat}(hi:i<xs.length)(d:α):(fP zs xs i).getD i d=xs.getD i d:=by
 unfold fP;rw[List.getD_eq_getElem?_getD,List.getElem?_append_right (by rw[List.length_take];omega),List.length_take,h,List.getElem?_drop,List.getD_eq_getElem?_getD]
 congr 2;omega
theorem wq{α:Type}{zs xs:List α}(h:zs.length=xs.length){i:Nat}(hi:i<xs.length){d z:α}(hz:zs.getD i d=z):(fP zs xs i).set i z=fP zs xs (i+1):=by
 subst hz;refine List.ext_getElem? (fun c=>?_);by_cases hc:c=i
 · subst hc;rw[List.getElem?_set_self (by rw[rB h (by omega)];exact hi)];unfold fP;rw[List.getElem?_append_left (by rw[List.length_take];omega),List.getElem?_take,if_pos (by omega)];have h1:c<zs.length:=by omega
   simp[h1]
 · rw[List.getElem?_set_ne (Ne.symm hc)];unfold fP;rcases Nat.lt_or_ge c i with g | g
   · rw[List.getElem?_append_left (by rw[List.length_take];omega),List.getElem?_append_left (by rw[List.length_take];omega),List.getElem?_take,List.getElem?_take,if_pos g,if_pos (by omega)]
   · rw[List.getElem?_append_right (by rw[List.length_take];omega),List.getElem?_append_right (by rw[List.length_take];omega),List.getElem?_drop,List.getElem?_drop,List.length_take,List.length_take]
     congr 1;omega
theorem tO{α:Type}(zs xs:List α):fP zs xs 0=xs:=by unfold fP;simp
theorem wv{α:Type}{zs xs:List α}(h:zs.length=xs.length):fP zs xs xs.length=zs:=by
 unfold fP;rw[List.drop_length,List.append_nil,← h,List.take_length]
section
variable {P:Program} {T:Ty} {B:Nat} {F0:Nat→Prop} {w0:bY} {n:Nat} {σ τ:St} {K:St→Prop} {all:Array Oper} {o:Oper} {d:Nat} {rest:List Oper}
theorem ab.uq(hT:bf P T){k e i:Nat}{r:List NQ}(q:NQ)(hd:o.dst=none)(hg:aA all σ o=true)(hx:yL T σ o.op=some (k,.ow e (r.map af),r.map af,i,0,af q))(hi:i<r.length)
  (h:ab P B F0 w0 n all rest K ((k,.ow e ((r.set i q).map af))::σ)):ab P B F0 w0 n all (o::rest) K σ:=by
 refine ab.iN hT (af (r.getD i [])) hd hg hx (getM af hi) rfl ?_;show ab P B F0 w0 n all rest K ((k,.ow e ((r.map af).set i (af q)))::σ);rw[show (r.map af).set i (af q)=(r.set i q).map af from (List.map_set ..).symm];exact h
end
def l8(v:List NQ)(xs ys:List NQ)(c:NQ):List NQ:=(List.range xs.length).map fun k=>pL (xs.getD k []) (js v c (ys.getD k []))
theorem ly(v:List NQ)(xs ys:List NQ)(c:NQ):(l8 v xs ys c).length=xs.length:=by unfold l8;rw[List.length_map,List.length_range]
theorem lz(v:List NQ)(xs ys:List NQ)(c:NQ){k:Nat}(h:k<xs.length):(l8 v xs ys c).getD k []=pL (xs.getD k []) (js v c (ys.getD k [])):=by
 unfold l8;rw[List.getD_eq_getElem?_getD,List.getElem?_map,List.getElem?_range h];rfl
def xM(v:List NQ)(xs ys:List NQ)(c:NQ):Prop:= ∀k,k<xs.length→rn v c (ys.getD k [])∧A2 (xs.getD k []) (js v c (ys.getD k []))
def Ak(V1 V2:Value)(zs ys:List NQ)(res:D)(R':List LR):Prop:=res=ao∧R'=[(V1,fg zs),(V2,fg ys)]
theorem jW{v:List NQ}(V:kl v){a b:NQ}(ha:aq v.length a)(hb:aq v.length b):aq v.length (js v a b):=bW (dR v.length ha hb V.ro (Nat.le_refl _))
theorem Cu{l:Nat}{a b:NQ}(ha:aq l a)(hb:aq l b):aq l (pL a b):=bW (ha.plus hb.minus)
theorem De{v:List NQ}(V:kl v){a b:NQ}(ha:aq v.length a)(hb:aq v.length b):aq v.length (sX v a b):=bW (dR v.length ha (gB v.length hb V.ro (Nat.le_refl _)) V.ro (Nat.le_refl _))
set_option maxHeartbeats 3200000 in
theorem rC(V1 V2:Value){v:List NQ}(V:kl v){xs ys:List NQ}{c:NQ}(hl:ys.length=xs.length)(hl0:0<xs.length)(hl1:xs.length≤1000000)(hx: ∀k,aq v.length (xs.getD k []))(hy: ∀k,aq v.length (ys.getD k []))(hc:aq v.length c)(ok:xM v xs ys c):
  lp Tryz.prog 90 [bC v,.v V1,.v V2,af c] [(V1,fg xs),(V2,fg ys)] (Ak V1 V2 (l8 v xs ys c) ys):=by
 refine lp.intro (n:=47) tok Tryz.func90 rfl rfl rfl (Nat.le_of_ble_eq_true rfl) (by kernel_rfl) (fun B F0 w0=>?_);have hz:=ly v xs ys c;obtain ⟨zs,hzs⟩: ∃zs,l8 v xs ys c=zs:=⟨_,rfl⟩;rw[hzs] at hz ⊢;refine AZ.seq ?_;refine AZ.gK (fun B1 F1 w1=>?_);refine qU 2 rfl ?_;refine ab.nil ⟨rfl,?_⟩;refine AZ.seq ?_;refine AZ.seq ?_;refine AZ.AN (fun B1 F1 w1 hS=>?_);refine qU 1 rfl ?_;refine ab.lens tok (hS.at (i:=0) rfl (by rw[List.length_map];exact hl0)) rfl rfl rfl rfl ?_;refine qU 1 rfl ?_;rw[List.length_map];refine ab.nil ⟨rfl,?_⟩;refine AZ.block ?_;refine AZ.aE [1,2,3,4,13,14] (fun i:Nat=>([(V1,fg (fP zs xs i)),(V2,fg ys)],[(1,.d (.v V1)),(2,.d (.v V2)),(3,.d (af c)),(4,.bx [.sl 1 (v.map af)]),(13,.d (dI xs.length)),(14,.d (dI i))])) (fun i=>i≤xs.length) (fun i=>xs.length-i) 0 (by rw[tO];rfl) (Nat.zero_le _) (fun i hi=>?_)
 · show AZ _ _ _ _ _ _ _ [(V1,fg (fP zs xs i)),(V2,fg ys)] [(1,.d (.v V1)),(2,.d (.v V2)),(3,.d (af c)),(4,.bx [.sl 1 (v.map af)]),(13,.d (dI xs.length)),(14,.d (dI i))];refine AZ.seq ?_;refine AZ.gK (fun B1 F1 w1=>?_);refine qU 1 rfl ?_;refine ab.nil ⟨rfl,?_⟩;refine AZ.seq ?_;refine AZ.cond rfl (fun h=>?_) (fun h=>?_)
   · have hin:i<xs.length:=by have:=of_decide_eq_true h;omega
     have hpl:=rB hz (i:=i) (by omega);have hpg:=wu hz hin [];have hps:=wq hz hin (d:=[]) (show zs.getD i []=pL (xs.getD i []) (js v c (ys.getD i [])) by rw[← hzs];exact lz v xs ys c hin);have hyi:i<ys.length:=by omega
     obtain ⟨okm,oks⟩:=ok i hin;have cm:=mu V hc (hy i) okm;have cs:=xg V (hx i) (jW V hc (hy i)) oks;generalize fP zs xs i=ps at *;generalize hX:xs.getD i []=X at *;generalize hY:ys.getD i []=Y at *;generalize js v c Y=M at *;generalize pL X M=S at *;refine AZ.skip ?_;refine AZ.seq ?_;refine AZ.block ?_;refine AZ.seq ?_;refine AZ.gK (fun B1 F1 w1=>?_);refine qU 2 rfl ?_;refine ab.nil ⟨rfl,?_⟩;refine AZ.seq ?_;refine AZ.any aM (w6.zb 11 (by kernel_rfl) (fun B1 F1 w1 hS=>?_));have hS2:=hS.at (i:=1) rfl (by rw[List.length_map];omega);refine qP 4 rfl ?_;refine ae.idxs tok hS2 rfl rfl rfl rfl rfl (Int.natCast_nonneg i) (by rw[List.length_map];exact hyi) ?_;refine ae.aX tok (af (ys.getD i [])) hS2 rfl rfl rfl rfl rfl rfl rfl (getM af hyi) rfl ?_;rw[hY];refine ae.call tok rfl rfl rfl rfl rfl cm ?_;refine qP 4 rfl ?_;refine ae.nil ⟨rfl,?_⟩;refine aj.cut 1 rfl (fun B1 F1 w1=>?_);refine qU 1 rfl ?_;refine ab.nil ⟨rfl,?_⟩;refine aj.nil ?_;refine AZ.to [1,2,3,4,9,10,11,13,14] [(1,.d (.v V1)),(2,.d (.v V2)),(3,.d (af c)),(4,.bx [.sl 1 (v.map af)]),(9,.d (dI i)),(10,.d (af M)),(11,.d ao),(13,.d (dI xs.length)),(14,.d (dI i))] rfl ?_;refine AZ.seq ?_;refine AZ.seq ?_;refine AZ.gK (fun B1 F1 w1=>?_);refine qU 1 rfl ?_;refine ab.err tok rfl rfl rfl rfl rfl ?_;refine ab.nil ⟨rfl,?_⟩;refine AZ.au rfl ?_;refine AZ.skip ?_;refine AZ.seq ?_;refine AZ.any aM (ZH.any (β:=[]) ?_);refine ZH.mv 0 rfl rfl (by kernel_rfl) (by kernel_rfl) (by kernel_rfl) rfl (fun _ _ _ h=>h) (fun _=>rfl) trivial (fun B1 F1 w1=>?_);refine qU 1 rfl ?_;refine ab.nil ⟨rfl,?_⟩;refine ZH.mv 1 rfl rfl (by kernel_rfl) (by kernel_rfl) (by kernel_rfl) rfl (fun _ _ _ h=>h) (fun _=>rfl) trivial (fun B1 F1 w1=>?_);refine qU 1 rfl ?_;refine ab.nil ⟨rfl,?_⟩;refine ZH.mv 3 rfl rfl (by kernel_rfl) (by kernel_rfl) (by kernel_rfl) rfl (fun _ _ _ h=>h) (fun _=>rfl) trivial (fun B1 F1 w1=>?_);refine qU 1 rfl ?_;refine ab.nil ⟨rfl,?_⟩;refine ZH.mv 4 rfl rfl (by kernel_rfl) (by kernel_rfl) (by kernel_rfl) rfl (fun _ _ _ h=>h) (fun _=>rfl) trivial (fun B1 F1 w1=>?_);refine qU 1 rfl ?_;refine ab.nil ⟨rfl,?_⟩;refine ZH.mv 7 rfl rfl (by kernel_rfl) (by kernel_rfl) (by kernel_rfl) rfl (fun _ _ _ h=>h) (fun _=>rfl) trivial (fun B1 F1 w1=>?_);refine qU 1 rfl ?_;refine ab.nil ⟨rfl,?_⟩;refine ZH.meet 0 (qB 15 32767) (fun V=>[(V1,fg (fP zs xs (i+1))),(V2,fg ys)]) (fun V=>[(1,.d (.v V1)),(2,.d (.v V2)),(3,.d (af c)),(4,.bx [.sl 1 (v.map af)]),(9,.d (dI i)),(10,.d (af M)),(13,.d (dI xs.length)),(14,.d (dI i)),(31,.d (.v V1)),(32,.d (dI i)),(34,.d (.v V1)),(35,.d (dI i)),(38,.d (af M)),(33,.d (bC v)),(36,.d (.v (bg V1 (i*1)))),(37,.d (af X)),(39,.d (.tu [af S,ao])),(30,.d (.tu [af S,ao])),(40,.d (af S)),(41,.d ao),(11,.d ao)]) (fun V=>?_) (fun N1_2_5_1_1=>?_)
     · refine ZH.done (by kernel_rfl) trivial ?_;refine AZ.to [1,2,3,4,11,13,14] [(1,.d (.v V1)),(2,.d (.v V2)),(3,.d (af c)),(4,.bx [.sl 1 (v.map af)]),(11,.d ao),(13,.d (dI xs.length)),(14,.d (dI i))] rfl ?_;refine AZ.seq ?_;refine AZ.gK (fun B1 F1 w1=>?_);refine qU 1 rfl ?_;refine ab.err tok rfl rfl rfl rfl rfl ?_;refine ab.nil ⟨rfl,?_⟩;refine AZ.au rfl ?_;refine AZ.skip ?_;refine AZ.gK (fun B1 F1 w1=>?_);refine qU 1 rfl ?_;rw[aC (x:=(i:Int)+1) (by omega) (by omega)];refine qU 1 rfl ?_;refine ab.nil ⟨rfl,?_⟩;exact⟨i+1,rfl,hin,by omega⟩
     refine ZH.meet 1 (qB 15 16383) (fun V=>[(V1,fg (fP zs xs (i+1))),(V2,fg ys)]) (fun V=>[(1,.d (.v V1)),(2,.d (.v V2)),(3,.d (af c)),(4,.bx [.sl 1 (v.map af)]),(9,.d (dI i)),(10,.d (af M)),(13,.d (dI xs.length)),(14,.d (dI i)),(31,.d (.v V1)),(32,.d (dI i)),(34,.d (.v V1)),(35,.d (dI i)),(38,.d (af M)),(33,.d (bC v)),(36,.d (.v (bg V1 (i*1)))),(37,.d (af X)),(39,.d (.tu [af S,ao])),(30,.d (.tu [af S,ao])),(40,.d (af S)),(41,.d ao)]) (fun V=>?_) (fun N1_2_5_1_0=>?_)
     · refine ZH.all 14 (by kernel_rfl) rfl rfl (fun _=>rfl) trivial ?_;refine ak (fun B1 F1 w1=>?_);refine qU 1 rfl ?_;refine ab.nil ⟨rfl,?_⟩;exact qL (N1_2_5_1_1 V) (by kernel_rfl) rfl trivial
     refine ZH.meet 2 (qB 15 8191) (fun V=>[(V1,fg ps),(V2,fg ys)]) (fun V=>[(1,.d (.v V1)),(2,.d (.v V2)),(3,.d (af c)),(4,.bx [.sl 1 (v.map af)]),(9,.d (dI i)),(10,.d (af M)),(13,.d (dI xs.length)),(14,.d (dI i)),(31,.d (.v V1)),(32,.d (dI i)),(34,.d (.v V1)),(35,.d (dI i)),(38,.d (af M)),(33,.d (bC v)),(36,.d (.v (bg V1 (i*1)))),(37,.d (af X)),(39,.d (.tu [af S,ao])),(30,.d (.tu [af S,ao])),(40,.d (af S)),(42,.d (.v (bg V1 (i*1)))),(41,.d ao)]) (fun V=>?_) (fun N1_2_4_1_0=>?_)
     · refine ZH.all 13 (by kernel_rfl) rfl rfl (fun _=>rfl) trivial ?_;refine aj.fa 31 0 rfl rfl rfl ?_;refine aj.el tok 31 42 rfl (List.Mem.head _) rfl rfl rfl (by rw[List.length_map,hpl];exact hin) rfl ?_;refine aj.cut 1 rfl (fun B1 F1 w1=>?_);refine ab.uq tok S rfl rfl rfl (by omega) ?_;rw[hps];refine ab.nil ⟨rfl,?_⟩;refine aj.back 31 0 rfl rfl rfl (List.Mem.head _) rfl ?_;refine aj.nil ?_;exact qL (N1_2_5_1_0 V) (by kernel_rfl) rfl trivial
     refine ZH.meet 2 (qB 15 14335) (fun V=>[(V1,fg (fP zs xs (i+1))),(V2,fg ys)]) (fun V=>[(1,.d (.v V1)),(2,.d (.v V2)),(3,.d (af c)),(4,.bx [.sl 1 (v.map af)]),(9,.d (dI i)),(10,.d (af M)),(13,.d (dI xs.length)),(14,.d (dI i)),(31,.d (.v V1)),(32,.d (dI i)),(34,.d (.v V1)),(35,.d (dI i)),(38,.d (af M)),(33,.d (bC v)),(36,.d (.v (bg V1 (i*1)))),(37,.d (af X)),(39,.d (.tu [af S,ao])),(30,.d (.tu [af S,ao])),(40,.d (af S))]) (fun V=>?_) (fun N1_2_5_0_0=>?_)
     · refine ZH.all 11 (by kernel_rfl) rfl rfl (fun _=>rfl) trivial ?_;refine ak (fun B1 F1 w1=>?_);refine qU 1 rfl ?_;refine ab.nil ⟨rfl,?_⟩;exact qL (N1_2_5_1_0 V) (by kernel_rfl) rfl trivial
     refine ZH.meet 3 (qB 15 4095) (fun V=>[(V1,fg ps),(V2,fg ys)]) (fun V=>[(1,.d (.v V1)),(2,.d (.v V2)),(3,.d (af c)),(4,.bx [.sl 1 (v.map af)]),(9,.d (dI i)),(10,.d (af M)),(13,.d (dI xs.length)),(14,.d (dI i)),(31,.d (.v V1)),(32,.d (dI i)),(34,.d (.v V1)),(35,.d (dI i)),(38,.d (af M)),(33,.d (bC v)),(36,.d (.v (bg V1 (i*1)))),(37,.d (af X)),(39,.d (.tu [af S,ao])),(30,.d (.tu [af S,ao])),(40,.d (af S)),(41,.d ao)]) (fun V=>?_) (fun N1_2_3_1_0=>?_)
     · refine ZH.all 12 (by kernel_rfl) rfl rfl (fun _=>rfl) trivial ?_;refine ai (fun B1 F1 w1 hS=>?_);refine ab.idxs tok (hS.at (i:=0) rfl (by rw[List.length_map];omega)) rfl rfl rfl rfl (Int.natCast_nonneg i) (by rw[List.length_map,hpl];exact hin) ?_;refine ab.nil ⟨rfl,?_⟩;exact qL (N1_2_4_1_0 V) (by kernel_rfl) rfl trivial
     refine ZH.meet 3 (qB 15 6143) (fun V=>[(V1,fg ps),(V2,fg ys)]) (fun V=>[(1,.d (.v V1)),(2,.d (.v V2)),(3,.d (af c)),(4,.bx [.sl 1 (v.map af)]),(9,.d (dI i)),(10,.d (af M)),(13,.d (dI xs.length)),(14,.d (dI i)),(31,.d (.v V1)),(32,.d (dI i)),(34,.d (.v V1)),(35,.d (dI i)),(38,.d (af M)),(33,.d (bC v)),(36,.d (.v (bg V1 (i*1)))),(37,.d (af X)),(39,.d (.tu [af S,ao])),(30,.d (.tu [af S,ao])),(40,.d (af S)),(42,.d (.v (bg V1 (i*1))))]) (fun V=>?_) (fun N1_2_4_0_0=>?_)
     · refine ZH.two 11 13 (by kernel_rfl) rfl rfl rfl rfl (fun _=>rfl) (fun _=>rfl) trivial ?_ ?_
       · refine ak (fun B1 F1 w1=>?_);refine qU 1 rfl ?_;refine ab.nil ⟨rfl,?_⟩;exact qL (N1_2_4_1_0 V) (by kernel_rfl) rfl trivial
       · refine aj.fa 31 0 rfl rfl rfl ?_;refine aj.el tok 31 42 rfl (List.Mem.head _) rfl rfl rfl (by rw[List.length_map,hpl];exact hin) rfl ?_;refine aj.cut 1 rfl (fun B1 F1 w1=>?_);refine ab.uq tok S rfl rfl rfl (by omega) ?_;rw[hps];refine ab.nil ⟨rfl,?_⟩;refine aj.back 31 0 rfl rfl rfl (List.Mem.head _) rfl ?_;refine aj.nil ?_;exact qL (N1_2_5_0_0 V) (by kernel_rfl) rfl trivial
     refine ZH.meet 4 (qB 15 3071) (fun V=>[(V1,fg ps),(V2,fg ys)]) (fun V=>[(1,.d (.v V1)),(2,.d (.v V2)),(3,.d (af c)),(4,.bx [.sl 1 (v.map af)]),(9,.d (dI i)),(10,.d (af M)),(13,.d (dI xs.length)),(14,.d (dI i)),(31,.d (.v V1)),(32,.d (dI i)),(34,.d (.v V1)),(35,.d (dI i)),(38,.d (af M)),(33,.d (bC v)),(36,.d (.v (bg V1 (i*1)))),(37,.d (af X)),(39,.d (.tu [af S,ao])),(30,.d (.tu [af S,ao])),(41,.d ao)]) (fun V=>?_) (fun N1_2_2_1_0=>?_)
     · refine ZH.all 10 (by kernel_rfl) rfl rfl (fun _=>rfl) trivial ?_;refine ak (fun B1 F1 w1=>?_);refine qU 1 rfl ?_;refine ab.nil ⟨rfl,?_⟩;exact qL (N1_2_3_1_0 V) (by kernel_rfl) rfl trivial
     refine ZH.meet 4 (qB 15 2047) (fun V=>[(V1,fg ps),(V2,fg ys)]) (fun V=>[(1,.d (.v V1)),(2,.d (.v V2)),(3,.d (af c)),(4,.bx [.sl 1 (v.map af)]),(9,.d (dI i)),(10,.d (af M)),(13,.d (dI xs.length)),(14,.d (dI i)),(31,.d (.v V1)),(32,.d (dI i)),(34,.d (.v V1)),(35,.d (dI i)),(38,.d (af M)),(33,.d (bC v)),(36,.d (.v (bg V1 (i*1)))),(37,.d (af X)),(39,.d (.tu [af S,ao])),(30,.d (.tu [af S,ao])),(40,.d (af S))]) (fun V=>?_) (fun N1_2_3_0_0=>?_)
     · refine ZH.two 11 12 (by kernel_rfl) rfl rfl rfl rfl (fun _=>rfl) (fun _=>rfl) trivial ?_ ?_
       · refine ak (fun B1 F1 w1=>?_);refine qU 1 rfl ?_;refine ab.nil ⟨rfl,?_⟩;exact qL (N1_2_3_1_0 V) (by kernel_rfl) rfl trivial
       · refine ai (fun B1 F1 w1 hS=>?_);refine ab.idxs tok (hS.at (i:=0) rfl (by rw[List.length_map];omega)) rfl rfl rfl rfl (Int.natCast_nonneg i) (by rw[List.length_map,hpl];exact hin) ?_;refine ab.nil ⟨rfl,?_⟩;exact qL (N1_2_4_0_0 V) (by kernel_rfl) rfl trivial
     refine ZH.meet 5 (qB 15 1023) (fun V=>[(V1,fg ps),(V2,fg ys)]) (fun V=>[(1,.d (.v V1)),(2,.d (.v V2)),(3,.d (af c)),(4,.bx [.sl 1 (v.map af)]),(9,.d (dI i)),(10,.d (af M)),(13,.d (dI xs.length)),(14,.d (dI i)),(31,.d (.v V1)),(32,.d (dI i)),(34,.d (.v V1)),(35,.d (dI i)),(38,.d (af M)),(33,.d (bC v)),(36,.d (.v (bg V1 (i*1)))),(37,.d (af X)),(39,.d (.tu [af S,ao])),(30,.d (.tu [af S,ao]))]) (fun V=>?_) (fun N1_2_2_0_0=>?_)
     · refine ZH.two 10 11 (by kernel_rfl) rfl rfl rfl rfl (fun _=>rfl) (fun _=>rfl) trivial ?_ ?_
       · refine ak (fun B1 F1 w1=>?_);refine qU 1 rfl ?_;refine ab.nil ⟨rfl,?_⟩;exact qL (N1_2_3_0_0 V) (by kernel_rfl) rfl trivial
       · refine ak (fun B1 F1 w1=>?_);refine qU 1 rfl ?_;refine ab.nil ⟨rfl,?_⟩;exact qL (N1_2_2_1_0 V) (by kernel_rfl) rfl trivial
     refine ZH.meet 6 (qB 15 511) (fun V=>[(V1,fg ps),(V2,fg ys)]) (fun V=>[(1,.d (.v V1)),(2,.d (.v V2)),(3,.d (af c)),(4,.bx [.sl 1 (v.map af)]),(9,.d (dI i)),(10,.d (af M)),(13,.d (dI xs.length)),(14,.d (dI i)),(31,.d (.v V1)),(32,.d (dI i)),(34,.d (.v V1)),(35,.d (dI i)),(38,.d (af M)),(33,.d (bC v)),(36,.d (.v (bg V1 (i*1)))),(37,.d (af X)),(39,.d (.tu [af S,ao]))]) (fun V=>?_) (fun N1_2_1_0_0=>?_)
     · refine ZH.all 9 (by kernel_rfl) rfl rfl (fun _=>rfl) trivial ?_;refine ak (fun B1 F1 w1=>?_);refine qU 1 rfl ?_;refine ab.nil ⟨rfl,?_⟩;exact qL (N1_2_2_0_0 V) (by kernel_rfl) rfl trivial
     refine ZH.meet 7 (qB 15 255) (fun V=>[(V1,fg ps),(V2,fg ys)]) (fun V=>[(1,.d (.v V1)),(2,.d (.v V2)),(3,.d (af c)),(4,.bx [.sl 1 (v.map af)]),(9,.d (dI i)),(10,.d (af M)),(13,.d (dI xs.length)),(14,.d (dI i)),(31,.d (.v V1)),(32,.d (dI i)),(34,.d (.v V1)),(35,.d (dI i)),(38,.d (af M)),(33,.d (bC v)),(36,.d (.v (bg V1 (i*1)))),(37,.d (af X))]) (fun V=>?_) (fun N1_2_0_0_0=>?_)
     · refine ZH.all 8 (by kernel_rfl) rfl rfl (fun _=>rfl) trivial ?_;refine ak (fun B1 F1 w1=>?_);refine ab.call tok rfl rfl rfl rfl cs ?_;refine ab.nil ⟨rfl,?_⟩;exact qL (N1_2_1_0_0 V) (by kernel_rfl) rfl trivial
     refine ZH.meet 8 (qB 15 251) (fun V=>[(V1,fg ps),(V2,fg ys)]) (fun V=>[(1,.d (.v V1)),(2,.d (.v V2)),(3,.d (af c)),(4,.bx [.sl 1 (v.map af)]),(9,.d (dI i)),(10,.d (af M)),(13,.d (dI xs.length)),(14,.d (dI i)),(31,.d (.v V1)),(32,.d (dI i)),(34,.d (.v V1)),(35,.d (dI i)),(38,.d (af M)),(36,.d (.v (bg V1 (i*1)))),(37,.d (af X))]) (fun V=>?_) (fun N0_2_0_0_0=>?_)
     · refine ZH.all 2 (by kernel_rfl) rfl rfl (fun _=>rfl) trivial ?_;refine ak (fun B1 F1 w1=>?_);refine qU 1 rfl ?_;refine ab.nil ⟨rfl,?_⟩;exact qL (N1_2_0_0_0 V) (by kernel_rfl) rfl trivial
     refine ZH.meet 8 (qB 15 191) (fun V=>[(V1,fg ps),(V2,fg ys)]) (fun V=>[(1,.d (.v V1)),(2,.d (.v V2)),(3,.d (af c)),(4,.bx [.sl 1 (v.map af)]),(9,.d (dI i)),(10,.d (af M)),(13,.d (dI xs.length)),(14,.d (dI i)),(31,.d (.v V1)),(32,.d (dI i)),(34,.d (.v V1)),(35,.d (dI i)),(38,.d (af M)),(33,.d (bC v)),(36,.d (.v (bg V1 (i*1))))]) (fun V=>?_) (fun N1_1_0_0_0=>?_)
     · refine ZH.all 6 (by kernel_rfl) rfl rfl (fun _=>rfl) trivial ?_;refine ai (fun B1 F1 w1 hS=>?_);refine ab.aX tok (af (ps.getD i [])) (hS.at (i:=0) rfl (by rw[List.length_map];omega)) rfl rfl rfl rfl rfl rfl (getM af (by omega)) rfl ?_;rw[hpg];refine ab.nil ⟨rfl,?_⟩;exact qL (N1_2_0_0_0 V) (by kernel_rfl) rfl trivial
     refine ZH.meet 9 (qB 15 187) (fun V=>[(V1,fg ps),(V2,fg ys)]) (fun V=>[(1,.d (.v V1)),(2,.d (.v V2)),(3,.d (af c)),(4,.bx [.sl 1 (v.map af)]),(9,.d (dI i)),(10,.d (af M)),(13,.d (dI xs.length)),(14,.d (dI i)),(31,.d (.v V1)),(32,.d (dI i)),(34,.d (.v V1)),(35,.d (dI i)),(38,.d (af M)),(36,.d (.v (bg V1 (i*1))))]) (fun V=>?_) (fun N0_1_0_0_0=>?_)
     · refine ZH.two 2 6 (by kernel_rfl) rfl rfl rfl rfl (fun _=>rfl) (fun _=>rfl) trivial ?_ ?_
       · refine ak (fun B1 F1 w1=>?_);refine qU 1 rfl ?_;refine ab.nil ⟨rfl,?_⟩;exact qL (N1_1_0_0_0 V) (by kernel_rfl) rfl trivial
       · refine ai (fun B1 F1 w1 hS=>?_);refine ab.aX tok (af (ps.getD i [])) (hS.at (i:=0) rfl (by rw[List.length_map];omega)) rfl rfl rfl rfl rfl rfl (getM af (by omega)) rfl ?_;rw[hpg];refine ab.nil ⟨rfl,?_⟩;exact qL (N0_2_0_0_0 V) (by kernel_rfl) rfl trivial
     refine ZH.meet 9 (qB 15 159) (fun V=>[(V1,fg ps),(V2,fg ys)]) (fun V=>[(1,.d (.v V1)),(2,.d (.v V2)),(3,.d (af c)),(4,.bx [.sl 1 (v.map af)]),(9,.d (dI i)),(10,.d (af M)),(13,.d (dI xs.length)),(14,.d (dI i)),(31,.d (.v V1)),(32,.d (dI i)),(34,.d (.v V1)),(35,.d (dI i)),(38,.d (af M)),(33,.d (bC v))]) (fun V=>?_) (fun N1_0_0_0_0=>?_)
     · refine ZH.all 5 (by kernel_rfl) rfl rfl (fun _=>rfl) trivial ?_;refine ai (fun B1 F1 w1 hS=>?_);refine ab.idxs tok (hS.at (i:=0) rfl (by rw[List.length_map];omega)) rfl rfl rfl rfl (Int.natCast_nonneg i) (by rw[List.length_map,hpl];exact hin) ?_;refine ab.nil ⟨rfl,?_⟩;exact qL (N1_1_0_0_0 V) (by kernel_rfl) rfl trivial
     refine ZH.meet 10 (qB 15 155) (fun V=>[(V1,fg ps),(V2,fg ys)]) (fun V=>[(1,.d (.v V1)),(2,.d (.v V2)),(3,.d (af c)),(4,.bx [.sl 1 (v.map af)]),(9,.d (dI i)),(10,.d (af M)),(13,.d (dI xs.length)),(14,.d (dI i)),(31,.d (.v V1)),(32,.d (dI i)),(34,.d (.v V1)),(35,.d (dI i)),(38,.d (af M))]) (fun V=>?_) (fun N0_0_0_0_0=>?_)
     · refine ZH.two 2 5 (by kernel_rfl) rfl rfl rfl rfl (fun _=>rfl) (fun _=>rfl) trivial ?_ ?_
       · refine ak (fun B1 F1 w1=>?_);refine qU 1 rfl ?_;refine ab.nil ⟨rfl,?_⟩;exact qL (N1_0_0_0_0 V) (by kernel_rfl) rfl trivial
       · refine ai (fun B1 F1 w1 hS=>?_);refine ab.idxs tok (hS.at (i:=0) rfl (by rw[List.length_map];omega)) rfl rfl rfl rfl (Int.natCast_nonneg i) (by rw[List.length_map,hpl];exact hin) ?_;refine ab.nil ⟨rfl,?_⟩;exact qL (N0_1_0_0_0 V) (by kernel_rfl) rfl trivial
     exact qL (N0_0_0_0_0 eO) (by kernel_rfl) rfl trivial
   have hin:i=xs.length:=by have:=of_decide_eq_false h;omega
   subst hin;rw[wv hz];refine AZ.exit ?_;refine AZ.seq ?_;refine AZ.gK (fun B1 F1 w1=>?_);refine qU 1 rfl ?_;refine ab.nil ⟨rfl,?_⟩;exact AZ.ret ⟨ao,rfl,rfl,rfl⟩
end Lift
namespace Lift
abbrev bw:=List (List NQ)
structure jG where
 rows:bw
 cols:List Nat
 sg:Int
 det:NQ
def gh(g:Nat→Bool):Nat→Nat→Nat
 | 0,i=>i
 | m+1,i=>if g i=true then i else gh g m (i+1)
theorem oU{g:Nat→Bool}{n i:Nat}(h:i<n)(h0:g i=false):gh g (n-i) i=gh g (n-(i+1)) (i+1):=by
 rw[show n-i=(n-(i+1))+1 by omega,gh,if_neg (by rw[h0];simp)]
theorem rL{g:Nat→Bool}{n i:Nat}(h:i<n)(h0:g i=true):gh g (n-i) i=i:=by
 rw[show n-i=(n-(i+1))+1 by omega,gh,if_pos h0]
theorem rM{g:Nat→Bool}{n i:Nat}(h: ¬i<n):gh g (n-i) i=i:=by rw[show n-i=0 by omega,gh]
theorem oV{g:Nat→Bool}: ∀{m i:Nat},i≤gh g m i∧gh g m i≤i+m∧(∀k,i≤k→k<gh g m i→g k=false)∧(gh g m i<i+m→g (gh g m i)=true)
 | 0,i=>⟨Nat.le_refl _,Nat.le_refl _,fun k h1 h2=>by simp only[gh] at h2;omega,fun h=>by simp only[gh] at h;omega⟩
 | m+1,i=>by
   simp only[gh];split
   · rename_i h;exact⟨Nat.le_refl _,by omega,fun k h1 h2=>by omega,fun _=>h⟩
   · rename_i h;obtain ⟨h1,h2,h3,h4⟩:=oV (g:=g) (m:=m) (i:=i+1);refine⟨by omega,by omega,fun k k1 k2=>?_,fun k=>h4 (by omega)⟩;by_cases e:k=i
     · subst e;simpa using h
     · exact h3 k (by omega) k2
def bX(a:bw)(i k:Nat):NQ:=(a.getD i []).getD k []
def Cg(v:List NQ)(a:bw)(c j:Nat):Bool:=decide (oh v (bX a j c)≠0)
def Cq(b:bw)(r t:Nat):bw:=(b.set t (b.getD r [])).set r (b.getD t [])
def db(v:List NQ)(e:bw)(r c:Nat):Nat→bw
 | 0=>e
 | i+1=>if i≠r∧oh v (bX (db v e r c i) i c)≠0 then (db v e r c i).set i (l8 v ((db v e r c i).getD i []) ((db v e r c i).getD r []) (bX (db v e r c i) i c)) else db v e r c i
def atR(v:List NQ)(s:jG)(c:Nat):Nat:=gh (Cg v s.rows c) (s.rows.length-s.cols.length) s.cols.length
def bR(v:List NQ)(s:jG)(c:Nat):bw:=if atR v s c=s.cols.length then s.rows else Cq s.rows s.cols.length (atR v s c)
def pR(v:List NQ)(s:jG)(c:Nat):NQ:=bX (bR v s c) s.cols.length c
def w8(v:List NQ)(r:List NQ)(p:NQ):List NQ:=r.map (fun x=>sX v x p)
def eR(v:List NQ)(s:jG)(c:Nat):bw:=(bR v s c).set s.cols.length (w8 v ((bR v s c).getD s.cols.length []) (pR v s c))
def dM(v:List NQ)(s:jG)(c:Nat):jG :=
 if atR v s c<s.rows.length then ⟨db v (eR v s c) s.cols.length c (eR v s c).length,s.cols++[c],if atR v s c=s.cols.length then s.sg else -s.sg,js v s.det (pR v s c)⟩ else s
def bk(v:List NQ)(a:bw):Nat→jG
 | 0=>⟨a,[],1,[1]⟩
 | c+1=>dM v (bk v a c) c
structure j6 (v:List NQ) (s:jG) (c:Nat):Prop where
 sg: ∀j,s.cols.length≤j→j<s.rows.length→pQ v (bX s.rows j c)
 det:atR v s c<s.rows.length→rn v s.det (pR v s c)
 div:atR v s c<s.rows.length→ ∀k,k<((bR v s c).getD s.cols.length []).length→A8 v (bX (bR v s c) s.cols.length k) (pR v s c)
 sg2:atR v s c<s.rows.length→ ∀i,i<s.rows.length→i≠s.cols.length→pQ v (bX (eR v s c) i c)
 take:atR v s c<s.rows.length→ ∀i,i<s.rows.length→i≠s.cols.length→oh v (bX (eR v s c) i c)≠0→xM v ((eR v s c).getD i []) ((eR v s c).getD s.cols.length []) (bX (eR v s c) i c)
def cL(N:Nat)(a:bw):Prop:= ∀j,j<a.length→(a.getD j []).length=N
def pI(l:Nat)(a:bw):Prop:= ∀j k,aq l (bX a j k)
theorem gC(a:bw)(i j:Nat)(r:List NQ):(a.set i r).getD j []=if j=i∧i<a.length then r else a.getD j []:=by
 rw[List.getD_eq_getElem?_getD,List.getElem?_set,List.getD_eq_getElem?_getD];by_cases e:i=j
 · subst e;by_cases h:i<a.length
   · rw[if_pos rfl,if_pos h,if_pos ⟨rfl,h⟩];rfl
   · rw[if_pos rfl,if_neg h,if_neg (fun e=>h e.2),List.getElem?_eq_none (by omega)]
 · rw[if_neg e,if_neg (fun h=>e h.1.symm)]
theorem lO{a:bw}{i:Nat}(h:a.length≤i):a.getD i []=[]:=by rw[List.getD_eq_getElem?_getD,List.getElem?_eq_none h];rfl
theorem lN{r:List NQ}{i:Nat}(h:r.length≤i):r.getD i []=[]:=by rw[List.getD_eq_getElem?_getD,List.getElem?_eq_none h];rfl
theorem cL.set{N:Nat}{a:bw}(h:cL N a){r:List NQ}(hr:r.length=N)(i:Nat):cL N (a.set i r):=fun j hj=>by
 rw[gC];split
 · exact hr
 · exact h j (by simpa using hj)
theorem pI.set{l:Nat}{a:bw}(h:pI l a){r:List NQ}(hr: ∀k,aq l (r.getD k []))(i:Nat):pI l (a.set i r):=fun j k=>by
 unfold bX;rw[gC];split
 · exact hr k
 · exact h j k
theorem Cp(b:bw)(r t:Nat):(Cq b r t).length=b.length:=by unfold Cq;rw[List.length_set,List.length_set]
theorem Ao{N:Nat}{b:bw}(h:cL N b){r t:Nat}(hr:r<b.length)(ht:t<b.length):cL N (Cq b r t):=(h.set (h r hr) t).set (h t ht) r
theorem D5{l:Nat}{b:bw}(h:pI l b)(r t:Nat):pI l (Cq b r t):=(h.set (h r) t).set (h t) r
theorem qd(v:List NQ)(r:List NQ)(p:NQ):(w8 v r p).length=r.length:=List.length_map ..
theorem qe(v:List NQ)(r:List NQ)(p:NQ){k:Nat}(h:k<r.length):(w8 v r p).getD k []=sX v (r.getD k []) p:=by
 unfold w8;rw[List.getD_eq_getElem?_getD,List.getElem?_map,List.getD_eq_getElem?_getD,List.getElem?_eq_getElem h];rfl
theorem Ej{v:List NQ}(V:kl v){r:List NQ}{p:NQ}(hr: ∀k,aq v.length (r.getD k []))(hp:aq v.length p)(k:Nat):aq v.length ((w8 v r p).getD k []):=by
 by_cases h:k<r.length
 · rw[qe v r p h];exact De V (hr k) hp
 · rw[lN (by rw[qd];omega)];exact bd _
theorem Al{v:List NQ}(V:kl v){xs ys:List NQ}{c:NQ}(hx: ∀k,aq v.length (xs.getD k []))(hy: ∀k,aq v.length (ys.getD k []))(hc:aq v.length c)(k:Nat):aq v.length ((l8 v xs ys c).getD k []):=by
 by_cases h:k<xs.length
 · rw[lz v xs ys c h];exact Cu (hx k) (jW V hc (hy k))
 · rw[lN (by rw[ly];omega)];exact bd _
theorem jB(v:List NQ)(e:bw)(r c:Nat): ∀i,(db v e r c i).length=e.length
 | 0=>rfl
 | i+1=>by
   unfold db;split
   · rw[List.length_set];exact jB v e r c i
   · exact jB v e r c i
theorem o8{N:Nat}{v:List NQ}{e:bw}{r c:Nat}(h:cL N e): ∀i,i≤e.length→cL N (db v e r c i)
 | 0,_=>h
 | i+1,hi=>by
   have ih:=o8 (v:=v) (r:=r) (c:=c) h i (by omega);unfold db;split
   · exact ih.set (by rw[ly];exact ih i (by rw[jB];omega)) i
   · exact ih
theorem vg{v:List NQ}(V:kl v){e:bw}{r c:Nat}(h:pI v.length e): ∀i,pI v.length (db v e r c i)
 | 0=>h
 | i+1=>by
   have ih:=vg V (r:=r) (c:=c) h i;unfold db;split
   · exact ih.set (Al V (ih i) (ih r) (ih i c)) i
   · exact ih
theorem fB(v:List NQ)(e:bw)(r c:Nat): ∀i,(∀j,i≤j∨j=r→(db v e r c i).getD j []=e.getD j [])
 | 0,j,_=>rfl
 | i+1,j,hj=>by
   have ih:=fB v e r c i j (by omega);unfold db;split
   · rename_i h;rw[gC,if_neg (fun g=>by rcases hj with hj | hj<;>omega)];exact ih
   · exact ih
theorem vi(v:List NQ)(e:bw)(r c:Nat)(i:Nat)(k:Nat):bX (db v e r c i) i k=bX e i k:=by unfold bX;rw[fB v e r c i i (.inl (Nat.le_refl _))]
structure sj (v:List NQ) (m N c:Nat) (s:jG):Prop where
 len:s.rows.length=m
 rect:cL N s.rows
 lt:pI v.length s.rows
 cl:s.cols.length≤c
 cm:s.cols.length≤m
 det:aq v.length s.det
 sg:s.sg=1∨s.sg= -1
theorem iE(v:List NQ)(s:jG)(c:Nat)(h:s.cols.length≤s.rows.length):s.cols.length≤atR v s c∧atR v s c≤s.rows.length∧(∀k,s.cols.length≤k→k<atR v s c→oh v (bX s.rows k c)=0)∧(atR v s c<s.rows.length→oh v (bX s.rows (atR v s c) c)≠0):=by
 obtain ⟨h1,h2,h3,h4⟩:=oV (g:=Cg v s.rows c) (m:=s.rows.length-s.cols.length) (i:=s.cols.length);refine⟨h1,by unfold atR;omega,fun k k1 k2=>?_,fun h=>?_⟩
 · have:=h3 k k1 k2;unfold Cg at this;exact Classical.byContradiction fun g=>by rw[decide_eq_true g] at this;cases this
 · exact of_decide_eq_true (h4 (by unfold atR at h;omega))
theorem wX{v:List NQ}{m N c k:Nat}{s:jG}(R:sj v m N k s)(h:atR v s c<s.rows.length):(bR v s c).length=m∧cL N (bR v s c)∧pI v.length (bR v s c):=by
 have hl:=R.len;have:=(iE v s c (by have:=R.cm;omega)).1;unfold bR;split
 · exact⟨R.len,R.rect,R.lt⟩
 · exact⟨by rw[Cp];exact R.len,Ao R.rect (by omega) h,D5 R.lt _ _⟩
theorem za{v:List NQ}(V:kl v){m N c k:Nat}{s:jG}(R:sj v m N k s)(h:atR v s c<s.rows.length):(eR v s c).length=m∧cL N (eR v s c)∧pI v.length (eR v s c):=by
 obtain ⟨h1,h2,h3⟩:=wX (c:=c) R h;have hl:=R.len;have:=(iE v s c (by have:=R.cm;omega)).1;unfold eR;exact⟨by rw[List.length_set];exact h1,h2.set (by rw[qd];exact h2 _ (by omega)) _,h3.set (Ej V (h3 _) (h3 _ _)) _⟩
theorem Cy{v:List NQ}(V:kl v){m N c:Nat}{s:jG}(R:sj v m N c s):sj v m N (c+1) (dM v s c):=by
 have hl:=R.len;have hc:=R.cl;unfold dM;split
 · rename_i h;obtain ⟨e1,e2,e3⟩:=za V (c:=c) R h;have ha:=(iE v s c (by have:=R.cm;omega)).1;refine⟨by rw[jB];exact e1,o8 e2 _ (Nat.le_refl _),vg V e3 _,?_,?_,jW V R.det ((wX R h).2.2 _ _),?_⟩
   · show (s.cols++[c]).length≤c+1;rw[List.length_append];show s.cols.length+1≤_;omega
   · show (s.cols++[c]).length≤m;rw[List.length_append];show s.cols.length+1≤_;omega
   · rcases R.sg with h1 | h1<;>(show (if _ then s.sg else -s.sg)=1∨_= -1;split<;>simp[h1])
 · exact⟨R.len,R.rect,R.lt,by omega,R.cm,R.det,R.sg⟩
theorem fN{v:List NQ}(V:kl v){a:bw}{N:Nat}(hr:cL N a)(hl:pI v.length a): ∀c,sj v a.length N c (bk v a c)
 | 0=>⟨rfl,hr,hl,Nat.le_refl _,Nat.zero_le _,gT _ _,.inl rfl⟩
 | c+1=>Cy V (fN V hr hl c)
theorem yO(v:List NQ): ∀c,bk v [] c=⟨[],[],1,[1]⟩
 | 0=>rfl
 | c+1=>by
   show dM v (bk v [] c) c=_;rw[yO v c];unfold dM;exact if_neg (Nat.not_lt_zero _)
end Lift
namespace Lift
def vM{v:List NQ}(F:FV v)(a:bw):Mk F.K:=fun i k=>F.val (bX a i k)
theorem tY(v:List NQ)(e:bw)(r c:Nat): ∀n i,i<n→n≤e.length→(db v e r c n).getD i []=if i≠r∧oh v (bX e i c)≠0 then l8 v (e.getD i []) (e.getD r []) (bX e i c) else e.getD i []
 | 0,i,hi,_=>absurd hi (Nat.not_lt_zero i)
 | n+1,i,hi,hn=>by
   by_cases e1:i=n
   · subst e1;unfold db;rw[vi];split
     · rw[gC,if_pos ⟨rfl,by rw[jB];omega⟩,fB v e r c i i (.inl (Nat.le_refl _)),fB v e r c i r (.inr rfl)]
     · exact fB v e r c i i (.inl (Nat.le_refl _))
   · have ih:=tY v e r c n i (by omega) (by omega);rw[← ih]
     conv=>lhs;unfold db
     split
     · rw[gC,if_neg (fun h=>e1 h.1)]
     · rfl
theorem ym{v:List NQ}{s:jG}{c i:Nat}(h1:s.cols.length≤atR v s c)(h:atR v s c<s.rows.length)(hi:i<s.rows.length):(bR v s c).getD i []=s.rows.getD (sw s.cols.length (atR v s c) i) []:=by
 unfold bR;split
 · rename_i e;rw[e];unfold sw;by_cases g:i=s.cols.length
   · rw[if_pos g,g]
   · rw[if_neg g,if_neg g]
 · unfold Cq sw;rw[gC,gC];by_cases g:i=s.cols.length
   · rw[if_pos ⟨g,by rw[List.length_set];omega⟩,if_pos g]
   · rw[if_neg (fun h=>g h.1),if_neg g];by_cases g2:i=atR v s c
     · rw[if_pos ⟨g2,h⟩,if_pos g2]
     · rw[if_neg (fun h=>g2 h.1),if_neg g2]
theorem At{v:List NQ}(V:kl v)(F:FV v){m N c:Nat}{s:jG}(R:sj v m N c s)(hc:c<N)(h:atR v s c<s.rows.length):
  vM F s.rows (atR v s c) c≠0∧ ∀i k,i<m→k<N→vM F (db v (eR v s c) s.cols.length c (eR v s c).length) i k=if i=s.cols.length then vM F s.rows (atR v s c) k*F.K.inv (vM F s.rows (atR v s c) c) else vM F s.rows (sw s.cols.length (atR v s c) i) k-vM F s.rows (sw s.cols.length (atR v s c) i) c*(vM F s.rows (atR v s c) k*F.K.inv (vM F s.rows (atR v s c) c)):=by
 have hl:=R.len;obtain ⟨a1,a2,a3,a4⟩:=iE v s c (by have:=R.cm;omega);have hz:=a4 h;obtain ⟨b1,b2,b3⟩:=wX (c:=c) R h;obtain ⟨e1,e2,e3⟩:=za V (c:=c) R h;have hrm:s.cols.length<m:=by omega
 have eB: ∀i k,i<m→bX (bR v s c) i k=bX s.rows (sw s.cols.length (atR v s c) i) k:=fun i k hi=>by
  unfold bX;rw[ym a1 h (by omega)]
 have hp:pR v s c=bX s.rows (atR v s c) c:=by
  unfold pR;rw[eB _ _ hrm,D4]
 have hpz:oh v (pR v s c)≠0:=by rw[hp];exact hz
 have eE: ∀i k,i<m→k<N→bX (eR v s c) i k=if i=s.cols.length then sX v (bX s.rows (atR v s c) k) (bX s.rows (atR v s c) c) else bX s.rows (sw s.cols.length (atR v s c) i) k:=fun i k hi hk=>by
  unfold bX eR;rw[gC];by_cases e:i=s.cols.length
  · rw[if_pos ⟨e,by omega⟩,if_pos e,qe _ _ _ (by rw[b2 _ (by omega)];exact hk),hp,ym a1 h (by omega),D4];rfl
  · rw[if_neg (fun h=>e h.1),if_neg e,ym a1 h (by omega)]
 have ltR:=R.lt
 have vE: ∀i k,i<m→k<N→F.val (bX (eR v s c) i k)=if i=s.cols.length then vM F s.rows (atR v s c) k*F.K.inv (vM F s.rows (atR v s c) c) else vM F s.rows (sw s.cols.length (atR v s c) i) k:=fun i k hi hk=>by
  rw[eE i k hi hk];by_cases e:i=s.cols.length
  · rw[if_pos e,if_pos e,F.div (ltR _ _) (ltR _ _) hz];rfl
  · rw[if_neg e,if_neg e];rfl
 refine⟨fun e=>hz ((F.sg (ltR _ _)).2 e),fun i k hi hk=>?_⟩;have hd:=tY v (eR v s c) s.cols.length c (eR v s c).length i (by omega) (Nat.le_refl _);show F.val (((db v (eR v s c) s.cols.length c (eR v s c).length).getD i []).getD k [])=_;rw[hd];by_cases e:i=s.cols.length
 · rw[if_neg (fun h=>h.1 e),if_pos e];have:=vE i k hi hk;rw[if_pos e] at this;exact this
 · rw[if_neg e];have v1:=vE i k hi hk;have v2:=vE i c hi hc;have v3:=vE s.cols.length k hrm hk;rw[if_neg e] at v1 v2;rw[if_pos rfl] at v3;by_cases g:oh v (bX (eR v s c) i c)=0
   · rw[if_neg (fun h=>h.2 g)];have z:=(F.sg (e3 i c)).1 g;rw[v2] at z;rw[z,Rg.zero_mul];show F.val (bX (eR v s c) i k)=_;rw[v1];exact(Rg.fH [vM F s.rows (sw s.cols.length (atR v s c) i) k] (X0-0) X0 rfl).symm
   · rw[if_pos ⟨e,g⟩,lz v _ _ _ (by rw[e2 i (by omega)];exact hk)];show F.val (pL (bX (eR v s c) i k) (js v (bX (eR v s c) i c) (bX (eR v s c) s.cols.length k)))=_;rw[F.sub (e3 i k) (jW V (e3 i c) (e3 _ k)),F.mul (e3 i c) (e3 _ k)];show F.val (bX (eR v s c) i k) -F.val (bX (eR v s c) i c)*F.val (bX (eR v s c) s.cols.length k)=_;rw[v1,v2,v3]
theorem uA{v:List NQ}(V:kl v)(F:FV v){a:bw}{N:Nat}(hr:cL N a)(hl:pI v.length a): ∀c,c≤N→RI a.length N c (vM F a) (vM F (bk v a c).rows) (bk v a c).cols
 | 0,_=>RI.start a.length N (vM F a)
 | c+1,hc=>by
   have I:=uA V F hr hl c (by omega);have R:=fN V hr hl c;have hlen:=R.len;obtain ⟨a1,a2,a3,a4⟩:=iE v (bk v a c) c (by have:=R.cm;omega);show RI a.length N (c+1) (vM F a) (vM F (dM v (bk v a c) c).rows) (dM v (bk v a c) c).cols;unfold dM;by_cases h:atR v (bk v a c) c<(bk v a c).rows.length
   · rw[if_pos h];obtain ⟨h3,h4⟩:=At V F R (by omega) h;exact I.hit (by omega) a1 (by omega) h3 h4
   · rw[if_neg h];exact I.Gg (by omega) fun q h1 h2=>(F.sg (R.lt q c)).1 (a3 q h1 (by omega))
end Lift
