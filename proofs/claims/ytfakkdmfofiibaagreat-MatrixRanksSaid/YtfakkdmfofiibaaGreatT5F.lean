/- Parts of the proof, one behind the other: the logic, the contracts of the functions that the statement reaches. -/
import Derived.Test.YtfakkdmfofiibaaGreatT5E
set_option linter.unusedVariables false
set_option linter.unusedSimpArgs false
namespace Lift
open Go Go.Proofs
def IN(a:List RD):Prop:=a.length≤4398046511104∧ ∀i,(a.getD i default).w EI
def Nb2(b:List (List RD)):Prop:=b.length≤140737488355328∧ ∀i,IN (b.getD i [])
def Nb3(a:List (List (List RD))):Prop:=a.length≤140737488355328∧ ∀i,Nb2 (a.getD i [])
theorem xr{f:Nat→Nat}: ∀{m i:Nat},fE f m i=0→ ∀k,i≤k→k<i+m→f k=0
 | 0,i,_,k,h1,h2=>by omega
 | m+1,i,h,k,h1,h2=>by
   rw[fE] at h;split at h
   · rename_i h0;by_cases e:k=i
     · subst e;exact h0
     · exact xr h k (by omega) (by omega)
   · rename_i h0;exact absurd h h0
theorem AS{α:Type}(g:α→Bool){d:α}{l:List α}{i:Nat}(h:i<l.length):(l.drop i).all g=(g (l.getD i d)&&(l.drop (i+1)).all g):=by
 rw[List.drop_eq_getElem_cons h,List.all_cons,List.getD_eq_getElem?_getD,List.getElem?_eq_getElem h];rfl
theorem xC{α:Type}(g:α→Bool){l:List α}{i:Nat}(h: ¬i<l.length):(l.drop i).all g=true:=by
 rw[List.drop_eq_nil_of_le (by omega)];rfl
theorem xB{α:Type}{g:α→Bool}{l:List α}(h:l.all g=true){d:α}{i:Nat}(hi:i<l.length):g (l.getD i d)=true:=by
 rw[List.getD_eq_getElem?_getD,List.getElem?_eq_getElem hi];exact List.all_eq_true.1 h _ (List.getElem_mem hi)
def CI(x:List RD):Bool:=decide (x.length≤4)&&x.all j4
def gu(l:List (List RD)):Bool:=l.all CI
theorem me(l:List (List RD))(hl:Nb2 l):Pure Tryz.prog 31 [mD l] (dB (gu l)):=by
 refine qJ 27 Tryz.func31 rfl rfl rfl rfl (by kernel_rfl) (fun B0 F0 w0=>?_);obtain ⟨hl1,hl2⟩:=hl;obtain ⟨E,hE⟩: ∃E,(l.drop 0).all CI=E:=⟨_,rfl⟩;rw[show gu l=E from hE];refine qX 1 rfl ?_;refine qI ?_;refine qX 2 rfl ?_;rw[List.length_map];refine qU 1 rfl ?_;refine ab.nil ?_;refine AW.block ?_;refine AW.aD [7,8,9] (fun i:Nat=>[(7,.d (mD l)),(8,.d (dI l.length)),(9,.d (dI i))]) (fun i=>i≤l.length∧(l.drop i).all CI=E) (fun i=>l.length-i) 0 rfl ⟨Nat.zero_le _,hE⟩ (fun i ⟨hi,hiE⟩=>?_)
 · show AW _ _ _ _ _ _ _ [(7,.d (mD l)),(8,.d (dI l.length)),(9,.d (dI i))];refine qX 1 rfl ?_;refine qI ?_;refine AW.cond rfl (fun h=>?_) (fun h=>?_)
   · have hii:i<l.length:=by have:=of_decide_eq_true h;omega
     have g1:=getM dn (l:=l) (i:=i) hii;have hx:=hl2 i;have hat:=(AS CI (d:=[]) hii).symm.trans hiE;change (CI (l.getD i default)&&_)=E at hat;generalize l.getD i default=x at g1 hx hat;obtain ⟨hx1,hx2⟩:=hx;refine AW.skip (AW.seq (AW.block (AW.seq (AW.region ?_))));refine ab.idx tok (dn x) rfl rfl rfl rfl (Int.natCast_nonneg i) g1 ?_;refine qU 2 rfl ?_;refine qI ?_;refine qX 2 rfl ?_;rw[List.length_map];refine qU 1 rfl ?_;refine ab.nil ?_;refine AW.cond rfl (fun h=>?_) (fun h=>?_)
     · have h4: ¬x.length≤4:=by have:=of_decide_eq_true h;omega
       have hs:CI x=false:=by unfold CI;rw[decide_eq_false h4];rfl
       rw[hs] at hat;rw[← hat];refine qX 1 rfl ?_;exact qN rfl
     · have h4:x.length≤4:=by have:=of_decide_eq_false h;omega
       obtain ⟨X,hX⟩: ∃X,(x.drop 0).all j4=X:=⟨_,rfl⟩;have hs:CI x=X:=by unfold CI;rw[decide_eq_true h4];exact hX
       rw[hs] at hat;refine AW.skip ?_;refine qX 2 rfl ?_;rw[List.length_map];refine qU 1 rfl ?_;refine ab.nil ?_;refine AW.block ?_;refine AW.aD [7,8,9,16,17,18] (fun k:Nat=>[(7,.d (mD l)),(8,.d (dI l.length)),(9,.d (dI i)),(16,.d (dn x)),(17,.d (dI x.length)),(18,.d (dI k))]) (fun k=>k≤x.length∧(x.drop k).all j4=X) (fun k=>x.length-k) 0 rfl ⟨Nat.zero_le _,hX⟩ (fun k ⟨hk,hkX⟩=>?_)
       · show AW _ _ _ _ _ _ _ [(7,.d (mD l)),(8,.d (dI l.length)),(9,.d (dI i)),(16,.d (dn x)),(17,.d (dI x.length)),(18,.d (dI k))];refine qX 1 rfl ?_;refine qI ?_;refine AW.cond rfl (fun h=>?_) (fun h=>?_)
         · have hkk:k<x.length:=by have:=of_decide_eq_true h;omega
           have g2:=getM RD.D (l:=x) (i:=k) hkk;have ct:=vg (x.getD k default) (hx2 k) (by unfold EI;omega);have hatk:=(AS j4 (d:=default) hkk).symm.trans hkX;generalize x.getD k default=r at g2 ct hatk;refine AW.skip (AW.seq (AW.block (AW.seq (AW.region ?_))));refine ab.idx tok r.D rfl rfl rfl rfl (Int.natCast_nonneg k) g2 ?_;refine qU 3 rfl ?_;refine qK 1 rfl ?_;refine ab.call tok rfl rfl rfl rfl ct ?_;refine qU 1 rfl ?_;refine ab.nil ?_;refine AW.cond rfl (fun h=>?_) (fun h=>?_)
           · have ht:j4 r=false:=by cases g:j4 r;rfl;rw[g] at h;cases h
             rw[ht] at hatk;rw[← hatk] at hat;rw[← hat];refine qX 1 rfl ?_;exact qN rfl
           · have ht:j4 r=true:=by cases g:j4 r;rw[g] at h;cases h;rfl
             rw[ht] at hatk;refine AW.skip ?_;refine qT 1 rfl ?_;rw[aA (x:=(k:Int)+1) (by omega) (by omega)];refine qU 1 rfl ?_;refine ab.nil ?_;exact⟨k+1,rfl,⟨hkk,hatk⟩,by omega⟩
         have hkk: ¬k<x.length:=by have:=of_decide_eq_false h;omega
         rw[xC j4 hkk] at hkX;rw[← hkX] at hat;refine AW.exit ?_;refine qT 1 rfl ?_;rw[aA (x:=(i:Int)+1) (by omega) (by omega)];refine qU 1 rfl ?_;refine ab.nil ?_;exact⟨i+1,rfl,⟨hii,hat⟩,by omega⟩
   have hii: ¬i<l.length:=by have:=of_decide_eq_false h;omega
   rw[xC CI hii] at hiE;rw[← hiE];refine AW.exit ?_;refine qX 1 rfl ?_;exact qN rfl
def iA(n:Nat):Bool:=(decide (4<n)&&decide (n≤32))||decide (40<n)
def xI(r:List (List RD)):Bool:= !(iA r.length|| !gu r)
def p0(a:List (List (List RD))):Bool:= !iA a.length&&a.all xI
theorem uc(a:List (List (List RD)))(ha:Nb3 a):Pure Tryz.prog 11 [MxR a] (dB (p0 a)):=by
 refine qJ 43 Tryz.func11 rfl rfl rfl rfl (by kernel_rfl) (fun B0 F0 w0=>?_);obtain ⟨ha1,ha2⟩:=ha;obtain ⟨E,hE⟩: ∃E,(a.drop 0).all xI=E:=⟨_,rfl⟩;unfold p0;rw[show a.all xI=E from hE];refine qX 1 rfl ?_;refine ab.nil ?_;refine AW.cut [0] (fun _:Unit=>[(0,.d (MxR a))]) (fun _=>iA a.length=false) ?_ (fun _ hs=>?_)
 · refine qX 2 rfl ?_;rw[List.length_map];refine qU 1 rfl ?_;by_cases hp:4<a.length
   · rw[decide_eq_true (show (4:Int)<(a.length:Int) by omega)];refine qU 3 rfl ?_;rw[List.length_map];refine qU 1 rfl ?_;by_cases hq:a.length≤32
     · rw[decide_eq_true (show (a.length:Int)≤32 by omega)];have hz:iA a.length=true:=by unfold iA;rw[decide_eq_true hp,decide_eq_true hq];rfl
       refine qU 6 rfl ?_;rw[hz];refine ab.nil ?_;refine AW.aF rfl ?_;refine qX 1 rfl ?_;exact qN rfl
     · rw[decide_eq_false (show ¬(a.length:Int)≤32 by omega)];refine qU 4 rfl ?_;rw[List.length_map];refine qU 1 rfl ?_;by_cases hr:40<a.length
       · rw[decide_eq_true (show (40:Int)<(a.length:Int) by omega)];have hz:iA a.length=true:=by unfold iA;rw[decide_eq_true hp,decide_eq_false hq,decide_eq_true hr];rfl
         refine qU 1 rfl ?_;rw[hz];refine ab.nil ?_;refine AW.aF rfl ?_;refine qX 1 rfl ?_;exact qN rfl
       · rw[decide_eq_false (show ¬(40:Int)<(a.length:Int) by omega)];have hz:iA a.length=false:=by unfold iA;rw[decide_eq_true hp,decide_eq_false hq,decide_eq_false hr];rfl
         refine qU 1 rfl ?_;refine ab.nil ?_;refine AW.ar rfl ?_;refine AW.skip ?_;exact⟨(),rfl,hz⟩
   · rw[decide_eq_false (show ¬(4:Int)<(a.length:Int) by omega)];refine qU 7 rfl ?_;refine qU 1 rfl ?_;rw[List.length_map];refine qU 1 rfl ?_;by_cases hr:40<a.length
     · rw[decide_eq_true (show (40:Int)<(a.length:Int) by omega)];have hz:iA a.length=true:=by unfold iA;rw[decide_eq_false hp,decide_eq_true hr];rfl
       refine qU 1 rfl ?_;rw[hz];refine ab.nil ?_;refine AW.aF rfl ?_;refine qX 1 rfl ?_;exact qN rfl
     · rw[decide_eq_false (show ¬(40:Int)<(a.length:Int) by omega)];have hz:iA a.length=false:=by unfold iA;rw[decide_eq_false hp,decide_eq_false hr];rfl
       refine qU 1 rfl ?_;refine ab.nil ?_;refine AW.ar rfl ?_;refine AW.skip ?_;exact⟨(),rfl,hz⟩
 rw[hs,show (!false&&E)=E from rfl]
 · show AW _ _ _ _ _ _ _ [(0,.d (MxR a))];refine AW.seq ?_;refine qX 2 rfl ?_;rw[List.length_map];refine qU 1 rfl ?_;refine ab.nil ?_;refine AW.block ?_;refine AW.aD [18,19,20] (fun i:Nat=>[(18,.d (MxR a)),(19,.d (dI a.length)),(20,.d (dI i))]) (fun i=>i≤a.length∧(a.drop i).all xI=E) (fun i=>a.length-i) 0 rfl ⟨Nat.zero_le _,hE⟩ (fun i ⟨hi,hiE⟩=>?_)
   · show AW _ _ _ _ _ _ _ [(18,.d (MxR a)),(19,.d (dI a.length)),(20,.d (dI i))];refine qX 1 rfl ?_;refine qI ?_;refine AW.cond rfl (fun h=>?_) (fun h=>?_)
     · have hii:i<a.length:=by have:=of_decide_eq_true h;omega
       have g1:=getM mD (l:=a) (i:=i) hii;have cs:=me (a.getD i []) (ha2 i);have hr1:=(ha2 i).1;have hat:=(AS xI (d:=[]) hii).symm.trans hiE;change (xI (a.getD i default)&&_)=E at hat;change Pure _ _ [mD (a.getD i default)] (dB (gu (a.getD i default))) at cs;change (a.getD i default).length≤_ at hr1;generalize a.getD i default=r at g1 hat cs hr1;refine AW.skip (AW.seq (AW.block (AW.seq (AW.region ?_))));refine ab.idx tok (mD r) rfl rfl rfl rfl (Int.natCast_nonneg i) g1 ?_;refine qU 2 rfl ?_;refine qK 2 rfl ?_;rw[List.length_map];refine qU 1 rfl ?_;by_cases hp:4<r.length
       · rw[decide_eq_true (show (4:Int)<(r.length:Int) by omega)];refine qU 3 rfl ?_;rw[List.length_map];refine qU 1 rfl ?_;by_cases hq:r.length≤32
         · rw[decide_eq_true (show (r.length:Int)≤32 by omega)];have hz:iA r.length=true:=by unfold iA;rw[decide_eq_true hp,decide_eq_true hq];rfl
           refine qU 11 rfl ?_;have hm:xI r=false:=by unfold xI;rw[hz];rfl
           rw[hm] at hat;rw[← hat];refine ab.nil ?_;refine AW.aF rfl ?_;refine qX 1 rfl ?_;exact qN rfl
         · rw[decide_eq_false (show ¬(r.length:Int)≤32 by omega)];refine qU 4 rfl ?_;rw[List.length_map];refine qU 1 rfl ?_;by_cases hr:40<r.length
           · rw[decide_eq_true (show (40:Int)<(r.length:Int) by omega)];have hz:iA r.length=true:=by unfold iA;rw[decide_eq_true hp,decide_eq_false hq,decide_eq_true hr];rfl
             refine qU 6 rfl ?_;have hm:xI r=false:=by unfold xI;rw[hz];rfl
             rw[hm] at hat;rw[← hat];refine ab.nil ?_;refine AW.aF rfl ?_;refine qX 1 rfl ?_;exact qN rfl
           · rw[decide_eq_false (show ¬(40:Int)<(r.length:Int) by omega)];have hz:iA r.length=false:=by unfold iA;rw[decide_eq_true hp,decide_eq_false hq,decide_eq_false hr];rfl
             refine qU 3 rfl ?_;refine ab.call tok rfl rfl rfl rfl cs ?_;refine qU 2 rfl ?_;refine ab.nil ?_;have hm:xI r=gu r:=by unfold xI;rw[hz];cases gu r<;>rfl
             rw[hm] at hat;generalize gu r=s at *;cases s with
             | false =>
               rw[← hat];refine AW.aF rfl ?_;refine qX 1 rfl ?_;exact qN rfl
             | true =>
               refine AW.ar rfl ?_;refine AW.skip ?_;refine qT 1 rfl ?_;rw[aA (x:=(i:Int)+1) (by omega) (by omega)];refine qU 1 rfl ?_;refine ab.nil ?_;exact⟨i+1,rfl,⟨hii,hat⟩,by omega⟩
       · rw[decide_eq_false (show ¬(4:Int)<(r.length:Int) by omega)];refine qU 7 rfl ?_;refine qU 1 rfl ?_;rw[List.length_map];refine qU 1 rfl ?_;by_cases hr:40<r.length
         · rw[decide_eq_true (show (40:Int)<(r.length:Int) by omega)];have hz:iA r.length=true:=by unfold iA;rw[decide_eq_false hp,decide_eq_true hr];rfl
           refine qU 6 rfl ?_;have hm:xI r=false:=by unfold xI;rw[hz];rfl
           rw[hm] at hat;rw[← hat];refine ab.nil ?_;refine AW.aF rfl ?_;refine qX 1 rfl ?_;exact qN rfl
         · rw[decide_eq_false (show ¬(40:Int)<(r.length:Int) by omega)];have hz:iA r.length=false:=by unfold iA;rw[decide_eq_false hp,decide_eq_false hr];rfl
           refine qU 3 rfl ?_;refine ab.call tok rfl rfl rfl rfl cs ?_;refine qU 2 rfl ?_;refine ab.nil ?_;have hm:xI r=gu r:=by unfold xI;rw[hz];cases gu r<;>rfl
           rw[hm] at hat;generalize gu r=s at *;cases s with
           | false =>
             rw[← hat];refine AW.aF rfl ?_;refine qX 1 rfl ?_;exact qN rfl
           | true =>
             refine AW.ar rfl ?_;refine AW.skip ?_;refine qT 1 rfl ?_;rw[aA (x:=(i:Int)+1) (by omega) (by omega)];refine qU 1 rfl ?_;refine ab.nil ?_;exact⟨i+1,rfl,⟨hii,hat⟩,by omega⟩
     have hii: ¬i<a.length:=by have:=of_decide_eq_false h;omega
     rw[xC xI hii] at hiE;rw[← hiE];refine AW.exit ?_;refine qX 1 rfl ?_;exact qN rfl
def yS(rt:List (List RD)):Bool:=(decide (rt.length≤1)||(decide (5<rt.length)&&decide (rt.length<9)))&&gu rt
theorem xk(rt:List (List RD))(hr:Nb2 rt):Pure Tryz.prog 10 [TrD rt] (dB (yS rt)):=by
 refine qJ 24 Tryz.func10 rfl rfl rfl rfl (by kernel_rfl) (fun B0 F0 w0=>?_);have cs:=me rt hr;have hr1:=hr.1;unfold yS;generalize gu rt=s at cs ⊢;refine qX 2 rfl ?_;refine qK 3 rfl ?_;rw[List.length_map];refine qU 1 rfl ?_;by_cases h1:rt.length≤1
 · rw[decide_eq_true (show (rt.length:Int)≤1 by omega),decide_eq_true h1];refine qU 15 rfl ?_;refine ab.call tok rfl rfl rfl rfl cs ?_;refine qU 2 rfl ?_;exact qN rfl
 rw[decide_eq_false (show ¬(rt.length:Int)≤1 by omega),decide_eq_false h1];refine qU 4 rfl ?_;rw[List.length_map];refine qU 1 rfl ?_;by_cases h2:5<rt.length;rotate_left
 · rw[decide_eq_false (show ¬(5:Int)<(rt.length:Int) by omega),decide_eq_false h2];refine qU 13 rfl ?_;exact qN rfl
 rw[decide_eq_true (show (5:Int)<(rt.length:Int) by omega),decide_eq_true h2];refine qU 4 rfl ?_;rw[List.length_map];refine qU 1 rfl ?_;by_cases h3:rt.length<9;rotate_left
 · rw[decide_eq_false (show ¬(rt.length:Int)<9 by omega),decide_eq_false h3];refine qU 8 rfl ?_;exact qN rfl
 rw[decide_eq_true (show (rt.length:Int)<9 by omega),decide_eq_true h3];refine qU 5 rfl ?_;refine ab.call tok rfl rfl rfl rfl cs ?_;refine qU 2 rfl ?_;exact qN rfl
theorem Hd{x:List RD}(h:CI x=true)(nb:IN x):x.length≤4∧wN 2 x:=by
 unfold CI at h;rw[Bool.and_eq_true] at h;refine⟨of_decide_eq_true h.1,fun i hi=>?_⟩;obtain ⟨t1,t2⟩:=CV (xB h.2 (d:=default) hi);obtain ⟨w1,w2,w3,w4⟩:=nb.2 i;exact⟨w1,w2,by omega,by omega⟩
theorem DI:IN []:=⟨Nat.zero_le _,fun _=>⟨fun _ h=>(by cases h),fun _ h=>(by cases h),Nat.zero_le _,Nat.zero_le _⟩⟩
theorem CO(k:Nat):wN k []:=fun i hi=>absurd hi (Nat.not_lt_zero i)
theorem p8{l:List (List RD)}(h:gu l=true)(nb:Nb2 l)(i:Nat):(l.getD i []).length≤4∧wN 2 (l.getD i []):=by
 by_cases hi:i<l.length
 · exact Hd (xB h (d:=[]) hi) (nb.2 i)
 · rw[List.getD_eq_getElem?_getD,List.getElem?_eq_none (by omega)];exact⟨Nat.zero_le _,CO 2⟩
theorem xg{rt:List (List RD)}(h:yS rt=true)(nb:Nb2 rt):HZ 2 rt∧(rt.length≤5→rt.length≤1):=by
 unfold yS at h;rw[Bool.and_eq_true,Bool.or_eq_true,Bool.and_eq_true] at h;obtain ⟨h1,h2⟩:=h
 have hl:rt.length<9∧(rt.length≤5→rt.length≤1):=by
  rcases h1 with h1 | ⟨h1,h3⟩
  · have:=of_decide_eq_true h1;omega
  · have:=of_decide_eq_true h1;have:=of_decide_eq_true h3;omega
 refine⟨⟨fun i _ _=>(p8 h2 nb i).2,by decide,by omega,fun i _=>by have:=(p8 h2 nb i).1;omega,fun h5=>qj (hl.2 h5) (by decide),by decide⟩,hl.2⟩
theorem DR{rt:List (List RD)}(h:yS rt=true)(nb:Nb2 rt)(h0:de rt=0):CH 2 rt∧rt.length≤1:=by
 obtain ⟨T,h1⟩:=xg h nb;have h5:=(mz h0).1;exact⟨⟨⟨2,by decide,Nat.le_refl _,T.w,T.ok⟩,by decide,T.l,T.ll⟩,h1 h5⟩
theorem nN{rt:List (List RD)}{a:List (List (List RD))}(h:p0 a=true)(nb:Nb3 a):ET 2 rt a∧(a.length≤32→a.length≤4)∧(∀i,(a.getD i []).length≤32→(a.getD i []).length≤4):=by
 unfold p0 at h;rw[Bool.and_eq_true] at h
 have sz: ∀n,(!iA n)=true→n≤40∧(n≤32→n≤4):=fun n hn=>by
  unfold iA at hn;simp at hn;omega
 have hr: ∀i,(a.getD i []).length≤40∧((a.getD i []).length≤32→(a.getD i []).length≤4)∧ ∀k,((a.getD i []).getD k []).length≤4∧wN 2 ((a.getD i []).getD k []):=fun i=>by
  by_cases hi:i<a.length
  · have g:=xB h.2 (d:=[]) hi;unfold xI at g;rw[Bool.not_or,Bool.not_not,Bool.and_eq_true] at g;have s1:=sz _ g.1;exact⟨s1.1,s1.2,fun k=>p8 g.2 (nb.2 i) k⟩
  · rw[List.getD_eq_getElem?_getD,List.getElem?_eq_none (by omega)];exact⟨Nat.zero_le _,fun _=>Nat.zero_le _,fun k=>⟨Nat.zero_le _,CO 2⟩⟩
 have s0:=sz _ h.1;exact⟨⟨fun i k=>⟨fun _=>((hr i).2.2 k).2,by have:=((hr i).2.2 k).1;omega⟩,by omega,fun i=>by have:=(hr i).1;omega⟩,s0.2,fun i=>(hr i).2.1⟩
def xb(a:List (List (List RD))):bk:=a.map fun r=>r.map bp
theorem l6(a:List (List (List RD))):(xb a).length=a.length:=List.length_map ..
theorem tS(a:List (List (List RD)))(i:Nat):(xb a).getD i []=(a.getD i []).map bp:=by
 unfold xb;rw[List.getD_eq_getElem?_getD,List.getElem?_map,List.getD_eq_getElem?_getD];cases a[i]? with
 | none=>rfl
 | some r=>rfl
theorem yh(r:List (List RD))(k:Nat):(r.map bp).getD k []=bp (r.getD k []):=by
 rw[List.getD_eq_getElem?_getD,List.getElem?_map,List.getD_eq_getElem?_getD];cases r[k]? with
 | none=>rfl
 | some x=>rfl
theorem mR(a:List (List (List RD))):ay (xb a)=ay a:=by unfold ay;rw[tS,List.length_map]
structure Acc (rt:List (List RD)) (a:List (List (List RD))) (v:List NQ) (q:bk):Prop where
 L:Lo v
 G:xL v q
 s:mZ 2 q
 l4:q.length≤4
 c4:ay q≤4
 t:TrD rt=bI v
 m:MxR a=bS q
 vl:v.length=rt.length
 al:q.length=a.length
 ac:ay q=ay a
theorem Fw{rt:List (List RD)}{r:List (List RD)}(h0:de rt=0)(h:kc rt r=0){k:Nat}(hk:k<r.length):bJ rt.length (r.getD k [])=0:=by
 rw[yj h0] at h;exact xr h k (Nat.zero_le _) (by omega)
theorem Gp{rt:List (List RD)}(h1:yS rt=true)(n1:Nb2 rt)(h0:de rt=0):Lo (rt.map bp)∧TrD rt=bI (rt.map bp):=by
 obtain ⟨T,l1⟩:=DR h1 n1 h0;exact⟨⟨jv.of T h0,by rw[List.length_map];exact l1⟩,(Gw T h0).eq⟩
theorem Fv{rt:List (List RD)}{r:List (List RD)}(hn: ∀k,ES 2 rt (r.getD k []))(h: ∀k,k<r.length→bJ rt.length (r.getD k [])=0):mD r=dv (r.map bp)∧(∀k,ak rt.length ((r.map bp).getD k []))∧(∀k,aj 2 ((r.map bp).getD k [])):=by
 have g:=fun k (hk:k<r.length)=>Hm (by decide) (hn k) (h k hk);refine⟨?_,fun k=>?_,fun k=>?_⟩
 · show D.sl 1 (r.map dn)=D.sl 1 ((r.map bp).map ah);rw[List.map_map]
   congr 1
   refine List.map_congr_left fun x hx=>?_;obtain ⟨k,hk,e⟩:=List.getElem_of_mem hx;have:=(g k hk).2.2;rw[List.getD_eq_getElem?_getD,List.getElem?_eq_getElem hk] at this;rw[← e];exact this
 · rw[yh];by_cases hk:k<r.length
   · exact(g k hk).1
   · rw[List.getD_eq_getElem?_getD,List.getElem?_eq_none (by omega)];exact bL _
 · rw[yh];by_cases hk:k<r.length
   · exact(g k hk).2.1
   · rw[List.getD_eq_getElem?_getD,List.getElem?_eq_none (by omega)];exact bz (by decide)
theorem HN{rt:List (List RD)}{a:List (List (List RD))}(h1:yS rt=true)(n1:Nb2 rt)(h2:p0 a=true)(n2:Nb3 a)(h:nw rt a=0):Acc rt a (rt.map bp) (xb a):=by
 have h0:de rt=0:=by
  unfold nw at h;split at h
  · rename_i g;exact absurd h g
  · omega
 have hm:xe rt a=0:=by
  unfold nw at h;rw[if_neg (by rw[h0];simp)] at h;exact h
 obtain ⟨L,ht⟩:=Gp h1 n1 h0;obtain ⟨M,l4,r4⟩:=nN (rt:=rt) h2 n2
 have key:a.length≤4∧ay a≤4∧(∀j,j<a.length→(a.getD j []).length=ay a)∧(∀j,j<a.length→kc rt (a.getD j [])=0):=by
  unfold xe at hm;by_cases e0:a.length=0
  · refine⟨by omega,?_,fun j hj=>by omega,fun j hj=>by omega⟩;unfold ay;rw[List.getD_eq_getElem?_getD,List.getElem?_eq_none (by omega)];exact Nat.zero_le _
  · rw[if_neg e0] at hm;by_cases e1:32<a.length∨32<ay a
    · rw[if_pos e1] at hm;cases hm
    · rw[if_neg e1] at hm;have e2:fE (xJ a) (a.length-0) 0=0:=Classical.byContradiction fun g=>by rw[if_pos g] at hm;exact g hm
      rw[if_neg (by rw[e2];simp)] at hm;refine⟨l4 (by omega),r4 0 (show ay a≤32 by omega),fun j hj=>?_,fun j hj=>xr hm j (Nat.zero_le _) (by omega)⟩;have:=xr e2 j (Nat.zero_le _) (by omega);unfold xJ at this;exact Classical.byContradiction fun g=>by rw[if_pos g] at this;cases this
 obtain ⟨k1,k2,k3,k4⟩:=key;have rw1:=fun i (hi:i<a.length)=>Fv (M.n i) (fun k hk=>Fw h0 (k4 i hi) hk);have hvl:(rt.map bp).length=rt.length:=List.length_map ..
 have el: ∀i k,ak rt.length (br (xb a) i k)∧aj 2 (br (xb a) i k):=fun i k=>by
  by_cases hi:i<a.length
  · have:=rw1 i hi;unfold br;rw[tS];exact⟨this.2.1 k,this.2.2 k⟩
  · unfold br;rw[mV (by rw[l6];omega)];exact⟨bL _,bz (by decide)⟩
 refine⟨L,⟨by rw[l6];omega,fun j hj=>?_,by rw[mR];omega,fun i k=>by rw[hvl];exact(el i k).1⟩,fun i k=>(el i k).2,by rw[l6];exact k1,by rw[mR];exact k2,ht,?_,hvl,l6 a,mR a⟩
 · rw[l6] at hj;rw[tS,List.length_map,mR];exact k3 j hj
 · show D.sl 1 (a.map mD)=D.sl 1 ((xb a).map dv);unfold xb;rw[List.map_map]
   congr 1
   refine List.map_congr_left fun r hr=>?_;obtain ⟨k,hk,e⟩:=List.getElem_of_mem hr;have:=(rw1 k hk).1;rw[List.getD_eq_getElem?_getD,List.getElem?_eq_getElem hk] at this;rw[← e];exact this
end Lift
namespace Lift
open Go Go.Proofs
theorem Is:RT Tryz.prog 53 (List RD) (fun l=>[dn l]) (fun l=>IN l) :=
 (RT.sliceB 32 (el:=RD.D) (s:=3) Tryz.underlying53 (by kernel_rfl) (by kernel_rfl) (by decide) (Nat.le_of_ble_eq_true (by kernel_rfl)) H5 (fun v=>rfl)).map id (fun l h=>rfl) (fun l h=>⟨by have:=h.1;unfold reachBytes at this;show l.length≤_;omega,xn (fun v hv=>(h.2 v hv).mono (by decide)) ⟨fun _ h=>(by cases h),fun _ h=>(by cases h),Nat.zero_le _,Nat.zero_le _⟩⟩) (fun v=>⟨by kernel_rfl,fun d hd=>by simp at hd;subst hd;rfl⟩)
theorem DJ:RT Tryz.prog 22 (List (List RD)) (fun l=>[mD l]) (fun l=>Nb2 l) :=
 (RT.slice (el:=dn) (s:=1) (by kernel_rfl) (by kernel_rfl) (by kernel_rfl) (by decide) (Nat.le_of_ble_eq_true (by kernel_rfl)) Is (fun v=>rfl)).map id (fun l h=>rfl) (fun l h=>⟨Nat.le_trans h.1 (by decide),fun i=>xn (p:=IN) (l:=l) h.2 DI i⟩) (fun v=>⟨by kernel_rfl,fun d hd=>by simp at hd;subst hd;rfl⟩)
theorem FL:Nb2 []:=⟨Nat.zero_le _,fun _=>DI⟩
theorem n_mat:RT Tryz.prog 25 (List (List (List RD))) (fun l=>[MxR l]) (fun l=>Nb3 l) :=
 (RT.slice (el:=mD) (s:=1) (by kernel_rfl) (by kernel_rfl) (by kernel_rfl) (by decide) (Nat.le_of_ble_eq_true (by kernel_rfl)) DJ (fun v=>rfl)).map id (fun l h=>rfl) (fun l h=>⟨Nat.le_trans h.1 (by decide),fun i=>xn (p:=Nb2) (l:=l) h.2 FL i⟩) (fun v=>⟨by kernel_rfl,fun d hd=>by simp at hd;subst hd;rfl⟩)
theorem n_tower:RT Tryz.prog 24 (List (List RD)) (fun l=>[mD l]) (fun l=>Nb2 l):=by
 have h:=RT.struct (P:=Tryz.prog) (t:=24) (m:=1) Tryz.underlying24 (by kernel_rfl) (CJ.cons (by kernel_rfl) DJ CJ.nil) (fun v=>rfl);exact h.map (fun v=>v.1) (fun v h=>rfl) (fun v h=>h.1) (fun v=>⟨by kernel_rfl,fun d hd=>by simp at hd;subst hd;rfl⟩)
end Lift
namespace Lift
open Go Go.Proofs
def rD:List NQ:=[[2]]
def BF:bk:=[[[1],[0,1]],[[0,1],[2]]]
def Ec:bk:=[[[1],[0,1]],[[0,1],[1]]]
theorem mW:Lo rD:=by
 have s2:eT 2 rD:=fun i=>match i with
  | 0=>gU (by decide +kernel)
  | i+1=>bz (by decide)
 refine⟨⟨by decide,fun k hk=>?_,s2,fun k hk=>?_,by decide,2,by decide,by decide,s2,qj (by decide) (by decide)⟩,by decide⟩
 · have hk:k<1:=hk;obtain rfl:k=0:=by omega
   rfl
 · have hk:k<1:=hk;obtain rfl:k=0:=by omega
   decide +kernel
theorem BE{a:bk}(h:a=BF∨a=Ec):xL rD a∧mZ 2 a∧a.length=2∧ay a=2:=by
 have hl: ∀b:bk,b=BF∨b=Ec→ ∀i k,ak 1 (br b i k)∧aj 2 (br b i k):=fun b hb i k=>by
  have key: ∀q:Rat,q=0∨q=1∨q=2→LQ q≤2:=fun q hq=>by rcases hq with rfl | rfl | rfl<;>decide +kernel
  have g1: ∀q:Rat,LQ q≤2→ak 1 [q]∧aj 2 [q]:=fun q hq=>⟨fB _ _,gU hq⟩
  have g2:ak 1 [(0:Rat),1]∧aj 2 [(0:Rat),1]:=⟨.inr ⟨1,by decide,rfl⟩,fun c=>match c with
   | 0=>key 0 (.inl rfl)
   | 1=>key 1 (.inr (.inl rfl))
   | c+2=>lf (by decide)⟩
  have g0:ak 1 []∧aj 2 []:=⟨bL _,bz (by decide)⟩;rcases hb with rfl | rfl
  · match i,k with
    | 0,0=>exact g1 1 (key 1 (.inr (.inl rfl)))
    | 0,1=>exact g2
    | 0,k+2=>exact g0
    | 1,0=>exact g2
    | 1,1=>exact g1 2 (key 2 (.inr (.inr rfl)))
    | 1,k+2=>exact g0
    | i+2,k=>exact g0
  · match i,k with
    | 0,0=>exact g1 1 (key 1 (.inr (.inl rfl)))
    | 0,1=>exact g2
    | 0,k+2=>exact g0
    | 1,0=>exact g2
    | 1,1=>exact g1 1 (key 1 (.inr (.inl rfl)))
    | 1,k+2=>exact g0
    | i+2,k=>exact g0
 have hlen:a.length=2∧ay a=2:=by rcases h with rfl | rfl<;>exact⟨rfl,rfl⟩
 refine⟨⟨by omega,fun j hj=>?_,by omega,fun i k=>(hl a h i k).1⟩,fun i k=>(hl a h i k).2,hlen⟩;rcases h with rfl | rfl
 · match j,hj with
   | 0,_=>rfl
   | 1,_=>rfl
 · match j,hj with
   | 0,_=>rfl
   | 1,_=>rfl
theorem Bp{v:List NQ}(L:Lo v):mQ v.length 2:=qj L.l1 (by decide)
theorem ui: ∀{n:Nat},n≤5→gI 2 n≤100000000000:=fun {n} h=>Nat.le_trans (iS h) (by decide)
theorem CB{v:List NQ}{a:bk}(L:Lo v)(G:xL v a)(hs:mZ 2 a):Pure Tryz.prog 20 [bI v,bS a] aI:=by
 obtain ⟨r1,r2⟩:=G.raw L.V hs;have cc:=ei (L.V.s (Bp L)) r1;rw[r2,nP,wK] at cc;exact cc
theorem yt{v:List NQ}{a:bk}(L:Lo v)(G:xL v a)(hs:mZ 2 a)(hc:ay a≤5):Pure Tryz.prog 13 [bI v,bS a] (.tu [dI (gz v a).cols.length,aI]) :=
 tZ L.V (Bp L) G hs (L.red G.r G.lt hs (ui hc)).1
theorem E6{a:bk}{k:Nat}(hs:mZ k a):mZ k (b6 a):=vu (p:=aj k) (bz hs.pos) hs
theorem np{v:List NQ}{a:bk}(L:Lo v)(G:xL v a)(hs:mZ 2 a)(hl:a.length≤5):Pure Tryz.prog 15 [bI v,bS a] (.tu [jY (Ac v a),aI]) :=
 m7 L.V (Bp L) G hs (L.red (kJ a) (oE G.lt) (E6 hs) (ui hl)).1
theorem At{v:List NQ}{a:bk}(L:Lo v)(G:xL v a)(hs:mZ 2 a)(hc:ay a≤5):Pure Tryz.prog 14 [bI v,bS a] (.tu [bS (qC v a),aI]):=by
 have R:=L.red G.r G.lt hs (ui hc);have g:=ui hc;exact qw L.V (Bp L) G hs R.1 (fun i k=>(R.2.1 _ (Nat.le_refl _) i k).mono (by omega))
theorem Gc{v:List NQ}{a:bk}{k:Nat}(L:Lo v)(hl:a.length≤5)(hr:b9 a.length a)(lt:nJ v.length a)(hs:mZ k a)(hk:gI k a.length≤100000000000):Pure Tryz.prog 60 [bI v,bS a] (.tu [ah (AL v a),aI]):=by
 have R:=L.red hr lt hs hk;exact vd L.V.a (by omega) hr lt R.1 ((R.2.2.1 _ (Nat.le_refl _)).mono (by omega))
theorem qy(n:Int)(h: -1000≤n∧n≤1000):Pure Tryz.prog 44 [.sl 1 [dI n]] (ah [(n:Rat)]) :=
 rA [n] (Nat.le_of_ble_eq_true rfl) (fun i=>match i with
  | 0=>h
  | i+1=>by show (-1000:Int)≤0∧(0:Int)≤1000;omega)
theorem Ar:Pure Tryz.prog 44 [.sl 1 [dI 0,dI 1]] (ah [(0:Rat),(1:Rat)]) :=
 rA [0,1] (by decide) (fun i=>match i with
  | 0=>by decide
  | 1=>by decide
  | i+2=>by show (-1000:Int)≤0∧(0:Int)≤1000;omega)
theorem jq:Pure Tryz.prog 12 [] (dB true):=by
 refine qJ 97 Tryz.func12 rfl rfl rfl rfl (by kernel_rfl) (fun B F0 w0=>?_);obtain ⟨GA,sA,_,cA⟩:=BE (.inl rfl);obtain ⟨GB,sB,lB,cB⟩:=BE (.inr rfl);have c1:=yt mW GA sA (by decide);have c2:=np mW GA sA (by decide);have c3:=ve (CB mW GB sB) (by decide) (Gc mW (by decide) GB.r GB.lt sB (by decide));rw[show (gz rD BF).cols.length=1 by decide +kernel] at c1;rw[show Ac rD BF=[1] by decide +kernel] at c2;rw[show AL rD Ec=[-1] by decide +kernel] at c3;have sm:aj 2 [(-1:Rat)]:=gU (by decide +kernel);have lm:ak 1 [(-1:Rat)]:=fB _ _;have c4:=zO (v:=rD) (a:=[-1]) (b:=[-1]) mW.V.a lm lm (sm.mono (by decide)) (sm.mono (by decide)) (mW.sg (lm.plus lm.minus) (sm.plus sm.minus) (by decide));rw[show lD rD (aM [-1] (aC [-1]))=0 by decide +kernel] at c4;have o1:=qy 1 (by decide);have o2:=qy 2 (by decide);have om:=qy (-1) (by decide);have o01:=Ar;have cI:=nF [1] [1] (by decide);have e1:((1:Int):Rat)=1:=rfl;have e2:((2:Int):Rat)=2:=rfl;have em:((-1:Int):Rat)= -1:=rfl;rw[e1] at o1;rw[e2] at o2;rw[em] at om;refine qX 1 rfl ?_;refine qI (AW.region ?_);refine ab.fA tok rfl rfl rfl rfl rfl ?_;refine ab.call tok rfl rfl rfl rfl o2 ?_;refine ab.fA tok rfl rfl rfl rfl rfl ?_;refine qU 3 rfl ?_;refine qI ?_;refine AW.draw aL 17 (by kernel_rfl) ?_;refine qP 1 rfl ?_;refine ae.fA tok rfl rfl rfl rfl rfl rfl ?_;refine ae.call tok rfl rfl rfl rfl rfl o1 ?_;refine ae.fA tok rfl rfl rfl rfl rfl rfl ?_;refine ae.call tok rfl rfl rfl rfl rfl o01 ?_;refine ae.fA tok rfl rfl rfl rfl rfl rfl ?_;refine ae.fA tok rfl rfl rfl rfl rfl rfl ?_;refine ae.call tok rfl rfl rfl rfl rfl o01 ?_;refine ae.fA tok rfl rfl rfl rfl rfl rfl ?_;refine ae.call tok rfl rfl rfl rfl rfl o2 ?_;refine ae.fA tok rfl rfl rfl rfl rfl rfl ?_;refine ae.fA tok rfl rfl rfl rfl rfl rfl ?_;refine ae.call tok rfl rfl rfl rfl rfl c1 ?_;refine qP 4 rfl ?_;refine ae.nil ?_;refine qU 1 rfl ?_;refine qI ?_;refine AW.draw aL 17 (by kernel_rfl) ?_;refine qP 1 rfl ?_;refine ae.fA tok rfl rfl rfl rfl rfl rfl ?_;refine ae.call tok rfl rfl rfl rfl rfl o1 ?_;refine ae.fA tok rfl rfl rfl rfl rfl rfl ?_;refine ae.call tok rfl rfl rfl rfl rfl o01 ?_;refine ae.fA tok rfl rfl rfl rfl rfl rfl ?_;refine ae.fA tok rfl rfl rfl rfl rfl rfl ?_;refine ae.call tok rfl rfl rfl rfl rfl o01 ?_;refine ae.fA tok rfl rfl rfl rfl rfl rfl ?_;refine ae.call tok rfl rfl rfl rfl rfl o2 ?_;refine ae.fA tok rfl rfl rfl rfl rfl rfl ?_;refine ae.fA tok rfl rfl rfl rfl rfl rfl ?_;refine ae.call tok rfl rfl rfl rfl rfl c2 ?_;refine qP 4 rfl ?_;refine ae.nil ?_;refine qU 1 rfl ?_;refine qI ?_;refine AW.draw aL 17 (by kernel_rfl) ?_;refine qP 1 rfl ?_;refine ae.fA tok rfl rfl rfl rfl rfl rfl ?_;refine ae.call tok rfl rfl rfl rfl rfl o1 ?_;refine ae.fA tok rfl rfl rfl rfl rfl rfl ?_;refine ae.call tok rfl rfl rfl rfl rfl o01 ?_;refine ae.fA tok rfl rfl rfl rfl rfl rfl ?_;refine ae.fA tok rfl rfl rfl rfl rfl rfl ?_;refine ae.call tok rfl rfl rfl rfl rfl o01 ?_;refine ae.fA tok rfl rfl rfl rfl rfl rfl ?_;refine ae.call tok rfl rfl rfl rfl rfl o1 ?_;refine ae.fA tok rfl rfl rfl rfl rfl rfl ?_;refine ae.fA tok rfl rfl rfl rfl rfl rfl ?_;refine ae.call tok rfl rfl rfl rfl rfl c3 ?_;refine qP 4 rfl ?_;refine ae.nil ?_;refine qU 1 rfl ?_;refine qI ?_;refine AW.draw aL 9 (by kernel_rfl) ?_;refine qP 2 rfl ?_;refine ae.fA tok rfl rfl rfl rfl rfl rfl ?_;refine ae.call tok rfl rfl rfl rfl rfl om ?_;refine ae.call tok rfl rfl rfl rfl rfl c4 ?_;refine qP 4 rfl ?_;refine ae.nil ?_;refine qU 1 rfl ?_;refine qK 1 rfl ?_;refine ab.err tok rfl rfl rfl rfl rfl ?_;refine qU 2 rfl ?_;refine ab.err tok rfl rfl rfl rfl rfl ?_;refine qU 3 rfl ?_;refine ab.err tok rfl rfl rfl rfl rfl ?_;refine qU 3 rfl ?_;refine ab.err tok rfl rfl rfl rfl rfl ?_;refine qU 7 rfl ?_;refine ab.fA tok rfl rfl rfl rfl rfl ?_;refine ab.call tok rfl rfl rfl rfl cI ?_;refine qU 6 rfl ?_;exact qN rfl
end Lift
namespace Lift
open Go Go.Proofs
theorem E8{a:bk}{k:Nat}(hs:mZ k a)(n:Nat):mZ k (a.take n):=fun i j=>by
 by_cases hi:i<n
 · rw[pE hi];exact hs i j
 · unfold br;rw[mV (by rw[List.length_take];omega)];exact bz hs.pos
theorem DW(v:List NQ)(a:bk):(qC v a).length+(gz v a).cols.length=ay a:=by
 unfold qC;rw[List.length_map];exact qR v a (ay a)
end Lift
namespace Lift
open Go Go.Proofs
theorem qe{m k:Nat}{v:List NQ}{a:NQ}(V:jv m v)(ha:ak v.length a)(sa:aj k a)(hk:k≤17300000000000):Pure Tryz.prog 110 [bI v,.sl 1 [ah a]] (dI 0):=by
 have T:=V.raw.1;obtain ⟨m0,t1,t2,tw,tk⟩:=T.t
 have h0: ∀i,i<[dz a].length→i=0:=fun i hi=>by
  have:i<1:=hi;omega
 have hl:=ha.len (by have:=V.l5;omega);have h:=nu (lE v) [dz a] tw t1 T.l T.ll tk (fun i hi _=>by rw[h0 i hi];exact nQ sa) (show 1≤1000000 by decide) (fun i hi=>by rw[h0 i hi];show (dz a).length≤_;rw[gb];omega) hk;rw[ck1 V ha,nP] at h;have e:[dz a].map dn=[ah a]:=by show [dn (dz a)]=_;rw[qb]
 rw[e] at h;exact h
theorem qd{m k:Nat}{v:List NQ}{a b:NQ}(V:jv m v)(ha:ak v.length a)(sa:aj k a)(hb:ak v.length b)(sb:aj k b)(hk:k≤17300000000000):Pure Tryz.prog 110 [bI v,.sl 1 [ah a,ah b]] (dI 0):=by
 have T:=V.raw.1;obtain ⟨m0,t1,t2,tw,tk⟩:=T.t
 have h0: ∀i,i<[dz a,dz b].length→i=0∨i=1:=fun i hi=>by
  have:i<2:=hi;omega
 have hl:=ha.len (by have:=V.l5;omega);have hl2:=hb.len (by have:=V.l5;omega)
 have h:=nu (lE v) [dz a,dz b] tw t1 T.l T.ll tk (fun i hi _=>by rcases h0 i hi with rfl | rfl;exact nQ sa;exact nQ sb) (show 2≤1000000 by decide) (fun i hi=>by
  rcases h0 i hi with rfl | rfl
  · show (dz a).length≤_;rw[gb];omega
  · show (dz b).length≤_;rw[gb];omega) hk
 rw[ck2 V ha hb,nP] at h;have e:[dz a,dz b].map dn=[ah a,ah b]:=by show [dn (dz a),dn (dz b)]=_;rw[qb,qb]
 rw[e] at h;exact h
theorem Dt{m k:Nat}{v:List NQ}{a:NQ}(V:jv m v)(ha:ak v.length a)(sa:aj k a)(hk:k≤17300000000000):Pure Tryz.prog 98 [bI v,ah a] (.tu [ah (qn a),dI 0]):=by
 refine qJ 17 Tryz.func98 rfl rfl rfl rfl (by kernel_rfl) (fun B F0 w0=>?_);have ce:=qe V ha sa (by omega);have h5:=V.l5;have la:=ha.len (by omega);have cl:=gW a sa hk (by omega);have cs:=c6 (aC a) ha.minus h5;refine qX 3 rfl ?_;refine qI ?_;refine qX 2 rfl ?_;refine ab.fA tok rfl rfl rfl rfl rfl ?_;refine ab.call tok rfl rfl rfl rfl ce ?_;refine qU 1 rfl ?_;refine qK 2 rfl ?_;refine ab.nil ?_;refine AW.ar rfl ?_;refine AW.skip ?_;refine qX 1 rfl ?_;refine ab.call tok rfl rfl rfl rfl cl ?_;refine ab.call tok rfl rfl rfl rfl cs ?_;refine qU 2 rfl ?_;exact qN rfl
theorem Ds{m k:Nat}{v:List NQ}{a b:NQ}(V:jv m v)(ha:ak v.length a)(sa:aj k a)(hb:ak v.length b)(sb:aj k b)(hk:k≤17300000000000):Pure Tryz.prog 134 [bI v,ah a,ah b] (.tu [ah (nL a b),dI 0]):=by
 refine qJ 22 Tryz.func134 rfl rfl rfl rfl (by kernel_rfl) (fun B F0 w0=>?_);have ce:=qd V ha sa hb sb (by omega);have h5:=V.l5;have la:=ha.len (by omega);have lb:=hb.len (by omega);have cl:=gW b sb hk (by omega);have cp:=fP a (aC b) sa sb.minus hk (by omega) (by rw[a7];omega);have cs:=c6 (aM a (aC b)) (ha.plus hb.minus) h5;refine qX 3 rfl ?_;refine qI ?_;refine qX 3 rfl ?_;refine ab.fA tok rfl rfl rfl rfl rfl ?_;refine ab.call tok rfl rfl rfl rfl ce ?_;refine qU 1 rfl ?_;refine qK 2 rfl ?_;refine ab.nil ?_;refine AW.ar rfl ?_;refine AW.skip ?_;refine qX 2 rfl ?_;refine ab.call tok rfl rfl rfl rfl cl ?_;refine ab.call tok rfl rfl rfl rfl cp ?_;refine ab.call tok rfl rfl rfl rfl cs ?_;refine qU 2 rfl ?_;exact qN rfl
theorem yv{m k:Nat}{v:List NQ}{a b:NQ}(V:jv m v)(ha:ak v.length a)(sa:aj k a)(hb:ak v.length b)(sb:aj k b)(hm:m≤k)(hk:sT v.length k≤17300000000000):Pure Tryz.prog 82 [bI v,ah a,ah b] (.tu [ah (iD v a b),dI 0]):=by
 refine qJ 22 Tryz.func82 rfl rfl rfl rfl (by kernel_rfl) (fun B F0 w0=>?_);have hk2:=bm v.length k;have ce:=qd V ha sa hb sb (by omega);have h5:=V.l5;have la:=ha.len (by omega);have lb:=hb.len (by omega);have hx: ∀j,j<v.length→(v.map ah)[j]?=some (ah (v.getD j [])):=fun j hj=>nC hj;have ct:=fc v.length (xs:=v.map ah) ha hb V.ro (Nat.le_refl _) h5 hx sa sb (V.sz.mono hm) hk;have rt:=je v.length ha hb V.ro (Nat.le_refl _);have tt:=dX v.length ha hb V.ro (Nat.le_refl _);have cs:=c6 (eJ v.length v a b) rt.1 h5;rw[lR rt.1 tt.1 (rt.2.trans tt.2.symm)] at cs;refine qX 3 rfl ?_;refine qI ?_;refine qX 3 rfl ?_;refine ab.fA tok rfl rfl rfl rfl rfl ?_;refine ab.call tok rfl rfl rfl rfl ce ?_;refine qU 1 rfl ?_;refine qK 2 rfl ?_;refine ab.nil ?_;refine AW.ar rfl ?_;refine AW.skip ?_;refine qX 3 rfl ?_;refine ab.call tok rfl rfl rfl rfl ct ?_;refine ab.call tok rfl rfl rfl rfl cs ?_;refine qU 2 rfl ?_;exact qN rfl
theorem Cb{m k:Nat}{v:List NQ}{a:NQ}(V:jv m v)(ha:ak v.length a)(sa:aj k a)(hm:m≤k)(hk:mQ v.length k):Pure Tryz.prog 120 [bI v,ah a] (.tu [dI (lD v a),dI 0]):=by
 refine qJ 17 Tryz.func120 rfl rfl rfl rfl (by kernel_rfl) (fun B F0 w0=>?_);have hk2:=nV hk;have ce:=qe V ha sa (by omega);have h5:=V.l5;have la:=ha.len (by omega);have cg:=fO v.length (xs:=v.map ah) ha (by omega) V.ro (Nat.le_refl _) (fun j hj=>nC hj) sa (V.sz.mono hm) hk;rw[fq v.length ha V.ro V.pos (Nat.le_refl _),← dO v.length ha V.ro (Nat.le_refl _)] at cg;refine qX 3 rfl ?_;refine qI ?_;refine qX 2 rfl ?_;refine ab.fA tok rfl rfl rfl rfl rfl ?_;refine ab.call tok rfl rfl rfl rfl ce ?_;refine qU 1 rfl ?_;refine qK 2 rfl ?_;refine ab.nil ?_;refine AW.ar rfl ?_;refine AW.skip ?_;refine qX 2 rfl ?_;refine ab.call tok rfl rfl rfl rfl cg ?_;refine qU 2 rfl ?_;exact qN rfl
theorem Du{m k:Nat}{v:List NQ}{a b:NQ}(V:jv m v)(ha:ak v.length a)(sa:aj k a)(hb:ak v.length b)(sb:aj k b)(hm:m≤2*k+1)(hk:mQ v.length (2*k+1)):Pure Tryz.prog 65 [bI v,ah a,ah b] (.tu [dI (aT v v.length (cf (aM a (aC b)))),dI 0]):=by
 refine qJ 23 Tryz.func65 rfl rfl rfl rfl (by kernel_rfl) (fun B F0 w0=>?_);have hk2:=nV hk;have ce:=qd V ha sa hb sb (by omega);have h5:=V.l5;have la:=ha.len (by omega);have lb:=hb.len (by omega);have cl:=gW b sb (by omega) (by omega);have cp:=fP a (aC b) sa sb.minus (by omega) (by omega) (by rw[a7];omega);have hp:=ha.plus hb.minus;have cg:=fO v.length (xs:=v.map ah) hp h5 V.ro (Nat.le_refl _) (fun j hj=>nC hj) ((sa.plus sb.minus).mono (by omega)) (V.sz.mono hm) hk;rw[fq v.length hp V.ro V.pos (Nat.le_refl _)] at cg;refine qX 3 rfl ?_;refine qI ?_;refine qX 3 rfl ?_;refine ab.fA tok rfl rfl rfl rfl rfl ?_;refine ab.call tok rfl rfl rfl rfl ce ?_;refine qU 1 rfl ?_;refine qK 2 rfl ?_;refine ab.nil ?_;refine AW.ar rfl ?_
 · refine AW.skip (AW.seq ?_);refine AW.draw aL 6 (by kernel_rfl) ?_;refine qP 3 rfl ?_;refine ae.call tok rfl rfl rfl rfl rfl cl ?_;refine ae.call tok rfl rfl rfl rfl rfl cp ?_;refine ae.call tok rfl rfl rfl rfl rfl cg ?_;refine ae.nil ?_;refine qU 2 rfl ?_;exact qN rfl
theorem wR{m k:Nat}{v:List NQ}{a:NQ}(V:jv m v)(ha:ak v.length a)(sa:aj k a)(hm:m≤k)(hk:mQ v.length k)(hj:DD v.length k)(h0:lD v a≠0):Pure Tryz.prog 95 [bI v,ah a] (.tu [ah (ai (hC v.length v a)),dI 0]):=by
 refine qJ 22 Tryz.func95 rfl rfl rfl rfl (by kernel_rfl) (fun B F0 w0=>?_);have hk2:=nV hk;have ce:=qe V ha sa hk2;have h5:=V.l5;have cg:=fO v.length (xs:=v.map ah) ha (by omega) V.ro (Nat.le_refl _) (fun j hj=>nC hj) sa (V.sz.mono hm) hk;rw[fq v.length ha V.ro V.pos (Nat.le_refl _),← dO v.length ha V.ro (Nat.le_refl _)] at cg;have hs:aT v v.length (cf a)≠0:=by rw[← dO v.length ha V.ro (Nat.le_refl _)];exact h0
 have h0:dG v.length v a≠0:=h0;have ci:=tz V.ro V.pos h5 v.length ha (Nat.le_refl _) sa (V.sz.mono hm) hs hj;have hr:=Bi V.ro V.pos v.length ha ha rfl (Nat.le_refl _) hs;have cs:=c6 _ hr.1 h5;rw[lR hr.1 (fj v.length ha V.ro (Nat.le_refl _)) hr.2] at cs;refine qX 3 rfl ?_;refine qI ?_;refine qX 2 rfl ?_;refine ab.fA tok rfl rfl rfl rfl rfl ?_;refine ab.call tok rfl rfl rfl rfl ce ?_;refine qU 1 rfl ?_;refine qK 2 rfl ?_;refine ab.nil ?_;refine AW.ar rfl ?_;refine AW.skip (AW.seq ?_);refine qX 2 rfl ?_;refine ab.call tok rfl rfl rfl rfl cg ?_;refine qU 1 rfl ?_;rw[beq_eq_false_iff_ne.2 h0];refine ab.nil ?_;refine AW.ar rfl ?_;refine AW.skip ?_;refine qX 2 rfl ?_;refine ab.call tok rfl rfl rfl rfl ci ?_;refine ab.call tok rfl rfl rfl rfl cs ?_;refine qU 2 rfl ?_;exact qN rfl
end Lift
namespace Lift
open Go Go.Proofs
theorem yO{m k:Nat}{v:List NQ}{a b:NQ}(V:jv m v)(ha:ak v.length a)(sa:aj k a)(hb:ak v.length b)(sb:aj k b)(hm:m≤k):ak v.length (iD v a b)∧aj (sT v.length k) (iD v a b):=by
 have h:=dW v.length ha hb V.ro (Nat.le_refl _) sa sb (V.sz.mono hm);exact aO h.1 h.2
theorem rn{m k:Nat}{v:List NQ}{a:NQ}(V:jv m v)(ha:ak v.length a)(sa:aj k a)(hm:m≤k)(hk:mQ v.length k):Pure Tryz.prog 81 [bI v,ah a] (dB (decide (lD v a=0))):=by
 refine qJ 15 Tryz.func81 rfl rfl rfl rfl (by kernel_rfl) (fun B F0 w0=>?_);have c:=Cb V ha sa hm hk;rw[show decide (lD v a=0)=(lD v a==0) by by_cases h:lD v a=0<;>simp[h]];refine qX 2 rfl ?_;refine qK 2 rfl ?_;refine ab.call tok rfl rfl rfl rfl c ?_;refine qU 5 rfl ?_;refine qK 3 rfl ?_;exact qN rfl
theorem lX(a:bk):Pure Tryz.prog 71 [bS a] (dI (ay a)):=by
 refine qJ 10 Tryz.func71 rfl rfl rfl rfl (by kernel_rfl) (fun B F0 w0=>?_);refine qX 1 rfl ?_;refine qI ?_;refine qX 2 rfl ?_;rw[List.length_map];refine qU 1 rfl ?_;refine ab.nil ?_;by_cases h0:a.length=0
 · rw[List.length_eq_zero_iff.1 h0];refine AW.aF rfl ?_;refine qX 1 rfl ?_;exact qN rfl
 rw[beq_eq_false_iff_ne.2 (show (a.length:Int)≠0 by omega)];have g0:=getM dv (l:=a) (i:=0) (by omega);refine AW.ar rfl ?_
 · skip
   refine AW.skip ?_;refine qX 1 rfl ?_;refine ab.idx tok (dv (a.getD 0 [])) rfl rfl rfl rfl (Int.le_refl _) g0 ?_;refine qU 2 rfl ?_;rw[List.length_map];refine qU 1 rfl ?_;exact qN rfl
theorem zP(v:List NQ)(xs ys:List NQ)(c:NQ){i:Nat}(hi:i<xs.length):(fJ v xs ys c).take (i+1)=(fJ v xs ys c).take i++[nL (xs.getD i []) (iD v c (ys.getD i []))]:=by
 have hl:i<(fJ v xs ys c).length:=by rw[ja];exact hi
 rw[List.take_succ_eq_append_getElem hl]
 congr 2
 have:=j5 v xs ys c hi;rw[List.getD_eq_getElem?_getD,List.getElem?_eq_getElem hl] at this;exact this
end Lift
namespace Lift
open Go Go.Proofs
def AN(a:bk)(res:D)(R':List LR):Prop:= ∃(Vr:Value) (Vs:List Value),Vs.length=a.length∧res= .v Vr∧R'=(Vr,OA Vs)::bY Vs a
theorem nq{a:bk}(ha:a.length≤1000000)(hN: ∀i,(a.getD i []).length≤1000000):iu Tryz.prog 94 [bS a] [] (AN a):=by
 refine iu.intro (n:=20) tok Tryz.func94 rfl rfl rfl (Nat.le_of_ble_eq_true rfl) (by kernel_rfl) (fun B F0 w0=>?_);have htk:=fun {i:Nat} (hi:i<a.length)=>List.take_succ_eq_append_getElem (l:=a) hi;refine AZ.seq ?_;refine AZ.dm (fun B1 F1 w1=>?_);refine qU 1 rfl ?_;refine ab.nil ⟨rfl,?_⟩;refine AZ.seq ?_;refine AZ.dm (fun B1 F1 w1=>?_);refine qU 1 rfl ?_;refine ab.nil ⟨rfl,?_⟩;refine AZ.to [0,3] [(0,.d (bS a)),(3,.ow 22 [])] rfl ?_;refine AZ.gC 3 rfl rfl rfl (fun V0=>?_);refine AZ.seq ?_;refine AZ.seq ?_;refine AZ.dm (fun B1 F1 w1=>?_);refine qU 2 rfl ?_;rw[List.length_map];refine qU 1 rfl ?_;refine ab.nil ⟨rfl,?_⟩;refine AZ.block ?_;refine AZ.aD [3,6,7,8] (fun s:Nat×Value×List Value=>((s.2.1,OA s.2.2)::bY s.2.2 (a.take s.1),[(3,.d (.v s.2.1)),(6,.d (bS a)),(7,.d (dI a.length)),(8,.d (dI s.1))])) (fun s=>s.1≤a.length∧s.2.2.length=s.1) (fun s=>a.length-s.1) (0,V0,[]) rfl ⟨Nat.zero_le _,rfl⟩ (fun s hs=>?_);obtain ⟨i,Vr,Vs⟩:=s;obtain ⟨hi,hVs⟩:=hs
 dsimp only at hi hVs
 show AZ _ _ _ _ _ _ _ ((Vr,OA Vs)::bY Vs (a.take i)) [(3,.d (.v Vr)),(6,.d (bS a)),(7,.d (dI a.length)),(8,.d (dI i))];refine AZ.seq ?_;refine AZ.dm (fun B1 F1 w1=>?_);refine qU 1 rfl ?_;refine ab.nil ⟨rfl,?_⟩;refine AZ.seq ?_;refine AZ.cond rfl (fun h=>?_) (fun h=>?_);rotate_left
 · have hii:i=a.length:=by have:=of_decide_eq_false h;omega
   subst hii;rw[List.take_length];refine AZ.exit ?_;refine AZ.seq ?_;refine AZ.dm (fun B1 F1 w1=>?_);refine qU 2 rfl ?_;refine ab.nil ⟨rfl,?_⟩;exact AZ.ret ⟨.v Vr,rfl,Vr,Vs,hVs,rfl,rfl⟩
 have hii:i<a.length:=by have:=of_decide_eq_true h;omega
 have hg:=getM dv (l:=a) (i:=i) hii;have hrl:=hN i;have htk:=htk hii;have hge:a[i]=a.getD i []:=by rw[List.getD_eq_getElem?_getD,List.getElem?_eq_getElem hii];rfl
 rw[hge] at htk;generalize a.getD i []=row at hg hrl htk;refine AZ.skip ?_;refine AZ.seq ?_;refine AZ.block ?_;refine AZ.seq ?_;refine AZ.dm (fun B1 F1 w1=>?_);refine ab.idx tok (dv row) rfl rfl rfl rfl (Int.natCast_nonneg i) hg ?_;refine qU 2 rfl ?_;refine ab.nil ⟨rfl,?_⟩;refine AZ.region ?_;refine af.cut 4 rfl (fun B1 F1 w1=>?_);refine qU 3 rfl ?_;refine ab.pL tok rfl rfl rfl rfl (by rw[List.length_map];show row.length*24≤_;omega) ?_;refine ab.nil ⟨rfl,?_⟩;refine af.gC 15 rfl rfl rfl (fun V=>?_);refine af.cut 1 rfl (fun B1 F1 w1=>?_);refine ab.fA tok rfl rfl rfl rfl rfl ?_;refine ab.nil ⟨rfl,?_⟩;refine af.df 12 0 rfl rfl rfl ?_;refine af.cut 1 rfl (fun B1 F1 w1=>?_);refine ab.gK tok rfl rfl rfl rfl rfl rfl (by show ((mB Vs).length+1)*24≤_;rw[List.length_map];omega) (by show (mB Vs).length+1≤_;rw[List.length_map];omega) ?_;refine ab.nil ⟨rfl,?_⟩;refine af.ub 17 0 rfl rfl rfl rfl (fun Vq=>?_)
 refine af.kx (R':=(Vq,OA (Vs++[V]))::bY (Vs++[V]) (a.take (i+1))) (by
  show (Vq,AV.ow 22 (mB Vs++[.v V]))::(bY Vs (a.take i)++[(V,eH row)])=_
  rw[htk,zv (by rw[List.length_take];omega),show mB Vs++[.v V]=mB (Vs++[V]) by simp]) ?_
 refine af.cut 1 rfl (fun B1 F1 w1=>?_);refine qU 1 rfl ?_;refine ab.nil ⟨rfl,?_⟩;refine af.nil ?_;refine AZ.dm (fun B1 F1 w1=>?_);refine qU 1 rfl ?_;rw[aA (x:=(i:Int)+1) (by omega) (by omega)];refine qU 1 rfl ?_;refine ab.nil ⟨rfl,?_⟩;exact⟨(i+1,Vq,Vs++[V]),rfl,⟨hii,by show (Vs++[V]).length=i+1;rw[List.length_append];show Vs.length+1=_;omega⟩,by show a.length-(i+1)<a.length-i;omega⟩
theorem rT(Vr:Value)(Vs:List Value)(row:List NQ)(h0:0<Vs.length):iu Tryz.prog 71 [.v Vr] [(Vr,OA Vs),(Vs.getD 0 undef,eH row)] (fun res R'=>res=dI row.length∧R'=[(Vr,OA Vs),(Vs.getD 0 undef,eH row)]):=by
 refine iu.intro (n:=10) tok Tryz.func71 rfl rfl rfl (Nat.le_of_ble_eq_true rfl) (by kernel_rfl) (fun B F0 w0=>?_);refine AZ.seq ?_;refine AZ.dm (fun B1 F1 w1=>?_);refine qU 1 rfl ?_;refine ab.nil ⟨rfl,?_⟩;refine AZ.seq ?_;refine AZ.seq ?_;refine AZ.uX (fun B1 F1 w1 hS=>?_);refine qU 1 rfl ?_;refine ab.lens tok (hS.at (i:=0) rfl (by rw[List.length_map];exact h0)) rfl rfl rfl rfl ?_;rw[List.length_map];refine qU 1 rfl ?_;rw[beq_eq_false_iff_ne.2 (show (Vs.length:Int)≠0 by omega)];refine ab.nil ⟨rfl,?_⟩;refine AZ.ar rfl ?_;refine AZ.skip ?_;refine AZ.seq ?_;refine AZ.region ?_;refine af.zg 3 rfl (fun B1 F1 w1 hS=>?_);refine qU 1 rfl ?_;refine ab.idxs tok (hS.at (i:=0) rfl (by rw[List.length_map];exact h0)) rfl rfl rfl rfl (Int.le_refl _) (by rw[List.length_map];exact h0) ?_;refine ab.bd tok (.v (Vs.getD 0 undef)) (i:=0) (hS.at (i:=0) rfl (by rw[List.length_map];exact h0)) rfl rfl rfl rfl rfl rfl (b8 h0) rfl ?_;refine ab.nil ⟨rfl,?_⟩;refine af.df 8 1 rfl rfl rfl ?_;refine af.cut 1 rfl (fun B1 F1 w1=>?_);refine qU 1 rfl ?_;rw[List.length_map];refine ab.nil ⟨rfl,?_⟩;refine af.back 8 1 rfl rfl rfl (List.Mem.head _) rfl ?_;refine af.cut 1 rfl (fun B1 F1 w1=>?_);refine qU 1 rfl ?_;refine ab.nil ⟨rfl,?_⟩;refine af.nil ?_;exact AZ.ret ⟨_,rfl,rfl,rfl⟩
end Lift
namespace Lift
open Go Go.Proofs
def DT(V1 V2:Value)(xs ys zs:List NQ)(res:D)(R':List LR):Prop:= ∃V:Value,res= .v V∧R'=[(V1,eH xs),(V2,eH ys),(V,eH zs)]
theorem wM(V1 V2:Value){m k:Nat}{v:List NQ}{xs ys:List NQ}{c:NQ}(V:jv m v)(hx: ∀i,ak v.length (xs.getD i []))(hy: ∀i,ak v.length (ys.getD i []))(hc:ak v.length c)(sx: ∀i,aj k (xs.getD i []))(sy: ∀i,aj k (ys.getD i []))(sc:aj k c)(hm:m≤k)(hk:sT v.length k≤17300000000000)(hl:ys.length=xs.length)(hl0:0<xs.length)(hl1:xs.length≤1000000):
  iu Tryz.prog 96 [bI v,.v V1,.v V2,ah c] [(V1,eH xs),(V2,eH ys)] (DT V1 V2 xs ys (fJ v xs ys c)):=by
 refine iu.intro (n:=46) tok Tryz.func96 rfl rfl rfl (Nat.le_of_ble_eq_true rfl) (by kernel_rfl) (fun B F0 w0=>?_);have hk2:=bm v.length k;have hz:=ja v xs ys c;have hts:=fun i (hi:i<xs.length)=>zP v xs ys c hi;have hta:(fJ v xs ys c).take xs.length=fJ v xs ys c:=List.take_of_length_le (by omega);have cm:=fun i=>yv V hc sc (hy i) (sy i) hm hk;have cs:=fun i=>Ds V (hx i) ((sx i).mono (by omega:k≤sT v.length k)) (yO V hc sc (hy i) (sy i) hm).1 (yO V hc sc (hy i) (sy i) hm).2 (by omega);generalize fJ v xs ys c=zs at *;refine AZ.seq ?_;refine AZ.dm (fun B1 F1 w1=>?_);refine qU 2 rfl ?_;refine ab.nil ⟨rfl,?_⟩;refine AZ.seq ?_;refine AZ.dm (fun B1 F1 w1=>?_);refine qU 1 rfl ?_;refine ab.nil ⟨rfl,?_⟩;refine AZ.to [1,2,3,4,9] [(1,.d (.v V1)),(2,.d (.v V2)),(3,.d (ah c)),(4,.bx [.sl 1 (v.map ah)]),(9,.ow 53 [])] rfl ?_;refine AZ.seq ?_;refine AZ.seq ?_;refine AZ.uX (fun B1 F1 w1 hS=>?_);refine qU 1 rfl ?_;refine ab.lens tok (hS.at (i:=0) rfl (by rw[List.length_map];exact hl0)) rfl rfl rfl rfl ?_;rw[List.length_map];refine qU 1 rfl ?_;refine ab.nil ⟨rfl,?_⟩;refine AZ.block ?_;refine AZ.aD [1,2,3,4,9,16,17] (fun i:Nat=>([(V1,eH xs),(V2,eH ys)],[(1,.d (.v V1)),(2,.d (.v V2)),(3,.d (ah c)),(4,.bx [.sl 1 (v.map ah)]),(9,.ow 53 ((zs.take i).map ah)),(16,.d (dI xs.length)),(17,.d (dI i))])) (fun i=>i≤xs.length) (fun i=>xs.length-i) 0 rfl (Nat.zero_le _) (fun i hi=>?_);show AZ _ _ _ _ _ _ _ [(V1,eH xs),(V2,eH ys)] [(1,.d (.v V1)),(2,.d (.v V2)),(3,.d (ah c)),(4,.bx [.sl 1 (v.map ah)]),(9,.ow 53 ((zs.take i).map ah)),(16,.d (dI xs.length)),(17,.d (dI i))];refine AZ.seq ?_;refine AZ.dm (fun B1 F1 w1=>?_);refine qU 1 rfl ?_;refine ab.nil ⟨rfl,?_⟩;refine AZ.seq ?_;refine AZ.cond rfl (fun h=>?_) (fun h=>?_);rotate_left
 · have hii:i=xs.length:=by have:=of_decide_eq_false h;omega
   subst hii;rw[hta];refine AZ.exit ?_;refine AZ.seq ?_;refine AZ.dm (fun B1 F1 w1=>?_);refine qU 2 rfl ?_;refine ab.nil ⟨rfl,?_⟩;exact AZ.gC 8 rfl rfl rfl (fun V=>AZ.ret ⟨.v V,rfl,V,rfl,rfl⟩)
 have hii:i<xs.length:=by have:=of_decide_eq_true h;omega
 have gx:=getM ah (l:=xs) (i:=i) hii;have gy:=getM ah (l:=ys) (i:=i) (by omega);have hts:=hts i hii;have cm:=cm i;have cs:=cs i;generalize xs.getD i []=x at *;generalize ys.getD i []=y at *;generalize iD v c y=p at *;generalize nL x p=q at *;refine AZ.skip ?_;refine AZ.seq ?_;refine AZ.block ?_;refine AZ.seq ?_;refine AZ.dm (fun B1 F1 w1=>?_);refine qU 2 rfl ?_;refine ab.nil ⟨rfl,?_⟩;refine AZ.seq ?_;refine AZ.HE aL 11 (by kernel_rfl) (fun B1 F1 w1 hS=>?_);have hS2:=hS.at (i:=1) rfl (by rw[List.length_map];omega);refine qP 4 rfl ?_;refine ae.idxs tok hS2 rfl rfl rfl rfl rfl (Int.natCast_nonneg i) (by rw[List.length_map];show i<ys.length;omega) ?_;refine ae.bd tok (ah y) hS2 rfl rfl rfl rfl rfl rfl rfl gy rfl ?_;refine ae.call tok rfl rfl rfl rfl rfl cm ?_;refine qP 4 rfl ?_;refine ae.nil ?_;refine qU 1 rfl ?_;refine ab.nil ⟨rfl,?_⟩;refine AZ.seq ?_;refine AZ.HE aL 11 (by kernel_rfl) (fun B1 F1 w1 hS=>?_);have hS1:=hS.at (i:=0) rfl (by rw[List.length_map];omega);refine qP 3 rfl ?_;refine ae.idxs tok hS1 rfl rfl rfl rfl rfl (Int.natCast_nonneg i) (by rw[List.length_map];exact hii) ?_;refine ae.bd tok (ah x) hS1 rfl rfl rfl rfl rfl rfl rfl gx rfl ?_;refine qP 1 rfl ?_;refine ae.call tok rfl rfl rfl rfl rfl cs ?_;refine qP 4 rfl ?_;refine ae.nil ?_;refine qU 1 rfl ?_;refine ab.nil ⟨rfl,?_⟩;refine AZ.dm (fun B1 F1 w1=>?_);refine qU 2 rfl ?_;refine ab.fA tok rfl rfl rfl rfl rfl ?_;refine ab.gK tok rfl rfl rfl rfl rfl rfl (by rw[List.length_map,List.length_take];show (_+1)*24≤_;omega) (by rw[List.length_map,List.length_take];show _+1≤_;omega) ?_;refine qU 1 rfl ?_;refine ab.nil ⟨rfl,?_⟩;refine AZ.dm (fun B1 F1 w1=>?_);refine qU 1 rfl ?_;rw[aA (x:=(i:Int)+1) (by omega) (by omega)];refine qU 1 rfl ?_;refine ab.nil ⟨rfl,?_⟩;exact⟨i+1,by rw[hts,List.map_append];rfl,hii,by omega⟩
end Lift
namespace Lift
open Go Go.Proofs
theorem yo{v:List NQ}{a:bk}{c:Nat}(h:(aH v a c).cols.length=(aH v a c).rows.length): ∀d,aH v a (c+d)=aH v a c
 | 0=>rfl
 | d+1=>by
   have ih:=yo h d;show dZ v (aH v a (c+d)) (c+d)=aH v a c;rw[ih];unfold dZ;rw[if_neg];unfold atR;rw[h,Nat.sub_self];exact Nat.lt_irrefl _
theorem Ib{R:List LR}{x y:LR}(h0:R[0]?=some x)(h1:R[1]?=some y):rQ R [0,1]=some [x,y]:=by
 unfold rQ rQ;rw[h0,h1];rfl
theorem oK{R:List LR}{i:Nat}{x:LR}(h:R[i]?=some x):R.set i x=R:=by
 refine List.ext_getElem? (fun k=>?_);by_cases hk:k=i
 · subst hk;rw[List.getElem?_set_self (List.getElem?_eq_some_iff.1 h).1,h]
 · rw[List.getElem?_set_ne (Ne.symm hk)]
theorem H4{R:List LR}{x y:LR}(h0:R[0]?=some x)(h1:R[1]?=some y):BS R [0,1] [x,y]=R:=by
 show (R.set 0 x).set 1 y++[]=R;rw[List.append_nil,oK h0,oK h1]
theorem Ap{m:Nat}{v:List NQ}(V:jv m v){x p:NQ}(hx:ak v.length x)(hp:ak v.length p):iD v x (ai (hC v.length v p))=r9 v x p:=by
 have hi:=fj v.length hp V.ro (Nat.le_refl _);have h1:=dX v.length hx (bg hi) V.ro (Nat.le_refl _);have h2:=dX v.length hx hi V.ro (Nat.le_refl _);exact lR h1.1 h2.1 (by rw[h1.2,h2.2,bh hi])
theorem C0{b:bk}{r:Nat}(h:r<b.length):A9 b r r=b:=by
 unfold A9;rw[lS h,lS h]
theorem E'{Vs:List Value}{r t:Nat}:(Vs.set r (Vs.getD t undef)).set t (Vs.getD r undef)=Bb Vs r t:=by
 unfold Bb;by_cases h:r=t
 · subst h;rfl
 · exact List.set_comm _ _ h
section
variable {P:Program} {T:Ty} {B:Nat} {F0:Nat→Prop} {w0:bQ} {n:Nat} {σ:St} {x:Code} {Q:Exit→List LR→St→Prop}
theorem AZ.Dk{R:LR}{L:List LR}{i:Nat}{a b:LR}(hi:L[i]?=some a)(h:AZ P B F0 w0 n x Q (R::L.set i b) σ):AZ P B F0 w0 n x Q (R::L++[b]) σ:=by
 have hl:i<L.length:=(List.getElem?_eq_some_iff.1 hi).1;refine AZ.xW (ri:=a) (rj:=b) (i+1) (L.length+1) ?_ ?_ (AZ.rG (R::L.set i b) (fun k r hk=> .inl ?_) h)
 · show (L++[b])[i]?=_;rw[List.getElem?_append_left hl,hi]
 · show (L++[b])[L.length]?=_;rw[List.getElem?_append_right (Nat.le_refl _),Nat.sub_self];rfl
 · match k,hk with
   | 0,hk=>exact hk
   | k+1,hk =>
     have hk:(L.set i b)[k]?=some r:=hk;have hkl:k<(L.set i b).length:=(List.getElem?_eq_some_iff.1 hk).1;rw[List.length_set] at hkl;show (((L++[b]).set i b).set L.length a)[k]?=some r;rw[List.getElem?_set_ne (by omega),List.set_append_left _ _ hl,List.getElem?_append_left (by rw[List.length_set];exact hkl)];exact hk
theorem AZ.xp(hT:a6 P T){e eo:Nat}{te:TI}(he:T.get e=some te)(h1:te.size=1){Vr:Value}{Vs:List Value}{a:bk}(hl:Vs.length=a.length)
  (h:AZ P B F0 w0 n x Q [(Vr,.ow eo (a.map dv))] σ): ∀(m k:Nat),m+k=a.length→ ∀L:List LR,(∀j,k≤j→j<a.length→L[j]?=some (Vs.getD j undef,.ow e ((a.getD j []).map ah))) →
  AZ P B F0 w0 n x Q ((Vr,.ow eo ((a.take k).map dv++(mB Vs).drop k))::L) σ
 | 0,k,hk,L,hL=>by
   rw[List.take_of_length_le (by omega),List.drop_eq_nil_of_le (by rw[List.length_map];omega),List.append_nil];refine AZ.rG _ (fun i r hr=> .inl ?_) h
   match i,hr with
   | 0,hr=>exact hr
 | m+1,k,hk,L,hL=>by
   have hka:k<a.length:=by omega
   have hll:k<L.length:=(List.getElem?_eq_some_iff.1 (hL k (Nat.le_refl _) hka)).1;have hft:((a.take k).map dv).length=k:=by rw[List.length_map,List.length_take];omega
   refine AZ.F7 hT (k+1) 0 k (cs:=(a.take k).map dv++(mB Vs).drop k) rfl (fun d hd=>?_) ?_ (hL k (Nat.le_refl _) hka) (by omega) he ?_
   · rcases List.mem_append.1 hd with g | g
     · obtain ⟨r,_,rfl⟩:=List.mem_map.1 g;rfl
     · obtain ⟨V,_,rfl⟩:=List.mem_map.1 (List.mem_of_mem_drop g);rfl
   · rw[List.getElem?_append_right (by omega),hft,Nat.sub_self,List.getElem?_drop,Nat.add_zero];exact b8 (by omega)
   · have e1:((a.take k).map dv++(mB Vs).drop k).set k (.sl te.size ((a.getD k []).map ah))=(a.take (k+1)).map dv++(mB Vs).drop (k+1):=by
      rw[h1,List.set_append_right _ _ (by omega),hft,Nat.sub_self,List.take_succ_eq_append_getElem hka,List.map_append]
      have:(mB Vs).drop k= .v (Vs.getD k undef)::(mB Vs).drop (k+1):=by
       rw[List.drop_eq_getElem_cons (by rw[List.length_map];omega)]
       congr 1
       have:=b8 (Vs:=Vs) (i:=k) (by omega);rw[List.getElem?_eq_getElem (by rw[List.length_map];omega)] at this;simpa using this
      rw[this,List.set_cons_zero,List.append_assoc];have g:a[k]=a.getD k []:=by rw[List.getD_eq_getElem?_getD,List.getElem?_eq_getElem hka];rfl
      rw[g];rfl
     show AZ P B F0 w0 n x Q ((Vr,.ow eo (((a.take k).map dv++(mB Vs).drop k).set k (.sl te.size ((a.getD k []).map ah))))::L.set k (Vs.getD k undef,.junk)) σ;rw[e1]
     exact AZ.xp hT he h1 hl h m (k+1) (by omega) (L.set k (Vs.getD k undef,.junk)) (fun j hj hja=>by
      rw[List.getElem?_set_ne (by omega)];exact hL j (by omega) hja)
end
set_option maxHeartbeats 12800000 in
theorem uZ{m Kz:Nat}{v:List NQ}(V:jv m v){a:bk}{N:Nat}(ha0:0<a.length)(ha:a.length≤1000000)(hN:N≤1000000)(hr:b9 N a)(hl:nJ v.length a)
  (sz: ∀c,c≤N→ ∀j i,aj Kz (br (aH v a c).rows j i)) (szE: ∀c,c<N→atR v (aH v a c) c<(aH v a c).rows.length→ ∀j i,aj Kz (br (eR v (aH v a c) c) j i)) (szI: ∀c,c<N→atR v (aH v a c) c<(aH v a c).rows.length→aj Kz (ai (hC v.length v (pR v (aH v a c) c))))
  (hmK:m≤Kz) (k1:mQ v.length Kz) (k2:DD v.length Kz) (k3:sT v.length Kz≤17300000000000):
  Pure Tryz.prog 51 [bI v,bS a] (.tu [bS ((aH v a N).rows.take (aH v a N).cols.length),.sl 1 ((aH v a N).cols.map (fun c:Nat=>dI c))]):=by
 refine qJ 157 Tryz.func51 rfl rfl rfl rfl (by kernel_rfl) (fun B F0 w0=>?_);refine AZ.aw ?_;refine AZ.seq ?_;refine AZ.dm (fun B1 F1 w1=>?_);refine qU 3 rfl ?_;refine ab.nil ⟨rfl,?_⟩;refine AZ.seq ?_;refine AZ.region ?_;refine af.cut 1 rfl (fun B1 F1 w1=>?_);refine qU 1 rfl ?_;refine ab.nil ⟨rfl,?_⟩
 refine af.ju tok [] rfl rfl rfl rfl rfl List.nodup_nil rfl (nq (a:=a) ha (fun i=>by
  by_cases hi:i<a.length
  · rw[hr i hi];exact hN
  · rw[mV (by omega)];exact Nat.zero_le _)) (fun _ _ _=>Nat.zero_le _) (fun res R1 hP=>?_)
 obtain ⟨V0,Vs0,hV0,rfl,rfl⟩:=hP;refine af.cut 1 rfl (fun B1 F1 w1=>?_);refine qU 1 rfl ?_;refine ab.nil ⟨rfl,?_⟩;refine af.nil ?_;refine AZ.seq ?_;refine AZ.dm (fun B1 F1 w1=>?_);refine qU 1 rfl ?_;refine ab.nil ⟨rfl,?_⟩;refine AZ.seq ?_;refine AZ.seq ?_;refine AZ.dm (fun B1 F1 w1=>?_);refine qU 1 rfl ?_;refine ab.nil ⟨rfl,?_⟩;refine AZ.block ?_;refine AZ.aD [1,2,6,7] (fun z:Nat×Value×List Value=>((z.2.1,OA z.2.2)::bY z.2.2 (aH v a z.1).rows,[(1,.d (.v z.2.1)),(2,.bx [.sl 1 (v.map ah)]),(6,.ow 3 ((aH v a z.1).cols.map (fun c:Nat=>dI c))),(7,.d (dI z.1))])) (fun z=>z.1≤N∧z.2.2.length=a.length) (fun z=>N-z.1) (0,V0,Vs0) rfl ⟨Nat.zero_le _,hV0⟩ (fun z hz=>?_);clear hV0;clear V0 Vs0;obtain ⟨c,Vr,Vs⟩:=z;obtain ⟨hc,hVs⟩:=hz
 dsimp only at hc hVs
 have hR:=gw V.a hr hl c;have hnext:aH v a (c+1)=dZ v (aH v a c) c:=rfl;have zR:=sz c hc;have zE:=szE c;have zI:=szI c;have zN:=sz (c+1);have hfull:=fun h=>yo (v:=v) (a:=a) (c:=c) h (N-c);rw[show c+(N-c)=N by omega] at hfull;obtain ⟨s,hs⟩: ∃s,aH v a c=s:=⟨_,rfl⟩;rw[hs] at hR hnext zR zE zI hfull;show AZ _ _ _ _ _ _ _ ((Vr,OA Vs)::bY Vs (aH v a c).rows) [(1,.d (.v Vr)),(2,.bx [.sl 1 (v.map ah)]),(6,.ow 3 ((aH v a c).cols.map (fun c:Nat=>dI c))),(7,.d (dI c))];rw[hs];have hm':=hR.len;have hrm:=hR.cm;rw[← hm'] at hrm;have hVm:Vs.length=s.rows.length:=by omega
 have hrow0:0<s.rows.length:=by omega
 have hr0:(s.rows.getD 0 []).length=N:=hR.rect 0 hrow0;have hg0:((Vr,OA Vs)::bY Vs s.rows)[1]?=some (Vs.getD 0 undef,eH (s.rows.getD 0 [])):=b5 (Vs:=Vs) (j:=0) (by omega) hrow0;refine AZ.seq ?_;refine AZ.seq ?_;refine AZ.region ?_;refine af.cut 2 rfl (fun B1 F1 w1=>?_);refine qU 2 rfl ?_;refine ab.nil ⟨rfl,?_⟩;refine af.ju tok [0,1] rfl rfl rfl rfl (Ib rfl hg0) (by simp) rfl (rT Vr Vs (s.rows.getD 0 []) (by omega)) (fun res R1 hP=>by rw[hP.2];exact Nat.le_refl _) (fun res R1 hP=>?_);obtain ⟨rfl,rfl⟩:=hP;rw[hr0];refine af.kx (R':=(Vr,OA Vs)::bY Vs s.rows) (H4 rfl hg0) ?_;by_cases hcN:c<N;rotate_left
 · have hcc:c=N:=by omega
   subst hcc;rw[hs];refine af.cut 9 rfl (fun B1 F1 w1=>?_);refine qU 1 rfl ?_;rw[decide_eq_false (show ¬(c:Int)<(c:Int) by omega)];refine qU 8 rfl ?_;refine ab.nil ⟨rfl,?_⟩;refine af.nil ?_;refine AZ.ar rfl ?_;refine AZ.exit ?_;refine AZ.to [1,6] [(1,.d (.v Vr)),(6,CA s.cols)] rfl ?_;refine AZ.rG ((Vr,AV.ow 22 ((s.rows.take 0).map dv++(mB Vs).drop 0))::bY Vs s.rows) (fun _ _ h=> .inl h) ?_;refine AZ.xp (te:=_) tok (e:=53) rfl rfl (by omega) ?_ s.rows.length 0 (by omega) (bY Vs s.rows) (fun j _ hj=>b5 (by omega) hj);refine AZ.df 1 0 rfl rfl rfl ?_;refine AZ.seq ?_;refine AZ.dm (fun B1 F1 w1=>?_);refine ab.fS tok 1 rfl rfl ?_;refine ab.fS tok 6 rfl rfl ?_;refine qU 2 rfl ?_;refine qU 1 rfl ?_;rw[List.length_map];refine ab.Bd tok rfl rfl rfl rfl trivial (Int.natCast_nonneg _) (Nat.zero_le _) (by show s.cols.length≤_;rw[List.length_map];omega) ?_;refine qU 3 rfl ?_;refine ab.nil ⟨rfl,?_⟩;refine AZ.ret ?_;show _=some (D.tu [bS (s.rows.take s.cols.length),_]);rw[show bS (s.rows.take s.cols.length)=D.sl 1 (((s.rows.map dv).take s.cols.length).drop 0) by rw[List.drop_zero,← List.map_take]];rfl
 have hfN:=fun h=>hfull h;refine af.zg 8 rfl (fun B1 F1 w1 hS=>?_);refine qU 1 rfl ?_;rw[decide_eq_true (show (c:Int)<(N:Int) by omega)];refine qU 3 rfl ?_;rw[List.length_map];refine qU 1 rfl ?_;refine ab.lens tok (hS.at (i:=0) rfl (by rw[List.length_map];omega)) rfl rfl rfl rfl ?_;rw[List.length_map];refine qU 2 rfl ?_;refine ab.nil ⟨rfl,?_⟩;refine af.nil ?_;refine AZ.cond rfl (fun h=>?_) (fun h=>?_);rotate_left
 · have hlc:s.cols.length=s.rows.length:=by have:=of_decide_eq_false h;omega
   rw[hfN hlc];refine AZ.exit ?_;refine AZ.to [1,6] [(1,.d (.v Vr)),(6,CA s.cols)] rfl ?_;refine AZ.rG ((Vr,AV.ow 22 ((s.rows.take 0).map dv++(mB Vs).drop 0))::bY Vs s.rows) (fun _ _ h=> .inl h) ?_;refine AZ.xp (te:=_) tok (e:=53) rfl rfl (by omega) ?_ s.rows.length 0 (by omega) (bY Vs s.rows) (fun j _ hj=>b5 (by omega) hj);refine AZ.df 1 0 rfl rfl rfl ?_;refine AZ.seq ?_;refine AZ.dm (fun B1 F1 w1=>?_);refine ab.fS tok 1 rfl rfl ?_;refine ab.fS tok 6 rfl rfl ?_;refine qU 2 rfl ?_;refine qU 1 rfl ?_;rw[List.length_map];refine ab.Bd tok rfl rfl rfl rfl trivial (Int.natCast_nonneg _) (Nat.zero_le _) (by show s.cols.length≤_;rw[List.length_map];omega) ?_;refine qU 3 rfl ?_;refine ab.nil ⟨rfl,?_⟩;refine AZ.ret ?_;show _=some (D.tu [bS (s.rows.take s.cols.length),_]);rw[show bS (s.rows.take s.cols.length)=D.sl 1 (((s.rows.map dv).take s.cols.length).drop 0) by rw[List.drop_zero,← List.map_take]];rfl
 have hlt:s.cols.length<s.rows.length:=by have:=of_decide_eq_true h;omega
 obtain ⟨hat1,hat2,hat3,hat4⟩:=iq v s c hrm;have hm6:s.rows.length≤1000000:=by omega
 have hel: ∀{b:bk} {i:Nat},b9 N b→i<b.length→ ∀k,k<N→((b.getD i []).map ah)[k]?=some (ah (br b i k)):=fun {b i} hb hi k hk=>getM ah (by rw[hb i hi];exact hk);refine AZ.skip ?_;refine AZ.seq ?_;refine AZ.block ?_;refine AZ.seq ?_;refine AZ.dm (fun B1 F1 w1=>?_);refine qU 2 rfl ?_;rw[List.length_map];refine qU 1 rfl ?_;refine ab.nil ⟨rfl,?_⟩;refine AZ.seq ?_;refine AZ.dm (fun B1 F1 w1=>?_);refine qU 2 rfl ?_;refine ab.nil ⟨rfl,?_⟩;refine AZ.cut [1,2,6,7,8,9] (fun _:Unit=>(((Vr,OA Vs)::bY Vs s.rows),[(1,.d (.v Vr)),(2,.bx [.sl 1 (v.map ah)]),(6,CA s.cols),(7,.d (dI c)),(8,.d (dI s.cols.length)),(9,.d (dI (atR v s c)))])) (fun _=>True) ?_ (fun _ _=>?_)
 · refine AZ.block ?_;refine AZ.aD [1,2,6,7,8,9] (fun j:Nat=>(((Vr,OA Vs)::bY Vs s.rows),[(1,.d (.v Vr)),(2,.bx [.sl 1 (v.map ah)]),(6,CA s.cols),(7,.d (dI c)),(8,.d (dI s.cols.length)),(9,.d (dI j))])) (fun j=>s.cols.length≤j∧j≤s.rows.length∧iG (Hk v s.rows c) (s.rows.length-j) j=atR v s c) (fun j=>s.rows.length-j) s.cols.length rfl ⟨Nat.le_refl _,hrm,rfl⟩ (fun j hj=>?_);show AZ _ _ _ _ _ _ _ ((Vr,OA Vs)::bY Vs s.rows) [(1,.d (.v Vr)),(2,.bx [.sl 1 (v.map ah)]),(6,CA s.cols),(7,.d (dI c)),(8,.d (dI s.cols.length)),(9,.d (dI j))];obtain ⟨j1,j2,j3⟩:=hj;refine AZ.seq ?_;refine AZ.seq ?_;refine AZ.any aL (gL.nE 15 (by kernel_rfl) (fun B1 F1 w1 hS=>?_));have hS0:=hS.at (i:=0) rfl (by rw[List.length_map];omega);refine qP 2 rfl ?_;refine ae.lens tok hS0 rfl rfl rfl rfl rfl ?_;rw[List.length_map];refine qP 1 rfl ?_;by_cases hjm:j<s.rows.length;rotate_left
   · rw[uk hjm] at j3;rw[decide_eq_false (show ¬(j:Int)<(Vs.length:Int) by omega)];refine qP 11 rfl ?_;refine ae.nil ⟨rfl,?_⟩;refine af.nil ?_;refine AZ.ar rfl ?_;exact AZ.exit ⟨(),by rw[← j3];rfl,trivial⟩
   rw[decide_eq_true (show (j:Int)<(Vs.length:Int) by omega)];have hj6:(s.rows.getD j []).length=N:=hR.rect j hjm;have hS1:=hS.at (i:=j+1) (b5 (Vs:=Vs) (by omega) hjm) (by rw[List.length_map];omega);have cs:=rn V (hR.lt j c) (zR j c) hmK k1;have hnz:Hk v s.rows c j=decide (lD v (br s.rows j c)≠0):=rfl;generalize lD v (br s.rows j c)=g at cs hnz;refine qP 4 rfl ?_;refine ae.idxs tok hS0 rfl rfl rfl rfl rfl (Int.natCast_nonneg j) (by rw[List.length_map];omega) ?_;refine ae.bd tok (.v (Vs.getD j undef)) hS0 rfl rfl rfl rfl rfl rfl rfl (b8 (by omega)) rfl ?_;refine qP 1 rfl ?_;refine ae.idxs tok hS1 rfl rfl rfl rfl rfl (Int.natCast_nonneg c) (by rw[List.length_map];omega) ?_;refine ae.bd tok (ah (br s.rows j c)) hS1 rfl rfl rfl rfl rfl rfl rfl (hel hR.rect hjm c hcN) rfl ?_;refine ae.call tok rfl rfl rfl rfl rfl cs ?_;refine qP 1 rfl ?_;refine ae.nil ⟨rfl,?_⟩;refine af.nil ?_;refine AZ.cond rfl (fun h=>?_) (fun h=>?_)
   · have hg:g=0:=of_decide_eq_true h;refine AZ.skip ?_;refine AZ.block ?_;refine AZ.dm (fun B1 F1 w1=>?_);refine qU 2 rfl ?_;rw[aA (x:=(j:Int)+1) (by omega) (by omega)];refine qU 1 rfl ?_;refine ab.nil ⟨rfl,?_⟩;exact⟨j+1,rfl,⟨by omega,hjm,by rw[← qM hjm (by rw[hnz,hg];rfl)];exact j3⟩,by omega⟩
   · have hg:g≠0:=of_decide_eq_false h;rw[uj hjm (by rw[hnz,decide_eq_true hg])] at j3;exact AZ.exit ⟨(),by rw[← j3];rfl,trivial⟩
 show AZ _ _ _ _ _ _ _ ((Vr,OA Vs)::bY Vs s.rows) [(1,.d (.v Vr)),(2,.bx [.sl 1 (v.map ah)]),(6,CA s.cols),(7,.d (dI c)),(8,.d (dI s.cols.length)),(9,.d (dI (atR v s c)))];refine AZ.seq ?_;refine AZ.seq ?_;refine AZ.uX (fun B1 F1 w1 hS=>?_);refine qU 2 rfl ?_;refine ab.lens tok (hS.at (i:=0) rfl (by rw[List.length_map];omega)) rfl rfl rfl rfl ?_;rw[List.length_map];refine qU 1 rfl ?_;refine ab.nil ⟨rfl,?_⟩;refine AZ.cond rfl (fun h=>?_) (fun h=>?_)
 · have hat: ¬atR v s c<s.rows.length:=by have:=beq_iff_eq.1 h;omega
   have hst:aH v a (c+1)=s:=by rw[hnext];unfold dZ;rw[if_neg hat]
   refine AZ.exit ?_;refine AZ.dm (fun B1 F1 w1=>?_);refine qU 2 rfl ?_;rw[aA (x:=(c:Int)+1) (by omega) (by omega)];refine qU 1 rfl ?_;refine ab.nil ⟨rfl,?_⟩;exact⟨(c+1,Vr,Vs),by rw[hst];rfl,⟨hcN,hVs⟩,by show N-(c+1)<N-c;omega⟩
 have hat:atR v s c<s.rows.length:=by have:=beq_eq_false_iff_ne.1 h;omega
 have hst:aH v a (c+1)=⟨bH v (eR v s c) s.cols.length c (eR v s c).length,s.cols++[c],if atR v s c=s.cols.length then s.sg else -s.sg,iD v s.det (pR v s c)⟩:=by rw[hnext];unfold dZ;rw[if_pos hat]
 obtain ⟨hb1,hb2,hb3⟩:=wg (c:=c) hR hat;obtain ⟨he1,he2,he3⟩:=zd V.a (c:=c) hR hat
 have hbr:bR v s c=A9 s.rows s.cols.length (atR v s c):=by
  unfold bR;split
  · rename_i e;rw[e,C0 hlt]
  · rfl
 have hpr:pR v s c=br (bR v s c) s.cols.length c:=rfl;have hE:eR v s c=(bR v s c).set s.cols.length (w8 v ((bR v s c).getD s.cols.length []) (pR v s c)):=rfl
 have hpz:lD v (pR v s c)≠0:=by
  rw[hpr,hbr];unfold br A9;rw[fk,if_pos ⟨rfl,by rw[List.length_set];exact hlt⟩];exact hat4 hat
 have zE2:=zE hcN hat;have zI2:=zI hcN hat;have zN2:=zN hcN;rw[hst] at zN2;clear zE zI zN
 have zB: ∀j i,aj Kz (br (bR v s c) j i):=fun j i=>by
  rw[hbr];unfold br A9;rw[fk];split
  · exact zR _ _
  · rw[fk];split
    · exact zR _ _
    · exact zR _ _
 generalize bR v s c=b at *;generalize pR v s c=p at *;generalize eR v s c=e at *;generalize atR v s c=t at *;refine AZ.skip ?_;refine AZ.cut [1,2,6,7,8] (fun _:Unit=>((Vr,OA (Bb Vs s.cols.length t))::bY Vs s.rows,[(1,.d (.v Vr)),(2,.bx [.sl 1 (v.map ah)]),(6,CA s.cols),(7,.d (dI c)),(8,.d (dI s.cols.length))])) (fun _=>True) ?_ (fun _ _=>?_)
 · refine AZ.any aL (gL.vZ [(2,12),(3,12)] (by kernel_rfl) (fun _ _ _ h=>h) (fun _ _ h=>h) (gL.nE 12 (by kernel_rfl) (fun B1 F1 w1 hS=>?_)));have hS0:=hS.at (i:=0) rfl (by rw[List.length_map];omega);refine qP 6 rfl ?_;refine ae.idxs tok hS0 rfl rfl rfl rfl rfl (Int.natCast_nonneg t) (by rw[List.length_map];omega) ?_;refine ae.bd tok (.v (Vs.getD t undef)) hS0 rfl rfl rfl rfl rfl rfl rfl (b8 (by omega)) rfl ?_;refine qP 2 rfl ?_;refine ae.idxs tok hS0 rfl rfl rfl rfl rfl (Int.natCast_nonneg s.cols.length) (by rw[List.length_map];omega) ?_;refine ae.bd tok (.v (Vs.getD s.cols.length undef)) hS0 rfl rfl rfl rfl rfl rfl rfl (b8 (by omega)) rfl ?_;refine ae.nil ⟨rfl,?_⟩;refine af.to [1,2,6,7,8,9,53,54,55,56,60,64] [(1,.d (.v Vr)),(2,.bx [.sl 1 (v.map ah)]),(6,CA s.cols),(7,.d (dI c)),(8,.d (dI s.cols.length)),(9,.d (dI t)),(53,.d (.v Vr)),(54,.d (dI s.cols.length)),(55,.d (.v Vr)),(56,.d (dI t)),(60,.d (.v (Vs.getD t undef))),(64,.d (.v (Vs.getD s.cols.length undef)))] rfl ?_;refine af.zg 1 rfl (fun B1 F1 w1 hS=>?_);refine ab.idxs tok (hS.at (i:=0) rfl (by rw[List.length_map];omega)) rfl rfl rfl rfl (Int.natCast_nonneg s.cols.length) (by rw[List.length_map];omega) ?_;refine ab.nil ⟨rfl,?_⟩;refine af.df 53 0 rfl rfl rfl ?_;refine af.el (k:=s.cols.length) tok 53 65 rfl (List.Mem.head _) rfl rfl rfl (by rw[List.length_map];omega) rfl ?_;refine af.cut 1 rfl (fun B1 F1 w1=>?_);refine ab.oH tok (Vs.getD t undef) rfl rfl rfl (by omega) ?_;refine ab.nil ⟨rfl,?_⟩;refine af.back 53 0 rfl rfl rfl (List.Mem.head _) rfl ?_;refine af.kx (R':=((Vr,OA (Vs.set s.cols.length (Vs.getD t undef)))::bY Vs s.rows)) rfl ?_;refine af.to [1,2,6,7,8,9,55,56,64] [(1,.d (.v Vr)),(2,.bx [.sl 1 (v.map ah)]),(6,CA s.cols),(7,.d (dI c)),(8,.d (dI s.cols.length)),(9,.d (dI t)),(55,.d (.v Vr)),(56,.d (dI t)),(64,.d (.v (Vs.getD s.cols.length undef)))] rfl ?_;refine af.zg 1 rfl (fun B1 F1 w1 hS=>?_);refine ab.idxs tok (hS.at (i:=0) rfl (by rw[List.length_map,List.length_set];omega)) rfl rfl rfl rfl (Int.natCast_nonneg t) (by rw[List.length_map,List.length_set];omega) ?_;refine ab.nil ⟨rfl,?_⟩;refine af.df 55 0 rfl rfl rfl ?_;refine af.el (k:=t) tok 55 66 rfl (List.Mem.head _) rfl rfl rfl (by rw[List.length_map,List.length_set];omega) rfl ?_;refine af.cut 1 rfl (fun B1 F1 w1=>?_);refine ab.oH tok (Vs.getD s.cols.length undef) rfl rfl rfl (by rw[List.length_set];omega) ?_;refine ab.nil ⟨rfl,?_⟩;refine af.back 55 0 rfl rfl rfl (List.Mem.head _) rfl ?_
   refine af.kx (R':=((Vr,OA (Bb Vs s.cols.length t))::bY Vs s.rows)) (by
    show (Vr,OA ((Vs.set s.cols.length (Vs.getD t undef)).set t (Vs.getD s.cols.length undef)))::bY Vs s.rows=_
    rw[E']) ?_
   refine af.nil ?_;exact⟨(),rfl,trivial⟩
 show AZ _ _ _ _ _ _ _ ((Vr,OA (Bb Vs s.cols.length t))::bY Vs s.rows) [(1,.d (.v Vr)),(2,.bx [.sl 1 (v.map ah)]),(6,CA s.cols),(7,.d (dI c)),(8,.d (dI s.cols.length))];refine AZ.xW (t+1) (s.cols.length+1) (b5 (Vs:=Vs) (by omega) hat) (b5 (Vs:=Vs) (by omega) hlt) ?_;refine AZ.rG ((Vr,OA (Bb Vs s.cols.length t))::((bY Vs s.rows).set t (Vs.getD s.cols.length undef,eH (s.rows.getD s.cols.length []))).set s.cols.length (Vs.getD t undef,eH (s.rows.getD t []))) (fun _ _ h=> .inl h) ?_;rw[zu (by omega) hlt hat,← hbr];have hWs:(Bb Vs s.cols.length t).length=b.length:=by rw[Ba,hb1];omega
 generalize Bb Vs s.cols.length t=Ws at *;obtain ⟨r,hrr⟩: ∃r,s.cols.length=r:=⟨_,rfl⟩;have hrb:r<b.length:=by omega
 have hrN:(b.getD r []).length=N:=hb2 r hrb;rw[hrr] at hst hpr hE;rw[hrr] at hlt;have cinv:=wR V (by rw[hpr];exact hb3 r c) (by rw[hpr];exact zB r c) hmK k1 k2 hpz;show AZ _ _ _ _ _ _ _ ((Vr,OA Ws)::bY Ws b) [(1,.d (.v Vr)),(2,.bx [.sl 1 (v.map ah)]),(6,CA s.cols),(7,.d (dI c)),(8,.d (dI s.cols.length))];rw[hrr];refine AZ.seq ?_;refine AZ.HE aL 13 (by kernel_rfl) (fun B1 F1 w1 hS=>?_);have hS0:=hS.at (i:=0) rfl (by rw[List.length_map];omega);have hS1:=hS.at (i:=r+1) (b5 (Vs:=Ws) (by omega) hrb) (by rw[List.length_map];omega);refine qP 3 rfl ?_;refine ae.idxs tok hS0 rfl rfl rfl rfl rfl (Int.natCast_nonneg r) (by rw[List.length_map];show r<Ws.length;omega) ?_;refine ae.bd tok (.v (Ws.getD r undef)) hS0 rfl rfl rfl rfl rfl rfl rfl (b8 (by omega)) rfl ?_;refine qP 1 rfl ?_;refine ae.idxs tok hS1 rfl rfl rfl rfl rfl (Int.natCast_nonneg c) (by rw[List.length_map];omega) ?_;refine ae.bd tok (ah (br b r c)) hS1 rfl rfl rfl rfl rfl rfl rfl (hel hb2 hrb c hcN) rfl ?_;rw[← hpr];refine ae.call tok rfl rfl rfl rfl rfl cinv ?_;refine qP 4 rfl ?_;refine ae.nil ?_;refine qU 1 rfl ?_;refine ab.nil ⟨rfl,?_⟩;obtain ⟨f,hf⟩: ∃f,ai (hC v.length v p)=f:=⟨_,rfl⟩;have hfl:ak v.length f:=by rw[← hf];exact bg (fj v.length (by rw[hpr];exact hb3 r c) V.ro (Nat.le_refl _))
 have hmul:=fun {x:NQ} (hx:ak v.length x)=>Ap V hx (p:=p) (by rw[hpr];exact hb3 r c);rw[hf] at zI2 hmul ⊢;refine AZ.to [1,2,6,7,8,10] [(1,.d (.v Vr)),(2,.bx [.sl 1 (v.map ah)]),(6,CA s.cols),(7,.d (dI c)),(8,.d (dI r)),(10,.d (ah f))] rfl ?_;obtain ⟨row,hrow⟩: ∃row,b.getD r []=row:=⟨_,rfl⟩;have hz:=o9 v row p;have hsr: ∀k,br b r k=row.getD k []:=fun k=>by unfold br;rw[hrow]
 have hb0:bY Ws b=bY Ws (b.set r row):=by rw[← hrow,lS hrb]
 have hgr: ∀q:List NQ,(bY Ws (b.set r q))[r]?=some (Ws.getD r undef,eH q):=fun q=>by
  rw[b5 (by omega) (by simpa using hrb),fk,if_pos ⟨rfl,hrb⟩]
 rw[hrow] at hE hrN;rw[hb0];refine AZ.seq ?_;refine AZ.seq ?_;refine AZ.uX (fun B1 F1 w1 hS=>?_);refine qU 2 rfl ?_;refine ab.idxs tok (hS.at (i:=0) rfl (by rw[List.length_map];omega)) rfl rfl rfl rfl (Int.natCast_nonneg _) (by show r<_;rw[List.length_map];omega) ?_;refine ab.bd tok (.v (Ws.getD r undef)) (hS.at (i:=0) rfl (by rw[List.length_map];omega)) rfl rfl rfl rfl rfl rfl (b8 (by omega)) rfl ?_;refine ab.lens tok (hS.at (i:=r+1) (hgr row) (by rw[List.length_map];omega)) rfl rfl rfl rfl ?_;rw[List.length_map,hrN];refine qU 1 rfl ?_;refine ab.nil ⟨rfl,?_⟩;refine AZ.block ?_;refine AZ.aD [1,2,6,7,8,10,83,84] (fun k:Nat=>(((Vr,OA Ws)::bY Ws (b.set r (gm (w8 v row p) row k))),[(1,.d (.v Vr)),(2,.bx [.sl 1 (v.map ah)]),(6,CA s.cols),(7,.d (dI c)),(8,.d (dI r)),(10,.d (ah f)),(83,.d (dI N)),(84,.d (dI k))])) (fun k=>k≤N) (fun k=>N-k) 0 (by rw[qo];rfl) (Nat.zero_le _) (fun k hk=>?_);show AZ _ _ _ _ _ _ _ ((Vr,OA Ws)::bY Ws (b.set r (gm (w8 v row p) row k))) [(1,.d (.v Vr)),(2,.bx [.sl 1 (v.map ah)]),(6,CA s.cols),(7,.d (dI c)),(8,.d (dI r)),(10,.d (ah f)),(83,.d (dI N)),(84,.d (dI k))];refine AZ.seq ?_;refine AZ.dm (fun B1 F1 w1=>?_);refine qU 1 rfl ?_;refine ab.nil ⟨rfl,?_⟩;refine AZ.seq ?_;refine AZ.cond rfl (fun h=>?_) (fun h=>?_)
 · have hkN:k<N:=by have:=of_decide_eq_true h;omega
   have hpl:=pe hz (i:=k) (by omega);have hpg:=tV hz (show k<row.length by omega) [];have hps:=tU hz (show k<row.length by omega) (d:=[]) (pa v row p (show k<row.length by omega));have cd:=yv V (a:=row.getD k []) (b:=f) (by rw[← hsr];exact hb3 r k) (by rw[← hsr];exact zB r k) hfl zI2 hmK k3;rw[hmul (by rw[← hsr];exact hb3 r k)] at cd;generalize gm (w8 v row p) row k=q at *;generalize row.getD k []=X at *;generalize r9 v X p=Y at *;refine AZ.skip ?_;refine AZ.seq ?_;refine AZ.block ?_;refine AZ.seq ?_;refine AZ.dm (fun B1 F1 w1=>?_);refine qU 2 rfl ?_;refine ab.nil ⟨rfl,?_⟩;refine AZ.any aL (gL.vZ [(17,18)] (by kernel_rfl) (fun _ _ _ h=>h) (fun _ _ h=>h) (gL.nE 18 (by kernel_rfl) (fun B1 F1 w1 hS=>?_)));have hS0:=hS.at (i:=0) rfl (by rw[List.length_map];omega);have hS1:=hS.at (i:=r+1) (hgr q) (by rw[List.length_map];omega);refine qP 2 rfl ?_;refine ae.idxs tok hS0 rfl rfl rfl rfl rfl (Int.natCast_nonneg r) (by rw[List.length_map];omega) ?_;refine ae.bd tok (.v (Ws.getD r undef)) hS0 rfl rfl rfl rfl rfl rfl rfl (b8 (by omega)) rfl ?_;refine qP 4 rfl ?_;refine ae.idxs tok hS0 rfl rfl rfl rfl rfl (Int.natCast_nonneg r) (by rw[List.length_map];omega) ?_;refine ae.bd tok (.v (Ws.getD r undef)) hS0 rfl rfl rfl rfl rfl rfl rfl (b8 (by omega)) rfl ?_;refine qP 1 rfl ?_;refine ae.idxs tok hS1 rfl rfl rfl rfl rfl (Int.natCast_nonneg k) (by rw[List.length_map];omega) ?_;refine ae.bd tok (ah (q.getD k [])) hS1 rfl rfl rfl rfl rfl rfl rfl (getM ah (by omega)) rfl ?_;rw[hpg];refine qP 1 rfl ?_;refine ae.call tok rfl rfl rfl rfl rfl cd ?_;refine qP 3 rfl ?_;refine ae.nil ⟨rfl,?_⟩;refine af.to [91,92,103,1,2,6,7,8,10,83,84] [(91,.d (.v (Ws.getD r undef))),(92,.d (dI k)),(103,.d (ah Y)),(1,.d (.v Vr)),(2,.bx [.sl 1 (v.map ah)]),(6,CA s.cols),(7,.d (dI c)),(8,.d (dI r)),(10,.d (ah f)),(83,.d (dI N)),(84,.d (dI k))] rfl ?_;refine af.zg 1 rfl (fun B1 F1 w1 hS=>?_);refine ab.idxs tok (hS.at (i:=r+1) (hgr q) (by rw[List.length_map];omega)) rfl rfl rfl rfl (Int.natCast_nonneg k) (by rw[List.length_map];omega) ?_;refine ab.nil ⟨rfl,?_⟩;refine af.df 91 (r+1) (hgr q) rfl rfl ?_;refine af.el (k:=k) tok 91 105 rfl (List.Mem.head _) rfl rfl rfl (by rw[List.length_map];omega) rfl ?_;refine af.cut 1 rfl (fun B1 F1 w1=>?_);refine ab.lQ tok Y rfl rfl rfl (by omega) ?_;rw[hps];refine ab.nil ⟨rfl,?_⟩;refine af.back 91 (r+1) rfl rfl rfl (List.Mem.head _) (List.getElem?_set_self (by have:=(List.getElem?_eq_some_iff.1 (hgr q)).1;simp only[List.length_cons];omega)) ?_
   refine af.kx (R':=((Vr,OA Ws)::bY Ws (b.set r (gm (w8 v row p) row (k+1))))) (by
    show (Vr,OA Ws)::((bY Ws (b.set r q)).set r _).set r _=_
    rw[List.set_set,sO (by omega) (by simpa using hrb),List.set_set]) ?_
   refine af.nil ?_;refine AZ.to [1,2,6,7,8,10,83,84] [(1,.d (.v Vr)),(2,.bx [.sl 1 (v.map ah)]),(6,CA s.cols),(7,.d (dI c)),(8,.d (dI r)),(10,.d (ah f)),(83,.d (dI N)),(84,.d (dI k))] rfl ?_;refine AZ.dm (fun B1 F1 w1=>?_);refine qU 1 rfl ?_;rw[aA (x:=(k:Int)+1) (by omega) (by omega)];refine qU 1 rfl ?_;refine ab.nil ⟨rfl,?_⟩;exact⟨k+1,rfl,hkN,by omega⟩
 have hkN:k=N:=by have:=of_decide_eq_false h;omega
 subst hkN;rw[show gm (w8 v row p) row k=w8 v row p by rw[← hrN];exact tW hz,← hE];refine AZ.exit ?_;have hWe:Ws.length=e.length:=by omega
 have hre:r<e.length:=by omega
 have he2c:e.length=s.rows.length:=by omega
 clear hb0 hgr;refine AZ.to [1,2,6,7,8] [(1,.d (.v Vr)),(2,.bx [.sl 1 (v.map ah)]),(6,CA s.cols),(7,.d (dI c)),(8,.d (dI r))] rfl ?_;refine AZ.seq ?_;refine AZ.seq ?_;refine AZ.uX (fun B1 F1 w1 hS=>?_);refine qU 1 rfl ?_;refine ab.lens tok (hS.at (i:=0) rfl (by rw[List.length_map];omega)) rfl rfl rfl rfl ?_;rw[List.length_map,hWe];refine qU 1 rfl ?_;refine ab.nil ⟨rfl,?_⟩;refine AZ.block ?_;refine AZ.aD [1,2,6,7,8,108,109] (fun z:Nat×List Value=>((Vr,OA z.2)::bY z.2 (bH v e r c z.1),[(1,.d (.v Vr)),(2,.bx [.sl 1 (v.map ah)]),(6,CA s.cols),(7,.d (dI c)),(8,.d (dI r)),(108,.d (dI e.length)),(109,.d (dI z.1))])) (fun z=>z.1≤e.length∧z.2.length=e.length) (fun z=>e.length-z.1) (0,Ws) rfl ⟨Nat.zero_le _,hWe⟩ (fun z hz2=>?_);obtain ⟨i,Ws⟩:=z;obtain ⟨hi,hWe⟩:=hz2
 dsimp only at hi hWe
 show AZ _ _ _ _ _ _ _ ((Vr,OA Ws)::bY Ws (bH v e r c i)) [(1,.d (.v Vr)),(2,.bx [.sl 1 (v.map ah)]),(6,CA s.cols),(7,.d (dI c)),(8,.d (dI r)),(108,.d (dI e.length)),(109,.d (dI i))];refine AZ.seq ?_;refine AZ.dm (fun B1 F1 w1=>?_);refine qU 1 rfl ?_;refine ab.nil ⟨rfl,?_⟩;refine AZ.seq ?_;refine AZ.cond rfl (fun h=>?_) (fun h=>?_)
 · have hie:i<e.length:=by have:=of_decide_eq_true h;omega
   have hm1:=jt v e r c i;have hm2:=mX (v:=v) (r:=r) (c:=c) he2 i (by omega);have hm3:=sK V.a (r:=r) (c:=c) he3 i;have hmi:=fa v e r c i i (.inl (Nat.le_refl _));have hmr:=fa v e r c i r (.inr rfl);have hnx:bH v e r c (i+1)=if i≠r∧lD v (br (bH v e r c i) i c)≠0 then (bH v e r c i).set i (fJ v ((bH v e r c i).getD i []) ((bH v e r c i).getD r []) (br (bH v e r c i) i c)) else bH v e r c i:=rfl
   have ia:br (bH v e r c i) i c=br e i c:=sL v e r c i c;have zi: ∀q,aj Kz (((bH v e r c i).getD i []).getD q []):=fun q=>by rw[hmi];exact zE2 i q
   have zr: ∀q,aj Kz (((bH v e r c i).getD r []).getD q []):=fun q=>by rw[hmr];exact zE2 r q
   have zc:aj Kz (br (bH v e r c i) i c):=zi c;generalize bH v e r c i=m at *;refine AZ.skip ?_;refine AZ.seq ?_;refine AZ.block ?_;refine AZ.seq ?_;refine AZ.dm (fun B1 F1 w1=>?_);refine qU 2 rfl ?_;refine ab.nil ⟨rfl,?_⟩;refine AZ.seq ?_;refine AZ.any aL (gL.nE 15 (by kernel_rfl) (fun B1 F1 w1 hS=>?_));have hS0:=hS.at (i:=0) rfl (by rw[List.length_map];omega);refine qP 3 rfl ?_;by_cases hir:i=r
   · rw[if_neg (fun g=>g.1 hir)] at hnx;rw[bne_eq_false_iff_eq.2 (show (i:Int)=(r:Int) by omega)];refine qP 12 rfl ?_;refine ae.nil ⟨rfl,?_⟩;refine af.nil ?_;refine AZ.ar rfl ?_;refine AZ.skip ?_;refine AZ.dm (fun B1 F1 w1=>?_);refine qU 1 rfl ?_;rw[aA (x:=(i:Int)+1) (by omega) (by omega)];refine qU 1 rfl ?_;refine ab.nil ⟨rfl,?_⟩;exact⟨(i+1,Ws),Prod.ext (show ((Vr,OA Ws)::bY Ws m)=((Vr,OA Ws)::bY Ws (bH v e r c (i+1))) by rw[hnx]) rfl,⟨hie,hWe⟩,by show e.length-(i+1)<e.length-i;omega⟩
   have hmiN:(m.getD i []).length=k:=hm2 i (by omega);have hmrN:(m.getD r []).length=k:=hm2 r (by omega);have hgi:=b5 (Vs:=Ws) (a:=m) (j:=i) (by omega) (by omega);have hgr2:=b5 (Vs:=Ws) (a:=m) (j:=r) (by omega) (by omega);have hS1:=hS.at (i:=i+1) hgi (by rw[List.length_map];omega);have cs:=rn V (hm3 i c) zc hmK k1;rw[bne_iff_ne.2 (show (i:Int)≠(r:Int) by omega)];refine qP 4 rfl ?_;refine ae.idxs tok hS0 rfl rfl rfl rfl rfl (Int.natCast_nonneg i) (by rw[List.length_map];omega) ?_;refine ae.bd tok (.v (Ws.getD i undef)) hS0 rfl rfl rfl rfl rfl rfl rfl (b8 (by omega)) rfl ?_;refine qP 1 rfl ?_;refine ae.idxs tok hS1 rfl rfl rfl rfl rfl (Int.natCast_nonneg c) (by rw[List.length_map];omega) ?_;refine ae.bd tok (ah (br m i c)) hS1 rfl rfl rfl rfl rfl rfl rfl (hel hm2 (by omega) c hcN) rfl ?_;refine ae.call tok rfl rfl rfl rfl rfl cs ?_;refine qP 2 rfl ?_;refine ae.nil ⟨rfl,?_⟩;refine af.nil ?_;refine AZ.cond rfl (fun h=>?_) (fun h=>?_);rotate_left
   · have hg:lD v (br m i c)=0:=by simpa using h
     rw[if_neg (fun g=>g.2 hg)] at hnx;refine AZ.skip ?_;refine AZ.dm (fun B1 F1 w1=>?_);refine qU 1 rfl ?_;rw[aA (x:=(i:Int)+1) (by omega) (by omega)];refine qU 1 rfl ?_;refine ab.nil ⟨rfl,?_⟩;exact⟨(i+1,Ws),Prod.ext (show ((Vr,OA Ws)::bY Ws m)=((Vr,OA Ws)::bY Ws (bH v e r c (i+1))) by rw[hnx]) rfl,⟨hie,hWe⟩,by show e.length-(i+1)<e.length-i;omega⟩
   have hg:lD v (br m i c)≠0:=by simpa using h
   rw[if_pos ⟨hir,hg⟩] at hnx;have ct:=wM (Ws.getD i undef) (Ws.getD r undef) V (xs:=m.getD i []) (ys:=m.getD r []) (c:=br m i c) (hm3 i) (hm3 r) (hm3 i c) zi zr zc hmK k3 (by omega) (by omega) (by omega);refine AZ.any aL (gL.vZ [(0,18),(1,18)] (by kernel_rfl) (fun _ _ _ h=>h) (fun _ _ h=>h) (gL.nE 18 (by kernel_rfl) (fun B1 F1 w1 hS=>?_)));have hS0:=hS.at (i:=0) rfl (by rw[List.length_map];omega);have hS1:=hS.at (i:=i+1) hgi (by rw[List.length_map];omega);refine qP 5 rfl ?_;refine ae.idxs tok hS0 rfl rfl rfl rfl rfl (Int.natCast_nonneg i) (by rw[List.length_map];omega) ?_;refine ae.bd tok (.v (Ws.getD i undef)) hS0 rfl rfl rfl rfl rfl rfl rfl (b8 (by omega)) rfl ?_;refine qP 2 rfl ?_;refine ae.idxs tok hS0 rfl rfl rfl rfl rfl (Int.natCast_nonneg r) (by rw[List.length_map];omega) ?_;refine ae.bd tok (.v (Ws.getD r undef)) hS0 rfl rfl rfl rfl rfl rfl rfl (b8 (by omega)) rfl ?_;refine qP 2 rfl ?_;refine ae.idxs tok hS0 rfl rfl rfl rfl rfl (Int.natCast_nonneg i) (by rw[List.length_map];omega) ?_;refine ae.bd tok (.v (Ws.getD i undef)) hS0 rfl rfl rfl rfl rfl rfl rfl (b8 (by omega)) rfl ?_;refine qP 1 rfl ?_;refine ae.idxs tok hS1 rfl rfl rfl rfl rfl (Int.natCast_nonneg c) (by rw[List.length_map];omega) ?_;refine ae.bd tok (ah (br m i c)) hS1 rfl rfl rfl rfl rfl rfl rfl (hel hm2 (by omega) c hcN) rfl ?_;refine ae.nil ⟨rfl,?_⟩;refine af.to [127,128,129,133,137,144,1,2,6,7,8,108,109] [(127,.d (.v Vr)),(128,.d (dI i)),(129,.d (bI v)),(133,.d (.v (Ws.getD i undef))),(137,.d (.v (Ws.getD r undef))),(144,.d (ah (br m i c))),(1,.d (.v Vr)),(2,.bx [.sl 1 (v.map ah)]),(6,CA s.cols),(7,.d (dI c)),(8,.d (dI r)),(108,.d (dI e.length)),(109,.d (dI i))] rfl ?_;refine af.ju tok [i+1,r+1] rfl rfl rfl rfl (Ic hgi hgr2) (by simp[hir]) rfl ct (fun res R1 hP=>by obtain ⟨_,_,rfl⟩:=hP;exact Nat.le_succ 2) (fun res R1 hP=>?_);obtain ⟨V,rfl,rfl⟩:=hP
   refine af.kx (R':=((Vr,OA Ws)::bY Ws m++[(V,eH (fJ v (m.getD i []) (m.getD r []) (br m i c)))])) (by
    show ((Vr,OA Ws)::((bY Ws m).set i _).set r _)++[_]=_
    rw[oK hgi,oK hgr2]) ?_
   refine af.zg 1 rfl (fun B1 F1 w1 hS=>?_);refine ab.idxs tok (hS.at (i:=0) rfl (by rw[List.length_map];omega)) rfl rfl rfl rfl (Int.natCast_nonneg i) (by rw[List.length_map];omega) ?_;refine ab.nil ⟨rfl,?_⟩;refine af.df 127 0 rfl rfl rfl ?_;refine af.el (k:=i) tok 127 146 rfl (List.Mem.head _) rfl rfl rfl (by rw[List.length_map];omega) rfl ?_;refine af.cut 1 rfl (fun B1 F1 w1=>?_);refine ab.oH tok V rfl rfl rfl (by omega) ?_;refine ab.nil ⟨rfl,?_⟩;refine af.back 127 0 rfl rfl rfl (List.Mem.head _) rfl ?_;refine af.kx (R':=((Vr,OA (Ws.set i V))::bY Ws m++[(V,eH (fJ v (m.getD i []) (m.getD r []) (br m i c)))])) rfl ?_;refine af.nil ?_;refine AZ.to [1,2,6,7,8,108,109] [(1,.d (.v Vr)),(2,.bx [.sl 1 (v.map ah)]),(6,CA s.cols),(7,.d (dI c)),(8,.d (dI r)),(108,.d (dI e.length)),(109,.d (dI i))] rfl ?_;refine AZ.Dk (i:=i) hgi ?_;rw[pT (by omega) (by omega),← hnx];refine AZ.dm (fun B1 F1 w1=>?_);refine qU 1 rfl ?_;rw[aA (x:=(i:Int)+1) (by omega) (by omega)];refine qU 1 rfl ?_;refine ab.nil ⟨rfl,?_⟩;exact⟨(i+1,Ws.set i V),rfl,⟨hie,by show (Ws.set i V).length=_;rw[List.length_set];exact hWe⟩,by show e.length-(i+1)<e.length-i;omega⟩
 have hie:i=e.length:=by have:=of_decide_eq_false h;omega
 subst hie;refine AZ.exit ?_;refine AZ.dm (fun B1 F1 w1=>?_);refine qU 2 rfl ?_;refine ab.fA tok rfl rfl rfl rfl rfl ?_;refine ab.gK tok rfl rfl rfl rfl rfl rfl (by show ((s.cols.map (fun c:Nat=>dI c)).length+1)*8≤_;rw[List.length_map];omega) (by show (s.cols.map (fun c:Nat=>dI c)).length+1≤_;rw[List.length_map];omega) ?_;refine qU 1 rfl ?_;refine ab.nil ⟨rfl,?_⟩;refine AZ.dm (fun B1 F1 w1=>?_);refine qU 2 rfl ?_;rw[aA (x:=(c:Int)+1) (by omega) (by omega)];refine qU 1 rfl ?_;refine ab.nil ⟨rfl,?_⟩;exact⟨(c+1,Vr,Ws),by rw[hst];show _=((Vr,OA Ws)::bY Ws (bH v e r c e.length),([(1,.d (.v Vr)),(2,.bx [.sl 1 (v.map ah)]),(6,.ow 3 ((s.cols++[c]).map (fun c:Nat=>dI c))),(7,.d (dI (c+1:Nat)))]:St));rw[List.map_append];rfl,⟨hcN,by show Ws.length=a.length;omega⟩,by show k-(c+1)<k-c;omega⟩
end Lift
namespace Lift
open Go Go.Proofs
theorem wO(l:List Nat)(hl:l.length≤1000000)(n:Nat):Pure Tryz.prog 72 [jY l,dI n] (dB (l.contains n)):=by
 refine qJ 17 Tryz.func72 rfl rfl rfl rfl (by kernel_rfl) (fun B F0 w0=>?_);obtain ⟨E,hE⟩: ∃E,(l.drop 0).contains n=E:=⟨_,rfl⟩;rw[show l.contains n=E from hE];refine qX 1 rfl ?_;refine qI ?_;refine qX 2 rfl ?_;rw[List.length_map];refine qU 1 rfl ?_;refine ab.nil ?_;refine AW.block ?_;refine AW.aD [1,7,8,9] (fun i:Nat=>[(1,.d (dI n)),(7,.d (jY l)),(8,.d (dI l.length)),(9,.d (dI i))]) (fun i=>i≤l.length∧(l.drop i).contains n=E) (fun i=>l.length-i) 0 rfl ⟨Nat.zero_le _,hE⟩ (fun i ⟨hi,hiE⟩=>?_)
 · show AW _ _ _ _ _ _ _ [(1,.d (dI n)),(7,.d (jY l)),(8,.d (dI l.length)),(9,.d (dI i))];refine qX 1 rfl ?_;refine qI ?_;refine AW.cond rfl (fun h=>?_) (fun h=>?_)
   · have hii:i<l.length:=by have:=of_decide_eq_true h;omega
     have g1:=vU (l:=l) (i:=i) hii;have hge:l[i]=l.getD i 0:=by rw[List.getD_eq_getElem?_getD,List.getElem?_eq_getElem hii];rfl
     rw[List.drop_eq_getElem_cons hii,List.contains_cons,hge] at hiE;generalize l.getD i 0=x at g1 hiE;refine AW.skip (AW.seq (AW.block (AW.seq (AW.region ?_))));refine ab.idx tok (dI x) rfl rfl rfl rfl (Int.natCast_nonneg i) g1 ?_;refine qU 2 rfl ?_;refine qK 3 rfl ?_;refine ab.nil ?_;refine AW.cond rfl (fun h=>?_) (fun h=>?_)
     · have hx:x=n:=by have:=beq_iff_eq.1 h;omega
       rw[hx,beq_self_eq_true,Bool.true_or] at hiE;rw[← hiE];refine qX 1 rfl ?_;exact qN rfl
     · have hx:x≠n:=by have:=beq_eq_false_iff_ne.1 h;omega
       rw[beq_eq_false_iff_ne.2 (Ne.symm hx),Bool.false_or] at hiE;refine AW.skip ?_;refine qT 1 rfl ?_;rw[aA (x:=(i:Int)+1) (by omega) (by omega)];refine qU 1 rfl ?_;refine ab.nil ?_;exact⟨i+1,rfl,⟨hii,hiE⟩,by omega⟩
   have hii:i=l.length:=by have:=of_decide_eq_false h;omega
   rw[hii,List.drop_length] at hiE;rw[← hiE];refine AW.exit ?_;refine qX 1 rfl ?_;exact qN rfl
theorem Ad:Pure Tryz.prog 97 [(Qr ((1:Int):Rat)).D] (ah [1]):=by
 refine qJ 10 Tryz.func97 rfl rfl rfl rfl (by kernel_rfl) (fun B0 F0 w0=>?_);have hw:(Qr ((1:Int):Rat)).w 1:=iL _ (by have:=k9;rw[show ((1:Int):Rat)=1 from rfl];omega);have c1:=rr (Qr ((1:Int):Rat)) hw (by decide);have c2:=tA (Qr ((1:Int):Rat)) (Qr 0) hw (iL _ (lf (Nat.le_refl 1))) (by decide);rw[bK,bK,show ((1:Int):Rat)+0=((1:Int):Rat) from Rat.add_zero _,iV] at c2;rw[wG,bK] at c1;refine qX 2 rfl ?_;refine qI ?_;refine qX 1 rfl ?_;refine ab.call tok rfl rfl rfl rfl c1 ?_;refine qU 1 rfl ?_;refine ab.nil ?_;rw[beq_eq_false_iff_ne.2 (fun e=>absurd (gV.1 e) (by decide))];refine AW.ar rfl ?_;refine AW.skip ?_;refine qX 2 rfl ?_;refine ab.call tok rfl rfl rfl rfl c2 ?_;refine ab.fA tok rfl rfl rfl rfl rfl ?_;refine qU 1 rfl ?_;exact qN rfl
theorem tv(v:List NQ):Pure Tryz.prog 51 [bI v,bS []] (.tu [bS [],jY []]):=by
 refine qJ 157 Tryz.func51 rfl rfl rfl rfl (by kernel_rfl) (fun B F0 w0=>?_);refine AZ.aw ?_;refine AZ.seq ?_;refine AZ.dm (fun B1 F1 w1=>?_);refine qU 3 rfl ?_;refine ab.nil ⟨rfl,?_⟩;refine AZ.seq ?_;refine AZ.region ?_;refine af.cut 1 rfl (fun B1 F1 w1=>?_);refine qU 1 rfl ?_;refine ab.nil ⟨rfl,?_⟩;refine af.ju tok [] rfl rfl rfl rfl rfl List.nodup_nil rfl (nq (a:=[]) (Nat.zero_le _) (fun i=>Nat.zero_le _)) (fun _ _ _=>Nat.zero_le _) (fun res R1 hP=>?_);obtain ⟨V0,Vs0,hV0,rfl,rfl⟩:=hP;obtain rfl:Vs0=[]:=List.length_eq_zero_iff.1 hV0;refine af.cut 1 rfl (fun B1 F1 w1=>?_);refine qU 1 rfl ?_;refine ab.nil ⟨rfl,?_⟩;refine af.nil ?_;refine AZ.to [1,2] [(1,.d (.v V0)),(2,.bx [.sl 1 (v.map ah)])] rfl ?_;refine AZ.df 1 0 rfl rfl rfl ?_;refine AZ.seq ?_;refine AZ.dm (fun B1 F1 w1=>?_);refine ab.fS tok 1 rfl rfl ?_;refine qU 1 rfl ?_;refine ab.nil ⟨rfl,?_⟩;refine AZ.seq ?_;refine AZ.seq ?_;refine AZ.dm (fun B1 F1 w1=>?_);refine qU 1 rfl ?_;refine ab.nil ⟨rfl,?_⟩;refine AZ.to [1,2,6,7] [(1,.d (bS [])),(2,.bx [.sl 1 (v.map ah)]),(6,.ow 3 []),(7,.d (dI (0:Nat)))] rfl ?_;refine AZ.rG [] (fun i r h=>by simp at h) ?_;refine AZ.block ?_;refine AZ.aD [1,2,6,7] (fun _:Unit=>([],[(1,.d (bS [])),(2,.bx [.sl 1 (v.map ah)]),(6,.ow 3 []),(7,.d (dI (0:Nat)))])) (fun _=>True) (fun _=>0) () rfl trivial (fun _ _=>?_);show AZ _ _ _ _ _ _ _ [] [(1,.d (bS [])),(2,.bx [.sl 1 (v.map ah)]),(6,.ow 3 []),(7,.d (dI (0:Nat)))];refine AZ.seq ?_;refine AZ.seq ?_;refine AZ.dm (fun B1 F1 w1=>?_);refine qU 2 rfl ?_;refine ab.call tok rfl rfl rfl rfl (lX []) ?_;refine qU 9 rfl ?_;refine ab.nil ⟨rfl,?_⟩;refine AZ.ar rfl ?_;refine AZ.exit ?_;refine AZ.seq ?_;refine AZ.dm (fun B1 F1 w1=>?_);refine ab.fS tok 6 rfl rfl ?_;refine qU 3 rfl ?_;refine ab.Bd tok rfl rfl rfl rfl trivial (Int.le_refl _) (Nat.zero_le _) (Nat.zero_le _) ?_;refine qU 3 rfl ?_;refine ab.nil ⟨rfl,?_⟩;exact AZ.ret rfl
def vk(f:Nat→List Nat)(i:Nat):List Nat:=(List.range i).filter fun j=>decide ((f j).length=(f (j+1)).length)
def yY(f:Nat→List Nat)(i:Nat):List Nat:=(List.range i).filter fun j=> !decide ((f j).length=(f (j+1)).length)
theorem v7(f:Nat→List Nat)(i:Nat):vk f (i+1)=if (f i).length=(f (i+1)).length then vk f i++[i] else vk f i:=by
 unfold vk;rw[List.range_succ,List.filter_append];split
 · rename_i h;rw[List.filter_cons_of_pos (by simp[h])];rfl
 · rename_i h;rw[List.filter_cons_of_neg (by simp[h]),List.filter_nil,List.append_nil]
theorem Ck(f:Nat→List Nat)(i:Nat):yY f (i+1)=if (f i).length=(f (i+1)).length then yY f i else yY f i++[i]:=by
 unfold yY;rw[List.range_succ,List.filter_append];split
 · rename_i h;rw[List.filter_cons_of_neg (by simp[h]),List.filter_nil,List.append_nil]
 · rename_i h;rw[List.filter_cons_of_pos (by simp[h])];rfl
theorem Ep(f:Nat→List Nat)(i:Nat):(vk f i).length≤i:=Nat.le_trans (List.length_filter_le ..) (by rw[List.length_range];exact Nat.le_refl _)
theorem DZ(f:Nat→List Nat)(i:Nat):(yY f i).length≤i:=Nat.le_trans (List.length_filter_le ..) (by rw[List.length_range];exact Nat.le_refl _)
theorem qc{v:List NQ}{a:bk}(ha:a.length≤1000000)(f:Nat→List Nat)(g:Nat→bk)(cr: ∀i,i≤a.length→Pure Tryz.prog 51 [bI v,bS (a.take i)] (.tu [bS (g i),jY (f i)])):
  Pure Tryz.prog 53 [bI v,bS a] (.tu [jY (vk f a.length),jY (yY f a.length)]):=by
 refine qJ 51 Tryz.func53 rfl rfl rfl rfl (by kernel_rfl) (fun B F0 w0=>?_);have hd:=v7 f;have hi:=Ck f;have hdl:=Ep f;have hil:=DZ f;have hd0:vk f 0=[]:=rfl;have sH:yY f 0=[]:=rfl;generalize vk f=dF at *;generalize yY f=iF at *;refine qX 3 rfl ?_;refine qK 2 rfl ?_;refine qI ?_;refine qX 2 rfl ?_;rw[List.length_map];refine qU 1 rfl ?_;refine ab.nil ?_;refine AW.block ?_;refine AW.aD [1,2,6,7,13,14,15] (fun c:Nat=>[(1,.d (bS a)),(2,.bx [.sl 1 (v.map ah)]),(6,.ow 3 ((dF c).map (fun n:Nat=>dI n))),(7,.ow 3 ((iF c).map (fun n:Nat=>dI n))),(13,.d (bS a)),(14,.d (dI a.length)),(15,.d (dI c))]) (fun c=>c≤a.length) (fun c=>a.length-c) 0 (by rw[hd0,sH];rfl) (Nat.zero_le _) (fun c hcc=>?_)
 · show AW _ _ _ _ _ _ _ [(1,.d (bS a)),(2,.bx [.sl 1 (v.map ah)]),(6,.ow 3 ((dF c).map (fun n:Nat=>dI n))),(7,.ow 3 ((iF c).map (fun n:Nat=>dI n))),(13,.d (bS a)),(14,.d (dI a.length)),(15,.d (dI c))];refine qX 1 rfl ?_;refine qI ?_;refine AW.cond rfl (fun h=>?_) (fun h=>?_)
   · have hca:c<a.length:=by have:=of_decide_eq_true h;omega
     have hd:=hd c;have hi:=hi c;have hdl:=hdl c;have hil:=hil c;have c1:=cr c (by omega);have c2:=cr (c+1) (by omega);generalize f c=l1 at hd hi c1;generalize f (c+1)=l2 at hd hi c2;refine AW.skip (AW.seq (AW.block ?_));refine qX 2 rfl ?_;refine qI ?_;refine AW.draw aL 9 (by kernel_rfl) ?_;refine qP 3 rfl ?_;refine ae.Bd tok rfl rfl rfl rfl rfl trivial (Int.natCast_nonneg c) (Nat.zero_le _) (show ((c:Int)).toNat≤(a.map dv).length by rw[List.length_map];omega) ?_
     rw[show ((a.map dv).take (bO (a.map dv).length (some (c:Int)))).drop (eO none)=(a.take c).map dv from by
      show ((a.map dv).take ((c:Int)).toNat).drop 0=_;rw[List.drop_zero,← List.map_take]
      rfl]
     refine ae.call tok rfl rfl rfl rfl rfl c1 ?_;refine qP 4 rfl ?_;refine ae.nil ?_;refine qU 1 rfl ?_;refine qI ?_;refine AW.draw aL 10 (by kernel_rfl) ?_;refine qP 4 rfl ?_;rw[aA (x:=(c:Int)+1) (by omega) (by omega)];refine ae.Bd tok rfl rfl rfl rfl rfl trivial (show (0:Int)≤(c:Int)+1 by omega) (Nat.zero_le _) (show ((c:Int)+1).toNat≤(a.map dv).length by rw[List.length_map];omega) ?_
     rw[show ((a.map dv).take (bO (a.map dv).length (some ((c:Int)+1)))).drop (eO none)=(a.take (c+1)).map dv from by
      show ((a.map dv).take ((c:Int)+1).toNat).drop 0=_;rw[List.drop_zero,← List.map_take]
      rfl]
     refine ae.call tok rfl rfl rfl rfl rfl c2 ?_;refine qP 4 rfl ?_;refine ae.nil ?_;refine qU 1 rfl ?_;refine qK 2 rfl ?_;rw[List.length_map];refine qU 2 rfl ?_;rw[List.length_map];refine qU 1 rfl ?_;refine ab.nil ?_;refine AW.cond rfl (fun h=>?_) (fun h=>?_)
     · rw[if_pos (show l1.length=l2.length by have:=beq_iff_eq.1 h;omega)] at hd hi;refine qT 2 rfl ?_;refine ab.fA tok rfl rfl rfl rfl rfl ?_;refine ab.gK tok rfl rfl rfl rfl rfl rfl (by rw[List.length_map];show (_+1)*8≤_;omega) (by rw[List.length_map];show _+1≤_;omega) ?_;refine qU 1 rfl ?_;refine ab.nil ?_;refine qT 1 rfl ?_;rw[aA (x:=(c:Int)+1) (by omega) (by omega)];refine qU 1 rfl ?_;refine ab.nil ?_;exact⟨c+1,by rw[hd,hi,List.map_append];rfl,hca,by omega⟩
     · rw[if_neg (show ¬l1.length=l2.length by have:=beq_eq_false_iff_ne.1 h;omega)] at hd hi;refine qT 2 rfl ?_;refine ab.fA tok rfl rfl rfl rfl rfl ?_;refine ab.gK tok rfl rfl rfl rfl rfl rfl (by rw[List.length_map];show (_+1)*8≤_;omega) (by rw[List.length_map];show _+1≤_;omega) ?_;refine qU 1 rfl ?_;refine ab.nil ?_;refine qT 1 rfl ?_;rw[aA (x:=(c:Int)+1) (by omega) (by omega)];refine qU 1 rfl ?_;refine ab.nil ?_;exact⟨c+1,by rw[hd,hi,List.map_append];rfl,hca,by omega⟩
   have hcc:c=a.length:=by have:=of_decide_eq_false h;omega
   subst hcc;refine AW.exit (AW.seq (AW.region ?_));refine ab.fS tok 6 rfl rfl ?_;refine ab.fS tok 7 rfl rfl ?_;refine qU 4 rfl ?_;exact qN rfl
theorem rp{rt:List (List RD)}{a:List (List (List RD))}{e:Nat}{m:bk}{l:List Nat}(cc:Pure Tryz.prog 21 [TrD rt,MxR a] (dI e))(cr:e=0→Pure Tryz.prog 51 [TrD rt,MxR a] (.tu [bS m,jY l])):Pure Tryz.prog 16 [TrD rt,MxR a] (.tu [dI (if e=0 then l.length else 0:Nat),dI e]):=by
 refine qJ 23 Tryz.func16 rfl rfl rfl rfl (by kernel_rfl) (fun B F0 w0=>?_);refine qX 3 rfl ?_;refine qI ?_;refine qX 2 rfl ?_;refine ab.call tok rfl rfl rfl rfl cc ?_;refine qU 1 rfl ?_;refine qK 2 rfl ?_;refine ab.nil ?_;refine AW.cond rfl (fun h=>?_) (fun h=>?_)
 · rw[if_neg (show ¬e=0 by have:=bne_iff_ne.1 h;omega)];refine qX 3 rfl ?_;exact qN rfl
 · have he:e=0:=by have:=bne_eq_false_iff_eq.1 h;omega
   subst he;rw[if_pos rfl];refine AW.skip ?_;refine qX 2 rfl ?_;refine ab.call tok rfl rfl rfl rfl (cr rfl) ?_;refine qU 5 rfl ?_;refine qK 2 rfl ?_;rw[List.length_map];refine qU 2 rfl ?_;exact qN rfl
theorem ns{rt:List (List RD)}{a:List (List (List RD))}{e:Nat}{m:bk}(cc:Pure Tryz.prog 21 [TrD rt,MxR a] (dI e))(cr:e=0→Pure Tryz.prog 52 [TrD rt,MxR a] (bS m)):Pure Tryz.prog 17 [TrD rt,MxR a] (.tu [bS (if e=0 then m else []),dI e]):=by
 refine qJ 16 Tryz.func17 rfl rfl rfl rfl (by kernel_rfl) (fun B F0 w0=>?_);refine qX 3 rfl ?_;refine qI ?_;refine qX 2 rfl ?_;refine ab.call tok rfl rfl rfl rfl cc ?_;refine qU 1 rfl ?_;refine qK 2 rfl ?_;refine ab.nil ?_;refine AW.cond rfl (fun h=>?_) (fun h=>?_)
 · rw[if_neg (show ¬e=0 by have:=bne_iff_ne.1 h;omega)];refine qX 3 rfl ?_;exact qN rfl
 · have he:e=0:=by have:=bne_eq_false_iff_eq.1 h;omega
   subst he;rw[if_pos rfl];refine AW.skip ?_;refine qX 2 rfl ?_;refine ab.call tok rfl rfl rfl rfl (cr rfl) ?_;refine qU 2 rfl ?_;exact qN rfl
theorem kd{rt:List (List RD)}{a:List (List (List RD))}{e:Nat}{l l2:List Nat}(cc:Pure Tryz.prog 21 [TrD rt,MxR a] (dI e))(cr:e=0→Pure Tryz.prog 53 [TrD rt,MxR a] (.tu [jY l,jY l2])):Pure Tryz.prog 18 [TrD rt,MxR a] (.tu [jY (if e=0 then l else []),dI e]):=by
 refine qJ 22 Tryz.func18 rfl rfl rfl rfl (by kernel_rfl) (fun B F0 w0=>?_);refine qX 3 rfl ?_;refine qI ?_;refine qX 2 rfl ?_;refine ab.call tok rfl rfl rfl rfl cc ?_;refine qU 1 rfl ?_;refine qK 2 rfl ?_;refine ab.nil ?_;refine AW.cond rfl (fun h=>?_) (fun h=>?_)
 · rw[if_neg (show ¬e=0 by have:=bne_iff_ne.1 h;omega)];refine qX 3 rfl ?_;exact qN rfl
 · have he:e=0:=by have:=bne_eq_false_iff_eq.1 h;omega
   subst he;rw[if_pos rfl];refine AW.skip ?_;refine qX 2 rfl ?_;refine ab.call tok rfl rfl rfl rfl (cr rfl) ?_;refine qU 5 rfl ?_;refine qK 3 rfl ?_;exact qN rfl
theorem u5{m Kz:Nat}{v:List NQ}(V:jv m v){a rows:bk}{cols:List Nat}{sg:Int}{det:NQ}(hn:ay a≤1000000)(cr:Pure Tryz.prog 51 [bI v,bS a] (.tu [bS (rows.take cols.length),jY cols]))(hr:b9 (ay a) rows)(hl:nJ v.length rows)(hs: ∀r c,aj Kz (br rows r c))(hK:Kz≤17300000000000)(hc: ∀r,r<cols.length→cols.getD r 0<ay a)(hcl:cols.length≤rows.length)(hcn:cols.length≤1000000):
  Pure Tryz.prog 52 [bI v,bS a] (bS (FU ⟨rows,cols,sg,det⟩ (ay a))):=by
 refine qJ 63 Tryz.func52 rfl rfl rfl rfl (by kernel_rfl) (fun B F0 w0=>?_);have cols_ok:=lX a;generalize ay a=n at *;have hks:=vR ⟨rows,cols,sg,det⟩ n;have hkl:=yW ⟨rows,cols,sg,det⟩ n;have hk0:ud ⟨rows,cols,sg,det⟩ n 0=[]:=rfl;have hv0: ∀c,kn ⟨rows,cols,sg,det⟩ n c 0=(List.replicate n []).set c [1]:=fun c=>rfl;have hvs: ∀c r,kn ⟨rows,cols,sg,det⟩ n c (r+1)=(kn ⟨rows,cols,sg,det⟩ n c r).set (cols.getD r 0) (qn (br rows r c)):=fun c r=>rfl;have hvl:=ph ⟨rows,cols,sg,det⟩ n;show AW _ _ _ _ _ _ (Dj _ _ (bS (ud ⟨rows,cols,sg,det⟩ n n))) _;generalize ud ⟨rows,cols,sg,det⟩ n=kI at *;generalize kn ⟨rows,cols,sg,det⟩ n=kv at *;simp only[] at hks;have hrt: ∀r,r<cols.length→(rows.take cols.length).getD r []=rows.getD r []:=fun r h=>BC h;have hrtl:(rows.take cols.length).length=cols.length:=by rw[List.length_take];omega
 generalize rows.take cols.length=rt at *;refine qX 2 rfl ?_;refine qK 2 rfl ?_;refine ab.call tok rfl rfl rfl rfl cr ?_;refine qU 5 rfl ?_;refine qK 1 rfl ?_;refine qI ?_;refine qX 1 rfl ?_;refine ab.call tok rfl rfl rfl rfl cols_ok ?_;refine qU 1 rfl ?_;refine ab.nil ?_;refine AW.block ?_;refine AW.aD [1,2,5,6,7,19,20] (fun c:Nat=>[(1,.d (bS a)),(2,.bx [.sl 1 (v.map ah)]),(5,.d (bS rt)),(6,.d (jY cols)),(7,.ow 22 ((kI c).map dv)),(19,.d (dI n)),(20,.d (dI c))]) (fun c=>c≤n) (fun c=>n-c) 0 (by rw[hk0];rfl) (Nat.zero_le _) (fun c hcc=>?_)
 · show AW _ _ _ _ _ _ _ [(1,.d (bS a)),(2,.bx [.sl 1 (v.map ah)]),(5,.d (bS rt)),(6,.d (jY cols)),(7,.ow 22 ((kI c).map dv)),(19,.d (dI n)),(20,.d (dI c))];refine qX 1 rfl ?_;refine qI ?_;refine AW.cond rfl (fun h=>?_) (fun h=>?_)
   · have hcn':c<n:=by have:=of_decide_eq_true h;omega
     have hks:=hks c;have hkl:=hkl c;have ch:=wO cols hcn c;generalize cols.contains c=b at hks ch;refine AW.skip (AW.seq (AW.block ?_));refine qX 2 rfl ?_;refine qI ?_;refine qX 2 rfl ?_;refine ab.call tok rfl rfl rfl rfl ch ?_;refine ab.nil ?_;refine AW.cond rfl (fun h=>?_) (fun h=>?_)
     · rw[show b=true from h] at hks;refine AW.exit ?_;refine qT 1 rfl ?_;rw[aA (x:=(c:Int)+1) (by omega) (by omega)];refine qU 1 rfl ?_;refine ab.nil ?_;exact⟨c+1,by rw[hks,if_pos rfl,List.append_nil];rfl,hcn',by omega⟩
     · rw[show b=false from h] at hks;refine AW.skip ?_;refine qX 1 rfl ?_;refine ab.call tok rfl rfl rfl rfl cols_ok ?_;refine ab.DN tok n rfl rfl rfl rfl rfl rfl rfl rfl (by omega) ?_;refine qU 1 rfl ?_;refine qK 2 rfl ?_;refine ab.call tok rfl rfl rfl rfl (qf 1 (by decide) (by decide)) ?_;refine ab.call tok rfl rfl rfl rfl Ad ?_;refine ab.fg tok rfl rfl rfl rfl (Int.natCast_nonneg c) (by rw[List.length_map,List.length_replicate];omega) ?_;refine ab.lQ tok [1] rfl rfl rfl (by rw[List.length_replicate];exact hcn') ?_;refine qI ?_;refine qX 2 rfl ?_;rw[List.length_map];refine qU 1 rfl ?_;refine ab.nil ?_;refine AW.block ?_;refine AW.aD [1,2,5,6,7,8,9,19,20,34,35,36] (fun r:Nat=>[(1,.d (bS a)),(2,.bx [.sl 1 (v.map ah)]),(5,.d (bS rt)),(6,.d (jY cols)),(7,.ow 22 ((kI c).map dv)),(8,.d (dI c)),(9,.ow 53 ((kv c r).map ah)),(19,.d (dI n)),(20,.d (dI c)),(34,.d (jY cols)),(35,.d (dI cols.length)),(36,.d (dI r))]) (fun r=>r≤cols.length) (fun r=>cols.length-r) 0 (by rw[hv0];rfl) (Nat.zero_le _) (fun r hrc=>?_)
       · show AW _ _ _ _ _ _ _ [(1,.d (bS a)),(2,.bx [.sl 1 (v.map ah)]),(5,.d (bS rt)),(6,.d (jY cols)),(7,.ow 22 ((kI c).map dv)),(8,.d (dI c)),(9,.ow 53 ((kv c r).map ah)),(19,.d (dI n)),(20,.d (dI c)),(34,.d (jY cols)),(35,.d (dI cols.length)),(36,.d (dI r))];refine qX 1 rfl ?_;refine qI ?_;refine AW.cond rfl (fun h=>?_) (fun h=>?_)
         · have hrr:r<cols.length:=by have:=of_decide_eq_true h;omega
           have hvs:=hvs c r;have hvl:=hvl c r;have hcr:=hc r hrr;have g0:=vU (l:=cols) (i:=r) hrr;have g1:=getM dv (l:=rt) (i:=r) (by omega);change _=some (dv (rt.getD r [])) at g1;rw[hrt r hrr] at g1;have g2:=getM ah (l:=rows.getD r []) (i:=c) (by rw[hr r (by omega)];exact hcn');have cn:=Dt V (hl r c) (hs r c) hK;unfold br at cn hvs;generalize rows.getD r []=row at g1 g2 cn hvs;change _=some (ah (row.getD c [])) at g2;generalize row.getD c []=x at g2 cn hvs;generalize cols.getD r 0=p at g0 hcr hvs;refine AW.skip (AW.seq (AW.block ?_));refine qX 1 rfl ?_;refine ab.idx tok (dI p) rfl rfl rfl rfl (Int.natCast_nonneg r) g0 ?_;refine qU 3 rfl ?_;refine ab.nil ?_;refine AW.any aL (lj.vZ [(13,14)] (by kernel_rfl) (fun _ _ h=>h) (fun _ h=>h) (lj.draw 14 (by kernel_rfl) ?_));refine qP 5 rfl ?_;refine ae.idx tok (dv row) rfl rfl rfl rfl rfl (Int.natCast_nonneg r) g1 ?_;refine qP 2 rfl ?_;refine ae.idx tok (ah x) rfl rfl rfl rfl rfl (Int.natCast_nonneg c) g2 ?_;refine qP 1 rfl ?_;refine ae.call tok rfl rfl rfl rfl rfl cn ?_;refine qP 3 rfl ?_;refine ae.nil ?_;refine ab.fg tok rfl rfl rfl rfl (Int.natCast_nonneg p) (by rw[List.length_map,hvl];omega) ?_;refine ab.lQ tok (qn x) rfl rfl rfl (by rw[hvl];exact hcr) ?_;refine ab.nil ?_;refine qT 1 rfl ?_;rw[aA (x:=(r:Int)+1) (by omega) (by omega)];refine qU 1 rfl ?_;refine ab.nil ?_;exact⟨r+1,by rw[hvs];rfl,hrr,by omega⟩
         have hrr:r=cols.length:=by have:=of_decide_eq_false h;omega
         subst hrr;refine AW.exit (AW.region ?_);refine ab.fS tok 9 rfl rfl ?_;refine qU 2 rfl ?_;refine ab.fA tok rfl rfl rfl rfl rfl ?_;refine ab.gK tok rfl rfl rfl rfl rfl rfl (by rw[List.length_map];show (_+1)*24≤_;omega) (by rw[List.length_map];show _+1≤_;omega) ?_;refine qU 1 rfl ?_;refine ab.nil ?_;refine qT 1 rfl ?_;rw[aA (x:=(c:Int)+1) (by omega) (by omega)];refine qU 1 rfl ?_;refine ab.nil ?_;exact⟨c+1,by rw[hks,if_neg (by decide),List.map_append];rfl,hcn',by omega⟩
   have hcc:c=n:=by have:=of_decide_eq_false h;omega
   subst hcc;refine AW.exit (AW.seq (AW.region ?_));refine ab.fS tok 7 rfl rfl ?_;refine qU 2 rfl ?_;exact qN rfl
end Lift
namespace Lift
open Go Go.Proofs
theorem wP{v:List NQ}{xs ys:List NQ}{k:Nat}(L:Lo v)(hl:ys.length=xs.length)(hl1:xs.length≤1000000)(hx: ∀i,ak v.length (xs.getD i []))(hy: ∀i,ak v.length (ys.getD i []))(sx: ∀i,aj k (xs.getD i []))(sy: ∀i,aj k (ys.getD i []))(hk:k≤100000000000)
  (he: ∀i,i<xs.length→aT v v.length (cf (aM (xs.getD i []) (aC (ys.getD i []))))=0):Pure Tryz.prog 30 [bI v,dv xs,dv ys] (dB true):=by
 refine qJ 40 Tryz.func30 rfl rfl rfl rfl (by kernel_rfl) (fun B F0 w0=>?_);have cc:=fun i=>Du L.V (hx i) (sx i) (hy i) (sy i) (by have:=(sx 0).pos;omega) (qj L.l1 (by omega));refine qX 2 rfl ?_;refine qI ?_;refine qX 2 rfl ?_;rw[List.length_map];refine qU 2 rfl ?_;rw[List.length_map,hl];refine qU 1 rfl ?_;rw[bne_eq_false_iff_eq.2 rfl];refine ab.nil ?_;refine AW.ar rfl ?_
 · skip
   refine AW.skip (AW.seq ?_);refine qX 2 rfl ?_;rw[List.length_map];refine qU 1 rfl ?_;refine ab.nil ?_;refine AW.block ?_;refine AW.aD [1,2,3,16,17] (fun i:Nat=>[(1,.d (dv xs)),(2,.d (dv ys)),(3,.bx [.sl 1 (v.map ah)]),(16,.d (dI xs.length)),(17,.d (dI i))]) (fun i=>i≤xs.length) (fun i=>xs.length-i) 0 rfl (Nat.zero_le _) (fun i hi=>?_)
   · show AW _ _ _ _ _ _ _ [(1,.d (dv xs)),(2,.d (dv ys)),(3,.bx [.sl 1 (v.map ah)]),(16,.d (dI xs.length)),(17,.d (dI i))];refine qX 1 rfl ?_;refine qI ?_;refine AW.cond rfl (fun h=>?_) (fun h=>?_)
     · have hii:i<xs.length:=by have:=of_decide_eq_true h;omega
       have gx:=getM ah (l:=xs) (i:=i) hii;have gy:=getM ah (l:=ys) (i:=i) (by omega);have cc:=cc i;rw[he i hii] at cc;generalize xs.getD i []=x at gx cc;generalize ys.getD i []=y at gy cc;refine AW.skip (AW.seq (AW.block ?_));refine qX 2 rfl ?_;refine qI ?_;refine AW.draw aL 14 (by kernel_rfl) ?_;refine qP 3 rfl ?_;refine ae.idx tok (ah x) rfl rfl rfl rfl rfl (Int.natCast_nonneg i) gx ?_;refine qP 3 rfl ?_;refine ae.idx tok (ah y) rfl rfl rfl rfl rfl (Int.natCast_nonneg i) gy ?_;refine qP 1 rfl ?_;refine ae.call tok rfl rfl rfl rfl rfl cc ?_;refine qP 4 rfl ?_;refine ae.nil ?_;refine qU 1 rfl ?_;refine qK 6 rfl ?_;refine ab.nil ?_;refine AW.ar rfl ?_
       · skip
         refine AW.skip ?_;refine qT 1 rfl ?_;rw[aA (x:=(i:Int)+1) (by omega) (by omega)];refine qU 1 rfl ?_;refine ab.nil ?_;exact⟨i+1,rfl,hii,by omega⟩
     have hii:i=xs.length:=by have:=of_decide_eq_false h;omega
     subst hii;refine AW.exit ?_;refine qX 1 rfl ?_;exact qN rfl
end Lift
namespace Lift
open Go Go.Proofs
theorem rV{rt:List (List RD)}{a:List (List (List RD))}{e:Nat}(he:e≠0)(cc:Pure Tryz.prog 20 [TrD rt,MxR a] (vi e)):Pure Tryz.prog 13 [TrD rt,MxR a] (.tu [dI (0:Nat),vi e]):=by
 obtain ⟨m,rfl⟩: ∃m,e=m+1:=⟨e-1,by omega⟩;refine qJ 29 Tryz.func13 rfl rfl rfl rfl (by kernel_rfl) (fun B F0 w0=>?_);refine qX 3 rfl ?_;refine qI ?_;refine qX 2 rfl ?_;refine ab.call tok rfl rfl rfl rfl cc ?_;refine qU 1 rfl ?_;refine qK 1 rfl ?_;refine ab.err tok rfl rfl rfl rfl rfl ?_;refine ab.nil ?_;refine AW.aF rfl ?_
 · skip
   refine qX 3 rfl ?_;exact qN rfl
theorem pg{rt:List (List RD)}{a:List (List (List RD))}{e:Nat}(he:e≠0)(cc:Pure Tryz.prog 20 [TrD rt,MxR a] (vi e)):Pure Tryz.prog 14 [TrD rt,MxR a] (.tu [bS [],vi e]):=by
 obtain ⟨m,rfl⟩: ∃m,e=m+1:=⟨e-1,by omega⟩;refine qJ 33 Tryz.func14 rfl rfl rfl rfl (by kernel_rfl) (fun B F0 w0=>?_);refine qX 3 rfl ?_;refine qI ?_;refine qX 2 rfl ?_;refine ab.call tok rfl rfl rfl rfl cc ?_;refine qU 1 rfl ?_;refine qK 1 rfl ?_;refine ab.err tok rfl rfl rfl rfl rfl ?_;refine ab.nil ?_;refine AW.aF rfl ?_
 · skip
   refine qX 3 rfl ?_;exact qN rfl
theorem l9{rt:List (List RD)}{a:List (List (List RD))}{e:Nat}(he:e≠0)(cc:Pure Tryz.prog 20 [TrD rt,MxR a] (vi e)):Pure Tryz.prog 15 [TrD rt,MxR a] (.tu [jY [],vi e]):=by
 obtain ⟨m,rfl⟩: ∃m,e=m+1:=⟨e-1,by omega⟩;refine qJ 41 Tryz.func15 rfl rfl rfl rfl (by kernel_rfl) (fun B F0 w0=>?_);refine qX 3 rfl ?_;refine qI ?_;refine qX 2 rfl ?_;refine ab.call tok rfl rfl rfl rfl cc ?_;refine qU 1 rfl ?_;refine qK 1 rfl ?_;refine ab.err tok rfl rfl rfl rfl rfl ?_;refine ab.nil ?_;refine AW.aF rfl ?_
 · skip
   refine qX 3 rfl ?_;exact qN rfl
theorem mf{rt:List (List RD)}{ks:bk}(hk:ks.length≤1000000)(ce: ∀i,i<ks.length→Pure Tryz.prog 30 [TrD rt,dv (ks.getD i []),dv (ks.getD i [])] (dB true)):Pure Tryz.prog 22 [TrD rt,bS ks,bS ks] (dB true):=by
 refine qJ 30 Tryz.func22 rfl rfl rfl rfl (by kernel_rfl) (fun B F0 w0=>?_);refine qX 2 rfl ?_;refine qI ?_;refine qX 2 rfl ?_;rw[List.length_map];refine qU 2 rfl ?_;rw[List.length_map];refine qU 1 rfl ?_;rw[bne_eq_false_iff_eq.2 (show (ks.length:Int)=(ks.length:Int) from rfl)];refine ab.nil ?_;refine AW.ar rfl ?_
 · skip
   refine AW.skip (AW.seq ?_);refine qX 2 rfl ?_;rw[List.length_map];refine qU 1 rfl ?_;refine ab.nil ?_;refine AW.block ?_;refine AW.aD [1,2,3,13,14,15] (fun i:Nat=>[(1,.d (bS ks)),(2,.d (bS ks)),(3,.bx [.sl 1 (rt.map dn)]),(13,.d (bS ks)),(14,.d (dI ks.length)),(15,.d (dI i))]) (fun i=>i≤ks.length) (fun i=>ks.length-i) 0 rfl (Nat.zero_le _) (fun i hi=>?_)
   · show AW _ _ _ _ _ _ _ [(1,.d (bS ks)),(2,.d (bS ks)),(3,.bx [.sl 1 (rt.map dn)]),(13,.d (bS ks)),(14,.d (dI ks.length)),(15,.d (dI i))];refine qX 1 rfl ?_;refine qI ?_;refine AW.cond rfl (fun h=>?_) (fun h=>?_)
     · have hii:i<ks.length:=by have:=of_decide_eq_true h;omega
       have g1:=getM dv (l:=ks) (i:=i) hii;have ce:=ce i hii;change _=some (dv (ks.getD i [])) at g1;generalize ks.getD i []=row at g1 ce;refine AW.skip (AW.seq (AW.block ?_));refine qX 2 rfl ?_;refine qI ?_;refine AW.draw aL 11 (by kernel_rfl) ?_;refine qP 3 rfl ?_;refine ae.idx tok (dv row) rfl rfl rfl rfl rfl (Int.natCast_nonneg i) g1 ?_;refine qP 3 rfl ?_;refine ae.idx tok (dv row) rfl rfl rfl rfl rfl (Int.natCast_nonneg i) g1 ?_;refine qP 1 rfl ?_;refine ae.call tok rfl rfl rfl rfl rfl ce ?_;refine qP 1 rfl ?_;refine ae.nil ?_;refine ab.nil ?_;refine AW.ar rfl ?_
       · skip
         refine AW.skip ?_;refine qT 1 rfl ?_;rw[aA (x:=(i:Int)+1) (by omega) (by omega)];refine qU 1 rfl ?_;refine ab.nil ?_;exact⟨i+1,rfl,hii,by omega⟩
     refine AW.exit ?_;refine qX 1 rfl ?_;exact qN rfl
theorem lW{v:List NQ}{a:bk}{N:Nat}(L:Lo v)(hN:N≤5)(ha:a.length≤1000000)(hr:b9 N a)(hl:nJ v.length a)(hs:mZ 2 a):Pure Tryz.prog 51 [bI v,bS a] (.tu [bS ((aH v a N).rows.take (aH v a N).cols.length),jY (aH v a N).cols]):=by
 by_cases h0:a.length=0
 · obtain rfl:=List.length_eq_zero_iff.1 h0;rw[su];exact tv v
 · have g:=ui hN;have R:=L.red hr hl hs g;have h2:2≤gI 2 N:=Nat.le_trans (Nat.le_refl 2) (iS (Nat.zero_le N));have h3:=ye L.l1 (gI 2 N);exact uZ L.V (by omega) ha (by omega) hr hl R.2.1 R.2.2.2.1 R.2.2.2.2 h2 (qj L.l1 (by omega)) (DC L.l1 (by omega)) (by omega)
theorem Dn{m0:Nat}{v:List NQ}(V:jv m0 v){a:bk}(G:xL v a):Ac v a=vk (fun i=>(aH v (a.take i) (ay a)).cols) a.length:=by
 have key: ∀i,i≤a.length→vk (fun i=>(aH v (a.take i) (ay a)).cols) i=kp v (b6 a) i:=fun i=>by
  induction i with
  | zero=>intro _;rfl
  | succ i ih =>
    intro h;have r1:=tq V G (n:=i) (by omega);have r2:=tq V G (n:=i+1) h;rw[v7,ih (by omega)];rcases um v (b6 a) i with ⟨f1,f2⟩ | ⟨f1,f2⟩
    · rw[f1,List.length_append] at r2;rw[if_neg (by show ¬(aH v (a.take i) (ay a)).cols.length=(aH v (a.take (i+1)) (ay a)).cols.length;rw[← r1,← r2];show ¬_=_+1;omega),f2]
    · rw[f1] at r2;rw[if_pos (by show (aH v (a.take i) (ay a)).cols.length=(aH v (a.take (i+1)) (ay a)).cols.length;rw[← r1,← r2]),f2]
 exact(key a.length (Nat.le_refl _)).symm
theorem yV{p:NQ→Prop}(h0:p [])(h1:p [1]){s:ir}{n c:Nat}(h: ∀r,p (qn (br s.rows r c))): ∀r i,p ((kn s n c r).getD i [])
 | 0,i=>by
   unfold kn;rw[List.getD_eq_getElem?_getD,List.getElem?_set];split
   · split
     · exact h1
     · exact h0
   · rw[List.getElem?_replicate];split
     · exact h0
     · exact h0
 | r+1,i=>by
   unfold kn;rw[List.getD_eq_getElem?_getD,List.getElem?_set];split
   · split
     · exact h r
     · exact h0
   · rw[← List.getD_eq_getElem?_getD];exact yV h0 h1 h r i
theorem DX{p:NQ→Prop}(h0:p [])(h1:p [1]){v:List NQ}{a:bk}(h: ∀r c,p (qn (br (gz v a).rows r c)))(j i:Nat):p (((qC v a).getD j []).getD i []):=by
 unfold qC;rw[List.getD_eq_getElem?_getD (l:=List.map _ _),List.getElem?_map];cases (kp v a (ay a))[j]? with
 | none=>exact h0
 | some c=>exact yV h0 h1 (fun r=>h r c) _ i
theorem qA{rt:List (List RD)}{a:List (List (List RD))}(cl:Pure Tryz.prog 10 [TrD rt] (dB false)):Pure Tryz.prog 3 [TrD rt,MxR a] (dB true):=by
 have ca:=jq;refine qJ 108 Tryz.func3 rfl rfl rfl rfl (by kernel_rfl) (fun B F0 w0=>?_);refine qX 2 rfl ?_;refine qI ?_;refine qX 1 rfl ?_;refine ab.call tok rfl rfl rfl rfl cl ?_;refine qU 10 rfl ?_;refine ab.nil ?_;refine AW.aF rfl ?_
 · skip
   refine AW.seq (AW.region ?_);refine ab.call tok rfl rfl rfl rfl ca ?_;refine qU 1 rfl ?_;exact qN rfl
theorem qz{rt:List (List RD)}{a:List (List (List RD))}(cl:Pure Tryz.prog 10 [TrD rt] (dB true))(cs:Pure Tryz.prog 11 [MxR a] (dB false)):Pure Tryz.prog 3 [TrD rt,MxR a] (dB true):=by
 have ca:=jq;refine qJ 108 Tryz.func3 rfl rfl rfl rfl (by kernel_rfl) (fun B F0 w0=>?_);refine qX 2 rfl ?_;refine qI ?_;refine qX 1 rfl ?_;refine ab.call tok rfl rfl rfl rfl cl ?_;refine qU 3 rfl ?_;refine ab.call tok rfl rfl rfl rfl cs ?_;refine qU 6 rfl ?_;refine ab.nil ?_;refine AW.aF rfl ?_
 · skip
   refine AW.seq (AW.region ?_);refine ab.call tok rfl rfl rfl rfl ca ?_;refine qU 1 rfl ?_;exact qN rfl
theorem kj{rt:List (List RD)}{a:List (List (List RD))}{e n:Nat}{K:bk}{r:List Nat}(hr:r.length≤1000000)(cl:Pure Tryz.prog 10 [TrD rt] (dB true))(cs:Pure Tryz.prog 11 [MxR a] (dB true))
  (cR:Pure Tryz.prog 13 [TrD rt,MxR a] (.tu [dI n,vi e])) (cK:Pure Tryz.prog 14 [TrD rt,MxR a] (.tu [bS K,vi e])) (cD:Pure Tryz.prog 15 [TrD rt,MxR a] (.tu [jY r,vi e]))
  (dR:Pure Tryz.prog 16 [TrD rt,MxR a] (.tu [dI n,dI e])) (dK:Pure Tryz.prog 17 [TrD rt,MxR a] (.tu [bS K,dI e])) (dD:Pure Tryz.prog 18 [TrD rt,MxR a] (.tu [jY r,dI e]))
  (cc:Pure Tryz.prog 20 [TrD rt,MxR a] (vi e)) (dc:Pure Tryz.prog 21 [TrD rt,MxR a] (dI e)) (ce:Pure Tryz.prog 22 [TrD rt,bS K,bS K] (dB true)):
  Pure Tryz.prog 3 [TrD rt,MxR a] (dB true):=by
 have ca:=jq;have ci:=nF r r hr;rw[decide_eq_true rfl] at ci;have cn:=zm e;refine qJ 108 Tryz.func3 rfl rfl rfl rfl (by kernel_rfl) (fun B F0 w0=>?_);refine qX 2 rfl ?_;refine qI ?_;refine qX 1 rfl ?_;refine ab.call tok rfl rfl rfl rfl cl ?_;refine qU 3 rfl ?_;refine ab.call tok rfl rfl rfl rfl cs ?_;refine qU 3 rfl ?_;refine ab.call tok rfl rfl rfl rfl ca ?_;refine qU 2 rfl ?_;refine ab.nil ?_;refine AW.ar rfl ?_
 · skip
   refine AW.skip ?_;refine qX 2 rfl ?_;refine ab.call tok rfl rfl rfl rfl cR ?_;refine qU 5 rfl ?_;refine qK 2 rfl ?_;refine ab.call tok rfl rfl rfl rfl cK ?_;refine qU 5 rfl ?_;refine qK 2 rfl ?_;refine ab.call tok rfl rfl rfl rfl cD ?_;refine qU 5 rfl ?_;refine qK 2 rfl ?_;refine ab.call tok rfl rfl rfl rfl dR ?_;refine qU 5 rfl ?_;refine qK 2 rfl ?_;refine ab.call tok rfl rfl rfl rfl dK ?_;refine qU 5 rfl ?_;refine qK 2 rfl ?_;refine ab.call tok rfl rfl rfl rfl dD ?_;refine qU 5 rfl ?_;refine qI ?_;refine AW.draw aL 42 (by kernel_rfl) ?_;refine qP 2 rfl ?_;refine ae.call tok rfl rfl rfl rfl rfl cc ?_;refine ae.call tok rfl rfl rfl rfl rfl cn ?_;refine qP 2 rfl ?_;refine ae.call tok rfl rfl rfl rfl rfl dc ?_;refine qP 1 rfl ?_;rw[beq_self_eq_true];refine qP 2 rfl ?_;refine ae.call tok rfl rfl rfl rfl rfl cn ?_;refine qP 2 rfl ?_;rw[beq_self_eq_true];refine qP 5 rfl ?_;rw[beq_self_eq_true];refine qP 3 rfl ?_;refine ae.call tok rfl rfl rfl rfl rfl cn ?_;refine qP 2 rfl ?_;rw[beq_self_eq_true];refine qP 5 rfl ?_;refine ae.call tok rfl rfl rfl rfl rfl ce ?_;refine qP 3 rfl ?_;refine ae.call tok rfl rfl rfl rfl rfl cn ?_;refine qP 2 rfl ?_;rw[beq_self_eq_true];refine qP 4 rfl ?_;refine ae.call tok rfl rfl rfl rfl rfl ci ?_;refine qP 1 rfl ?_;refine ae.nil ?_;refine qU 1 rfl ?_;exact qN rfl
theorem rW{rt:List (List RD)}{a:List (List (List RD))}{v:List NQ}{q:bk}(A:Acc rt a v q)(cl:Pure Tryz.prog 10 [TrD rt] (dB true))(cs:Pure Tryz.prog 11 [MxR a] (dB true))(cc:Pure Tryz.prog 20 [TrD rt,MxR a] (vi 0))(dc:Pure Tryz.prog 21 [TrD rt,MxR a] (dI (0:Nat))):Pure Tryz.prog 3 [TrD rt,MxR a] (dB true):=by
 have L:=A.L;have G:=A.G;have hl4:=A.l4;have hc4:=A.c4;have hs:=A.s;have cR:=yt L G hs (by omega);have cK:=At L G hs (by omega);have cD:=np L G hs (by omega);have dr:=lW L (N:=ay q) (by omega) (by omega) G.r G.lt hs;have R:=L.red G.r G.lt hs (ui (show ay q≤5 by omega));have g:=ui (show ay q≤5 by omega);have RO:=gw L.V.a G.r G.lt (ay q);have hlt:=sv v q (ay q)
 have dk:=u5 (rows:=(gz v q).rows) (cols:=(gz v q).cols) (sg:=(gz v q).sg) (det:=(gz v q).det) L.V (by omega) dr RO.rect RO.lt (R.2.1 _ (Nat.le_refl _)) (by omega) (fun r hr=>by
  rw[List.getD_eq_getElem?_getD,List.getElem?_eq_getElem hr]
  exact hlt _ (List.getElem_mem hr)) (by have:=RO.cm;have:=RO.len;show (aH v q (ay q)).cols.length≤(aH v q (ay q)).rows.length;omega) (by have:=RO.cm;show (aH v q (ay q)).cols.length≤_;omega)
 have dd:=qc (v:=v) (a:=q) (by omega) (fun i=>(aH v (q.take i) (ay q)).cols) (fun i=>(aH v (q.take i) (ay q)).rows.take (aH v (q.take i) (ay q)).cols.length) (fun i _=>lW L (by omega) (by rw[List.length_take];omega) (G.r.take i) (G.lt.take i) (E8 hs i));rw[← Dn L.V G] at dd;obtain ⟨F⟩:=GN L.V;have kz: ∀j i,ak v.length (((qC v q).getD j []).getD i [])∧aj (gI 2 (ay q)) (((qC v q).getD j []).getD i []):=DX (p:=fun y=>ak v.length y∧aj (gI 2 (ay q)) y) ⟨bL _,bz (R.2.1 _ (Nat.le_refl _)).pos⟩ ⟨fB _ _,gU (Nat.le_trans k9 (R.2.1 _ (Nat.le_refl _)).pos)⟩ (fun r c=>FK (RO.lt r c) (R.2.1 _ (Nat.le_refl _) r c))
 have kl: ∀j,((qC v q).getD j []).length≤4:=fun j=>by
  unfold qC;rw[List.getD_eq_getElem?_getD,List.getElem?_map];cases (kp v q (ay q))[j]? with
  | none=>exact Nat.zero_le _
  | some c=>show (kn _ _ _ _).length≤4;rw[ph];exact hc4
 have hkl:=DW v q;have hrl:=Dm L.V G
 have ce:=mf (rt:=rt) (ks:=qC v q) (by omega) (fun i hi=>by
  have h:=wP (xs:=(qC v q).getD i []) (ys:=(qC v q).getD i []) L rfl (by have:=kl i;omega) (fun j=>(kz i j).1) (fun j=>(kz i j).1) (fun j=>(kz i j).2) (fun j=>(kz i j).2) g (fun j hj=>F.eq.2 rfl);rw[← A.t] at h
  exact h)
 rw[← A.t,← A.m] at cR cK cD dr dk dd;have dR:=rp dc (fun _=>dr);have dK:=ns dc (fun _=>dk);have dD:=kd dc (fun _=>dd);rw[if_pos rfl] at dR dK dD;exact kj (by omega) cl cs cR cK cD dR dK dD cc dc ce
theorem law10_Ranks_ok(rt:List (List RD))(a:List (List (List RD)))(n1:Nb2 rt)(n2:Nb3 a):Pure Tryz.prog 3 [TrD rt,MxR a] (dB true):=by
 have cl:=xk rt n1;have cs:=uc a n2;by_cases hl:yS rt=true;rotate_left
 · simp only[Bool.not_eq_true] at hl;rw[hl] at cl;exact qA cl
 rw[hl] at cl;by_cases hs:p0 a=true;rotate_left
 · simp only[Bool.not_eq_true] at hs;rw[hs] at cs;exact qz cl cs
 rw[hs] at cs;have cc:=ei (xg hl n1).1 (nN (rt:=rt) hs n2).1;have dc:=wQ (xg hl n1).1 (nN (rt:=rt) hs n2).1;by_cases h0:nw rt a=0
 · have A:=HN hl n1 hs n2 h0;rw[h0] at cc dc;exact rW A cl cs cc dc
 · have dR:=rp (m:=[]) (l:=[]) dc (fun h=>absurd h h0);have dK:=ns (m:=[]) dc (fun h=>absurd h h0);have dD:=kd (l:=[]) (l2:=[]) dc (fun h=>absurd h h0);rw[if_neg h0] at dR dK dD;exact kj (Nat.zero_le _) cl cs (rV h0 cc) (pg h0 cc) (l9 h0 cc) dR dK dD cc dc (mf (Nat.zero_le _) (fun i hi=>absurd hi (Nat.not_lt_zero i)))
end Lift

