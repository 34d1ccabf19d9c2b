/- Parts of the proof, one behind the other: the logic, the contracts of the functions that the statement reaches. -/
import Derived.Test.YtfakkdmfofiibaaGreatT4E
set_option linter.unusedVariables false
set_option linter.unusedSimpArgs false
namespace Lift
open Go Go.Proofs
def HY(a:List RD):Prop:=a.length≤4398046511104∧ ∀i,(a.getD i default).w DG
def Nb2(b:List (List RD)):Prop:=b.length≤140737488355328∧ ∀i,HY (b.getD i [])
def Nb3(a:List (List (List RD))):Prop:=a.length≤140737488355328∧ ∀i,Nb2 (a.getD i [])
theorem p0{f:Nat→Nat}: ∀{m i:Nat},fE f m i=0→ ∀k,i≤k→k<i+m→f k=0
 | 0,i,_,k,h1,h2=>by omega
 | m+1,i,h,k,h1,h2=>by
   rw[fE] at h;split at h
   · rename_i h0;by_cases e:k=i
     · subst e;exact h0
     · exact p0 h k (by omega) (by omega)
   · rename_i h0;exact absurd h h0
theorem wA{α:Type}(g:α→Bool){d:α}{l:List α}{i:Nat}(h:i<l.length):(l.drop i).all g=(g (l.getD i d)&&(l.drop (i+1)).all g):=by
 rw[List.drop_eq_getElem_cons h,List.all_cons,List.getD_eq_getElem?_getD,List.getElem?_eq_getElem h];rfl
theorem rF{α:Type}(g:α→Bool){l:List α}{i:Nat}(h: ¬i<l.length):(l.drop i).all g=true:=by
 rw[List.drop_eq_nil_of_le (by omega)];rfl
theorem wz{α:Type}{g:α→Bool}{l:List α}(h:l.all g=true){d:α}{i:Nat}(hi:i<l.length):g (l.getD i d)=true:=by
 rw[List.getD_eq_getElem?_getD,List.getElem?_eq_getElem hi];exact List.all_eq_true.1 h _ (List.getElem_mem hi)
def BE(x:List RD):Bool:=decide (x.length≤4)&&x.all jH
def fX(l:List (List RD)):Bool:=l.all BE
theorem lP(l:List (List RD))(hl:Nb2 l):Pure Tryz.prog 31 [iY l] (dB (fX l)):=by
 refine qJ 27 Tryz.func31 rfl rfl rfl rfl (by kernel_rfl) (fun B0 F0 w0=>?_);obtain ⟨hl1,hl2⟩:=hl;obtain ⟨E,hE⟩: ∃E,(l.drop 0).all BE=E:=⟨_,rfl⟩;rw[show fX l=E from hE];refine qX 1 rfl ?_;refine qI ?_;refine qX 2 rfl ?_;rw[List.length_map];refine qU 1 rfl ?_;refine ab.nil ?_;refine AW.block ?_;refine AW.aE [7,8,9] (fun i:Nat=>[(7,.d (iY l)),(8,.d (dI l.length)),(9,.d (dI i))]) (fun i=>i≤l.length∧(l.drop i).all BE=E) (fun i=>l.length-i) 0 rfl ⟨Nat.zero_le _,hE⟩ (fun i ⟨hi,hiE⟩=>?_)
 · show AW _ _ _ _ _ _ _ [(7,.d (iY l)),(8,.d (dI l.length)),(9,.d (dI i))];refine qX 1 rfl ?_;refine qI ?_;refine AW.cond rfl (fun h=>?_) (fun h=>?_)
   · have hii:i<l.length:=by have:=of_decide_eq_true h;omega
     have g1:=getM dD (l:=l) (i:=i) hii;have hx:=hl2 i;have hat:=(wA BE (d:=[]) hii).symm.trans hiE;change (BE (l.getD i default)&&_)=E at hat;generalize l.getD i default=x at g1 hx hat;obtain ⟨hx1,hx2⟩:=hx;refine AW.skip (AW.seq (AW.block (AW.seq (AW.region ?_))));refine ab.idx tok (dD x) rfl rfl rfl rfl (Int.natCast_nonneg i) g1 ?_;refine qU 2 rfl ?_;refine qI ?_;refine qX 2 rfl ?_;rw[List.length_map];refine qU 1 rfl ?_;refine ab.nil ?_;refine AW.cond rfl (fun h=>?_) (fun h=>?_)
     · have h4: ¬x.length≤4:=by have:=of_decide_eq_true h;omega
       have hs:BE x=false:=by unfold BE;rw[decide_eq_false h4];rfl
       rw[hs] at hat;rw[← hat];refine qX 1 rfl ?_;exact qN rfl
     · have h4:x.length≤4:=by have:=of_decide_eq_false h;omega
       obtain ⟨X,hX⟩: ∃X,(x.drop 0).all jH=X:=⟨_,rfl⟩;have hs:BE x=X:=by unfold BE;rw[decide_eq_true h4];exact hX
       rw[hs] at hat;refine AW.skip ?_;refine qX 2 rfl ?_;rw[List.length_map];refine qU 1 rfl ?_;refine ab.nil ?_;refine AW.block ?_;refine AW.aE [7,8,9,16,17,18] (fun k:Nat=>[(7,.d (iY l)),(8,.d (dI l.length)),(9,.d (dI i)),(16,.d (dD x)),(17,.d (dI x.length)),(18,.d (dI k))]) (fun k=>k≤x.length∧(x.drop k).all jH=X) (fun k=>x.length-k) 0 rfl ⟨Nat.zero_le _,hX⟩ (fun k ⟨hk,hkX⟩=>?_)
       · show AW _ _ _ _ _ _ _ [(7,.d (iY l)),(8,.d (dI l.length)),(9,.d (dI i)),(16,.d (dD x)),(17,.d (dI x.length)),(18,.d (dI k))];refine qX 1 rfl ?_;refine qI ?_;refine AW.cond rfl (fun h=>?_) (fun h=>?_)
         · have hkk:k<x.length:=by have:=of_decide_eq_true h;omega
           have g2:=getM RD.D (l:=x) (i:=k) hkk;have ct:=ud (x.getD k default) (hx2 k) (by unfold DG;omega);have hatk:=(wA jH (d:=default) hkk).symm.trans hkX;generalize x.getD k default=r at g2 ct hatk;refine AW.skip (AW.seq (AW.block (AW.seq (AW.region ?_))));refine ab.idx tok r.D rfl rfl rfl rfl (Int.natCast_nonneg k) g2 ?_;refine qU 3 rfl ?_;refine qK 1 rfl ?_;refine ab.call tok rfl rfl rfl rfl ct ?_;refine qU 1 rfl ?_;refine ab.nil ?_;refine AW.cond rfl (fun h=>?_) (fun h=>?_)
           · have ht:jH r=false:=by cases g:jH r;rfl;rw[g] at h;cases h
             rw[ht] at hatk;rw[← hatk] at hat;rw[← hat];refine qX 1 rfl ?_;exact qN rfl
           · have ht:jH r=true:=by cases g:jH r;rw[g] at h;cases h;rfl
             rw[ht] at hatk;refine AW.skip ?_;refine qT 1 rfl ?_;rw[aD (x:=(k:Int)+1) (by omega) (by omega)];refine qU 1 rfl ?_;refine ab.nil ?_;exact⟨k+1,rfl,⟨hkk,hatk⟩,by omega⟩
         have hkk: ¬k<x.length:=by have:=of_decide_eq_false h;omega
         rw[rF jH hkk] at hkX;rw[← hkX] at hat;refine AW.exit ?_;refine qT 1 rfl ?_;rw[aD (x:=(i:Int)+1) (by omega) (by omega)];refine qU 1 rfl ?_;refine ab.nil ?_;exact⟨i+1,rfl,⟨hii,hat⟩,by omega⟩
   have hii: ¬i<l.length:=by have:=of_decide_eq_false h;omega
   rw[rF BE hii] at hiE;rw[← hiE];refine AW.exit ?_;refine qX 1 rfl ?_;exact qN rfl
def gK(n:Nat):Bool:=(decide (4<n)&&decide (n≤32))||decide (40<n)
def wI(r:List (List RD)):Bool:= !(gK r.length|| !fX r)
def jx(a:List (List (List RD))):Bool:= !gK a.length&&a.all wI
theorem lO(a:List (List (List RD)))(ha:Nb3 a):Pure Tryz.prog 11 [MxR a] (dB (jx a)):=by
 refine qJ 43 Tryz.func11 rfl rfl rfl rfl (by kernel_rfl) (fun B0 F0 w0=>?_);obtain ⟨ha1,ha2⟩:=ha;obtain ⟨E,hE⟩: ∃E,(a.drop 0).all wI=E:=⟨_,rfl⟩;unfold jx;rw[show a.all wI=E from hE];refine qX 1 rfl ?_;refine ab.nil ?_;refine AW.cut [0] (fun _:Unit=>[(0,.d (MxR a))]) (fun _=>gK a.length=false) ?_ (fun _ hs=>?_)
 · refine qX 2 rfl ?_;rw[List.length_map];refine qU 1 rfl ?_;by_cases hp:4<a.length
   · rw[decide_eq_true (show (4:Int)<(a.length:Int) by omega)];refine qU 3 rfl ?_;rw[List.length_map];refine qU 1 rfl ?_;by_cases hq:a.length≤32
     · rw[decide_eq_true (show (a.length:Int)≤32 by omega)];have hz:gK a.length=true:=by unfold gK;rw[decide_eq_true hp,decide_eq_true hq];rfl
       refine qU 6 rfl ?_;rw[hz];refine ab.nil ?_;refine AW.aG rfl ?_;refine qX 1 rfl ?_;exact qN rfl
     · rw[decide_eq_false (show ¬(a.length:Int)≤32 by omega)];refine qU 4 rfl ?_;rw[List.length_map];refine qU 1 rfl ?_;by_cases hr:40<a.length
       · rw[decide_eq_true (show (40:Int)<(a.length:Int) by omega)];have hz:gK a.length=true:=by unfold gK;rw[decide_eq_true hp,decide_eq_false hq,decide_eq_true hr];rfl
         refine qU 1 rfl ?_;rw[hz];refine ab.nil ?_;refine AW.aG rfl ?_;refine qX 1 rfl ?_;exact qN rfl
       · rw[decide_eq_false (show ¬(40:Int)<(a.length:Int) by omega)];have hz:gK a.length=false:=by unfold gK;rw[decide_eq_true hp,decide_eq_false hq,decide_eq_false hr];rfl
         refine qU 1 rfl ?_;refine ab.nil ?_;refine AW.aB rfl ?_;refine AW.skip ?_;exact⟨(),rfl,hz⟩
   · rw[decide_eq_false (show ¬(4:Int)<(a.length:Int) by omega)];refine qU 7 rfl ?_;refine qU 1 rfl ?_;rw[List.length_map];refine qU 1 rfl ?_;by_cases hr:40<a.length
     · rw[decide_eq_true (show (40:Int)<(a.length:Int) by omega)];have hz:gK a.length=true:=by unfold gK;rw[decide_eq_false hp,decide_eq_true hr];rfl
       refine qU 1 rfl ?_;rw[hz];refine ab.nil ?_;refine AW.aG rfl ?_;refine qX 1 rfl ?_;exact qN rfl
     · rw[decide_eq_false (show ¬(40:Int)<(a.length:Int) by omega)];have hz:gK a.length=false:=by unfold gK;rw[decide_eq_false hp,decide_eq_false hr];rfl
       refine qU 1 rfl ?_;refine ab.nil ?_;refine AW.aB rfl ?_;refine AW.skip ?_;exact⟨(),rfl,hz⟩
 rw[hs,show (!false&&E)=E from rfl]
 · show AW _ _ _ _ _ _ _ [(0,.d (MxR a))];refine AW.seq ?_;refine qX 2 rfl ?_;rw[List.length_map];refine qU 1 rfl ?_;refine ab.nil ?_;refine AW.block ?_;refine AW.aE [18,19,20] (fun i:Nat=>[(18,.d (MxR a)),(19,.d (dI a.length)),(20,.d (dI i))]) (fun i=>i≤a.length∧(a.drop i).all wI=E) (fun i=>a.length-i) 0 rfl ⟨Nat.zero_le _,hE⟩ (fun i ⟨hi,hiE⟩=>?_)
   · show AW _ _ _ _ _ _ _ [(18,.d (MxR a)),(19,.d (dI a.length)),(20,.d (dI i))];refine qX 1 rfl ?_;refine qI ?_;refine AW.cond rfl (fun h=>?_) (fun h=>?_)
     · have hii:i<a.length:=by have:=of_decide_eq_true h;omega
       have g1:=getM iY (l:=a) (i:=i) hii;have cs:=lP (a.getD i []) (ha2 i);have hr1:=(ha2 i).1;have hat:=(wA wI (d:=[]) hii).symm.trans hiE;change (wI (a.getD i default)&&_)=E at hat;change Pure _ _ [iY (a.getD i default)] (dB (fX (a.getD i default))) at cs;change (a.getD i default).length≤_ at hr1;generalize a.getD i default=r at g1 hat cs hr1;refine AW.skip (AW.seq (AW.block (AW.seq (AW.region ?_))));refine ab.idx tok (iY r) rfl rfl rfl rfl (Int.natCast_nonneg i) g1 ?_;refine qU 2 rfl ?_;refine qK 2 rfl ?_;rw[List.length_map];refine qU 1 rfl ?_;by_cases hp:4<r.length
       · rw[decide_eq_true (show (4:Int)<(r.length:Int) by omega)];refine qU 3 rfl ?_;rw[List.length_map];refine qU 1 rfl ?_;by_cases hq:r.length≤32
         · rw[decide_eq_true (show (r.length:Int)≤32 by omega)];have hz:gK r.length=true:=by unfold gK;rw[decide_eq_true hp,decide_eq_true hq];rfl
           refine qU 11 rfl ?_;have hm:wI r=false:=by unfold wI;rw[hz];rfl
           rw[hm] at hat;rw[← hat];refine ab.nil ?_;refine AW.aG rfl ?_;refine qX 1 rfl ?_;exact qN rfl
         · rw[decide_eq_false (show ¬(r.length:Int)≤32 by omega)];refine qU 4 rfl ?_;rw[List.length_map];refine qU 1 rfl ?_;by_cases hr:40<r.length
           · rw[decide_eq_true (show (40:Int)<(r.length:Int) by omega)];have hz:gK r.length=true:=by unfold gK;rw[decide_eq_true hp,decide_eq_false hq,decide_eq_true hr];rfl
             refine qU 6 rfl ?_;have hm:wI r=false:=by unfold wI;rw[hz];rfl
             rw[hm] at hat;rw[← hat];refine ab.nil ?_;refine AW.aG rfl ?_;refine qX 1 rfl ?_;exact qN rfl
           · rw[decide_eq_false (show ¬(40:Int)<(r.length:Int) by omega)];have hz:gK r.length=false:=by unfold gK;rw[decide_eq_true hp,decide_eq_false hq,decide_eq_false hr];rfl
             refine qU 3 rfl ?_;refine ab.call tok rfl rfl rfl rfl cs ?_;refine qU 2 rfl ?_;refine ab.nil ?_;have hm:wI r=fX r:=by unfold wI;rw[hz];cases fX r<;>rfl
             rw[hm] at hat;generalize fX r=s at *;cases s with
             | false =>
               rw[← hat];refine AW.aG rfl ?_;refine qX 1 rfl ?_;exact qN rfl
             | true =>
               refine AW.aB rfl ?_;refine AW.skip ?_;refine qT 1 rfl ?_;rw[aD (x:=(i:Int)+1) (by omega) (by omega)];refine qU 1 rfl ?_;refine ab.nil ?_;exact⟨i+1,rfl,⟨hii,hat⟩,by omega⟩
       · rw[decide_eq_false (show ¬(4:Int)<(r.length:Int) by omega)];refine qU 7 rfl ?_;refine qU 1 rfl ?_;rw[List.length_map];refine qU 1 rfl ?_;by_cases hr:40<r.length
         · rw[decide_eq_true (show (40:Int)<(r.length:Int) by omega)];have hz:gK r.length=true:=by unfold gK;rw[decide_eq_false hp,decide_eq_true hr];rfl
           refine qU 6 rfl ?_;have hm:wI r=false:=by unfold wI;rw[hz];rfl
           rw[hm] at hat;rw[← hat];refine ab.nil ?_;refine AW.aG rfl ?_;refine qX 1 rfl ?_;exact qN rfl
         · rw[decide_eq_false (show ¬(40:Int)<(r.length:Int) by omega)];have hz:gK r.length=false:=by unfold gK;rw[decide_eq_false hp,decide_eq_false hr];rfl
           refine qU 3 rfl ?_;refine ab.call tok rfl rfl rfl rfl cs ?_;refine qU 2 rfl ?_;refine ab.nil ?_;have hm:wI r=fX r:=by unfold wI;rw[hz];cases fX r<;>rfl
           rw[hm] at hat;generalize fX r=s at *;cases s with
           | false =>
             rw[← hat];refine AW.aG rfl ?_;refine qX 1 rfl ?_;exact qN rfl
           | true =>
             refine AW.aB rfl ?_;refine AW.skip ?_;refine qT 1 rfl ?_;rw[aD (x:=(i:Int)+1) (by omega) (by omega)];refine qU 1 rfl ?_;refine ab.nil ?_;exact⟨i+1,rfl,⟨hii,hat⟩,by omega⟩
     have hii: ¬i<a.length:=by have:=of_decide_eq_false h;omega
     rw[rF wI hii] at hiE;rw[← hiE];refine AW.exit ?_;refine qX 1 rfl ?_;exact qN rfl
def ub(rt:List (List RD)):Bool:=(decide (rt.length≤1)||(decide (5<rt.length)&&decide (rt.length<9)))&&fX rt
theorem v8(rt:List (List RD))(hr:Nb2 rt):Pure Tryz.prog 10 [TrD rt] (dB (ub rt)):=by
 refine qJ 24 Tryz.func10 rfl rfl rfl rfl (by kernel_rfl) (fun B0 F0 w0=>?_);have cs:=lP rt hr;have hr1:=hr.1;unfold ub;generalize fX rt=s at cs ⊢;refine qX 2 rfl ?_;refine qK 3 rfl ?_;rw[List.length_map];refine qU 1 rfl ?_;by_cases h1:rt.length≤1
 · rw[decide_eq_true (show (rt.length:Int)≤1 by omega),decide_eq_true h1];refine qU 15 rfl ?_;refine ab.call tok rfl rfl rfl rfl cs ?_;refine qU 2 rfl ?_;exact qN rfl
 rw[decide_eq_false (show ¬(rt.length:Int)≤1 by omega),decide_eq_false h1];refine qU 4 rfl ?_;rw[List.length_map];refine qU 1 rfl ?_;by_cases h2:5<rt.length;rotate_left
 · rw[decide_eq_false (show ¬(5:Int)<(rt.length:Int) by omega),decide_eq_false h2];refine qU 13 rfl ?_;exact qN rfl
 rw[decide_eq_true (show (5:Int)<(rt.length:Int) by omega),decide_eq_true h2];refine qU 4 rfl ?_;rw[List.length_map];refine qU 1 rfl ?_;by_cases h3:rt.length<9;rotate_left
 · rw[decide_eq_false (show ¬(rt.length:Int)<9 by omega),decide_eq_false h3];refine qU 8 rfl ?_;exact qN rfl
 rw[decide_eq_true (show (rt.length:Int)<9 by omega),decide_eq_true h3];refine qU 5 rfl ?_;refine ab.call tok rfl rfl rfl rfl cs ?_;refine qU 2 rfl ?_;exact qN rfl
theorem Ge{x:List RD}(h:BE x=true)(nb:HY x):x.length≤4∧wN 2 x:=by
 unfold BE at h;rw[Bool.and_eq_true] at h;refine⟨of_decide_eq_true h.1,fun i hi=>?_⟩;obtain ⟨t1,t2⟩:=BR (wz h.2 (d:=default) hi);obtain ⟨w1,w2,w3,w4⟩:=nb.2 i;exact⟨w1,w2,by omega,by omega⟩
theorem CI:HY []:=⟨Nat.zero_le _,fun _=>⟨fun _ h=>(by cases h),fun _ h=>(by cases h),Nat.zero_le _,Nat.zero_le _⟩⟩
theorem BK(k:Nat):wN k []:=fun i hi=>absurd hi (Nat.not_lt_zero i)
theorem pv{l:List (List RD)}(h:fX l=true)(nb:Nb2 l)(i:Nat):(l.getD i []).length≤4∧wN 2 (l.getD i []):=by
 by_cases hi:i<l.length
 · exact Ge (wz h (d:=[]) hi) (nb.2 i)
 · rw[List.getD_eq_getElem?_getD,List.getElem?_eq_none (by omega)];exact⟨Nat.zero_le _,BK 2⟩
theorem v5{rt:List (List RD)}(h:ub rt=true)(nb:Nb2 rt):GZ 2 rt∧(rt.length≤5→rt.length≤1):=by
 unfold ub at h;rw[Bool.and_eq_true,Bool.or_eq_true,Bool.and_eq_true] at h;obtain ⟨h1,h2⟩:=h
 have hl:rt.length<9∧(rt.length≤5→rt.length≤1):=by
  rcases h1 with h1 | ⟨h1,h3⟩
  · have:=of_decide_eq_true h1;omega
  · have:=of_decide_eq_true h1;have:=of_decide_eq_true h3;omega
 refine⟨⟨fun i _ _=>(pv h2 nb i).2,by decide,by omega,fun i _=>by have:=(pv h2 nb i).1;omega,fun h5=>vP (hl.2 h5) (by decide),by decide⟩,hl.2⟩
theorem CS{rt:List (List RD)}(h:ub rt=true)(nb:Nb2 rt)(h0:dc rt=0):BB 2 rt∧rt.length≤1:=by
 obtain ⟨T,h1⟩:=v5 h nb;have h5:=(lX h0).1;exact⟨⟨⟨2,by decide,Nat.le_refl _,T.w,T.ok⟩,by decide,T.l,T.ll⟩,h1 h5⟩
theorem kp{rt:List (List RD)}{a:List (List (List RD))}(h:jx a=true)(nb:Nb3 a):BD 2 rt a∧(a.length≤32→a.length≤4)∧(∀i,(a.getD i []).length≤32→(a.getD i []).length≤4):=by
 unfold jx at h;rw[Bool.and_eq_true] at h
 have sz: ∀n,(!gK n)=true→n≤40∧(n≤32→n≤4):=fun n hn=>by
  unfold gK at hn;simp at hn;omega
 have hr: ∀i,(a.getD i []).length≤40∧((a.getD i []).length≤32→(a.getD i []).length≤4)∧ ∀k,((a.getD i []).getD k []).length≤4∧wN 2 ((a.getD i []).getD k []):=fun i=>by
  by_cases hi:i<a.length
  · have g:=wz h.2 (d:=[]) hi;unfold wI at g;rw[Bool.not_or,Bool.not_not,Bool.and_eq_true] at g;have s1:=sz _ g.1;exact⟨s1.1,s1.2,fun k=>pv g.2 (nb.2 i) k⟩
  · rw[List.getD_eq_getElem?_getD,List.getElem?_eq_none (by omega)];exact⟨Nat.zero_le _,fun _=>Nat.zero_le _,fun k=>⟨Nat.zero_le _,BK 2⟩⟩
 have s0:=sz _ h.1;exact⟨⟨fun i k=>⟨fun _=>((hr i).2.2 k).2,by have:=((hr i).2.2 k).1;omega⟩,by omega,fun i=>by have:=(hr i).1;omega⟩,s0.2,fun i=>(hr i).2.1⟩
def fP(a:List (List (List RD))):bw:=a.map fun r=>r.map bg
theorem eT(a:List (List (List RD))):(fP a).length=a.length:=List.length_map ..
theorem lK(a:List (List (List RD)))(i:Nat):(fP a).getD i []=(a.getD i []).map bg:=by
 unfold fP;rw[List.getD_eq_getElem?_getD,List.getElem?_map,List.getD_eq_getElem?_getD];cases a[i]? with
 | none=>rfl
 | some r=>rfl
theorem xe(r:List (List RD))(k:Nat):(r.map bg).getD k []=bg (r.getD k []):=by
 rw[List.getD_eq_getElem?_getD,List.getElem?_map,List.getD_eq_getElem?_getD];cases r[k]? with
 | none=>rfl
 | some x=>rfl
theorem iD(a:List (List (List RD))):ao (fP a)=ao a:=by unfold ao;rw[lK,List.length_map]
structure Acc (rt:List (List RD)) (a:List (List (List RD))) (v:List NQ) (q:bw):Prop where
 L:Lo v
 G:wE v q
 s:l3 2 q
 l4:q.length≤4
 c4:ao q≤4
 t:TrD rt=bO v
 m:MxR a=ck q
 vl:v.length=rt.length
 al:q.length=a.length
 ac:ao q=ao a
theorem Eu{rt:List (List RD)}{r:List (List RD)}(h0:dc rt=0)(h:jN rt r=0){k:Nat}(hk:k<r.length):bA rt.length (r.getD k [])=0:=by
 rw[xf h0] at h;exact p0 h k (Nat.zero_le _) (by omega)
theorem Fi{rt:List (List RD)}(h1:ub rt=true)(n1:Nb2 rt)(h0:dc rt=0):Lo (rt.map bg)∧TrD rt=bO (rt.map bg):=by
 obtain ⟨T,l1⟩:=CS h1 n1 h0;exact⟨⟨o7.of T h0,by rw[List.length_map];exact l1⟩,(Fq T h0).eq⟩
theorem zY{rt:List (List RD)}{r:List (List RD)}(hn: ∀k,BC 2 rt (r.getD k []))(h: ∀k,k<r.length→bA rt.length (r.getD k [])=0):iY r=fe (r.map bg)∧(∀k,aq rt.length ((r.map bg).getD k []))∧(∀k,ay 2 ((r.map bg).getD k [])):=by
 have g:=fun k (hk:k<r.length)=>Gp (by decide) (hn k) (h k hk);refine⟨?_,fun k=>?_,fun k=>?_⟩
 · show D.sl 1 (r.map dD)=D.sl 1 ((r.map bg).map af);rw[List.map_map]
   congr 1
   refine List.map_congr_left fun x hx=>?_;obtain ⟨k,hk,e⟩:=List.getElem_of_mem hx;have:=(g k hk).2.2;rw[List.getD_eq_getElem?_getD,List.getElem?_eq_getElem hk] at this;rw[← e];exact this
 · rw[xe];by_cases hk:k<r.length
   · exact(g k hk).1
   · rw[List.getD_eq_getElem?_getD,List.getElem?_eq_none (by omega)];exact bm _
 · rw[xe];by_cases hk:k<r.length
   · exact(g k hk).2.1
   · rw[List.getD_eq_getElem?_getD,List.getElem?_eq_none (by omega)];exact bn (by decide)
theorem GX{rt:List (List RD)}{a:List (List (List RD))}(h1:ub rt=true)(n1:Nb2 rt)(h2:jx a=true)(n2:Nb3 a)(h:kR rt a=0):Acc rt a (rt.map bg) (fP a):=by
 have h0:dc rt=0:=by
  unfold kR at h;split at h
  · rename_i g;exact absurd h g
  · omega
 have hm:vY rt a=0:=by
  unfold kR at h;rw[if_neg (by rw[h0];simp)] at h;exact h
 obtain ⟨L,ht⟩:=Fi h1 n1 h0;obtain ⟨M,l4,r4⟩:=kp (rt:=rt) h2 n2
 have key:a.length≤4∧ao a≤4∧(∀j,j<a.length→(a.getD j []).length=ao a)∧(∀j,j<a.length→jN rt (a.getD j [])=0):=by
  unfold vY at hm;by_cases e0:a.length=0
  · refine⟨by omega,?_,fun j hj=>by omega,fun j hj=>by omega⟩;unfold ao;rw[List.getD_eq_getElem?_getD,List.getElem?_eq_none (by omega)];exact Nat.zero_le _
  · rw[if_neg e0] at hm;by_cases e1:32<a.length∨32<ao a
    · rw[if_pos e1] at hm;cases hm
    · rw[if_neg e1] at hm;have e2:fE (wJ a) (a.length-0) 0=0:=Classical.byContradiction fun g=>by rw[if_pos g] at hm;exact g hm
      rw[if_neg (by rw[e2];simp)] at hm;refine⟨l4 (by omega),r4 0 (show ao a≤32 by omega),fun j hj=>?_,fun j hj=>p0 hm j (Nat.zero_le _) (by omega)⟩;have:=p0 e2 j (Nat.zero_le _) (by omega);unfold wJ at this;exact Classical.byContradiction fun g=>by rw[if_pos g] at this;cases this
 obtain ⟨k1,k2,k3,k4⟩:=key;have rw1:=fun i (hi:i<a.length)=>zY (M.n i) (fun k hk=>Eu h0 (k4 i hi) hk);have hvl:(rt.map bg).length=rt.length:=List.length_map ..
 have el: ∀i k,aq rt.length (bM (fP a) i k)∧ay 2 (bM (fP a) i k):=fun i k=>by
  by_cases hi:i<a.length
  · have:=rw1 i hi;unfold bM;rw[lK];exact⟨this.2.1 k,this.2.2 k⟩
  · unfold bM;rw[mE (by rw[eT];omega)];exact⟨bm _,bn (by decide)⟩
 refine⟨L,⟨by rw[eT];omega,fun j hj=>?_,by rw[iD];omega,fun i k=>by rw[hvl];exact(el i k).1⟩,fun i k=>(el i k).2,by rw[eT];exact k1,by rw[iD];exact k2,ht,?_,hvl,eT a,iD a⟩
 · rw[eT] at hj;rw[lK,List.length_map,iD];exact k3 j hj
 · show D.sl 1 (a.map iY)=D.sl 1 ((fP a).map fe);unfold fP;rw[List.map_map]
   congr 1
   refine List.map_congr_left fun r hr=>?_;obtain ⟨k,hk,e⟩:=List.getElem_of_mem hr;have:=(rw1 k hk).1;rw[List.getD_eq_getElem?_getD,List.getElem?_eq_getElem hk] at this;rw[← e];exact this
def ph(rt:List (List RD))(a:List (List (List RD))):Bool:=(ub rt&&jx a)&&decide (kR rt a=0)
theorem sS(rt:List (List RD))(a:List (List (List RD)))(n1:Nb2 rt)(n2:Nb3 a):Pure Tryz.prog 24 [TrD rt,MxR a] (dB (ph rt a)):=by
 refine qJ 17 Tryz.func24 rfl rfl rfl rfl (by kernel_rfl) (fun B0 F0 w0=>?_);have c1:=v8 rt n1;have c2:=lO a n2;have c3:=fun h1:ub rt=true=>fun h2:jx a=true=>vF (v5 h1 n1).1 (kp (rt:=rt) h2 n2).1;unfold ph;generalize ub rt=b1 at c1 c3 ⊢;generalize jx a=b2 at c2 c3 ⊢;generalize kR rt a=z at c3 ⊢;refine qX 2 rfl ?_;refine qK 1 rfl ?_;refine ab.call tok rfl rfl rfl rfl c1 ?_;cases b1 with
 | false =>
   refine qU 11 rfl ?_;exact qN rfl
 | true =>
 refine qU 2 rfl ?_;refine ab.call tok rfl rfl rfl rfl c2 ?_;cases b2 with
 | false =>
   refine qU 8 rfl ?_;exact qN rfl
 | true =>
 refine qU 4 rfl ?_;refine ab.call tok rfl rfl rfl rfl (c3 rfl rfl) ?_;refine qU 3 rfl ?_;rw[show ((z:Int)==0)=decide (z=0) by by_cases h:z=0<;>simp[h]];exact qN rfl
end Lift
namespace Lift
open Go Go.Proofs
theorem HA:RT Tryz.prog 53 (List RD) (fun l=>[dD l]) (fun l=>HY l) :=
 (RT.sliceB 32 (el:=RD.D) (s:=3) Tryz.underlying53 (by kernel_rfl) (by kernel_rfl) (by decide) (Nat.le_of_ble_eq_true (by kernel_rfl)) Hd (fun v=>rfl)).map id (fun l h=>rfl) (fun l h=>⟨by have:=h.1;unfold reachBytes at this;show l.length≤_;omega,we (fun v hv=>(h.2 v hv).mono (by decide)) ⟨fun _ h=>(by cases h),fun _ h=>(by cases h),Nat.zero_le _,Nat.zero_le _⟩⟩) (fun v=>⟨by kernel_rfl,fun d hd=>by simp at hd;subst hd;rfl⟩)
theorem CK:RT Tryz.prog 22 (List (List RD)) (fun l=>[iY l]) (fun l=>Nb2 l) :=
 (RT.slice (el:=dD) (s:=1) (by kernel_rfl) (by kernel_rfl) (by kernel_rfl) (by decide) (Nat.le_of_ble_eq_true (by kernel_rfl)) HA (fun v=>rfl)).map id (fun l h=>rfl) (fun l h=>⟨Nat.le_trans h.1 (by decide),fun i=>we (p:=HY) (l:=l) h.2 CI i⟩) (fun v=>⟨by kernel_rfl,fun d hd=>by simp at hd;subst hd;rfl⟩)
theorem EJ:Nb2 []:=⟨Nat.zero_le _,fun _=>CI⟩
theorem n_mat:RT Tryz.prog 25 (List (List (List RD))) (fun l=>[MxR l]) (fun l=>Nb3 l) :=
 (RT.slice (el:=iY) (s:=1) (by kernel_rfl) (by kernel_rfl) (by kernel_rfl) (by decide) (Nat.le_of_ble_eq_true (by kernel_rfl)) CK (fun v=>rfl)).map id (fun l h=>rfl) (fun l h=>⟨Nat.le_trans h.1 (by decide),fun i=>we (p:=Nb2) (l:=l) h.2 EJ i⟩) (fun v=>⟨by kernel_rfl,fun d hd=>by simp at hd;subst hd;rfl⟩)
theorem n_tower:RT Tryz.prog 24 (List (List RD)) (fun l=>[iY l]) (fun l=>Nb2 l):=by
 have h:=RT.struct (P:=Tryz.prog) (t:=24) (m:=1) Tryz.underlying24 (by kernel_rfl) (RTF.cons (by kernel_rfl) CK RTF.nil) (fun v=>rfl);exact h.map (fun v=>v.1) (fun v h=>rfl) (fun v h=>h.1) (fun v=>⟨by kernel_rfl,fun d hd=>by simp at hd;subst hd;rfl⟩)
theorem n_ints:RT Tryz.prog 35 (List Int) (fun l=>[.sl 1 (l.map (fun n=>dI n))]) (fun l=>l.length≤140737488355328) :=
 (RT.slice (el:=fun n:Int=>dI n) (s:=1) (by kernel_rfl) (by kernel_rfl) (by kernel_rfl) (by decide) (Nat.le_of_ble_eq_true (by kernel_rfl)) He (fun v=>rfl)).map id (fun l h=>rfl) (fun l h=>Nat.le_trans h.1 (by decide)) (fun v=>⟨by kernel_rfl,fun d hd=>by simp at hd;subst hd;rfl⟩)
end Lift
namespace Lift
open Go Go.Proofs
end Lift
namespace Lift
open Go Go.Proofs
def qq:List NQ:=[[2]]
def Ar:bw:=[[[1],[0,1]],[[0,1],[2]]]
def Dd:bw:=[[[1],[0,1]],[[0,1],[1]]]
theorem mF:Lo qq:=by
 have s2:eF 2 qq:=fun i=>match i with
  | 0=>iJ (by decide +kernel)
  | i+1=>bn (by decide)
 refine⟨⟨by decide,fun k hk=>?_,s2,fun k hk=>?_,by decide,2,by decide,by decide,s2,vP (by decide) (by decide)⟩,by decide⟩
 · have hk:k<1:=hk;obtain rfl:k=0:=by omega
   rfl
 · have hk:k<1:=hk;obtain rfl:k=0:=by omega
   decide +kernel
theorem Aq{a:bw}(h:a=Ar∨a=Dd):wE qq a∧l3 2 a∧a.length=2∧ao a=2:=by
 have hl: ∀b:bw,b=Ar∨b=Dd→ ∀i k,aq 1 (bM b i k)∧ay 2 (bM b i k):=fun b hb i k=>by
  have key: ∀q:Rat,q=0∨q=1∨q=2→LQ q≤2:=fun q hq=>by rcases hq with rfl | rfl | rfl<;>decide +kernel
  have g1: ∀q:Rat,LQ q≤2→aq 1 [q]∧ay 2 [q]:=fun q hq=>⟨ix _ _,iJ hq⟩
  have g2:aq 1 [(0:Rat),1]∧ay 2 [(0:Rat),1]:=⟨.inr ⟨1,by decide,rfl⟩,fun c=>match c with
   | 0=>key 0 (.inl rfl)
   | 1=>key 1 (.inr (.inl rfl))
   | c+2=>l8 (by decide)⟩
  have g0:aq 1 []∧ay 2 []:=⟨bm _,bn (by decide)⟩;rcases hb with rfl | rfl
  · match i,k with
    | 0,0=>exact g1 1 (key 1 (.inr (.inl rfl)))
    | 0,1=>exact g2
    | 0,k+2=>exact g0
    | 1,0=>exact g2
    | 1,1=>exact g1 2 (key 2 (.inr (.inr rfl)))
    | 1,k+2=>exact g0
    | i+2,k=>exact g0
  · match i,k with
    | 0,0=>exact g1 1 (key 1 (.inr (.inl rfl)))
    | 0,1=>exact g2
    | 0,k+2=>exact g0
    | 1,0=>exact g2
    | 1,1=>exact g1 1 (key 1 (.inr (.inl rfl)))
    | 1,k+2=>exact g0
    | i+2,k=>exact g0
 have hlen:a.length=2∧ao a=2:=by rcases h with rfl | rfl<;>exact⟨rfl,rfl⟩
 refine⟨⟨by omega,fun j hj=>?_,by omega,fun i k=>(hl a h i k).1⟩,fun i k=>(hl a h i k).2,hlen⟩;rcases h with rfl | rfl
 · match j,hj with
   | 0,_=>rfl
   | 1,_=>rfl
 · match j,hj with
   | 0,_=>rfl
   | 1,_=>rfl
theorem CB{v:List NQ}(L:Lo v):pE v.length 2:=vP L.l1 (by decide)
theorem Ao: ∀{n:Nat},n≤5→gI 2 n≤100000000000:=fun {n} h=>Nat.le_trans (jr h) (by decide)
theorem p9{v:List NQ}{a:bw}(L:Lo v)(G:wE v a)(hs:l3 2 a):Pure Tryz.prog 20 [bO v,ck a] aj:=by
 obtain ⟨r1,r2⟩:=G.raw L.V hs;have cc:=gO (L.V.s (CB L)) r1;rw[r2,vB,yW] at cc;exact cc
theorem xn{v:List NQ}{a:bw}(L:Lo v)(G:wE v a)(hs:l3 2 a)(hc:ao a≤5):Pure Tryz.prog 13 [bO v,ck a] (.tu [dI (e8 v a).cols.length,aj]) :=
 sQ L.V (CB L) G hs (L.red G.r G.lt hs (Ao hc)).1
theorem D7{a:bw}{k:Nat}(hs:l3 k a):l3 k (cu a):=uu (p:=ay k) (bn hs.pos) hs
theorem tQ{v:List NQ}{a:bw}(L:Lo v)(G:wE v a)(hs:l3 2 a)(hl:a.length≤5):Pure Tryz.prog 15 [bO v,ck a] (.tu [hC (Ev v a),aj]) :=
 mM L.V (CB L) G hs (L.red (iI a) (k9 G.lt) (D7 hs) (Ao hl)).1
theorem Au{v:List NQ}{a:bw}{k:Nat}(L:Lo v)(hl:a.length≤5)(hr:cg a.length a)(lt:nN v.length a)(hs:l3 k a)(hk:gI k a.length≤100000000000):Pure Tryz.prog 60 [bO v,ck a] (.tu [af (kH v a),aj]):=by
 have R:=L.red hr lt hs hk;exact tZ L.V.a (by omega) hr lt R.1 ((R.2.2.1 _ (Nat.le_refl _)).mono (by omega))
theorem pQ(n:Int)(h: -1000≤n∧n≤1000):Pure Tryz.prog 44 [.sl 1 [dI n]] (af [(n:Rat)]) :=
 qn [n] (Nat.le_of_ble_eq_true rfl) (fun i=>match i with
  | 0=>h
  | i+1=>by show (-1000:Int)≤0∧(0:Int)≤1000;omega)
theorem zg:Pure Tryz.prog 44 [.sl 1 [dI 0,dI 1]] (af [(0:Rat),(1:Rat)]) :=
 qn [0,1] (by decide) (fun i=>match i with
  | 0=>by decide
  | 1=>by decide
  | i+2=>by show (-1000:Int)≤0∧(0:Int)≤1000;omega)
theorem iS:Pure Tryz.prog 12 [] (dB true):=by
 refine qJ 97 Tryz.func12 rfl rfl rfl rfl (by kernel_rfl) (fun B F0 w0=>?_);obtain ⟨GA,sA,_,cA⟩:=Aq (.inl rfl);obtain ⟨GB,sB,lB,cB⟩:=Aq (.inr rfl);have c1:=xn mF GA sA (by decide);have c2:=tQ mF GA sA (by decide);have c3:=ua (p9 mF GB sB) (by decide) (Au mF (by decide) GB.r GB.lt sB (by decide));rw[show (e8 qq Ar).cols.length=1 by decide +kernel] at c1;rw[show Ev qq Ar=[1] by decide +kernel] at c2;rw[show kH qq Dd=[-1] by decide +kernel] at c3;have sm:ay 2 [(-1:Rat)]:=iJ (by decide +kernel);have lm:aq 1 [(-1:Rat)]:=ix _ _;have c4:=yH (v:=qq) (a:=[-1]) (b:=[-1]) mF.V.a lm lm (sm.mono (by decide)) (sm.mono (by decide)) (mF.sg (lm.plus lm.minus) (sm.plus sm.minus) (by decide));rw[show kP qq (aK [-1] (aO [-1]))=0 by decide +kernel] at c4;have o1:=pQ 1 (by decide);have o2:=pQ 2 (by decide);have om:=pQ (-1) (by decide);have o01:=zg;have cI:=um [1] [1] (by decide);have e1:((1:Int):Rat)=1:=rfl;have e2:((2:Int):Rat)=2:=rfl;have em:((-1:Int):Rat)= -1:=rfl;rw[e1] at o1;rw[e2] at o2;rw[em] at om;refine qX 1 rfl ?_;refine qI (AW.region ?_);refine ab.gm tok rfl rfl rfl rfl rfl ?_;refine ab.call tok rfl rfl rfl rfl o2 ?_;refine ab.gm tok rfl rfl rfl rfl rfl ?_;refine qU 3 rfl ?_;refine qI ?_;refine AW.draw aM 17 (by kernel_rfl) ?_;refine qP 1 rfl ?_;refine ae.gm tok rfl rfl rfl rfl rfl rfl ?_;refine ae.call tok rfl rfl rfl rfl rfl o1 ?_;refine ae.gm tok rfl rfl rfl rfl rfl rfl ?_;refine ae.call tok rfl rfl rfl rfl rfl o01 ?_;refine ae.gm tok rfl rfl rfl rfl rfl rfl ?_;refine ae.gm tok rfl rfl rfl rfl rfl rfl ?_;refine ae.call tok rfl rfl rfl rfl rfl o01 ?_;refine ae.gm tok rfl rfl rfl rfl rfl rfl ?_;refine ae.call tok rfl rfl rfl rfl rfl o2 ?_;refine ae.gm tok rfl rfl rfl rfl rfl rfl ?_;refine ae.gm tok rfl rfl rfl rfl rfl rfl ?_;refine ae.call tok rfl rfl rfl rfl rfl c1 ?_;refine qP 4 rfl ?_;refine ae.nil ?_;refine qU 1 rfl ?_;refine qI ?_;refine AW.draw aM 17 (by kernel_rfl) ?_;refine qP 1 rfl ?_;refine ae.gm tok rfl rfl rfl rfl rfl rfl ?_;refine ae.call tok rfl rfl rfl rfl rfl o1 ?_;refine ae.gm tok rfl rfl rfl rfl rfl rfl ?_;refine ae.call tok rfl rfl rfl rfl rfl o01 ?_;refine ae.gm tok rfl rfl rfl rfl rfl rfl ?_;refine ae.gm tok rfl rfl rfl rfl rfl rfl ?_;refine ae.call tok rfl rfl rfl rfl rfl o01 ?_;refine ae.gm tok rfl rfl rfl rfl rfl rfl ?_;refine ae.call tok rfl rfl rfl rfl rfl o2 ?_;refine ae.gm tok rfl rfl rfl rfl rfl rfl ?_;refine ae.gm tok rfl rfl rfl rfl rfl rfl ?_;refine ae.call tok rfl rfl rfl rfl rfl c2 ?_;refine qP 4 rfl ?_;refine ae.nil ?_;refine qU 1 rfl ?_;refine qI ?_;refine AW.draw aM 17 (by kernel_rfl) ?_;refine qP 1 rfl ?_;refine ae.gm tok rfl rfl rfl rfl rfl rfl ?_;refine ae.call tok rfl rfl rfl rfl rfl o1 ?_;refine ae.gm tok rfl rfl rfl rfl rfl rfl ?_;refine ae.call tok rfl rfl rfl rfl rfl o01 ?_;refine ae.gm tok rfl rfl rfl rfl rfl rfl ?_;refine ae.gm tok rfl rfl rfl rfl rfl rfl ?_;refine ae.call tok rfl rfl rfl rfl rfl o01 ?_;refine ae.gm tok rfl rfl rfl rfl rfl rfl ?_;refine ae.call tok rfl rfl rfl rfl rfl o1 ?_;refine ae.gm tok rfl rfl rfl rfl rfl rfl ?_;refine ae.gm tok rfl rfl rfl rfl rfl rfl ?_;refine ae.call tok rfl rfl rfl rfl rfl c3 ?_;refine qP 4 rfl ?_;refine ae.nil ?_;refine qU 1 rfl ?_;refine qI ?_;refine AW.draw aM 9 (by kernel_rfl) ?_;refine qP 2 rfl ?_;refine ae.gm tok rfl rfl rfl rfl rfl rfl ?_;refine ae.call tok rfl rfl rfl rfl rfl om ?_;refine ae.call tok rfl rfl rfl rfl rfl c4 ?_;refine qP 4 rfl ?_;refine ae.nil ?_;refine qU 1 rfl ?_;refine qK 1 rfl ?_;refine ab.err tok rfl rfl rfl rfl rfl ?_;refine qU 2 rfl ?_;refine ab.err tok rfl rfl rfl rfl rfl ?_;refine qU 3 rfl ?_;refine ab.err tok rfl rfl rfl rfl rfl ?_;refine qU 3 rfl ?_;refine ab.err tok rfl rfl rfl rfl rfl ?_;refine qU 7 rfl ?_;refine ab.gm tok rfl rfl rfl rfl rfl ?_;refine ab.call tok rfl rfl rfl rfl cI ?_;refine qU 6 rfl ?_;exact qN rfl
end Lift
namespace Lift
open Go Go.Proofs
end Lift
namespace Lift
open Go Go.Proofs
theorem Bx{rt:List (List RD)}{a:List (List (List RD))}(n1:Nb2 rt)(n2:Nb3 a)(hv:ph rt a=true):Acc rt a (rt.map bg) (fP a):=by
 unfold ph at hv;rw[Bool.and_eq_true,Bool.and_eq_true] at hv;exact GX hv.1.1 n1 hv.1.2 n2 (of_decide_eq_true hv.2)
end Lift
namespace Lift
open Go Go.Proofs
theorem y9{rt:List (List RD)}{x:List RD}{v:List NQ}(T:GZ 2 rt)(h0:dc rt=0)(ht:TrD rt=bO v)(hv:v.length=rt.length)(X:BC 2 rt x):Pure Tryz.prog 67 [bO v,dD x] (BF (bA v.length x)):=by
 have h:=jU T X;rw[AA h0,ht,← hv] at h;exact h
end Lift
namespace Lift
open Go Go.Proofs
theorem lD(a:bw):Pure Tryz.prog 71 [ck a] (dI (ao a)):=by
 refine qJ 10 Tryz.func71 rfl rfl rfl rfl (by kernel_rfl) (fun B F0 w0=>?_);refine qX 1 rfl ?_;refine qI ?_;refine qX 2 rfl ?_;rw[List.length_map];refine qU 1 rfl ?_;refine ab.nil ?_;by_cases h0:a.length=0
 · rw[List.length_eq_zero_iff.1 h0];refine AW.aG rfl ?_;refine qX 1 rfl ?_;exact qN rfl
 rw[beq_eq_false_iff_ne.2 (show (a.length:Int)≠0 by omega)];have g0:=getM fe (l:=a) (i:=0) (by omega);refine AW.aB rfl ?_
 · skip
   refine AW.skip ?_;refine qX 1 rfl ?_;refine ab.idx tok (fe (a.getD 0 [])) rfl rfl rfl rfl (Int.le_refl _) g0 ?_;refine qU 2 rfl ?_;rw[List.length_map];refine qU 1 rfl ?_;exact qN rfl
end Lift
namespace Lift
open Go Go.Proofs
abbrev IvD(l:List Int):D:= .sl 1 (l.map (fun n=>dI n))
theorem uS{l:List Int}{i:Nat}(h:i<l.length):(l.map (fun n=>dI n))[i]?=some (dI (l.getD i 0)):=by simp[h]
def bc(l:List Int)(n:Nat):Bool:=l.all fun x=>decide (0≤x)&&decide (x<n)
theorem mV(l:List Int)(n:Nat)(hl:l.length≤140737488355328):Pure Tryz.prog 78 [IvD l,dI n] (dB (bc l n)):=by
 refine qJ 21 Tryz.func78 rfl rfl rfl rfl (by kernel_rfl) (fun B F0 w0=>?_);obtain ⟨E,hE⟩: ∃E,(l.drop 0).all (fun x=>decide (0≤x)&&decide (x<n))=E:=⟨_,rfl⟩;rw[show bc l n=E from hE];refine qX 1 rfl ?_;refine qI ?_;refine qX 2 rfl ?_;rw[List.length_map];refine qU 1 rfl ?_;refine ab.nil ?_;refine AW.block ?_;refine AW.aE [1,7,8,9] (fun i:Nat=>[(1,.d (dI n)),(7,.d (IvD l)),(8,.d (dI l.length)),(9,.d (dI i))]) (fun i=>i≤l.length∧(l.drop i).all (fun x=>decide (0≤x)&&decide (x<n))=E) (fun i=>l.length-i) 0 rfl ⟨Nat.zero_le _,hE⟩ (fun i ⟨hi,hiE⟩=>?_)
 · show AW _ _ _ _ _ _ _ [(1,.d (dI n)),(7,.d (IvD l)),(8,.d (dI l.length)),(9,.d (dI i))];refine qX 1 rfl ?_;refine qI ?_;refine AW.cond rfl (fun h=>?_) (fun h=>?_)
   · have hii:i<l.length:=by have:=of_decide_eq_true h;omega
     have g1:=uS (l:=l) (i:=i) hii;have hat:=(wA (fun x=>decide (0≤x)&&decide (x<(n:Int))) (d:=0) hii).symm.trans hiE;generalize l.getD i 0=x at g1 hat;refine AW.skip (AW.seq (AW.block (AW.seq (AW.region ?_))));refine ab.idx tok (dI x) rfl rfl rfl rfl (Int.natCast_nonneg i) g1 ?_;refine qU 2 rfl ?_;refine qK 2 rfl ?_;by_cases h0:x<0
     · rw[decide_eq_true h0];refine qU 5 rfl ?_;refine ab.nil ?_;rw[decide_eq_false (show ¬(0:Int)≤x by omega),Bool.false_and,Bool.false_and] at hat;rw[← hat];refine AW.aG rfl ?_;refine qX 1 rfl ?_;exact qN rfl
     rw[decide_eq_false h0];rw[decide_eq_true (show (0:Int)≤x by omega),Bool.true_and] at hat;refine qU 5 rfl ?_;refine ab.nil ?_;refine AW.cond rfl (fun h=>?_) (fun h=>?_)
     · have h1: ¬x<(n:Int):=by have:=of_decide_eq_true h;omega
       rw[decide_eq_false h1,Bool.false_and] at hat;rw[← hat];refine qX 1 rfl ?_;exact qN rfl
     · have h1:x<(n:Int):=by have:=of_decide_eq_false h;omega
       rw[decide_eq_true h1,Bool.true_and] at hat;refine AW.skip ?_;refine qT 1 rfl ?_;rw[aD (x:=(i:Int)+1) (by omega) (by omega)];refine qU 1 rfl ?_;refine ab.nil ?_;exact⟨i+1,rfl,⟨hii,hat⟩,by omega⟩
   have hii: ¬i<l.length:=by have:=of_decide_eq_false h;omega
   rw[rF _ hii] at hiE;rw[← hiE];refine AW.exit ?_;refine qX 1 rfl ?_;exact qN rfl
def DX(l:List Int)(i:Nat):Bool:= !(decide (0<i)&&decide (l.getD i 0≤l.getD (i-1) 0))
def k8(g:Nat→Bool):Nat→Nat→Bool
 | 0,_=>true
 | m+1,i=>g i&&k8 g m (i+1)
theorem oX{g:Nat→Bool}{n i:Nat}(h:i<n):k8 g (n-i) i=(g i&&k8 g (n-(i+1)) (i+1)):=by
 rw[show n-i=(n-(i+1))+1 by omega,k8]
theorem oW{g:Nat→Bool}{n i:Nat}(h: ¬i<n):k8 g (n-i) i=true:=by rw[show n-i=0 by omega,k8]
theorem oV{g:Nat→Bool}: ∀{m i:Nat},k8 g m i=true→ ∀k,i≤k→k<i+m→g k=true
 | 0,i,_,k,h1,h2=>by omega
 | m+1,i,h,k,h1,h2=>by
   rw[k8,Bool.and_eq_true] at h;by_cases e:k=i
   · rw[e];exact h.1
   · exact oV h.2 k (by omega) (by omega)
def iX(l:List Int):Bool:=k8 (DX l) (l.length-0) 0
theorem jP(l:List Int)(hl:l.length≤140737488355328):Pure Tryz.prog 79 [IvD l] (dB (iX l)):=by
 refine qJ 24 Tryz.func79 rfl rfl rfl rfl (by kernel_rfl) (fun B F0 w0=>?_);obtain ⟨E,hE⟩: ∃E,k8 (DX l) (l.length-0) 0=E:=⟨_,rfl⟩;rw[show iX l=E from hE];refine qX 1 rfl ?_;refine qI ?_;refine qX 2 rfl ?_;rw[List.length_map];refine qU 1 rfl ?_;refine ab.nil ?_;refine AW.block ?_;refine AW.aE [0,4,5,6] (fun i:Nat=>[(0,.d (IvD l)),(4,.d (IvD l)),(5,.d (dI l.length)),(6,.d (dI i))]) (fun i=>i≤l.length∧k8 (DX l) (l.length-i) i=E) (fun i=>l.length-i) 0 rfl ⟨Nat.zero_le _,hE⟩ (fun i ⟨hi,hiE⟩=>?_)
 · show AW _ _ _ _ _ _ _ [(0,.d (IvD l)),(4,.d (IvD l)),(5,.d (dI l.length)),(6,.d (dI i))];refine qX 1 rfl ?_;refine qI ?_;refine AW.cond rfl (fun h=>?_) (fun h=>?_)
   · have hii:i<l.length:=by have:=of_decide_eq_true h;omega
     have hat:=(oX (g:=DX l) hii).symm.trans hiE;have g1:=uS (l:=l) (i:=i) hii;have g2:=uS (l:=l) (i:=i-1) (by omega);have hu:DX l i= !(decide (0<i)&&decide (l.getD i 0≤l.getD (i-1) 0)):=rfl;generalize l.getD i 0=x at g1 hu;generalize l.getD (i-1) 0=y at g2 hu;refine AW.skip (AW.seq (AW.block ?_));refine qX 2 rfl ?_;refine qI ?_;refine AW.draw aM 14 (by kernel_rfl) ?_;refine qP 2 rfl ?_;by_cases h0:i=0
     · rw[decide_eq_false (show ¬(0:Int)<(i:Int) by omega)];rw[decide_eq_false (show ¬0<i by omega)] at hu;rw[show DX l i=true from hu,Bool.true_and] at hat;refine qP 12 rfl ?_;refine ae.nil ?_;refine ab.nil ?_;refine AW.aB rfl ?_;refine AW.skip ?_;refine qT 1 rfl ?_;rw[aD (x:=(i:Int)+1) (by omega) (by omega)];refine qU 1 rfl ?_;refine ab.nil ?_;exact⟨i+1,rfl,⟨hii,hat⟩,by omega⟩
     rw[decide_eq_true (show (0:Int)<(i:Int) by omega)];rw[decide_eq_true (show 0<i by omega),Bool.true_and] at hu;refine qP 3 rfl ?_;refine ae.idx tok (dI x) rfl rfl rfl rfl rfl (Int.natCast_nonneg i) g1 ?_;refine qP 4 rfl ?_;rw[aD (x:=(i:Int) -1) (by omega) (by omega)];refine ae.idx tok (dI y) rfl rfl rfl rfl rfl (show (0:Int)≤(i:Int) -1 by omega) (by rw[show ((i:Int) -1).toNat=i-1 by omega];exact g2) ?_;refine qP 3 rfl ?_;refine ae.nil ?_;refine ab.nil ?_;refine AW.cond rfl (fun h=>?_) (fun h=>?_)
     · rw[show decide (x≤y)=true from h] at hu;rw[hu] at hat;rw[← hat];refine qX 1 rfl ?_;exact qN rfl
     · rw[show decide (x≤y)=false from h] at hu;rw[hu] at hat;refine AW.skip ?_;refine qT 1 rfl ?_;rw[aD (x:=(i:Int)+1) (by omega) (by omega)];refine qU 1 rfl ?_;refine ab.nil ?_;exact⟨i+1,rfl,⟨hii,hat⟩,by omega⟩
   have hii: ¬i<l.length:=by have:=of_decide_eq_false h;omega
   rw[oW hii] at hiE;rw[← hiE];refine AW.exit ?_;refine qX 1 rfl ?_;exact qN rfl
abbrev CertD(rows cols:List Int)(ker:List (List (List RD))):D:= .ag [IvD rows,IvD cols,MxR ker]
def tJ(l:Nat)(q:bw)(r:List (List RD)):Nat:=if r.length≠ao q then 10 else bE l r
def qt(l:Nat)(q:bw)(rows cols:List Int)(ker:List (List (List RD))):Nat :=
 if rows.length≠cols.length then 10 else if (!bc rows q.length|| !bc cols (ao q))=true then 9 else if (!iX rows|| !iX cols)=true then 12 else
 if fE (fun i=>tJ l q (ker.getD i [])) (ker.length-0) 0≠0 then fE (fun i=>tJ l q (ker.getD i [])) (ker.length-0) 0 else if 32<ker.length then 4 else 0
theorem pz{v:List NQ}{q:bw}{rows cols:List Int}{ker:List (List (List RD))}(hr:rows.length≤140737488355328)(hc:cols.length≤140737488355328)(hk:ker.length≤1000000)
  (cl: ∀i,Pure Tryz.prog 70 [bO v,iY (ker.getD i [])] (dI (bE v.length (ker.getD i [])))):
  Pure Tryz.prog 39 [bO v,ck q,CertD rows cols ker] (dI (qt v.length q rows cols ker)):=by
 refine qJ 64 Tryz.func39 rfl rfl rfl rfl (by kernel_rfl) (fun B F0 w0=>?_);have w1:=mV rows q.length hr;have w2:=mV cols (ao q) hc;have a1:=jP rows hr;have a2:=jP cols hc;unfold qt;generalize bc rows q.length=b1 at w1 ⊢;generalize bc cols (ao q)=b2 at w2 ⊢;generalize iX rows=b3 at a1 ⊢;generalize iX cols=b4 at a2 ⊢;obtain ⟨E,hE⟩: ∃E,fE (fun i=>tJ v.length q (ker.getD i [])) (ker.length-0) 0=E:=⟨_,rfl⟩;rw[hE];refine qX 3 rfl ?_;refine qI ?_;refine qX 3 rfl ?_;rw[List.length_map];refine qU 3 rfl ?_;rw[List.length_map];refine qU 1 rfl ?_;refine ab.nil ?_;refine AW.cond rfl (fun h=>?_) (fun h=>?_)
 · rw[if_pos (show rows.length≠cols.length by have:=bne_iff_ne.1 h;omega)];refine qX 1 rfl ?_;exact qN rfl
 · rw[if_neg (show ¬rows.length≠cols.length by have:=bne_eq_false_iff_eq.1 h;omega)];refine AW.skip ?_;refine AW.cut [1,3,5] (fun _:Unit=>[(1,.d (ck q)),(3,.bx [.sl 1 (v.map af)]),(5,.bx [IvD rows,IvD cols,MxR ker])]) (fun _=>(!b1|| !b2)=false) ?_ (fun _ hb=>?_)
   · refine AW.seq ?_;refine AW.draw aM 14 (by kernel_rfl) ?_;refine qP 4 rfl ?_;rw[List.length_map];refine ae.call tok rfl rfl rfl rfl rfl w1 ?_;cases b1 with
     | false =>
       refine qP 9 rfl ?_;refine ae.nil ?_;refine ab.nil ?_;refine AW.aG rfl ?_;refine qX 1 rfl ?_;refine ab.nil ?_;rw[if_pos (by rfl)];exact AW.ret rfl
     | true =>
     refine qP 5 rfl ?_;refine ae.call tok rfl rfl rfl rfl rfl (lD q) ?_;refine ae.call tok rfl rfl rfl rfl rfl w2 ?_;cases b2 with
     | false =>
       refine qP 2 rfl ?_;refine ae.nil ?_;refine ab.nil ?_;refine AW.aG rfl ?_;refine qX 1 rfl ?_;refine ab.nil ?_;rw[if_pos (by rfl)];exact AW.ret rfl
     | true =>
     refine qP 2 rfl ?_;refine ae.nil ?_;refine ab.nil ?_;refine AW.aB rfl ?_;refine AW.skip ?_;exact⟨(),rfl,rfl⟩
   rw[hb,if_neg (by decide)]
   · show AW _ _ _ _ _ _ _ [(1,.d (ck q)),(3,.bx [.sl 1 (v.map af)]),(5,.bx [IvD rows,IvD cols,MxR ker])];refine AW.cut [1,3,5] (fun _:Unit=>[(1,.d (ck q)),(3,.bx [.sl 1 (v.map af)]),(5,.bx [IvD rows,IvD cols,MxR ker])]) (fun _=>(!b3|| !b4)=false) ?_ (fun _ hb=>?_)
     · refine qX 2 rfl ?_;refine ab.call tok rfl rfl rfl rfl a1 ?_;cases b3 with
       | false =>
         refine qU 7 rfl ?_;refine ab.nil ?_;refine AW.aG rfl ?_;refine qX 1 rfl ?_;refine ab.nil ?_;rw[if_pos (by rfl)];exact AW.ret rfl
       | true =>
       refine qU 4 rfl ?_;refine ab.call tok rfl rfl rfl rfl a2 ?_;cases b4 with
       | false =>
         refine qU 2 rfl ?_;refine ab.nil ?_;refine AW.aG rfl ?_;refine qX 1 rfl ?_;refine ab.nil ?_;rw[if_pos (by rfl)];exact AW.ret rfl
       | true =>
       refine qU 2 rfl ?_;refine ab.nil ?_;refine AW.aB rfl ?_;refine AW.skip ?_;exact⟨(),rfl,rfl⟩
     rw[hb,if_neg (by decide)]
     · show AW _ _ _ _ _ _ _ [(1,.d (ck q)),(3,.bx [.sl 1 (v.map af)]),(5,.bx [IvD rows,IvD cols,MxR ker])];refine AW.seq ?_;refine qX 3 rfl ?_;rw[List.length_map];refine qU 1 rfl ?_;refine ab.nil ?_;refine AW.block ?_;refine AW.aE [1,3,5,42,43,44] (fun i:Nat=>[(1,.d (ck q)),(3,.bx [.sl 1 (v.map af)]),(5,.bx [IvD rows,IvD cols,MxR ker]),(42,.d (MxR ker)),(43,.d (dI ker.length)),(44,.d (dI i))]) (fun i=>i≤ker.length∧fE (fun i=>tJ v.length q (ker.getD i [])) (ker.length-i) i=E) (fun i=>ker.length-i) 0 rfl ⟨Nat.zero_le _,hE⟩ (fun i ⟨hi,hiE⟩=>?_)
       · show AW _ _ _ _ _ _ _ [(1,.d (ck q)),(3,.bx [.sl 1 (v.map af)]),(5,.bx [IvD rows,IvD cols,MxR ker]),(42,.d (MxR ker)),(43,.d (dI ker.length)),(44,.d (dI i))];refine qX 1 rfl ?_;refine qI ?_;refine AW.cond rfl (fun h=>?_) (fun h=>?_)
         · have hii:i<ker.length:=by have:=of_decide_eq_true h;omega
           have g1:=getM iY (l:=ker) (i:=i) hii;have cl:=cl i;have hmiss:=fun h0:tJ v.length q (ker.getD i [])=0=>(eZ (f:=fun i=>tJ v.length q (ker.getD i [])) hii h0).symm.trans hiE;have hhit:=fun h0:tJ v.length q (ker.getD i [])≠0=>(gU (f:=fun i=>tJ v.length q (ker.getD i [])) hii h0).symm.trans hiE;have hkv:tJ v.length q (ker.getD i [])=if (ker.getD i []).length≠ao q then 10 else bE v.length (ker.getD i []):=rfl
           change (ker.map iY)[i]?=some (iY (ker.getD i [])) at g1;generalize tJ v.length q (ker.getD i [])=e at hmiss hhit hkv;generalize ker.getD i []=r at g1 cl hkv;refine AW.skip (AW.seq (AW.block (AW.seq (AW.region ?_))));refine ab.idx tok (iY r) rfl rfl rfl rfl (Int.natCast_nonneg i) g1 ?_;refine qU 2 rfl ?_;refine qI ?_;refine qX 2 rfl ?_;rw[List.length_map];refine qU 1 rfl ?_;refine ab.call tok rfl rfl rfl rfl (lD q) ?_;refine qU 1 rfl ?_;refine ab.nil ?_;refine AW.cond rfl (fun h=>?_) (fun h=>?_)
           · rw[if_pos (show r.length≠ao q by have:=bne_iff_ne.1 h;omega)] at hkv;have:=hhit (by rw[hkv];decide);rw[if_pos (show E≠0 by rw[← this,hkv];decide),← this,hkv];refine qX 1 rfl ?_;exact qN rfl
           · rw[if_neg (show ¬r.length≠ao q by have:=bne_eq_false_iff_eq.1 h;omega)] at hkv;rw[← hkv] at cl;refine AW.skip ?_;refine qX 2 rfl ?_;refine ab.call tok rfl rfl rfl rfl cl ?_;refine qU 1 rfl ?_;refine qK 2 rfl ?_;refine ab.nil ?_;refine AW.cond rfl (fun h=>?_) (fun h=>?_)
             · have he:e≠0:=by have:=bne_iff_ne.1 h;omega
               have:=hhit he;rw[if_pos (show E≠0 by rw[← this];exact he),← this];refine qX 2 rfl ?_;exact qN rfl
             · have he:e=0:=by have:=bne_eq_false_iff_eq.1 h;omega
               refine AW.skip ?_;refine qT 1 rfl ?_;rw[aD (x:=(i:Int)+1) (by omega) (by omega)];refine qU 1 rfl ?_;refine ab.nil ?_;exact⟨i+1,rfl,⟨hii,hmiss he⟩,by omega⟩
         have hii: ¬i<ker.length:=by have:=of_decide_eq_false h;omega
         rw[gV hii] at hiE;subst hiE;rw[if_neg (by decide)];refine AW.exit (AW.seq ?_);refine qX 3 rfl ?_;rw[List.length_map];refine qU 1 rfl ?_;refine ab.nil ?_;refine AW.cond rfl (fun h=>?_) (fun h=>?_)
         · rw[if_pos (show 32<ker.length by have:=of_decide_eq_true h;omega)];refine qX 1 rfl ?_;exact qN rfl
         · rw[if_neg (show ¬32<ker.length by have:=of_decide_eq_false h;omega)];refine AW.skip ?_;refine qX 1 rfl ?_;exact qN rfl
end Lift
namespace Lift
open Go Go.Proofs
def Cv(n:Nat)(x:Int):Bool:=decide (x<0)||decide ((n:Int)≤x)
theorem y6(l:List Int)(n:Nat):(l.any (Cv n))= !bc l n:=by
 unfold bc;rw[List.not_all_eq_any_not]
 congr 1
 funext x;unfold Cv;by_cases h0:x<0
 · rw[decide_eq_true h0,decide_eq_false (show ¬(0:Int)≤x by omega)];rfl
 · rw[decide_eq_false h0,decide_eq_true (show (0:Int)≤x by omega)];by_cases h1:(n:Int)≤x
   · rw[decide_eq_true h1,decide_eq_false (show ¬x<(n:Int) by omega)];rfl
   · rw[decide_eq_false h1,decide_eq_true (show x<(n:Int) by omega)];rfl
theorem qH(n:Nat)(x:Int):Pure Tryz.prog 119 [dI x,.pr [dI n]] (dB (Cv n x)):=by
 refine qJ 11 Tryz.func119 rfl rfl rfl rfl (by kernel_rfl) (fun B F0 w0=>?_);unfold Cv;refine qX 1 rfl ?_;refine qK 2 rfl ?_;by_cases h0:x<0
 · rw[decide_eq_true h0];refine qU 6 rfl ?_;exact qN rfl
 rw[decide_eq_false h0];refine qU 6 rfl ?_;exact qN rfl
def Bd(g:Nat→Bool):Nat→Nat→Int
 | 0,_=> -1
 | m+1,i=>if g i=true then (i:Int) else Bd g m (i+1)
theorem ET{g:Nat→Bool}{n i:Nat}(h:i<n)(h0:g i=true):Bd g (n-i) i=i:=by
 rw[show n-i=(n-(i+1))+1 by omega,Bd,if_pos h0]
theorem CX{g:Nat→Bool}{n i:Nat}(h:i<n)(h0:g i=false):Bd g (n-i) i=Bd g (n-(i+1)) (i+1):=by
 rw[show n-i=(n-(i+1))+1 by omega,Bd,if_neg (by rw[h0];simp)]
theorem EU{g:Nat→Bool}{n i:Nat}(h: ¬i<n):Bd g (n-i) i= -1:=by rw[show n-i=0 by omega,Bd]
theorem Aj(l:List Int)(p:Int→Bool): ∀(m i:Nat),i+m=l.length→decide (0≤Bd (fun i=>p (l.getD i 0)) m i)=(l.drop i).any p
 | 0,i,h=>by
   rw[List.drop_eq_nil_of_le (by omega)];rfl
 | m+1,i,h=>by
   have hi:i<l.length:=by omega
   rw[List.drop_eq_getElem_cons hi,List.any_cons,Bd];have e:l.getD i 0=l[i]:=by rw[List.getD_eq_getElem?_getD,List.getElem?_eq_getElem hi];rfl
   rw[e];cases p l[i]
   · rw[if_neg (by simp),Bool.false_or];exact Aj l p m (i+1) (by omega)
   · rw[if_pos rfl,decide_eq_true (Int.natCast_nonneg i)];rfl
theorem lz(l:List Int)(hl:l.length≤140737488355328){k:Nat}{xs ys:List D}(p:Int→Bool)(hp: ∀x,Pure Tryz.prog k (xs++[dI x]++ys) (dB (p x))):
  Pure Tryz.prog 150 [IvD l,.fn k xs ys] (dI (Bd (fun i=>p (l.getD i 0)) l.length 0)):=by
 refine qJ 19 Tryz.func150 rfl rfl rfl rfl (by kernel_rfl) (fun B F0 w0=>?_);generalize hE:Bd (fun i=>p (l.getD i 0)) l.length 0=E;refine qX 1 rfl ?_;refine qI ?_;refine qX 2 rfl ?_;rw[List.length_map];refine qU 1 rfl ?_;refine ab.nil ?_;refine AW.block ?_;refine AW.aE [0,1,7,8] (fun i:Nat=>[(0,.d (IvD l)),(1,.d (.fn k xs ys)),(7,.d (dI l.length)),(8,.d (dI i))]) (fun i=>i≤l.length∧Bd (fun i=>p (l.getD i 0)) (l.length-i) i=E) (fun i=>l.length-i) 0 rfl ⟨Nat.zero_le _,hE⟩ (fun i hi=>?_);obtain ⟨hi,hE⟩:=hi
 · show AW _ _ _ _ _ _ _ [(0,.d (IvD l)),(1,.d (.fn k xs ys)),(7,.d (dI l.length)),(8,.d (dI i))];refine qX 1 rfl ?_;refine qI ?_;refine AW.cond rfl (fun h=>?_) (fun h=>?_)
   · have hin:i<l.length:=by have:=of_decide_eq_true h;omega
     have hpi:=hp (l.getD i 0);have hhit:=ET (g:=fun i=>p (l.getD i 0)) hin;have hmiss:=CX (g:=fun i=>p (l.getD i 0)) hin;have g1:=uS (l:=l) (i:=i) hin;refine AW.skip (AW.seq (AW.block ?_));refine qX 2 rfl ?_;refine qK 3 rfl ?_;refine ab.idx tok (dI (l.getD i 0)) rfl rfl rfl rfl (Int.natCast_nonneg i) g1 ?_;refine qU 1 rfl ?_;refine ab.yh tok rfl rfl rfl rfl hpi ?_;refine ab.nil ?_;refine AW.cond rfl (fun h=>?_) (fun h=>?_)
     · rw[← hE,hhit h];refine qX 2 rfl ?_;exact qN rfl
     · skip
       refine AW.skip ?_;refine qT 1 rfl ?_;rw[aD (x:=(i:Int)+1) (by omega) (by omega)];refine qU 1 rfl ?_;refine ab.nil ?_;exact⟨i+1,rfl,⟨hin,by rw[← hmiss h];exact hE⟩,by omega⟩
   have hin: ¬i<l.length:=by have:=of_decide_eq_false h;omega
   rw[← hE,EU hin];refine AW.exit ?_;refine qX 1 rfl ?_;exact qN rfl
theorem jJ(l:List Int)(hl:l.length≤140737488355328){k:Nat}{xs ys:List D}(p:Int→Bool)(hp: ∀x,Pure Tryz.prog k (xs++[dI x]++ys) (dB (p x))):
  Pure Tryz.prog 118 [IvD l,.fn k xs ys] (dB (l.any p)):=by
 refine qJ 9 Tryz.func118 rfl rfl rfl rfl (by kernel_rfl) (fun B F0 w0=>?_);have e:=Aj l p l.length 0 (Nat.zero_add _);rw[List.drop_zero] at e;rw[← e];refine qX 1 rfl ?_;refine qK 2 rfl ?_;refine ab.call tok rfl rfl rfl rfl (lz l hl p hp) ?_;refine qU 2 rfl ?_;exact qN rfl
set_option maxHeartbeats 1600000 in
theorem kX{v:List NQ}{q:bw}{rows cols:List Int}{ker:List (List (List RD))}(hr:rows.length≤140737488355328)(hc:cols.length≤140737488355328)(hk:ker.length≤1000000)(hkr: ∀i,(ker.getD i []).length≤1000000)(hql:q.length≤1000000)(hqc:ao q≤1000000)
  (cn: ∀i k,Pure Tryz.prog 67 [bO v,dD ((ker.getD i []).getD k [])] (BF (bA v.length ((ker.getD i []).getD k [])))):
  Pure Tryz.prog 80 [bO v,ck q,CertD rows cols ker] (BF (qt v.length q rows cols ker)):=by
 refine qJ 108 Tryz.func80 rfl rfl rfl rfl (by kernel_rfl) (fun B F0 w0=>?_)
 have f1: ∀n,∀l:List Int,l.length≤140737488355328→Pure Tryz.prog 118 [IvD l,.fn 119 [] [.pr [dI (n:Nat)]]] (dB (!bc l n)):=fun n l hl=>by
  have h:=jJ l hl (k:=119) (xs:=[]) (ys:=[.pr [dI n]]) (Cv n) (fun x=>qH n x);rw[y6] at h;exact h
 unfold qt;obtain ⟨E,hE⟩: ∃E,fE (fun i=>tJ v.length q (ker.getD i [])) (ker.length-0) 0=E:=⟨_,rfl⟩;rw[hE]
 let L:Nat→List Int:=fun i=>if i=0 then rows else cols
 let M:Nat→Nat:=fun i=>if i=1 then ao q else q.length
 have hL: ∀i,(L i).length≤140737488355328:=fun i=>by
  show (if i=0 then rows else cols).length≤_;split<;>assumption
 have g2: ∀i,i<2→([IvD rows,IvD cols])[i]?=some (IvD (L i)):=fun i hi=>match i,hi with
  | 0,_=>rfl
  | 1,_=>rfl
 refine qX 3 rfl ?_;refine qI ?_;refine qX 3 rfl ?_;rw[List.length_map];refine qU 3 rfl ?_;rw[List.length_map];refine qU 1 rfl ?_;refine ab.nil ?_;refine AW.cond rfl (fun h=>?_) (fun h=>?_)
 · rw[if_pos (show rows.length≠cols.length by have:=bne_iff_ne.1 h;omega)];refine qX 2 rfl ?_;exact qN rfl
 · rw[if_neg (show ¬rows.length≠cols.length by have:=bne_eq_false_iff_eq.1 h;omega)];refine AW.skip (AW.seq ?_);refine qX 4 rfl ?_;refine ab.gm tok rfl rfl rfl rfl rfl ?_;refine qU 2 rfl ?_;refine ab.nil ?_;refine AW.block ?_;refine AW.aE [1,3,5,30,31,32] (fun i:Nat=>[(1,.d (ck q)),(3,.bx [.sl 1 (v.map af)]),(5,.bx [IvD rows,IvD cols,MxR ker]),(30,.d (.sl 1 [IvD rows,IvD cols])),(31,.d (dI 2)),(32,.d (dI i))]) (fun i=>i≤2∧(0<i→bc rows q.length=true)∧(1<i→bc cols (ao q)=true)) (fun i=>2-i) 0 rfl ⟨Nat.zero_le _,fun h=>absurd h (by decide),fun h=>absurd h (by decide)⟩ (fun i hI=>?_);obtain ⟨hi,hi1,hi2⟩:=hI
   · show AW _ _ _ _ _ _ _ [(1,.d (ck q)),(3,.bx [.sl 1 (v.map af)]),(5,.bx [IvD rows,IvD cols,MxR ker]),(30,.d (.sl 1 [IvD rows,IvD cols])),(31,.d (dI 2)),(32,.d (dI i))];refine qX 1 rfl ?_;refine qI ?_;refine AW.cond rfl (fun h=>?_) (fun h=>?_)
     · have hii:i<2:=by have:=of_decide_eq_true h;omega
       have g2:=g2 i hii;have f2:=f1 (M i) (L i) (hL i)
       have hM:((i:Int)==1)=decide (i=1):=by
        by_cases e:i=1
        · rw[e];rfl
        · rw[decide_eq_false e];exact beq_eq_false_iff_ne.2 (by omega)
       have bad:bc (L i) (M i)=false→(!bc rows q.length|| !bc cols (ao q))=true:=fun e=>by
        match i,hii,e with
        | 0,_,e =>
          have e:bc rows q.length=false:=e;rw[e];rfl
        | 1,_,e =>
          have e:bc cols (ao q)=false:=e;rw[e,Bool.not_false,Bool.or_true]
       have good:bc (L i) (M i)=true→(0<i+1→bc rows q.length=true)∧(1<i+1→bc cols (ao q)=true):=fun e=>by
        match i,hii,e with
        | 0,_,e=>exact⟨fun _=>e,fun h=>absurd h (by decide)⟩
        | 1,_,e=>exact⟨fun _=>hi1 (by decide),fun _=>e⟩
       have hM1:i=1→M i=ao q:=fun e=>if_pos e;have hM0:i≠1→M i=q.length:=fun e=>if_neg e;generalize L i=l at g2 f2 bad good;generalize M i=m at f2 bad good hM1 hM0;refine AW.skip (AW.seq (AW.block ?_));refine qX 1 rfl ?_;refine ab.idx tok (IvD l) rfl rfl rfl rfl (Int.natCast_nonneg i) g2 ?_;refine qU 3 rfl ?_;refine qK 2 rfl ?_;rw[List.length_map];refine qU 2 rfl ?_;refine ab.nil ?_;refine AW.cut [1,3,5,8,9,30,31,32] (fun _:Unit=>[(1,.d (ck q)),(3,.bx [.sl 1 (v.map af)]),(5,.bx [IvD rows,IvD cols,MxR ker]),(8,.d (IvD l)),(9,.bx [dI m]),(30,.d (.sl 1 [IvD rows,IvD cols])),(31,.d (dI 2)),(32,.d (dI i))]) (fun _=>True) ?_ (fun _ _=>?_)
       · refine qX 2 rfl ?_;refine ab.nil ?_;refine AW.cond rfl (fun h=>?_) (fun h=>?_)
         · have e1:i=1:=of_decide_eq_true (hM▸h);refine qT 1 rfl ?_;refine ab.call tok rfl rfl rfl rfl (bF q) ?_;refine qU 1 rfl ?_;refine ab.nil ?_;exact⟨(),by rw[hM1 e1];rfl,trivial⟩
         · have e1:i≠1:=of_decide_eq_false (hM▸h);refine AW.skip ?_;exact⟨(),by rw[hM0 e1];rfl,trivial⟩
       · show AW _ _ _ _ _ _ _ [(1,.d (ck q)),(3,.bx [.sl 1 (v.map af)]),(5,.bx [IvD rows,IvD cols,MxR ker]),(8,.d (IvD l)),(9,.bx [dI m]),(30,.d (.sl 1 [IvD rows,IvD cols])),(31,.d (dI 2)),(32,.d (dI i))];refine qX 1 rfl ?_;refine ab.HK 9 rfl ?_;refine ab.CO tok rfl rfl rfl rfl ?_;refine ab.call tok rfl rfl rfl rfl f2 ?_;refine ab.nil ?_;refine AW.cond rfl (fun h=>?_) (fun h=>?_)
         · rw[if_pos (bad (by cases e:bc l m;rfl;rw[e] at h;cases h))];refine qX 2 rfl ?_;exact qN rfl
         · have hg:=good (by cases e:bc l m;rw[e] at h;cases h;rfl);refine AW.skip ?_;refine qT 1 rfl ?_;rw[aD (x:=(i:Int)+1) (by omega) (by omega)];refine qU 1 rfl ?_;refine ab.nil ?_;exact⟨i+1,rfl,⟨hii,hg⟩,by omega⟩
     have hii:i=2:=by have:=of_decide_eq_false h;omega
     subst hii;rw[if_neg (by rw[hi1 (by decide),hi2 (by decide)];simp)];refine AW.exit (AW.seq ?_);refine qX 4 rfl ?_;refine ab.gm tok rfl rfl rfl rfl rfl ?_;refine qU 2 rfl ?_;refine ab.nil ?_;refine AW.block ?_;refine AW.aE [1,3,5,52,53,54] (fun i:Nat=>[(1,.d (ck q)),(3,.bx [.sl 1 (v.map af)]),(5,.bx [IvD rows,IvD cols,MxR ker]),(52,.d (.sl 1 [IvD rows,IvD cols])),(53,.d (dI 2)),(54,.d (dI i))]) (fun i=>i≤2∧(0<i→iX rows=true)∧(1<i→iX cols=true)) (fun i=>2-i) 0 rfl ⟨Nat.zero_le _,fun h=>absurd h (by decide),fun h=>absurd h (by decide)⟩ (fun i hI=>?_);obtain ⟨hi,hi1,hi2⟩:=hI
     · show AW _ _ _ _ _ _ _ [(1,.d (ck q)),(3,.bx [.sl 1 (v.map af)]),(5,.bx [IvD rows,IvD cols,MxR ker]),(52,.d (.sl 1 [IvD rows,IvD cols])),(53,.d (dI 2)),(54,.d (dI i))];refine qX 1 rfl ?_;refine qI ?_;refine AW.cond rfl (fun h=>?_) (fun h=>?_)
       · have hii:i<2:=by have:=of_decide_eq_true h;omega
         have g2:=g2 i hii;have hLi:=hL i
         have bad:iX (L i)=false→(!iX rows|| !iX cols)=true:=fun e=>by
          match i,hii,e with
          | 0,_,e =>
            have e:iX rows=false:=e;rw[e];rfl
          | 1,_,e =>
            have e:iX cols=false:=e;rw[e,Bool.not_false,Bool.or_true]
         have good:iX (L i)=true→(0<i+1→iX rows=true)∧(1<i+1→iX cols=true):=fun e=>by
          match i,hii,e with
          | 0,_,e=>exact⟨fun _=>e,fun h=>absurd h (by decide)⟩
          | 1,_,e=>exact⟨fun _=>hi1 (by decide),fun _=>e⟩
         generalize L i=l at g2 bad good hLi;refine AW.skip (AW.seq (AW.block (AW.seq (AW.region ?_))));refine ab.idx tok (IvD l) rfl rfl rfl rfl (Int.natCast_nonneg i) g2 ?_;refine qU 2 rfl ?_;refine qK 1 rfl ?_;refine ab.nil ?_;refine AW.block ?_
         refine AW.aE [1,3,5,11,12,52,53,54] (fun k:Nat=>[(1,.d (ck q)),(3,.bx [.sl 1 (v.map af)]),(5,.bx [IvD rows,IvD cols,MxR ker]),(11,.d (IvD l)),(12,.d (dI k)),(52,.d (.sl 1 [IvD rows,IvD cols])),(53,.d (dI 2)),(54,.d (dI i))]) (fun k=>1≤k∧(k≤l.length∨k=1)∧k8 (DX l) (l.length-k) k=iX l) (fun k=>l.length-k) 1 rfl ⟨Nat.le_refl 1,.inr rfl,by
          unfold iX;by_cases h0:0<l.length
          · rw[oX h0];rfl
          · rw[show l.length=0 by omega];rfl⟩ (fun k hK=>?_)
         obtain ⟨hk1,hk2,hkA⟩:=hK
         · show AW _ _ _ _ _ _ _ [(1,.d (ck q)),(3,.bx [.sl 1 (v.map af)]),(5,.bx [IvD rows,IvD cols,MxR ker]),(11,.d (IvD l)),(12,.d (dI k)),(52,.d (.sl 1 [IvD rows,IvD cols])),(53,.d (dI 2)),(54,.d (dI i))];refine AW.seq ?_;refine qX 3 rfl ?_;rw[List.length_map];refine qU 1 rfl ?_;refine ab.nil ?_;refine AW.cond rfl (fun h=>?_) (fun h=>?_)
           · have hkk:k<l.length:=by have:=of_decide_eq_true h;omega
             have hat:=(oX (g:=DX l) hkk).symm.trans hkA;have g3:=uS (l:=l) (i:=k) hkk;have g4:=uS (l:=l) (i:=k-1) (by omega);have hu:DX l k= !(decide (0<k)&&decide (l.getD k 0≤l.getD (k-1) 0)):=rfl;rw[decide_eq_true (show 0<k by omega),Bool.true_and] at hu;generalize l.getD k 0=x at g3 hu;generalize l.getD (k-1) 0=y at g4 hu;refine AW.skip (AW.seq (AW.block (AW.seq ?_)));refine AW.draw aM 10 (by kernel_rfl) ?_;refine qP 2 rfl ?_;refine ae.idx tok (dI x) rfl rfl rfl rfl rfl (Int.natCast_nonneg k) g3 ?_;refine qP 4 rfl ?_;rw[aD (x:=(k:Int) -1) (by omega) (by omega)];refine ae.idx tok (dI y) rfl rfl rfl rfl rfl (show (0:Int)≤(k:Int) -1 by omega) (by rw[show ((k:Int) -1).toNat=k-1 by omega];exact g4) ?_;refine qP 2 rfl ?_;refine ae.nil ?_;refine ab.nil ?_;refine AW.cond rfl (fun h=>?_) (fun h=>?_)
             · rw[show decide (x≤y)=true from h] at hu;rw[hu,Bool.not_true,Bool.false_and] at hat;rw[if_pos (bad hat.symm)];refine qX 2 rfl ?_;exact qN rfl
             · rw[show decide (x≤y)=false from h] at hu;rw[hu,Bool.not_false,Bool.true_and] at hat;refine AW.skip ?_;refine qT 2 rfl ?_;rw[aD (x:=(k:Int)+1) (by omega) (by omega)];refine qU 1 rfl ?_;refine ab.nil ?_;exact⟨k+1,rfl,⟨by omega,.inl (by omega),hat⟩,by omega⟩
           have hkk: ¬k<l.length:=by have:=of_decide_eq_false h;omega
           rw[oW hkk] at hkA;have hg:=good hkA.symm;refine AW.exit ?_;refine qT 1 rfl ?_;rw[aD (x:=(i:Int)+1) (by omega) (by omega)];refine qU 1 rfl ?_;refine ab.nil ?_;exact⟨i+1,rfl,⟨hii,hg⟩,by omega⟩
       have hii:i=2:=by have:=of_decide_eq_false h;omega
       subst hii;rw[if_neg (by rw[hi1 (by decide),hi2 (by decide)];simp)];refine AW.exit (AW.seq ?_);refine qX 3 rfl ?_;rw[List.length_map];refine qU 1 rfl ?_;refine ab.nil ?_;refine AW.block ?_;refine AW.aE [1,3,5,77,78,79] (fun i:Nat=>[(1,.d (ck q)),(3,.bx [.sl 1 (v.map af)]),(5,.bx [IvD rows,IvD cols,MxR ker]),(77,.d (MxR ker)),(78,.d (dI ker.length)),(79,.d (dI i))]) (fun i=>i≤ker.length∧fE (fun i=>tJ v.length q (ker.getD i [])) (ker.length-i) i=E) (fun i=>ker.length-i) 0 rfl ⟨Nat.zero_le _,hE⟩ (fun i ⟨hi,hiE⟩=>?_)
       · show AW _ _ _ _ _ _ _ [(1,.d (ck q)),(3,.bx [.sl 1 (v.map af)]),(5,.bx [IvD rows,IvD cols,MxR ker]),(77,.d (MxR ker)),(78,.d (dI ker.length)),(79,.d (dI i))];refine qX 1 rfl ?_;refine qI ?_;refine AW.cond rfl (fun h=>?_) (fun h=>?_)
         · have hii:i<ker.length:=by have:=of_decide_eq_true h;omega
           have g1:=getM iY (l:=ker) (i:=i) hii;have cn:=cn i;have hri:=hkr i;have hmiss:=fun h0:tJ v.length q (ker.getD i [])=0=>(eZ (f:=fun i=>tJ v.length q (ker.getD i [])) hii h0).symm.trans hiE;have hhit:=fun h0:tJ v.length q (ker.getD i [])≠0=>(gU (f:=fun i=>tJ v.length q (ker.getD i [])) hii h0).symm.trans hiE;have hkv:tJ v.length q (ker.getD i [])=if (ker.getD i []).length≠ao q then 10 else bE v.length (ker.getD i []):=rfl
           change (ker.map iY)[i]?=some (iY (ker.getD i [])) at g1;generalize tJ v.length q (ker.getD i [])=e at hmiss hhit hkv;generalize ker.getD i []=r at g1 cn hkv hri;refine AW.skip (AW.seq (AW.block (AW.seq (AW.region ?_))));refine ab.idx tok (iY r) rfl rfl rfl rfl (Int.natCast_nonneg i) g1 ?_;refine qU 2 rfl ?_;refine qI ?_;refine qX 2 rfl ?_;rw[List.length_map];refine qU 1 rfl ?_;refine ab.call tok rfl rfl rfl rfl (bF q) ?_;refine qU 1 rfl ?_;refine ab.nil ?_;refine AW.cond rfl (fun h=>?_) (fun h=>?_)
           · rw[if_pos (show r.length≠ao q by have:=bne_iff_ne.1 h;omega)] at hkv;have:=hhit (by rw[hkv];decide);rw[if_pos (show E≠0 by rw[← this,hkv];decide),← this,hkv];refine qX 2 rfl ?_;exact qN rfl
           · rw[if_neg (show ¬r.length≠ao q by have:=bne_eq_false_iff_eq.1 h;omega)] at hkv;refine AW.skip ?_;refine qX 2 rfl ?_;rw[List.length_map];refine qU 1 rfl ?_;refine ab.nil ?_;refine AW.block ?_;refine AW.aE [1,3,5,77,78,79,89,90,91] (fun k:Nat=>[(1,.d (ck q)),(3,.bx [.sl 1 (v.map af)]),(5,.bx [IvD rows,IvD cols,MxR ker]),(77,.d (MxR ker)),(78,.d (dI ker.length)),(79,.d (dI i)),(89,.d (iY r)),(90,.d (dI r.length)),(91,.d (dI k))]) (fun k=>k≤r.length∧fE (fun k=>bA v.length (r.getD k [])) (r.length-k) k=e) (fun k=>r.length-k) 0 rfl ⟨Nat.zero_le _,hkv.symm⟩ (fun k ⟨hk,hke⟩=>?_)
             · show AW _ _ _ _ _ _ _ [(1,.d (ck q)),(3,.bx [.sl 1 (v.map af)]),(5,.bx [IvD rows,IvD cols,MxR ker]),(77,.d (MxR ker)),(78,.d (dI ker.length)),(79,.d (dI i)),(89,.d (iY r)),(90,.d (dI r.length)),(91,.d (dI k))];refine qX 1 rfl ?_;refine qI ?_;refine AW.cond rfl (fun h=>?_) (fun h=>?_)
               · have hkk:k<r.length:=by have:=of_decide_eq_true h;omega
                 have g2:=getM dD (l:=r) (i:=k) hkk;have cn:=cn k;have km:=fun h0:bA v.length (r.getD k [])=0=>(eZ (f:=fun k=>bA v.length (r.getD k [])) hkk h0).symm.trans hke;have kh:=fun h0:bA v.length (r.getD k [])≠0=>(gU (f:=fun k=>bA v.length (r.getD k [])) hkk h0).symm.trans hke;refine AW.skip (AW.seq (AW.block (AW.seq (AW.region ?_))));refine ab.idx tok (dD (r.getD k [])) rfl rfl rfl rfl (Int.natCast_nonneg k) g2 ?_;refine qU 2 rfl ?_;refine qK 2 rfl ?_;refine ab.call tok rfl rfl rfl rfl cn ?_;refine qU 1 rfl ?_;refine ab.nil ?_;generalize bA v.length (r.getD k [])=z at cn km kh;rcases z with _ | z
                 rotate_left
                 · have h1:=kh (Nat.succ_ne_zero z);have h2:=hhit (by rw[← h1];exact Nat.succ_ne_zero z);rw[if_pos (show E≠0 by rw[← h2,← h1];exact Nat.succ_ne_zero z),← h2,← h1];refine qX 1 rfl ?_;refine ab.err tok rfl rfl rfl rfl rfl ?_;refine ab.nil ?_;refine AW.aG rfl ?_;refine qX 2 rfl ?_;exact qN rfl
                 refine qX 1 rfl ?_;refine ab.err tok rfl rfl rfl rfl rfl ?_;refine ab.nil ?_;refine AW.aB rfl ?_
                 · skip
                   refine AW.skip ?_;refine qT 1 rfl ?_;rw[aD (x:=(k:Int)+1) (by omega) (by omega)];refine qU 1 rfl ?_;refine ab.nil ?_;exact⟨k+1,rfl,⟨hkk,km rfl⟩,by omega⟩
               have hkk: ¬k<r.length:=by have:=of_decide_eq_false h;omega
               rw[gV hkk] at hke;refine AW.exit ?_;refine qT 1 rfl ?_;rw[aD (x:=(i:Int)+1) (by omega) (by omega)];refine qU 1 rfl ?_;refine ab.nil ?_;exact⟨i+1,rfl,⟨hii,hmiss hke.symm⟩,by omega⟩
         have hii: ¬i<ker.length:=by have:=of_decide_eq_false h;omega
         rw[gV hii] at hiE;subst hiE;rw[if_neg (by decide)];refine AW.exit (AW.seq ?_);refine qX 3 rfl ?_;rw[List.length_map];refine qU 1 rfl ?_;refine ab.nil ?_;refine AW.cond rfl (fun h=>?_) (fun h=>?_)
         · rw[if_pos (show 32<ker.length by have:=of_decide_eq_true h;omega)];refine qX 2 rfl ?_;exact qN rfl
         · rw[if_neg (show ¬32<ker.length by have:=of_decide_eq_false h;omega)];refine AW.skip ?_;refine qX 1 rfl ?_;exact qN rfl
end Lift
namespace Lift
section
variable {K:Fd}
end
theorem GU{l:List Nat}{N:Nat}(hN:l.length=N)(asc: ∀p q,p<q→q<l.length→l.getD p 0<l.getD q 0)(lt: ∀x∈l,x<N): ∀p,p<N→l.getD p 0=p:=by
 have l2: ∀p,p<N→l.getD p 0<N:=fun p hp=>by
  have hp':p<l.length:=by omega
  rw[List.getD_eq_getElem?_getD,List.getElem?_eq_getElem hp'];exact lt _ (List.getElem_mem hp')
 have up: ∀p,p<N→p≤l.getD p 0:=fun p=>by
  induction p with
  | zero=>exact fun _=>Nat.zero_le _
  | succ p ih =>
    intro hp;have:=asc p (p+1) (Nat.lt_succ_self p) (by omega);have:=ih (by omega);omega
 have dn: ∀d p,p+d+1=N→l.getD p 0+d<N:=fun d=>by
  induction d with
  | zero=>exact fun p hp=>l2 p (by omega)
  | succ d ih =>
    intro p hp;have:=asc p (p+1) (Nat.lt_succ_self p) (by omega);have:=ih (p+1) (by omega);omega
 intro p hp;have:=up p hp;have:=dn (N-1-p) p (by omega);omega
section
variable {v:List NQ} (V:kJ v) (F:FV v) {a:bw}
include V in
include V
end
end Lift
namespace Lift
def a8(q:bw)(rn cn:List Nat):bw:=rn.map fun r=>cn.map fun k=>bM q r k
theorem gd(q:bw)(rn cn:List Nat):(a8 q rn cn).length=rn.length:=List.length_map ..
theorem nC(q:bw)(rn cn:List Nat){i:Nat}(h:i<rn.length):(a8 q rn cn).getD i []=cn.map fun k=>bM q (rn.getD i 0) k:=by
 unfold a8;rw[List.getD_eq_getElem?_getD,List.getElem?_map,List.getD_eq_getElem?_getD,List.getElem?_eq_getElem h];rfl
theorem uP(q:bw)(rn cn:List Nat){i k:Nat}(h:i<rn.length)(hk:k<cn.length):bM (a8 q rn cn) i k=bM q (rn.getD i 0) (cn.getD k 0):=by
 show ((a8 q rn cn).getD i []).getD k []=_;rw[nC q rn cn h,List.getD_eq_getElem?_getD,List.getElem?_map,List.getD_eq_getElem?_getD (l:=cn),List.getElem?_eq_getElem hk];rfl
theorem lL(q:bw)(rn cn:List Nat):cg cn.length (a8 q rn cn):=fun i hi=>by
 rw[gd] at hi;rw[nC q rn cn hi,List.length_map]
theorem nD{p:NQ→Prop}(h0:p []){q:bw}(h: ∀i k,p (bM q i k))(rn cn:List Nat): ∀i k,p (bM (a8 q rn cn) i k):=fun i k=>by
 by_cases hi:i<rn.length
 · by_cases hk:k<cn.length
   · rw[uP q rn cn hi hk];exact h _ _
   · unfold bM;rw[mD (by rw[lL q rn cn i (by rw[gd];exact hi)];omega)];exact h0
 · unfold bM;rw[mE (by rw[gd];omega)];exact h0
section
variable {m0:Nat} {v:List NQ} (V:o7 m0 v) {q kq:bw} (Gq:wE v q)
include V Gq
theorem ze{rn cn:List Nat}(hsq:cn.length=rn.length)(hrn: ∀i,i<rn.length→rn.getD i 0<q.length)(hcn: ∀k,k<cn.length→cn.getD k 0<ao q)(hd:kP v (kH v (a8 q rn cn))≠0):rn.length≤(e8 v q).cols.length:=by
 obtain ⟨F⟩:=C' V;have hl:=gd q rn cn;have rm:cg (a8 q rn cn).length (a8 q rn cn):=by rw[hl,← hsq];exact lL q rn cn
 have lm:nN v.length (a8 q rn cn):=nD (p:=aq v.length) (bm _) Gq.lt rn cn;have I1:=nk V.a F Gq.r Gq.lt (ao q) (Nat.le_refl _);have I2:=nk V.a F rm lm (a8 q rn cn).length (Nat.le_refl _);have f1:qz q.length (ao q) (e8 v q).cols.length (vM F q):=I1.Ib.2 (Nat.le_refl _);obtain ⟨L,R,f1⟩:=f1
 have f2:qz (a8 q rn cn).length (a8 q rn cn).length (e8 v q).cols.length (vM F (a8 q rn cn)):=⟨fun i p=>L (rn.getD i 0) p,fun p k=>R p (cn.getD k 0),fun i k hi hk=>by
  rw[hl] at hi hk;show F.val (bM (a8 q rn cn) i k)=_;rw[uP q rn cn hi (by omega)]
  exact f1 _ _ (hrn i hi) (hcn k (by omega))⟩
 have h:=I2.Ib.1 f2
 have hf: ¬(aZ v (a8 q rn cn) (a8 q rn cn).length).cols.length<(a8 q rn cn).length:=fun g=>by
  refine hd ?_;unfold kH;rw[if_pos g];exact(F.sg (bm _)).2 F.nil
 omega
variable (Gk:wE v kq)
include Gk
theorem CW(hkc:ao kq=ao q)(hs: ∀i j,i<q.length→j<kq.length→kP v (gD v (q.getD i []) (kq.getD j []) (q.getD i []).length)=0)(hr:(e8 v kq).cols.length=kq.length):(e8 v q).cols.length+kq.length≤ao q:=by
 obtain ⟨F⟩:=C' V;refine Classical.byContradiction fun hlt=>?_;have I1:=nk V.a F Gq.r Gq.lt (ao q) (Nat.le_refl _);have hfl:=uW v q (ao q);change RI q.length (ao q) (ao q) (vM F q) (vM F (e8 v q).rows) (e8 v q).cols at I1;change (js v q (ao q)).length+(e8 v q).cols.length=ao q at hfl
 have hfm: ∀j,j<ao q→j ∉ (e8 v q).cols→ ∃p,p<(js v q (ao q)).length∧(js v q (ao q)).getD p 0=j:=fun j hj hn=>by
  have hm:j∈js v q (ao q):=List.mem_filter.2 ⟨List.mem_range.2 hj,by
   have:(aZ v q (ao q)).cols.contains j=false:=Bool.eq_false_iff.2 fun h=>hn (List.contains_iff_mem.1 h)
   rw[this];rfl⟩
  obtain ⟨p,hp,e⟩:=List.getElem_of_mem hm;exact⟨p,hp,by rw[List.getD_eq_getElem?_getD,List.getElem?_eq_getElem hp];exact e⟩
 have hkl: ∀j i,vM F kq j i=F.val ((kq.getD j []).getD i []):=fun _ _=>rfl
 have hker: ∀i j,i<q.length→j<kq.length→sm (ao q) (fun k=>vM F q i k*vM F kq j k)=0:=fun i j hi hj=>by
  have h:=(F.sg (kG V.a (Gq.lt i) (Gk.lt j) _)).1 (hs i j hi hj);rw[x9 V.a F (Gq.lt i) (Gk.lt j),Gq.r i hi] at h;exact h
 generalize js v q (ao q)=fr at hfl hfm;obtain ⟨y,⟨k0,hk0,hy0⟩,hy⟩:=vr fr.length kq.length (fun p k=>vM F kq k (fr.getD p 0)) (by omega)
 have hx0: ∀i,i<q.length→sm (ao q) (fun j=>vM F q i j*sm kq.length (fun k=>vM F kq k j*y k))=0:=fun i hi=>by
  rw[show sm (ao q) (fun j=>vM F q i j*sm kq.length (fun k=>vM F kq k j*y k))=sm (ao q) (fun j=>sm kq.length (fun k=>vM F q i j*vM F kq k j*y k)) from bB fun j _=>by
   rw[← nh];exact bB fun k _=>(Rg.mul_assoc _ _ _).symm,rk]
  refine kr fun k hk=>?_;rw[rh,hker i k hi hk,Rg.zero_mul]
 have hM:=(I1.eqv _).1 hx0
 have hx: ∀j,j<ao q→sm kq.length (fun k=>vM F kq k j*y k)=0:=fun j hj=>by
  by_cases hc:j∈(e8 v q).cols
  · obtain ⟨p,hp,e⟩:=List.getElem_of_mem hc;have e':(e8 v q).cols.getD p 0=j:=by rw[List.getD_eq_getElem?_getD,List.getElem?_eq_getElem hp];exact e
    have h:=hM p (by have:=I1.rm;omega)
    rw[rW hj (fun k hk hne=>by
     by_cases hc2:k∈(e8 v q).cols
     · obtain ⟨p2,hp2,e2⟩:=List.getElem_of_mem hc2;have e2':(e8 v q).cols.getD p2 0=k:=by rw[List.getD_eq_getElem?_getD,List.getElem?_eq_getElem hp2];exact e2
       have h2:=I1.piv p2 p hp2 (by have:=I1.rm;omega);rw[e2',if_neg (fun e3=>hne (by rw[← e2',← e3,e']))] at h2;rw[h2,Rg.zero_mul]
     · obtain ⟨p2,hp2,e2⟩:=hfm k hk hc2;have h2:=hy p2 hp2;rw[e2] at h2
       rw[h2,Rg.mul_zero])] at h
    have h3:=I1.piv p p hp (by have:=I1.rm;omega);rw[e',if_pos rfl] at h3;rw[h3,Rg.one_mul] at h;exact h
  · obtain ⟨p,hp,e⟩:=hfm j hj hc;have h:=hy p hp;rw[e] at h;exact h
 have I2:=nk V.a F (iI kq) (k9 Gk.lt) kq.length (Nat.le_refl _);have ht:=(A4 V Gk).2;rw[hr] at ht;have lt2:=vA v (cu kq) kq.length;have hid:=GU ht (fun p q' h1 h2=>I2.asc p q' h1 h2) lt2;refine hy0 (I2.indep y (fun i hi=>?_) k0 (by omega));rw[fV] at hi;rw[ht];rw[← hx i (by omega)];refine bB fun p hp=>?_;rw[hid p hp];show F.val (bM (cu kq) i p)*y p=_;rw[rP kq hi];rfl
end
end Lift
namespace Lift
open Go Go.Proofs
def B6(v:List NQ)(q kq:bw)(j:Nat):Bool:=k8 (fun i=>decide (kP v (gD v (q.getD i []) (kq.getD j []) (q.getD i []).length)=0)) (q.length-0) 0
def zQ(v:List NQ)(q kq:bw):Bool:=k8 (B6 v q kq) (kq.length-0) 0
def By(v:List NQ)(q:bw)(rn cn:List Nat)(kq:bw):Bool :=
 if (kq.length:Int)≠(ao q:Int) -cn.length then false else if kP v (kH v (a8 q rn cn))=0 then false else
 if zQ v q kq=false then false else decide (((e8 v kq).cols.length:Int)=kq.length)
set_option maxHeartbeats 1600000 in
theorem oD{v:List NQ}{q kq:bw}{rn cn:List Nat}(V:kJ v)(cc:Pure Tryz.prog 20 [bO v,ck q] aj)(ce:Pure Tryz.prog 80 [bO v,ck q,.ag [hC rn,hC cn,ck kq]] aj)
  (hql:q.length≤1000000) (hqc:ao q≤1000000) (hqr:cg (ao q) q) (hkl:kq.length≤1000000) (hrl:rn.length≤1000000) (hcl:cn.length≤1000000) (hrn: ∀i,i<rn.length→rn.getD i 0<q.length) (hcn: ∀k,k<cn.length→cn.getD k 0<ao q)
  (cd:Pure Tryz.prog 60 [bO v,ck (a8 q rn cn)] (.tu [af (kH v (a8 q rn cn)),aj])) (ld:aq v.length (kH v (a8 q rn cn))) (sd:tV v (kH v (a8 q rn cn)))
  (ct: ∀i j,i<q.length→j<kq.length→Pure Tryz.prog 58 [bO v,fe (q.getD i []),fe (kq.getD j [])] (.tu [af (gD v (q.getD i []) (kq.getD j []) (q.getD i []).length),aj]))
  (lt: ∀i j,i<q.length→j<kq.length→aq v.length (gD v (q.getD i []) (kq.getD j []) (q.getD i []).length)) (st: ∀i j,i<q.length→j<kq.length→tV v (gD v (q.getD i []) (kq.getD j []) (q.getD i []).length))
  (cr:Pure Tryz.prog 46 [bO v,ck kq,dI (ao kq)] (.tu [DQ (e8 v kq),aj])):
  Pure Tryz.prog 40 [bO v,ck q,.ag [hC rn,hC cn,ck kq]] (.tu [dB (By v q rn cn kq),aj]):=by
 refine qJ 142 Tryz.func40 rfl rfl rfl rfl (by kernel_rfl) (fun B F0 w0=>?_);have cs:=fG V ld sd;have cst:=fun i j (hi:i<q.length) (hj:j<kq.length)=>fG V (lt i j hi hj) (st i j hi hj);have hml:=gd q rn cn
 have hmt: ∀i,i<rn.length→(a8 q rn cn).take (i+1)=(a8 q rn cn).take i++[cn.map fun k=>bM q (rn.getD i 0) k]:=fun i hi=>by
  rw[rS (d:=[]) (by omega),nC q rn cn hi]
 have hma:(a8 q rn cn).take rn.length=a8 q rn cn:=List.take_of_length_le (by omega);have hzl: ∀r,(cn.map fun k=>bM q r k).length=cn.length:=fun r=>List.length_map ..
 have hzt: ∀r k,k<cn.length→(cn.map fun k=>bM q r k).take (k+1)=(cn.map fun k=>bM q r k).take k++[(q.getD r []).getD (cn.getD k 0) []]:=fun r k hk=>by
  rw[rS (d:=[]) (by rw[hzl];exact hk)]
  congr 2
  rw[List.getD_eq_getElem?_getD,List.getElem?_map,List.getD_eq_getElem?_getD (l:=cn),List.getElem?_eq_getElem hk];rfl
 have hza: ∀r,(cn.map fun k=>bM q r k).take cn.length=cn.map fun k=>bM q r k:=fun r=>List.take_of_length_le (by rw[hzl];exact Nat.le_refl _);unfold By;clear ld sd lt st;generalize kH v (a8 q rn cn)=d at *;generalize a8 q rn cn=mm at *;generalize hzz:(fun r=>cn.map fun k=>bM q r k)=zz at *;have hz1: ∀r,(cn.map fun k=>bM q r k)=zz r:=fun r=>by rw[← hzz]
 simp only[hz1] at hmt hzl hzt hza;clear hzz hz1;obtain ⟨Z,hZ⟩: ∃Z,k8 (B6 v q kq) (kq.length-0) 0=Z:=⟨_,rfl⟩;rw[show zQ v q kq=Z from hZ];generalize e8 v kq=s at *;obtain ⟨srows,scols,ssg,sdet⟩:=s;change Pure _ _ _ (.tu [.ag [ck srows,hC scols,dI ssg,af sdet],aj]) at cr
 dsimp only
 refine qX 4 rfl ?_;refine qI ?_;refine qX 2 rfl ?_;refine ab.call tok rfl rfl rfl rfl cc ?_;refine qU 1 rfl ?_;refine qK 1 rfl ?_;refine ab.err tok rfl rfl rfl rfl rfl ?_;refine ab.nil ?_;refine AW.aB rfl ?_
 · skip
   refine AW.skip (AW.seq ?_);refine qX 3 rfl ?_;refine ab.call tok rfl rfl rfl rfl ce ?_;refine qU 1 rfl ?_;refine qK 1 rfl ?_;refine ab.err tok rfl rfl rfl rfl rfl ?_;refine ab.nil ?_;refine AW.aB rfl ?_
   · skip
     refine AW.skip (AW.seq (AW.seq ?_));refine AW.draw aM 10 (by kernel_rfl) ?_;refine qP 3 rfl ?_;rw[List.length_map];refine qP 1 rfl ?_;refine ae.call tok rfl rfl rfl rfl rfl (bF q) ?_;refine qP 3 rfl ?_;rw[List.length_map];refine qP 1 rfl ?_;rw[aD (x:=(ao q:Int) -cn.length) (by omega) (by omega)];refine qP 1 rfl ?_;refine ae.nil ?_;refine ab.nil ?_;refine AW.cond rfl (fun h=>?_) (fun h=>?_)
     · rw[if_pos (show (kq.length:Int)≠(ao q:Int) -cn.length from bne_iff_ne.1 h)];refine qX 2 rfl ?_;exact qN rfl
     · have hk0:(kq.length:Int)=(ao q:Int) -cn.length:=bne_eq_false_iff_eq.1 h;rw[if_neg (fun g=>g hk0)];refine AW.skip ?_;refine qX 1 rfl ?_;refine qI ?_;refine qX 3 rfl ?_;rw[List.length_map];refine qU 1 rfl ?_;refine ab.nil ?_;refine AW.block ?_;refine AW.aE [1,3,5,10,49,50,51] (fun i:Nat=>[(1,.d (ck q)),(3,.bx [.sl 1 (v.map af)]),(5,.bx [hC rn,hC cn,ck kq]),(10,.ow 22 ((mm.take i).map fe)),(49,.d (hC rn)),(50,.d (dI rn.length)),(51,.d (dI i))]) (fun i=>i≤rn.length) (fun i=>rn.length-i) 0 rfl (Nat.zero_le _) (fun i hi=>?_)
       · show AW _ _ _ _ _ _ _ [(1,.d (ck q)),(3,.bx [.sl 1 (v.map af)]),(5,.bx [hC rn,hC cn,ck kq]),(10,.ow 22 ((mm.take i).map fe)),(49,.d (hC rn)),(50,.d (dI rn.length)),(51,.d (dI i))];refine qX 1 rfl ?_;refine qI ?_;refine AW.cond rfl (fun h=>?_) (fun h=>?_)
         · have hii:i<rn.length:=by have:=of_decide_eq_true h;omega
           have g1:=xV (l:=rn) (i:=i) hii;have hmt:=hmt i hii;have hrn:=hrn i hii;generalize rn.getD i 0=r at g1 hmt hrn;have hzl:=hzl r;have hzt:=hzt r;have hza:=hza r;have hq1:=getM fe (l:=q) (i:=r) hrn;have hq2:=hqr r hrn;generalize zz r=z at *;generalize q.getD r []=row at hzt hq1 hq2;refine AW.skip (AW.seq (AW.block (AW.seq (AW.region ?_))));refine ab.idx tok (dI r) rfl rfl rfl rfl (Int.natCast_nonneg i) g1 ?_;refine qU 2 rfl ?_;refine qK 1 rfl ?_;refine qI ?_;refine qX 3 rfl ?_;rw[List.length_map];refine qU 1 rfl ?_;refine ab.nil ?_;refine AW.block ?_;refine AW.aE [1,3,5,10,12,13,49,50,51,56,57,58] (fun k:Nat=>[(1,.d (ck q)),(3,.bx [.sl 1 (v.map af)]),(5,.bx [hC rn,hC cn,ck kq]),(10,.ow 22 ((mm.take i).map fe)),(12,.d (dI r)),(13,.ow 53 ((z.take k).map af)),(49,.d (hC rn)),(50,.d (dI rn.length)),(51,.d (dI i)),(56,.d (hC cn)),(57,.d (dI cn.length)),(58,.d (dI k))]) (fun k=>k≤cn.length) (fun k=>cn.length-k) 0 rfl (Nat.zero_le _) (fun k hk=>?_)
           · show AW _ _ _ _ _ _ _ [(1,.d (ck q)),(3,.bx [.sl 1 (v.map af)]),(5,.bx [hC rn,hC cn,ck kq]),(10,.ow 22 ((mm.take i).map fe)),(12,.d (dI r)),(13,.ow 53 ((z.take k).map af)),(49,.d (hC rn)),(50,.d (dI rn.length)),(51,.d (dI i)),(56,.d (hC cn)),(57,.d (dI cn.length)),(58,.d (dI k))];refine qX 1 rfl ?_;refine qI ?_;refine AW.cond rfl (fun h=>?_) (fun h=>?_)
             · have hkk:k<cn.length:=by have:=of_decide_eq_true h;omega
               have g2:=xV (l:=cn) (i:=k) hkk;have hzt:=hzt k hkk;have hcn:=hcn k hkk;generalize cn.getD k 0=c at g2 hzt hcn;have hq3:=getM af (l:=row) (i:=c) (by omega);generalize row.getD c []=x at hzt hq3;refine AW.skip (AW.seq (AW.block (AW.seq (AW.region ?_))));refine ab.idx tok (dI c) rfl rfl rfl rfl (Int.natCast_nonneg k) g2 ?_;refine qU 2 rfl ?_;refine ab.nil ?_;refine qT 3 rfl ?_;refine ab.idx tok (fe row) rfl rfl rfl rfl (Int.natCast_nonneg r) hq1 ?_;refine qU 2 rfl ?_;refine ab.idx tok (af x) rfl rfl rfl rfl (Int.natCast_nonneg c) hq3 ?_;refine qU 1 rfl ?_;refine ab.gm tok rfl rfl rfl rfl rfl ?_;refine ab.k7 tok rfl rfl rfl rfl rfl rfl (by rw[List.length_map,List.length_take];show (_+1)*24≤_;omega) (by rw[List.length_map,List.length_take];show _+1≤_;omega) ?_;refine qU 1 rfl ?_;refine ab.nil ?_;refine qT 1 rfl ?_;rw[aD (x:=(k:Int)+1) (by omega) (by omega)];refine qU 1 rfl ?_;refine ab.nil ?_;exact⟨k+1,by rw[hzt,List.map_append];rfl,hkk,by omega⟩
             have hkk:k=cn.length:=by have:=of_decide_eq_false h;omega
             subst hkk;rw[hza];refine AW.exit (AW.region ?_);refine ab.gG tok 13 rfl rfl ?_;refine qU 2 rfl ?_;refine ab.gm tok rfl rfl rfl rfl rfl ?_;refine ab.k7 tok rfl rfl rfl rfl rfl rfl (by rw[List.length_map,List.length_take];show (_+1)*24≤_;omega) (by rw[List.length_map,List.length_take];show _+1≤_;omega) ?_;refine qU 1 rfl ?_;refine ab.nil ?_;refine qT 1 rfl ?_;rw[aD (x:=(i:Int)+1) (by omega) (by omega)];refine qU 1 rfl ?_;refine ab.nil ?_;exact⟨i+1,by rw[hmt,List.map_append];rfl,hii,by omega⟩
         have hii:i=rn.length:=by have:=of_decide_eq_false h;omega
         subst hii;rw[hma];refine AW.exit (AW.seq (AW.region ?_));refine ab.gG tok 10 rfl rfl ?_;refine qU 2 rfl ?_;refine ab.call tok rfl rfl rfl rfl cd ?_;refine qU 5 rfl ?_;refine qI ?_;refine qX 1 rfl ?_;refine ab.err tok rfl rfl rfl rfl rfl ?_;refine qU 3 rfl ?_;refine ab.call tok rfl rfl rfl rfl cs ?_;refine qU 2 rfl ?_;refine ab.nil ?_;refine AW.cond rfl (fun h=>?_) (fun h=>?_)
         · rw[if_pos (show kP v d=0 from beq_iff_eq.1 h)];refine qX 3 rfl ?_;exact qN rfl
         · rw[if_neg (show ¬kP v d=0 from beq_eq_false_iff_ne.1 h)];refine AW.skip (AW.seq ?_);refine qX 3 rfl ?_;rw[List.length_map];refine qU 1 rfl ?_;refine ab.nil ?_;refine AW.block ?_;refine AW.aE [1,3,5,94,95,96] (fun j:Nat=>[(1,.d (ck q)),(3,.bx [.sl 1 (v.map af)]),(5,.bx [hC rn,hC cn,ck kq]),(94,.d (ck kq)),(95,.d (dI kq.length)),(96,.d (dI j))]) (fun j=>j≤kq.length∧k8 (B6 v q kq) (kq.length-j) j=Z) (fun j=>kq.length-j) 0 rfl ⟨Nat.zero_le _,hZ⟩ (fun j ⟨hj,hjZ⟩=>?_)
           · show AW _ _ _ _ _ _ _ [(1,.d (ck q)),(3,.bx [.sl 1 (v.map af)]),(5,.bx [hC rn,hC cn,ck kq]),(94,.d (ck kq)),(95,.d (dI kq.length)),(96,.d (dI j))];refine qX 1 rfl ?_;refine qI ?_;refine AW.cond rfl (fun h=>?_) (fun h=>?_)
             · have hjj:j<kq.length:=by have:=of_decide_eq_true h;omega
               have g1:=getM fe (l:=kq) (i:=j) hjj;have hat:=(oX (g:=B6 v q kq) hjj).symm.trans hjZ;obtain ⟨Y,hY⟩: ∃Y,k8 (fun i=>decide (kP v (gD v (q.getD i []) (kq.getD j []) (q.getD i []).length)=0)) (q.length-0) 0=Y:=⟨_,rfl⟩;rw[show B6 v q kq j=Y from hY] at hat;have ct:=fun i hi=>ct i j hi hjj;have cst:=fun i hi=>cst i j hi hjj;change (kq.map fe)[j]?=some (fe (kq.getD j [])) at g1;generalize kq.getD j []=w at g1 hY ct cst;refine AW.skip (AW.seq (AW.block (AW.seq (AW.region ?_))));refine ab.idx tok (fe w) rfl rfl rfl rfl (Int.natCast_nonneg j) g1 ?_;refine qU 2 rfl ?_;refine qK 2 rfl ?_;rw[List.length_map];refine qU 1 rfl ?_;refine ab.nil ?_;refine AW.block ?_;refine AW.aE [1,3,5,19,94,95,96,100,101,102] (fun i:Nat=>[(1,.d (ck q)),(3,.bx [.sl 1 (v.map af)]),(5,.bx [hC rn,hC cn,ck kq]),(19,.d (fe w)),(94,.d (ck kq)),(95,.d (dI kq.length)),(96,.d (dI j)),(100,.d (ck q)),(101,.d (dI q.length)),(102,.d (dI i))]) (fun i=>i≤q.length∧k8 (fun i=>decide (kP v (gD v (q.getD i []) w (q.getD i []).length)=0)) (q.length-i) i=Y) (fun i=>q.length-i) 0 rfl ⟨Nat.zero_le _,hY⟩ (fun i ⟨hi,hiY⟩=>?_)
               · show AW _ _ _ _ _ _ _ [(1,.d (ck q)),(3,.bx [.sl 1 (v.map af)]),(5,.bx [hC rn,hC cn,ck kq]),(19,.d (fe w)),(94,.d (ck kq)),(95,.d (dI kq.length)),(96,.d (dI j)),(100,.d (ck q)),(101,.d (dI q.length)),(102,.d (dI i))];refine qX 1 rfl ?_;refine qI ?_;refine AW.cond rfl (fun h=>?_) (fun h=>?_)
                 · have hii:i<q.length:=by have:=of_decide_eq_true h;omega
                   have g2:=getM fe (l:=q) (i:=i) hii;have hai:=(oX (g:=fun i=>decide (kP v (gD v (q.getD i []) w (q.getD i []).length)=0)) hii).symm.trans hiY;have ct:=ct i hii;have cst:=cst i hii;change (q.map fe)[i]?=some (fe (q.getD i [])) at g2;generalize gD v (q.getD i []) w (q.getD i []).length=x at hai ct cst;generalize q.getD i []=row at g2 ct;generalize kP v x=z at hai cst;refine AW.skip (AW.seq (AW.block (AW.seq (AW.region ?_))));refine ab.idx tok (fe row) rfl rfl rfl rfl (Int.natCast_nonneg i) g2 ?_;refine qU 2 rfl ?_;refine qK 3 rfl ?_;refine ab.call tok rfl rfl rfl rfl ct ?_;refine qU 5 rfl ?_;refine qK 1 rfl ?_;refine ab.err tok rfl rfl rfl rfl rfl ?_;refine qU 3 rfl ?_;refine ab.call tok rfl rfl rfl rfl cst ?_;refine qU 2 rfl ?_;refine ab.nil ?_;refine AW.cond rfl (fun h=>?_) (fun h=>?_)
                   · rw[decide_eq_false (show ¬z=0 from bne_iff_ne.1 h),Bool.false_and] at hai;rw[← hai,Bool.false_and] at hat;rw[if_pos hat.symm];refine qX 3 rfl ?_;exact qN rfl
                   · rw[decide_eq_true (show z=0 from bne_eq_false_iff_eq.1 h),Bool.true_and] at hai;refine AW.skip ?_;refine qT 1 rfl ?_;rw[aD (x:=(i:Int)+1) (by omega) (by omega)];refine qU 1 rfl ?_;refine ab.nil ?_;exact⟨i+1,rfl,⟨hii,hai⟩,by omega⟩
                 have hii: ¬i<q.length:=by have:=of_decide_eq_false h;omega
                 rw[oW hii] at hiY;rw[← hiY,Bool.true_and] at hat;refine AW.exit ?_;refine qT 1 rfl ?_;rw[aD (x:=(j:Int)+1) (by omega) (by omega)];refine qU 1 rfl ?_;refine ab.nil ?_;exact⟨j+1,rfl,⟨hjj,hat⟩,by omega⟩
             have hjj: ¬j<kq.length:=by have:=of_decide_eq_false h;omega
             rw[oW hjj] at hjZ;rw[if_neg (by rw[← hjZ];simp)];refine AW.exit (AW.seq ?_);refine AW.m4 tok aM [(9,true),(1,false),(1,true)] 11 [24] (by kernel_rfl) ⟨rfl,?_⟩;refine qP 5 rfl ?_;refine ae.call tok rfl rfl rfl rfl rfl (bF kq) ?_;refine ae.call tok rfl rfl rfl rfl rfl cr ?_;refine qP 2 rfl ?_;refine ae.nil ⟨rfl,?_⟩;refine qP 1 rfl ?_;refine ae.nil ⟨rfl,?_⟩;refine qP 1 rfl ?_;refine ae.nil ⟨_,nQ.cons (.bx rfl) (nQ.nil),?_⟩;refine qU 1 rfl ?_;refine qK 3 rfl ?_;rw[List.length_map];refine qU 3 rfl ?_;rw[List.length_map];refine qU 1 rfl ?_;rw[show ((scols.length:Int)==(kq.length:Int))=decide ((scols.length:Int)=kq.length) by by_cases g:(scols.length:Int)=kq.length<;>simp[g]];refine qU 3 rfl ?_;exact qN rfl
end Lift
namespace Lift
open Go Go.Proofs
theorem qM{rt:List (List RD)}{a:List (List (List RD))}{rows cols:List Int}{ker:List (List (List RD))}(cv:Pure Tryz.prog 24 [TrD rt,MxR a] (dB false)):Pure Tryz.prog 8 [TrD rt,MxR a,CertD rows cols ker] (dB true):=by
 have ca:=iS;refine qJ 75 Tryz.func8 rfl rfl rfl rfl (by kernel_rfl) (fun B F0 w0=>?_);refine qX 3 rfl ?_;refine qI ?_;refine qX 2 rfl ?_;refine ab.call tok rfl rfl rfl rfl cv ?_;refine qU 30 rfl ?_;refine ab.nil ?_;refine AW.aG rfl ?_
 · skip
   refine AW.seq (AW.region ?_);refine ab.call tok rfl rfl rfl rfl ca ?_;refine qU 1 rfl ?_;exact qN rfl
theorem qO{rt:List (List RD)}{a:List (List (List RD))}{rows cols:List Int}{ker:List (List (List RD))}{bs:Bool}{c:Nat}(cv:Pure Tryz.prog 24 [TrD rt,MxR a] (dB true))(cs:Pure Tryz.prog 11 [MxR ker] (dB bs))(ce:bs=true→Pure Tryz.prog 39 [TrD rt,MxR a,CertD rows cols ker] (dI c))(hb: ¬(bs=true∧rows.length≤10∧cols.length≤10∧c=0)):Pure Tryz.prog 8 [TrD rt,MxR a,CertD rows cols ker] (dB true):=by
 have ca:=iS;refine qJ 75 Tryz.func8 rfl rfl rfl rfl (by kernel_rfl) (fun B F0 w0=>?_);refine qX 3 rfl ?_;refine ab.nil ?_;refine AW.cut [] (fun _:Unit=>[]) (fun _=>False) ?_ (fun _ h=>h.elim);refine qX 2 rfl ?_;refine ab.call tok rfl rfl rfl rfl cv ?_;refine qU 4 rfl ?_;refine ab.call tok rfl rfl rfl rfl cs ?_;cases bs with
 | false =>
   refine qU 25 rfl ?_;refine ab.nil ?_;refine AW.aG rfl ?_;refine AW.seq (AW.region ?_);refine ab.call tok rfl rfl rfl rfl ca ?_;refine qU 1 rfl ?_;exact qN rfl
 | true =>
 have ce:=ce rfl;refine qU 6 rfl ?_;rw[List.length_map];refine qU 1 rfl ?_;by_cases h0:rows.length≤10;rotate_left
 · rw[decide_eq_true (show (10:Int)<(rows.length:Int) by omega)];refine qU 18 rfl ?_;refine ab.nil ?_;refine AW.aG rfl ?_;refine AW.seq (AW.region ?_);refine ab.call tok rfl rfl rfl rfl ca ?_;refine qU 1 rfl ?_;exact qN rfl
 rw[decide_eq_false (show ¬(10:Int)<(rows.length:Int) by omega)];refine qU 5 rfl ?_;rw[List.length_map];refine qU 1 rfl ?_;by_cases h1:cols.length≤10;rotate_left
 · rw[decide_eq_true (show (10:Int)<(cols.length:Int) by omega)];refine qU 12 rfl ?_;refine ab.nil ?_;refine AW.aG rfl ?_;refine AW.seq (AW.region ?_);refine ab.call tok rfl rfl rfl rfl ca ?_;refine qU 1 rfl ?_;exact qN rfl
 rw[decide_eq_false (show ¬(10:Int)<(cols.length:Int) by omega)];refine qU 5 rfl ?_;refine ab.call tok rfl rfl rfl rfl ce ?_;refine qU 1 rfl ?_;have h4:c≠0:=fun h=>hb ⟨rfl,h0,h1,h⟩;rw[bne_iff_ne.2 (show (c:Int)≠0 by omega)];refine qU 5 rfl ?_;refine ab.nil ?_;refine AW.aG rfl ?_;refine AW.seq (AW.region ?_);refine ab.call tok rfl rfl rfl rfl ca ?_;refine qU 1 rfl ?_;exact qN rfl
theorem qQ{rt:List (List RD)}{a:List (List (List RD))}{rows cols:List Int}{ker:List (List (List RD))}{ok:Bool}{n:Nat}(cv:Pure Tryz.prog 24 [TrD rt,MxR a] (dB true))(cs:Pure Tryz.prog 11 [MxR ker] (dB true))(ce:Pure Tryz.prog 39 [TrD rt,MxR a,CertD rows cols ker] (dI (0:Nat)))(h0:rows.length≤10)(h1:cols.length≤10)
  (cA:Pure Tryz.prog 40 [TrD rt,MxR a,CertD rows cols ker] (.tu [dB ok,aj])) (cR:Pure Tryz.prog 13 [TrD rt,MxR a] (.tu [dI n,aj])) (hn:ok=true→n=rows.length):Pure Tryz.prog 8 [TrD rt,MxR a,CertD rows cols ker] (dB true):=by
 have ca:=iS;refine qJ 75 Tryz.func8 rfl rfl rfl rfl (by kernel_rfl) (fun B F0 w0=>?_);refine qX 3 rfl ?_;refine qI ?_;refine qX 2 rfl ?_;refine ab.call tok rfl rfl rfl rfl cv ?_;refine qU 4 rfl ?_;refine ab.call tok rfl rfl rfl rfl cs ?_;refine qU 6 rfl ?_;rw[List.length_map];refine qU 1 rfl ?_;rw[decide_eq_false (show ¬(10:Int)<(rows.length:Int) by omega)];refine qU 5 rfl ?_;rw[List.length_map];refine qU 1 rfl ?_;rw[decide_eq_false (show ¬(10:Int)<(cols.length:Int) by omega)];refine qU 5 rfl ?_;refine ab.call tok rfl rfl rfl rfl ce ?_;refine qU 3 rfl ?_;refine ab.call tok rfl rfl rfl rfl ca ?_;refine qU 2 rfl ?_;refine ab.nil ?_;refine AW.aB rfl ?_
 · skip
   refine AW.skip ?_;refine qX 3 rfl ?_;refine ab.call tok rfl rfl rfl rfl cA ?_;refine qU 5 rfl ?_;refine qK 2 rfl ?_;refine ab.call tok rfl rfl rfl rfl cR ?_;refine qU 5 rfl ?_;refine qK 1 rfl ?_;refine ab.err tok rfl rfl rfl rfl rfl ?_;refine qU 2 rfl ?_;refine ab.err tok rfl rfl rfl rfl rfl ?_;cases ok with
   | false =>
     refine qU 13 rfl ?_;exact qN rfl
   | true =>
     refine qU 10 rfl ?_;rw[List.length_map];refine qU 1 rfl ?_;rw[beq_iff_eq.2 (show (n:Int)=(rows.length:Int) by have:=hn rfl;omega)];refine qU 2 rfl ?_;exact qN rfl
theorem CJ{l:List Int}{n:Nat}(h:bc l n=true):IvD l=hC (l.map Int.toNat)∧ ∀i,i<(l.map Int.toNat).length→(l.map Int.toNat).getD i 0<n:=by
 unfold bc at h
 have hx: ∀x∈l,0≤x∧x<n:=fun x hx=>by
  have g:=List.all_eq_true.1 h x hx;rw[Bool.and_eq_true] at g;exact⟨of_decide_eq_true g.1,of_decide_eq_true g.2⟩
 refine⟨?_,fun i hi=>?_⟩
 · show D.sl 1 (l.map fun n=>dI n)=D.sl 1 ((l.map Int.toNat).map fun n:Nat=>dI n);rw[List.map_map]
   congr 1
   refine List.map_congr_left fun x h1=>?_;show dI x=dI ((x.toNat:Nat):Int);rw[Int.toNat_of_nonneg (hx x h1).1]
 · rw[List.length_map] at hi;rw[List.getD_eq_getElem?_getD,List.getElem?_map,List.getElem?_eq_getElem hi];show (l[i]).toNat<n;have:=hx _ (List.getElem_mem hi);omega
theorem AH{l:List Int}{n:Nat}(h:bc l n=true)(ha:iX l=true):l.length≤n:=by
 have hx: ∀i,i<l.length→0≤l.getD i 0∧l.getD i 0<n:=fun i hi=>by
  have g:=List.all_eq_true.1 h _ (List.getElem_mem hi);rw[Bool.and_eq_true] at g;rw[List.getD_eq_getElem?_getD,List.getElem?_eq_getElem hi];exact⟨of_decide_eq_true g.1,of_decide_eq_true g.2⟩
 have up: ∀i,i<l.length→(i:Int)≤l.getD i 0:=fun i=>by
  induction i with
  | zero=>intro hi;exact(hx 0 hi).1
  | succ i ih =>
    intro hi;have g:=oV ha (i+1) (Nat.zero_le _) (by omega);unfold DX at g;rw[decide_eq_true (show 0<i+1 by omega),Bool.true_and,Bool.not_eq_true'] at g;have:=of_decide_eq_false g;rw[Nat.add_sub_cancel] at this;have:=ih (by omega);omega
 by_cases h0:l.length=0
 · omega
 · have h1:=up (l.length-1) (by omega);have h2:=(hx (l.length-1) (by omega)).2;omega
theorem ER{rt:List (List RD)}{ker:List (List (List RD))}{c:Nat}(M:BD 2 rt ker)(hl: ∀i,i<ker.length→(ker.getD i []).length=c)(he: ∀i,i<ker.length→ ∀k,k<(ker.getD i []).length→bA rt.length ((ker.getD i []).getD k [])=0)(hc:c≤4)(k4:ker.length≤4):
  wE (rt.map bg) (fP ker)∧l3 2 (fP ker)∧MxR ker=ck (fP ker)∧(0<ker.length→ao (fP ker)=c)∧ao (fP ker)≤4:=by
 have rw1:=fun i (hi:i<ker.length)=>zY (M.n i) (he i hi);have hcc:0<ker.length→ao (fP ker)=c:=fun h=>by rw[iD];exact hl 0 h
 have hc4:ao (fP ker)≤4:=by
  by_cases h:0<ker.length
  · rw[hcc h];exact hc
  · rw[iD];unfold ao;rw[List.getD_eq_getElem?_getD,List.getElem?_eq_none (by omega)];exact Nat.zero_le _
 have el: ∀i k,aq rt.length (bM (fP ker) i k)∧ay 2 (bM (fP ker) i k):=fun i k=>by
  by_cases hi:i<ker.length
  · have:=rw1 i hi;unfold bM;rw[lK];exact⟨this.2.1 k,this.2.2 k⟩
  · unfold bM;rw[mE (by rw[eT];omega)];exact⟨bm _,bn (by decide)⟩
 refine⟨⟨by rw[eT];omega,fun j hj=>?_,by omega,fun i k=>by rw[List.length_map];exact(el i k).1⟩,fun i k=>(el i k).2,?_,hcc,hc4⟩
 · rw[eT] at hj;rw[lK,List.length_map,hcc (by omega)];exact hl j hj
 · show D.sl 1 (ker.map iY)=D.sl 1 ((fP ker).map fe);unfold fP;rw[List.map_map]
   congr 1
   refine List.map_congr_left fun r hr=>?_;obtain ⟨k,hk,e⟩:=List.getElem_of_mem hr;have:=(rw1 k hk).1;rw[List.getD_eq_getElem?_getD,List.getElem?_eq_getElem hk] at this;rw[← e];exact this
theorem Bu{l:Nat}{q:bw}{rows cols:List Int}{ker:List (List (List RD))}(h:qt l q rows cols ker=0):rows.length=cols.length∧bc rows q.length=true∧bc cols (ao q)=true∧iX rows=true∧iX cols=true∧(∀i,i<ker.length→(ker.getD i []).length=ao q∧ ∀k,k<(ker.getD i []).length→bA l ((ker.getD i []).getD k [])=0)∧ker.length≤32:=by
 unfold qt at h;by_cases h1:rows.length≠cols.length
 · rw[if_pos h1] at h;cases h
 rw[if_neg h1] at h;by_cases h2:(!bc rows q.length|| !bc cols (ao q))=true
 · rw[if_pos h2] at h;cases h
 rw[if_neg h2] at h;by_cases h3:(!iX rows|| !iX cols)=true
 · rw[if_pos h3] at h;cases h
 rw[if_neg h3] at h;by_cases h4:fE (fun i=>tJ l q (ker.getD i [])) (ker.length-0) 0≠0
 · rw[if_pos h4] at h;exact absurd h h4
 rw[if_neg h4] at h;by_cases h5:32<ker.length
 · rw[if_pos h5] at h;cases h
 simp at h2 h3;have h4':fE (fun i=>tJ l q (ker.getD i [])) (ker.length-0) 0=0:=Classical.byContradiction h4;refine⟨by omega,h2.1,h2.2,h3.1,h3.2,fun i hi=>?_,by omega⟩;have g:tJ l q (ker.getD i [])=0:=p0 h4' i (Nat.zero_le _) (by omega);unfold tJ at g;by_cases h6:(ker.getD i []).length≠ao q
 · rw[if_pos h6] at g;cases g
 rw[if_neg h6] at g;exact⟨by omega,fun k hk=>p0 g k (Nat.zero_le _) (by omega)⟩
theorem DL{v:List NQ}{q kq:bw}{rn cn:List Nat}(h:By v q rn cn kq=true):(kq.length:Int)=(ao q:Int) -cn.length∧kP v (kH v (a8 q rn cn))≠0∧(∀i j,i<q.length→j<kq.length→kP v (gD v (q.getD i []) (kq.getD j []) (q.getD i []).length)=0)∧(e8 v kq).cols.length=kq.length:=by
 unfold By at h;by_cases h1:(kq.length:Int)≠(ao q:Int) -cn.length
 · rw[if_pos h1] at h;cases h
 rw[if_neg h1] at h;by_cases h2:kP v (kH v (a8 q rn cn))=0
 · rw[if_pos h2] at h;cases h
 rw[if_neg h2] at h;by_cases h3:zQ v q kq=false
 · rw[if_pos h3] at h;cases h
 rw[if_neg h3] at h;have h4:=of_decide_eq_true h;refine⟨by omega,h2,fun i j hi hj=>?_,by omega⟩;have g:zQ v q kq=true:=by simpa using h3
 have g1:=oV g j (Nat.zero_le _) (by omega);exact of_decide_eq_true (oV g1 i (Nat.zero_le _) (by omega))
theorem Lo.bP{v:List NQ}{a:bw}{k:Nat}(L:Lo v)(hr:cg a.length a)(lt:nN v.length a)(hs:l3 k a)(hg:gI k a.length≤100000000000):aq v.length (kH v a)∧ay (gI k a.length) (kH v a):=by
 have R:=L.red hr lt hs (n:=a.length) hg;have D:=(iM L.V.a hr lt a.length).bP;have sD:=R.2.2.1 _ (Nat.le_refl a.length);unfold kH;split
 · exact⟨bm _,bn sD.pos⟩
 · split
   · exact EI D sD
   · exact⟨D,sD⟩
theorem yo{v:List NQ}{q kq:bw}{rn cn:List Nat}(L:Lo v)(G:wE v q)(hs2:l3 2 q)(hl4:q.length≤4)(hc4:ao q≤4)(Gk:wE v kq)(sk:l3 2 kq)(hk4:kq.length≤4)(hkc4:ao kq≤4)(hkc:0<kq.length→ao kq=ao q)(h4:rn.length≤4)(hsq:cn.length=rn.length)(hrn: ∀i,i<rn.length→rn.getD i 0<q.length)(hcn: ∀k,k<cn.length→cn.getD k 0<ao q)
  (ce:Pure Tryz.prog 80 [bO v,ck q,.ag [hC rn,hC cn,ck kq]] aj):Pure Tryz.prog 40 [bO v,ck q,.ag [hC rn,hC cn,ck kq]] (.tu [dB (By v q rn cn kq),aj])∧(By v q rn cn kq=true→(e8 v q).cols.length=rn.length):=by
 have ml:=gd q rn cn;have mr:cg (a8 q rn cn).length (a8 q rn cn):=by rw[ml,← hsq];exact lL q rn cn
 have mt:nN v.length (a8 q rn cn):=nD (p:=aq v.length) (bm _) G.lt rn cn;have ms:l3 2 (a8 q rn cn):=nD (p:=ay 2) (bn (by decide)) hs2 rn cn;have mg:gI 2 (a8 q rn cn).length≤100000000000:=Ao (by omega);have D:=L.bP mr mt ms mg;have dt:=fun i j (hi:i<q.length)=>L.dot (xs:=q.getD i []) (ys:=kq.getD j []) (G.lt i) (Gk.lt j) (hs2 i) (sk j) (n:=(q.getD i []).length) (by rw[G.r i hi];omega) (by decide)
 refine⟨oD L.V.a (p9 L G hs2) ce (by omega) (by omega) G.r (by omega) (by omega) (by omega) hrn hcn (Au L (by omega) mr mt ms mg) D.1 (L.sg D.1 D.2 (by omega))
  (fun i j hi hj=>tY L.V.a (G.lt i) (Gk.lt j) (by rw[G.r i hi,Gk.r j hj,hkc (by omega)];exact Nat.le_refl _) (by rw[G.r i hi];omega) (dt i j hi).1)
  (fun i j hi hj=>kG L.V.a (G.lt i) (Gk.lt j) _)
  (fun i j hi hj=>L.sg (kG L.V.a (G.lt i) (Gk.lt j) _) (dt i j hi).2 (by
   rw[G.r i hi];have:ao q*(2*(2+2)+4)≤4*(2*(2+2)+4):=Nat.mul_le_mul hc4 (Nat.le_refl _)
   omega))
  (fH L.V.a (most:=ao kq) (by omega) (by omega) (Nat.le_refl _) Gk.r Gk.lt (L.red Gk.r Gk.lt sk (Ao (by omega))).1),fun hacc=>?_⟩
 obtain ⟨e1,e2,e3,e4⟩:=DL hacc;have b1:=ze L.V G hsq hrn hcn e2
 have b2:(e8 v q).cols.length+kq.length≤ao q:=by
  by_cases h:0<kq.length
  · exact CW L.V G Gk (hkc h) e3 e4
  · have:=(zZ L.V.a G).2;omega
 omega
theorem law10_Right_ok(rt:List (List RD))(a:List (List (List RD)))(rows cols:List Int)(ker:List (List (List RD)))(n1:Nb2 rt)(n2:Nb3 a)(n3:Nb3 ker)(hr:rows.length≤140737488355328)(hc:cols.length≤140737488355328):Pure Tryz.prog 8 [TrD rt,MxR a,CertD rows cols ker] (dB true):=by
 have cv:=sS rt a n1 n2;have cs:=lO ker n3;by_cases hv:ph rt a=true;rotate_left
 · simp only[Bool.not_eq_true] at hv;rw[hv] at cv;exact qM cv
 have A:=Bx n1 n2 hv;have hv':=hv;unfold ph at hv';rw[Bool.and_eq_true,Bool.and_eq_true] at hv'
 have h0:dc rt=0:=by
  have h:=of_decide_eq_true hv'.2;unfold kR at h;split at h
  · rename_i g;exact absurd h g
  · omega
 have T:=(v5 hv'.1.1 n1).1;rw[hv] at cv;have hvl:=A.vl;have hAl:=A.l4;have hAc:=A.c4
 have ce:jx ker=true→Pure Tryz.prog 39 [TrD rt,MxR a,CertD rows cols ker] (dI (qt rt.length (fP a) rows cols ker)):=fun hs=>by
  have K:=(kp (rt:=rt) hs n3).1;have hkl:=K.l
  have h:=pz (v:=rt.map bg) (q:=fP a) (rows:=rows) (cols:=cols) (ker:=ker) hr hc (by omega) (fun i=>by
   have hkr:=K.r i;have h:=qh (rt:=rt) (b:=ker.getD i []) (by omega) (fun k=>jA rt.length _ (lX h0).1 (K.n i k).w (by decide) (K.n i k).l);rw[A.t] at h;rw[hvl]
   exact h)
  rw[hvl] at h;rw[A.t,A.m];exact h
 by_cases hb:jx ker=true∧rows.length≤10∧cols.length≤10∧qt rt.length (fP a) rows cols ker=0;rotate_left
 · exact qO cv cs ce hb
 obtain ⟨hs,r10,c10,hz⟩:=hb;have ce:=ce hs;rw[hz] at ce;rw[hs] at cs;obtain ⟨K,k4,kr4⟩:=kp (rt:=rt) hs n3;obtain ⟨z1,z2,z3,z4,z5,z6,z7⟩:=Bu hz;obtain ⟨Gk,sk,ek,hkc,hkc4⟩:=ER K (fun i hi=>(z6 i hi).1) (fun i hi=>(z6 i hi).2) hAc (k4 z7);obtain ⟨er,hrn⟩:=CJ z2;obtain ⟨ec,hcn⟩:=CJ z3;have lr:=AH z2 z4;have lc:=AH z3 z5;have L:=A.L;have G:=A.G;have cc:=p9 L G A.s;have cR:=xn L G A.s (by omega);have certc:=kX (v:=rt.map bg) (q:=fP a) (rows:=rows) (cols:=cols) (ker:=ker) hr hc (by have:=K.l;omega) (fun i=>by have:=K.r i;omega) (by omega) (by omega) (fun i k=>y9 T h0 A.t hvl (K.n i k));rw[hvl,hz] at certc;have hkq:(fP ker).length≤4:=by rw[eT];exact k4 z7
 have hrl:(rows.map Int.toNat).length=rows.length:=List.length_map ..;have hcl:(cols.map Int.toNat).length=cols.length:=List.length_map ..
 rw[show CertD rows cols ker= .ag [hC (rows.map Int.toNat),hC (cols.map Int.toNat),ck (fP ker)] from by
  show D.ag [IvD rows,IvD cols,MxR ker]=_
  rw[er,ec,ek]] at certc
 have eC:CertD rows cols ker= .ag [hC (rows.map Int.toNat),hC (cols.map Int.toNat),ck (fP ker)]:=by
  show D.ag [IvD rows,IvD cols,MxR ker]=_;rw[er,ec,ek]
 have hkm:=eT ker;obtain ⟨cA,hn⟩:=yo L G A.s hAl hAc Gk sk hkq hkc4 (fun h=>hkc (by omega)) (by omega) (by omega) hrn hcn certc;rw[← eC,← A.m,← A.t] at cA;rw[← A.m,← A.t] at cR;exact qQ cv cs ce r10 c10 cA cR (fun h=>(hn h).trans hrl)
end Lift

