/- Parts of the proof, one behind the other: the logic, the contracts of the functions that the statement reaches. -/
import Derived.Test.YtfakkdmfofiibaaGreatT2E
set_option linter.unusedVariables false
set_option linter.unusedSimpArgs false
namespace Lift
open Go Go.Proofs
def FH(a:List RD):Prop:=a.length≤4398046511104∧ ∀i,(a.getD i default).w big
def Nb2(b:List (List RD)):Prop:=b.length≤140737488355328∧ ∀i,FH (b.getD i [])
def Nb3(a:List (List (List RD))):Prop:=a.length≤140737488355328∧ ∀i,Nb2 (a.getD i [])
theorem u9{f:Nat→Nat}: ∀{m i:Nat},fE f m i=0→ ∀k,i≤k→k<i+m→f k=0
 | 0,i,_,k,h1,h2=>by omega
 | m+1,i,h,k,h1,h2=>by
   rw[fE] at h;split at h
   · rename_i h0;by_cases e:k=i
     · subst e;exact h0
     · exact u9 h k (by omega) (by omega)
   · rename_i h0;exact absurd h h0
theorem yo{α:Type}(g:α→Bool){d:α}{l:List α}{i:Nat}(h:i<l.length):(l.drop i).all g=(g (l.getD i d)&&(l.drop (i+1)).all g):=by
 rw[List.drop_eq_getElem_cons h,List.all_cons,List.getD_eq_getElem?_getD,List.getElem?_eq_getElem h];rfl
theorem vn{α:Type}(g:α→Bool){l:List α}{i:Nat}(h: ¬i<l.length):(l.drop i).all g=true:=by
 rw[List.drop_eq_nil_of_le (by omega)];rfl
theorem vm{α:Type}{g:α→Bool}{l:List α}(h:l.all g=true){d:α}{i:Nat}(hi:i<l.length):g (l.getD i d)=true:=by
 rw[List.getD_eq_getElem?_getD,List.getElem?_eq_getElem hi];exact List.all_eq_true.1 h _ (List.getElem_mem hi)
def z2(x:List RD):Bool:=decide (x.length≤4)&&x.all jj
def c8(l:List (List RD)):Bool:=l.all z2
theorem ir(l:List (List RD))(hl:Nb2 l):Pure Tryz.prog 31 [RwR l] (dB (c8 l)):=by
 refine qJ 27 Tryz.func31 rfl rfl rfl rfl (by kernel_rfl) (fun B0 F0 w0=>?_);obtain ⟨hl1,hl2⟩:=hl;obtain ⟨E,hE⟩: ∃E,(l.drop 0).all z2=E:=⟨_,rfl⟩;rw[show c8 l=E from hE];refine qX 1 rfl ?_;refine qI ?_;refine qX 2 rfl ?_;rw[List.length_map];refine qU 1 rfl ?_;refine ab.nil ?_;refine AW.block ?_;refine AW.aE [7,8,9] (fun i:Nat=>[(7,.d (RwR l)),(8,.d (dI l.length)),(9,.d (dI i))]) (fun i=>i≤l.length∧(l.drop i).all z2=E) (fun i=>l.length-i) 0 rfl ⟨Nat.zero_le _,hE⟩ (fun i ⟨hi,hiE⟩=>?_)
 · show AW _ _ _ _ _ _ _ [(7,.d (RwR l)),(8,.d (dI l.length)),(9,.d (dI i))];refine qX 1 rfl ?_;refine qI ?_;refine AW.cond rfl (fun h=>?_) (fun h=>?_)
   · have hii:i<l.length:=by have:=of_decide_eq_true h;omega
     have g1:=getM cF (l:=l) (i:=i) hii;have hx:=hl2 i;have hat:=(yo z2 (d:=[]) hii).symm.trans hiE;change (z2 (l.getD i default)&&_)=E at hat;generalize l.getD i default=x at g1 hx hat;obtain ⟨hx1,hx2⟩:=hx;refine AW.skip (AW.seq (AW.block (AW.seq (AW.region ?_))));refine ab.idx tok (cF x) rfl rfl rfl rfl (Int.natCast_nonneg i) g1 ?_;refine qU 2 rfl ?_;refine qI ?_;refine qX 2 rfl ?_;rw[List.length_map];refine qU 1 rfl ?_;refine ab.nil ?_;refine AW.cond rfl (fun h=>?_) (fun h=>?_)
     · have h4: ¬x.length≤4:=by have:=of_decide_eq_true h;omega
       have hs:z2 x=false:=by unfold z2;rw[decide_eq_false h4];rfl
       rw[hs] at hat;rw[← hat];refine qX 1 rfl ?_;exact qN rfl
     · have h4:x.length≤4:=by have:=of_decide_eq_false h;omega
       obtain ⟨X,hX⟩: ∃X,(x.drop 0).all jj=X:=⟨_,rfl⟩;have hs:z2 x=X:=by unfold z2;rw[decide_eq_true h4];exact hX
       rw[hs] at hat;refine AW.skip ?_;refine qX 2 rfl ?_;rw[List.length_map];refine qU 1 rfl ?_;refine ab.nil ?_;refine AW.block ?_;refine AW.aE [7,8,9,16,17,18] (fun k:Nat=>[(7,.d (RwR l)),(8,.d (dI l.length)),(9,.d (dI i)),(16,.d (cF x)),(17,.d (dI x.length)),(18,.d (dI k))]) (fun k=>k≤x.length∧(x.drop k).all jj=X) (fun k=>x.length-k) 0 rfl ⟨Nat.zero_le _,hX⟩ (fun k ⟨hk,hkX⟩=>?_)
       · show AW _ _ _ _ _ _ _ [(7,.d (RwR l)),(8,.d (dI l.length)),(9,.d (dI i)),(16,.d (cF x)),(17,.d (dI x.length)),(18,.d (dI k))];refine qX 1 rfl ?_;refine qI ?_;refine AW.cond rfl (fun h=>?_) (fun h=>?_)
         · have hkk:k<x.length:=by have:=of_decide_eq_true h;omega
           have g2:=getM RD.D (l:=x) (i:=k) hkk;have ct:=sW (x.getD k default) (hx2 k) (by unfold big;omega);have hatk:=(yo jj (d:=default) hkk).symm.trans hkX;generalize x.getD k default=r at g2 ct hatk;refine AW.skip (AW.seq (AW.block (AW.seq (AW.region ?_))));refine ab.idx tok r.D rfl rfl rfl rfl (Int.natCast_nonneg k) g2 ?_;refine qU 3 rfl ?_;refine qK 1 rfl ?_;refine ab.call tok rfl rfl rfl rfl ct ?_;refine qU 1 rfl ?_;refine ab.nil ?_;refine AW.cond rfl (fun h=>?_) (fun h=>?_)
           · have ht:jj r=false:=by cases g:jj r;rfl;rw[g] at h;cases h
             rw[ht] at hatk;rw[← hatk] at hat;rw[← hat];refine qX 1 rfl ?_;exact qN rfl
           · have ht:jj r=true:=by cases g:jj r;rw[g] at h;cases h;rfl
             rw[ht] at hatk;refine AW.skip ?_;refine qT 1 rfl ?_;rw[aC (x:=(k:Int)+1) (by omega) (by omega)];refine qU 1 rfl ?_;refine ab.nil ?_;exact⟨k+1,rfl,⟨hkk,hatk⟩,by omega⟩
         have hkk: ¬k<x.length:=by have:=of_decide_eq_false h;omega
         rw[vn jj hkk] at hkX;rw[← hkX] at hat;refine AW.exit ?_;refine qT 1 rfl ?_;rw[aC (x:=(i:Int)+1) (by omega) (by omega)];refine qU 1 rfl ?_;refine ab.nil ?_;exact⟨i+1,rfl,⟨hii,hat⟩,by omega⟩
   have hii: ¬i<l.length:=by have:=of_decide_eq_false h;omega
   rw[vn z2 hii] at hiE;rw[← hiE];refine AW.exit ?_;refine qX 1 rfl ?_;exact qN rfl
def gr(n:Nat):Bool:=(decide (4<n)&&decide (n≤32))||decide (40<n)
def vv(r:List (List RD)):Bool:= !(gr r.length|| !c8 r)
def kH(a:List (List (List RD))):Bool:= !gr a.length&&a.all vv
theorem rH(a:List (List (List RD)))(ha:Nb3 a):Pure Tryz.prog 11 [MxR a] (dB (kH a)):=by
 refine qJ 43 Tryz.func11 rfl rfl rfl rfl (by kernel_rfl) (fun B0 F0 w0=>?_);obtain ⟨ha1,ha2⟩:=ha;obtain ⟨E,hE⟩: ∃E,(a.drop 0).all vv=E:=⟨_,rfl⟩;unfold kH;rw[show a.all vv=E from hE];refine qX 1 rfl ?_;refine ab.nil ?_;refine AW.cut [0] (fun _:Unit=>[(0,.d (MxR a))]) (fun _=>gr a.length=false) ?_ (fun _ hs=>?_)
 · refine qX 2 rfl ?_;rw[List.length_map];refine qU 1 rfl ?_;by_cases hp:4<a.length
   · rw[decide_eq_true (show (4:Int)<(a.length:Int) by omega)];refine qU 3 rfl ?_;rw[List.length_map];refine qU 1 rfl ?_;by_cases hq:a.length≤32
     · rw[decide_eq_true (show (a.length:Int)≤32 by omega)];have hz:gr a.length=true:=by unfold gr;rw[decide_eq_true hp,decide_eq_true hq];rfl
       refine qU 6 rfl ?_;rw[hz];refine ab.nil ?_;refine AW.aF rfl ?_;refine qX 1 rfl ?_;exact qN rfl
     · rw[decide_eq_false (show ¬(a.length:Int)≤32 by omega)];refine qU 4 rfl ?_;rw[List.length_map];refine qU 1 rfl ?_;by_cases hr:40<a.length
       · rw[decide_eq_true (show (40:Int)<(a.length:Int) by omega)];have hz:gr a.length=true:=by unfold gr;rw[decide_eq_true hp,decide_eq_false hq,decide_eq_true hr];rfl
         refine qU 1 rfl ?_;rw[hz];refine ab.nil ?_;refine AW.aF rfl ?_;refine qX 1 rfl ?_;exact qN rfl
       · rw[decide_eq_false (show ¬(40:Int)<(a.length:Int) by omega)];have hz:gr a.length=false:=by unfold gr;rw[decide_eq_true hp,decide_eq_false hq,decide_eq_false hr];rfl
         refine qU 1 rfl ?_;refine ab.nil ?_;refine AW.au rfl ?_;refine AW.skip ?_;exact⟨(),rfl,hz⟩
   · rw[decide_eq_false (show ¬(4:Int)<(a.length:Int) by omega)];refine qU 7 rfl ?_;refine qU 1 rfl ?_;rw[List.length_map];refine qU 1 rfl ?_;by_cases hr:40<a.length
     · rw[decide_eq_true (show (40:Int)<(a.length:Int) by omega)];have hz:gr a.length=true:=by unfold gr;rw[decide_eq_false hp,decide_eq_true hr];rfl
       refine qU 1 rfl ?_;rw[hz];refine ab.nil ?_;refine AW.aF rfl ?_;refine qX 1 rfl ?_;exact qN rfl
     · rw[decide_eq_false (show ¬(40:Int)<(a.length:Int) by omega)];have hz:gr a.length=false:=by unfold gr;rw[decide_eq_false hp,decide_eq_false hr];rfl
       refine qU 1 rfl ?_;refine ab.nil ?_;refine AW.au rfl ?_;refine AW.skip ?_;exact⟨(),rfl,hz⟩
 rw[hs,show (!false&&E)=E from rfl]
 · show AW _ _ _ _ _ _ _ [(0,.d (MxR a))];refine AW.seq ?_;refine qX 2 rfl ?_;rw[List.length_map];refine qU 1 rfl ?_;refine ab.nil ?_;refine AW.block ?_;refine AW.aE [18,19,20] (fun i:Nat=>[(18,.d (MxR a)),(19,.d (dI a.length)),(20,.d (dI i))]) (fun i=>i≤a.length∧(a.drop i).all vv=E) (fun i=>a.length-i) 0 rfl ⟨Nat.zero_le _,hE⟩ (fun i ⟨hi,hiE⟩=>?_)
   · show AW _ _ _ _ _ _ _ [(18,.d (MxR a)),(19,.d (dI a.length)),(20,.d (dI i))];refine qX 1 rfl ?_;refine qI ?_;refine AW.cond rfl (fun h=>?_) (fun h=>?_)
     · have hii:i<a.length:=by have:=of_decide_eq_true h;omega
       have g1:=getM RwR (l:=a) (i:=i) hii;have cs:=ir (a.getD i []) (ha2 i);have hr1:=(ha2 i).1;have hat:=(yo vv (d:=[]) hii).symm.trans hiE;change (vv (a.getD i default)&&_)=E at hat;change Pure _ _ [RwR (a.getD i default)] (dB (c8 (a.getD i default))) at cs;change (a.getD i default).length≤_ at hr1;generalize a.getD i default=r at g1 hat cs hr1;refine AW.skip (AW.seq (AW.block (AW.seq (AW.region ?_))));refine ab.idx tok (RwR r) rfl rfl rfl rfl (Int.natCast_nonneg i) g1 ?_;refine qU 2 rfl ?_;refine qK 2 rfl ?_;rw[List.length_map];refine qU 1 rfl ?_;by_cases hp:4<r.length
       · rw[decide_eq_true (show (4:Int)<(r.length:Int) by omega)];refine qU 3 rfl ?_;rw[List.length_map];refine qU 1 rfl ?_;by_cases hq:r.length≤32
         · rw[decide_eq_true (show (r.length:Int)≤32 by omega)];have hz:gr r.length=true:=by unfold gr;rw[decide_eq_true hp,decide_eq_true hq];rfl
           refine qU 11 rfl ?_;have hm:vv r=false:=by unfold vv;rw[hz];rfl
           rw[hm] at hat;rw[← hat];refine ab.nil ?_;refine AW.aF rfl ?_;refine qX 1 rfl ?_;exact qN rfl
         · rw[decide_eq_false (show ¬(r.length:Int)≤32 by omega)];refine qU 4 rfl ?_;rw[List.length_map];refine qU 1 rfl ?_;by_cases hr:40<r.length
           · rw[decide_eq_true (show (40:Int)<(r.length:Int) by omega)];have hz:gr r.length=true:=by unfold gr;rw[decide_eq_true hp,decide_eq_false hq,decide_eq_true hr];rfl
             refine qU 6 rfl ?_;have hm:vv r=false:=by unfold vv;rw[hz];rfl
             rw[hm] at hat;rw[← hat];refine ab.nil ?_;refine AW.aF rfl ?_;refine qX 1 rfl ?_;exact qN rfl
           · rw[decide_eq_false (show ¬(40:Int)<(r.length:Int) by omega)];have hz:gr r.length=false:=by unfold gr;rw[decide_eq_true hp,decide_eq_false hq,decide_eq_false hr];rfl
             refine qU 3 rfl ?_;refine ab.call tok rfl rfl rfl rfl cs ?_;refine qU 2 rfl ?_;refine ab.nil ?_;have hm:vv r=c8 r:=by unfold vv;rw[hz];cases c8 r<;>rfl
             rw[hm] at hat;generalize c8 r=s at *;cases s with
             | false =>
               rw[← hat];refine AW.aF rfl ?_;refine qX 1 rfl ?_;exact qN rfl
             | true =>
               refine AW.au rfl ?_;refine AW.skip ?_;refine qT 1 rfl ?_;rw[aC (x:=(i:Int)+1) (by omega) (by omega)];refine qU 1 rfl ?_;refine ab.nil ?_;exact⟨i+1,rfl,⟨hii,hat⟩,by omega⟩
       · rw[decide_eq_false (show ¬(4:Int)<(r.length:Int) by omega)];refine qU 7 rfl ?_;refine qU 1 rfl ?_;rw[List.length_map];refine qU 1 rfl ?_;by_cases hr:40<r.length
         · rw[decide_eq_true (show (40:Int)<(r.length:Int) by omega)];have hz:gr r.length=true:=by unfold gr;rw[decide_eq_false hp,decide_eq_true hr];rfl
           refine qU 6 rfl ?_;have hm:vv r=false:=by unfold vv;rw[hz];rfl
           rw[hm] at hat;rw[← hat];refine ab.nil ?_;refine AW.aF rfl ?_;refine qX 1 rfl ?_;exact qN rfl
         · rw[decide_eq_false (show ¬(40:Int)<(r.length:Int) by omega)];have hz:gr r.length=false:=by unfold gr;rw[decide_eq_false hp,decide_eq_false hr];rfl
           refine qU 3 rfl ?_;refine ab.call tok rfl rfl rfl rfl cs ?_;refine qU 2 rfl ?_;refine ab.nil ?_;have hm:vv r=c8 r:=by unfold vv;rw[hz];cases c8 r<;>rfl
           rw[hm] at hat;generalize c8 r=s at *;cases s with
           | false =>
             rw[← hat];refine AW.aF rfl ?_;refine qX 1 rfl ?_;exact qN rfl
           | true =>
             refine AW.au rfl ?_;refine AW.skip ?_;refine qT 1 rfl ?_;rw[aC (x:=(i:Int)+1) (by omega) (by omega)];refine qU 1 rfl ?_;refine ab.nil ?_;exact⟨i+1,rfl,⟨hii,hat⟩,by omega⟩
     have hii: ¬i<a.length:=by have:=of_decide_eq_false h;omega
     rw[vn vv hii] at hiE;rw[← hiE];refine AW.exit ?_;refine qX 1 rfl ?_;exact qN rfl
def sU(rt:List (List RD)):Bool:=(decide (rt.length≤1)||(decide (5<rt.length)&&decide (rt.length<9)))&&c8 rt
theorem uX(rt:List (List RD))(hr:Nb2 rt):Pure Tryz.prog 10 [TrD rt] (dB (sU rt)):=by
 refine qJ 24 Tryz.func10 rfl rfl rfl rfl (by kernel_rfl) (fun B0 F0 w0=>?_);have cs:=ir rt hr;have hr1:=hr.1;unfold sU;generalize c8 rt=s at cs ⊢;refine qX 2 rfl ?_;refine qK 3 rfl ?_;rw[List.length_map];refine qU 1 rfl ?_;by_cases h1:rt.length≤1
 · rw[decide_eq_true (show (rt.length:Int)≤1 by omega),decide_eq_true h1];refine qU 15 rfl ?_;refine ab.call tok rfl rfl rfl rfl cs ?_;refine qU 2 rfl ?_;exact qN rfl
 rw[decide_eq_false (show ¬(rt.length:Int)≤1 by omega),decide_eq_false h1];refine qU 4 rfl ?_;rw[List.length_map];refine qU 1 rfl ?_;by_cases h2:5<rt.length;rotate_left
 · rw[decide_eq_false (show ¬(5:Int)<(rt.length:Int) by omega),decide_eq_false h2];refine qU 13 rfl ?_;exact qN rfl
 rw[decide_eq_true (show (5:Int)<(rt.length:Int) by omega),decide_eq_true h2];refine qU 4 rfl ?_;rw[List.length_map];refine qU 1 rfl ?_;by_cases h3:rt.length<9;rotate_left
 · rw[decide_eq_false (show ¬(rt.length:Int)<9 by omega),decide_eq_false h3];refine qU 8 rfl ?_;exact qN rfl
 rw[decide_eq_true (show (rt.length:Int)<9 by omega),decide_eq_true h3];refine qU 5 rfl ?_;refine ab.call tok rfl rfl rfl rfl cs ?_;refine qU 2 rfl ?_;exact qN rfl
theorem Eb{x:List RD}(h:z2 x=true)(nb:FH x):x.length≤4∧wN 2 x:=by
 unfold z2 at h;rw[Bool.and_eq_true] at h;refine⟨of_decide_eq_true h.1,fun i hi=>?_⟩;obtain ⟨t1,t2⟩:=Aj (vm h.2 (d:=default) hi);obtain ⟨w1,w2,w3,w4⟩:=nb.2 i;exact⟨w1,w2,by omega,by omega⟩
theorem Bc:FH []:=⟨Nat.zero_le _,fun _=>⟨fun _ h=>(by cases h),fun _ h=>(by cases h),Nat.zero_le _,Nat.zero_le _⟩⟩
theorem Ab(k:Nat):wN k []:=fun i hi=>absurd hi (Nat.not_lt_zero i)
theorem lD{l:List (List RD)}(h:c8 l=true)(nb:Nb2 l)(i:Nat):(l.getD i []).length≤4∧wN 2 (l.getD i []):=by
 by_cases hi:i<l.length
 · exact Eb (vm h (d:=[]) hi) (nb.2 i)
 · rw[List.getD_eq_getElem?_getD,List.getElem?_eq_none (by omega)];exact⟨Nat.zero_le _,Ab 2⟩
theorem uV{rt:List (List RD)}(h:sU rt=true)(nb:Nb2 rt):ER 2 rt∧(rt.length≤5→rt.length≤1):=by
 unfold sU at h;rw[Bool.and_eq_true,Bool.or_eq_true,Bool.and_eq_true] at h;obtain ⟨h1,h2⟩:=h
 have hl:rt.length<9∧(rt.length≤5→rt.length≤1):=by
  rcases h1 with h1 | ⟨h1,h3⟩
  · have:=of_decide_eq_true h1;omega
  · have:=of_decide_eq_true h1;have:=of_decide_eq_true h3;omega
 refine⟨⟨fun i _ _=>(lD h2 nb i).2,by decide,by omega,fun i _=>by have:=(lD h2 nb i).1;omega,fun h5=>rk (hl.2 h5) (by decide),by decide⟩,hl.2⟩
theorem wz{rt:List (List RD)}(h:sU rt=true)(nb:Nb2 rt)(h0:ck rt=0):Ds 2 rt∧rt.length≤1:=by
 obtain ⟨T,h1⟩:=uV h nb;have h5:=(jD h0).1;exact⟨⟨⟨2,by decide,Nat.le_refl _,T.w,T.ok⟩,by decide,T.l,T.ll⟩,h1 h5⟩
theorem qH{rt:List (List RD)}{a:List (List (List RD))}(h:kH a=true)(nb:Nb3 a):B9 2 rt a∧(a.length≤32→a.length≤4)∧(∀i,(a.getD i []).length≤32→(a.getD i []).length≤4):=by
 unfold kH at h;rw[Bool.and_eq_true] at h
 have sz: ∀n,(!gr n)=true→n≤40∧(n≤32→n≤4):=fun n hn=>by
  unfold gr at hn;simp at hn;omega
 have hr: ∀i,(a.getD i []).length≤40∧((a.getD i []).length≤32→(a.getD i []).length≤4)∧ ∀k,((a.getD i []).getD k []).length≤4∧wN 2 ((a.getD i []).getD k []):=fun i=>by
  by_cases hi:i<a.length
  · have g:=vm h.2 (d:=[]) hi;unfold vv at g;rw[Bool.not_or,Bool.not_not,Bool.and_eq_true] at g;have s1:=sz _ g.1;exact⟨s1.1,s1.2,fun k=>lD g.2 (nb.2 i) k⟩
  · rw[List.getD_eq_getElem?_getD,List.getElem?_eq_none (by omega)];exact⟨Nat.zero_le _,fun _=>Nat.zero_le _,fun k=>⟨Nat.zero_le _,Ab 2⟩⟩
 have s0:=sz _ h.1;exact⟨⟨fun i k=>⟨fun _=>((hr i).2.2 k).2,by have:=((hr i).2.2 k).1;omega⟩,by omega,fun i=>by have:=(hr i).1;omega⟩,s0.2,fun i=>(hr i).2.1⟩
def oI(a:List (List (List RD))):bw:=a.map fun r=>r.map bm
theorem kQ(a:List (List (List RD))):(oI a).length=a.length:=List.length_map ..
theorem rz(a:List (List (List RD)))(i:Nat):(oI a).getD i []=(a.getD i []).map bm:=by
 unfold oI;rw[List.getD_eq_getElem?_getD,List.getElem?_map,List.getD_eq_getElem?_getD];cases a[i]? with
 | none=>rfl
 | some r=>rfl
theorem qQ(r:List (List RD))(k:Nat):(r.map bm).getD k []=bm (r.getD k []):=by
 rw[List.getD_eq_getElem?_getD,List.getElem?_map,List.getD_eq_getElem?_getD];cases r[k]? with
 | none=>rfl
 | some x=>rfl
theorem lI(a:List (List (List RD))):ah (oI a)=ah a:=by unfold ah;rw[rz,List.length_map]
structure Acc (rt:List (List RD)) (a:List (List (List RD))) (v:List NQ) (q:bw):Prop where
 L:Lo v
 G:uf v q
 s:mj 2 q
 l4:q.length≤4
 c4:ah q≤4
 t:TrD rt=bC v
 m:MxR a=cZ q
 vl:v.length=rt.length
 al:q.length=a.length
 ac:ah q=ah a
theorem CJ{rt:List (List RD)}{r:List (List RD)}(h0:ck rt=0)(h:ja rt r=0){k:Nat}(hk:k<r.length):a6 rt.length (r.getD k [])=0:=by
 rw[vP h0] at h;exact u9 h k (Nat.zero_le _) (by omega)
theorem Dr{rt:List (List RD)}(h1:sU rt=true)(n1:Nb2 rt)(h0:ck rt=0):Lo (rt.map bm)∧TrD rt=bC (rt.map bm):=by
 obtain ⟨T,l1⟩:=wz h1 n1 h0;exact⟨⟨nV.of T h0,by rw[List.length_map];exact l1⟩,(Dw T h0).eq⟩
theorem yN{rt:List (List RD)}{r:List (List RD)}(hn: ∀k,yq 2 rt (r.getD k []))(h: ∀k,k<r.length→a6 rt.length (r.getD k [])=0):RwR r=bu (r.map bm)∧(∀k,aq rt.length ((r.map bm).getD k []))∧(∀k,ar 2 ((r.map bm).getD k [])):=by
 have g:=fun k (hk:k<r.length)=>Bb (by decide) (hn k) (h k hk);refine⟨?_,fun k=>?_,fun k=>?_⟩
 · show D.sl 1 (r.map cF)=D.sl 1 ((r.map bm).map af);rw[List.map_map]
   congr 1
   refine List.map_congr_left fun x hx=>?_;obtain ⟨k,hk,e⟩:=List.getElem_of_mem hx;have:=(g k hk).2.2;rw[List.getD_eq_getElem?_getD,List.getElem?_eq_getElem hk] at this;rw[← e];exact this
 · rw[qQ];by_cases hk:k<r.length
   · exact(g k hk).1
   · rw[List.getD_eq_getElem?_getD,List.getElem?_eq_none (by omega)];exact bd _
 · rw[qQ];by_cases hk:k<r.length
   · exact(g k hk).2.1
   · rw[List.getD_eq_getElem?_getD,List.getElem?_eq_none (by omega)];exact bb (by decide)
theorem EO{rt:List (List RD)}{a:List (List (List RD))}(h1:sU rt=true)(n1:Nb2 rt)(h2:kH a=true)(n2:Nb3 a)(h:kf rt a=0):Acc rt a (rt.map bm) (oI a):=by
 have h0:ck rt=0:=by
  unfold kf at h;split at h
  · rename_i g;exact absurd h g
  · omega
 have hm:rA rt a=0:=by
  unfold kf at h;rw[if_neg (by rw[h0];simp)] at h;exact h
 obtain ⟨L,ht⟩:=Dr h1 n1 h0;obtain ⟨M,l4,r4⟩:=qH (rt:=rt) h2 n2
 have key:a.length≤4∧ah a≤4∧(∀j,j<a.length→(a.getD j []).length=ah a)∧(∀j,j<a.length→ja rt (a.getD j [])=0):=by
  unfold rA at hm;by_cases e0:a.length=0
  · refine⟨by omega,?_,fun j hj=>by omega,fun j hj=>by omega⟩;unfold ah;rw[List.getD_eq_getElem?_getD,List.getElem?_eq_none (by omega)];exact Nat.zero_le _
  · rw[if_neg e0] at hm;by_cases e1:32<a.length∨32<ah a
    · rw[if_pos e1] at hm;cases hm
    · rw[if_neg e1] at hm;have e2:fE (tG a) (a.length-0) 0=0:=Classical.byContradiction fun g=>by rw[if_pos g] at hm;exact g hm
      rw[if_neg (by rw[e2];simp)] at hm;refine⟨l4 (by omega),r4 0 (show ah a≤32 by omega),fun j hj=>?_,fun j hj=>u9 hm j (Nat.zero_le _) (by omega)⟩;have:=u9 e2 j (Nat.zero_le _) (by omega);unfold tG at this;exact Classical.byContradiction fun g=>by rw[if_pos g] at this;cases this
 obtain ⟨k1,k2,k3,k4⟩:=key;have rw1:=fun i (hi:i<a.length)=>yN (M.n i) (fun k hk=>CJ h0 (k4 i hi) hk);have hvl:(rt.map bm).length=rt.length:=List.length_map ..
 have el: ∀i k,aq rt.length (bX (oI a) i k)∧ar 2 (bX (oI a) i k):=fun i k=>by
  by_cases hi:i<a.length
  · have:=rw1 i hi;unfold bX;rw[rz];exact⟨this.2.1 k,this.2.2 k⟩
  · unfold bX;rw[lO (by rw[kQ];omega)];exact⟨bd _,bb (by decide)⟩
 refine⟨L,⟨by rw[kQ];omega,fun j hj=>?_,by rw[lI];omega,fun i k=>by rw[hvl];exact(el i k).1⟩,fun i k=>(el i k).2,by rw[kQ];exact k1,by rw[lI];exact k2,ht,?_,hvl,kQ a,lI a⟩
 · rw[kQ] at hj;rw[rz,List.length_map,lI];exact k3 j hj
 · show D.sl 1 (a.map RwR)=D.sl 1 ((oI a).map bu);unfold oI;rw[List.map_map]
   congr 1
   refine List.map_congr_left fun r hr=>?_;obtain ⟨k,hk,e⟩:=List.getElem_of_mem hr;have:=(rw1 k hk).1;rw[List.getD_eq_getElem?_getD,List.getElem?_eq_getElem hk] at this;rw[← e];exact this
def n6(rt:List (List RD))(a:List (List (List RD))):Bool:=(sU rt&&kH a)&&decide (kf rt a=0)
theorem rG(rt:List (List RD))(a:List (List (List RD)))(n1:Nb2 rt)(n2:Nb3 a):Pure Tryz.prog 24 [TrD rt,MxR a] (dB (n6 rt a)):=by
 refine qJ 17 Tryz.func24 rfl rfl rfl rfl (by kernel_rfl) (fun B0 F0 w0=>?_);have c1:=uX rt n1;have c2:=rH a n2;have c3:=fun h1:sU rt=true=>fun h2:kH a=true=>uE (uV h1 n1).1 (qH (rt:=rt) h2 n2).1;unfold n6;generalize sU rt=b1 at c1 c3 ⊢;generalize kH a=b2 at c2 c3 ⊢;generalize kf rt a=z at c3 ⊢;refine qX 2 rfl ?_;refine qK 1 rfl ?_;refine ab.call tok rfl rfl rfl rfl c1 ?_;cases b1 with
 | false =>
   refine qU 11 rfl ?_;exact qN rfl
 | true =>
 refine qU 2 rfl ?_;refine ab.call tok rfl rfl rfl rfl c2 ?_;cases b2 with
 | false =>
   refine qU 8 rfl ?_;exact qN rfl
 | true =>
 refine qU 4 rfl ?_;refine ab.call tok rfl rfl rfl rfl (c3 rfl rfl) ?_;refine qU 3 rfl ?_;rw[show ((z:Int)==0)=decide (z=0) by by_cases h:z=0<;>simp[h]];exact qN rfl
end Lift
namespace Lift
open Go Go.Proofs
theorem Fl:RT Tryz.prog 53 (List RD) (fun l=>[cF l]) (fun l=>FH l) :=
 (RT.sliceB 32 (el:=RD.D) (s:=3) Tryz.underlying53 (by kernel_rfl) (by kernel_rfl) (by decide) (Nat.le_of_ble_eq_true (by kernel_rfl)) E1 (fun v=>rfl)).map id (fun l h=>rfl) (fun l h=>⟨by have:=h.1;unfold reachBytes at this;show l.length≤_;omega,u5 (fun v hv=>(h.2 v hv).mono (by decide)) ⟨fun _ h=>(by cases h),fun _ h=>(by cases h),Nat.zero_le _,Nat.zero_le _⟩⟩) (fun v=>⟨by kernel_rfl,fun d hd=>by simp at hd;subst hd;rfl⟩)
theorem n_nums:RT Tryz.prog 22 (List (List RD)) (fun l=>[RwR l]) (fun l=>Nb2 l) :=
 (RT.slice (el:=cF) (s:=1) (by kernel_rfl) (by kernel_rfl) (by kernel_rfl) (by decide) (Nat.le_of_ble_eq_true (by kernel_rfl)) Fl (fun v=>rfl)).map id (fun l h=>rfl) (fun l h=>⟨Nat.le_trans h.1 (by decide),fun i=>u5 (p:=FH) (l:=l) h.2 Bc i⟩) (fun v=>⟨by kernel_rfl,fun d hd=>by simp at hd;subst hd;rfl⟩)
theorem CX:Nb2 []:=⟨Nat.zero_le _,fun _=>Bc⟩
theorem n_mat:RT Tryz.prog 25 (List (List (List RD))) (fun l=>[MxR l]) (fun l=>Nb3 l) :=
 (RT.slice (el:=RwR) (s:=1) (by kernel_rfl) (by kernel_rfl) (by kernel_rfl) (by decide) (Nat.le_of_ble_eq_true (by kernel_rfl)) n_nums (fun v=>rfl)).map id (fun l h=>rfl) (fun l h=>⟨Nat.le_trans h.1 (by decide),fun i=>u5 (p:=Nb2) (l:=l) h.2 CX i⟩) (fun v=>⟨by kernel_rfl,fun d hd=>by simp at hd;subst hd;rfl⟩)
theorem n_tower:RT Tryz.prog 24 (List (List RD)) (fun l=>[RwR l]) (fun l=>Nb2 l):=by
 have h:=RT.struct (P:=Tryz.prog) (t:=24) (m:=1) Tryz.underlying24 (by kernel_rfl) (z6.cons (by kernel_rfl) n_nums z6.nil) (fun v=>rfl);exact h.map (fun v=>v.1) (fun v h=>rfl) (fun v h=>h.1) (fun v=>⟨by kernel_rfl,fun d hd=>by simp at hd;subst hd;rfl⟩)
end Lift
namespace Lift
open Go Go.Proofs
theorem zE{m k:Nat}{v:List NQ}{a b:NQ}(V:nV m v)(ha:aq v.length a)(sa:ar k a)(hb:aq v.length b)(sb:ar k b)(hk:k≤17300000000000):Pure Tryz.prog 110 [bC v,.sl 1 [af a,af b]] (dI 0):=by
 have T:=V.raw.1;obtain ⟨m0,t1,t2,tw,tk⟩:=T.t
 have h0: ∀i,i<[dJ a,dJ b].length→i=0∨i=1:=fun i hi=>by
  have:i<2:=hi;omega
 have hl:=ha.len (by have:=V.l5;omega);have hl2:=hb.len (by have:=V.l5;omega)
 have h:=sL (jR v) [dJ a,dJ b] tw t1 T.l T.ll tk (fun i hi _=>by rcases h0 i hi with rfl | rfl;exact ov sa;exact ov sb) (show 2≤1000000 by decide) (fun i hi=>by
  rcases h0 i hi with rfl | rfl
  · show (dJ a).length≤_;rw[gd];omega
  · show (dJ b).length≤_;rw[gd];omega) hk
 rw[ck2 V ha hb,mA] at h;have e:[dJ a,dJ b].map cF=[af a,af b]:=by show [cF (dJ a),cF (dJ b)]=_;rw[ox,ox]
 rw[e] at h;exact h
theorem AT{m k:Nat}{v:List NQ}{a b:NQ}(V:nV m v)(ha:aq v.length a)(sa:ar k a)(hb:aq v.length b)(sb:ar k b)(hm:m≤2*k+1)(hk:ny v.length (2*k+1)):Pure Tryz.prog 65 [bC v,af a,af b] (.tu [dI (aT v v.length (cf (aJ a (aL b)))),dI 0]):=by
 refine qJ 23 Tryz.func65 rfl rfl rfl rfl (by kernel_rfl) (fun B F0 w0=>?_);have hk2:=rl hk;have ce:=zE V ha sa hb sb (by omega);have h5:=V.l5;have la:=ha.len (by omega);have lb:=hb.len (by omega);have cl:=pk b sb (by omega) (by omega);have cp:=iS a (aL b) sa sb.minus (by omega) (by omega) (by rw[eP];omega);have hp:=ha.plus hb.minus;have cg:=kK v.length (xs:=v.map af) hp h5 V.ro (Nat.le_refl _) (fun j hj=>y7 hj) ((sa.plus sb.minus).mono (by omega)) (V.sz.mono hm) hk;rw[jl v.length hp V.ro V.pos (Nat.le_refl _)] at cg;refine qX 3 rfl ?_;refine qI ?_;refine qX 3 rfl ?_;refine ab.e7 tok rfl rfl rfl rfl rfl ?_;refine ab.call tok rfl rfl rfl rfl ce ?_;refine qU 1 rfl ?_;refine qK 2 rfl ?_;refine ab.nil ?_;refine AW.au rfl ?_
 · refine AW.skip (AW.seq ?_);refine AW.draw aM 6 (by kernel_rfl) ?_;refine qP 3 rfl ?_;refine ae.call tok rfl rfl rfl rfl rfl cl ?_;refine ae.call tok rfl rfl rfl rfl rfl cp ?_;refine ae.call tok rfl rfl rfl rfl rfl cg ?_;refine ae.nil ?_;refine qU 2 rfl ?_;exact qN rfl
end Lift
namespace Lift
open Go Go.Proofs
def pB:List NQ:=[[2]]
def y9:bw:=[[[1],[0,1]],[[0,1],[2]]]
def Bz:bw:=[[[1],[0,1]],[[0,1],[1]]]
theorem lP:Lo pB:=by
 have s2:ed 2 pB:=fun i=>match i with
  | 0=>hZ (by decide +kernel)
  | i+1=>bb (by decide)
 refine⟨⟨by decide,fun k hk=>?_,s2,fun k hk=>?_,by decide,2,by decide,by decide,s2,rk (by decide) (by decide)⟩,by decide⟩
 · have hk:k<1:=hk;obtain rfl:k=0:=by omega
   rfl
 · have hk:k<1:=hk;obtain rfl:k=0:=by omega
   decide +kernel
theorem y8{a:bw}(h:a=y9∨a=Bz):uf pB a∧mj 2 a∧a.length=2∧ah a=2:=by
 have hl: ∀b:bw,b=y9∨b=Bz→ ∀i k,aq 1 (bX b i k)∧ar 2 (bX b i k):=fun b hb i k=>by
  have key: ∀q:Rat,q=0∨q=1∨q=2→LQ q≤2:=fun q hq=>by rcases hq with rfl | rfl | rfl<;>decide +kernel
  have g1: ∀q:Rat,LQ q≤2→aq 1 [q]∧ar 2 [q]:=fun q hq=>⟨gT _ _,hZ hq⟩
  have g2:aq 1 [(0:Rat),1]∧ar 2 [(0:Rat),1]:=⟨.inr ⟨1,by decide,rfl⟩,fun c=>match c with
   | 0=>key 0 (.inl rfl)
   | 1=>key 1 (.inr (.inl rfl))
   | c+2=>lj (by decide)⟩
  have g0:aq 1 []∧ar 2 []:=⟨bd _,bb (by decide)⟩;rcases hb with rfl | rfl
  · match i,k with
    | 0,0=>exact g1 1 (key 1 (.inr (.inl rfl)))
    | 0,1=>exact g2
    | 0,k+2=>exact g0
    | 1,0=>exact g2
    | 1,1=>exact g1 2 (key 2 (.inr (.inr rfl)))
    | 1,k+2=>exact g0
    | i+2,k=>exact g0
  · match i,k with
    | 0,0=>exact g1 1 (key 1 (.inr (.inl rfl)))
    | 0,1=>exact g2
    | 0,k+2=>exact g0
    | 1,0=>exact g2
    | 1,1=>exact g1 1 (key 1 (.inr (.inl rfl)))
    | 1,k+2=>exact g0
    | i+2,k=>exact g0
 have hlen:a.length=2∧ah a=2:=by rcases h with rfl | rfl<;>exact⟨rfl,rfl⟩
 refine⟨⟨by omega,fun j hj=>?_,by omega,fun i k=>(hl a h i k).1⟩,fun i k=>(hl a h i k).2,hlen⟩;rcases h with rfl | rfl
 · match j,hj with
   | 0,_=>rfl
   | 1,_=>rfl
 · match j,hj with
   | 0,_=>rfl
   | 1,_=>rfl
theorem A5{v:List NQ}(L:Lo v):ny v.length 2:=rk L.l1 (by decide)
theorem Bw: ∀{n:Nat},n≤5→gI 2 n≤100000000000:=fun {n} h=>Nat.le_trans (f' h) (by decide)
theorem o9{v:List NQ}{a:bw}(L:Lo v)(G:uf v a)(hs:mj 2 a):Pure Tryz.prog 20 [bC v,cZ a] ao:=by
 obtain ⟨r1,r2⟩:=G.raw L.V hs;have cc:=gz (L.V.s (A5 L)) r1;rw[r2,mA,uB] at cc;exact cc
theorem qW{v:List NQ}{a:bw}(L:Lo v)(G:uf v a)(hs:mj 2 a)(hc:ah a≤5):Pure Tryz.prog 13 [bC v,cZ a] (.tu [dI (ot v a).cols.length,ao]) :=
 rE L.V (A5 L) G hs (L.red G.r G.lt hs (Bw hc)).1
theorem Cn{a:bw}{k:Nat}(hs:mj k a):mj k (dL a):=tn (p:=ar k) (bb hs.pos) hs
theorem sK{v:List NQ}{a:bw}(L:Lo v)(G:uf v a)(hs:mj 2 a)(hl:a.length≤5):Pure Tryz.prog 15 [bC v,cZ a] (.tu [vr (CL v a),ao]) :=
 lV L.V (A5 L) G hs (L.red (mr a) (qA G.lt) (Cn hs) (Bw hl)).1
theorem Dg{v:List NQ}{a:bw}{k:Nat}(L:Lo v)(hl:a.length≤5)(hr:cL a.length a)(lt:pI v.length a)(hs:mj k a)(hk:gI k a.length≤100000000000):Pure Tryz.prog 60 [bC v,cZ a] (.tu [af (yh v a),ao]):=by
 have R:=L.red hr lt hs hk;exact sQ L.V.a (by omega) hr lt R.1 ((R.2.2.1 _ (Nat.le_refl _)).mono (by omega))
theorem oO(n:Int)(h: -1000≤n∧n≤1000):Pure Tryz.prog 44 [.sl 1 [dI n]] (af [(n:Rat)]) :=
 px [n] (Nat.le_of_ble_eq_true rfl) (fun i=>match i with
  | 0=>h
  | i+1=>by show (-1000:Int)≤0∧(0:Int)≤1000;omega)
theorem xU:Pure Tryz.prog 44 [.sl 1 [dI 0,dI 1]] (af [(0:Rat),(1:Rat)]) :=
 px [0,1] (by decide) (fun i=>match i with
  | 0=>by decide
  | 1=>by decide
  | i+2=>by show (-1000:Int)≤0∧(0:Int)≤1000;omega)
theorem iu:Pure Tryz.prog 12 [] (dB true):=by
 refine qJ 97 Tryz.func12 rfl rfl rfl rfl (by kernel_rfl) (fun B F0 w0=>?_);obtain ⟨GA,sA,_,cA⟩:=y8 (.inl rfl);obtain ⟨GB,sB,lB,cB⟩:=y8 (.inr rfl);have c1:=qW lP GA sA (by decide);have c2:=sK lP GA sA (by decide);have c3:=sS (o9 lP GB sB) (by decide) (Dg lP (by decide) GB.r GB.lt sB (by decide));rw[show (ot pB y9).cols.length=1 by decide +kernel] at c1;rw[show CL pB y9=[1] by decide +kernel] at c2;rw[show yh pB Bz=[-1] by decide +kernel] at c3;have sm:ar 2 [(-1:Rat)]:=hZ (by decide +kernel);have lm:aq 1 [(-1:Rat)]:=gT _ _;have c4:=xl (v:=pB) (a:=[-1]) (b:=[-1]) lP.V.a lm lm (sm.mono (by decide)) (sm.mono (by decide)) (lP.sg (lm.plus lm.minus) (sm.plus sm.minus) (by decide));rw[show oh pB (aJ [-1] (aL [-1]))=0 by decide +kernel] at c4;have o1:=oO 1 (by decide);have o2:=oO 2 (by decide);have om:=oO (-1) (by decide);have o01:=xU;have cI:=s6 [1] [1] (by decide);have e1:((1:Int):Rat)=1:=rfl;have e2:((2:Int):Rat)=2:=rfl;have em:((-1:Int):Rat)= -1:=rfl;rw[e1] at o1;rw[e2] at o2;rw[em] at om;refine qX 1 rfl ?_;refine qI (AW.region ?_);refine ab.e7 tok rfl rfl rfl rfl rfl ?_;refine ab.call tok rfl rfl rfl rfl o2 ?_;refine ab.e7 tok rfl rfl rfl rfl rfl ?_;refine qU 3 rfl ?_;refine qI ?_;refine AW.draw aM 17 (by kernel_rfl) ?_;refine qP 1 rfl ?_;refine ae.e7 tok rfl rfl rfl rfl rfl rfl ?_;refine ae.call tok rfl rfl rfl rfl rfl o1 ?_;refine ae.e7 tok rfl rfl rfl rfl rfl rfl ?_;refine ae.call tok rfl rfl rfl rfl rfl o01 ?_;refine ae.e7 tok rfl rfl rfl rfl rfl rfl ?_;refine ae.e7 tok rfl rfl rfl rfl rfl rfl ?_;refine ae.call tok rfl rfl rfl rfl rfl o01 ?_;refine ae.e7 tok rfl rfl rfl rfl rfl rfl ?_;refine ae.call tok rfl rfl rfl rfl rfl o2 ?_;refine ae.e7 tok rfl rfl rfl rfl rfl rfl ?_;refine ae.e7 tok rfl rfl rfl rfl rfl rfl ?_;refine ae.call tok rfl rfl rfl rfl rfl c1 ?_;refine qP 4 rfl ?_;refine ae.nil ?_;refine qU 1 rfl ?_;refine qI ?_;refine AW.draw aM 17 (by kernel_rfl) ?_;refine qP 1 rfl ?_;refine ae.e7 tok rfl rfl rfl rfl rfl rfl ?_;refine ae.call tok rfl rfl rfl rfl rfl o1 ?_;refine ae.e7 tok rfl rfl rfl rfl rfl rfl ?_;refine ae.call tok rfl rfl rfl rfl rfl o01 ?_;refine ae.e7 tok rfl rfl rfl rfl rfl rfl ?_;refine ae.e7 tok rfl rfl rfl rfl rfl rfl ?_;refine ae.call tok rfl rfl rfl rfl rfl o01 ?_;refine ae.e7 tok rfl rfl rfl rfl rfl rfl ?_;refine ae.call tok rfl rfl rfl rfl rfl o2 ?_;refine ae.e7 tok rfl rfl rfl rfl rfl rfl ?_;refine ae.e7 tok rfl rfl rfl rfl rfl rfl ?_;refine ae.call tok rfl rfl rfl rfl rfl c2 ?_;refine qP 4 rfl ?_;refine ae.nil ?_;refine qU 1 rfl ?_;refine qI ?_;refine AW.draw aM 17 (by kernel_rfl) ?_;refine qP 1 rfl ?_;refine ae.e7 tok rfl rfl rfl rfl rfl rfl ?_;refine ae.call tok rfl rfl rfl rfl rfl o1 ?_;refine ae.e7 tok rfl rfl rfl rfl rfl rfl ?_;refine ae.call tok rfl rfl rfl rfl rfl o01 ?_;refine ae.e7 tok rfl rfl rfl rfl rfl rfl ?_;refine ae.e7 tok rfl rfl rfl rfl rfl rfl ?_;refine ae.call tok rfl rfl rfl rfl rfl o01 ?_;refine ae.e7 tok rfl rfl rfl rfl rfl rfl ?_;refine ae.call tok rfl rfl rfl rfl rfl o1 ?_;refine ae.e7 tok rfl rfl rfl rfl rfl rfl ?_;refine ae.e7 tok rfl rfl rfl rfl rfl rfl ?_;refine ae.call tok rfl rfl rfl rfl rfl c3 ?_;refine qP 4 rfl ?_;refine ae.nil ?_;refine qU 1 rfl ?_;refine qI ?_;refine AW.draw aM 9 (by kernel_rfl) ?_;refine qP 2 rfl ?_;refine ae.e7 tok rfl rfl rfl rfl rfl rfl ?_;refine ae.call tok rfl rfl rfl rfl rfl om ?_;refine ae.call tok rfl rfl rfl rfl rfl c4 ?_;refine qP 4 rfl ?_;refine ae.nil ?_;refine qU 1 rfl ?_;refine qK 1 rfl ?_;refine ab.err tok rfl rfl rfl rfl rfl ?_;refine qU 2 rfl ?_;refine ab.err tok rfl rfl rfl rfl rfl ?_;refine qU 3 rfl ?_;refine ab.err tok rfl rfl rfl rfl rfl ?_;refine qU 3 rfl ?_;refine ab.err tok rfl rfl rfl rfl rfl ?_;refine qU 7 rfl ?_;refine ab.e7 tok rfl rfl rfl rfl rfl ?_;refine ab.call tok rfl rfl rfl rfl cI ?_;refine qU 6 rfl ?_;exact qN rfl
end Lift
namespace Lift
open Go Go.Proofs
theorem uD{v:List NQ}{xs ys:List NQ}{k:Nat}(L:Lo v)(hl:ys.length=xs.length)(hl1:xs.length≤1000000)(hx: ∀i,aq v.length (xs.getD i []))(hy: ∀i,aq v.length (ys.getD i []))(sx: ∀i,ar k (xs.getD i []))(sy: ∀i,ar k (ys.getD i []))(hk:k≤100000000000)
  (he: ∀i,i<xs.length→aT v v.length (cf (aJ (xs.getD i []) (aL (ys.getD i []))))=0):Pure Tryz.prog 30 [bC v,bu xs,bu ys] (dB true):=by
 refine qJ 40 Tryz.func30 rfl rfl rfl rfl (by kernel_rfl) (fun B F0 w0=>?_);have cc:=fun i=>AT L.V (hx i) (sx i) (hy i) (sy i) (by have:=(sx 0).pos;omega) (rk L.l1 (by omega));refine qX 2 rfl ?_;refine qI ?_;refine qX 2 rfl ?_;rw[List.length_map];refine qU 2 rfl ?_;rw[List.length_map,hl];refine qU 1 rfl ?_;rw[bne_eq_false_iff_eq.2 rfl];refine ab.nil ?_;refine AW.au rfl ?_
 · skip
   refine AW.skip (AW.seq ?_);refine qX 2 rfl ?_;rw[List.length_map];refine qU 1 rfl ?_;refine ab.nil ?_;refine AW.block ?_;refine AW.aE [1,2,3,16,17] (fun i:Nat=>[(1,.d (bu xs)),(2,.d (bu ys)),(3,.bx [.sl 1 (v.map af)]),(16,.d (dI xs.length)),(17,.d (dI i))]) (fun i=>i≤xs.length) (fun i=>xs.length-i) 0 rfl (Nat.zero_le _) (fun i hi=>?_)
   · show AW _ _ _ _ _ _ _ [(1,.d (bu xs)),(2,.d (bu ys)),(3,.bx [.sl 1 (v.map af)]),(16,.d (dI xs.length)),(17,.d (dI i))];refine qX 1 rfl ?_;refine qI ?_;refine AW.cond rfl (fun h=>?_) (fun h=>?_)
     · have hii:i<xs.length:=by have:=of_decide_eq_true h;omega
       have gx:=getM af (l:=xs) (i:=i) hii;have gy:=getM af (l:=ys) (i:=i) (by omega);have cc:=cc i;rw[he i hii] at cc;generalize xs.getD i []=x at gx cc;generalize ys.getD i []=y at gy cc;refine AW.skip (AW.seq (AW.block ?_));refine qX 2 rfl ?_;refine qI ?_;refine AW.draw aM 14 (by kernel_rfl) ?_;refine qP 3 rfl ?_;refine ae.idx tok (af x) rfl rfl rfl rfl rfl (Int.natCast_nonneg i) gx ?_;refine qP 3 rfl ?_;refine ae.idx tok (af y) rfl rfl rfl rfl rfl (Int.natCast_nonneg i) gy ?_;refine qP 1 rfl ?_;refine ae.call tok rfl rfl rfl rfl rfl cc ?_;refine qP 4 rfl ?_;refine ae.nil ?_;refine qU 1 rfl ?_;refine qK 6 rfl ?_;refine ab.nil ?_;refine AW.au rfl ?_
       · skip
         refine AW.skip ?_;refine qT 1 rfl ?_;rw[aC (x:=(i:Int)+1) (by omega) (by omega)];refine qU 1 rfl ?_;refine ab.nil ?_;exact⟨i+1,rfl,hii,by omega⟩
     have hii:i=xs.length:=by have:=of_decide_eq_false h;omega
     subst hii;refine AW.exit ?_;refine qX 1 rfl ?_;exact qN rfl
end Lift
namespace Lift
open Go Go.Proofs
theorem z0{rt:List (List RD)}{a:List (List (List RD))}(n1:Nb2 rt)(n2:Nb3 a)(hv:n6 rt a=true):Acc rt a (rt.map bm) (oI a):=by
 unfold n6 at hv;rw[Bool.and_eq_true,Bool.and_eq_true] at hv;exact EO hv.1.1 n1 hv.1.2 n2 (of_decide_eq_true hv.2)
end Lift
namespace Lift
open Go Go.Proofs
theorem uf.F8{m:Nat}{v:List NQ}{a:bw}(V:nV m v)(G:uf v a):rA (jR v) (oy a)=0:=by
 have hl:=G.l;have hc:=G.c;unfold rA;split
 · rfl
 rw[nh,lF,if_neg (by omega)]
 have e1:fE (tG (oy a)) (a.length-0) 0=0:=gE fun j hj=>by
  unfold tG;rw[lF,jn,List.length_map,G.r j (by omega)];exact if_neg (fun h=>h rfl)
 rw[e1,if_neg (by decide)];refine gE fun j hj=>?_;unfold ja;refine gE fun k hk=>?_;rw[qb];exact Gm V (G.lt j k)
theorem xS{m:Nat}{v:List NQ}{b:bw}(V:nV m v)(G:uf v b)(ok: ∀i k,pQ v (bX b i k)):Pure Tryz.prog 55 [bC v,cZ b] ao:=by
 have hl:=G.l;have hc:=G.c
 have h:=kS (rt:=jR v) (a:=oy b) (by rw[nh];omega) (fun i=>by
  rw[jn,List.length_map];by_cases h:i<b.length
  · rw[G.r i h];omega
  · rw[lO (by omega)];exact Nat.zero_le _) (fun i k=>by
  rw[qb,Gm V (G.lt i k),mA,ox]
  exact rD V.a (G.lt i k) (ok i k))
 rw[G.F8 V,mA,uB] at h;exact h
theorem xN{rt:List (List RD)}{x:List RD}{v:List NQ}(T:ER 2 rt)(h0:ck rt=0)(ht:TrD rt=bC v)(hv:v.length=rt.length)(X:yq 2 rt x):Pure Tryz.prog 67 [bC v,cF x] (x8 (a6 v.length x)):=by
 have h:=jt T X;rw[zh h0,ht,← hv] at h;exact h
def kt(x:List NQ):bw:=x.map fun y=>[y]
theorem gl(x:List NQ):(kt x).length=x.length:=List.length_map ..
theorem k7(x:List NQ){i:Nat}(h:i<x.length):(kt x).getD i []=[x.getD i []]:=by
 unfold kt;rw[List.getD_eq_getElem?_getD,List.getElem?_map,List.getD_eq_getElem?_getD,List.getElem?_eq_getElem h];rfl
theorem rZ{p:NQ→Prop}(h0:p []){x:List NQ}(h: ∀i,p (x.getD i [])): ∀i k,p (bX (kt x) i k):=fun i k=>by
 unfold bX;by_cases hi:i<x.length
 · rw[k7 x hi];cases k with
   | zero=>exact h i
   | succ k=>exact h0
 · rw[lO (by rw[gl];omega)];exact h0
theorem wR(x:List NQ):jg (kt x) 0=x:=by
 unfold jg kt;rw[List.map_map]
 conv=>rhs;rw[← List.map_id x]
 exact List.map_congr_left fun y _=>rfl
theorem o7{x:List NQ}(h:0<x.length):ah (kt x)=1:=by unfold ah;rw[k7 x h];rfl
theorem ED{v:List NQ}{x:List NQ}(h:0<x.length)(hl:x.length≤32)(hx: ∀i,aq v.length (x.getD i [])):uf v (kt x):=by
 refine⟨by rw[gl];exact hl,fun j hj=>?_,by rw[o7 h];decide,rZ (p:=aq v.length) (bd _) hx⟩;rw[gl] at hj;rw[k7 x hj,o7 h];rfl
theorem lW{rt b:List (List RD)}{a:List (List (List RD))}(cv:Pure Tryz.prog 24 [TrD rt,MxR a] (dB false)):Pure Tryz.prog 7 [TrD rt,MxR a,RwR b] (dB true):=by
 have ca:=iu;refine qJ 202 Tryz.func7 rfl rfl rfl rfl (by kernel_rfl) (fun B F0 w0=>?_);refine qX 2 rfl ?_;refine qI ?_;refine qX 2 rfl ?_;refine ab.call tok rfl rfl rfl rfl cv ?_;refine qU 29 rfl ?_;refine ab.nil ?_;refine AW.aF rfl ?_
 · skip
   refine AW.seq (AW.region ?_);refine ab.call tok rfl rfl rfl rfl ca ?_;refine qU 1 rfl ?_;exact qN rfl
theorem lX{v:List NQ}{b:List (List RD)}{q:bw}(cv:Pure Tryz.prog 24 [bC v,cZ q] (dB true))(cs:Pure Tryz.prog 31 [RwR b] (dB (c8 b)))(hb: ¬(0<q.length∧b.length=q.length∧ah q≤3∧c8 b=true)):Pure Tryz.prog 7 [bC v,cZ q,RwR b] (dB true):=by
 have ca:=iu;refine qJ 202 Tryz.func7 rfl rfl rfl rfl (by kernel_rfl) (fun B F0 w0=>?_);refine qX 2 rfl ?_;refine ab.nil ?_;refine AW.cut [] (fun _:Unit=>[]) (fun _=>False) ?_ (fun _ h=>h.elim);refine qX 2 rfl ?_;refine ab.call tok rfl rfl rfl rfl cv ?_;refine qU 4 rfl ?_;rw[List.length_map];refine qU 1 rfl ?_;by_cases h0:q.length=0
 · rw[h0,beq_iff_eq.2 (show ((0:Nat):Int)=0 from rfl)];refine qU 24 rfl ?_;refine ab.nil ?_;refine AW.aF rfl ?_;refine AW.seq (AW.region ?_);refine ab.call tok rfl rfl rfl rfl ca ?_;refine qU 1 rfl ?_;exact qN rfl
 rw[beq_eq_false_iff_ne.2 (show (q.length:Int)≠0 by omega)];refine qU 4 rfl ?_;rw[List.length_map];refine qU 2 rfl ?_;rw[List.length_map];refine qU 1 rfl ?_;by_cases h1:b.length=q.length;rotate_left
 · rw[bne_iff_ne.2 (show (b.length:Int)≠(q.length:Int) by omega)];refine qU 17 rfl ?_;refine ab.nil ?_;refine AW.aF rfl ?_;refine AW.seq (AW.region ?_);refine ab.call tok rfl rfl rfl rfl ca ?_;refine qU 1 rfl ?_;exact qN rfl
 rw[bne_eq_false_iff_eq.2 (show (b.length:Int)=(q.length:Int) by omega)];have g0:=getM bu (l:=q) (i:=0) (by omega);have hcq:ah q=(q.getD 0 []).length:=rfl;refine qU 3 rfl ?_;refine ab.idx tok (bu (q.getD 0 [])) rfl rfl rfl rfl (Int.le_refl _) g0 ?_;refine qU 2 rfl ?_;rw[List.length_map];refine qU 1 rfl ?_;by_cases h2:ah q≤3;rotate_left
 · rw[decide_eq_true (show (3:Int)<((q.getD 0 []).length:Int) by omega)];refine qU 10 rfl ?_;refine ab.nil ?_;refine AW.aF rfl ?_;refine AW.seq (AW.region ?_);refine ab.call tok rfl rfl rfl rfl ca ?_;refine qU 1 rfl ?_;exact qN rfl
 rw[decide_eq_false (show ¬(3:Int)<((q.getD 0 []).length:Int) by omega)]
 have h3:c8 b=false:=by
  cases e:c8 b
  · rfl
  · exact absurd ⟨by omega,h1,h2,e⟩ hb
 rw[h3] at cs;refine qU 3 rfl ?_;refine ab.call tok rfl rfl rfl rfl cs ?_;refine qU 6 rfl ?_;refine ab.nil ?_;refine AW.aF rfl ?_;refine AW.seq (AW.region ?_);refine ab.call tok rfl rfl rfl rfl ca ?_;refine qU 1 rfl ?_;exact qN rfl
structure FG (v:List NQ) (q:bw) (b:List (List RD)) (bq:List NQ):Prop where
 L:Lo v
 G:uf v q
 s:mj 2 q
 q0:0<q.length
 q4:q.length≤4
 c3:ah q≤3
 bl:b.length=q.length
 num: ∀i,Pure Tryz.prog 37 [dI v.length,cF (b.getD i [])] (dI (a6 v.length (b.getD i [])))
 mnum: ∀i,Pure Tryz.prog 67 [bC v,cF (b.getD i [])] (x8 (a6 v.length (b.getD i [])))
 one: ∀i,i<b.length→a6 v.length (b.getD i [])=0→cF (b.getD i [])=af (bq.getD i [])
 all:(∀i,i<b.length→a6 v.length (b.getD i [])=0)→RwR b=bu bq∧(∀i,aq v.length (bq.getD i []))∧(∀i,ar 2 (bq.getD i []))
 ql:bq.length=b.length
set_option maxHeartbeats 3200000 in
theorem lY{v:List NQ}{b:List (List RD)}{q:bw}{bq:List NQ}(S:FG v q b bq)(hsh:c8 b=true)(cv:Pure Tryz.prog 24 [bC v,cZ q] (dB true))(cs:Pure Tryz.prog 31 [RwR b] (dB (c8 b))):Pure Tryz.prog 7 [bC v,cZ q,RwR b] (dB true):=by
 have ca:=iu;obtain ⟨L,G,hs,hq0,hq4,hc3,hbl,hnum,hmnum,hone,hall,hql⟩:=S;rw[hsh] at cs;have hl5:=L.V.l5;have g0:=getM bu (l:=q) (i:=0) hq0;have hcq:ah q=(q.getD 0 []).length:=rfl;refine qJ 202 Tryz.func7 rfl rfl rfl rfl (by kernel_rfl) (fun B F0 w0=>?_);refine qX 2 rfl ?_;refine qI ?_;refine qX 2 rfl ?_;refine ab.call tok rfl rfl rfl rfl cv ?_;refine qU 4 rfl ?_;rw[List.length_map];refine qU 1 rfl ?_;rw[beq_eq_false_iff_ne.2 (show (q.length:Int)≠0 by omega)];refine qU 4 rfl ?_;rw[List.length_map];refine qU 2 rfl ?_;rw[List.length_map];refine qU 1 rfl ?_;rw[bne_eq_false_iff_eq.2 (show (b.length:Int)=(q.length:Int) by omega)];refine qU 3 rfl ?_;refine ab.idx tok (bu (q.getD 0 [])) rfl rfl rfl rfl (Int.le_refl _) g0 ?_;refine qU 2 rfl ?_;rw[List.length_map];refine qU 1 rfl ?_;rw[decide_eq_false (show ¬(3:Int)<((q.getD 0 []).length:Int) by omega)];refine qU 3 rfl ?_;refine ab.call tok rfl rfl rfl rfl cs ?_;refine qU 3 rfl ?_;refine ab.call tok rfl rfl rfl rfl ca ?_;refine qU 2 rfl ?_;refine ab.nil ?_;refine AW.au rfl ?_
 · skip
   refine AW.skip ?_;refine qX 2 rfl ?_;refine qI ?_;refine qX 2 rfl ?_;rw[List.length_map];refine qU 1 rfl ?_;refine ab.nil ?_;refine AW.block ?_;refine AW.aE [1,2,3,7,8,55,56,57] (fun i:Nat=>[(1,.d (cZ q)),(2,.d (RwR b)),(3,.bx [.sl 1 (v.map af)]),(7,.ow 22 ((cH q bq i).map bu)),(8,.ow 22 []),(55,.d (RwR b)),(56,.d (dI b.length)),(57,.d (dI i))]) (fun i=>i≤b.length∧ ∀j,j<i→a6 v.length (b.getD j [])=0) (fun i=>b.length-i) 0 rfl ⟨Nat.zero_le _,fun j hj=>absurd hj (Nat.not_lt_zero j)⟩ (fun i ⟨hi,hE⟩=>?_)
   · show AW _ _ _ _ _ _ _ [(1,.d (cZ q)),(2,.d (RwR b)),(3,.bx [.sl 1 (v.map af)]),(7,.ow 22 ((cH q bq i).map bu)),(8,.ow 22 []),(55,.d (RwR b)),(56,.d (dI b.length)),(57,.d (dI i))];refine qX 1 rfl ?_;refine qI ?_;refine AW.cond rfl (fun h=>?_) (fun h=>?_)
     · have hii:i<b.length:=by have:=of_decide_eq_true h;omega
       have gb:=getM cF (l:=b) (i:=i) hii;have gq:=getM bu (l:=q) (i:=i) (by omega);have cn:=hnum i;have hone:=hone i hii;have hws:=qv q bq i;have hwl:=dD q bq i;have hrl:(q.getD i []).length≤1000:=by rw[G.r i (by omega)];omega
       have hE1:a6 v.length (b.getD i [])=0→ ∀j,j<i+1→a6 v.length (b.getD j [])=0:=fun h j hj=>by
        rcases Nat.lt_or_ge j i with g | g
        · exact hE j g
        · rw[show j=i by omega];exact h
       generalize cH q bq i=W at hws hwl ⊢;refine AW.skip (AW.seq (AW.block ?_));refine qX 1 rfl ?_;refine ab.idx tok (cF (b.getD i [])) rfl rfl rfl rfl (Int.natCast_nonneg i) gb ?_;refine qU 3 rfl ?_;refine qI ?_;refine qX 3 rfl ?_;rw[List.length_map];refine qU 1 rfl ?_;refine ab.call tok rfl rfl rfl rfl cn ?_;refine qU 1 rfl ?_;refine ab.nil ?_;generalize hz:a6 v.length (b.getD i [])=z at *;refine AW.cond rfl (fun h=>?_) (fun h=>?_)
       · skip
         refine qX 1 rfl ?_;exact qN rfl
       · have hz0:z=0:=by have:=bne_eq_false_iff_eq.1 h;omega
         have hone:=hone hz0;have hE1:=hE1 hz0;generalize b.getD i []=x at *;generalize bq.getD i []=y at *;generalize q.getD i []=row at *;refine AW.skip (AW.region ?_);have h2:D.sl 3 (x.map RD.D)=af y:=hone;rw[h2];refine qU 4 rfl ?_;refine ab.idx tok (bu row) rfl rfl rfl rfl (Int.natCast_nonneg i) gq ?_;refine qU 1 rfl ?_;refine ab.wY tok rfl rfl rfl rfl (by rw[List.length_map];show row.length*24≤_;omega) ?_;refine qU 1 rfl ?_;refine ab.e7 tok rfl rfl rfl rfl rfl ?_;refine ab.gP tok rfl rfl rfl rfl rfl rfl (by rw[List.length_map];show (_+1)*24≤_;omega) (by rw[List.length_map];show _+1≤_;omega) ?_;rw[show row.map af++[af y]=(row++[y]).map af by rw[List.map_append];rfl];refine ab.fh tok 77 rfl rfl ?_;refine ab.e7 tok rfl rfl rfl rfl rfl ?_;refine ab.gP tok rfl rfl rfl rfl rfl rfl (by rw[List.length_map];show (_+1)*24≤_;omega) (by rw[List.length_map];show _+1≤_;omega) ?_;refine qU 1 rfl ?_;refine ab.nil ?_;refine qT 1 rfl ?_;rw[aC (x:=(i:Int)+1) (by omega) (by omega)];refine qU 1 rfl ?_;refine ab.nil ?_;exact⟨i+1,by rw[hws,List.map_append (f:=bu)];rfl,⟨hii,hE1⟩,by omega⟩
     have hii:i=b.length:=by have:=of_decide_eq_false h;omega
     subst hii;obtain ⟨hbD,hbL,hbS⟩:=hall hE;have hbE:bE v.length b=0:=gE (fun j hj=>hE j (by omega));have wl:=ui L.V G hbL;have ws:mj 2 (cH q bq q.length):=th (p:=ar 2) (bb (by decide)) G.r hs hbS;have wc:=td L.V G hbL hq0;have R:=L.red (dh G.r bq) wl ws (Bw (show ah q≤5 by omega));have gk:gI 2 (ah q)≤4700000:=Nat.le_trans (f' hc3) (by decide);have cS:=pT (b:=b) (bq:=bq) L.V.a (o9 L G hs) G (by omega) hmnum (fun _=>hbD) hql (fun _=>wl) (fun _=>R.1) (fun _ i=>L.sg ((fN L.V.a (dh G.r bq) wl (ah q)).lt i (ah q)) (R.2.1 _ (Nat.le_refl _) i (ah q)) (by omega));have c1:=qW L G hs (by omega);have c2:=qW L (a:=cH q bq q.length) ⟨by rw[dD];omega,by rw[wc];exact dh G.r bq,by rw[wc];omega,wl⟩ ws (by rw[wc];omega);rw[zo L.V G hbL hq0] at c2;have hsr:=vG L.V G hbL;have hle:=CK L.V.a G;have hX: ∀i,aq v.length ((kG v q bq).getD i [])∧ar (gI 2 (ah q)) ((kG v q bq).getD i []):=Au (p:=fun y=>aq v.length y∧ar (gI 2 (ah q)) y) ⟨bd _,bb (Nat.le_trans (by decide) (f' (Nat.zero_le _)))⟩ (fun i=>⟨(fN L.V.a (dh G.r bq) wl (ah q)).lt i (ah q),R.2.1 _ (Nat.le_refl _) i (ah q)⟩);have hXl:=qF v q bq;obtain ⟨F⟩:=DJ L.V;have hright:=fun h1 h2 i hi=>zx L.V G hbL F h1 h2 (i:=i) hi
     have hXv: ∀i,i<q.length→F.val (fD v (q.getD i []) (kG v q bq) (q.getD i []).length)=sm (ah q) (fun k=>F.val (bX q i k)*F.val ((kG v q bq).getD k [])):=fun i hi=>by
      rw[wO L.V.a F (G.lt i) (fun j=>(hX j).1),G.r i hi];rfl
     have hEq:=fun a b=>F.eq (a:=a) (b:=b);rw[hbl];unfold D8 at cS;rw[hbE,if_neg (by decide),if_neg (fun g=>g hbl)] at cS;clear R hmnum hnum hone hall cv hE hbE;refine AW.exit ?_;generalize hn:(ot v q).cols.length=n at *;by_cases hA:atR v (eF v q bq) (ah q)<(eF v q bq).rows.length
     · rw[if_pos hA] at cS c2;have i1:=mR 16 16;rw[decide_eq_true rfl] at i1;refine qX 3 rfl ?_;refine ab.call tok rfl rfl rfl rfl cS ?_;refine qU 5 rfl ?_;refine qK 2 rfl ?_;refine ab.call tok rfl rfl rfl rfl c1 ?_;refine qU 5 rfl ?_;refine qI (AW.region ?_);refine ab.fh tok 7 rfl rfl ?_;refine qU 2 rfl ?_;refine ab.call tok rfl rfl rfl rfl c2 ?_;refine qU 5 rfl ?_;refine qI ?_;refine qX 1 rfl ?_;refine ab.err tok rfl rfl rfl rfl rfl ?_;refine qU 2 rfl ?_;refine ab.err tok rfl rfl rfl rfl rfl ?_;refine qU 1 rfl ?_;refine ab.nil ?_;refine AW.au rfl ?_;refine AW.skip (AW.seq ?_);refine qX 1 rfl ?_;refine ab.err tok rfl rfl rfl rfl rfl ?_;refine ab.nil ?_;refine AW.aF rfl ?_;refine qX 1 rfl ?_;refine ab.call tok rfl rfl rfl rfl i1 ?_;refine qU 4 rfl ?_;rw[aC (x:=(n:Int)+1) (by omega) (by omega)];refine qU 1 rfl ?_;rw[beq_iff_eq.2 (show ((n+1:Nat):Int)=(n:Int)+1 by omega)];refine qU 19 rfl ?_;exact qN rfl
     rw[if_neg hA] at cS c2;by_cases hr:(eF v q bq).cols.length<ah q
     · rw[if_pos hr] at cS;have i1:=mR 15 16;have i2:=mR 15 15;rw[decide_eq_false (by decide)] at i1;rw[decide_eq_true rfl] at i2;refine qX 3 rfl ?_;refine ab.call tok rfl rfl rfl rfl cS ?_;refine qU 5 rfl ?_;refine qK 2 rfl ?_;refine ab.call tok rfl rfl rfl rfl c1 ?_;refine qU 5 rfl ?_;refine qI (AW.region ?_);refine ab.fh tok 7 rfl rfl ?_;refine qU 2 rfl ?_;refine ab.call tok rfl rfl rfl rfl c2 ?_;refine qU 5 rfl ?_;refine qI ?_;refine qX 1 rfl ?_;refine ab.err tok rfl rfl rfl rfl rfl ?_;refine qU 2 rfl ?_;refine ab.err tok rfl rfl rfl rfl rfl ?_;refine qU 1 rfl ?_;refine ab.nil ?_;refine AW.au rfl ?_;refine AW.skip (AW.seq ?_);refine qX 1 rfl ?_;refine ab.err tok rfl rfl rfl rfl rfl ?_;refine ab.nil ?_;refine AW.aF rfl ?_;refine qX 1 rfl ?_;refine ab.call tok rfl rfl rfl rfl i1 ?_;refine qU 8 rfl ?_;refine ab.call tok rfl rfl rfl rfl i2 ?_;refine qU 4 rfl ?_;rw[beq_self_eq_true];refine qU 4 rfl ?_;refine ab.idx tok (bu (q.getD 0 [])) rfl rfl rfl rfl (Int.le_refl _) g0 ?_;refine qU 2 rfl ?_;rw[List.length_map];refine qU 1 rfl ?_;rw[decide_eq_true (show (n:Int)<((q.getD 0 []).length:Int) by omega)];refine qU 3 rfl ?_;exact qN rfl
     rw[if_neg hr] at cS;have hfull:(eF v q bq).cols.length=ah q:=by omega
     have hright:=hright hA hfull;generalize kG v q bq=X at *;have hcx:=fun h:0<ah q=>o7 (x:=X) (by omega);have hpl:=oB v q (kt X)
     have hpr:0<ah q→ ∀i,i<q.length→(fo v q (kt X)).getD i []=[fD v (q.getD i []) X (q.getD i []).length]:=fun h i hi=>by
      rw[oA v q (kt X) hi,hcx h];show [fD v (q.getD i []) (jg (kt X) 0) (q.getD i []).length]=_;rw[wR]
     have hdk: ∀i,i<q.length→yT v (q.getD i []) X (ah q)∧ar 100000000 (fD v (q.getD i []) X (q.getD i []).length):=fun i hi=>by
      have h:=L.dot (G.lt i) (fun j=>(hX j).1) (hs i) (fun j=>(hX j).2) (n:=ah q) (by omega) (by omega);refine⟨h.1,?_⟩;rw[G.r i hi];refine h.2.mono ?_;have:ah q*(2*(2+gI 2 (ah q))+4)≤3*(2*(2+4700000)+4):=Nat.mul_le_mul hc3 (by omega);omega
     have cM:=fun h:0<ah q=>sR L.V.a (b:=kt X) (o9 L G hs) (xS L.V (ED (x:=X) (by omega) (by omega) (fun i=>(hX i).1)) (rZ (p:=fun y=>pQ v y) (L.sg (bd _) (bb (Nat.le_refl 1)) (by decide)) (fun i=>L.sg (hX i).1 (hX i).2 (by omega)))) (by omega) G.r G.lt (by omega) (by rw[gl];exact hXl) (by
       rw[hcx h];intro j hj;rw[gl] at hj;rw[k7 X hj];rfl) (by rw[hcx h];decide) (rZ (p:=aq v.length) (bd _) (fun i=>(hX i).1)) (fun i k hi hk=>by
       rw[hcx h] at hk;rw[show k=0 by omega,wR]
       exact(hdk i hi).1)
     have cE:=fun i (hi:i<q.length)=>uD (xs:=[fD v (q.getD i []) X (q.getD i []).length]) (ys:=[bq.getD i []]) (k:=100000000) L rfl (Nat.le_of_ble_eq_true rfl) (fun j=>match j with
       | 0=>nR L.V.a (G.lt i) (fun j=>(hX j).1) _
       | j+1=>bd _) (fun j=>match j with
       | 0=>hbL i
       | j+1=>bd _) (fun j=>match j with
       | 0=>(hdk i hi).2
       | j+1=>bb (by decide)) (fun j=>match j with
       | 0=>(hbS i).mono (by decide)
       | j+1=>bb (by decide)) (by decide) (fun j hj=>match j,hj with
       | 0,_=>(hEq _ _).2 ((hXv i hi).trans (hright i hi).symm))
     have hct: ∀i,i<X.length→(kt X).take (i+1)=(kt X).take i++[[X.getD i []]]:=fun i hi=>by
      rw[mw (d:=[]) (by rw[gl];exact hi),k7 X hi]
     have hca:(kt X).take X.length=kt X:=List.take_of_length_le (by rw[gl];exact Nat.le_refl _);have hcl:=gl X;clear hcx hright hXv hX hdk hEq ws wl wc;generalize kt X=cx at *;generalize fo v q cx=pm at *;refine qX 3 rfl ?_;refine ab.call tok rfl rfl rfl rfl cS ?_;refine qU 5 rfl ?_;refine qK 2 rfl ?_;refine ab.call tok rfl rfl rfl rfl c1 ?_;refine qU 5 rfl ?_;refine qI (AW.region ?_);refine ab.fh tok 7 rfl rfl ?_;refine qU 2 rfl ?_;refine ab.call tok rfl rfl rfl rfl c2 ?_;refine qU 5 rfl ?_;refine qI ?_;refine qX 1 rfl ?_;refine ab.err tok rfl rfl rfl rfl rfl ?_;refine qU 2 rfl ?_;refine ab.err tok rfl rfl rfl rfl rfl ?_;refine qU 1 rfl ?_;refine ab.nil ?_;refine AW.au rfl ?_
     · skip
       refine AW.skip (AW.seq ?_);refine qX 1 rfl ?_;refine ab.err tok rfl rfl rfl rfl rfl ?_;refine ab.nil ?_;refine AW.au rfl ?_
       · skip
         refine AW.skip (AW.seq ?_);refine qX 2 rfl ?_;rw[List.length_map];refine qU 1 rfl ?_;refine ab.idx tok (bu (q.getD 0 [])) rfl rfl rfl rfl (Int.le_refl _) g0 ?_;refine qU 2 rfl ?_;rw[List.length_map];refine qU 1 rfl ?_;rw[bne_eq_false_iff_eq.2 (show (X.length:Int)=((q.getD 0 []).length:Int) by omega)];refine qU 4 rfl ?_;rw[bne_eq_false_iff_eq.2 (show (n:Int)=(n:Int) from rfl)];refine qU 4 rfl ?_;refine ab.idx tok (bu (q.getD 0 [])) rfl rfl rfl rfl (Int.le_refl _) g0 ?_;refine qU 2 rfl ?_;rw[List.length_map];refine qU 1 rfl ?_;rw[bne_eq_false_iff_eq.2 (show (n:Int)=((q.getD 0 []).length:Int) by omega)];refine qU 1 rfl ?_;refine ab.nil ?_;refine AW.au rfl ?_
         · skip
           refine AW.skip (AW.seq ?_);refine qX 2 rfl ?_;rw[List.length_map];refine qU 1 rfl ?_;refine ab.nil ?_;refine AW.cond rfl (fun h=>?_) (fun h=>?_)
           · skip
             refine qX 1 rfl ?_;exact qN rfl
           · have hX0:0<ah q:=by have:(X.length:Int)≠0:=beq_eq_false_iff_ne.1 h;omega
             have cM:=cM hX0;have hpr:=hpr hX0;refine AW.skip (AW.seq ?_);refine qX 2 rfl ?_;rw[List.length_map];refine qU 1 rfl ?_;refine ab.nil ?_;refine AW.block ?_;refine AW.aE [1,2,3,8,156,157,158] (fun i:Nat=>[(1,.d (cZ q)),(2,.d (RwR b)),(3,.bx [.sl 1 (v.map af)]),(8,.ow 22 ((cx.take i).map bu)),(156,.d (bu X)),(157,.d (dI X.length)),(158,.d (dI i))]) (fun i=>i≤X.length) (fun i=>X.length-i) 0 rfl (Nat.zero_le _) (fun i hi=>?_)
             · show AW _ _ _ _ _ _ _ [(1,.d (cZ q)),(2,.d (RwR b)),(3,.bx [.sl 1 (v.map af)]),(8,.ow 22 ((cx.take i).map bu)),(156,.d (bu X)),(157,.d (dI X.length)),(158,.d (dI i))];refine qX 1 rfl ?_;refine qI ?_;refine AW.cond rfl (fun h=>?_) (fun h=>?_)
               · have hii:i<X.length:=by have:=of_decide_eq_true h;omega
                 have gx:=getM af (l:=X) (i:=i) hii;have hct:=hct i hii;generalize X.getD i []=y at gx hct;refine AW.skip (AW.seq (AW.block (AW.seq (AW.region ?_))));refine ab.idx tok (af y) rfl rfl rfl rfl (Int.natCast_nonneg i) gx ?_;refine qU 2 rfl ?_;refine ab.nil ?_;refine qT 2 rfl ?_;refine ab.e7 tok rfl rfl rfl rfl rfl ?_;refine ab.e7 tok rfl rfl rfl rfl rfl ?_;refine ab.gP tok rfl rfl rfl rfl rfl rfl (by rw[List.length_map,List.length_take];show (_+1)*24≤_;omega) (by rw[List.length_map,List.length_take];show _+1≤_;omega) ?_;refine qU 1 rfl ?_;refine ab.nil ?_;refine qT 1 rfl ?_;rw[aC (x:=(i:Int)+1) (by omega) (by omega)];refine qU 1 rfl ?_;refine ab.nil ?_;exact⟨i+1,by rw[hct,List.map_append];rfl,hii,by omega⟩
               have hii:i=X.length:=by have:=of_decide_eq_false h;omega
               subst hii;rw[hca];refine AW.exit (AW.seq (AW.region ?_));refine ab.fh tok 8 rfl rfl ?_;refine qU 3 rfl ?_;refine ab.call tok rfl rfl rfl rfl cM ?_;refine qU 5 rfl ?_;refine qI ?_;refine qX 1 rfl ?_;refine ab.err tok rfl rfl rfl rfl rfl ?_;refine qU 3 rfl ?_;rw[List.length_map];refine qU 2 rfl ?_;rw[List.length_map];refine qU 1 rfl ?_;rw[bne_eq_false_iff_eq.2 (show (pm.length:Int)=(b.length:Int) by omega)];refine qU 1 rfl ?_;refine ab.nil ?_;refine AW.au rfl ?_
               · skip
                 refine AW.skip ?_;rw[hbD];refine AW.seq ?_;refine qX 2 rfl ?_;rw[List.length_map];refine qU 1 rfl ?_;refine ab.nil ?_;refine AW.block ?_;refine AW.aE [2,3,19,185,186] (fun i:Nat=>[(2,.d (bu bq)),(3,.bx [.sl 1 (v.map af)]),(19,.d (cZ pm)),(185,.d (dI pm.length)),(186,.d (dI i))]) (fun i=>i≤pm.length) (fun i=>pm.length-i) 0 rfl (Nat.zero_le _) (fun i hi=>?_)
                 · show AW _ _ _ _ _ _ _ [(2,.d (bu bq)),(3,.bx [.sl 1 (v.map af)]),(19,.d (cZ pm)),(185,.d (dI pm.length)),(186,.d (dI i))];refine qX 1 rfl ?_;refine qI ?_;refine AW.cond rfl (fun h=>?_) (fun h=>?_)
                   · have hii:i<pm.length:=by have:=of_decide_eq_true h;omega
                     have g1:=getM bu (l:=pm) (i:=i) hii;have g2:=getM af (l:=bq) (i:=i) (by omega);have cE:=cE i (by omega);rw[show pm.getD i default=[fD v (q.getD i []) X (q.getD i []).length] from hpr i (by omega)] at g1;generalize fD v (q.getD i []) X (q.getD i []).length=d at g1 cE;generalize bq.getD i []=y at g2 cE;refine AW.skip (AW.seq (AW.block ?_));refine qX 2 rfl ?_;refine qI ?_;refine AW.draw aM 12 (by kernel_rfl) ?_;refine qP 3 rfl ?_;refine ae.idx tok (bu [d]) rfl rfl rfl rfl rfl (Int.natCast_nonneg i) g1 ?_;refine qP 3 rfl ?_;refine ae.idx tok (af y) rfl rfl rfl rfl rfl (Int.natCast_nonneg i) g2 ?_;refine qP 1 rfl ?_;refine ae.e7 tok rfl rfl rfl rfl rfl rfl ?_;refine ae.call tok rfl rfl rfl rfl rfl cE ?_;refine qP 1 rfl ?_;refine ae.nil ?_;refine ab.nil ?_;refine AW.au rfl ?_
                     · skip
                       refine AW.skip ?_;refine qT 1 rfl ?_;rw[aC (x:=(i:Int)+1) (by omega) (by omega)];refine qU 1 rfl ?_;refine ab.nil ?_;exact⟨i+1,rfl,hii,by omega⟩
                   refine AW.exit ?_;refine qX 1 rfl ?_;exact qN rfl
theorem law10_Solutions_ok(rt:List (List RD))(a:List (List (List RD)))(b:List (List RD))(n1:Nb2 rt)(n2:Nb3 a)(n3:Nb2 b):Pure Tryz.prog 7 [TrD rt,MxR a,RwR b] (dB true):=by
 have cv:=rG rt a n1 n2;have cs:=ir b n3;by_cases hv:n6 rt a=true
 · have A:=z0 n1 n2 hv;have hv':=hv;unfold n6 at hv';rw[Bool.and_eq_true,Bool.and_eq_true] at hv'
   have h0:ck rt=0:=by
    have h:=of_decide_eq_true hv'.2;unfold kf at h;split at h
    · rename_i g;exact absurd h g
    · omega
   have T:=(uV hv'.1.1 n1).1;have R2:=(wz hv'.1.1 n1 h0).1;rw[hv] at cv;rw[A.t,A.m] at cv ⊢;by_cases hb:0<(oI a).length∧b.length=(oI a).length∧ah (oI a)≤3∧c8 b=true
   · obtain ⟨b1,b2,b3,b4⟩:=hb;have X:=fun i=>lD b4 n3 i;have XN: ∀i,yq 2 rt (b.getD i []):=fun i=>⟨fun _=>(X i).2,by have:=(X i).1;omega⟩;have hvl:=A.vl;refine lY (bq:=b.map bm) ⟨A.L,A.G,A.s,b1,A.l4,b3,b2,fun i=>?_,fun i=>xN T h0 A.t hvl (XN i),fun i hi h=>?_,fun h=>?_,List.length_map ..⟩ b4 cv cs
     · rw[hvl];exact fY rt.length _ (jD h0).1 (XN i).w (by decide) (XN i).l
     · rw[hvl] at h;rw[qQ];exact(Bb (by decide) (XN i) h).2.2
     · rw[hvl] at h ⊢;exact yN XN h
   · exact lX cv cs hb
 · simp only[Bool.not_eq_true] at hv;rw[hv] at cv;exact lW cv
end Lift

