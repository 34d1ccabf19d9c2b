/- Parts of the proof, one behind the other: the logic, the contracts of the functions that the statement reaches. -/
import Derived.Test.YtebpenldlefgjaaGreatM2C
import Derived.Laws.StructEq
set_option linter.unusedVariables false
set_option linter.unusedSimpArgs false
namespace Lift
abbrev Mt:=List (List Rat)
def fM(a:Mt):Mx:=fun j c=>(a.getD j []).getD c 0
def GB(a:Mt)(w:Nat):Prop:= ∀r,r∈a→r.length=w
structure InvG (n k d:Nat) (a:Mt) (pr:Nat→Option Nat):Prop where
 rect:GB a (n+1)
 red:Red a.length n k (fM a) pr
 img: ∀i,(∃c,pr c=some i)↔i<d
 one: ∀c i,pr c=some i→fM a i c=1
 le:d≤a.length
 way:(d=k∧ ∀c,c<k→pr c=some c)∨(d<k∧ ∃f,f<k∧pr f=none)
end Lift
namespace Lift
abbrev Gd:=List (List Rat×Rat)
def gE(l:Gd)(j:Nat):List Rat×Rat:=l.getD j ([],0)
def fE2(l:Gd):Mx:=fun j c=>if c<(gE l j).1.length then (gE l j).1.getD c 0 else (gE l j).2
def FT(l:Gd)(n:Nat):Prop:= ∀e,e∈l→e.1.length=n
def prR(done:List Int)(c:Nat):Option Nat:=match done[c]? with
 | some x=>if x<0 then none else some x.toNat
 | none=>none
structure InvR (n i:Nat) (l:Gd) (done:List Int):Prop where
 rect:FT l n
 len:done.length=i
 red:Red l.length n i (fE2 l) (prR done)
end Lift
namespace Lift
end Lift
namespace Lift
open Go Go.Proofs
structure TD where
 t:RD
 h:Bool
abbrev TD.D(a:TD):D:= .ag [dB a.t.g,Wd a.t.n,Wd a.t.d,dB a.h]
def TQ:Option Rat→TD
 | none=>⟨Qr 0,true⟩
 | some q=>⟨Qr q,false⟩
theorem fy:LQ 1≤1:=by
 have h:=FY 1;rw[sj,show ((1:Int):Rat)=1 from rfl] at h;omega
end Lift
namespace Lift
open Go Go.Proofs
structure PD where
 x:RD
 y:RD
abbrev PD.D(a:PD):D:= .ag [dB a.x.g,Wd a.x.n,Wd a.x.d,dB a.y.g,Wd a.y.n,Wd a.y.d]
structure Fa where
 t:TD
 l:PD
abbrev Fa.D(p:Fa):D:= .ag [dB p.t.t.g,Wd p.t.t.n,Wd p.t.t.d,dB p.t.h,dB p.l.x.g,Wd p.l.x.n,Wd p.l.x.d,dB p.l.y.g,Wd p.l.y.n,Wd p.l.y.d]
abbrev VQ(v:V2):PD:=⟨Qr v.1,Qr v.2⟩
abbrev PoQ(p:Option Rat×V2):Fa:=⟨TQ p.1,VQ p.2⟩
end Lift
namespace Lift
open Go Go.Proofs
end Lift
namespace Lift
open Go Go.Proofs
structure Fb where
 c:PD
 m:PD
 r:RD
abbrev Fb.D(d:Fb):D:= .ag [dB d.c.x.g,Wd d.c.x.n,Wd d.c.x.d,dB d.c.y.g,Wd d.c.y.n,Wd d.c.y.d,dB d.m.x.g,Wd d.m.x.n,Wd d.m.x.d,dB d.m.y.g,Wd d.m.y.n,Wd d.m.y.d,dB d.r.g,Wd d.r.n,Wd d.r.d]
abbrev DyQ(d:V2×V2×Rat):Fb:=⟨VQ d.1,VQ d.2.1,Qr d.2.2⟩
instance:Inhabited Fa:=⟨PoQ (none,(0,0))⟩
abbrev PoL(l:List Fa):D:= .sl 10 (l.map Fa.D)
abbrev VL(l:List V2):D:= .sl 6 (l.map (fun v=>(VQ v).D))
abbrev Fb.rs(d:Fb):List RD:=[d.c.x,d.c.y,d.m.x,d.m.y,d.r]
theorem EY{l:List RD}{i:Nat}(hi:i<l.length)(h:(l.getD i default).okB=false):l.all RD.okB=false:=by
 rw[List.all_eq_false];exact⟨l.getD i default,by rw[List.getD_eq_getElem?_getD,List.getElem?_eq_getElem hi];exact List.getElem_mem hi,by rw[h];simp⟩
theorem DB{l:List RD}(h: ∀i,i<l.length→(l.getD i default).okB=true):l.all RD.okB=true:=by
 rw[List.all_eq_true];intro x hx;obtain ⟨i,hi,rfl⟩:=List.mem_iff_getElem.1 hx;have:=h i hi;rw[List.getD_eq_getElem?_getD,List.getElem?_eq_getElem hi] at this;exact this
end Lift
namespace Lift
open Go Go.Proofs
abbrev Po:=Option Rat×V2
abbrev PsL(ps:List Po):D:= .sl 10 (ps.map (fun p=>(PoQ p).D))
theorem qw{α:Type}(l:List α)(d:α){i:Nat}(h:i<l.length):l.take (i+1)=l.take i++[l.getD i d]:=by
 rw[List.take_add_one,List.getD_eq_getElem?_getD,List.getElem?_eq_getElem h];rfl
end Lift
namespace Lift
open Go Go.Proofs
instance:Inhabited Fb:=⟨DyQ ((0,0),(0,0),0)⟩
end Lift
namespace Lift
open Go Go.Proofs
structure FZ where
 a2:Rat
 b2:Rat
 c2:Rat
 f:V2
 u:List V2
 sg:List Int
abbrev IL(l:List Int):List D:=l.map (fun n=>dI n)
abbrev VLs(l:List V2):List D:=l.map (fun v=>(VQ v).D)
abbrev Gz(a b c:Rat)(f:V2)(x y:D):List D:=[dB (Qr a).g,Wd (Qr a).n,Wd (Qr a).d,dB (Qr b).g,Wd (Qr b).n,Wd (Qr b).d,dB (Qr c).g,Wd (Qr c).n,Wd (Qr c).d,dB (Qr f.1).g,Wd (Qr f.1).n,Wd (Qr f.1).d,dB (Qr f.2).g,Wd (Qr f.2).n,Wd (Qr f.2).d,x,y]
abbrev FZ.D(b:FZ):D:= .ag (Gz b.a2 b.b2 b.c2 b.f (.sl 6 (VLs b.u)) (.sl 1 (IL b.sg)))
abbrev barZ:D:= .ag [dB false,.sl 1 [],.sl 1 [],dB false,.sl 1 [],.sl 1 [],dB false,.sl 1 [],.sl 1 [],dB false,.sl 1 [],.sl 1 [],dB false,.sl 1 [],.sl 1 [],.sl 6 [],.sl 1 []]
abbrev Dy:=V2×V2×Rat
end Lift
namespace Lift
open Go Go.Proofs
theorem yP(q:Rat):gz q.num=ud q:=by
 unfold gz ud;have h0:q.num=0↔q=0:=Rat.num_eq_zero
 have h1:q.num<0↔q<0:=by
  have e1:= @Rat.num_nonneg q;have e2:= @Rat.not_le 0 q;rw[← e2,← e1];omega
 by_cases hz:q=0
 · subst hz;rfl
 · rw[if_neg hz];by_cases hl:q<0
   · rw[if_pos hl,if_pos (h1.2 hl)]
   · rw[if_neg hl,if_neg (fun h=>hl (h1.1 h)),if_neg (fun h=>hz (h0.1 h))]
end Lift
namespace Lift
open Go Go.Proofs
abbrev af(a:NQ):D:= .sl 3 (dJ a)
abbrev bF(rt:List NQ):D:= .ag [.sl 1 (rt.map af)]
theorem vE{k:Nat}(hk:k≤43):IntKind.i64.wrap ((1:Int)*2^(min k IntKind.i64.bits))=((2^k:Nat):Int):=by
 have hb:IntKind.i64.bits=64:=rfl;have h:2^k≤2^43:=Nat.pow_le_pow_right (by decide) hk;rw[hb,Nat.min_eq_left (by omega),show (1:Int)*2^k=((2^k:Nat):Int) by push_cast;omega];generalize 2^k=m at h;rw[aq (by omega) (by omega)]
theorem kD(xs:List D)(r:Int)(hx:xs.length≤4398046511104)(hr: ∀k:Nat,k≤43→xs.length≤2^k→(∀j,j<k→2^j<xs.length)→r=if 2^k=xs.length then (k:Int) else -1):Pure Tryz.prog 81 [.sl 3 xs] (dI r):=by
 refine qJ 17 Tryz.func81 rfl rfl rfl rfl (by kernel_rfl) (fun B F0 w0=>?_);refine qX 1 rfl ?_;refine qK 1 rfl ?_;refine qI (AW.block ?_);refine AW.aD [0,3] (fun k:Nat=>[(0,.d (.sl 3 xs)),(3,.d (dI k))]) (fun k=>k≤43∧ ∀j,j<k→2^j<xs.length) (fun k=>43-k) 0 rfl ⟨Nat.zero_le _,fun j h=>by omega⟩ (fun k hi=>?_)
 · obtain ⟨hk,hi⟩:=hi;show AW _ _ _ _ _ _ _ [(0,.d (.sl 3 xs)),(3,.d (dI k))];have hp:2^k≤2^43:=Nat.pow_le_pow_right (by decide) hk;refine AW.seq ?_;refine qX 2 rfl ?_;rw[vE hk];refine qU 3 rfl ?_;refine aa.nil ?_;refine AW.cond rfl (fun h=>?_) (fun h=>?_)
   · have h:2^k<xs.length:=by have:=of_decide_eq_true h;omega
     have hk4:k≠43:=fun e=>by subst e;omega
     refine AW.skip (AW.block ?_);refine qT 2 rfl ?_;rw[aq (x:=(k:Int)+1) (by omega) (by omega)];refine qU 1 rfl ?_;refine aa.nil ?_
     exact⟨k+1,rfl,⟨by omega,fun j hj=>by
      by_cases e:j=k
      · rw[e];exact h
      · exact hi j (by omega)⟩,by omega⟩
   have h: ¬2^k<xs.length:=by have:=of_decide_eq_false h;omega
   rw[hr k hk (by omega) hi];refine AW.exit (AW.seq ?_);refine qX 2 rfl ?_;rw[vE hk];refine qU 3 rfl ?_;refine aa.nil ?_;by_cases e:2^k=xs.length
   · rw[if_pos e,e,bne_eq_false_iff_eq.2 rfl];refine AW.ao rfl ?_;refine AW.skip ?_;refine qX 2 rfl ?_;exact qN rfl
   rw[if_neg e,bne_iff_ne.2 (fun h=>e (by omega))];refine AW.az rfl ?_;refine qX 1 rfl ?_;exact qN rfl
theorem gT{i j:Nat}(h:2^i≤2^j):i≤j:=(Nat.pow_le_pow_iff_right (a:=2) (by decide)).1 h
theorem dn(xs:List D){i:Nat}(h:xs.length=2^i)(hi:i≤42):Pure Tryz.prog 81 [.sl 3 xs] (dI i):=by
 have hp:2^i≤2^42:=Nat.pow_le_pow_right (by decide) hi;refine kD xs i (by omega) (fun k hk h1 h2=>?_);rw[h] at h1;have h1:=gT h1;by_cases e:i<k
 · have:=h2 i e;omega
 · have e:i=k:=by omega
   rw[if_pos (by rw[h,e]),e]
theorem kg(xs:List D)(h: ∀i,xs.length≠2^i)(hx:xs.length≤4398046511104):Pure Tryz.prog 81 [.sl 3 xs] (dI (-1)):=by
 refine kD xs (-1) hx (fun k hk h1 h2=>?_);rw[if_neg (fun e=>h k e.symm)]
theorem qj{a:NQ}{i:Nat}(hi:i<a.length)(h:a.getD i 0≠0):a9 a=false:=by
 unfold a9;rw[List.all_eq_false];exact⟨a.getD i 0,by rw[List.getD_eq_getElem?_getD,List.getElem?_eq_getElem hi];exact List.getElem_mem hi,by rw[decide_eq_false h];simp⟩
theorem nQ{a:NQ}(h: ∀i,i<a.length→a.getD i 0=0):a9 a=true:=by
 unfold a9;rw[List.all_eq_true];intro x hx;obtain ⟨i,hi,rfl⟩:=List.mem_iff_getElem.1 hx;have:=h i hi;rw[List.getD_eq_getElem?_getD,List.getElem?_eq_getElem hi] at this;exact decide_eq_true this
theorem lU(a:NQ){k:Nat}(hs:aC k a)(hk:k≤17300000000000)(hl:a.length≤1000000):Pure Tryz.prog 170 [af a] (dB (a9 a)):=by
 refine qJ 15 Tryz.func170 rfl rfl rfl rfl (by kernel_rfl) (fun B F0 w0=>?_);have hno:=fun i hi=>qj (a:=a) (i:=i) hi;have hyes:=nQ (a:=a);generalize a9 a=E at hno hyes ⊢;refine qX 1 rfl ?_;refine qI ?_;refine qX 2 rfl ?_;rw[List.length_map];refine qU 1 rfl ?_;refine aa.nil ?_;refine AW.block ?_;refine AW.aD [5,6,7] (fun i:Nat=>[(5,.d (af a)),(6,.d (dI a.length)),(7,.d (dI i))]) (fun i=> ∀j,j<i→j<a.length→a.getD j 0=0) (fun i=>a.length-i) 0 rfl (fun j h=>by omega) (fun i hi=>?_)
 · show AW _ _ _ _ _ _ _ [(5,.d (af a)),(6,.d (dI a.length)),(7,.d (dI i))];refine qX 1 rfl ?_;refine qI ?_;refine AW.cond rfl (fun h=>?_) (fun h=>?_)
   · have hii:i<a.length:=by have:=of_decide_eq_true h;omega
     have g:=ku hii;have cs:=jF (Qr (a.getD i 0)) (fv _ (hs i)) hk;have hn:=hno i hii;rw[bV] at cs;have s0:=Gf (q:=a.getD i 0);generalize hq:a.getD i 0=q at g cs hn s0;generalize gz q.num=s at cs s0;refine AW.skip (AW.seq (AW.block (AW.seq (AW.region ?_))));refine aa.idx tok (Qr q).D rfl rfl rfl rfl (Int.natCast_nonneg i) g ?_;refine qU 3 rfl ?_;refine qK 1 rfl ?_;refine aa.call tok rfl rfl rfl rfl cs ?_;refine qU 1 rfl ?_;refine aa.nil ?_;refine AW.cond rfl (fun h=>?_) (fun h=>?_)
     · have h:s≠0:=bne_iff_ne.1 h;rw[hn (fun e=>h (s0.2 e))];refine qX 1 rfl ?_;exact qN rfl
     · have h:s=0:=bne_eq_false_iff_eq.1 h;refine AW.skip ?_;refine qT 1 rfl ?_;rw[aq (x:=(i:Int)+1) (by omega) (by omega)];refine qU 1 rfl ?_;refine aa.nil ?_;refine⟨i+1,rfl,fun j h1 h2=>?_,by omega⟩;by_cases e:j=i
       · rw[e,hq];exact s0.1 h
       · exact hi j (by omega) h2
   have hii: ¬i<a.length:=by have:=of_decide_eq_false h;omega
   rw[hyes (fun j h=>hi j (by omega) h)];refine AW.exit ?_;refine qX 1 rfl ?_;exact qN rfl
theorem Cr(q:Rat):((Qr q).g=false∧(Qr q).n.length=0∧(Qr q).d.length=0)↔q=0:=by
 constructor
 · rintro ⟨_,h,_⟩
   have:=RD.mS (r:=Qr q) (List.length_eq_zero_iff.1 h);rw[bV] at this;exact this
 · intro e;subst e;rw[gg];exact⟨rfl,rfl,rfl⟩
theorem kE(a:NQ)(hl:a.length≤1000000):Pure Tryz.prog 83 [af a] (dB (a9 a)):=by
 refine qJ 26 Tryz.func83 rfl rfl rfl rfl (by kernel_rfl) (fun B F0 w0=>?_);have hno:=fun i hi=>qj (a:=a) (i:=i) hi;have hyes:=nQ (a:=a);generalize a9 a=E at hno hyes ⊢;refine qX 1 rfl ?_;refine qI ?_;refine qX 2 rfl ?_;rw[List.length_map];refine qU 1 rfl ?_;refine aa.nil ?_;refine AW.block ?_;refine AW.aD [5,6,7] (fun i:Nat=>[(5,.d (af a)),(6,.d (dI a.length)),(7,.d (dI i))]) (fun i=> ∀j,j<i→j<a.length→a.getD j 0=0) (fun i=>a.length-i) 0 rfl (fun j h=>by omega) (fun i hi=>?_)
 · show AW _ _ _ _ _ _ _ [(5,.d (af a)),(6,.d (dI a.length)),(7,.d (dI i))];refine qX 1 rfl ?_;refine qI ?_;refine AW.cond rfl (fun h=>?_) (fun h=>?_)
   · have hii:i<a.length:=by have:=of_decide_eq_true h;omega
     have g:=ku hii;have hn:=hno i hii;have s0:=Cr (a.getD i 0);generalize hq:a.getD i 0=q at g hn s0;generalize Qr q=y at g s0;obtain ⟨yg,yn,yd⟩:=y;simp only[] at s0;refine AW.skip (AW.seq (AW.block (AW.seq (AW.region ?_))));refine aa.idx tok (RD.mk yg yn yd).D rfl rfl rfl rfl (Int.natCast_nonneg i) g ?_;refine qU 3 rfl ?_;refine qK 3 rfl ?_;cases yg with
     | true =>
       refine qU 11 rfl ?_;refine aa.nil ?_;refine AW.az rfl ?_;rw[hn (fun e=>by have:=s0.2 e;cases this.1)];refine qX 1 rfl ?_;exact qN rfl
     | false =>
     refine qU 3 rfl ?_;rw[aO];refine qU 1 rfl ?_;by_cases h1:(0:Int)<(yn.length:Int)
     · rw[decide_eq_true h1];refine qU 7 rfl ?_;refine aa.nil ?_;refine AW.az rfl ?_;rw[hn (fun e=>by have:=(s0.2 e).2.1;omega)];refine qX 1 rfl ?_;exact qN rfl
     rw[decide_eq_false h1];refine qU 5 rfl ?_;rw[aO];refine qU 1 rfl ?_;by_cases h2:(0:Int)<(yd.length:Int)
     · rw[decide_eq_true h2];refine qU 1 rfl ?_;refine aa.nil ?_;refine AW.az rfl ?_;rw[hn (fun e=>by have:=(s0.2 e).2.2;omega)];refine qX 1 rfl ?_;exact qN rfl
     rw[decide_eq_false h2];refine qU 1 rfl ?_;refine aa.nil ?_;refine AW.ao rfl ?_;refine AW.skip ?_;refine qT 1 rfl ?_;rw[aq (x:=(i:Int)+1) (by omega) (by omega)];refine qU 1 rfl ?_;refine aa.nil ?_;refine⟨i+1,rfl,fun j h1 h2=>?_,by omega⟩;by_cases e:j=i
     · rw[e,hq];exact s0.1 ⟨rfl,by omega,by omega⟩
     · exact hi j (by omega) h2
   have hii: ¬i<a.length:=by have:=of_decide_eq_false h;omega
   rw[hyes (fun j h=>hi j (by omega) h)];refine AW.exit ?_;refine qX 1 rfl ?_;exact qN rfl
end Lift
namespace Lift
open Go Go.Proofs
section
variable {P:Program} {T:Ty} {B:Nat} {F0:Nat→Prop} {w0:bS} {n:Nat} {σ τ:St} {K:St→Prop} {all:Array Oper} {o:Oper} {d:Nat} {rest:List Oper}
theorem aa.DP(hT:a7 P T)(z:Nat){e:Nat}{te:TI}{m:Int}(hd:o.dst=some d)(hdn:Nat.ble (d+1) n=true)(hg:aA all σ o=true)(hx:E8 T σ.get o.op=some (e,te,m))(hz:jP te=true)(hzd:qk te= .ag [.v (.bool false),.sl 1 [],.sl 1 []])(hb:te.bytes=56)(hm:m=z)(h1:z≤1000000)
  (h:aa P B F0 w0 n all rest K ((d,.ow e (dJ (List.replicate z 0)))::σ.kill d)):aa P B F0 w0 n all (o::rest) K σ:=by
 subst hm;refine aa.make hT hd hdn hg hx hz (by omega) (by rw[hb];omega) (by omega) ?_;have hq:(Qr 0).D= .ag [.v (.bool false),.sl 1 [],.sl 1 []]:=by rw[gg];rfl
 rw[hzd,← hq,show List.replicate ((z:Int)).toNat (Qr 0).D=dJ (List.replicate z 0) by rw[dJ,List.map_replicate];rfl];exact h
theorem Ak(a:NQ)(m:Nat):(dJ a).take (min (dJ a).length (dJ (List.replicate m 0)).length)++(dJ (List.replicate m 0)).drop (min (dJ a).length (dJ (List.replicate m 0)).length)=dJ (aT a m):=by
 rw[List.length_map,List.length_map,List.length_replicate,← List.map_take,← List.map_drop,← List.map_append];unfold aT;rw[List.drop_replicate]
 congr 2
 · by_cases h:a.length≤m
   · rw[Nat.min_eq_left h,List.take_of_length_le (Nat.le_refl _),List.take_of_length_le h]
   · rw[Nat.min_eq_right (by omega)]
 · congr 1;omega
theorem aa.FI(hT:a7 P T){h e m:Nat}{a:NQ}(hd:o.dst=some d)(hdn:Nat.ble (d+1) n=true)(hg:aA all σ o=true)(hx:F9 T σ o.op=some (h,e,dJ (List.replicate m 0),dJ a))
  (hk: ∀z,aa P B F0 w0 n all rest K ((d,.d (.v (.int .i64 z)))::(h,.ow e (dJ (aT a m)))::σ)):aa P B F0 w0 n all (o::rest) K σ:=by
 refine aa.BY hT hd hdn hg hx ?_;rw[Ak];exact hk _
end
theorem xI{a b:NQ}(h:a.length=b.length)(h2: ∀i,i<a.length→a.getD i 0=b.getD i 0):a=b:=by
 refine List.ext_getElem h (fun i h3 h4=>?_);have:=h2 i h3;rw[List.getD_eq_getElem?_getD,List.getD_eq_getElem?_getD,List.getElem?_eq_getElem h3,List.getElem?_eq_getElem h4] at this;exact this
theorem xY(r:NQ)(i j:Nat)(q:Rat):(r.set i q).getD j 0=if j=i∧i<r.length then q else r.getD j 0:=by
 rw[List.getD_eq_getElem?_getD,List.getElem?_set,List.getD_eq_getElem?_getD];by_cases e:i=j
 · subst e;by_cases h:i<r.length
   · rw[if_pos rfl,if_pos h,if_pos ⟨rfl,h⟩];rfl
   · rw[if_pos rfl,if_neg h,if_neg (fun e=>h e.2),List.getElem?_eq_none (by omega)]
 · rw[if_neg e,if_neg (fun h=>e h.1.symm)]
def Bg(r:NQ)(res:D)(R':List LR):Prop:= ∃V,res= .v V∧R'=[(V,AV.ow 68 (dJ r))]
theorem fZ(a:NQ)(n:Nat)(hn:n≤1000000):jN Tryz.prog 84 [af a,dI n] [] (Bg (aT a n)):=by
 refine jN.intro (n:=12) tok Tryz.func84 rfl rfl rfl (Nat.le_of_ble_eq_true rfl) (by kernel_rfl) (fun B F0 w0=>?_);refine AZ.seq ?_;refine AZ.gv (fun B1 F1 w1=>?_);refine qU 1 rfl ?_;refine aa.nil ⟨rfl,?_⟩;refine AZ.seq ?_;refine AZ.gv (fun B1 F1 w1=>?_);refine qU 1 rfl ?_;refine aa.DP tok n rfl rfl rfl rfl rfl rfl rfl rfl hn ?_;refine qU 1 rfl ?_;refine aa.nil ⟨rfl,?_⟩;refine AZ.seq ?_;refine AZ.gv (fun B1 F1 w1=>?_);refine qU 2 rfl ?_;refine aa.FI tok (a:=a) (m:=n) rfl rfl rfl rfl (fun z=>?_);refine aa.nil ⟨rfl,?_⟩;refine AZ.seq ?_;refine AZ.gv (fun B1 F1 w1=>?_);refine qU 2 rfl ?_;refine aa.nil ⟨rfl,?_⟩;refine AZ.fT 4 rfl rfl rfl (fun V=>AZ.ret ⟨.v V,rfl,V,rfl,rfl⟩)
theorem dN(a:NQ){k:Nat}(hs:aC k a)(hk:k≤17300000000000)(hl:a.length≤1000000):Pure Tryz.prog 129 [af a] (af (bc a)):=by
 refine qJ 23 Tryz.func129 rfl rfl rfl rfl (by kernel_rfl) (fun B F0 w0=>?_);refine qX 1 rfl ?_;refine qK 2 rfl ?_;rw[List.length_map];refine aa.DP tok a.length rfl rfl rfl rfl rfl rfl rfl rfl hl ?_;refine qU 1 rfl ?_;refine qI ?_;refine qX 2 rfl ?_;rw[List.length_map];refine qU 1 rfl ?_;refine aa.nil ?_;refine AW.block ?_;refine AW.aD [0,3,9,10] (fun s:Nat×NQ=>[(0,.d (af a)),(3,.ow 68 (dJ s.2)),(9,.d (dI a.length)),(10,.d (dI s.1))]) (fun s=>s.2.length=a.length∧ ∀j,j<s.1→j<a.length→s.2.getD j 0= -a.getD j 0) (fun s=>a.length-s.1) (0,List.replicate a.length 0) rfl ⟨List.length_replicate,fun j h=>by omega⟩ (fun s hi=>?_)
 · obtain ⟨i,r⟩:=s;obtain ⟨hrl,hi⟩:=hi;simp only[] at hrl hi;show AW _ _ _ _ _ _ _ [(0,.d (af a)),(3,.ow 68 (dJ r)),(9,.d (dI a.length)),(10,.d (dI i))];refine qX 1 rfl ?_;refine qI ?_;refine AW.cond rfl (fun h=>?_) (fun h=>?_)
   · have hii:i<a.length:=by have:=of_decide_eq_true h;omega
     have g:=ku hii;have cn:=pO (Qr (a.getD i 0)) (fv _ (hs i)) hk;rw[bV] at cn;refine AW.skip (AW.seq (AW.block ?_));refine qX 2 rfl ?_;refine aa.nil ?_;refine qT 4 rfl ?_;refine aa.idx tok (Qr (a.getD i 0)).D rfl rfl rfl rfl (Int.natCast_nonneg i) g ?_;refine qU 1 rfl ?_;refine aa.call tok rfl rfl rfl rfl cn ?_;refine aa.fh tok rfl rfl rfl rfl (Int.natCast_nonneg i) (by rw[List.length_map];show i<_;omega) ?_;refine aa.xm tok (-a.getD i 0) rfl rfl rfl (by show i<_;omega) ?_;refine aa.nil ?_;refine qT 1 rfl ?_;rw[aq (x:=(i:Int)+1) (by omega) (by omega)];refine qU 1 rfl ?_;refine aa.nil ?_;refine⟨(i+1,r.set i (-a.getD i 0)),rfl,⟨by rw[List.length_set];exact hrl,fun j h1 h2=>?_⟩,by show a.length-(i+1)<a.length-i;omega⟩;show (r.set i (-a.getD i 0)).getD j 0=_;rw[xY];by_cases e:j=i
     · rw[if_pos ⟨e,by omega⟩,e]
     · rw[if_neg (fun h=>e h.1)];exact hi j (by omega) h2
   have hii: ¬i<a.length:=by have:=of_decide_eq_false h;omega
   obtain rfl:r=bc a:=xI (by rw[hrl,iC]) (fun j hj=>by rw[my];exact hi j (by omega) (by omega));refine AW.exit ?_;refine qX 2 rfl ?_;exact qN rfl
theorem Dd(a b:Nat):(if (b:Int)>(a:Int) then (b:Int) else (a:Int))=((max a b:Nat):Int):=by
 split<;>omega
theorem cL(a b:NQ){k:Nat}(ha:aC k a)(hb:aC k b)(hk:k≤17300000000000)(hl:a.length≤1000000)(hl2:b.length≤1000000):Pure Tryz.prog 44 [af a,af b] (af (bj a b)):=by
 refine qJ 37 Tryz.func44 rfl rfl rfl rfl (by kernel_rfl) (fun B F0 w0=>?_);obtain ⟨n,hn⟩: ∃n,n=max a.length b.length:=⟨_,rfl⟩;have cw1:=fZ a n (by omega);have cw2:=fZ b n (by omega);have l1:=ba a n;have l2:=ba b n;have g1: ∀i,i<n→(aT a n).getD i 0=a.getD i 0:=fun i hi=>by rw[eW,if_pos hi]
 have g2: ∀i,i<n→(aT b n).getD i 0=b.getD i 0:=fun i hi=>by rw[eW,if_pos hi]
 have hpl:(bj a b).length=n:=by rw[hZ,hn]
 generalize aT a n=wa at cw1 l1 g1;generalize aT b n=wb at cw2 l2 g2;refine qX 1 rfl ?_;refine qK 4 rfl ?_;rw[List.length_map,List.length_map];refine qU 2 rfl ?_;rw[Dd,← hn];refine qI ?_;refine AZ.aw ?_;refine AZ.region ?_;refine ai.cut 2 rfl (fun B1 F1 w1=>?_);refine qU 2 rfl ?_;refine aa.nil ⟨rfl,?_⟩;refine ai.gu tok [] rfl rfl rfl rfl rfl List.nodup_nil rfl cw1 (fun _ _ _=>Nat.zero_le _) (fun res R1 hP=>?_);obtain ⟨V1,rfl,rfl⟩:=hP;refine ai.cut 2 rfl (fun B1 F1 w1=>?_);refine qU 2 rfl ?_;refine aa.nil ⟨rfl,?_⟩;refine ai.gu tok [] rfl rfl rfl rfl rfl List.nodup_nil rfl cw2 (fun _ _ _=>Nat.zero_le _) (fun res R1 hP=>?_);obtain ⟨V2,rfl,rfl⟩:=hP;refine ai.cut 2 rfl (fun B1 F1 w1=>?_);refine qU 2 rfl ?_;refine aa.nil ⟨rfl,?_⟩;refine ai.to [0,1] [(0,.d (.v V1)),(1,.d (.v V2))] rfl ?_;refine ai.dy 0 0 (V:=V1) (av:= .ow 68 (dJ wa)) rfl rfl rfl ?_;refine ai.to [0,1] [(0,.ow 68 (dJ wa)),(1,.d (.v V2))] rfl ?_;refine ai.dy 1 1 (V:=V2) (av:= .ow 68 (dJ wb)) rfl rfl rfl ?_;refine ai.to [0,1] [(0,.ow 68 (dJ wa)),(1,.ow 68 (dJ wb))] rfl ?_;refine ai.nil ?_;refine AW.gL tok 1 rfl rfl ?_;refine AW.seq ?_;refine qX 2 rfl ?_;rw[List.length_map,l1];refine qU 1 rfl ?_;refine aa.nil ?_;refine AW.block ?_;refine AW.aD [0,1,19,20] (fun s:Nat×NQ=>[(0,.ow 68 (dJ s.2)),(1,.d (af wb)),(19,.d (dI n)),(20,.d (dI s.1))]) (fun s=>s.2.length=n∧ ∀j,j<n→s.2.getD j 0=if j<s.1 then a.getD j 0+b.getD j 0 else a.getD j 0) (fun s=>n-s.1) (0,wa) rfl ⟨l1,fun j h=>by rw[if_neg (Nat.not_lt_zero _)];exact g1 j h⟩ (fun s hi=>?_)
 · obtain ⟨i,r⟩:=s;obtain ⟨hrl,hi⟩:=hi;simp only[] at hrl hi;show AW _ _ _ _ _ _ _ [(0,.ow 68 (dJ r)),(1,.d (af wb)),(19,.d (dI n)),(20,.d (dI i))];refine qX 1 rfl ?_;refine qI ?_;refine AW.cond rfl (fun h=>?_) (fun h=>?_)
   · have hii:i<n:=by have:=of_decide_eq_true h;omega
     have e1:=ku (r:=r) (i:=i) (by omega);have e2:=ku (r:=wb) (i:=i) (by omega);rw[hi i hii,if_neg (Nat.lt_irrefl _)] at e1;rw[g2 i hii] at e2;have ca:=kr (Qr (a.getD i 0)) (Qr (b.getD i 0)) (fv _ (ha i)) (fv _ (hb i)) hk;rw[bV,bV] at ca;refine AW.skip (AW.seq (AW.block ?_));refine qX 2 rfl ?_;refine aa.nil ?_;refine AW.draw aJ 12 (by kernel_rfl) ?_;refine qP 4 rfl ?_;refine ae.fh tok rfl rfl rfl rfl rfl rfl (Int.natCast_nonneg i) (by rw[List.length_map];show i<_;omega) ?_;refine ae.b6 tok (Qr (a.getD i 0)).D rfl rfl rfl rfl rfl e1 rfl ?_;refine qP 2 rfl ?_;refine ae.idx tok (Qr (b.getD i 0)).D rfl rfl rfl rfl rfl (Int.natCast_nonneg i) e2 ?_;refine qP 1 rfl ?_;refine ae.call tok rfl rfl rfl rfl rfl ca ?_;refine ae.fh tok rfl rfl rfl rfl rfl rfl (Int.natCast_nonneg i) (by rw[List.length_map];show i<_;omega) ?_;refine ae.nil ?_;refine aa.xm tok (a.getD i 0+b.getD i 0) rfl rfl rfl (by show i<_;omega) ?_;refine aa.nil ?_;refine qT 1 rfl ?_;rw[aq (x:=(i:Int)+1) (by omega) (by omega)];refine qU 1 rfl ?_;refine aa.nil ?_;refine⟨(i+1,r.set i (a.getD i 0+b.getD i 0)),rfl,⟨by rw[List.length_set];exact hrl,fun j h1=>?_⟩,by show n-(i+1)<n-i;omega⟩;show (r.set i (a.getD i 0+b.getD i 0)).getD j 0=if j<i+1 then _ else _
     rw[xY];by_cases e:j=i
     · rw[if_pos ⟨e,by omega⟩,e,if_pos (by omega)]
     · rw[if_neg (fun h=>e h.1),hi j h1];by_cases h2:j<i
       · rw[if_pos h2,if_pos (by omega)]
       · rw[if_neg h2,if_neg (by omega)]
   have hii: ¬i<n:=by have:=of_decide_eq_false h;omega
   obtain rfl:r=bj a b:=xI (by rw[hrl,hpl]) (fun j hj=>by rw[lF,hi j (by omega),if_pos (by omega)]);refine AW.exit ?_;refine qX 2 rfl ?_;exact qN rfl
theorem jc(a b:NQ)(n:Nat)(hn:n≤100000):Pure Tryz.prog 172 [af a,af b,dI n] (af (fI a b n)):=by
 refine qJ 14 Tryz.func172 rfl rfl rfl rfl (by kernel_rfl) (fun B F0 w0=>?_);have cw1:=fZ a n (by omega);have cw2:=fZ b n (by omega);have l1:=ba a n;have l2:=ba b n;unfold fI;generalize aT a n=wa at cw1 l1 ⊢;generalize aT b n=wb at cw2 l2 ⊢;refine qX 1 rfl ?_;refine qI ?_;refine AZ.aw ?_;refine AZ.region ?_;refine ai.cut 2 rfl (fun B1 F1 w1=>?_);refine qU 2 rfl ?_;refine aa.nil ⟨rfl,?_⟩;refine ai.gu tok [] rfl rfl rfl rfl rfl List.nodup_nil rfl cw1 (fun _ _ _=>Nat.zero_le _) (fun res R1 hP=>?_);obtain ⟨V1,rfl,rfl⟩:=hP;refine ai.cut 2 rfl (fun B1 F1 w1=>?_);refine qU 2 rfl ?_;refine aa.nil ⟨rfl,?_⟩;refine ai.gu tok [] rfl rfl rfl rfl rfl List.nodup_nil rfl cw2 (fun _ _ _=>Nat.zero_le _) (fun res R1 hP=>?_);obtain ⟨V2,rfl,rfl⟩:=hP;refine ai.to [9,12] [(9,.d (.v V1)),(12,.d (.v V2))] rfl ?_;refine ai.dy 9 0 (V:=V1) (av:= .ow 68 (dJ wa)) rfl rfl rfl ?_;refine ai.to [9,12] [(9,.ow 68 (dJ wa)),(12,.d (.v V2))] rfl ?_;refine ai.dy 12 1 (V:=V2) (av:= .ow 68 (dJ wb)) rfl rfl rfl ?_;refine ai.to [9,12] [(9,.ow 68 (dJ wa)),(12,.ow 68 (dJ wb))] rfl ?_;refine ai.cut 2 rfl (fun B1 F1 w1=>?_);refine aa.gL tok 12 rfl rfl ?_;refine aa.lR tok rfl rfl rfl rfl rfl rfl (by rw[List.length_map,List.length_map,l1,l2];show (_+_)*56≤_;omega) (by rw[List.length_map,List.length_map,l1,l2];omega) ?_;refine qU 1 rfl ?_;refine aa.nil ⟨rfl,?_⟩;refine ai.nil ?_;rw[show dJ wa++dJ wb=dJ (wa++wb) from List.map_append.symm];exact AW.ret rfl
theorem gw(a:NQ){k:Nat}(hs:aC k a)(hk:k≤17300000000000)(hl:a.length≤1000000):Pure Tryz.prog 82 [af a] (af a):=by
 refine qJ 28 Tryz.func82 rfl rfl rfl rfl (by kernel_rfl) (fun B F0 w0=>?_);refine qX 1 rfl ?_;refine qK 1 rfl ?_;refine qI ?_;refine qX 2 rfl ?_;rw[List.length_map];refine qU 1 rfl ?_;refine aa.nil ?_;refine AW.block ?_;refine AW.aD [3,6,7,8] (fun i:Nat=>[(3,.ow 68 (dJ (a.take i))),(6,.d (af a)),(7,.d (dI a.length)),(8,.d (dI i))]) (fun i=>i≤a.length) (fun i=>a.length-i) 0 rfl (Nat.zero_le _) (fun i hi=>?_)
 · have hi:i≤a.length:=hi;show AW _ _ _ _ _ _ _ [(3,.ow 68 (dJ (a.take i))),(6,.d (af a)),(7,.d (dI a.length)),(8,.d (dI i))];refine qX 1 rfl ?_;refine qI ?_;refine AW.cond rfl (fun h=>?_) (fun h=>?_)
   · have hii:i<a.length:=by have:=of_decide_eq_true h;omega
     have g:=ku hii;have hw:=fv _ (hs i);have htk:=qw a 0 hii;have hol:(a.take i).length=i:=by rw[List.length_take];omega
     generalize a.getD i 0=q at g hw htk;have hw1:=hw.2.2.1;have hw2:=hw.2.2.2;refine AW.skip (AW.seq (AW.block (AW.seq (AW.region ?_))));refine aa.idx tok (Qr q).D rfl rfl rfl rfl (Int.natCast_nonneg i) g ?_;refine qU 3 rfl ?_;refine aa.nil ?_;refine AW.draw aJ 13 (by kernel_rfl) ?_;refine qP 6 rfl ?_;refine ae.lp tok rfl rfl rfl rfl rfl (by show (((Qr q).n.map wd).length)*4≤_;rw[aO];omega) ?_;refine qP 3 rfl ?_;refine ae.lp tok rfl rfl rfl rfl rfl (by show (((Qr q).d.map wd).length)*4≤_;rw[aO];omega) ?_;refine qP 1 rfl ?_;refine ae.mF tok rfl rfl rfl rfl rfl rfl ?_;refine ae.nil ?_;refine aa.lR tok rfl rfl rfl rfl rfl rfl (by rw[List.length_map,hol];show (_+1)*56≤_;omega) (by rw[List.length_map,hol];show _+1≤_;omega) ?_;refine qU 1 rfl ?_;refine aa.nil ?_;refine qT 1 rfl ?_;rw[aq (x:=(i:Int)+1) (by omega) (by omega)];refine qU 1 rfl ?_;refine aa.nil ?_;exact⟨i+1,by rw[htk];show _=[(3,AV.ow _ (List.map _ _)),_,_,_];rw[List.map_append];rfl,hii,by omega⟩
   have hii:i=a.length:=by have:=of_decide_eq_false h;omega
   subst hii;rw[List.take_length];refine AW.exit ?_;refine qX 2 rfl ?_;exact qN rfl
end Lift
namespace Lift
open Go Go.Proofs
section
variable {P:Program} {T:Ty} {B:Nat} {F0:Nat→Prop} {w0:bS} {n:Nat} {σ σ0 τ:St} {K:St→Prop} {all ops:Array Oper} {o:Oper} {d:Nat} {ds:List Nat} {rest:List Oper}
theorem yM(a:NQ)(lo hi:Option Int):((dJ a).take (bM (dJ a).length hi)).drop (ei lo)=dJ ((a.take (bM a.length hi)).drop (ei lo)):=by
 show List.drop _ (List.take (bM (List.map _ a).length hi) (List.map _ a))=List.map _ _;rw[List.map_drop,List.map_take,List.length_map]
theorem aa.fg(hT:a7 P T){a:NQ}{lo hi:Option Int}(x:NQ)(hd:o.dst=some d)(hdn:Nat.ble (d+1) n=true)(hg:aA all σ o=true)(hx:zL T σ.get o.op=some (af a,lo,hi))(g1:okB lo)(g2:okB hi)(g3:ei lo≤bM a.length hi)(g4:bM a.length hi≤a.length)(hxx:(a.take (bM a.length hi)).drop (ei lo)=x)
  (h:aa P B F0 w0 n all rest K ((d,.d (af x))::σ)):aa P B F0 w0 n all (o::rest) K σ:=by
 refine aa.yN hT hd hdn hg hx g1 g2 (by rw[List.length_map];exact g3) (by rw[List.length_map];exact g4) ?_;rw[yM,hxx];exact h
theorem ae.fg(hT:a7 P T){a:NQ}{lo hi:Option Int}(x:NQ)(hd:o.dst=some d)(hdn:Nat.ble (d+1) n=true)(hg:aA ops τ o=true)(hs:σ0.get d=none)(hx:zL T τ.get o.op=some (af a,lo,hi))(g1:okB lo)(g2:okB hi)(g3:ei lo≤bM a.length hi)(g4:bM a.length hi≤a.length)(hxx:(a.take (bM a.length hi)).drop (ei lo)=x)
  (h:ae P B F0 w0 n ops ds σ0 rest ((d,.d (af x))::τ) K):ae P B F0 w0 n ops ds σ0 (o::rest) τ K:=by
 refine ae.yN hT hd hdn hg hs hx g1 g2 (by rw[List.length_map];exact g3) (by rw[List.length_map];exact g4) ?_;rw[yM,hxx];exact h
end
theorem fJ(i:Nat)(h:i≤9223372036854775807):kx true .i64 (i:Int) 2= .int .i64 ((i / 2:Nat):Int):=by
 have e:((i:Int).tdiv ((2:Nat):Int))=((i / 2:Nat):Int):=rfl;show Value.int .i64 (IntKind.i64.wrap ((i:Int).tdiv ((2:Nat):Int)))=_;rw[e,aq (by omega) (by omega)]
theorem BG{rt:List NQ}{i:Nat}(h:i<rt.length):(rt.map af)[i]?=some (af (rt.getD i [])):=by simp[h]
theorem aB.len{l:Nat}{a:NQ}(h:aB l a)(hl:l≤10):a.length≤1024:=Nat.le_trans h.le (Nat.pow_le_pow_right (n:=2) (by decide) hl)
def fN:Nat→NQ→NQ
 | 0,a=>if a9 (a.take 1)=true then [] else a.take 1
 | i+1,a=>if a9 ((a.take (2^(i+1))).drop (2^i))=true then fN i a else a.take (2^(i+1))
def aF(a:NQ):NQ:=if a.length=0 then [] else fN a.length.log2 a
theorem yO: ∀{i:Nat} {a:NQ} {k:Nat},2^i≤a.length→aC k a→aB i (fN i a)∧aC k (fN i a)
 | 0,a,k,h,hs=>by
   unfold fN;split
   · exact⟨bG _,cE hs.pos⟩
   · exact⟨.inr ⟨0,Nat.le_refl _,by rw[List.length_take];have h:1≤a.length:=h;show min 1 _=1;omega⟩,hs.take _⟩
 | i+1,a,k,h,hs=>by
   unfold fN;have e:2^(i+1)=2^i*2:=Nat.pow_succ ..;split
   · have:=yO (i:=i) (a:=a) (by omega) hs;exact⟨this.1.mono (by omega),this.2⟩
   · exact⟨.inr ⟨i+1,Nat.le_refl _,by rw[List.length_take];omega⟩,hs.take _⟩
theorem bb{l k:Nat}{a:NQ}(h:aB l a)(hs:aC k a):aB l (aF a)∧aC k (aF a):=by
 unfold aF;split
 · exact⟨bG _,cE hs.pos⟩
 rename_i h0;rcases h with e | ⟨i,hi,e⟩
 · exact absurd e h0
 rw[e,Nat.log2_two_pow];have:=yO (i:=i) (a:=a) (by omega) hs;exact⟨this.1.mono hi,this.2⟩
theorem bd(a:NQ){l k:Nat}(ha:aB l a)(hl:l≤5)(hs:aC k a)(hk:k≤17300000000000):Pure Tryz.prog 43 [af a] (af (aF a)):=by
 refine qJ 45 Tryz.func43 rfl rfl rfl rfl (by kernel_rfl) (fun B F0 w0=>?_);have hl10:=ha.len (by omega);rcases ha with h0 | ⟨i,hi,hai⟩
 · obtain rfl:a=[]:=List.length_eq_zero_iff.1 h0;have cl:=kg (dJ []) (fun i=>by have:=Nat.two_pow_pos i;show 0≠_;omega) (by decide);have cc:=gw [] hs hk (by decide);refine qX 1 rfl ?_;refine qI ?_;refine qX 1 rfl ?_;refine aa.call tok rfl rfl rfl rfl cl ?_;refine qU 1 rfl ?_;refine qK 11 rfl ?_;refine aa.nil ?_;refine AW.ao rfl ?_;refine AW.skip ?_;refine qX 3 rfl ?_;refine qI (AW.block ?_);refine AW.aD [0,4] (fun _:Unit=>[(0,.d (af [])),(4,.d (dI 0))]) (fun _=>True) (fun _=>0) () rfl trivial (fun _ _=>?_);refine AW.seq ?_;refine qX 10 rfl ?_;refine aa.nil ?_;refine AW.ao rfl ?_;refine AW.exit (AW.seq ?_);refine qX 7 rfl ?_;refine aa.nil ?_;refine AW.ao rfl ?_;refine AW.skip ?_;refine qX 2 rfl ?_;refine aa.fg tok (a:=[]) [] rfl rfl rfl rfl trivial (Int.le_refl _) (Nat.le_refl _) (Nat.le_refl _) rfl ?_;refine aa.call tok rfl rfl rfl rfl cc ?_;refine qU 1 rfl ?_;exact qN rfl
 have cl:=dn (dJ a) (by rw[List.length_map];exact hai) (by omega);have hp:=Nat.two_pow_pos i;have hE:aF a=fN i a:=by unfold aF;rw[if_neg (by omega),hai,Nat.log2_two_pow]
 rw[hE];refine qX 1 rfl ?_;refine qI ?_;refine qX 1 rfl ?_;refine aa.call tok rfl rfl rfl rfl cl ?_;refine qU 1 rfl ?_;refine qK 2 rfl ?_;rw[List.length_map];refine qU 1 rfl ?_;rw[decide_eq_true (show (0:Int)<(a.length:Int) by omega)];refine qU 3 rfl ?_;rw[decide_eq_false (show ¬((i:Int)<0) by omega)];refine qU 3 rfl ?_;rw[decide_eq_false (show ¬((5:Int)<(i:Int)) by omega)];refine qU 2 rfl ?_;refine aa.nil ?_;refine AW.ao rfl ?_;refine AW.skip ?_;refine qX 2 rfl ?_;rw[List.length_map,hai];refine qU 1 rfl ?_;refine qI (AW.block ?_);refine AW.aD [0,4] (fun j:Nat=>[(0,.d (af a)),(4,.d (dI (2^j:Nat)))]) (fun j=>j≤i∧fN j a=fN i a) (fun j=>j) i rfl ⟨Nat.le_refl _,rfl⟩ (fun j hj=>?_);obtain ⟨hj,hjE⟩:=hj;show AW _ _ _ _ _ _ _ [(0,.d (af a)),(4,.d (dI (2^j:Nat)))];have hpj:2^j≤2^i:=Nat.pow_le_pow_right (by decide) hj;have hpp:=Nat.two_pow_pos j;refine AW.seq ?_;refine qX 2 rfl ?_;rcases j with _ | j
 · refine qU 8 rfl ?_;refine aa.nil ?_;refine AW.ao rfl ?_;refine AW.exit (AW.seq ?_);refine qX 4 rfl ?_;refine aa.fg tok (a:=a) (a.take 1) rfl rfl rfl rfl trivial (show (0:Int)≤1 by decide) (Nat.zero_le _) (show 1≤a.length by omega) rfl ?_;refine aa.call tok rfl rfl rfl rfl (kE (a.take 1) (by rw[List.length_take];omega)) ?_;refine qU 1 rfl ?_;refine aa.nil ?_;rw[← hjE];unfold fN;cases hz:a9 (a.take 1) with
   | true =>
     rw[if_pos rfl];refine AW.az rfl ?_;refine qX 1 rfl ?_;exact qN rfl
   | false =>
     rw[if_neg (by simp)];refine AW.ao rfl ?_;refine AW.skip ?_;refine qX 2 rfl ?_;refine aa.fg tok (a:=a) (a.take 1) rfl rfl rfl rfl trivial (show (0:Int)≤1 by decide) (Nat.zero_le _) (show 1≤a.length by omega) rfl ?_;refine aa.call tok rfl rfl rfl rfl (gw (a.take 1) (hs.take 1) hk (by rw[List.length_take];omega)) ?_;refine qU 1 rfl ?_;exact qN rfl
 have e2:2^(j+1)=2^j*2:=Nat.pow_succ ..;have eh:=jy j;rw[decide_eq_true (show (1:Int)<((2^(j+1):Nat):Int) by have:=Nat.two_pow_pos j;omega)];refine qU 3 rfl ?_;refine aa.div tok rfl rfl rfl rfl (by decide) ?_;rw[fJ _ (by omega),eh];refine qU 1 rfl ?_;refine aa.fg tok (a:=a) ((a.take (2^(j+1))).drop (2^j)) rfl rfl rfl rfl (Int.natCast_nonneg _) (Int.natCast_nonneg _) (show 2^j≤2^(j+1) by omega) (show 2^(j+1)≤a.length by omega) rfl ?_;refine aa.call tok rfl rfl rfl rfl (kE _ (by rw[List.length_drop,List.length_take];omega)) ?_;refine qU 1 rfl ?_;refine aa.nil ?_;cases hz:a9 ((a.take (2^(j+1))).drop (2^j)) with
 | true =>
   refine AW.az rfl ?_;refine AW.skip (AW.block ?_);refine qT 1 rfl ?_;refine aa.div tok rfl rfl rfl rfl (by decide) ?_;rw[fJ _ (by omega),eh];refine qU 1 rfl ?_;refine aa.nil ?_;exact⟨j,rfl,⟨by omega,by rw[← hjE];show _=if a9 ((a.take (2^(j+1))).drop (2^j))=true then _ else _;rw[if_pos hz]⟩,by omega⟩
 | false =>
 refine AW.ao rfl ?_;refine AW.exit (AW.seq ?_);refine qX 2 rfl ?_;rw[beq_eq_false_iff_ne.2 (show ((2^(j+1):Nat):Int)≠1 by have:=Nat.two_pow_pos j;omega)];refine qU 5 rfl ?_;refine aa.nil ?_;refine AW.ao rfl ?_;refine AW.skip ?_;refine qX 2 rfl ?_;refine aa.fg tok (a:=a) (a.take (2^(j+1))) rfl rfl rfl rfl trivial (Int.natCast_nonneg _) (Nat.zero_le _) (show 2^(j+1)≤a.length by omega) rfl ?_;refine aa.call tok rfl rfl rfl rfl (gw _ (hs.take _) hk (by rw[List.length_take];omega)) ?_;refine qU 1 rfl ?_;refine aa.nil ?_;rw[← hjE];unfold fN;rw[if_neg (by rw[hz];simp)];exact AW.ret rfl
end Lift
namespace Lift
open Go Go.Proofs
abbrev mc(a:NQ):Prop:=aC 17300000000000 a
def F4(R:NQ→NQ→NQ)(O:NQ→NQ→Prop)(rt:List NQ)(a b:NQ):Prop :=
 mc a∧mc b∧(a.length≠1→a9 a=false→a9 b=false →
  (b.length≤a.length / 2→O (a.take (a.length / 2)) b∧O (a.drop (a.length / 2)) b) ∧
  (¬b.length≤a.length / 2→(O (a.take (a.length / 2)) (b.take (a.length / 2))∧O (a.drop (a.length / 2)) (b.drop (a.length / 2))∧O (R (a.drop (a.length / 2)) (b.drop (a.length / 2))) (rt.getD (a.length.log2-1) []) ∧
   O (a.take (a.length / 2)) (b.drop (a.length / 2))∧O (a.drop (a.length / 2)) (b.take (a.length / 2))) ∧
   mc (R (a.take (a.length / 2)) (b.take (a.length / 2)))∧mc (R (R (a.drop (a.length / 2)) (b.drop (a.length / 2))) (rt.getD (a.length.log2-1) []))∧mc (R (a.take (a.length / 2)) (b.drop (a.length / 2)))∧mc (R (a.drop (a.length / 2)) (b.take (a.length / 2)))))
def vX(R:NQ→NQ→NQ)(O:NQ→NQ→Prop)(rt:List NQ)(a b:NQ):Prop:=if a.length<b.length then F4 R O rt b a else F4 R O rt a b
def yZ:Nat→List NQ→NQ→NQ→Prop
 | 0,rt,a,b=>vX (fun _ _=>[]) (fun _ _=>True) rt a b
 | l+1,rt,a,b=>vX (a6 l rt) (yZ l rt) rt a b
set_option maxHeartbeats 1600000 in
theorem qv{l:Nat}{R:NQ→NQ→NQ}{O:NQ→NQ→Prop}{rt:List NQ}{a b:NQ}(ha:aB l a)(hb:aB l b)(hrt:cZ rt)(hl:l≤rt.length)(hl5:rt.length≤10)(hok:vX R O rt a b)
  (hR: ∀l',l=l'+1→ ∀a' b',aB l' a'→aB l' b'→O a' b'→Pure Tryz.prog 128 [bF rt,af a',af b'] (af (R a' b'))∧aB l' (R a' b')):
  Pure Tryz.prog 128 [bF rt,af a,af b] (af (jm (iB R rt) a b)):=by
 refine qJ 100 Tryz.func128 rfl rfl rfl rfl (by kernel_rfl) (fun B F0 w0=>?_);have hla:=ha.len (by omega);have hlb:=hb.len (by omega);unfold vX at hok;refine qX 2 rfl ?_;refine aa.nil ?_;refine AW.cut [1,2,3] (fun s:NQ×NQ=>[(1,.d (af s.1)),(2,.d (af s.2)),(3,.bx [.sl 1 (rt.map af)])]) (fun s=>iB R rt s.1 s.2=jm (iB R rt) a b∧s.2.length≤s.1.length∧aB l s.1∧aB l s.2∧F4 R O rt s.1 s.2) ?_ (fun s hs=>?_)
 · refine qX 4 rfl ?_;rw[List.length_map,List.length_map];refine qU 1 rfl ?_;refine aa.nil ?_;unfold jm;by_cases hab:a.length<b.length
   · rw[decide_eq_true (show (a.length:Int)<(b.length:Int) by omega),if_pos hab];refine AW.az rfl ?_;refine qT 4 rfl ?_;refine aa.nil ?_;exact⟨(b,a),rfl,rfl,by show a.length≤b.length;omega,hb,ha,by rw[if_pos hab] at hok;exact hok⟩
   · rw[decide_eq_false (show ¬(a.length:Int)<(b.length:Int) by omega),if_neg hab];refine AW.ao rfl ?_;refine AW.skip ?_;exact⟨(a,b),rfl,rfl,by show b.length≤a.length;omega,ha,hb,by rw[if_neg hab] at hok;exact hok⟩
 · obtain ⟨x,y⟩:=s;obtain ⟨hE,hab,ha,hb,sa,sb,hm⟩:=hs;simp only[] at hE hab ha hb sa sb hm;show AW _ _ _ _ _ _ _ [(1,.d (af x)),(2,.d (af y)),(3,.bx [.sl 1 (rt.map af)])];rw[← hE];clear hE;clear hok;generalize x=a at *;generalize y=b at *;have hla:=ha.len (by omega);have hlb:=hb.len (by omega);have cz1:=lU a sa (by omega) (by omega);have cz2:=lU b sb (by omega) (by omega);unfold iB;refine AW.seq (AW.block ?_);refine qX 1 rfl ?_;refine aa.call tok rfl rfl rfl rfl cz1 ?_;cases hza:a9 a with
   | true =>
     rw[if_pos (by rfl)];refine qU 5 rfl ?_;refine aa.nil ?_;refine AW.az rfl ?_;refine qX 1 rfl ?_;exact qN rfl
   | false =>
   refine qU 2 rfl ?_;refine aa.call tok rfl rfl rfl rfl cz2 ?_;refine qU 2 rfl ?_;refine aa.nil ?_;cases hzb:a9 b with
   | true =>
     rw[if_pos (by rfl)];refine AW.az rfl ?_;refine qX 1 rfl ?_;exact qN rfl
   | false =>
   rw[if_neg (by decide)];refine AW.ao rfl ?_;refine qX 2 rfl ?_;rw[List.length_map];refine qU 2 rfl ?_;refine aa.nil ?_;have hb0:0<b.length:=List.length_pos_iff.2 (lv hzb);have ha0:0<a.length:=List.length_pos_iff.2 (lv hza);by_cases h1:a.length=1
   · rw[if_pos h1,beq_iff_eq.2 (show (a.length:Int)=1 by omega)];have g1:=ku (r:=a) (i:=0) ha0;have g2:=ku (r:=b) (i:=0) hb0;have cm:=pP (Qr (a.getD 0 0)) (Qr (b.getD 0 0)) (fv _ (sa 0)) (fv _ (sb 0)) (by omega);rw[bV,bV] at cm;refine AW.az rfl ?_;refine AW.seq ?_;refine AW.draw aJ 8 (by kernel_rfl) ?_;refine qP 1 rfl ?_;refine ae.idx tok (Qr (a.getD 0 0)).D rfl rfl rfl rfl rfl (Int.le_refl _) g1 ?_;refine qP 2 rfl ?_;refine ae.idx tok (Qr (b.getD 0 0)).D rfl rfl rfl rfl rfl (Int.le_refl _) g2 ?_;refine qP 1 rfl ?_;refine ae.call tok rfl rfl rfl rfl rfl cm ?_;refine ae.mF tok rfl rfl rfl rfl rfl rfl ?_;refine ae.nil ?_;refine qU 1 rfl ?_;exact qN rfl
   rw[if_neg h1,beq_eq_false_iff_ne.2 (show (a.length:Int)≠1 by omega)];refine AW.ao rfl ?_;refine AW.skip ?_
   obtain ⟨i,hi,hla2⟩: ∃i,i≤l∧a.length=2^i:=by
    rcases ha with e | e
    · omega
    · exact e
   have w6:i≠0:=fun e=>h1 (by rw[hla2,e]);obtain ⟨j,rfl⟩: ∃j,i=j+1:=⟨i-1,by omega⟩;obtain ⟨l',rfl⟩: ∃l',l=l'+1:=⟨l-1,by omega⟩;have hj:j≤l':=by omega
   have hR:=fun a' b' h1 h2 h3=>hR l' rfl a' b' h1 h2 h3;obtain ⟨hm1,hm2⟩:=hm h1 hza hzb;obtain ⟨e1,e2,e3⟩:=bz hla2;have hx:aB l' (a.take (a.length / 2)):= .inr ⟨j,hj,e1⟩;have hy:aB l' (a.drop (a.length / 2)):= .inr ⟨j,hj,e2⟩;have hlog:a.length.log2-1=j:=by rw[hla2,Nat.log2_two_pow];omega
   obtain ⟨n,hn⟩: ∃n,n=a.length / 2:=⟨_,rfl⟩
   have hn2:a.length=n+n:=by
    have:2^(j+1)=2^j*2:=Nat.pow_succ ..;omega
   rw[← hn] at e1 e2 e3 hx hy hm1 hm2 ⊢;refine qX 2 rfl ?_;rw[List.length_map];refine aa.div tok rfl rfl rfl rfl (by decide) ?_;rw[fJ _ (by omega),← hn];refine qU 1 rfl ?_;refine qI ?_;refine AW.draw aJ 7 (by kernel_rfl) ?_;refine qP 2 rfl ?_;refine ae.fg tok (a:=a) (a.take n) rfl rfl rfl rfl rfl trivial (Int.natCast_nonneg n) (Nat.zero_le _) (show n≤a.length by omega) rfl ?_;refine qP 2 rfl ?_;refine ae.fg tok (a:=a) (a.drop n) rfl rfl rfl rfl rfl (Int.natCast_nonneg n) trivial (show n≤a.length by omega) (Nat.le_refl _) (by show (a.take a.length).drop n=_;rw[List.take_length]) ?_;refine qP 1 rfl ?_;refine ae.nil ?_;refine qU 1 rfl ?_;refine qI ?_;refine qX 2 rfl ?_;rw[List.length_map];refine qU 2 rfl ?_;refine aa.nil ?_;by_cases h3:b.length≤n
   · rw[if_pos h3,decide_eq_true (show (b.length:Int)≤(n:Int) by omega)]
     have hb':aB l' b:=by
      rcases hb with e | ⟨i',_,e⟩
      · exact .inl e
      · refine .inr ⟨i',?_,e⟩;rw[e3,e] at h3;have:=gT h3;omega
     have r1:=hR _ _ hx hb' (hm1 h3).1;have r2:=hR _ _ hy hb' (hm1 h3).2;have cj:=jc (R (a.take n) b) (R (a.drop n) b) n (by omega);refine AW.az rfl ?_;refine AW.seq ?_;refine AW.draw aJ 10 (by kernel_rfl) ?_;refine qP 3 rfl ?_;refine ae.call tok rfl rfl rfl rfl rfl r1.1 ?_;refine qP 3 rfl ?_;refine ae.call tok rfl rfl rfl rfl rfl r2.1 ?_;refine qP 1 rfl ?_;refine ae.call tok rfl rfl rfl rfl rfl cj ?_;refine ae.nil ?_;refine qU 1 rfl ?_;exact qN rfl
   rw[if_neg h3,decide_eq_false (show ¬(b.length:Int)≤(n:Int) by omega)]
   have hlb2:b.length=2^(j+1):=by
    rcases hb with e | ⟨i',_,e⟩
    · omega
    · rw[e] at h3 hab ⊢;rw[hla2] at hab;rw[e3] at h3;have h4:=gT hab;have h5: ¬i'≤j:=fun h=>h3 (Nat.pow_le_pow_right (by decide) h);rw[show i'=j+1 by omega]
   obtain ⟨f1,f2,f3⟩:=bz hlb2;rw[show b.length / 2=n by omega] at f1 f2;have hu:aB l' (b.take n):= .inr ⟨j,hj,f1⟩;have hv:aB l' (b.drop n):= .inr ⟨j,hj,f2⟩;obtain ⟨⟨o1,o2,o5,o3,o4⟩,z1,z5,z3,z4⟩:=hm2 h3;rw[hlog] at o5 z5;have r1:=hR _ _ hx hu o1;have r2:=hR _ _ hy hv o2;have r3:=hR _ _ hx hv o3;have r4:=hR _ _ hy hu o4;rw[hlog];have hd:aB l' (rt.getD j []):= .inr ⟨j,hj,hrt j (by omega)⟩;have r5:=hR _ _ r2.2 hd o5;have n1:=r1.2.len (by omega);have n3:=r3.2.len (by omega);have n4:=r4.2.len (by omega);have n5:=r5.2.len (by omega);have p1:=cL (R (a.take n) (b.take n)) (R (R (a.drop n) (b.drop n)) (rt.getD j [])) z1 z5 (by omega) (by omega) (by omega);have p2:=cL (R (a.take n) (b.drop n)) (R (a.drop n) (b.take n)) z3 z4 (by omega) (by omega) (by omega);have cj:=jc (bj (R (a.take n) (b.take n)) (R (R (a.drop n) (b.drop n)) (rt.getD j []))) (bj (R (a.take n) (b.drop n)) (R (a.drop n) (b.take n))) n (by omega);have cl:=dn (dJ a) (by rw[List.length_map];exact hla2) (by omega);refine AW.ao rfl ?_;refine AW.skip (AW.seq ?_);refine AW.draw aJ 7 (by kernel_rfl) ?_;refine qP 2 rfl ?_;refine ae.fg tok (a:=b) (b.take n) rfl rfl rfl rfl rfl trivial (Int.natCast_nonneg n) (Nat.zero_le _) (show n≤b.length by omega) rfl ?_;refine qP 2 rfl ?_;refine ae.fg tok (a:=b) (b.drop n) rfl rfl rfl rfl rfl (Int.natCast_nonneg n) trivial (show n≤b.length by omega) (Nat.le_refl _) (by show (b.take b.length).drop n=_;rw[List.take_length]) ?_;refine qP 1 rfl ?_;refine ae.nil ?_;refine qU 1 rfl ?_;refine qI ?_;refine AW.draw aJ 7 (by kernel_rfl) ?_;refine qP 3 rfl ?_;refine ae.call tok rfl rfl rfl rfl rfl cl ?_;refine qP 1 rfl ?_;rw[aq (x:=((j+1:Nat):Int) -1) (by omega) (by omega),show ((j+1:Nat):Int) -1=(j:Int) by omega];refine ae.idx tok (af (rt.getD j [])) rfl rfl rfl rfl rfl (Int.natCast_nonneg j) (BG (by omega)) ?_;refine qP 1 rfl ?_;refine ae.nil ?_;refine qU 1 rfl ?_;refine qI ?_;refine AW.draw aJ 12 (by kernel_rfl) ?_;refine qP 3 rfl ?_;refine ae.call tok rfl rfl rfl rfl rfl r1.1 ?_;refine qP 4 rfl ?_;refine ae.call tok rfl rfl rfl rfl rfl r2.1 ?_;refine qP 1 rfl ?_;refine ae.call tok rfl rfl rfl rfl rfl r5.1 ?_;refine ae.call tok rfl rfl rfl rfl rfl p1 ?_;refine ae.nil ?_;refine qU 1 rfl ?_;refine qI ?_;refine AW.draw aJ 12 (by kernel_rfl) ?_;refine qP 4 rfl ?_;refine ae.call tok rfl rfl rfl rfl rfl r3.1 ?_;refine qP 3 rfl ?_;refine ae.call tok rfl rfl rfl rfl rfl r4.1 ?_;refine ae.call tok rfl rfl rfl rfl rfl p2 ?_;refine qP 1 rfl ?_;refine ae.call tok rfl rfl rfl rfl rfl cj ?_;refine ae.nil ?_;refine qU 1 rfl ?_;exact qN rfl
theorem bt: ∀(l:Nat) {rt:List NQ} {a b:NQ},aB l a→aB l b→cZ rt→l≤rt.length→rt.length≤10→yZ l rt a b→Pure Tryz.prog 128 [bF rt,af a,af b] (af (a6 l rt a b))
 | 0,rt,a,b,ha,hb,hrt,hl,hl5,hok=>qv (O:=fun _ _=>True) ha hb hrt hl hl5 hok (fun l' h=>by omega)
 | l+1,rt,a,b,ha,hb,hrt,hl,hl5,hok=>qv (O:=yZ l rt) ha hb hrt hl hl5 hok (fun l' e a' b' h1 h2 h3=>by
    obtain rfl:l=l':=by omega
    obtain ⟨K,k1,k2,k3⟩:=s3 a' b' rt
    exact⟨bt l h1 h2 hrt (by omega) hl5 h3,(cD l h1 h2 hrt (by omega) k1 k2 k3).1⟩)
theorem uD{l k:Nat}{R:NQ→NQ→NQ}{O:NQ→NQ→Prop}{rt:List NQ}{a b:NQ}(ha:aB l a)(hb:aB l b)(hab:b.length≤a.length)(hrt:cZ rt)(hl:l≤rt.length)(sa:aC k a)(sb:aC k b)(sr:ff k rt)(hk:sT l k≤17300000000000)
  (hR: ∀l',l=l'+1→ ∀a' b' m,k≤m→aB l' a'→aB l' b'→aC m a'→aC m b'→sT l' m≤17300000000000→O a' b'∧aB l' (R a' b')∧aC (sT l' m) (R a' b')):F4 R O rt a b:=by
 have hk1:=sa.pos;have h2:=bN l k;refine⟨sa.mono (by omega),sb.mono (by omega),fun h1 hza hzb=>?_⟩;have hb0:0<b.length:=List.length_pos_iff.2 (lv hzb);have ha0:0<a.length:=List.length_pos_iff.2 (lv hza)
 obtain ⟨i,hi,hla⟩: ∃i,i≤l∧a.length=2^i:=by
  rcases ha with e | e
  · omega
  · exact e
 have w6:i≠0:=fun e=>h1 (by rw[hla,e]);obtain ⟨j,rfl⟩: ∃j,i=j+1:=⟨i-1,by omega⟩;obtain ⟨l',rfl⟩: ∃l',l=l'+1:=⟨l-1,by omega⟩;have hj:j≤l':=by omega
 have hR:=fun a' b' m h1 h2 h3 h4 h5=>hR l' rfl a' b' m h1 h2 h3 h4 h5;obtain ⟨e1,e2,e3⟩:=bz hla;have hx:aB l' (a.take (a.length / 2)):= .inr ⟨j,hj,e1⟩;have hy:aB l' (a.drop (a.length / 2)):= .inr ⟨j,hj,e2⟩;have hs0:=bN l' k;have hs1:=bN l' (sT l' k);have hk:sT l' (sT l' k)+sT l' k+1≤17300000000000:=hk;refine⟨fun h3=>?_,fun h3=>?_⟩
 · have hb':aB l' b:=by
    rcases hb with e | ⟨i',_,e⟩
    · exact .inl e
    · refine .inr ⟨i',?_,e⟩;rw[e3,e] at h3;have:=gT h3;omega
   exact⟨(hR _ _ k (Nat.le_refl _) hx hb' (sa.take _) sb (by omega)).1,(hR _ _ k (Nat.le_refl _) hy hb' (sa.drop _) sb (by omega)).1⟩
 have hlb:b.length=2^(j+1):=by
  rcases hb with e | ⟨i',_,e⟩
  · omega
  · rw[e] at h3 hab ⊢;rw[hla] at hab;rw[e3] at h3;have h4:=gT hab;have h5: ¬i'≤j:=fun h=>h3 (Nat.pow_le_pow_right (by decide) h);rw[show i'=j+1 by omega]
 obtain ⟨f1,f2,f3⟩:=bz hlb;rw[show b.length / 2=a.length / 2 by rw[f3,e3]] at f1 f2;have hu:aB l' (b.take (a.length / 2)):= .inr ⟨j,hj,f1⟩;have hv:aB l' (b.drop (a.length / 2)):= .inr ⟨j,hj,f2⟩;have r1:=hR _ _ k (Nat.le_refl _) hx hu (sa.take _) (sb.take _) (by omega);have r2:=hR _ _ k (Nat.le_refl _) hy hv (sa.drop _) (sb.drop _) (by omega);have r3:=hR _ _ k (Nat.le_refl _) hx hv (sa.take _) (sb.drop _) (by omega);have r4:=hR _ _ k (Nat.le_refl _) hy hu (sa.drop _) (sb.take _) (by omega);have hlog:a.length.log2-1=j:=by rw[hla,Nat.log2_two_pow];omega
 have hd:aB l' (rt.getD (a.length.log2-1) []):= .inr ⟨j,hj,by rw[hlog];exact hrt j (by omega)⟩;have r5:=hR _ _ (sT l' k) (by omega) r2.2.1 hd r2.2.2 ((sr _).mono (by omega)) (by omega);exact⟨⟨r1.1,r2.1,r5.1,r3.1,r4.1⟩,r1.2.2.mono (by omega),r5.2.2.mono (by omega),r3.2.2.mono (by omega),r4.2.2.mono (by omega)⟩
theorem oe: ∀(l:Nat) {k:Nat} {rt:List NQ} {a b:NQ},aB l a→aB l b→cZ rt→l≤rt.length→aC k a→aC k b→ff k rt→sT l k≤17300000000000→yZ l rt a b
 | 0,k,rt,a,b,ha,hb,hrt,hl,sa,sb,sr,hk=>by
   show vX _ _ rt a b;unfold vX;split
   · exact uD hb ha (by omega) hrt hl sb sa sr hk (fun l' h=>by omega)
   · exact uD ha hb (by omega) hrt hl sa sb sr hk (fun l' h=>by omega)
 | l+1,k,rt,a,b,ha,hb,hrt,hl,sa,sb,sr,hk=>by
   show vX (a6 l rt) (yZ l rt) rt a b;unfold vX
   have ih: ∀l',l+1=l'+1→ ∀a' b' m,k≤m→aB l' a'→aB l' b'→aC m a'→aC m b'→sT l' m≤17300000000000→yZ l rt a' b'∧aB l' (a6 l rt a' b')∧aC (sT l' m) (a6 l rt a' b'):=fun l' e a' b' m hm h1 h2 h3 h4 h5=>by
    obtain rfl:l=l':=by omega
    exact⟨oe l h1 h2 hrt (by omega) h3 h4 (sr.mono hm) h5,cD l h1 h2 hrt (by omega) h3 h4 (sr.mono hm)⟩
   split
   · exact uD hb ha (by omega) hrt hl sb sa sr hk ih
   · exact uD ha hb (by omega) hrt hl sa sb sr hk ih
theorem qs(l:Nat){k:Nat}{rt:List NQ}{a b:NQ}(ha:aB l a)(hb:aB l b)(hrt:cZ rt)(hl:l≤rt.length)(hl5:rt.length≤10)(sa:aC k a)(sb:aC k b)(sr:ff k rt)(hk:sT l k≤17300000000000):Pure Tryz.prog 128 [bF rt,af a,af b] (af (a6 l rt a b)) :=
 bt l ha hb hrt hl hl5 (oe l ha hb hrt hl sa sb sr (by omega))
end Lift
namespace Lift
open Go Go.Proofs
def gK(l:Nat)(rt:List NQ)(a:NQ):NQ :=
 bj (a6 l rt (a.take (a.length / 2)) (a.take (a.length / 2))) (bc (a6 l rt (a6 l rt (a.drop (a.length / 2)) (a.drop (a.length / 2))) (rt.getD (a.length.log2-1) [])))
def sB(R:NQ→Int)(N:NQ→NQ)(rt:List NQ)(a:NQ):Int :=
 if a.length=0 then 0 else if a.length=1 then ud (a.getD 0 0) else
 if R (rt.getD (a.length.log2-1) [])=0 then R (a.take (a.length / 2)) else
 if R (a.take (a.length / 2))=R (a.drop (a.length / 2))∨R (a.drop (a.length / 2))=0 then R (a.take (a.length / 2)) else
 if R (a.take (a.length / 2))=0 then R (a.drop (a.length / 2)) else R (a.take (a.length / 2))*R (N a)
def ep:Nat→List NQ→NQ→Int
 | 0,rt,a=>sB (fun _=>0) (fun a=>a) rt (aF a)
 | l+1,rt,a=>sB (ep l rt) (gK l rt) rt (aF a)
def pb:Nat→Nat→Prop
 | 0,k=>k≤17300000000000
 | l+1,k=>sT (l+1) k≤17300000000000∧pb l (sT (l+1) k)
theorem vZ: ∀{l k m:Nat},pb l k→m≤k→pb l m
 | 0,k,m,h,hm=>Nat.le_trans hm h
 | l+1,k,m,h,hm=>⟨Nat.le_trans (pX hm) h.1,vZ h.2 (pX hm)⟩
theorem uC: ∀{l k:Nat},pb l k→k≤17300000000000
 | 0,k,h=>h
 | l+1,k,h=>by have:=bN (l+1) k;have:=h.1;omega
theorem iy{l k:Nat}(h:pb (l+1) k):pb l k:=vZ h.2 (by have:=bN (l+1) k;omega)
def sW(z:Int):Prop:=z=0∨z=1∨z= -1
theorem jR{x y:Int}(hx:sW x)(hy:sW y):sW (x*y):=by
 unfold sW at *;rcases hx with rfl | rfl | rfl<;>rcases hy with rfl | rfl | rfl<;>decide
theorem vF{R:NQ→Int}{N:NQ→NQ}{rt:List NQ}{a:NQ}(hR: ∀b,sW (R b)):sW (sB R N rt a):=by
 unfold sB;split
 · exact .inl rfl
 split
 · exact nX _
 split
 · exact hR _
 split
 · exact hR _
 split
 · exact hR _
 · exact jR (hR _) (hR _)
theorem lz: ∀(l:Nat) (rt:List NQ) (a:NQ),sW (ep l rt a)
 | 0,rt,a=>vF (fun _=> .inl rfl)
 | l+1,rt,a=>vF (fun b=>lz l rt b)
theorem uJ{l k j:Nat}{rt:List NQ}{a:NQ}(hj:j≤l)(ha:a.length=2^(j+1))(hrt:cZ rt)(hl:l<rt.length)(sa:aC k a)(sr:ff k rt):aB l (gK l rt a)∧aC (sT (l+1) k) (gK l rt a):=by
 obtain ⟨e1,e2,e3⟩:=bz ha;have hx:aB l (a.take (a.length / 2)):= .inr ⟨j,hj,e1⟩;have hy:aB l (a.drop (a.length / 2)):= .inr ⟨j,hj,e2⟩;have hlog:a.length.log2-1=j:=by rw[ha,Nat.log2_two_pow];omega
 have hd:aB l (rt.getD j []):= .inr ⟨j,hj,hrt j (by omega)⟩;have h0:=bN l k;have h1:=bN l (sT l k);have r1:=cD l hx hx hrt (by omega) (sa.take _) (sa.take _) sr;have r2:=cD l hy hy hrt (by omega) (sa.drop _) (sa.drop _) sr;have r3:=cD l r2.1 hd hrt (by omega) r2.2 ((sr _).mono (by omega)) (sr.mono (by omega));unfold gK;rw[hlog];refine⟨r1.1.plus r3.1.minus,(r1.2.plus r3.2.minus).mono ?_⟩;show _≤sT l (sT l k)+sT l k+1;omega
def Ey(l:Nat)(rt:List NQ)(a:NQ):Prop :=
 yZ l rt (a.take (a.length / 2)) (a.take (a.length / 2))∧yZ l rt (a.drop (a.length / 2)) (a.drop (a.length / 2))∧yZ l rt (a6 l rt (a.drop (a.length / 2)) (a.drop (a.length / 2))) (rt.getD (a.length.log2-1) []) ∧
 mc (a6 l rt (a.take (a.length / 2)) (a.take (a.length / 2)))∧mc (a6 l rt (a6 l rt (a.drop (a.length / 2)) (a.drop (a.length / 2))) (rt.getD (a.length.log2-1) []))
theorem uK{l j:Nat}{rt:List NQ}{a:NQ}(hj:j≤l)(ha:a.length=2^(j+1))(hrt:cZ rt)(hl:l<rt.length):aB l (gK l rt a):=by
 obtain ⟨K,k1,_,k3⟩:=s3 a a rt;exact(uJ hj ha hrt hl k1 k3).1
theorem ez(l:Nat){rt:List NQ}{a b:NQ}(ha:aB l a)(hb:aB l b)(hrt:cZ rt)(hl:l≤rt.length):aB l (a6 l rt a b):=by
 obtain ⟨K,k1,k2,k3⟩:=s3 a b rt;exact(cD l ha hb hrt hl k1 k2 k3).1
theorem kC{l j:Nat}{rt:List NQ}{a:NQ}(hj:j≤l)(ha:a.length=2^(j+1))(hrt:cZ rt)(hl:l<rt.length)(hl5:rt.length≤10)(hok:Ey l rt a):
  Pure Tryz.prog 87 [bF rt,af a] (af (gK l rt a)):=by
 refine qJ 36 Tryz.func87 rfl rfl rfl rfl (by kernel_rfl) (fun B F0 w0=>?_);obtain ⟨e1,e2,e3⟩:=bz ha;have hx:aB l (a.take (a.length / 2)):= .inr ⟨j,hj,e1⟩;have hy:aB l (a.drop (a.length / 2)):= .inr ⟨j,hj,e2⟩;have hlog:a.length.log2-1=j:=by rw[ha,Nat.log2_two_pow];omega
 have hd:aB l (rt.getD j []):= .inr ⟨j,hj,hrt j (by omega)⟩;obtain ⟨o1,o2,o3,z1,z3⟩:=hok;rw[hlog] at o3 z3;have r1:=ez l hx hx hrt (by omega);have r2:=ez l hy hy hrt (by omega);have r3:=ez l r2 hd hrt (by omega);have c1:=bt l hx hx hrt (by omega) hl5 o1;have c2:=bt l hy hy hrt (by omega) hl5 o2;have c3:=bt l r2 hd hrt (by omega) hl5 o3;have n1:=r1.len (by omega);have n3:=r3.len (by omega);have c4:=dN _ z3 (by omega) (by omega);have c5:=cL _ _ z1 z3.minus (by omega) (by omega) (by rw[iC];omega);have cl:=dn (dJ a) (by rw[List.length_map];exact ha) (by omega);have hp:2^(j+1)≤2^10:=Nat.pow_le_pow_right (by decide) (by omega);unfold gK;rw[hlog];obtain ⟨n,hn⟩: ∃n,n=a.length / 2:=⟨_,rfl⟩;rw[← hn] at e1 e2 e3 hx hy c1 c2 c3 c4 c5 ⊢;refine qX 2 rfl ?_;refine qK 2 rfl ?_;rw[List.length_map];refine aa.div tok rfl rfl rfl rfl (by decide) ?_;rw[fJ _ (by omega),← hn];refine qU 1 rfl ?_;refine qI ?_;refine AW.draw aJ 7 (by kernel_rfl) ?_;refine qP 2 rfl ?_;refine ae.fg tok (a:=a) (a.take n) rfl rfl rfl rfl rfl trivial (Int.natCast_nonneg n) (Nat.zero_le _) (show n≤a.length by omega) rfl ?_;refine qP 2 rfl ?_;refine ae.fg tok (a:=a) (a.drop n) rfl rfl rfl rfl rfl (Int.natCast_nonneg n) trivial (show n≤a.length by omega) (Nat.le_refl _) (by show (a.take a.length).drop n=_;rw[List.take_length]) ?_;refine qP 1 rfl ?_;refine ae.nil ?_;refine qU 1 rfl ?_;refine qI ?_;refine AW.draw aJ 19 (by kernel_rfl) ?_;refine qP 3 rfl ?_;refine ae.call tok rfl rfl rfl rfl rfl c1 ?_;refine qP 4 rfl ?_;refine ae.call tok rfl rfl rfl rfl rfl c2 ?_;refine qP 3 rfl ?_;refine ae.call tok rfl rfl rfl rfl rfl cl ?_;refine qP 1 rfl ?_;rw[aq (x:=((j+1:Nat):Int) -1) (by omega) (by omega),show ((j+1:Nat):Int) -1=(j:Int) by omega];refine ae.idx tok (af (rt.getD j [])) rfl rfl rfl rfl rfl (Int.natCast_nonneg j) (BG (by omega)) ?_;refine qP 1 rfl ?_;refine ae.call tok rfl rfl rfl rfl rfl c3 ?_;refine ae.call tok rfl rfl rfl rfl rfl c4 ?_;refine ae.call tok rfl rfl rfl rfl rfl c5 ?_;refine ae.nil ?_;refine qU 1 rfl ?_;exact qN rfl
theorem Ex{l k j:Nat}{rt:List NQ}{a:NQ}(hj:j≤l)(ha:a.length=2^(j+1))(hrt:cZ rt)(hl:l<rt.length)(sa:aC k a)(sr:ff k rt)(hk:sT (l+1) k≤17300000000000):Ey l rt a:=by
 obtain ⟨e1,e2,e3⟩:=bz ha;have hx:aB l (a.take (a.length / 2)):= .inr ⟨j,hj,e1⟩;have hy:aB l (a.drop (a.length / 2)):= .inr ⟨j,hj,e2⟩;have hlog:a.length.log2-1=j:=by rw[ha,Nat.log2_two_pow];omega
 have hd:aB l (rt.getD j []):= .inr ⟨j,hj,hrt j (by omega)⟩;have h0:=bN l k;have h1:=bN l (sT l k);have hk:sT l (sT l k)+sT l k+1≤17300000000000:=hk;have r1:=cD l hx hx hrt (by omega) (sa.take _) (sa.take _) sr;have r2:=cD l hy hy hrt (by omega) (sa.drop _) (sa.drop _) sr;have r3:=cD l r2.1 hd hrt (by omega) r2.2 ((sr _).mono (by omega)) (sr.mono (by omega));unfold Ey;rw[hlog];exact⟨oe l hx hx hrt (by omega) (sa.take _) (sa.take _) sr (by omega),oe l hy hy hrt (by omega) (sa.drop _) (sa.drop _) sr (by omega),oe l r2.1 hd hrt (by omega) r2.2 ((sr j).mono (by omega)) (sr.mono (by omega)) (by omega),r1.2.mono (by omega),r3.2.mono (by omega)⟩
def Fp(O:NQ→Prop)(N:NQ→NQ)(Nk:NQ→Prop)(rt:List NQ)(s:NQ):Prop:=s.length≠0→s.length≠1 →
 O (s.take (s.length / 2))∧O (s.drop (s.length / 2))∧O (rt.getD (s.length.log2-1) [])∧Nk s∧O (N s)
def Bk:Nat→List NQ→NQ→Prop
 | 0,rt,a=>mc a
 | l+1,rt,a=>mc a∧Fp (Bk l rt) (gK l rt) (Ey l rt) rt (aF a)
theorem rh: ∀(l:Nat) {k:Nat} {rt:List NQ} {a:NQ},aB l a→cZ rt→l≤rt.length→aC k a→ff k rt→pb l k→Bk l rt a
 | 0,k,rt,a,ha,hrt,hl,sa,sr,hok=>sa.mono (Nat.le_trans hok (by decide))
 | l+1,k,rt,a,ha,hrt,hl,sa,sr,hok=>by
   have hk:=uC hok;refine⟨sa.mono (by omega),fun h0 h1=>?_⟩;obtain ⟨ha,sa⟩:=bb ha sa;generalize aF a=b at ha sa h0 h1 ⊢
   obtain ⟨i,hi,hla⟩: ∃i,i≤l+1∧b.length=2^i:=by
    rcases ha with e | e
    · omega
    · exact e
   have w6:i≠0:=fun e=>h1 (by rw[hla,e]);obtain ⟨j,rfl⟩: ∃j,i=j+1:=⟨i-1,by omega⟩;have hj:j≤l:=by omega
   obtain ⟨e1,e2,e3⟩:=bz hla;have hx:aB l (b.take (b.length / 2)):= .inr ⟨j,hj,e1⟩;have hy:aB l (b.drop (b.length / 2)):= .inr ⟨j,hj,e2⟩;have hlog:b.length.log2-1=j:=by rw[hla,Nat.log2_two_pow];omega
   have hd:aB l (rt.getD (b.length.log2-1) []):= .inr ⟨j,hj,by rw[hlog];exact hrt j (by omega)⟩;have hn:=uJ hj hla hrt (by omega) sa sr;have h2:=bN (l+1) k;have h3:=hok.1;exact⟨rh l hx hrt (by omega) (sa.take _) sr (iy hok),rh l hy hrt (by omega) (sa.drop _) sr (iy hok),rh l hd hrt (by omega) (sr _) sr (iy hok),Ex hj hla hrt (by omega) sa sr (by omega),rh l hn.1 hrt (by omega) hn.2 (sr.mono (by omega)) hok.2⟩
theorem Bk.sz{l:Nat}{rt:List NQ}{a:NQ}(h:Bk l rt a):mc a:=by
 cases l with
 | zero=>exact h
 | succ l=>exact h.1
set_option maxHeartbeats 1600000 in
theorem s7{l:Nat}{R:NQ→Int}{O:NQ→Prop}{N:NQ→NQ}{Nk:NQ→Prop}{rt:List NQ}{a:NQ}(ha:aB l a)(hl5:l≤5)(hrt:cZ rt)(hl:l≤rt.length)(hl10:rt.length≤10)(sa:mc a)(hok:l≠0→Fp O N Nk rt (aF a))
  (hR: ∀l',l=l'+1→ ∀b,aB l' b→O b→Pure Tryz.prog 45 [bF rt,af b] (dI (R b))) (hT: ∀b,sW (R b))
  (hN: ∀l',l=l'+1→ ∀b j,j≤l'→b.length=2^(j+1)→Nk b→Pure Tryz.prog 87 [bF rt,af b] (af (N b))∧aB l' (N b)):
  Pure Tryz.prog 45 [bF rt,af a] (dI (sB R N rt (aF a))):=by
 refine qJ 64 Tryz.func45 rfl rfl rfl rfl (by kernel_rfl) (fun B F0 w0=>?_);have cs:=bd a ha hl5 sa (by omega);obtain ⟨ha,sa⟩:=bb ha sa;generalize aF a=b at cs ha sa hok ⊢;have hlb:=ha.len (by omega);unfold sB;refine qX 2 rfl ?_;refine qK 1 rfl ?_;refine aa.call tok rfl rfl rfl rfl cs ?_;refine qU 1 rfl ?_;refine qI ?_;refine qX 2 rfl ?_;rw[List.length_map];refine qU 1 rfl ?_;refine aa.nil ?_;by_cases h0:b.length=0
 · rw[if_pos h0,h0];refine AW.az rfl ?_;refine qX 1 rfl ?_;exact qN rfl
 rw[if_neg h0,beq_eq_false_iff_ne.2 (show (b.length:Int)≠0 by omega)];refine AW.ao rfl ?_;refine AW.skip (AW.seq ?_);refine qX 2 rfl ?_;rw[List.length_map];refine qU 1 rfl ?_;refine aa.nil ?_;by_cases h1:b.length=1
 · have g:=ku (r:=b) (i:=0) (by omega);have cq:=jF (Qr (b.getD 0 0)) (fv _ (sa 0)) (by omega);rw[bV,yP] at cq;rw[if_pos h1,h1];refine AW.az rfl ?_;refine qX 1 rfl ?_;refine aa.idx tok (Qr (b.getD 0 0)).D rfl rfl rfl rfl (Int.le_refl _) g ?_;refine qU 1 rfl ?_;refine aa.call tok rfl rfl rfl rfl cq ?_;refine qU 1 rfl ?_;exact qN rfl
 rw[if_neg h1,beq_eq_false_iff_ne.2 (show (b.length:Int)≠1 by omega)];refine AW.ao rfl ?_;refine AW.skip ?_
 obtain ⟨i,hi,hla2⟩: ∃i,i≤l∧b.length=2^i:=by
  rcases ha with e | e
  · omega
  · exact e
 have w6:i≠0:=fun e=>h1 (by rw[hla2,e]);obtain ⟨j,rfl⟩: ∃j,i=j+1:=⟨i-1,by omega⟩;obtain ⟨l',rfl⟩: ∃l',l=l'+1:=⟨l-1,by omega⟩;have hj:j≤l':=by omega
 have hR:=hR l' rfl;obtain ⟨o1,o2,o3,o4,o5⟩:=hok (by omega) h0 h1;have hN:=hN l' rfl b j hj hla2 o4;obtain ⟨e1,e2,e3⟩:=bz hla2;have hx:aB l' (b.take (b.length / 2)):= .inr ⟨j,hj,e1⟩;have hy:aB l' (b.drop (b.length / 2)):= .inr ⟨j,hj,e2⟩;have hlog:b.length.log2-1=j:=by rw[hla2,Nat.log2_two_pow];omega
 have hd:aB l' (rt.getD j []):= .inr ⟨j,hj,hrt j (by omega)⟩;rw[hlog] at o3;have r1:=hR _ hx o1;have r2:=hR _ hy o2;have r3:=hR _ hd o3;have r4:=hR _ hN.2 o5;have t1:=hT (b.take (b.length / 2));have t2:=hT (b.drop (b.length / 2));have t4:=jR t1 (hT (N b));have cn:=hN.1;have cl:=dn (dJ b) (by rw[List.length_map];exact hla2) (by omega);rw[hlog];obtain ⟨n,hn⟩: ∃n,n=b.length / 2:=⟨_,rfl⟩;rw[← hn] at e1 e2 e3 hx hy r1 r2 t1 t2 t4 ⊢;generalize R (b.take n)=x at r1 t1 t4 ⊢;generalize R (b.drop n)=y at r2 t2 ⊢;generalize R (rt.getD j [])=z at r3 ⊢;generalize R (N b)=u at r4 t4 ⊢;refine qX 2 rfl ?_;rw[List.length_map];refine aa.div tok rfl rfl rfl rfl (by decide) ?_;rw[fJ _ (by omega),← hn];refine qU 1 rfl ?_;refine qI ?_;refine AW.draw aJ 10 (by kernel_rfl) ?_;refine qP 3 rfl ?_;refine ae.fg tok (a:=b) (b.take n) rfl rfl rfl rfl rfl trivial (Int.natCast_nonneg n) (Nat.zero_le _) (show n≤b.length by omega) rfl ?_;refine ae.call tok rfl rfl rfl rfl rfl r1 ?_;refine qP 3 rfl ?_;refine ae.fg tok (a:=b) (b.drop n) rfl rfl rfl rfl rfl (Int.natCast_nonneg n) trivial (show n≤b.length by omega) (Nat.le_refl _) (by show (b.take b.length).drop n=_;rw[List.take_length]) ?_;refine ae.call tok rfl rfl rfl rfl rfl r2 ?_;refine ae.nil ?_;refine qU 2 rfl ?_;refine qI (AW.seq ?_);refine AW.draw aJ 10 (by kernel_rfl) ?_;refine qP 4 rfl ?_;refine ae.call tok rfl rfl rfl rfl rfl cl ?_;refine qP 1 rfl ?_;rw[aq (x:=((j+1:Nat):Int) -1) (by omega) (by omega),show ((j+1:Nat):Int) -1=(j:Int) by omega];refine ae.idx tok (af (rt.getD j [])) rfl rfl rfl rfl rfl (Int.natCast_nonneg j) (BG (by omega)) ?_;refine qP 1 rfl ?_;refine ae.call tok rfl rfl rfl rfl rfl r3 ?_;refine qP 1 rfl ?_;refine ae.nil ?_;refine aa.nil ?_;by_cases hz:z=0
 · rw[if_pos hz,beq_iff_eq.2 hz];refine AW.az rfl ?_;refine qX 2 rfl ?_;exact qN rfl
 rw[if_neg hz,beq_eq_false_iff_ne.2 hz];refine AW.ao rfl ?_;refine AW.skip (AW.seq (AW.block ?_));refine qX 3 rfl ?_;by_cases hxy:x=y
 · rw[if_pos (.inl hxy),beq_iff_eq.2 hxy];refine qU 5 rfl ?_;refine aa.nil ?_;refine AW.az rfl ?_;refine qX 2 rfl ?_;exact qN rfl
 rw[beq_eq_false_iff_ne.2 hxy];refine qU 3 rfl ?_;by_cases hy0:y=0
 · rw[if_pos (.inr hy0),beq_iff_eq.2 hy0];refine qU 2 rfl ?_;refine aa.nil ?_;refine AW.az rfl ?_;refine qX 2 rfl ?_;exact qN rfl
 rw[if_neg (fun h=>h.elim hxy hy0),beq_eq_false_iff_ne.2 hy0];refine qU 2 rfl ?_;refine aa.nil ?_;refine AW.ao rfl ?_;refine qX 3 rfl ?_;refine aa.nil ?_;by_cases hx0:x=0
 · rw[if_pos hx0,beq_iff_eq.2 hx0];refine AW.az rfl ?_;refine qX 2 rfl ?_;exact qN rfl
 rw[if_neg hx0,beq_eq_false_iff_ne.2 hx0];refine AW.ao rfl ?_;refine AW.skip (AW.seq ?_);refine AW.draw aJ 7 (by kernel_rfl) ?_;refine qP 4 rfl ?_;refine ae.call tok rfl rfl rfl rfl rfl cn ?_;refine ae.call tok rfl rfl rfl rfl rfl r4 ?_;refine qP 1 rfl ?_;rw[aq (x:=x*u) (by unfold sW at t4;omega) (by unfold sW at t4;omega)];refine ae.nil ?_;refine qU 1 rfl ?_;exact qN rfl
theorem dL: ∀(l:Nat) {rt:List NQ} {a:NQ},aB l a→l≤5→cZ rt→l≤rt.length→rt.length≤10→Bk l rt a→Pure Tryz.prog 45 [bF rt,af a] (dI (ep l rt a))
 | 0,rt,a,ha,hl5,hrt,hl,hl10,hok=>s7 (O:=fun _=>True) (Nk:=fun _=>True) ha hl5 hrt hl hl10 hok (fun h=>absurd rfl h) (fun l' h=>by omega) (fun _=> .inl rfl) (fun l' h=>by omega)
 | l+1,rt,a,ha,hl5,hrt,hl,hl10,hok=>s7 (O:=Bk l rt) (Nk:=Ey l rt) ha hl5 hrt hl hl10 hok.1 (fun _=>hok.2) (fun l' e b h1 h2=>by
    obtain rfl:l=l':=by omega
    exact dL l h1 (by omega) hrt (by omega) hl10 h2) (lz l rt) (fun l' e b j h1 h2 h3=>by
    obtain rfl:l=l':=by omega
    exact⟨kC h1 h2 hrt (by omega) hl10 h3,uK h1 h2 hrt (by omega)⟩)
theorem lV(l:Nat){k:Nat}{rt:List NQ}{a:NQ}(ha:aB l a)(hl5:l≤5)(hrt:cZ rt)(hl:l≤rt.length)(hl10:rt.length≤10)(sa:aC k a)(sr:ff k rt)(hok:pb l k):Pure Tryz.prog 45 [bF rt,af a] (dI (ep l rt a)) :=
 dL l ha hl5 hrt hl hl10 (rh l ha hrt hl sa sr hok)
end Lift
namespace Lift
open Go Go.Proofs
abbrev aY(a:List RD):D:= .sl 3 (a.map RD.D)
abbrev se(rt:List (List RD)):D:= .ag [.sl 1 (rt.map aY)]
def iU(a:List RD):Bool:=a.all RD.okB
def xM(m n:Nat):Bool:=(List.range (m+1)).any fun i=>decide (n=2^i)
def bp(m:Nat)(a:List RD):Nat:=if a.length≠0∧xM m a.length=false then 10 else if iU a=false then 2 else 0
def ar(a:List RD):NQ:=a.map RD.val
def wN(k:Nat)(a:List RD):Prop:= ∀i,i<a.length→(a.getD i default).w k
def so(rt:List (List RD))(k:Nat):Nat:=if (rt.getD k []).length≠2^k then 10 else if bp k (rt.getD k [])≠0 then bp k (rt.getD k []) else if ep k ((rt.take k).map ar) (ar (rt.getD k []))<0 then 3 else 0
def ck(rt:List (List RD)):Nat:=if 5<rt.length then 4 else fE (so rt) (rt.length-0) 0
def iH(rt l:List (List RD)):Nat:=if ck rt≠0 then ck rt else fE (fun i=>bp rt.length (l.getD i [])) (l.length-0) 0
theorem Bn(a:List RD)(i:Nat):(ar a).getD i 0=if i<a.length then (a.getD i default).val else 0:=by
 unfold ar;rw[List.getD_eq_getElem?_getD,List.getElem?_map,List.getD_eq_getElem?_getD];by_cases h:i<a.length
 · rw[if_pos h,List.getElem?_eq_getElem h];rfl
 · rw[if_neg h,List.getElem?_eq_none (by omega)];rfl
theorem kG{a:List RD}{k:Nat}(h:wN k a)(h1:1≤k):aC k (ar a):=fun c=>by
 rw[Bn];split
 · rename_i hc;exact bE (h c hc) h1
 · exact mM h1
theorem jA{a:List RD}{k:Nat}(hw:wN k a)(h:iU a=true):aY a=af (ar a):=by
 show D.sl 3 (a.map RD.D)=D.sl 3 (List.map _ (List.map _ a));rw[List.map_map]
 congr 1
 refine List.map_congr_left fun x hx=>?_;obtain ⟨i,hi,rfl⟩:=List.mem_iff_getElem.1 hx;have hi2:=hw i hi;rw[List.getD_eq_getElem?_getD,List.getElem?_eq_getElem hi] at hi2;unfold iU at h;rw[List.all_eq_true] at h;have:=RD.canon hi2 (h _ (List.getElem_mem hi));simp only[Option.getD_some] at this;show (a[i]).D=(Qr (a[i]).val).D;rw[← this]
theorem v5{l:List RD}{i:Nat}(hi:i<l.length)(h:(l.getD i default).okB=false):iU l=false:=EY hi h
theorem tv{l:List RD}(h: ∀i,i<l.length→(l.getD i default).okB=true):iU l=true:=DB h
theorem uU(m i:Nat):xM m (2^i)=decide (i≤m):=by
 unfold xM;by_cases h:i≤m
 · rw[decide_eq_true h,List.any_eq_true];exact⟨i,List.mem_range.2 (by omega),decide_eq_true rfl⟩
 · rw[decide_eq_false h,List.any_eq_false];intro j hj;have hj:=List.mem_range.1 hj;rw[decide_eq_false]
   · simp
   · intro e;have h1:=gT (Nat.le_of_eq e);omega
theorem De{m n:Nat}(h: ∀i,n≠2^i):xM m n=false:=by
 unfold xM;rw[List.any_eq_false];intro j _;rw[decide_eq_false (h j)];simp
theorem Bt{m n:Nat}(h:xM m n=true): ∃i,i≤m∧n=2^i:=by
 unfold xM at h;rw[List.any_eq_true] at h;obtain ⟨i,h1,h2⟩:=h;exact⟨i,by have:=List.mem_range.1 h1;omega,of_decide_eq_true h2⟩
theorem nr{m:Nat}{a:List RD}(h:bp m a=0):aB m (ar a)∧iU a=true:=by
 unfold bp at h;split at h
 · cases h
 rename_i h1;split at h
 · cases h
 rename_i h2;constructor
 · by_cases h0:a.length=0
   · exact .inl (by unfold ar;rw[List.length_map];exact h0)
   · have h3:xM m a.length=true:=by
      cases hv:xM m a.length
      · exact absurd ⟨h0,hv⟩ h1
      · rfl
     obtain ⟨i,h4,h5⟩:=Bt h3;exact .inr ⟨i,h4,by unfold ar;rw[List.length_map];exact h5⟩
 · cases hv:iU a
   · exact absurd hv h2
   · rfl
def yw(m:Nat)(a:List RD):Prop:= ¬(a.length≠0∧xM m a.length=false)
theorem uH{m:Nat}{a:List RD}(h:bp m a=0):yw m a:=by
 unfold bp at h;split at h
 · cases h
 · assumption
theorem kf(xs:List D)(a:List RD){k:Nat}(hw:yw xs.length a→wN k a)(hk:k≤17300000000000)(hl:a.length≤4398046511104)(hx:xs.length≤1000000):Pure Tryz.prog 80 [.ag [.sl 1 xs],aY a] (sq (bp xs.length a)):=by
 refine qJ 34 Tryz.func80 rfl rfl rfl rfl (by kernel_rfl) (fun B F0 w0=>?_);have hno:=fun i hi=>v5 (l:=a) (i:=i) hi;have hyes:=tv (l:=a);unfold bp;generalize iU a=E at hno hyes ⊢;refine qX 2 rfl ?_;refine aa.nil ?_;refine AW.cut [1] (fun _:Unit=>[(1,.d (aY a))]) (fun _=> ¬(a.length≠0∧xM xs.length a.length=false)) ?_ (fun _ hs=>?_)
 · refine qX 2 rfl ?_;rw[List.length_map];refine qU 1 rfl ?_;refine aa.nil ?_;by_cases h0:a.length=0
   · rw[h0];refine AW.ao rfl ?_;refine AW.skip ?_;exact⟨(),rfl,fun h=>h.1 rfl⟩
   rw[decide_eq_true (show (0:Int)<(a.length:Int) by omega)];refine AW.az rfl ?_;by_cases hp: ∃i,a.length=2^i
   · obtain ⟨i,hp⟩:=hp
     have hi:i≤42:=by
      refine gT ?_;rw[← hp];omega
     have cl:=dn (a.map RD.D) (by rw[List.length_map];exact hp) (by omega);rw[hp,uU];refine qX 1 rfl ?_;refine aa.call tok rfl rfl rfl rfl cl ?_;refine qU 1 rfl ?_;refine qK 2 rfl ?_;rw[decide_eq_false (show ¬((i:Int)<0) by omega)];refine qU 6 rfl ?_;by_cases hm:i≤xs.length
     · rw[decide_eq_true hm,decide_eq_false (show ¬((xs.length:Int)<(i:Int)) by omega)];refine qU 1 rfl ?_;refine aa.nil ?_;refine AW.ao rfl ?_;refine AW.skip ?_;exact⟨(),rfl,fun h=>by cases h.2⟩
     · rw[decide_eq_false hm,decide_eq_true (show (xs.length:Int)<(i:Int) by omega),if_pos ⟨by have:=Nat.two_pow_pos i;omega,rfl⟩];refine qU 1 rfl ?_;refine aa.nil ?_;refine AW.az rfl ?_;refine qX 2 rfl ?_;exact qN rfl
   · have hp: ∀i,a.length≠2^i:=fun i e=>hp ⟨i,e⟩;have cl:=kg (a.map RD.D) (by rw[List.length_map];exact hp) (by rw[List.length_map];omega);rw[if_pos ⟨h0,De hp⟩];refine qX 1 rfl ?_;refine aa.call tok rfl rfl rfl rfl cl ?_;refine qU 1 rfl ?_;refine qK 9 rfl ?_;refine aa.nil ?_;refine AW.az rfl ?_;refine qX 2 rfl ?_;exact qN rfl
 · rw[if_neg hs];have hw:=hw hs;show AW _ _ _ _ _ _ _ [(1,.d (aY a))];refine AW.seq ?_;refine qX 2 rfl ?_;rw[List.length_map];refine qU 1 rfl ?_;refine aa.nil ?_;refine AW.block ?_;refine AW.aD [23,24,25] (fun i:Nat=>[(23,.d (aY a)),(24,.d (dI a.length)),(25,.d (dI i))]) (fun i=>i≤a.length∧ ∀j,j<i→(a.getD j default).okB=true) (fun i=>a.length-i) 0 rfl ⟨Nat.zero_le _,fun j hj=>by omega⟩ (fun i ⟨hi,hall⟩=>?_);refine qX 1 rfl ?_;refine qI ?_;refine AW.cond rfl (fun h=>?_) (fun h=>?_)
   · have hii:i<a.length:=by have:=of_decide_eq_true h;omega
     have hg:=getM RD.D (l:=a) (i:=i) hii;have hno:=hno i hii;have cv:=dF (a.getD i default) (hw i hii) (by omega);refine AW.skip (AW.seq (AW.block (AW.seq (AW.region ?_))));refine aa.idx tok (a.getD i default).D rfl rfl rfl rfl (Int.natCast_nonneg i) hg ?_;refine qU 3 rfl ?_;refine qK 1 rfl ?_;refine aa.call tok rfl rfl rfl rfl cv ?_;refine qU 1 rfl ?_;cases hv:(a.getD i default).okB with
     | false =>
       rw[hno hv,if_pos rfl];refine aa.nil ?_;refine AW.az rfl ?_;refine qX 2 rfl ?_;exact qN rfl
     | true =>
       refine aa.nil ?_;refine AW.ao rfl ?_;refine AW.skip ?_;refine qT 1 rfl ?_;rw[aq (x:=(i:Int)+1) (by omega) (by omega)];refine qU 1 rfl ?_;refine aa.nil ?_
       exact⟨i+1,rfl,⟨hii,fun j hj=>by
        by_cases e:j=i
        · subst e;exact hv
        · exact hall j (by omega)⟩,by omega⟩
   have hii:i=a.length:=by have:=of_decide_eq_false h;omega
   subst hii;rw[hyes hall,if_neg (by simp)];refine AW.exit ?_;refine qX 1 rfl ?_;exact qN rfl
end Lift
namespace Lift
open Go Go.Proofs
theorem AI(rt:List (List RD))(k:Nat):((rt.map aY).take (bM (rt.map aY).length (some (k:Int)))).drop (ei none)=(rt.take k).map aY:=by
 show ((rt.map aY).take k).drop 0=_;rw[List.drop_zero,List.map_take]
theorem mf{rt:List (List RD)}{k m:Nat}(hw: ∀i,i<k→wN m (rt.getD i []))(hk:k≤rt.length)(h: ∀j,j<k→iU (rt.getD j [])=true):(rt.take k).map aY=((rt.take k).map ar).map af:=by
 rw[List.map_map];refine List.map_congr_left fun x hx=>?_;obtain ⟨i,hi,rfl⟩:=List.mem_iff_getElem.1 hx;rw[List.length_take] at hi
 have e:(rt.take k)[i]'(by rw[List.length_take];exact hi)=rt.getD i []:=by
  rw[List.getElem_take,List.getD_eq_getElem?_getD,List.getElem?_eq_getElem (by omega)];rfl
 rw[e];exact jA (hw i (by omega)) (h i (by omega))
theorem mR{rt:List (List RD)}{k i:Nat}(hi:i<k):((rt.take k).map ar).getD i []=ar (rt.getD i []):=by
 rw[List.getD_eq_getElem?_getD,List.getElem?_map,List.getElem?_take_of_lt hi,List.getD_eq_getElem?_getD];cases rt[i]? with
 | none=>rfl
 | some x=>rfl
theorem zF{rt:List (List RD)}{k i:Nat}(hi:k≤i):((rt.take k).map ar).getD i []=[]:=by
 rw[List.getD_eq_getElem?_getD,List.getElem?_eq_none (by rw[List.length_map,List.length_take];omega)];rfl
theorem ew{rt:List (List RD)}{k:Nat}(hk:k≤rt.length):((rt.take k).map ar).length=k:=by rw[List.length_map,List.length_take];omega
theorem pU{rt:List (List RD)}{k m:Nat}(hw: ∀i,i<k→wN m (rt.getD i []))(h1:1≤m)(hk:k≤rt.length):ff m ((rt.take k).map ar):=fun i=>by
 by_cases h:i<k
 · rw[mR h];exact kG (hw i (by omega)) h1
 · rw[zF (by omega)];exact cE h1
theorem Bm(a:List RD):(ar a).length=a.length:=List.length_map ..
theorem fO{rt:List (List RD)}{k:Nat}(h:so rt k=0):(rt.getD k []).length=2^k∧iU (rt.getD k [])=true∧ ¬ep k ((rt.take k).map ar) (ar (rt.getD k []))<0:=by
 unfold so at h;split at h
 · cases h
 rename_i h1;split at h
 · rename_i h2;exact absurd h h2
 rename_i h2;split at h
 · cases h
 rename_i h3;exact⟨by omega,(nr (m:=k) (by omega)).2,h3⟩
theorem jQ{rt:List (List RD)}{k:Nat}(hk:k≤rt.length)(h: ∀j,j<k→so rt j=0):cZ ((rt.take k).map ar):=fun j hj=>by
 rw[ew hk] at hj;rw[mR hj,Bm];exact(fO (h j hj)).1
theorem xH{l m k:Nat}(h:pb l k)(hm:m≤l):pb m k:=by
 induction l with
 | zero=>obtain rfl:m=0:=by omega
         exact h
 | succ l ih =>
   by_cases e:m=l+1
   · rw[e];exact h
   · exact ih (iy h) (by omega)
theorem iq(rt:List (List RD)){m:Nat}(hw: ∀i,i<rt.length→(rt.getD i []).length=2^i→wN m (rt.getD i []))(h1:1≤m)(hl:rt.length≤1000000)(hll: ∀i,i<rt.length→(rt.getD i []).length≤4398046511104)(hok:rt.length≤5→pb rt.length m):Pure Tryz.prog 79 [se rt] (sq (ck rt)):=by
 refine qJ 43 Tryz.func79 rfl rfl rfl rfl (by kernel_rfl) (fun B F0 w0=>?_);unfold ck;obtain ⟨E,hE⟩: ∃E,fE (so rt) (rt.length-0) 0=E:=⟨_,rfl⟩;rw[hE];refine qX 2 rfl ?_;refine qI ?_;refine qX 3 rfl ?_;rw[List.length_map];refine qU 1 rfl ?_;refine aa.nil ?_;by_cases h5:5<rt.length
 · rw[if_pos h5,decide_eq_true (show (5:Int)<(rt.length:Int) by omega)];refine AW.az rfl ?_;refine qX 2 rfl ?_;exact qN rfl
 rw[if_neg h5,decide_eq_false (show ¬(5:Int)<(rt.length:Int) by omega)];have hok:=hok (by omega);have hm7:=uC hok;refine AW.ao rfl ?_;refine AW.skip (AW.seq ?_);refine qX 3 rfl ?_;rw[List.length_map];refine qU 1 rfl ?_;refine aa.nil ?_;refine AW.block ?_;refine AW.aD [1,13,14,15] (fun i:Nat=>[(1,.bx [.sl 1 (rt.map aY)]),(13,.d (.sl 1 (rt.map aY))),(14,.d (dI rt.length)),(15,.d (dI i))]) (fun i=>i≤rt.length∧fE (so rt) (rt.length-i) i=E∧ ∀j,j<i→so rt j=0) (fun i=>rt.length-i) 0 rfl ⟨Nat.zero_le _,hE,fun j hj=>by omega⟩ (fun i ⟨hi,hiE,hall⟩=>?_);refine qX 1 rfl ?_;refine qI ?_;refine AW.cond rfl (fun h=>?_) (fun h=>?_);rotate_left
 · have hii: ¬i<rt.length:=by have:=of_decide_eq_false h;omega
   rw[dk hii] at hiE;subst hiE;refine AW.exit ?_;refine qX 1 rfl ?_;exact qN rfl
 have hii:i<rt.length:=by have:=of_decide_eq_true h;omega
 have hg:(rt.map aY)[i]?=some (aY (rt.getD i [])):=by simp[hii]
 have hwi:=hw i hii;have hli:=hll i hii;have hmiss:=fun h0:so rt i=0=>(bU hii h0).symm.trans hiE;have hhit:=fun h0:so rt i≠0=>(dh hii h0).symm.trans hiE;have hp:2^i≤2^5:=Nat.pow_le_pow_right (by decide) (by omega);have hrt:so rt i=if (rt.getD i []).length≠2^i then 10 else if bp i (rt.getD i [])≠0 then bp i (rt.getD i []) else if ep i ((rt.take i).map ar) (ar (rt.getD i []))<0 then 3 else 0:=rfl
 refine AW.skip (AW.seq (AW.block ?_));refine qX 1 rfl ?_;refine aa.idx tok (aY (rt.getD i [])) rfl rfl rfl rfl (Int.natCast_nonneg i) hg ?_;refine qU 3 rfl ?_;refine qI ?_;refine qX 2 rfl ?_;rw[List.length_map];refine qU 2 rfl ?_;rw[vE (by omega)];refine qU 1 rfl ?_;refine aa.nil ?_;by_cases e1:(rt.getD i []).length=2^i;rotate_left
 · rw[if_pos e1] at hrt;rw[bne_iff_ne.2 (show (((rt.getD i []).length:Nat):Int)≠((2^i:Nat):Int) by omega)];have:=hhit (by rw[hrt];decide);rw[hrt] at this;subst this;refine AW.az rfl ?_;refine qX 2 rfl ?_;exact qN rfl
 rw[if_neg (fun h=>h e1)] at hrt;have hwi:=hwi e1;have cn:=kf ((rt.take i).map aY) (rt.getD i []) (fun _=>hwi) (by omega) hli (by rw[List.length_map,List.length_take];omega);rw[List.length_map,List.length_take,Nat.min_eq_left hi] at cn;rw[e1,bne_eq_false_iff_eq.2 rfl];refine AW.ao rfl ?_;refine AW.skip ?_;refine qX 3 rfl ?_;refine aa.yN tok rfl rfl rfl rfl trivial (Int.natCast_nonneg i) (Nat.zero_le _) (by show i≤_;rw[List.length_map];omega) ?_;rw[AI];refine qU 3 rfl ?_;refine qI ?_;refine qX 2 rfl ?_;refine aa.call tok rfl rfl rfl rfl cn ?_;refine qU 1 rfl ?_;refine aa.nil ?_;rcases e2:bp i (rt.getD i []) with _ | z
 rotate_left
 · rw[e2,if_pos (Nat.succ_ne_zero z)] at hrt;have:=hhit (by rw[hrt];exact Nat.succ_ne_zero z);rw[hrt] at this;subst this;refine qX 1 rfl ?_;refine aa.err tok rfl rfl rfl rfl rfl ?_;refine aa.nil ?_;refine AW.az rfl ?_;refine qX 2 rfl ?_;exact qN rfl
 rw[if_neg (by rw[e2];simp)] at hrt;obtain ⟨n1,n2⟩:=nr e2;have cs:=lV i (k:=m) n1 (by omega) (jQ hi hall) (by rw[ew hi];exact Nat.le_refl _) (by rw[ew hi];omega) (kG hwi h1) (pU (fun j hj=>hw j (by omega) (fO (hall j hj)).1) h1 hi) (xH hok hi);have tr:=lz i ((rt.take i).map ar) (ar (rt.getD i []));rw[show bF ((rt.take i).map ar)= .ag [.sl 1 ((rt.take i).map aY)] from by rw[mf (fun j hj=>hw j (by omega) (fO (hall j hj)).1) hi (fun j hj=>(fO (hall j hj)).2.1)],← jA hwi n2] at cs;generalize ep i ((rt.take i).map ar) (ar (rt.getD i []))=s at cs hrt tr;refine qX 1 rfl ?_;refine aa.err tok rfl rfl rfl rfl rfl ?_;refine aa.nil ?_;refine AW.ao rfl ?_;refine AW.skip ?_;refine qX 2 rfl ?_;refine aa.call tok rfl rfl rfl rfl cs ?_;refine qU 1 rfl ?_;refine aa.nil ?_;by_cases e3:s<0
 · rw[if_pos e3] at hrt;rw[decide_eq_true e3];have:=hhit (by rw[hrt];decide);rw[hrt] at this;subst this;refine AW.az rfl ?_;refine qX 2 rfl ?_;exact qN rfl
 rw[if_neg e3] at hrt;rw[decide_eq_false e3];refine AW.ao rfl ?_;refine AW.skip ?_;refine qT 1 rfl ?_;rw[aq (x:=(i:Int)+1) (by omega) (by omega)];refine qU 1 rfl ?_;refine aa.nil ?_
 exact⟨i+1,rfl,⟨hii,hmiss hrt,fun j hj=>by
  by_cases e:j=i
  · rw[e];exact hrt
  · exact hall j (by omega)⟩,by omega⟩
theorem eG(rt l:List (List RD)){m mn:Nat}(hw: ∀i,i<rt.length→(rt.getD i []).length=2^i→wN m (rt.getD i []))(h1:1≤m)(hl:rt.length≤1000000)(hll: ∀i,i<rt.length→(rt.getD i []).length≤4398046511104)(hok:rt.length≤5→pb rt.length m)
  (hlw: ∀i,i<l.length→yw rt.length (l.getD i [])→wN mn (l.getD i [])) (hl2:l.length≤1000000) (hl3: ∀i,i<l.length→(l.getD i []).length≤4398046511104) (hm:mn≤17300000000000):Pure Tryz.prog 42 [se rt,.sl 1 (l.map aY)] (sq (iH rt l)):=by
 refine qJ 27 Tryz.func42 rfl rfl rfl rfl (by kernel_rfl) (fun B F0 w0=>?_);have cC:=iq rt hw h1 hl hll hok;unfold iH;obtain ⟨E,hE⟩: ∃E,fE (fun i=>bp rt.length (l.getD i [])) (l.length-0) 0=E:=⟨_,rfl⟩;rw[hE];refine qX 2 rfl ?_;refine qI ?_;refine qX 1 rfl ?_;refine aa.call tok rfl rfl rfl rfl cC ?_;refine qU 1 rfl ?_;refine aa.nil ?_;rcases e2:ck rt with _ | z
 rotate_left
 · rw[if_pos (Nat.succ_ne_zero z)];refine qX 1 rfl ?_;refine aa.err tok rfl rfl rfl rfl rfl ?_;refine aa.nil ?_;refine AW.az rfl ?_;refine qX 2 rfl ?_;exact qN rfl
 rw[if_neg (by simp)];refine qX 1 rfl ?_;refine aa.err tok rfl rfl rfl rfl rfl ?_;refine aa.nil ?_;refine AW.ao rfl ?_;refine AW.skip (AW.seq ?_);refine qX 2 rfl ?_;rw[List.length_map];refine qU 1 rfl ?_;refine aa.nil ?_;refine AW.block ?_;refine AW.aD [2,14,15,16] (fun i:Nat=>[(2,.bx [.sl 1 (rt.map aY)]),(14,.d (.sl 1 (l.map aY))),(15,.d (dI l.length)),(16,.d (dI i))]) (fun i=>i≤l.length∧fE (fun i=>bp rt.length (l.getD i [])) (l.length-i) i=E) (fun i=>l.length-i) 0 rfl ⟨Nat.zero_le _,hE⟩ (fun i ⟨hi,hiE⟩=>?_);refine qX 1 rfl ?_;refine qI ?_;refine AW.cond rfl (fun h=>?_) (fun h=>?_);rotate_left
 · have hii: ¬i<l.length:=by have:=of_decide_eq_false h;omega
   rw[dk hii] at hiE;subst hiE;refine AW.exit ?_;refine qX 1 rfl ?_;exact qN rfl
 have hii:i<l.length:=by have:=of_decide_eq_true h;omega
 have hg:(l.map aY)[i]?=some (aY (l.getD i [])):=by simp[hii]
 have hmiss:=fun h0:bp rt.length (l.getD i [])=0=>(bU (f:=fun i=>bp rt.length (l.getD i [])) hii h0).symm.trans hiE;have hhit:=fun h0:bp rt.length (l.getD i [])≠0=>(dh (f:=fun i=>bp rt.length (l.getD i [])) hii h0).symm.trans hiE;have cn:=kf (rt.map aY) (l.getD i []) (fun h=>hlw i hii (by rw[List.length_map] at h;exact h)) hm (hl3 i hii) (by rw[List.length_map];omega);rw[List.length_map] at cn;refine AW.skip (AW.seq (AW.block (AW.seq (AW.region ?_))));refine aa.idx tok (aY (l.getD i [])) rfl rfl rfl rfl (Int.natCast_nonneg i) hg ?_;refine qU 2 rfl ?_;refine qK 2 rfl ?_;refine aa.call tok rfl rfl rfl rfl cn ?_;refine qU 1 rfl ?_;refine aa.nil ?_;generalize bp rt.length (l.getD i [])=v at hmiss hhit;rcases v with _ | z
 rotate_left
 · have:=hhit (Nat.succ_ne_zero z);subst this;refine qX 1 rfl ?_;refine aa.err tok rfl rfl rfl rfl rfl ?_;refine aa.nil ?_;refine AW.az rfl ?_;refine qX 2 rfl ?_;exact qN rfl
 refine qX 1 rfl ?_;refine aa.err tok rfl rfl rfl rfl rfl ?_;refine aa.nil ?_;refine AW.ao rfl ?_;refine AW.skip ?_;refine qT 1 rfl ?_;rw[aq (x:=(i:Int)+1) (by omega) (by omega)];refine qU 1 rfl ?_;refine aa.nil ?_;exact⟨i+1,rfl,⟨hii,hmiss rfl⟩,by omega⟩
theorem nJ{rt:List (List RD)}(h:ck rt=0):rt.length≤5∧ ∀j,j<rt.length→so rt j=0:=by
 unfold ck at h;split at h
 · cases h
 rename_i h1
 have key: ∀(m i:Nat),fE (so rt) m i=0→ ∀j,i≤j→j<i+m→so rt j=0:=by
  intro m
  induction m with
  | zero=>intro i _ j h1 h2;omega
  | succ m ih =>
    intro i h j h1 h2;rw[fE] at h;split at h
    · rename_i h0;by_cases e:j=i
      · rw[e];exact h0
      · exact ih (i+1) h j (by omega) (by omega)
    · rename_i h0;exact absurd h h0
 exact⟨by omega,fun j hj=>key _ _ h j (Nat.zero_le _) (by omega)⟩
def AK(rt:List (List RD))(a:List RD):D:=if iH rt [a]≠0 then .tu [dI 0,sq (iH rt [a])] else .tu [dI (ep rt.length (rt.map ar) (ar a)),aj]
theorem vm{rt:List (List RD)}{a:List RD}(h:iH rt [a]=0):ck rt=0∧bp rt.length a=0:=by
 unfold iH at h;split at h
 · rename_i h0;exact absurd h h0
 rename_i h0;refine⟨by omega,?_⟩;have e:fE (fun i=>bp rt.length ([a].getD i [])) ([a].length-0) 0=if bp rt.length a=0 then 0 else bp rt.length a:=rfl
 rw[e] at h;split at h
 · assumption
 · rename_i h1;exact absurd h h1
theorem sw(rt:List (List RD))(a:List RD){m:Nat}(hw: ∀i,i<rt.length→(rt.getD i []).length=2^i→wN m (rt.getD i []))(h1:1≤m)(hl:rt.length≤1000000)(hll: ∀i,i<rt.length→(rt.getD i []).length≤4398046511104)(hok:rt.length≤5→pb rt.length m)
  (haw:yw rt.length a→wN m a) (hal:a.length≤4398046511104) (hm:m≤17300000000000):Pure Tryz.prog 22 [se rt,aY a] (AK rt a):=by
 refine qJ 17 Tryz.func22 rfl rfl rfl rfl (by kernel_rfl) (fun B F0 w0=>?_)
 have h0: ∀i,i<[a].length→i=0:=fun i hi=>by
  have:i<1:=hi;omega
 have cc:=eG rt [a] hw h1 hl hll hok (fun i hi=>by rw[h0 i hi];exact haw) (show 1≤1000000 by decide) (fun i hi=>by rw[h0 i hi];exact hal) hm;unfold AK;refine qX 3 rfl ?_;refine qI ?_;refine qX 2 rfl ?_;refine aa.mF tok rfl rfl rfl rfl rfl ?_;refine aa.call tok rfl rfl rfl rfl cc ?_;refine qU 1 rfl ?_;refine aa.nil ?_;rcases e2:iH rt [a] with _ | z
 rotate_left
 · rw[if_pos (Nat.succ_ne_zero z)];refine qX 1 rfl ?_;refine aa.err tok rfl rfl rfl rfl rfl ?_;refine aa.nil ?_;refine AW.az rfl ?_;refine qX 3 rfl ?_;exact qN rfl
 rw[if_neg (by simp)];obtain ⟨k1,k2⟩:=vm e2;obtain ⟨k3,k4⟩:=nJ k1;obtain ⟨n1,n2⟩:=nr k2;have vo:=jQ (k:=rt.length) (Nat.le_refl _) k4;have vl:=ew (rt:=rt) (k:=rt.length) (Nat.le_refl _);have vs:=pU (k:=rt.length) (fun j hj=>hw j hj (fO (k4 j hj)).1) h1 (Nat.le_refl _);have vc:=mf (k:=rt.length) (fun j hj=>hw j hj (fO (k4 j hj)).1) (Nat.le_refl _) (fun j hj=>(fO (k4 j hj)).2.1);rw[List.take_length] at vo vl vs vc;have cs:=lV rt.length (k:=m) n1 k3 vo (by rw[vl];exact Nat.le_refl _) (by rw[vl];omega) (kG (haw (uH k2)) h1) vs (hok k3);rw[show bF (rt.map ar)= .ag [.sl 1 (rt.map aY)] from by rw[vc],← jA (haw (uH k2)) n2] at cs;refine qX 1 rfl ?_;refine aa.err tok rfl rfl rfl rfl rfl ?_;refine aa.nil ?_;refine AW.ao rfl ?_;refine AW.skip ?_;refine qX 2 rfl ?_;refine aa.call tok rfl rfl rfl rfl cs ?_;refine qU 2 rfl ?_;exact qN rfl
end Lift
namespace Lift
open Go Go.Proofs
structure mJ (m:Nat) (rt:List (List RD)):Prop where
 t: ∃m0,1≤m0∧m0≤m∧(∀i,i<rt.length→(rt.getD i []).length=2^i→wN m0 (rt.getD i []))∧(rt.length≤5→pb rt.length m0)
 m2:m≤1000000
 l:rt.length≤1000000
 ll: ∀i,i<rt.length→(rt.getD i []).length≤4398046511104
theorem mJ.m1{m:Nat}{rt:List (List RD)}(T:mJ m rt):1≤m:=by
 obtain ⟨m0,h1,h2,_⟩:=T.t;omega
structure iI (m:Nat) (rt:List (List RD)) (a:List RD):Prop where
 w:yw rt.length a→wN m a
 l:a.length≤4398046511104
theorem yt{m:Nat}{rt:List (List RD)}{a:List RD}(T:mJ m rt)(A:iI m rt a):Pure Tryz.prog 42 [se rt,.sl 1 [aY a]] (sq (iH rt [a])):=by
 have hm:=T.m2
 have h0: ∀i,i<[a].length→i=0:=fun i hi=>by
  have:i<1:=hi;omega
 obtain ⟨m0,t1,t2,tw,tk⟩:=T.t;exact eG rt [a] tw t1 T.l T.ll tk (fun i hi=>by rw[h0 i hi];exact A.w) (show 1≤1000000 by decide) (fun i hi=>by rw[h0 i hi];exact A.l) (by omega)
theorem mD{m:Nat}{rt:List (List RD)}{a b:List RD}(T:mJ m rt)(A:iI m rt a)(B:iI m rt b):Pure Tryz.prog 42 [se rt,.sl 1 [aY a,aY b]] (sq (iH rt [a,b])):=by
 have hm:=T.m2
 have h0: ∀i,i<[a,b].length→i=0∨i=1:=fun i hi=>by
  have:i<2:=hi;omega
 obtain ⟨m0,t1,t2,tw,tk⟩:=T.t;exact eG rt [a,b] tw t1 T.l T.ll tk (fun i hi=>by rcases h0 i hi with rfl | rfl;exact A.w;exact B.w) (show 2≤1000000 by decide) (fun i hi=>by rcases h0 i hi with rfl | rfl;exact A.l;exact B.l) (by omega)
theorem vk{rt:List (List RD)}{a b:List RD}(h:iH rt [a,b]=0):ck rt=0∧bp rt.length a=0∧bp rt.length b=0:=by
 unfold iH at h;split at h
 · rename_i h0;exact absurd h h0
 rename_i h0;have e:fE (fun i=>bp rt.length ([a,b].getD i [])) ([a,b].length-0) 0=if bp rt.length a=0 then (if bp rt.length b=0 then 0 else bp rt.length b) else bp rt.length a:=rfl
 rw[e] at h;by_cases h1:bp rt.length a=0
 · rw[if_pos h1] at h;by_cases h2:bp rt.length b=0
   · exact⟨by omega,h1,h2⟩
   · rw[if_neg h2] at h;exact absurd h h2
 · rw[if_neg h1] at h;exact absurd h h1
structure GA (m:Nat) (rt:List (List RD)) (v:List NQ):Prop where
 l5:rt.length≤5
 ln:v.length=rt.length
 ro:cZ v
 sz:ff m v
 t: ∃m0,1≤m0∧m0≤m∧ff m0 v∧pb rt.length m0
 ps: ∀k,k<v.length→ ¬ep k (v.take k) (v.getD k [])<0
 eq:se rt=bF v
theorem mT{m:Nat}{rt:List (List RD)}(T:mJ m rt)(h:ck rt=0):GA m rt (rt.map ar):=by
 obtain ⟨k3,k4⟩:=nJ h;have vo:=jQ (k:=rt.length) (Nat.le_refl _) k4;have vl:=ew (rt:=rt) (k:=rt.length) (Nat.le_refl _);obtain ⟨m0,t1,t2,tw,tk⟩:=T.t;have hw:=fun j hj=>tw j hj (fO (k4 j hj)).1;have vs:=pU (k:=rt.length) hw t1 (Nat.le_refl _);have vc:=mf (k:=rt.length) hw (Nat.le_refl _) (fun j hj=>(fO (k4 j hj)).2.1);rw[List.take_length] at vo vl vs vc;refine⟨k3,vl,vo,vs.mono t2,⟨m0,t1,t2,vs,tk k3⟩,fun k hk=>?_,by show D.ag [.sl 1 (rt.map aY)]=_;rw[vc]⟩;rw[vl] at hk;have:=(fO (k4 k hk)).2.2
 have e:(rt.map ar).getD k []=ar (rt.getD k []):=by
  rw[List.getD_eq_getElem?_getD,List.getElem?_map,List.getD_eq_getElem?_getD,List.getElem?_eq_getElem hk];rfl
 rw[e,← List.map_take];exact this
theorem gD{m:Nat}{rt:List (List RD)}{a:List RD}(m1:1≤m)(A:iI m rt a)(h:bp rt.length a=0):aB rt.length (ar a)∧aC m (ar a)∧aY a=af (ar a):=by
 obtain ⟨n1,n2⟩:=nr h;have w:=A.w (uH h);exact⟨n1,kG w m1,jA w n2⟩
def Ew(rt:List (List RD))(a:List RD)(F:NQ→NQ):D:=if iH rt [a]≠0 then .tu [af [],sq (iH rt [a])] else .tu [af (F (ar a)),aj]
def uA(rt:List (List RD))(a b:List RD)(F:NQ→NQ→NQ):D:=if iH rt [a,b]≠0 then .tu [af [],sq (iH rt [a,b])] else .tu [af (F (ar a) (ar b)),aj]
theorem tW{m:Nat}{rt:List (List RD)}{a:List RD}(T:mJ m rt)(A:iI m rt a):Pure Tryz.prog 101 [se rt,aY a] (Ew rt a (fun x=>aF (bc x))):=by
 refine qJ 17 Tryz.func101 rfl rfl rfl rfl (by kernel_rfl) (fun B0 F0 w0=>?_);have cc:=yt T A;have hm:=T.m2;unfold Ew;refine qX 3 rfl ?_;refine qI ?_;refine qX 2 rfl ?_;refine aa.mF tok rfl rfl rfl rfl rfl ?_;refine aa.call tok rfl rfl rfl rfl cc ?_;refine qU 1 rfl ?_;refine aa.nil ?_;rcases e2:iH rt [a] with _ | z
 rotate_left
 · rw[if_pos (Nat.succ_ne_zero z)];refine qX 1 rfl ?_;refine aa.err tok rfl rfl rfl rfl rfl ?_;refine aa.nil ?_;refine AW.az rfl ?_;refine qX 3 rfl ?_;exact qN rfl
 rw[if_neg (by simp)];obtain ⟨k1,k2⟩:=vm e2;have W:=mT T k1;have hl5:=W.l5;obtain ⟨n1,n2,n3⟩:=gD T.m1 A k2;have c1:=dN (ar a) (k:=m) n2 (by omega) (Nat.le_trans (n1.len (by omega)) (by decide));have c2:=bd (bc (ar a)) n1.minus hl5 n2.minus (by omega);rw[← n3] at c1;refine qX 1 rfl ?_;refine aa.err tok rfl rfl rfl rfl rfl ?_;refine aa.nil ?_;refine AW.ao rfl ?_;refine AW.skip ?_;refine qX 1 rfl ?_;refine aa.call tok rfl rfl rfl rfl c1 ?_;refine aa.call tok rfl rfl rfl rfl c2 ?_;refine qU 2 rfl ?_;exact qN rfl
theorem tY{m:Nat}{rt:List (List RD)}{a b:List RD}(T:mJ m rt)(A:iI m rt a)(B:iI m rt b):Pure Tryz.prog 21 [se rt,aY a,aY b] (uA rt a b (fun x y=>aF (bj x y))):=by
 refine qJ 21 Tryz.func21 rfl rfl rfl rfl (by kernel_rfl) (fun B0 F0 w0=>?_);have cc:=mD T A B;have hm:=T.m2;unfold uA;refine qX 3 rfl ?_;refine qI ?_;refine qX 3 rfl ?_;refine aa.mF tok rfl rfl rfl rfl rfl ?_;refine aa.call tok rfl rfl rfl rfl cc ?_;refine qU 1 rfl ?_;refine aa.nil ?_;rcases e2:iH rt [a,b] with _ | z
 rotate_left
 · rw[if_pos (Nat.succ_ne_zero z)];refine qX 1 rfl ?_;refine aa.err tok rfl rfl rfl rfl rfl ?_;refine aa.nil ?_;refine AW.az rfl ?_;refine qX 3 rfl ?_;exact qN rfl
 rw[if_neg (by simp)];obtain ⟨k1,k2,k3⟩:=vk e2;have W:=mT T k1;have hl5:=W.l5;obtain ⟨n1,n2,n3⟩:=gD T.m1 A k2;obtain ⟨p1,p2,p3⟩:=gD T.m1 B k3;have c1:=cL (ar a) (ar b) (k:=m) n2 p2 (by omega) (Nat.le_trans (n1.len (by omega)) (by decide)) (Nat.le_trans (p1.len (by omega)) (by decide));have c2:=bd (bj (ar a) (ar b)) (n1.plus p1) hl5 (n2.plus p2) (by omega);rw[← n3,← p3] at c1;refine qX 1 rfl ?_;refine aa.err tok rfl rfl rfl rfl rfl ?_;refine aa.nil ?_;refine AW.ao rfl ?_;refine AW.skip ?_;refine qX 2 rfl ?_;refine aa.call tok rfl rfl rfl rfl c1 ?_;refine aa.call tok rfl rfl rfl rfl c2 ?_;refine qU 2 rfl ?_;exact qN rfl
theorem tV{m:Nat}{rt:List (List RD)}{a b:List RD}(T:mJ m rt)(A:iI m rt a)(B:iI m rt b):Pure Tryz.prog 105 [se rt,aY a,aY b] (uA rt a b (fun x y=>aF (bj x (bc y)))):=by
 refine qJ 22 Tryz.func105 rfl rfl rfl rfl (by kernel_rfl) (fun B0 F0 w0=>?_);have cc:=mD T A B;have hm:=T.m2;unfold uA;refine qX 3 rfl ?_;refine qI ?_;refine qX 3 rfl ?_;refine aa.mF tok rfl rfl rfl rfl rfl ?_;refine aa.call tok rfl rfl rfl rfl cc ?_;refine qU 1 rfl ?_;refine aa.nil ?_;rcases e2:iH rt [a,b] with _ | z
 rotate_left
 · rw[if_pos (Nat.succ_ne_zero z)];refine qX 1 rfl ?_;refine aa.err tok rfl rfl rfl rfl rfl ?_;refine aa.nil ?_;refine AW.az rfl ?_;refine qX 3 rfl ?_;exact qN rfl
 rw[if_neg (by simp)];obtain ⟨k1,k2,k3⟩:=vk e2;have W:=mT T k1;have hl5:=W.l5;obtain ⟨n1,n2,n3⟩:=gD T.m1 A k2;obtain ⟨p1,p2,p3⟩:=gD T.m1 B k3;have c0:=dN (ar b) (k:=m) p2 (by omega) (Nat.le_trans (p1.len (by omega)) (by decide));have c1:=cL (ar a) (bc (ar b)) (k:=m) n2 p2.minus (by omega) (Nat.le_trans (n1.len (by omega)) (by decide)) (Nat.le_trans (p1.minus.len (by omega)) (by decide));have c2:=bd (bj (ar a) (bc (ar b))) (n1.plus p1.minus) hl5 (n2.plus p2.minus) (by omega);rw[← p3] at c0;rw[← n3] at c1;refine qX 1 rfl ?_;refine aa.err tok rfl rfl rfl rfl rfl ?_;refine aa.nil ?_;refine AW.ao rfl ?_;refine AW.skip ?_;refine qX 2 rfl ?_;refine aa.call tok rfl rfl rfl rfl c0 ?_;refine aa.call tok rfl rfl rfl rfl c1 ?_;refine aa.call tok rfl rfl rfl rfl c2 ?_;refine qU 2 rfl ?_;exact qN rfl
theorem tX{m:Nat}{rt:List (List RD)}{a b:List RD}(hsT:sT rt.length m≤17300000000000)(T:mJ m rt)(A:iI m rt a)(B:iI m rt b):Pure Tryz.prog 106 [se rt,aY a,aY b] (uA rt a b (fun x y=>aF (a6 rt.length (rt.map ar) x y))):=by
 refine qJ 22 Tryz.func106 rfl rfl rfl rfl (by kernel_rfl) (fun B0 F0 w0=>?_);have cc:=mD T A B;have hm:=T.m2;unfold uA;refine qX 3 rfl ?_;refine qI ?_;refine qX 3 rfl ?_;refine aa.mF tok rfl rfl rfl rfl rfl ?_;refine aa.call tok rfl rfl rfl rfl cc ?_;refine qU 1 rfl ?_;refine aa.nil ?_;rcases e2:iH rt [a,b] with _ | z
 rotate_left
 · rw[if_pos (Nat.succ_ne_zero z)];refine qX 1 rfl ?_;refine aa.err tok rfl rfl rfl rfl rfl ?_;refine aa.nil ?_;refine AW.az rfl ?_;refine qX 3 rfl ?_;exact qN rfl
 rw[if_neg (by simp)];obtain ⟨k1,k2,k3⟩:=vk e2;have W:=mT T k1;have hl5:=W.l5;obtain ⟨n1,n2,n3⟩:=gD T.m1 A k2;obtain ⟨p1,p2,p3⟩:=gD T.m1 B k3;have ht:=cD rt.length n1 p1 W.ro (by rw[W.ln];exact Nat.le_refl _) n2 p2 W.sz;have c1:=qs rt.length n1 p1 W.ro (by rw[W.ln];exact Nat.le_refl _) (by rw[W.ln];omega) n2 p2 W.sz hsT;have c2:=bd (a6 rt.length (rt.map ar) (ar a) (ar b)) ht.1 hl5 ht.2 (by omega);rw[← n3,← p3,← W.eq] at c1;refine qX 1 rfl ?_;refine aa.err tok rfl rfl rfl rfl rfl ?_;refine aa.nil ?_;refine AW.ao rfl ?_;refine AW.skip ?_;refine qX 3 rfl ?_;refine aa.call tok rfl rfl rfl rfl c1 ?_;refine aa.call tok rfl rfl rfl rfl c2 ?_;refine qU 2 rfl ?_;exact qN rfl
def uF(q:Rat):NQ:=if q=0 then [] else [q]
theorem zR(q:Rat):aF [q]=uF q:=by
 show (if 1=0 then [] else fN (Nat.log2 1) [q])=_;rw[if_neg (by decide),show Nat.log2 1=0 by decide];unfold fN uF;show (if a9 [q]=true then [] else [q])=_;have:a9 [q]=decide (q=0):=by unfold a9;simp
 rw[this];by_cases h:q=0
 · rw[decide_eq_true h,if_pos rfl,if_pos h]
 · rw[decide_eq_false h,if_neg (by simp),if_neg h]
theorem gi(r:RD){k:Nat}(hr:r.w k)(h1:1≤k)(hk:k≤1000000)(ho:r.okB=true):Pure Tryz.prog 102 [r.D] (af (uF r.val)):=by
 refine qJ 8 Tryz.func102 rfl rfl rfl rfl (by kernel_rfl) (fun B0 F0 w0=>?_);have c1:=kr r (Qr 0) (k:=k) hr (fv _ (by rw[lN];exact h1)) (by omega);have z:=bE hr h1;rw[bV,Rat.add_zero] at c1;have c2:=bd [r.val] (l:=0) (k:=k) (dG 0 _) (by decide) (eB z) (by omega);rw[zR] at c2;have hz:(Qr 0).D= .ag [dB false,.sl 1 [],.sl 1 []]:=by rw[gg];rfl
 rw[hz] at c1;refine qX 2 rfl ?_;refine qK 2 rfl ?_;refine aa.call tok rfl rfl rfl rfl c1 ?_;refine aa.mF tok rfl rfl rfl rfl rfl ?_;refine aa.call tok rfl rfl rfl rfl c2 ?_;refine qU 1 rfl ?_;exact qN rfl
end Lift
namespace Lift
abbrev Cf:=Nat→Rat
def cf(a:NQ):Cf:=fun i=>a.getD i 0
def eP(l:Nat)(a:Cf):Cf:=fun i=>a (2^l+i)
def mulC(rt:List NQ):Nat→Cf→Cf→Cf
 | 0,a,b=>fun i=>if i=0 then a 0*b 0 else 0
 | l+1,a,b=>fun i=>if i<2^l then mulC rt l a b i+mulC rt l (mulC rt l (eP l a) (eP l b)) (cf (rt.getD l [])) i else mulC rt l a (eP l b) (i-2^l)+mulC rt l (eP l a) b (i-2^l)
def fx(l:Nat)(a:Cf):Prop:= ∀i,2^l≤i→a i=0
def kt(l:Nat)(a b:Cf):Prop:= ∀i,i<2^l→a i=b i
theorem b5(rt:List NQ): ∀(l:Nat) (a b:Cf),fx l (mulC rt l a b)
 | 0,a,b=>fun i hi=>by
   have:i≠0:=by have:1≤i:=hi;omega
   show (if i=0 then _ else (0:Rat))=0;rw[if_neg this]
 | l+1,a,b=>fun i hi=>by
   rw[Nat.pow_succ] at hi;have hp:0<2^l:=Nat.pow_pos (by decide);show (if i<2^l then _ else _)=(0:Rat);rw[if_neg (by omega),b5 rt l _ _ _ (by omega),b5 rt l _ _ _ (by omega),Rat.add_zero]
theorem kt.down{l:Nat}{a b:Cf}(h:kt (l+1) a b):kt l a b:=fun i hi=>h i (by rw[Nat.pow_succ];omega)
theorem kt.hi{l:Nat}{a b:Cf}(h:kt (l+1) a b):kt l (eP l a) (eP l b):=fun i hi=>h _ (by rw[Nat.pow_succ];omega)
theorem kt.pD{l:Nat}{a:Cf}:kt l a a:=fun _ _=>rfl
theorem bo(rt:List NQ): ∀(l:Nat) {a b a' b':Cf},kt l a a'→kt l b b'→mulC rt l a b=mulC rt l a' b'
 | 0,a,b,a',b',h1,h2=>funext fun i=>by
   show (if i=0 then a 0*b 0 else 0)=(if i=0 then a' 0*b' 0 else 0);rw[h1 0 (by decide),h2 0 (by decide)]
 | l+1,a,b,a',b',h1,h2=>funext fun i=>by
   show (if i<2^l then mulC rt l a b i+mulC rt l (mulC rt l (eP l a) (eP l b)) (cf (rt.getD l [])) i else mulC rt l a (eP l b) (i-2^l)+mulC rt l (eP l a) b (i-2^l))=(if i<2^l then mulC rt l a' b' i+mulC rt l (mulC rt l (eP l a') (eP l b')) (cf (rt.getD l [])) i else mulC rt l a' (eP l b') (i-2^l)+mulC rt l (eP l a') b' (i-2^l));rw[bo rt l h1.down h2.down,bo rt l h1.hi h2.hi,bo rt l h1.down h2.hi,bo rt l h1.hi h2.down]
def zC:Cf:=fun _=>0
theorem bL(rt:List NQ): ∀(l:Nat) {a b:Cf},kt l a zC∨kt l b zC→mulC rt l a b=zC
 | 0,a,b,h=>funext fun i=>by
   show (if i=0 then a 0*b 0 else 0)=0;split
   · rcases h with h | h
     · rw[h 0 (by decide)];exact Rat.zero_mul _
     · rw[h 0 (by decide)];exact Rat.mul_zero _
   · rfl
 | l+1,a,b,h=>funext fun i=>by
   have hz:kt l zC zC:=kt.pD;have r1:mulC rt l a b=zC:=bL rt l (h.imp kt.down kt.down);have r2:mulC rt l (eP l a) (eP l b)=zC:=bL rt l (h.imp kt.hi kt.hi);have r3:mulC rt l a (eP l b)=zC:=bL rt l (h.imp kt.down kt.hi);have r4:mulC rt l (eP l a) b=zC:=bL rt l (h.imp kt.hi kt.down);have r5:mulC rt l zC (cf (rt.getD l []))=zC:=bL rt l (.inl hz);show (if i<2^l then mulC rt l a b i+mulC rt l (mulC rt l (eP l a) (eP l b)) (cf (rt.getD l [])) i else mulC rt l a (eP l b) (i-2^l)+mulC rt l (eP l a) b (i-2^l))=0;rw[r2,r1,r3,r4,r5];show (if i<2^l then (0:Rat)+0 else 0+0)=0;split<;>exact Rat.add_zero 0
theorem ia(rt:List NQ): ∀(l:Nat) (a b:Cf),mulC rt l a b=mulC rt l b a
 | 0,a,b=>funext fun i=>by
   show (if i=0 then a 0*b 0 else 0)=(if i=0 then b 0*a 0 else 0);rw[Rat.mul_comm]
 | l+1,a,b=>funext fun i=>by
   show (if i<2^l then mulC rt l a b i+mulC rt l (mulC rt l (eP l a) (eP l b)) (cf (rt.getD l [])) i else mulC rt l a (eP l b) (i-2^l)+mulC rt l (eP l a) b (i-2^l))=(if i<2^l then mulC rt l b a i+mulC rt l (mulC rt l (eP l b) (eP l a)) (cf (rt.getD l [])) i else mulC rt l b (eP l a) (i-2^l)+mulC rt l (eP l b) a (i-2^l));rw[ia rt l a b,ia rt l (eP l a) (eP l b),ia rt l a (eP l b),ia rt l (eP l a) b,Rat.add_comm (mulC rt l (eP l b) a _)]
theorem fx.mono{l m:Nat}{a:Cf}(h:fx l a)(hl:l≤m):fx m a:=fun i hi=>h i (Nat.le_trans (Nat.pow_le_pow_right (by decide) hl) hi)
theorem fx.w6{l:Nat}{a:Cf}(h:fx l a):eP l a=zC:=funext fun i=>h _ (by omega)
theorem dE(rt:List NQ){j:Nat}{a b:Cf}(ha:fx j a)(hb:fx j b): ∀{l:Nat},j≤l→mulC rt l a b=mulC rt j a b:=fun {l} h=>by
 obtain ⟨d,rfl⟩: ∃d,l=j+d:=⟨l-j,by omega⟩;clear h
 induction d with
 | zero=>rfl
 | succ d ih =>
   have ha':fx (j+d) a:=ha.mono (by omega);have hb':fx (j+d) b:=hb.mono (by omega);have hz:kt (j+d) zC zC:=kt.pD;rw[← ih];funext i;show (if i<2^(j+d) then mulC rt (j+d) a b i+mulC rt (j+d) (mulC rt (j+d) (eP (j+d) a) (eP (j+d) b)) (cf (rt.getD (j+d) [])) i else mulC rt (j+d) a (eP (j+d) b) (i-2^(j+d))+mulC rt (j+d) (eP (j+d) a) b (i-2^(j+d)))=_;rw[ha'.w6,hb'.w6,bL rt (j+d) (a:=zC) (b:=zC) (.inl hz),bL rt (j+d) (a:=zC) (.inl hz),bL rt (j+d) (b:=zC) (.inr hz),bL rt (j+d) (a:=zC) (.inl hz)];by_cases hi:i<2^(j+d)
   · rw[if_pos hi];exact Rat.add_zero _
   · rw[if_neg hi,b5 rt (j+d) a b i (by omega)];exact Rat.add_zero _
theorem aZ{l:Nat}{a:NQ}(h:a.length≤2^l):fx l (cf a):=fun i hi=>ft (by omega)
theorem gf(a b:NQ)(i:Nat):cf (bj a b) i=cf a i+cf b i:=lF a b i
theorem rV(a:NQ)(i:Nat):cf (bc a) i= -cf a i:=my a i
theorem p'{a:NQ}(h:a9 a=true):cf a=zC:=funext fun i=>by
 unfold a9 at h;rw[List.all_eq_true] at h;by_cases hi:i<a.length
 · have:=of_decide_eq_true (h a[i] (List.getElem_mem hi));show a.getD i 0=0;rw[List.getD_eq_getElem?_getD,List.getElem?_eq_getElem hi];exact this
 · exact ft (by omega)
theorem eK{j:Nat}{a:NQ}(n:Nat)(hn:n=2^j):kt j (cf (a.take n)) (cf a):=fun i hi=>by
 show (a.take n).getD i 0=a.getD i 0;rw[j7,if_pos (by omega)]
theorem iY{j:Nat}{a:NQ}(n:Nat)(hn:n=2^j):cf (a.drop n)=eP j (cf a):=funext fun i=>by
 show (a.drop n).getD i 0=a.getD (2^j+i) 0;rw[p9,hn]
theorem uR{l:Nat}{R:NQ→NQ→NQ}{rt:List NQ}{a b:NQ}(ha:aB l a)(hb:aB l b)(hab:b.length≤a.length)(hrt:cZ rt)(hl:l≤rt.length)
  (hR: ∀l',l=l'+1→ ∀a' b',aB l' a'→aB l' b'→aB l' (R a' b')∧cf (R a' b')=mulC rt l' (cf a') (cf b')):cf (iB R rt a b)=mulC rt l (cf a) (cf b):=by
 unfold iB;by_cases h0:(a9 a||a9 b)=true
 · rw[if_pos h0];have:cf ([]:NQ)=zC:=rfl;rw[this,bL];rw[Bool.or_eq_true] at h0;rcases h0 with h | h
   · left;rw[p' h];exact kt.pD
   · right;rw[p' h];exact kt.pD
 rw[if_neg h0];have hz:=fun z:a9 a=true=>h0 (by rw[z];rfl);have hz2:=fun z:a9 b=true=>h0 (by rw[z,Bool.or_true]);by_cases h1:a.length=1
 · rw[if_pos h1];have lb:b.length≤1:=by omega
   rw[dE rt (j:=0) (aZ (by rw[h1];exact Nat.le_refl _)) (aZ lb) (Nat.zero_le _)];funext i;show [a.getD 0 0*b.getD 0 0].getD i 0=if i=0 then a.getD 0 0*b.getD 0 0 else 0
   cases i with
   | zero=>rfl
   | succ i=>rw[if_neg (by omega)];rfl
 rw[if_neg h1]
 obtain ⟨i,hi,hla⟩: ∃i,i≤l∧a.length=2^i:=by
  rcases ha with e | e
  · exact absurd (by rw[List.length_eq_zero_iff.1 e];rfl) hz
  · exact e
 have w6:i≠0:=fun e=>h1 (by rw[hla,e]);obtain ⟨j,rfl⟩: ∃j,i=j+1:=⟨i-1,by omega⟩;obtain ⟨l',rfl⟩: ∃l',l=l'+1:=⟨l-1,by omega⟩;have hj:j≤l':=by omega
 have hR:=fun a' b' h1 h2=>hR l' rfl a' b' h1 h2;obtain ⟨e1,e2,e3⟩:=bz hla;have hx:aB l' (a.take (a.length / 2)):= .inr ⟨j,hj,e1⟩;have hy:aB l' (a.drop (a.length / 2)):= .inr ⟨j,hj,e2⟩;have la:fx (j+1) (cf a):=aZ (by omega);have lb:fx (j+1) (cf b):=aZ (by omega);rw[dE rt la lb hi]
 have low: ∀{p q:NQ},p.length≤2^j→q.length≤2^j→aB l' p→aB l' q→cf (R p q)=mulC rt j (cf p) (cf q):=fun {p q} hp hq h1 h2=>by
  rw[(hR p q h1 h2).2,dE rt (aZ hp) (aZ hq) hj]
 have lenR: ∀{p q:NQ},p.length≤2^j→q.length≤2^j→aB l' p→aB l' q→fx j (cf (R p q)):=fun {p q} hp hq h1 h2=>by
  rw[low hp hq h1 h2];exact b5 rt j _ _
 have tk:=eK (a:=a) (a.length / 2) e3;have dr:=iY (a:=a) (a.length / 2) e3
 have cj: ∀{p q:NQ},fx j (cf q)→ ∀i,cf (fI p q (a.length / 2)) i=if i<2^j then cf p i else cf q (i-2^j):=fun {p q} hq i=>by
  show (fI p q (a.length / 2)).getD i 0=_;rw[oC,e3];by_cases h:i<2^j
  · rw[if_pos h,if_pos h];rfl
  · rw[if_neg h,if_neg h];by_cases h2:i<2^j+2^j
    · rw[if_pos h2];rfl
    · rw[if_neg h2,hq _ (by omega)]
 by_cases h3:b.length≤a.length / 2
 · rw[if_pos h3]
   have hb':aB l' b:=by
    rcases hb with e | ⟨i',_,e⟩
    · exact .inl e
    · refine .inr ⟨i',?_,e⟩;rw[e3,e] at h3;have:=(Nat.pow_le_pow_iff_right (a:=2) (by decide)).1 h3;omega
   rw[e3] at h3;have lbj:fx j (cf b):=aZ h3;funext i;rw[cj (lenR (by omega) h3 hy hb'),low (by omega) h3 hx hb',low (by omega) h3 hy hb',dr,bo rt j tk kt.pD];show _=if i<2^j then mulC rt j (cf a) (cf b) i+mulC rt j (mulC rt j (eP j (cf a)) (eP j (cf b))) (cf (rt.getD j [])) i else mulC rt j (cf a) (eP j (cf b)) (i-2^j)+mulC rt j (eP j (cf a)) (cf b) (i-2^j)
   have hzz:kt j zC zC:=kt.pD;rw[lbj.w6,bL rt j (b:=zC) (.inr hzz),bL rt j (b:=zC) (.inr hzz),bL rt j (a:=zC) (.inl hzz)];by_cases h:i<2^j
   · rw[if_pos h,if_pos h];exact(Rat.add_zero _).symm
   · rw[if_neg h,if_neg h];exact(Rat.zero_add _).symm
 rw[if_neg h3]
 have hlb:b.length=2^(j+1):=by
  rcases hb with e | ⟨i',_,e⟩
  · exact absurd (by rw[List.length_eq_zero_iff.1 e];rfl) hz2
  · rw[e] at h3 hab ⊢;rw[hla] at hab;rw[e3] at h3;have h4:=(Nat.pow_le_pow_iff_right (a:=2) (by decide)).1 hab;have h5: ¬i'≤j:=fun h=>h3 ((Nat.pow_le_pow_iff_right (a:=2) (by decide)).2 h);rw[show i'=j+1 by omega]
 obtain ⟨f1,f2,f3⟩:=bz hlb;rw[show b.length / 2=a.length / 2 by rw[f3,e3]] at f1 f2;have hu:aB l' (b.take (a.length / 2)):= .inr ⟨j,hj,f1⟩;have hv:aB l' (b.drop (a.length / 2)):= .inr ⟨j,hj,f2⟩;have tkb:=eK (a:=b) (a.length / 2) e3;have drb:=iY (a:=b) (a.length / 2) e3;have hlog:a.length.log2-1=j:=by rw[hla,Nat.log2_two_pow];omega
 rw[hlog];have hdl:(rt.getD j []).length=2^j:=hrt j (by omega);have hd:aB l' (rt.getD j []):= .inr ⟨j,hj,hdl⟩;have Ryv:=hR _ _ hy hv;have lyv:fx j (cf (R (a.drop (a.length / 2)) (b.drop (a.length / 2)))):=lenR (by omega) (by omega) hy hv;have c1:=low (p:=a.take (a.length / 2)) (q:=b.take (a.length / 2)) (by omega) (by omega) hx hu;have c2:=low (p:=a.drop (a.length / 2)) (q:=b.drop (a.length / 2)) (by omega) (by omega) hy hv;have c3:=low (p:=a.take (a.length / 2)) (q:=b.drop (a.length / 2)) (by omega) (by omega) hx hv;have c4:=low (p:=a.drop (a.length / 2)) (q:=b.take (a.length / 2)) (by omega) (by omega) hy hu
 have c5:cf (R (R (a.drop (a.length / 2)) (b.drop (a.length / 2))) (rt.getD j []))=mulC rt j (cf (R (a.drop (a.length / 2)) (b.drop (a.length / 2)))) (cf (rt.getD j [])):=by
  rw[(hR _ _ Ryv.1 hd).2,dE rt lyv (aZ (by omega)) hj]
 have lq:fx j (cf (bj (R (a.take (a.length / 2)) (b.drop (a.length / 2))) (R (a.drop (a.length / 2)) (b.take (a.length / 2))))):=fun i hi=>by
  rw[gf,c3,c4,b5 rt j _ _ i hi,b5 rt j _ _ i hi];exact Rat.add_zero _
 funext i;rw[cj lq,gf,gf,c1,c5,c2,c3,c4,dr,drb,bo rt j tk tkb,bo rt j tk kt.pD,bo rt j kt.pD tkb];rfl
theorem mV: ∀(l:Nat) {rt:List NQ} {a b:NQ},aB l a→aB l b→cZ rt→l≤rt.length→aB l (a6 l rt a b)∧cf (a6 l rt a b)=mulC rt l (cf a) (cf b)
 | 0,rt,a,b,ha,hb,hrt,hl=>by
   have key: ∀{a b:NQ},aB 0 a→aB 0 b→b.length≤a.length→aB 0 (iB (fun _ _=>[]) rt a b)∧cf (iB (fun _ _=>[]) rt a b)=mulC rt 0 (cf a) (cf b):=fun {a b} ha hb hab =>
    ⟨by
     unfold iB;split
     · exact bG _
     split
     · exact dG _ _
     · rename_i h0 h1;have:a.length≤1:=ha.le;have:a=[]:=List.length_eq_zero_iff.1 (by omega);subst this
       exact absurd rfl h0,uR ha hb hab hrt hl (fun l' h=>by omega)⟩
   show aB 0 (jm (iB (fun _ _=>[]) rt) a b)∧cf (jm (iB (fun _ _=>[]) rt) a b)=_;unfold jm;split
   · have:=key hb ha (by omega);exact⟨this.1,by rw[this.2,ia]⟩
   · exact key ha hb (by omega)
 | l+1,rt,a,b,ha,hb,hrt,hl=>by
   have ih: ∀l',l+1=l'+1→ ∀a' b',aB l' a'→aB l' b'→aB l' (a6 l rt a' b')∧cf (a6 l rt a' b')=mulC rt l' (cf a') (cf b'):=fun l' e a' b' h1 h2=>by
    obtain rfl:l=l':=by omega
    exact mV l h1 h2 hrt (by omega)
   have lt:aB (l+1) (a6 (l+1) rt a b):=by
    obtain ⟨K,hK⟩: ∃K,aC K a∧aC K b∧ff K rt:=s3 a b rt;exact(cD (l+1) ha hb hrt hl hK.1 hK.2.1 hK.2.2).1
   refine⟨lt,?_⟩;show cf (jm (iB (a6 l rt) rt) a b)=_;unfold jm;split
   · rw[uR hb ha (by omega) hrt hl ih,ia]
   · exact uR ha hb (by omega) hrt hl ih
end Lift
namespace Lift
theorem AQ:ud 0=0:=AP.2 rfl
theorem B8: ∀{i:Nat} {a:NQ},fx i (cf a)→cf (fN i a)=cf a
 | 0,a,h=>by
   unfold fN;by_cases h0:a9 (a.take 1)=true
   · rw[if_pos h0];have z:=p' h0;funext c;show (0:Rat)=a.getD c 0;cases c with
     | zero =>
       have:(a.take 1).getD 0 0=0:=congrFun z 0;rw[j7,if_pos (by decide)] at this;exact this.symm
     | succ c=>exact(h (c+1) (by show 1≤c+1;omega)).symm
   · rw[if_neg h0];funext c;show (a.take 1).getD c 0=a.getD c 0;rw[j7];split
     · rfl
     · exact(h c (by show 1≤c;omega)).symm
 | i+1,a,h=>by
   unfold fN;have e:2^(i+1)=2^i*2:=Nat.pow_succ ..;by_cases h0:a9 ((a.take (2^(i+1))).drop (2^i))=true
   · rw[if_pos h0];refine B8 fun c hc=>?_;by_cases hc2:c<2^(i+1)
     · have:=congrFun (p' h0) (c-2^i);have:((a.take (2^(i+1))).drop (2^i)).getD (c-2^i) 0=0:=this;rw[p9,j7,if_pos (by omega),show 2^i+(c-2^i)=c by omega] at this;exact this
     · exact h c (by omega)
   · rw[if_neg h0];funext c;show (a.take (2^(i+1))).getD c 0=a.getD c 0;rw[j7];split
     · rfl
     · exact(h c (by omega)).symm
theorem dY{l:Nat}{a:NQ}(ha:aB l a):cf (aF a)=cf a:=by
 unfold aF;split
 · rename_i h;rw[List.length_eq_zero_iff.1 h]
 rename_i h0;rcases ha with e | ⟨i,hi,e⟩
 · exact absurd e h0
 rw[e,Nat.log2_two_pow];exact B8 (aZ (by omega))
theorem bQ{l:Nat}{a:NQ}(ha:aB l a):aB l (aF a):=by
 obtain ⟨K,hK⟩:=yJ a;exact(bb ha hK).1
structure tR (a:NQ):Prop where
 one:a.length=1→a.getD 0 0≠0
 two: ∀i,a.length=2^(i+1)→ ¬fx i (cf a)
theorem sY:tR []:=⟨fun h=>absurd h (by decide),fun i h=>by
  have hp:0<2^(i+1):=Nat.pow_pos (by decide);have h:0=2^(i+1):=h
  omega⟩
theorem qi{a:NQ}(h:cf a=zC):a9 a=true:=by
 unfold a9;rw[List.all_eq_true];intro x hx;obtain ⟨i,hi,rfl⟩:=List.getElem_of_mem hx;have:=congrFun h i;have:a.getD i 0=0:=this;rw[List.getD_eq_getElem?_getD,List.getElem?_eq_getElem hi] at this;exact decide_eq_true this
theorem sX: ∀{i:Nat} {a:NQ},a.length=2^i∨2^i≤a.length→tR (fN i a)
 | 0,a,h=>by
   unfold fN;by_cases h0:a9 (a.take 1)=true
   · rw[if_pos h0];exact sY
   · rw[if_neg h0]
     have hl:(a.take 1).length=1:=by rw[List.length_take];have:1≤a.length:=by rcases h with h | h;(have h:a.length=1:=h;omega);exact h
                                     omega
     refine⟨fun _ e=>h0 (qi (funext fun c=>?_)),fun i h=>?_⟩
     · show (a.take 1).getD c 0=0;cases c with
       | zero=>exact e
       | succ c=>exact ft (by omega)
     · rw[hl,Nat.pow_succ] at h;omega
 | i+1,a,h=>by
   unfold fN;have e:2^(i+1)=2^i*2:=Nat.pow_succ ..;have hp:0<2^i:=Nat.pow_pos (by decide);by_cases h0:a9 ((a.take (2^(i+1))).drop (2^i))=true
   · rw[if_pos h0];exact sX (.inr (by omega))
   · rw[if_neg h0];have hl:(a.take (2^(i+1))).length=2^(i+1):=by rw[List.length_take];omega
     refine⟨fun h1=>?_,fun k hk hlow=>h0 (qi (funext fun c=>?_))⟩
     · rw[hl] at h1;omega
     · rw[hl] at hk
       have:k=i:=by
        have h1:=(Nat.pow_le_pow_iff_right (a:=2) (by decide)).1 (Nat.le_of_eq hk);have h2:=(Nat.pow_le_pow_iff_right (a:=2) (by decide)).1 (Nat.le_of_eq hk.symm);omega
       subst this;show ((a.take (2^(k+1))).drop (2^k)).getD c 0=0;rw[p9];exact hlow _ (by omega)
theorem kF{l:Nat}{a:NQ}(ha:aB l a):tR (aF a):=by
 unfold aF;split
 · exact sY
 rename_i h0;rcases ha with e | ⟨i,hi,e⟩
 · exact absurd e h0
 rw[e,Nat.log2_two_pow];exact sX (.inl e)
theorem Df{a b:NQ}(hl:a.length=b.length)(h:cf a=cf b):a=b:=by
 refine List.ext_getElem hl fun i h1 h2=>?_;have:a.getD i 0=b.getD i 0:=congrFun h i;rw[List.getD_eq_getElem?_getD,List.getD_eq_getElem?_getD,List.getElem?_eq_getElem h1,List.getElem?_eq_getElem h2] at this;exact this
theorem Ax{l m:Nat}{a b:NQ}(ha:aB l a)(hb:aB m b)(ta:tR a)(tb:tR b)(h:cf a=cf b):a=b:=by
 refine Df ?_ h
 have key: ∀{l m:Nat} {a b:NQ},aB l a→aB m b→tR b→cf a=cf b→b.length≤a.length:=fun {l m a b} ha hb tb h=>by
  by_cases hlt:b.length≤a.length
  · exact hlt
  exfalso;rcases hb with e | ⟨k,_,e⟩
  · omega
  rcases k with _ | k
  · have h1:b.length=1:=e;have h0:a.length=0:=by omega
    refine tb.one h1 ?_;have:a.getD 0 0=b.getD 0 0:=congrFun h 0;rw[← this];exact ft (by omega)
  · refine tb.two k e ?_;rw[← h];refine aZ ?_;rcases ha with e1 | ⟨j,_,e1⟩
    · omega
    · rw[e1,e] at hlt;have: ¬k+1≤j:=fun h=>hlt (Nat.pow_le_pow_right (by decide) h);rw[e1];exact Nat.pow_le_pow_right (by decide) (by omega)
 exact Nat.le_antisymm (key hb ha ta h.symm) (key ha hb tb h)
theorem vD{l m:Nat}{a b:NQ}(ha:aB l a)(hb:aB m b)(h:cf a=cf b):aF a=aF b:=by
 refine Ax (bQ ha) (bQ hb) (kF ha) (kF hb) ?_;rw[dY ha,dY hb,h]
def iA(rt:List NQ)(l:Nat)(a:Cf):Cf:=fun i=>mulC rt l a a i-mulC rt l (mulC rt l (eP l a) (eP l a)) (cf (rt.getD l [])) i
def bI(rt:List NQ):Nat→Cf→Int
 | 0,a=>ud (a 0)
 | l+1,a=>if bI rt l (cf (rt.getD l []))=0 then bI rt l a else if bI rt l a=bI rt l (eP l a)∨bI rt l (eP l a)=0 then bI rt l a else
   if bI rt l a=0 then bI rt l (eP l a) else bI rt l a*bI rt l (iA rt l a)
theorem v8(rt:List NQ){l:Nat}{a b:Cf}(h:kt (l+1) a b):iA rt l a=iA rt l b:=by
 unfold iA;rw[bo rt l h.down h.down,bo rt l h.hi h.hi]
theorem jV(rt:List NQ): ∀(l:Nat) {a b:Cf},kt l a b→bI rt l a=bI rt l b
 | 0,a,b,h=>by show ud (a 0)=ud (b 0);rw[h 0 (by decide)]
 | l+1,a,b,h=>by
   unfold bI;rw[jV rt l h.down,jV rt l h.hi,v8 rt h]
theorem lA(rt:List NQ): ∀(l:Nat),bI rt l zC=0
 | 0=>by show ud 0=0;exact AQ
 | l+1=>by
   have h:=lA rt l;have h2:bI rt l (eP l zC)=0:=h;unfold bI;rw[h,h2];split
   · rfl
   · rw[if_pos (Or.inl rfl)]
theorem eH(rt:List NQ){j:Nat}{a:Cf}(ha:fx j a): ∀{l:Nat},j≤l→bI rt l a=bI rt j a:=fun {l} h=>by
 obtain ⟨d,rfl⟩: ∃d,l=j+d:=⟨l-j,by omega⟩;clear h
 induction d with
 | zero=>rfl
 | succ d ih =>
   have ha':fx (j+d) a:=ha.mono (by omega);show (if bI rt (j+d) (cf (rt.getD (j+d) []))=0 then bI rt (j+d) a else if bI rt (j+d) a=bI rt (j+d) (eP (j+d) a)∨bI rt (j+d) (eP (j+d) a)=0 then bI rt (j+d) a else if bI rt (j+d) a=0 then bI rt (j+d) (eP (j+d) a) else bI rt (j+d) a*bI rt (j+d) (iA rt (j+d) a))=_;rw[ha'.w6,lA,ih];by_cases hd:bI rt (j+d) (cf (rt.getD (j+d) []))=0
   · rw[if_pos hd]
   · rw[if_neg hd,if_pos (Or.inr rfl)]
theorem C9{l j:Nat}{rt:List NQ}{a:NQ}(hj:j≤l)(ha:a.length=2^(j+1))(hrt:cZ rt)(hl:l<rt.length):aB l (gK l rt a)∧cf (gK l rt a)=iA rt j (cf a):=by
 obtain ⟨K,hK⟩: ∃K,aC K a∧aC K a∧ff K rt:=s3 a a rt;refine⟨(uJ hj ha hrt hl hK.1 hK.2.2).1,?_⟩;obtain ⟨e1,e2,e3⟩:=bz ha;have hx:aB l (a.take (a.length / 2)):= .inr ⟨j,hj,e1⟩;have hy:aB l (a.drop (a.length / 2)):= .inr ⟨j,hj,e2⟩;have hlog:a.length.log2-1=j:=by rw[ha,Nat.log2_two_pow];omega
 have hdl:(rt.getD j []).length=2^j:=hrt j (by omega);have hd:aB l (rt.getD j []):= .inr ⟨j,hj,hdl⟩;have r1:=mV l hx hx hrt (by omega);have r2:=mV l hy hy hrt (by omega);have r3:=mV l r2.1 hd hrt (by omega);unfold gK iA;rw[hlog];funext i;rw[gf,rV,r1.2,r3.2,r2.2,dE rt (aZ (by omega)) (aZ (by omega)) hj,dE rt (aZ (a:=a.drop (a.length / 2)) (by omega)) (aZ (by omega)) hj,dE rt (b5 rt j _ _) (aZ (by omega)) hj,iY _ e3,bo rt j (eK _ e3) (eK _ e3)];exact Rat.sub_eq_add_neg _ _ |>.symm
theorem ly: ∀(l:Nat) {rt:List NQ} {a:NQ},aB l a→cZ rt→l≤rt.length→ep l rt a=bI rt l (cf a)
 | 0,rt,a,ha,hrt,hl=>by
   have hs:=bQ ha;have hc:=dY ha;show sB (fun _=>0) (fun a=>a) rt (aF a)=ud (cf a 0);rw[← hc];generalize aF a=s at hs;unfold sB;rcases hs with e | ⟨i,hi,e⟩
   · rw[if_pos e,List.length_eq_zero_iff.1 e];show 0=ud 0;rw[AQ]
   · obtain rfl:i=0:=by omega
     have e:s.length=1:=e;rw[if_neg (by omega),if_pos e];rfl
 | l+1,rt,a,ha,hrt,hl=>by
   have hs:=bQ ha;have hc:=dY ha;show sB (ep l rt) (gK l rt) rt (aF a)=bI rt (l+1) (cf a);rw[← hc];generalize aF a=s at hs;clear hc ha;unfold sB;by_cases h0:s.length=0
   · rw[if_pos h0,List.length_eq_zero_iff.1 h0];exact(lA rt (l+1)).symm
   rw[if_neg h0];by_cases h1:s.length=1
   · rw[if_pos h1,eH rt (j:=0) (aZ (by rw[h1];exact Nat.le_refl _)) (Nat.zero_le _)];rfl
   rw[if_neg h1]
   obtain ⟨j,hj,hsl⟩: ∃j,j≤l∧s.length=2^(j+1):=by
    rcases hs with e | ⟨i,hi,e⟩
    · exact absurd e h0
    · rcases i with _ | j
      · exact absurd e h1
      · exact⟨j,by omega,e⟩
   obtain ⟨e1,e2,e3⟩:=bz hsl;have hx:aB l (s.take (s.length / 2)):= .inr ⟨j,hj,e1⟩;have hy:aB l (s.drop (s.length / 2)):= .inr ⟨j,hj,e2⟩;have hlog:s.length.log2-1=j:=by rw[hsl,Nat.log2_two_pow];omega
   have hdl:(rt.getD j []).length=2^j:=hrt j (by omega);have hd:aB l (rt.getD j []):= .inr ⟨j,hj,hdl⟩;have hn:=C9 hj hsl hrt (by omega)
   have lowN:fx j (iA rt j (cf s)):=fun i hi=>by
    unfold iA;rw[b5 rt j _ _ i hi,b5 rt j _ _ i hi];exact Rat.sub_self
   rw[hlog,ly l hd hrt (by omega),ly l hx hrt (by omega),ly l hy hrt (by omega),ly l hn.1 hrt (by omega),hn.2,iY _ e3,
    eH rt (aZ (a:=rt.getD j []) (by omega)) hj,eH rt (aZ (a:=s.take (s.length / 2)) (by omega)) hj,eH rt lowN hj,jV rt j (eK _ e3)]
   have lh:fx j (eP j (cf s)):=fun i hi=>(aZ (l:=j+1) (by omega)) _ (by rw[Nat.pow_succ];omega);rw[eH rt lh hj,eH rt (a:=cf s) (j:=j+1) (l:=l+1) (aZ (by omega)) (by omega)];rfl
end Lift
namespace Lift
def iP(R:NQ→NQ→NQ)(rt:List NQ)(a b:NQ):NQ :=
 if a.length=0∨b.length=0 then [] else if max a.length b.length=1 then [a.getD 0 0*b.getD 0 0] else
 fI (bj (R ((aT a (max a.length b.length)).take (max a.length b.length / 2)) ((aT b (max a.length b.length)).take (max a.length b.length / 2)))
   (R (R ((aT a (max a.length b.length)).drop (max a.length b.length / 2)) ((aT b (max a.length b.length)).drop (max a.length b.length / 2))) (rt.getD ((max a.length b.length).log2-1) [])))
  (bj (R ((aT a (max a.length b.length)).take (max a.length b.length / 2)) ((aT b (max a.length b.length)).drop (max a.length b.length / 2)))
   (R ((aT a (max a.length b.length)).drop (max a.length b.length / 2)) ((aT b (max a.length b.length)).take (max a.length b.length / 2)))) (max a.length b.length / 2)
def eI:Nat→List NQ→NQ→NQ→NQ
 | 0,rt,a,b=>iP (fun _ _=>[]) rt (aF a) (aF b)
 | l+1,rt,a,b=>iP (eI l rt) rt (aF a) (aF b)
theorem zv{l:Nat}{a:NQ}(n:Nat)(ha:a.length≤n):cf (aT a n)=cf a:=funext fun i=>by
 show (aT a n).getD i 0=a.getD i 0;rw[eW];split
 · rfl
 · exact(ft (by omega)).symm
theorem vN{l:Nat}{R:NQ→NQ→NQ}{rt:List NQ}{a b:NQ}(ha:aB l a)(hb:aB l b)(hrt:cZ rt)(hl:l≤rt.length)
  (hR: ∀l',l=l'+1→ ∀a' b',aB l' a'→aB l' b'→aB l' (R a' b')∧cf (R a' b')=mulC rt l' (cf a') (cf b')):aB l (iP R rt a b)∧cf (iP R rt a b)=mulC rt l (cf a) (cf b):=by
 have cz: ∀{x:NQ},x.length=0→cf x=zC:=fun {x} h=>by rw[List.length_eq_zero_iff.1 h];rfl
 unfold iP;by_cases h0:a.length=0∨b.length=0
 · rw[if_pos h0];refine⟨bG _,?_⟩;rw[bL rt l (h0.imp (fun h=>by rw[cz h];exact kt.pD) (fun h=>by rw[cz h];exact kt.pD))];rfl
 rw[if_neg h0];by_cases h1:max a.length b.length=1
 · rw[if_pos h1];refine⟨dG _ _,?_⟩;rw[dE rt (j:=0) (aZ (show a.length≤1 by omega)) (aZ (show b.length≤1 by omega)) (Nat.zero_le _)];funext i;show [a.getD 0 0*b.getD 0 0].getD i 0=if i=0 then a.getD 0 0*b.getD 0 0 else 0
   cases i with
   | zero=>rfl
   | succ i=>rw[if_neg (by omega)];rfl
 rw[if_neg h1]
 obtain ⟨i,hi,hn⟩: ∃i,i≤l∧max a.length b.length=2^i:=by
  rcases ha with e | ⟨i,hi,e⟩
  · exact absurd (.inl e) h0
  rcases hb with e2 | ⟨k,hk,e2⟩
  · exact absurd (.inr e2) h0
  by_cases h:a.length≤b.length
  · exact⟨k,hk,by rw[Nat.max_eq_right h,e2]⟩
  · exact⟨i,hi,by rw[Nat.max_eq_left (by omega),e]⟩
 have w6:i≠0:=fun e=>h1 (by rw[hn,e]);obtain ⟨j,rfl⟩: ∃j,i=j+1:=⟨i-1,by omega⟩;obtain ⟨l',rfl⟩: ∃l',l=l'+1:=⟨l-1,by omega⟩;have hj:j≤l':=by omega
 have hR:=fun a' b' h1 h2=>hR l' rfl a' b' h1 h2;have ca:=zv (l:=l') (max a.length b.length) (Nat.le_max_left a.length b.length);have cb:=zv (l:=l') (max a.length b.length) (Nat.le_max_right a.length b.length);have wa:=ba a (max a.length b.length);have wb:=ba b (max a.length b.length);rw[← ca,← cb];generalize aT a (max a.length b.length)=A at *;generalize aT b (max a.length b.length)=B at *;generalize max a.length b.length=n at *;subst hn;have e0:=jy j;have hlog:(2^(j+1)).log2-1=j:=by rw[Nat.log2_two_pow];omega
 rw[e0,hlog];obtain ⟨e1,e2,e3⟩:=bz wa;obtain ⟨f1,f2,f3⟩:=bz wb;rw[e3] at e1 e2;rw[f3] at f1 f2;have hx:aB l' (A.take (2^j)):= .inr ⟨j,hj,e1⟩;have hy:aB l' (A.drop (2^j)):= .inr ⟨j,hj,e2⟩;have hu:aB l' (B.take (2^j)):= .inr ⟨j,hj,f1⟩;have hv:aB l' (B.drop (2^j)):= .inr ⟨j,hj,f2⟩;have hdl:(rt.getD j []).length=2^j:=hrt j (by omega);have hd:aB l' (rt.getD j []):= .inr ⟨j,hj,hdl⟩
 have low: ∀{p q:NQ},p.length≤2^j→q.length≤2^j→aB l' p→aB l' q→cf (R p q)=mulC rt j (cf p) (cf q):=fun {p q} hp hq h1 h2=>by
  rw[(hR p q h1 h2).2,dE rt (aZ hp) (aZ hq) hj]
 have Ryv:=hR _ _ hy hv;have c2:=low (p:=A.drop (2^j)) (q:=B.drop (2^j)) (by omega) (by omega) hy hv;have lyv:fx j (cf (R (A.drop (2^j)) (B.drop (2^j)))):=by rw[c2];exact b5 rt j _ _
 have c1:=low (p:=A.take (2^j)) (q:=B.take (2^j)) (by omega) (by omega) hx hu;have c3:=low (p:=A.take (2^j)) (q:=B.drop (2^j)) (by omega) (by omega) hx hv;have c4:=low (p:=A.drop (2^j)) (q:=B.take (2^j)) (by omega) (by omega) hy hu
 have c5:cf (R (R (A.drop (2^j)) (B.drop (2^j))) (rt.getD j []))=mulC rt j (cf (R (A.drop (2^j)) (B.drop (2^j)))) (cf (rt.getD j [])):=by
  rw[(hR _ _ Ryv.1 hd).2,dE rt lyv (aZ (by omega)) hj]
 refine⟨.inr ⟨j+1,by omega,by rw[ib,Nat.pow_succ];omega⟩,?_⟩;rw[dE rt (j:=j+1) (aZ (by omega)) (aZ (by omega)) (by omega)]
 have lq:fx j (cf (bj (R (A.take (2^j)) (B.drop (2^j))) (R (A.drop (2^j)) (B.take (2^j))))):=fun i hi=>by
  rw[gf,c3,c4,b5 rt j _ _ i hi,b5 rt j _ _ i hi];exact Rat.add_zero _
 have cj: ∀{p q:NQ},fx j (cf q)→ ∀i,cf (fI p q (2^j)) i=if i<2^j then cf p i else cf q (i-2^j):=fun {p q} hq i=>by
  show (fI p q (2^j)).getD i 0=_;rw[oC];by_cases h:i<2^j
  · rw[if_pos h,if_pos h];rfl
  · rw[if_neg h,if_neg h];by_cases h2:i<2^j+2^j
    · rw[if_pos h2];rfl
    · rw[if_neg h2,hq _ (by omega)]
 funext i;rw[cj lq,gf,gf,c1,c5,c2,c3,c4,iY (a:=A) (2^j) rfl,iY (a:=B) (2^j) rfl,bo rt j (eK (a:=A) (2^j) rfl) (eK (a:=B) (2^j) rfl),bo rt j (eK (a:=A) (2^j) rfl) kt.pD,bo rt j kt.pD (eK (a:=B) (2^j) rfl)];rfl
theorem lB: ∀(l:Nat) {rt:List NQ} {a b:NQ},aB l a→aB l b→cZ rt→l≤rt.length→aB l (eI l rt a b)∧cf (eI l rt a b)=mulC rt l (cf a) (cf b)
 | 0,rt,a,b,ha,hb,hrt,hl=>by
   have:=vN (R:=fun _ _=>[]) (bQ ha) (bQ hb) hrt hl (fun l' h=>by omega);rw[dY ha,dY hb] at this;exact this
 | l+1,rt,a,b,ha,hb,hrt,hl=>by
   have:=vN (R:=eI l rt) (bQ ha) (bQ hb) hrt hl (fun l' e a' b' h1 h2=>by
    obtain rfl:l=l':=by omega
    exact lB l h1 h2 hrt (by omega))
   rw[dY ha,dY hb] at this;exact this
def jd(l:Nat)(rt:List NQ)(a:NQ):NQ :=
 bj (eI l rt (a.take (a.length / 2)) (a.take (a.length / 2))) (bc (eI l rt (eI l rt (a.drop (a.length / 2)) (a.drop (a.length / 2))) (rt.getD (a.length.log2-1) [])))
def lX(R:NQ→Int)(N:NQ→NQ)(rt:List NQ)(a:NQ):Int :=
 if a.length=0 then 0 else if a.length=1 then ud (a.getD 0 0) else
 if R (a.take (a.length / 2))=R (a.drop (a.length / 2))*R (rt.getD (a.length.log2-1) [])∨R (a.drop (a.length / 2))*R (rt.getD (a.length.log2-1) [])=0 then R (a.take (a.length / 2)) else
 if R (a.take (a.length / 2))=0 then R (a.drop (a.length / 2))*R (rt.getD (a.length.log2-1) []) else R (a.take (a.length / 2))*R (N a)
def nY:Nat→List NQ→NQ→Int
 | 0,rt,a=>lX (fun _=>0) (fun a=>a) rt (aF a)
 | l+1,rt,a=>lX (nY l rt) (jd l rt) rt (aF a)
def Cs(rt:List NQ):Prop:= ∀j,j<rt.length→0≤bI rt j (cf (rt.getD j []))
theorem A5{l j:Nat}{rt:List NQ}{a:NQ}(hj:j≤l)(ha:a.length=2^(j+1))(hrt:cZ rt)(hl:l<rt.length):aB l (jd l rt a)∧cf (jd l rt a)=iA rt j (cf a):=by
 obtain ⟨e1,e2,e3⟩:=bz ha;have hx:aB l (a.take (a.length / 2)):= .inr ⟨j,hj,e1⟩;have hy:aB l (a.drop (a.length / 2)):= .inr ⟨j,hj,e2⟩;have hlog:a.length.log2-1=j:=by rw[ha,Nat.log2_two_pow];omega
 have hdl:(rt.getD j []).length=2^j:=hrt j (by omega);have hd:aB l (rt.getD j []):= .inr ⟨j,hj,hdl⟩;have r1:=lB l hx hx hrt (by omega);have r2:=lB l hy hy hrt (by omega);have r3:=lB l r2.1 hd hrt (by omega);unfold jd;rw[hlog];refine⟨r1.1.plus r3.1.minus,?_⟩;unfold iA;funext i;rw[gf,rV,r1.2,r3.2,r2.2,dE rt (aZ (by omega)) (aZ (by omega)) hj,dE rt (aZ (a:=a.drop (a.length / 2)) (by omega)) (aZ (by omega)) hj,dE rt (b5 rt j _ _) (aZ (by omega)) hj,iY _ e3,bo rt j (eK _ e3) (eK _ e3)];exact Rat.sub_eq_add_neg _ _ |>.symm
theorem jr(rt:List NQ): ∀(l:Nat) (a:Cf),sW (bI rt l a)
 | 0,a=>nX _
 | l+1,a=>by
   unfold bI;split
   · exact jr rt l _
   split
   · exact jr rt l _
   split
   · exact jr rt l _
   · exact jR (jr rt l _) (jr rt l _)
theorem kJ: ∀(l:Nat) {rt:List NQ} {a:NQ},aB l a→cZ rt→Cs rt→l≤rt.length→nY l rt a=bI rt l (cf a)
 | 0,rt,a,ha,hrt,hp,hl=>by
   have hs:=bQ ha;have hc:=dY ha;show lX (fun _=>0) (fun a=>a) rt (aF a)=ud (cf a 0);rw[← hc];generalize aF a=s at hs;unfold lX;rcases hs with e | ⟨i,hi,e⟩
   · rw[if_pos e,List.length_eq_zero_iff.1 e];show 0=ud 0;rw[AQ]
   · obtain rfl:i=0:=by omega
     have e:s.length=1:=e;rw[if_neg (by omega),if_pos e];rfl
 | l+1,rt,a,ha,hrt,hp,hl=>by
   have hs:=bQ ha;have hc:=dY ha;show lX (nY l rt) (jd l rt) rt (aF a)=bI rt (l+1) (cf a);rw[← hc];generalize aF a=s at hs;clear hc ha;unfold lX;by_cases h0:s.length=0
   · rw[if_pos h0,List.length_eq_zero_iff.1 h0];exact(lA rt (l+1)).symm
   rw[if_neg h0];by_cases h1:s.length=1
   · rw[if_pos h1,eH rt (j:=0) (aZ (by rw[h1];exact Nat.le_refl _)) (Nat.zero_le _)];rfl
   rw[if_neg h1]
   obtain ⟨j,hj,hsl⟩: ∃j,j≤l∧s.length=2^(j+1):=by
    rcases hs with e | ⟨i,hi,e⟩
    · exact absurd e h0
    · rcases i with _ | j
      · exact absurd e h1
      · exact⟨j,by omega,e⟩
   obtain ⟨e1,e2,e3⟩:=bz hsl;have hx:aB l (s.take (s.length / 2)):= .inr ⟨j,hj,e1⟩;have hy:aB l (s.drop (s.length / 2)):= .inr ⟨j,hj,e2⟩;have hlog:s.length.log2-1=j:=by rw[hsl,Nat.log2_two_pow];omega
   have hdl:(rt.getD j []).length=2^j:=hrt j (by omega);have hd:aB l (rt.getD j []):= .inr ⟨j,hj,hdl⟩;have hn:=A5 hj hsl hrt (by omega)
   have lowN:fx j (iA rt j (cf s)):=fun i hi=>by
    unfold iA;rw[b5 rt j _ _ i hi,b5 rt j _ _ i hi];exact Rat.sub_self
   have lh:fx j (eP j (cf s)):=fun i hi=>(aZ (l:=j+1) (by omega)) _ (by rw[Nat.pow_succ];omega);have hpj:=hp j (by omega)
   rw[hlog,kJ l hd hrt hp (by omega),kJ l hx hrt hp (by omega),kJ l hy hrt hp (by omega),kJ l hn.1 hrt hp (by omega),hn.2,iY _ e3,
    eH rt (aZ (a:=rt.getD j []) (by omega)) hj,eH rt (aZ (a:=s.take (s.length / 2)) (by omega)) hj,eH rt lowN hj,jV rt j (eK _ e3),eH rt lh hj,eH rt (a:=cf s) (j:=j+1) (l:=l+1) (aZ (by omega)) (by omega)]
   show _=if bI rt j (cf (rt.getD j []))=0 then bI rt j (cf s) else if bI rt j (cf s)=bI rt j (eP j (cf s))∨bI rt j (eP j (cf s))=0 then bI rt j (cf s) else
    if bI rt j (cf s)=0 then bI rt j (eP j (cf s)) else bI rt j (cf s)*bI rt j (iA rt j (cf s))
   have ht:=jr rt j (cf (rt.getD j []));generalize bI rt j (cf (rt.getD j []))=D at hpj ht;unfold sW at ht;rcases ht with rfl | rfl | rfl
   · rw[if_pos rfl,Int.mul_zero,if_pos (.inr rfl)]
   · rw[Int.mul_one,if_neg (show ¬(1:Int)=0 by decide)]
   · omega
end Lift
namespace Lift
open Go Go.Proofs
structure lr (m:Nat) (v:List NQ):Prop where
 l5:v.length≤5
 ro:cZ v
 sz:ff m v
 ps: ∀k,k<v.length→ ¬ep k (v.take k) (v.getD k [])<0
 m2:m≤1000000
 t: ∃m0,1≤m0∧m0≤m∧ff m0 v∧pb v.length m0
theorem lr.m1{m:Nat}{v:List NQ}(V:lr m v):1≤m:=by
 obtain ⟨m0,h1,h2,_⟩:=V.t;omega
theorem lr.mono{m k:Nat}{v:List NQ}(V:lr m v)(h:m≤k)(hk:k≤1000000):lr k v:=by
 obtain ⟨m0,h1,h2,h3,h4⟩:=V.t;exact⟨V.l5,V.ro,V.sz.mono h,V.ps,hk,m0,h1,by omega,h3,h4⟩
theorem lr.of{m:Nat}{rt:List (List RD)}(T:mJ m rt)(h:ck rt=0):lr m (rt.map ar):=by
 have W:=mT T h;exact⟨by rw[W.ln];exact W.l5,W.ro,W.sz,W.ps,T.m2,by rw[W.ln];exact W.t⟩
def fP(a:NQ):List RD:=a.map Qr
theorem gj(a:NQ):ar (fP a)=a:=by
 unfold ar fP;rw[List.map_map];have:(RD.val ∘ Qr)=id:=funext bV;rw[this,List.map_id]
theorem jW(a:NQ):aY (fP a)=af a:=by
 show D.sl 3 ((a.map Qr).map RD.D)=D.sl 3 (List.map _ a);rw[List.map_map];rfl
theorem jw(a:NQ):(fP a).length=a.length:=List.length_map ..
theorem uk{a:NQ}{k:Nat}(h:aC k a):wN k (fP a):=fun i hi=>by
 rw[jw] at hi;unfold fP;rw[List.getD_eq_getElem?_getD,List.getElem?_map,List.getElem?_eq_getElem hi];have:=h i;rw[List.getD_eq_getElem?_getD,List.getElem?_eq_getElem hi] at this;exact fv _ this
theorem kL{a:NQ}{l:Nat}(h:aB l a):bp l (fP a)=0:=by
 unfold bp;rw[jw]
 have h1: ¬(a.length≠0∧xM l a.length=false):=fun hs=>by
  rcases h with e | ⟨i,hi,e⟩
  · exact hs.1 e
  · rw[e,uU,decide_eq_true hi] at hs;exact Bool.noConfusion hs.2
 have h2:iU (fP a)=true:=by
  unfold iU fP;rw[List.all_map,List.all_eq_true];exact fun q _=>wY q
 rw[if_neg h1,if_neg (by rw[h2];simp)]
def lO(v:List NQ):List (List RD):=v.map fP
theorem dO(v:List NQ):(lO v).length=v.length:=List.length_map ..
theorem m7(v:List NQ)(i:Nat):(lO v).getD i []=fP (v.getD i []):=by
 unfold lO;rw[List.getD_eq_getElem?_getD,List.getElem?_map,List.getD_eq_getElem?_getD];cases v[i]? with
 | none=>rfl
 | some x=>rfl
theorem vO(v:List NQ):(lO v).map ar=v:=by
 unfold lO;rw[List.map_map];have:(ar ∘ fP)=id:=funext gj;rw[this,List.map_id]
theorem qH(v:List NQ):se (lO v)=bF v:=by
 show D.ag [.sl 1 ((v.map fP).map aY)]=D.ag [.sl 1 (v.map af)];rw[List.map_map];have:(aY ∘ fP)=af:=funext jW;rw[this]
theorem k8{f:Nat→Nat}: ∀{n i:Nat},(∀j,j<i+n→f j=0)→fE f n i=0
 | 0,i,h=>rfl
 | n+1,i,h=>by
   rw[fE,if_pos (h i (by omega))];exact k8 (fun j hj=>h j (by omega))
theorem lr.raw{m:Nat}{v:List NQ}(V:lr m v):mJ m (lO v)∧ck (lO v)=0:=by
 have l5:=V.l5;have hp: ∀i,i<v.length→2^i≤2^5:=fun i hi=>Nat.pow_le_pow_right (by decide) (by omega);obtain ⟨m0,t1,t2,ts,tk⟩:=V.t
 refine⟨⟨⟨m0,t1,t2,fun i hi _=>by rw[m7];exact uk (ts i),fun _=>by rw[dO];exact tk⟩,V.m2,by rw[dO];omega,fun i hi=>by
  rw[dO] at hi;rw[m7,jw,V.ro i hi];have:=hp i hi
  omega⟩,?_⟩
 unfold ck;rw[dO,if_neg (by omega)];refine k8 fun j hj=>?_;have hj:j<v.length:=by omega
 unfold so;rw[m7,jw,if_neg (fun h=>h (V.ro j hj)),if_neg (fun h=>h (kL (.inr ⟨j,Nat.le_refl _,V.ro j hj⟩))),gj,List.map_take,vO,if_neg (V.ps j hj)]
theorem jX{m:Nat}{v:List NQ}{a:NQ}(V:lr m v)(ha:aB v.length a)(sa:aC m a):iI m (lO v) (fP a):=⟨fun _=>uk sa,by
 have l5:=V.l5;rw[jw]
 exact Nat.le_trans (ha.len (by omega)) (by decide)⟩
theorem ck1{m:Nat}{v:List NQ}{a:NQ}(V:lr m v)(ha:aB v.length a):iH (lO v) [fP a]=0:=by
 unfold iH;rw[if_neg (by rw[V.raw.2];simp)];refine k8 fun j hj=>?_;have hj:j<0+1:=hj;obtain rfl:j=0:=by omega
 rw[dO];exact kL ha
theorem Gw{m:Nat}{v:List NQ}{a b:NQ}(V:lr m v)(ha:aB v.length a)(hb:aB v.length b):iH (lO v) [fP a,fP b]=0:=by
 unfold iH;rw[if_neg (by rw[V.raw.2];simp)];refine k8 fun j hj=>?_;have hj:j<0+2:=hj;rw[dO]
 match j,hj with
 | 0,_=>exact kL ha
 | 1,_=>exact kL hb
def fm(a:NQ):NQ:=aF (bc a)
def wV(a b:NQ):NQ:=aF (bj a b)
def gx(a b:NQ):NQ:=aF (bj a (bc b))
def gU(v:List NQ)(a b:NQ):NQ:=aF (a6 v.length v a b)
theorem lW{m:Nat}{v:List NQ}{a b:NQ}(V:lr m v)(ha:aB v.length a)(sa:aC m a)(hb:aB v.length b)(sb:aC m b):Pure Tryz.prog 21 [bF v,af a,af b] (.tu [af (wV a b),aj]):=by
 have h:=tY V.raw.1 (jX V ha sa) (jX V hb sb);unfold uA at h;rw[if_neg (by rw[Gw V ha hb];simp),qH,jW,jW,gj,gj] at h;exact h
theorem su{m:Nat}{v:List NQ}{a b:NQ}(V:lr m v)(ha:aB v.length a)(sa:aC m a)(hb:aB v.length b)(sb:aC m b):Pure Tryz.prog 105 [bF v,af a,af b] (.tu [af (gx a b),aj]):=by
 have h:=tV V.raw.1 (jX V ha sa) (jX V hb sb);unfold uA at h;rw[if_neg (by rw[Gw V ha hb];simp),qH,jW,jW,gj,gj] at h;exact h
theorem sv{m:Nat}{v:List NQ}{a b:NQ}(hsT:sT v.length m≤17300000000000)(V:lr m v)(ha:aB v.length a)(sa:aC m a)(hb:aB v.length b)(sb:aC m b):Pure Tryz.prog 106 [bF v,af a,af b] (.tu [af (gU v a b),aj]):=by
 have h:=tX (by rw[dO];exact hsT) V.raw.1 (jX V ha sa) (jX V hb sb);unfold uA at h;rw[if_neg (by rw[Gw V ha hb];simp),qH,jW,jW,gj,gj,dO,vO] at h;exact h
theorem y7{l k:Nat}{a:NQ}(ha:aB l a)(sa:aC k a):aB l (fm a)∧aC k (fm a):=bb ha.minus sa.minus
theorem qd{l k j:Nat}{a b:NQ}(ha:aB l a)(sa:aC k a)(hb:aB l b)(sb:aC j b):aB l (wV a b)∧aC (k+j+1) (wV a b):=bb (ha.plus hb) (sa.plus sb)
theorem iN{l k j:Nat}{a b:NQ}(ha:aB l a)(sa:aC k a)(hb:aB l b)(sb:aC j b):aB l (gx a b)∧aC (k+j+1) (gx a b):=bb (ha.plus hb.minus) (sa.plus sb.minus)
theorem eJ{m:Nat}{v:List NQ}{a b:NQ}(V:lr m v)(ha:aB v.length a)(sa:aC m a)(hb:aB v.length b)(sb:aC m b):aB v.length (gU v a b)∧aC (sT v.length m) (gU v a b):=by
 have h:=cD v.length ha hb V.ro (Nat.le_refl _) sa sb V.sz;exact bb h.1 h.2
theorem mq(l:Nat){q:Rat}{k:Nat}(h:LQ q≤k):aB l (uF q)∧aC k (uF q):=by
 unfold uF;split
 · exact⟨bG _,cE (Nat.le_trans (yC _) h)⟩
 · exact⟨dG _ _,eB h⟩
end Lift
namespace Lift
open Go
open Go.RowKit (Below)
section
variable {P:Program} {T:Ty} {B:Nat} {F0:Nat→Prop} {w0:bS} {n d:Nat} {o:Oper} {σ:St} {K:St→Prop} {all:Array Oper} {rest:List Oper} {lk hm:Nat→Option AV}
end
end Lift
namespace Lift
open Go
open Go.RowKit (Below)
section
variable {P:Program} {T:Ty} {B:Nat} {F0:Nat→Prop} {w0:bS} {n:Nat} {σ τ σ0:St} {ops all:Array Oper} {l rest:List Oper} {o:Oper} {d:Nat} {lk hm:Nat→Option AV} {K:St→Prop} {ds:List Nat}
end
end Lift
namespace Lift
open Go
open Go.RowKit (Below)
section
variable {P:Program} {T:Ty} {B:Nat} {F0:Nat→Prop} {w0:bS} {n:Nat} {σ:St} {all:Array Oper} {rest:List Oper} {o1 o2:Oper} {K:St→Prop}
theorem vG{w:World}{b:Nat}{cs:Array Value}{e:TypeId}(hb:w.heap[b]?=some (.cells cs e (0,0))):w.setRow b cs=w:=by
 have h1:=setRow_heap w b cs cs e (0,0) hb
 have hh:(w.setRow b cs).heap=w.heap:=by
  refine Array.ext_getElem? fun i=>?_;by_cases hi:i=b
  · subst hi;rw[h1,hb]
  · exact setRow_other w b i cs hi
 have:w.setRow b cs={w with heap:=(w.setRow b cs).heap}:=rfl;rw[this,hh]
theorem aa.Ei(hT:a7 P T){d1 d2 off size f s t:Nat}{x:Operand}{cs:List D}{c:Value}{i j:TI}{g:Bool}
  (h1d:o1.dst=some d1) (h1:o1.op= .fieldAddr s x f) (h1g:o1.guard=none) (hdn:Nat.ble (d1+1) n=true)
  (h2d:o2.dst=none) (h2:o2.op= .store t (.tmp d1) (.tmp d2)) (h2g:o2.guard=none) (hne:Nat.beq d2 d1=false)
  (hi:T.get s=some i) (hf:oK i f=some (off,size,g)) (hj:T.get t=some j) (hj1:j.size=1)
  (hx:ex T σ.get 0 x=some (.d (.pr cs))) (hc:cs[off]?=some (.v c)) (hyv:b7 T (ex T σ.get t (.tmp d2))=some (.v c))
  (h:aa P B F0 w0 n all rest K ((d1,.rf (cs.drop off))::σ)):aa P B F0 w0 n all (o1::o2::rest) K σ:=by
 intro a w hR Q hQ;obtain ⟨O,hOr,hO⟩:=hR.own;have hI:=hR.inv hOr hO (fun _=>True) d1;have hr:Rd w (aH O (FW B F0 w)) (.pr cs) (a.eval x):=(aM hI (fun _ _=>trivial) hx d1).1;obtain ⟨b,arr,e,hv,hF,hb,hel⟩:=Rd.Es hr;obtain ⟨_,u,hu,hru⟩:=hel off (.v c) hc;obtain rfl:=(Rd.im hru).1;have hyd:=cJ hT hI (fun _ _=>trivial) hyv;have hye:=(Rd.im hyd).1;obtain ⟨info,dd,z,hok⟩:=hT s i hi;obtain ⟨info',dd',z',hok'⟩:=hT t j hj;obtain ⟨fs,fl,jj,dd2,g1,g2,g3,g4,g5,g6,g7,g8⟩:=j8 hok hf;have hdn:=Nat.le_of_ble_eq_true hdn;have hne:d2≠d1:=fun e=>by subst e;rw[Nat.beq_refl] at hne;cases hne
 unfold wpList;rw[if_pos (by simp[Region.wanted,h1g])];refine .inl ?_;refine aR (v:= .pointer (some ⟨b,off,none⟩)) (w':=w) ?_ ?_
 · obtain ⟨dst,op,ty,pos,after,guard⟩:=o1;simp only[] at h1;subst h1;have hs:jj.size≠0:=by omega
   simp[execOp,Instr.fieldAt,run_underlying g1,g2,hv,Instr.sureAddr,fieldPlace,Go.sizeOf,typeInfo,g4,hs,g3,Addr.add_lit]
 · have hR':Rel P B F0 w0 n ((d1,.rf (cs.drop off))::σ) (a.put (some d1) (.pointer (some ⟨b,off,none⟩))) w :=
    hR.put (av:= .rf (cs.drop off)) hOr hO hdn (bX.refl (fun b t hb=>(hOr b t hb).2)) ⟨b,off,arr,e,(0,0),rfl,hF,hb,fun k y hy=>by
      rw[List.getElem?_drop] at hy
      exact hel _ y hy⟩
   rw[h1d];unfold wpList;rw[if_pos (by simp[Region.wanted,h2g])];refine .inl ?_
   have e1:(a.put (some d1) (.pointer (some ⟨b,off,none⟩))).eval (.tmp d1)= .pointer (some ⟨b,off,none⟩):=by
    exact eF (db (a:=a) (d:=d1) (v:= .pointer (some ⟨b,off,none⟩)) (by rw[hR.size];exact hdn))
   have e2:(a.put (some d1) (.pointer (some ⟨b,off,none⟩))).eval (.tmp d2)=u:=by
    have h3:=cg (a:=a) (d:=d1) (v:= .pointer (some ⟨b,off,none⟩)) hne;have h4:a.eval (.tmp d2)=(a.tmps[d2]?).getD undef:=by simp[Act.eval]
    have h5:(a.put (some d1) (.pointer (some ⟨b,off,none⟩))).eval (.tmp d2)=(((a.put (some d1) (.pointer (some ⟨b,off,none⟩))).tmps)[d2]?).getD undef:=by simp[Act.eval]
    rw[h5,h3,← h4];exact hye
   have hcl:u.cells= #[u]:=by
    have:=(Rd.im hru).2;cases u<;>simp_all [Value.cells,cQ]
   have hrun:=jT hok' hb (v:=u) (off:=off) (by rw[hcl,hj1];rfl) (by rw[hcl];have:=(Array.getElem?_eq_some_iff.1 hu).1;show off+1≤_;omega) (fun y hy=>by
    rw[hcl] at hy;have hy:y=u:=by simpa using hy
    rw[hy];have:=(Rd.im hru).2
    cases u<;>simp_all [cQ,Value.oneCell'])
   have hsame:(arr.toList.take off++u.cells.toList++arr.toList.drop (off+u.cells.size)).toArray=arr:=by
    rw[hcl];have hlt:=(Array.getElem?_eq_some_iff.1 hu).1;apply Array.ext';have hu2:arr.toList[off]?=some u:=by simpa using hu
    have:arr.toList=arr.toList.take off++(u::arr.toList.drop (off+1)):=by
     conv=>lhs;rw[← List.take_append_drop off arr.toList]
     congr 1
     rw[List.drop_eq_getElem_cons (by simpa using hlt)]
     congr 1
     exact(List.getElem?_eq_some_iff.1 hu2).2
    show arr.toList.take off++[u]++arr.toList.drop (off+1)=arr.toList;rw[List.append_assoc];exact this.symm
   rw[hsame,vG hb] at hrun;refine qm (w':=w) ?_ ?_
   · obtain ⟨dst,op,ty,pos,after,guard⟩:=o2;simp only[] at h2;subst h2;simp only[execOp,Instr.storeAt,Instr.sureAddr,Sem.run_bind,e1,e2,Sem.run_pure,Result.andThen_ok,hrun]
   · rw[h2d,q9];exact h _ _ hR' Q hQ
end
end Lift
namespace Lift
open Go Go.Proofs
theorem e7(i:Int)(n:Nat):Pure Tryz.prog 100 [dI i,dI n] (dB (gn i n)):=by
 refine qJ 12 Tryz.func100 rfl rfl rfl rfl (by kernel_rfl) (fun B F0 w0=>?_);refine qX 1 rfl ?_;refine qK 2 rfl ?_;refine aa.split (t:=6) rfl (fun h=>?_) (fun h=>?_)
 · have h1:=of_decide_eq_true h;refine qU 6 rfl ?_;refine aa.nil ?_;rw[show gn i n=decide (i<n) by unfold gn;rw[decide_eq_decide];omega];exact AW.ret rfl
 · have h1:=of_decide_eq_false h;refine qU 6 rfl ?_;refine aa.nil ?_;rw[show gn i n=false by unfold gn;rw[decide_eq_false_iff_not];omega];exact AW.ret rfl
set_option maxHeartbeats 1600000 in
theorem pG(bs:List Body){K:Nat}(hn:bs.length≤big)(hb: ∀i,(bs.getD i default).ok K)(hK:K≤50000000):Pure Tryz.prog 52 [ay bs] (sq (bh bs)):=by
 refine qJ 85 Tryz.func52 rfl rfl rfl rfl (by kernel_rfl) (fun B F0 w0=>?_);unfold big at hn;refine qX 1 rfl ?_;refine qI ?_;refine qX 3 rfl ?_;rw[List.length_map];refine aa.nil ?_;refine AW.block ?_
 refine AW.aD [0,11,12,13] (fun i:Nat=>[(0,.d (ay bs)),(11,.d (ay bs)),(12,.d (dI bs.length)),(13,.d (dI i))])
  (fun i=>i≤bs.length∧bh bs=fE (et bs) (bs.length-i) i) (fun i=>bs.length-i) 0 rfl ⟨Nat.zero_le _,rfl⟩ (fun i ⟨hi,hE⟩=>?_)
 refine qX 1 rfl ?_;refine qI ?_;refine AW.cond rfl (fun h=>?_) (fun h=>?_)
 · have hin:i<bs.length:=by have:=of_decide_eq_true h;omega
   obtain ⟨bok1,bok2,bok3⟩:=hb i;have hbE:et bs i≠0→bh bs=et bs i:=fun h0=>hE.trans (dh hin h0);have hbM:et bs i=0→bh bs=fE (et bs) (bs.length-(i+1)) (i+1):=fun h0=>hE.trans (bU hin h0);obtain ⟨b,hbe⟩: ∃b,b=bs.getD i default:=⟨_,rfl⟩;rw[← hbe] at bok1 bok2 bok3;unfold big at bok1 bok2;have hdup:yj bs i=dD (fun k=>decide ((bs.getD k default).nm=b.nm)) i 0:=by rw[hbe];rfl
   have hbd:et bs i=if b3 b.nm=false then 5 else if yj bs i=true then 6 else n9 b.pts:=by rw[hbe];rfl
   refine AW.skip (AW.seq (AW.block ?_));refine qX 1 rfl ?_;refine aa.idx tok b.D rfl rfl rfl rfl (Int.natCast_nonneg i) (by rw[hbe];exact getM Body.D hin) ?_;refine qU 4 rfl ?_;refine qI ?_;refine qX 2 rfl ?_;refine aa.call tok rfl rfl rfl rfl (ey b.nm bok1) ?_;refine qU 1 rfl ?_;refine aa.nil ?_;refine AW.cond rfl (fun h=>?_) (fun h=>?_)
   · have hnm:b3 b.nm=false:=by simpa using h
     have h5:et bs i=5:=by rw[hbd,hnm];rfl
     rw[show bh bs=5 by rw[hbE (by omega),h5]];refine qX 2 rfl ?_;exact qN rfl
   · have hnm:b3 b.nm=true:=by simpa using h
     rw[hnm,if_neg (by decide)] at hbd;refine AW.skip (AW.seq ?_);refine qX 2 rfl ?_;refine aa.yN tok rfl rfl rfl rfl trivial (Int.natCast_nonneg i) (Nat.zero_le _) (by show i≤_;rw[List.length_map];omega) ?_;refine qU 2 rfl ?_;rw[qC (by rw[List.length_map];omega)];refine aa.nil ?_;refine AW.block ?_
     refine AW.aD [0,3,4,11,12,13,25,26,27] (fun k:Nat=>[(0,.d (ay bs)),(3,.d (dI i)),(4,.bx [dS b.nm,mK b.pts]),(11,.d (ay bs)),(12,.d (dI bs.length)),(13,.d (dI i)),(25,.d (.sl 2 ((bs.map Body.D).take i))),(26,.d (dI i)),(27,.d (dI k))])
      (fun k=>k≤i∧yj bs i=dD (fun k=>decide ((bs.getD k default).nm=b.nm)) (i-k) k) (fun k=>i-k) 0 rfl ⟨Nat.zero_le _,hdup⟩ (fun k ⟨hk,hD⟩=>?_)
     refine qX 1 rfl ?_;refine qI ?_;refine AW.cond rfl (fun h=>?_) (fun h=>?_)
     · have hki:k<i:=by have:=of_decide_eq_true h;omega
       refine AW.skip (AW.seq (AW.block (AW.seq (AW.region ?_))));refine aa.idx tok (bs.getD k default).D rfl rfl rfl rfl (Int.natCast_nonneg k) (BF Body.D (by omega) hki) ?_;refine qU 3 rfl ?_;refine qK 5 rfl ?_;rw[jS];refine aa.nil ?_;refine AW.cond rfl (fun h=>?_) (fun h=>?_)
       · have h6:et bs i=6:=by rw[hbd,hD.trans (dZ hki h)];rfl
         rw[show bh bs=6 by rw[hbE (by omega),h6]];refine qX 2 rfl ?_;exact qN rfl
       · refine AW.skip ?_;refine qT 2 rfl ?_;rw[aq (x:=(k:Int)+1) (by omega) (by omega)];refine aa.nil ?_;exact⟨k+1,rfl,⟨hki,hD.trans (cY hki h)⟩,by omega⟩
     · have hki: ¬k<i:=by have:=of_decide_eq_false h;omega
       rw[hD.trans (ea hki),if_neg (by decide)] at hbd;refine AW.exit (AW.seq ?_);refine qX 4 rfl ?_;rw[List.length_map];refine aa.nil ?_;refine AW.cond rfl (fun h=>?_) (fun h=>?_)
       · have h8:8<b.pts.length:=by have:=of_decide_eq_true h;omega
         have h4:et bs i=4:=by rw[hbd,n9,if_pos h8]
         rw[show bh bs=4 by rw[hbE (by omega),h4]];refine qX 2 rfl ?_;exact qN rfl
       · have h8: ¬8<b.pts.length:=by have:=of_decide_eq_false h;omega
         rw[n9,if_neg h8] at hbd;refine AW.skip ?_;refine qX 4 rfl ?_;rw[List.length_map];refine aa.nil ?_;refine AW.block ?_
         refine AW.aD [0,4,11,12,13,44,45,46] (fun p:Nat=>[(0,.d (ay bs)),(4,.bx [dS b.nm,mK b.pts]),(11,.d (ay bs)),(12,.d (dI bs.length)),(13,.d (dI i)),(44,.d (mK b.pts)),(45,.d (dI b.pts.length)),(46,.d (dI p))])
          (fun p=>p≤b.pts.length∧et bs i=fE (pZ b.pts) (b.pts.length-p) p) (fun p=>b.pts.length-p) 0 rfl ⟨Nat.zero_le _,hbd⟩ (fun p ⟨hp,hP⟩=>?_)
         refine qX 1 rfl ?_;refine qI ?_;refine AW.cond rfl (fun h=>?_) (fun h=>?_)
         · have hpn:p<b.pts.length:=by have:=of_decide_eq_true h;omega
           obtain ⟨mok1,mok2,mok3⟩:=bok3 p
           have hpE:pZ b.pts p≠0→bh bs=pZ b.pts p:=fun h0=>by
            have:=hP.trans (dh hpn h0);rw[hbE (by omega),this]
           have hpM:pZ b.pts p=0→et bs i=fE (pZ b.pts) (b.pts.length-(p+1)) (p+1):=fun h0=>hP.trans (bU hpn h0);obtain ⟨m,hm⟩: ∃m,m=b.pts.getD p default:=⟨_,rfl⟩;rw[← hm] at mok1 mok2 mok3;unfold big at mok1;have hdup2:yb b.pts p=dD (fun k=>decide ((b.pts.getD k default).nm=m.nm)) p 0:=by rw[hm];rfl
           have hpd:pZ b.pts p=if b3 m.nm=false then 5 else if yb b.pts p=true then 6 else if m.x.okB=true∧m.y.okB=true then 0 else 3:=by rw[hm];rfl
           refine AW.skip (AW.seq (AW.block ?_));refine qX 1 rfl ?_;refine aa.idx tok m.D rfl rfl rfl rfl (Int.natCast_nonneg p) (by rw[hm];exact getM Mark.D hpn) ?_;refine qU 4 rfl ?_;refine qI ?_;refine qX 2 rfl ?_;refine aa.call tok rfl rfl rfl rfl (ey m.nm mok1) ?_;refine qU 1 rfl ?_;refine aa.nil ?_;refine AW.cond rfl (fun h=>?_) (fun h=>?_)
           · have hnm2:b3 m.nm=false:=by simpa using h
             have h5:pZ b.pts p=5:=by rw[hpd,hnm2];rfl
             rw[show bh bs=5 by rw[hpE (by omega),h5]];refine qX 2 rfl ?_;exact qN rfl
           · have hnm2:b3 m.nm=true:=by simpa using h
             rw[hnm2,if_neg (by decide)] at hpd;refine AW.skip (AW.seq ?_);refine qX 3 rfl ?_;refine aa.yN tok rfl rfl rfl rfl trivial (Int.natCast_nonneg p) (Nat.zero_le _) (by show p≤_;rw[List.length_map];omega) ?_;refine qU 2 rfl ?_;rw[qC (by rw[List.length_map];omega)];refine aa.nil ?_;refine AW.block ?_
             refine AW.aD [0,4,8,11,12,13,44,45,46,59,60,61] (fun k:Nat=>[(0,.d (ay bs)),(4,.bx [dS b.nm,mK b.pts]),(8,.bx [dS m.nm,dB m.x.g,Wd m.x.n,Wd m.x.d,dB m.y.g,Wd m.y.n,Wd m.y.d]),(11,.d (ay bs)),(12,.d (dI bs.length)),(13,.d (dI i)),(44,.d (mK b.pts)),(45,.d (dI b.pts.length)),(46,.d (dI p)),(59,.d (.sl 7 ((b.pts.map Mark.D).take p))),(60,.d (dI p)),(61,.d (dI k))])
              (fun k=>k≤p∧yb b.pts p=dD (fun k=>decide ((b.pts.getD k default).nm=m.nm)) (p-k) k) (fun k=>p-k) 0 rfl ⟨Nat.zero_le _,hdup2⟩ (fun k ⟨hk,hD2⟩=>?_)
             refine qX 1 rfl ?_;refine qI ?_;refine AW.cond rfl (fun h=>?_) (fun h=>?_)
             · have hkp:k<p:=by have:=of_decide_eq_true h;omega
               refine AW.skip (AW.seq (AW.block (AW.seq (AW.region ?_))));refine aa.idx tok (b.pts.getD k default).D rfl rfl rfl rfl (Int.natCast_nonneg k) (BF Mark.D (by omega) hkp) ?_;refine qU 3 rfl ?_;refine qK 5 rfl ?_;rw[jS];refine aa.nil ?_;refine AW.cond rfl (fun h=>?_) (fun h=>?_)
               · have h6:pZ b.pts p=6:=by rw[hpd,hD2.trans (dZ hkp h)];rfl
                 rw[show bh bs=6 by rw[hpE (by omega),h6]];refine qX 2 rfl ?_;exact qN rfl
               · refine AW.skip ?_;refine qT 2 rfl ?_;rw[aq (x:=(k:Int)+1) (by omega) (by omega)];refine aa.nil ?_;exact⟨k+1,rfl,⟨hkp,hD2.trans (cY hkp h)⟩,by omega⟩
             · have hkp: ¬k<p:=by have:=of_decide_eq_false h;omega
               rw[hD2.trans (ea hkp),if_neg (by decide)] at hpd;refine AW.exit ?_;refine AW.cut [0,4,11,12,13,44,45,46,81] (fun _:Unit=>[(0,.d (ay bs)),(4,.bx [dS b.nm,mK b.pts]),(11,.d (ay bs)),(12,.d (dI bs.length)),(13,.d (dI i)),(44,.d (mK b.pts)),(45,.d (dI b.pts.length)),(46,.d (dI p)),(81,.d (dB (!decide (m.x.okB=true∧m.y.okB=true))))]) (fun _=>True) ?_ (fun _ _=>?_)
               · refine qT 2 rfl ?_;refine aa.call tok rfl rfl rfl rfl (dF m.x mok2 (by omega)) ?_;refine aa.split (t:=74) rfl (fun h=>?_) (fun h=>?_)
                 · refine qU 4 rfl ?_;refine aa.call tok rfl rfl rfl rfl (dF m.y mok3 (by omega)) ?_;refine qU 2 rfl ?_;refine aa.nil ?_;exact⟨(),by rw[show decide (m.x.okB=true∧m.y.okB=true)=m.y.okB by simp[h]];rfl,trivial⟩
                 · refine qU 7 rfl ?_;refine aa.nil ?_;exact⟨(),by rw[show decide (m.x.okB=true∧m.y.okB=true)=false by simp[h]];rfl,trivial⟩
               refine AW.cond rfl (fun h=>?_) (fun h=>?_)
               · have hno: ¬(m.x.okB=true∧m.y.okB=true):=fun e=>by rw[decide_eq_true e] at h;cases h
                 have h3:pZ b.pts p=3:=by rw[hpd,if_neg hno]
                 rw[show bh bs=3 by rw[hpE (by omega),h3]];refine qX 2 rfl ?_;exact qN rfl
               · have hyes:m.x.okB=true∧m.y.okB=true:=by simpa using h
                 rw[if_pos hyes] at hpd;refine AW.skip ?_;refine qT 2 rfl ?_;rw[aq (x:=(p:Int)+1) (by omega) (by omega)];refine aa.nil ?_;exact⟨p+1,rfl,⟨hpn,hpM hpd⟩,by omega⟩
         · have hpn: ¬p<b.pts.length:=by have:=of_decide_eq_false h;omega
           have h0:et bs i=0:=hP.trans (dk hpn);refine AW.exit ?_;refine qT 2 rfl ?_;rw[aq (x:=(i:Int)+1) (by omega) (by omega)];refine aa.nil ?_;exact⟨i+1,rfl,⟨hin,hbM h0⟩,by omega⟩
 · have hin: ¬i<bs.length:=by have:=of_decide_eq_false h;omega
   rw[hE,dk hin];refine AW.exit ?_;refine qX 1 rfl ?_;exact qN rfl
end Lift
namespace Lift
open Go Go.Proofs
theorem lK(a b:Rat):(vi a b==0)=decide (a=b):=by
 unfold vi;by_cases h:a<b
 · rw[if_pos h];have hne:a≠b:=fun e=>by rw[e] at h;exact absurd h Rat.lt_irrefl
   rw[decide_eq_false hne];rfl
 · rw[if_neg h];by_cases he:a=b
   · rw[if_pos he,decide_eq_true he];rfl
   · rw[if_neg he,decide_eq_false he];rfl
theorem iz{b:Bool}(h:(!b)=true):b=false:=by cases b<;>simp_all
theorem pj{i:Int}{n:Nat}(h:gn i n=true):0≤i∧i.toNat<n:=by
 have:=of_decide_eq_true h;omega
set_option maxHeartbeats 1600000 in
theorem ru(l:Lkg)(j:bu){K:Nat}(hl:l.ok K)(hK:K≤20000000):Pure Tryz.prog 99 [l.D,j.D] (sq (jE l.bodies j)):=by
 refine qJ 107 Tryz.func99 rfl rfl rfl rfl (by kernel_rfl) (fun B F0 w0=>?_);obtain ⟨ln,bs,js,ds⟩:=l;have hb:=hl.b;simp only[] at hb ⊢;obtain ⟨nm,kind,a,pt,b,on,to⟩:=j
 have hj:jE bs ⟨nm,kind,a,pt,b,on,to⟩=if kind≠0∧kind≠1 then 7 else if (gn a bs.length&&gn b bs.length)=false then 9 else if a=b then 13 else
  if (gn pt (bs.getD a.toNat default).pts.length&&gn on (bs.getD b.toNat default).pts.length)=false then 9 else
  if kind=0 then (if to=0 then 0 else 2) else if gn to (bs.getD b.toNat default).pts.length=false then 9 else
  if ju ((bs.getD b.toNat default).pts.getD on.toNat default) ((bs.getD b.toNat default).pts.getD to.toNat default)=true then 8 else 0:=rfl
 generalize jE bs ⟨nm,kind,a,pt,b,on,to⟩=E at *;refine qX 3 rfl ?_;refine qI ?_;refine AW.cut [2,3,15] (fun _:Unit=>[(2,.bx [dS ln,ay bs,ak js,an ds]),(3,.bx [dS nm,dI kind,dI a,dI pt,dI b,dI on,dI to]),(15,.d (dB (decide (kind≠0∧kind≠1))))]) (fun _=>True) ?_ (fun _ _=>?_)
 · refine qT 3 rfl ?_;refine aa.split (t:=10) rfl (fun h=>?_) (fun h=>?_)
   · have h1:kind≠0:=by simpa using h
     refine qU 5 rfl ?_;refine aa.nil ?_;exact⟨(),by rw[show decide (kind≠0∧kind≠1)=(kind != 1) by rw[Bool.eq_iff_iff];simp[h1]];rfl,trivial⟩
   · have h1:kind=0:=by simpa using h
     refine qU 5 rfl ?_;refine aa.nil ?_;exact⟨(),by rw[show decide (kind≠0∧kind≠1)=false by simp[h1]];rfl,trivial⟩
 refine AW.cond rfl (fun h=>?_) (fun h=>?_)
 · rw[if_pos (of_decide_eq_true h)] at hj;rw[hj];refine qX 2 rfl ?_;exact qN rfl
 rw[if_neg (of_decide_eq_false h)] at hj;refine AW.skip (AW.seq ?_);refine AW.cut [2,3,32] (fun _:Unit=>[(2,.bx [dS ln,ay bs,ak js,an ds]),(3,.bx [dS nm,dI kind,dI a,dI pt,dI b,dI on,dI to]),(32,.d (dB (!(gn a bs.length&&gn b bs.length))))]) (fun _=>True) ?_ (fun _ _=>?_)
 · refine qT 5 rfl ?_;rw[List.length_map];refine aa.call tok rfl rfl rfl rfl (e7 a bs.length) ?_;refine aa.split (t:=22) rfl (fun h=>?_) (fun h=>?_)
   · refine qU 7 rfl ?_;rw[List.length_map];refine aa.call tok rfl rfl rfl rfl (e7 b bs.length) ?_;refine qU 2 rfl ?_;refine aa.nil ?_;exact⟨(),by rw[h];rfl,trivial⟩
   · refine qU 10 rfl ?_;refine aa.nil ?_;exact⟨(),by rw[h];rfl,trivial⟩
 refine AW.cond rfl (fun h=>?_) (fun h=>?_)
 · rw[if_pos (iz h)] at hj;rw[hj];refine qX 2 rfl ?_;exact qN rfl
 have hab:gn a bs.length=true∧gn b bs.length=true:=by simpa using h
 rw[if_neg (by simp[hab])] at hj;obtain ⟨ha0,ha1⟩:=pj hab.1;obtain ⟨hb0,hb1⟩:=pj hab.2;obtain ⟨Bb,hBb⟩: ∃x,x=bs.getD b.toNat default:=⟨_,rfl⟩;obtain ⟨Ba,hBa⟩: ∃x,x=bs.getD a.toNat default:=⟨_,rfl⟩;have okb:=hb b.toNat;rw[← hBb] at hj okb;rw[← hBa] at hj;refine AW.skip (AW.seq ?_);refine qX 5 rfl ?_;refine aa.nil ?_;refine AW.cond rfl (fun h=>?_) (fun h=>?_)
 · rw[if_pos (by simpa using h)] at hj;rw[hj];refine qX 2 rfl ?_;exact qN rfl
 rw[if_neg (by simpa using h)] at hj;refine AW.skip ?_;refine qX 4 rfl ?_;refine aa.idx tok Bb.D rfl rfl rfl rfl hb0 (by rw[hBb];exact getM Body.D hb1) ?_;refine qU 3 rfl ?_;refine qI ?_;refine AW.cut [2,3,5,66] (fun _:Unit=>[(2,.bx [dS ln,ay bs,ak js,an ds]),(3,.bx [dS nm,dI kind,dI a,dI pt,dI b,dI on,dI to]),(5,.d (mK Bb.pts)),(66,.d (dB (!(gn pt Ba.pts.length&&gn on Bb.pts.length))))]) (fun _=>True) ?_ (fun _ _=>?_)
 · have c1:=e7 pt Ba.pts.length;cases hq:gn pt Ba.pts.length with
   | true =>
     rw[hq] at c1;refine AW.draw aJ 20 (by kernel_rfl) ?_;refine qP 6 rfl ?_;refine ae.idx tok Ba.D rfl rfl rfl rfl rfl ha0 (by rw[hBa];exact getM Body.D ha1) ?_;refine qP 3 rfl ?_;rw[List.length_map];refine ae.call tok rfl rfl rfl rfl rfl c1 ?_;refine qP 6 rfl ?_;rw[List.length_map];refine ae.call tok rfl rfl rfl rfl rfl (e7 on Bb.pts.length) ?_;refine qP 2 rfl ?_;refine ae.nil ?_;refine aa.nil ?_;exact⟨(),rfl,trivial⟩
   | false =>
     rw[hq] at c1;refine AW.draw aJ 20 (by kernel_rfl) ?_;refine qP 6 rfl ?_;refine ae.idx tok Ba.D rfl rfl rfl rfl rfl ha0 (by rw[hBa];exact getM Body.D ha1) ?_;refine qP 3 rfl ?_;rw[List.length_map];refine ae.call tok rfl rfl rfl rfl rfl c1 ?_;refine qP 9 rfl ?_;refine ae.nil ?_;refine aa.nil ?_;exact⟨(),rfl,trivial⟩
 refine AW.cond rfl (fun h=>?_) (fun h=>?_)
 · rw[if_pos (iz h)] at hj;rw[hj];refine qX 2 rfl ?_;exact qN rfl
 have hpo:gn pt Ba.pts.length=true∧gn on Bb.pts.length=true:=by simpa using h
 rw[if_neg (by simp[hpo])] at hj;obtain ⟨ho0,ho1⟩:=pj hpo.2;refine AW.skip (AW.seq ?_);refine qX 3 rfl ?_;refine aa.nil ?_;refine AW.cond rfl (fun h=>?_) (fun h=>?_)
 · rw[if_pos (by simpa using h)] at hj;refine AW.seq ?_;refine qX 3 rfl ?_;refine aa.nil ?_;refine AW.cond rfl (fun h=>?_) (fun h=>?_)
   · rw[if_neg (by simpa using h)] at hj;rw[hj];refine qX 2 rfl ?_;exact qN rfl
   · rw[if_pos (by simpa using h)] at hj;rw[hj];refine AW.skip ?_;refine qX 1 rfl ?_;exact qN rfl
 rw[if_neg (by simpa using h)] at hj;refine AW.skip (AW.seq ?_);refine qX 4 rfl ?_;rw[List.length_map];refine aa.call tok rfl rfl rfl rfl (e7 to Bb.pts.length) ?_;refine qU 1 rfl ?_;refine aa.nil ?_;refine AW.cond rfl (fun h=>?_) (fun h=>?_)
 · rw[if_pos (by simpa using h)] at hj;rw[hj];refine qX 2 rfl ?_;exact qN rfl
 have hto:gn to Bb.pts.length=true:=by simpa using h
 rw[if_neg (by simp[hto])] at hj;obtain ⟨ht0,ht1⟩:=pj hto;obtain ⟨p,hp⟩: ∃x,x=Bb.pts.getD on.toNat default:=⟨_,rfl⟩;obtain ⟨q,hq⟩: ∃x,x=Bb.pts.getD to.toNat default:=⟨_,rfl⟩;have okp:=okb.2.2 on.toNat;have okq:=okb.2.2 to.toNat;rw[← hp] at hj okp;rw[← hq] at hj okq;refine AW.skip (AW.seq ?_);refine AW.l7 tok aJ [(5,true),(5,false),(2,true)] 12 [6,7] (by kernel_rfl) ⟨rfl,?_⟩;refine qP 3 rfl ?_;refine ae.idx tok p.D rfl rfl rfl rfl rfl ho0 (by rw[hp];exact getM Mark.D ho1) ?_;refine qP 1 rfl ?_;refine ae.nil ⟨rfl,?_⟩;refine qP 3 rfl ?_;refine ae.idx tok q.D rfl rfl rfl rfl rfl ht0 (by rw[hq];exact getM Mark.D ht1) ?_;refine qP 1 rfl ?_;refine ae.nil ⟨rfl,?_⟩;refine qP 2 rfl ?_;refine ae.nil ⟨_,l8.cons (.bx rfl) (l8.cons (.bx rfl) (l8.nil)),?_⟩;refine qI ?_;refine AW.cut [105] (fun _:Unit=>[(105,.d (dB (ju p q)))]) (fun _=>True) ?_ (fun _ _=>?_)
 · refine qT 4 rfl ?_;refine aa.call tok rfl rfl rfl rfl (kq p.x q.x okp.2.1 okq.2.1 (by omega)) ?_;refine qU 1 rfl ?_;rw[lK];refine aa.split (t:=97) rfl (fun h=>?_) (fun h=>?_)
   · have h1:=of_decide_eq_true h;refine qU 5 rfl ?_;refine aa.call tok rfl rfl rfl rfl (kq p.y q.y okp.2.2 okq.2.2 (by omega)) ?_;refine qU 2 rfl ?_;rw[lK];refine aa.nil ?_;exact⟨(),by rw[show ju p q=decide (p.y.val=q.y.val) by unfold ju;simp[h1]];rfl,trivial⟩
   · have h1:=of_decide_eq_false h;refine qU 8 rfl ?_;refine aa.nil ?_;exact⟨(),by rw[show ju p q=false by unfold ju;simp[h1]];rfl,trivial⟩
 refine AW.cond rfl (fun h=>?_) (fun h=>?_)
 · rw[if_pos h] at hj;rw[hj];refine qX 2 rfl ?_;exact qN rfl
 · rw[if_neg (by rw[h];decide)] at hj;rw[hj];refine AW.skip ?_;refine qX 1 rfl ?_;exact qN rfl
end Lift
namespace Lift
open Go Go.Proofs
set_option maxHeartbeats 1600000 in
theorem pE(l:Lkg){K:Nat}(hl:l.ok K)(hK:K≤20000000):Pure Tryz.prog 53 [l.D] (sq (cG l.bodies l.joints)):=by
 refine qJ 49 Tryz.func53 rfl rfl rfl rfl (by kernel_rfl) (fun B F0 w0=>?_);have hjoint:=fun j=>ru l j hl hK;obtain ⟨ln,bs,js,ds⟩:=l;have hj:=hl.j;have hn:=hl.nj;simp only[] at hj hn hjoint ⊢;show AW _ _ _ _ _ _ _ (cW 0 [D.ag [dS ln,ay bs,ak js,an ds]]);unfold big at hn;refine qX 2 rfl ?_;refine qI ?_;refine qX 4 rfl ?_;rw[List.length_map];refine aa.nil ?_;refine AW.cond rfl (fun h=>?_) (fun h=>?_)
 · have h16:16<js.length:=by have:=of_decide_eq_true h;omega
   rw[cG,if_pos h16];refine qX 2 rfl ?_;exact qN rfl
 have h16: ¬16<js.length:=by have:=of_decide_eq_false h;omega
 rw[cG,if_neg h16];refine AW.skip (AW.seq ?_);refine qX 4 rfl ?_;rw[List.length_map];refine aa.nil ?_;refine AW.block ?_
 refine AW.aD [1,14,15,16] (fun i:Nat=>[(1,.bx [dS ln,ay bs,ak js,an ds]),(14,.d (ak js)),(15,.d (dI js.length)),(16,.d (dI i))])
  (fun i=>i≤js.length∧fE (de bs js) js.length 0=fE (de bs js) (js.length-i) i) (fun i=>js.length-i) 0 rfl ⟨Nat.zero_le _,rfl⟩ (fun i ⟨hi,hE⟩=>?_)
 refine qX 1 rfl ?_;refine qI ?_;refine AW.cond rfl (fun h=>?_) (fun h=>?_)
 · have hin:i<js.length:=by have:=of_decide_eq_true h;omega
   have jok:=hj i;have hbE:de bs js i≠0→fE (de bs js) js.length 0=de bs js i:=fun h0=>hE.trans (dh hin h0);have hbM:de bs js i=0→fE (de bs js) js.length 0=fE (de bs js) (js.length-(i+1)) (i+1):=fun h0=>hE.trans (bU hin h0);generalize fE (de bs js) js.length 0=E at *;obtain ⟨j,hje⟩: ∃j,j=js.getD i default:=⟨_,rfl⟩;rw[← hje] at jok;unfold big at jok;have hdup:ye js i=dD (fun k=>decide ((js.getD k default).nm=j.nm)) i 0:=by rw[hje];rfl
   have hbd:de bs js i=if b3 j.nm=false then 5 else if ye js i=true then 6 else jE bs j:=by rw[hje];rfl
   refine AW.skip (AW.seq (AW.block ?_));refine qX 1 rfl ?_;refine aa.idx tok j.D rfl rfl rfl rfl (Int.natCast_nonneg i) (by rw[hje];exact getM bu.D hin) ?_;refine qU 4 rfl ?_;refine qI ?_;refine qX 2 rfl ?_;refine aa.call tok rfl rfl rfl rfl (ey j.nm jok) ?_;refine qU 1 rfl ?_;refine aa.nil ?_;refine AW.cond rfl (fun h=>?_) (fun h=>?_)
   · have hnm:b3 j.nm=false:=iz h;have h5:de bs js i=5:=by rw[hbd,hnm];rfl
     rw[show E=5 by rw[hbE (by omega),h5]];refine qX 2 rfl ?_;exact qN rfl
   have hnm:b3 j.nm=true:=by simpa using h
   rw[hnm,if_neg (by decide)] at hbd;refine AW.skip (AW.seq ?_);refine qX 3 rfl ?_;refine aa.yN tok rfl rfl rfl rfl trivial (Int.natCast_nonneg i) (Nat.zero_le _) (by show i≤_;rw[List.length_map];omega) ?_;refine qU 2 rfl ?_;rw[qC (by rw[List.length_map];omega)];refine aa.nil ?_;refine AW.block ?_
   refine AW.aD [1,4,14,15,16,29,30,31] (fun k:Nat=>[(1,.bx [dS ln,ay bs,ak js,an ds]),(4,.bx [dS j.nm,dI j.kind,dI j.a,dI j.pt,dI j.b,dI j.on,dI j.to]),(14,.d (ak js)),(15,.d (dI js.length)),(16,.d (dI i)),(29,.d (.sl 7 ((js.map bu.D).take i))),(30,.d (dI i)),(31,.d (dI k))])
    (fun k=>k≤i∧ye js i=dD (fun k=>decide ((js.getD k default).nm=j.nm)) (i-k) k) (fun k=>i-k) 0 rfl ⟨Nat.zero_le _,hdup⟩ (fun k ⟨hk,hD⟩=>?_)
   refine qX 1 rfl ?_;refine qI ?_;refine AW.cond rfl (fun h=>?_) (fun h=>?_)
   · have hki:k<i:=by have:=of_decide_eq_true h;omega
     refine AW.skip (AW.seq (AW.block (AW.seq (AW.region ?_))));refine aa.idx tok (js.getD k default).D rfl rfl rfl rfl (Int.natCast_nonneg k) (BF bu.D (by omega) hki) ?_;refine qU 3 rfl ?_;refine qK 5 rfl ?_;rw[jS];refine aa.nil ?_;refine AW.cond rfl (fun h=>?_) (fun h=>?_)
     · have h6:de bs js i=6:=by rw[hbd,hD.trans (dZ hki h)];rfl
       rw[show E=6 by rw[hbE (by omega),h6]];refine qX 2 rfl ?_;exact qN rfl
     · refine AW.skip ?_;refine qT 2 rfl ?_;rw[aq (x:=(k:Int)+1) (by omega) (by omega)];refine aa.nil ?_;exact⟨k+1,rfl,⟨hki,hD.trans (cY hki h)⟩,by omega⟩
   · have hki: ¬k<i:=by have:=of_decide_eq_false h;omega
     rw[hD.trans (ea hki),if_neg (by decide)] at hbd;refine AW.exit ?_;have c:=hjoint j;cases he:jE bs j with
     | zero =>
       rw[he] at hbd c;refine qX 2 rfl ?_;refine aa.call tok rfl rfl rfl rfl c ?_;refine qU 1 rfl ?_;refine qK 1 rfl ?_;refine aa.err tok rfl rfl rfl rfl rfl ?_;refine aa.nil ?_;refine AW.ao rfl ?_;refine AW.skip ?_;refine qT 2 rfl ?_;rw[aq (x:=(i:Int)+1) (by omega) (by omega)];refine aa.nil ?_;exact⟨i+1,rfl,⟨hin,hbM hbd⟩,by omega⟩
     | succ m =>
       rw[he] at hbd c;rw[show E=m+1 by rw[hbE (by omega),hbd]];refine qX 2 rfl ?_;refine aa.call tok rfl rfl rfl rfl c ?_;refine qU 1 rfl ?_;refine qK 1 rfl ?_;refine aa.err tok rfl rfl rfl rfl rfl ?_;refine aa.nil ?_;refine AW.az rfl ?_;refine qX 2 rfl ?_;exact qN rfl
 · have hin: ¬i<js.length:=by have:=of_decide_eq_false h;omega
   rw[hE,dk hin];refine AW.exit ?_;refine qX 1 rfl ?_;exact qN rfl
set_option maxHeartbeats 1600000 in
theorem oq(l:Lkg){K:Nat}(hl:l.ok K):Pure Tryz.prog 54 [l.D] (sq (gr l.bodies.length l.drivers)):=by
 refine qJ 72 Tryz.func54 rfl rfl rfl rfl (by kernel_rfl) (fun B F0 w0=>?_);obtain ⟨ln,bs,js,ds⟩:=l;have hd:=hl.d;have hn:=hl.nd;simp only[] at hd hn ⊢;show AW _ _ _ _ _ _ _ (cW 0 [D.ag [dS ln,ay bs,ak js,an ds]]);unfold big at hn;refine qX 2 rfl ?_;refine qI ?_;refine qX 4 rfl ?_;rw[List.length_map];refine aa.nil ?_;refine AW.cond rfl (fun h=>?_) (fun h=>?_)
 · have h2:2<ds.length:=by have:=of_decide_eq_true h;omega
   rw[gr,if_pos h2];refine qX 2 rfl ?_;exact qN rfl
 have h2: ¬2<ds.length:=by have:=of_decide_eq_false h;omega
 rw[gr,if_neg h2];refine AW.skip (AW.seq ?_);refine qX 4 rfl ?_;rw[List.length_map];refine aa.nil ?_;refine AW.block ?_
 refine AW.aD [1,15,16,17] (fun i:Nat=>[(1,.bx [dS ln,ay bs,ak js,an ds]),(15,.d (an ds)),(16,.d (dI ds.length)),(17,.d (dI i))])
  (fun i=>i≤ds.length∧fE (cI bs.length ds) ds.length 0=fE (cI bs.length ds) (ds.length-i) i) (fun i=>ds.length-i) 0 rfl ⟨Nat.zero_le _,rfl⟩ (fun i ⟨hi,hE⟩=>?_)
 refine qX 1 rfl ?_;refine qI ?_;refine AW.cond rfl (fun h=>?_) (fun h=>?_)
 · have hin:i<ds.length:=by have:=of_decide_eq_true h;omega
   have dok:=hd i;have hbE:cI bs.length ds i≠0→fE (cI bs.length ds) ds.length 0=cI bs.length ds i:=fun h0=>hE.trans (dh hin h0);have hbM:cI bs.length ds i=0→fE (cI bs.length ds) ds.length 0=fE (cI bs.length ds) (ds.length-(i+1)) (i+1):=fun h0=>hE.trans (bU hin h0);generalize fE (cI bs.length ds) ds.length 0=E at *;obtain ⟨d,hde⟩: ∃d,d=ds.getD i default:=⟨_,rfl⟩;rw[← hde] at dok;unfold big at dok;have hdup:yh ds i=dD (fun k=>decide ((ds.getD k default).nm=d.nm)) i 0:=by rw[hde];rfl
   have hdup2:ya ds i=dD (fun k=>decide ((ds.getD k default).body=d.body)) i 0:=by rw[hde];rfl
   have hbd:cI bs.length ds i=if b3 d.nm=false then 5 else if yh ds i=true then 6 else if gn d.body bs.length=false then 9 else if d.body=0 then 7 else if ya ds i=true then 6 else 0:=by rw[hde];rfl
   refine AW.skip (AW.seq (AW.block ?_));refine qX 1 rfl ?_;refine aa.idx tok d.D rfl rfl rfl rfl (Int.natCast_nonneg i) (by rw[hde];exact getM Driver.D hin) ?_;refine qU 4 rfl ?_;refine qI ?_;refine qX 2 rfl ?_;refine aa.call tok rfl rfl rfl rfl (ey d.nm dok) ?_;refine qU 1 rfl ?_;refine aa.nil ?_;refine AW.cond rfl (fun h=>?_) (fun h=>?_)
   · have hnm:b3 d.nm=false:=iz h;have h5:cI bs.length ds i=5:=by rw[hbd,hnm];rfl
     rw[show E=5 by rw[hbE (by omega),h5]];refine qX 2 rfl ?_;exact qN rfl
   have hnm:b3 d.nm=true:=by simpa using h
   rw[hnm,if_neg (by decide)] at hbd;refine AW.skip (AW.seq ?_);refine qX 3 rfl ?_;refine aa.yN tok rfl rfl rfl rfl trivial (Int.natCast_nonneg i) (Nat.zero_le _) (by show i≤_;rw[List.length_map];omega) ?_;refine qU 2 rfl ?_;rw[qC (by rw[List.length_map];omega)];refine aa.nil ?_;refine AW.block ?_
   refine AW.aD [1,3,4,15,16,17,30,31,32] (fun k:Nat=>[(1,.bx [dS ln,ay bs,ak js,an ds]),(3,.d (dI i)),(4,.bx [dS d.nm,dI d.body]),(15,.d (an ds)),(16,.d (dI ds.length)),(17,.d (dI i)),(30,.d (.sl 2 ((ds.map Driver.D).take i))),(31,.d (dI i)),(32,.d (dI k))])
    (fun k=>k≤i∧yh ds i=dD (fun k=>decide ((ds.getD k default).nm=d.nm)) (i-k) k) (fun k=>i-k) 0 rfl ⟨Nat.zero_le _,hdup⟩ (fun k ⟨hk,hD⟩=>?_)
   refine qX 1 rfl ?_;refine qI ?_;refine AW.cond rfl (fun h=>?_) (fun h=>?_)
   · have hki:k<i:=by have:=of_decide_eq_true h;omega
     refine AW.skip (AW.seq (AW.block (AW.seq (AW.region ?_))));refine aa.idx tok (ds.getD k default).D rfl rfl rfl rfl (Int.natCast_nonneg k) (BF Driver.D (by omega) hki) ?_;refine qU 3 rfl ?_;refine qK 5 rfl ?_;rw[jS];refine aa.nil ?_;refine AW.cond rfl (fun h=>?_) (fun h=>?_)
     · have h6:cI bs.length ds i=6:=by rw[hbd,hD.trans (dZ hki h)];rfl
       rw[show E=6 by rw[hbE (by omega),h6]];refine qX 2 rfl ?_;exact qN rfl
     · refine AW.skip ?_;refine qT 2 rfl ?_;rw[aq (x:=(k:Int)+1) (by omega) (by omega)];refine aa.nil ?_;exact⟨k+1,rfl,⟨hki,hD.trans (cY hki h)⟩,by omega⟩
   · have hki: ¬k<i:=by have:=of_decide_eq_false h;omega
     rw[hD.trans (ea hki),if_neg (by decide)] at hbd;refine AW.exit (AW.seq ?_);refine qX 5 rfl ?_;rw[List.length_map];refine aa.call tok rfl rfl rfl rfl (e7 d.body bs.length) ?_;refine qU 1 rfl ?_;refine aa.nil ?_;refine AW.cond rfl (fun h=>?_) (fun h=>?_)
     · rw[if_pos (iz h)] at hbd;rw[show E=9 by rw[hbE (by omega),hbd]];refine qX 2 rfl ?_;exact qN rfl
     have hinb:gn d.body bs.length=true:=by simpa using h
     rw[if_neg (by simp[hinb])] at hbd;refine AW.skip (AW.seq ?_);refine qX 3 rfl ?_;refine aa.nil ?_;refine AW.cond rfl (fun h=>?_) (fun h=>?_)
     · rw[if_pos (by simpa using h)] at hbd;rw[show E=7 by rw[hbE (by omega),hbd]];refine qX 2 rfl ?_;exact qN rfl
     rw[if_neg (by simpa using h)] at hbd;refine AW.skip ?_;refine qX 3 rfl ?_;refine aa.yN tok rfl rfl rfl rfl trivial (Int.natCast_nonneg i) (Nat.zero_le _) (by show i≤_;rw[List.length_map];omega) ?_;refine qU 2 rfl ?_;rw[qC (by rw[List.length_map];omega)];refine aa.nil ?_;refine AW.block ?_
     refine AW.aD [1,4,15,16,17,58,59,60] (fun k:Nat=>[(1,.bx [dS ln,ay bs,ak js,an ds]),(4,.bx [dS d.nm,dI d.body]),(15,.d (an ds)),(16,.d (dI ds.length)),(17,.d (dI i)),(58,.d (.sl 2 ((ds.map Driver.D).take i))),(59,.d (dI i)),(60,.d (dI k))])
      (fun k=>k≤i∧ya ds i=dD (fun k=>decide ((ds.getD k default).body=d.body)) (i-k) k) (fun k=>i-k) 0 rfl ⟨Nat.zero_le _,hdup2⟩ (fun k ⟨hk,hD⟩=>?_)
     refine qX 1 rfl ?_;refine qI ?_;refine AW.cond rfl (fun h=>?_) (fun h=>?_)
     · have hki:k<i:=by have:=of_decide_eq_true h;omega
       refine AW.skip (AW.seq (AW.block (AW.seq (AW.region ?_))));refine aa.idx tok (ds.getD k default).D rfl rfl rfl rfl (Int.natCast_nonneg k) (BF Driver.D (by omega) hki) ?_;refine qU 3 rfl ?_;refine qK 5 rfl ?_;refine aa.nil ?_;refine AW.cond rfl (fun h=>?_) (fun h=>?_)
       · have h':decide ((ds.getD k default).body=d.body)=true:=by simpa using h
         rw[hD.trans (dZ hki h')] at hbd;rw[show E=6 by rw[hbE (by rw[hbd];decide),hbd];rfl];refine qX 2 rfl ?_;exact qN rfl
       · have h':decide ((ds.getD k default).body=d.body)=false:=by simpa using h
         refine AW.skip ?_;refine qT 2 rfl ?_;rw[aq (x:=(k:Int)+1) (by omega) (by omega)];refine aa.nil ?_;exact⟨k+1,rfl,⟨hki,hD.trans (cY hki h')⟩,by omega⟩
     · have hki: ¬k<i:=by have:=of_decide_eq_false h;omega
       rw[hD.trans (ea hki),if_neg (by decide)] at hbd;refine AW.exit ?_;refine qT 2 rfl ?_;rw[aq (x:=(i:Int)+1) (by omega) (by omega)];refine aa.nil ?_;exact⟨i+1,rfl,⟨hin,hbM hbd⟩,by omega⟩
 · have hin: ¬i<ds.length:=by have:=of_decide_eq_false h;omega
   rw[hE,dk hin];refine AW.exit ?_;refine qX 1 rfl ?_;exact qN rfl
set_option maxHeartbeats 1600000 in
theorem kT(l:Lkg){K:Nat}(hl:l.ok K)(hK:K≤20000000):Pure Tryz.prog 31 [l.D] (sq (w7 l)):=by
 refine qJ 33 Tryz.func31 rfl rfl rfl rfl (by kernel_rfl) (fun B F0 w0=>?_);have c1:=pG l.bodies hl.nb hl.b (by omega);have c2:=pE l hl hK;have c3:=oq l hl
 have hcd:w7 l=if b3 l.nm=false then 5 else if l.bodies=[] then 10 else if 8<l.bodies.length then 4 else
  if bh l.bodies≠0 then bh l.bodies else if cG l.bodies l.joints≠0 then cG l.bodies l.joints else gr l.bodies.length l.drivers:=rfl
 generalize w7 l=E at *;obtain ⟨ln,bs,js,ds⟩:=l;have hnm:=hl.nm;have hnb:=hl.nb;simp only[] at hcd c1 c2 c3 hnm hnb ⊢;show AW _ _ _ _ _ _ _ (cW 0 [D.ag [dS ln,ay bs,ak js,an ds]]);unfold big at hnm hnb;refine qX 2 rfl ?_;refine qI ?_;refine qX 2 rfl ?_;refine aa.call tok rfl rfl rfl rfl (ey ln hnm) ?_;refine qU 1 rfl ?_;refine aa.nil ?_;refine AW.cond rfl (fun h=>?_) (fun h=>?_)
 · rw[if_pos (iz h)] at hcd;rw[hcd];refine qX 2 rfl ?_;exact qN rfl
 rw[if_neg (by simpa using h)] at hcd;refine AW.skip (AW.seq ?_);refine qX 4 rfl ?_;rw[List.length_map];refine aa.nil ?_;refine AW.cond rfl (fun h=>?_) (fun h=>?_)
 · have h0:bs=[]:=List.length_eq_zero_iff.1 (by have:(bs.length:Int)=0:=by simpa using h
                                                omega)
   rw[if_pos h0] at hcd;rw[hcd];refine qX 2 rfl ?_;exact qN rfl
 have h0:bs≠[]:=by rintro rfl;simp at h
 rw[if_neg h0] at hcd;refine AW.skip (AW.seq ?_);refine qX 4 rfl ?_;rw[List.length_map];refine aa.nil ?_;refine AW.cond rfl (fun h=>?_) (fun h=>?_)
 · have h8:8<bs.length:=by have:=of_decide_eq_true h;omega
   rw[if_pos h8] at hcd;rw[hcd];refine qX 2 rfl ?_;exact qN rfl
 have h8: ¬8<bs.length:=by have:=of_decide_eq_false h;omega
 rw[if_neg h8] at hcd;refine AW.skip ?_;cases he:bh bs with
 | succ m =>
   rw[he] at hcd c1;rw[show E=m+1 by rw[hcd,if_pos (by omega)]];refine AW.seq ?_;refine qX 2 rfl ?_;refine aa.call tok rfl rfl rfl rfl c1 ?_;refine qU 1 rfl ?_;refine qK 1 rfl ?_;refine aa.err tok rfl rfl rfl rfl rfl ?_;refine aa.nil ?_;refine AW.az rfl ?_;refine qX 2 rfl ?_;exact qN rfl
 | zero =>
   rw[he] at hcd c1;rw[if_neg (by omega)] at hcd;refine AW.seq ?_;refine qX 2 rfl ?_;refine aa.call tok rfl rfl rfl rfl c1 ?_;refine qU 1 rfl ?_;refine qK 1 rfl ?_;refine aa.err tok rfl rfl rfl rfl rfl ?_;refine aa.nil ?_;refine AW.ao rfl ?_;refine AW.skip ?_;cases he2:cG bs js with
   | succ m =>
     rw[he2] at hcd c2;rw[show E=m+1 by rw[hcd,if_pos (by omega)]];refine AW.seq ?_;refine qX 1 rfl ?_;refine aa.call tok rfl rfl rfl rfl c2 ?_;refine qU 1 rfl ?_;refine qK 1 rfl ?_;refine aa.err tok rfl rfl rfl rfl rfl ?_;refine aa.nil ?_;refine AW.az rfl ?_;refine qX 2 rfl ?_;exact qN rfl
   | zero =>
     rw[he2] at hcd c2;rw[if_neg (by omega)] at hcd;rw[hcd];refine AW.seq ?_;refine qX 1 rfl ?_;refine aa.call tok rfl rfl rfl rfl c2 ?_;refine qU 1 rfl ?_;refine qK 1 rfl ?_;refine aa.err tok rfl rfl rfl rfl rfl ?_;refine aa.nil ?_;refine AW.ao rfl ?_;refine AW.skip ?_;refine qX 1 rfl ?_;refine aa.call tok rfl rfl rfl rfl c3 ?_;refine qU 1 rfl ?_;exact qN rfl
end Lift
namespace Lift
open Go Go.Proofs
abbrev ratZ:D:= .ag [dB false,.sl 1 [],.sl 1 []]
end Lift
namespace Lift
open Go Go.Proofs
abbrev tQ(v:List NQ):D:= .pr [.sl 1 (v.map af),aj]
theorem ma{v:List NQ}{f:Nat}{a b r:NQ}(hP:Pure Tryz.prog f [bF v,af a,af b] (.tu [af r,aj])):Pure Tryz.prog 104 [tQ v,.fn f [] [],af a,af b] (af r):=by
 refine qJ 32 Tryz.func104 rfl rfl rfl rfl (by kernel_rfl) (fun B0 F0 w0=>?_);refine qX 1 rfl ?_;refine qI ?_;refine qX 1 rfl ?_;refine aa.wc tok rfl rfl rfl rfl rfl ?_;refine qU 2 rfl ?_;refine aa.err tok rfl rfl rfl rfl rfl ?_;refine aa.nil ?_;refine AW.ao rfl ?_
 · skip
   refine AW.skip ?_;refine qX 2 rfl ?_;refine aa.wc tok rfl rfl rfl rfl rfl ?_;refine qU 4 rfl ?_;refine aa.B9 tok rfl rfl rfl rfl hP ?_;refine qU 5 rfl ?_;refine qK 2 rfl ?_;refine aa.wc tok rfl rfl rfl rfl rfl ?_;refine aa.Ei tok rfl rfl rfl rfl rfl rfl rfl rfl rfl rfl rfl rfl rfl rfl rfl ?_;refine qK 2 rfl ?_;exact qN rfl
theorem kA{m:Nat}{v:List NQ}{a b:NQ}(V:lr m v)(ha:aB v.length a)(sa:aC m a)(hb:aB v.length b)(sb:aC m b):Pure Tryz.prog 103 [tQ v,af a,af b] (af (wV a b)):=by
 refine qJ 11 Tryz.func103 rfl rfl rfl rfl (by kernel_rfl) (fun B0 F0 w0=>?_);have c:=ma (lW V ha sa hb sb);refine qX 1 rfl ?_;refine qK 3 rfl ?_;refine aa.call tok rfl rfl rfl rfl c ?_;refine qU 1 rfl ?_;exact qN rfl
theorem gh{m:Nat}{v:List NQ}{a b:NQ}(V:lr m v)(ha:aB v.length a)(sa:aC m a)(hb:aB v.length b)(sb:aC m b):Pure Tryz.prog 57 [tQ v,af a,af b] (af (gx a b)):=by
 refine qJ 11 Tryz.func57 rfl rfl rfl rfl (by kernel_rfl) (fun B0 F0 w0=>?_);have c:=ma (su V ha sa hb sb);refine qX 1 rfl ?_;refine qK 3 rfl ?_;refine aa.call tok rfl rfl rfl rfl c ?_;refine qU 1 rfl ?_;exact qN rfl
theorem eU{m:Nat}{v:List NQ}{a b:NQ}(hsT:sT v.length m≤17300000000000)(V:lr m v)(ha:aB v.length a)(sa:aC m a)(hb:aB v.length b)(sb:aC m b):Pure Tryz.prog 58 [tQ v,af a,af b] (af (gU v a b)):=by
 refine qJ 11 Tryz.func58 rfl rfl rfl rfl (by kernel_rfl) (fun B0 F0 w0=>?_);have c:=ma (sv hsT V ha sa hb sb);refine qX 1 rfl ?_;refine qK 3 rfl ?_;refine aa.call tok rfl rfl rfl rfl c ?_;refine qU 1 rfl ?_;exact qN rfl
theorem AE{l:Nat}{a:NQ}(ha:aB l a):gx [] a=fm a:=vD ((bG l).plus ha.minus) ha.minus (funext fun i=>by
 rw[gf];show (0:Rat)+_=_
 rw[Rat.zero_add])
theorem eT{m:Nat}{v:List NQ}{a:NQ}(V:lr m v)(ha:aB v.length a)(sa:aC m a):Pure Tryz.prog 60 [tQ v,af a] (af (fm a)):=by
 refine qJ 8 Tryz.func60 rfl rfl rfl rfl (by kernel_rfl) (fun B0 F0 w0=>?_);have c:=gh V (bG _) (cE V.m1) ha sa;rw[AE ha] at c;refine qX 1 rfl ?_;refine qK 2 rfl ?_;refine aa.call tok rfl rfl rfl rfl c ?_;refine qU 1 rfl ?_;exact qN rfl
theorem C5{l m:Nat}(hl:l≤2)(hm:m≤30000):pb l m:=by
 have h2:pb 2 m:=by
  show sT 2 m≤17300000000000∧sT 1 (sT 2 m)≤17300000000000∧sT 1 (sT 2 m)≤17300000000000;have e1: ∀k,sT 1 k=6*k+1:=fun k=>by show 2*(2*k)+2*k+1=_;omega
  have e2:sT 2 m=42*m+9:=by
   show sT 1 (sT 1 m)+sT 1 m+1=_;rw[e1,e1];omega
  rw[e2,e1];omega
 exact xH h2 hl
theorem pW{l m:Nat}(hl:l≤2):sT l m≤42*m+9:=by
 have e1: ∀k,sT 1 k=6*k+1:=fun k=>by show 2*(2*k)+2*k+1=_;omega
 match l,hl with
 | 0,_=>show 2*m≤_;omega
 | 1,_=>rw[e1];omega
 | 2,_ =>
   show sT 1 (sT 1 m)+sT 1 m+1≤_;rw[e1,e1];omega
structure CB where
 c:NQ
 s:NQ
 x:NQ
 y:NQ
abbrev CB.D(b:CB):D:= .ag [af b.c,af b.s,af b.x,af b.y]
structure CB.ok (l k:Nat) (b:CB):Prop where
 c:aB l b.c∧aC k b.c
 s:aB l b.s∧aC k b.s
 x:aB l b.x∧aC k b.x
 y:aB l b.y∧aC k b.y
def FN(v:List NQ)(b:CB)(px py:NQ):NQ:=wV (gx (gU v b.c px) (gU v b.s py)) b.x
def FM(v:List NQ)(b:CB)(px py:NQ):NQ:=wV (wV (gU v b.s px) (gU v b.c py)) b.y
theorem D4{v:List NQ}{b:CB}{px py:NQ}(V:lr 16 v)(hl:v.length≤2)(hb:b.ok v.length 16)(hx:aB v.length px∧aC 16 px)(hy:aB v.length py∧aC 16 py):
  (aB v.length (FN v b px py)∧aC 1400 (FN v b px py))∧(aB v.length (FM v b px py)∧aC 1400 (FM v b px py)):=by
 have s1:=pW (m:=16) hl;have p1:=eJ V hb.c.1 hb.c.2 hx.1 hx.2;have p2:=eJ V hb.s.1 hb.s.2 hy.1 hy.2;have p3:=eJ V hb.s.1 hb.s.2 hx.1 hx.2;have p4:=eJ V hb.c.1 hb.c.2 hy.1 hy.2;have q1:=iN p1.1 p1.2 p2.1 p2.2;have q2:=qd p3.1 p3.2 p4.1 p4.2;have r1:=qd q1.1 q1.2 hb.x.1 hb.x.2;have r2:=qd q2.1 q2.2 hb.y.1 hb.y.2;exact⟨⟨r1.1,r1.2.mono (by omega)⟩,⟨r2.1,r2.2.mono (by omega)⟩⟩
set_option maxHeartbeats 800000 in
theorem xa{v:List NQ}{b:CB}{p:Mark}(V:lr 16 v)(hl:v.length≤2)(hb:b.ok v.length 16)(wx:p.x.w 16)(wy:p.y.w 16)(ox:p.x.okB=true)(oy:p.y.okB=true):
  Pure Tryz.prog 56 [tQ v,b.D,p.D] (.tu [af (FN v b (uF p.x.val) (uF p.y.val)),af (FM v b (uF p.x.val) (uF p.y.val))]):=by
 refine qJ 50 Tryz.func56 rfl rfl rfl rfl (by kernel_rfl) (fun B0 F0 w0=>?_);have c1:=gi p.x wx (by decide) (by decide) ox;have c2:=gi p.y wy (by decide) (by decide) oy;have hx:=mq v.length (bE wx (by decide));have hy:=mq v.length (bE wy (by decide));generalize uF p.x.val=px at *;generalize uF p.y.val=py at *;have s1:=pW (m:=16) hl;have V2:=V.mono (k:=1400) (by decide) (by decide);have m1:=eU (by omega) V hb.c.1 hb.c.2 hx.1 hx.2;have m2:=eU (by omega) V hb.s.1 hb.s.2 hy.1 hy.2;have m3:=eU (by omega) V hb.s.1 hb.s.2 hx.1 hx.2;have m4:=eU (by omega) V hb.c.1 hb.c.2 hy.1 hy.2;have p1:=eJ V hb.c.1 hb.c.2 hx.1 hx.2;have p2:=eJ V hb.s.1 hb.s.2 hy.1 hy.2;have p3:=eJ V hb.s.1 hb.s.2 hx.1 hx.2;have p4:=eJ V hb.c.1 hb.c.2 hy.1 hy.2;have q1:=iN p1.1 p1.2 p2.1 p2.2;have q2:=qd p3.1 p3.2 p4.1 p4.2;have n1:=gh V2 p1.1 (p1.2.mono (by omega)) p2.1 (p2.2.mono (by omega));have n2:=kA V2 p3.1 (p3.2.mono (by omega)) p4.1 (p4.2.mono (by omega));have o1:=kA V2 q1.1 (q1.2.mono (by omega)) hb.x.1 (hb.x.2.mono (by omega));have o2:=kA V2 q2.1 (q2.2.mono (by omega)) hb.y.1 (hb.y.2.mono (by omega));unfold FN FM;refine qX 4 rfl ?_;refine qI ?_;refine AW.draw aJ 6 (by kernel_rfl) ?_;refine qP 2 rfl ?_;refine ae.call tok rfl rfl rfl rfl rfl c1 ?_;refine qP 2 rfl ?_;refine ae.call tok rfl rfl rfl rfl rfl c2 ?_;refine ae.nil ?_;refine qU 2 rfl ?_;refine qI ?_;refine AW.draw aJ 16 (by kernel_rfl) ?_;refine qP 6 rfl ?_;refine ae.call tok rfl rfl rfl rfl rfl m1 ?_;refine qP 4 rfl ?_;refine ae.call tok rfl rfl rfl rfl rfl m2 ?_;refine ae.call tok rfl rfl rfl rfl rfl n1 ?_;refine qP 2 rfl ?_;refine ae.call tok rfl rfl rfl rfl rfl o1 ?_;refine ae.nil ?_;refine qU 1 rfl ?_;refine qI ?_;refine AW.draw aJ 16 (by kernel_rfl) ?_;refine qP 6 rfl ?_;refine ae.call tok rfl rfl rfl rfl rfl m3 ?_;refine qP 4 rfl ?_;refine ae.call tok rfl rfl rfl rfl rfl m4 ?_;refine ae.call tok rfl rfl rfl rfl rfl n2 ?_;refine qP 2 rfl ?_;refine ae.call tok rfl rfl rfl rfl rfl o2 ?_;refine ae.nil ?_;refine qU 1 rfl ?_;refine qK 4 rfl ?_;exact qN rfl
theorem j4:Pure Tryz.prog 61 [] (af [1]):=by
 refine qJ 3 Tryz.func61 rfl rfl rfl rfl (by kernel_rfl) (fun B0 F0 w0=>?_);have c1:=fu 1 (by decide) (by decide);have c2:=gi (Qr ((1:Int):Rat)) (k:=1) (fv _ (by have:=fy;rw[show ((1:Int):Rat)=1 from rfl];omega)) (by decide) (by decide) (wY _);rw[bV,show uF ((1:Int):Rat)=[1] from rfl] at c2;refine qX 1 rfl ?_;refine qI (AW.region ?_);refine aa.call tok rfl rfl rfl rfl c1 ?_;refine aa.call tok rfl rfl rfl rfl c2 ?_;refine qU 1 rfl ?_;exact qN rfl
end Lift
namespace Lift
open Go Go.Proofs
structure dH where
 c:List RD
 s:List RD
 x:List RD
 y:List RD
deriving Inhabited
abbrev dH.D(p:dH):D:= .ag [aY p.c,aY p.s,aY p.x,aY p.y]
structure Asm where
 rt:List (List RD)
 bodies:List dH
 modes:List Int
abbrev Asm.D(a:Asm):D:= .ag [.sl 1 (a.rt.map aY),.sl 4 (a.bodies.map dH.D),.sl 1 (a.modes.map (fun n=>dI n))]
structure dH.ok (m:Nat) (rt:List (List RD)) (p:dH):Prop where
 c:iI m rt p.c
 s:iI m rt p.s
 x:iI m rt p.x
 y:iI m rt p.y
structure Asm.ok (m:Nat) (a:Asm):Prop where
 t:mJ m a.rt
 b: ∀i,i<a.bodies.length→(a.bodies.getD i default).ok m a.rt
 l:a.bodies.length≤1000000
def zQ(rt:List (List RD))(p:dH)(k:Nat):Nat:=bp rt.length ([p.c,p.s,p.x,p.y].getD k [])
def tt(rt:List (List RD))(p:dH):Nat:=fE (zQ rt p) (4-0) 0
def fo(l:Lkg)(a:Asm):Nat:=if w7 l≠0 then w7 l else if ck a.rt≠0 then ck a.rt else if a.bodies.length≠l.bodies.length then 10 else fE (fun i=>tt a.rt (a.bodies.getD i default)) (a.bodies.length-0) 0
theorem D1{rt:List (List RD)}{a:List RD}(h:ck rt=0):iH rt [a]=bp rt.length a:=by
 unfold iH;rw[if_neg (by rw[h];simp)];show (if bp rt.length a=0 then 0 else bp rt.length a)=_;by_cases h0:bp rt.length a=0
 · rw[if_pos h0,h0]
 · rw[if_neg h0]
set_option maxHeartbeats 1600000 in
theorem uT(l:Lkg)(a:Asm){K m:Nat}(hl:l.ok K)(hK:K≤20000000)(hb:l.bodies.length≤1000000000000)(ha:a.ok m):Pure Tryz.prog 55 [l.D,a.D] (sq (fo l a)):=by
 refine qJ 65 Tryz.func55 rfl rfl rfl rfl (by kernel_rfl) (fun B0 F0 w0=>?_);have cM:=kT l hl hK;obtain ⟨m0,t1,t2,tw,tk⟩:=ha.t.t;have cT:=iq a.rt tw t1 ha.t.l ha.t.ll tk;have hal:=ha.l;unfold fo;obtain ⟨E,hE⟩: ∃E,fE (fun i=>tt a.rt (a.bodies.getD i default)) (a.bodies.length-0) 0=E:=⟨_,rfl⟩;rw[hE];refine qX 3 rfl ?_;refine qI ?_;refine qX 1 rfl ?_;refine aa.call tok rfl rfl rfl rfl cM ?_;refine qU 1 rfl ?_;refine aa.nil ?_;rcases e1:w7 l with _ | z
 rotate_left
 · rw[if_pos (Nat.succ_ne_zero z)];refine qX 1 rfl ?_;refine aa.err tok rfl rfl rfl rfl rfl ?_;refine aa.nil ?_;refine AW.az rfl ?_;refine qX 2 rfl ?_;exact qN rfl
 rw[if_neg (by simp)];refine qX 1 rfl ?_;refine aa.err tok rfl rfl rfl rfl rfl ?_;refine aa.nil ?_;refine AW.ao rfl ?_;refine AW.skip (AW.seq ?_);refine qX 2 rfl ?_;refine aa.call tok rfl rfl rfl rfl cT ?_;refine qU 1 rfl ?_;refine aa.nil ?_;rcases e2:ck a.rt with _ | z
 rotate_left
 · rw[if_pos (Nat.succ_ne_zero z)];refine qX 1 rfl ?_;refine aa.err tok rfl rfl rfl rfl rfl ?_;refine aa.nil ?_;refine AW.az rfl ?_;refine qX 2 rfl ?_;exact qN rfl
 rw[if_neg (by simp)];refine qX 1 rfl ?_;refine aa.err tok rfl rfl rfl rfl rfl ?_;refine aa.nil ?_;refine AW.ao rfl ?_;refine AW.skip (AW.seq ?_);refine qX 6 rfl ?_;rw[List.length_map,List.length_map];refine qU 1 rfl ?_;refine aa.nil ?_;by_cases hbl:a.bodies.length=l.bodies.length;rotate_left
 · rw[if_pos hbl,bne_iff_ne.2 (show (a.bodies.length:Int)≠(l.bodies.length:Int) by omega)];refine AW.az rfl ?_;refine qX 2 rfl ?_;exact qN rfl
 rw[if_neg (fun h=>h hbl),bne_eq_false_iff_eq.2 (show (a.bodies.length:Int)=(l.bodies.length:Int) by omega)];refine AW.ao rfl ?_;refine AW.skip ?_;obtain ⟨rt,bs,md⟩:=a;simp only[] at *;refine AW.seq ?_;refine qX 3 rfl ?_;rw[List.length_map];refine qU 1 rfl ?_;refine aa.nil ?_;refine AW.block ?_;refine AW.aD [3,33,34,35] (fun i:Nat=>[(3,.bx [.sl 1 (rt.map aY),.sl 4 (bs.map dH.D),.sl 1 (md.map (fun n=>dI n))]),(33,.d (.sl 4 (bs.map dH.D))),(34,.d (dI bs.length)),(35,.d (dI i))]) (fun i=>i≤bs.length∧fE (fun i=>tt rt (bs.getD i default)) (bs.length-i) i=E) (fun i=>bs.length-i) 0 rfl ⟨Nat.zero_le _,hE⟩ (fun i ⟨hi,hiE⟩=>?_);refine qX 1 rfl ?_;refine qI ?_;refine AW.cond rfl (fun h=>?_) (fun h=>?_);rotate_left
 · have hii: ¬i<bs.length:=by have:=of_decide_eq_false h;omega
   rw[dk hii] at hiE;subst hiE;refine AW.exit ?_;refine qX 1 rfl ?_;exact qN rfl
 have hii:i<bs.length:=by have:=of_decide_eq_true h;omega
 have hg:(bs.map dH.D)[i]?=some (bs.getD i default).D:=by simp[hii]
 have hmiss:=fun h0:tt rt (bs.getD i default)=0=>(bU (f:=fun i=>tt rt (bs.getD i default)) hii h0).symm.trans hiE;have hhit:=fun h0:tt rt (bs.getD i default)≠0=>(dh (f:=fun i=>tt rt (bs.getD i default)) hii h0).symm.trans hiE;have hp:=ha.b i hii;generalize bs.getD i default=p at hg hmiss hhit hp;obtain ⟨P,hP⟩: ∃P,tt rt p=P:=⟨_,rfl⟩;rw[hP] at hmiss hhit;unfold tt at hP;obtain ⟨pc,ps,px,py⟩:=p;refine AW.skip (AW.seq (AW.block (AW.seq (AW.region ?_))));refine aa.idx tok (dH.mk pc ps px py).D rfl rfl rfl rfl (Int.natCast_nonneg i) hg ?_;refine qU 3 rfl ?_;refine qK 8 rfl ?_;refine aa.mF tok rfl rfl rfl rfl rfl ?_;refine qU 2 rfl ?_;refine aa.nil ?_;refine AW.block ?_;refine AW.aD [3,33,34,35,47,48,49] (fun k:Nat=>[(3,.bx [.sl 1 (rt.map aY),.sl 4 (bs.map dH.D),.sl 1 (md.map (fun n=>dI n))]),(33,.d (.sl 4 (bs.map dH.D))),(34,.d (dI bs.length)),(35,.d (dI i)),(47,.d (.sl 1 [aY pc,aY ps,aY px,aY py])),(48,.d (dI 4)),(49,.d (dI k))]) (fun k=>k≤4∧fE (zQ rt ⟨pc,ps,px,py⟩) (4-k) k=P) (fun k=>4-k) 0 rfl ⟨Nat.zero_le _,hP⟩ (fun k ⟨hk,hkP⟩=>?_);refine qX 1 rfl ?_;refine qI ?_;refine AW.cond rfl (fun h=>?_) (fun h=>?_);rotate_left
 · have hkk: ¬k<4:=by have:=of_decide_eq_false h;omega
   rw[dk hkk] at hkP;refine AW.exit ?_;refine qT 1 rfl ?_;rw[aq (x:=(i:Int)+1) (by omega) (by omega)];refine qU 1 rfl ?_;refine aa.nil ?_;exact⟨i+1,rfl,⟨hii,hmiss hkP.symm⟩,by omega⟩
 have hkk:k<4:=by have:=of_decide_eq_true h;omega
 have km:=fun h0:zQ rt ⟨pc,ps,px,py⟩ k=0=>(bU (f:=zQ rt ⟨pc,ps,px,py⟩) hkk h0).symm.trans hkP;have kh:=fun h0:zQ rt ⟨pc,ps,px,py⟩ k≠0=>(dh (f:=zQ rt ⟨pc,ps,px,py⟩) hkk h0).symm.trans hkP
 obtain ⟨q,hq,hqg,hqn⟩: ∃q,[aY pc,aY ps,aY px,aY py][k]?=some (aY q)∧zQ rt ⟨pc,ps,px,py⟩ k=bp rt.length q∧iI m rt q:=by
  match k,hkk with
  | 0,_=>exact⟨pc,rfl,rfl,hp.c⟩
  | 1,_=>exact⟨ps,rfl,rfl,hp.s⟩
  | 2,_=>exact⟨px,rfl,rfl,hp.x⟩
  | 3,_=>exact⟨py,rfl,rfl,hp.y⟩
 rw[hqg] at km kh;have cN:=tW ha.t hqn;unfold Ew at cN;rw[D1 e2] at cN;refine AW.skip (AW.seq (AW.block (AW.seq (AW.region ?_))));refine aa.idx tok (aY q) rfl rfl rfl rfl (Int.natCast_nonneg k) hq ?_;refine qU 2 rfl ?_;refine qK 3 rfl ?_;rcases e3:bp rt.length q with _ | z
 rotate_left
 · rw[e3] at kh;rw[e3,if_pos (Nat.succ_ne_zero z)] at cN;have h1:=kh (Nat.succ_ne_zero z);have h2:=hhit (by rw[← h1];exact Nat.succ_ne_zero z);rw[← h1] at h2;subst h2;refine aa.call tok rfl rfl rfl rfl cN ?_;refine qU 5 rfl ?_;refine qK 1 rfl ?_;refine aa.err tok rfl rfl rfl rfl rfl ?_;refine aa.nil ?_;refine AW.az rfl ?_;refine qX 2 rfl ?_;exact qN rfl
 rw[e3] at km;rw[e3,if_neg (by simp)] at cN;refine aa.call tok rfl rfl rfl rfl cN ?_;refine qU 5 rfl ?_;refine qK 1 rfl ?_;refine aa.err tok rfl rfl rfl rfl rfl ?_;refine aa.nil ?_;refine AW.ao rfl ?_;refine AW.skip ?_;refine qT 1 rfl ?_;rw[aq (x:=(k:Int)+1) (by omega) (by omega)];refine qU 1 rfl ?_;refine aa.nil ?_;exact⟨k+1,rfl,⟨hkk,km rfl⟩,by omega⟩
def xU(js:List bu):Nat→Int
 | 0=>0
 | i+1=>xU js i+if (js.getD i default).kind=0 then 2 else 1
theorem BD(js:List bu): ∀i,0≤xU js i∧xU js i≤2*i
 | 0=>by exact⟨Int.le_refl _,Int.le_refl _⟩
 | i+1=>by
   have:=BD js i;show 0≤xU js i+(if _ then _ else _)∧xU js i+(if _ then _ else _)≤_;split<;>omega
def EH(l:Lkg):Int:=3*((l.bodies.length:Int) -1) -xU l.joints l.joints.length
def EI(l:Lkg):D:=if w7 l≠0 then .tu [dI 0,sq (w7 l)] else .tu [dI (EH l),aj]
theorem pH(l:Lkg){K:Nat}(hl:l.ok K)(hK:K≤20000000):Pure Tryz.prog 13 [l.D] (EI l):=by
 refine qJ 34 Tryz.func13 rfl rfl rfl rfl (by kernel_rfl) (fun B0 F0 w0=>?_);have cM:=kT l hl hK;have nb:=hl.nb;have nj:=hl.nj;unfold big at nb nj;unfold EI EH;refine qX 3 rfl ?_;refine qI ?_;refine qX 1 rfl ?_;refine aa.call tok rfl rfl rfl rfl cM ?_;refine qU 1 rfl ?_;refine aa.nil ?_;rcases e1:w7 l with _ | z
 rotate_left
 · rw[if_pos (Nat.succ_ne_zero z)];refine qX 1 rfl ?_;refine aa.err tok rfl rfl rfl rfl rfl ?_;refine aa.nil ?_;refine AW.az rfl ?_;refine qX 3 rfl ?_;exact qN rfl
 rw[if_neg (by simp)];refine qX 1 rfl ?_;refine aa.err tok rfl rfl rfl rfl rfl ?_;refine aa.nil ?_;refine AW.ao rfl ?_;refine AW.skip ?_;clear cM e1 hl;obtain ⟨ln,bs,js,ds⟩:=l;simp only[] at nb nj ⊢;refine qX 3 rfl ?_;rw[List.length_map];refine qU 1 rfl ?_;rw[aq (x:=(bs.length:Int) -1) (by omega) (by omega)];refine qU 1 rfl ?_;rw[aq (x:=3*((bs.length:Int) -1)) (by omega) (by omega)];refine qU 1 rfl ?_;refine qI ?_;refine qX 3 rfl ?_;rw[List.length_map];refine qU 1 rfl ?_;refine aa.nil ?_;refine AW.block ?_;refine AW.aD [5,19,20,21] (fun i:Nat=>[(5,.d (dI (3*((bs.length:Int) -1) -xU js i))),(19,.d (ak js)),(20,.d (dI js.length)),(21,.d (dI i))]) (fun i=>i≤js.length) (fun i=>js.length-i) 0 (by show _=([(5,.d (dI (3*((bs.length:Int) -1) -0))),(19,.d (ak js)),(20,.d (dI js.length)),(21,.d (dI (0:Nat)))]:St);rw[Int.sub_zero];rfl) (Nat.zero_le _) (fun i hi=>?_);refine qX 1 rfl ?_;refine qI ?_;refine AW.cond rfl (fun h=>?_) (fun h=>?_);rotate_left
 · have hii:i=js.length:=by have:=of_decide_eq_false h;have:i≤js.length:=hi;omega
   subst hii;refine AW.exit ?_;refine qX 3 rfl ?_;exact qN rfl
 have hii:i<js.length:=by have:=of_decide_eq_true h;omega
 have hg:(js.map bu.D)[i]?=some (js.getD i default).D:=by simp[hii]
 have hgc:xU js (i+1)=xU js i+if (js.getD i default).kind=0 then 2 else 1:=rfl
 have gb:=BD js i;generalize js.getD i default=j at hg hgc;obtain ⟨nm,kd,a,pt,b,on,to⟩:=j;simp only[] at hgc;refine AW.skip (AW.seq (AW.block (AW.seq (AW.region ?_))));refine aa.idx tok (bu.mk nm kd a pt b on to).D rfl rfl rfl rfl (Int.natCast_nonneg i) hg ?_;refine qU 3 rfl ?_;refine qK 3 rfl ?_;refine aa.nil ?_;by_cases hkd:kd=0
 · rw[if_pos hkd] at hgc;rw[beq_iff_eq.2 hkd];refine AW.az rfl ?_;refine qT 2 rfl ?_;rw[aq (x:=3*((bs.length:Int) -1) -xU js i-2) (by omega) (by omega),show 3*((bs.length:Int) -1) -xU js i-2=3*((bs.length:Int) -1) -xU js (i+1) by omega];refine qU 1 rfl ?_;refine aa.nil ?_;refine qT 1 rfl ?_;rw[aq (x:=(i:Int)+1) (by omega) (by omega)];refine qU 1 rfl ?_;refine aa.nil ?_;exact⟨i+1,rfl,hii,by omega⟩
 · rw[if_neg hkd] at hgc;rw[beq_eq_false_iff_ne.2 hkd];refine AW.ao rfl ?_;refine qT 2 rfl ?_;rw[aq (x:=3*((bs.length:Int) -1) -xU js i-1) (by omega) (by omega),show 3*((bs.length:Int) -1) -xU js i-1=3*((bs.length:Int) -1) -xU js (i+1) by omega];refine qU 1 rfl ?_;refine aa.nil ?_;refine qT 1 rfl ?_;rw[aq (x:=(i:Int)+1) (by omega) (by omega)];refine qU 1 rfl ?_;refine aa.nil ?_;exact⟨i+1,rfl,hii,by omega⟩
end Lift
namespace Lift
open Go Go.Proofs
section
open Go.RowKit (Below)
variable {P:Program} {T:Ty} {B:Nat} {F0:Nat→Prop} {w0:bS} {n:Nat} {σ:St} {all:Array Oper} {rest:List Oper} {o:Oper} {d:Nat} {K:St→Prop}
theorem aa.FJ(hT:a7 P T){h e lo m:Nat}{av:AV}{l ys:List D}{row:AV}(hd:o.dst=some d)(hdn:Nat.ble (d+1) n=true)(hg:aA all σ o=true)(hx:Ga T σ o.op=some (h,av,e,l,lo,m,ys))(hm:0<m)(hy:ys≠[])
  (he:av.bT (l.take lo++ys.take (min ys.length m)++l.drop (lo+min ys.length m))=row)
  (hk:aa P B F0 w0 n all rest K ((d,.d (.v (.int .i64 ((min ys.length m:Nat):Int))))::(h,row)::σ)):aa P B F0 w0 n all (o::rest) K σ :=
 aa.copy hT hd hdn hg hx hm hy (by rw[he];exact hk)
end
abbrev zD(l:List NQ):List D:=l.map af
def fC(r:List NQ)(b:Int)(x y w:NQ):List NQ:=if 0<b then r.take (3*(b.toNat-1))++[x,y,w]++r.drop (3*(b.toNat-1)+3) else r
theorem kP{r:List NQ}{b:Int}(x y w:NQ)(h:0<b→3*b.toNat≤r.length):(fC r b x y w).length=r.length:=by
 unfold fC;split
 · rename_i h0;have:=h h0;rw[List.length_append,List.length_append,List.length_take,List.length_drop];show min _ _+3+_=_;omega
 · rfl
def yX(V:Value)(r:List NQ)(b:Int)(x y w:NQ)(res:D)(R':List LR):Prop:=res= .tu []∧R'=[(V,AV.ow 52 (zD (fC r b x y w)))]
theorem fR(V:Value)(r:List NQ)(b:Int)(x y w:NQ)(h1:0<b→3*b.toNat≤r.length)(hb:b≤1000000)(hb0: -1000000≤b):jN Tryz.prog 59 [.v V,dI b,af x,af y,af w] [(V,AV.ow 52 (zD r))] (yX V r b x y w):=by
 refine jN.intro (n:=22) tok Tryz.func59 rfl rfl rfl (Nat.le_of_ble_eq_true rfl) (by kernel_rfl) (fun B0 F0 w0=>?_);unfold yX;refine AZ.seq ?_;refine AZ.gv (fun B1 F1 w1=>?_);refine qU 2 rfl ?_;by_cases h0:0<b;rotate_left
 · rw[decide_eq_false h0];refine aa.nil ⟨rfl,?_⟩;refine AZ.ao rfl ?_;refine AZ.skip ?_;exact⟨.tu [],rfl,rfl,by unfold fC;rw[if_neg h0]⟩
 rw[decide_eq_true h0];refine aa.nil ⟨rfl,?_⟩;have h1:=h1 h0;have hlo:3*(b-1)=((3*(b.toNat-1):Nat):Int):=by omega
 refine AZ.az rfl ?_;refine AZ.region ?_;refine ai.cut 4 rfl (fun B1 F1 w1=>?_);refine qU 3 rfl ?_;rw[aq (x:=b-1) (by omega) (by omega)];refine qU 1 rfl ?_;rw[aq (x:=3*(b-1)) (by omega) (by omega),hlo];refine aa.nil ⟨rfl,?_⟩;refine ai.dy 12 0 rfl rfl rfl ?_;refine ai.cut 6 rfl (fun B1 F1 w1=>?_);refine aa.E7 tok rfl rfl rfl rfl (Int.natCast_nonneg _) trivial (by show 3*(b.toNat-1)≤(zD r).length;rw[List.length_map];omega) (Nat.le_refl _) ?_;refine qU 3 rfl ?_;refine aa.mF tok rfl rfl rfl rfl rfl ?_;refine aa.FJ tok (row:= .ow 52 (zD (fC r b x y w))) rfl rfl rfl rfl (by show 0<(zD r).length-3*(b.toNat-1);rw[List.length_map];omega) (by simp) ?_ ?_
 · have e3:min [af x,af y,af w].length ((zD r).length-3*(b.toNat-1))=3:=by
    rw[List.length_map];show min 3 _=3;omega
   show AV.ow _ ((zD r).take (0+3*(b.toNat-1))++[af x,af y,af w].take (min [af x,af y,af w].length ((zD r).length-3*(b.toNat-1)))++(zD r).drop (0+3*(b.toNat-1)+min [af x,af y,af w].length ((zD r).length-3*(b.toNat-1))))=_;rw[e3,Nat.zero_add];unfold fC;rw[if_pos h0];show AV.ow _ ((r.map af).take _++[x,y,w].map af++(r.map af).drop _)=AV.ow _ ((_++[x,y,w]++_).map af);rw[List.map_append,List.map_append,List.map_take,List.map_drop]
 refine aa.nil ⟨rfl,?_⟩;refine ai.back 12 0 rfl rfl rfl (List.Mem.head _) rfl ?_;refine ai.nil ?_;exact⟨.tu [],rfl,rfl,rfl⟩
end Lift
namespace Lift
open Go Go.Proofs
theorem z9{f:Nat→Nat}: ∀{m i:Nat},fE f m i=0→ ∀k,i≤k→k<i+m→f k=0
 | 0,i,_,k,h1,h2=>by omega
 | m+1,i,h,k,h1,h2=>by
   rw[fE] at h;split at h
   · rename_i h0;rcases Nat.eq_or_lt_of_le h1 with e | e
     · subst e;exact h0
     · exact z9 h k (by omega) (by omega)
   · rename_i h0;exact absurd h h0
structure GD (bs:List Body) (j:bu):Prop where
 k:j.kind=0∨j.kind=1
 a:0≤j.a∧j.a<bs.length
 b:0≤j.b∧j.b<bs.length
 ab:j.a≠j.b
 pt:0≤j.pt∧j.pt<(bs.getD j.a.toNat default).pts.length
 on:0≤j.on∧j.on<(bs.getD j.b.toNat default).pts.length
 to:j.kind≠0→0≤j.to∧j.to<(bs.getD j.b.toNat default).pts.length
structure LkG (l:Lkg):Prop where
 b1:0<l.bodies.length
 b8:l.bodies.length≤8
 j16:l.joints.length≤16
 p: ∀i,i<l.bodies.length→ ∀k,k<(l.bodies.getD i default).pts.length→((l.bodies.getD i default).pts.getD k default).x.okB=true∧((l.bodies.getD i default).pts.getD k default).y.okB=true
 j: ∀i,i<l.joints.length→GD l.bodies (l.joints.getD i default)
theorem wC{i:Int}{n:Nat}(h:gn i n=true):0≤i∧i<n:=of_decide_eq_true h
theorem D5{a b:Bool}(h: ¬(a&&b)=false):a=true∧b=true:=by cases a<;>cases b<;>simp_all
theorem Fv{l:Lkg}(h:w7 l=0):LkG l:=by
 unfold w7 at h;split at h
 · cases h
 split at h
 · cases h
 rename_i h2;split at h
 · cases h
 rename_i h3;split at h
 · rename_i h4;exact absurd h h4
 rename_i h4;split at h
 · rename_i h5;exact absurd h h5
 rename_i h5;have h4:bh l.bodies=0:=Decidable.not_not.1 h4;have h5:cG l.bodies l.joints=0:=Decidable.not_not.1 h5;unfold bh at h4;unfold cG at h5;split at h5
 · cases h5
 rename_i h6;refine⟨List.length_pos_iff.2 h2,by omega,by omega,fun i hi k hk=>?_,fun i hi=>?_⟩
 · have:=z9 h4 i (Nat.zero_le _) (by omega);unfold et at this;split at this
   · cases this
   split at this
   · cases this
   unfold n9 at this;split at this
   · cases this
   have:=z9 this k (Nat.zero_le _) (by omega);unfold pZ at this;split at this
   · cases this
   split at this
   · cases this
   split at this
   · assumption
   · cases this
 · have:=z9 h5 i (Nat.zero_le _) (by omega);unfold de at this;split at this
   · cases this
   split at this
   · cases this
   generalize l.joints.getD i default=j at this;unfold jE at this;split at this
   · cases this
   rename_i g1;split at this
   · cases this
   rename_i g2;split at this
   · cases this
   rename_i g3;split at this
   · cases this
   rename_i g4;obtain ⟨a1,a2⟩:=D5 g2;obtain ⟨a3,a4⟩:=D5 g4
   have hk:j.kind=0∨j.kind=1:=by
    by_cases e:j.kind=0
    · exact .inl e
    · by_cases e2:j.kind=1
      · exact .inr e2
      · exact absurd ⟨e,e2⟩ g1
   refine⟨hk,wC a1,wC a2,g3,wC a3,wC a4,fun hne=>?_⟩;rw[if_neg hne] at this;split at this
   · cases this
   rename_i g5
   have:gn j.to (l.bodies.getD j.b.toNat default).pts.length=true:=by
    cases hv:gn j.to (l.bodies.getD j.b.toNat default).pts.length
    · exact absurd hv g5
    · rfl
   exact wC this
def yY(p:dH):CB:=⟨ar p.c,ar p.s,ar p.x,ar p.y⟩
instance:Inhabited CB:=⟨⟨[],[],[],[]⟩⟩
structure FU (l:Lkg) (a:Asm):Prop where
 lk:LkG l
 tw:ck a.rt=0
 ln:a.bodies.length=l.bodies.length
 pl: ∀i,i<a.bodies.length→tt a.rt (a.bodies.getD i default)=0
theorem uw{l:Lkg}{a:Asm}(h:fo l a=0):FU l a:=by
 unfold fo at h;split at h
 · rename_i h0;exact absurd h h0
 rename_i h0;split at h
 · rename_i h1;exact absurd h h1
 rename_i h1;split at h
 · cases h
 rename_i h2;exact⟨Fv (Decidable.not_not.1 h0),Decidable.not_not.1 h1,Decidable.not_not.1 h2,fun i hi=>z9 h i (Nat.zero_le _) (by omega)⟩
theorem Be{m:Nat}{rt:List (List RD)}{p:dH}(m1:1≤m)(hp:p.ok m rt)(h:tt rt p=0):(yY p).ok rt.length m∧p.D=(yY p).D:=by
 have g:=fun k (hk:k<4)=>z9 (f:=zQ rt p) (m:=4) (i:=0) h k (Nat.zero_le _) (by omega);have c:=gD m1 hp.c (g 0 (by decide));have s:=gD m1 hp.s (g 1 (by decide));have x:=gD m1 hp.x (g 2 (by decide));have y:=gD m1 hp.y (g 3 (by decide));refine⟨⟨⟨c.1,c.2.1⟩,⟨s.1,s.2.1⟩,⟨x.1,x.2.1⟩,⟨y.1,y.2.1⟩⟩,?_⟩;show D.ag [aY p.c,aY p.s,aY p.x,aY p.y]=_;rw[c.2.2,s.2.2,x.2.2,y.2.2];rfl
def w4(v:List NQ)(l:Lkg)(a:Asm)(b p:Int):NQ:=FN v (yY (a.bodies.getD b.toNat default)) (uF ((l.bodies.getD b.toNat default).pts.getD p.toNat default).x.val) (uF ((l.bodies.getD b.toNat default).pts.getD p.toNat default).y.val)
def w3(v:List NQ)(l:Lkg)(a:Asm)(b p:Int):NQ:=FM v (yY (a.bodies.getD b.toNat default)) (uF ((l.bodies.getD b.toNat default).pts.getD p.toNat default).x.val) (uF ((l.bodies.getD b.toNat default).pts.getD p.toNat default).y.val)
def mg(n:Nat):List NQ:=List.replicate (3*(n-1)) []
def Em(v:List NQ)(r:List NQ)(a b:Int)(px py qx qy rx ry:NQ):List NQ :=
 fC (fC r a (gx qy ry) (gx rx qx) (gx (gU v (gx rx qx) px) (gU v (gx qy ry) py))) b (fm (gx qy ry)) (fm (gx rx qx)) (fm (gx (gU v (gx rx qx) px) (gU v (gx qy ry) py)))
def Ev(r:List NQ)(a b:Int)(py qy:NQ):List NQ:=fC (fC r a [1] [] (fm py)) b (fm [1]) [] qy
def Eu(r:List NQ)(a b:Int)(px qx:NQ):List NQ:=fC (fC r a [] [1] px) b [] (fm [1]) (fm qx)
def zW(v:List NQ)(l:Lkg)(a:Asm)(j:bu):List (List NQ) :=
 if j.kind=1 then [Em v (mg l.bodies.length) j.a j.b (w4 v l a j.a j.pt) (w3 v l a j.a j.pt) (w4 v l a j.b j.on) (w3 v l a j.b j.on) (w4 v l a j.b j.to) (w3 v l a j.b j.to)]
 else [Ev (mg l.bodies.length) j.a j.b (w3 v l a j.a j.pt) (w3 v l a j.b j.on),Eu (mg l.bodies.length) j.a j.b (w4 v l a j.a j.pt) (w4 v l a j.b j.on)]
def xO(j:bu):Nat:=if j.kind=1 then 1 else 2
theorem uW(v:List NQ)(l:Lkg)(a:Asm)(j:bu):(zW v l a j).length=xO j:=by
 unfold zW xO;split<;>rfl
def gJ(v:List NQ)(l:Lkg)(a:Asm):Nat→List (List NQ)
 | 0=>[]
 | i+1=>gJ v l a i++zW v l a (l.joints.getD i default)
def DN(js:List bu):Nat→List Int
 | 0=>[]
 | i+1=>DN js i++List.replicate (xO (js.getD i default)) (i:Int)
theorem lC(v:List NQ)(l:Lkg)(a:Asm): ∀i,(gJ v l a i).length≤2*i
 | 0=>Nat.zero_le _
 | i+1=>by
   have h1:=lC v l a i;have h2:=uW v l a (l.joints.getD i default);have h3:xO (l.joints.getD i default)≤2:=by unfold xO;split<;>omega
   show (gJ v l a i++_).length≤_;rw[List.length_append,h2];omega
theorem y4(js:List bu): ∀i,(DN js i).length≤2*i
 | 0=>Nat.zero_le _
 | i+1=>by
   have h1:=y4 js i;have h3:xO (js.getD i default)≤2:=by unfold xO;split<;>omega
   show (DN js i++_).length≤_;rw[List.length_append,List.length_replicate];omega
abbrev oP(r:List NQ):D:= .sl 1 (zD r)
abbrev FR(m:List (List NQ)):D:= .sl 1 (m.map oP)
def yT(l:Lkg)(a:Asm):D:=if fo l a≠0 then .tu [.sl 1 [],.sl 1 [],sq (fo l a)] else .tu [FR (gJ (a.rt.map ar) l a l.joints.length),.sl 1 ((DN l.joints l.joints.length).map (fun n=>dI n)),aj]
theorem qF(n:Nat):(mg n).length=3*(n-1):=List.length_replicate
end Lift
namespace Lift
open Go Go.Proofs
section
open Go.RowKit (Below)
variable {P:Program} {T:Ty} {B:Nat} {F0:Nat→Prop} {w0:bS} {n:Nat} {σ:St} {all:Array Oper} {rest:List Oper} {o:Oper} {d:Nat} {K:St→Prop}
theorem aa.Bs(hT:a7 P T)(r:List NQ){z e:Nat}{te:TI}{m:Int}(hd:o.dst=some d)(hdn:Nat.ble (d+1) n=true)(hg:aA all σ o=true)(hx:E8 T σ.get o.op=some (e,te,m))(hz:jP te=true)(hzd:qk te= .sl 3 [])(hb:te.bytes=24)(hm:m=(z:Int))(h1:z≤1000000)(hr:r=List.replicate z [])
  (h:aa P B F0 w0 n all rest K ((d,.ow e (zD r))::σ.kill d)):aa P B F0 w0 n all (o::rest) K σ:=by
 subst hm;subst hr;refine aa.make hT hd hdn hg hx hz (by omega) (by rw[hb];omega) (by omega) ?_;rw[hzd,show List.replicate ((z:Int)).toNat (D.sl 3 [])=zD (List.replicate z []) by unfold zD;rw[List.map_replicate];rfl];exact h
end
set_option maxHeartbeats 6400000 in
theorem pf(l:Lkg)(a:Asm)(hl:l.ok 16)(ha:a.ok 16)(h2:a.rt.length≤2)(hnb:l.bodies.length≤1000000000000):Pure Tryz.prog 32 [l.D,a.D] (yT l a):=by
 refine qJ 211 Tryz.func32 rfl rfl rfl rfl (by kernel_rfl) (fun B0 F0 w0=>?_);have cC:=uT l a hl (by decide) hnb ha;unfold yT;refine qX 5 rfl ?_;refine qI ?_;refine qX 2 rfl ?_;refine aa.call tok rfl rfl rfl rfl cC ?_;refine qU 1 rfl ?_;refine aa.nil ?_;rcases e1:fo l a with _ | z
 rotate_left
 · rw[if_pos (Nat.succ_ne_zero z)];refine qX 1 rfl ?_;refine aa.err tok rfl rfl rfl rfl rfl ?_;refine aa.nil ?_;refine AW.az rfl ?_;refine qX 4 rfl ?_;exact qN rfl
 rw[if_neg (by simp)];refine qX 1 rfl ?_;refine aa.err tok rfl rfl rfl rfl rfl ?_;refine aa.nil ?_;refine AW.ao rfl ?_;refine AW.skip ?_;have G:=uw e1;have V:=lr.of ha.t G.tw;have W:=mT ha.t G.tw;have hvl:(a.rt.map ar).length≤2:=by rw[List.length_map];exact h2
 have hrt:a.rt.map aY=(a.rt.map ar).map af:=by
  have:=W.eq;simpa using this
 have gP: ∀b:Int,0≤b→b<l.bodies.length→(a.bodies.map dH.D)[b.toNat]?=some (yY (a.bodies.getD b.toNat default)).D∧(yY (a.bodies.getD b.toNat default)).ok (a.rt.map ar).length 16:=fun b b0 b1=>by
  have hln:=G.ln;have hb:b.toNat<a.bodies.length:=by omega
  have h3:=Be (by decide) (ha.b _ hb) (G.pl _ hb);rw[List.length_map,← h3.2];exact⟨by simp[hb],h3.1⟩
 have gB: ∀b:Int,0≤b→b<l.bodies.length→(l.bodies.map Body.D)[b.toNat]?=some (l.bodies.getD b.toNat default).D:=fun b b0 b1=>by
  exact getM Body.D (by omega)
 have gM: ∀(b p:Int),0≤p→p<(l.bodies.getD b.toNat default).pts.length→((l.bodies.getD b.toNat default).pts.map Mark.D)[p.toNat]?=some ((l.bodies.getD b.toNat default).pts.getD p.toNat default).D:=fun b p p0 p1=>by
  exact getM Mark.D (by omega)
 have cAt: ∀(b p:Int),0≤b→b<l.bodies.length→0≤p→p<(l.bodies.getD b.toNat default).pts.length→Pure Tryz.prog 56 [tQ (a.rt.map ar),(yY (a.bodies.getD b.toNat default)).D,((l.bodies.getD b.toNat default).pts.getD p.toNat default).D] (.tu [af (w4 (a.rt.map ar) l a b p),af (w3 (a.rt.map ar) l a b p)]):=fun b p b0 b1 p0 p1=>by
  have hm:=(hl.b b.toNat).2.2 p.toNat;have ho:=G.lk.p b.toNat (by omega) p.toNat (by omega);exact xa V hvl (gP b b0 b1).2 hm.2.1 hm.2.2 ho.1 ho.2
 have sAt: ∀(b p:Int),0≤b→b<l.bodies.length→0≤p→p<(l.bodies.getD b.toNat default).pts.length→(aB (a.rt.map ar).length (w4 (a.rt.map ar) l a b p)∧aC 1400 (w4 (a.rt.map ar) l a b p))∧(aB (a.rt.map ar).length (w3 (a.rt.map ar) l a b p)∧aC 1400 (w3 (a.rt.map ar) l a b p)):=fun b p b0 b1 p0 p1=>by
  have hm:=(hl.b b.toNat).2.2 p.toNat;exact D4 V hvl (gP b b0 b1).2 (mq _ (bE hm.2.1 (by decide))) (mq _ (bE hm.2.2 (by decide)))
 have hRs: ∀i,gJ (a.rt.map ar) l a (i+1)=gJ (a.rt.map ar) l a i++zW (a.rt.map ar) l a (l.joints.getD i default):=fun i=>rfl;have hR0:gJ (a.rt.map ar) l a 0=[]:=rfl;have hRl:=lC (a.rt.map ar) l a;have hJ: ∀j,zW (a.rt.map ar) l a j=if j.kind=1 then [Em (a.rt.map ar) (mg l.bodies.length) j.a j.b (w4 (a.rt.map ar) l a j.a j.pt) (w3 (a.rt.map ar) l a j.a j.pt) (w4 (a.rt.map ar) l a j.b j.on) (w3 (a.rt.map ar) l a j.b j.on) (w4 (a.rt.map ar) l a j.b j.to) (w3 (a.rt.map ar) l a j.b j.to)] else [Ev (mg l.bodies.length) j.a j.b (w3 (a.rt.map ar) l a j.a j.pt) (w3 (a.rt.map ar) l a j.b j.on),Eu (mg l.bodies.length) j.a j.b (w4 (a.rt.map ar) l a j.a j.pt) (w4 (a.rt.map ar) l a j.b j.on)]:=fun j=>rfl
 generalize gJ (a.rt.map ar) l a=R at hRs hR0 hRl ⊢;generalize w4 (a.rt.map ar) l a=X at cAt sAt hJ;generalize w3 (a.rt.map ar) l a=Y at cAt sAt hJ;generalize zW (a.rt.map ar) l a=J at hRs hJ;have hOs: ∀i,DN l.joints (i+1)=DN l.joints i++List.replicate (xO (l.joints.getD i default)) (i:Int):=fun i=>rfl;have hO0:DN l.joints 0=[]:=rfl;have hOl:=y4 l.joints;generalize DN l.joints=O at hOs hO0 hOl ⊢;have LG:=G.lk;clear e1 G W cC ha;obtain ⟨ln,lb,js,lds⟩:=l;obtain ⟨rt,bs,md⟩:=a;have lb1:=LG.b1;have lb8:=LG.b8;have lj:=LG.j16;have lJ:=LG.j;clear LG;simp only[] at *
 have hD:(Asm.mk rt bs md).D=D.ag [.sl 1 ((rt.map ar).map af),.sl 4 (bs.map dH.D),.sl 1 (md.map (fun n=>dI n))]:=by
  show D.ag [.sl 1 (rt.map aY),_,_]=_;rw[hrt]
 rw[hD];clear hrt hD;generalize rt.map ar=v at *;refine qX 4 rfl ?_;refine aa.Gp 34 rfl ?_;refine qU 1 rfl ?_;refine qK 1 rfl ?_;refine qK 1 rfl ?_;refine qI ?_;refine qX 3 rfl ?_;rw[List.length_map];refine qU 1 rfl ?_;refine aa.nil ?_;refine AW.block ?_;refine AW.aD [2,3,8,9,10,36,37,38] (fun i:Nat=>[(2,.bx [dS ln,ay lb,ak js,an lds]),(3,.bx [.sl 1 (v.map af),.sl 4 (bs.map dH.D),.sl 1 (md.map (fun n=>dI n))]),(8,.d (tQ v)),(9,.ow 27 ((R i).map oP)),(10,.ow 3 ((O i).map (fun n=>dI n))),(36,.d (ak js)),(37,.d (dI js.length)),(38,.d (dI i))]) (fun i=>i≤js.length) (fun i=>js.length-i) 0 (by show _=([(2,.bx [dS ln,ay lb,ak js,an lds]),(3,.bx [.sl 1 (v.map af),.sl 4 (bs.map dH.D),.sl 1 (md.map (fun n=>dI n))]),(8,.d (tQ v)),(9,.ow 27 ((R 0).map oP)),(10,.ow 3 ((O 0).map (fun n=>dI n))),(36,.d (ak js)),(37,.d (dI js.length)),(38,.d (dI (0:Nat)))]:St);rw[hR0,hO0];rfl) (Nat.zero_le _) (fun i hi=>?_);refine qX 1 rfl ?_;refine qI ?_;refine AW.cond rfl (fun h=>?_) (fun h=>?_);rotate_left
 · have hii:i=js.length:=by have:=of_decide_eq_false h;have:i≤js.length:=hi;omega
   subst hii;refine AW.exit (AW.seq ?_);refine AW.gL tok 9 rfl rfl ?_;refine AW.gL tok 10 rfl rfl ?_;refine AW.draw aJ 8 (by kernel_rfl) ?_;refine qP 3 rfl ?_;refine ae.wc tok rfl rfl rfl rfl rfl ?_;refine qP 4 rfl ?_;refine ae.nil ?_;refine qU 1 rfl ?_;exact qN rfl
 have hii:i<js.length:=by have:=of_decide_eq_true h;omega
 have hg:(js.map bu.D)[i]?=some (js.getD i default).D:=by simp[hii]
 have jg:=lJ i hii;have hRi:=hRs i;have hOi:=hOs i;have hRl:=hRl i;have hOl:=hOl i;rw[hJ] at hRi;generalize js.getD i default=j at hg jg hRi hOi;obtain ⟨nm,kd,ja,jp,jb,jo,jt⟩:=j;obtain ⟨jk,⟨a0,a1⟩,⟨b0,b1⟩,ab,⟨p0,p1⟩,⟨o0,o1⟩,jto⟩:=jg;simp only[] at *;have gPa:=(gP ja a0 a1).1;have gPb:=(gP jb b0 b1).1;have gBa:=gB ja a0 a1;have gBb:=gB jb b0 b1;have gMp:=gM ja jp p0 p1;have gMo:=gM jb jo o0 o1;have cA:=cAt ja jp a0 a1 p0 p1;have cB:=cAt jb jo b0 b1 o0 o1;obtain ⟨⟨sx1,sx2⟩,⟨sy1,sy2⟩⟩:=sAt ja jp a0 a1 p0 p1;obtain ⟨⟨tx1,tx2⟩,⟨ty1,ty2⟩⟩:=sAt jb jo b0 b1 o0 o1;refine AW.skip (AW.seq (AW.block ?_));refine qX 1 rfl ?_;refine aa.idx tok (bu.mk nm kd ja jp jb jo jt).D rfl rfl rfl rfl (Int.natCast_nonneg i) hg ?_;refine qU 4 rfl ?_;refine qK 4 rfl ?_;refine aa.idx tok (lb.getD jb.toNat default).D rfl rfl rfl rfl b0 gBb ?_;refine qU 3 rfl ?_;refine qI ?_;refine AW.draw aJ 23 (by kernel_rfl) ?_;refine qP 5 rfl ?_;refine ae.idx tok (yY (bs.getD ja.toNat default)).D rfl rfl rfl rfl rfl a0 gPa ?_;refine qP 5 rfl ?_;refine ae.idx tok (lb.getD ja.toNat default).D rfl rfl rfl rfl rfl a0 gBa ?_;refine qP 4 rfl ?_;refine ae.idx tok ((lb.getD ja.toNat default).pts.getD jp.toNat default).D rfl rfl rfl rfl rfl p0 gMp ?_;refine qP 1 rfl ?_;refine ae.call tok rfl rfl rfl rfl rfl cA ?_;refine qP 4 rfl ?_;refine ae.nil ?_;refine qU 1 rfl ?_;refine qI ?_;refine AW.draw aJ 17 (by kernel_rfl) ?_;refine qP 5 rfl ?_;refine ae.idx tok (yY (bs.getD jb.toNat default)).D rfl rfl rfl rfl rfl b0 gPb ?_;refine qP 4 rfl ?_;refine ae.idx tok ((lb.getD jb.toNat default).pts.getD jo.toNat default).D rfl rfl rfl rfl rfl o0 gMo ?_;refine qP 1 rfl ?_;refine ae.call tok rfl rfl rfl rfl rfl cB ?_;refine qP 4 rfl ?_;refine ae.nil ?_;refine qU 1 rfl ?_;refine qK 3 rfl ?_;rw[List.length_map];refine qU 1 rfl ?_;rw[aq (x:=(lb.length:Int) -1) (by omega) (by omega)];refine qU 1 rfl ?_;rw[aq (x:=3*((lb.length:Int) -1)) (by omega) (by omega)];refine aa.Bs tok (mg lb.length) (z:=3*(lb.length-1)) rfl rfl rfl rfl rfl rfl rfl (by omega) (by omega) rfl ?_;refine qU 1 rfl ?_;refine aa.nil ?_;have hzl:=qF lb.length;have hzr:mg lb.length=List.replicate (3*(lb.length-1)) []:=rfl;generalize mg lb.length=Z at hRi hzl hzr ⊢;refine AW.seq ?_;refine qX 3 rfl ?_;refine aa.nil ?_;have ga:0<ja→3*ja.toNat≤Z.length:=fun h=>by rw[hzl];omega
 have gb:0<jb→3*jb.toNat≤Z.length:=fun h=>by rw[hzl];omega
 have V2:=V.mono (k:=1400) (by decide) (by decide);have V3:=V.mono (k:=2801) (by decide) (by decide);have V4:=V.mono (k:=120000) (by decide) (by decide);have V5:=V.mono (k:=240000) (by decide) (by decide);have sT3:=pW (m:=2801) hvl;by_cases hk1:kd=1
 · rw[if_pos hk1] at hRi;rw[beq_iff_eq.2 hk1];rw[show xO (bu.mk nm kd ja jp jb jo jt)=1 by unfold xO;rw[if_pos hk1]] at hOi;obtain ⟨r0,r1⟩:=jto (by omega);have gMt:=gM jb jt r0 r1;have cT:=cAt jb jt b0 b1 r0 r1;obtain ⟨⟨ux1,ux2⟩,⟨uy1,uy2⟩⟩:=sAt jb jt b0 b1 r0 r1;generalize X ja jp=px at *;generalize Y ja jp=py at *;generalize X jb jo=qx at *;generalize Y jb jo=qy at *;generalize X jb jt=rx at *;generalize Y jb jt=ry at *;have n1:=gh V2 ty1 ty2 uy1 uy2;have n2:=gh V2 ux1 ux2 tx1 tx2;have m1:=iN ty1 ty2 uy1 uy2;have m2:=iN ux1 ux2 tx1 tx2;unfold Em at hRi;generalize gx qy ry=nx at *;generalize gx rx qx=ny at *;have n3:=eU (by omega) V3 m2.1 (m2.2.mono (by decide)) sx1 (sx2.mono (by decide));have n4:=eU (by omega) V3 m1.1 (m1.2.mono (by decide)) sy1 (sy2.mono (by decide));have m3:=eJ V3 m2.1 (m2.2.mono (by decide)) sx1 (sx2.mono (by decide));have m4:=eJ V3 m1.1 (m1.2.mono (by decide)) sy1 (sy2.mono (by decide));generalize gU v ny px=e1 at *;generalize gU v nx py=e2 at *;have n5:=gh V4 m3.1 (m3.2.mono (by omega)) m4.1 (m4.2.mono (by omega));have m5:=iN m3.1 m3.2 m4.1 m4.2;generalize gx e1 e2=mm at *;have n6:=eT V5 m1.1 (m1.2.mono (by decide));have n7:=eT V5 m2.1 (m2.2.mono (by decide));have n8:=eT V5 m5.1 (m5.2.mono (by omega));generalize fm nx=nx' at *;generalize fm ny=ny' at *;generalize fm mm=mm' at *;have u1:=fun V=>fR V Z ja nx ny mm ga (by omega) (by omega);have u2:=fun V=>fR V (fC Z ja nx ny mm) jb nx' ny' mm' (by rw[kP _ _ _ ga];exact gb) (by omega) (by omega);refine AW.az rfl ?_;refine AW.seq ?_;refine AW.draw aJ 17 (by kernel_rfl) ?_;refine qP 5 rfl ?_;refine ae.idx tok (yY (bs.getD jb.toNat default)).D rfl rfl rfl rfl rfl b0 gPb ?_;refine qP 4 rfl ?_;refine ae.idx tok ((lb.getD jb.toNat default).pts.getD jt.toNat default).D rfl rfl rfl rfl rfl r0 gMt ?_;refine qP 1 rfl ?_;refine ae.call tok rfl rfl rfl rfl rfl cT ?_;refine qP 4 rfl ?_;refine ae.nil ?_;refine qU 1 rfl ?_;refine qK 3 rfl ?_;refine aa.call tok rfl rfl rfl rfl n1 ?_;refine qU 3 rfl ?_;refine aa.call tok rfl rfl rfl rfl n2 ?_;refine qU 2 rfl ?_;refine qK 4 rfl ?_;refine aa.call tok rfl rfl rfl rfl n3 ?_;refine qU 3 rfl ?_;refine aa.call tok rfl rfl rfl rfl n4 ?_;refine aa.call tok rfl rfl rfl rfl n5 ?_;refine qU 1 rfl ?_;refine aa.nil ?_;refine AZ.aw ?_;refine AZ.fT 18 rfl rfl rfl (fun V1=>?_);refine AZ.to [2,3,8,9,10,36,37,38,11,12,18,21,22,23] ([(2,.bx [dS ln,ay lb,ak js,an lds]),(3,.bx [.sl 1 (v.map af),.sl 4 (bs.map dH.D),.sl 1 (md.map (fun n=>dI n))]),(8,.d (tQ v)),(9,.ow 27 ((R i).map oP)),(10,.ow 3 ((O i).map (fun n=>dI n))),(36,.d (ak js)),(37,.d (dI js.length)),(38,.d (dI i)),(11,.d (dI i)),(12,.bx [dS nm,dI kd,dI ja,dI jp,dI jb,dI jo,dI jt]),(18,.d (.v V1)),(21,.d (af nx)),(22,.d (af ny)),(23,.d (af mm))]:St) rfl ?_;refine AZ.seq ?_;refine AZ.region ?_;refine ai.cut 6 rfl (fun B1 F1 w1=>?_);refine qU 6 rfl ?_;refine aa.nil ⟨rfl,?_⟩;refine ai.gu tok [0] rfl rfl rfl rfl rfl (by simp) rfl (u1 V1) (fun res R1 hP=>by rw[hP.2];exact Nat.le_refl _) (fun res R1 hP=>?_);obtain ⟨rfl,rfl⟩:=hP;refine ai.nil ?_;refine AZ.to [2,3,8,9,10,36,37,38,11,12,18,21,22,23] ([(2,.bx [dS ln,ay lb,ak js,an lds]),(3,.bx [.sl 1 (v.map af),.sl 4 (bs.map dH.D),.sl 1 (md.map (fun n=>dI n))]),(8,.d (tQ v)),(9,.ow 27 ((R i).map oP)),(10,.ow 3 ((O i).map (fun n=>dI n))),(36,.d (ak js)),(37,.d (dI js.length)),(38,.d (dI i)),(11,.d (dI i)),(12,.bx [dS nm,dI kd,dI ja,dI jp,dI jb,dI jo,dI jt]),(18,.d (.v V1)),(21,.d (af nx)),(22,.d (af ny)),(23,.d (af mm))]:St) rfl ?_;refine AZ.seq ?_;refine AZ.any aJ (mH.draw 12 (by kernel_rfl) (fun B1 F1 w1=>?_));refine qP 5 rfl ?_;refine ae.call tok rfl rfl rfl rfl rfl n6 ?_;refine qP 2 rfl ?_;refine ae.call tok rfl rfl rfl rfl rfl n7 ?_;refine qP 2 rfl ?_;refine ae.call tok rfl rfl rfl rfl rfl n8 ?_;refine ae.nil ⟨rfl,?_⟩;refine ai.gu tok [0] rfl rfl rfl rfl rfl (by simp) rfl (u2 V1) (fun res R1 hP=>by rw[hP.2];exact Nat.le_refl _) (fun res R1 hP=>?_);obtain ⟨rfl,rfl⟩:=hP;refine ai.nil ?_;refine AZ.to [2,3,8,9,10,36,37,38,11,12,18,21,22,23] ([(2,.bx [dS ln,ay lb,ak js,an lds]),(3,.bx [.sl 1 (v.map af),.sl 4 (bs.map dH.D),.sl 1 (md.map (fun n=>dI n))]),(8,.d (tQ v)),(9,.ow 27 ((R i).map oP)),(10,.ow 3 ((O i).map (fun n=>dI n))),(36,.d (ak js)),(37,.d (dI js.length)),(38,.d (dI i)),(11,.d (dI i)),(12,.bx [dS nm,dI kd,dI ja,dI jp,dI jb,dI jo,dI jt]),(18,.d (.v V1)),(21,.d (af nx)),(22,.d (af ny)),(23,.d (af mm))]:St) rfl ?_;refine AZ.seq ?_;refine AZ.dy 18 0 rfl rfl rfl ?_;refine AZ.gv (fun B1 F1 w1=>?_);refine aa.gL tok 18 rfl rfl ?_;refine qU 2 rfl ?_;refine aa.bs tok rfl rfl rfl rfl ?_;refine aa.lR tok rfl rfl rfl rfl rfl rfl (by rw[List.length_map];show (_+1)*24≤_;omega) (by rw[List.length_map];show _+1≤_;omega) ?_;refine qU 2 rfl ?_;refine aa.bs tok rfl rfl rfl rfl ?_;refine aa.lR tok rfl rfl rfl rfl rfl rfl (by rw[List.length_map];show (_+1)*8≤_;omega) (by rw[List.length_map];show _+1≤_;omega) ?_;refine qU 2 rfl ?_;refine aa.nil ⟨rfl,?_⟩;refine AZ.exit ?_;refine qT 1 rfl ?_;rw[aq (x:=(i:Int)+1) (by omega) (by omega)];refine qU 1 rfl ?_;refine aa.nil ?_;exact⟨i+1,by show _=([(2,.bx [dS ln,ay lb,ak js,an lds]),(3,.bx [.sl 1 (v.map af),.sl 4 (bs.map dH.D),.sl 1 (md.map (fun n=>dI n))]),(8,.d (tQ v)),(9,.ow 27 ((R (i+1)).map oP)),(10,.ow 3 ((O (i+1)).map (fun n=>dI n))),(36,.d (ak js)),(37,.d (dI js.length)),(38,.d (dI (i+1:Nat)))]:St);rw[hRi,hOi,List.map_append,List.map_append];rfl,hii,by omega⟩
 rw[if_neg hk1] at hRi;rw[beq_eq_false_iff_ne.2 hk1];rw[show xO (bu.mk nm kd ja jp jb jo jt)=2 by unfold xO;rw[if_neg hk1]] at hOi;generalize X ja jp=px at *;generalize Y ja jp=py at *;generalize X jb jo=qx at *;generalize Y jb jo=qy at *;have o1:=mq v.length (q:=1) (k:=1) (by have:=fy;omega);have n6:=eT V2 sy1 sy2;have n7:=eT V2 tx1 tx2;have n8:Pure Tryz.prog 60 [tQ v,af [1]] (af (fm [1])):=eT V2 (dG _ _) (eB (by have:=fy;omega));unfold Ev Eu at hRi;generalize fm py=py' at *;generalize fm qx=qx' at *;generalize fm [1]=on' at *;have u1:=fun V=>fR V Z ja [1] [] py' ga (by omega) (by omega);have u2:=fun V=>fR V (fC Z ja [1] [] py') jb on' [] qy (by rw[kP _ _ _ ga];exact gb) (by omega) (by omega);have u3:=fun V=>fR V Z ja [] [1] px ga (by omega) (by omega);have u4:=fun V=>fR V (fC Z ja [] [1] px) jb [] on' qx' (by rw[kP _ _ _ ga];exact gb) (by omega) (by omega);refine AW.ao rfl ?_;refine AW.skip ?_;refine qX 2 rfl ?_;rw[List.length_map,hzl];refine aa.Bs tok Z (z:=3*(lb.length-1)) rfl rfl rfl rfl rfl rfl rfl rfl (by omega) hzr ?_;refine qU 1 rfl ?_;refine aa.nil ?_;refine AZ.aw ?_;refine AZ.fT 18 rfl rfl rfl (fun V1=>?_);refine AZ.fT 24 rfl rfl rfl (fun V2=>?_);refine AZ.to [2,3,8,9,10,36,37,38,11,12,14,15,16,17,18,24] ([(2,.bx [dS ln,ay lb,ak js,an lds]),(3,.bx [.sl 1 (v.map af),.sl 4 (bs.map dH.D),.sl 1 (md.map (fun n=>dI n))]),(8,.d (tQ v)),(9,.ow 27 ((R i).map oP)),(10,.ow 3 ((O i).map (fun n=>dI n))),(36,.d (ak js)),(37,.d (dI js.length)),(38,.d (dI i)),(11,.d (dI i)),(12,.bx [dS nm,dI kd,dI ja,dI jp,dI jb,dI jo,dI jt]),(14,.d (af px)),(15,.d (af py)),(16,.d (af qx)),(17,.d (af qy)),(18,.d (.v V1)),(24,.d (.v V2))]:St) rfl ?_;refine AZ.seq ?_;refine AZ.any aJ (mH.draw 7 (by kernel_rfl) (fun B1 F1 w1=>?_));refine qP 3 rfl ?_;refine ae.call tok rfl rfl rfl rfl rfl j4 ?_;refine qP 2 rfl ?_;refine ae.call tok rfl rfl rfl rfl rfl n6 ?_;refine ae.nil ⟨rfl,?_⟩;refine ai.gu tok [0] rfl rfl rfl rfl rfl (by simp) rfl (u1 V1) (fun res R1 hP=>by rw[hP.2];exact Nat.le_refl _) (fun res R1 hP=>?_);obtain ⟨rfl,rfl⟩:=hP;refine ai.nil ?_;refine AZ.to [2,3,8,9,10,36,37,38,11,12,14,15,16,17,18,24] ([(2,.bx [dS ln,ay lb,ak js,an lds]),(3,.bx [.sl 1 (v.map af),.sl 4 (bs.map dH.D),.sl 1 (md.map (fun n=>dI n))]),(8,.d (tQ v)),(9,.ow 27 ((R i).map oP)),(10,.ow 3 ((O i).map (fun n=>dI n))),(36,.d (ak js)),(37,.d (dI js.length)),(38,.d (dI i)),(11,.d (dI i)),(12,.bx [dS nm,dI kd,dI ja,dI jp,dI jb,dI jo,dI jt]),(14,.d (af px)),(15,.d (af py)),(16,.d (af qx)),(17,.d (af qy)),(18,.d (.v V1)),(24,.d (.v V2))]:St) rfl ?_;refine AZ.seq ?_;refine AZ.any aJ (mH.draw 7 (by kernel_rfl) (fun B1 F1 w1=>?_));refine qP 4 rfl ?_;refine ae.call tok rfl rfl rfl rfl rfl j4 ?_;refine ae.call tok rfl rfl rfl rfl rfl n8 ?_;refine qP 1 rfl ?_;refine ae.nil ⟨rfl,?_⟩;refine ai.gu tok [0] rfl rfl rfl rfl rfl (by simp) rfl (u2 V1) (fun res R1 hP=>by rw[hP.2];exact Nat.le_refl _) (fun res R1 hP=>?_);obtain ⟨rfl,rfl⟩:=hP;refine ai.nil ?_;refine AZ.to [2,3,8,9,10,36,37,38,11,12,14,15,16,17,18,24] ([(2,.bx [dS ln,ay lb,ak js,an lds]),(3,.bx [.sl 1 (v.map af),.sl 4 (bs.map dH.D),.sl 1 (md.map (fun n=>dI n))]),(8,.d (tQ v)),(9,.ow 27 ((R i).map oP)),(10,.ow 3 ((O i).map (fun n=>dI n))),(36,.d (ak js)),(37,.d (dI js.length)),(38,.d (dI i)),(11,.d (dI i)),(12,.bx [dS nm,dI kd,dI ja,dI jp,dI jb,dI jo,dI jt]),(14,.d (af px)),(15,.d (af py)),(16,.d (af qx)),(17,.d (af qy)),(18,.d (.v V1)),(24,.d (.v V2))]:St) rfl ?_;refine AZ.seq ?_;refine AZ.any aJ (mH.draw 5 (by kernel_rfl) (fun B1 F1 w1=>?_));refine qP 3 rfl ?_;refine ae.call tok rfl rfl rfl rfl rfl j4 ?_;refine qP 1 rfl ?_;refine ae.nil ⟨rfl,?_⟩;refine ai.gu tok [1] rfl rfl rfl rfl rfl (by simp) rfl (u3 V2) (fun res R1 hP=>by rw[hP.2];exact Nat.le_refl _) (fun res R1 hP=>?_);obtain ⟨rfl,rfl⟩:=hP;refine ai.nil ?_;refine AZ.to [2,3,8,9,10,36,37,38,11,12,14,15,16,17,18,24] ([(2,.bx [dS ln,ay lb,ak js,an lds]),(3,.bx [.sl 1 (v.map af),.sl 4 (bs.map dH.D),.sl 1 (md.map (fun n=>dI n))]),(8,.d (tQ v)),(9,.ow 27 ((R i).map oP)),(10,.ow 3 ((O i).map (fun n=>dI n))),(36,.d (ak js)),(37,.d (dI js.length)),(38,.d (dI i)),(11,.d (dI i)),(12,.bx [dS nm,dI kd,dI ja,dI jp,dI jb,dI jo,dI jt]),(14,.d (af px)),(15,.d (af py)),(16,.d (af qx)),(17,.d (af qy)),(18,.d (.v V1)),(24,.d (.v V2))]:St) rfl ?_;refine AZ.seq ?_;refine AZ.any aJ (mH.draw 9 (by kernel_rfl) (fun B1 F1 w1=>?_));refine qP 4 rfl ?_;refine ae.call tok rfl rfl rfl rfl rfl j4 ?_;refine ae.call tok rfl rfl rfl rfl rfl n8 ?_;refine qP 2 rfl ?_;refine ae.call tok rfl rfl rfl rfl rfl n7 ?_;refine ae.nil ⟨rfl,?_⟩;refine ai.gu tok [1] rfl rfl rfl rfl rfl (by simp) rfl (u4 V2) (fun res R1 hP=>by rw[hP.2];exact Nat.le_refl _) (fun res R1 hP=>?_);obtain ⟨rfl,rfl⟩:=hP;refine ai.nil ?_;refine AZ.to [2,3,8,9,10,36,37,38,11,12,14,15,16,17,18,24] ([(2,.bx [dS ln,ay lb,ak js,an lds]),(3,.bx [.sl 1 (v.map af),.sl 4 (bs.map dH.D),.sl 1 (md.map (fun n=>dI n))]),(8,.d (tQ v)),(9,.ow 27 ((R i).map oP)),(10,.ow 3 ((O i).map (fun n=>dI n))),(36,.d (ak js)),(37,.d (dI js.length)),(38,.d (dI i)),(11,.d (dI i)),(12,.bx [dS nm,dI kd,dI ja,dI jp,dI jb,dI jo,dI jt]),(14,.d (af px)),(15,.d (af py)),(16,.d (af qx)),(17,.d (af qy)),(18,.d (.v V1)),(24,.d (.v V2))]:St) rfl ?_;refine AZ.dy 18 0 rfl rfl rfl ?_;refine AZ.dy 24 1 rfl rfl rfl ?_;refine AZ.gv (fun B1 F1 w1=>?_);refine aa.gL tok 18 rfl rfl ?_;refine aa.gL tok 24 rfl rfl ?_;refine qU 3 rfl ?_;refine aa.bs tok rfl rfl rfl rfl ?_;refine aa.lR tok rfl rfl rfl rfl rfl rfl (by rw[List.length_map];show (_+2)*24≤_;omega) (by rw[List.length_map];show _+2≤_;omega) ?_;refine qU 3 rfl ?_;refine aa.bs tok rfl rfl rfl rfl ?_;refine aa.lR tok rfl rfl rfl rfl rfl rfl (by rw[List.length_map];show (_+2)*8≤_;omega) (by rw[List.length_map];show _+2≤_;omega) ?_;refine qU 2 rfl ?_;refine aa.nil ⟨rfl,?_⟩;refine qT 1 rfl ?_;rw[aq (x:=(i:Int)+1) (by omega) (by omega)];refine qU 1 rfl ?_;refine aa.nil ?_;exact⟨i+1,by show _=([(2,.bx [dS ln,ay lb,ak js,an lds]),(3,.bx [.sl 1 (v.map af),.sl 4 (bs.map dH.D),.sl 1 (md.map (fun n=>dI n))]),(8,.d (tQ v)),(9,.ow 27 ((R (i+1)).map oP)),(10,.ow 3 ((O (i+1)).map (fun n=>dI n))),(36,.d (ak js)),(37,.d (dI js.length)),(38,.d (dI (i+1:Nat)))]:St);rw[hRi,hOi,List.map_append,List.map_append];rfl,hii,by omega⟩
end Lift
namespace Lift
open Go Go.Proofs
def uX(R:NQ→NQ)(S:NQ→Int)(N:NQ→NQ)(T:NQ→NQ→NQ)(s:NQ):NQ :=
 if s.length=1 then [1 / s.getD 0 0] else
 if S (N s)=0 then R (bj (s.take (s.length / 2)) (s.take (s.length / 2))) else
 T (fI (s.take (s.length / 2)) (bc (s.drop (s.length / 2))) (s.length / 2)) (R (N s))
def sN:Nat→List NQ→NQ→NQ
 | 0,rt,a=>uX (fun _=>[]) (fun _=>0) (fun a=>a) (fun _ _=>[]) (aF a)
 | l+1,rt,a=>uX (sN l rt) (ep l rt) (gK l rt) (a6 (l+1) rt) (aF a)
def Fo(O:NQ→Prop)(R:NQ→NQ)(S:NQ→Int)(Sk:NQ→Prop)(N:NQ→NQ)(Nk:NQ→Prop)(Tk:NQ→NQ→Prop)(s:NQ):Prop:=s.length≠0∧(s.length≠1 →
 Nk s∧Sk (N s)∧(S (N s)=0→O (bj (s.take (s.length / 2)) (s.take (s.length / 2)))) ∧
 (S (N s)≠0→O (N s)∧Tk (fI (s.take (s.length / 2)) (bc (s.drop (s.length / 2))) (s.length / 2)) (R (N s))))
def F5:Nat→List NQ→NQ→Prop
 | 0,rt,a=>mc a∧(aF a).length≠0
 | l+1,rt,a=>mc a∧Fo (F5 l rt) (sN l rt) (ep l rt) (Bk l rt) (gK l rt) (Ey l rt) (yZ (l+1) rt) (aF a)
theorem zM{l:Nat}{a:NQ}(ha:aB l a)(h:(aF a).length=1):(aF a).getD 0 0≠0:=(kF ha).one h
theorem zg{l:Nat}{R:NQ→NQ}{S:NQ→Int}{N:NQ→NQ}{T:NQ→NQ→NQ}{s:NQ}(hs:aB l s)(h0:s.length≠0)
  (hR: ∀l',l=l'+1→ ∀b,aB l' b→aB l' (R b)) (hN: ∀l',l=l'+1→ ∀j,j≤l'→s.length=2^(j+1)→aB l' (N s)) (hT: ∀b c,aB l b→aB l c→aB l (T b c)):aB l (uX R S N T s):=by
 unfold uX;split
 · exact dG _ _
 rename_i h1
 obtain ⟨i,hi,hla2⟩: ∃i,i≤l∧s.length=2^i:=by
  rcases hs with e | e
  · omega
  · exact e
 have w6:i≠0:=fun e=>h1 (by rw[hla2,e]);obtain ⟨j,rfl⟩: ∃j,i=j+1:=⟨i-1,by omega⟩;obtain ⟨l',rfl⟩: ∃l',l=l'+1:=⟨l-1,by omega⟩;obtain ⟨e1,e2,e3⟩:=bz hla2;have hx:aB l' (s.take (s.length / 2)):= .inr ⟨j,by omega,e1⟩;have hN:=hN l' rfl j (by omega) hla2;split
 · exact(hR l' rfl _ (hx.plus hx)).mono (by omega)
 · exact hT _ _ (.inr ⟨j+1,by omega,by rw[ib,e3,Nat.pow_succ];omega⟩) ((hR l' rfl _ hN).mono (by omega))
theorem oD: ∀(l:Nat) {rt:List NQ} {a:NQ},aB l a→cZ rt→l≤rt.length→aB l (sN l rt a)
 | 0,rt,a,ha,hrt,hl=>by
   have hs:=bQ ha;show aB 0 (uX _ _ _ _ _);by_cases h0:(aF a).length=0
   · rw[List.length_eq_zero_iff.1 h0];exact bG _
   · exact zg hs h0 (fun l' h=>by omega) (fun l' h=>by omega) (fun _ _ _ _=>bG _)
 | l+1,rt,a,ha,hrt,hl=>by
   have hs:=bQ ha;show aB (l+1) (uX _ _ _ _ _);by_cases h0:(aF a).length=0
   · rw[List.length_eq_zero_iff.1 h0];unfold uX;rw[if_neg (by decide)];split
     · exact(oD l (bG _) hrt (by omega)).mono (by omega)
     · exact ez (l+1) (bG _) ((oD l (by
        obtain ⟨K,k1,_,k3⟩:=s3 (gK l rt []) [] rt;unfold gK
        have t0: ∀c,aB l (a6 l rt c []):=fun c=>by
         cases l with
         | zero=>show aB 0 (jm _ c []);unfold jm;rw[if_neg (show ¬c.length<([]:NQ).length from Nat.not_lt_zero _)];unfold iB;rw[if_pos (by show (a9 c||true)=true;rw[Bool.or_true])];exact bG _
         | succ l=>show aB (l+1) (jm _ c []);unfold jm;rw[if_neg (show ¬c.length<([]:NQ).length from Nat.not_lt_zero _)];unfold iB;rw[if_pos (by show (a9 c||true)=true;rw[Bool.or_true])];exact bG _
        have e:rt.getD (Nat.log2 ([]:NQ).length-1) []=rt.getD 0 []:=rfl;have hd:aB l (rt.getD 0 []):= .inr ⟨0,Nat.zero_le _,hrt 0 (by omega)⟩
        exact(t0 []).plus (ez l (t0 []) hd hrt (by omega)).minus) hrt (by omega)).mono (by omega)) hrt hl
   · exact zg hs h0 (fun l' e b hb=>by
      obtain rfl:l=l':=by omega
      exact oD l hb hrt (by omega)) (fun l' e j h1 h2=>by
      obtain rfl:l=l':=by omega
      exact uK h1 h2 hrt (by omega)) (fun b c hb hc=>ez (l+1) hb hc hrt hl)
set_option maxHeartbeats 1600000 in
theorem wA{l:Nat}{O:NQ→Prop}{R:NQ→NQ}{S:NQ→Int}{Sk:NQ→Prop}{N:NQ→NQ}{Nk:NQ→Prop}{T:NQ→NQ→NQ}{Tk:NQ→NQ→Prop}{rt:List NQ}{a:NQ}(ha:aB l a)(hl5:l≤5)(hl:l≤rt.length)(hl10:rt.length≤10)(sa:mc a)(h0:(aF a).length≠0)
  (hok:l≠0→Fo O R S Sk N Nk Tk (aF a))
  (hR: ∀l',l=l'+1→ ∀b,aB l' b→O b→Pure Tryz.prog 175 [bF rt,af b] (af (R b)))
  (hRl: ∀l',l=l'+1→ ∀b,aB l' b→aB l' (R b))
  (hS: ∀l',l=l'+1→ ∀b,aB l' b→Sk b→Pure Tryz.prog 45 [bF rt,af b] (dI (S b)))
  (hN: ∀l',l=l'+1→ ∀b j,j≤l'→b.length=2^(j+1)→Nk b→Pure Tryz.prog 87 [bF rt,af b] (af (N b))∧aB l' (N b))
  (hT: ∀b c,aB l b→aB l c→Tk b c→Pure Tryz.prog 128 [bF rt,af b,af c] (af (T b c))):
  Pure Tryz.prog 175 [bF rt,af a] (af (uX R S N T (aF a))):=by
 refine qJ 57 Tryz.func175 rfl rfl rfl rfl (by kernel_rfl) (fun B F0 w0=>?_);have cs:=bd a ha hl5 sa (by omega);have hone:=zM ha;obtain ⟨ha,sa⟩:=bb ha sa;generalize aF a=b at cs ha sa hok hone h0 ⊢;have hlb:=ha.len (by omega);unfold uX;refine qX 2 rfl ?_;refine qK 1 rfl ?_;refine aa.call tok rfl rfl rfl rfl cs ?_;refine qU 1 rfl ?_;refine qI ?_;refine qX 2 rfl ?_;rw[List.length_map];refine qU 1 rfl ?_;refine aa.nil ?_;by_cases h1:b.length=1
 · have g:=ku (r:=b) (i:=0) (by omega);have cq:=pQ (Qr 1) (Qr (b.getD 0 0)) (fv 1 (by have:=fy;omega)) (fv _ (sa 0)) (by omega) (by rw[bV];exact hone h1);rw[bV,bV] at cq;rw[if_pos h1,beq_iff_eq.2 (show (b.length:Int)=1 by omega)];refine AW.az rfl ?_;refine AW.seq ?_;refine AW.l7 tok aJ [(7,true),(1,false),(1,true)] 9 [5] (by kernel_rfl) ⟨rfl,?_⟩;refine ae.call tok rfl rfl rfl rfl rfl (fu 1 (by decide) (by decide)) ?_;refine qP 1 rfl ?_;refine ae.idx tok (Qr (b.getD 0 0)).D rfl rfl rfl rfl rfl (Int.le_refl _) g ?_;refine qP 1 rfl ?_;refine ae.call tok rfl rfl rfl rfl rfl cq ?_;refine qP 2 rfl ?_;refine ae.nil ⟨rfl,?_⟩;refine qP 1 rfl ?_;refine ae.nil ⟨rfl,?_⟩;refine qP 1 rfl ?_;refine ae.nil ⟨_,l8.cons (.bx rfl) (l8.nil),?_⟩;refine qU 1 rfl ?_;refine qK 1 rfl ?_;refine aa.mF tok rfl rfl rfl rfl rfl ?_;refine qU 1 rfl ?_;exact qN rfl
 rw[if_neg h1,beq_eq_false_iff_ne.2 (show (b.length:Int)≠1 by omega)];refine AW.ao rfl ?_;refine AW.skip ?_
 obtain ⟨i,hi,hla2⟩: ∃i,i≤l∧b.length=2^i:=by
  rcases ha with e | e
  · omega
  · exact e
 have w6:i≠0:=fun e=>h1 (by rw[hla2,e]);obtain ⟨j,rfl⟩: ∃j,i=j+1:=⟨i-1,by omega⟩;obtain ⟨l',rfl⟩: ∃l',l=l'+1:=⟨l-1,by omega⟩;have hj:j≤l':=by omega
 obtain ⟨_,o1⟩:=hok (by omega);obtain ⟨oN,oS,oz,oi⟩:=o1 h1;have hN:=hN l' rfl b j hj hla2 oN;have hS:=hS l' rfl _ hN.2 oS;obtain ⟨e1,e2,e3⟩:=bz hla2;obtain ⟨n,hn⟩: ∃n,n=b.length / 2:=⟨_,rfl⟩;rw[← hn] at e1 e2 e3 oz oi ⊢
 have hn2:b.length=n+n:=by
  have:2^(j+1)=2^j*2:=Nat.pow_succ ..;omega
 have hx:aB l' (b.take n):= .inr ⟨j,hj,e1⟩;have hy:aB l' (b.drop n):= .inr ⟨j,hj,e2⟩;refine qX 2 rfl ?_;rw[List.length_map];refine aa.div tok rfl rfl rfl rfl (by decide) ?_;rw[fJ _ (by omega),← hn];refine qU 1 rfl ?_;refine qK 2 rfl ?_;refine aa.call tok rfl rfl rfl rfl hN.1 ?_;refine qU 1 rfl ?_;refine qI ?_;refine qX 2 rfl ?_;refine aa.call tok rfl rfl rfl rfl hS ?_;refine qU 1 rfl ?_;refine aa.nil ?_;by_cases hz:S (N b)=0
 · have ci:=hR l' rfl _ (hx.plus hx) (oz hz);have cp:=cL (b.take n) (b.take n) (sa.take n) (sa.take n) (by omega) (by rw[e1];omega) (by rw[e1];omega);rw[if_pos hz,beq_iff_eq.2 hz];refine AW.az rfl ?_;refine AW.seq ?_;refine AW.draw aJ 9 (by kernel_rfl) ?_;refine qP 3 rfl ?_;refine ae.fg tok (a:=b) (b.take n) rfl rfl rfl rfl rfl trivial (Int.natCast_nonneg n) (Nat.zero_le _) (show n≤b.length by omega) rfl ?_;refine qP 2 rfl ?_;refine ae.fg tok (a:=b) (b.take n) rfl rfl rfl rfl rfl trivial (Int.natCast_nonneg n) (Nat.zero_le _) (show n≤b.length by omega) rfl ?_;refine ae.call tok rfl rfl rfl rfl rfl cp ?_;refine ae.call tok rfl rfl rfl rfl rfl ci ?_;refine ae.nil ?_;refine qU 1 rfl ?_;exact qN rfl
 obtain ⟨o2,o3⟩:=oi hz;have ci:=hR l' rfl _ hN.2 o2;have cm:=dN (b.drop n) (sa.drop n) (by omega) (by rw[e2];omega);have cj:=jc (b.take n) (bc (b.drop n)) n (by omega);have ct:=hT _ _ (.inr ⟨j+1,by omega,by rw[ib,e3,Nat.pow_succ];omega⟩) ((hRl l' rfl _ hN.2).mono (by omega)) o3;rw[if_neg hz,beq_eq_false_iff_ne.2 hz];refine AW.ao rfl ?_;refine AW.skip (AW.seq ?_);refine AW.draw aJ 14 (by kernel_rfl) ?_;refine qP 3 rfl ?_;refine ae.fg tok (a:=b) (b.take n) rfl rfl rfl rfl rfl trivial (Int.natCast_nonneg n) (Nat.zero_le _) (show n≤b.length by omega) rfl ?_;refine qP 2 rfl ?_;refine ae.fg tok (a:=b) (b.drop n) rfl rfl rfl rfl rfl (Int.natCast_nonneg n) trivial (show n≤b.length by omega) (Nat.le_refl _) (by show (b.take b.length).drop n=_;rw[List.take_length]) ?_;refine ae.call tok rfl rfl rfl rfl rfl cm ?_;refine qP 1 rfl ?_;refine ae.call tok rfl rfl rfl rfl rfl cj ?_;refine qP 2 rfl ?_;refine ae.call tok rfl rfl rfl rfl rfl ci ?_;refine ae.call tok rfl rfl rfl rfl rfl ct ?_;refine ae.nil ?_;refine qU 1 rfl ?_;exact qN rfl
theorem iL: ∀(l:Nat) {rt:List NQ} {a:NQ},aB l a→l≤5→cZ rt→l≤rt.length→rt.length≤10→F5 l rt a→Pure Tryz.prog 175 [bF rt,af a] (af (sN l rt a))
 | 0,rt,a,ha,hl5,hrt,hl,hl10,hok=>wA (O:=fun _=>True) (Sk:=fun _=>True) (Nk:=fun _=>True) (Tk:=fun _ _=>False) ha hl5 hl hl10 hok.1 hok.2 (fun h=>absurd rfl h) (fun l' h=>by omega) (fun l' h=>by omega) (fun l' h=>by omega) (fun l' h=>by omega) (fun _ _ _ _ h=>h.elim)
 | l+1,rt,a,ha,hl5,hrt,hl,hl10,hok=>wA (O:=F5 l rt) (Sk:=Bk l rt) (Nk:=Ey l rt) (Tk:=yZ (l+1) rt) ha hl5 hl hl10 hok.1 hok.2.1 (fun _=>hok.2) (fun l' e b h1 h2=>by
    obtain rfl:l=l':=by omega
    exact iL l h1 (by omega) hrt (by omega) hl10 h2) (fun l' e b h1=>by
    obtain rfl:l=l':=by omega
    exact oD l h1 hrt (by omega)) (fun l' e b h1 h2=>by
    obtain rfl:l=l':=by omega
    exact dL l h1 (by omega) hrt (by omega) hl10 h2) (fun l' e b j h1 h2 h3=>by
    obtain rfl:l=l':=by omega
    exact⟨kC h1 h2 hrt (by omega) hl10 h3,uK h1 h2 hrt (by omega)⟩) (fun b c h1 h2 h3=>bt (l+1) h1 h2 hrt hl hl10 h3)
end Lift
namespace Lift
open Go Go.Proofs
def qe(v:List NQ):Prop:= ∃m,lr m v
theorem lr.a{m:Nat}{v:List NQ}(V:lr m v):qe v:=⟨m,V⟩
theorem qe.l5{v:List NQ}(V:qe v):v.length≤5:=V.elim fun _ V=>V.l5
theorem qe.ro{v:List NQ}(V:qe v):cZ v:=V.elim fun _ V=>V.ro
def Ad(v:List NQ)(a b:NQ):NQ:=aF (a6 v.length v a (sN v.length v b))
def vr(v:List NQ)(a:NQ):Int:=ep v.length v a
def y0(v:List NQ)(a b:NQ):Prop:=mc a∧mc b∧yZ v.length v a b∧mc (a6 v.length v a b)
def DM(a b:NQ):Prop:=mc a∧mc b∧mc (bj a (bc b))
def Bl(v:List NQ)(a b:NQ):Prop:=mc a∧mc b∧Bk v.length v b∧vr v b≠0∧F5 v.length v b∧yZ v.length v a (sN v.length v b)∧mc (a6 v.length v a (sN v.length v b))
def vY(v:List NQ)(a:NQ):Prop:=Bk v.length v a
theorem vY.sz{v:List NQ}{a:NQ}(h:vY v a):mc a:=Bk.sz h
theorem zu{v:List NQ}(V:qe v)(l:List NQ)(hl:l.length≤1000000)(h: ∀i,i<l.length→aB v.length (l.getD i [])∧mc (l.getD i [])):Pure Tryz.prog 42 [bF v,.sl 1 (l.map af)] aj:=by
 obtain ⟨m,V⟩:=V;obtain ⟨m0,t1,t2,tw,tk⟩:=V.raw.1.t;have l5:=V.l5
 have g: ∀i,(l.map fP).getD i []=fP (l.getD i []):=fun i=>by
  rw[List.getD_eq_getElem?_getD,List.getElem?_map,List.getD_eq_getElem?_getD];cases l[i]? with
  | none=>rfl
  | some x=>rfl
 have c:=eG (lO v) (l.map fP) (mn:=17300000000000) tw t1 V.raw.1.l V.raw.1.ll tk (fun i hi=>by
  rw[List.length_map] at hi;rw[g];exact fun _=>uk (h i hi).2) (by rw[List.length_map];exact hl) (fun i hi=>by
  rw[List.length_map] at hi
  rw[g,jw];exact Nat.le_trans ((h i hi).1.len (by omega)) (by decide)) (by omega)
 have e:iH (lO v) (l.map fP)=0:=by
  unfold iH;rw[if_neg (by rw[V.raw.2];simp)];refine k8 fun j hj=>?_;rw[List.length_map] at hj;rw[dO,g];exact kL (h j (by omega)).1
 rw[e,qH,List.map_map,show (aY ∘ fP)=af from funext jW] at c;exact c
theorem B7{v:List NQ}{a:NQ}(V:qe v)(ha:aB v.length a)(sa:mc a):Pure Tryz.prog 42 [bF v,.sl 1 [af a]] aj :=
 zu V [a] (show 1≤1000000 by decide) (fun i hi=>by
  have:i<1:=hi;obtain rfl:i=0:=by omega
  exact⟨ha,sa⟩)
theorem rU{v:List NQ}{a b:NQ}(V:qe v)(ha:aB v.length a)(sa:mc a)(hb:aB v.length b)(sb:mc b):Pure Tryz.prog 42 [bF v,.sl 1 [af a,af b]] aj :=
 zu V [a,b] (show 2≤1000000 by decide) (fun i hi=>by
  have:i<2:=hi
  match i,this with
  | 0,_=>exact⟨ha,sa⟩
  | 1,_=>exact⟨hb,sb⟩)
theorem xj{v:List NQ}{a:NQ}{b:NQ}(V:qe v)(ha:aB v.length a)(hb:aB v.length b)(ok:DM a b):Pure Tryz.prog 105 [bF v,af a,af b] (.tu [af (gx a b),aj]):=by
 refine qJ 22 Tryz.func105 rfl rfl rfl rfl (by kernel_rfl) (fun B0 F0 w0=>?_);have hl5:=V.l5;have hro:=V.ro;obtain ⟨sa,sb,sc⟩:=ok;have cc:=rU V ha sa hb sb;have c0:=dN b sb (by omega) (Nat.le_trans (hb.len (by omega)) (by decide));have c1:=cL a (bc b) sa sb.minus (by omega) (Nat.le_trans (ha.len (by omega)) (by decide)) (Nat.le_trans (hb.minus.len (by omega)) (by decide));have c2:=bd (bj a (bc b)) (ha.plus hb.minus) hl5 sc (by omega);refine qX 3 rfl ?_;refine qI ?_;refine qX 3 rfl ?_;refine aa.mF tok rfl rfl rfl rfl rfl ?_;refine aa.call tok rfl rfl rfl rfl cc ?_;refine qU 1 rfl ?_;refine qK 1 rfl ?_;refine aa.err tok rfl rfl rfl rfl rfl ?_;refine aa.nil ?_;refine AW.ao rfl ?_
 · refine AW.skip ?_;refine qX 2 rfl ?_;refine aa.call tok rfl rfl rfl rfl c0 ?_;refine aa.call tok rfl rfl rfl rfl c1 ?_;refine aa.call tok rfl rfl rfl rfl c2 ?_;refine qU 2 rfl ?_;exact qN rfl
theorem qt{v:List NQ}{a:NQ}{b:NQ}(V:qe v)(ha:aB v.length a)(hb:aB v.length b)(ok:y0 v a b):Pure Tryz.prog 106 [bF v,af a,af b] (.tu [af (gU v a b),aj]):=by
 refine qJ 22 Tryz.func106 rfl rfl rfl rfl (by kernel_rfl) (fun B0 F0 w0=>?_);have hl5:=V.l5;have hro:=V.ro;obtain ⟨sa,sb,st,sc⟩:=ok;have cc:=rU V ha sa hb sb;have c1:=bt v.length ha hb hro (Nat.le_refl _) (by omega) st;have c2:=bd _ (ez v.length ha hb hro (Nat.le_refl _)) hl5 sc (by omega);refine qX 3 rfl ?_;refine qI ?_;refine qX 3 rfl ?_;refine aa.mF tok rfl rfl rfl rfl rfl ?_;refine aa.call tok rfl rfl rfl rfl cc ?_;refine qU 1 rfl ?_;refine qK 1 rfl ?_;refine aa.err tok rfl rfl rfl rfl rfl ?_;refine aa.nil ?_;refine AW.ao rfl ?_
 · refine AW.skip ?_;refine qX 3 rfl ?_;refine aa.call tok rfl rfl rfl rfl c1 ?_;refine aa.call tok rfl rfl rfl rfl c2 ?_;refine qU 2 rfl ?_;exact qN rfl
theorem xk{v:List NQ}{a:NQ}{b:NQ}(V:qe v)(ha:aB v.length a)(hb:aB v.length b)(ok:Bl v a b):Pure Tryz.prog 133 [bF v,af a,af b] (.tu [af (Ad v a b),aj]):=by
 refine qJ 29 Tryz.func133 rfl rfl rfl rfl (by kernel_rfl) (fun B0 F0 w0=>?_);have hl5:=V.l5;have hro:=V.ro;obtain ⟨sa,sb,sg,s0,si,st,sc⟩:=ok;have cc:=rU V ha sa hb sb;have hi:=oD v.length hb hro (Nat.le_refl _);have c0:=dL v.length hb hl5 hro (Nat.le_refl _) (by omega) sg;have c1:=iL v.length hb hl5 hro (Nat.le_refl _) (by omega) si;have c2:=bt v.length ha hi hro (Nat.le_refl _) (by omega) st;have c3:=bd _ (ez v.length ha hi hro (Nat.le_refl _)) hl5 sc (by omega);change ep v.length v b≠0 at s0;unfold Ad;generalize ep v.length v b=z at c0 s0;refine qX 3 rfl ?_;refine qI ?_;refine qX 3 rfl ?_;refine aa.mF tok rfl rfl rfl rfl rfl ?_;refine aa.call tok rfl rfl rfl rfl cc ?_;refine qU 1 rfl ?_;refine qK 1 rfl ?_;refine aa.err tok rfl rfl rfl rfl rfl ?_;refine aa.nil ?_;refine AW.ao rfl ?_
 · refine AW.skip (AW.seq ?_);refine qX 2 rfl ?_;refine aa.call tok rfl rfl rfl rfl c0 ?_;refine qU 1 rfl ?_;refine aa.nil ?_;rw[beq_eq_false_iff_ne.2 s0];refine AW.ao rfl ?_
   · refine AW.skip (AW.seq ?_);refine AW.draw aJ 7 (by kernel_rfl) ?_;refine qP 4 rfl ?_;refine ae.call tok rfl rfl rfl rfl rfl c1 ?_;refine ae.call tok rfl rfl rfl rfl rfl c2 ?_;refine ae.call tok rfl rfl rfl rfl rfl c3 ?_;refine ae.nil ?_;refine qU 2 rfl ?_;exact qN rfl
theorem oV{v:List NQ}{a:NQ}(V:qe v)(ha:aB v.length a)(ok:vY v a):Pure Tryz.prog 22 [bF v,af a] (.tu [dI (vr v a),aj]):=by
 refine qJ 17 Tryz.func22 rfl rfl rfl rfl (by kernel_rfl) (fun B0 F0 w0=>?_);have hl5:=V.l5;have hro:=V.ro;have cc:=B7 V ha ok.sz;have c1:=dL v.length ha hl5 hro (Nat.le_refl _) (by omega) ok;refine qX 3 rfl ?_;refine qI ?_;refine qX 2 rfl ?_;refine aa.mF tok rfl rfl rfl rfl rfl ?_;refine aa.call tok rfl rfl rfl rfl cc ?_;refine qU 1 rfl ?_;refine qK 1 rfl ?_;refine aa.err tok rfl rfl rfl rfl rfl ?_;refine aa.nil ?_;refine AW.ao rfl ?_
 · refine AW.skip ?_;refine qX 2 rfl ?_;refine aa.call tok rfl rfl rfl rfl c1 ?_;refine qU 2 rfl ?_;exact qN rfl
end Lift
namespace Lift
open Go
open Go.RowKit (Below)
section
variable {P:Program} {T:Ty} {B:Nat} {F0:Nat→Prop} {w0:bS} {n:Nat} {σ:St} {all:Array Oper} {rest:List Oper} {o:Oper} {d:Nat} {K:St→Prop}
def BS(T:Ty)(lk:Nat→Option AV):Op→Option (Nat×List D)
 | .binOp .eql t x (.const (.slice none 0 0)) _=>match T.get t,b7 T (ex T lk 0 x) with
   | some ti,some (.sl s xs)=>match Nat.beq ti.kind 4 with
     | true=>some (s,xs)
     | false=>none
   | _,_=>none
 | _=>none
theorem x7{w:World}{t e:TypeId}(hi:P.underlying t=some (.slice e))(k:Nat)(b:Option Addr)(l c:Nat):(Op.equalIn (k+1) t (.slice b l c) (.slice none 0 0)).run P w= .ok b.isNone w:=by
 cases b<;>simp[Op.equalIn,run_underlying hi]
theorem BR{w:World}{t e:TypeId}(hi:P.underlying t=some (.slice e))(b:Option Addr)(l c:Nat):(Op.equal t (.slice b l c) (.slice none 0 0)).run P w= .ok b.isNone w:=x7 hi 9999 b l c
theorem Ce{w:World}{t e:TypeId}(hi:P.underlying t=some (.slice e))(b:Option Addr)(l c:Nat):(Go.binOp .eql t (.slice b l c) (.slice none 0 0)).run P w= .ok (.bool b.isNone) w:=by
 have:Go.binOp .eql t (.slice b l c) (.slice none 0 0)=(do pure (.bool (← Op.equal t (.slice b l c) (.slice none 0 0))):Sem Value):=rfl;rw[this];simp only[Sem.run_bind,BR hi,Result.andThen_ok,Sem.run_pure]
theorem aa.eqn(hT:a7 P T){s:Nat}{xs:List D}(hd:o.dst=some d)(hdn:Nat.ble (d+1) n=true)(hg:o.guard=none)(hx:BS T σ.get o.op=some (s,xs))
  (h: ∀b:Bool,(xs≠[]→b=false)→aa P B F0 w0 n all rest K ((d,.d (.v (.bool b)))::σ)):aa P B F0 w0 n all (o::rest) K σ:=by
 intro a w hR Q hQ;unfold wpList;rw[if_pos (by simp[Region.wanted,hg])];refine .inl ?_;obtain ⟨O,hOr,hO⟩:=hR.own;have hI:=hR.inv hOr hO (fun t=> .tmp t∈o.op.operands) d;obtain ⟨dst,op,ty,pos,after,guard⟩:=o;simp only[] at hd hx hI;cases op<;>try (simp only[BS] at hx;cases hx;done)
 rename_i bop t x y ty2;cases bop<;>try (simp only[BS] at hx;cases hx;done)
 cases y<;>try (simp only[BS] at hx;cases hx;done)
 rename_i c;unfold BS at hx;split at hx<;>try (cases hx;done)
 rename_i heq;simp only[Op.binOp.injEq,Operand.const.injEq,true_and] at heq;obtain ⟨rfl,rfl,rfl,rfl⟩:=heq;split at hx<;>try (cases hx;done)
 rename_i ti s' xs' hti hdx;split at hx<;>simp at hx;rename_i hk;obtain ⟨rfl,rfl⟩:=hx;obtain ⟨info,dd,z,hok⟩:=hT _ ti hti;have hrd:=cJ hT hI (fun t ht=>by subst ht;simp[Op.operands]) hdx;obtain ⟨ad,cap,hv,h1,h2,hne⟩:=Rd.vC hrd
 have hg2:(eqGuard .eql t x (.const (.slice none 0 0)) (a.eval x) (.slice none 0 0)).run P w= .ok () w:=by
  rw[hv];simp[eqGuard]
 refine aR (v:= .bool ad.isNone) (w':=w) ?_ ?_
 · simp only[execOp,eval_const,Sem.run_bind,hg2,Result.andThen_ok];rw[hv];rw[Ce (hok.gm hk).1];rfl
 · rw[hd];refine h ad.isNone (fun hx=>?_) _ _ (hR.put hOr hO (Nat.le_of_ble_eq_true hdn) (bX.refl hI.lt) (show c' _ _ _ _ _ _ _ _ (.d (.v (.bool ad.isNone))) (.bool ad.isNone) from Rd.v rfl)) Q hQ;rcases hne with e | ⟨b,off,cs,e,fz,hb,_⟩
   · exact absurd e hx
   · rw[hb];rfl
end
end Lift
namespace Lift
open Go Go.Proofs
abbrev Co(r:List (List RD)):D:= .sl 1 (r.map aY)
abbrev yA(a:List (List (List RD))):D:= .sl 1 (a.map Co)
abbrev gI(r:List NQ):D:= .sl 1 (r.map af)
abbrev jL(a:List (List NQ)):D:= .sl 1 (a.map gI)
structure E0 (m:Nat) (rt:List (List RD)) (a:List (List (List RD))):Prop where
 n: ∀i k,iI m rt ((a.getD i []).getD k [])
 l:a.length≤1000000
 r: ∀i,(a.getD i []).length≤1000000
def fK{α:Type}(a:List (List α)):Nat:=(a.getD 0 []).length
def Cy(a:List (List (List RD)))(i:Nat):Nat:=if (a.getD i []).length≠fK a then 10 else 0
def ug(rt:List (List RD))(r:List (List RD)):Nat:=fE (fun k=>iH rt [r.getD k []]) (r.length-0) 0
def Dc(rt:List (List RD))(a:List (List (List RD))):Nat :=
 if a.length=0 then 0 else if 32<a.length∨32<fK a then 4 else
 if fE (Cy a) (a.length-0) 0≠0 then fE (Cy a) (a.length-0) 0 else fE (fun i=>ug rt (a.getD i [])) (a.length-0) 0
def za(rt:List (List RD))(a:List (List (List RD))):Nat:=if ck rt≠0 then ck rt else Dc rt a
structure Gb (m:Nat) (rt:List (List RD)):Prop where
 w: ∀i,i<rt.length→(rt.getD i []).length=2^i→wN m (rt.getD i [])
 m1:1≤m
 l:rt.length≤1000000
 ll: ∀i,i<rt.length→(rt.getD i []).length≤4398046511104
 ok:rt.length≤5→pb rt.length m
 m2:m≤1000000
theorem ou{m:Nat}{rt:List (List RD)}{x:List RD}(T:Gb m rt)(X:iI m rt x):Pure Tryz.prog 174 [se rt,aY x] (sq (iH rt [x])):=by
 refine qJ 14 Tryz.func174 rfl rfl rfl rfl (by kernel_rfl) (fun B F0 w0=>?_);have hm:=T.m2;have c:=sw rt x T.w T.m1 T.l T.ll T.ok X.w X.l (by omega);unfold AK at c;refine qX 2 rfl ?_;refine qK 2 rfl ?_;by_cases h:iH rt [x]≠0
 · rw[if_pos h] at c;refine aa.call tok rfl rfl rfl rfl c ?_;refine qU 5 rfl ?_;refine qK 2 rfl ?_;exact qN rfl
 rw[if_neg h] at c;have h:iH rt [x]=0:=by omega
 rw[h];refine aa.call tok rfl rfl rfl rfl c ?_;refine qU 5 rfl ?_;refine qK 2 rfl ?_;exact qN rfl
set_option maxHeartbeats 1600000 in
theorem ov{m:Nat}{rt:List (List RD)}{a:List (List (List RD))}(T:Gb m rt)(A:E0 m rt a):Pure Tryz.prog 130 [se rt,yA a] (sq (Dc rt a)):=by
 refine qJ 61 Tryz.func130 rfl rfl rfl rfl (by kernel_rfl) (fun B F0 w0=>?_);have hal:=A.l;unfold Dc;obtain ⟨E,hE⟩: ∃E,fE (Cy a) (a.length-0) 0=E:=⟨_,rfl⟩;obtain ⟨G,hG⟩: ∃G,fE (fun i=>ug rt (a.getD i [])) (a.length-0) 0=G:=⟨_,rfl⟩;rw[hE,hG];refine qX 2 rfl ?_;refine qI ?_;refine qX 2 rfl ?_;rw[List.length_map];refine qU 1 rfl ?_;refine aa.nil ?_;by_cases h0:a.length=0
 · rw[if_pos h0,h0];refine AW.az rfl ?_;refine qX 1 rfl ?_;exact qN rfl
 rw[if_neg h0,beq_eq_false_iff_ne.2 (show (a.length:Int)≠0 by omega)];have hc0:fK a=(a.getD 0 []).length:=rfl;have hcl:=A.r 0;have g0:=getM Co (l:=a) (i:=0) (by omega);refine AW.ao rfl ?_
 · skip
   refine AW.skip (AW.seq ?_);refine qX 2 rfl ?_;rw[List.length_map];refine qU 1 rfl ?_;by_cases h1:32<a.length
   · rw[decide_eq_true (show (32:Int)<(a.length:Int) by omega),if_pos (.inl h1)];refine qU 7 rfl ?_;refine aa.nil ?_;refine AW.az rfl ?_;refine qX 2 rfl ?_;exact qN rfl
   rw[decide_eq_false (show ¬(32:Int)<(a.length:Int) by omega)];refine qU 2 rfl ?_;refine aa.idx tok (Co (a.getD 0 [])) rfl rfl rfl rfl (Int.le_refl _) g0 ?_;refine qU 2 rfl ?_;rw[List.length_map];refine qU 1 rfl ?_;by_cases h2:32<fK a
   · rw[decide_eq_true (show (32:Int)<((a.getD 0 []).length:Int) by omega),if_pos (.inr h2)];refine qU 1 rfl ?_;refine aa.nil ?_;refine AW.az rfl ?_;refine qX 2 rfl ?_;exact qN rfl
   rw[decide_eq_false (show ¬(32:Int)<((a.getD 0 []).length:Int) by omega),if_neg (fun h=>h.elim h1 h2)];refine qU 1 rfl ?_;refine aa.nil ?_;refine AW.ao rfl ?_
   · refine AW.skip (AW.seq ?_);refine qX 2 rfl ?_;rw[List.length_map];refine qU 1 rfl ?_;refine aa.nil ?_;refine AW.block ?_;refine AW.aD [1,2,26,27,28] (fun i:Nat=>[(1,.d (yA a)),(2,.bx [.sl 1 (rt.map aY)]),(26,.d (yA a)),(27,.d (dI a.length)),(28,.d (dI i))]) (fun i=>i≤a.length∧fE (Cy a) (a.length-i) i=E) (fun i=>a.length-i) 0 rfl ⟨Nat.zero_le _,hE⟩ (fun i ⟨hi,hiE⟩=>?_)
     · show AW _ _ _ _ _ _ _ [(1,.d (yA a)),(2,.bx [.sl 1 (rt.map aY)]),(26,.d (yA a)),(27,.d (dI a.length)),(28,.d (dI i))];refine qX 1 rfl ?_;refine qI ?_;refine AW.cond rfl (fun h=>?_) (fun h=>?_)
       · have hii:i<a.length:=by have:=of_decide_eq_true h;omega
         have hg:=getM Co (l:=a) (i:=i) hii;have hri:=A.r i;have hmiss:=fun h0:Cy a i=0=>(bU hii h0).symm.trans hiE;have hhit:=fun h0:Cy a i≠0=>(dh hii h0).symm.trans hiE;refine AW.skip (AW.seq (AW.block (AW.seq (AW.region ?_))));refine aa.idx tok (Co (a.getD i [])) rfl rfl rfl rfl (Int.natCast_nonneg i) hg ?_;refine qU 2 rfl ?_;refine qK 2 rfl ?_;rw[List.length_map];refine qU 1 rfl ?_;refine aa.idx tok (Co (a.getD 0 [])) rfl rfl rfl rfl (Int.le_refl _) g0 ?_;refine qU 2 rfl ?_;rw[List.length_map];refine qU 1 rfl ?_;refine aa.nil ?_;refine AW.cond rfl (fun h=>?_) (fun h=>?_)
         · have hne:(a.getD i []).length≠fK a:=by have:=bne_iff_ne.1 h;omega
           have e:Cy a i=10:=if_pos hne;have:=hhit (by rw[e];decide);rw[e] at this;subst this;rw[if_pos (by decide)];refine qX 2 rfl ?_;exact qN rfl
         · have heq:(a.getD i []).length=fK a:=by have:=bne_eq_false_iff_eq.1 h;omega
           have e:Cy a i=0:=if_neg (fun h=>h heq);refine AW.skip ?_;refine qT 1 rfl ?_;rw[aq (x:=(i:Int)+1) (by omega) (by omega)];refine qU 1 rfl ?_;refine aa.nil ?_;exact⟨i+1,rfl,⟨hii,hmiss e⟩,by omega⟩
       have hii: ¬i<a.length:=by have:=of_decide_eq_false h;omega
       rw[dk hii] at hiE;subst hiE;rw[if_neg (by decide)];refine AW.exit (AW.seq ?_);refine qX 2 rfl ?_;rw[List.length_map];refine qU 1 rfl ?_;refine aa.nil ?_;refine AW.block ?_;refine AW.aD [1,2,41,42,43] (fun i:Nat=>[(1,.d (yA a)),(2,.bx [.sl 1 (rt.map aY)]),(41,.d (yA a)),(42,.d (dI a.length)),(43,.d (dI i))]) (fun i=>i≤a.length∧fE (fun i=>ug rt (a.getD i [])) (a.length-i) i=G) (fun i=>a.length-i) 0 rfl ⟨Nat.zero_le _,hG⟩ (fun i ⟨hi,hiG⟩=>?_)
       · show AW _ _ _ _ _ _ _ [(1,.d (yA a)),(2,.bx [.sl 1 (rt.map aY)]),(41,.d (yA a)),(42,.d (dI a.length)),(43,.d (dI i))];refine qX 1 rfl ?_;refine qI ?_;refine AW.cond rfl (fun h=>?_) (fun h=>?_)
         · have hii:i<a.length:=by have:=of_decide_eq_true h;omega
           have hg:=getM Co (l:=a) (i:=i) hii;have hri:=A.r i;have hni:=A.n i;have hmiss:=fun h0:ug rt (a.getD i [])=0=>(bU (f:=fun i=>ug rt (a.getD i [])) hii h0).symm.trans hiG;have hhit:=fun h0:ug rt (a.getD i [])≠0=>(dh (f:=fun i=>ug rt (a.getD i [])) hii h0).symm.trans hiG;refine AW.skip (AW.seq (AW.block (AW.seq (AW.region ?_))));refine aa.idx tok (Co (a.getD i [])) rfl rfl rfl rfl (Int.natCast_nonneg i) hg ?_;refine qU 2 rfl ?_;refine aa.nil ?_;generalize a.getD i []=r at hri hni hmiss hhit;obtain ⟨H,hH⟩: ∃H,ug rt r=H:=⟨_,rfl⟩;rw[hH] at hmiss hhit;refine qX 2 rfl ?_;rw[List.length_map];refine qU 1 rfl ?_;refine aa.nil ?_;refine AW.block ?_;refine AW.aD [1,2,41,42,43,47,48,49] (fun k:Nat=>[(1,.d (yA a)),(2,.bx [.sl 1 (rt.map aY)]),(41,.d (yA a)),(42,.d (dI a.length)),(43,.d (dI i)),(47,.d (Co r)),(48,.d (dI r.length)),(49,.d (dI k))]) (fun k=>k≤r.length∧fE (fun k=>iH rt [r.getD k []]) (r.length-k) k=H) (fun k=>r.length-k) 0 rfl ⟨Nat.zero_le _,hH⟩ (fun k ⟨hk,hkH⟩=>?_)
           · show AW _ _ _ _ _ _ _ [(1,.d (yA a)),(2,.bx [.sl 1 (rt.map aY)]),(41,.d (yA a)),(42,.d (dI a.length)),(43,.d (dI i)),(47,.d (Co r)),(48,.d (dI r.length)),(49,.d (dI k))];refine qX 1 rfl ?_;refine qI ?_;refine AW.cond rfl (fun h=>?_) (fun h=>?_)
             · have hkk:k<r.length:=by have:=of_decide_eq_true h;omega
               have hg2:=getM aY (l:=r) (i:=k) hkk;have cn:=ou T (hni k);have km:=fun h0:iH rt [r.getD k []]=0=>(bU (f:=fun k=>iH rt [r.getD k []]) hkk h0).symm.trans hkH;have kh:=fun h0:iH rt [r.getD k []]≠0=>(dh (f:=fun k=>iH rt [r.getD k []]) hkk h0).symm.trans hkH;refine AW.skip (AW.seq (AW.block (AW.seq (AW.region ?_))));refine aa.idx tok (aY (r.getD k [])) rfl rfl rfl rfl (Int.natCast_nonneg k) hg2 ?_;refine qU 2 rfl ?_;refine qK 2 rfl ?_;refine aa.call tok rfl rfl rfl rfl cn ?_;refine qU 1 rfl ?_;refine aa.nil ?_;generalize iH rt [r.getD k []]=e at cn km kh;rcases e with _ | z
               rotate_left
               · have:=kh (Nat.succ_ne_zero z);subst this;have:=hhit (Nat.succ_ne_zero z);subst this;refine qX 1 rfl ?_;refine aa.err tok rfl rfl rfl rfl rfl ?_;refine aa.nil ?_;refine AW.az rfl ?_;refine qX 2 rfl ?_;exact qN rfl
               refine qX 1 rfl ?_;refine aa.err tok rfl rfl rfl rfl rfl ?_;refine aa.nil ?_;refine AW.ao rfl ?_
               · skip
                 refine AW.skip ?_;refine qT 1 rfl ?_;rw[aq (x:=(k:Int)+1) (by omega) (by omega)];refine qU 1 rfl ?_;refine aa.nil ?_;exact⟨k+1,rfl,⟨hkk,km rfl⟩,by omega⟩
             have hkk: ¬k<r.length:=by have:=of_decide_eq_false h;omega
             rw[dk hkk] at hkH;subst hkH;refine AW.exit ?_;refine qT 1 rfl ?_;rw[aq (x:=(i:Int)+1) (by omega) (by omega)];refine qU 1 rfl ?_;refine aa.nil ?_;exact⟨i+1,rfl,⟨hii,hmiss rfl⟩,by omega⟩
         have hii: ¬i<a.length:=by have:=of_decide_eq_false h;omega
         rw[dk hii] at hiG;subst hiG;refine AW.exit ?_;refine qX 1 rfl ?_;exact qN rfl
theorem pJ{m:Nat}{rt:List (List RD)}{a:List (List (List RD))}(T:Gb m rt)(A:E0 m rt a):Pure Tryz.prog 88 [se rt,yA a] (sq (za rt a)):=by
 refine qJ 14 Tryz.func88 rfl rfl rfl rfl (by kernel_rfl) (fun B F0 w0=>?_);have cc:=iq rt T.w T.m1 T.l T.ll T.ok;have cm:=ov T A;unfold za;refine qX 2 rfl ?_;refine qI ?_;refine qX 1 rfl ?_;refine aa.call tok rfl rfl rfl rfl cc ?_;refine qU 1 rfl ?_;refine aa.nil ?_;generalize ck rt=e at cc ⊢;rcases e with _ | z
 rotate_left
 · rw[if_pos (Nat.succ_ne_zero z)];refine qX 1 rfl ?_;refine aa.err tok rfl rfl rfl rfl rfl ?_;refine aa.nil ?_;refine AW.az rfl ?_;refine qX 2 rfl ?_;exact qN rfl
 rw[if_neg (by simp)];refine qX 1 rfl ?_;refine aa.err tok rfl rfl rfl rfl rfl ?_;refine aa.nil ?_;refine AW.ao rfl ?_
 · skip
   refine AW.skip ?_;refine qX 2 rfl ?_;refine aa.call tok rfl rfl rfl rfl cm ?_;refine qU 1 rfl ?_;exact qN rfl
theorem kV{v:List NQ}{a:NQ}(V:qe v)(ha:aB v.length a)(ok:vY v a):Pure Tryz.prog 132 [bF v,af a] (dI (vr v a)):=by
 refine qJ 14 Tryz.func132 rfl rfl rfl rfl (by kernel_rfl) (fun B F0 w0=>?_);have c:=oV V ha ok;refine qX 2 rfl ?_;refine qK 2 rfl ?_;refine aa.call tok rfl rfl rfl rfl c ?_;refine qU 5 rfl ?_;refine qK 2 rfl ?_;exact qN rfl
theorem nu(a:List (List NQ)):Pure Tryz.prog 90 [jL a] (dI (fK a)):=by
 refine qJ 10 Tryz.func90 rfl rfl rfl rfl (by kernel_rfl) (fun B F0 w0=>?_);refine qX 1 rfl ?_;refine qI ?_;refine qX 2 rfl ?_;rw[List.length_map];refine qU 1 rfl ?_;refine aa.nil ?_;by_cases h0:a.length=0
 · rw[List.length_eq_zero_iff.1 h0];refine AW.az rfl ?_;refine qX 1 rfl ?_;exact qN rfl
 rw[beq_eq_false_iff_ne.2 (show (a.length:Int)≠0 by omega)];have g0:=getM gI (l:=a) (i:=0) (by omega);refine AW.ao rfl ?_
 · refine AW.skip ?_;refine qX 1 rfl ?_;refine aa.idx tok (gI (a.getD 0 [])) rfl rfl rfl rfl (Int.le_refl _) g0 ?_;refine qU 2 rfl ?_;rw[List.length_map];refine qU 1 rfl ?_;exact qN rfl
def Fm(r:List NQ)(res:D)(R':List LR):Prop:= ∃V,res= .v V∧R'=[(V,AV.ow 52 (r.map af))]
theorem wQ(r:List NQ)(hl:r.length≤1000000):jN Tryz.prog 131 [gI r] [] (Fm r):=by
 refine jN.intro (n:=8) tok Tryz.func131 rfl rfl rfl (Nat.le_of_ble_eq_true rfl) (by kernel_rfl) (fun B F0 w0=>?_);refine AZ.seq ?_;refine AZ.gv (fun B1 F1 w1=>?_);refine qU 1 rfl ?_;refine aa.nil ⟨rfl,?_⟩;refine AZ.seq ?_;refine AZ.seq ?_;refine AZ.gv (fun B1 F1 w1=>?_);refine qU 1 rfl ?_;refine aa.eqn tok rfl rfl rfl rfl (fun b hb=>?_);refine aa.nil ⟨rfl,?_⟩;refine AZ.cond rfl (fun h=>?_) (fun h=>?_)
 · have hr:r=[]:=by
    refine Classical.byContradiction fun hr=>?_;have:=hb (by simp[hr]);rw[this] at h;cases h
   subst hr;refine AZ.seq ?_;refine AZ.gv (fun B1 F1 w1=>?_);refine qU 1 rfl ?_;refine aa.nil ⟨rfl,?_⟩;exact AZ.fT 2 rfl rfl rfl (fun V=>AZ.ret ⟨.v V,rfl,V,rfl,rfl⟩)
 · skip
   refine AZ.skip ?_;refine AZ.seq ?_;refine AZ.gv (fun B1 F1 w1=>?_);refine qU 2 rfl ?_;refine aa.yv tok rfl rfl rfl rfl (by rw[List.length_map];show r.length*24≤_;omega) ?_;refine qU 1 rfl ?_;refine aa.nil ⟨rfl,?_⟩;exact AZ.fT 2 rfl rfl rfl (fun V=>AZ.ret ⟨.v V,rfl,V,rfl,rfl⟩)
end Lift
namespace Lift
open Go
open Go.RowKit (Below)
section
variable {P:Program} {T:Ty} {B:Nat} {F0:Nat→Prop} {w0:bS} {n:Nat} {σ:St} {R:List LR} {all ops:Array Oper} {l:List Oper} {o:Oper} {x:Code} {a:Act} {w:World} {K:List LR→St→Prop} {p:jK} {Q:Exit→List LR→St→Prop}
theorem k7: ∀{cs:List D},(∀d,d∈cs→d.flat=[d])→flatAll cs=cs
 | [],h=>rfl
 | d::r,h=>by
   show d.flat++flatAll r=d::r;rw[h d (List.mem_cons_self ..),k7 (fun x hx=>h x (List.mem_cons_of_mem _ hx))];rfl
theorem bD.EJ{i j k e eo:Nat}{V Vo:Value}{xs cs:List D}(hR:bD P B F0 w0 n R σ a w)(hj:R[j]?=some (Vo,.ow eo cs))(hc1: ∀d,d∈cs→d.flat=[d])(hk:cs[k]?=some (.v V))(hi:R[i]?=some (V,.ow e xs))(hij:i≠j):
  bD P B F0 w0 n ((R.set i (V,.junk)).set j (Vo,.ow eo (cs.set k (.sl (P.cellsOf e) xs)))) σ a w:=by
 obtain ⟨O,hOr,hO,hL⟩:=hR.own
 let O':Nat→Option Nat:=fun b=>if O b=some (n+i) then none else O b
 have h1: ∀b t,O' b=some t→O b=some t:=fun b t h=>by
  simp only[O'] at h;split at h
  · cases h
  · exact h
 have h2: ∀b t,t≠n+i→O b=some t→O' b=some t:=fun b t ht h=>by
  simp only[O',h];rw[if_neg (by simpa using ht)]
 have hF: ∀c,aH O (FW B F0 w) c→aH O' (FW B F0 w) c:=fun c hc=>⟨by simp only[O',hc.1];simp,hc.2⟩
 have hlt: ∀t av,σ.get t=some av→t<n:=fun t av h=>by
  obtain ⟨v,hv,_⟩:=hO t av h;rw[← hR.size];exact(Array.getElem?_eq_some_iff.1 hv).1
 have hil:=(List.getElem?_eq_some_iff.1 hi).1;have hjl:=(List.getElem?_eq_some_iff.1 hj).1;have hkl:=(List.getElem?_eq_some_iff.1 hk).1;refine⟨hR.below,hR.base,hR.f0,hR.defers,hR.size,O',fun b t hb=>hOr b t (h1 b t hb),fun j av hav=>?_,fun m r hr=>?_⟩
 · obtain ⟨v,hv,hr⟩:=hO j av hav;exact⟨v,hv,hr.move (fun c hc=>⟨hF c hc,rfl⟩) (fun _ c hc=>⟨h2 c j (by have:=hlt j av hav;omega) hc,rfl⟩) (fun k _ x _ hk=>⟨hk,rfl⟩)⟩
 · by_cases hmj:m=j
   · subst hmj;rw[List.getElem?_set_self (by simpa using hjl)] at hr;cases hr
     have hcs': ∀d,d∈cs.set k (.sl (P.cellsOf e) xs)→d.flat=[d]:=fun d hd=>by
      rcases List.mem_or_eq_of_mem_set hd with h | h
      · exact hc1 d h
      · subst h;rfl
     rcases hL m _ hj with h | ⟨_,_,h⟩
     · cases h
     refine .inr ⟨rfl,rfl,?_⟩;rcases h with ⟨base,h3,h4⟩ | ⟨b',cap,cs',h3,h4,h5,h6,h7,h8,h9,h10⟩
     · subst h4;simp at hk
     · simp only at h3;subst h3;refine .inr ⟨b',cap,cs',by simp,h2 b' _ (by omega) h4,h5,by simpa using h6,h7,h8,fun d hd=>?_,fun q d hd=>?_⟩
       · rcases List.mem_or_eq_of_mem_set hd with h | h
         · exact h9 d h
         · subst h;have:=h9 _ (List.mem_of_getElem? hk);exact this
       · rw[k7 hcs'] at hd;rw[k7 hc1] at h10;by_cases hq:q=k
         · subst hq;rw[List.getElem?_set_self hkl] at hd;cases hd;obtain ⟨_,u,hu,hru⟩:=h10 q _ hk;have:=(Rd.im hru).1;subst this;refine⟨rfl,_,hu,?_⟩;rcases hL i _ hi with h | ⟨_,_,h⟩
           · cases h
           · rcases h with ⟨base,h3,h4⟩ | ⟨b2,cap2,cs2,g3,g4,g5,g6,g7,g8,g9,g10⟩
             · simp only at h3 h4;subst h3;subst h4;exact .nil (Nat.zero_le _)
             · simp only at g3;subst g3;refine Rd.kj (off:=0) ⟨by simp only[O',g4];simp,(hOr b2 _ g4).fw hR.f0⟩ g5 g6 g7 g9 (fun m d hd=>?_);obtain ⟨f1,u,f2,f3⟩:=g10 m d hd;exact⟨f1,u,by simpa using f2,f3.mono hF (fun _ _=>rfl)⟩
         · rw[List.getElem?_set_ne (Ne.symm hq)] at hd;obtain ⟨f1,u,f2,f3⟩:=h10 q d hd;exact⟨f1,u,f2,f3.mono hF (fun _ _=>rfl)⟩
   · have hr:=hC hmj hr;by_cases hmi:m=i
     · subst hmi;rw[List.getElem?_set_self hil] at hr;cases hr;exact .inl rfl
     · have:=hC hmi hr;rcases hL m r this with h | ⟨g1,g2,g3⟩
       · exact .inl h
       · exact .inr ⟨g1,g2,g3.move (fun c hc=>⟨hF c hc,rfl⟩) (fun _ c hc=>⟨h2 c _ (by omega) hc,rfl⟩) (fun k _ x _ hk=>by cases hk)⟩
theorem AZ.EJ(hT:a7 P T)(i j k:Nat){V Vo:Value}{e eo:Nat}{te:TI}{xs cs:List D}(hj:R[j]?=some (Vo,.ow eo cs))(hc1: ∀d,d∈cs→d.flat=[d])(hk:cs[k]?=some (.v V))(hi:R[i]?=some (V,.ow e xs))(hij:i≠j)(he:T.get e=some te)
  (h:AZ P B F0 w0 n x Q ((R.set i (V,.junk)).set j (Vo,.ow eo (cs.set k (.sl te.size xs)))) σ):AZ P B F0 w0 n x Q R σ:=by
 obtain ⟨info,d,z,hok⟩:=hT e te he;intro a w hR;have:=hR.EJ hj hc1 hk hi hij;rw[hok.cellsOf] at this;exact h a w this
theorem ai.wu(t i:Nat){av:AV}(ht:σ.get t=some av)(hrow:av.row.isSome=true)(htag:av.tag=false)(hi:Nat.ble (i+1) R.length=true)(h: ∀V:Value,ai P B F0 w0 n all l K p (R.set i (V,av)) ((t,.d (.v V))::σ.kill t)):ai P B F0 w0 n all l K p R σ:=by
 intro a w hR hpin Q hQ;obtain ⟨O,_,hO,_⟩:=hR.own;obtain ⟨V,hV,_⟩:=hO t _ ht;exact h V a w (hR.fT (i:=i) ht hrow htag hV (List.getElem?_set_self (Nat.le_of_ble_eq_true hi)) (fun j r hj hr=>hC hj hr)) hpin Q hQ
theorem ah{K:List LR→St→Prop}(h: ∀B1 F1 w1,sf P B1 F1 w1 R→aa P B1 F1 w1 n ops [o] (fun σ'=>σ'.eZ=true∧K R σ') σ):ai P B F0 w0 n ops [o] K [] R σ :=
 ai.Gt 1 rfl (fun B1 F1 w1 hS=>by
  have:=h B1 F1 w1 hS
  refine fun a w hR Q hQ=>this a w hR Q (fun a' w' σ' ⟨h1,h2⟩ hR'=>hQ a' w' σ' ⟨h1,ai.nil h2⟩ hR'))
end
section
variable {P:Program} {T:Ty} {B:Nat} {F0:Nat→Prop} {w0:bS} {n:Nat} {σ:St} {R:List LR} {ops:Array Oper} {o1 o2 o3 o4:Oper} {Q:Exit→List LR→St→Prop} {β:fe} {fuel:Nat} {listed:Array Bool}
end
end Lift
