/- Parts of the proof, one behind the other: the logic, the contracts of the functions that the statement reaches. -/
import Derived.Test.YtfakkdmfofiibaaGreatT3C
import Derived.Laws.StructEq
set_option linter.unusedVariables false
set_option linter.unusedSimpArgs false
namespace Lift
open Go Go.Proofs
section
variable {P:Program} {T:Ty} {B:Nat} {F0:Nat→Prop} {w0:bW} {n:Nat} {σ τ:St} {K:St→Prop} {all:Array Oper} {o:Oper} {d:Nat} {rest:List Oper}
theorem ab.D4(hT:bd P T)(z:Nat){e:Nat}{te:TI}{m:Int}(hd:o.dst=some d)(hdn:Nat.ble (d+1) n=true)(hg:aA all σ o=true)(hx:FR T σ.get o.op=some (e,te,m))(hz:ky te=true)(hzd:tA te= .ag [.v (.bool false),.sl 1 [],.sl 1 []])(hb:te.bytes=56)(hm:m=z)(h1:z≤1000000)
  (h:ab P B F0 w0 n all rest K ((d,.ow e (dH (List.replicate z 0)))::σ.kill d)):ab P B F0 w0 n all (o::rest) K σ:=by
 subst hm;refine ab.make hT hd hdn hg hx hz (by omega) (by rw[hb];omega) (by omega) ?_;have hq:(Qr 0).D= .ag [.v (.bool false),.sl 1 [],.sl 1 []]:=by rw[iW];rfl
 rw[hzd,← hq,show List.replicate ((z:Int)).toNat (Qr 0).D=dH (List.replicate z 0) by rw[dH,List.map_replicate];rfl];exact h
theorem An(a:NQ)(m:Nat):(dH a).take (min (dH a).length (dH (List.replicate m 0)).length)++(dH (List.replicate m 0)).drop (min (dH a).length (dH (List.replicate m 0)).length)=dH (aW a m):=by
 rw[List.length_map,List.length_map,List.length_replicate,← List.map_take,← List.map_drop,← List.map_append];unfold aW;rw[List.drop_replicate]
 congr 2
 · by_cases h:a.length≤m
   · rw[Nat.min_eq_left h,List.take_of_length_le (Nat.le_refl _),List.take_of_length_le h]
   · rw[Nat.min_eq_right (by omega)]
 · congr 1;omega
theorem ab.F8(hT:bd P T){h e m:Nat}{a:NQ}(hd:o.dst=some d)(hdn:Nat.ble (d+1) n=true)(hg:aA all σ o=true)(hx:Gt T σ o.op=some (h,e,dH (List.replicate m 0),dH a))
  (hk: ∀z,ab P B F0 w0 n all rest K ((d,.d (.v (.int .i64 z)))::(h,.ow e (dH (aW a m)))::σ)):ab P B F0 w0 n all (o::rest) K σ:=by
 refine ab.B9 hT hd hdn hg hx ?_;rw[An];exact hk _
end
theorem yb{a b:NQ}(h:a.length=b.length)(h2: ∀i,i<a.length→a.getD i 0=b.getD i 0):a=b:=by
 refine List.ext_getElem h (fun i h3 h4=>?_);have:=h2 i h3;rw[List.getD_eq_getElem?_getD,List.getD_eq_getElem?_getD,List.getElem?_eq_getElem h3,List.getElem?_eq_getElem h4] at this;exact this
theorem yu(r:NQ)(i j:Nat)(q:Rat):(r.set i q).getD j 0=if j=i∧i<r.length then q else r.getD j 0:=by
 rw[List.getD_eq_getElem?_getD,List.getElem?_set,List.getD_eq_getElem?_getD];by_cases e:i=j
 · subst e;by_cases h:i<r.length
   · rw[if_pos rfl,if_pos h,if_pos ⟨rfl,h⟩];rfl
   · rw[if_pos rfl,if_neg h,if_neg (fun e=>h e.2),List.getElem?_eq_none (by omega)]
 · rw[if_neg e,if_neg (fun h=>e h.1.symm)]
def Bf(r:NQ)(res:D)(R':List LR):Prop:= ∃V,res= .v V∧R'=[(V,AV.ow 111 (dH r))]
theorem fX(a:NQ)(n:Nat)(hn:n≤1000000):lH Tryz.prog 125 [af a,dI n] [] (Bf (aW a n)):=by
 refine lH.intro (n:=12) tok Tryz.func125 rfl rfl rfl (Nat.le_of_ble_eq_true rfl) (by kernel_rfl) (fun B F0 w0=>?_);refine AZ.seq ?_;refine AZ.gH (fun B1 F1 w1=>?_);refine qU 1 rfl ?_;refine ab.nil ⟨rfl,?_⟩;refine AZ.seq ?_;refine AZ.gH (fun B1 F1 w1=>?_);refine qU 1 rfl ?_;refine ab.D4 tok n rfl rfl rfl rfl rfl rfl rfl rfl hn ?_;refine qU 1 rfl ?_;refine ab.nil ⟨rfl,?_⟩;refine AZ.seq ?_;refine AZ.gH (fun B1 F1 w1=>?_);refine qU 2 rfl ?_;refine ab.F8 tok (a:=a) (m:=n) rfl rfl rfl rfl (fun z=>?_);refine ab.nil ⟨rfl,?_⟩;refine AZ.seq ?_;refine AZ.gH (fun B1 F1 w1=>?_);refine qU 2 rfl ?_;refine ab.nil ⟨rfl,?_⟩;refine AZ.jb 4 rfl rfl rfl (fun V=>AZ.ret ⟨.v V,rfl,V,rfl,rfl⟩)
theorem dO(a:NQ){k:Nat}(hs:aq k a)(hk:k≤17300000000000)(hl:a.length≤1000000):Pure Tryz.prog 86 [af a] (af (aM a)):=by
 refine qJ 23 Tryz.func86 rfl rfl rfl rfl (by kernel_rfl) (fun B F0 w0=>?_);refine qX 1 rfl ?_;refine qK 2 rfl ?_;rw[List.length_map];refine ab.D4 tok a.length rfl rfl rfl rfl rfl rfl rfl rfl hl ?_;refine qU 1 rfl ?_;refine qI ?_;refine qX 2 rfl ?_;rw[List.length_map];refine qU 1 rfl ?_;refine ab.nil ?_;refine AW.block ?_;refine AW.aE [0,3,9,10] (fun s:Nat×NQ=>[(0,.d (af a)),(3,.ow 111 (dH s.2)),(9,.d (dI a.length)),(10,.d (dI s.1))]) (fun s=>s.2.length=a.length∧ ∀j,j<s.1→j<a.length→s.2.getD j 0= -a.getD j 0) (fun s=>a.length-s.1) (0,List.replicate a.length 0) rfl ⟨List.length_replicate,fun j h=>by omega⟩ (fun s hi=>?_)
 · obtain ⟨i,r⟩:=s;obtain ⟨hrl,hi⟩:=hi;simp only[] at hrl hi;show AW _ _ _ _ _ _ _ [(0,.d (af a)),(3,.ow 111 (dH r)),(9,.d (dI a.length)),(10,.d (dI i))];refine qX 1 rfl ?_;refine qI ?_;refine AW.cond rfl (fun h=>?_) (fun h=>?_)
   · have hii:i<a.length:=by have:=of_decide_eq_true h;omega
     have g:=kq hii;have cn:=qb (Qr (a.getD i 0)) (jD _ (hs i)) hk;rw[cT] at cn;refine AW.skip (AW.seq (AW.block ?_));refine qX 2 rfl ?_;refine ab.nil ?_;refine qT 4 rfl ?_;refine ab.idx tok (Qr (a.getD i 0)).D rfl rfl rfl rfl (Int.natCast_nonneg i) g ?_;refine qU 1 rfl ?_;refine ab.call tok rfl rfl rfl rfl cn ?_;refine ab.fh tok rfl rfl rfl rfl (Int.natCast_nonneg i) (by rw[List.length_map];show i<_;omega) ?_;refine ab.xG tok (-a.getD i 0) rfl rfl rfl (by show i<_;omega) ?_;refine ab.nil ?_;refine qT 1 rfl ?_;rw[aD (x:=(i:Int)+1) (by omega) (by omega)];refine qU 1 rfl ?_;refine ab.nil ?_;refine⟨(i+1,r.set i (-a.getD i 0)),rfl,⟨by rw[List.length_set];exact hrl,fun j h1 h2=>?_⟩,by show a.length-(i+1)<a.length-i;omega⟩;show (r.set i (-a.getD i 0)).getD j 0=_;rw[yu];by_cases e:j=i
     · rw[if_pos ⟨e,by omega⟩,e]
     · rw[if_neg (fun h=>e h.1)];exact hi j (by omega) h2
   have hii: ¬i<a.length:=by have:=of_decide_eq_false h;omega
   obtain rfl:r=aM a:=yb (by rw[hrl,eT]) (fun j hj=>by rw[mW];exact hi j (by omega) (by omega));refine AW.exit ?_;refine qX 2 rfl ?_;exact qN rfl
theorem EL(a b:Nat):(if (b:Int)>(a:Int) then (b:Int) else (a:Int))=((max a b:Nat):Int):=by
 split<;>omega
theorem cQ(a b:NQ){k:Nat}(ha:aq k a)(hb:aq k b)(hk:k≤17300000000000)(hl:a.length≤1000000)(hl2:b.length≤1000000):Pure Tryz.prog 85 [af a,af b] (af (aK a b)):=by
 refine qJ 37 Tryz.func85 rfl rfl rfl rfl (by kernel_rfl) (fun B F0 w0=>?_);obtain ⟨n,hn⟩: ∃n,n=max a.length b.length:=⟨_,rfl⟩;have cw1:=fX a n (by omega);have cw2:=fX b n (by omega);have l1:=bb a n;have l2:=bb b n;have g1: ∀i,i<n→(aW a n).getD i 0=a.getD i 0:=fun i hi=>by rw[eW,if_pos hi]
 have g2: ∀i,i<n→(aW b n).getD i 0=b.getD i 0:=fun i hi=>by rw[eW,if_pos hi]
 have hpl:(aK a b).length=n:=by rw[gX,hn]
 generalize aW a n=wa at cw1 l1 g1;generalize aW b n=wb at cw2 l2 g2;refine qX 1 rfl ?_;refine qK 4 rfl ?_;rw[List.length_map,List.length_map];refine qU 2 rfl ?_;rw[EL,← hn];refine qI ?_;refine AZ.aw ?_;refine AZ.region ?_;refine ai.cut 2 rfl (fun B1 F1 w1=>?_);refine qU 2 rfl ?_;refine ab.nil ⟨rfl,?_⟩;refine ai.lv tok [] rfl rfl rfl rfl rfl List.nodup_nil rfl cw1 (fun _ _ _=>Nat.zero_le _) (fun res R1 hP=>?_);obtain ⟨V1,rfl,rfl⟩:=hP;refine ai.cut 2 rfl (fun B1 F1 w1=>?_);refine qU 2 rfl ?_;refine ab.nil ⟨rfl,?_⟩;refine ai.lv tok [] rfl rfl rfl rfl rfl List.nodup_nil rfl cw2 (fun _ _ _=>Nat.zero_le _) (fun res R1 hP=>?_);obtain ⟨V2,rfl,rfl⟩:=hP;refine ai.cut 2 rfl (fun B1 F1 w1=>?_);refine qU 2 rfl ?_;refine ab.nil ⟨rfl,?_⟩;refine ai.to [0,1] [(0,.d (.v V1)),(1,.d (.v V2))] rfl ?_;refine ai.fB 0 0 (V:=V1) (av:= .ow 111 (dH wa)) rfl rfl rfl ?_;refine ai.to [0,1] [(0,.ow 111 (dH wa)),(1,.d (.v V2))] rfl ?_;refine ai.fB 1 1 (V:=V2) (av:= .ow 111 (dH wb)) rfl rfl rfl ?_;refine ai.to [0,1] [(0,.ow 111 (dH wa)),(1,.ow 111 (dH wb))] rfl ?_;refine ai.nil ?_;refine AW.gk tok 1 rfl rfl ?_;refine AW.seq ?_;refine qX 2 rfl ?_;rw[List.length_map,l1];refine qU 1 rfl ?_;refine ab.nil ?_;refine AW.block ?_;refine AW.aE [0,1,19,20] (fun s:Nat×NQ=>[(0,.ow 111 (dH s.2)),(1,.d (af wb)),(19,.d (dI n)),(20,.d (dI s.1))]) (fun s=>s.2.length=n∧ ∀j,j<n→s.2.getD j 0=if j<s.1 then a.getD j 0+b.getD j 0 else a.getD j 0) (fun s=>n-s.1) (0,wa) rfl ⟨l1,fun j h=>by rw[if_neg (Nat.not_lt_zero _)];exact g1 j h⟩ (fun s hi=>?_)
 · obtain ⟨i,r⟩:=s;obtain ⟨hrl,hi⟩:=hi;simp only[] at hrl hi;show AW _ _ _ _ _ _ _ [(0,.ow 111 (dH r)),(1,.d (af wb)),(19,.d (dI n)),(20,.d (dI i))];refine qX 1 rfl ?_;refine qI ?_;refine AW.cond rfl (fun h=>?_) (fun h=>?_)
   · have hii:i<n:=by have:=of_decide_eq_true h;omega
     have e1:=kq (r:=r) (i:=i) (by omega);have e2:=kq (r:=wb) (i:=i) (by omega);rw[hi i hii,if_neg (Nat.lt_irrefl _)] at e1;rw[g2 i hii] at e2;have ca:=kj (Qr (a.getD i 0)) (Qr (b.getD i 0)) (jD _ (ha i)) (jD _ (hb i)) hk;rw[cT,cT] at ca;refine AW.skip (AW.seq (AW.block ?_));refine qX 2 rfl ?_;refine ab.nil ?_;refine AW.draw aP 12 (by kernel_rfl) ?_;refine qP 4 rfl ?_;refine ae.fh tok rfl rfl rfl rfl rfl rfl (Int.natCast_nonneg i) (by rw[List.length_map];show i<_;omega) ?_;refine ae.b6 tok (Qr (a.getD i 0)).D rfl rfl rfl rfl rfl e1 rfl ?_;refine qP 2 rfl ?_;refine ae.idx tok (Qr (b.getD i 0)).D rfl rfl rfl rfl rfl (Int.natCast_nonneg i) e2 ?_;refine qP 1 rfl ?_;refine ae.call tok rfl rfl rfl rfl rfl ca ?_;refine ae.fh tok rfl rfl rfl rfl rfl rfl (Int.natCast_nonneg i) (by rw[List.length_map];show i<_;omega) ?_;refine ae.nil ?_;refine ab.xG tok (a.getD i 0+b.getD i 0) rfl rfl rfl (by show i<_;omega) ?_;refine ab.nil ?_;refine qT 1 rfl ?_;rw[aD (x:=(i:Int)+1) (by omega) (by omega)];refine qU 1 rfl ?_;refine ab.nil ?_;refine⟨(i+1,r.set i (a.getD i 0+b.getD i 0)),rfl,⟨by rw[List.length_set];exact hrl,fun j h1=>?_⟩,by show n-(i+1)<n-i;omega⟩;show (r.set i (a.getD i 0+b.getD i 0)).getD j 0=if j<i+1 then _ else _
     rw[yu];by_cases e:j=i
     · rw[if_pos ⟨e,by omega⟩,e,if_pos (by omega)]
     · rw[if_neg (fun h=>e h.1),hi j h1];by_cases h2:j<i
       · rw[if_pos h2,if_pos (by omega)]
       · rw[if_neg h2,if_neg (by omega)]
   have hii: ¬i<n:=by have:=of_decide_eq_false h;omega
   obtain rfl:r=aK a b:=yb (by rw[hrl,hpl]) (fun j hj=>by rw[lT,hi j (by omega),if_pos (by omega)]);refine AW.exit ?_;refine qX 2 rfl ?_;exact qN rfl
theorem iX(a b:NQ)(n:Nat)(hn:n≤100000):Pure Tryz.prog 107 [af a,af b,dI n] (af (dh a b n)):=by
 refine qJ 14 Tryz.func107 rfl rfl rfl rfl (by kernel_rfl) (fun B F0 w0=>?_);have cw1:=fX a n (by omega);have cw2:=fX b n (by omega);have l1:=bb a n;have l2:=bb b n;unfold dh;generalize aW a n=wa at cw1 l1 ⊢;generalize aW b n=wb at cw2 l2 ⊢;refine qX 1 rfl ?_;refine qI ?_;refine AZ.aw ?_;refine AZ.region ?_;refine ai.cut 2 rfl (fun B1 F1 w1=>?_);refine qU 2 rfl ?_;refine ab.nil ⟨rfl,?_⟩;refine ai.lv tok [] rfl rfl rfl rfl rfl List.nodup_nil rfl cw1 (fun _ _ _=>Nat.zero_le _) (fun res R1 hP=>?_);obtain ⟨V1,rfl,rfl⟩:=hP;refine ai.cut 2 rfl (fun B1 F1 w1=>?_);refine qU 2 rfl ?_;refine ab.nil ⟨rfl,?_⟩;refine ai.lv tok [] rfl rfl rfl rfl rfl List.nodup_nil rfl cw2 (fun _ _ _=>Nat.zero_le _) (fun res R1 hP=>?_);obtain ⟨V2,rfl,rfl⟩:=hP;refine ai.to [9,12] [(9,.d (.v V1)),(12,.d (.v V2))] rfl ?_;refine ai.fB 9 0 (V:=V1) (av:= .ow 111 (dH wa)) rfl rfl rfl ?_;refine ai.to [9,12] [(9,.ow 111 (dH wa)),(12,.d (.v V2))] rfl ?_;refine ai.fB 12 1 (V:=V2) (av:= .ow 111 (dH wb)) rfl rfl rfl ?_;refine ai.to [9,12] [(9,.ow 111 (dH wa)),(12,.ow 111 (dH wb))] rfl ?_;refine ai.cut 2 rfl (fun B1 F1 w1=>?_);refine ab.gk tok 12 rfl rfl ?_;refine ab.kt tok rfl rfl rfl rfl rfl rfl (by rw[List.length_map,List.length_map,l1,l2];show (_+_)*56≤_;omega) (by rw[List.length_map,List.length_map,l1,l2];omega) ?_;refine qU 1 rfl ?_;refine ab.nil ⟨rfl,?_⟩;refine ai.nil ?_;rw[show dH wa++dH wb=dH (wa++wb) from List.map_append.symm];exact AW.ret rfl
theorem gl(a:NQ){k:Nat}(hs:aq k a)(hk:k≤17300000000000)(hl:a.length≤1000000):Pure Tryz.prog 103 [af a] (af a):=by
 refine qJ 28 Tryz.func103 rfl rfl rfl rfl (by kernel_rfl) (fun B F0 w0=>?_);refine qX 1 rfl ?_;refine qK 1 rfl ?_;refine qI ?_;refine qX 2 rfl ?_;rw[List.length_map];refine qU 1 rfl ?_;refine ab.nil ?_;refine AW.block ?_;refine AW.aE [3,6,7,8] (fun i:Nat=>[(3,.ow 111 (dH (a.take i))),(6,.d (af a)),(7,.d (dI a.length)),(8,.d (dI i))]) (fun i=>i≤a.length) (fun i=>a.length-i) 0 rfl (Nat.zero_le _) (fun i hi=>?_)
 · have hi:i≤a.length:=hi;show AW _ _ _ _ _ _ _ [(3,.ow 111 (dH (a.take i))),(6,.d (af a)),(7,.d (dI a.length)),(8,.d (dI i))];refine qX 1 rfl ?_;refine qI ?_;refine AW.cond rfl (fun h=>?_) (fun h=>?_)
   · have hii:i<a.length:=by have:=of_decide_eq_true h;omega
     have g:=kq hii;have hw:=jD _ (hs i);have htk:=qS a 0 hii;have hol:(a.take i).length=i:=by rw[List.length_take];omega
     generalize a.getD i 0=q at g hw htk;have hw1:=hw.2.2.1;have hw2:=hw.2.2.2;refine AW.skip (AW.seq (AW.block (AW.seq (AW.region ?_))));refine ab.idx tok (Qr q).D rfl rfl rfl rfl (Int.natCast_nonneg i) g ?_;refine qU 3 rfl ?_;refine ab.nil ?_;refine AW.draw aP 13 (by kernel_rfl) ?_;refine qP 6 rfl ?_;refine ae.lC tok rfl rfl rfl rfl rfl (by show (((Qr q).n.map wd).length)*4≤_;rw[aU];omega) ?_;refine qP 3 rfl ?_;refine ae.lC tok rfl rfl rfl rfl rfl (by show (((Qr q).d.map wd).length)*4≤_;rw[aU];omega) ?_;refine qP 1 rfl ?_;refine ae.fI tok rfl rfl rfl rfl rfl rfl ?_;refine ae.nil ?_;refine ab.kt tok rfl rfl rfl rfl rfl rfl (by rw[List.length_map,hol];show (_+1)*56≤_;omega) (by rw[List.length_map,hol];show _+1≤_;omega) ?_;refine qU 1 rfl ?_;refine ab.nil ?_;refine qT 1 rfl ?_;rw[aD (x:=(i:Int)+1) (by omega) (by omega)];refine qU 1 rfl ?_;refine ab.nil ?_;exact⟨i+1,by rw[htk];show _=[(3,AV.ow _ (List.map _ _)),_,_,_];rw[List.map_append];rfl,hii,by omega⟩
   have hii:i=a.length:=by have:=of_decide_eq_false h;omega
   subst hii;rw[List.take_length];refine AW.exit ?_;refine qX 2 rfl ?_;exact qN rfl
end Lift
namespace Lift
open Go Go.Proofs
section
variable {P:Program} {T:Ty} {B:Nat} {F0:Nat→Prop} {w0:bW} {n:Nat} {σ σ0 τ:St} {K:St→Prop} {all ops:Array Oper} {o:Oper} {d:Nat} {ds:List Nat} {rest:List Oper}
theorem yV(a:NQ)(lo hi:Option Int):((dH a).take (bU (dH a).length hi)).drop (eC lo)=dH ((a.take (bU a.length hi)).drop (eC lo)):=by
 show List.drop _ (List.take (bU (List.map _ a).length hi) (List.map _ a))=List.map _ _;rw[List.map_drop,List.map_take,List.length_map]
theorem ab.ff(hT:bd P T){a:NQ}{lo hi:Option Int}(x:NQ)(hd:o.dst=some d)(hdn:Nat.ble (d+1) n=true)(hg:aA all σ o=true)(hx:zL T σ.get o.op=some (af a,lo,hi))(g1:okB lo)(g2:okB hi)(g3:eC lo≤bU a.length hi)(g4:bU a.length hi≤a.length)(hxx:(a.take (bU a.length hi)).drop (eC lo)=x)
  (h:ab P B F0 w0 n all rest K ((d,.d (af x))::σ)):ab P B F0 w0 n all (o::rest) K σ:=by
 refine ab.CV hT hd hdn hg hx g1 g2 (by rw[List.length_map];exact g3) (by rw[List.length_map];exact g4) ?_;rw[yV,hxx];exact h
theorem ae.ff(hT:bd P T){a:NQ}{lo hi:Option Int}(x:NQ)(hd:o.dst=some d)(hdn:Nat.ble (d+1) n=true)(hg:aA ops τ o=true)(hs:σ0.get d=none)(hx:zL T τ.get o.op=some (af a,lo,hi))(g1:okB lo)(g2:okB hi)(g3:eC lo≤bU a.length hi)(g4:bU a.length hi≤a.length)(hxx:(a.take (bU a.length hi)).drop (eC lo)=x)
  (h:ae P B F0 w0 n ops ds σ0 rest ((d,.d (af x))::τ) K):ae P B F0 w0 n ops ds σ0 (o::rest) τ K:=by
 refine ae.CV hT hd hdn hg hs hx g1 g2 (by rw[List.length_map];exact g3) (by rw[List.length_map];exact g4) ?_;rw[yV,hxx];exact h
end
theorem fH(i:Nat)(h:i≤9223372036854775807):kr true .i64 (i:Int) 2= .int .i64 ((i / 2:Nat):Int):=by
 have e:((i:Int).tdiv ((2:Nat):Int))=((i / 2:Nat):Int):=rfl;show Value.int .i64 (IntKind.i64.wrap ((i:Int).tdiv ((2:Nat):Int)))=_;rw[e,aD (by omega) (by omega)]
theorem zk{rt:List NQ}{i:Nat}(h:i<rt.length):(rt.map af)[i]?=some (af (rt.getD i [])):=by simp[h]
theorem ak.len{l:Nat}{a:NQ}(h:ak l a)(hl:l≤10):a.length≤1024:=Nat.le_trans h.le (Nat.pow_le_pow_right (n:=2) (by decide) hl)
def fL:Nat→NQ→NQ
 | 0,a=>if a9 (a.take 1)=true then [] else a.take 1
 | i+1,a=>if a9 ((a.take (2^(i+1))).drop (2^i))=true then fL i a else a.take (2^(i+1))
def ar(a:NQ):NQ:=if a.length=0 then [] else fL a.length.log2 a
theorem yW: ∀{i:Nat} {a:NQ} {k:Nat},2^i≤a.length→aq k a→ak i (fL i a)∧aq k (fL i a)
 | 0,a,k,h,hs=>by
   unfold fL;split
   · exact⟨bn _,bc hs.pos⟩
   · exact⟨.inr ⟨0,Nat.le_refl _,by rw[List.length_take];have h:1≤a.length:=h;show min 1 _=1;omega⟩,hs.take _⟩
 | i+1,a,k,h,hs=>by
   unfold fL;have e:2^(i+1)=2^i*2:=Nat.pow_succ ..;split
   · have:=yW (i:=i) (a:=a) (by omega) hs;exact⟨this.1.mono (by omega),this.2⟩
   · exact⟨.inr ⟨i+1,Nat.le_refl _,by rw[List.length_take];omega⟩,hs.take _⟩
theorem aT{l k:Nat}{a:NQ}(h:ak l a)(hs:aq k a):ak l (ar a)∧aq k (ar a):=by
 unfold ar;split
 · exact⟨bn _,bc hs.pos⟩
 rename_i h0;rcases h with e | ⟨i,hi,e⟩
 · exact absurd e h0
 rw[e,Nat.log2_two_pow];have:=yW (i:=i) (a:=a) (by omega) hs;exact⟨this.1.mono hi,this.2⟩
theorem bJ(a:NQ){l k:Nat}(ha:ak l a)(hl:l≤5)(hs:aq k a)(hk:k≤17300000000000):Pure Tryz.prog 62 [af a] (af (ar a)):=by
 refine qJ 45 Tryz.func62 rfl rfl rfl rfl (by kernel_rfl) (fun B F0 w0=>?_);have hl10:=ha.len (by omega);rcases ha with h0 | ⟨i,hi,hai⟩
 · obtain rfl:a=[]:=List.length_eq_zero_iff.1 h0;have cl:=kc (dH []) (fun i=>by have:=Nat.two_pow_pos i;show 0≠_;omega) (by decide);have cc:=gl [] hs hk (by decide);refine qX 1 rfl ?_;refine qI ?_;refine qX 1 rfl ?_;refine ab.call tok rfl rfl rfl rfl cl ?_;refine qU 1 rfl ?_;refine qK 11 rfl ?_;refine ab.nil ?_;refine AW.ay rfl ?_;refine AW.skip ?_;refine qX 3 rfl ?_;refine qI (AW.block ?_);refine AW.aE [0,4] (fun _:Unit=>[(0,.d (af [])),(4,.d (dI 0))]) (fun _=>True) (fun _=>0) () rfl trivial (fun _ _=>?_);refine AW.seq ?_;refine qX 10 rfl ?_;refine ab.nil ?_;refine AW.ay rfl ?_;refine AW.exit (AW.seq ?_);refine qX 7 rfl ?_;refine ab.nil ?_;refine AW.ay rfl ?_;refine AW.skip ?_;refine qX 2 rfl ?_;refine ab.ff tok (a:=[]) [] rfl rfl rfl rfl trivial (Int.le_refl _) (Nat.le_refl _) (Nat.le_refl _) rfl ?_;refine ab.call tok rfl rfl rfl rfl cc ?_;refine qU 1 rfl ?_;exact qN rfl
 have cl:=dv (dH a) (by rw[List.length_map];exact hai) (by omega);have hp:=Nat.two_pow_pos i;have hE:ar a=fL i a:=by unfold ar;rw[if_neg (by omega),hai,Nat.log2_two_pow]
 rw[hE];refine qX 1 rfl ?_;refine qI ?_;refine qX 1 rfl ?_;refine ab.call tok rfl rfl rfl rfl cl ?_;refine qU 1 rfl ?_;refine qK 2 rfl ?_;rw[List.length_map];refine qU 1 rfl ?_;rw[decide_eq_true (show (0:Int)<(a.length:Int) by omega)];refine qU 3 rfl ?_;rw[decide_eq_false (show ¬((i:Int)<0) by omega)];refine qU 3 rfl ?_;rw[decide_eq_false (show ¬((5:Int)<(i:Int)) by omega)];refine qU 2 rfl ?_;refine ab.nil ?_;refine AW.ay rfl ?_;refine AW.skip ?_;refine qX 2 rfl ?_;rw[List.length_map,hai];refine qU 1 rfl ?_;refine qI (AW.block ?_);refine AW.aE [0,4] (fun j:Nat=>[(0,.d (af a)),(4,.d (dI (2^j:Nat)))]) (fun j=>j≤i∧fL j a=fL i a) (fun j=>j) i rfl ⟨Nat.le_refl _,rfl⟩ (fun j hj=>?_);obtain ⟨hj,hjE⟩:=hj;show AW _ _ _ _ _ _ _ [(0,.d (af a)),(4,.d (dI (2^j:Nat)))];have hpj:2^j≤2^i:=Nat.pow_le_pow_right (by decide) hj;have hpp:=Nat.two_pow_pos j;refine AW.seq ?_;refine qX 2 rfl ?_;rcases j with _ | j
 · refine qU 8 rfl ?_;refine ab.nil ?_;refine AW.ay rfl ?_;refine AW.exit (AW.seq ?_);refine qX 4 rfl ?_;refine ab.ff tok (a:=a) (a.take 1) rfl rfl rfl rfl trivial (show (0:Int)≤1 by decide) (Nat.zero_le _) (show 1≤a.length by omega) rfl ?_;refine ab.call tok rfl rfl rfl rfl (kD (a.take 1) (by rw[List.length_take];omega)) ?_;refine qU 1 rfl ?_;refine ab.nil ?_;rw[← hjE];unfold fL;cases hz:a9 (a.take 1) with
   | true =>
     rw[if_pos rfl];refine AW.aF rfl ?_;refine qX 1 rfl ?_;exact qN rfl
   | false =>
     rw[if_neg (by simp)];refine AW.ay rfl ?_;refine AW.skip ?_;refine qX 2 rfl ?_;refine ab.ff tok (a:=a) (a.take 1) rfl rfl rfl rfl trivial (show (0:Int)≤1 by decide) (Nat.zero_le _) (show 1≤a.length by omega) rfl ?_;refine ab.call tok rfl rfl rfl rfl (gl (a.take 1) (hs.take 1) hk (by rw[List.length_take];omega)) ?_;refine qU 1 rfl ?_;exact qN rfl
 have e2:2^(j+1)=2^j*2:=Nat.pow_succ ..;have eh:=jq j;rw[decide_eq_true (show (1:Int)<((2^(j+1):Nat):Int) by have:=Nat.two_pow_pos j;omega)];refine qU 3 rfl ?_;refine ab.div tok rfl rfl rfl rfl (by decide) ?_;rw[fH _ (by omega),eh];refine qU 1 rfl ?_;refine ab.ff tok (a:=a) ((a.take (2^(j+1))).drop (2^j)) rfl rfl rfl rfl (Int.natCast_nonneg _) (Int.natCast_nonneg _) (show 2^j≤2^(j+1) by omega) (show 2^(j+1)≤a.length by omega) rfl ?_;refine ab.call tok rfl rfl rfl rfl (kD _ (by rw[List.length_drop,List.length_take];omega)) ?_;refine qU 1 rfl ?_;refine ab.nil ?_;cases hz:a9 ((a.take (2^(j+1))).drop (2^j)) with
 | true =>
   refine AW.aF rfl ?_;refine AW.skip (AW.block ?_);refine qT 1 rfl ?_;refine ab.div tok rfl rfl rfl rfl (by decide) ?_;rw[fH _ (by omega),eh];refine qU 1 rfl ?_;refine ab.nil ?_;exact⟨j,rfl,⟨by omega,by rw[← hjE];show _=if a9 ((a.take (2^(j+1))).drop (2^j))=true then _ else _;rw[if_pos hz]⟩,by omega⟩
 | false =>
 refine AW.ay rfl ?_;refine AW.exit (AW.seq ?_);refine qX 2 rfl ?_;rw[beq_eq_false_iff_ne.2 (show ((2^(j+1):Nat):Int)≠1 by have:=Nat.two_pow_pos j;omega)];refine qU 5 rfl ?_;refine ab.nil ?_;refine AW.ay rfl ?_;refine AW.skip ?_;refine qX 2 rfl ?_;refine ab.ff tok (a:=a) (a.take (2^(j+1))) rfl rfl rfl rfl trivial (Int.natCast_nonneg _) (Nat.zero_le _) (show 2^(j+1)≤a.length by omega) rfl ?_;refine ab.call tok rfl rfl rfl rfl (gl _ (hs.take _) hk (by rw[List.length_take];omega)) ?_;refine qU 1 rfl ?_;refine ab.nil ?_;rw[← hjE];unfold fL;rw[if_neg (by rw[hz];simp)];exact AW.ret rfl
end Lift
namespace Lift
open Go Go.Proofs
abbrev kv(a:NQ):Prop:=aq 17300000000000 a
def Gl(R:NQ→NQ→NQ)(O:NQ→NQ→Prop)(rt:List NQ)(a b:NQ):Prop :=
 kv a∧kv b∧(a.length≠1→a9 a=false→a9 b=false →
  (b.length≤a.length / 2→O (a.take (a.length / 2)) b∧O (a.drop (a.length / 2)) b) ∧
  (¬b.length≤a.length / 2→(O (a.take (a.length / 2)) (b.take (a.length / 2))∧O (a.drop (a.length / 2)) (b.drop (a.length / 2))∧O (R (a.drop (a.length / 2)) (b.drop (a.length / 2))) (rt.getD (a.length.log2-1) []) ∧
   O (a.take (a.length / 2)) (b.drop (a.length / 2))∧O (a.drop (a.length / 2)) (b.take (a.length / 2))) ∧
   kv (R (a.take (a.length / 2)) (b.take (a.length / 2)))∧kv (R (R (a.drop (a.length / 2)) (b.drop (a.length / 2))) (rt.getD (a.length.log2-1) []))∧kv (R (a.take (a.length / 2)) (b.drop (a.length / 2)))∧kv (R (a.drop (a.length / 2)) (b.take (a.length / 2)))))
def wB(R:NQ→NQ→NQ)(O:NQ→NQ→Prop)(rt:List NQ)(a b:NQ):Prop:=if a.length<b.length then Gl R O rt b a else Gl R O rt a b
def zU:Nat→List NQ→NQ→NQ→Prop
 | 0,rt,a,b=>wB (fun _ _=>[]) (fun _ _=>True) rt a b
 | l+1,rt,a,b=>wB (aS l rt) (zU l rt) rt a b
set_option maxHeartbeats 1600000 in
theorem qR{l:Nat}{R:NQ→NQ→NQ}{O:NQ→NQ→Prop}{rt:List NQ}{a b:NQ}(ha:ak l a)(hb:ak l b)(hrt:cu rt)(hl:l≤rt.length)(hl5:rt.length≤10)(hok:wB R O rt a b)
  (hR: ∀l',l=l'+1→ ∀a' b',ak l' a'→ak l' b'→O a' b'→Pure Tryz.prog 63 [bF rt,af a',af b'] (af (R a' b'))∧ak l' (R a' b')):
  Pure Tryz.prog 63 [bF rt,af a,af b] (af (iC (gw R rt) a b)):=by
 refine qJ 100 Tryz.func63 rfl rfl rfl rfl (by kernel_rfl) (fun B F0 w0=>?_);have hla:=ha.len (by omega);have hlb:=hb.len (by omega);unfold wB at hok;refine qX 2 rfl ?_;refine ab.nil ?_;refine AW.cut [1,2,3] (fun s:NQ×NQ=>[(1,.d (af s.1)),(2,.d (af s.2)),(3,.bx [.sl 1 (rt.map af)])]) (fun s=>gw R rt s.1 s.2=iC (gw R rt) a b∧s.2.length≤s.1.length∧ak l s.1∧ak l s.2∧Gl R O rt s.1 s.2) ?_ (fun s hs=>?_)
 · refine qX 4 rfl ?_;rw[List.length_map,List.length_map];refine qU 1 rfl ?_;refine ab.nil ?_;unfold iC;by_cases hab:a.length<b.length
   · rw[decide_eq_true (show (a.length:Int)<(b.length:Int) by omega),if_pos hab];refine AW.aF rfl ?_;refine qT 4 rfl ?_;refine ab.nil ?_;exact⟨(b,a),rfl,rfl,by show a.length≤b.length;omega,hb,ha,by rw[if_pos hab] at hok;exact hok⟩
   · rw[decide_eq_false (show ¬(a.length:Int)<(b.length:Int) by omega),if_neg hab];refine AW.ay rfl ?_;refine AW.skip ?_;exact⟨(a,b),rfl,rfl,by show b.length≤a.length;omega,ha,hb,by rw[if_neg hab] at hok;exact hok⟩
 · obtain ⟨x,y⟩:=s;obtain ⟨hE,hab,ha,hb,sa,sb,hm⟩:=hs;simp only[] at hE hab ha hb sa sb hm;show AW _ _ _ _ _ _ _ [(1,.d (af x)),(2,.d (af y)),(3,.bx [.sl 1 (rt.map af)])];rw[← hE];clear hE;clear hok;generalize x=a at *;generalize y=b at *;have hla:=ha.len (by omega);have hlb:=hb.len (by omega);have cz1:=mu a sa (by omega) (by omega);have cz2:=mu b sb (by omega) (by omega);unfold gw;refine AW.seq (AW.block ?_);refine qX 1 rfl ?_;refine ab.call tok rfl rfl rfl rfl cz1 ?_;cases hza:a9 a with
   | true =>
     rw[if_pos (by rfl)];refine qU 5 rfl ?_;refine ab.nil ?_;refine AW.aF rfl ?_;refine qX 1 rfl ?_;exact qN rfl
   | false =>
   refine qU 2 rfl ?_;refine ab.call tok rfl rfl rfl rfl cz2 ?_;refine qU 2 rfl ?_;refine ab.nil ?_;cases hzb:a9 b with
   | true =>
     rw[if_pos (by rfl)];refine AW.aF rfl ?_;refine qX 1 rfl ?_;exact qN rfl
   | false =>
   rw[if_neg (by decide)];refine AW.ay rfl ?_;refine qX 2 rfl ?_;rw[List.length_map];refine qU 2 rfl ?_;refine ab.nil ?_;have hb0:0<b.length:=List.length_pos_iff.2 (lI hzb);have ha0:0<a.length:=List.length_pos_iff.2 (lI hza);by_cases h1:a.length=1
   · rw[if_pos h1,beq_iff_eq.2 (show (a.length:Int)=1 by omega)];have g1:=kq (r:=a) (i:=0) ha0;have g2:=kq (r:=b) (i:=0) hb0;have cm:=qd (Qr (a.getD 0 0)) (Qr (b.getD 0 0)) (jD _ (sa 0)) (jD _ (sb 0)) (by omega);rw[cT,cT] at cm;refine AW.aF rfl ?_;refine AW.seq ?_;refine AW.draw aP 8 (by kernel_rfl) ?_;refine qP 1 rfl ?_;refine ae.idx tok (Qr (a.getD 0 0)).D rfl rfl rfl rfl rfl (Int.le_refl _) g1 ?_;refine qP 2 rfl ?_;refine ae.idx tok (Qr (b.getD 0 0)).D rfl rfl rfl rfl rfl (Int.le_refl _) g2 ?_;refine qP 1 rfl ?_;refine ae.call tok rfl rfl rfl rfl rfl cm ?_;refine ae.fI tok rfl rfl rfl rfl rfl rfl ?_;refine ae.nil ?_;refine qU 1 rfl ?_;exact qN rfl
   rw[if_neg h1,beq_eq_false_iff_ne.2 (show (a.length:Int)≠1 by omega)];refine AW.ay rfl ?_;refine AW.skip ?_
   obtain ⟨i,hi,hla2⟩: ∃i,i≤l∧a.length=2^i:=by
    rcases ha with e | e
    · omega
    · exact e
   have wU:i≠0:=fun e=>h1 (by rw[hla2,e]);obtain ⟨j,rfl⟩: ∃j,i=j+1:=⟨i-1,by omega⟩;obtain ⟨l',rfl⟩: ∃l',l=l'+1:=⟨l-1,by omega⟩;have hj:j≤l':=by omega
   have hR:=fun a' b' h1 h2 h3=>hR l' rfl a' b' h1 h2 h3;obtain ⟨hm1,hm2⟩:=hm h1 hza hzb;obtain ⟨e1,e2,e3⟩:=bg hla2;have hx:ak l' (a.take (a.length / 2)):= .inr ⟨j,hj,e1⟩;have hy:ak l' (a.drop (a.length / 2)):= .inr ⟨j,hj,e2⟩;have hlog:a.length.log2-1=j:=by rw[hla2,Nat.log2_two_pow];omega
   obtain ⟨n,hn⟩: ∃n,n=a.length / 2:=⟨_,rfl⟩
   have hn2:a.length=n+n:=by
    have:2^(j+1)=2^j*2:=Nat.pow_succ ..;omega
   rw[← hn] at e1 e2 e3 hx hy hm1 hm2 ⊢;refine qX 2 rfl ?_;rw[List.length_map];refine ab.div tok rfl rfl rfl rfl (by decide) ?_;rw[fH _ (by omega),← hn];refine qU 1 rfl ?_;refine qI ?_;refine AW.draw aP 7 (by kernel_rfl) ?_;refine qP 2 rfl ?_;refine ae.ff tok (a:=a) (a.take n) rfl rfl rfl rfl rfl trivial (Int.natCast_nonneg n) (Nat.zero_le _) (show n≤a.length by omega) rfl ?_;refine qP 2 rfl ?_;refine ae.ff tok (a:=a) (a.drop n) rfl rfl rfl rfl rfl (Int.natCast_nonneg n) trivial (show n≤a.length by omega) (Nat.le_refl _) (by show (a.take a.length).drop n=_;rw[List.take_length]) ?_;refine qP 1 rfl ?_;refine ae.nil ?_;refine qU 1 rfl ?_;refine qI ?_;refine qX 2 rfl ?_;rw[List.length_map];refine qU 2 rfl ?_;refine ab.nil ?_;by_cases h3:b.length≤n
   · rw[if_pos h3,decide_eq_true (show (b.length:Int)≤(n:Int) by omega)]
     have hb':ak l' b:=by
      rcases hb with e | ⟨i',_,e⟩
      · exact .inl e
      · refine .inr ⟨i',?_,e⟩;rw[e3,e] at h3;have:=gK h3;omega
     have r1:=hR _ _ hx hb' (hm1 h3).1;have r2:=hR _ _ hy hb' (hm1 h3).2;have cj:=iX (R (a.take n) b) (R (a.drop n) b) n (by omega);refine AW.aF rfl ?_;refine AW.seq ?_;refine AW.draw aP 10 (by kernel_rfl) ?_;refine qP 3 rfl ?_;refine ae.call tok rfl rfl rfl rfl rfl r1.1 ?_;refine qP 3 rfl ?_;refine ae.call tok rfl rfl rfl rfl rfl r2.1 ?_;refine qP 1 rfl ?_;refine ae.call tok rfl rfl rfl rfl rfl cj ?_;refine ae.nil ?_;refine qU 1 rfl ?_;exact qN rfl
   rw[if_neg h3,decide_eq_false (show ¬(b.length:Int)≤(n:Int) by omega)]
   have hlb2:b.length=2^(j+1):=by
    rcases hb with e | ⟨i',_,e⟩
    · omega
    · rw[e] at h3 hab ⊢;rw[hla2] at hab;rw[e3] at h3;have h4:=gK hab;have h5: ¬i'≤j:=fun h=>h3 (Nat.pow_le_pow_right (by decide) h);rw[show i'=j+1 by omega]
   obtain ⟨f1,f2,f3⟩:=bg hlb2;rw[show b.length / 2=n by omega] at f1 f2;have hu:ak l' (b.take n):= .inr ⟨j,hj,f1⟩;have hv:ak l' (b.drop n):= .inr ⟨j,hj,f2⟩;obtain ⟨⟨o1,o2,o5,o3,o4⟩,z1,z5,z3,z4⟩:=hm2 h3;rw[hlog] at o5 z5;have r1:=hR _ _ hx hu o1;have r2:=hR _ _ hy hv o2;have r3:=hR _ _ hx hv o3;have r4:=hR _ _ hy hu o4;rw[hlog];have hd:ak l' (rt.getD j []):= .inr ⟨j,hj,hrt j (by omega)⟩;have r5:=hR _ _ r2.2 hd o5;have n1:=r1.2.len (by omega);have n3:=r3.2.len (by omega);have n4:=r4.2.len (by omega);have n5:=r5.2.len (by omega);have p1:=cQ (R (a.take n) (b.take n)) (R (R (a.drop n) (b.drop n)) (rt.getD j [])) z1 z5 (by omega) (by omega) (by omega);have p2:=cQ (R (a.take n) (b.drop n)) (R (a.drop n) (b.take n)) z3 z4 (by omega) (by omega) (by omega);have cj:=iX (aK (R (a.take n) (b.take n)) (R (R (a.drop n) (b.drop n)) (rt.getD j []))) (aK (R (a.take n) (b.drop n)) (R (a.drop n) (b.take n))) n (by omega);have cl:=dv (dH a) (by rw[List.length_map];exact hla2) (by omega);refine AW.ay rfl ?_;refine AW.skip (AW.seq ?_);refine AW.draw aP 7 (by kernel_rfl) ?_;refine qP 2 rfl ?_;refine ae.ff tok (a:=b) (b.take n) rfl rfl rfl rfl rfl trivial (Int.natCast_nonneg n) (Nat.zero_le _) (show n≤b.length by omega) rfl ?_;refine qP 2 rfl ?_;refine ae.ff tok (a:=b) (b.drop n) rfl rfl rfl rfl rfl (Int.natCast_nonneg n) trivial (show n≤b.length by omega) (Nat.le_refl _) (by show (b.take b.length).drop n=_;rw[List.take_length]) ?_;refine qP 1 rfl ?_;refine ae.nil ?_;refine qU 1 rfl ?_;refine qI ?_;refine AW.draw aP 7 (by kernel_rfl) ?_;refine qP 3 rfl ?_;refine ae.call tok rfl rfl rfl rfl rfl cl ?_;refine qP 1 rfl ?_;rw[aD (x:=((j+1:Nat):Int) -1) (by omega) (by omega),show ((j+1:Nat):Int) -1=(j:Int) by omega];refine ae.idx tok (af (rt.getD j [])) rfl rfl rfl rfl rfl (Int.natCast_nonneg j) (zk (by omega)) ?_;refine qP 1 rfl ?_;refine ae.nil ?_;refine qU 1 rfl ?_;refine qI ?_;refine AW.draw aP 12 (by kernel_rfl) ?_;refine qP 3 rfl ?_;refine ae.call tok rfl rfl rfl rfl rfl r1.1 ?_;refine qP 4 rfl ?_;refine ae.call tok rfl rfl rfl rfl rfl r2.1 ?_;refine qP 1 rfl ?_;refine ae.call tok rfl rfl rfl rfl rfl r5.1 ?_;refine ae.call tok rfl rfl rfl rfl rfl p1 ?_;refine ae.nil ?_;refine qU 1 rfl ?_;refine qI ?_;refine AW.draw aP 12 (by kernel_rfl) ?_;refine qP 4 rfl ?_;refine ae.call tok rfl rfl rfl rfl rfl r3.1 ?_;refine qP 3 rfl ?_;refine ae.call tok rfl rfl rfl rfl rfl r4.1 ?_;refine ae.call tok rfl rfl rfl rfl rfl p2 ?_;refine qP 1 rfl ?_;refine ae.call tok rfl rfl rfl rfl rfl cj ?_;refine ae.nil ?_;refine qU 1 rfl ?_;exact qN rfl
theorem bQ: ∀(l:Nat) {rt:List NQ} {a b:NQ},ak l a→ak l b→cu rt→l≤rt.length→rt.length≤10→zU l rt a b→Pure Tryz.prog 63 [bF rt,af a,af b] (af (aS l rt a b))
 | 0,rt,a,b,ha,hb,hrt,hl,hl5,hok=>qR (O:=fun _ _=>True) ha hb hrt hl hl5 hok (fun l' h=>by omega)
 | l+1,rt,a,b,ha,hb,hrt,hl,hl5,hok=>qR (O:=zU l rt) ha hb hrt hl hl5 hok (fun l' e a' b' h1 h2 h3=>by
    obtain rfl:l=l':=by omega
    obtain ⟨K,k1,k2,k3⟩:=tH a' b' rt
    exact⟨bQ l h1 h2 hrt (by omega) hl5 h3,(dP l h1 h2 hrt (by omega) k1 k2 k3).1⟩)
theorem u6{l k:Nat}{R:NQ→NQ→NQ}{O:NQ→NQ→Prop}{rt:List NQ}{a b:NQ}(ha:ak l a)(hb:ak l b)(hab:b.length≤a.length)(hrt:cu rt)(hl:l≤rt.length)(sa:aq k a)(sb:aq k b)(sr:ed k rt)(hk:sT l k≤17300000000000)
  (hR: ∀l',l=l'+1→ ∀a' b' m,k≤m→ak l' a'→ak l' b'→aq m a'→aq m b'→sT l' m≤17300000000000→O a' b'∧ak l' (R a' b')∧aq (sT l' m) (R a' b')):Gl R O rt a b:=by
 have hk1:=sa.pos;have h2:=bz l k;refine⟨sa.mono (by omega),sb.mono (by omega),fun h1 hza hzb=>?_⟩;have hb0:0<b.length:=List.length_pos_iff.2 (lI hzb);have ha0:0<a.length:=List.length_pos_iff.2 (lI hza)
 obtain ⟨i,hi,hla⟩: ∃i,i≤l∧a.length=2^i:=by
  rcases ha with e | e
  · omega
  · exact e
 have wU:i≠0:=fun e=>h1 (by rw[hla,e]);obtain ⟨j,rfl⟩: ∃j,i=j+1:=⟨i-1,by omega⟩;obtain ⟨l',rfl⟩: ∃l',l=l'+1:=⟨l-1,by omega⟩;have hj:j≤l':=by omega
 have hR:=fun a' b' m h1 h2 h3 h4 h5=>hR l' rfl a' b' m h1 h2 h3 h4 h5;obtain ⟨e1,e2,e3⟩:=bg hla;have hx:ak l' (a.take (a.length / 2)):= .inr ⟨j,hj,e1⟩;have hy:ak l' (a.drop (a.length / 2)):= .inr ⟨j,hj,e2⟩;have hs0:=bz l' k;have hs1:=bz l' (sT l' k);have hk:sT l' (sT l' k)+sT l' k+1≤17300000000000:=hk;refine⟨fun h3=>?_,fun h3=>?_⟩
 · have hb':ak l' b:=by
    rcases hb with e | ⟨i',_,e⟩
    · exact .inl e
    · refine .inr ⟨i',?_,e⟩;rw[e3,e] at h3;have:=gK h3;omega
   exact⟨(hR _ _ k (Nat.le_refl _) hx hb' (sa.take _) sb (by omega)).1,(hR _ _ k (Nat.le_refl _) hy hb' (sa.drop _) sb (by omega)).1⟩
 have hlb:b.length=2^(j+1):=by
  rcases hb with e | ⟨i',_,e⟩
  · omega
  · rw[e] at h3 hab ⊢;rw[hla] at hab;rw[e3] at h3;have h4:=gK hab;have h5: ¬i'≤j:=fun h=>h3 (Nat.pow_le_pow_right (by decide) h);rw[show i'=j+1 by omega]
 obtain ⟨f1,f2,f3⟩:=bg hlb;rw[show b.length / 2=a.length / 2 by rw[f3,e3]] at f1 f2;have hu:ak l' (b.take (a.length / 2)):= .inr ⟨j,hj,f1⟩;have hv:ak l' (b.drop (a.length / 2)):= .inr ⟨j,hj,f2⟩;have r1:=hR _ _ k (Nat.le_refl _) hx hu (sa.take _) (sb.take _) (by omega);have r2:=hR _ _ k (Nat.le_refl _) hy hv (sa.drop _) (sb.drop _) (by omega);have r3:=hR _ _ k (Nat.le_refl _) hx hv (sa.take _) (sb.drop _) (by omega);have r4:=hR _ _ k (Nat.le_refl _) hy hu (sa.drop _) (sb.take _) (by omega);have hlog:a.length.log2-1=j:=by rw[hla,Nat.log2_two_pow];omega
 have hd:ak l' (rt.getD (a.length.log2-1) []):= .inr ⟨j,hj,by rw[hlog];exact hrt j (by omega)⟩;have r5:=hR _ _ (sT l' k) (by omega) r2.2.1 hd r2.2.2 ((sr _).mono (by omega)) (by omega);exact⟨⟨r1.1,r2.1,r5.1,r3.1,r4.1⟩,r1.2.2.mono (by omega),r5.2.2.mono (by omega),r3.2.2.mono (by omega),r4.2.2.mono (by omega)⟩
theorem oP: ∀(l:Nat) {k:Nat} {rt:List NQ} {a b:NQ},ak l a→ak l b→cu rt→l≤rt.length→aq k a→aq k b→ed k rt→sT l k≤17300000000000→zU l rt a b
 | 0,k,rt,a,b,ha,hb,hrt,hl,sa,sb,sr,hk=>by
   show wB _ _ rt a b;unfold wB;split
   · exact u6 hb ha (by omega) hrt hl sb sa sr hk (fun l' h=>by omega)
   · exact u6 ha hb (by omega) hrt hl sa sb sr hk (fun l' h=>by omega)
 | l+1,k,rt,a,b,ha,hb,hrt,hl,sa,sb,sr,hk=>by
   show wB (aS l rt) (zU l rt) rt a b;unfold wB
   have ih: ∀l',l+1=l'+1→ ∀a' b' m,k≤m→ak l' a'→ak l' b'→aq m a'→aq m b'→sT l' m≤17300000000000→zU l rt a' b'∧ak l' (aS l rt a' b')∧aq (sT l' m) (aS l rt a' b'):=fun l' e a' b' m hm h1 h2 h3 h4 h5=>by
    obtain rfl:l=l':=by omega
    exact⟨oP l h1 h2 hrt (by omega) h3 h4 (sr.mono hm) h5,dP l h1 h2 hrt (by omega) h3 h4 (sr.mono hm)⟩
   split
   · exact u6 hb ha (by omega) hrt hl sb sa sr hk ih
   · exact u6 ha hb (by omega) hrt hl sa sb sr hk ih
end Lift
namespace Lift
open Go Go.Proofs
def eA(l:Nat)(rt:List NQ)(a:NQ):NQ :=
 aK (aS l rt (a.take (a.length / 2)) (a.take (a.length / 2))) (aM (aS l rt (aS l rt (a.drop (a.length / 2)) (a.drop (a.length / 2))) (rt.getD (a.length.log2-1) [])))
def sV(R:NQ→Int)(N:NQ→NQ)(rt:List NQ)(a:NQ):Int :=
 if a.length=0 then 0 else if a.length=1 then ji (a.getD 0 0) else
 if R (rt.getD (a.length.log2-1) [])=0 then R (a.take (a.length / 2)) else
 if R (a.take (a.length / 2))=R (a.drop (a.length / 2))∨R (a.drop (a.length / 2))=0 then R (a.take (a.length / 2)) else
 if R (a.take (a.length / 2))=0 then R (a.drop (a.length / 2)) else R (a.take (a.length / 2))*R (N a)
def dy:Nat→List NQ→NQ→Int
 | 0,rt,a=>sV (fun _=>0) (fun a=>a) rt (ar a)
 | l+1,rt,a=>sV (dy l rt) (eA l rt) rt (ar a)
def nM:Nat→Nat→Prop
 | 0,k=>k≤17300000000000
 | l+1,k=>sT (l+1) k≤17300000000000∧nM l (sT (l+1) k)
theorem wC: ∀{l k m:Nat},nM l k→m≤k→nM l m
 | 0,k,m,h,hm=>Nat.le_trans hm h
 | l+1,k,m,h,hm=>⟨Nat.le_trans (qj hm) h.1,wC h.2 (qj hm)⟩
theorem rD: ∀{l k:Nat},nM l k→k≤17300000000000
 | 0,k,h=>h
 | l+1,k,h=>by have:=bz (l+1) k;have:=h.1;omega
theorem ij{l k:Nat}(h:nM (l+1) k):nM l k:=wC h.2 (by have:=bz (l+1) k;omega)
def tD(z:Int):Prop:=z=0∨z=1∨z= -1
theorem jM{x y:Int}(hx:tD x)(hy:tD y):tD (x*y):=by
 unfold tD at *;rcases hx with rfl | rfl | rfl<;>rcases hy with rfl | rfl | rfl<;>decide
theorem vY{R:NQ→Int}{N:NQ→NQ}{rt:List NQ}{a:NQ}(hR: ∀b,tD (R b)):tD (sV R N rt a):=by
 unfold sV;split
 · exact .inl rfl
 split
 · exact eY _
 split
 · exact hR _
 split
 · exact hR _
 split
 · exact hR _
 · exact jM (hR _) (hR _)
theorem lQ: ∀(l:Nat) (rt:List NQ) (a:NQ),tD (dy l rt a)
 | 0,rt,a=>vY (fun _=> .inl rfl)
 | l+1,rt,a=>vY (fun b=>lQ l rt b)
theorem qq{l k j:Nat}{rt:List NQ}{a:NQ}(hj:j≤l)(ha:a.length=2^(j+1))(hrt:cu rt)(hl:l<rt.length)(sa:aq k a)(sr:ed k rt):ak l (eA l rt a)∧aq (sT (l+1) k) (eA l rt a):=by
 obtain ⟨e1,e2,e3⟩:=bg ha;have hx:ak l (a.take (a.length / 2)):= .inr ⟨j,hj,e1⟩;have hy:ak l (a.drop (a.length / 2)):= .inr ⟨j,hj,e2⟩;have hlog:a.length.log2-1=j:=by rw[ha,Nat.log2_two_pow];omega
 have hd:ak l (rt.getD j []):= .inr ⟨j,hj,hrt j (by omega)⟩;have h0:=bz l k;have h1:=bz l (sT l k);have r1:=dP l hx hx hrt (by omega) (sa.take _) (sa.take _) sr;have r2:=dP l hy hy hrt (by omega) (sa.drop _) (sa.drop _) sr;have r3:=dP l r2.1 hd hrt (by omega) r2.2 ((sr _).mono (by omega)) (sr.mono (by omega));unfold eA;rw[hlog];refine⟨r1.1.plus r3.1.minus,(r1.2.plus r3.2.minus).mono ?_⟩;show _≤sT l (sT l k)+sT l k+1;omega
def EE(l:Nat)(rt:List NQ)(a:NQ):Prop :=
 zU l rt (a.take (a.length / 2)) (a.take (a.length / 2))∧zU l rt (a.drop (a.length / 2)) (a.drop (a.length / 2))∧zU l rt (aS l rt (a.drop (a.length / 2)) (a.drop (a.length / 2))) (rt.getD (a.length.log2-1) []) ∧
 kv (aS l rt (a.take (a.length / 2)) (a.take (a.length / 2)))∧kv (aS l rt (aS l rt (a.drop (a.length / 2)) (a.drop (a.length / 2))) (rt.getD (a.length.log2-1) []))
theorem qs{l j:Nat}{rt:List NQ}{a:NQ}(hj:j≤l)(ha:a.length=2^(j+1))(hrt:cu rt)(hl:l<rt.length):ak l (eA l rt a):=by
 obtain ⟨K,k1,_,k3⟩:=tH a a rt;exact(qq hj ha hrt hl k1 k3).1
theorem dQ(l:Nat){rt:List NQ}{a b:NQ}(ha:ak l a)(hb:ak l b)(hrt:cu rt)(hl:l≤rt.length):ak l (aS l rt a b):=by
 obtain ⟨K,k1,k2,k3⟩:=tH a b rt;exact(dP l ha hb hrt hl k1 k2 k3).1
theorem kB{l j:Nat}{rt:List NQ}{a:NQ}(hj:j≤l)(ha:a.length=2^(j+1))(hrt:cu rt)(hl:l<rt.length)(hl5:rt.length≤10)(hok:EE l rt a):
  Pure Tryz.prog 109 [bF rt,af a] (af (eA l rt a)):=by
 refine qJ 36 Tryz.func109 rfl rfl rfl rfl (by kernel_rfl) (fun B F0 w0=>?_);obtain ⟨e1,e2,e3⟩:=bg ha;have hx:ak l (a.take (a.length / 2)):= .inr ⟨j,hj,e1⟩;have hy:ak l (a.drop (a.length / 2)):= .inr ⟨j,hj,e2⟩;have hlog:a.length.log2-1=j:=by rw[ha,Nat.log2_two_pow];omega
 have hd:ak l (rt.getD j []):= .inr ⟨j,hj,hrt j (by omega)⟩;obtain ⟨o1,o2,o3,z1,z3⟩:=hok;rw[hlog] at o3 z3;have r1:=dQ l hx hx hrt (by omega);have r2:=dQ l hy hy hrt (by omega);have r3:=dQ l r2 hd hrt (by omega);have c1:=bQ l hx hx hrt (by omega) hl5 o1;have c2:=bQ l hy hy hrt (by omega) hl5 o2;have c3:=bQ l r2 hd hrt (by omega) hl5 o3;have n1:=r1.len (by omega);have n3:=r3.len (by omega);have c4:=dO _ z3 (by omega) (by omega);have c5:=cQ _ _ z1 z3.minus (by omega) (by omega) (by rw[eT];omega);have cl:=dv (dH a) (by rw[List.length_map];exact ha) (by omega);have hp:2^(j+1)≤2^10:=Nat.pow_le_pow_right (by decide) (by omega);unfold eA;rw[hlog];obtain ⟨n,hn⟩: ∃n,n=a.length / 2:=⟨_,rfl⟩;rw[← hn] at e1 e2 e3 hx hy c1 c2 c3 c4 c5 ⊢;refine qX 2 rfl ?_;refine qK 2 rfl ?_;rw[List.length_map];refine ab.div tok rfl rfl rfl rfl (by decide) ?_;rw[fH _ (by omega),← hn];refine qU 1 rfl ?_;refine qI ?_;refine AW.draw aP 7 (by kernel_rfl) ?_;refine qP 2 rfl ?_;refine ae.ff tok (a:=a) (a.take n) rfl rfl rfl rfl rfl trivial (Int.natCast_nonneg n) (Nat.zero_le _) (show n≤a.length by omega) rfl ?_;refine qP 2 rfl ?_;refine ae.ff tok (a:=a) (a.drop n) rfl rfl rfl rfl rfl (Int.natCast_nonneg n) trivial (show n≤a.length by omega) (Nat.le_refl _) (by show (a.take a.length).drop n=_;rw[List.take_length]) ?_;refine qP 1 rfl ?_;refine ae.nil ?_;refine qU 1 rfl ?_;refine qI ?_;refine AW.draw aP 19 (by kernel_rfl) ?_;refine qP 3 rfl ?_;refine ae.call tok rfl rfl rfl rfl rfl c1 ?_;refine qP 4 rfl ?_;refine ae.call tok rfl rfl rfl rfl rfl c2 ?_;refine qP 3 rfl ?_;refine ae.call tok rfl rfl rfl rfl rfl cl ?_;refine qP 1 rfl ?_;rw[aD (x:=((j+1:Nat):Int) -1) (by omega) (by omega),show ((j+1:Nat):Int) -1=(j:Int) by omega];refine ae.idx tok (af (rt.getD j [])) rfl rfl rfl rfl rfl (Int.natCast_nonneg j) (zk (by omega)) ?_;refine qP 1 rfl ?_;refine ae.call tok rfl rfl rfl rfl rfl c3 ?_;refine ae.call tok rfl rfl rfl rfl rfl c4 ?_;refine ae.call tok rfl rfl rfl rfl rfl c5 ?_;refine ae.nil ?_;refine qU 1 rfl ?_;exact qN rfl
theorem Bj{l k j:Nat}{rt:List NQ}{a:NQ}(hj:j≤l)(ha:a.length=2^(j+1))(hrt:cu rt)(hl:l<rt.length)(sa:aq k a)(sr:ed k rt)(hk:sT (l+1) k≤17300000000000):EE l rt a:=by
 obtain ⟨e1,e2,e3⟩:=bg ha;have hx:ak l (a.take (a.length / 2)):= .inr ⟨j,hj,e1⟩;have hy:ak l (a.drop (a.length / 2)):= .inr ⟨j,hj,e2⟩;have hlog:a.length.log2-1=j:=by rw[ha,Nat.log2_two_pow];omega
 have hd:ak l (rt.getD j []):= .inr ⟨j,hj,hrt j (by omega)⟩;have h0:=bz l k;have h1:=bz l (sT l k);have hk:sT l (sT l k)+sT l k+1≤17300000000000:=hk;have r1:=dP l hx hx hrt (by omega) (sa.take _) (sa.take _) sr;have r2:=dP l hy hy hrt (by omega) (sa.drop _) (sa.drop _) sr;have r3:=dP l r2.1 hd hrt (by omega) r2.2 ((sr _).mono (by omega)) (sr.mono (by omega));unfold EE;rw[hlog];exact⟨oP l hx hx hrt (by omega) (sa.take _) (sa.take _) sr (by omega),oP l hy hy hrt (by omega) (sa.drop _) (sa.drop _) sr (by omega),oP l r2.1 hd hrt (by omega) r2.2 ((sr j).mono (by omega)) (sr.mono (by omega)) (by omega),r1.2.mono (by omega),r3.2.mono (by omega)⟩
def FK(O:NQ→Prop)(N:NQ→NQ)(Nk:NQ→Prop)(rt:List NQ)(s:NQ):Prop:=s.length≠0→s.length≠1 →
 O (s.take (s.length / 2))∧O (s.drop (s.length / 2))∧O (rt.getD (s.length.log2-1) [])∧Nk s∧O (N s)
def Bk:Nat→List NQ→NQ→Prop
 | 0,rt,a=>kv a
 | l+1,rt,a=>kv a∧FK (Bk l rt) (eA l rt) (EE l rt) rt (ar a)
theorem mT: ∀(l:Nat) {k:Nat} {rt:List NQ} {a:NQ},ak l a→cu rt→l≤rt.length→aq k a→ed k rt→nM l k→Bk l rt a
 | 0,k,rt,a,ha,hrt,hl,sa,sr,hok=>sa.mono (Nat.le_trans hok (by decide))
 | l+1,k,rt,a,ha,hrt,hl,sa,sr,hok=>by
   have hk:=rD hok;refine⟨sa.mono (by omega),fun h0 h1=>?_⟩;obtain ⟨ha,sa⟩:=aT ha sa;generalize ar a=b at ha sa h0 h1 ⊢
   obtain ⟨i,hi,hla⟩: ∃i,i≤l+1∧b.length=2^i:=by
    rcases ha with e | e
    · omega
    · exact e
   have wU:i≠0:=fun e=>h1 (by rw[hla,e]);obtain ⟨j,rfl⟩: ∃j,i=j+1:=⟨i-1,by omega⟩;have hj:j≤l:=by omega
   obtain ⟨e1,e2,e3⟩:=bg hla;have hx:ak l (b.take (b.length / 2)):= .inr ⟨j,hj,e1⟩;have hy:ak l (b.drop (b.length / 2)):= .inr ⟨j,hj,e2⟩;have hlog:b.length.log2-1=j:=by rw[hla,Nat.log2_two_pow];omega
   have hd:ak l (rt.getD (b.length.log2-1) []):= .inr ⟨j,hj,by rw[hlog];exact hrt j (by omega)⟩;have hn:=qq hj hla hrt (by omega) sa sr;have h2:=bz (l+1) k;have h3:=hok.1;exact⟨mT l hx hrt (by omega) (sa.take _) sr (ij hok),mT l hy hrt (by omega) (sa.drop _) sr (ij hok),mT l hd hrt (by omega) (sr _) sr (ij hok),Bj hj hla hrt (by omega) sa sr (by omega),mT l hn.1 hrt (by omega) hn.2 (sr.mono (by omega)) hok.2⟩
theorem Bk.sz{l:Nat}{rt:List NQ}{a:NQ}(h:Bk l rt a):kv a:=by
 cases l with
 | zero=>exact h
 | succ l=>exact h.1
set_option maxHeartbeats 1600000 in
theorem tL{l:Nat}{R:NQ→Int}{O:NQ→Prop}{N:NQ→NQ}{Nk:NQ→Prop}{rt:List NQ}{a:NQ}(ha:ak l a)(hl5:l≤5)(hrt:cu rt)(hl:l≤rt.length)(hl10:rt.length≤10)(sa:kv a)(hok:l≠0→FK O N Nk rt (ar a))
  (hR: ∀l',l=l'+1→ ∀b,ak l' b→O b→Pure Tryz.prog 64 [bF rt,af b] (dI (R b))) (hT: ∀b,tD (R b))
  (hN: ∀l',l=l'+1→ ∀b j,j≤l'→b.length=2^(j+1)→Nk b→Pure Tryz.prog 109 [bF rt,af b] (af (N b))∧ak l' (N b)):
  Pure Tryz.prog 64 [bF rt,af a] (dI (sV R N rt (ar a))):=by
 refine qJ 64 Tryz.func64 rfl rfl rfl rfl (by kernel_rfl) (fun B F0 w0=>?_);have cs:=bJ a ha hl5 sa (by omega);obtain ⟨ha,sa⟩:=aT ha sa;generalize ar a=b at cs ha sa hok ⊢;have hlb:=ha.len (by omega);unfold sV;refine qX 2 rfl ?_;refine qK 1 rfl ?_;refine ab.call tok rfl rfl rfl rfl cs ?_;refine qU 1 rfl ?_;refine qI ?_;refine qX 2 rfl ?_;rw[List.length_map];refine qU 1 rfl ?_;refine ab.nil ?_;by_cases h0:b.length=0
 · rw[if_pos h0,h0];refine AW.aF rfl ?_;refine qX 1 rfl ?_;exact qN rfl
 rw[if_neg h0,beq_eq_false_iff_ne.2 (show (b.length:Int)≠0 by omega)];refine AW.ay rfl ?_;refine AW.skip (AW.seq ?_);refine qX 2 rfl ?_;rw[List.length_map];refine qU 1 rfl ?_;refine ab.nil ?_;by_cases h1:b.length=1
 · have g:=kq (r:=b) (i:=0) (by omega);have cq:=jx (Qr (b.getD 0 0)) (jD _ (sa 0)) (by omega);rw[cT,yY] at cq;rw[if_pos h1,h1];refine AW.aF rfl ?_;refine qX 1 rfl ?_;refine ab.idx tok (Qr (b.getD 0 0)).D rfl rfl rfl rfl (Int.le_refl _) g ?_;refine qU 1 rfl ?_;refine ab.call tok rfl rfl rfl rfl cq ?_;refine qU 1 rfl ?_;exact qN rfl
 rw[if_neg h1,beq_eq_false_iff_ne.2 (show (b.length:Int)≠1 by omega)];refine AW.ay rfl ?_;refine AW.skip ?_
 obtain ⟨i,hi,hla2⟩: ∃i,i≤l∧b.length=2^i:=by
  rcases ha with e | e
  · omega
  · exact e
 have wU:i≠0:=fun e=>h1 (by rw[hla2,e]);obtain ⟨j,rfl⟩: ∃j,i=j+1:=⟨i-1,by omega⟩;obtain ⟨l',rfl⟩: ∃l',l=l'+1:=⟨l-1,by omega⟩;have hj:j≤l':=by omega
 have hR:=hR l' rfl;obtain ⟨o1,o2,o3,o4,o5⟩:=hok (by omega) h0 h1;have hN:=hN l' rfl b j hj hla2 o4;obtain ⟨e1,e2,e3⟩:=bg hla2;have hx:ak l' (b.take (b.length / 2)):= .inr ⟨j,hj,e1⟩;have hy:ak l' (b.drop (b.length / 2)):= .inr ⟨j,hj,e2⟩;have hlog:b.length.log2-1=j:=by rw[hla2,Nat.log2_two_pow];omega
 have hd:ak l' (rt.getD j []):= .inr ⟨j,hj,hrt j (by omega)⟩;rw[hlog] at o3;have r1:=hR _ hx o1;have r2:=hR _ hy o2;have r3:=hR _ hd o3;have r4:=hR _ hN.2 o5;have t1:=hT (b.take (b.length / 2));have t2:=hT (b.drop (b.length / 2));have t4:=jM t1 (hT (N b));have cn:=hN.1;have cl:=dv (dH b) (by rw[List.length_map];exact hla2) (by omega);rw[hlog];obtain ⟨n,hn⟩: ∃n,n=b.length / 2:=⟨_,rfl⟩;rw[← hn] at e1 e2 e3 hx hy r1 r2 t1 t2 t4 ⊢;generalize R (b.take n)=x at r1 t1 t4 ⊢;generalize R (b.drop n)=y at r2 t2 ⊢;generalize R (rt.getD j [])=z at r3 ⊢;generalize R (N b)=u at r4 t4 ⊢;refine qX 2 rfl ?_;rw[List.length_map];refine ab.div tok rfl rfl rfl rfl (by decide) ?_;rw[fH _ (by omega),← hn];refine qU 1 rfl ?_;refine qI ?_;refine AW.draw aP 10 (by kernel_rfl) ?_;refine qP 3 rfl ?_;refine ae.ff tok (a:=b) (b.take n) rfl rfl rfl rfl rfl trivial (Int.natCast_nonneg n) (Nat.zero_le _) (show n≤b.length by omega) rfl ?_;refine ae.call tok rfl rfl rfl rfl rfl r1 ?_;refine qP 3 rfl ?_;refine ae.ff tok (a:=b) (b.drop n) rfl rfl rfl rfl rfl (Int.natCast_nonneg n) trivial (show n≤b.length by omega) (Nat.le_refl _) (by show (b.take b.length).drop n=_;rw[List.take_length]) ?_;refine ae.call tok rfl rfl rfl rfl rfl r2 ?_;refine ae.nil ?_;refine qU 2 rfl ?_;refine qI (AW.seq ?_);refine AW.draw aP 10 (by kernel_rfl) ?_;refine qP 4 rfl ?_;refine ae.call tok rfl rfl rfl rfl rfl cl ?_;refine qP 1 rfl ?_;rw[aD (x:=((j+1:Nat):Int) -1) (by omega) (by omega),show ((j+1:Nat):Int) -1=(j:Int) by omega];refine ae.idx tok (af (rt.getD j [])) rfl rfl rfl rfl rfl (Int.natCast_nonneg j) (zk (by omega)) ?_;refine qP 1 rfl ?_;refine ae.call tok rfl rfl rfl rfl rfl r3 ?_;refine qP 1 rfl ?_;refine ae.nil ?_;refine ab.nil ?_;by_cases hz:z=0
 · rw[if_pos hz,beq_iff_eq.2 hz];refine AW.aF rfl ?_;refine qX 2 rfl ?_;exact qN rfl
 rw[if_neg hz,beq_eq_false_iff_ne.2 hz];refine AW.ay rfl ?_;refine AW.skip (AW.seq (AW.block ?_));refine qX 3 rfl ?_;by_cases hxy:x=y
 · rw[if_pos (.inl hxy),beq_iff_eq.2 hxy];refine qU 5 rfl ?_;refine ab.nil ?_;refine AW.aF rfl ?_;refine qX 2 rfl ?_;exact qN rfl
 rw[beq_eq_false_iff_ne.2 hxy];refine qU 3 rfl ?_;by_cases hy0:y=0
 · rw[if_pos (.inr hy0),beq_iff_eq.2 hy0];refine qU 2 rfl ?_;refine ab.nil ?_;refine AW.aF rfl ?_;refine qX 2 rfl ?_;exact qN rfl
 rw[if_neg (fun h=>h.elim hxy hy0),beq_eq_false_iff_ne.2 hy0];refine qU 2 rfl ?_;refine ab.nil ?_;refine AW.ay rfl ?_;refine qX 3 rfl ?_;refine ab.nil ?_;by_cases hx0:x=0
 · rw[if_pos hx0,beq_iff_eq.2 hx0];refine AW.aF rfl ?_;refine qX 2 rfl ?_;exact qN rfl
 rw[if_neg hx0,beq_eq_false_iff_ne.2 hx0];refine AW.ay rfl ?_;refine AW.skip (AW.seq ?_);refine AW.draw aP 7 (by kernel_rfl) ?_;refine qP 4 rfl ?_;refine ae.call tok rfl rfl rfl rfl rfl cn ?_;refine ae.call tok rfl rfl rfl rfl rfl r4 ?_;refine qP 1 rfl ?_;rw[aD (x:=x*u) (by unfold tD at t4;omega) (by unfold tD at t4;omega)];refine ae.nil ?_;refine qU 1 rfl ?_;exact qN rfl
theorem cZ: ∀(l:Nat) {rt:List NQ} {a:NQ},ak l a→l≤5→cu rt→l≤rt.length→rt.length≤10→Bk l rt a→Pure Tryz.prog 64 [bF rt,af a] (dI (dy l rt a))
 | 0,rt,a,ha,hl5,hrt,hl,hl10,hok=>tL (O:=fun _=>True) (Nk:=fun _=>True) ha hl5 hrt hl hl10 hok (fun h=>absurd rfl h) (fun l' h=>by omega) (fun _=> .inl rfl) (fun l' h=>by omega)
 | l+1,rt,a,ha,hl5,hrt,hl,hl10,hok=>tL (O:=Bk l rt) (Nk:=EE l rt) ha hl5 hrt hl hl10 hok.1 (fun _=>hok.2) (fun l' e b h1 h2=>by
    obtain rfl:l=l':=by omega
    exact cZ l h1 (by omega) hrt (by omega) hl10 h2) (lQ l rt) (fun l' e b j h1 h2 h3=>by
    obtain rfl:l=l':=by omega
    exact⟨kB h1 h2 hrt (by omega) hl10 h3,qs h1 h2 hrt (by omega)⟩)
theorem mw(l:Nat){k:Nat}{rt:List NQ}{a:NQ}(ha:ak l a)(hl5:l≤5)(hrt:cu rt)(hl:l≤rt.length)(hl10:rt.length≤10)(sa:aq k a)(sr:ed k rt)(hok:nM l k):Pure Tryz.prog 64 [bF rt,af a] (dI (dy l rt a)) :=
 cZ l ha hl5 hrt hl hl10 (mT l ha hrt hl sa sr hok)
end Lift
namespace Lift
open Go Go.Proofs
abbrev cY(a:List RD):D:= .sl 3 (a.map RD.D)
abbrev TrD(rt:List (List RD)):D:= .ag [.sl 1 (rt.map cY)]
def iT(a:List RD):Bool:=a.all RD.okB
def yh(m n:Nat):Bool:=(List.range (m+1)).any fun i=>decide (n=2^i)
def bB(m:Nat)(a:List RD):Nat:=if a.length≠0∧yh m a.length=false then 10 else if iT a=false then 2 else 0
def bj(a:List RD):NQ:=a.map RD.val
def wN(k:Nat)(a:List RD):Prop:= ∀i,i<a.length→(a.getD i default).w k
def sR(rt:List (List RD))(k:Nat):Nat:=if (rt.getD k []).length≠2^k then 10 else if bB k (rt.getD k [])≠0 then bB k (rt.getD k []) else if dy k ((rt.take k).map bj) (bj (rt.getD k []))<0 then 3 else 0
def cO(rt:List (List RD)):Nat:=if 5<rt.length then 4 else fE (sR rt) (rt.length-0) 0
def oc(rt l:List (List RD)):Nat:=if cO rt≠0 then cO rt else fE (fun i=>bB rt.length (l.getD i [])) (l.length-0) 0
theorem Bo(a:List RD)(i:Nat):(bj a).getD i 0=if i<a.length then (a.getD i default).val else 0:=by
 unfold bj;rw[List.getD_eq_getElem?_getD,List.getElem?_map,List.getD_eq_getElem?_getD];by_cases h:i<a.length
 · rw[if_pos h,List.getElem?_eq_getElem h];rfl
 · rw[if_neg h,List.getElem?_eq_none (by omega)];rfl
theorem kG{a:List RD}{k:Nat}(h:wN k a)(h1:1≤k):aq k (bj a):=fun c=>by
 rw[Bo];split
 · rename_i hc;exact eF (h c hc) h1
 · exact lG h1
theorem js{a:List RD}{k:Nat}(hw:wN k a)(h:iT a=true):cY a=af (bj a):=by
 show D.sl 3 (a.map RD.D)=D.sl 3 (List.map _ (List.map _ a));rw[List.map_map]
 congr 1
 refine List.map_congr_left fun x hx=>?_;obtain ⟨i,hi,rfl⟩:=List.mem_iff_getElem.1 hx;have hi2:=hw i hi;rw[List.getD_eq_getElem?_getD,List.getElem?_eq_getElem hi] at hi2;unfold iT at h;rw[List.all_eq_true] at h;have:=RD.canon hi2 (h _ (List.getElem_mem hi));simp only[Option.getD_some] at this;show (a[i]).D=(Qr (a[i]).val).D;rw[← this]
theorem wF{l:List RD}{i:Nat}(hi:i<l.length)(h:(l.getD i default).okB=false):iT l=false:=Fb hi h
theorem tW{l:List RD}(h: ∀i,i<l.length→(l.getD i default).okB=true):iT l=true:=DN h
theorem vi(m i:Nat):yh m (2^i)=decide (i≤m):=by
 unfold yh;by_cases h:i≤m
 · rw[decide_eq_true h,List.any_eq_true];exact⟨i,List.mem_range.2 (by omega),decide_eq_true rfl⟩
 · rw[decide_eq_false h,List.any_eq_false];intro j hj;have hj:=List.mem_range.1 hj;rw[decide_eq_false]
   · simp
   · intro e;have h1:=gK (Nat.le_of_eq e);omega
theorem Dj{m n:Nat}(h: ∀i,n≠2^i):yh m n=false:=by
 unfold yh;rw[List.any_eq_false];intro j _;rw[decide_eq_false (h j)];simp
theorem Bv{m n:Nat}(h:yh m n=true): ∃i,i≤m∧n=2^i:=by
 unfold yh at h;rw[List.any_eq_true] at h;obtain ⟨i,h1,h2⟩:=h;exact⟨i,by have:=List.mem_range.1 h1;omega,of_decide_eq_true h2⟩
theorem nP{m:Nat}{a:List RD}(h:bB m a=0):ak m (bj a)∧iT a=true:=by
 unfold bB at h;split at h
 · cases h
 rename_i h1;split at h
 · cases h
 rename_i h2;constructor
 · by_cases h0:a.length=0
   · exact .inl (by unfold bj;rw[List.length_map];exact h0)
   · have h3:yh m a.length=true:=by
      cases hv:yh m a.length
      · exact absurd ⟨h0,hv⟩ h1
      · rfl
     obtain ⟨i,h4,h5⟩:=Bv h3;exact .inr ⟨i,h4,by unfold bj;rw[List.length_map];exact h5⟩
 · cases hv:iT a
   · exact absurd hv h2
   · rfl
def yJ(m:Nat)(a:List RD):Prop:= ¬(a.length≠0∧yh m a.length=false)
theorem vb{m:Nat}{a:List RD}(h:bB m a=0):yJ m a:=by
 unfold bB at h;split at h
 · cases h
 · assumption
theorem j9(xs:List D)(a:List RD){k:Nat}(hw:yJ xs.length a→wN k a)(hk:k≤17300000000000)(hl:a.length≤4398046511104)(hx:xs.length≤1000000):Pure Tryz.prog 99 [.ag [.sl 1 xs],cY a] (DB (bB xs.length a)):=by
 refine qJ 34 Tryz.func99 rfl rfl rfl rfl (by kernel_rfl) (fun B F0 w0=>?_);have hno:=fun i hi=>wF (l:=a) (i:=i) hi;have hyes:=tW (l:=a);unfold bB;generalize iT a=E at hno hyes ⊢;refine qX 2 rfl ?_;refine ab.nil ?_;refine AW.cut [1] (fun _:Unit=>[(1,.d (cY a))]) (fun _=> ¬(a.length≠0∧yh xs.length a.length=false)) ?_ (fun _ hs=>?_)
 · refine qX 2 rfl ?_;rw[List.length_map];refine qU 1 rfl ?_;refine ab.nil ?_;by_cases h0:a.length=0
   · rw[h0];refine AW.ay rfl ?_;refine AW.skip ?_;exact⟨(),rfl,fun h=>h.1 rfl⟩
   rw[decide_eq_true (show (0:Int)<(a.length:Int) by omega)];refine AW.aF rfl ?_;by_cases hp: ∃i,a.length=2^i
   · obtain ⟨i,hp⟩:=hp
     have hi:i≤42:=by
      refine gK ?_;rw[← hp];omega
     have cl:=dv (a.map RD.D) (by rw[List.length_map];exact hp) (by omega);rw[hp,vi];refine qX 1 rfl ?_;refine ab.call tok rfl rfl rfl rfl cl ?_;refine qU 1 rfl ?_;refine qK 2 rfl ?_;rw[decide_eq_false (show ¬((i:Int)<0) by omega)];refine qU 6 rfl ?_;by_cases hm:i≤xs.length
     · rw[decide_eq_true hm,decide_eq_false (show ¬((xs.length:Int)<(i:Int)) by omega)];refine qU 1 rfl ?_;refine ab.nil ?_;refine AW.ay rfl ?_;refine AW.skip ?_;exact⟨(),rfl,fun h=>by cases h.2⟩
     · rw[decide_eq_false hm,decide_eq_true (show (xs.length:Int)<(i:Int) by omega),if_pos ⟨by have:=Nat.two_pow_pos i;omega,rfl⟩];refine qU 1 rfl ?_;refine ab.nil ?_;refine AW.aF rfl ?_;refine qX 2 rfl ?_;exact qN rfl
   · have hp: ∀i,a.length≠2^i:=fun i e=>hp ⟨i,e⟩;have cl:=kc (a.map RD.D) (by rw[List.length_map];exact hp) (by rw[List.length_map];omega);rw[if_pos ⟨h0,Dj hp⟩];refine qX 1 rfl ?_;refine ab.call tok rfl rfl rfl rfl cl ?_;refine qU 1 rfl ?_;refine qK 9 rfl ?_;refine ab.nil ?_;refine AW.aF rfl ?_;refine qX 2 rfl ?_;exact qN rfl
 · rw[if_neg hs];have hw:=hw hs;show AW _ _ _ _ _ _ _ [(1,.d (cY a))];refine AW.seq ?_;refine qX 2 rfl ?_;rw[List.length_map];refine qU 1 rfl ?_;refine ab.nil ?_;refine AW.block ?_;refine AW.aE [23,24,25] (fun i:Nat=>[(23,.d (cY a)),(24,.d (dI a.length)),(25,.d (dI i))]) (fun i=>i≤a.length∧ ∀j,j<i→(a.getD j default).okB=true) (fun i=>a.length-i) 0 rfl ⟨Nat.zero_le _,fun j hj=>by omega⟩ (fun i ⟨hi,hall⟩=>?_);refine qX 1 rfl ?_;refine qI ?_;refine AW.cond rfl (fun h=>?_) (fun h=>?_)
   · have hii:i<a.length:=by have:=of_decide_eq_true h;omega
     have hg:=getM RD.D (l:=a) (i:=i) hii;have hno:=hno i hii;have cv:=iV (a.getD i default) (hw i hii) (by omega);refine AW.skip (AW.seq (AW.block (AW.seq (AW.region ?_))));refine ab.idx tok (a.getD i default).D rfl rfl rfl rfl (Int.natCast_nonneg i) hg ?_;refine qU 3 rfl ?_;refine qK 1 rfl ?_;refine ab.call tok rfl rfl rfl rfl cv ?_;refine qU 1 rfl ?_;cases hv:(a.getD i default).okB with
     | false =>
       rw[hno hv,if_pos rfl];refine ab.nil ?_;refine AW.aF rfl ?_;refine qX 2 rfl ?_;exact qN rfl
     | true =>
       refine ab.nil ?_;refine AW.ay rfl ?_;refine AW.skip ?_;refine qT 1 rfl ?_;rw[aD (x:=(i:Int)+1) (by omega) (by omega)];refine qU 1 rfl ?_;refine ab.nil ?_
       exact⟨i+1,rfl,⟨hii,fun j hj=>by
        by_cases e:j=i
        · subst e;exact hv
        · exact hall j (by omega)⟩,by omega⟩
   have hii:i=a.length:=by have:=of_decide_eq_false h;omega
   subst hii;rw[hyes hall,if_neg (by simp)];refine AW.exit ?_;refine qX 1 rfl ?_;exact qN rfl
end Lift
namespace Lift
open Go Go.Proofs
theorem AI(rt:List (List RD))(k:Nat):((rt.map cY).take (bU (rt.map cY).length (some (k:Int)))).drop (eC none)=(rt.take k).map cY:=by
 show ((rt.map cY).take k).drop 0=_;rw[List.drop_zero,List.map_take]
theorem mJ{rt:List (List RD)}{k m:Nat}(hw: ∀i,i<k→wN m (rt.getD i []))(hk:k≤rt.length)(h: ∀j,j<k→iT (rt.getD j [])=true):(rt.take k).map cY=((rt.take k).map bj).map af:=by
 rw[List.map_map];refine List.map_congr_left fun x hx=>?_;obtain ⟨i,hi,rfl⟩:=List.mem_iff_getElem.1 hx;rw[List.length_take] at hi
 have e:(rt.take k)[i]'(by rw[List.length_take];exact hi)=rt.getD i []:=by
  rw[List.getElem_take,List.getD_eq_getElem?_getD,List.getElem?_eq_getElem (by omega)];rfl
 rw[e];exact js (hw i (by omega)) (h i (by omega))
theorem nk{rt:List (List RD)}{k i:Nat}(hi:i<k):((rt.take k).map bj).getD i []=bj (rt.getD i []):=by
 rw[List.getD_eq_getElem?_getD,List.getElem?_map,List.getElem?_take_of_lt hi,List.getD_eq_getElem?_getD];cases rt[i]? with
 | none=>rfl
 | some x=>rfl
theorem zE{rt:List (List RD)}{k i:Nat}(hi:k≤i):((rt.take k).map bj).getD i []=[]:=by
 rw[List.getD_eq_getElem?_getD,List.getElem?_eq_none (by rw[List.length_map,List.length_take];omega)];rfl
theorem eG{rt:List (List RD)}{k:Nat}(hk:k≤rt.length):((rt.take k).map bj).length=k:=by rw[List.length_map,List.length_take];omega
theorem qh{rt:List (List RD)}{k m:Nat}(hw: ∀i,i<k→wN m (rt.getD i []))(h1:1≤m)(hk:k≤rt.length):ed m ((rt.take k).map bj):=fun i=>by
 by_cases h:i<k
 · rw[nk h];exact kG (hw i (by omega)) h1
 · rw[zE (by omega)];exact bc h1
theorem Bn(a:List RD):(bj a).length=a.length:=List.length_map ..
theorem fN{rt:List (List RD)}{k:Nat}(h:sR rt k=0):(rt.getD k []).length=2^k∧iT (rt.getD k [])=true∧ ¬dy k ((rt.take k).map bj) (bj (rt.getD k []))<0:=by
 unfold sR at h;split at h
 · cases h
 rename_i h1;split at h
 · rename_i h2;exact absurd h h2
 rename_i h2;split at h
 · cases h
 rename_i h3;exact⟨by omega,(nP (m:=k) (by omega)).2,h3⟩
theorem jJ{rt:List (List RD)}{k:Nat}(hk:k≤rt.length)(h: ∀j,j<k→sR rt j=0):cu ((rt.take k).map bj):=fun j hj=>by
 rw[eG hk] at hj;rw[nk hj,Bn];exact(fN (h j hj)).1
theorem Bh{l m k:Nat}(h:nM l k)(hm:m≤l):nM m k:=by
 induction l with
 | zero=>obtain rfl:m=0:=by omega
         exact h
 | succ l ih =>
   by_cases e:m=l+1
   · rw[e];exact h
   · exact ih (ij h) (by omega)
theorem kE(rt:List (List RD)){m:Nat}(hw: ∀i,i<rt.length→(rt.getD i []).length=2^i→wN m (rt.getD i []))(h1:1≤m)(hl:rt.length≤1000000)(hll: ∀i,i<rt.length→(rt.getD i []).length≤4398046511104)(hok:rt.length≤5→nM rt.length m):Pure Tryz.prog 54 [TrD rt] (DB (cO rt)):=by
 refine qJ 43 Tryz.func54 rfl rfl rfl rfl (by kernel_rfl) (fun B F0 w0=>?_);unfold cO;obtain ⟨E,hE⟩: ∃E,fE (sR rt) (rt.length-0) 0=E:=⟨_,rfl⟩;rw[hE];refine qX 2 rfl ?_;refine qI ?_;refine qX 3 rfl ?_;rw[List.length_map];refine qU 1 rfl ?_;refine ab.nil ?_;by_cases h5:5<rt.length
 · rw[if_pos h5,decide_eq_true (show (5:Int)<(rt.length:Int) by omega)];refine AW.aF rfl ?_;refine qX 2 rfl ?_;exact qN rfl
 rw[if_neg h5,decide_eq_false (show ¬(5:Int)<(rt.length:Int) by omega)];have hok:=hok (by omega);have hm7:=rD hok;refine AW.ay rfl ?_;refine AW.skip (AW.seq ?_);refine qX 3 rfl ?_;rw[List.length_map];refine qU 1 rfl ?_;refine ab.nil ?_;refine AW.block ?_;refine AW.aE [1,13,14,15] (fun i:Nat=>[(1,.bx [.sl 1 (rt.map cY)]),(13,.d (.sl 1 (rt.map cY))),(14,.d (dI rt.length)),(15,.d (dI i))]) (fun i=>i≤rt.length∧fE (sR rt) (rt.length-i) i=E∧ ∀j,j<i→sR rt j=0) (fun i=>rt.length-i) 0 rfl ⟨Nat.zero_le _,hE,fun j hj=>by omega⟩ (fun i ⟨hi,hiE,hall⟩=>?_);refine qX 1 rfl ?_;refine qI ?_;refine AW.cond rfl (fun h=>?_) (fun h=>?_);rotate_left
 · have hii: ¬i<rt.length:=by have:=of_decide_eq_false h;omega
   rw[je hii] at hiE;subst hiE;refine AW.exit ?_;refine qX 1 rfl ?_;exact qN rfl
 have hii:i<rt.length:=by have:=of_decide_eq_true h;omega
 have hg:(rt.map cY)[i]?=some (cY (rt.getD i [])):=by simp[hii]
 have hwi:=hw i hii;have hli:=hll i hii;have hmiss:=fun h0:sR rt i=0=>(ga hii h0).symm.trans hiE;have hhit:=fun h0:sR rt i≠0=>(jd hii h0).symm.trans hiE;have hp:2^i≤2^5:=Nat.pow_le_pow_right (by decide) (by omega);have hrt:sR rt i=if (rt.getD i []).length≠2^i then 10 else if bB i (rt.getD i [])≠0 then bB i (rt.getD i []) else if dy i ((rt.take i).map bj) (bj (rt.getD i []))<0 then 3 else 0:=rfl
 refine AW.skip (AW.seq (AW.block ?_));refine qX 1 rfl ?_;refine ab.idx tok (cY (rt.getD i [])) rfl rfl rfl rfl (Int.natCast_nonneg i) hg ?_;refine qU 3 rfl ?_;refine qI ?_;refine qX 2 rfl ?_;rw[List.length_map];refine qU 2 rfl ?_;rw[vX (by omega)];refine qU 1 rfl ?_;refine ab.nil ?_;by_cases e1:(rt.getD i []).length=2^i;rotate_left
 · rw[if_pos e1] at hrt;rw[bne_iff_ne.2 (show (((rt.getD i []).length:Nat):Int)≠((2^i:Nat):Int) by omega)];have:=hhit (by rw[hrt];decide);rw[hrt] at this;subst this;refine AW.aF rfl ?_;refine qX 2 rfl ?_;exact qN rfl
 rw[if_neg (fun h=>h e1)] at hrt;have hwi:=hwi e1;have cn:=j9 ((rt.take i).map cY) (rt.getD i []) (fun _=>hwi) (by omega) hli (by rw[List.length_map,List.length_take];omega);rw[List.length_map,List.length_take,Nat.min_eq_left hi] at cn;rw[e1,bne_eq_false_iff_eq.2 rfl];refine AW.ay rfl ?_;refine AW.skip ?_;refine qX 3 rfl ?_;refine ab.CV tok rfl rfl rfl rfl trivial (Int.natCast_nonneg i) (Nat.zero_le _) (by show i≤_;rw[List.length_map];omega) ?_;rw[AI];refine qU 3 rfl ?_;refine qI ?_;refine qX 2 rfl ?_;refine ab.call tok rfl rfl rfl rfl cn ?_;refine qU 1 rfl ?_;refine ab.nil ?_;rcases e2:bB i (rt.getD i []) with _ | z
 rotate_left
 · rw[e2,if_pos (Nat.succ_ne_zero z)] at hrt;have:=hhit (by rw[hrt];exact Nat.succ_ne_zero z);rw[hrt] at this;subst this;refine qX 1 rfl ?_;refine ab.err tok rfl rfl rfl rfl rfl ?_;refine ab.nil ?_;refine AW.aF rfl ?_;refine qX 2 rfl ?_;exact qN rfl
 rw[if_neg (by rw[e2];simp)] at hrt;obtain ⟨n1,n2⟩:=nP e2;have cs:=mw i (k:=m) n1 (by omega) (jJ hi hall) (by rw[eG hi];exact Nat.le_refl _) (by rw[eG hi];omega) (kG hwi h1) (qh (fun j hj=>hw j (by omega) (fN (hall j hj)).1) h1 hi) (Bh hok hi);have tr:=lQ i ((rt.take i).map bj) (bj (rt.getD i []));rw[show bF ((rt.take i).map bj)= .ag [.sl 1 ((rt.take i).map cY)] from by rw[mJ (fun j hj=>hw j (by omega) (fN (hall j hj)).1) hi (fun j hj=>(fN (hall j hj)).2.1)],← js hwi n2] at cs;generalize dy i ((rt.take i).map bj) (bj (rt.getD i []))=s at cs hrt tr;refine qX 1 rfl ?_;refine ab.err tok rfl rfl rfl rfl rfl ?_;refine ab.nil ?_;refine AW.ay rfl ?_;refine AW.skip ?_;refine qX 2 rfl ?_;refine ab.call tok rfl rfl rfl rfl cs ?_;refine qU 1 rfl ?_;refine ab.nil ?_;by_cases e3:s<0
 · rw[if_pos e3] at hrt;rw[decide_eq_true e3];have:=hhit (by rw[hrt];decide);rw[hrt] at this;subst this;refine AW.aF rfl ?_;refine qX 2 rfl ?_;exact qN rfl
 rw[if_neg e3] at hrt;rw[decide_eq_false e3];refine AW.ay rfl ?_;refine AW.skip ?_;refine qT 1 rfl ?_;rw[aD (x:=(i:Int)+1) (by omega) (by omega)];refine qU 1 rfl ?_;refine ab.nil ?_
 exact⟨i+1,rfl,⟨hii,hmiss hrt,fun j hj=>by
  by_cases e:j=i
  · rw[e];exact hrt
  · exact hall j (by omega)⟩,by omega⟩
theorem kd(rt l:List (List RD)){m mn:Nat}(hw: ∀i,i<rt.length→(rt.getD i []).length=2^i→wN m (rt.getD i []))(h1:1≤m)(hl:rt.length≤1000000)(hll: ∀i,i<rt.length→(rt.getD i []).length≤4398046511104)(hok:rt.length≤5→nM rt.length m)
  (hlw: ∀i,i<l.length→yJ rt.length (l.getD i [])→wN mn (l.getD i [])) (hl2:l.length≤1000000) (hl3: ∀i,i<l.length→(l.getD i []).length≤4398046511104) (hm:mn≤17300000000000):Pure Tryz.prog 61 [TrD rt,.sl 1 (l.map cY)] (DB (oc rt l)):=by
 refine qJ 27 Tryz.func61 rfl rfl rfl rfl (by kernel_rfl) (fun B F0 w0=>?_);have cC:=kE rt hw h1 hl hll hok;unfold oc;obtain ⟨E,hE⟩: ∃E,fE (fun i=>bB rt.length (l.getD i [])) (l.length-0) 0=E:=⟨_,rfl⟩;rw[hE];refine qX 2 rfl ?_;refine qI ?_;refine qX 1 rfl ?_;refine ab.call tok rfl rfl rfl rfl cC ?_;refine qU 1 rfl ?_;refine ab.nil ?_;rcases e2:cO rt with _ | z
 rotate_left
 · rw[if_pos (Nat.succ_ne_zero z)];refine qX 1 rfl ?_;refine ab.err tok rfl rfl rfl rfl rfl ?_;refine ab.nil ?_;refine AW.aF rfl ?_;refine qX 2 rfl ?_;exact qN rfl
 rw[if_neg (by simp)];refine qX 1 rfl ?_;refine ab.err tok rfl rfl rfl rfl rfl ?_;refine ab.nil ?_;refine AW.ay rfl ?_;refine AW.skip (AW.seq ?_);refine qX 2 rfl ?_;rw[List.length_map];refine qU 1 rfl ?_;refine ab.nil ?_;refine AW.block ?_;refine AW.aE [2,14,15,16] (fun i:Nat=>[(2,.bx [.sl 1 (rt.map cY)]),(14,.d (.sl 1 (l.map cY))),(15,.d (dI l.length)),(16,.d (dI i))]) (fun i=>i≤l.length∧fE (fun i=>bB rt.length (l.getD i [])) (l.length-i) i=E) (fun i=>l.length-i) 0 rfl ⟨Nat.zero_le _,hE⟩ (fun i ⟨hi,hiE⟩=>?_);refine qX 1 rfl ?_;refine qI ?_;refine AW.cond rfl (fun h=>?_) (fun h=>?_);rotate_left
 · have hii: ¬i<l.length:=by have:=of_decide_eq_false h;omega
   rw[je hii] at hiE;subst hiE;refine AW.exit ?_;refine qX 1 rfl ?_;exact qN rfl
 have hii:i<l.length:=by have:=of_decide_eq_true h;omega
 have hg:(l.map cY)[i]?=some (cY (l.getD i [])):=by simp[hii]
 have hmiss:=fun h0:bB rt.length (l.getD i [])=0=>(ga (f:=fun i=>bB rt.length (l.getD i [])) hii h0).symm.trans hiE;have hhit:=fun h0:bB rt.length (l.getD i [])≠0=>(jd (f:=fun i=>bB rt.length (l.getD i [])) hii h0).symm.trans hiE;have cn:=j9 (rt.map cY) (l.getD i []) (fun h=>hlw i hii (by rw[List.length_map] at h;exact h)) hm (hl3 i hii) (by rw[List.length_map];omega);rw[List.length_map] at cn;refine AW.skip (AW.seq (AW.block (AW.seq (AW.region ?_))));refine ab.idx tok (cY (l.getD i [])) rfl rfl rfl rfl (Int.natCast_nonneg i) hg ?_;refine qU 2 rfl ?_;refine qK 2 rfl ?_;refine ab.call tok rfl rfl rfl rfl cn ?_;refine qU 1 rfl ?_;refine ab.nil ?_;generalize bB rt.length (l.getD i [])=v at hmiss hhit;rcases v with _ | z
 rotate_left
 · have:=hhit (Nat.succ_ne_zero z);subst this;refine qX 1 rfl ?_;refine ab.err tok rfl rfl rfl rfl rfl ?_;refine ab.nil ?_;refine AW.aF rfl ?_;refine qX 2 rfl ?_;exact qN rfl
 refine qX 1 rfl ?_;refine ab.err tok rfl rfl rfl rfl rfl ?_;refine ab.nil ?_;refine AW.ay rfl ?_;refine AW.skip ?_;refine qT 1 rfl ?_;rw[aD (x:=(i:Int)+1) (by omega) (by omega)];refine qU 1 rfl ?_;refine ab.nil ?_;exact⟨i+1,rfl,⟨hii,hmiss rfl⟩,by omega⟩
theorem lr{rt:List (List RD)}(h:cO rt=0):rt.length≤5∧ ∀j,j<rt.length→sR rt j=0:=by
 unfold cO at h;split at h
 · cases h
 rename_i h1
 have key: ∀(m i:Nat),fE (sR rt) m i=0→ ∀j,i≤j→j<i+m→sR rt j=0:=by
  intro m
  induction m with
  | zero=>intro i _ j h1 h2;omega
  | succ m ih =>
    intro i h j h1 h2;rw[fE] at h;split at h
    · rename_i h0;by_cases e:j=i
      · rw[e];exact h0
      · exact ih (i+1) h j (by omega) (by omega)
    · rename_i h0;exact absurd h h0
 exact⟨by omega,fun j hj=>key _ _ h j (Nat.zero_le _) (by omega)⟩
def AK(rt:List (List RD))(a:List RD):D:=if oc rt [a]≠0 then .tu [dI 0,DB (oc rt [a])] else .tu [dI (dy rt.length (rt.map bj) (bj a)),aj]
theorem DJ{rt:List (List RD)}{a:List RD}(h:oc rt [a]=0):cO rt=0∧bB rt.length a=0:=by
 unfold oc at h;split at h
 · rename_i h0;exact absurd h h0
 rename_i h0;refine⟨by omega,?_⟩;have e:fE (fun i=>bB rt.length ([a].getD i [])) ([a].length-0) 0=if bB rt.length a=0 then 0 else bB rt.length a:=rfl
 rw[e] at h;split at h
 · assumption
 · rename_i h1;exact absurd h h1
theorem sU(rt:List (List RD))(a:List RD){m:Nat}(hw: ∀i,i<rt.length→(rt.getD i []).length=2^i→wN m (rt.getD i []))(h1:1≤m)(hl:rt.length≤1000000)(hll: ∀i,i<rt.length→(rt.getD i []).length≤4398046511104)(hok:rt.length≤5→nM rt.length m)
  (haw:yJ rt.length a→wN m a) (hal:a.length≤4398046511104) (hm:m≤17300000000000):Pure Tryz.prog 29 [TrD rt,cY a] (AK rt a):=by
 refine qJ 17 Tryz.func29 rfl rfl rfl rfl (by kernel_rfl) (fun B F0 w0=>?_)
 have h0: ∀i,i<[a].length→i=0:=fun i hi=>by
  have:i<1:=hi;omega
 have cc:=kd rt [a] hw h1 hl hll hok (fun i hi=>by rw[h0 i hi];exact haw) (show 1≤1000000 by decide) (fun i hi=>by rw[h0 i hi];exact hal) hm;unfold AK;refine qX 3 rfl ?_;refine qI ?_;refine qX 2 rfl ?_;refine ab.fI tok rfl rfl rfl rfl rfl ?_;refine ab.call tok rfl rfl rfl rfl cc ?_;refine qU 1 rfl ?_;refine ab.nil ?_;rcases e2:oc rt [a] with _ | z
 rotate_left
 · rw[if_pos (Nat.succ_ne_zero z)];refine qX 1 rfl ?_;refine ab.err tok rfl rfl rfl rfl rfl ?_;refine ab.nil ?_;refine AW.aF rfl ?_;refine qX 3 rfl ?_;exact qN rfl
 rw[if_neg (by simp)];obtain ⟨k1,k2⟩:=DJ e2;obtain ⟨k3,k4⟩:=lr k1;obtain ⟨n1,n2⟩:=nP k2;have vo:=jJ (k:=rt.length) (Nat.le_refl _) k4;have vl:=eG (rt:=rt) (k:=rt.length) (Nat.le_refl _);have vs:=qh (k:=rt.length) (fun j hj=>hw j hj (fN (k4 j hj)).1) h1 (Nat.le_refl _);have vc:=mJ (k:=rt.length) (fun j hj=>hw j hj (fN (k4 j hj)).1) (Nat.le_refl _) (fun j hj=>(fN (k4 j hj)).2.1);rw[List.take_length] at vo vl vs vc;have cs:=mw rt.length (k:=m) n1 k3 vo (by rw[vl];exact Nat.le_refl _) (by rw[vl];omega) (kG (haw (vb k2)) h1) vs (hok k3);rw[show bF (rt.map bj)= .ag [.sl 1 (rt.map cY)] from by rw[vc],← js (haw (vb k2)) n2] at cs;refine qX 1 rfl ?_;refine ab.err tok rfl rfl rfl rfl rfl ?_;refine ab.nil ?_;refine AW.ay rfl ?_;refine AW.skip ?_;refine qX 2 rfl ?_;refine ab.call tok rfl rfl rfl rfl cs ?_;refine qU 2 rfl ?_;exact qN rfl
end Lift
namespace Lift
open Go Go.Proofs
structure DS (m:Nat) (rt:List (List RD)):Prop where
 t: ∃m0,1≤m0∧m0≤m∧(∀i,i<rt.length→(rt.getD i []).length=2^i→wN m0 (rt.getD i []))∧(rt.length≤5→nM rt.length m0)
 m2:m≤1000000
 l:rt.length≤1000000
 ll: ∀i,i<rt.length→(rt.getD i []).length≤4398046511104
structure Ct (m:Nat) (rt:List (List RD)) (a:List RD):Prop where
 w:yJ rt.length a→wN m a
 l:a.length≤4398046511104
structure GZ (m:Nat) (rt:List (List RD)) (v:List NQ):Prop where
 l5:rt.length≤5
 ln:v.length=rt.length
 ro:cu v
 sz:ed m v
 t: ∃m0,1≤m0∧m0≤m∧ed m0 v∧nM rt.length m0
 ps: ∀k,k<v.length→ ¬dy k (v.take k) (v.getD k [])<0
 eq:TrD rt=bF v
theorem DW{m:Nat}{rt:List (List RD)}(T:DS m rt)(h:cO rt=0):GZ m rt (rt.map bj):=by
 obtain ⟨k3,k4⟩:=lr h;have vo:=jJ (k:=rt.length) (Nat.le_refl _) k4;have vl:=eG (rt:=rt) (k:=rt.length) (Nat.le_refl _);obtain ⟨m0,t1,t2,tw,tk⟩:=T.t;have hw:=fun j hj=>tw j hj (fN (k4 j hj)).1;have vs:=qh (k:=rt.length) hw t1 (Nat.le_refl _);have vc:=mJ (k:=rt.length) hw (Nat.le_refl _) (fun j hj=>(fN (k4 j hj)).2.1);rw[List.take_length] at vo vl vs vc;refine⟨k3,vl,vo,vs.mono t2,⟨m0,t1,t2,vs,tk k3⟩,fun k hk=>?_,by show D.ag [.sl 1 (rt.map cY)]=_;rw[vc]⟩;rw[vl] at hk;have:=(fN (k4 k hk)).2.2
 have e:(rt.map bj).getD k []=bj (rt.getD k []):=by
  rw[List.getD_eq_getElem?_getD,List.getElem?_map,List.getD_eq_getElem?_getD,List.getElem?_eq_getElem hk];rfl
 rw[e,← List.map_take];exact this
theorem EI{m:Nat}{rt:List (List RD)}{a:List RD}(m1:1≤m)(A:Ct m rt a)(h:bB rt.length a=0):ak rt.length (bj a)∧aq m (bj a)∧cY a=af (bj a):=by
 obtain ⟨n1,n2⟩:=nP h;have w:=A.w (vb h);exact⟨n1,kG w m1,js w n2⟩
def FL(q:Rat):NQ:=if q=0 then [] else [q]
theorem zV(q:Rat):ar [q]=FL q:=by
 show (if 1=0 then [] else fL (Nat.log2 1) [q])=_;rw[if_neg (by decide),show Nat.log2 1=0 by decide];unfold fL FL;show (if a9 [q]=true then [] else [q])=_;have:a9 [q]=decide (q=0):=by unfold a9;simp
 rw[this];by_cases h:q=0
 · rw[decide_eq_true h,if_pos rfl,if_pos h]
 · rw[decide_eq_false h,if_neg (by simp),if_neg h]
theorem px(r:RD){k:Nat}(hr:r.w k)(h1:1≤k)(hk:k≤1000000)(ho:r.okB=true):Pure Tryz.prog 87 [r.D] (af (FL r.val)):=by
 refine qJ 8 Tryz.func87 rfl rfl rfl rfl (by kernel_rfl) (fun B0 F0 w0=>?_);have c1:=kj r (Qr 0) (k:=k) hr (jD _ (by rw[oo];exact h1)) (by omega);have z:=eF hr h1;rw[cT,Rat.add_zero] at c1;have c2:=bJ [r.val] (l:=0) (k:=k) (gR 0 _) (by decide) (hZ z) (by omega);rw[zV] at c2;have hz:(Qr 0).D= .ag [dB false,.sl 1 [],.sl 1 []]:=by rw[iW];rfl
 rw[hz] at c1;refine qX 2 rfl ?_;refine qK 2 rfl ?_;refine ab.call tok rfl rfl rfl rfl c1 ?_;refine ab.fI tok rfl rfl rfl rfl rfl ?_;refine ab.call tok rfl rfl rfl rfl c2 ?_;refine qU 1 rfl ?_;exact qN rfl
end Lift
namespace Lift
abbrev Cf:=Nat→Rat
def cf(a:NQ):Cf:=fun i=>a.getD i 0
def bu(l:Nat)(a:Cf):Cf:=fun i=>a (2^l+i)
def mulC(rt:List NQ):Nat→Cf→Cf→Cf
 | 0,a,b=>fun i=>if i=0 then a 0*b 0 else 0
 | l+1,a,b=>fun i=>if i<2^l then mulC rt l a b i+mulC rt l (mulC rt l (bu l a) (bu l b)) (cf (rt.getD l [])) i else mulC rt l a (bu l b) (i-2^l)+mulC rt l (bu l a) b (i-2^l)
def cy(l:Nat)(a:Cf):Prop:= ∀i,2^l≤i→a i=0
def iH(l:Nat)(a b:Cf):Prop:= ∀i,i<2^l→a i=b i
theorem a7(rt:List NQ): ∀(l:Nat) (a b:Cf),cy l (mulC rt l a b)
 | 0,a,b=>fun i hi=>by
   have:i≠0:=by have:1≤i:=hi;omega
   show (if i=0 then _ else (0:Rat))=0;rw[if_neg this]
 | l+1,a,b=>fun i hi=>by
   rw[Nat.pow_succ] at hi;have hp:0<2^l:=Nat.pow_pos (by decide);show (if i<2^l then _ else _)=(0:Rat);rw[if_neg (by omega),a7 rt l _ _ _ (by omega),a7 rt l _ _ _ (by omega),Rat.add_zero]
theorem iH.down{l:Nat}{a b:Cf}(h:iH (l+1) a b):iH l a b:=fun i hi=>h i (by rw[Nat.pow_succ];omega)
theorem iH.hi{l:Nat}{a b:Cf}(h:iH (l+1) a b):iH l (bu l a) (bu l b):=fun i hi=>h _ (by rw[Nat.pow_succ];omega)
theorem iH.p0{l:Nat}{a:Cf}:iH l a a:=fun _ _=>rfl
theorem iH.full{l:Nat}{a b:Cf}(h:iH l a b)(ha:cy l a)(hb:cy l b):a=b:=funext fun i=>by
 by_cases hi:i<2^l
 · exact h i hi
 · rw[ha i (by omega),hb i (by omega)]
theorem bq(rt:List NQ): ∀(l:Nat) {a b a' b':Cf},iH l a a'→iH l b b'→mulC rt l a b=mulC rt l a' b'
 | 0,a,b,a',b',h1,h2=>funext fun i=>by
   show (if i=0 then a 0*b 0 else 0)=(if i=0 then a' 0*b' 0 else 0);rw[h1 0 (by decide),h2 0 (by decide)]
 | l+1,a,b,a',b',h1,h2=>funext fun i=>by
   show (if i<2^l then mulC rt l a b i+mulC rt l (mulC rt l (bu l a) (bu l b)) (cf (rt.getD l [])) i else mulC rt l a (bu l b) (i-2^l)+mulC rt l (bu l a) b (i-2^l))=(if i<2^l then mulC rt l a' b' i+mulC rt l (mulC rt l (bu l a') (bu l b')) (cf (rt.getD l [])) i else mulC rt l a' (bu l b') (i-2^l)+mulC rt l (bu l a') b' (i-2^l));rw[bq rt l h1.down h2.down,bq rt l h1.hi h2.hi,bq rt l h1.down h2.hi,bq rt l h1.hi h2.down]
def zC:Cf:=fun _=>0
theorem bP(rt:List NQ): ∀(l:Nat) {a b:Cf},iH l a zC∨iH l b zC→mulC rt l a b=zC
 | 0,a,b,h=>funext fun i=>by
   show (if i=0 then a 0*b 0 else 0)=0;split
   · rcases h with h | h
     · rw[h 0 (by decide)];exact Rat.zero_mul _
     · rw[h 0 (by decide)];exact Rat.mul_zero _
   · rfl
 | l+1,a,b,h=>funext fun i=>by
   have hz:iH l zC zC:=iH.p0;have r1:mulC rt l a b=zC:=bP rt l (h.imp iH.down iH.down);have r2:mulC rt l (bu l a) (bu l b)=zC:=bP rt l (h.imp iH.hi iH.hi);have r3:mulC rt l a (bu l b)=zC:=bP rt l (h.imp iH.down iH.hi);have r4:mulC rt l (bu l a) b=zC:=bP rt l (h.imp iH.hi iH.down);have r5:mulC rt l zC (cf (rt.getD l []))=zC:=bP rt l (.inl hz);show (if i<2^l then mulC rt l a b i+mulC rt l (mulC rt l (bu l a) (bu l b)) (cf (rt.getD l [])) i else mulC rt l a (bu l b) (i-2^l)+mulC rt l (bu l a) b (i-2^l))=0;rw[r2,r1,r3,r4,r5];show (if i<2^l then (0:Rat)+0 else 0+0)=0;split<;>exact Rat.add_zero 0
theorem gY(rt:List NQ): ∀(l:Nat) (a b:Cf),mulC rt l a b=mulC rt l b a
 | 0,a,b=>funext fun i=>by
   show (if i=0 then a 0*b 0 else 0)=(if i=0 then b 0*a 0 else 0);rw[Rat.mul_comm]
 | l+1,a,b=>funext fun i=>by
   show (if i<2^l then mulC rt l a b i+mulC rt l (mulC rt l (bu l a) (bu l b)) (cf (rt.getD l [])) i else mulC rt l a (bu l b) (i-2^l)+mulC rt l (bu l a) b (i-2^l))=(if i<2^l then mulC rt l b a i+mulC rt l (mulC rt l (bu l b) (bu l a)) (cf (rt.getD l [])) i else mulC rt l b (bu l a) (i-2^l)+mulC rt l (bu l b) a (i-2^l));rw[gY rt l a b,gY rt l (bu l a) (bu l b),gY rt l a (bu l b),gY rt l (bu l a) b,Rat.add_comm (mulC rt l (bu l b) a _)]
theorem cy.mono{l m:Nat}{a:Cf}(h:cy l a)(hl:l≤m):cy m a:=fun i hi=>h i (Nat.le_trans (Nat.pow_le_pow_right (by decide) hl) hi)
theorem cy.wU{l:Nat}{a:Cf}(h:cy l a):bu l a=zC:=funext fun i=>h _ (by omega)
theorem b9(rt:List NQ){j:Nat}{a b:Cf}(ha:cy j a)(hb:cy j b): ∀{l:Nat},j≤l→mulC rt l a b=mulC rt j a b:=fun {l} h=>by
 obtain ⟨d,rfl⟩: ∃d,l=j+d:=⟨l-j,by omega⟩;clear h
 induction d with
 | zero=>rfl
 | succ d ih =>
   have ha':cy (j+d) a:=ha.mono (by omega);have hb':cy (j+d) b:=hb.mono (by omega);have hz:iH (j+d) zC zC:=iH.p0;rw[← ih];funext i;show (if i<2^(j+d) then mulC rt (j+d) a b i+mulC rt (j+d) (mulC rt (j+d) (bu (j+d) a) (bu (j+d) b)) (cf (rt.getD (j+d) [])) i else mulC rt (j+d) a (bu (j+d) b) (i-2^(j+d))+mulC rt (j+d) (bu (j+d) a) b (i-2^(j+d)))=_;rw[ha'.wU,hb'.wU,bP rt (j+d) (a:=zC) (b:=zC) (.inl hz),bP rt (j+d) (a:=zC) (.inl hz),bP rt (j+d) (b:=zC) (.inr hz),bP rt (j+d) (a:=zC) (.inl hz)];by_cases hi:i<2^(j+d)
   · rw[if_pos hi];exact Rat.add_zero _
   · rw[if_neg hi,a7 rt (j+d) a b i (by omega)];exact Rat.add_zero _
theorem aN{l:Nat}{a:NQ}(h:a.length≤2^l):cy l (cf a):=fun i hi=>fv (by omega)
theorem ez(a b:NQ)(i:Nat):cf (aK a b) i=cf a i+cf b i:=lT a b i
theorem jB(a:NQ)(i:Nat):cf (aM a) i= -cf a i:=mW a i
theorem qz{a:NQ}(h:a9 a=true):cf a=zC:=funext fun i=>by
 unfold a9 at h;rw[List.all_eq_true] at h;by_cases hi:i<a.length
 · have:=of_decide_eq_true (h a[i] (List.getElem_mem hi));show a.getD i 0=0;rw[List.getD_eq_getElem?_getD,List.getElem?_eq_getElem hi];exact this
 · exact fv (by omega)
theorem DM{j:Nat}{p q:NQ}(n:Nat)(hn:n=2^j)(hq:q.length≤2^j)(i:Nat):cf (dh p q n) i=if i<2^j then cf p i else cf q (i-2^j):=by
 show (dh p q n).getD i 0=_;rw[lW,hn];by_cases h:i<2^j
 · rw[if_pos h,if_pos h];rfl
 · rw[if_neg h,if_neg h];by_cases h2:i<2^j+2^j
   · rw[if_pos h2];rfl
   · rw[if_neg h2];exact(fv (by omega)).symm
theorem dM{j:Nat}{a:NQ}(n:Nat)(hn:n=2^j):iH j (cf (a.take n)) (cf a):=fun i hi=>by
 show (a.take n).getD i 0=a.getD i 0;rw[j0,if_pos (by omega)]
theorem gO{j:Nat}{a:NQ}(n:Nat)(hn:n=2^j):cf (a.drop n)=bu j (cf a):=funext fun i=>by
 show (a.drop n).getD i 0=a.getD (2^j+i) 0;rw[qx,hn]
theorem vg{l:Nat}{R:NQ→NQ→NQ}{rt:List NQ}{a b:NQ}(ha:ak l a)(hb:ak l b)(hab:b.length≤a.length)(hrt:cu rt)(hl:l≤rt.length)
  (hR: ∀l',l=l'+1→ ∀a' b',ak l' a'→ak l' b'→ak l' (R a' b')∧cf (R a' b')=mulC rt l' (cf a') (cf b')):cf (gw R rt a b)=mulC rt l (cf a) (cf b):=by
 unfold gw;by_cases h0:(a9 a||a9 b)=true
 · rw[if_pos h0];have:cf ([]:NQ)=zC:=rfl;rw[this,bP];rw[Bool.or_eq_true] at h0;rcases h0 with h | h
   · left;rw[qz h];exact iH.p0
   · right;rw[qz h];exact iH.p0
 rw[if_neg h0];have hz:=fun z:a9 a=true=>h0 (by rw[z];rfl);have hz2:=fun z:a9 b=true=>h0 (by rw[z,Bool.or_true]);by_cases h1:a.length=1
 · rw[if_pos h1];have lb:b.length≤1:=by omega
   rw[b9 rt (j:=0) (aN (by rw[h1];exact Nat.le_refl _)) (aN lb) (Nat.zero_le _)];funext i;show [a.getD 0 0*b.getD 0 0].getD i 0=if i=0 then a.getD 0 0*b.getD 0 0 else 0
   cases i with
   | zero=>rfl
   | succ i=>rw[if_neg (by omega)];rfl
 rw[if_neg h1]
 obtain ⟨i,hi,hla⟩: ∃i,i≤l∧a.length=2^i:=by
  rcases ha with e | e
  · exact absurd (by rw[List.length_eq_zero_iff.1 e];rfl) hz
  · exact e
 have wU:i≠0:=fun e=>h1 (by rw[hla,e]);obtain ⟨j,rfl⟩: ∃j,i=j+1:=⟨i-1,by omega⟩;obtain ⟨l',rfl⟩: ∃l',l=l'+1:=⟨l-1,by omega⟩;have hj:j≤l':=by omega
 have hR:=fun a' b' h1 h2=>hR l' rfl a' b' h1 h2;obtain ⟨e1,e2,e3⟩:=bg hla;have hx:ak l' (a.take (a.length / 2)):= .inr ⟨j,hj,e1⟩;have hy:ak l' (a.drop (a.length / 2)):= .inr ⟨j,hj,e2⟩;have la:cy (j+1) (cf a):=aN (by omega);have lb:cy (j+1) (cf b):=aN (by omega);rw[b9 rt la lb hi]
 have low: ∀{p q:NQ},p.length≤2^j→q.length≤2^j→ak l' p→ak l' q→cf (R p q)=mulC rt j (cf p) (cf q):=fun {p q} hp hq h1 h2=>by
  rw[(hR p q h1 h2).2,b9 rt (aN hp) (aN hq) hj]
 have lenR: ∀{p q:NQ},p.length≤2^j→q.length≤2^j→ak l' p→ak l' q→cy j (cf (R p q)):=fun {p q} hp hq h1 h2=>by
  rw[low hp hq h1 h2];exact a7 rt j _ _
 have tk:=dM (a:=a) (a.length / 2) e3;have dr:=gO (a:=a) (a.length / 2) e3
 have cj: ∀{p q:NQ},cy j (cf q)→ ∀i,cf (dh p q (a.length / 2)) i=if i<2^j then cf p i else cf q (i-2^j):=fun {p q} hq i=>by
  show (dh p q (a.length / 2)).getD i 0=_;rw[lW,e3];by_cases h:i<2^j
  · rw[if_pos h,if_pos h];rfl
  · rw[if_neg h,if_neg h];by_cases h2:i<2^j+2^j
    · rw[if_pos h2];rfl
    · rw[if_neg h2,hq _ (by omega)]
 by_cases h3:b.length≤a.length / 2
 · rw[if_pos h3]
   have hb':ak l' b:=by
    rcases hb with e | ⟨i',_,e⟩
    · exact .inl e
    · refine .inr ⟨i',?_,e⟩;rw[e3,e] at h3;have:=(Nat.pow_le_pow_iff_right (a:=2) (by decide)).1 h3;omega
   rw[e3] at h3;have lbj:cy j (cf b):=aN h3;funext i;rw[cj (lenR (by omega) h3 hy hb'),low (by omega) h3 hx hb',low (by omega) h3 hy hb',dr,bq rt j tk iH.p0];show _=if i<2^j then mulC rt j (cf a) (cf b) i+mulC rt j (mulC rt j (bu j (cf a)) (bu j (cf b))) (cf (rt.getD j [])) i else mulC rt j (cf a) (bu j (cf b)) (i-2^j)+mulC rt j (bu j (cf a)) (cf b) (i-2^j)
   have hzz:iH j zC zC:=iH.p0;rw[lbj.wU,bP rt j (b:=zC) (.inr hzz),bP rt j (b:=zC) (.inr hzz),bP rt j (a:=zC) (.inl hzz)];by_cases h:i<2^j
   · rw[if_pos h,if_pos h];exact(Rat.add_zero _).symm
   · rw[if_neg h,if_neg h];exact(Rat.zero_add _).symm
 rw[if_neg h3]
 have hlb:b.length=2^(j+1):=by
  rcases hb with e | ⟨i',_,e⟩
  · exact absurd (by rw[List.length_eq_zero_iff.1 e];rfl) hz2
  · rw[e] at h3 hab ⊢;rw[hla] at hab;rw[e3] at h3;have h4:=(Nat.pow_le_pow_iff_right (a:=2) (by decide)).1 hab;have h5: ¬i'≤j:=fun h=>h3 ((Nat.pow_le_pow_iff_right (a:=2) (by decide)).2 h);rw[show i'=j+1 by omega]
 obtain ⟨f1,f2,f3⟩:=bg hlb;rw[show b.length / 2=a.length / 2 by rw[f3,e3]] at f1 f2;have hu:ak l' (b.take (a.length / 2)):= .inr ⟨j,hj,f1⟩;have hv:ak l' (b.drop (a.length / 2)):= .inr ⟨j,hj,f2⟩;have tkb:=dM (a:=b) (a.length / 2) e3;have drb:=gO (a:=b) (a.length / 2) e3;have hlog:a.length.log2-1=j:=by rw[hla,Nat.log2_two_pow];omega
 rw[hlog];have hdl:(rt.getD j []).length=2^j:=hrt j (by omega);have hd:ak l' (rt.getD j []):= .inr ⟨j,hj,hdl⟩;have Ryv:=hR _ _ hy hv;have lyv:cy j (cf (R (a.drop (a.length / 2)) (b.drop (a.length / 2)))):=lenR (by omega) (by omega) hy hv;have c1:=low (p:=a.take (a.length / 2)) (q:=b.take (a.length / 2)) (by omega) (by omega) hx hu;have c2:=low (p:=a.drop (a.length / 2)) (q:=b.drop (a.length / 2)) (by omega) (by omega) hy hv;have c3:=low (p:=a.take (a.length / 2)) (q:=b.drop (a.length / 2)) (by omega) (by omega) hx hv;have c4:=low (p:=a.drop (a.length / 2)) (q:=b.take (a.length / 2)) (by omega) (by omega) hy hu
 have c5:cf (R (R (a.drop (a.length / 2)) (b.drop (a.length / 2))) (rt.getD j []))=mulC rt j (cf (R (a.drop (a.length / 2)) (b.drop (a.length / 2)))) (cf (rt.getD j [])):=by
  rw[(hR _ _ Ryv.1 hd).2,b9 rt lyv (aN (by omega)) hj]
 have lq:cy j (cf (aK (R (a.take (a.length / 2)) (b.drop (a.length / 2))) (R (a.drop (a.length / 2)) (b.take (a.length / 2))))):=fun i hi=>by
  rw[ez,c3,c4,a7 rt j _ _ i hi,a7 rt j _ _ i hi];exact Rat.add_zero _
 funext i;rw[cj lq,ez,ez,c1,c5,c2,c3,c4,dr,drb,bq rt j tk tkb,bq rt j tk iH.p0,bq rt j iH.p0 tkb];rfl
theorem gb: ∀(l:Nat) {rt:List NQ} {a b:NQ},ak l a→ak l b→cu rt→l≤rt.length→ak l (aS l rt a b)∧cf (aS l rt a b)=mulC rt l (cf a) (cf b)
 | 0,rt,a,b,ha,hb,hrt,hl=>by
   have key: ∀{a b:NQ},ak 0 a→ak 0 b→b.length≤a.length→ak 0 (gw (fun _ _=>[]) rt a b)∧cf (gw (fun _ _=>[]) rt a b)=mulC rt 0 (cf a) (cf b):=fun {a b} ha hb hab =>
    ⟨by
     unfold gw;split
     · exact bn _
     split
     · exact gR _ _
     · rename_i h0 h1;have:a.length≤1:=ha.le;have:a=[]:=List.length_eq_zero_iff.1 (by omega);subst this
       exact absurd rfl h0,vg ha hb hab hrt hl (fun l' h=>by omega)⟩
   show ak 0 (iC (gw (fun _ _=>[]) rt) a b)∧cf (iC (gw (fun _ _=>[]) rt) a b)=_;unfold iC;split
   · have:=key hb ha (by omega);exact⟨this.1,by rw[this.2,gY]⟩
   · exact key ha hb (by omega)
 | l+1,rt,a,b,ha,hb,hrt,hl=>by
   have ih: ∀l',l+1=l'+1→ ∀a' b',ak l' a'→ak l' b'→ak l' (aS l rt a' b')∧cf (aS l rt a' b')=mulC rt l' (cf a') (cf b'):=fun l' e a' b' h1 h2=>by
    obtain rfl:l=l':=by omega
    exact gb l h1 h2 hrt (by omega)
   have lt:ak (l+1) (aS (l+1) rt a b):=by
    obtain ⟨K,hK⟩: ∃K,aq K a∧aq K b∧ed K rt:=tH a b rt;exact(dP (l+1) ha hb hrt hl hK.1 hK.2.1 hK.2.2).1
   refine⟨lt,?_⟩;show cf (iC (gw (aS l rt) rt) a b)=_;unfold iC;split
   · rw[vg hb ha (by omega) hrt hl ih,gY]
   · exact vg ha hb (by omega) hrt hl ih
end Lift
namespace Lift
theorem AP:ji 0=0:=ib.2 rfl
theorem Ce: ∀{i:Nat} {a:NQ},cy i (cf a)→cf (fL i a)=cf a
 | 0,a,h=>by
   unfold fL;by_cases h0:a9 (a.take 1)=true
   · rw[if_pos h0];have z:=qz h0;funext c;show (0:Rat)=a.getD c 0;cases c with
     | zero =>
       have:(a.take 1).getD 0 0=0:=congrFun z 0;rw[j0,if_pos (by decide)] at this;exact this.symm
     | succ c=>exact(h (c+1) (by show 1≤c+1;omega)).symm
   · rw[if_neg h0];funext c;show (a.take 1).getD c 0=a.getD c 0;rw[j0];split
     · rfl
     · exact(h c (by show 1≤c;omega)).symm
 | i+1,a,h=>by
   unfold fL;have e:2^(i+1)=2^i*2:=Nat.pow_succ ..;by_cases h0:a9 ((a.take (2^(i+1))).drop (2^i))=true
   · rw[if_pos h0];refine Ce fun c hc=>?_;by_cases hc2:c<2^(i+1)
     · have:=congrFun (qz h0) (c-2^i);have:((a.take (2^(i+1))).drop (2^i)).getD (c-2^i) 0=0:=this;rw[qx,j0,if_pos (by omega),show 2^i+(c-2^i)=c by omega] at this;exact this
     · exact h c (by omega)
   · rw[if_neg h0];funext c;show (a.take (2^(i+1))).getD c 0=a.getD c 0;rw[j0];split
     · rfl
     · exact(h c (by omega)).symm
theorem bM{l:Nat}{a:NQ}(ha:ak l a):cf (ar a)=cf a:=by
 unfold ar;split
 · rename_i h;rw[List.length_eq_zero_iff.1 h]
 rename_i h0;rcases ha with e | ⟨i,hi,e⟩
 · exact absurd e h0
 rw[e,Nat.log2_two_pow];exact Ce (aN (by omega))
theorem bV{l:Nat}{a:NQ}(ha:ak l a):ak l (ar a):=by
 obtain ⟨K,hK⟩:=yR a;exact(aT ha hK).1
structure zB (a:NQ):Prop where
 one:a.length=1→a.getD 0 0≠0
 two: ∀i,a.length=2^(i+1)→ ¬cy i (cf a)
theorem tG:zB []:=⟨fun h=>absurd h (by decide),fun i h=>by
  have hp:0<2^(i+1):=Nat.pow_pos (by decide);have h:0=2^(i+1):=h
  omega⟩
theorem qE{a:NQ}(h:cf a=zC):a9 a=true:=by
 unfold a9;rw[List.all_eq_true];intro x hx;obtain ⟨i,hi,rfl⟩:=List.getElem_of_mem hx;have:=congrFun h i;have:a.getD i 0=0:=this;rw[List.getD_eq_getElem?_getD,List.getElem?_eq_getElem hi] at this;exact decide_eq_true this
theorem tF: ∀{i:Nat} {a:NQ},a.length=2^i∨2^i≤a.length→zB (fL i a)
 | 0,a,h=>by
   unfold fL;by_cases h0:a9 (a.take 1)=true
   · rw[if_pos h0];exact tG
   · rw[if_neg h0]
     have hl:(a.take 1).length=1:=by rw[List.length_take];have:1≤a.length:=by rcases h with h | h;(have h:a.length=1:=h;omega);exact h
                                     omega
     refine⟨fun _ e=>h0 (qE (funext fun c=>?_)),fun i h=>?_⟩
     · show (a.take 1).getD c 0=0;cases c with
       | zero=>exact e
       | succ c=>exact fv (by omega)
     · rw[hl,Nat.pow_succ] at h;omega
 | i+1,a,h=>by
   unfold fL;have e:2^(i+1)=2^i*2:=Nat.pow_succ ..;have hp:0<2^i:=Nat.pow_pos (by decide);by_cases h0:a9 ((a.take (2^(i+1))).drop (2^i))=true
   · rw[if_pos h0];exact tF (.inr (by omega))
   · rw[if_neg h0];have hl:(a.take (2^(i+1))).length=2^(i+1):=by rw[List.length_take];omega
     refine⟨fun h1=>?_,fun k hk hlow=>h0 (qE (funext fun c=>?_))⟩
     · rw[hl] at h1;omega
     · rw[hl] at hk
       have:k=i:=by
        have h1:=(Nat.pow_le_pow_iff_right (a:=2) (by decide)).1 (Nat.le_of_eq hk);have h2:=(Nat.pow_le_pow_iff_right (a:=2) (by decide)).1 (Nat.le_of_eq hk.symm);omega
       subst this;show ((a.take (2^(k+1))).drop (2^k)).getD c 0=0;rw[qx];exact hlow _ (by omega)
theorem kF{l:Nat}{a:NQ}(ha:ak l a):zB (ar a):=by
 unfold ar;split
 · exact tG
 rename_i h0;rcases ha with e | ⟨i,hi,e⟩
 · exact absurd e h0
 rw[e,Nat.log2_two_pow];exact tF (.inl e)
def bK(rt:List NQ)(l:Nat)(a:Cf):Cf:=fun i=>mulC rt l a a i-mulC rt l (mulC rt l (bu l a) (bu l a)) (cf (rt.getD l [])) i
def aV(rt:List NQ):Nat→Cf→Int
 | 0,a=>ji (a 0)
 | l+1,a=>if aV rt l (cf (rt.getD l []))=0 then aV rt l a else if aV rt l a=aV rt l (bu l a)∨aV rt l (bu l a)=0 then aV rt l a else
   if aV rt l a=0 then aV rt l (bu l a) else aV rt l a*aV rt l (bK rt l a)
theorem wH(rt:List NQ){l:Nat}{a b:Cf}(h:iH (l+1) a b):bK rt l a=bK rt l b:=by
 unfold bK;rw[bq rt l h.down h.down,bq rt l h.hi h.hi]
theorem jP(rt:List NQ): ∀(l:Nat) {a b:Cf},iH l a b→aV rt l a=aV rt l b
 | 0,a,b,h=>by show ji (a 0)=ji (b 0);rw[h 0 (by decide)]
 | l+1,a,b,h=>by
   unfold aV;rw[jP rt l h.down,jP rt l h.hi,wH rt h]
theorem eX(rt:List NQ): ∀(l:Nat),aV rt l zC=0
 | 0=>by show ji 0=0;exact AP
 | l+1=>by
   have h:=eX rt l;have h2:aV rt l (bu l zC)=0:=h;unfold aV;rw[h,h2];split
   · rfl
   · rw[if_pos (Or.inl rfl)]
theorem bC(rt:List NQ){j:Nat}{a:Cf}(ha:cy j a): ∀{l:Nat},j≤l→aV rt l a=aV rt j a:=fun {l} h=>by
 obtain ⟨d,rfl⟩: ∃d,l=j+d:=⟨l-j,by omega⟩;clear h
 induction d with
 | zero=>rfl
 | succ d ih =>
   have ha':cy (j+d) a:=ha.mono (by omega);show (if aV rt (j+d) (cf (rt.getD (j+d) []))=0 then aV rt (j+d) a else if aV rt (j+d) a=aV rt (j+d) (bu (j+d) a)∨aV rt (j+d) (bu (j+d) a)=0 then aV rt (j+d) a else if aV rt (j+d) a=0 then aV rt (j+d) (bu (j+d) a) else aV rt (j+d) a*aV rt (j+d) (bK rt (j+d) a))=_;rw[ha'.wU,eX,ih];by_cases hd:aV rt (j+d) (cf (rt.getD (j+d) []))=0
   · rw[if_pos hd]
   · rw[if_neg hd,if_pos (Or.inr rfl)]
theorem qt{l j:Nat}{rt:List NQ}{a:NQ}(hj:j≤l)(ha:a.length=2^(j+1))(hrt:cu rt)(hl:l<rt.length):ak l (eA l rt a)∧cf (eA l rt a)=bK rt j (cf a):=by
 obtain ⟨K,hK⟩: ∃K,aq K a∧aq K a∧ed K rt:=tH a a rt;refine⟨(qq hj ha hrt hl hK.1 hK.2.2).1,?_⟩;obtain ⟨e1,e2,e3⟩:=bg ha;have hx:ak l (a.take (a.length / 2)):= .inr ⟨j,hj,e1⟩;have hy:ak l (a.drop (a.length / 2)):= .inr ⟨j,hj,e2⟩;have hlog:a.length.log2-1=j:=by rw[ha,Nat.log2_two_pow];omega
 have hdl:(rt.getD j []).length=2^j:=hrt j (by omega);have hd:ak l (rt.getD j []):= .inr ⟨j,hj,hdl⟩;have r1:=gb l hx hx hrt (by omega);have r2:=gb l hy hy hrt (by omega);have r3:=gb l r2.1 hd hrt (by omega);unfold eA bK;rw[hlog];funext i;rw[ez,jB,r1.2,r3.2,r2.2,b9 rt (aN (by omega)) (aN (by omega)) hj,b9 rt (aN (a:=a.drop (a.length / 2)) (by omega)) (aN (by omega)) hj,b9 rt (a7 rt j _ _) (aN (by omega)) hj,gO _ e3,bq rt j (dM _ e3) (dM _ e3)];exact Rat.sub_eq_add_neg _ _ |>.symm
theorem fj: ∀(l:Nat) {rt:List NQ} {a:NQ},ak l a→cu rt→l≤rt.length→dy l rt a=aV rt l (cf a)
 | 0,rt,a,ha,hrt,hl=>by
   have hs:=bV ha;have hc:=bM ha;show sV (fun _=>0) (fun a=>a) rt (ar a)=ji (cf a 0);rw[← hc];generalize ar a=s at hs;unfold sV;rcases hs with e | ⟨i,hi,e⟩
   · rw[if_pos e,List.length_eq_zero_iff.1 e];show 0=ji 0;rw[AP]
   · obtain rfl:i=0:=by omega
     have e:s.length=1:=e;rw[if_neg (by omega),if_pos e];rfl
 | l+1,rt,a,ha,hrt,hl=>by
   have hs:=bV ha;have hc:=bM ha;show sV (dy l rt) (eA l rt) rt (ar a)=aV rt (l+1) (cf a);rw[← hc];generalize ar a=s at hs;clear hc ha;unfold sV;by_cases h0:s.length=0
   · rw[if_pos h0,List.length_eq_zero_iff.1 h0];exact(eX rt (l+1)).symm
   rw[if_neg h0];by_cases h1:s.length=1
   · rw[if_pos h1,bC rt (j:=0) (aN (by rw[h1];exact Nat.le_refl _)) (Nat.zero_le _)];rfl
   rw[if_neg h1]
   obtain ⟨j,hj,hsl⟩: ∃j,j≤l∧s.length=2^(j+1):=by
    rcases hs with e | ⟨i,hi,e⟩
    · exact absurd e h0
    · rcases i with _ | j
      · exact absurd e h1
      · exact⟨j,by omega,e⟩
   obtain ⟨e1,e2,e3⟩:=bg hsl;have hx:ak l (s.take (s.length / 2)):= .inr ⟨j,hj,e1⟩;have hy:ak l (s.drop (s.length / 2)):= .inr ⟨j,hj,e2⟩;have hlog:s.length.log2-1=j:=by rw[hsl,Nat.log2_two_pow];omega
   have hdl:(rt.getD j []).length=2^j:=hrt j (by omega);have hd:ak l (rt.getD j []):= .inr ⟨j,hj,hdl⟩;have hn:=qt hj hsl hrt (by omega)
   have lowN:cy j (bK rt j (cf s)):=fun i hi=>by
    unfold bK;rw[a7 rt j _ _ i hi,a7 rt j _ _ i hi];exact Rat.sub_self
   rw[hlog,fj l hd hrt (by omega),fj l hx hrt (by omega),fj l hy hrt (by omega),fj l hn.1 hrt (by omega),hn.2,gO _ e3,
    bC rt (aN (a:=rt.getD j []) (by omega)) hj,bC rt (aN (a:=s.take (s.length / 2)) (by omega)) hj,bC rt lowN hj,jP rt j (dM _ e3)]
   have lh:cy j (bu j (cf s)):=fun i hi=>(aN (l:=j+1) (by omega)) _ (by rw[Nat.pow_succ];omega);rw[bC rt lh hj,bC rt (a:=cf s) (j:=j+1) (l:=l+1) (aN (by omega)) (by omega)];rfl
end Lift
namespace Lift
def iM(R:NQ→NQ→NQ)(rt:List NQ)(a b:NQ):NQ :=
 if a.length=0∨b.length=0 then [] else if max a.length b.length=1 then [a.getD 0 0*b.getD 0 0] else
 dh (aK (R ((aW a (max a.length b.length)).take (max a.length b.length / 2)) ((aW b (max a.length b.length)).take (max a.length b.length / 2)))
   (R (R ((aW a (max a.length b.length)).drop (max a.length b.length / 2)) ((aW b (max a.length b.length)).drop (max a.length b.length / 2))) (rt.getD ((max a.length b.length).log2-1) [])))
  (aK (R ((aW a (max a.length b.length)).take (max a.length b.length / 2)) ((aW b (max a.length b.length)).drop (max a.length b.length / 2)))
   (R ((aW a (max a.length b.length)).drop (max a.length b.length / 2)) ((aW b (max a.length b.length)).take (max a.length b.length / 2)))) (max a.length b.length / 2)
def eJ:Nat→List NQ→NQ→NQ→NQ
 | 0,rt,a,b=>iM (fun _ _=>[]) rt (ar a) (ar b)
 | l+1,rt,a,b=>iM (eJ l rt) rt (ar a) (ar b)
theorem zx{l:Nat}{a:NQ}(n:Nat)(ha:a.length≤n):cf (aW a n)=cf a:=funext fun i=>by
 show (aW a n).getD i 0=a.getD i 0;rw[eW];split
 · rfl
 · exact(fv (by omega)).symm
theorem wg{l:Nat}{R:NQ→NQ→NQ}{rt:List NQ}{a b:NQ}(ha:ak l a)(hb:ak l b)(hrt:cu rt)(hl:l≤rt.length)
  (hR: ∀l',l=l'+1→ ∀a' b',ak l' a'→ak l' b'→ak l' (R a' b')∧cf (R a' b')=mulC rt l' (cf a') (cf b')):ak l (iM R rt a b)∧cf (iM R rt a b)=mulC rt l (cf a) (cf b):=by
 have cz: ∀{x:NQ},x.length=0→cf x=zC:=fun {x} h=>by rw[List.length_eq_zero_iff.1 h];rfl
 unfold iM;by_cases h0:a.length=0∨b.length=0
 · rw[if_pos h0];refine⟨bn _,?_⟩;rw[bP rt l (h0.imp (fun h=>by rw[cz h];exact iH.p0) (fun h=>by rw[cz h];exact iH.p0))];rfl
 rw[if_neg h0];by_cases h1:max a.length b.length=1
 · rw[if_pos h1];refine⟨gR _ _,?_⟩;rw[b9 rt (j:=0) (aN (show a.length≤1 by omega)) (aN (show b.length≤1 by omega)) (Nat.zero_le _)];funext i;show [a.getD 0 0*b.getD 0 0].getD i 0=if i=0 then a.getD 0 0*b.getD 0 0 else 0
   cases i with
   | zero=>rfl
   | succ i=>rw[if_neg (by omega)];rfl
 rw[if_neg h1]
 obtain ⟨i,hi,hn⟩: ∃i,i≤l∧max a.length b.length=2^i:=by
  rcases ha with e | ⟨i,hi,e⟩
  · exact absurd (.inl e) h0
  rcases hb with e2 | ⟨k,hk,e2⟩
  · exact absurd (.inr e2) h0
  by_cases h:a.length≤b.length
  · exact⟨k,hk,by rw[Nat.max_eq_right h,e2]⟩
  · exact⟨i,hi,by rw[Nat.max_eq_left (by omega),e]⟩
 have wU:i≠0:=fun e=>h1 (by rw[hn,e]);obtain ⟨j,rfl⟩: ∃j,i=j+1:=⟨i-1,by omega⟩;obtain ⟨l',rfl⟩: ∃l',l=l'+1:=⟨l-1,by omega⟩;have hj:j≤l':=by omega
 have hR:=fun a' b' h1 h2=>hR l' rfl a' b' h1 h2;have ca:=zx (l:=l') (max a.length b.length) (Nat.le_max_left a.length b.length);have cb:=zx (l:=l') (max a.length b.length) (Nat.le_max_right a.length b.length);have wa:=bb a (max a.length b.length);have wb:=bb b (max a.length b.length);rw[← ca,← cb];generalize aW a (max a.length b.length)=A at *;generalize aW b (max a.length b.length)=B at *;generalize max a.length b.length=n at *;subst hn;have e0:=jq j;have hlog:(2^(j+1)).log2-1=j:=by rw[Nat.log2_two_pow];omega
 rw[e0,hlog];obtain ⟨e1,e2,e3⟩:=bg wa;obtain ⟨f1,f2,f3⟩:=bg wb;rw[e3] at e1 e2;rw[f3] at f1 f2;have hx:ak l' (A.take (2^j)):= .inr ⟨j,hj,e1⟩;have hy:ak l' (A.drop (2^j)):= .inr ⟨j,hj,e2⟩;have hu:ak l' (B.take (2^j)):= .inr ⟨j,hj,f1⟩;have hv:ak l' (B.drop (2^j)):= .inr ⟨j,hj,f2⟩;have hdl:(rt.getD j []).length=2^j:=hrt j (by omega);have hd:ak l' (rt.getD j []):= .inr ⟨j,hj,hdl⟩
 have low: ∀{p q:NQ},p.length≤2^j→q.length≤2^j→ak l' p→ak l' q→cf (R p q)=mulC rt j (cf p) (cf q):=fun {p q} hp hq h1 h2=>by
  rw[(hR p q h1 h2).2,b9 rt (aN hp) (aN hq) hj]
 have Ryv:=hR _ _ hy hv;have c2:=low (p:=A.drop (2^j)) (q:=B.drop (2^j)) (by omega) (by omega) hy hv;have lyv:cy j (cf (R (A.drop (2^j)) (B.drop (2^j)))):=by rw[c2];exact a7 rt j _ _
 have c1:=low (p:=A.take (2^j)) (q:=B.take (2^j)) (by omega) (by omega) hx hu;have c3:=low (p:=A.take (2^j)) (q:=B.drop (2^j)) (by omega) (by omega) hx hv;have c4:=low (p:=A.drop (2^j)) (q:=B.take (2^j)) (by omega) (by omega) hy hu
 have c5:cf (R (R (A.drop (2^j)) (B.drop (2^j))) (rt.getD j []))=mulC rt j (cf (R (A.drop (2^j)) (B.drop (2^j)))) (cf (rt.getD j [])):=by
  rw[(hR _ _ Ryv.1 hd).2,b9 rt lyv (aN (by omega)) hj]
 refine⟨.inr ⟨j+1,by omega,by rw[dF,Nat.pow_succ];omega⟩,?_⟩;rw[b9 rt (j:=j+1) (aN (by omega)) (aN (by omega)) (by omega)]
 have lq:cy j (cf (aK (R (A.take (2^j)) (B.drop (2^j))) (R (A.drop (2^j)) (B.take (2^j))))):=fun i hi=>by
  rw[ez,c3,c4,a7 rt j _ _ i hi,a7 rt j _ _ i hi];exact Rat.add_zero _
 have cj: ∀{p q:NQ},cy j (cf q)→ ∀i,cf (dh p q (2^j)) i=if i<2^j then cf p i else cf q (i-2^j):=fun {p q} hq i=>by
  show (dh p q (2^j)).getD i 0=_;rw[lW];by_cases h:i<2^j
  · rw[if_pos h,if_pos h];rfl
  · rw[if_neg h,if_neg h];by_cases h2:i<2^j+2^j
    · rw[if_pos h2];rfl
    · rw[if_neg h2,hq _ (by omega)]
 funext i;rw[cj lq,ez,ez,c1,c5,c2,c3,c4,gO (a:=A) (2^j) rfl,gO (a:=B) (2^j) rfl,bq rt j (dM (a:=A) (2^j) rfl) (dM (a:=B) (2^j) rfl),bq rt j (dM (a:=A) (2^j) rfl) iH.p0,bq rt j iH.p0 (dM (a:=B) (2^j) rfl)];rfl
theorem lR: ∀(l:Nat) {rt:List NQ} {a b:NQ},ak l a→ak l b→cu rt→l≤rt.length→ak l (eJ l rt a b)∧cf (eJ l rt a b)=mulC rt l (cf a) (cf b)
 | 0,rt,a,b,ha,hb,hrt,hl=>by
   have:=wg (R:=fun _ _=>[]) (bV ha) (bV hb) hrt hl (fun l' h=>by omega);rw[bM ha,bM hb] at this;exact this
 | l+1,rt,a,b,ha,hb,hrt,hl=>by
   have:=wg (R:=eJ l rt) (bV ha) (bV hb) hrt hl (fun l' e a' b' h1 h2=>by
    obtain rfl:l=l':=by omega
    exact lR l h1 h2 hrt (by omega))
   rw[bM ha,bM hb] at this;exact this
def iZ(l:Nat)(rt:List NQ)(a:NQ):NQ :=
 aK (eJ l rt (a.take (a.length / 2)) (a.take (a.length / 2))) (aM (eJ l rt (eJ l rt (a.drop (a.length / 2)) (a.drop (a.length / 2))) (rt.getD (a.length.log2-1) [])))
def mz(R:NQ→Int)(N:NQ→NQ)(rt:List NQ)(a:NQ):Int :=
 if a.length=0 then 0 else if a.length=1 then ji (a.getD 0 0) else
 if R (a.take (a.length / 2))=R (a.drop (a.length / 2))*R (rt.getD (a.length.log2-1) [])∨R (a.drop (a.length / 2))*R (rt.getD (a.length.log2-1) [])=0 then R (a.take (a.length / 2)) else
 if R (a.take (a.length / 2))=0 then R (a.drop (a.length / 2))*R (rt.getD (a.length.log2-1) []) else R (a.take (a.length / 2))*R (N a)
def oG:Nat→List NQ→NQ→Int
 | 0,rt,a=>mz (fun _=>0) (fun a=>a) rt (ar a)
 | l+1,rt,a=>mz (oG l rt) (iZ l rt) rt (ar a)
def pU(rt:List NQ):Prop:= ∀j,j<rt.length→0≤aV rt j (cf (rt.getD j []))
theorem AY{l j:Nat}{rt:List NQ}{a:NQ}(hj:j≤l)(ha:a.length=2^(j+1))(hrt:cu rt)(hl:l<rt.length):ak l (iZ l rt a)∧cf (iZ l rt a)=bK rt j (cf a):=by
 obtain ⟨e1,e2,e3⟩:=bg ha;have hx:ak l (a.take (a.length / 2)):= .inr ⟨j,hj,e1⟩;have hy:ak l (a.drop (a.length / 2)):= .inr ⟨j,hj,e2⟩;have hlog:a.length.log2-1=j:=by rw[ha,Nat.log2_two_pow];omega
 have hdl:(rt.getD j []).length=2^j:=hrt j (by omega);have hd:ak l (rt.getD j []):= .inr ⟨j,hj,hdl⟩;have r1:=lR l hx hx hrt (by omega);have r2:=lR l hy hy hrt (by omega);have r3:=lR l r2.1 hd hrt (by omega);unfold iZ;rw[hlog];refine⟨r1.1.plus r3.1.minus,?_⟩;unfold bK;funext i;rw[ez,jB,r1.2,r3.2,r2.2,b9 rt (aN (by omega)) (aN (by omega)) hj,b9 rt (aN (a:=a.drop (a.length / 2)) (by omega)) (aN (by omega)) hj,b9 rt (a7 rt j _ _) (aN (by omega)) hj,gO _ e3,bq rt j (dM _ e3) (dM _ e3)];exact Rat.sub_eq_add_neg _ _ |>.symm
theorem jk(rt:List NQ): ∀(l:Nat) (a:Cf),tD (aV rt l a)
 | 0,a=>eY _
 | l+1,a=>by
   unfold aV;split
   · exact jk rt l _
   split
   · exact jk rt l _
   split
   · exact jk rt l _
   · exact jM (jk rt l _) (jk rt l _)
theorem jl: ∀(l:Nat) {rt:List NQ} {a:NQ},ak l a→cu rt→pU rt→l≤rt.length→oG l rt a=aV rt l (cf a)
 | 0,rt,a,ha,hrt,hp,hl=>by
   have hs:=bV ha;have hc:=bM ha;show mz (fun _=>0) (fun a=>a) rt (ar a)=ji (cf a 0);rw[← hc];generalize ar a=s at hs;unfold mz;rcases hs with e | ⟨i,hi,e⟩
   · rw[if_pos e,List.length_eq_zero_iff.1 e];show 0=ji 0;rw[AP]
   · obtain rfl:i=0:=by omega
     have e:s.length=1:=e;rw[if_neg (by omega),if_pos e];rfl
 | l+1,rt,a,ha,hrt,hp,hl=>by
   have hs:=bV ha;have hc:=bM ha;show mz (oG l rt) (iZ l rt) rt (ar a)=aV rt (l+1) (cf a);rw[← hc];generalize ar a=s at hs;clear hc ha;unfold mz;by_cases h0:s.length=0
   · rw[if_pos h0,List.length_eq_zero_iff.1 h0];exact(eX rt (l+1)).symm
   rw[if_neg h0];by_cases h1:s.length=1
   · rw[if_pos h1,bC rt (j:=0) (aN (by rw[h1];exact Nat.le_refl _)) (Nat.zero_le _)];rfl
   rw[if_neg h1]
   obtain ⟨j,hj,hsl⟩: ∃j,j≤l∧s.length=2^(j+1):=by
    rcases hs with e | ⟨i,hi,e⟩
    · exact absurd e h0
    · rcases i with _ | j
      · exact absurd e h1
      · exact⟨j,by omega,e⟩
   obtain ⟨e1,e2,e3⟩:=bg hsl;have hx:ak l (s.take (s.length / 2)):= .inr ⟨j,hj,e1⟩;have hy:ak l (s.drop (s.length / 2)):= .inr ⟨j,hj,e2⟩;have hlog:s.length.log2-1=j:=by rw[hsl,Nat.log2_two_pow];omega
   have hdl:(rt.getD j []).length=2^j:=hrt j (by omega);have hd:ak l (rt.getD j []):= .inr ⟨j,hj,hdl⟩;have hn:=AY hj hsl hrt (by omega)
   have lowN:cy j (bK rt j (cf s)):=fun i hi=>by
    unfold bK;rw[a7 rt j _ _ i hi,a7 rt j _ _ i hi];exact Rat.sub_self
   have lh:cy j (bu j (cf s)):=fun i hi=>(aN (l:=j+1) (by omega)) _ (by rw[Nat.pow_succ];omega);have hpj:=hp j (by omega)
   rw[hlog,jl l hd hrt hp (by omega),jl l hx hrt hp (by omega),jl l hy hrt hp (by omega),jl l hn.1 hrt hp (by omega),hn.2,gO _ e3,
    bC rt (aN (a:=rt.getD j []) (by omega)) hj,bC rt (aN (a:=s.take (s.length / 2)) (by omega)) hj,bC rt lowN hj,jP rt j (dM _ e3),bC rt lh hj,bC rt (a:=cf s) (j:=j+1) (l:=l+1) (aN (by omega)) (by omega)]
   show _=if aV rt j (cf (rt.getD j []))=0 then aV rt j (cf s) else if aV rt j (cf s)=aV rt j (bu j (cf s))∨aV rt j (bu j (cf s))=0 then aV rt j (cf s) else
    if aV rt j (cf s)=0 then aV rt j (bu j (cf s)) else aV rt j (cf s)*aV rt j (bK rt j (cf s))
   have ht:=jk rt j (cf (rt.getD j []));generalize aV rt j (cf (rt.getD j []))=D at hpj ht;unfold tD at ht;rcases ht with rfl | rfl | rfl
   · rw[if_pos rfl,Int.mul_zero,if_pos (.inr rfl)]
   · rw[Int.mul_one,if_neg (show ¬(1:Int)=0 by decide)]
   · omega
end Lift
namespace Lift
open Go Go.Proofs
structure l8 (m:Nat) (v:List NQ):Prop where
 l5:v.length≤5
 ro:cu v
 sz:ed m v
 ps: ∀k,k<v.length→ ¬dy k (v.take k) (v.getD k [])<0
 m2:m≤1000000
 t: ∃m0,1≤m0∧m0≤m∧ed m0 v∧nM v.length m0
theorem l8.m1{m:Nat}{v:List NQ}(V:l8 m v):1≤m:=by
 obtain ⟨m0,h1,h2,_⟩:=V.t;omega
theorem l8.mono{m k:Nat}{v:List NQ}(V:l8 m v)(h:m≤k)(hk:k≤1000000):l8 k v:=by
 obtain ⟨m0,h1,h2,h3,h4⟩:=V.t;exact⟨V.l5,V.ro,V.sz.mono h,V.ps,hk,m0,h1,by omega,h3,h4⟩
theorem l8.of{m:Nat}{rt:List (List RD)}(T:DS m rt)(h:cO rt=0):l8 m (rt.map bj):=by
 have W:=DW T h;exact⟨by rw[W.ln];exact W.l5,W.ro,W.sz,W.ps,T.m2,by rw[W.ln];exact W.t⟩
def dK(a:NQ):List RD:=a.map Qr
theorem wj(a:NQ):bj (dK a)=a:=by
 unfold bj dK;rw[List.map_map];have:(RD.val ∘ Qr)=id:=funext cT;rw[this,List.map_id]
theorem oK(a:NQ):cY (dK a)=af a:=by
 show D.sl 3 ((a.map Qr).map RD.D)=D.sl 3 (List.map _ a);rw[List.map_map];rfl
theorem gd(a:NQ):(dK a).length=a.length:=List.length_map ..
theorem oJ{a:NQ}{k:Nat}(h:aq k a):wN k (dK a):=fun i hi=>by
 rw[gd] at hi;unfold dK;rw[List.getD_eq_getElem?_getD,List.getElem?_map,List.getElem?_eq_getElem hi];have:=h i;rw[List.getD_eq_getElem?_getD,List.getElem?_eq_getElem hi] at this;exact jD _ this
theorem kL{a:NQ}{l:Nat}(h:ak l a):bB l (dK a)=0:=by
 unfold bB;rw[gd]
 have h1: ¬(a.length≠0∧yh l a.length=false):=fun hs=>by
  rcases h with e | ⟨i,hi,e⟩
  · exact hs.1 e
  · rw[e,vi,decide_eq_true hi] at hs;exact Bool.noConfusion hs.2
 have h2:iT (dK a)=true:=by
  unfold iT dK;rw[List.all_map,List.all_eq_true];exact fun q _=>zD q
 rw[if_neg h1,if_neg (by rw[h2];simp)]
def jQ(v:List NQ):List (List RD):=v.map dK
theorem fm(v:List NQ):(jQ v).length=v.length:=List.length_map ..
theorem nB(v:List NQ)(i:Nat):(jQ v).getD i []=dK (v.getD i []):=by
 unfold jQ;rw[List.getD_eq_getElem?_getD,List.getElem?_map,List.getD_eq_getElem?_getD];cases v[i]? with
 | none=>rfl
 | some x=>rfl
theorem A7(v:List NQ):(jQ v).map bj=v:=by
 unfold jQ;rw[List.map_map];have:(bj ∘ dK)=id:=funext wj;rw[this,List.map_id]
theorem kK(v:List NQ):TrD (jQ v)=bF v:=by
 show D.ag [.sl 1 ((v.map dK).map cY)]=D.ag [.sl 1 (v.map af)];rw[List.map_map];have:(cY ∘ dK)=af:=funext oK;rw[this]
theorem iy{f:Nat→Nat}: ∀{n i:Nat},(∀j,j<i+n→f j=0)→fE f n i=0
 | 0,i,h=>rfl
 | n+1,i,h=>by
   rw[fE,if_pos (h i (by omega))];exact iy (fun j hj=>h j (by omega))
theorem l8.raw{m:Nat}{v:List NQ}(V:l8 m v):DS m (jQ v)∧cO (jQ v)=0:=by
 have l5:=V.l5;have hp: ∀i,i<v.length→2^i≤2^5:=fun i hi=>Nat.pow_le_pow_right (by decide) (by omega);obtain ⟨m0,t1,t2,ts,tk⟩:=V.t
 refine⟨⟨⟨m0,t1,t2,fun i hi _=>by rw[nB];exact oJ (ts i),fun _=>by rw[fm];exact tk⟩,V.m2,by rw[fm];omega,fun i hi=>by
  rw[fm] at hi;rw[nB,gd,V.ro i hi];have:=hp i hi
  omega⟩,?_⟩
 unfold cO;rw[fm,if_neg (by omega)];refine iy fun j hj=>?_;have hj:j<v.length:=by omega
 unfold sR;rw[nB,gd,if_neg (fun h=>h (V.ro j hj)),if_neg (fun h=>h (kL (.inr ⟨j,Nat.le_refl _,V.ro j hj⟩))),wj,List.map_take,A7,if_neg (V.ps j hj)]
theorem C6{m:Nat}{v:List NQ}{a:NQ}(V:l8 m v)(ha:ak v.length a)(sa:aq m a):Ct m (jQ v) (dK a):=⟨fun _=>oJ sa,by
 have l5:=V.l5;rw[gd]
 exact Nat.le_trans (ha.len (by omega)) (by decide)⟩
theorem GV{m:Nat}{v:List NQ}{a:NQ}(V:l8 m v)(ha:ak v.length a):oc (jQ v) [dK a]=0:=by
 unfold oc;rw[if_neg (by rw[V.raw.2];simp)];refine iy fun j hj=>?_;have hj:j<0+1:=hj;obtain rfl:j=0:=by omega
 rw[fm];exact kL ha
theorem ck2{m:Nat}{v:List NQ}{a b:NQ}(V:l8 m v)(ha:ak v.length a)(hb:ak v.length b):oc (jQ v) [dK a,dK b]=0:=by
 unfold oc;rw[if_neg (by rw[V.raw.2];simp)];refine iy fun j hj=>?_;have hj:j<0+2:=hj;rw[fm]
 match j,hj with
 | 0,_=>exact kL ha
 | 1,_=>exact kL hb
def Bp(a:NQ):NQ:=ar (aM a)
def vH(a b:NQ):NQ:=ar (aK a b)
def pY(a b:NQ):NQ:=ar (aK a (aM b))
def fP(v:List NQ)(a b:NQ):NQ:=ar (aS v.length v a b)
theorem Dg{l k:Nat}{a:NQ}(ha:ak l a)(sa:aq k a):ak l (Bp a)∧aq k (Bp a):=aT ha.minus sa.minus
theorem DP{l k j:Nat}{a b:NQ}(ha:ak l a)(sa:aq k a)(hb:ak l b)(sb:aq j b):ak l (vH a b)∧aq (k+j+1) (vH a b):=aT (ha.plus hb) (sa.plus sb)
theorem CO{l k j:Nat}{a b:NQ}(ha:ak l a)(sa:aq k a)(hb:ak l b)(sb:aq j b):ak l (pY a b)∧aq (k+j+1) (pY a b):=aT (ha.plus hb.minus) (sa.plus sb.minus)
theorem l8.pos{m:Nat}{v:List NQ}(V:l8 m v):pU v:=fun j hj=>by
 have h:=V.ps j hj
 have e: ∀i,i<j→(v.take j).getD i []=v.getD i []:=fun i hi=>by
  rw[List.getD_eq_getElem?_getD,List.getElem?_take_of_lt hi,List.getD_eq_getElem?_getD]
 have ro:cu (v.take j):=fun i hi=>by
  rw[List.length_take] at hi;rw[e i (by omega)];exact V.ro i (by omega)
 have lt:ak j (v.getD j []):= .inr ⟨j,Nat.le_refl _,V.ro j hj⟩;rw[fj j lt ro (by rw[List.length_take];omega)] at h
 have key: ∀(l:Nat) (a:Cf),l≤j→aV (v.take j) l a=aV v l a∧ ∀b:Cf,mulC (v.take j) l a b=mulC v l a b:=by
  intro l
  induction l with
  | zero=>exact fun a _=>⟨rfl,fun b=>rfl⟩
  | succ l ih =>
    intro a hl;have hm: ∀x y:Cf,mulC (v.take j) l x y=mulC v l x y:=fun x y=>(ih x (by omega)).2 y;have hs: ∀x:Cf,aV (v.take j) l x=aV v l x:=fun x=>(ih x (by omega)).1;refine⟨?_,fun b=>?_⟩
    · unfold aV bK;simp only[hm,hs,e l (by omega)]
    · funext i;show (if i<2^l then mulC (v.take j) l a b i+mulC (v.take j) l (mulC (v.take j) l (bu l a) (bu l b)) (cf ((v.take j).getD l [])) i else mulC (v.take j) l a (bu l b) (i-2^l)+mulC (v.take j) l (bu l a) b (i-2^l))=_;simp only[hm,e l (by omega)];rfl
 rw[(key j _ (Nat.le_refl _)).1] at h;omega
end Lift
namespace Lift
open Go Go.Proofs
def k9(R:NQ→NQ)(S:NQ→Int)(N:NQ→NQ)(T:NQ→NQ→NQ)(s:NQ):NQ :=
 if s.length=1 then [1 / s.getD 0 0] else
 if S (N s)=0 then R (aK (s.take (s.length / 2)) (s.take (s.length / 2))) else
 T (dh (s.take (s.length / 2)) (aM (s.drop (s.length / 2))) (s.length / 2)) (R (N s))
def jv:Nat→List NQ→NQ→NQ
 | 0,rt,a=>k9 (fun _=>[]) (fun _=>0) (fun a=>a) (fun _ _=>[]) (ar a)
 | l+1,rt,a=>k9 (jv l rt) (dy l rt) (eA l rt) (aS (l+1) rt) (ar a)
def FI(O:NQ→Prop)(R:NQ→NQ)(S:NQ→Int)(Sk:NQ→Prop)(N:NQ→NQ)(Nk:NQ→Prop)(Tk:NQ→NQ→Prop)(s:NQ):Prop:=s.length≠0∧(s.length≠1 →
 Nk s∧Sk (N s)∧(S (N s)=0→O (aK (s.take (s.length / 2)) (s.take (s.length / 2)))) ∧
 (S (N s)≠0→O (N s)∧Tk (dh (s.take (s.length / 2)) (aM (s.drop (s.length / 2))) (s.length / 2)) (R (N s))))
def FJ:Nat→List NQ→NQ→Prop
 | 0,rt,a=>kv a∧(ar a).length≠0
 | l+1,rt,a=>kv a∧FI (FJ l rt) (jv l rt) (dy l rt) (Bk l rt) (eA l rt) (EE l rt) (zU (l+1) rt) (ar a)
theorem oC{l:Nat}{a:NQ}(ha:ak l a)(h:(ar a).length=1):(ar a).getD 0 0≠0:=(kF ha).one h
theorem zf{l:Nat}{R:NQ→NQ}{S:NQ→Int}{N:NQ→NQ}{T:NQ→NQ→NQ}{s:NQ}(hs:ak l s)(h0:s.length≠0)
  (hR: ∀l',l=l'+1→ ∀b,ak l' b→ak l' (R b)) (hN: ∀l',l=l'+1→ ∀j,j≤l'→s.length=2^(j+1)→ak l' (N s)) (hT: ∀b c,ak l b→ak l c→ak l (T b c)):ak l (k9 R S N T s):=by
 unfold k9;split
 · exact gR _ _
 rename_i h1
 obtain ⟨i,hi,hla2⟩: ∃i,i≤l∧s.length=2^i:=by
  rcases hs with e | e
  · omega
  · exact e
 have wU:i≠0:=fun e=>h1 (by rw[hla2,e]);obtain ⟨j,rfl⟩: ∃j,i=j+1:=⟨i-1,by omega⟩;obtain ⟨l',rfl⟩: ∃l',l=l'+1:=⟨l-1,by omega⟩;obtain ⟨e1,e2,e3⟩:=bg hla2;have hx:ak l' (s.take (s.length / 2)):= .inr ⟨j,by omega,e1⟩;have hN:=hN l' rfl j (by omega) hla2;split
 · exact(hR l' rfl _ (hx.plus hx)).mono (by omega)
 · exact hT _ _ (.inr ⟨j+1,by omega,by rw[dF,e3,Nat.pow_succ];omega⟩) ((hR l' rfl _ hN).mono (by omega))
theorem gA: ∀(l:Nat) {rt:List NQ} {a:NQ},ak l a→cu rt→l≤rt.length→ak l (jv l rt a)
 | 0,rt,a,ha,hrt,hl=>by
   have hs:=bV ha;show ak 0 (k9 _ _ _ _ _);by_cases h0:(ar a).length=0
   · rw[List.length_eq_zero_iff.1 h0];exact bn _
   · exact zf hs h0 (fun l' h=>by omega) (fun l' h=>by omega) (fun _ _ _ _=>bn _)
 | l+1,rt,a,ha,hrt,hl=>by
   have hs:=bV ha;show ak (l+1) (k9 _ _ _ _ _);by_cases h0:(ar a).length=0
   · rw[List.length_eq_zero_iff.1 h0];unfold k9;rw[if_neg (by decide)];split
     · exact(gA l (bn _) hrt (by omega)).mono (by omega)
     · exact dQ (l+1) (bn _) ((gA l (by
        obtain ⟨K,k1,_,k3⟩:=tH (eA l rt []) [] rt;unfold eA
        have t0: ∀c,ak l (aS l rt c []):=fun c=>by
         cases l with
         | zero=>show ak 0 (iC _ c []);unfold iC;rw[if_neg (show ¬c.length<([]:NQ).length from Nat.not_lt_zero _)];unfold gw;rw[if_pos (by show (a9 c||true)=true;rw[Bool.or_true])];exact bn _
         | succ l=>show ak (l+1) (iC _ c []);unfold iC;rw[if_neg (show ¬c.length<([]:NQ).length from Nat.not_lt_zero _)];unfold gw;rw[if_pos (by show (a9 c||true)=true;rw[Bool.or_true])];exact bn _
        have e:rt.getD (Nat.log2 ([]:NQ).length-1) []=rt.getD 0 []:=rfl;have hd:ak l (rt.getD 0 []):= .inr ⟨0,Nat.zero_le _,hrt 0 (by omega)⟩
        exact(t0 []).plus (dQ l (t0 []) hd hrt (by omega)).minus) hrt (by omega)).mono (by omega)) hrt hl
   · exact zf hs h0 (fun l' e b hb=>by
      obtain rfl:l=l':=by omega
      exact gA l hb hrt (by omega)) (fun l' e j h1 h2=>by
      obtain rfl:l=l':=by omega
      exact qs h1 h2 hrt (by omega)) (fun b c hb hc=>dQ (l+1) hb hc hrt hl)
set_option maxHeartbeats 1600000 in
theorem wT{l:Nat}{O:NQ→Prop}{R:NQ→NQ}{S:NQ→Int}{Sk:NQ→Prop}{N:NQ→NQ}{Nk:NQ→Prop}{T:NQ→NQ→NQ}{Tk:NQ→NQ→Prop}{rt:List NQ}{a:NQ}(ha:ak l a)(hl5:l≤5)(hl:l≤rt.length)(hl10:rt.length≤10)(sa:kv a)(h0:(ar a).length≠0)
  (hok:l≠0→FI O R S Sk N Nk Tk (ar a))
  (hR: ∀l',l=l'+1→ ∀b,ak l' b→O b→Pure Tryz.prog 131 [bF rt,af b] (af (R b)))
  (hRl: ∀l',l=l'+1→ ∀b,ak l' b→ak l' (R b))
  (hS: ∀l',l=l'+1→ ∀b,ak l' b→Sk b→Pure Tryz.prog 64 [bF rt,af b] (dI (S b)))
  (hN: ∀l',l=l'+1→ ∀b j,j≤l'→b.length=2^(j+1)→Nk b→Pure Tryz.prog 109 [bF rt,af b] (af (N b))∧ak l' (N b))
  (hT: ∀b c,ak l b→ak l c→Tk b c→Pure Tryz.prog 63 [bF rt,af b,af c] (af (T b c))):
  Pure Tryz.prog 131 [bF rt,af a] (af (k9 R S N T (ar a))):=by
 refine qJ 57 Tryz.func131 rfl rfl rfl rfl (by kernel_rfl) (fun B F0 w0=>?_);have cs:=bJ a ha hl5 sa (by omega);have hone:=oC ha;obtain ⟨ha,sa⟩:=aT ha sa;generalize ar a=b at cs ha sa hok hone h0 ⊢;have hlb:=ha.len (by omega);unfold k9;refine qX 2 rfl ?_;refine qK 1 rfl ?_;refine ab.call tok rfl rfl rfl rfl cs ?_;refine qU 1 rfl ?_;refine qI ?_;refine qX 2 rfl ?_;rw[List.length_map];refine qU 1 rfl ?_;refine ab.nil ?_;by_cases h1:b.length=1
 · have g:=kq (r:=b) (i:=0) (by omega);have cq:=qe (Qr 1) (Qr (b.getD 0 0)) (jD 1 (by have:=sM;omega)) (jD _ (sa 0)) (by omega) (by rw[cT];exact hone h1);rw[cT,cT] at cq;rw[if_pos h1,beq_iff_eq.2 (show (b.length:Int)=1 by omega)];refine AW.aF rfl ?_;refine AW.seq ?_;refine AW.n8 tok aP [(7,true),(1,false),(1,true)] 9 [5] (by kernel_rfl) ⟨rfl,?_⟩;refine ae.call tok rfl rfl rfl rfl rfl (ix 1 (by decide) (by decide)) ?_;refine qP 1 rfl ?_;refine ae.idx tok (Qr (b.getD 0 0)).D rfl rfl rfl rfl rfl (Int.le_refl _) g ?_;refine qP 1 rfl ?_;refine ae.call tok rfl rfl rfl rfl rfl cq ?_;refine qP 2 rfl ?_;refine ae.nil ⟨rfl,?_⟩;refine qP 1 rfl ?_;refine ae.nil ⟨rfl,?_⟩;refine qP 1 rfl ?_;refine ae.nil ⟨_,oq.cons (.bx rfl) (oq.nil),?_⟩;refine qU 1 rfl ?_;refine qK 1 rfl ?_;refine ab.fI tok rfl rfl rfl rfl rfl ?_;refine qU 1 rfl ?_;exact qN rfl
 rw[if_neg h1,beq_eq_false_iff_ne.2 (show (b.length:Int)≠1 by omega)];refine AW.ay rfl ?_;refine AW.skip ?_
 obtain ⟨i,hi,hla2⟩: ∃i,i≤l∧b.length=2^i:=by
  rcases ha with e | e
  · omega
  · exact e
 have wU:i≠0:=fun e=>h1 (by rw[hla2,e]);obtain ⟨j,rfl⟩: ∃j,i=j+1:=⟨i-1,by omega⟩;obtain ⟨l',rfl⟩: ∃l',l=l'+1:=⟨l-1,by omega⟩;have hj:j≤l':=by omega
 obtain ⟨_,o1⟩:=hok (by omega);obtain ⟨oN,oS,oz,oi⟩:=o1 h1;have hN:=hN l' rfl b j hj hla2 oN;have hS:=hS l' rfl _ hN.2 oS;obtain ⟨e1,e2,e3⟩:=bg hla2;obtain ⟨n,hn⟩: ∃n,n=b.length / 2:=⟨_,rfl⟩;rw[← hn] at e1 e2 e3 oz oi ⊢
 have hn2:b.length=n+n:=by
  have:2^(j+1)=2^j*2:=Nat.pow_succ ..;omega
 have hx:ak l' (b.take n):= .inr ⟨j,hj,e1⟩;have hy:ak l' (b.drop n):= .inr ⟨j,hj,e2⟩;refine qX 2 rfl ?_;rw[List.length_map];refine ab.div tok rfl rfl rfl rfl (by decide) ?_;rw[fH _ (by omega),← hn];refine qU 1 rfl ?_;refine qK 2 rfl ?_;refine ab.call tok rfl rfl rfl rfl hN.1 ?_;refine qU 1 rfl ?_;refine qI ?_;refine qX 2 rfl ?_;refine ab.call tok rfl rfl rfl rfl hS ?_;refine qU 1 rfl ?_;refine ab.nil ?_;by_cases hz:S (N b)=0
 · have ci:=hR l' rfl _ (hx.plus hx) (oz hz);have cp:=cQ (b.take n) (b.take n) (sa.take n) (sa.take n) (by omega) (by rw[e1];omega) (by rw[e1];omega);rw[if_pos hz,beq_iff_eq.2 hz];refine AW.aF rfl ?_;refine AW.seq ?_;refine AW.draw aP 9 (by kernel_rfl) ?_;refine qP 3 rfl ?_;refine ae.ff tok (a:=b) (b.take n) rfl rfl rfl rfl rfl trivial (Int.natCast_nonneg n) (Nat.zero_le _) (show n≤b.length by omega) rfl ?_;refine qP 2 rfl ?_;refine ae.ff tok (a:=b) (b.take n) rfl rfl rfl rfl rfl trivial (Int.natCast_nonneg n) (Nat.zero_le _) (show n≤b.length by omega) rfl ?_;refine ae.call tok rfl rfl rfl rfl rfl cp ?_;refine ae.call tok rfl rfl rfl rfl rfl ci ?_;refine ae.nil ?_;refine qU 1 rfl ?_;exact qN rfl
 obtain ⟨o2,o3⟩:=oi hz;have ci:=hR l' rfl _ hN.2 o2;have cm:=dO (b.drop n) (sa.drop n) (by omega) (by rw[e2];omega);have cj:=iX (b.take n) (aM (b.drop n)) n (by omega);have ct:=hT _ _ (.inr ⟨j+1,by omega,by rw[dF,e3,Nat.pow_succ];omega⟩) ((hRl l' rfl _ hN.2).mono (by omega)) o3;rw[if_neg hz,beq_eq_false_iff_ne.2 hz];refine AW.ay rfl ?_;refine AW.skip (AW.seq ?_);refine AW.draw aP 14 (by kernel_rfl) ?_;refine qP 3 rfl ?_;refine ae.ff tok (a:=b) (b.take n) rfl rfl rfl rfl rfl trivial (Int.natCast_nonneg n) (Nat.zero_le _) (show n≤b.length by omega) rfl ?_;refine qP 2 rfl ?_;refine ae.ff tok (a:=b) (b.drop n) rfl rfl rfl rfl rfl (Int.natCast_nonneg n) trivial (show n≤b.length by omega) (Nat.le_refl _) (by show (b.take b.length).drop n=_;rw[List.take_length]) ?_;refine ae.call tok rfl rfl rfl rfl rfl cm ?_;refine qP 1 rfl ?_;refine ae.call tok rfl rfl rfl rfl rfl cj ?_;refine qP 2 rfl ?_;refine ae.call tok rfl rfl rfl rfl rfl ci ?_;refine ae.call tok rfl rfl rfl rfl rfl ct ?_;refine ae.nil ?_;refine qU 1 rfl ?_;exact qN rfl
theorem iJ: ∀(l:Nat) {rt:List NQ} {a:NQ},ak l a→l≤5→cu rt→l≤rt.length→rt.length≤10→FJ l rt a→Pure Tryz.prog 131 [bF rt,af a] (af (jv l rt a))
 | 0,rt,a,ha,hl5,hrt,hl,hl10,hok=>wT (O:=fun _=>True) (Sk:=fun _=>True) (Nk:=fun _=>True) (Tk:=fun _ _=>False) ha hl5 hl hl10 hok.1 hok.2 (fun h=>absurd rfl h) (fun l' h=>by omega) (fun l' h=>by omega) (fun l' h=>by omega) (fun l' h=>by omega) (fun _ _ _ _ h=>h.elim)
 | l+1,rt,a,ha,hl5,hrt,hl,hl10,hok=>wT (O:=FJ l rt) (Sk:=Bk l rt) (Nk:=EE l rt) (Tk:=zU (l+1) rt) ha hl5 hl hl10 hok.1 hok.2.1 (fun _=>hok.2) (fun l' e b h1 h2=>by
    obtain rfl:l=l':=by omega
    exact iJ l h1 (by omega) hrt (by omega) hl10 h2) (fun l' e b h1=>by
    obtain rfl:l=l':=by omega
    exact gA l h1 hrt (by omega)) (fun l' e b h1 h2=>by
    obtain rfl:l=l':=by omega
    exact cZ l h1 (by omega) hrt (by omega) hl10 h2) (fun l' e b j h1 h2 h3=>by
    obtain rfl:l=l':=by omega
    exact⟨kB h1 h2 hrt (by omega) hl10 h3,qs h1 h2 hrt (by omega)⟩) (fun b c h1 h2 h3=>bQ (l+1) h1 h2 hrt hl hl10 h3)
end Lift
namespace Lift
open Go Go.Proofs
def jH(v:List NQ):Prop:= ∃m,l8 m v
theorem l8.a{m:Nat}{v:List NQ}(V:l8 m v):jH v:=⟨m,V⟩
theorem jH.l5{v:List NQ}(V:jH v):v.length≤5:=V.elim fun _ V=>V.l5
theorem jH.ro{v:List NQ}(V:jH v):cu v:=V.elim fun _ V=>V.ro
def td(v:List NQ)(a b:NQ):NQ:=ar (aS v.length v a (jv v.length v b))
def oF(v:List NQ)(a:NQ):Int:=dy v.length v a
def rE(v:List NQ)(a b:NQ):Prop:=kv a∧kv b∧zU v.length v a b∧kv (aS v.length v a b)
def wD(a b:NQ):Prop:=kv a∧kv b∧kv (aK a b)
def Bg(a b:NQ):Prop:=kv a∧kv b∧kv (aK a (aM b))
def Bm(v:List NQ)(a b:NQ):Prop:=kv a∧kv b∧Bk v.length v b∧oF v b≠0∧FJ v.length v b∧zU v.length v a (jv v.length v b)∧kv (aS v.length v a (jv v.length v b))
def s4(v:List NQ)(a:NQ):Prop:=Bk v.length v a
theorem s4.sz{v:List NQ}{a:NQ}(h:s4 v a):kv a:=Bk.sz h
theorem zw{v:List NQ}(V:jH v)(l:List NQ)(hl:l.length≤1000000)(h: ∀i,i<l.length→ak v.length (l.getD i [])∧kv (l.getD i [])):Pure Tryz.prog 61 [bF v,.sl 1 (l.map af)] aj:=by
 obtain ⟨m,V⟩:=V;obtain ⟨m0,t1,t2,tw,tk⟩:=V.raw.1.t;have l5:=V.l5
 have g: ∀i,(l.map dK).getD i []=dK (l.getD i []):=fun i=>by
  rw[List.getD_eq_getElem?_getD,List.getElem?_map,List.getD_eq_getElem?_getD];cases l[i]? with
  | none=>rfl
  | some x=>rfl
 have c:=kd (jQ v) (l.map dK) (mn:=17300000000000) tw t1 V.raw.1.l V.raw.1.ll tk (fun i hi=>by
  rw[List.length_map] at hi;rw[g];exact fun _=>oJ (h i hi).2) (by rw[List.length_map];exact hl) (fun i hi=>by
  rw[List.length_map] at hi
  rw[g,gd];exact Nat.le_trans ((h i hi).1.len (by omega)) (by decide)) (by omega)
 have e:oc (jQ v) (l.map dK)=0:=by
  unfold oc;rw[if_neg (by rw[V.raw.2];simp)];refine iy fun j hj=>?_;rw[List.length_map] at hj;rw[fm,g];exact kL (h j (by omega)).1
 rw[e,kK,List.map_map,show (cY ∘ dK)=af from funext oK] at c;exact c
theorem xf{v:List NQ}{a:NQ}(V:jH v)(ha:ak v.length a)(sa:kv a):Pure Tryz.prog 61 [bF v,.sl 1 [af a]] aj :=
 zw V [a] (show 1≤1000000 by decide) (fun i hi=>by
  have:i<1:=hi;obtain rfl:i=0:=by omega
  exact⟨ha,sa⟩)
theorem lu{v:List NQ}{a b:NQ}(V:jH v)(ha:ak v.length a)(sa:kv a)(hb:ak v.length b)(sb:kv b):Pure Tryz.prog 61 [bF v,.sl 1 [af a,af b]] aj :=
 zw V [a,b] (show 2≤1000000 by decide) (fun i hi=>by
  have:i<2:=hi
  match i,this with
  | 0,_=>exact⟨ha,sa⟩
  | 1,_=>exact⟨hb,sb⟩)
theorem xA{v:List NQ}{a:NQ}(V:jH v)(ha:ak v.length a)(sa:kv a):Pure Tryz.prog 91 [bF v,af a] (.tu [af (Bp a),aj]):=by
 refine qJ 17 Tryz.func91 rfl rfl rfl rfl (by kernel_rfl) (fun B0 F0 w0=>?_);have hl5:=V.l5;have hro:=V.ro;have cc:=xf V ha sa;have c1:=dO a sa (by omega) (Nat.le_trans (ha.len (by omega)) (by decide));have c2:=bJ (aM a) ha.minus hl5 sa.minus (by omega);refine qX 3 rfl ?_;refine qI ?_;refine qX 2 rfl ?_;refine ab.fI tok rfl rfl rfl rfl rfl ?_;refine ab.call tok rfl rfl rfl rfl cc ?_;refine qU 1 rfl ?_;refine qK 1 rfl ?_;refine ab.err tok rfl rfl rfl rfl rfl ?_;refine ab.nil ?_;refine AW.ay rfl ?_
 · refine AW.skip ?_;refine qX 1 rfl ?_;refine ab.call tok rfl rfl rfl rfl c1 ?_;refine ab.call tok rfl rfl rfl rfl c2 ?_;refine qU 2 rfl ?_;exact qN rfl
theorem xD{v:List NQ}{a:NQ}{b:NQ}(V:jH v)(ha:ak v.length a)(hb:ak v.length b)(ok:wD a b):Pure Tryz.prog 101 [bF v,af a,af b] (.tu [af (vH a b),aj]):=by
 refine qJ 21 Tryz.func101 rfl rfl rfl rfl (by kernel_rfl) (fun B0 F0 w0=>?_);have hl5:=V.l5;have hro:=V.ro;obtain ⟨sa,sb,sc⟩:=ok;have cc:=lu V ha sa hb sb;have c1:=cQ a b sa sb (by omega) (Nat.le_trans (ha.len (by omega)) (by decide)) (Nat.le_trans (hb.len (by omega)) (by decide));have c2:=bJ (aK a b) (ha.plus hb) hl5 sc (by omega);refine qX 3 rfl ?_;refine qI ?_;refine qX 3 rfl ?_;refine ab.fI tok rfl rfl rfl rfl rfl ?_;refine ab.call tok rfl rfl rfl rfl cc ?_;refine qU 1 rfl ?_;refine qK 1 rfl ?_;refine ab.err tok rfl rfl rfl rfl rfl ?_;refine ab.nil ?_;refine AW.ay rfl ?_
 · refine AW.skip ?_;refine qX 2 rfl ?_;refine ab.call tok rfl rfl rfl rfl c1 ?_;refine ab.call tok rfl rfl rfl rfl c2 ?_;refine qU 2 rfl ?_;exact qN rfl
theorem xz{v:List NQ}{a:NQ}{b:NQ}(V:jH v)(ha:ak v.length a)(hb:ak v.length b)(ok:Bg a b):Pure Tryz.prog 132 [bF v,af a,af b] (.tu [af (pY a b),aj]):=by
 refine qJ 22 Tryz.func132 rfl rfl rfl rfl (by kernel_rfl) (fun B0 F0 w0=>?_);have hl5:=V.l5;have hro:=V.ro;obtain ⟨sa,sb,sc⟩:=ok;have cc:=lu V ha sa hb sb;have c0:=dO b sb (by omega) (Nat.le_trans (hb.len (by omega)) (by decide));have c1:=cQ a (aM b) sa sb.minus (by omega) (Nat.le_trans (ha.len (by omega)) (by decide)) (Nat.le_trans (hb.minus.len (by omega)) (by decide));have c2:=bJ (aK a (aM b)) (ha.plus hb.minus) hl5 sc (by omega);refine qX 3 rfl ?_;refine qI ?_;refine qX 3 rfl ?_;refine ab.fI tok rfl rfl rfl rfl rfl ?_;refine ab.call tok rfl rfl rfl rfl cc ?_;refine qU 1 rfl ?_;refine qK 1 rfl ?_;refine ab.err tok rfl rfl rfl rfl rfl ?_;refine ab.nil ?_;refine AW.ay rfl ?_
 · refine AW.skip ?_;refine qX 2 rfl ?_;refine ab.call tok rfl rfl rfl rfl c0 ?_;refine ab.call tok rfl rfl rfl rfl c1 ?_;refine ab.call tok rfl rfl rfl rfl c2 ?_;refine qU 2 rfl ?_;exact qN rfl
theorem jN{v:List NQ}{a:NQ}{b:NQ}(V:jH v)(ha:ak v.length a)(hb:ak v.length b)(ok:rE v a b):Pure Tryz.prog 28 [bF v,af a,af b] (.tu [af (fP v a b),aj]):=by
 refine qJ 22 Tryz.func28 rfl rfl rfl rfl (by kernel_rfl) (fun B0 F0 w0=>?_);have hl5:=V.l5;have hro:=V.ro;obtain ⟨sa,sb,st,sc⟩:=ok;have cc:=lu V ha sa hb sb;have c1:=bQ v.length ha hb hro (Nat.le_refl _) (by omega) st;have c2:=bJ _ (dQ v.length ha hb hro (Nat.le_refl _)) hl5 sc (by omega);refine qX 3 rfl ?_;refine qI ?_;refine qX 3 rfl ?_;refine ab.fI tok rfl rfl rfl rfl rfl ?_;refine ab.call tok rfl rfl rfl rfl cc ?_;refine qU 1 rfl ?_;refine qK 1 rfl ?_;refine ab.err tok rfl rfl rfl rfl rfl ?_;refine ab.nil ?_;refine AW.ay rfl ?_
 · refine AW.skip ?_;refine qX 3 rfl ?_;refine ab.call tok rfl rfl rfl rfl c1 ?_;refine ab.call tok rfl rfl rfl rfl c2 ?_;refine qU 2 rfl ?_;exact qN rfl
theorem xB{v:List NQ}{a:NQ}{b:NQ}(V:jH v)(ha:ak v.length a)(hb:ak v.length b)(ok:Bm v a b):Pure Tryz.prog 89 [bF v,af a,af b] (.tu [af (td v a b),aj]):=by
 refine qJ 29 Tryz.func89 rfl rfl rfl rfl (by kernel_rfl) (fun B0 F0 w0=>?_);have hl5:=V.l5;have hro:=V.ro;obtain ⟨sa,sb,sg,s0,si,st,sc⟩:=ok;have cc:=lu V ha sa hb sb;have hi:=gA v.length hb hro (Nat.le_refl _);have c0:=cZ v.length hb hl5 hro (Nat.le_refl _) (by omega) sg;have c1:=iJ v.length hb hl5 hro (Nat.le_refl _) (by omega) si;have c2:=bQ v.length ha hi hro (Nat.le_refl _) (by omega) st;have c3:=bJ _ (dQ v.length ha hi hro (Nat.le_refl _)) hl5 sc (by omega);change dy v.length v b≠0 at s0;unfold td;generalize dy v.length v b=z at c0 s0;refine qX 3 rfl ?_;refine qI ?_;refine qX 3 rfl ?_;refine ab.fI tok rfl rfl rfl rfl rfl ?_;refine ab.call tok rfl rfl rfl rfl cc ?_;refine qU 1 rfl ?_;refine qK 1 rfl ?_;refine ab.err tok rfl rfl rfl rfl rfl ?_;refine ab.nil ?_;refine AW.ay rfl ?_
 · refine AW.skip (AW.seq ?_);refine qX 2 rfl ?_;refine ab.call tok rfl rfl rfl rfl c0 ?_;refine qU 1 rfl ?_;refine ab.nil ?_;rw[beq_eq_false_iff_ne.2 s0];refine AW.ay rfl ?_
   · refine AW.skip (AW.seq ?_);refine AW.draw aP 7 (by kernel_rfl) ?_;refine qP 4 rfl ?_;refine ae.call tok rfl rfl rfl rfl rfl c1 ?_;refine ae.call tok rfl rfl rfl rfl rfl c2 ?_;refine ae.call tok rfl rfl rfl rfl rfl c3 ?_;refine ae.nil ?_;refine qU 2 rfl ?_;exact qN rfl
theorem kA{v:List NQ}{a:NQ}(V:jH v)(ha:ak v.length a)(ok:s4 v a):Pure Tryz.prog 29 [bF v,af a] (.tu [dI (oF v a),aj]):=by
 refine qJ 17 Tryz.func29 rfl rfl rfl rfl (by kernel_rfl) (fun B0 F0 w0=>?_);have hl5:=V.l5;have hro:=V.ro;have cc:=xf V ha ok.sz;have c1:=cZ v.length ha hl5 hro (Nat.le_refl _) (by omega) ok;refine qX 3 rfl ?_;refine qI ?_;refine qX 2 rfl ?_;refine ab.fI tok rfl rfl rfl rfl rfl ?_;refine ab.call tok rfl rfl rfl rfl cc ?_;refine qU 1 rfl ?_;refine qK 1 rfl ?_;refine ab.err tok rfl rfl rfl rfl rfl ?_;refine ab.nil ?_;refine AW.ay rfl ?_
 · refine AW.skip ?_;refine qX 2 rfl ?_;refine ab.call tok rfl rfl rfl rfl c1 ?_;refine qU 2 rfl ?_;exact qN rfl
end Lift
namespace Lift
theorem xK(x:Rat)(h:0<x):ji x=1:=by
 have:=ny.2 h;rcases eY x with e | e | e<;>omega
theorem EA(x:Rat)(h:x<0):ji x= -1:=by
 have:=uI.2 h;rcases eY x with e | e | e<;>omega
theorem zM(x y:Rat):ji (x*y)=ji x*ji y:=by
 have key: ∀{x y:Rat},0<x→ji (x*y)=ji y:=fun {x y} hx=>by
  rcases eY y with e | e | e
  · rw[ib.1 e,Rat.mul_zero]
  · have h:=Rat.mul_pos hx (ny.1 (show 0<ji y by omega));rw[e,xK _ h]
  · have h:=Rat.mul_pos hx (show 0< -y from by have:=uI.1 (show ji y<0 by omega);grind);rw[e,EA]
    grind
 rcases eY x with e | e | e
 · rw[ib.1 e,Rat.zero_mul,ib.2 rfl,Int.zero_mul]
 · rw[e,Int.one_mul];exact key (ny.1 (by omega))
 · have hx:0< -x:=by have:=uI.1 (show ji x<0 by omega);grind
   have h:=key (y:=y) hx;have h2:=q8 (x*y);rw[show -(x*y)= -x*y by grind,h] at h2;rw[e];omega
def nL:Cf:=fun i=>if i=0 then 1 else 0
def FD:OR where
 T:=Rat
 add:=(· + ·)
 mul:=(· * ·)
 neg:=(- ·)
 z:=0
 o:=1
 ac:=Rat.add_comm
 aa:=Rat.add_assoc
 az:=Rat.add_zero
 an:=Rat.add_neg_cancel
 mc:=Rat.mul_comm
 ma:=Rat.mul_assoc
 mo:=Rat.mul_one
 md:=Rat.mul_add
 sgn:=ji
 s3 x:=by rcases eY x with h | h | h<;>omega
 sn:=q8
 sm:=zM
 sp x y hx hy:=by
  have h1:=ny.1 (show 0<ji x by omega);have h2:=ny.1 (show 0<ji y by omega);exact xK _ (by grind)
 s0 x y hx:=by
  rw[ib.1 hx];show ji (0+y)=ji y;rw[Rat.zero_add]
 s1:=xK 1 (by decide)
theorem A8(x:Rat)(h:x≠0):ji (x*x⁻¹ + -1)=0:=by
 rw[Rat.mul_inv_cancel _ h];exact ib.2 (Rat.add_neg_cancel 1)
theorem A9:FD.Inv:=fun x hx=>⟨_,A8 x (fun e=>hx (ib.2 e))⟩
structure Fs (v:List NQ) (l:Nat) where
 R:OR
 of:Cf→R.T
 inv:R.Inv
 add: ∀a b:Cf,of (fun i=>a i+b i)=of a+of b
 neg: ∀a:Cf,of (fun i=> -a i)= -of a
 mul: ∀a b:Cf,of (mulC v l a b)=of a*of b
 one:of nL=1
 zero:of zC=0
 sgn: ∀a:Cf,R.sgn (of a)=aV v l a
 inj: ∀a b:Cf,of a=of b→iH l a b
 cong: ∀a b:Cf,iH l a b→of a=of b
theorem Fs.sub{v:List NQ}{l:Nat}(T:Fs v l)(a b:Cf):T.of (fun i=>a i-b i)=T.of a-T.of b:=by
 rw[Rg.sub_def,← T.neg,← T.add]
 congr 1
 funext i;exact Rat.sub_eq_add_neg ..
def Gw(v:List NQ):Fs v 0 where
 R:=FD
 of a:=a 0
 inv:=A9
 add _ _:=rfl
 neg _:=rfl
 mul a b:=by
  show (if (0:Nat)=0 then a 0*b 0 else 0)=_;rw[if_pos rfl];rfl
 one:=rfl
 zero:=rfl
 sgn _:=rfl
 inj a b h i hi:=by
  obtain rfl:i=0:=by have:i<1:=hi;omega
  exact h
 cong a b h:=h 0 (by decide)
theorem BH(l:Nat):bu l zC=zC:=rfl
theorem Ds(l:Nat):bu l nL=zC:=funext fun i=>by
 have hp:0<2^l:=Nat.pow_pos (by decide);show (if 2^l+i=0 then (1:Rat) else 0)=0;rw[if_neg (by omega)]
def Ep{v:List NQ}{l:Nat}(T:Fs v l)(hd:0≤aV v l (cf (v.getD l []))):Fs v (l+1) where
 R:=T.R.ext (T.of (cf (v.getD l []))) (by rw[T.sgn];exact hd)
 of a:=(T.of a,T.of (bu l a))
 inv:=OR.DA T.inv _
 add a b:=Prod.ext (T.add a b) (T.add (bu l a) (bu l b))
 neg a:=Prod.ext (T.neg a) (T.neg (bu l a))
 mul a b:=by
  refine Prod.ext ?_ ?_
  · show T.of (mulC v (l+1) a b)=T.of a*T.of b+T.of (bu l a)*T.of (bu l b)*T.of (cf (v.getD l []));rw[← T.mul,← T.mul,← T.mul,← T.add];refine T.cong _ _ fun i hi=>?_;show (if i<2^l then _ else _)=_;rw[if_pos hi]
  · show T.of (bu l (mulC v (l+1) a b))=T.of a*T.of (bu l b)+T.of (bu l a)*T.of b;rw[← T.mul,← T.mul,← T.add];refine T.cong _ _ fun i hi=>?_;show (if 2^l+i<2^l then _ else _)=_;rw[if_neg (by omega),Nat.add_sub_cancel_left]
 one:=Prod.ext T.one (by show T.of (bu l nL)=0;rw[Ds,T.zero])
 zero:=Prod.ext T.zero (by show T.of (bu l zC)=0;rw[BH,T.zero])
 sgn a:=by
  show OR.es T.R (T.of (cf (v.getD l []))) (T.of a,T.of (bu l a))=aV v (l+1) a;unfold OR.es aV;simp only[];rw[T.sgn,T.sgn,T.sgn,← T.mul,← T.mul,← T.mul,← T.sub,T.sgn];rfl
 inj a b h i hi:=by
  have h1:=T.inj _ _ (congrArg Prod.fst h);have h2:=T.inj _ _ (congrArg Prod.snd h);by_cases c:i<2^l
  · exact h1 i c
  · rw[Nat.pow_succ] at hi;have:=h2 (i-2^l) (by omega);have:a (2^l+(i-2^l))=b (2^l+(i-2^l)):=this
    rwa [show 2^l+(i-2^l)=i by omega] at this
 cong a b h:=Prod.ext (T.cong _ _ h.down) (T.cong _ _ h.hi)
theorem Fm{v:List NQ}(hp:pU v): ∀l,l≤v.length→Nonempty (Fs v l)
 | 0,_=>⟨Gw v⟩
 | l+1,hl=>by
   obtain ⟨T⟩:=Fm hp l (by omega);exact⟨Ep T (hp l (by omega))⟩
theorem wA(l:Nat):cy l nL:=fun i hi=>by
 have hp:0<2^l:=Nat.pow_pos (by decide);exact if_neg (by omega)
def mb(a b:Cf):Cf:=fun i=>a i-b i
theorem cy.sub{l:Nat}{a b:Cf}(ha:cy l a)(hb:cy l b):cy l (mb a b):=fun i hi=>by
 show a i-b i=0;rw[ha i hi,hb i hi];exact Rat.sub_self
theorem EN{v:List NQ}(hrt:cu v)(hp:pU v): ∀(l:Nat) {a:NQ},ak l a→l≤v.length→aV v l (cf a)≠0→aV v l (mb (mulC v l (cf a) (cf (jv l v a))) nL)=0:=by
 have one: ∀(l:Nat) (s:NQ),l≤v.length→s.length=1→s.getD 0 0≠0→aV v l (mb (mulC v l (cf s) (cf [1 / s.getD 0 0])) nL)=0:=fun l s hl h1 h0=>by
  have e:mulC v l (cf s) (cf [1 / s.getD 0 0])=nL:=by
   rw[b9 v (aN (a:=s) (l:=0) (by rw[h1];exact Nat.le_refl _)) (aN (a:=[1 / s.getD 0 0]) (l:=0) (by exact Nat.le_refl _)) (Nat.zero_le l)];funext i;show (if i=0 then s.getD 0 0*(1 / s.getD 0 0) else 0)=if i=0 then 1 else 0
   split
   · rw[Rat.div_def,Rat.one_mul,Rat.mul_inv_cancel _ h0]
   · rfl
  rw[e,show mb nL nL=zC from funext fun i=>Rat.sub_self];exact eX v l
 intro l
 induction l with
 | zero =>
   intro a ha hl h;have hs:=bV ha;have hc:=bM ha;have ho:=oC ha;show aV v 0 (mb (mulC v 0 (cf a) (cf (k9 _ _ _ _ (ar a)))) nL)=0;rw[← hc] at h ⊢;generalize ar a=s at *;rcases hs with e | ⟨i,hi,e⟩
   · rw[List.length_eq_zero_iff.1 e] at h;exact absurd (eX v 0) h
   · obtain rfl:i=0:=by omega
     unfold k9;rw[if_pos e];exact one 0 s (Nat.zero_le _) e (ho e)
 | succ l ih =>
   intro a ha hl h;have hs:=bV ha;have hc:=bM ha;have ho:=oC ha;show aV v (l+1) (mb (mulC v (l+1) (cf a) (cf (k9 (jv l v) (dy l v) (eA l v) (aS (l+1) v) (ar a)))) nL)=0;rw[← hc] at h ⊢;generalize ar a=s at *;by_cases h0:s.length=0
   · rw[List.length_eq_zero_iff.1 h0] at h;exact absurd (eX v (l+1)) h
   unfold k9;by_cases h1:s.length=1
   · rw[if_pos h1];exact one (l+1) s hl h1 (ho h1)
   rw[if_neg h1]
   obtain ⟨j,hj,hsl⟩: ∃j,j≤l∧s.length=2^(j+1):=by
    rcases hs with e | ⟨i,hi,e⟩
    · exact absurd e h0
    · rcases i with _ | j
      · exact absurd e h1
      · exact⟨j,by omega,e⟩
   obtain ⟨e1,e2,e3⟩:=bg hsl;have hx:ak l (s.take (s.length / 2)):= .inr ⟨j,hj,e1⟩;have hy:ak l (s.drop (s.length / 2)):= .inr ⟨j,hj,e2⟩;have hn:=qt hj hsl hrt (by omega);have ex:iH j (cf (s.take (s.length / 2))) (cf s):=dM _ e3;have ey:cf (s.drop (s.length / 2))=bu j (cf s):=gO _ e3
   have lowN:cy j (bK v j (cf s)):=fun i hi=>by
    unfold bK;rw[a7 v j _ _ i hi,a7 v j _ _ i hi];exact Rat.sub_self
   have ls:cy (j+1) (cf s):=aN (by omega);have lx:cy j (cf (s.take (s.length / 2))):=aN (by omega);obtain ⟨Tj⟩:=Fm hp j (by omega);have hdj:=hp j (by omega)
   let T:=Ep Tj hdj
   obtain ⟨Tl⟩:=Fm hp l (by omega);obtain ⟨TL⟩:=Fm hp (l+1) hl;rw[fj l hn.1 hrt (by omega),hn.2,bC v lowN hj];rw[bC v ls (by omega)] at h
   have hT:Tj.R.sgn (OR.nr (Tj.of (cf (v.getD j []))) (T.of (cf s)))=aV v j (bK v j (cf s)):=by
    rw[← Tj.sgn]
    congr 1
    show Tj.of (cf s)*Tj.of (cf s) -Tj.of (bu j (cf s))*Tj.of (bu j (cf s))*Tj.of (cf (v.getD j []))=Tj.of (bK v j (cf s));rw[← Tj.mul,← Tj.mul,← Tj.mul,← Tj.sub];rfl
   by_cases hN:aV v j (bK v j (cf s))=0
   · rw[if_pos hN];have hxx:ak l (aK (s.take (s.length / 2)) (s.take (s.length / 2))):=hx.plus hx;have cxx:cf (aK (s.take (s.length / 2)) (s.take (s.length / 2)))=fun i=>cf (s.take (s.length / 2)) i+cf (s.take (s.length / 2)) i:=funext fun i=>ez _ _ i
     have lxx:cy j (cf (aK (s.take (s.length / 2)) (s.take (s.length / 2)))):=by
      rw[cxx];exact fun i hi=>by
       show _+_=(0:Rat);rw[lx i hi];exact Rat.add_zero 0
     have F:T.R.sgn (-Tj.of (cf s),Tj.of (bu j (cf s)))=0∧Tj.R.sgn (Tj.of (cf s)+Tj.of (cf s))≠0:=by
      have hes:T.R.sgn (T.of (cf s))≠0:=by rw[T.sgn];exact h
      exact OR.B6 (R:=Tj.R) (d:=Tj.of (cf (v.getD j []))) (by rw[Tj.sgn];exact hdj) hes (by
       have h5:=hT;rw[hN] at h5;exact h5)
     have hr:=ih hxx (by omega) (by
      rw[bC v lxx hj,← Tj.sgn,cxx,Tj.add,Tj.cong _ _ ex]
      exact F.2)
     obtain ⟨r,hrr⟩: ∃r,jv l v (aK (s.take (s.length / 2)) (s.take (s.length / 2)))=r:=⟨_,rfl⟩;have hrl:ak l r:=by rw[← hrr];exact gA l hxx hrt (by omega)
     rw[hrr] at hr ⊢
     have g1:aV v (l+1) (mb (cf s) (cf (aK (s.take (s.length / 2)) (s.take (s.length / 2)))))=0:=by
      rw[bC v (ls.sub (lxx.mono (by omega))) (by omega),← T.sgn]
      have:T.of (mb (cf s) (cf (aK (s.take (s.length / 2)) (s.take (s.length / 2)))))=(-Tj.of (cf s),Tj.of (bu j (cf s))):=by
       refine Prod.ext ?_ ?_
       · show Tj.of (mb (cf s) (cf (aK (s.take (s.length / 2)) (s.take (s.length / 2)))))= -Tj.of (cf s);rw[show Tj.of (mb (cf s) (cf (aK (s.take (s.length / 2)) (s.take (s.length / 2)))))=Tj.of (cf s) -Tj.of (cf (aK (s.take (s.length / 2)) (s.take (s.length / 2)))) from Tj.sub _ _,cxx,Tj.add,Tj.cong _ _ ex];exact Rg.dG [Tj.of (cf s)] (X0-(X0+X0)) (-X0) rfl
       · show Tj.of (bu j (mb (cf s) (cf (aK (s.take (s.length / 2)) (s.take (s.length / 2))))))=Tj.of (bu j (cf s));refine Tj.cong _ _ fun i hi=>?_;show cf s (2^j+i) -cf (aK (s.take (s.length / 2)) (s.take (s.length / 2))) (2^j+i)=cf s (2^j+i);rw[lxx _ (by omega)];exact Rat.sub_eq_add_neg .. |>.trans (by rw[Rat.neg_zero,Rat.add_zero])
      rw[this];exact F.1
     have g2:aV v (l+1) (mb (mulC v (l+1) (cf (aK (s.take (s.length / 2)) (s.take (s.length / 2)))) (cf r)) nL)=0:=by
      rw[b9 v (aN hxx.le) (aN hrl.le) (Nat.le_succ l),bC v ((a7 v l _ _).sub (wA l)) (Nat.le_succ l)];exact hr
     rw[← TL.sgn] at g1 g2 ⊢;rw[show TL.of (mb _ _)=_ from TL.sub _ _,TL.mul,TL.one] at g2 ⊢;rw[show TL.of (mb _ _)=_ from TL.sub _ _] at g1
     have e:TL.of (cf s)*TL.of (cf r) -1=(TL.of (cf s) -TL.of (cf (aK (s.take (s.length / 2)) (s.take (s.length / 2)))))*TL.of (cf r)+(TL.of (cf (aK (s.take (s.length / 2)) (s.take (s.length / 2))))*TL.of (cf r) -1) :=
      Rg.dG [TL.of (cf s),TL.of (cf r),TL.of (cf (aK (s.take (s.length / 2)) (s.take (s.length / 2))))] (X0*X1-1) ((X0-X2)*X1+(X2*X1-1)) rfl
     rw[e,OR.null _ _ (OR.iE _ g1)];exact g2
   · rw[if_neg hN];have hr:=ih hn.1 (by omega) (by rw[hn.2,bC v lowN hj];exact hN);obtain ⟨r,hrr⟩: ∃r,jv l v (eA l v s)=r:=⟨_,rfl⟩;have hrl:ak l r:=by rw[← hrr];exact gA l hn.1 hrt (by omega)
     rw[hrr] at hr ⊢;rw[hn.2] at hr
     have hjl:ak (l+1) (dh (s.take (s.length / 2)) (aM (s.drop (s.length / 2))) (s.length / 2)):= .inr ⟨j+1,by omega,by
      rw[dF]
      omega⟩
     have cJ: ∀i,cf (dh (s.take (s.length / 2)) (aM (s.drop (s.length / 2))) (s.length / 2)) i=if i<2^j then cf (s.take (s.length / 2)) i else cf (aM (s.drop (s.length / 2))) (i-2^j):=fun i=>DM _ e3 (by rw[eT];omega) i
     have lJ:cy (j+1) (cf (dh (s.take (s.length / 2)) (aM (s.drop (s.length / 2))) (s.length / 2))):=aN (by rw[dF];omega);have ht:=gb (l+1) hjl (hrl.mono (Nat.le_succ l)) hrt hl;rw[ht.2];generalize dh (s.take (s.length / 2)) (aM (s.drop (s.length / 2))) (s.length / 2)=J at cJ lJ hjl ht
     have eN:mulC v (l+1) (cf s) (cf J)=bK v j (cf s):=by
      rw[b9 v ls lJ (by omega)];refine iH.full (T.inj _ _ ?_) (a7 v (j+1) _ _) (lowN.mono (Nat.le_succ j));rw[T.mul];have o1:Tj.of (cf J)=Tj.of (cf s):=Tj.cong _ _ fun i hi=>by rw[cJ i,if_pos hi];exact ex i hi
      have o2:Tj.of (bu j (cf J))= -Tj.of (bu j (cf s)):=by
       rw[← Tj.neg];refine Tj.cong _ _ fun i hi=>?_;show cf J (2^j+i)= -cf s (2^j+i);rw[cJ,if_neg (by omega),jB,Nat.add_sub_cancel_left,ey];rfl
      have o3:Tj.of (bu j (bK v j (cf s)))=0:=by rw[lowN.wU,Tj.zero]
      have o4:Tj.of (bK v j (cf s))=Tj.of (cf s)*Tj.of (cf s) -Tj.of (bu j (cf s))*Tj.of (bu j (cf s))*Tj.of (cf (v.getD j [])):=by
       rw[← Tj.mul,← Tj.mul,← Tj.mul,← Tj.sub];rfl
      refine Prod.ext ?_ ?_
      · show Tj.of (cf s)*Tj.of (cf J)+Tj.of (bu j (cf s))*Tj.of (bu j (cf J))*Tj.of (cf (v.getD j []))=Tj.of (bK v j (cf s));rw[o1,o2,o4];exact Rg.dG [Tj.of (cf s),Tj.of (bu j (cf s)),Tj.of (cf (v.getD j []))] (X0*X0+X1* -X1*X2) (X0*X0-X1*X1*X2) rfl
      · show Tj.of (cf s)*Tj.of (bu j (cf J))+Tj.of (bu j (cf s))*Tj.of (cf J)=Tj.of (bu j (bK v j (cf s)));rw[o1,o2,o3];exact Rg.dG [Tj.of (cf s),Tj.of (bu j (cf s))] (X0* -X1+X1*X0) 0 rfl
     have g2:aV v (l+1) (mb (mulC v (l+1) (bK v j (cf s)) (cf r)) nL)=0:=by
      rw[b9 v (lowN.mono hj) (aN hrl.le) (Nat.le_succ l),bC v ((a7 v l _ _).sub (wA l)) (Nat.le_succ l)];exact hr
     rw[← eN] at g2;rw[← TL.sgn] at g2 ⊢;rw[show TL.of (mb _ _)=_ from TL.sub _ _,TL.mul,TL.mul,TL.one] at g2 ⊢;rw[← Rg.mul_assoc];exact g2
structure FV (v:List NQ) where
 K:Fd
 val:NQ→K.T
 add: ∀{a b:NQ},ak v.length a→ak v.length b→val (vH a b)=val a+val b
 sub: ∀{a b:NQ},ak v.length a→ak v.length b→val (pY a b)=val a-val b
 neg: ∀{a:NQ},ak v.length a→val (Bp a)= -val a
 mul: ∀{a b:NQ},ak v.length a→ak v.length b→val (fP v a b)=val a*val b
 div: ∀{a b:NQ},ak v.length a→ak v.length b→oF v b≠0→val (td v a b)=val a*K.inv (val b)
 nil:val []=0
 one:val [1]=1
 sg: ∀{a:NQ},ak v.length a→(oF v a=0↔val a=0)
 eq: ∀{a b:NQ},aV v v.length (cf (aK a (aM b)))=0↔val a=val b
 inv: ∀{b:NQ},ak v.length b→oF v b≠0→val (jv v.length v b)=K.inv (val b)
theorem DL:cf []=zC:=rfl
theorem DK:cf [1]=nL:=funext fun i=>by
 cases i with
 | zero=>rfl
 | succ i=>rfl
theorem D'{m:Nat}{v:List NQ}(V:l8 m v):Nonempty (FV v):=by
 obtain ⟨T⟩:=Fm V.pos v.length (Nat.le_refl _);have hs: ∀{a:NQ},ak v.length a→oF v a=aV v v.length (cf a):=fun h=>fj v.length h V.ro (Nat.le_refl _)
 have iv: ∀{b:NQ},ak v.length b→oF v b≠0→OR.cl T.inv (T.of (cf (jv v.length v b)))=(T.R.fd T.inv).inv (OR.cl T.inv (T.of (cf b))):=fun {b} hb h0=>by
  rw[hs hb] at h0;have h:=EN V.ro V.pos v.length hb (Nat.le_refl _) h0;refine Fd.inv_eq ?_;rw[← OR.Cc,← T.mul,← OR.E2,OR.Cd,← T.one,← T.sub,T.sgn];exact h
 refine⟨⟨T.R.fd T.inv,fun a=>OR.cl T.inv (T.of (cf a)),fun {a b} ha hb=>?_,fun {a b} ha hb=>?_,fun {a} ha=>?_,fun {a b} ha hb=>?_,fun {a b} ha hb h0=>?_,?_,?_,fun {a} ha=>?_,fun {a b}=>?_,iv⟩⟩
 · show OR.cl T.inv (T.of (cf (ar (aK a b))))=_;rw[bM (ha.plus hb),show cf (aK a b)=fun i=>cf a i+cf b i from funext fun i=>ez a b i,T.add];rfl
 · show OR.cl T.inv (T.of (cf (ar (aK a (aM b)))))=_;rw[bM (ha.plus hb.minus),show cf (aK a (aM b))=fun i=>cf a i-cf b i from funext fun i=>by rw[ez,jB];exact(Rat.sub_eq_add_neg ..).symm,T.sub];rfl
 · show OR.cl T.inv (T.of (cf (ar (aM a))))=_;rw[bM ha.minus,show cf (aM a)=fun i=> -cf a i from funext fun i=>jB a i,T.neg];rfl
 · have ht:=gb v.length ha hb V.ro (Nat.le_refl _);show OR.cl T.inv (T.of (cf (ar (aS v.length v a b))))=_;rw[bM ht.1,ht.2,T.mul];rfl
 · have ht:=gb v.length ha (gA v.length hb V.ro (Nat.le_refl _)) V.ro (Nat.le_refl _);show OR.cl T.inv (T.of (cf (ar (aS v.length v a (jv v.length v b)))))=_;rw[bM ht.1,ht.2,T.mul,OR.Cc,iv hb h0]
 · show OR.cl T.inv (T.of (cf []))=0;rw[DL,T.zero];rfl
 · show OR.cl T.inv (T.of (cf [1]))=1;rw[DK,T.one];rfl
 · rw[OR.GU,T.sgn,hs ha]
 · rw[OR.Cd,← T.sub,T.sgn,show cf (aK a (aM b))=fun i=>cf a i-cf b i from funext fun i=>by rw[ez,jB];exact(Rat.sub_eq_add_neg ..).symm]
end Lift
namespace Lift
open Go
open Go.RowKit (Below)
section
variable {P:Program} {T:Ty} {B:Nat} {F0:Nat→Prop} {w0:bW} {n d:Nat} {o:Oper} {σ:St} {K:St→Prop} {all:Array Oper} {rest:List Oper} {lk hm:Nat→Option AV}
end
end Lift
namespace Lift
open Go
open Go.RowKit (Below)
section
variable {P:Program} {T:Ty} {B:Nat} {F0:Nat→Prop} {w0:bW} {n:Nat} {σ τ σ0:St} {ops all:Array Oper} {l rest:List Oper} {o:Oper} {d:Nat} {lk hm:Nat→Option AV} {K:St→Prop} {ds:List Nat}
end
end Lift
namespace Lift
open Go
open Go.RowKit (Below)
section
variable {P:Program} {T:Ty} {B:Nat} {F0:Nat→Prop} {w0:bW} {n:Nat} {σ:St} {all:Array Oper} {rest:List Oper} {o1 o2:Oper} {K:St→Prop}
end
end Lift
namespace Lift
open Go
open Go.RowKit (Below)
section
variable {P:Program} {T:Ty} {B:Nat} {F0:Nat→Prop} {w0:bW} {n:Nat} {σ:St} {all:Array Oper} {rest:List Oper} {o:Oper} {d:Nat} {K:St→Prop}
def BT(T:Ty)(lk:Nat→Option AV):Op→Option (Nat×List D)
 | .binOp .eql t x (.const (.slice none 0 0)) _=>match T.get t,ck T (ex T lk 0 x) with
   | some ti,some (.sl s xs)=>match Nat.beq ti.kind 4 with
     | true=>some (s,xs)
     | false=>none
   | _,_=>none
 | _=>none
theorem yw{w:World}{t e:TypeId}(hi:P.underlying t=some (.slice e))(k:Nat)(b:Option Addr)(l c:Nat):(Op.equalIn (k+1) t (.slice b l c) (.slice none 0 0)).run P w= .ok b.isNone w:=by
 cases b<;>simp[Op.equalIn,run_underlying hi]
theorem BS{w:World}{t e:TypeId}(hi:P.underlying t=some (.slice e))(b:Option Addr)(l c:Nat):(Op.equal t (.slice b l c) (.slice none 0 0)).run P w= .ok b.isNone w:=yw hi 9999 b l c
theorem Ci{w:World}{t e:TypeId}(hi:P.underlying t=some (.slice e))(b:Option Addr)(l c:Nat):(Go.binOp .eql t (.slice b l c) (.slice none 0 0)).run P w= .ok (.bool b.isNone) w:=by
 have:Go.binOp .eql t (.slice b l c) (.slice none 0 0)=(do pure (.bool (← Op.equal t (.slice b l c) (.slice none 0 0))):Sem Value):=rfl;rw[this];simp only[Sem.run_bind,BS hi,Result.andThen_ok,Sem.run_pure]
theorem ab.eqn(hT:bd P T){s:Nat}{xs:List D}(hd:o.dst=some d)(hdn:Nat.ble (d+1) n=true)(hg:o.guard=none)(hx:BT T σ.get o.op=some (s,xs))
  (h: ∀b:Bool,(xs≠[]→b=false)→ab P B F0 w0 n all rest K ((d,.d (.v (.bool b)))::σ)):ab P B F0 w0 n all (o::rest) K σ:=by
 intro a w hR Q hQ;unfold wpList;rw[if_pos (by simp[Region.wanted,hg])];refine .inl ?_;obtain ⟨O,hOr,hO⟩:=hR.own;have hI:=hR.inv hOr hO (fun t=> .tmp t∈o.op.operands) d;obtain ⟨dst,op,ty,pos,after,guard⟩:=o;simp only[] at hd hx hI;cases op<;>try (simp only[BT] at hx;cases hx;done)
 rename_i bop t x y ty2;cases bop<;>try (simp only[BT] at hx;cases hx;done)
 cases y<;>try (simp only[BT] at hx;cases hx;done)
 rename_i c;unfold BT at hx;split at hx<;>try (cases hx;done)
 rename_i heq;simp only[Op.binOp.injEq,Operand.const.injEq,true_and] at heq;obtain ⟨rfl,rfl,rfl,rfl⟩:=heq;split at hx<;>try (cases hx;done)
 rename_i ti s' xs' hti hdx;split at hx<;>simp at hx;rename_i hk;obtain ⟨rfl,rfl⟩:=hx;obtain ⟨info,dd,z,hok⟩:=hT _ ti hti;have hrd:=cX hT hI (fun t ht=>by subst ht;simp[Op.operands]) hdx;obtain ⟨ad,cap,hv,h1,h2,hne⟩:=Rd.vW hrd
 have hg2:(eqGuard .eql t x (.const (.slice none 0 0)) (a.eval x) (.slice none 0 0)).run P w= .ok () w:=by
  rw[hv];simp[eqGuard]
 refine aX (v:= .bool ad.isNone) (w':=w) ?_ ?_
 · simp only[execOp,eval_const,Sem.run_bind,hg2,Result.andThen_ok];rw[hv];rw[Ci (hok.gF hk).1];rfl
 · rw[hd];refine h ad.isNone (fun hx=>?_) _ _ (hR.put hOr hO (Nat.le_of_ble_eq_true hdn) (cP.refl hI.lt) (show de _ _ _ _ _ _ _ _ (.d (.v (.bool ad.isNone))) (.bool ad.isNone) from Rd.v rfl)) Q hQ;rcases hne with e | ⟨b,off,cs,e,fz,hb,_⟩
   · exact absurd e hx
   · rw[hb];rfl
end
end Lift
namespace Lift
open Go Go.Proofs
end Lift
namespace Lift
open Go Go.Proofs
end Lift
namespace Lift
open Go Go.Proofs
end Lift
namespace Lift
open Go Go.Proofs
end Lift
namespace Lift
open Go Go.Proofs
abbrev lD(r:List (List RD)):D:= .sl 1 (r.map cY)
abbrev MxR(a:List (List (List RD))):D:= .sl 1 (a.map lD)
abbrev eM(r:List NQ):D:= .sl 1 (r.map af)
abbrev eO(a:List (List NQ)):D:= .sl 1 (a.map eM)
structure Cu (m:Nat) (rt:List (List RD)) (a:List (List (List RD))):Prop where
 n: ∀i k,Ct m rt ((a.getD i []).getD k [])
 l:a.length≤1000000
 r: ∀i,(a.getD i []).length≤1000000
def au{α:Type}(a:List (List α)):Nat:=(a.getD 0 []).length
def tN(a:List (List (List RD)))(i:Nat):Nat:=if (a.getD i []).length≠au a then 10 else 0
def iY(rt:List (List RD))(r:List (List RD)):Nat:=fE (fun k=>oc rt [r.getD k []]) (r.length-0) 0
def rM(rt:List (List RD))(a:List (List (List RD))):Nat :=
 if a.length=0 then 0 else if 32<a.length∨32<au a then 4 else
 if fE (tN a) (a.length-0) 0≠0 then fE (tN a) (a.length-0) 0 else fE (fun i=>iY rt (a.getD i [])) (a.length-0) 0
def kS(rt:List (List RD))(a:List (List (List RD))):Nat:=if cO rt≠0 then cO rt else rM rt a
structure Fq (m:Nat) (rt:List (List RD)):Prop where
 w: ∀i,i<rt.length→(rt.getD i []).length=2^i→wN m (rt.getD i [])
 m1:1≤m
 l:rt.length≤1000000
 ll: ∀i,i<rt.length→(rt.getD i []).length≤4398046511104
 ok:rt.length≤5→nM rt.length m
 m2:m≤1000000
theorem oW{m:Nat}{rt:List (List RD)}{x:List RD}(T:Fq m rt)(X:Ct m rt x):Pure Tryz.prog 67 [TrD rt,cY x] (DB (oc rt [x])):=by
 refine qJ 14 Tryz.func67 rfl rfl rfl rfl (by kernel_rfl) (fun B F0 w0=>?_);have hm:=T.m2;have c:=sU rt x T.w T.m1 T.l T.ll T.ok X.w X.l (by omega);unfold AK at c;refine qX 2 rfl ?_;refine qK 2 rfl ?_;by_cases h:oc rt [x]≠0
 · rw[if_pos h] at c;refine ab.call tok rfl rfl rfl rfl c ?_;refine qU 5 rfl ?_;refine qK 2 rfl ?_;exact qN rfl
 rw[if_neg h] at c;have h:oc rt [x]=0:=by omega
 rw[h];refine ab.call tok rfl rfl rfl rfl c ?_;refine qU 5 rfl ?_;refine qK 2 rfl ?_;exact qN rfl
theorem DI{rt:List (List RD)}(h:cO rt=0)(x:List RD):oc rt [x]=bB rt.length x:=by
 unfold oc;rw[if_neg (by rw[h];simp)];show (if bB rt.length x=0 then 0 else bB rt.length x)=_;split
 · rename_i e;exact e.symm
 · rfl
set_option maxHeartbeats 1600000 in
theorem kW{rt:List (List RD)}{a:List (List (List RD))}(hal:a.length≤1000000)(har: ∀i,(a.getD i []).length≤1000000)(han: ∀i k,Pure Tryz.prog 67 [TrD rt,cY ((a.getD i []).getD k [])] (DB (oc rt [(a.getD i []).getD k []]))):Pure Tryz.prog 55 [TrD rt,MxR a] (DB (rM rt a)):=by
 refine qJ 61 Tryz.func55 rfl rfl rfl rfl (by kernel_rfl) (fun B F0 w0=>?_);unfold rM;obtain ⟨E,hE⟩: ∃E,fE (tN a) (a.length-0) 0=E:=⟨_,rfl⟩;obtain ⟨G,hG⟩: ∃G,fE (fun i=>iY rt (a.getD i [])) (a.length-0) 0=G:=⟨_,rfl⟩;rw[hE,hG];refine qX 2 rfl ?_;refine qI ?_;refine qX 2 rfl ?_;rw[List.length_map];refine qU 1 rfl ?_;refine ab.nil ?_;by_cases h0:a.length=0
 · rw[if_pos h0,h0];refine AW.aF rfl ?_;refine qX 1 rfl ?_;exact qN rfl
 rw[if_neg h0,beq_eq_false_iff_ne.2 (show (a.length:Int)≠0 by omega)];have hc0:au a=(a.getD 0 []).length:=rfl;have hcl:=har 0;have g0:=getM lD (l:=a) (i:=0) (by omega);refine AW.ay rfl ?_
 · skip
   refine AW.skip (AW.seq ?_);refine qX 2 rfl ?_;rw[List.length_map];refine qU 1 rfl ?_;by_cases h1:32<a.length
   · rw[decide_eq_true (show (32:Int)<(a.length:Int) by omega),if_pos (.inl h1)];refine qU 7 rfl ?_;refine ab.nil ?_;refine AW.aF rfl ?_;refine qX 2 rfl ?_;exact qN rfl
   rw[decide_eq_false (show ¬(32:Int)<(a.length:Int) by omega)];refine qU 2 rfl ?_;refine ab.idx tok (lD (a.getD 0 [])) rfl rfl rfl rfl (Int.le_refl _) g0 ?_;refine qU 2 rfl ?_;rw[List.length_map];refine qU 1 rfl ?_;by_cases h2:32<au a
   · rw[decide_eq_true (show (32:Int)<((a.getD 0 []).length:Int) by omega),if_pos (.inr h2)];refine qU 1 rfl ?_;refine ab.nil ?_;refine AW.aF rfl ?_;refine qX 2 rfl ?_;exact qN rfl
   rw[decide_eq_false (show ¬(32:Int)<((a.getD 0 []).length:Int) by omega),if_neg (fun h=>h.elim h1 h2)];refine qU 1 rfl ?_;refine ab.nil ?_;refine AW.ay rfl ?_
   · refine AW.skip (AW.seq ?_);refine qX 2 rfl ?_;rw[List.length_map];refine qU 1 rfl ?_;refine ab.nil ?_;refine AW.block ?_;refine AW.aE [1,2,26,27,28] (fun i:Nat=>[(1,.d (MxR a)),(2,.bx [.sl 1 (rt.map cY)]),(26,.d (MxR a)),(27,.d (dI a.length)),(28,.d (dI i))]) (fun i=>i≤a.length∧fE (tN a) (a.length-i) i=E) (fun i=>a.length-i) 0 rfl ⟨Nat.zero_le _,hE⟩ (fun i ⟨hi,hiE⟩=>?_)
     · show AW _ _ _ _ _ _ _ [(1,.d (MxR a)),(2,.bx [.sl 1 (rt.map cY)]),(26,.d (MxR a)),(27,.d (dI a.length)),(28,.d (dI i))];refine qX 1 rfl ?_;refine qI ?_;refine AW.cond rfl (fun h=>?_) (fun h=>?_)
       · have hii:i<a.length:=by have:=of_decide_eq_true h;omega
         have hg:=getM lD (l:=a) (i:=i) hii;have hri:=har i;have hmiss:=fun h0:tN a i=0=>(ga hii h0).symm.trans hiE;have hhit:=fun h0:tN a i≠0=>(jd hii h0).symm.trans hiE;refine AW.skip (AW.seq (AW.block (AW.seq (AW.region ?_))));refine ab.idx tok (lD (a.getD i [])) rfl rfl rfl rfl (Int.natCast_nonneg i) hg ?_;refine qU 2 rfl ?_;refine qK 2 rfl ?_;rw[List.length_map];refine qU 1 rfl ?_;refine ab.idx tok (lD (a.getD 0 [])) rfl rfl rfl rfl (Int.le_refl _) g0 ?_;refine qU 2 rfl ?_;rw[List.length_map];refine qU 1 rfl ?_;refine ab.nil ?_;refine AW.cond rfl (fun h=>?_) (fun h=>?_)
         · have hne:(a.getD i []).length≠au a:=by have:=bne_iff_ne.1 h;omega
           have e:tN a i=10:=if_pos hne;have:=hhit (by rw[e];decide);rw[e] at this;subst this;rw[if_pos (by decide)];refine qX 2 rfl ?_;exact qN rfl
         · have heq:(a.getD i []).length=au a:=by have:=bne_eq_false_iff_eq.1 h;omega
           have e:tN a i=0:=if_neg (fun h=>h heq);refine AW.skip ?_;refine qT 1 rfl ?_;rw[aD (x:=(i:Int)+1) (by omega) (by omega)];refine qU 1 rfl ?_;refine ab.nil ?_;exact⟨i+1,rfl,⟨hii,hmiss e⟩,by omega⟩
       have hii: ¬i<a.length:=by have:=of_decide_eq_false h;omega
       rw[je hii] at hiE;subst hiE;rw[if_neg (by decide)];refine AW.exit (AW.seq ?_);refine qX 2 rfl ?_;rw[List.length_map];refine qU 1 rfl ?_;refine ab.nil ?_;refine AW.block ?_;refine AW.aE [1,2,41,42,43] (fun i:Nat=>[(1,.d (MxR a)),(2,.bx [.sl 1 (rt.map cY)]),(41,.d (MxR a)),(42,.d (dI a.length)),(43,.d (dI i))]) (fun i=>i≤a.length∧fE (fun i=>iY rt (a.getD i [])) (a.length-i) i=G) (fun i=>a.length-i) 0 rfl ⟨Nat.zero_le _,hG⟩ (fun i ⟨hi,hiG⟩=>?_)
       · show AW _ _ _ _ _ _ _ [(1,.d (MxR a)),(2,.bx [.sl 1 (rt.map cY)]),(41,.d (MxR a)),(42,.d (dI a.length)),(43,.d (dI i))];refine qX 1 rfl ?_;refine qI ?_;refine AW.cond rfl (fun h=>?_) (fun h=>?_)
         · have hii:i<a.length:=by have:=of_decide_eq_true h;omega
           have hg:=getM lD (l:=a) (i:=i) hii;have hri:=har i;have hni:=han i;have hmiss:=fun h0:iY rt (a.getD i [])=0=>(ga (f:=fun i=>iY rt (a.getD i [])) hii h0).symm.trans hiG;have hhit:=fun h0:iY rt (a.getD i [])≠0=>(jd (f:=fun i=>iY rt (a.getD i [])) hii h0).symm.trans hiG;refine AW.skip (AW.seq (AW.block (AW.seq (AW.region ?_))));refine ab.idx tok (lD (a.getD i [])) rfl rfl rfl rfl (Int.natCast_nonneg i) hg ?_;refine qU 2 rfl ?_;refine ab.nil ?_;generalize a.getD i []=r at hri hni hmiss hhit;obtain ⟨H,hH⟩: ∃H,iY rt r=H:=⟨_,rfl⟩;rw[hH] at hmiss hhit;refine qX 2 rfl ?_;rw[List.length_map];refine qU 1 rfl ?_;refine ab.nil ?_;refine AW.block ?_;refine AW.aE [1,2,41,42,43,47,48,49] (fun k:Nat=>[(1,.d (MxR a)),(2,.bx [.sl 1 (rt.map cY)]),(41,.d (MxR a)),(42,.d (dI a.length)),(43,.d (dI i)),(47,.d (lD r)),(48,.d (dI r.length)),(49,.d (dI k))]) (fun k=>k≤r.length∧fE (fun k=>oc rt [r.getD k []]) (r.length-k) k=H) (fun k=>r.length-k) 0 rfl ⟨Nat.zero_le _,hH⟩ (fun k ⟨hk,hkH⟩=>?_)
           · show AW _ _ _ _ _ _ _ [(1,.d (MxR a)),(2,.bx [.sl 1 (rt.map cY)]),(41,.d (MxR a)),(42,.d (dI a.length)),(43,.d (dI i)),(47,.d (lD r)),(48,.d (dI r.length)),(49,.d (dI k))];refine qX 1 rfl ?_;refine qI ?_;refine AW.cond rfl (fun h=>?_) (fun h=>?_)
             · have hkk:k<r.length:=by have:=of_decide_eq_true h;omega
               have hg2:=getM cY (l:=r) (i:=k) hkk;have cn:=hni k;have km:=fun h0:oc rt [r.getD k []]=0=>(ga (f:=fun k=>oc rt [r.getD k []]) hkk h0).symm.trans hkH;have kh:=fun h0:oc rt [r.getD k []]≠0=>(jd (f:=fun k=>oc rt [r.getD k []]) hkk h0).symm.trans hkH;refine AW.skip (AW.seq (AW.block (AW.seq (AW.region ?_))));refine ab.idx tok (cY (r.getD k [])) rfl rfl rfl rfl (Int.natCast_nonneg k) hg2 ?_;refine qU 2 rfl ?_;refine qK 2 rfl ?_;refine ab.call tok rfl rfl rfl rfl cn ?_;refine qU 1 rfl ?_;refine ab.nil ?_;generalize oc rt [r.getD k []]=e at cn km kh;rcases e with _ | z
               rotate_left
               · have:=kh (Nat.succ_ne_zero z);subst this;have:=hhit (Nat.succ_ne_zero z);subst this;refine qX 1 rfl ?_;refine ab.err tok rfl rfl rfl rfl rfl ?_;refine ab.nil ?_;refine AW.aF rfl ?_;refine qX 2 rfl ?_;exact qN rfl
               refine qX 1 rfl ?_;refine ab.err tok rfl rfl rfl rfl rfl ?_;refine ab.nil ?_;refine AW.ay rfl ?_
               · skip
                 refine AW.skip ?_;refine qT 1 rfl ?_;rw[aD (x:=(k:Int)+1) (by omega) (by omega)];refine qU 1 rfl ?_;refine ab.nil ?_;exact⟨k+1,rfl,⟨hkk,km rfl⟩,by omega⟩
             have hkk: ¬k<r.length:=by have:=of_decide_eq_false h;omega
             rw[je hkk] at hkH;subst hkH;refine AW.exit ?_;refine qT 1 rfl ?_;rw[aD (x:=(i:Int)+1) (by omega) (by omega)];refine qU 1 rfl ?_;refine ab.nil ?_;exact⟨i+1,rfl,⟨hii,hmiss rfl⟩,by omega⟩
         have hii: ¬i<a.length:=by have:=of_decide_eq_false h;omega
         rw[je hii] at hiG;subst hiG;refine AW.exit ?_;refine qX 1 rfl ?_;exact qN rfl
theorem oX{m:Nat}{rt:List (List RD)}{a:List (List (List RD))}(T:Fq m rt)(A:Cu m rt a):Pure Tryz.prog 55 [TrD rt,MxR a] (DB (rM rt a)) :=
 kW A.l A.r (fun i k=>oW T (A.n i k))
theorem eK{m:Nat}{rt:List (List RD)}{a:List (List (List RD))}(T:Fq m rt)(A:Cu m rt a):Pure Tryz.prog 20 [TrD rt,MxR a] (DB (kS rt a)):=by
 refine qJ 14 Tryz.func20 rfl rfl rfl rfl (by kernel_rfl) (fun B F0 w0=>?_);have cc:=kE rt T.w T.m1 T.l T.ll T.ok;have cm:=oX T A;unfold kS;refine qX 2 rfl ?_;refine qI ?_;refine qX 1 rfl ?_;refine ab.call tok rfl rfl rfl rfl cc ?_;refine qU 1 rfl ?_;refine ab.nil ?_;generalize cO rt=e at cc ⊢;rcases e with _ | z
 rotate_left
 · rw[if_pos (Nat.succ_ne_zero z)];refine qX 1 rfl ?_;refine ab.err tok rfl rfl rfl rfl rfl ?_;refine ab.nil ?_;refine AW.aF rfl ?_;refine qX 2 rfl ?_;exact qN rfl
 rw[if_neg (by simp)];refine qX 1 rfl ?_;refine ab.err tok rfl rfl rfl rfl rfl ?_;refine ab.nil ?_;refine AW.ay rfl ?_
 · skip
   refine AW.skip ?_;refine qX 2 rfl ?_;refine ab.call tok rfl rfl rfl rfl cm ?_;refine qU 1 rfl ?_;exact qN rfl
theorem kV{v:List NQ}{a:NQ}(V:jH v)(ha:ak v.length a)(ok:s4 v a):Pure Tryz.prog 69 [bF v,af a] (dI (oF v a)):=by
 refine qJ 14 Tryz.func69 rfl rfl rfl rfl (by kernel_rfl) (fun B F0 w0=>?_);have c:=kA V ha ok;refine qX 2 rfl ?_;refine qK 2 rfl ?_;refine ab.call tok rfl rfl rfl rfl c ?_;refine qU 5 rfl ?_;refine qK 2 rfl ?_;exact qN rfl
theorem cL(a:List (List NQ)):Pure Tryz.prog 47 [eO a] (dI (au a)):=by
 refine qJ 10 Tryz.func47 rfl rfl rfl rfl (by kernel_rfl) (fun B F0 w0=>?_);refine qX 1 rfl ?_;refine qI ?_;refine qX 2 rfl ?_;rw[List.length_map];refine qU 1 rfl ?_;refine ab.nil ?_;by_cases h0:a.length=0
 · rw[List.length_eq_zero_iff.1 h0];refine AW.aF rfl ?_;refine qX 1 rfl ?_;exact qN rfl
 rw[beq_eq_false_iff_ne.2 (show (a.length:Int)≠0 by omega)];have g0:=getM eM (l:=a) (i:=0) (by omega);refine AW.ay rfl ?_
 · refine AW.skip ?_;refine qX 1 rfl ?_;refine ab.idx tok (eM (a.getD 0 [])) rfl rfl rfl rfl (Int.le_refl _) g0 ?_;refine qU 2 rfl ?_;rw[List.length_map];refine qU 1 rfl ?_;exact qN rfl
def FG(r:List NQ)(res:D)(R':List LR):Prop:= ∃V,res= .v V∧R'=[(V,AV.ow 53 (r.map af))]
theorem xe(r:List NQ)(hl:r.length≤1000000):lH Tryz.prog 68 [eM r] [] (FG r):=by
 refine lH.intro (n:=8) tok Tryz.func68 rfl rfl rfl (Nat.le_of_ble_eq_true rfl) (by kernel_rfl) (fun B F0 w0=>?_);refine AZ.seq ?_;refine AZ.gH (fun B1 F1 w1=>?_);refine qU 1 rfl ?_;refine ab.nil ⟨rfl,?_⟩;refine AZ.seq ?_;refine AZ.seq ?_;refine AZ.gH (fun B1 F1 w1=>?_);refine qU 1 rfl ?_;refine ab.eqn tok rfl rfl rfl rfl (fun b hb=>?_);refine ab.nil ⟨rfl,?_⟩;refine AZ.cond rfl (fun h=>?_) (fun h=>?_)
 · have hr:r=[]:=by
    refine Classical.byContradiction fun hr=>?_;have:=hb (by simp[hr]);rw[this] at h;cases h
   subst hr;refine AZ.seq ?_;refine AZ.gH (fun B1 F1 w1=>?_);refine qU 1 rfl ?_;refine ab.nil ⟨rfl,?_⟩;exact AZ.jb 2 rfl rfl rfl (fun V=>AZ.ret ⟨.v V,rfl,V,rfl,rfl⟩)
 · skip
   refine AZ.skip ?_;refine AZ.seq ?_;refine AZ.gH (fun B1 F1 w1=>?_);refine qU 2 rfl ?_;refine ab.yH tok rfl rfl rfl rfl (by rw[List.length_map];show r.length*24≤_;omega) ?_;refine qU 1 rfl ?_;refine ab.nil ⟨rfl,?_⟩;exact AZ.jb 2 rfl rfl rfl (fun V=>AZ.ret ⟨.v V,rfl,V,rfl,rfl⟩)
end Lift
namespace Lift
open Go
open Go.RowKit (Below)
section
variable {P:Program} {T:Ty} {B:Nat} {F0:Nat→Prop} {w0:bW} {n:Nat} {σ:St} {R:List LR} {all ops:Array Oper} {l:List Oper} {o:Oper} {x:Code} {a:Act} {w:World} {K:List LR→St→Prop} {p:jF} {Q:Exit→List LR→St→Prop}
theorem lj: ∀{cs:List D},(∀d,d∈cs→d.flat=[d])→flatAll cs=cs
 | [],h=>rfl
 | d::r,h=>by
   show d.flat++flatAll r=d::r;rw[h d (List.mem_cons_self ..),lj (fun x hx=>h x (List.mem_cons_of_mem _ hx))];rfl
theorem bI.ET{i j k e eo:Nat}{V Vo:Value}{xs cs:List D}(hR:bI P B F0 w0 n R σ a w)(hj:R[j]?=some (Vo,.ow eo cs))(hc1: ∀d,d∈cs→d.flat=[d])(hk:cs[k]?=some (.v V))(hi:R[i]?=some (V,.ow e xs))(hij:i≠j):
  bI P B F0 w0 n ((R.set i (V,.junk)).set j (Vo,.ow eo (cs.set k (.sl (P.cellsOf e) xs)))) σ a w:=by
 obtain ⟨O,hOr,hO,hL⟩:=hR.own
 let O':Nat→Option Nat:=fun b=>if O b=some (n+i) then none else O b
 have h1: ∀b t,O' b=some t→O b=some t:=fun b t h=>by
  simp only[O'] at h;split at h
  · cases h
  · exact h
 have h2: ∀b t,t≠n+i→O b=some t→O' b=some t:=fun b t ht h=>by
  simp only[O',h];rw[if_neg (by simpa using ht)]
 have hF: ∀c,aG O (FW B F0 w) c→aG O' (FW B F0 w) c:=fun c hc=>⟨by simp only[O',hc.1];simp,hc.2⟩
 have hlt: ∀t av,σ.get t=some av→t<n:=fun t av h=>by
  obtain ⟨v,hv,_⟩:=hO t av h;rw[← hR.size];exact(Array.getElem?_eq_some_iff.1 hv).1
 have hil:=(List.getElem?_eq_some_iff.1 hi).1;have hjl:=(List.getElem?_eq_some_iff.1 hj).1;have hkl:=(List.getElem?_eq_some_iff.1 hk).1;refine⟨hR.below,hR.base,hR.f0,hR.defers,hR.size,O',fun b t hb=>hOr b t (h1 b t hb),fun j av hav=>?_,fun m r hr=>?_⟩
 · obtain ⟨v,hv,hr⟩:=hO j av hav;exact⟨v,hv,hr.move (fun c hc=>⟨hF c hc,rfl⟩) (fun _ c hc=>⟨h2 c j (by have:=hlt j av hav;omega) hc,rfl⟩) (fun k _ x _ hk=>⟨hk,rfl⟩)⟩
 · by_cases hmj:m=j
   · subst hmj;rw[List.getElem?_set_self (by simpa using hjl)] at hr;cases hr
     have hcs': ∀d,d∈cs.set k (.sl (P.cellsOf e) xs)→d.flat=[d]:=fun d hd=>by
      rcases List.mem_or_eq_of_mem_set hd with h | h
      · exact hc1 d h
      · subst h;rfl
     rcases hL m _ hj with h | ⟨_,_,h⟩
     · cases h
     refine .inr ⟨rfl,rfl,?_⟩;rcases h with ⟨base,h3,h4⟩ | ⟨b',cap,cs',h3,h4,h5,h6,h7,h8,h9,h10⟩
     · subst h4;simp at hk
     · simp only at h3;subst h3;refine .inr ⟨b',cap,cs',by simp,h2 b' _ (by omega) h4,h5,by simpa using h6,h7,h8,fun d hd=>?_,fun q d hd=>?_⟩
       · rcases List.mem_or_eq_of_mem_set hd with h | h
         · exact h9 d h
         · subst h;have:=h9 _ (List.mem_of_getElem? hk);exact this
       · rw[lj hcs'] at hd;rw[lj hc1] at h10;by_cases hq:q=k
         · subst hq;rw[List.getElem?_set_self hkl] at hd;cases hd;obtain ⟨_,u,hu,hru⟩:=h10 q _ hk;have:=(Rd.jK hru).1;subst this;refine⟨rfl,_,hu,?_⟩;rcases hL i _ hi with h | ⟨_,_,h⟩
           · cases h
           · rcases h with ⟨base,h3,h4⟩ | ⟨b2,cap2,cs2,g3,g4,g5,g6,g7,g8,g9,g10⟩
             · simp only at h3 h4;subst h3;subst h4;exact .nil (Nat.zero_le _)
             · simp only at g3;subst g3;refine Rd.ke (off:=0) ⟨by simp only[O',g4];simp,(hOr b2 _ g4).fw hR.f0⟩ g5 g6 g7 g9 (fun m d hd=>?_);obtain ⟨f1,u,f2,f3⟩:=g10 m d hd;exact⟨f1,u,by simpa using f2,f3.mono hF (fun _ _=>rfl)⟩
         · rw[List.getElem?_set_ne (Ne.symm hq)] at hd;obtain ⟨f1,u,f2,f3⟩:=h10 q d hd;exact⟨f1,u,f2,f3.mono hF (fun _ _=>rfl)⟩
   · have hr:=gW hmj hr;by_cases hmi:m=i
     · subst hmi;rw[List.getElem?_set_self hil] at hr;cases hr;exact .inl rfl
     · have:=gW hmi hr;rcases hL m r this with h | ⟨g1,g2,g3⟩
       · exact .inl h
       · exact .inr ⟨g1,g2,g3.move (fun c hc=>⟨hF c hc,rfl⟩) (fun _ c hc=>⟨h2 c _ (by omega) hc,rfl⟩) (fun k _ x _ hk=>by cases hk)⟩
theorem AZ.ET(hT:bd P T)(i j k:Nat){V Vo:Value}{e eo:Nat}{te:TI}{xs cs:List D}(hj:R[j]?=some (Vo,.ow eo cs))(hc1: ∀d,d∈cs→d.flat=[d])(hk:cs[k]?=some (.v V))(hi:R[i]?=some (V,.ow e xs))(hij:i≠j)(he:T.get e=some te)
  (h:AZ P B F0 w0 n x Q ((R.set i (V,.junk)).set j (Vo,.ow eo (cs.set k (.sl te.size xs)))) σ):AZ P B F0 w0 n x Q R σ:=by
 obtain ⟨info,d,z,hok⟩:=hT e te he;intro a w hR;have:=hR.ET hj hc1 hk hi hij;rw[hok.cellsOf] at this;exact h a w this
theorem ai.wQ(t i:Nat){av:AV}(ht:σ.get t=some av)(hrow:av.row.isSome=true)(htag:av.tag=false)(hi:Nat.ble (i+1) R.length=true)(h: ∀V:Value,ai P B F0 w0 n all l K p (R.set i (V,av)) ((t,.d (.v V))::σ.kill t)):ai P B F0 w0 n all l K p R σ:=by
 intro a w hR hpin Q hQ;obtain ⟨O,_,hO,_⟩:=hR.own;obtain ⟨V,hV,_⟩:=hO t _ ht;exact h V a w (hR.jb (i:=i) ht hrow htag hV (List.getElem?_set_self (Nat.le_of_ble_eq_true hi)) (fun j r hj hr=>gW hj hr)) hpin Q hQ
theorem ah{K:List LR→St→Prop}(h: ∀B1 F1 w1,sI P B1 F1 w1 R→ab P B1 F1 w1 n ops [o] (fun σ'=>σ'.fp=true∧K R σ') σ):ai P B F0 w0 n ops [o] K [] R σ :=
 ai.GQ 1 rfl (fun B1 F1 w1 hS=>by
  have:=h B1 F1 w1 hS
  refine fun a w hR Q hQ=>this a w hR Q (fun a' w' σ' ⟨h1,h2⟩ hR'=>hQ a' w' σ' ⟨h1,ai.nil h2⟩ hR'))
end
section
variable {P:Program} {T:Ty} {B:Nat} {F0:Nat→Prop} {w0:bW} {n:Nat} {σ:St} {R:List LR} {ops:Array Oper} {o1 o2 o3 o4:Oper} {Q:Exit→List LR→St→Prop} {β:fe} {fuel:Nat} {listed:Array Bool}
end
end Lift
namespace Lift
open Go Go.Proofs
abbrev fD(r:List NQ):AV:=AV.ow 53 (r.map af)
def fQ{α:Type}(zs xs:List α)(i:Nat):List α:=zs.take i++xs.drop i
theorem rN{α:Type}{zs xs:List α}(h:zs.length=xs.length){i:Nat}(hi:i≤xs.length):(fQ zs xs i).length=xs.length:=by
 unfold fQ;rw[List.length_append,List.length_take,List.length_drop,h];omega
theorem wL{α:Type}{zs xs:List α}(h:zs.length=xs.length){i:Nat}(hi:i<xs.length)(d:α):(fQ zs xs i).getD i d=xs.getD i d:=by
 unfold fQ;rw[List.getD_eq_getElem?_getD,List.getElem?_append_right (by rw[List.length_take];omega),List.length_take,h,List.getElem?_drop,List.getD_eq_getElem?_getD]
 congr 2;omega
theorem wK{α:Type}{zs xs:List α}(h:zs.length=xs.length){i:Nat}(hi:i<xs.length){d z:α}(hz:zs.getD i d=z):(fQ zs xs i).set i z=fQ zs xs (i+1):=by
 subst hz;refine List.ext_getElem? (fun c=>?_);by_cases hc:c=i
 · subst hc;rw[List.getElem?_set_self (by rw[rN h (by omega)];exact hi)];unfold fQ;rw[List.getElem?_append_left (by rw[List.length_take];omega),List.getElem?_take,if_pos (by omega)];have h1:c<zs.length:=by omega
   simp[h1]
 · rw[List.getElem?_set_ne (Ne.symm hc)];unfold fQ;rcases Nat.lt_or_ge c i with g | g
   · rw[List.getElem?_append_left (by rw[List.length_take];omega),List.getElem?_append_left (by rw[List.length_take];omega),List.getElem?_take,List.getElem?_take,if_pos g,if_pos (by omega)]
   · rw[List.getElem?_append_right (by rw[List.length_take];omega),List.getElem?_append_right (by rw[List.length_take];omega),List.getElem?_drop,List.getElem?_drop,List.length_take,List.length_take]
     congr 1;omega
theorem tZ{α:Type}(zs xs:List α):fQ zs xs 0=xs:=by unfold fQ;simp
theorem wM{α:Type}{zs xs:List α}(h:zs.length=xs.length):fQ zs xs xs.length=zs:=by
 unfold fQ;rw[List.drop_length,List.append_nil,← h,List.take_length]
section
variable {P:Program} {T:Ty} {B:Nat} {F0:Nat→Prop} {w0:bW} {n:Nat} {σ τ:St} {K:St→Prop} {all:Array Oper} {o:Oper} {d:Nat} {rest:List Oper}
theorem ab.uD(hT:bd P T){k e i:Nat}{r:List NQ}(q:NQ)(hd:o.dst=none)(hg:aA all σ o=true)(hx:y0 T σ o.op=some (k,.ow e (r.map af),r.map af,i,0,af q))(hi:i<r.length)
  (h:ab P B F0 w0 n all rest K ((k,.ow e ((r.set i q).map af))::σ)):ab P B F0 w0 n all (o::rest) K σ:=by
 refine ab.iL hT (af (r.getD i [])) hd hg hx (getM af hi) rfl ?_;show ab P B F0 w0 n all rest K ((k,.ow e ((r.map af).set i (af q)))::σ);rw[show (r.map af).set i (af q)=(r.set i q).map af from (List.map_set ..).symm];exact h
end
def my(v:List NQ)(xs ys:List NQ)(c:NQ):List NQ:=(List.range xs.length).map fun k=>pY (xs.getD k []) (fP v c (ys.getD k []))
theorem lM(v:List NQ)(xs ys:List NQ)(c:NQ):(my v xs ys c).length=xs.length:=by unfold my;rw[List.length_map,List.length_range]
theorem lN(v:List NQ)(xs ys:List NQ)(c:NQ){k:Nat}(h:k<xs.length):(my v xs ys c).getD k []=pY (xs.getD k []) (fP v c (ys.getD k [])):=by
 unfold my;rw[List.getD_eq_getElem?_getD,List.getElem?_map,List.getElem?_range h];rfl
def xZ(v:List NQ)(xs ys:List NQ)(c:NQ):Prop:= ∀k,k<xs.length→rE v c (ys.getD k [])∧Bg (xs.getD k []) (fP v c (ys.getD k []))
def Ax(V1 V2:Value)(zs ys:List NQ)(res:D)(R':List LR):Prop:=res=aj∧R'=[(V1,fD zs),(V2,fD ys)]
theorem jW{v:List NQ}(V:jH v){a b:NQ}(ha:ak v.length a)(hb:ak v.length b):ak v.length (fP v a b):=bV (dQ v.length ha hb V.ro (Nat.le_refl _))
theorem CP{l:Nat}{a b:NQ}(ha:ak l a)(hb:ak l b):ak l (pY a b):=bV (ha.plus hb.minus)
theorem DE{v:List NQ}(V:jH v){a b:NQ}(ha:ak v.length a)(hb:ak v.length b):ak v.length (td v a b):=bV (dQ v.length ha (gA v.length hb V.ro (Nat.le_refl _)) V.ro (Nat.le_refl _))
set_option maxHeartbeats 3200000 in
theorem rO(V1 V2:Value){v:List NQ}(V:jH v){xs ys:List NQ}{c:NQ}(hl:ys.length=xs.length)(hl0:0<xs.length)(hl1:xs.length≤1000000)(hx: ∀k,ak v.length (xs.getD k []))(hy: ∀k,ak v.length (ys.getD k []))(hc:ak v.length c)(ok:xZ v xs ys c):
  lH Tryz.prog 90 [bF v,.v V1,.v V2,af c] [(V1,fD xs),(V2,fD ys)] (Ax V1 V2 (my v xs ys c) ys):=by
 refine lH.intro (n:=47) tok Tryz.func90 rfl rfl rfl (Nat.le_of_ble_eq_true rfl) (by kernel_rfl) (fun B F0 w0=>?_);have hz:=lM v xs ys c;obtain ⟨zs,hzs⟩: ∃zs,my v xs ys c=zs:=⟨_,rfl⟩;rw[hzs] at hz ⊢;refine AZ.seq ?_;refine AZ.gH (fun B1 F1 w1=>?_);refine qU 2 rfl ?_;refine ab.nil ⟨rfl,?_⟩;refine AZ.seq ?_;refine AZ.seq ?_;refine AZ.A2 (fun B1 F1 w1 hS=>?_);refine qU 1 rfl ?_;refine ab.lens tok (hS.at (i:=0) rfl (by rw[List.length_map];exact hl0)) rfl rfl rfl rfl ?_;refine qU 1 rfl ?_;rw[List.length_map];refine ab.nil ⟨rfl,?_⟩;refine AZ.block ?_;refine AZ.aE [1,2,3,4,13,14] (fun i:Nat=>([(V1,fD (fQ zs xs i)),(V2,fD ys)],[(1,.d (.v V1)),(2,.d (.v V2)),(3,.d (af c)),(4,.bx [.sl 1 (v.map af)]),(13,.d (dI xs.length)),(14,.d (dI i))])) (fun i=>i≤xs.length) (fun i=>xs.length-i) 0 (by rw[tZ];rfl) (Nat.zero_le _) (fun i hi=>?_)
 · show AZ _ _ _ _ _ _ _ [(V1,fD (fQ zs xs i)),(V2,fD ys)] [(1,.d (.v V1)),(2,.d (.v V2)),(3,.d (af c)),(4,.bx [.sl 1 (v.map af)]),(13,.d (dI xs.length)),(14,.d (dI i))];refine AZ.seq ?_;refine AZ.gH (fun B1 F1 w1=>?_);refine qU 1 rfl ?_;refine ab.nil ⟨rfl,?_⟩;refine AZ.seq ?_;refine AZ.cond rfl (fun h=>?_) (fun h=>?_)
   · have hin:i<xs.length:=by have:=of_decide_eq_true h;omega
     have hpl:=rN hz (i:=i) (by omega);have hpg:=wL hz hin [];have hps:=wK hz hin (d:=[]) (show zs.getD i []=pY (xs.getD i []) (fP v c (ys.getD i [])) by rw[← hzs];exact lN v xs ys c hin);have hyi:i<ys.length:=by omega
     obtain ⟨okm,oks⟩:=ok i hin;have cm:=jN V hc (hy i) okm;have cs:=xz V (hx i) (jW V hc (hy i)) oks;generalize fQ zs xs i=ps at *;generalize hX:xs.getD i []=X at *;generalize hY:ys.getD i []=Y at *;generalize fP v c Y=M at *;generalize pY X M=S at *;refine AZ.skip ?_;refine AZ.seq ?_;refine AZ.block ?_;refine AZ.seq ?_;refine AZ.gH (fun B1 F1 w1=>?_);refine qU 2 rfl ?_;refine ab.nil ⟨rfl,?_⟩;refine AZ.seq ?_;refine AZ.any aP (xl.zo 11 (by kernel_rfl) (fun B1 F1 w1 hS=>?_));have hS2:=hS.at (i:=1) rfl (by rw[List.length_map];omega);refine qP 4 rfl ?_;refine ae.idxs tok hS2 rfl rfl rfl rfl rfl (Int.natCast_nonneg i) (by rw[List.length_map];exact hyi) ?_;refine ae.aY tok (af (ys.getD i [])) hS2 rfl rfl rfl rfl rfl rfl rfl (getM af hyi) rfl ?_;rw[hY];refine ae.call tok rfl rfl rfl rfl rfl cm ?_;refine qP 4 rfl ?_;refine ae.nil ⟨rfl,?_⟩;refine ai.cut 1 rfl (fun B1 F1 w1=>?_);refine qU 1 rfl ?_;refine ab.nil ⟨rfl,?_⟩;refine ai.nil ?_;refine AZ.to [1,2,3,4,9,10,11,13,14] [(1,.d (.v V1)),(2,.d (.v V2)),(3,.d (af c)),(4,.bx [.sl 1 (v.map af)]),(9,.d (dI i)),(10,.d (af M)),(11,.d aj),(13,.d (dI xs.length)),(14,.d (dI i))] rfl ?_;refine AZ.seq ?_;refine AZ.seq ?_;refine AZ.gH (fun B1 F1 w1=>?_);refine qU 1 rfl ?_;refine ab.err tok rfl rfl rfl rfl rfl ?_;refine ab.nil ⟨rfl,?_⟩;refine AZ.ay rfl ?_;refine AZ.skip ?_;refine AZ.seq ?_;refine AZ.any aP (ZH.any (β:=[]) ?_);refine ZH.mv 0 rfl rfl (by kernel_rfl) (by kernel_rfl) (by kernel_rfl) rfl (fun _ _ _ h=>h) (fun _=>rfl) trivial (fun B1 F1 w1=>?_);refine qU 1 rfl ?_;refine ab.nil ⟨rfl,?_⟩;refine ZH.mv 1 rfl rfl (by kernel_rfl) (by kernel_rfl) (by kernel_rfl) rfl (fun _ _ _ h=>h) (fun _=>rfl) trivial (fun B1 F1 w1=>?_);refine qU 1 rfl ?_;refine ab.nil ⟨rfl,?_⟩;refine ZH.mv 3 rfl rfl (by kernel_rfl) (by kernel_rfl) (by kernel_rfl) rfl (fun _ _ _ h=>h) (fun _=>rfl) trivial (fun B1 F1 w1=>?_);refine qU 1 rfl ?_;refine ab.nil ⟨rfl,?_⟩;refine ZH.mv 4 rfl rfl (by kernel_rfl) (by kernel_rfl) (by kernel_rfl) rfl (fun _ _ _ h=>h) (fun _=>rfl) trivial (fun B1 F1 w1=>?_);refine qU 1 rfl ?_;refine ab.nil ⟨rfl,?_⟩;refine ZH.mv 7 rfl rfl (by kernel_rfl) (by kernel_rfl) (by kernel_rfl) rfl (fun _ _ _ h=>h) (fun _=>rfl) trivial (fun B1 F1 w1=>?_);refine qU 1 rfl ?_;refine ab.nil ⟨rfl,?_⟩;refine ZH.meet 0 (qB 15 32767) (fun V=>[(V1,fD (fQ zs xs (i+1))),(V2,fD ys)]) (fun V=>[(1,.d (.v V1)),(2,.d (.v V2)),(3,.d (af c)),(4,.bx [.sl 1 (v.map af)]),(9,.d (dI i)),(10,.d (af M)),(13,.d (dI xs.length)),(14,.d (dI i)),(31,.d (.v V1)),(32,.d (dI i)),(34,.d (.v V1)),(35,.d (dI i)),(38,.d (af M)),(33,.d (bF v)),(36,.d (.v (bf V1 (i*1)))),(37,.d (af X)),(39,.d (.tu [af S,aj])),(30,.d (.tu [af S,aj])),(40,.d (af S)),(41,.d aj),(11,.d aj)]) (fun V=>?_) (fun N1_2_5_1_1=>?_)
     · refine ZH.done (by kernel_rfl) trivial ?_;refine AZ.to [1,2,3,4,11,13,14] [(1,.d (.v V1)),(2,.d (.v V2)),(3,.d (af c)),(4,.bx [.sl 1 (v.map af)]),(11,.d aj),(13,.d (dI xs.length)),(14,.d (dI i))] rfl ?_;refine AZ.seq ?_;refine AZ.gH (fun B1 F1 w1=>?_);refine qU 1 rfl ?_;refine ab.err tok rfl rfl rfl rfl rfl ?_;refine ab.nil ⟨rfl,?_⟩;refine AZ.ay rfl ?_;refine AZ.skip ?_;refine AZ.gH (fun B1 F1 w1=>?_);refine qU 1 rfl ?_;rw[aD (x:=(i:Int)+1) (by omega) (by omega)];refine qU 1 rfl ?_;refine ab.nil ⟨rfl,?_⟩;exact⟨i+1,rfl,hin,by omega⟩
     refine ZH.meet 1 (qB 15 16383) (fun V=>[(V1,fD (fQ zs xs (i+1))),(V2,fD ys)]) (fun V=>[(1,.d (.v V1)),(2,.d (.v V2)),(3,.d (af c)),(4,.bx [.sl 1 (v.map af)]),(9,.d (dI i)),(10,.d (af M)),(13,.d (dI xs.length)),(14,.d (dI i)),(31,.d (.v V1)),(32,.d (dI i)),(34,.d (.v V1)),(35,.d (dI i)),(38,.d (af M)),(33,.d (bF v)),(36,.d (.v (bf V1 (i*1)))),(37,.d (af X)),(39,.d (.tu [af S,aj])),(30,.d (.tu [af S,aj])),(40,.d (af S)),(41,.d aj)]) (fun V=>?_) (fun N1_2_5_1_0=>?_)
     · refine ZH.all 14 (by kernel_rfl) rfl rfl (fun _=>rfl) trivial ?_;refine ao (fun B1 F1 w1=>?_);refine qU 1 rfl ?_;refine ab.nil ⟨rfl,?_⟩;exact qL (N1_2_5_1_1 V) (by kernel_rfl) rfl trivial
     refine ZH.meet 2 (qB 15 8191) (fun V=>[(V1,fD ps),(V2,fD ys)]) (fun V=>[(1,.d (.v V1)),(2,.d (.v V2)),(3,.d (af c)),(4,.bx [.sl 1 (v.map af)]),(9,.d (dI i)),(10,.d (af M)),(13,.d (dI xs.length)),(14,.d (dI i)),(31,.d (.v V1)),(32,.d (dI i)),(34,.d (.v V1)),(35,.d (dI i)),(38,.d (af M)),(33,.d (bF v)),(36,.d (.v (bf V1 (i*1)))),(37,.d (af X)),(39,.d (.tu [af S,aj])),(30,.d (.tu [af S,aj])),(40,.d (af S)),(42,.d (.v (bf V1 (i*1)))),(41,.d aj)]) (fun V=>?_) (fun N1_2_4_1_0=>?_)
     · refine ZH.all 13 (by kernel_rfl) rfl rfl (fun _=>rfl) trivial ?_;refine ai.fB 31 0 rfl rfl rfl ?_;refine ai.el tok 31 42 rfl (List.Mem.head _) rfl rfl rfl (by rw[List.length_map,hpl];exact hin) rfl ?_;refine ai.cut 1 rfl (fun B1 F1 w1=>?_);refine ab.uD tok S rfl rfl rfl (by omega) ?_;rw[hps];refine ab.nil ⟨rfl,?_⟩;refine ai.back 31 0 rfl rfl rfl (List.Mem.head _) rfl ?_;refine ai.nil ?_;exact qL (N1_2_5_1_0 V) (by kernel_rfl) rfl trivial
     refine ZH.meet 2 (qB 15 14335) (fun V=>[(V1,fD (fQ zs xs (i+1))),(V2,fD ys)]) (fun V=>[(1,.d (.v V1)),(2,.d (.v V2)),(3,.d (af c)),(4,.bx [.sl 1 (v.map af)]),(9,.d (dI i)),(10,.d (af M)),(13,.d (dI xs.length)),(14,.d (dI i)),(31,.d (.v V1)),(32,.d (dI i)),(34,.d (.v V1)),(35,.d (dI i)),(38,.d (af M)),(33,.d (bF v)),(36,.d (.v (bf V1 (i*1)))),(37,.d (af X)),(39,.d (.tu [af S,aj])),(30,.d (.tu [af S,aj])),(40,.d (af S))]) (fun V=>?_) (fun N1_2_5_0_0=>?_)
     · refine ZH.all 11 (by kernel_rfl) rfl rfl (fun _=>rfl) trivial ?_;refine ao (fun B1 F1 w1=>?_);refine qU 1 rfl ?_;refine ab.nil ⟨rfl,?_⟩;exact qL (N1_2_5_1_0 V) (by kernel_rfl) rfl trivial
     refine ZH.meet 3 (qB 15 4095) (fun V=>[(V1,fD ps),(V2,fD ys)]) (fun V=>[(1,.d (.v V1)),(2,.d (.v V2)),(3,.d (af c)),(4,.bx [.sl 1 (v.map af)]),(9,.d (dI i)),(10,.d (af M)),(13,.d (dI xs.length)),(14,.d (dI i)),(31,.d (.v V1)),(32,.d (dI i)),(34,.d (.v V1)),(35,.d (dI i)),(38,.d (af M)),(33,.d (bF v)),(36,.d (.v (bf V1 (i*1)))),(37,.d (af X)),(39,.d (.tu [af S,aj])),(30,.d (.tu [af S,aj])),(40,.d (af S)),(41,.d aj)]) (fun V=>?_) (fun N1_2_3_1_0=>?_)
     · refine ZH.all 12 (by kernel_rfl) rfl rfl (fun _=>rfl) trivial ?_;refine ah (fun B1 F1 w1 hS=>?_);refine ab.idxs tok (hS.at (i:=0) rfl (by rw[List.length_map];omega)) rfl rfl rfl rfl (Int.natCast_nonneg i) (by rw[List.length_map,hpl];exact hin) ?_;refine ab.nil ⟨rfl,?_⟩;exact qL (N1_2_4_1_0 V) (by kernel_rfl) rfl trivial
     refine ZH.meet 3 (qB 15 6143) (fun V=>[(V1,fD ps),(V2,fD ys)]) (fun V=>[(1,.d (.v V1)),(2,.d (.v V2)),(3,.d (af c)),(4,.bx [.sl 1 (v.map af)]),(9,.d (dI i)),(10,.d (af M)),(13,.d (dI xs.length)),(14,.d (dI i)),(31,.d (.v V1)),(32,.d (dI i)),(34,.d (.v V1)),(35,.d (dI i)),(38,.d (af M)),(33,.d (bF v)),(36,.d (.v (bf V1 (i*1)))),(37,.d (af X)),(39,.d (.tu [af S,aj])),(30,.d (.tu [af S,aj])),(40,.d (af S)),(42,.d (.v (bf V1 (i*1))))]) (fun V=>?_) (fun N1_2_4_0_0=>?_)
     · refine ZH.two 11 13 (by kernel_rfl) rfl rfl rfl rfl (fun _=>rfl) (fun _=>rfl) trivial ?_ ?_
       · refine ao (fun B1 F1 w1=>?_);refine qU 1 rfl ?_;refine ab.nil ⟨rfl,?_⟩;exact qL (N1_2_4_1_0 V) (by kernel_rfl) rfl trivial
       · refine ai.fB 31 0 rfl rfl rfl ?_;refine ai.el tok 31 42 rfl (List.Mem.head _) rfl rfl rfl (by rw[List.length_map,hpl];exact hin) rfl ?_;refine ai.cut 1 rfl (fun B1 F1 w1=>?_);refine ab.uD tok S rfl rfl rfl (by omega) ?_;rw[hps];refine ab.nil ⟨rfl,?_⟩;refine ai.back 31 0 rfl rfl rfl (List.Mem.head _) rfl ?_;refine ai.nil ?_;exact qL (N1_2_5_0_0 V) (by kernel_rfl) rfl trivial
     refine ZH.meet 4 (qB 15 3071) (fun V=>[(V1,fD ps),(V2,fD ys)]) (fun V=>[(1,.d (.v V1)),(2,.d (.v V2)),(3,.d (af c)),(4,.bx [.sl 1 (v.map af)]),(9,.d (dI i)),(10,.d (af M)),(13,.d (dI xs.length)),(14,.d (dI i)),(31,.d (.v V1)),(32,.d (dI i)),(34,.d (.v V1)),(35,.d (dI i)),(38,.d (af M)),(33,.d (bF v)),(36,.d (.v (bf V1 (i*1)))),(37,.d (af X)),(39,.d (.tu [af S,aj])),(30,.d (.tu [af S,aj])),(41,.d aj)]) (fun V=>?_) (fun N1_2_2_1_0=>?_)
     · refine ZH.all 10 (by kernel_rfl) rfl rfl (fun _=>rfl) trivial ?_;refine ao (fun B1 F1 w1=>?_);refine qU 1 rfl ?_;refine ab.nil ⟨rfl,?_⟩;exact qL (N1_2_3_1_0 V) (by kernel_rfl) rfl trivial
     refine ZH.meet 4 (qB 15 2047) (fun V=>[(V1,fD ps),(V2,fD ys)]) (fun V=>[(1,.d (.v V1)),(2,.d (.v V2)),(3,.d (af c)),(4,.bx [.sl 1 (v.map af)]),(9,.d (dI i)),(10,.d (af M)),(13,.d (dI xs.length)),(14,.d (dI i)),(31,.d (.v V1)),(32,.d (dI i)),(34,.d (.v V1)),(35,.d (dI i)),(38,.d (af M)),(33,.d (bF v)),(36,.d (.v (bf V1 (i*1)))),(37,.d (af X)),(39,.d (.tu [af S,aj])),(30,.d (.tu [af S,aj])),(40,.d (af S))]) (fun V=>?_) (fun N1_2_3_0_0=>?_)
     · refine ZH.two 11 12 (by kernel_rfl) rfl rfl rfl rfl (fun _=>rfl) (fun _=>rfl) trivial ?_ ?_
       · refine ao (fun B1 F1 w1=>?_);refine qU 1 rfl ?_;refine ab.nil ⟨rfl,?_⟩;exact qL (N1_2_3_1_0 V) (by kernel_rfl) rfl trivial
       · refine ah (fun B1 F1 w1 hS=>?_);refine ab.idxs tok (hS.at (i:=0) rfl (by rw[List.length_map];omega)) rfl rfl rfl rfl (Int.natCast_nonneg i) (by rw[List.length_map,hpl];exact hin) ?_;refine ab.nil ⟨rfl,?_⟩;exact qL (N1_2_4_0_0 V) (by kernel_rfl) rfl trivial
     refine ZH.meet 5 (qB 15 1023) (fun V=>[(V1,fD ps),(V2,fD ys)]) (fun V=>[(1,.d (.v V1)),(2,.d (.v V2)),(3,.d (af c)),(4,.bx [.sl 1 (v.map af)]),(9,.d (dI i)),(10,.d (af M)),(13,.d (dI xs.length)),(14,.d (dI i)),(31,.d (.v V1)),(32,.d (dI i)),(34,.d (.v V1)),(35,.d (dI i)),(38,.d (af M)),(33,.d (bF v)),(36,.d (.v (bf V1 (i*1)))),(37,.d (af X)),(39,.d (.tu [af S,aj])),(30,.d (.tu [af S,aj]))]) (fun V=>?_) (fun N1_2_2_0_0=>?_)
     · refine ZH.two 10 11 (by kernel_rfl) rfl rfl rfl rfl (fun _=>rfl) (fun _=>rfl) trivial ?_ ?_
       · refine ao (fun B1 F1 w1=>?_);refine qU 1 rfl ?_;refine ab.nil ⟨rfl,?_⟩;exact qL (N1_2_3_0_0 V) (by kernel_rfl) rfl trivial
       · refine ao (fun B1 F1 w1=>?_);refine qU 1 rfl ?_;refine ab.nil ⟨rfl,?_⟩;exact qL (N1_2_2_1_0 V) (by kernel_rfl) rfl trivial
     refine ZH.meet 6 (qB 15 511) (fun V=>[(V1,fD ps),(V2,fD ys)]) (fun V=>[(1,.d (.v V1)),(2,.d (.v V2)),(3,.d (af c)),(4,.bx [.sl 1 (v.map af)]),(9,.d (dI i)),(10,.d (af M)),(13,.d (dI xs.length)),(14,.d (dI i)),(31,.d (.v V1)),(32,.d (dI i)),(34,.d (.v V1)),(35,.d (dI i)),(38,.d (af M)),(33,.d (bF v)),(36,.d (.v (bf V1 (i*1)))),(37,.d (af X)),(39,.d (.tu [af S,aj]))]) (fun V=>?_) (fun N1_2_1_0_0=>?_)
     · refine ZH.all 9 (by kernel_rfl) rfl rfl (fun _=>rfl) trivial ?_;refine ao (fun B1 F1 w1=>?_);refine qU 1 rfl ?_;refine ab.nil ⟨rfl,?_⟩;exact qL (N1_2_2_0_0 V) (by kernel_rfl) rfl trivial
     refine ZH.meet 7 (qB 15 255) (fun V=>[(V1,fD ps),(V2,fD ys)]) (fun V=>[(1,.d (.v V1)),(2,.d (.v V2)),(3,.d (af c)),(4,.bx [.sl 1 (v.map af)]),(9,.d (dI i)),(10,.d (af M)),(13,.d (dI xs.length)),(14,.d (dI i)),(31,.d (.v V1)),(32,.d (dI i)),(34,.d (.v V1)),(35,.d (dI i)),(38,.d (af M)),(33,.d (bF v)),(36,.d (.v (bf V1 (i*1)))),(37,.d (af X))]) (fun V=>?_) (fun N1_2_0_0_0=>?_)
     · refine ZH.all 8 (by kernel_rfl) rfl rfl (fun _=>rfl) trivial ?_;refine ao (fun B1 F1 w1=>?_);refine ab.call tok rfl rfl rfl rfl cs ?_;refine ab.nil ⟨rfl,?_⟩;exact qL (N1_2_1_0_0 V) (by kernel_rfl) rfl trivial
     refine ZH.meet 8 (qB 15 251) (fun V=>[(V1,fD ps),(V2,fD ys)]) (fun V=>[(1,.d (.v V1)),(2,.d (.v V2)),(3,.d (af c)),(4,.bx [.sl 1 (v.map af)]),(9,.d (dI i)),(10,.d (af M)),(13,.d (dI xs.length)),(14,.d (dI i)),(31,.d (.v V1)),(32,.d (dI i)),(34,.d (.v V1)),(35,.d (dI i)),(38,.d (af M)),(36,.d (.v (bf V1 (i*1)))),(37,.d (af X))]) (fun V=>?_) (fun N0_2_0_0_0=>?_)
     · refine ZH.all 2 (by kernel_rfl) rfl rfl (fun _=>rfl) trivial ?_;refine ao (fun B1 F1 w1=>?_);refine qU 1 rfl ?_;refine ab.nil ⟨rfl,?_⟩;exact qL (N1_2_0_0_0 V) (by kernel_rfl) rfl trivial
     refine ZH.meet 8 (qB 15 191) (fun V=>[(V1,fD ps),(V2,fD ys)]) (fun V=>[(1,.d (.v V1)),(2,.d (.v V2)),(3,.d (af c)),(4,.bx [.sl 1 (v.map af)]),(9,.d (dI i)),(10,.d (af M)),(13,.d (dI xs.length)),(14,.d (dI i)),(31,.d (.v V1)),(32,.d (dI i)),(34,.d (.v V1)),(35,.d (dI i)),(38,.d (af M)),(33,.d (bF v)),(36,.d (.v (bf V1 (i*1))))]) (fun V=>?_) (fun N1_1_0_0_0=>?_)
     · refine ZH.all 6 (by kernel_rfl) rfl rfl (fun _=>rfl) trivial ?_;refine ah (fun B1 F1 w1 hS=>?_);refine ab.aY tok (af (ps.getD i [])) (hS.at (i:=0) rfl (by rw[List.length_map];omega)) rfl rfl rfl rfl rfl rfl (getM af (by omega)) rfl ?_;rw[hpg];refine ab.nil ⟨rfl,?_⟩;exact qL (N1_2_0_0_0 V) (by kernel_rfl) rfl trivial
     refine ZH.meet 9 (qB 15 187) (fun V=>[(V1,fD ps),(V2,fD ys)]) (fun V=>[(1,.d (.v V1)),(2,.d (.v V2)),(3,.d (af c)),(4,.bx [.sl 1 (v.map af)]),(9,.d (dI i)),(10,.d (af M)),(13,.d (dI xs.length)),(14,.d (dI i)),(31,.d (.v V1)),(32,.d (dI i)),(34,.d (.v V1)),(35,.d (dI i)),(38,.d (af M)),(36,.d (.v (bf V1 (i*1))))]) (fun V=>?_) (fun N0_1_0_0_0=>?_)
     · refine ZH.two 2 6 (by kernel_rfl) rfl rfl rfl rfl (fun _=>rfl) (fun _=>rfl) trivial ?_ ?_
       · refine ao (fun B1 F1 w1=>?_);refine qU 1 rfl ?_;refine ab.nil ⟨rfl,?_⟩;exact qL (N1_1_0_0_0 V) (by kernel_rfl) rfl trivial
       · refine ah (fun B1 F1 w1 hS=>?_);refine ab.aY tok (af (ps.getD i [])) (hS.at (i:=0) rfl (by rw[List.length_map];omega)) rfl rfl rfl rfl rfl rfl (getM af (by omega)) rfl ?_;rw[hpg];refine ab.nil ⟨rfl,?_⟩;exact qL (N0_2_0_0_0 V) (by kernel_rfl) rfl trivial
     refine ZH.meet 9 (qB 15 159) (fun V=>[(V1,fD ps),(V2,fD ys)]) (fun V=>[(1,.d (.v V1)),(2,.d (.v V2)),(3,.d (af c)),(4,.bx [.sl 1 (v.map af)]),(9,.d (dI i)),(10,.d (af M)),(13,.d (dI xs.length)),(14,.d (dI i)),(31,.d (.v V1)),(32,.d (dI i)),(34,.d (.v V1)),(35,.d (dI i)),(38,.d (af M)),(33,.d (bF v))]) (fun V=>?_) (fun N1_0_0_0_0=>?_)
     · refine ZH.all 5 (by kernel_rfl) rfl rfl (fun _=>rfl) trivial ?_;refine ah (fun B1 F1 w1 hS=>?_);refine ab.idxs tok (hS.at (i:=0) rfl (by rw[List.length_map];omega)) rfl rfl rfl rfl (Int.natCast_nonneg i) (by rw[List.length_map,hpl];exact hin) ?_;refine ab.nil ⟨rfl,?_⟩;exact qL (N1_1_0_0_0 V) (by kernel_rfl) rfl trivial
     refine ZH.meet 10 (qB 15 155) (fun V=>[(V1,fD ps),(V2,fD ys)]) (fun V=>[(1,.d (.v V1)),(2,.d (.v V2)),(3,.d (af c)),(4,.bx [.sl 1 (v.map af)]),(9,.d (dI i)),(10,.d (af M)),(13,.d (dI xs.length)),(14,.d (dI i)),(31,.d (.v V1)),(32,.d (dI i)),(34,.d (.v V1)),(35,.d (dI i)),(38,.d (af M))]) (fun V=>?_) (fun N0_0_0_0_0=>?_)
     · refine ZH.two 2 5 (by kernel_rfl) rfl rfl rfl rfl (fun _=>rfl) (fun _=>rfl) trivial ?_ ?_
       · refine ao (fun B1 F1 w1=>?_);refine qU 1 rfl ?_;refine ab.nil ⟨rfl,?_⟩;exact qL (N1_0_0_0_0 V) (by kernel_rfl) rfl trivial
       · refine ah (fun B1 F1 w1 hS=>?_);refine ab.idxs tok (hS.at (i:=0) rfl (by rw[List.length_map];omega)) rfl rfl rfl rfl (Int.natCast_nonneg i) (by rw[List.length_map,hpl];exact hin) ?_;refine ab.nil ⟨rfl,?_⟩;exact qL (N0_1_0_0_0 V) (by kernel_rfl) rfl trivial
     exact qL (N0_0_0_0_0 fg) (by kernel_rfl) rfl trivial
   have hin:i=xs.length:=by have:=of_decide_eq_false h;omega
   subst hin;rw[wM hz];refine AZ.exit ?_;refine AZ.seq ?_;refine AZ.gH (fun B1 F1 w1=>?_);refine qU 1 rfl ?_;refine ab.nil ⟨rfl,?_⟩;exact AZ.ret ⟨aj,rfl,rfl,rfl⟩
end Lift
namespace Lift
abbrev br:=List (List NQ)
structure j7 where
 rows:br
 cols:List Nat
 sg:Int
 det:NQ
def gM(g:Nat→Bool):Nat→Nat→Nat
 | 0,i=>i
 | m+1,i=>if g i=true then i else gM g m (i+1)
theorem ud{g:Nat→Bool}{n i:Nat}(h:i<n)(h0:g i=false):gM g (n-i) i=gM g (n-(i+1)) (i+1):=by
 rw[show n-i=(n-(i+1))+1 by omega,gM,if_neg (by rw[h0];simp)]
theorem wX{g:Nat→Bool}{n i:Nat}(h:i<n)(h0:g i=true):gM g (n-i) i=i:=by
 rw[show n-i=(n-(i+1))+1 by omega,gM,if_pos h0]
theorem wY{g:Nat→Bool}{n i:Nat}(h: ¬i<n):gM g (n-i) i=i:=by rw[show n-i=0 by omega,gM]
theorem pa{g:Nat→Bool}: ∀{m i:Nat},i≤gM g m i∧gM g m i≤i+m∧(∀k,i≤k→k<gM g m i→g k=false)∧(gM g m i<i+m→g (gM g m i)=true)
 | 0,i=>⟨Nat.le_refl _,Nat.le_refl _,fun k h1 h2=>by simp only[gM] at h2;omega,fun h=>by simp only[gM] at h;omega⟩
 | m+1,i=>by
   simp only[gM];split
   · rename_i h;exact⟨Nat.le_refl _,by omega,fun k h1 h2=>by omega,fun _=>h⟩
   · rename_i h;obtain ⟨h1,h2,h3,h4⟩:=pa (g:=g) (m:=m) (i:=i+1);refine⟨by omega,by omega,fun k k1 k2=>?_,fun k=>h4 (by omega)⟩;by_cases e:k=i
     · subst e;simpa using h
     · exact h3 k (by omega) k2
def bY(a:br)(i k:Nat):NQ:=(a.getD i []).getD k []
def FM(v:List NQ)(a:br)(c j:Nat):Bool:=decide (oF v (bY a j c)≠0)
def CL(b:br)(r t:Nat):br:=(b.set t (b.getD r [])).set r (b.getD t [])
def cW(v:List NQ)(e:br)(r c:Nat):Nat→br
 | 0=>e
 | i+1=>if i≠r∧oF v (bY (cW v e r c i) i c)≠0 then (cW v e r c i).set i (my v ((cW v e r c i).getD i []) ((cW v e r c i).getD r []) (bY (cW v e r c i) i c)) else cW v e r c i
def atR(v:List NQ)(s:j7)(c:Nat):Nat:=gM (FM v s.rows c) (s.rows.length-s.cols.length) s.cols.length
def bR(v:List NQ)(s:j7)(c:Nat):br:=if atR v s c=s.cols.length then s.rows else CL s.rows s.cols.length (atR v s c)
def pR(v:List NQ)(s:j7)(c:Nat):NQ:=bY (bR v s c) s.cols.length c
def xo(v:List NQ)(r:List NQ)(p:NQ):List NQ:=r.map (fun x=>td v x p)
def eR(v:List NQ)(s:j7)(c:Nat):br:=(bR v s c).set s.cols.length (xo v ((bR v s c).getD s.cols.length []) (pR v s c))
def df(v:List NQ)(s:j7)(c:Nat):j7 :=
 if atR v s c<s.rows.length then ⟨cW v (eR v s c) s.cols.length c (eR v s c).length,s.cols++[c],if atR v s c=s.cols.length then s.sg else -s.sg,fP v s.det (pR v s c)⟩ else s
def aH(v:List NQ)(a:br):Nat→j7
 | 0=>⟨a,[],1,[1]⟩
 | c+1=>df v (aH v a c) c
structure lE (v:List NQ) (s:j7) (c:Nat):Prop where
 sg: ∀j,s.cols.length≤j→j<s.rows.length→s4 v (bY s.rows j c)
 det:atR v s c<s.rows.length→rE v s.det (pR v s c)
 div:atR v s c<s.rows.length→ ∀k,k<((bR v s c).getD s.cols.length []).length→Bm v (bY (bR v s c) s.cols.length k) (pR v s c)
 sg2:atR v s c<s.rows.length→ ∀i,i<s.rows.length→i≠s.cols.length→s4 v (bY (eR v s c) i c)
 take:atR v s c<s.rows.length→ ∀i,i<s.rows.length→i≠s.cols.length→oF v (bY (eR v s c) i c)≠0→xZ v ((eR v s c).getD i []) ((eR v s c).getD s.cols.length []) (bY (eR v s c) i c)
def bt(N:Nat)(a:br):Prop:= ∀j,j<a.length→(a.getD j []).length=N
def kn(l:Nat)(a:br):Prop:= ∀j k,ak l (bY a j k)
theorem gB(a:br)(i j:Nat)(r:List NQ):(a.set i r).getD j []=if j=i∧i<a.length then r else a.getD j []:=by
 rw[List.getD_eq_getElem?_getD,List.getElem?_set,List.getD_eq_getElem?_getD];by_cases e:i=j
 · subst e;by_cases h:i<a.length
   · rw[if_pos rfl,if_pos h,if_pos ⟨rfl,h⟩];rfl
   · rw[if_pos rfl,if_neg h,if_neg (fun e=>h e.2),List.getElem?_eq_none (by omega)]
 · rw[if_neg e,if_neg (fun h=>e h.1.symm)]
theorem l0{a:br}{i:Nat}(h:a.length≤i):a.getD i []=[]:=by rw[List.getD_eq_getElem?_getD,List.getElem?_eq_none h];rfl
theorem lZ{r:List NQ}{i:Nat}(h:r.length≤i):r.getD i []=[]:=by rw[List.getD_eq_getElem?_getD,List.getElem?_eq_none h];rfl
theorem bt.set{N:Nat}{a:br}(h:bt N a){r:List NQ}(hr:r.length=N)(i:Nat):bt N (a.set i r):=fun j hj=>by
 rw[gB];split
 · exact hr
 · exact h j (by simpa using hj)
theorem kn.set{l:Nat}{a:br}(h:kn l a){r:List NQ}(hr: ∀k,ak l (r.getD k []))(i:Nat):kn l (a.set i r):=fun j k=>by
 unfold bY;rw[gB];split
 · exact hr k
 · exact h j k
theorem CK(b:br)(r t:Nat):(CL b r t).length=b.length:=by unfold CL;rw[List.length_set,List.length_set]
theorem AB{N:Nat}{b:br}(h:bt N b){r t:Nat}(hr:r<b.length)(ht:t<b.length):bt N (CL b r t):=(h.set (h r hr) t).set (h t ht) r
theorem Et{l:Nat}{b:br}(h:kn l b)(r t:Nat):kn l (CL b r t):=(h.set (h r) t).set (h t) r
theorem qo(v:List NQ)(r:List NQ)(p:NQ):(xo v r p).length=r.length:=List.length_map ..
theorem qp(v:List NQ)(r:List NQ)(p:NQ){k:Nat}(h:k<r.length):(xo v r p).getD k []=td v (r.getD k []) p:=by
 unfold xo;rw[List.getD_eq_getElem?_getD,List.getElem?_map,List.getD_eq_getElem?_getD,List.getElem?_eq_getElem h];rfl
theorem EJ{v:List NQ}(V:jH v){r:List NQ}{p:NQ}(hr: ∀k,ak v.length (r.getD k []))(hp:ak v.length p)(k:Nat):ak v.length ((xo v r p).getD k []):=by
 by_cases h:k<r.length
 · rw[qp v r p h];exact DE V (hr k) hp
 · rw[lZ (by rw[qo];omega)];exact bn _
theorem Ay{v:List NQ}(V:jH v){xs ys:List NQ}{c:NQ}(hx: ∀k,ak v.length (xs.getD k []))(hy: ∀k,ak v.length (ys.getD k []))(hc:ak v.length c)(k:Nat):ak v.length ((my v xs ys c).getD k []):=by
 by_cases h:k<xs.length
 · rw[lN v xs ys c h];exact CP (hx k) (jW V hc (hy k))
 · rw[lZ (by rw[lM];omega)];exact bn _
theorem jA(v:List NQ)(e:br)(r c:Nat): ∀i,(cW v e r c i).length=e.length
 | 0=>rfl
 | i+1=>by
   unfold cW;split
   · rw[List.length_set];exact jA v e r c i
   · exact jA v e r c i
theorem po{N:Nat}{v:List NQ}{e:br}{r c:Nat}(h:bt N e): ∀i,i≤e.length→bt N (cW v e r c i)
 | 0,_=>h
 | i+1,hi=>by
   have ih:=po (v:=v) (r:=r) (c:=c) h i (by omega);unfold cW;split
   · exact ih.set (by rw[lM];exact ih i (by rw[jA];omega)) i
   · exact ih
theorem vz{v:List NQ}(V:jH v){e:br}{r c:Nat}(h:kn v.length e): ∀i,kn v.length (cW v e r c i)
 | 0=>h
 | i+1=>by
   have ih:=vz V (r:=r) (c:=c) h i;unfold cW;split
   · exact ih.set (Ay V (ih i) (ih r) (ih i c)) i
   · exact ih
theorem fy(v:List NQ)(e:br)(r c:Nat): ∀i,(∀j,i≤j∨j=r→(cW v e r c i).getD j []=e.getD j [])
 | 0,j,_=>rfl
 | i+1,j,hj=>by
   have ih:=fy v e r c i j (by omega);unfold cW;split
   · rename_i h;rw[gB,if_neg (fun g=>by rcases hj with hj | hj<;>omega)];exact ih
   · exact ih
theorem vA(v:List NQ)(e:br)(r c:Nat)(i:Nat)(k:Nat):bY (cW v e r c i) i k=bY e i k:=by unfold bY;rw[fy v e r c i i (.inl (Nat.le_refl _))]
structure sJ (v:List NQ) (m N c:Nat) (s:j7):Prop where
 len:s.rows.length=m
 rect:bt N s.rows
 lt:kn v.length s.rows
 cl:s.cols.length≤c
 cm:s.cols.length≤m
 det:ak v.length s.det
 sg:s.sg=1∨s.sg= -1
theorem fA(v:List NQ)(s:j7)(c:Nat)(h:s.cols.length≤s.rows.length):s.cols.length≤atR v s c∧atR v s c≤s.rows.length∧(∀k,s.cols.length≤k→k<atR v s c→oF v (bY s.rows k c)=0)∧(atR v s c<s.rows.length→oF v (bY s.rows (atR v s c) c)≠0):=by
 obtain ⟨h1,h2,h3,h4⟩:=pa (g:=FM v s.rows c) (m:=s.rows.length-s.cols.length) (i:=s.cols.length);refine⟨h1,by unfold atR;omega,fun k k1 k2=>?_,fun h=>?_⟩
 · have:=h3 k k1 k2;unfold FM at this;exact Classical.byContradiction fun g=>by rw[decide_eq_true g] at this;cases this
 · exact of_decide_eq_true (h4 (by unfold atR at h;omega))
theorem sG{v:List NQ}{m N c k:Nat}{s:j7}(R:sJ v m N k s)(h:atR v s c<s.rows.length):(bR v s c).length=m∧bt N (bR v s c)∧kn v.length (bR v s c):=by
 have hl:=R.len;have:=(fA v s c (by have:=R.cm;omega)).1;unfold bR;split
 · exact⟨R.len,R.rect,R.lt⟩
 · exact⟨by rw[CK];exact R.len,AB R.rect (by omega) h,Et R.lt _ _⟩
theorem zn{v:List NQ}(V:jH v){m N c k:Nat}{s:j7}(R:sJ v m N k s)(h:atR v s c<s.rows.length):(eR v s c).length=m∧bt N (eR v s c)∧kn v.length (eR v s c):=by
 obtain ⟨h1,h2,h3⟩:=sG (c:=c) R h;have hl:=R.len;have:=(fA v s c (by have:=R.cm;omega)).1;unfold eR;exact⟨by rw[List.length_set];exact h1,h2.set (by rw[qo];exact h2 _ (by omega)) _,h3.set (EJ V (h3 _) (h3 _ _)) _⟩
theorem CT{v:List NQ}(V:jH v){m N c:Nat}{s:j7}(R:sJ v m N c s):sJ v m N (c+1) (df v s c):=by
 have hl:=R.len;have hc:=R.cl;unfold df;split
 · rename_i h;obtain ⟨e1,e2,e3⟩:=zn V (c:=c) R h;have ha:=(fA v s c (by have:=R.cm;omega)).1;refine⟨by rw[jA];exact e1,po e2 _ (Nat.le_refl _),vz V e3 _,?_,?_,jW V R.det ((sG R h).2.2 _ _),?_⟩
   · show (s.cols++[c]).length≤c+1;rw[List.length_append];show s.cols.length+1≤_;omega
   · show (s.cols++[c]).length≤m;rw[List.length_append];show s.cols.length+1≤_;omega
   · rcases R.sg with h1 | h1<;>(show (if _ then s.sg else -s.sg)=1∨_= -1;split<;>simp[h1])
 · exact⟨R.len,R.rect,R.lt,by omega,R.cm,R.det,R.sg⟩
theorem eQ{v:List NQ}(V:jH v){a:br}{N:Nat}(hr:bt N a)(hl:kn v.length a): ∀c,sJ v a.length N c (aH v a c)
 | 0=>⟨rfl,hr,hl,Nat.le_refl _,Nat.zero_le _,gR _ _,.inl rfl⟩
 | c+1=>CT V (eQ V hr hl c)
theorem uN(v:List NQ): ∀c,aH v [] c=⟨[],[],1,[1]⟩
 | 0=>rfl
 | c+1=>by
   show df v (aH v [] c) c=_;rw[uN v c];unfold df;exact if_neg (Nat.not_lt_zero _)
end Lift
namespace Lift
def vM{v:List NQ}(F:FV v)(a:br):Mk F.K:=fun i k=>F.val (bY a i k)
theorem um(v:List NQ)(e:br)(r c:Nat): ∀n i,i<n→n≤e.length→(cW v e r c n).getD i []=if i≠r∧oF v (bY e i c)≠0 then my v (e.getD i []) (e.getD r []) (bY e i c) else e.getD i []
 | 0,i,hi,_=>absurd hi (Nat.not_lt_zero i)
 | n+1,i,hi,hn=>by
   by_cases e1:i=n
   · subst e1;unfold cW;rw[vA];split
     · rw[gB,if_pos ⟨rfl,by rw[jA];omega⟩,fy v e r c i i (.inl (Nat.le_refl _)),fy v e r c i r (.inr rfl)]
     · exact fy v e r c i i (.inl (Nat.le_refl _))
   · have ih:=um v e r c n i (by omega) (by omega);rw[← ih]
     conv=>lhs;unfold cW
     split
     · rw[gB,if_neg (fun h=>e1 h.1)]
     · rfl
theorem sF{v:List NQ}{s:j7}{c i:Nat}(h1:s.cols.length≤atR v s c)(h:atR v s c<s.rows.length)(hi:i<s.rows.length):(bR v s c).getD i []=s.rows.getD (sw s.cols.length (atR v s c) i) []:=by
 unfold bR;split
 · rename_i e;rw[e];unfold sw;by_cases g:i=s.cols.length
   · rw[if_pos g,g]
   · rw[if_neg g,if_neg g]
 · unfold CL sw;rw[gB,gB];by_cases g:i=s.cols.length
   · rw[if_pos ⟨g,by rw[List.length_set];omega⟩,if_pos g]
   · rw[if_neg (fun h=>g h.1),if_neg g];by_cases g2:i=atR v s c
     · rw[if_pos ⟨g2,h⟩,if_pos g2]
     · rw[if_neg (fun h=>g2 h.1),if_neg g2]
theorem qY{v:List NQ}(V:jH v)(F:FV v){m N c:Nat}{s:j7}(R:sJ v m N c s)(hc:c<N)(h:atR v s c<s.rows.length):
  vM F s.rows (atR v s c) c≠0∧ ∀i k,i<m→k<N→vM F (cW v (eR v s c) s.cols.length c (eR v s c).length) i k=if i=s.cols.length then vM F s.rows (atR v s c) k*F.K.inv (vM F s.rows (atR v s c) c) else vM F s.rows (sw s.cols.length (atR v s c) i) k-vM F s.rows (sw s.cols.length (atR v s c) i) c*(vM F s.rows (atR v s c) k*F.K.inv (vM F s.rows (atR v s c) c)):=by
 have hl:=R.len;obtain ⟨a1,a2,a3,a4⟩:=fA v s c (by have:=R.cm;omega);have hz:=a4 h;obtain ⟨b1,b2,b3⟩:=sG (c:=c) R h;obtain ⟨e1,e2,e3⟩:=zn V (c:=c) R h;have hrm:s.cols.length<m:=by omega
 have eB: ∀i k,i<m→bY (bR v s c) i k=bY s.rows (sw s.cols.length (atR v s c) i) k:=fun i k hi=>by
  unfold bY;rw[sF a1 h (by omega)]
 have hp:pR v s c=bY s.rows (atR v s c) c:=by
  unfold pR;rw[eB _ _ hrm,zH]
 have hpz:oF v (pR v s c)≠0:=by rw[hp];exact hz
 have eE: ∀i k,i<m→k<N→bY (eR v s c) i k=if i=s.cols.length then td v (bY s.rows (atR v s c) k) (bY s.rows (atR v s c) c) else bY s.rows (sw s.cols.length (atR v s c) i) k:=fun i k hi hk=>by
  unfold bY eR;rw[gB];by_cases e:i=s.cols.length
  · rw[if_pos ⟨e,by omega⟩,if_pos e,qp _ _ _ (by rw[b2 _ (by omega)];exact hk),hp,sF a1 h (by omega),zH];rfl
  · rw[if_neg (fun h=>e h.1),if_neg e,sF a1 h (by omega)]
 have ltR:=R.lt
 have vE: ∀i k,i<m→k<N→F.val (bY (eR v s c) i k)=if i=s.cols.length then vM F s.rows (atR v s c) k*F.K.inv (vM F s.rows (atR v s c) c) else vM F s.rows (sw s.cols.length (atR v s c) i) k:=fun i k hi hk=>by
  rw[eE i k hi hk];by_cases e:i=s.cols.length
  · rw[if_pos e,if_pos e,F.div (ltR _ _) (ltR _ _) hz];rfl
  · rw[if_neg e,if_neg e];rfl
 refine⟨fun e=>hz ((F.sg (ltR _ _)).2 e),fun i k hi hk=>?_⟩;have hd:=um v (eR v s c) s.cols.length c (eR v s c).length i (by omega) (Nat.le_refl _);show F.val (((cW v (eR v s c) s.cols.length c (eR v s c).length).getD i []).getD k [])=_;rw[hd];by_cases e:i=s.cols.length
 · rw[if_neg (fun h=>h.1 e),if_pos e];have:=vE i k hi hk;rw[if_pos e] at this;exact this
 · rw[if_neg e];have v1:=vE i k hi hk;have v2:=vE i c hi hc;have v3:=vE s.cols.length k hrm hk;rw[if_neg e] at v1 v2;rw[if_pos rfl] at v3;by_cases g:oF v (bY (eR v s c) i c)=0
   · rw[if_neg (fun h=>h.2 g)];have z:=(F.sg (e3 i c)).1 g;rw[v2] at z;rw[z,Rg.zero_mul];show F.val (bY (eR v s c) i k)=_;rw[v1];exact(Rg.dG [vM F s.rows (sw s.cols.length (atR v s c) i) k] (X0-0) X0 rfl).symm
   · rw[if_pos ⟨e,g⟩,lN v _ _ _ (by rw[e2 i (by omega)];exact hk)];show F.val (pY (bY (eR v s c) i k) (fP v (bY (eR v s c) i c) (bY (eR v s c) s.cols.length k)))=_;rw[F.sub (e3 i k) (jW V (e3 i c) (e3 _ k)),F.mul (e3 i c) (e3 _ k)];show F.val (bY (eR v s c) i k) -F.val (bY (eR v s c) i c)*F.val (bY (eR v s c) s.cols.length k)=_;rw[v1,v2,v3]
theorem mK{v:List NQ}(V:jH v)(F:FV v){a:br}{N:Nat}(hr:bt N a)(hl:kn v.length a): ∀c,c≤N→RI a.length N c (vM F a) (vM F (aH v a c).rows) (aH v a c).cols
 | 0,_=>RI.start a.length N (vM F a)
 | c+1,hc=>by
   have I:=mK V F hr hl c (by omega);have R:=eQ V hr hl c;have hlen:=R.len;obtain ⟨a1,a2,a3,a4⟩:=fA v (aH v a c) c (by have:=R.cm;omega);show RI a.length N (c+1) (vM F a) (vM F (df v (aH v a c) c).rows) (df v (aH v a c) c).cols;unfold df;by_cases h:atR v (aH v a c) c<(aH v a c).rows.length
   · rw[if_pos h];obtain ⟨h3,h4⟩:=qY V F R (by omega) h;exact I.hit (by omega) a1 (by omega) h3 h4
   · rw[if_neg h];exact I.GO (by omega) fun q h1 h2=>(F.sg (R.lt q c)).1 (a3 q h1 (by omega))
theorem bt.take{N:Nat}{a:br}(h:bt N a)(n:Nat):bt N (a.take n):=fun j hj=>by
 rw[List.length_take] at hj;rw[List.getD_eq_getElem?_getD,List.getElem?_take,if_pos (by omega),← List.getD_eq_getElem?_getD];exact h j (by omega)
theorem Dw{a:br}{n j:Nat}(hj:j<n):(a.take n).getD j []=a.getD j []:=by
 rw[List.getD_eq_getElem?_getD,List.getElem?_take,if_pos hj,← List.getD_eq_getElem?_getD]
theorem r6{a:br}{n j:Nat}(hj:j<n)(k:Nat):bY (a.take n) j k=bY a j k:=by
 unfold bY;rw[Dw hj]
theorem kn.take{l:Nat}{a:br}(h:kn l a)(n:Nat):kn l (a.take n):=fun j k=>by
 by_cases hj:j<n
 · rw[r6 hj];exact h j k
 · unfold bY;rw[l0 (by rw[List.length_take];omega)];exact bn l
theorem zQ{m0:Nat}{v:List NQ}(V:l8 m0 v){a b:br}{N n:Nat}(ha:bt N a)(la:kn v.length a)(hb:bt a.length b)(lb:kn v.length b)(hbN:b.length=N)(hab: ∀i k,i<a.length→k<N→bY b k i=bY a i k)(hn:n≤a.length):
  (aH v b n).cols.length=(aH v (a.take n) N).cols.length:=by
 obtain ⟨F⟩:=D' V;have I1:=mK V.a F hb lb n hn;have I2:=mK V.a F (ha.take n) (la.take n) N (Nat.le_refl N);have hl:(a.take n).length=n:=by rw[List.length_take];omega
 rw[hl] at I2;rw[hbN] at I1
 have key: ∀s,pV N n s (vM F b)↔pV n N s (vM F (a.take n)):=fun s=>by
  constructor
  · intro h;refine h.CI.congr fun i k hi hk=>?_;show F.val (bY b k i)=F.val (bY (a.take n) i k);rw[hab i k (by omega) hk,r6 hi]
  · intro h;refine h.CI.congr fun k i hk hi=>?_;show F.val (bY (a.take n) i k)=F.val (bY b k i);rw[hab i k (by omega) hk,r6 hi]
 have h1:=fun s=>(I1.Fp (s:=s)).symm.trans ((key s).trans I2.Fp);exact Nat.le_antisymm ((h1 _).2 (Nat.le_refl _)) ((h1 _).1 (Nat.le_refl _))
end Lift
