/- Parts of the proof, one behind the other: the logic, the contracts of the functions that the statement reaches. -/
import Derived.Test.YtfakkdmfofiibaaGreatT1C
import Derived.Laws.StructEq
set_option linter.unusedVariables false
set_option linter.unusedSimpArgs false
namespace Lift
open Go Go.Proofs
section
variable {P:Program} {T:Ty} {B:Nat} {F0:Nat→Prop} {w0:bS} {n:Nat} {σ τ:St} {K:St→Prop} {all:Array Oper} {o:Oper} {d:Nat} {rest:List Oper}
theorem ab.C9(hT:bc P T)(z:Nat){e:Nat}{te:TI}{m:Int}(hd:o.dst=some d)(hdn:Nat.ble (d+1) n=true)(hg:au all σ o=true)(hx:Et T σ.get o.op=some (e,te,m))(hz:jj te=true)(hzd:p0 te= .ag [.v (.bool false),.sl 1 [],.sl 1 []])(hb:te.bytes=56)(hm:m=z)(h1:z≤1000000)
  (h:ab P B F0 w0 n all rest K ((d,.ow e (dt (List.replicate z 0)))::σ.kill d)):ab P B F0 w0 n all (o::rest) K σ:=by
 subst hm;refine ab.make hT hd hdn hg hx hz (by omega) (by rw[hb];omega) (by omega) ?_;have hq:(Qr 0).D= .ag [.v (.bool false),.sl 1 [],.sl 1 []]:=by rw[iD];rfl
 rw[hzd,← hq,show List.replicate ((z:Int)).toNat (Qr 0).D=dt (List.replicate z 0) by rw[dt,List.map_replicate];rfl];exact h
theorem zy(a:NQ)(m:Nat):(dt a).take (min (dt a).length (dt (List.replicate m 0)).length)++(dt (List.replicate m 0)).drop (min (dt a).length (dt (List.replicate m 0)).length)=dt (aW a m):=by
 rw[List.length_map,List.length_map,List.length_replicate,← List.map_take,← List.map_drop,← List.map_append];unfold aW;rw[List.drop_replicate]
 congr 2
 · by_cases h:a.length≤m
   · rw[Nat.min_eq_left h,List.take_of_length_le (Nat.le_refl _),List.take_of_length_le h]
   · rw[Nat.min_eq_right (by omega)]
 · congr 1;omega
theorem ab.E7(hT:bc P T){h e m:Nat}{a:NQ}(hd:o.dst=some d)(hdn:Nat.ble (d+1) n=true)(hg:au all σ o=true)(hx:Fq T σ o.op=some (h,e,dt (List.replicate m 0),dt a))
  (hk: ∀z,ab P B F0 w0 n all rest K ((d,.d (.v (.int .i64 z)))::(h,.ow e (dt (aW a m)))::σ)):ab P B F0 w0 n all (o::rest) K σ:=by
 refine ab.Bf hT hd hdn hg hx ?_;rw[zy];exact hk _
end
theorem xi{a b:NQ}(h:a.length=b.length)(h2: ∀i,i<a.length→a.getD i 0=b.getD i 0):a=b:=by
 refine List.ext_getElem h (fun i h3 h4=>?_);have:=h2 i h3;rw[List.getD_eq_getElem?_getD,List.getD_eq_getElem?_getD,List.getElem?_eq_getElem h3,List.getElem?_eq_getElem h4] at this;exact this
theorem xy(r:NQ)(i j:Nat)(q:Rat):(r.set i q).getD j 0=if j=i∧i<r.length then q else r.getD j 0:=by
 rw[List.getD_eq_getElem?_getD,List.getElem?_set,List.getD_eq_getElem?_getD];by_cases e:i=j
 · subst e;by_cases h:i<r.length
   · rw[if_pos rfl,if_pos h,if_pos ⟨rfl,h⟩];rfl
   · rw[if_pos rfl,if_neg h,if_neg (fun e=>h e.2),List.getElem?_eq_none (by omega)]
 · rw[if_neg e,if_neg (fun h=>e h.1.symm)]
def An(r:NQ)(res:D)(R':List LR):Prop:= ∃V,res= .v V∧R'=[(V,AV.ow 111 (dt r))]
theorem fJ(a:NQ)(n:Nat)(hn:n≤1000000):kK Tryz.prog 125 [af a,dI n] [] (An (aW a n)):=by
 refine kK.intro (n:=12) tok Tryz.func125 rfl rfl rfl (Nat.le_of_ble_eq_true rfl) (by kernel_rfl) (fun B F0 w0=>?_);refine AZ.seq ?_;refine AZ.gp (fun B1 F1 w1=>?_);refine qU 1 rfl ?_;refine ab.nil ⟨rfl,?_⟩;refine AZ.seq ?_;refine AZ.gp (fun B1 F1 w1=>?_);refine qU 1 rfl ?_;refine ab.C9 tok n rfl rfl rfl rfl rfl rfl rfl rfl hn ?_;refine qU 1 rfl ?_;refine ab.nil ⟨rfl,?_⟩;refine AZ.seq ?_;refine AZ.gp (fun B1 F1 w1=>?_);refine qU 2 rfl ?_;refine ab.E7 tok (a:=a) (m:=n) rfl rfl rfl rfl (fun z=>?_);refine ab.nil ⟨rfl,?_⟩;refine AZ.seq ?_;refine AZ.gp (fun B1 F1 w1=>?_);refine qU 2 rfl ?_;refine ab.nil ⟨rfl,?_⟩;refine AZ.iG 4 rfl rfl rfl (fun V=>AZ.ret ⟨.v V,rfl,V,rfl,rfl⟩)
theorem dC(a:NQ){k:Nat}(hs:ar k a)(hk:k≤17300000000000)(hl:a.length≤1000000):Pure Tryz.prog 86 [af a] (af (aM a)):=by
 refine qJ 23 Tryz.func86 rfl rfl rfl rfl (by kernel_rfl) (fun B F0 w0=>?_);refine qX 1 rfl ?_;refine qK 2 rfl ?_;rw[List.length_map];refine ab.C9 tok a.length rfl rfl rfl rfl rfl rfl rfl rfl hl ?_;refine qU 1 rfl ?_;refine qI ?_;refine qX 2 rfl ?_;rw[List.length_map];refine qU 1 rfl ?_;refine ab.nil ?_;refine AW.block ?_;refine AW.aE [0,3,9,10] (fun s:Nat×NQ=>[(0,.d (af a)),(3,.ow 111 (dt s.2)),(9,.d (dI a.length)),(10,.d (dI s.1))]) (fun s=>s.2.length=a.length∧ ∀j,j<s.1→j<a.length→s.2.getD j 0= -a.getD j 0) (fun s=>a.length-s.1) (0,List.replicate a.length 0) rfl ⟨List.length_replicate,fun j h=>by omega⟩ (fun s hi=>?_)
 · obtain ⟨i,r⟩:=s;obtain ⟨hrl,hi⟩:=hi;simp only[] at hrl hi;show AW _ _ _ _ _ _ _ [(0,.d (af a)),(3,.ow 111 (dt r)),(9,.d (dI a.length)),(10,.d (dI i))];refine qX 1 rfl ?_;refine qI ?_;refine AW.cond rfl (fun h=>?_) (fun h=>?_)
   · have hii:i<a.length:=by have:=of_decide_eq_true h;omega
     have g:=jR hii;have cn:=pq (Qr (a.getD i 0)) (iK _ (hs i)) hk;rw[cy] at cn;refine AW.skip (AW.seq (AW.block ?_));refine qX 2 rfl ?_;refine ab.nil ?_;refine qT 4 rfl ?_;refine ab.idx tok (Qr (a.getD i 0)).D rfl rfl rfl rfl (Int.natCast_nonneg i) g ?_;refine qU 1 rfl ?_;refine ab.call tok rfl rfl rfl rfl cn ?_;refine ab.eg tok rfl rfl rfl rfl (Int.natCast_nonneg i) (by rw[List.length_map];show i<_;omega) ?_;refine ab.wO tok (-a.getD i 0) rfl rfl rfl (by show i<_;omega) ?_;refine ab.nil ?_;refine qT 1 rfl ?_;rw[aC (x:=(i:Int)+1) (by omega) (by omega)];refine qU 1 rfl ?_;refine ab.nil ?_;refine⟨(i+1,r.set i (-a.getD i 0)),rfl,⟨by rw[List.length_set];exact hrl,fun j h1 h2=>?_⟩,by show a.length-(i+1)<a.length-i;omega⟩;show (r.set i (-a.getD i 0)).getD j 0=_;rw[xy];by_cases e:j=i
     · rw[if_pos ⟨e,by omega⟩,e]
     · rw[if_neg (fun h=>e h.1)];exact hi j (by omega) h2
   have hii: ¬i<a.length:=by have:=of_decide_eq_false h;omega
   obtain rfl:r=aM a:=xi (by rw[hrl,fB]) (fun j hj=>by rw[l0];exact hi j (by omega) (by omega));refine AW.exit ?_;refine qX 2 rfl ?_;exact qN rfl
theorem DQ(a b:Nat):(if (b:Int)>(a:Int) then (b:Int) else (a:Int))=((max a b:Nat):Int):=by
 split<;>omega
theorem dn(a b:NQ){k:Nat}(ha:ar k a)(hb:ar k b)(hk:k≤17300000000000)(hl:a.length≤1000000)(hl2:b.length≤1000000):Pure Tryz.prog 85 [af a,af b] (af (aK a b)):=by
 refine qJ 37 Tryz.func85 rfl rfl rfl rfl (by kernel_rfl) (fun B F0 w0=>?_);obtain ⟨n,hn⟩: ∃n,n=max a.length b.length:=⟨_,rfl⟩;have cw1:=fJ a n (by omega);have cw2:=fJ b n (by omega);have l1:=bb a n;have l2:=bb b n;have g1: ∀i,i<n→(aW a n).getD i 0=a.getD i 0:=fun i hi=>by rw[eF,if_pos hi]
 have g2: ∀i,i<n→(aW b n).getD i 0=b.getD i 0:=fun i hi=>by rw[eF,if_pos hi]
 have hpl:(aK a b).length=n:=by rw[gF,hn]
 generalize aW a n=wa at cw1 l1 g1;generalize aW b n=wb at cw2 l2 g2;refine qX 1 rfl ?_;refine qK 4 rfl ?_;rw[List.length_map,List.length_map];refine qU 2 rfl ?_;rw[DQ,← hn];refine qI ?_;refine AZ.aw ?_;refine AZ.region ?_;refine ai.cut 2 rfl (fun B1 F1 w1=>?_);refine qU 2 rfl ?_;refine ab.nil ⟨rfl,?_⟩;refine ai.kD tok [] rfl rfl rfl rfl rfl List.nodup_nil rfl cw1 (fun _ _ _=>Nat.zero_le _) (fun res R1 hP=>?_);obtain ⟨V1,rfl,rfl⟩:=hP;refine ai.cut 2 rfl (fun B1 F1 w1=>?_);refine qU 2 rfl ?_;refine ab.nil ⟨rfl,?_⟩;refine ai.kD tok [] rfl rfl rfl rfl rfl List.nodup_nil rfl cw2 (fun _ _ _=>Nat.zero_le _) (fun res R1 hP=>?_);obtain ⟨V2,rfl,rfl⟩:=hP;refine ai.cut 2 rfl (fun B1 F1 w1=>?_);refine qU 2 rfl ?_;refine ab.nil ⟨rfl,?_⟩;refine ai.to [0,1] [(0,.d (.v V1)),(1,.d (.v V2))] rfl ?_;refine ai.fh 0 0 (V:=V1) (av:= .ow 111 (dt wa)) rfl rfl rfl ?_;refine ai.to [0,1] [(0,.ow 111 (dt wa)),(1,.d (.v V2))] rfl ?_;refine ai.fh 1 1 (V:=V2) (av:= .ow 111 (dt wb)) rfl rfl rfl ?_;refine ai.to [0,1] [(0,.ow 111 (dt wa)),(1,.ow 111 (dt wb))] rfl ?_;refine ai.nil ?_;refine AW.fQ tok 1 rfl rfl ?_;refine AW.seq ?_;refine qX 2 rfl ?_;rw[List.length_map,l1];refine qU 1 rfl ?_;refine ab.nil ?_;refine AW.block ?_;refine AW.aE [0,1,19,20] (fun s:Nat×NQ=>[(0,.ow 111 (dt s.2)),(1,.d (af wb)),(19,.d (dI n)),(20,.d (dI s.1))]) (fun s=>s.2.length=n∧ ∀j,j<n→s.2.getD j 0=if j<s.1 then a.getD j 0+b.getD j 0 else a.getD j 0) (fun s=>n-s.1) (0,wa) rfl ⟨l1,fun j h=>by rw[if_neg (Nat.not_lt_zero _)];exact g1 j h⟩ (fun s hi=>?_)
 · obtain ⟨i,r⟩:=s;obtain ⟨hrl,hi⟩:=hi;simp only[] at hrl hi;show AW _ _ _ _ _ _ _ [(0,.ow 111 (dt r)),(1,.d (af wb)),(19,.d (dI n)),(20,.d (dI i))];refine qX 1 rfl ?_;refine qI ?_;refine AW.cond rfl (fun h=>?_) (fun h=>?_)
   · have hii:i<n:=by have:=of_decide_eq_true h;omega
     have e1:=jR (r:=r) (i:=i) (by omega);have e2:=jR (r:=wb) (i:=i) (by omega);rw[hi i hii,if_neg (Nat.lt_irrefl _)] at e1;rw[g2 i hii] at e2;have ca:=jN (Qr (a.getD i 0)) (Qr (b.getD i 0)) (iK _ (ha i)) (iK _ (hb i)) hk;rw[cy,cy] at ca;refine AW.skip (AW.seq (AW.block ?_));refine qX 2 rfl ?_;refine ab.nil ?_;refine AW.draw aN 12 (by kernel_rfl) ?_;refine qP 4 rfl ?_;refine ae.eg tok rfl rfl rfl rfl rfl rfl (Int.natCast_nonneg i) (by rw[List.length_map];show i<_;omega) ?_;refine ae.bZ tok (Qr (a.getD i 0)).D rfl rfl rfl rfl rfl e1 rfl ?_;refine qP 2 rfl ?_;refine ae.idx tok (Qr (b.getD i 0)).D rfl rfl rfl rfl rfl (Int.natCast_nonneg i) e2 ?_;refine qP 1 rfl ?_;refine ae.call tok rfl rfl rfl rfl rfl ca ?_;refine ae.eg tok rfl rfl rfl rfl rfl rfl (Int.natCast_nonneg i) (by rw[List.length_map];show i<_;omega) ?_;refine ae.nil ?_;refine ab.wO tok (a.getD i 0+b.getD i 0) rfl rfl rfl (by show i<_;omega) ?_;refine ab.nil ?_;refine qT 1 rfl ?_;rw[aC (x:=(i:Int)+1) (by omega) (by omega)];refine qU 1 rfl ?_;refine ab.nil ?_;refine⟨(i+1,r.set i (a.getD i 0+b.getD i 0)),rfl,⟨by rw[List.length_set];exact hrl,fun j h1=>?_⟩,by show n-(i+1)<n-i;omega⟩;show (r.set i (a.getD i 0+b.getD i 0)).getD j 0=if j<i+1 then _ else _
     rw[xy];by_cases e:j=i
     · rw[if_pos ⟨e,by omega⟩,e,if_pos (by omega)]
     · rw[if_neg (fun h=>e h.1),hi j h1];by_cases h2:j<i
       · rw[if_pos h2,if_pos (by omega)]
       · rw[if_neg h2,if_neg (by omega)]
   have hii: ¬i<n:=by have:=of_decide_eq_false h;omega
   obtain rfl:r=aK a b:=xi (by rw[hrl,hpl]) (fun j hj=>by rw[kT,hi j (by omega),if_pos (by omega)]);refine AW.exit ?_;refine qX 2 rfl ?_;exact qN rfl
theorem iE(a b:NQ)(n:Nat)(hn:n≤100000):Pure Tryz.prog 107 [af a,af b,dI n] (af (cW a b n)):=by
 refine qJ 14 Tryz.func107 rfl rfl rfl rfl (by kernel_rfl) (fun B F0 w0=>?_);have cw1:=fJ a n (by omega);have cw2:=fJ b n (by omega);have l1:=bb a n;have l2:=bb b n;unfold cW;generalize aW a n=wa at cw1 l1 ⊢;generalize aW b n=wb at cw2 l2 ⊢;refine qX 1 rfl ?_;refine qI ?_;refine AZ.aw ?_;refine AZ.region ?_;refine ai.cut 2 rfl (fun B1 F1 w1=>?_);refine qU 2 rfl ?_;refine ab.nil ⟨rfl,?_⟩;refine ai.kD tok [] rfl rfl rfl rfl rfl List.nodup_nil rfl cw1 (fun _ _ _=>Nat.zero_le _) (fun res R1 hP=>?_);obtain ⟨V1,rfl,rfl⟩:=hP;refine ai.cut 2 rfl (fun B1 F1 w1=>?_);refine qU 2 rfl ?_;refine ab.nil ⟨rfl,?_⟩;refine ai.kD tok [] rfl rfl rfl rfl rfl List.nodup_nil rfl cw2 (fun _ _ _=>Nat.zero_le _) (fun res R1 hP=>?_);obtain ⟨V2,rfl,rfl⟩:=hP;refine ai.to [9,12] [(9,.d (.v V1)),(12,.d (.v V2))] rfl ?_;refine ai.fh 9 0 (V:=V1) (av:= .ow 111 (dt wa)) rfl rfl rfl ?_;refine ai.to [9,12] [(9,.ow 111 (dt wa)),(12,.d (.v V2))] rfl ?_;refine ai.fh 12 1 (V:=V2) (av:= .ow 111 (dt wb)) rfl rfl rfl ?_;refine ai.to [9,12] [(9,.ow 111 (dt wa)),(12,.ow 111 (dt wb))] rfl ?_;refine ai.cut 2 rfl (fun B1 F1 w1=>?_);refine ab.fQ tok 12 rfl rfl ?_;refine ab.jC tok rfl rfl rfl rfl rfl rfl (by rw[List.length_map,List.length_map,l1,l2];show (_+_)*56≤_;omega) (by rw[List.length_map,List.length_map,l1,l2];omega) ?_;refine qU 1 rfl ?_;refine ab.nil ⟨rfl,?_⟩;refine ai.nil ?_;rw[show dt wa++dt wb=dt (wa++wb) from List.map_append.symm];exact AW.ret rfl
theorem fV(a:NQ){k:Nat}(hs:ar k a)(hk:k≤17300000000000)(hl:a.length≤1000000):Pure Tryz.prog 103 [af a] (af a):=by
 refine qJ 28 Tryz.func103 rfl rfl rfl rfl (by kernel_rfl) (fun B F0 w0=>?_);refine qX 1 rfl ?_;refine qK 1 rfl ?_;refine qI ?_;refine qX 2 rfl ?_;rw[List.length_map];refine qU 1 rfl ?_;refine ab.nil ?_;refine AW.block ?_;refine AW.aE [3,6,7,8] (fun i:Nat=>[(3,.ow 111 (dt (a.take i))),(6,.d (af a)),(7,.d (dI a.length)),(8,.d (dI i))]) (fun i=>i≤a.length) (fun i=>a.length-i) 0 rfl (Nat.zero_le _) (fun i hi=>?_)
 · have hi:i≤a.length:=hi;show AW _ _ _ _ _ _ _ [(3,.ow 111 (dt (a.take i))),(6,.d (af a)),(7,.d (dI a.length)),(8,.d (dI i))];refine qX 1 rfl ?_;refine qI ?_;refine AW.cond rfl (fun h=>?_) (fun h=>?_)
   · have hii:i<a.length:=by have:=of_decide_eq_true h;omega
     have g:=jR hii;have hw:=iK _ (hs i);have htk:=qf a 0 hii;have hol:(a.take i).length=i:=by rw[List.length_take];omega
     generalize a.getD i 0=q at g hw htk;have hw1:=hw.2.2.1;have hw2:=hw.2.2.2;refine AW.skip (AW.seq (AW.block (AW.seq (AW.region ?_))));refine ab.idx tok (Qr q).D rfl rfl rfl rfl (Int.natCast_nonneg i) g ?_;refine qU 3 rfl ?_;refine ab.nil ?_;refine AW.draw aN 13 (by kernel_rfl) ?_;refine qP 6 rfl ?_;refine ae.kF tok rfl rfl rfl rfl rfl (by show (((Qr q).n.map wd).length)*4≤_;rw[aS];omega) ?_;refine qP 3 rfl ?_;refine ae.kF tok rfl rfl rfl rfl rfl (by show (((Qr q).d.map wd).length)*4≤_;rw[aS];omega) ?_;refine qP 1 rfl ?_;refine ae.fU tok rfl rfl rfl rfl rfl rfl ?_;refine ae.nil ?_;refine ab.jC tok rfl rfl rfl rfl rfl rfl (by rw[List.length_map,hol];show (_+1)*56≤_;omega) (by rw[List.length_map,hol];show _+1≤_;omega) ?_;refine qU 1 rfl ?_;refine ab.nil ?_;refine qT 1 rfl ?_;rw[aC (x:=(i:Int)+1) (by omega) (by omega)];refine qU 1 rfl ?_;refine ab.nil ?_;exact⟨i+1,by rw[htk];show _=[(3,AV.ow _ (List.map _ _)),_,_,_];rw[List.map_append];rfl,hii,by omega⟩
   have hii:i=a.length:=by have:=of_decide_eq_false h;omega
   subst hii;rw[List.take_length];refine AW.exit ?_;refine qX 2 rfl ?_;exact qN rfl
end Lift
namespace Lift
open Go Go.Proofs
section
variable {P:Program} {T:Ty} {B:Nat} {F0:Nat→Prop} {w0:bS} {n:Nat} {σ σ0 τ:St} {K:St→Prop} {all ops:Array Oper} {o:Oper} {d:Nat} {ds:List Nat} {rest:List Oper}
theorem xZ(a:NQ)(lo hi:Option Int):((dt a).take (bL (dt a).length hi)).drop (dS lo)=dt ((a.take (bL a.length hi)).drop (dS lo)):=by
 show List.drop _ (List.take (bL (List.map _ a).length hi) (List.map _ a))=List.map _ _;rw[List.map_drop,List.map_take,List.length_map]
theorem ab.eS(hT:bc P T){a:NQ}{lo hi:Option Int}(x:NQ)(hd:o.dst=some d)(hdn:Nat.ble (d+1) n=true)(hg:au all σ o=true)(hx:yT T σ.get o.op=some (af a,lo,hi))(g1:okB lo)(g2:okB hi)(g3:dS lo≤bL a.length hi)(g4:bL a.length hi≤a.length)(hxx:(a.take (bL a.length hi)).drop (dS lo)=x)
  (h:ab P B F0 w0 n all rest K ((d,.d (af x))::σ)):ab P B F0 w0 n all (o::rest) K σ:=by
 refine ab.BG hT hd hdn hg hx g1 g2 (by rw[List.length_map];exact g3) (by rw[List.length_map];exact g4) ?_;rw[xZ,hxx];exact h
theorem ae.eS(hT:bc P T){a:NQ}{lo hi:Option Int}(x:NQ)(hd:o.dst=some d)(hdn:Nat.ble (d+1) n=true)(hg:au ops τ o=true)(hs:σ0.get d=none)(hx:yT T τ.get o.op=some (af a,lo,hi))(g1:okB lo)(g2:okB hi)(g3:dS lo≤bL a.length hi)(g4:bL a.length hi≤a.length)(hxx:(a.take (bL a.length hi)).drop (dS lo)=x)
  (h:ae P B F0 w0 n ops ds σ0 rest ((d,.d (af x))::τ) K):ae P B F0 w0 n ops ds σ0 (o::rest) τ K:=by
 refine ae.BG hT hd hdn hg hs hx g1 g2 (by rw[List.length_map];exact g3) (by rw[List.length_map];exact g4) ?_;rw[xZ,hxx];exact h
end
theorem fq(i:Nat)(h:i≤9223372036854775807):jS true .i64 (i:Int) 2= .int .i64 ((i / 2:Nat):Int):=by
 have e:((i:Int).tdiv ((2:Nat):Int))=((i / 2:Nat):Int):=rfl;show Value.int .i64 (IntKind.i64.wrap ((i:Int).tdiv ((2:Nat):Int)))=_;rw[e,aC (by omega) (by omega)]
theorem AT{rt:List NQ}{i:Nat}(h:i<rt.length):(rt.map af)[i]?=some (af (rt.getD i [])):=by simp[h]
theorem ao.len{l:Nat}{a:NQ}(h:ao l a)(hl:l≤10):a.length≤1024:=Nat.le_trans h.le (Nat.pow_le_pow_right (n:=2) (by decide) hl)
def fu:Nat→NQ→NQ
 | 0,a=>if a9 (a.take 1)=true then [] else a.take 1
 | i+1,a=>if a9 ((a.take (2^(i+1))).drop (2^i))=true then fu i a else a.take (2^(i+1))
def aq(a:NQ):NQ:=if a.length=0 then [] else fu a.length.log2 a
theorem x4: ∀{i:Nat} {a:NQ} {k:Nat},2^i≤a.length→ar k a→ao i (fu i a)∧ar k (fu i a)
 | 0,a,k,h,hs=>by
   unfold fu;split
   · exact⟨bz _,bA hs.pos⟩
   · exact⟨.inr ⟨0,Nat.le_refl _,by rw[List.length_take];have h:1≤a.length:=h;show min 1 _=1;omega⟩,hs.take _⟩
 | i+1,a,k,h,hs=>by
   unfold fu;have e:2^(i+1)=2^i*2:=Nat.pow_succ ..;split
   · have:=x4 (i:=i) (a:=a) (by omega) hs;exact⟨this.1.mono (by omega),this.2⟩
   · exact⟨.inr ⟨i+1,Nat.le_refl _,by rw[List.length_take];omega⟩,hs.take _⟩
theorem aU{l k:Nat}{a:NQ}(h:ao l a)(hs:ar k a):ao l (aq a)∧ar k (aq a):=by
 unfold aq;split
 · exact⟨bz _,bA hs.pos⟩
 rename_i h0;rcases h with e | ⟨i,hi,e⟩
 · exact absurd e h0
 rw[e,Nat.log2_two_pow];have:=x4 (i:=i) (a:=a) (by omega) hs;exact⟨this.1.mono hi,this.2⟩
theorem bV(a:NQ){l k:Nat}(ha:ao l a)(hl:l≤5)(hs:ar k a)(hk:k≤17300000000000):Pure Tryz.prog 62 [af a] (af (aq a)):=by
 refine qJ 45 Tryz.func62 rfl rfl rfl rfl (by kernel_rfl) (fun B F0 w0=>?_);have hl10:=ha.len (by omega);rcases ha with h0 | ⟨i,hi,hai⟩
 · obtain rfl:a=[]:=List.length_eq_zero_iff.1 h0;have cl:=jG (dt []) (fun i=>by have:=Nat.two_pow_pos i;show 0≠_;omega) (by decide);have cc:=fV [] hs hk (by decide);refine qX 1 rfl ?_;refine qI ?_;refine qX 1 rfl ?_;refine ab.call tok rfl rfl rfl rfl cl ?_;refine qU 1 rfl ?_;refine qK 11 rfl ?_;refine ab.nil ?_;refine AW.aB rfl ?_;refine AW.skip ?_;refine qX 3 rfl ?_;refine qI (AW.block ?_);refine AW.aE [0,4] (fun _:Unit=>[(0,.d (af [])),(4,.d (dI 0))]) (fun _=>True) (fun _=>0) () rfl trivial (fun _ _=>?_);refine AW.seq ?_;refine qX 10 rfl ?_;refine ab.nil ?_;refine AW.aB rfl ?_;refine AW.exit (AW.seq ?_);refine qX 7 rfl ?_;refine ab.nil ?_;refine AW.aB rfl ?_;refine AW.skip ?_;refine qX 2 rfl ?_;refine ab.eS tok (a:=[]) [] rfl rfl rfl rfl trivial (Int.le_refl _) (Nat.le_refl _) (Nat.le_refl _) rfl ?_;refine ab.call tok rfl rfl rfl rfl cc ?_;refine qU 1 rfl ?_;exact qN rfl
 have cl:=c' (dt a) (by rw[List.length_map];exact hai) (by omega);have hp:=Nat.two_pow_pos i;have hE:aq a=fu i a:=by unfold aq;rw[if_neg (by omega),hai,Nat.log2_two_pow]
 rw[hE];refine qX 1 rfl ?_;refine qI ?_;refine qX 1 rfl ?_;refine ab.call tok rfl rfl rfl rfl cl ?_;refine qU 1 rfl ?_;refine qK 2 rfl ?_;rw[List.length_map];refine qU 1 rfl ?_;rw[decide_eq_true (show (0:Int)<(a.length:Int) by omega)];refine qU 3 rfl ?_;rw[decide_eq_false (show ¬((i:Int)<0) by omega)];refine qU 3 rfl ?_;rw[decide_eq_false (show ¬((5:Int)<(i:Int)) by omega)];refine qU 2 rfl ?_;refine ab.nil ?_;refine AW.aB rfl ?_;refine AW.skip ?_;refine qX 2 rfl ?_;rw[List.length_map,hai];refine qU 1 rfl ?_;refine qI (AW.block ?_);refine AW.aE [0,4] (fun j:Nat=>[(0,.d (af a)),(4,.d (dI (2^j:Nat)))]) (fun j=>j≤i∧fu j a=fu i a) (fun j=>j) i rfl ⟨Nat.le_refl _,rfl⟩ (fun j hj=>?_);obtain ⟨hj,hjE⟩:=hj;show AW _ _ _ _ _ _ _ [(0,.d (af a)),(4,.d (dI (2^j:Nat)))];have hpj:2^j≤2^i:=Nat.pow_le_pow_right (by decide) hj;have hpp:=Nat.two_pow_pos j;refine AW.seq ?_;refine qX 2 rfl ?_;rcases j with _ | j
 · refine qU 8 rfl ?_;refine ab.nil ?_;refine AW.aB rfl ?_;refine AW.exit (AW.seq ?_);refine qX 4 rfl ?_;refine ab.eS tok (a:=a) (a.take 1) rfl rfl rfl rfl trivial (show (0:Int)≤1 by decide) (Nat.zero_le _) (show 1≤a.length by omega) rfl ?_;refine ab.call tok rfl rfl rfl rfl (jY (a.take 1) (by rw[List.length_take];omega)) ?_;refine qU 1 rfl ?_;refine ab.nil ?_;rw[← hjE];unfold fu;cases hz:a9 (a.take 1) with
   | true =>
     rw[if_pos rfl];refine AW.aH rfl ?_;refine qX 1 rfl ?_;exact qN rfl
   | false =>
     rw[if_neg (by simp)];refine AW.aB rfl ?_;refine AW.skip ?_;refine qX 2 rfl ?_;refine ab.eS tok (a:=a) (a.take 1) rfl rfl rfl rfl trivial (show (0:Int)≤1 by decide) (Nat.zero_le _) (show 1≤a.length by omega) rfl ?_;refine ab.call tok rfl rfl rfl rfl (fV (a.take 1) (hs.take 1) hk (by rw[List.length_take];omega)) ?_;refine qU 1 rfl ?_;exact qN rfl
 have e2:2^(j+1)=2^j*2:=Nat.pow_succ ..;have eh:=iT j;rw[decide_eq_true (show (1:Int)<((2^(j+1):Nat):Int) by have:=Nat.two_pow_pos j;omega)];refine qU 3 rfl ?_;refine ab.div tok rfl rfl rfl rfl (by decide) ?_;rw[fq _ (by omega),eh];refine qU 1 rfl ?_;refine ab.eS tok (a:=a) ((a.take (2^(j+1))).drop (2^j)) rfl rfl rfl rfl (Int.natCast_nonneg _) (Int.natCast_nonneg _) (show 2^j≤2^(j+1) by omega) (show 2^(j+1)≤a.length by omega) rfl ?_;refine ab.call tok rfl rfl rfl rfl (jY _ (by rw[List.length_drop,List.length_take];omega)) ?_;refine qU 1 rfl ?_;refine ab.nil ?_;cases hz:a9 ((a.take (2^(j+1))).drop (2^j)) with
 | true =>
   refine AW.aH rfl ?_;refine AW.skip (AW.block ?_);refine qT 1 rfl ?_;refine ab.div tok rfl rfl rfl rfl (by decide) ?_;rw[fq _ (by omega),eh];refine qU 1 rfl ?_;refine ab.nil ?_;exact⟨j,rfl,⟨by omega,by rw[← hjE];show _=if a9 ((a.take (2^(j+1))).drop (2^j))=true then _ else _;rw[if_pos hz]⟩,by omega⟩
 | false =>
 refine AW.aB rfl ?_;refine AW.exit (AW.seq ?_);refine qX 2 rfl ?_;rw[beq_eq_false_iff_ne.2 (show ((2^(j+1):Nat):Int)≠1 by have:=Nat.two_pow_pos j;omega)];refine qU 5 rfl ?_;refine ab.nil ?_;refine AW.aB rfl ?_;refine AW.skip ?_;refine qX 2 rfl ?_;refine ab.eS tok (a:=a) (a.take (2^(j+1))) rfl rfl rfl rfl trivial (Int.natCast_nonneg _) (Nat.zero_le _) (show 2^(j+1)≤a.length by omega) rfl ?_;refine ab.call tok rfl rfl rfl rfl (fV _ (hs.take _) hk (by rw[List.length_take];omega)) ?_;refine qU 1 rfl ?_;refine ab.nil ?_;rw[← hjE];unfold fu;rw[if_neg (by rw[hz];simp)];exact AW.ret rfl
end Lift
namespace Lift
open Go Go.Proofs
abbrev jI(a:NQ):Prop:=ar 17300000000000 a
def Fl(R:NQ→NQ→NQ)(O:NQ→NQ→Prop)(rt:List NQ)(a b:NQ):Prop :=
 jI a∧jI b∧(a.length≠1→a9 a=false→a9 b=false →
  (b.length≤a.length / 2→O (a.take (a.length / 2)) b∧O (a.drop (a.length / 2)) b) ∧
  (¬b.length≤a.length / 2→(O (a.take (a.length / 2)) (b.take (a.length / 2))∧O (a.drop (a.length / 2)) (b.drop (a.length / 2))∧O (R (a.drop (a.length / 2)) (b.drop (a.length / 2))) (rt.getD (a.length.log2-1) []) ∧
   O (a.take (a.length / 2)) (b.drop (a.length / 2))∧O (a.drop (a.length / 2)) (b.take (a.length / 2))) ∧
   jI (R (a.take (a.length / 2)) (b.take (a.length / 2)))∧jI (R (R (a.drop (a.length / 2)) (b.drop (a.length / 2))) (rt.getD (a.length.log2-1) []))∧jI (R (a.take (a.length / 2)) (b.drop (a.length / 2)))∧jI (R (a.drop (a.length / 2)) (b.take (a.length / 2)))))
def vy(R:NQ→NQ→NQ)(O:NQ→NQ→Prop)(rt:List NQ)(a b:NQ):Prop:=if a.length<b.length then Fl R O rt b a else Fl R O rt a b
def y0:Nat→List NQ→NQ→NQ→Prop
 | 0,rt,a,b=>vy (fun _ _=>[]) (fun _ _=>True) rt a b
 | l+1,rt,a,b=>vy (aR l rt) (y0 l rt) rt a b
set_option maxHeartbeats 1600000 in
theorem qe{l:Nat}{R:NQ→NQ→NQ}{O:NQ→NQ→Prop}{rt:List NQ}{a b:NQ}(ha:ao l a)(hb:ao l b)(hrt:b9 rt)(hl:l≤rt.length)(hl5:rt.length≤10)(hok:vy R O rt a b)
  (hR: ∀l',l=l'+1→ ∀a' b',ao l' a'→ao l' b'→O a' b'→Pure Tryz.prog 63 [bP rt,af a',af b'] (af (R a' b'))∧ao l' (R a' b')):
  Pure Tryz.prog 63 [bP rt,af a,af b] (af (hC (ga R rt) a b)):=by
 refine qJ 100 Tryz.func63 rfl rfl rfl rfl (by kernel_rfl) (fun B F0 w0=>?_);have hla:=ha.len (by omega);have hlb:=hb.len (by omega);unfold vy at hok;refine qX 2 rfl ?_;refine ab.nil ?_;refine AW.cut [1,2,3] (fun s:NQ×NQ=>[(1,.d (af s.1)),(2,.d (af s.2)),(3,.bx [.sl 1 (rt.map af)])]) (fun s=>ga R rt s.1 s.2=hC (ga R rt) a b∧s.2.length≤s.1.length∧ao l s.1∧ao l s.2∧Fl R O rt s.1 s.2) ?_ (fun s hs=>?_)
 · refine qX 4 rfl ?_;rw[List.length_map,List.length_map];refine qU 1 rfl ?_;refine ab.nil ?_;unfold hC;by_cases hab:a.length<b.length
   · rw[decide_eq_true (show (a.length:Int)<(b.length:Int) by omega),if_pos hab];refine AW.aH rfl ?_;refine qT 4 rfl ?_;refine ab.nil ?_;exact⟨(b,a),rfl,rfl,by show a.length≤b.length;omega,hb,ha,by rw[if_pos hab] at hok;exact hok⟩
   · rw[decide_eq_false (show ¬(a.length:Int)<(b.length:Int) by omega),if_neg hab];refine AW.aB rfl ?_;refine AW.skip ?_;exact⟨(a,b),rfl,rfl,by show b.length≤a.length;omega,ha,hb,by rw[if_neg hab] at hok;exact hok⟩
 · obtain ⟨x,y⟩:=s;obtain ⟨hE,hab,ha,hb,sa,sb,hm⟩:=hs;simp only[] at hE hab ha hb sa sb hm;show AW _ _ _ _ _ _ _ [(1,.d (af x)),(2,.d (af y)),(3,.bx [.sl 1 (rt.map af)])];rw[← hE];clear hE;clear hok;generalize x=a at *;generalize y=b at *;have hla:=ha.len (by omega);have hlb:=hb.len (by omega);have cz1:=lv a sa (by omega) (by omega);have cz2:=lv b sb (by omega) (by omega);unfold ga;refine AW.seq (AW.block ?_);refine qX 1 rfl ?_;refine ab.call tok rfl rfl rfl rfl cz1 ?_;cases hza:a9 a with
   | true =>
     rw[if_pos (by rfl)];refine qU 5 rfl ?_;refine ab.nil ?_;refine AW.aH rfl ?_;refine qX 1 rfl ?_;exact qN rfl
   | false =>
   refine qU 2 rfl ?_;refine ab.call tok rfl rfl rfl rfl cz2 ?_;refine qU 2 rfl ?_;refine ab.nil ?_;cases hzb:a9 b with
   | true =>
     rw[if_pos (by rfl)];refine AW.aH rfl ?_;refine qX 1 rfl ?_;exact qN rfl
   | false =>
   rw[if_neg (by decide)];refine AW.aB rfl ?_;refine qX 2 rfl ?_;rw[List.length_map];refine qU 2 rfl ?_;refine ab.nil ?_;have hb0:0<b.length:=List.length_pos_iff.2 (kL hzb);have ha0:0<a.length:=List.length_pos_iff.2 (kL hza);by_cases h1:a.length=1
   · rw[if_pos h1,beq_iff_eq.2 (show (a.length:Int)=1 by omega)];have g1:=jR (r:=a) (i:=0) ha0;have g2:=jR (r:=b) (i:=0) hb0;have cm:=pv (Qr (a.getD 0 0)) (Qr (b.getD 0 0)) (iK _ (sa 0)) (iK _ (sb 0)) (by omega);rw[cy,cy] at cm;refine AW.aH rfl ?_;refine AW.seq ?_;refine AW.draw aN 8 (by kernel_rfl) ?_;refine qP 1 rfl ?_;refine ae.idx tok (Qr (a.getD 0 0)).D rfl rfl rfl rfl rfl (Int.le_refl _) g1 ?_;refine qP 2 rfl ?_;refine ae.idx tok (Qr (b.getD 0 0)).D rfl rfl rfl rfl rfl (Int.le_refl _) g2 ?_;refine qP 1 rfl ?_;refine ae.call tok rfl rfl rfl rfl rfl cm ?_;refine ae.fU tok rfl rfl rfl rfl rfl rfl ?_;refine ae.nil ?_;refine qU 1 rfl ?_;exact qN rfl
   rw[if_neg h1,beq_eq_false_iff_ne.2 (show (a.length:Int)≠1 by omega)];refine AW.aB rfl ?_;refine AW.skip ?_
   obtain ⟨i,hi,hla2⟩: ∃i,i≤l∧a.length=2^i:=by
    rcases ha with e | e
    · omega
    · exact e
   have vU:i≠0:=fun e=>h1 (by rw[hla2,e]);obtain ⟨j,rfl⟩: ∃j,i=j+1:=⟨i-1,by omega⟩;obtain ⟨l',rfl⟩: ∃l',l=l'+1:=⟨l-1,by omega⟩;have hj:j≤l':=by omega
   have hR:=fun a' b' h1 h2 h3=>hR l' rfl a' b' h1 h2 h3;obtain ⟨hm1,hm2⟩:=hm h1 hza hzb;obtain ⟨e1,e2,e3⟩:=bf hla2;have hx:ao l' (a.take (a.length / 2)):= .inr ⟨j,hj,e1⟩;have hy:ao l' (a.drop (a.length / 2)):= .inr ⟨j,hj,e2⟩;have hlog:a.length.log2-1=j:=by rw[hla2,Nat.log2_two_pow];omega
   obtain ⟨n,hn⟩: ∃n,n=a.length / 2:=⟨_,rfl⟩
   have hn2:a.length=n+n:=by
    have:2^(j+1)=2^j*2:=Nat.pow_succ ..;omega
   rw[← hn] at e1 e2 e3 hx hy hm1 hm2 ⊢;refine qX 2 rfl ?_;rw[List.length_map];refine ab.div tok rfl rfl rfl rfl (by decide) ?_;rw[fq _ (by omega),← hn];refine qU 1 rfl ?_;refine qI ?_;refine AW.draw aN 7 (by kernel_rfl) ?_;refine qP 2 rfl ?_;refine ae.eS tok (a:=a) (a.take n) rfl rfl rfl rfl rfl trivial (Int.natCast_nonneg n) (Nat.zero_le _) (show n≤a.length by omega) rfl ?_;refine qP 2 rfl ?_;refine ae.eS tok (a:=a) (a.drop n) rfl rfl rfl rfl rfl (Int.natCast_nonneg n) trivial (show n≤a.length by omega) (Nat.le_refl _) (by show (a.take a.length).drop n=_;rw[List.take_length]) ?_;refine qP 1 rfl ?_;refine ae.nil ?_;refine qU 1 rfl ?_;refine qI ?_;refine qX 2 rfl ?_;rw[List.length_map];refine qU 2 rfl ?_;refine ab.nil ?_;by_cases h3:b.length≤n
   · rw[if_pos h3,decide_eq_true (show (b.length:Int)≤(n:Int) by omega)]
     have hb':ao l' b:=by
      rcases hb with e | ⟨i',_,e⟩
      · exact .inl e
      · refine .inr ⟨i',?_,e⟩;rw[e3,e] at h3;have:=gu h3;omega
     have r1:=hR _ _ hx hb' (hm1 h3).1;have r2:=hR _ _ hy hb' (hm1 h3).2;have cj:=iE (R (a.take n) b) (R (a.drop n) b) n (by omega);refine AW.aH rfl ?_;refine AW.seq ?_;refine AW.draw aN 10 (by kernel_rfl) ?_;refine qP 3 rfl ?_;refine ae.call tok rfl rfl rfl rfl rfl r1.1 ?_;refine qP 3 rfl ?_;refine ae.call tok rfl rfl rfl rfl rfl r2.1 ?_;refine qP 1 rfl ?_;refine ae.call tok rfl rfl rfl rfl rfl cj ?_;refine ae.nil ?_;refine qU 1 rfl ?_;exact qN rfl
   rw[if_neg h3,decide_eq_false (show ¬(b.length:Int)≤(n:Int) by omega)]
   have hlb2:b.length=2^(j+1):=by
    rcases hb with e | ⟨i',_,e⟩
    · omega
    · rw[e] at h3 hab ⊢;rw[hla2] at hab;rw[e3] at h3;have h4:=gu hab;have h5: ¬i'≤j:=fun h=>h3 (Nat.pow_le_pow_right (by decide) h);rw[show i'=j+1 by omega]
   obtain ⟨f1,f2,f3⟩:=bf hlb2;rw[show b.length / 2=n by omega] at f1 f2;have hu:ao l' (b.take n):= .inr ⟨j,hj,f1⟩;have hv:ao l' (b.drop n):= .inr ⟨j,hj,f2⟩;obtain ⟨⟨o1,o2,o5,o3,o4⟩,z1,z5,z3,z4⟩:=hm2 h3;rw[hlog] at o5 z5;have r1:=hR _ _ hx hu o1;have r2:=hR _ _ hy hv o2;have r3:=hR _ _ hx hv o3;have r4:=hR _ _ hy hu o4;rw[hlog];have hd:ao l' (rt.getD j []):= .inr ⟨j,hj,hrt j (by omega)⟩;have r5:=hR _ _ r2.2 hd o5;have n1:=r1.2.len (by omega);have n3:=r3.2.len (by omega);have n4:=r4.2.len (by omega);have n5:=r5.2.len (by omega);have p1:=dn (R (a.take n) (b.take n)) (R (R (a.drop n) (b.drop n)) (rt.getD j [])) z1 z5 (by omega) (by omega) (by omega);have p2:=dn (R (a.take n) (b.drop n)) (R (a.drop n) (b.take n)) z3 z4 (by omega) (by omega) (by omega);have cj:=iE (aK (R (a.take n) (b.take n)) (R (R (a.drop n) (b.drop n)) (rt.getD j []))) (aK (R (a.take n) (b.drop n)) (R (a.drop n) (b.take n))) n (by omega);have cl:=c' (dt a) (by rw[List.length_map];exact hla2) (by omega);refine AW.aB rfl ?_;refine AW.skip (AW.seq ?_);refine AW.draw aN 7 (by kernel_rfl) ?_;refine qP 2 rfl ?_;refine ae.eS tok (a:=b) (b.take n) rfl rfl rfl rfl rfl trivial (Int.natCast_nonneg n) (Nat.zero_le _) (show n≤b.length by omega) rfl ?_;refine qP 2 rfl ?_;refine ae.eS tok (a:=b) (b.drop n) rfl rfl rfl rfl rfl (Int.natCast_nonneg n) trivial (show n≤b.length by omega) (Nat.le_refl _) (by show (b.take b.length).drop n=_;rw[List.take_length]) ?_;refine qP 1 rfl ?_;refine ae.nil ?_;refine qU 1 rfl ?_;refine qI ?_;refine AW.draw aN 7 (by kernel_rfl) ?_;refine qP 3 rfl ?_;refine ae.call tok rfl rfl rfl rfl rfl cl ?_;refine qP 1 rfl ?_;rw[aC (x:=((j+1:Nat):Int) -1) (by omega) (by omega),show ((j+1:Nat):Int) -1=(j:Int) by omega];refine ae.idx tok (af (rt.getD j [])) rfl rfl rfl rfl rfl (Int.natCast_nonneg j) (AT (by omega)) ?_;refine qP 1 rfl ?_;refine ae.nil ?_;refine qU 1 rfl ?_;refine qI ?_;refine AW.draw aN 12 (by kernel_rfl) ?_;refine qP 3 rfl ?_;refine ae.call tok rfl rfl rfl rfl rfl r1.1 ?_;refine qP 4 rfl ?_;refine ae.call tok rfl rfl rfl rfl rfl r2.1 ?_;refine qP 1 rfl ?_;refine ae.call tok rfl rfl rfl rfl rfl r5.1 ?_;refine ae.call tok rfl rfl rfl rfl rfl p1 ?_;refine ae.nil ?_;refine qU 1 rfl ?_;refine qI ?_;refine AW.draw aN 12 (by kernel_rfl) ?_;refine qP 4 rfl ?_;refine ae.call tok rfl rfl rfl rfl rfl r3.1 ?_;refine qP 3 rfl ?_;refine ae.call tok rfl rfl rfl rfl rfl r4.1 ?_;refine ae.call tok rfl rfl rfl rfl rfl p2 ?_;refine qP 1 rfl ?_;refine ae.call tok rfl rfl rfl rfl rfl cj ?_;refine ae.nil ?_;refine qU 1 rfl ?_;exact qN rfl
theorem bM: ∀(l:Nat) {rt:List NQ} {a b:NQ},ao l a→ao l b→b9 rt→l≤rt.length→rt.length≤10→y0 l rt a b→Pure Tryz.prog 63 [bP rt,af a,af b] (af (aR l rt a b))
 | 0,rt,a,b,ha,hb,hrt,hl,hl5,hok=>qe (O:=fun _ _=>True) ha hb hrt hl hl5 hok (fun l' h=>by omega)
 | l+1,rt,a,b,ha,hb,hrt,hl,hl5,hok=>qe (O:=y0 l rt) ha hb hrt hl hl5 hok (fun l' e a' b' h1 h2 h3=>by
    obtain rfl:l=l':=by omega
    obtain ⟨K,k1,k2,k3⟩:=sF a' b' rt
    exact⟨bM l h1 h2 hrt (by omega) hl5 h3,(dD l h1 h2 hrt (by omega) k1 k2 k3).1⟩)
theorem tY{l k:Nat}{R:NQ→NQ→NQ}{O:NQ→NQ→Prop}{rt:List NQ}{a b:NQ}(ha:ao l a)(hb:ao l b)(hab:b.length≤a.length)(hrt:b9 rt)(hl:l≤rt.length)(sa:ar k a)(sb:ar k b)(sr:dN k rt)(hk:sT l k≤17300000000000)
  (hR: ∀l',l=l'+1→ ∀a' b' m,k≤m→ao l' a'→ao l' b'→ar m a'→ar m b'→sT l' m≤17300000000000→O a' b'∧ao l' (R a' b')∧ar (sT l' m) (R a' b')):Fl R O rt a b:=by
 have hk1:=sa.pos;have h2:=bt l k;refine⟨sa.mono (by omega),sb.mono (by omega),fun h1 hza hzb=>?_⟩;have hb0:0<b.length:=List.length_pos_iff.2 (kL hzb);have ha0:0<a.length:=List.length_pos_iff.2 (kL hza)
 obtain ⟨i,hi,hla⟩: ∃i,i≤l∧a.length=2^i:=by
  rcases ha with e | e
  · omega
  · exact e
 have vU:i≠0:=fun e=>h1 (by rw[hla,e]);obtain ⟨j,rfl⟩: ∃j,i=j+1:=⟨i-1,by omega⟩;obtain ⟨l',rfl⟩: ∃l',l=l'+1:=⟨l-1,by omega⟩;have hj:j≤l':=by omega
 have hR:=fun a' b' m h1 h2 h3 h4 h5=>hR l' rfl a' b' m h1 h2 h3 h4 h5;obtain ⟨e1,e2,e3⟩:=bf hla;have hx:ao l' (a.take (a.length / 2)):= .inr ⟨j,hj,e1⟩;have hy:ao l' (a.drop (a.length / 2)):= .inr ⟨j,hj,e2⟩;have hs0:=bt l' k;have hs1:=bt l' (sT l' k);have hk:sT l' (sT l' k)+sT l' k+1≤17300000000000:=hk;refine⟨fun h3=>?_,fun h3=>?_⟩
 · have hb':ao l' b:=by
    rcases hb with e | ⟨i',_,e⟩
    · exact .inl e
    · refine .inr ⟨i',?_,e⟩;rw[e3,e] at h3;have:=gu h3;omega
   exact⟨(hR _ _ k (Nat.le_refl _) hx hb' (sa.take _) sb (by omega)).1,(hR _ _ k (Nat.le_refl _) hy hb' (sa.drop _) sb (by omega)).1⟩
 have hlb:b.length=2^(j+1):=by
  rcases hb with e | ⟨i',_,e⟩
  · omega
  · rw[e] at h3 hab ⊢;rw[hla] at hab;rw[e3] at h3;have h4:=gu hab;have h5: ¬i'≤j:=fun h=>h3 (Nat.pow_le_pow_right (by decide) h);rw[show i'=j+1 by omega]
 obtain ⟨f1,f2,f3⟩:=bf hlb;rw[show b.length / 2=a.length / 2 by rw[f3,e3]] at f1 f2;have hu:ao l' (b.take (a.length / 2)):= .inr ⟨j,hj,f1⟩;have hv:ao l' (b.drop (a.length / 2)):= .inr ⟨j,hj,f2⟩;have r1:=hR _ _ k (Nat.le_refl _) hx hu (sa.take _) (sb.take _) (by omega);have r2:=hR _ _ k (Nat.le_refl _) hy hv (sa.drop _) (sb.drop _) (by omega);have r3:=hR _ _ k (Nat.le_refl _) hx hv (sa.take _) (sb.drop _) (by omega);have r4:=hR _ _ k (Nat.le_refl _) hy hu (sa.drop _) (sb.take _) (by omega);have hlog:a.length.log2-1=j:=by rw[hla,Nat.log2_two_pow];omega
 have hd:ao l' (rt.getD (a.length.log2-1) []):= .inr ⟨j,hj,by rw[hlog];exact hrt j (by omega)⟩;have r5:=hR _ _ (sT l' k) (by omega) r2.2.1 hd r2.2.2 ((sr _).mono (by omega)) (by omega);exact⟨⟨r1.1,r2.1,r5.1,r3.1,r4.1⟩,r1.2.2.mono (by omega),r5.2.2.mono (by omega),r3.2.2.mono (by omega),r4.2.2.mono (by omega)⟩
theorem nR: ∀(l:Nat) {k:Nat} {rt:List NQ} {a b:NQ},ao l a→ao l b→b9 rt→l≤rt.length→ar k a→ar k b→dN k rt→sT l k≤17300000000000→y0 l rt a b
 | 0,k,rt,a,b,ha,hb,hrt,hl,sa,sb,sr,hk=>by
   show vy _ _ rt a b;unfold vy;split
   · exact tY hb ha (by omega) hrt hl sb sa sr hk (fun l' h=>by omega)
   · exact tY ha hb (by omega) hrt hl sa sb sr hk (fun l' h=>by omega)
 | l+1,k,rt,a,b,ha,hb,hrt,hl,sa,sb,sr,hk=>by
   show vy (aR l rt) (y0 l rt) rt a b;unfold vy
   have ih: ∀l',l+1=l'+1→ ∀a' b' m,k≤m→ao l' a'→ao l' b'→ar m a'→ar m b'→sT l' m≤17300000000000→y0 l rt a' b'∧ao l' (aR l rt a' b')∧ar (sT l' m) (aR l rt a' b'):=fun l' e a' b' m hm h1 h2 h3 h4 h5=>by
    obtain rfl:l=l':=by omega
    exact⟨nR l h1 h2 hrt (by omega) h3 h4 (sr.mono hm) h5,dD l h1 h2 hrt (by omega) h3 h4 (sr.mono hm)⟩
   split
   · exact tY hb ha (by omega) hrt hl sb sa sr hk ih
   · exact tY ha hb (by omega) hrt hl sa sb sr hk ih
end Lift
namespace Lift
open Go Go.Proofs
def dY(l:Nat)(rt:List NQ)(a:NQ):NQ :=
 aK (aR l rt (a.take (a.length / 2)) (a.take (a.length / 2))) (aM (aR l rt (aR l rt (a.drop (a.length / 2)) (a.drop (a.length / 2))) (rt.getD (a.length.log2-1) [])))
def rP(R:NQ→Int)(N:NQ→NQ)(rt:List NQ)(a:NQ):Int :=
 if a.length=0 then 0 else if a.length=1 then iM (a.getD 0 0) else
 if R (rt.getD (a.length.log2-1) [])=0 then R (a.take (a.length / 2)) else
 if R (a.take (a.length / 2))=R (a.drop (a.length / 2))∨R (a.drop (a.length / 2))=0 then R (a.take (a.length / 2)) else
 if R (a.take (a.length / 2))=0 then R (a.drop (a.length / 2)) else R (a.take (a.length / 2))*R (N a)
def dc:Nat→List NQ→NQ→Int
 | 0,rt,a=>rP (fun _=>0) (fun a=>a) rt (aq a)
 | l+1,rt,a=>rP (dc l rt) (dY l rt) rt (aq a)
def ny:Nat→Nat→Prop
 | 0,k=>k≤17300000000000
 | l+1,k=>sT (l+1) k≤17300000000000∧ny l (sT (l+1) k)
theorem vA: ∀{l k m:Nat},ny l k→m≤k→ny l m
 | 0,k,m,h,hm=>Nat.le_trans hm h
 | l+1,k,m,h,hm=>⟨Nat.le_trans (pD hm) h.1,vA h.2 (pD hm)⟩
theorem tX: ∀{l k:Nat},ny l k→k≤17300000000000
 | 0,k,h=>h
 | l+1,k,h=>by have:=bt (l+1) k;have:=h.1;omega
theorem gR{l k:Nat}(h:ny (l+1) k):ny l k:=vA h.2 (by have:=bt (l+1) k;omega)
def sy(z:Int):Prop:=z=0∨z=1∨z= -1
theorem jm{x y:Int}(hx:sy x)(hy:sy y):sy (x*y):=by
 unfold sy at *;rcases hx with rfl | rfl | rfl<;>rcases hy with rfl | rfl | rfl<;>decide
theorem uZ{R:NQ→Int}{N:NQ→NQ}{rt:List NQ}{a:NQ}(hR: ∀b,sy (R b)):sy (rP R N rt a):=by
 unfold rP;split
 · exact .inl rfl
 split
 · exact eI _
 split
 · exact hR _
 split
 · exact hR _
 split
 · exact hR _
 · exact jm (hR _) (hR _)
theorem kR: ∀(l:Nat) (rt:List NQ) (a:NQ),sy (dc l rt a)
 | 0,rt,a=>uZ (fun _=> .inl rfl)
 | l+1,rt,a=>uZ (fun b=>kR l rt b)
theorem pJ{l k j:Nat}{rt:List NQ}{a:NQ}(hj:j≤l)(ha:a.length=2^(j+1))(hrt:b9 rt)(hl:l<rt.length)(sa:ar k a)(sr:dN k rt):ao l (dY l rt a)∧ar (sT (l+1) k) (dY l rt a):=by
 obtain ⟨e1,e2,e3⟩:=bf ha;have hx:ao l (a.take (a.length / 2)):= .inr ⟨j,hj,e1⟩;have hy:ao l (a.drop (a.length / 2)):= .inr ⟨j,hj,e2⟩;have hlog:a.length.log2-1=j:=by rw[ha,Nat.log2_two_pow];omega
 have hd:ao l (rt.getD j []):= .inr ⟨j,hj,hrt j (by omega)⟩;have h0:=bt l k;have h1:=bt l (sT l k);have r1:=dD l hx hx hrt (by omega) (sa.take _) (sa.take _) sr;have r2:=dD l hy hy hrt (by omega) (sa.drop _) (sa.drop _) sr;have r3:=dD l r2.1 hd hrt (by omega) r2.2 ((sr _).mono (by omega)) (sr.mono (by omega));unfold dY;rw[hlog];refine⟨r1.1.plus r3.1.minus,(r1.2.plus r3.2.minus).mono ?_⟩;show _≤sT l (sT l k)+sT l k+1;omega
def DJ(l:Nat)(rt:List NQ)(a:NQ):Prop :=
 y0 l rt (a.take (a.length / 2)) (a.take (a.length / 2))∧y0 l rt (a.drop (a.length / 2)) (a.drop (a.length / 2))∧y0 l rt (aR l rt (a.drop (a.length / 2)) (a.drop (a.length / 2))) (rt.getD (a.length.log2-1) []) ∧
 jI (aR l rt (a.take (a.length / 2)) (a.take (a.length / 2)))∧jI (aR l rt (aR l rt (a.drop (a.length / 2)) (a.drop (a.length / 2))) (rt.getD (a.length.log2-1) []))
theorem pK{l j:Nat}{rt:List NQ}{a:NQ}(hj:j≤l)(ha:a.length=2^(j+1))(hrt:b9 rt)(hl:l<rt.length):ao l (dY l rt a):=by
 obtain ⟨K,k1,_,k3⟩:=sF a a rt;exact(pJ hj ha hrt hl k1 k3).1
theorem dE(l:Nat){rt:List NQ}{a b:NQ}(ha:ao l a)(hb:ao l b)(hrt:b9 rt)(hl:l≤rt.length):ao l (aR l rt a b):=by
 obtain ⟨K,k1,k2,k3⟩:=sF a b rt;exact(dD l ha hb hrt hl k1 k2 k3).1
theorem jW{l j:Nat}{rt:List NQ}{a:NQ}(hj:j≤l)(ha:a.length=2^(j+1))(hrt:b9 rt)(hl:l<rt.length)(hl5:rt.length≤10)(hok:DJ l rt a):
  Pure Tryz.prog 109 [bP rt,af a] (af (dY l rt a)):=by
 refine qJ 36 Tryz.func109 rfl rfl rfl rfl (by kernel_rfl) (fun B F0 w0=>?_);obtain ⟨e1,e2,e3⟩:=bf ha;have hx:ao l (a.take (a.length / 2)):= .inr ⟨j,hj,e1⟩;have hy:ao l (a.drop (a.length / 2)):= .inr ⟨j,hj,e2⟩;have hlog:a.length.log2-1=j:=by rw[ha,Nat.log2_two_pow];omega
 have hd:ao l (rt.getD j []):= .inr ⟨j,hj,hrt j (by omega)⟩;obtain ⟨o1,o2,o3,z1,z3⟩:=hok;rw[hlog] at o3 z3;have r1:=dE l hx hx hrt (by omega);have r2:=dE l hy hy hrt (by omega);have r3:=dE l r2 hd hrt (by omega);have c1:=bM l hx hx hrt (by omega) hl5 o1;have c2:=bM l hy hy hrt (by omega) hl5 o2;have c3:=bM l r2 hd hrt (by omega) hl5 o3;have n1:=r1.len (by omega);have n3:=r3.len (by omega);have c4:=dC _ z3 (by omega) (by omega);have c5:=dn _ _ z1 z3.minus (by omega) (by omega) (by rw[fB];omega);have cl:=c' (dt a) (by rw[List.length_map];exact ha) (by omega);have hp:2^(j+1)≤2^10:=Nat.pow_le_pow_right (by decide) (by omega);unfold dY;rw[hlog];obtain ⟨n,hn⟩: ∃n,n=a.length / 2:=⟨_,rfl⟩;rw[← hn] at e1 e2 e3 hx hy c1 c2 c3 c4 c5 ⊢;refine qX 2 rfl ?_;refine qK 2 rfl ?_;rw[List.length_map];refine ab.div tok rfl rfl rfl rfl (by decide) ?_;rw[fq _ (by omega),← hn];refine qU 1 rfl ?_;refine qI ?_;refine AW.draw aN 7 (by kernel_rfl) ?_;refine qP 2 rfl ?_;refine ae.eS tok (a:=a) (a.take n) rfl rfl rfl rfl rfl trivial (Int.natCast_nonneg n) (Nat.zero_le _) (show n≤a.length by omega) rfl ?_;refine qP 2 rfl ?_;refine ae.eS tok (a:=a) (a.drop n) rfl rfl rfl rfl rfl (Int.natCast_nonneg n) trivial (show n≤a.length by omega) (Nat.le_refl _) (by show (a.take a.length).drop n=_;rw[List.take_length]) ?_;refine qP 1 rfl ?_;refine ae.nil ?_;refine qU 1 rfl ?_;refine qI ?_;refine AW.draw aN 19 (by kernel_rfl) ?_;refine qP 3 rfl ?_;refine ae.call tok rfl rfl rfl rfl rfl c1 ?_;refine qP 4 rfl ?_;refine ae.call tok rfl rfl rfl rfl rfl c2 ?_;refine qP 3 rfl ?_;refine ae.call tok rfl rfl rfl rfl rfl cl ?_;refine qP 1 rfl ?_;rw[aC (x:=((j+1:Nat):Int) -1) (by omega) (by omega),show ((j+1:Nat):Int) -1=(j:Int) by omega];refine ae.idx tok (af (rt.getD j [])) rfl rfl rfl rfl rfl (Int.natCast_nonneg j) (AT (by omega)) ?_;refine qP 1 rfl ?_;refine ae.call tok rfl rfl rfl rfl rfl c3 ?_;refine ae.call tok rfl rfl rfl rfl rfl c4 ?_;refine ae.call tok rfl rfl rfl rfl rfl c5 ?_;refine ae.nil ?_;refine qU 1 rfl ?_;exact qN rfl
theorem Aq{l k j:Nat}{rt:List NQ}{a:NQ}(hj:j≤l)(ha:a.length=2^(j+1))(hrt:b9 rt)(hl:l<rt.length)(sa:ar k a)(sr:dN k rt)(hk:sT (l+1) k≤17300000000000):DJ l rt a:=by
 obtain ⟨e1,e2,e3⟩:=bf ha;have hx:ao l (a.take (a.length / 2)):= .inr ⟨j,hj,e1⟩;have hy:ao l (a.drop (a.length / 2)):= .inr ⟨j,hj,e2⟩;have hlog:a.length.log2-1=j:=by rw[ha,Nat.log2_two_pow];omega
 have hd:ao l (rt.getD j []):= .inr ⟨j,hj,hrt j (by omega)⟩;have h0:=bt l k;have h1:=bt l (sT l k);have hk:sT l (sT l k)+sT l k+1≤17300000000000:=hk;have r1:=dD l hx hx hrt (by omega) (sa.take _) (sa.take _) sr;have r2:=dD l hy hy hrt (by omega) (sa.drop _) (sa.drop _) sr;have r3:=dD l r2.1 hd hrt (by omega) r2.2 ((sr _).mono (by omega)) (sr.mono (by omega));unfold DJ;rw[hlog];exact⟨nR l hx hx hrt (by omega) (sa.take _) (sa.take _) sr (by omega),nR l hy hy hrt (by omega) (sa.drop _) (sa.drop _) sr (by omega),nR l r2.1 hd hrt (by omega) r2.2 ((sr j).mono (by omega)) (sr.mono (by omega)) (by omega),r1.2.mono (by omega),r3.2.mono (by omega)⟩
def EN(O:NQ→Prop)(N:NQ→NQ)(Nk:NQ→Prop)(rt:List NQ)(s:NQ):Prop:=s.length≠0→s.length≠1 →
 O (s.take (s.length / 2))∧O (s.drop (s.length / 2))∧O (rt.getD (s.length.log2-1) [])∧Nk s∧O (N s)
def Ar:Nat→List NQ→NQ→Prop
 | 0,rt,a=>jI a
 | l+1,rt,a=>jI a∧EN (Ar l rt) (dY l rt) (DJ l rt) rt (aq a)
theorem lX: ∀(l:Nat) {k:Nat} {rt:List NQ} {a:NQ},ao l a→b9 rt→l≤rt.length→ar k a→dN k rt→ny l k→Ar l rt a
 | 0,k,rt,a,ha,hrt,hl,sa,sr,hok=>sa.mono (Nat.le_trans hok (by decide))
 | l+1,k,rt,a,ha,hrt,hl,sa,sr,hok=>by
   have hk:=tX hok;refine⟨sa.mono (by omega),fun h0 h1=>?_⟩;obtain ⟨ha,sa⟩:=aU ha sa;generalize aq a=b at ha sa h0 h1 ⊢
   obtain ⟨i,hi,hla⟩: ∃i,i≤l+1∧b.length=2^i:=by
    rcases ha with e | e
    · omega
    · exact e
   have vU:i≠0:=fun e=>h1 (by rw[hla,e]);obtain ⟨j,rfl⟩: ∃j,i=j+1:=⟨i-1,by omega⟩;have hj:j≤l:=by omega
   obtain ⟨e1,e2,e3⟩:=bf hla;have hx:ao l (b.take (b.length / 2)):= .inr ⟨j,hj,e1⟩;have hy:ao l (b.drop (b.length / 2)):= .inr ⟨j,hj,e2⟩;have hlog:b.length.log2-1=j:=by rw[hla,Nat.log2_two_pow];omega
   have hd:ao l (rt.getD (b.length.log2-1) []):= .inr ⟨j,hj,by rw[hlog];exact hrt j (by omega)⟩;have hn:=pJ hj hla hrt (by omega) sa sr;have h2:=bt (l+1) k;have h3:=hok.1;exact⟨lX l hx hrt (by omega) (sa.take _) sr (gR hok),lX l hy hrt (by omega) (sa.drop _) sr (gR hok),lX l hd hrt (by omega) (sr _) sr (gR hok),Aq hj hla hrt (by omega) sa sr (by omega),lX l hn.1 hrt (by omega) hn.2 (sr.mono (by omega)) hok.2⟩
theorem Ar.sz{l:Nat}{rt:List NQ}{a:NQ}(h:Ar l rt a):jI a:=by
 cases l with
 | zero=>exact h
 | succ l=>exact h.1
set_option maxHeartbeats 1600000 in
theorem sJ{l:Nat}{R:NQ→Int}{O:NQ→Prop}{N:NQ→NQ}{Nk:NQ→Prop}{rt:List NQ}{a:NQ}(ha:ao l a)(hl5:l≤5)(hrt:b9 rt)(hl:l≤rt.length)(hl10:rt.length≤10)(sa:jI a)(hok:l≠0→EN O N Nk rt (aq a))
  (hR: ∀l',l=l'+1→ ∀b,ao l' b→O b→Pure Tryz.prog 64 [bP rt,af b] (dI (R b))) (hT: ∀b,sy (R b))
  (hN: ∀l',l=l'+1→ ∀b j,j≤l'→b.length=2^(j+1)→Nk b→Pure Tryz.prog 109 [bP rt,af b] (af (N b))∧ao l' (N b)):
  Pure Tryz.prog 64 [bP rt,af a] (dI (rP R N rt (aq a))):=by
 refine qJ 64 Tryz.func64 rfl rfl rfl rfl (by kernel_rfl) (fun B F0 w0=>?_);have cs:=bV a ha hl5 sa (by omega);obtain ⟨ha,sa⟩:=aU ha sa;generalize aq a=b at cs ha sa hok ⊢;have hlb:=ha.len (by omega);unfold rP;refine qX 2 rfl ?_;refine qK 1 rfl ?_;refine ab.call tok rfl rfl rfl rfl cs ?_;refine qU 1 rfl ?_;refine qI ?_;refine qX 2 rfl ?_;rw[List.length_map];refine qU 1 rfl ?_;refine ab.nil ?_;by_cases h0:b.length=0
 · rw[if_pos h0,h0];refine AW.aH rfl ?_;refine qX 1 rfl ?_;exact qN rfl
 rw[if_neg h0,beq_eq_false_iff_ne.2 (show (b.length:Int)≠0 by omega)];refine AW.aB rfl ?_;refine AW.skip (AW.seq ?_);refine qX 2 rfl ?_;rw[List.length_map];refine qU 1 rfl ?_;refine ab.nil ?_;by_cases h1:b.length=1
 · have g:=jR (r:=b) (i:=0) (by omega);have cq:=iZ (Qr (b.getD 0 0)) (iK _ (sa 0)) (by omega);rw[cy,x6] at cq;rw[if_pos h1,h1];refine AW.aH rfl ?_;refine qX 1 rfl ?_;refine ab.idx tok (Qr (b.getD 0 0)).D rfl rfl rfl rfl (Int.le_refl _) g ?_;refine qU 1 rfl ?_;refine ab.call tok rfl rfl rfl rfl cq ?_;refine qU 1 rfl ?_;exact qN rfl
 rw[if_neg h1,beq_eq_false_iff_ne.2 (show (b.length:Int)≠1 by omega)];refine AW.aB rfl ?_;refine AW.skip ?_
 obtain ⟨i,hi,hla2⟩: ∃i,i≤l∧b.length=2^i:=by
  rcases ha with e | e
  · omega
  · exact e
 have vU:i≠0:=fun e=>h1 (by rw[hla2,e]);obtain ⟨j,rfl⟩: ∃j,i=j+1:=⟨i-1,by omega⟩;obtain ⟨l',rfl⟩: ∃l',l=l'+1:=⟨l-1,by omega⟩;have hj:j≤l':=by omega
 have hR:=hR l' rfl;obtain ⟨o1,o2,o3,o4,o5⟩:=hok (by omega) h0 h1;have hN:=hN l' rfl b j hj hla2 o4;obtain ⟨e1,e2,e3⟩:=bf hla2;have hx:ao l' (b.take (b.length / 2)):= .inr ⟨j,hj,e1⟩;have hy:ao l' (b.drop (b.length / 2)):= .inr ⟨j,hj,e2⟩;have hlog:b.length.log2-1=j:=by rw[hla2,Nat.log2_two_pow];omega
 have hd:ao l' (rt.getD j []):= .inr ⟨j,hj,hrt j (by omega)⟩;rw[hlog] at o3;have r1:=hR _ hx o1;have r2:=hR _ hy o2;have r3:=hR _ hd o3;have r4:=hR _ hN.2 o5;have t1:=hT (b.take (b.length / 2));have t2:=hT (b.drop (b.length / 2));have t4:=jm t1 (hT (N b));have cn:=hN.1;have cl:=c' (dt b) (by rw[List.length_map];exact hla2) (by omega);rw[hlog];obtain ⟨n,hn⟩: ∃n,n=b.length / 2:=⟨_,rfl⟩;rw[← hn] at e1 e2 e3 hx hy r1 r2 t1 t2 t4 ⊢;generalize R (b.take n)=x at r1 t1 t4 ⊢;generalize R (b.drop n)=y at r2 t2 ⊢;generalize R (rt.getD j [])=z at r3 ⊢;generalize R (N b)=u at r4 t4 ⊢;refine qX 2 rfl ?_;rw[List.length_map];refine ab.div tok rfl rfl rfl rfl (by decide) ?_;rw[fq _ (by omega),← hn];refine qU 1 rfl ?_;refine qI ?_;refine AW.draw aN 10 (by kernel_rfl) ?_;refine qP 3 rfl ?_;refine ae.eS tok (a:=b) (b.take n) rfl rfl rfl rfl rfl trivial (Int.natCast_nonneg n) (Nat.zero_le _) (show n≤b.length by omega) rfl ?_;refine ae.call tok rfl rfl rfl rfl rfl r1 ?_;refine qP 3 rfl ?_;refine ae.eS tok (a:=b) (b.drop n) rfl rfl rfl rfl rfl (Int.natCast_nonneg n) trivial (show n≤b.length by omega) (Nat.le_refl _) (by show (b.take b.length).drop n=_;rw[List.take_length]) ?_;refine ae.call tok rfl rfl rfl rfl rfl r2 ?_;refine ae.nil ?_;refine qU 2 rfl ?_;refine qI (AW.seq ?_);refine AW.draw aN 10 (by kernel_rfl) ?_;refine qP 4 rfl ?_;refine ae.call tok rfl rfl rfl rfl rfl cl ?_;refine qP 1 rfl ?_;rw[aC (x:=((j+1:Nat):Int) -1) (by omega) (by omega),show ((j+1:Nat):Int) -1=(j:Int) by omega];refine ae.idx tok (af (rt.getD j [])) rfl rfl rfl rfl rfl (Int.natCast_nonneg j) (AT (by omega)) ?_;refine qP 1 rfl ?_;refine ae.call tok rfl rfl rfl rfl rfl r3 ?_;refine qP 1 rfl ?_;refine ae.nil ?_;refine ab.nil ?_;by_cases hz:z=0
 · rw[if_pos hz,beq_iff_eq.2 hz];refine AW.aH rfl ?_;refine qX 2 rfl ?_;exact qN rfl
 rw[if_neg hz,beq_eq_false_iff_ne.2 hz];refine AW.aB rfl ?_;refine AW.skip (AW.seq (AW.block ?_));refine qX 3 rfl ?_;by_cases hxy:x=y
 · rw[if_pos (.inl hxy),beq_iff_eq.2 hxy];refine qU 5 rfl ?_;refine ab.nil ?_;refine AW.aH rfl ?_;refine qX 2 rfl ?_;exact qN rfl
 rw[beq_eq_false_iff_ne.2 hxy];refine qU 3 rfl ?_;by_cases hy0:y=0
 · rw[if_pos (.inr hy0),beq_iff_eq.2 hy0];refine qU 2 rfl ?_;refine ab.nil ?_;refine AW.aH rfl ?_;refine qX 2 rfl ?_;exact qN rfl
 rw[if_neg (fun h=>h.elim hxy hy0),beq_eq_false_iff_ne.2 hy0];refine qU 2 rfl ?_;refine ab.nil ?_;refine AW.aB rfl ?_;refine qX 3 rfl ?_;refine ab.nil ?_;by_cases hx0:x=0
 · rw[if_pos hx0,beq_iff_eq.2 hx0];refine AW.aH rfl ?_;refine qX 2 rfl ?_;exact qN rfl
 rw[if_neg hx0,beq_eq_false_iff_ne.2 hx0];refine AW.aB rfl ?_;refine AW.skip (AW.seq ?_);refine AW.draw aN 7 (by kernel_rfl) ?_;refine qP 4 rfl ?_;refine ae.call tok rfl rfl rfl rfl rfl cn ?_;refine ae.call tok rfl rfl rfl rfl rfl r4 ?_;refine qP 1 rfl ?_;rw[aC (x:=x*u) (by unfold sy at t4;omega) (by unfold sy at t4;omega)];refine ae.nil ?_;refine qU 1 rfl ?_;exact qN rfl
theorem cQ: ∀(l:Nat) {rt:List NQ} {a:NQ},ao l a→l≤5→b9 rt→l≤rt.length→rt.length≤10→Ar l rt a→Pure Tryz.prog 64 [bP rt,af a] (dI (dc l rt a))
 | 0,rt,a,ha,hl5,hrt,hl,hl10,hok=>sJ (O:=fun _=>True) (Nk:=fun _=>True) ha hl5 hrt hl hl10 hok (fun h=>absurd rfl h) (fun l' h=>by omega) (fun _=> .inl rfl) (fun l' h=>by omega)
 | l+1,rt,a,ha,hl5,hrt,hl,hl10,hok=>sJ (O:=Ar l rt) (Nk:=DJ l rt) ha hl5 hrt hl hl10 hok.1 (fun _=>hok.2) (fun l' e b h1 h2=>by
    obtain rfl:l=l':=by omega
    exact cQ l h1 (by omega) hrt (by omega) hl10 h2) (kR l rt) (fun l' e b j h1 h2 h3=>by
    obtain rfl:l=l':=by omega
    exact⟨jW h1 h2 hrt (by omega) hl10 h3,pK h1 h2 hrt (by omega)⟩)
theorem ly(l:Nat){k:Nat}{rt:List NQ}{a:NQ}(ha:ao l a)(hl5:l≤5)(hrt:b9 rt)(hl:l≤rt.length)(hl10:rt.length≤10)(sa:ar k a)(sr:dN k rt)(hok:ny l k):Pure Tryz.prog 64 [bP rt,af a] (dI (dc l rt a)) :=
 cQ l ha hl5 hrt hl hl10 (lX l ha hrt hl sa sr hok)
end Lift
namespace Lift
open Go Go.Proofs
abbrev dw(a:List RD):D:= .sl 3 (a.map RD.D)
abbrev TrD(rt:List (List RD)):D:= .ag [.sl 1 (rt.map dw)]
def iz(a:List RD):Bool:=a.all RD.okB
def xl(m n:Nat):Bool:=(List.range (m+1)).any fun i=>decide (n=2^i)
def bQ(m:Nat)(a:List RD):Nat:=if a.length≠0∧xl m a.length=false then 10 else if iz a=false then 2 else 0
def bh(a:List RD):NQ:=a.map RD.val
def wN(k:Nat)(a:List RD):Prop:= ∀i,i<a.length→(a.getD i default).w k
def rM(rt:List (List RD))(k:Nat):Nat:=if (rt.getD k []).length≠2^k then 10 else if bQ k (rt.getD k [])≠0 then bQ k (rt.getD k []) else if dc k ((rt.take k).map bh) (bh (rt.getD k []))<0 then 3 else 0
def cX(rt:List (List RD)):Nat:=if 5<rt.length then 4 else fE (rM rt) (rt.length-0) 0
def px(rt l:List (List RD)):Nat:=if cX rt≠0 then cX rt else fE (fun i=>bQ rt.length (l.getD i [])) (l.length-0) 0
theorem Au(a:List RD)(i:Nat):(bh a).getD i 0=if i<a.length then (a.getD i default).val else 0:=by
 unfold bh;rw[List.getD_eq_getElem?_getD,List.getElem?_map,List.getD_eq_getElem?_getD];by_cases h:i<a.length
 · rw[if_pos h,List.getElem?_eq_getElem h];rfl
 · rw[if_neg h,List.getElem?_eq_none (by omega)];rfl
theorem j5{a:List RD}{k:Nat}(h:wN k a)(h1:1≤k):ar k (bh a):=fun c=>by
 rw[Au];split
 · rename_i hc;exact ec (h c hc) h1
 · exact kJ h1
theorem iV{a:List RD}{k:Nat}(hw:wN k a)(h:iz a=true):dw a=af (bh a):=by
 show D.sl 3 (a.map RD.D)=D.sl 3 (List.map _ (List.map _ a));rw[List.map_map]
 congr 1
 refine List.map_congr_left fun x hx=>?_;obtain ⟨i,hi,rfl⟩:=List.mem_iff_getElem.1 hx;have hi2:=hw i hi;rw[List.getD_eq_getElem?_getD,List.getElem?_eq_getElem hi] at hi2;unfold iz at h;rw[List.all_eq_true] at h;have:=RD.canon hi2 (h _ (List.getElem_mem hi));simp only[Option.getD_some] at this;show (a[i]).D=(Qr (a[i]).val).D;rw[← this]
theorem vC{l:List RD}{i:Nat}(hi:i<l.length)(h:(l.getD i default).okB=false):iz l=false:=Eh hi h
theorem sQ{l:List RD}(h: ∀i,i<l.length→(l.getD i default).okB=true):iz l=true:=CU h
theorem ui(m i:Nat):xl m (2^i)=decide (i≤m):=by
 unfold xl;by_cases h:i≤m
 · rw[decide_eq_true h,List.any_eq_true];exact⟨i,List.mem_range.2 (by omega),decide_eq_true rfl⟩
 · rw[decide_eq_false h,List.any_eq_false];intro j hj;have hj:=List.mem_range.1 hj;rw[decide_eq_false]
   · simp
   · intro e;have h1:=gu (Nat.le_of_eq e);omega
theorem Cs{m n:Nat}(h: ∀i,n≠2^i):xl m n=false:=by
 unfold xl;rw[List.any_eq_false];intro j _;rw[decide_eq_false (h j)];simp
theorem AA{m n:Nat}(h:xl m n=true): ∃i,i≤m∧n=2^i:=by
 unfold xl at h;rw[List.any_eq_true] at h;obtain ⟨i,h1,h2⟩:=h;exact⟨i,by have:=List.mem_range.1 h1;omega,of_decide_eq_true h2⟩
theorem mT{m:Nat}{a:List RD}(h:bQ m a=0):ao m (bh a)∧iz a=true:=by
 unfold bQ at h;split at h
 · cases h
 rename_i h1;split at h
 · cases h
 rename_i h2;constructor
 · by_cases h0:a.length=0
   · exact .inl (by unfold bh;rw[List.length_map];exact h0)
   · have h3:xl m a.length=true:=by
      cases hv:xl m a.length
      · exact absurd ⟨h0,hv⟩ h1
      · rfl
     obtain ⟨i,h4,h5⟩:=AA h3;exact .inr ⟨i,h4,by unfold bh;rw[List.length_map];exact h5⟩
 · cases hv:iz a
   · exact absurd hv h2
   · rfl
def zt(m:Nat)(a:List RD):Prop:= ¬(a.length≠0∧xl m a.length=false)
theorem ub{m:Nat}{a:List RD}(h:bQ m a=0):zt m a:=by
 unfold bQ at h;split at h
 · cases h
 · assumption
theorem jF(xs:List D)(a:List RD){k:Nat}(hw:zt xs.length a→wN k a)(hk:k≤17300000000000)(hl:a.length≤4398046511104)(hx:xs.length≤1000000):Pure Tryz.prog 99 [.ag [.sl 1 xs],dw a] (CJ (bQ xs.length a)):=by
 refine qJ 34 Tryz.func99 rfl rfl rfl rfl (by kernel_rfl) (fun B F0 w0=>?_);have hno:=fun i hi=>vC (l:=a) (i:=i) hi;have hyes:=sQ (l:=a);unfold bQ;generalize iz a=E at hno hyes ⊢;refine qX 2 rfl ?_;refine ab.nil ?_;refine AW.cut [1] (fun _:Unit=>[(1,.d (dw a))]) (fun _=> ¬(a.length≠0∧xl xs.length a.length=false)) ?_ (fun _ hs=>?_)
 · refine qX 2 rfl ?_;rw[List.length_map];refine qU 1 rfl ?_;refine ab.nil ?_;by_cases h0:a.length=0
   · rw[h0];refine AW.aB rfl ?_;refine AW.skip ?_;exact⟨(),rfl,fun h=>h.1 rfl⟩
   rw[decide_eq_true (show (0:Int)<(a.length:Int) by omega)];refine AW.aH rfl ?_;by_cases hp: ∃i,a.length=2^i
   · obtain ⟨i,hp⟩:=hp
     have hi:i≤42:=by
      refine gu ?_;rw[← hp];omega
     have cl:=c' (a.map RD.D) (by rw[List.length_map];exact hp) (by omega);rw[hp,ui];refine qX 1 rfl ?_;refine ab.call tok rfl rfl rfl rfl cl ?_;refine qU 1 rfl ?_;refine qK 2 rfl ?_;rw[decide_eq_false (show ¬((i:Int)<0) by omega)];refine qU 6 rfl ?_;by_cases hm:i≤xs.length
     · rw[decide_eq_true hm,decide_eq_false (show ¬((xs.length:Int)<(i:Int)) by omega)];refine qU 1 rfl ?_;refine ab.nil ?_;refine AW.aB rfl ?_;refine AW.skip ?_;exact⟨(),rfl,fun h=>by cases h.2⟩
     · rw[decide_eq_false hm,decide_eq_true (show (xs.length:Int)<(i:Int) by omega),if_pos ⟨by have:=Nat.two_pow_pos i;omega,rfl⟩];refine qU 1 rfl ?_;refine ab.nil ?_;refine AW.aH rfl ?_;refine qX 2 rfl ?_;exact qN rfl
   · have hp: ∀i,a.length≠2^i:=fun i e=>hp ⟨i,e⟩;have cl:=jG (a.map RD.D) (by rw[List.length_map];exact hp) (by rw[List.length_map];omega);rw[if_pos ⟨h0,Cs hp⟩];refine qX 1 rfl ?_;refine ab.call tok rfl rfl rfl rfl cl ?_;refine qU 1 rfl ?_;refine qK 9 rfl ?_;refine ab.nil ?_;refine AW.aH rfl ?_;refine qX 2 rfl ?_;exact qN rfl
 · rw[if_neg hs];have hw:=hw hs;show AW _ _ _ _ _ _ _ [(1,.d (dw a))];refine AW.seq ?_;refine qX 2 rfl ?_;rw[List.length_map];refine qU 1 rfl ?_;refine ab.nil ?_;refine AW.block ?_;refine AW.aE [23,24,25] (fun i:Nat=>[(23,.d (dw a)),(24,.d (dI a.length)),(25,.d (dI i))]) (fun i=>i≤a.length∧ ∀j,j<i→(a.getD j default).okB=true) (fun i=>a.length-i) 0 rfl ⟨Nat.zero_le _,fun j hj=>by omega⟩ (fun i ⟨hi,hall⟩=>?_);refine qX 1 rfl ?_;refine qI ?_;refine AW.cond rfl (fun h=>?_) (fun h=>?_)
   · have hii:i<a.length:=by have:=of_decide_eq_true h;omega
     have hg:=getM RD.D (l:=a) (i:=i) hii;have hno:=hno i hii;have cv:=iC (a.getD i default) (hw i hii) (by omega);refine AW.skip (AW.seq (AW.block (AW.seq (AW.region ?_))));refine ab.idx tok (a.getD i default).D rfl rfl rfl rfl (Int.natCast_nonneg i) hg ?_;refine qU 3 rfl ?_;refine qK 1 rfl ?_;refine ab.call tok rfl rfl rfl rfl cv ?_;refine qU 1 rfl ?_;cases hv:(a.getD i default).okB with
     | false =>
       rw[hno hv,if_pos rfl];refine ab.nil ?_;refine AW.aH rfl ?_;refine qX 2 rfl ?_;exact qN rfl
     | true =>
       refine ab.nil ?_;refine AW.aB rfl ?_;refine AW.skip ?_;refine qT 1 rfl ?_;rw[aC (x:=(i:Int)+1) (by omega) (by omega)];refine qU 1 rfl ?_;refine ab.nil ?_
       exact⟨i+1,rfl,⟨hii,fun j hj=>by
        by_cases e:j=i
        · subst e;exact hv
        · exact hall j (by omega)⟩,by omega⟩
   have hii:i=a.length:=by have:=of_decide_eq_false h;omega
   subst hii;rw[hyes hall,if_neg (by simp)];refine AW.exit ?_;refine qX 1 rfl ?_;exact qN rfl
end Lift
namespace Lift
open Go Go.Proofs
theorem zV(rt:List (List RD))(k:Nat):((rt.map dw).take (bL (rt.map dw).length (some (k:Int)))).drop (dS none)=(rt.take k).map dw:=by
 show ((rt.map dw).take k).drop 0=_;rw[List.drop_zero,List.map_take]
theorem lQ{rt:List (List RD)}{k m:Nat}(hw: ∀i,i<k→wN m (rt.getD i []))(hk:k≤rt.length)(h: ∀j,j<k→iz (rt.getD j [])=true):(rt.take k).map dw=((rt.take k).map bh).map af:=by
 rw[List.map_map];refine List.map_congr_left fun x hx=>?_;obtain ⟨i,hi,rfl⟩:=List.mem_iff_getElem.1 hx;rw[List.length_take] at hi
 have e:(rt.take k)[i]'(by rw[List.length_take];exact hi)=rt.getD i []:=by
  rw[List.getElem_take,List.getD_eq_getElem?_getD,List.getElem?_eq_getElem (by omega)];rfl
 rw[e];exact iV (hw i (by omega)) (h i (by omega))
theorem mr{rt:List (List RD)}{k i:Nat}(hi:i<k):((rt.take k).map bh).getD i []=bh (rt.getD i []):=by
 rw[List.getD_eq_getElem?_getD,List.getElem?_map,List.getElem?_take_of_lt hi,List.getD_eq_getElem?_getD];cases rt[i]? with
 | none=>rfl
 | some x=>rfl
theorem yO{rt:List (List RD)}{k i:Nat}(hi:k≤i):((rt.take k).map bh).getD i []=[]:=by
 rw[List.getD_eq_getElem?_getD,List.getElem?_eq_none (by rw[List.length_map,List.length_take];omega)];rfl
theorem ed{rt:List (List RD)}{k:Nat}(hk:k≤rt.length):((rt.take k).map bh).length=k:=by rw[List.length_map,List.length_take];omega
theorem pB{rt:List (List RD)}{k m:Nat}(hw: ∀i,i<k→wN m (rt.getD i []))(h1:1≤m)(hk:k≤rt.length):dN m ((rt.take k).map bh):=fun i=>by
 by_cases h:i<k
 · rw[mr h];exact j5 (hw i (by omega)) h1
 · rw[yO (by omega)];exact bA h1
theorem At(a:List RD):(bh a).length=a.length:=List.length_map ..
theorem fx{rt:List (List RD)}{k:Nat}(h:rM rt k=0):(rt.getD k []).length=2^k∧iz (rt.getD k [])=true∧ ¬dc k ((rt.take k).map bh) (bh (rt.getD k []))<0:=by
 unfold rM at h;split at h
 · cases h
 rename_i h1;split at h
 · rename_i h2;exact absurd h h2
 rename_i h2;split at h
 · cases h
 rename_i h3;exact⟨by omega,(mT (m:=k) (by omega)).2,h3⟩
theorem jk{rt:List (List RD)}{k:Nat}(hk:k≤rt.length)(h: ∀j,j<k→rM rt j=0):b9 ((rt.take k).map bh):=fun j hj=>by
 rw[ed hk] at hj;rw[mr hj,At];exact(fx (h j hj)).1
theorem Ap{l m k:Nat}(h:ny l k)(hm:m≤l):ny m k:=by
 induction l with
 | zero=>obtain rfl:m=0:=by omega
         exact h
 | succ l ih =>
   by_cases e:m=l+1
   · rw[e];exact h
   · exact ih (gR h) (by omega)
theorem j0(rt:List (List RD)){m:Nat}(hw: ∀i,i<rt.length→(rt.getD i []).length=2^i→wN m (rt.getD i []))(h1:1≤m)(hl:rt.length≤1000000)(hll: ∀i,i<rt.length→(rt.getD i []).length≤4398046511104)(hok:rt.length≤5→ny rt.length m):Pure Tryz.prog 54 [TrD rt] (CJ (cX rt)):=by
 refine qJ 43 Tryz.func54 rfl rfl rfl rfl (by kernel_rfl) (fun B F0 w0=>?_);unfold cX;obtain ⟨E,hE⟩: ∃E,fE (rM rt) (rt.length-0) 0=E:=⟨_,rfl⟩;rw[hE];refine qX 2 rfl ?_;refine qI ?_;refine qX 3 rfl ?_;rw[List.length_map];refine qU 1 rfl ?_;refine ab.nil ?_;by_cases h5:5<rt.length
 · rw[if_pos h5,decide_eq_true (show (5:Int)<(rt.length:Int) by omega)];refine AW.aH rfl ?_;refine qX 2 rfl ?_;exact qN rfl
 rw[if_neg h5,decide_eq_false (show ¬(5:Int)<(rt.length:Int) by omega)];have hok:=hok (by omega);have hm7:=tX hok;refine AW.aB rfl ?_;refine AW.skip (AW.seq ?_);refine qX 3 rfl ?_;rw[List.length_map];refine qU 1 rfl ?_;refine ab.nil ?_;refine AW.block ?_;refine AW.aE [1,13,14,15] (fun i:Nat=>[(1,.bx [.sl 1 (rt.map dw)]),(13,.d (.sl 1 (rt.map dw))),(14,.d (dI rt.length)),(15,.d (dI i))]) (fun i=>i≤rt.length∧fE (rM rt) (rt.length-i) i=E∧ ∀j,j<i→rM rt j=0) (fun i=>rt.length-i) 0 rfl ⟨Nat.zero_le _,hE,fun j hj=>by omega⟩ (fun i ⟨hi,hiE,hall⟩=>?_);refine qX 1 rfl ?_;refine qI ?_;refine AW.cond rfl (fun h=>?_) (fun h=>?_);rotate_left
 · have hii: ¬i<rt.length:=by have:=of_decide_eq_false h;omega
   rw[jz hii] at hiE;subst hiE;refine AW.exit ?_;refine qX 1 rfl ?_;exact qN rfl
 have hii:i<rt.length:=by have:=of_decide_eq_true h;omega
 have hg:(rt.map dw)[i]?=some (dw (rt.getD i [])):=by simp[hii]
 have hwi:=hw i hii;have hli:=hll i hii;have hmiss:=fun h0:rM rt i=0=>(gx hii h0).symm.trans hiE;have hhit:=fun h0:rM rt i≠0=>(jy hii h0).symm.trans hiE;have hp:2^i≤2^5:=Nat.pow_le_pow_right (by decide) (by omega);have hrt:rM rt i=if (rt.getD i []).length≠2^i then 10 else if bQ i (rt.getD i [])≠0 then bQ i (rt.getD i []) else if dc i ((rt.take i).map bh) (bh (rt.getD i []))<0 then 3 else 0:=rfl
 refine AW.skip (AW.seq (AW.block ?_));refine qX 1 rfl ?_;refine ab.idx tok (dw (rt.getD i [])) rfl rfl rfl rfl (Int.natCast_nonneg i) hg ?_;refine qU 3 rfl ?_;refine qI ?_;refine qX 2 rfl ?_;rw[List.length_map];refine qU 2 rfl ?_;rw[uY (by omega)];refine qU 1 rfl ?_;refine ab.nil ?_;by_cases e1:(rt.getD i []).length=2^i;rotate_left
 · rw[if_pos e1] at hrt;rw[bne_iff_ne.2 (show (((rt.getD i []).length:Nat):Int)≠((2^i:Nat):Int) by omega)];have:=hhit (by rw[hrt];decide);rw[hrt] at this;subst this;refine AW.aH rfl ?_;refine qX 2 rfl ?_;exact qN rfl
 rw[if_neg (fun h=>h e1)] at hrt;have hwi:=hwi e1;have cn:=jF ((rt.take i).map dw) (rt.getD i []) (fun _=>hwi) (by omega) hli (by rw[List.length_map,List.length_take];omega);rw[List.length_map,List.length_take,Nat.min_eq_left hi] at cn;rw[e1,bne_eq_false_iff_eq.2 rfl];refine AW.aB rfl ?_;refine AW.skip ?_;refine qX 3 rfl ?_;refine ab.BG tok rfl rfl rfl rfl trivial (Int.natCast_nonneg i) (Nat.zero_le _) (by show i≤_;rw[List.length_map];omega) ?_;rw[zV];refine qU 3 rfl ?_;refine qI ?_;refine qX 2 rfl ?_;refine ab.call tok rfl rfl rfl rfl cn ?_;refine qU 1 rfl ?_;refine ab.nil ?_;rcases e2:bQ i (rt.getD i []) with _ | z
 rotate_left
 · rw[e2,if_pos (Nat.succ_ne_zero z)] at hrt;have:=hhit (by rw[hrt];exact Nat.succ_ne_zero z);rw[hrt] at this;subst this;refine qX 1 rfl ?_;refine ab.err tok rfl rfl rfl rfl rfl ?_;refine ab.nil ?_;refine AW.aH rfl ?_;refine qX 2 rfl ?_;exact qN rfl
 rw[if_neg (by rw[e2];simp)] at hrt;obtain ⟨n1,n2⟩:=mT e2;have cs:=ly i (k:=m) n1 (by omega) (jk hi hall) (by rw[ed hi];exact Nat.le_refl _) (by rw[ed hi];omega) (j5 hwi h1) (pB (fun j hj=>hw j (by omega) (fx (hall j hj)).1) h1 hi) (Ap hok hi);have tr:=kR i ((rt.take i).map bh) (bh (rt.getD i []));rw[show bP ((rt.take i).map bh)= .ag [.sl 1 ((rt.take i).map dw)] from by rw[lQ (fun j hj=>hw j (by omega) (fx (hall j hj)).1) hi (fun j hj=>(fx (hall j hj)).2.1)],← iV hwi n2] at cs;generalize dc i ((rt.take i).map bh) (bh (rt.getD i []))=s at cs hrt tr;refine qX 1 rfl ?_;refine ab.err tok rfl rfl rfl rfl rfl ?_;refine ab.nil ?_;refine AW.aB rfl ?_;refine AW.skip ?_;refine qX 2 rfl ?_;refine ab.call tok rfl rfl rfl rfl cs ?_;refine qU 1 rfl ?_;refine ab.nil ?_;by_cases e3:s<0
 · rw[if_pos e3] at hrt;rw[decide_eq_true e3];have:=hhit (by rw[hrt];decide);rw[hrt] at this;subst this;refine AW.aH rfl ?_;refine qX 2 rfl ?_;exact qN rfl
 rw[if_neg e3] at hrt;rw[decide_eq_false e3];refine AW.aB rfl ?_;refine AW.skip ?_;refine qT 1 rfl ?_;rw[aC (x:=(i:Int)+1) (by omega) (by omega)];refine qU 1 rfl ?_;refine ab.nil ?_
 exact⟨i+1,rfl,⟨hii,hmiss hrt,fun j hj=>by
  by_cases e:j=i
  · rw[e];exact hrt
  · exact hall j (by omega)⟩,by omega⟩
theorem jH(rt l:List (List RD)){m mn:Nat}(hw: ∀i,i<rt.length→(rt.getD i []).length=2^i→wN m (rt.getD i []))(h1:1≤m)(hl:rt.length≤1000000)(hll: ∀i,i<rt.length→(rt.getD i []).length≤4398046511104)(hok:rt.length≤5→ny rt.length m)
  (hlw: ∀i,i<l.length→zt rt.length (l.getD i [])→wN mn (l.getD i [])) (hl2:l.length≤1000000) (hl3: ∀i,i<l.length→(l.getD i []).length≤4398046511104) (hm:mn≤17300000000000):Pure Tryz.prog 61 [TrD rt,.sl 1 (l.map dw)] (CJ (px rt l)):=by
 refine qJ 27 Tryz.func61 rfl rfl rfl rfl (by kernel_rfl) (fun B F0 w0=>?_);have cC:=j0 rt hw h1 hl hll hok;unfold px;obtain ⟨E,hE⟩: ∃E,fE (fun i=>bQ rt.length (l.getD i [])) (l.length-0) 0=E:=⟨_,rfl⟩;rw[hE];refine qX 2 rfl ?_;refine qI ?_;refine qX 1 rfl ?_;refine ab.call tok rfl rfl rfl rfl cC ?_;refine qU 1 rfl ?_;refine ab.nil ?_;rcases e2:cX rt with _ | z
 rotate_left
 · rw[if_pos (Nat.succ_ne_zero z)];refine qX 1 rfl ?_;refine ab.err tok rfl rfl rfl rfl rfl ?_;refine ab.nil ?_;refine AW.aH rfl ?_;refine qX 2 rfl ?_;exact qN rfl
 rw[if_neg (by simp)];refine qX 1 rfl ?_;refine ab.err tok rfl rfl rfl rfl rfl ?_;refine ab.nil ?_;refine AW.aB rfl ?_;refine AW.skip (AW.seq ?_);refine qX 2 rfl ?_;rw[List.length_map];refine qU 1 rfl ?_;refine ab.nil ?_;refine AW.block ?_;refine AW.aE [2,14,15,16] (fun i:Nat=>[(2,.bx [.sl 1 (rt.map dw)]),(14,.d (.sl 1 (l.map dw))),(15,.d (dI l.length)),(16,.d (dI i))]) (fun i=>i≤l.length∧fE (fun i=>bQ rt.length (l.getD i [])) (l.length-i) i=E) (fun i=>l.length-i) 0 rfl ⟨Nat.zero_le _,hE⟩ (fun i ⟨hi,hiE⟩=>?_);refine qX 1 rfl ?_;refine qI ?_;refine AW.cond rfl (fun h=>?_) (fun h=>?_);rotate_left
 · have hii: ¬i<l.length:=by have:=of_decide_eq_false h;omega
   rw[jz hii] at hiE;subst hiE;refine AW.exit ?_;refine qX 1 rfl ?_;exact qN rfl
 have hii:i<l.length:=by have:=of_decide_eq_true h;omega
 have hg:(l.map dw)[i]?=some (dw (l.getD i [])):=by simp[hii]
 have hmiss:=fun h0:bQ rt.length (l.getD i [])=0=>(gx (f:=fun i=>bQ rt.length (l.getD i [])) hii h0).symm.trans hiE;have hhit:=fun h0:bQ rt.length (l.getD i [])≠0=>(jy (f:=fun i=>bQ rt.length (l.getD i [])) hii h0).symm.trans hiE;have cn:=jF (rt.map dw) (l.getD i []) (fun h=>hlw i hii (by rw[List.length_map] at h;exact h)) hm (hl3 i hii) (by rw[List.length_map];omega);rw[List.length_map] at cn;refine AW.skip (AW.seq (AW.block (AW.seq (AW.region ?_))));refine ab.idx tok (dw (l.getD i [])) rfl rfl rfl rfl (Int.natCast_nonneg i) hg ?_;refine qU 2 rfl ?_;refine qK 2 rfl ?_;refine ab.call tok rfl rfl rfl rfl cn ?_;refine qU 1 rfl ?_;refine ab.nil ?_;generalize bQ rt.length (l.getD i [])=v at hmiss hhit;rcases v with _ | z
 rotate_left
 · have:=hhit (Nat.succ_ne_zero z);subst this;refine qX 1 rfl ?_;refine ab.err tok rfl rfl rfl rfl rfl ?_;refine ab.nil ?_;refine AW.aH rfl ?_;refine qX 2 rfl ?_;exact qN rfl
 refine qX 1 rfl ?_;refine ab.err tok rfl rfl rfl rfl rfl ?_;refine ab.nil ?_;refine AW.aB rfl ?_;refine AW.skip ?_;refine qT 1 rfl ?_;rw[aC (x:=(i:Int)+1) (by omega) (by omega)];refine qU 1 rfl ?_;refine ab.nil ?_;exact⟨i+1,rfl,⟨hii,hmiss rfl⟩,by omega⟩
theorem np{rt:List (List RD)}(h:cX rt=0):rt.length≤5∧ ∀j,j<rt.length→rM rt j=0:=by
 unfold cX at h;split at h
 · cases h
 rename_i h1
 have key: ∀(m i:Nat),fE (rM rt) m i=0→ ∀j,i≤j→j<i+m→rM rt j=0:=by
  intro m
  induction m with
  | zero=>intro i _ j h1 h2;omega
  | succ m ih =>
    intro i h j h1 h2;rw[fE] at h;split at h
    · rename_i h0;by_cases e:j=i
      · rw[e];exact h0
      · exact ih (i+1) h j (by omega) (by omega)
    · rename_i h0;exact absurd h h0
 exact⟨by omega,fun j hj=>key _ _ h j (Nat.zero_le _) (by omega)⟩
def zX(rt:List (List RD))(a:List RD):D:=if px rt [a]≠0 then .tu [dI 0,CJ (px rt [a])] else .tu [dI (dc rt.length (rt.map bh) (bh a)),aj]
theorem CQ{rt:List (List RD)}{a:List RD}(h:px rt [a]=0):cX rt=0∧bQ rt.length a=0:=by
 unfold px at h;split at h
 · rename_i h0;exact absurd h h0
 rename_i h0;refine⟨by omega,?_⟩;have e:fE (fun i=>bQ rt.length ([a].getD i [])) ([a].length-0) 0=if bQ rt.length a=0 then 0 else bQ rt.length a:=rfl
 rw[e] at h;split at h
 · assumption
 · rename_i h1;exact absurd h h1
theorem rO(rt:List (List RD))(a:List RD){m:Nat}(hw: ∀i,i<rt.length→(rt.getD i []).length=2^i→wN m (rt.getD i []))(h1:1≤m)(hl:rt.length≤1000000)(hll: ∀i,i<rt.length→(rt.getD i []).length≤4398046511104)(hok:rt.length≤5→ny rt.length m)
  (haw:zt rt.length a→wN m a) (hal:a.length≤4398046511104) (hm:m≤17300000000000):Pure Tryz.prog 29 [TrD rt,dw a] (zX rt a):=by
 refine qJ 17 Tryz.func29 rfl rfl rfl rfl (by kernel_rfl) (fun B F0 w0=>?_)
 have h0: ∀i,i<[a].length→i=0:=fun i hi=>by
  have:i<1:=hi;omega
 have cc:=jH rt [a] hw h1 hl hll hok (fun i hi=>by rw[h0 i hi];exact haw) (show 1≤1000000 by decide) (fun i hi=>by rw[h0 i hi];exact hal) hm;unfold zX;refine qX 3 rfl ?_;refine qI ?_;refine qX 2 rfl ?_;refine ab.fU tok rfl rfl rfl rfl rfl ?_;refine ab.call tok rfl rfl rfl rfl cc ?_;refine qU 1 rfl ?_;refine ab.nil ?_;rcases e2:px rt [a] with _ | z
 rotate_left
 · rw[if_pos (Nat.succ_ne_zero z)];refine qX 1 rfl ?_;refine ab.err tok rfl rfl rfl rfl rfl ?_;refine ab.nil ?_;refine AW.aH rfl ?_;refine qX 3 rfl ?_;exact qN rfl
 rw[if_neg (by simp)];obtain ⟨k1,k2⟩:=CQ e2;obtain ⟨k3,k4⟩:=np k1;obtain ⟨n1,n2⟩:=mT k2;have vo:=jk (k:=rt.length) (Nat.le_refl _) k4;have vl:=ed (rt:=rt) (k:=rt.length) (Nat.le_refl _);have vs:=pB (k:=rt.length) (fun j hj=>hw j hj (fx (k4 j hj)).1) h1 (Nat.le_refl _);have vc:=lQ (k:=rt.length) (fun j hj=>hw j hj (fx (k4 j hj)).1) (Nat.le_refl _) (fun j hj=>(fx (k4 j hj)).2.1);rw[List.take_length] at vo vl vs vc;have cs:=ly rt.length (k:=m) n1 k3 vo (by rw[vl];exact Nat.le_refl _) (by rw[vl];omega) (j5 (haw (ub k2)) h1) vs (hok k3);rw[show bP (rt.map bh)= .ag [.sl 1 (rt.map dw)] from by rw[vc],← iV (haw (ub k2)) n2] at cs;refine qX 1 rfl ?_;refine ab.err tok rfl rfl rfl rfl rfl ?_;refine ab.nil ?_;refine AW.aB rfl ?_;refine AW.skip ?_;refine qX 2 rfl ?_;refine ab.call tok rfl rfl rfl rfl cs ?_;refine qU 2 rfl ?_;exact qN rfl
end Lift
namespace Lift
open Go Go.Proofs
structure CY (m:Nat) (rt:List (List RD)):Prop where
 t: ∃m0,1≤m0∧m0≤m∧(∀i,i<rt.length→(rt.getD i []).length=2^i→wN m0 (rt.getD i []))∧(rt.length≤5→ny rt.length m0)
 m2:m≤1000000
 l:rt.length≤1000000
 ll: ∀i,i<rt.length→(rt.getD i []).length≤4398046511104
structure Bz (m:Nat) (rt:List (List RD)) (a:List RD):Prop where
 w:zt rt.length a→wN m a
 l:a.length≤4398046511104
structure FR (m:Nat) (rt:List (List RD)) (v:List NQ):Prop where
 l5:rt.length≤5
 ln:v.length=rt.length
 ro:b9 v
 sz:dN m v
 t: ∃m0,1≤m0∧m0≤m∧dN m0 v∧ny rt.length m0
 ps: ∀k,k<v.length→ ¬dc k (v.take k) (v.getD k [])<0
 eq:TrD rt=bP v
theorem C2{m:Nat}{rt:List (List RD)}(T:CY m rt)(h:cX rt=0):FR m rt (rt.map bh):=by
 obtain ⟨k3,k4⟩:=np h;have vo:=jk (k:=rt.length) (Nat.le_refl _) k4;have vl:=ed (rt:=rt) (k:=rt.length) (Nat.le_refl _);obtain ⟨m0,t1,t2,tw,tk⟩:=T.t;have hw:=fun j hj=>tw j hj (fx (k4 j hj)).1;have vs:=pB (k:=rt.length) hw t1 (Nat.le_refl _);have vc:=lQ (k:=rt.length) hw (Nat.le_refl _) (fun j hj=>(fx (k4 j hj)).2.1);rw[List.take_length] at vo vl vs vc;refine⟨k3,vl,vo,vs.mono t2,⟨m0,t1,t2,vs,tk k3⟩,fun k hk=>?_,by show D.ag [.sl 1 (rt.map dw)]=_;rw[vc]⟩;rw[vl] at hk;have:=(fx (k4 k hk)).2.2
 have e:(rt.map bh).getD k []=bh (rt.getD k []):=by
  rw[List.getD_eq_getElem?_getD,List.getElem?_map,List.getD_eq_getElem?_getD,List.getElem?_eq_getElem hk];rfl
 rw[e,← List.map_take];exact this
theorem DN{m:Nat}{rt:List (List RD)}{a:List RD}(m1:1≤m)(A:Bz m rt a)(h:bQ rt.length a=0):ao rt.length (bh a)∧ar m (bh a)∧dw a=af (bh a):=by
 obtain ⟨n1,n2⟩:=mT h;have w:=A.w (ub h);exact⟨n1,j5 w m1,iV w n2⟩
def Es(q:Rat):NQ:=if q=0 then [] else [q]
theorem y4(q:Rat):aq [q]=Es q:=by
 show (if 1=0 then [] else fu (Nat.log2 1) [q])=_;rw[if_neg (by decide),show Nat.log2 1=0 by decide];unfold fu Es;show (if a9 [q]=true then [] else [q])=_;have:a9 [q]=decide (q=0):=by unfold a9;simp
 rw[this];by_cases h:q=0
 · rw[decide_eq_true h,if_pos rfl,if_pos h]
 · rw[decide_eq_false h,if_neg (by simp),if_neg h]
theorem jZ(r:RD){k:Nat}(hr:r.w k)(h1:1≤k)(hk:k≤1000000)(ho:r.okB=true):Pure Tryz.prog 87 [r.D] (af (Es r.val)):=by
 refine qJ 8 Tryz.func87 rfl rfl rfl rfl (by kernel_rfl) (fun B0 F0 w0=>?_);have c1:=jN r (Qr 0) (k:=k) hr (iK _ (by rw[nw];exact h1)) (by omega);have z:=ec hr h1;rw[cy,Rat.add_zero] at c1;have c2:=bV [r.val] (l:=0) (k:=k) (gB 0 _) (by decide) (gL z) (by omega);rw[y4] at c2;have hz:(Qr 0).D= .ag [dB false,.sl 1 [],.sl 1 []]:=by rw[iD];rfl
 rw[hz] at c1;refine qX 2 rfl ?_;refine qK 2 rfl ?_;refine ab.call tok rfl rfl rfl rfl c1 ?_;refine ab.fU tok rfl rfl rfl rfl rfl ?_;refine ab.call tok rfl rfl rfl rfl c2 ?_;refine qU 1 rfl ?_;exact qN rfl
end Lift
namespace Lift
abbrev Cf:=Nat→Rat
def cf(a:NQ):Cf:=fun i=>a.getD i 0
def br(l:Nat)(a:Cf):Cf:=fun i=>a (2^l+i)
def mulC(rt:List NQ):Nat→Cf→Cf→Cf
 | 0,a,b=>fun i=>if i=0 then a 0*b 0 else 0
 | l+1,a,b=>fun i=>if i<2^l then mulC rt l a b i+mulC rt l (mulC rt l (br l a) (br l b)) (cf (rt.getD l [])) i else mulC rt l a (br l b) (i-2^l)+mulC rt l (br l a) b (i-2^l)
def cg(l:Nat)(a:Cf):Prop:= ∀i,2^l≤i→a i=0
def ic(l:Nat)(a b:Cf):Prop:= ∀i,i<2^l→a i=b i
theorem a7(rt:List NQ): ∀(l:Nat) (a b:Cf),cg l (mulC rt l a b)
 | 0,a,b=>fun i hi=>by
   have:i≠0:=by have:1≤i:=hi;omega
   show (if i=0 then _ else (0:Rat))=0;rw[if_neg this]
 | l+1,a,b=>fun i hi=>by
   rw[Nat.pow_succ] at hi;have hp:0<2^l:=Nat.pow_pos (by decide);show (if i<2^l then _ else _)=(0:Rat);rw[if_neg (by omega),a7 rt l _ _ _ (by omega),a7 rt l _ _ _ (by omega),Rat.add_zero]
theorem ic.down{l:Nat}{a b:Cf}(h:ic (l+1) a b):ic l a b:=fun i hi=>h i (by rw[Nat.pow_succ];omega)
theorem ic.hi{l:Nat}{a b:Cf}(h:ic (l+1) a b):ic l (br l a) (br l b):=fun i hi=>h _ (by rw[Nat.pow_succ];omega)
theorem ic.pe{l:Nat}{a:Cf}:ic l a a:=fun _ _=>rfl
theorem ic.full{l:Nat}{a b:Cf}(h:ic l a b)(ha:cg l a)(hb:cg l b):a=b:=funext fun i=>by
 by_cases hi:i<2^l
 · exact h i hi
 · rw[ha i (by omega),hb i (by omega)]
theorem bo(rt:List NQ): ∀(l:Nat) {a b a' b':Cf},ic l a a'→ic l b b'→mulC rt l a b=mulC rt l a' b'
 | 0,a,b,a',b',h1,h2=>funext fun i=>by
   show (if i=0 then a 0*b 0 else 0)=(if i=0 then a' 0*b' 0 else 0);rw[h1 0 (by decide),h2 0 (by decide)]
 | l+1,a,b,a',b',h1,h2=>funext fun i=>by
   show (if i<2^l then mulC rt l a b i+mulC rt l (mulC rt l (br l a) (br l b)) (cf (rt.getD l [])) i else mulC rt l a (br l b) (i-2^l)+mulC rt l (br l a) b (i-2^l))=(if i<2^l then mulC rt l a' b' i+mulC rt l (mulC rt l (br l a') (br l b')) (cf (rt.getD l [])) i else mulC rt l a' (br l b') (i-2^l)+mulC rt l (br l a') b' (i-2^l));rw[bo rt l h1.down h2.down,bo rt l h1.hi h2.hi,bo rt l h1.down h2.hi,bo rt l h1.hi h2.down]
def zC:Cf:=fun _=>0
theorem bK(rt:List NQ): ∀(l:Nat) {a b:Cf},ic l a zC∨ic l b zC→mulC rt l a b=zC
 | 0,a,b,h=>funext fun i=>by
   show (if i=0 then a 0*b 0 else 0)=0;split
   · rcases h with h | h
     · rw[h 0 (by decide)];exact Rat.zero_mul _
     · rw[h 0 (by decide)];exact Rat.mul_zero _
   · rfl
 | l+1,a,b,h=>funext fun i=>by
   have hz:ic l zC zC:=ic.pe;have r1:mulC rt l a b=zC:=bK rt l (h.imp ic.down ic.down);have r2:mulC rt l (br l a) (br l b)=zC:=bK rt l (h.imp ic.hi ic.hi);have r3:mulC rt l a (br l b)=zC:=bK rt l (h.imp ic.down ic.hi);have r4:mulC rt l (br l a) b=zC:=bK rt l (h.imp ic.hi ic.down);have r5:mulC rt l zC (cf (rt.getD l []))=zC:=bK rt l (.inl hz);show (if i<2^l then mulC rt l a b i+mulC rt l (mulC rt l (br l a) (br l b)) (cf (rt.getD l [])) i else mulC rt l a (br l b) (i-2^l)+mulC rt l (br l a) b (i-2^l))=0;rw[r2,r1,r3,r4,r5];show (if i<2^l then (0:Rat)+0 else 0+0)=0;split<;>exact Rat.add_zero 0
theorem gG(rt:List NQ): ∀(l:Nat) (a b:Cf),mulC rt l a b=mulC rt l b a
 | 0,a,b=>funext fun i=>by
   show (if i=0 then a 0*b 0 else 0)=(if i=0 then b 0*a 0 else 0);rw[Rat.mul_comm]
 | l+1,a,b=>funext fun i=>by
   show (if i<2^l then mulC rt l a b i+mulC rt l (mulC rt l (br l a) (br l b)) (cf (rt.getD l [])) i else mulC rt l a (br l b) (i-2^l)+mulC rt l (br l a) b (i-2^l))=(if i<2^l then mulC rt l b a i+mulC rt l (mulC rt l (br l b) (br l a)) (cf (rt.getD l [])) i else mulC rt l b (br l a) (i-2^l)+mulC rt l (br l b) a (i-2^l));rw[gG rt l a b,gG rt l (br l a) (br l b),gG rt l a (br l b),gG rt l (br l a) b,Rat.add_comm (mulC rt l (br l b) a _)]
theorem cg.mono{l m:Nat}{a:Cf}(h:cg l a)(hl:l≤m):cg m a:=fun i hi=>h i (Nat.le_trans (Nat.pow_le_pow_right (by decide) hl) hi)
theorem cg.vU{l:Nat}{a:Cf}(h:cg l a):br l a=zC:=funext fun i=>h _ (by omega)
theorem b7(rt:List NQ){j:Nat}{a b:Cf}(ha:cg j a)(hb:cg j b): ∀{l:Nat},j≤l→mulC rt l a b=mulC rt j a b:=fun {l} h=>by
 obtain ⟨d,rfl⟩: ∃d,l=j+d:=⟨l-j,by omega⟩;clear h
 induction d with
 | zero=>rfl
 | succ d ih =>
   have ha':cg (j+d) a:=ha.mono (by omega);have hb':cg (j+d) b:=hb.mono (by omega);have hz:ic (j+d) zC zC:=ic.pe;rw[← ih];funext i;show (if i<2^(j+d) then mulC rt (j+d) a b i+mulC rt (j+d) (mulC rt (j+d) (br (j+d) a) (br (j+d) b)) (cf (rt.getD (j+d) [])) i else mulC rt (j+d) a (br (j+d) b) (i-2^(j+d))+mulC rt (j+d) (br (j+d) a) b (i-2^(j+d)))=_;rw[ha'.vU,hb'.vU,bK rt (j+d) (a:=zC) (b:=zC) (.inl hz),bK rt (j+d) (a:=zC) (.inl hz),bK rt (j+d) (b:=zC) (.inr hz),bK rt (j+d) (a:=zC) (.inl hz)];by_cases hi:i<2^(j+d)
   · rw[if_pos hi];exact Rat.add_zero _
   · rw[if_neg hi,a7 rt (j+d) a b i (by omega)];exact Rat.add_zero _
theorem aL{l:Nat}{a:NQ}(h:a.length≤2^l):cg l (cf a):=fun i hi=>fc (by omega)
theorem dX(a b:NQ)(i:Nat):cf (aK a b) i=cf a i+cf b i:=kT a b i
theorem jd(a:NQ)(i:Nat):cf (aM a) i= -cf a i:=l0 a i
theorem pU{a:NQ}(h:a9 a=true):cf a=zC:=funext fun i=>by
 unfold a9 at h;rw[List.all_eq_true] at h;by_cases hi:i<a.length
 · have:=of_decide_eq_true (h a[i] (List.getElem_mem hi));show a.getD i 0=0;rw[List.getD_eq_getElem?_getD,List.getElem?_eq_getElem hi];exact this
 · exact fc (by omega)
theorem CT{j:Nat}{p q:NQ}(n:Nat)(hn:n=2^j)(hq:q.length≤2^j)(i:Nat):cf (cW p q n) i=if i<2^j then cf p i else cf q (i-2^j):=by
 show (cW p q n).getD i 0=_;rw[kW,hn];by_cases h:i<2^j
 · rw[if_pos h,if_pos h];rfl
 · rw[if_neg h,if_neg h];by_cases h2:i<2^j+2^j
   · rw[if_pos h2];rfl
   · rw[if_neg h2];exact(fc (by omega)).symm
theorem dz{j:Nat}{a:NQ}(n:Nat)(hn:n=2^j):ic j (cf (a.take n)) (cf a):=fun i hi=>by
 show (a.take n).getD i 0=a.getD i 0;rw[jx,if_pos (by omega)]
theorem gy{j:Nat}{a:NQ}(n:Nat)(hn:n=2^j):cf (a.drop n)=br j (cf a):=funext fun i=>by
 show (a.drop n).getD i 0=a.getD (2^j+i) 0;rw[pT,hn]
theorem uf{l:Nat}{R:NQ→NQ→NQ}{rt:List NQ}{a b:NQ}(ha:ao l a)(hb:ao l b)(hab:b.length≤a.length)(hrt:b9 rt)(hl:l≤rt.length)
  (hR: ∀l',l=l'+1→ ∀a' b',ao l' a'→ao l' b'→ao l' (R a' b')∧cf (R a' b')=mulC rt l' (cf a') (cf b')):cf (ga R rt a b)=mulC rt l (cf a) (cf b):=by
 unfold ga;by_cases h0:(a9 a||a9 b)=true
 · rw[if_pos h0];have:cf ([]:NQ)=zC:=rfl;rw[this,bK];rw[Bool.or_eq_true] at h0;rcases h0 with h | h
   · left;rw[pU h];exact ic.pe
   · right;rw[pU h];exact ic.pe
 rw[if_neg h0];have hz:=fun z:a9 a=true=>h0 (by rw[z];rfl);have hz2:=fun z:a9 b=true=>h0 (by rw[z,Bool.or_true]);by_cases h1:a.length=1
 · rw[if_pos h1];have lb:b.length≤1:=by omega
   rw[b7 rt (j:=0) (aL (by rw[h1];exact Nat.le_refl _)) (aL lb) (Nat.zero_le _)];funext i;show [a.getD 0 0*b.getD 0 0].getD i 0=if i=0 then a.getD 0 0*b.getD 0 0 else 0
   cases i with
   | zero=>rfl
   | succ i=>rw[if_neg (by omega)];rfl
 rw[if_neg h1]
 obtain ⟨i,hi,hla⟩: ∃i,i≤l∧a.length=2^i:=by
  rcases ha with e | e
  · exact absurd (by rw[List.length_eq_zero_iff.1 e];rfl) hz
  · exact e
 have vU:i≠0:=fun e=>h1 (by rw[hla,e]);obtain ⟨j,rfl⟩: ∃j,i=j+1:=⟨i-1,by omega⟩;obtain ⟨l',rfl⟩: ∃l',l=l'+1:=⟨l-1,by omega⟩;have hj:j≤l':=by omega
 have hR:=fun a' b' h1 h2=>hR l' rfl a' b' h1 h2;obtain ⟨e1,e2,e3⟩:=bf hla;have hx:ao l' (a.take (a.length / 2)):= .inr ⟨j,hj,e1⟩;have hy:ao l' (a.drop (a.length / 2)):= .inr ⟨j,hj,e2⟩;have la:cg (j+1) (cf a):=aL (by omega);have lb:cg (j+1) (cf b):=aL (by omega);rw[b7 rt la lb hi]
 have low: ∀{p q:NQ},p.length≤2^j→q.length≤2^j→ao l' p→ao l' q→cf (R p q)=mulC rt j (cf p) (cf q):=fun {p q} hp hq h1 h2=>by
  rw[(hR p q h1 h2).2,b7 rt (aL hp) (aL hq) hj]
 have lenR: ∀{p q:NQ},p.length≤2^j→q.length≤2^j→ao l' p→ao l' q→cg j (cf (R p q)):=fun {p q} hp hq h1 h2=>by
  rw[low hp hq h1 h2];exact a7 rt j _ _
 have tk:=dz (a:=a) (a.length / 2) e3;have dr:=gy (a:=a) (a.length / 2) e3
 have cj: ∀{p q:NQ},cg j (cf q)→ ∀i,cf (cW p q (a.length / 2)) i=if i<2^j then cf p i else cf q (i-2^j):=fun {p q} hq i=>by
  show (cW p q (a.length / 2)).getD i 0=_;rw[kW,e3];by_cases h:i<2^j
  · rw[if_pos h,if_pos h];rfl
  · rw[if_neg h,if_neg h];by_cases h2:i<2^j+2^j
    · rw[if_pos h2];rfl
    · rw[if_neg h2,hq _ (by omega)]
 by_cases h3:b.length≤a.length / 2
 · rw[if_pos h3]
   have hb':ao l' b:=by
    rcases hb with e | ⟨i',_,e⟩
    · exact .inl e
    · refine .inr ⟨i',?_,e⟩;rw[e3,e] at h3;have:=(Nat.pow_le_pow_iff_right (a:=2) (by decide)).1 h3;omega
   rw[e3] at h3;have lbj:cg j (cf b):=aL h3;funext i;rw[cj (lenR (by omega) h3 hy hb'),low (by omega) h3 hx hb',low (by omega) h3 hy hb',dr,bo rt j tk ic.pe];show _=if i<2^j then mulC rt j (cf a) (cf b) i+mulC rt j (mulC rt j (br j (cf a)) (br j (cf b))) (cf (rt.getD j [])) i else mulC rt j (cf a) (br j (cf b)) (i-2^j)+mulC rt j (br j (cf a)) (cf b) (i-2^j)
   have hzz:ic j zC zC:=ic.pe;rw[lbj.vU,bK rt j (b:=zC) (.inr hzz),bK rt j (b:=zC) (.inr hzz),bK rt j (a:=zC) (.inl hzz)];by_cases h:i<2^j
   · rw[if_pos h,if_pos h];exact(Rat.add_zero _).symm
   · rw[if_neg h,if_neg h];exact(Rat.zero_add _).symm
 rw[if_neg h3]
 have hlb:b.length=2^(j+1):=by
  rcases hb with e | ⟨i',_,e⟩
  · exact absurd (by rw[List.length_eq_zero_iff.1 e];rfl) hz2
  · rw[e] at h3 hab ⊢;rw[hla] at hab;rw[e3] at h3;have h4:=(Nat.pow_le_pow_iff_right (a:=2) (by decide)).1 hab;have h5: ¬i'≤j:=fun h=>h3 ((Nat.pow_le_pow_iff_right (a:=2) (by decide)).2 h);rw[show i'=j+1 by omega]
 obtain ⟨f1,f2,f3⟩:=bf hlb;rw[show b.length / 2=a.length / 2 by rw[f3,e3]] at f1 f2;have hu:ao l' (b.take (a.length / 2)):= .inr ⟨j,hj,f1⟩;have hv:ao l' (b.drop (a.length / 2)):= .inr ⟨j,hj,f2⟩;have tkb:=dz (a:=b) (a.length / 2) e3;have drb:=gy (a:=b) (a.length / 2) e3;have hlog:a.length.log2-1=j:=by rw[hla,Nat.log2_two_pow];omega
 rw[hlog];have hdl:(rt.getD j []).length=2^j:=hrt j (by omega);have hd:ao l' (rt.getD j []):= .inr ⟨j,hj,hdl⟩;have Ryv:=hR _ _ hy hv;have lyv:cg j (cf (R (a.drop (a.length / 2)) (b.drop (a.length / 2)))):=lenR (by omega) (by omega) hy hv;have c1:=low (p:=a.take (a.length / 2)) (q:=b.take (a.length / 2)) (by omega) (by omega) hx hu;have c2:=low (p:=a.drop (a.length / 2)) (q:=b.drop (a.length / 2)) (by omega) (by omega) hy hv;have c3:=low (p:=a.take (a.length / 2)) (q:=b.drop (a.length / 2)) (by omega) (by omega) hx hv;have c4:=low (p:=a.drop (a.length / 2)) (q:=b.take (a.length / 2)) (by omega) (by omega) hy hu
 have c5:cf (R (R (a.drop (a.length / 2)) (b.drop (a.length / 2))) (rt.getD j []))=mulC rt j (cf (R (a.drop (a.length / 2)) (b.drop (a.length / 2)))) (cf (rt.getD j [])):=by
  rw[(hR _ _ Ryv.1 hd).2,b7 rt lyv (aL (by omega)) hj]
 have lq:cg j (cf (aK (R (a.take (a.length / 2)) (b.drop (a.length / 2))) (R (a.drop (a.length / 2)) (b.take (a.length / 2))))):=fun i hi=>by
  rw[dX,c3,c4,a7 rt j _ _ i hi,a7 rt j _ _ i hi];exact Rat.add_zero _
 funext i;rw[cj lq,dX,dX,c1,c5,c2,c3,c4,dr,drb,bo rt j tk tkb,bo rt j tk ic.pe,bo rt j ic.pe tkb];rfl
theorem fM: ∀(l:Nat) {rt:List NQ} {a b:NQ},ao l a→ao l b→b9 rt→l≤rt.length→ao l (aR l rt a b)∧cf (aR l rt a b)=mulC rt l (cf a) (cf b)
 | 0,rt,a,b,ha,hb,hrt,hl=>by
   have key: ∀{a b:NQ},ao 0 a→ao 0 b→b.length≤a.length→ao 0 (ga (fun _ _=>[]) rt a b)∧cf (ga (fun _ _=>[]) rt a b)=mulC rt 0 (cf a) (cf b):=fun {a b} ha hb hab =>
    ⟨by
     unfold ga;split
     · exact bz _
     split
     · exact gB _ _
     · rename_i h0 h1;have:a.length≤1:=ha.le;have:a=[]:=List.length_eq_zero_iff.1 (by omega);subst this
       exact absurd rfl h0,uf ha hb hab hrt hl (fun l' h=>by omega)⟩
   show ao 0 (hC (ga (fun _ _=>[]) rt) a b)∧cf (hC (ga (fun _ _=>[]) rt) a b)=_;unfold hC;split
   · have:=key hb ha (by omega);exact⟨this.1,by rw[this.2,gG]⟩
   · exact key ha hb (by omega)
 | l+1,rt,a,b,ha,hb,hrt,hl=>by
   have ih: ∀l',l+1=l'+1→ ∀a' b',ao l' a'→ao l' b'→ao l' (aR l rt a' b')∧cf (aR l rt a' b')=mulC rt l' (cf a') (cf b'):=fun l' e a' b' h1 h2=>by
    obtain rfl:l=l':=by omega
    exact fM l h1 h2 hrt (by omega)
   have lt:ao (l+1) (aR (l+1) rt a b):=by
    obtain ⟨K,hK⟩: ∃K,ar K a∧ar K b∧dN K rt:=sF a b rt;exact(dD (l+1) ha hb hrt hl hK.1 hK.2.1 hK.2.2).1
   refine⟨lt,?_⟩;show cf (hC (ga (aR l rt) rt) a b)=_;unfold hC;split
   · rw[uf hb ha (by omega) hrt hl ih,gG]
   · exact uf ha hb (by omega) hrt hl ih
end Lift
namespace Lift
theorem z6:iM 0=0:=gN.2 rfl
theorem Bk: ∀{i:Nat} {a:NQ},cg i (cf a)→cf (fu i a)=cf a
 | 0,a,h=>by
   unfold fu;by_cases h0:a9 (a.take 1)=true
   · rw[if_pos h0];have z:=pU h0;funext c;show (0:Rat)=a.getD c 0;cases c with
     | zero =>
       have:(a.take 1).getD 0 0=0:=congrFun z 0;rw[jx,if_pos (by decide)] at this;exact this.symm
     | succ c=>exact(h (c+1) (by show 1≤c+1;omega)).symm
   · rw[if_neg h0];funext c;show (a.take 1).getD c 0=a.getD c 0;rw[jx];split
     · rfl
     · exact(h c (by show 1≤c;omega)).symm
 | i+1,a,h=>by
   unfold fu;have e:2^(i+1)=2^i*2:=Nat.pow_succ ..;by_cases h0:a9 ((a.take (2^(i+1))).drop (2^i))=true
   · rw[if_pos h0];refine Bk fun c hc=>?_;by_cases hc2:c<2^(i+1)
     · have:=congrFun (pU h0) (c-2^i);have:((a.take (2^(i+1))).drop (2^i)).getD (c-2^i) 0=0:=this;rw[pT,jx,if_pos (by omega),show 2^i+(c-2^i)=c by omega] at this;exact this
     · exact h c (by omega)
   · rw[if_neg h0];funext c;show (a.take (2^(i+1))).getD c 0=a.getD c 0;rw[jx];split
     · rfl
     · exact(h c (by omega)).symm
theorem bH{l:Nat}{a:NQ}(ha:ao l a):cf (aq a)=cf a:=by
 unfold aq;split
 · rename_i h;rw[List.length_eq_zero_iff.1 h]
 rename_i h0;rcases ha with e | ⟨i,hi,e⟩
 · exact absurd e h0
 rw[e,Nat.log2_two_pow];exact Bk (aL (by omega))
theorem bW{l:Nat}{a:NQ}(ha:ao l a):ao l (aq a):=by
 obtain ⟨K,hK⟩:=xU a;exact(aU ha hK).1
structure yN (a:NQ):Prop where
 one:a.length=1→a.getD 0 0≠0
 two: ∀i,a.length=2^(i+1)→ ¬cg i (cf a)
theorem sE:yN []:=⟨fun h=>absurd h (by decide),fun i h=>by
  have hp:0<2^(i+1):=Nat.pow_pos (by decide);have h:0=2^(i+1):=h
  omega⟩
theorem pY{a:NQ}(h:cf a=zC):a9 a=true:=by
 unfold a9;rw[List.all_eq_true];intro x hx;obtain ⟨i,hi,rfl⟩:=List.getElem_of_mem hx;have:=congrFun h i;have:a.getD i 0=0:=this;rw[List.getD_eq_getElem?_getD,List.getElem?_eq_getElem hi] at this;exact decide_eq_true this
theorem sD: ∀{i:Nat} {a:NQ},a.length=2^i∨2^i≤a.length→yN (fu i a)
 | 0,a,h=>by
   unfold fu;by_cases h0:a9 (a.take 1)=true
   · rw[if_pos h0];exact sE
   · rw[if_neg h0]
     have hl:(a.take 1).length=1:=by rw[List.length_take];have:1≤a.length:=by rcases h with h | h;(have h:a.length=1:=h;omega);exact h
                                     omega
     refine⟨fun _ e=>h0 (pY (funext fun c=>?_)),fun i h=>?_⟩
     · show (a.take 1).getD c 0=0;cases c with
       | zero=>exact e
       | succ c=>exact fc (by omega)
     · rw[hl,Nat.pow_succ] at h;omega
 | i+1,a,h=>by
   unfold fu;have e:2^(i+1)=2^i*2:=Nat.pow_succ ..;have hp:0<2^i:=Nat.pow_pos (by decide);by_cases h0:a9 ((a.take (2^(i+1))).drop (2^i))=true
   · rw[if_pos h0];exact sD (.inr (by omega))
   · rw[if_neg h0];have hl:(a.take (2^(i+1))).length=2^(i+1):=by rw[List.length_take];omega
     refine⟨fun h1=>?_,fun k hk hlow=>h0 (pY (funext fun c=>?_))⟩
     · rw[hl] at h1;omega
     · rw[hl] at hk
       have:k=i:=by
        have h1:=(Nat.pow_le_pow_iff_right (a:=2) (by decide)).1 (Nat.le_of_eq hk);have h2:=(Nat.pow_le_pow_iff_right (a:=2) (by decide)).1 (Nat.le_of_eq hk.symm);omega
       subst this;show ((a.take (2^(k+1))).drop (2^k)).getD c 0=0;rw[pT];exact hlow _ (by omega)
theorem j4{l:Nat}{a:NQ}(ha:ao l a):yN (aq a):=by
 unfold aq;split
 · exact sE
 rename_i h0;rcases ha with e | ⟨i,hi,e⟩
 · exact absurd e h0
 rw[e,Nat.log2_two_pow];exact sD (.inl e)
def bF(rt:List NQ)(l:Nat)(a:Cf):Cf:=fun i=>mulC rt l a a i-mulC rt l (mulC rt l (br l a) (br l a)) (cf (rt.getD l [])) i
def aT(rt:List NQ):Nat→Cf→Int
 | 0,a=>iM (a 0)
 | l+1,a=>if aT rt l (cf (rt.getD l []))=0 then aT rt l a else if aT rt l a=aT rt l (br l a)∨aT rt l (br l a)=0 then aT rt l a else
   if aT rt l a=0 then aT rt l (br l a) else aT rt l a*aT rt l (bF rt l a)
theorem vF(rt:List NQ){l:Nat}{a b:Cf}(h:ic (l+1) a b):bF rt l a=bF rt l b:=by
 unfold bF;rw[bo rt l h.down h.down,bo rt l h.hi h.hi]
theorem jo(rt:List NQ): ∀(l:Nat) {a b:Cf},ic l a b→aT rt l a=aT rt l b
 | 0,a,b,h=>by show iM (a 0)=iM (b 0);rw[h 0 (by decide)]
 | l+1,a,b,h=>by
   unfold aT;rw[jo rt l h.down,jo rt l h.hi,vF rt h]
theorem eH(rt:List NQ): ∀(l:Nat),aT rt l zC=0
 | 0=>by show iM 0=0;exact z6
 | l+1=>by
   have h:=eH rt l;have h2:aT rt l (br l zC)=0:=h;unfold aT;rw[h,h2];split
   · rfl
   · rw[if_pos (Or.inl rfl)]
theorem bw(rt:List NQ){j:Nat}{a:Cf}(ha:cg j a): ∀{l:Nat},j≤l→aT rt l a=aT rt j a:=fun {l} h=>by
 obtain ⟨d,rfl⟩: ∃d,l=j+d:=⟨l-j,by omega⟩;clear h
 induction d with
 | zero=>rfl
 | succ d ih =>
   have ha':cg (j+d) a:=ha.mono (by omega);show (if aT rt (j+d) (cf (rt.getD (j+d) []))=0 then aT rt (j+d) a else if aT rt (j+d) a=aT rt (j+d) (br (j+d) a)∨aT rt (j+d) (br (j+d) a)=0 then aT rt (j+d) a else if aT rt (j+d) a=0 then aT rt (j+d) (br (j+d) a) else aT rt (j+d) a*aT rt (j+d) (bF rt (j+d) a))=_;rw[ha'.vU,eH,ih];by_cases hd:aT rt (j+d) (cf (rt.getD (j+d) []))=0
   · rw[if_pos hd]
   · rw[if_neg hd,if_pos (Or.inr rfl)]
theorem pL{l j:Nat}{rt:List NQ}{a:NQ}(hj:j≤l)(ha:a.length=2^(j+1))(hrt:b9 rt)(hl:l<rt.length):ao l (dY l rt a)∧cf (dY l rt a)=bF rt j (cf a):=by
 obtain ⟨K,hK⟩: ∃K,ar K a∧ar K a∧dN K rt:=sF a a rt;refine⟨(pJ hj ha hrt hl hK.1 hK.2.2).1,?_⟩;obtain ⟨e1,e2,e3⟩:=bf ha;have hx:ao l (a.take (a.length / 2)):= .inr ⟨j,hj,e1⟩;have hy:ao l (a.drop (a.length / 2)):= .inr ⟨j,hj,e2⟩;have hlog:a.length.log2-1=j:=by rw[ha,Nat.log2_two_pow];omega
 have hdl:(rt.getD j []).length=2^j:=hrt j (by omega);have hd:ao l (rt.getD j []):= .inr ⟨j,hj,hdl⟩;have r1:=fM l hx hx hrt (by omega);have r2:=fM l hy hy hrt (by omega);have r3:=fM l r2.1 hd hrt (by omega);unfold dY bF;rw[hlog];funext i;rw[dX,jd,r1.2,r3.2,r2.2,b7 rt (aL (by omega)) (aL (by omega)) hj,b7 rt (aL (a:=a.drop (a.length / 2)) (by omega)) (aL (by omega)) hj,b7 rt (a7 rt j _ _) (aL (by omega)) hj,gy _ e3,bo rt j (dz _ e3) (dz _ e3)];exact Rat.sub_eq_add_neg _ _ |>.symm
theorem eW: ∀(l:Nat) {rt:List NQ} {a:NQ},ao l a→b9 rt→l≤rt.length→dc l rt a=aT rt l (cf a)
 | 0,rt,a,ha,hrt,hl=>by
   have hs:=bW ha;have hc:=bH ha;show rP (fun _=>0) (fun a=>a) rt (aq a)=iM (cf a 0);rw[← hc];generalize aq a=s at hs;unfold rP;rcases hs with e | ⟨i,hi,e⟩
   · rw[if_pos e,List.length_eq_zero_iff.1 e];show 0=iM 0;rw[z6]
   · obtain rfl:i=0:=by omega
     have e:s.length=1:=e;rw[if_neg (by omega),if_pos e];rfl
 | l+1,rt,a,ha,hrt,hl=>by
   have hs:=bW ha;have hc:=bH ha;show rP (dc l rt) (dY l rt) rt (aq a)=aT rt (l+1) (cf a);rw[← hc];generalize aq a=s at hs;clear hc ha;unfold rP;by_cases h0:s.length=0
   · rw[if_pos h0,List.length_eq_zero_iff.1 h0];exact(eH rt (l+1)).symm
   rw[if_neg h0];by_cases h1:s.length=1
   · rw[if_pos h1,bw rt (j:=0) (aL (by rw[h1];exact Nat.le_refl _)) (Nat.zero_le _)];rfl
   rw[if_neg h1]
   obtain ⟨j,hj,hsl⟩: ∃j,j≤l∧s.length=2^(j+1):=by
    rcases hs with e | ⟨i,hi,e⟩
    · exact absurd e h0
    · rcases i with _ | j
      · exact absurd e h1
      · exact⟨j,by omega,e⟩
   obtain ⟨e1,e2,e3⟩:=bf hsl;have hx:ao l (s.take (s.length / 2)):= .inr ⟨j,hj,e1⟩;have hy:ao l (s.drop (s.length / 2)):= .inr ⟨j,hj,e2⟩;have hlog:s.length.log2-1=j:=by rw[hsl,Nat.log2_two_pow];omega
   have hdl:(rt.getD j []).length=2^j:=hrt j (by omega);have hd:ao l (rt.getD j []):= .inr ⟨j,hj,hdl⟩;have hn:=pL hj hsl hrt (by omega)
   have lowN:cg j (bF rt j (cf s)):=fun i hi=>by
    unfold bF;rw[a7 rt j _ _ i hi,a7 rt j _ _ i hi];exact Rat.sub_self
   rw[hlog,eW l hd hrt (by omega),eW l hx hrt (by omega),eW l hy hrt (by omega),eW l hn.1 hrt (by omega),hn.2,gy _ e3,
    bw rt (aL (a:=rt.getD j []) (by omega)) hj,bw rt (aL (a:=s.take (s.length / 2)) (by omega)) hj,bw rt lowN hj,jo rt j (dz _ e3)]
   have lh:cg j (br j (cf s)):=fun i hi=>(aL (l:=j+1) (by omega)) _ (by rw[Nat.pow_succ];omega);rw[bw rt lh hj,bw rt (a:=cf s) (j:=j+1) (l:=l+1) (aL (by omega)) (by omega)];rfl
end Lift
namespace Lift
def iq(R:NQ→NQ→NQ)(rt:List NQ)(a b:NQ):NQ :=
 if a.length=0∨b.length=0 then [] else if max a.length b.length=1 then [a.getD 0 0*b.getD 0 0] else
 cW (aK (R ((aW a (max a.length b.length)).take (max a.length b.length / 2)) ((aW b (max a.length b.length)).take (max a.length b.length / 2)))
   (R (R ((aW a (max a.length b.length)).drop (max a.length b.length / 2)) ((aW b (max a.length b.length)).drop (max a.length b.length / 2))) (rt.getD ((max a.length b.length).log2-1) [])))
  (aK (R ((aW a (max a.length b.length)).take (max a.length b.length / 2)) ((aW b (max a.length b.length)).drop (max a.length b.length / 2)))
   (R ((aW a (max a.length b.length)).drop (max a.length b.length / 2)) ((aW b (max a.length b.length)).take (max a.length b.length / 2)))) (max a.length b.length / 2)
def et:Nat→List NQ→NQ→NQ→NQ
 | 0,rt,a,b=>iq (fun _ _=>[]) rt (aq a) (aq b)
 | l+1,rt,a,b=>iq (et l rt) rt (aq a) (aq b)
theorem yK{l:Nat}{a:NQ}(n:Nat)(ha:a.length≤n):cf (aW a n)=cf a:=funext fun i=>by
 show (aW a n).getD i 0=a.getD i 0;rw[eF];split
 · rfl
 · exact(fc (by omega)).symm
theorem vf{l:Nat}{R:NQ→NQ→NQ}{rt:List NQ}{a b:NQ}(ha:ao l a)(hb:ao l b)(hrt:b9 rt)(hl:l≤rt.length)
  (hR: ∀l',l=l'+1→ ∀a' b',ao l' a'→ao l' b'→ao l' (R a' b')∧cf (R a' b')=mulC rt l' (cf a') (cf b')):ao l (iq R rt a b)∧cf (iq R rt a b)=mulC rt l (cf a) (cf b):=by
 have cz: ∀{x:NQ},x.length=0→cf x=zC:=fun {x} h=>by rw[List.length_eq_zero_iff.1 h];rfl
 unfold iq;by_cases h0:a.length=0∨b.length=0
 · rw[if_pos h0];refine⟨bz _,?_⟩;rw[bK rt l (h0.imp (fun h=>by rw[cz h];exact ic.pe) (fun h=>by rw[cz h];exact ic.pe))];rfl
 rw[if_neg h0];by_cases h1:max a.length b.length=1
 · rw[if_pos h1];refine⟨gB _ _,?_⟩;rw[b7 rt (j:=0) (aL (show a.length≤1 by omega)) (aL (show b.length≤1 by omega)) (Nat.zero_le _)];funext i;show [a.getD 0 0*b.getD 0 0].getD i 0=if i=0 then a.getD 0 0*b.getD 0 0 else 0
   cases i with
   | zero=>rfl
   | succ i=>rw[if_neg (by omega)];rfl
 rw[if_neg h1]
 obtain ⟨i,hi,hn⟩: ∃i,i≤l∧max a.length b.length=2^i:=by
  rcases ha with e | ⟨i,hi,e⟩
  · exact absurd (.inl e) h0
  rcases hb with e2 | ⟨k,hk,e2⟩
  · exact absurd (.inr e2) h0
  by_cases h:a.length≤b.length
  · exact⟨k,hk,by rw[Nat.max_eq_right h,e2]⟩
  · exact⟨i,hi,by rw[Nat.max_eq_left (by omega),e]⟩
 have vU:i≠0:=fun e=>h1 (by rw[hn,e]);obtain ⟨j,rfl⟩: ∃j,i=j+1:=⟨i-1,by omega⟩;obtain ⟨l',rfl⟩: ∃l',l=l'+1:=⟨l-1,by omega⟩;have hj:j≤l':=by omega
 have hR:=fun a' b' h1 h2=>hR l' rfl a' b' h1 h2;have ca:=yK (l:=l') (max a.length b.length) (Nat.le_max_left a.length b.length);have cb:=yK (l:=l') (max a.length b.length) (Nat.le_max_right a.length b.length);have wa:=bb a (max a.length b.length);have wb:=bb b (max a.length b.length);rw[← ca,← cb];generalize aW a (max a.length b.length)=A at *;generalize aW b (max a.length b.length)=B at *;generalize max a.length b.length=n at *;subst hn;have e0:=iT j;have hlog:(2^(j+1)).log2-1=j:=by rw[Nat.log2_two_pow];omega
 rw[e0,hlog];obtain ⟨e1,e2,e3⟩:=bf wa;obtain ⟨f1,f2,f3⟩:=bf wb;rw[e3] at e1 e2;rw[f3] at f1 f2;have hx:ao l' (A.take (2^j)):= .inr ⟨j,hj,e1⟩;have hy:ao l' (A.drop (2^j)):= .inr ⟨j,hj,e2⟩;have hu:ao l' (B.take (2^j)):= .inr ⟨j,hj,f1⟩;have hv:ao l' (B.drop (2^j)):= .inr ⟨j,hj,f2⟩;have hdl:(rt.getD j []).length=2^j:=hrt j (by omega);have hd:ao l' (rt.getD j []):= .inr ⟨j,hj,hdl⟩
 have low: ∀{p q:NQ},p.length≤2^j→q.length≤2^j→ao l' p→ao l' q→cf (R p q)=mulC rt j (cf p) (cf q):=fun {p q} hp hq h1 h2=>by
  rw[(hR p q h1 h2).2,b7 rt (aL hp) (aL hq) hj]
 have Ryv:=hR _ _ hy hv;have c2:=low (p:=A.drop (2^j)) (q:=B.drop (2^j)) (by omega) (by omega) hy hv;have lyv:cg j (cf (R (A.drop (2^j)) (B.drop (2^j)))):=by rw[c2];exact a7 rt j _ _
 have c1:=low (p:=A.take (2^j)) (q:=B.take (2^j)) (by omega) (by omega) hx hu;have c3:=low (p:=A.take (2^j)) (q:=B.drop (2^j)) (by omega) (by omega) hx hv;have c4:=low (p:=A.drop (2^j)) (q:=B.take (2^j)) (by omega) (by omega) hy hu
 have c5:cf (R (R (A.drop (2^j)) (B.drop (2^j))) (rt.getD j []))=mulC rt j (cf (R (A.drop (2^j)) (B.drop (2^j)))) (cf (rt.getD j [])):=by
  rw[(hR _ _ Ryv.1 hd).2,b7 rt lyv (aL (by omega)) hj]
 refine⟨.inr ⟨j+1,by omega,by rw[dq,Nat.pow_succ];omega⟩,?_⟩;rw[b7 rt (j:=j+1) (aL (by omega)) (aL (by omega)) (by omega)]
 have lq:cg j (cf (aK (R (A.take (2^j)) (B.drop (2^j))) (R (A.drop (2^j)) (B.take (2^j))))):=fun i hi=>by
  rw[dX,c3,c4,a7 rt j _ _ i hi,a7 rt j _ _ i hi];exact Rat.add_zero _
 have cj: ∀{p q:NQ},cg j (cf q)→ ∀i,cf (cW p q (2^j)) i=if i<2^j then cf p i else cf q (i-2^j):=fun {p q} hq i=>by
  show (cW p q (2^j)).getD i 0=_;rw[kW];by_cases h:i<2^j
  · rw[if_pos h,if_pos h];rfl
  · rw[if_neg h,if_neg h];by_cases h2:i<2^j+2^j
    · rw[if_pos h2];rfl
    · rw[if_neg h2,hq _ (by omega)]
 funext i;rw[cj lq,dX,dX,c1,c5,c2,c3,c4,gy (a:=A) (2^j) rfl,gy (a:=B) (2^j) rfl,bo rt j (dz (a:=A) (2^j) rfl) (dz (a:=B) (2^j) rfl),bo rt j (dz (a:=A) (2^j) rfl) ic.pe,bo rt j ic.pe (dz (a:=B) (2^j) rfl)];rfl
theorem kS: ∀(l:Nat) {rt:List NQ} {a b:NQ},ao l a→ao l b→b9 rt→l≤rt.length→ao l (et l rt a b)∧cf (et l rt a b)=mulC rt l (cf a) (cf b)
 | 0,rt,a,b,ha,hb,hrt,hl=>by
   have:=vf (R:=fun _ _=>[]) (bW ha) (bW hb) hrt hl (fun l' h=>by omega);rw[bH ha,bH hb] at this;exact this
 | l+1,rt,a,b,ha,hb,hrt,hl=>by
   have:=vf (R:=et l rt) (bW ha) (bW hb) hrt hl (fun l' e a' b' h1 h2=>by
    obtain rfl:l=l':=by omega
    exact kS l h1 h2 hrt (by omega))
   rw[bH ha,bH hb] at this;exact this
def iF(l:Nat)(rt:List NQ)(a:NQ):NQ :=
 aK (et l rt (a.take (a.length / 2)) (a.take (a.length / 2))) (aM (et l rt (et l rt (a.drop (a.length / 2)) (a.drop (a.length / 2))) (rt.getD (a.length.log2-1) [])))
def lA(R:NQ→Int)(N:NQ→NQ)(rt:List NQ)(a:NQ):Int :=
 if a.length=0 then 0 else if a.length=1 then iM (a.getD 0 0) else
 if R (a.take (a.length / 2))=R (a.drop (a.length / 2))*R (rt.getD (a.length.log2-1) [])∨R (a.drop (a.length / 2))*R (rt.getD (a.length.log2-1) [])=0 then R (a.take (a.length / 2)) else
 if R (a.take (a.length / 2))=0 then R (a.drop (a.length / 2))*R (rt.getD (a.length.log2-1) []) else R (a.take (a.length / 2))*R (N a)
def nL:Nat→List NQ→NQ→Int
 | 0,rt,a=>lA (fun _=>0) (fun a=>a) rt (aq a)
 | l+1,rt,a=>lA (nL l rt) (iF l rt) rt (aq a)
def o8(rt:List NQ):Prop:= ∀j,j<rt.length→0≤aT rt j (cf (rt.getD j []))
theorem Ad{l j:Nat}{rt:List NQ}{a:NQ}(hj:j≤l)(ha:a.length=2^(j+1))(hrt:b9 rt)(hl:l<rt.length):ao l (iF l rt a)∧cf (iF l rt a)=bF rt j (cf a):=by
 obtain ⟨e1,e2,e3⟩:=bf ha;have hx:ao l (a.take (a.length / 2)):= .inr ⟨j,hj,e1⟩;have hy:ao l (a.drop (a.length / 2)):= .inr ⟨j,hj,e2⟩;have hlog:a.length.log2-1=j:=by rw[ha,Nat.log2_two_pow];omega
 have hdl:(rt.getD j []).length=2^j:=hrt j (by omega);have hd:ao l (rt.getD j []):= .inr ⟨j,hj,hdl⟩;have r1:=kS l hx hx hrt (by omega);have r2:=kS l hy hy hrt (by omega);have r3:=kS l r2.1 hd hrt (by omega);unfold iF;rw[hlog];refine⟨r1.1.plus r3.1.minus,?_⟩;unfold bF;funext i;rw[dX,jd,r1.2,r3.2,r2.2,b7 rt (aL (by omega)) (aL (by omega)) hj,b7 rt (aL (a:=a.drop (a.length / 2)) (by omega)) (aL (by omega)) hj,b7 rt (a7 rt j _ _) (aL (by omega)) hj,gy _ e3,bo rt j (dz _ e3) (dz _ e3)];exact Rat.sub_eq_add_neg _ _ |>.symm
theorem iO(rt:List NQ): ∀(l:Nat) (a:Cf),sy (aT rt l a)
 | 0,a=>eI _
 | l+1,a=>by
   unfold aT;split
   · exact iO rt l _
   split
   · exact iO rt l _
   split
   · exact iO rt l _
   · exact jm (iO rt l _) (iO rt l _)
theorem j8: ∀(l:Nat) {rt:List NQ} {a:NQ},ao l a→b9 rt→o8 rt→l≤rt.length→nL l rt a=aT rt l (cf a)
 | 0,rt,a,ha,hrt,hp,hl=>by
   have hs:=bW ha;have hc:=bH ha;show lA (fun _=>0) (fun a=>a) rt (aq a)=iM (cf a 0);rw[← hc];generalize aq a=s at hs;unfold lA;rcases hs with e | ⟨i,hi,e⟩
   · rw[if_pos e,List.length_eq_zero_iff.1 e];show 0=iM 0;rw[z6]
   · obtain rfl:i=0:=by omega
     have e:s.length=1:=e;rw[if_neg (by omega),if_pos e];rfl
 | l+1,rt,a,ha,hrt,hp,hl=>by
   have hs:=bW ha;have hc:=bH ha;show lA (nL l rt) (iF l rt) rt (aq a)=aT rt (l+1) (cf a);rw[← hc];generalize aq a=s at hs;clear hc ha;unfold lA;by_cases h0:s.length=0
   · rw[if_pos h0,List.length_eq_zero_iff.1 h0];exact(eH rt (l+1)).symm
   rw[if_neg h0];by_cases h1:s.length=1
   · rw[if_pos h1,bw rt (j:=0) (aL (by rw[h1];exact Nat.le_refl _)) (Nat.zero_le _)];rfl
   rw[if_neg h1]
   obtain ⟨j,hj,hsl⟩: ∃j,j≤l∧s.length=2^(j+1):=by
    rcases hs with e | ⟨i,hi,e⟩
    · exact absurd e h0
    · rcases i with _ | j
      · exact absurd e h1
      · exact⟨j,by omega,e⟩
   obtain ⟨e1,e2,e3⟩:=bf hsl;have hx:ao l (s.take (s.length / 2)):= .inr ⟨j,hj,e1⟩;have hy:ao l (s.drop (s.length / 2)):= .inr ⟨j,hj,e2⟩;have hlog:s.length.log2-1=j:=by rw[hsl,Nat.log2_two_pow];omega
   have hdl:(rt.getD j []).length=2^j:=hrt j (by omega);have hd:ao l (rt.getD j []):= .inr ⟨j,hj,hdl⟩;have hn:=Ad hj hsl hrt (by omega)
   have lowN:cg j (bF rt j (cf s)):=fun i hi=>by
    unfold bF;rw[a7 rt j _ _ i hi,a7 rt j _ _ i hi];exact Rat.sub_self
   have lh:cg j (br j (cf s)):=fun i hi=>(aL (l:=j+1) (by omega)) _ (by rw[Nat.pow_succ];omega);have hpj:=hp j (by omega)
   rw[hlog,j8 l hd hrt hp (by omega),j8 l hx hrt hp (by omega),j8 l hy hrt hp (by omega),j8 l hn.1 hrt hp (by omega),hn.2,gy _ e3,
    bw rt (aL (a:=rt.getD j []) (by omega)) hj,bw rt (aL (a:=s.take (s.length / 2)) (by omega)) hj,bw rt lowN hj,jo rt j (dz _ e3),bw rt lh hj,bw rt (a:=cf s) (j:=j+1) (l:=l+1) (aL (by omega)) (by omega)]
   show _=if aT rt j (cf (rt.getD j []))=0 then aT rt j (cf s) else if aT rt j (cf s)=aT rt j (br j (cf s))∨aT rt j (br j (cf s))=0 then aT rt j (cf s) else
    if aT rt j (cf s)=0 then aT rt j (br j (cf s)) else aT rt j (cf s)*aT rt j (bF rt j (cf s))
   have ht:=iO rt j (cf (rt.getD j []));generalize aT rt j (cf (rt.getD j []))=D at hpj ht;unfold sy at ht;rcases ht with rfl | rfl | rfl
   · rw[if_pos rfl,Int.mul_zero,if_pos (.inr rfl)]
   · rw[Int.mul_one,if_neg (show ¬(1:Int)=0 by decide)]
   · omega
end Lift
namespace Lift
open Go Go.Proofs
structure nA (m:Nat) (v:List NQ):Prop where
 l5:v.length≤5
 ro:b9 v
 sz:dN m v
 ps: ∀k,k<v.length→ ¬dc k (v.take k) (v.getD k [])<0
 m2:m≤1000000
 t: ∃m0,1≤m0∧m0≤m∧dN m0 v∧ny v.length m0
theorem nA.m1{m:Nat}{v:List NQ}(V:nA m v):1≤m:=by
 obtain ⟨m0,h1,h2,_⟩:=V.t;omega
theorem nA.of{m:Nat}{rt:List (List RD)}(T:CY m rt)(h:cX rt=0):nA m (rt.map bh):=by
 have W:=C2 T h;exact⟨by rw[W.ln];exact W.l5,W.ro,W.sz,W.ps,T.m2,by rw[W.ln];exact W.t⟩
def fZ(a:NQ):List RD:=a.map Qr
theorem vi(a:NQ):bh (fZ a)=a:=by
 unfold bh fZ;rw[List.map_map];have:(RD.val ∘ Qr)=id:=funext cy;rw[this,List.map_id]
theorem w6(a:NQ):dw (fZ a)=af a:=by
 show D.sl 3 ((a.map Qr).map RD.D)=D.sl 3 (List.map _ a);rw[List.map_map];rfl
theorem iS(a:NQ):(fZ a).length=a.length:=List.length_map ..
theorem tJ{a:NQ}{k:Nat}(h:ar k a):wN k (fZ a):=fun i hi=>by
 rw[iS] at hi;unfold fZ;rw[List.getD_eq_getElem?_getD,List.getElem?_map,List.getElem?_eq_getElem hi];have:=h i;rw[List.getD_eq_getElem?_getD,List.getElem?_eq_getElem hi] at this;exact iK _ this
theorem qp{a:NQ}{l:Nat}(h:ao l a):bQ l (fZ a)=0:=by
 unfold bQ;rw[iS]
 have h1: ¬(a.length≠0∧xl l a.length=false):=fun hs=>by
  rcases h with e | ⟨i,hi,e⟩
  · exact hs.1 e
  · rw[e,ui,decide_eq_true hi] at hs;exact Bool.noConfusion hs.2
 have h2:iz (fZ a)=true:=by
  unfold iz fZ;rw[List.all_map,List.all_eq_true];exact fun q _=>wy q
 rw[if_neg h1,if_neg (by rw[h2];simp)]
def lR(v:List NQ):List (List RD):=v.map fZ
theorem fN(v:List NQ):(lR v).length=v.length:=List.length_map ..
theorem mF(v:List NQ)(i:Nat):(lR v).getD i []=fZ (v.getD i []):=by
 unfold lR;rw[List.getD_eq_getElem?_getD,List.getElem?_map,List.getD_eq_getElem?_getD];cases v[i]? with
 | none=>rfl
 | some x=>rfl
theorem Ai(v:List NQ):(lR v).map bh=v:=by
 unfold lR;rw[List.map_map];have:(bh ∘ fZ)=id:=funext vi;rw[this,List.map_id]
theorem qo(v:List NQ):TrD (lR v)=bP v:=by
 show D.ag [.sl 1 ((v.map fZ).map dw)]=D.ag [.sl 1 (v.map af)];rw[List.map_map];have:(dw ∘ fZ)=af:=funext w6;rw[this]
theorem l9{f:Nat→Nat}: ∀{n i:Nat},(∀j,j<i+n→f j=0)→fE f n i=0
 | 0,i,h=>rfl
 | n+1,i,h=>by
   rw[fE,if_pos (h i (by omega))];exact l9 (fun j hj=>h j (by omega))
theorem nA.raw{m:Nat}{v:List NQ}(V:nA m v):CY m (lR v)∧cX (lR v)=0:=by
 have l5:=V.l5;have hp: ∀i,i<v.length→2^i≤2^5:=fun i hi=>Nat.pow_le_pow_right (by decide) (by omega);obtain ⟨m0,t1,t2,ts,tk⟩:=V.t
 refine⟨⟨⟨m0,t1,t2,fun i hi _=>by rw[mF];exact tJ (ts i),fun _=>by rw[fN];exact tk⟩,V.m2,by rw[fN];omega,fun i hi=>by
  rw[fN] at hi;rw[mF,iS,V.ro i hi];have:=hp i hi
  omega⟩,?_⟩
 unfold cX;rw[fN,if_neg (by omega)];refine l9 fun j hj=>?_;have hj:j<v.length:=by omega
 unfold rM;rw[mF,iS,if_neg (fun h=>h (V.ro j hj)),if_neg (fun h=>h (qp (.inr ⟨j,Nat.le_refl _,V.ro j hj⟩))),vi,List.map_take,Ai,if_neg (V.ps j hj)]
theorem Ce{m:Nat}{v:List NQ}{a:NQ}(V:nA m v)(ha:ao v.length a)(sa:ar m a):Bz m (lR v) (fZ a):=⟨fun _=>tJ sa,by
 have l5:=V.l5;rw[iS]
 exact Nat.le_trans (ha.len (by omega)) (by decide)⟩
theorem ck1{m:Nat}{v:List NQ}{a:NQ}(V:nA m v)(ha:ao v.length a):px (lR v) [fZ a]=0:=by
 unfold px;rw[if_neg (by rw[V.raw.2];simp)];refine l9 fun j hj=>?_;have hj:j<0+1:=hj;obtain rfl:j=0:=by omega
 rw[fN];exact qp ha
def y7(a:NQ):NQ:=aq (aM a)
def Bu(a b:NQ):NQ:=aq (aK a b)
def pb(a b:NQ):NQ:=aq (aK a (aM b))
def mW(v:List NQ)(a b:NQ):NQ:=aq (aR v.length v a b)
theorem CW{l k j:Nat}{a b:NQ}(ha:ao l a)(sa:ar k a)(hb:ao l b)(sb:ar j b):ao l (Bu a b)∧ar (k+j+1) (Bu a b):=aU (ha.plus hb) (sa.plus sb)
theorem BT{l k j:Nat}{a b:NQ}(ha:ao l a)(sa:ar k a)(hb:ao l b)(sb:ar j b):ao l (pb a b)∧ar (k+j+1) (pb a b):=aU (ha.plus hb.minus) (sa.plus sb.minus)
theorem nA.pos{m:Nat}{v:List NQ}(V:nA m v):o8 v:=fun j hj=>by
 have h:=V.ps j hj
 have e: ∀i,i<j→(v.take j).getD i []=v.getD i []:=fun i hi=>by
  rw[List.getD_eq_getElem?_getD,List.getElem?_take_of_lt hi,List.getD_eq_getElem?_getD]
 have ro:b9 (v.take j):=fun i hi=>by
  rw[List.length_take] at hi;rw[e i (by omega)];exact V.ro i (by omega)
 have lt:ao j (v.getD j []):= .inr ⟨j,Nat.le_refl _,V.ro j hj⟩;rw[eW j lt ro (by rw[List.length_take];omega)] at h
 have key: ∀(l:Nat) (a:Cf),l≤j→aT (v.take j) l a=aT v l a∧ ∀b:Cf,mulC (v.take j) l a b=mulC v l a b:=by
  intro l
  induction l with
  | zero=>exact fun a _=>⟨rfl,fun b=>rfl⟩
  | succ l ih =>
    intro a hl;have hm: ∀x y:Cf,mulC (v.take j) l x y=mulC v l x y:=fun x y=>(ih x (by omega)).2 y;have hs: ∀x:Cf,aT (v.take j) l x=aT v l x:=fun x=>(ih x (by omega)).1;refine⟨?_,fun b=>?_⟩
    · unfold aT bF;simp only[hm,hs,e l (by omega)]
    · funext i;show (if i<2^l then mulC (v.take j) l a b i+mulC (v.take j) l (mulC (v.take j) l (br l a) (br l b)) (cf ((v.take j).getD l [])) i else mulC (v.take j) l a (br l b) (i-2^l)+mulC (v.take j) l (br l a) b (i-2^l))=_;simp only[hm,e l (by omega)];rfl
 rw[(key j _ (Nat.le_refl _)).1] at h;omega
end Lift
namespace Lift
open Go Go.Proofs
def ku(R:NQ→NQ)(S:NQ→Int)(N:NQ→NQ)(T:NQ→NQ→NQ)(s:NQ):NQ :=
 if s.length=1 then [1 / s.getD 0 0] else
 if S (N s)=0 then R (aK (s.take (s.length / 2)) (s.take (s.length / 2))) else
 T (cW (s.take (s.length / 2)) (aM (s.drop (s.length / 2))) (s.length / 2)) (R (N s))
def iX:Nat→List NQ→NQ→NQ
 | 0,rt,a=>ku (fun _=>[]) (fun _=>0) (fun a=>a) (fun _ _=>[]) (aq a)
 | l+1,rt,a=>ku (iX l rt) (dc l rt) (dY l rt) (aR (l+1) rt) (aq a)
def EL(O:NQ→Prop)(R:NQ→NQ)(S:NQ→Int)(Sk:NQ→Prop)(N:NQ→NQ)(Nk:NQ→Prop)(Tk:NQ→NQ→Prop)(s:NQ):Prop:=s.length≠0∧(s.length≠1 →
 Nk s∧Sk (N s)∧(S (N s)=0→O (aK (s.take (s.length / 2)) (s.take (s.length / 2)))) ∧
 (S (N s)≠0→O (N s)∧Tk (cW (s.take (s.length / 2)) (aM (s.drop (s.length / 2))) (s.length / 2)) (R (N s))))
def EM:Nat→List NQ→NQ→Prop
 | 0,rt,a=>jI a∧(aq a).length≠0
 | l+1,rt,a=>jI a∧EL (EM l rt) (iX l rt) (dc l rt) (Ar l rt) (dY l rt) (DJ l rt) (y0 (l+1) rt) (aq a)
theorem nI{l:Nat}{a:NQ}(ha:ao l a)(h:(aq a).length=1):(aq a).getD 0 0≠0:=(j4 ha).one h
theorem yr{l:Nat}{R:NQ→NQ}{S:NQ→Int}{N:NQ→NQ}{T:NQ→NQ→NQ}{s:NQ}(hs:ao l s)(h0:s.length≠0)
  (hR: ∀l',l=l'+1→ ∀b,ao l' b→ao l' (R b)) (hN: ∀l',l=l'+1→ ∀j,j≤l'→s.length=2^(j+1)→ao l' (N s)) (hT: ∀b c,ao l b→ao l c→ao l (T b c)):ao l (ku R S N T s):=by
 unfold ku;split
 · exact gB _ _
 rename_i h1
 obtain ⟨i,hi,hla2⟩: ∃i,i≤l∧s.length=2^i:=by
  rcases hs with e | e
  · omega
  · exact e
 have vU:i≠0:=fun e=>h1 (by rw[hla2,e]);obtain ⟨j,rfl⟩: ∃j,i=j+1:=⟨i-1,by omega⟩;obtain ⟨l',rfl⟩: ∃l',l=l'+1:=⟨l-1,by omega⟩;obtain ⟨e1,e2,e3⟩:=bf hla2;have hx:ao l' (s.take (s.length / 2)):= .inr ⟨j,by omega,e1⟩;have hN:=hN l' rfl j (by omega) hla2;split
 · exact(hR l' rfl _ (hx.plus hx)).mono (by omega)
 · exact hT _ _ (.inr ⟨j+1,by omega,by rw[dq,e3,Nat.pow_succ];omega⟩) ((hR l' rfl _ hN).mono (by omega))
theorem gd: ∀(l:Nat) {rt:List NQ} {a:NQ},ao l a→b9 rt→l≤rt.length→ao l (iX l rt a)
 | 0,rt,a,ha,hrt,hl=>by
   have hs:=bW ha;show ao 0 (ku _ _ _ _ _);by_cases h0:(aq a).length=0
   · rw[List.length_eq_zero_iff.1 h0];exact bz _
   · exact yr hs h0 (fun l' h=>by omega) (fun l' h=>by omega) (fun _ _ _ _=>bz _)
 | l+1,rt,a,ha,hrt,hl=>by
   have hs:=bW ha;show ao (l+1) (ku _ _ _ _ _);by_cases h0:(aq a).length=0
   · rw[List.length_eq_zero_iff.1 h0];unfold ku;rw[if_neg (by decide)];split
     · exact(gd l (bz _) hrt (by omega)).mono (by omega)
     · exact dE (l+1) (bz _) ((gd l (by
        obtain ⟨K,k1,_,k3⟩:=sF (dY l rt []) [] rt;unfold dY
        have t0: ∀c,ao l (aR l rt c []):=fun c=>by
         cases l with
         | zero=>show ao 0 (hC _ c []);unfold hC;rw[if_neg (show ¬c.length<([]:NQ).length from Nat.not_lt_zero _)];unfold ga;rw[if_pos (by show (a9 c||true)=true;rw[Bool.or_true])];exact bz _
         | succ l=>show ao (l+1) (hC _ c []);unfold hC;rw[if_neg (show ¬c.length<([]:NQ).length from Nat.not_lt_zero _)];unfold ga;rw[if_pos (by show (a9 c||true)=true;rw[Bool.or_true])];exact bz _
        have e:rt.getD (Nat.log2 ([]:NQ).length-1) []=rt.getD 0 []:=rfl;have hd:ao l (rt.getD 0 []):= .inr ⟨0,Nat.zero_le _,hrt 0 (by omega)⟩
        exact(t0 []).plus (dE l (t0 []) hd hrt (by omega)).minus) hrt (by omega)).mono (by omega)) hrt hl
   · exact yr hs h0 (fun l' e b hb=>by
      obtain rfl:l=l':=by omega
      exact gd l hb hrt (by omega)) (fun l' e j h1 h2=>by
      obtain rfl:l=l':=by omega
      exact pK h1 h2 hrt (by omega)) (fun b c hb hc=>dE (l+1) hb hc hrt hl)
set_option maxHeartbeats 1600000 in
theorem vT{l:Nat}{O:NQ→Prop}{R:NQ→NQ}{S:NQ→Int}{Sk:NQ→Prop}{N:NQ→NQ}{Nk:NQ→Prop}{T:NQ→NQ→NQ}{Tk:NQ→NQ→Prop}{rt:List NQ}{a:NQ}(ha:ao l a)(hl5:l≤5)(hl:l≤rt.length)(hl10:rt.length≤10)(sa:jI a)(h0:(aq a).length≠0)
  (hok:l≠0→EL O R S Sk N Nk Tk (aq a))
  (hR: ∀l',l=l'+1→ ∀b,ao l' b→O b→Pure Tryz.prog 131 [bP rt,af b] (af (R b)))
  (hRl: ∀l',l=l'+1→ ∀b,ao l' b→ao l' (R b))
  (hS: ∀l',l=l'+1→ ∀b,ao l' b→Sk b→Pure Tryz.prog 64 [bP rt,af b] (dI (S b)))
  (hN: ∀l',l=l'+1→ ∀b j,j≤l'→b.length=2^(j+1)→Nk b→Pure Tryz.prog 109 [bP rt,af b] (af (N b))∧ao l' (N b))
  (hT: ∀b c,ao l b→ao l c→Tk b c→Pure Tryz.prog 63 [bP rt,af b,af c] (af (T b c))):
  Pure Tryz.prog 131 [bP rt,af a] (af (ku R S N T (aq a))):=by
 refine qJ 57 Tryz.func131 rfl rfl rfl rfl (by kernel_rfl) (fun B F0 w0=>?_);have cs:=bV a ha hl5 sa (by omega);have hone:=nI ha;obtain ⟨ha,sa⟩:=aU ha sa;generalize aq a=b at cs ha sa hok hone h0 ⊢;have hlb:=ha.len (by omega);unfold ku;refine qX 2 rfl ?_;refine qK 1 rfl ?_;refine ab.call tok rfl rfl rfl rfl cs ?_;refine qU 1 rfl ?_;refine qI ?_;refine qX 2 rfl ?_;rw[List.length_map];refine qU 1 rfl ?_;refine ab.nil ?_;by_cases h1:b.length=1
 · have g:=jR (r:=b) (i:=0) (by omega);have cq:=pw (Qr 1) (Qr (b.getD 0 0)) (iK 1 (by have:=oG;omega)) (iK _ (sa 0)) (by omega) (by rw[cy];exact hone h1);rw[cy,cy] at cq;rw[if_pos h1,beq_iff_eq.2 (show (b.length:Int)=1 by omega)];refine AW.aH rfl ?_;refine AW.seq ?_;refine AW.lK tok aN [(7,true),(1,false),(1,true)] 9 [5] (by kernel_rfl) ⟨rfl,?_⟩;refine ae.call tok rfl rfl rfl rfl rfl (fe 1 (by decide) (by decide)) ?_;refine qP 1 rfl ?_;refine ae.idx tok (Qr (b.getD 0 0)).D rfl rfl rfl rfl rfl (Int.le_refl _) g ?_;refine qP 1 rfl ?_;refine ae.call tok rfl rfl rfl rfl rfl cq ?_;refine qP 2 rfl ?_;refine ae.nil ⟨rfl,?_⟩;refine qP 1 rfl ?_;refine ae.nil ⟨rfl,?_⟩;refine qP 1 rfl ?_;refine ae.nil ⟨_,mj.cons (.bx rfl) (mj.nil),?_⟩;refine qU 1 rfl ?_;refine qK 1 rfl ?_;refine ab.fU tok rfl rfl rfl rfl rfl ?_;refine qU 1 rfl ?_;exact qN rfl
 rw[if_neg h1,beq_eq_false_iff_ne.2 (show (b.length:Int)≠1 by omega)];refine AW.aB rfl ?_;refine AW.skip ?_
 obtain ⟨i,hi,hla2⟩: ∃i,i≤l∧b.length=2^i:=by
  rcases ha with e | e
  · omega
  · exact e
 have vU:i≠0:=fun e=>h1 (by rw[hla2,e]);obtain ⟨j,rfl⟩: ∃j,i=j+1:=⟨i-1,by omega⟩;obtain ⟨l',rfl⟩: ∃l',l=l'+1:=⟨l-1,by omega⟩;have hj:j≤l':=by omega
 obtain ⟨_,o1⟩:=hok (by omega);obtain ⟨oN,oS,oz,oi⟩:=o1 h1;have hN:=hN l' rfl b j hj hla2 oN;have hS:=hS l' rfl _ hN.2 oS;obtain ⟨e1,e2,e3⟩:=bf hla2;obtain ⟨n,hn⟩: ∃n,n=b.length / 2:=⟨_,rfl⟩;rw[← hn] at e1 e2 e3 oz oi ⊢
 have hn2:b.length=n+n:=by
  have:2^(j+1)=2^j*2:=Nat.pow_succ ..;omega
 have hx:ao l' (b.take n):= .inr ⟨j,hj,e1⟩;have hy:ao l' (b.drop n):= .inr ⟨j,hj,e2⟩;refine qX 2 rfl ?_;rw[List.length_map];refine ab.div tok rfl rfl rfl rfl (by decide) ?_;rw[fq _ (by omega),← hn];refine qU 1 rfl ?_;refine qK 2 rfl ?_;refine ab.call tok rfl rfl rfl rfl hN.1 ?_;refine qU 1 rfl ?_;refine qI ?_;refine qX 2 rfl ?_;refine ab.call tok rfl rfl rfl rfl hS ?_;refine qU 1 rfl ?_;refine ab.nil ?_;by_cases hz:S (N b)=0
 · have ci:=hR l' rfl _ (hx.plus hx) (oz hz);have cp:=dn (b.take n) (b.take n) (sa.take n) (sa.take n) (by omega) (by rw[e1];omega) (by rw[e1];omega);rw[if_pos hz,beq_iff_eq.2 hz];refine AW.aH rfl ?_;refine AW.seq ?_;refine AW.draw aN 9 (by kernel_rfl) ?_;refine qP 3 rfl ?_;refine ae.eS tok (a:=b) (b.take n) rfl rfl rfl rfl rfl trivial (Int.natCast_nonneg n) (Nat.zero_le _) (show n≤b.length by omega) rfl ?_;refine qP 2 rfl ?_;refine ae.eS tok (a:=b) (b.take n) rfl rfl rfl rfl rfl trivial (Int.natCast_nonneg n) (Nat.zero_le _) (show n≤b.length by omega) rfl ?_;refine ae.call tok rfl rfl rfl rfl rfl cp ?_;refine ae.call tok rfl rfl rfl rfl rfl ci ?_;refine ae.nil ?_;refine qU 1 rfl ?_;exact qN rfl
 obtain ⟨o2,o3⟩:=oi hz;have ci:=hR l' rfl _ hN.2 o2;have cm:=dC (b.drop n) (sa.drop n) (by omega) (by rw[e2];omega);have cj:=iE (b.take n) (aM (b.drop n)) n (by omega);have ct:=hT _ _ (.inr ⟨j+1,by omega,by rw[dq,e3,Nat.pow_succ];omega⟩) ((hRl l' rfl _ hN.2).mono (by omega)) o3;rw[if_neg hz,beq_eq_false_iff_ne.2 hz];refine AW.aB rfl ?_;refine AW.skip (AW.seq ?_);refine AW.draw aN 14 (by kernel_rfl) ?_;refine qP 3 rfl ?_;refine ae.eS tok (a:=b) (b.take n) rfl rfl rfl rfl rfl trivial (Int.natCast_nonneg n) (Nat.zero_le _) (show n≤b.length by omega) rfl ?_;refine qP 2 rfl ?_;refine ae.eS tok (a:=b) (b.drop n) rfl rfl rfl rfl rfl (Int.natCast_nonneg n) trivial (show n≤b.length by omega) (Nat.le_refl _) (by show (b.take b.length).drop n=_;rw[List.take_length]) ?_;refine ae.call tok rfl rfl rfl rfl rfl cm ?_;refine qP 1 rfl ?_;refine ae.call tok rfl rfl rfl rfl rfl cj ?_;refine qP 2 rfl ?_;refine ae.call tok rfl rfl rfl rfl rfl ci ?_;refine ae.call tok rfl rfl rfl rfl rfl ct ?_;refine ae.nil ?_;refine qU 1 rfl ?_;exact qN rfl
theorem ij: ∀(l:Nat) {rt:List NQ} {a:NQ},ao l a→l≤5→b9 rt→l≤rt.length→rt.length≤10→EM l rt a→Pure Tryz.prog 131 [bP rt,af a] (af (iX l rt a))
 | 0,rt,a,ha,hl5,hrt,hl,hl10,hok=>vT (O:=fun _=>True) (Sk:=fun _=>True) (Nk:=fun _=>True) (Tk:=fun _ _=>False) ha hl5 hl hl10 hok.1 hok.2 (fun h=>absurd rfl h) (fun l' h=>by omega) (fun l' h=>by omega) (fun l' h=>by omega) (fun l' h=>by omega) (fun _ _ _ _ h=>h.elim)
 | l+1,rt,a,ha,hl5,hrt,hl,hl10,hok=>vT (O:=EM l rt) (Sk:=Ar l rt) (Nk:=DJ l rt) (Tk:=y0 (l+1) rt) ha hl5 hl hl10 hok.1 hok.2.1 (fun _=>hok.2) (fun l' e b h1 h2=>by
    obtain rfl:l=l':=by omega
    exact ij l h1 (by omega) hrt (by omega) hl10 h2) (fun l' e b h1=>by
    obtain rfl:l=l':=by omega
    exact gd l h1 hrt (by omega)) (fun l' e b h1 h2=>by
    obtain rfl:l=l':=by omega
    exact cQ l h1 (by omega) hrt (by omega) hl10 h2) (fun l' e b j h1 h2 h3=>by
    obtain rfl:l=l':=by omega
    exact⟨jW h1 h2 hrt (by omega) hl10 h3,pK h1 h2 hrt (by omega)⟩) (fun b c h1 h2 h3=>bM (l+1) h1 h2 hrt hl hl10 h3)
end Lift
namespace Lift
open Go Go.Proofs
def lL(v:List NQ):Prop:= ∃m,nA m v
theorem nA.a{m:Nat}{v:List NQ}(V:nA m v):lL v:=⟨m,V⟩
theorem lL.l5{v:List NQ}(V:lL v):v.length≤5:=V.elim fun _ V=>V.l5
theorem lL.ro{v:List NQ}(V:lL v):b9 v:=V.elim fun _ V=>V.ro
def r6(v:List NQ)(a b:NQ):NQ:=aq (aR v.length v a (iX v.length v b))
def pc(v:List NQ)(a:NQ):Int:=dc v.length v a
def yj(v:List NQ)(a b:NQ):Prop:=jI a∧jI b∧y0 v.length v a b∧jI (aR v.length v a b)
def EO(a b:NQ):Prop:=jI a∧jI b∧jI (aK a b)
def Ao(a b:NQ):Prop:=jI a∧jI b∧jI (aK a (aM b))
def As(v:List NQ)(a b:NQ):Prop:=jI a∧jI b∧Ar v.length v b∧pc v b≠0∧EM v.length v b∧y0 v.length v a (iX v.length v b)∧jI (aR v.length v a (iX v.length v b))
def vz(v:List NQ)(a:NQ):Prop:=Ar v.length v a
theorem vz.sz{v:List NQ}{a:NQ}(h:vz v a):jI a:=Ar.sz h
theorem yJ{v:List NQ}(V:lL v)(l:List NQ)(hl:l.length≤1000000)(h: ∀i,i<l.length→ao v.length (l.getD i [])∧jI (l.getD i [])):Pure Tryz.prog 61 [bP v,.sl 1 (l.map af)] aj:=by
 obtain ⟨m,V⟩:=V;obtain ⟨m0,t1,t2,tw,tk⟩:=V.raw.1.t;have l5:=V.l5
 have g: ∀i,(l.map fZ).getD i []=fZ (l.getD i []):=fun i=>by
  rw[List.getD_eq_getElem?_getD,List.getElem?_map,List.getD_eq_getElem?_getD];cases l[i]? with
  | none=>rfl
  | some x=>rfl
 have c:=jH (lR v) (l.map fZ) (mn:=17300000000000) tw t1 V.raw.1.l V.raw.1.ll tk (fun i hi=>by
  rw[List.length_map] at hi;rw[g];exact fun _=>tJ (h i hi).2) (by rw[List.length_map];exact hl) (fun i hi=>by
  rw[List.length_map] at hi
  rw[g,iS];exact Nat.le_trans ((h i hi).1.len (by omega)) (by decide)) (by omega)
 have e:px (lR v) (l.map fZ)=0:=by
  unfold px;rw[if_neg (by rw[V.raw.2];simp)];refine l9 fun j hj=>?_;rw[List.length_map] at hj;rw[fN,g];exact qp (h j (by omega)).1
 rw[e,qo,List.map_map,show (dw ∘ fZ)=af from funext w6] at c;exact c
theorem wk{v:List NQ}{a:NQ}(V:lL v)(ha:ao v.length a)(sa:jI a):Pure Tryz.prog 61 [bP v,.sl 1 [af a]] aj :=
 yJ V [a] (show 1≤1000000 by decide) (fun i hi=>by
  have:i<1:=hi;obtain rfl:i=0:=by omega
  exact⟨ha,sa⟩)
theorem nq{v:List NQ}{a b:NQ}(V:lL v)(ha:ao v.length a)(sa:jI a)(hb:ao v.length b)(sb:jI b):Pure Tryz.prog 61 [bP v,.sl 1 [af a,af b]] aj :=
 yJ V [a,b] (show 2≤1000000 by decide) (fun i hi=>by
  have:i<2:=hi
  match i,this with
  | 0,_=>exact⟨ha,sa⟩
  | 1,_=>exact⟨hb,sb⟩)
theorem qc{v:List NQ}{a:NQ}(V:lL v)(ha:ao v.length a)(sa:jI a):Pure Tryz.prog 91 [bP v,af a] (.tu [af (y7 a),aj]):=by
 refine qJ 17 Tryz.func91 rfl rfl rfl rfl (by kernel_rfl) (fun B0 F0 w0=>?_);have hl5:=V.l5;have hro:=V.ro;have cc:=wk V ha sa;have c1:=dC a sa (by omega) (Nat.le_trans (ha.len (by omega)) (by decide));have c2:=bV (aM a) ha.minus hl5 sa.minus (by omega);refine qX 3 rfl ?_;refine qI ?_;refine qX 2 rfl ?_;refine ab.fU tok rfl rfl rfl rfl rfl ?_;refine ab.call tok rfl rfl rfl rfl cc ?_;refine qU 1 rfl ?_;refine qK 1 rfl ?_;refine ab.err tok rfl rfl rfl rfl rfl ?_;refine ab.nil ?_;refine AW.aB rfl ?_
 · refine AW.skip ?_;refine qX 1 rfl ?_;refine ab.call tok rfl rfl rfl rfl c1 ?_;refine ab.call tok rfl rfl rfl rfl c2 ?_;refine qU 2 rfl ?_;exact qN rfl
theorem wI{v:List NQ}{a:NQ}{b:NQ}(V:lL v)(ha:ao v.length a)(hb:ao v.length b)(ok:Ao a b):Pure Tryz.prog 132 [bP v,af a,af b] (.tu [af (pb a b),aj]):=by
 refine qJ 22 Tryz.func132 rfl rfl rfl rfl (by kernel_rfl) (fun B0 F0 w0=>?_);have hl5:=V.l5;have hro:=V.ro;obtain ⟨sa,sb,sc⟩:=ok;have cc:=nq V ha sa hb sb;have c0:=dC b sb (by omega) (Nat.le_trans (hb.len (by omega)) (by decide));have c1:=dn a (aM b) sa sb.minus (by omega) (Nat.le_trans (ha.len (by omega)) (by decide)) (Nat.le_trans (hb.minus.len (by omega)) (by decide));have c2:=bV (aK a (aM b)) (ha.plus hb.minus) hl5 sc (by omega);refine qX 3 rfl ?_;refine qI ?_;refine qX 3 rfl ?_;refine ab.fU tok rfl rfl rfl rfl rfl ?_;refine ab.call tok rfl rfl rfl rfl cc ?_;refine qU 1 rfl ?_;refine qK 1 rfl ?_;refine ab.err tok rfl rfl rfl rfl rfl ?_;refine ab.nil ?_;refine AW.aB rfl ?_
 · refine AW.skip ?_;refine qX 2 rfl ?_;refine ab.call tok rfl rfl rfl rfl c0 ?_;refine ab.call tok rfl rfl rfl rfl c1 ?_;refine ab.call tok rfl rfl rfl rfl c2 ?_;refine qU 2 rfl ?_;exact qN rfl
theorem qd{v:List NQ}{a:NQ}{b:NQ}(V:lL v)(ha:ao v.length a)(hb:ao v.length b)(ok:yj v a b):Pure Tryz.prog 28 [bP v,af a,af b] (.tu [af (mW v a b),aj]):=by
 refine qJ 22 Tryz.func28 rfl rfl rfl rfl (by kernel_rfl) (fun B0 F0 w0=>?_);have hl5:=V.l5;have hro:=V.ro;obtain ⟨sa,sb,st,sc⟩:=ok;have cc:=nq V ha sa hb sb;have c1:=bM v.length ha hb hro (Nat.le_refl _) (by omega) st;have c2:=bV _ (dE v.length ha hb hro (Nat.le_refl _)) hl5 sc (by omega);refine qX 3 rfl ?_;refine qI ?_;refine qX 3 rfl ?_;refine ab.fU tok rfl rfl rfl rfl rfl ?_;refine ab.call tok rfl rfl rfl rfl cc ?_;refine qU 1 rfl ?_;refine qK 1 rfl ?_;refine ab.err tok rfl rfl rfl rfl rfl ?_;refine ab.nil ?_;refine AW.aB rfl ?_
 · refine AW.skip ?_;refine qX 3 rfl ?_;refine ab.call tok rfl rfl rfl rfl c1 ?_;refine ab.call tok rfl rfl rfl rfl c2 ?_;refine qU 2 rfl ?_;exact qN rfl
theorem wJ{v:List NQ}{a:NQ}{b:NQ}(V:lL v)(ha:ao v.length a)(hb:ao v.length b)(ok:As v a b):Pure Tryz.prog 89 [bP v,af a,af b] (.tu [af (r6 v a b),aj]):=by
 refine qJ 29 Tryz.func89 rfl rfl rfl rfl (by kernel_rfl) (fun B0 F0 w0=>?_);have hl5:=V.l5;have hro:=V.ro;obtain ⟨sa,sb,sg,s0,si,st,sc⟩:=ok;have cc:=nq V ha sa hb sb;have hi:=gd v.length hb hro (Nat.le_refl _);have c0:=cQ v.length hb hl5 hro (Nat.le_refl _) (by omega) sg;have c1:=ij v.length hb hl5 hro (Nat.le_refl _) (by omega) si;have c2:=bM v.length ha hi hro (Nat.le_refl _) (by omega) st;have c3:=bV _ (dE v.length ha hi hro (Nat.le_refl _)) hl5 sc (by omega);change dc v.length v b≠0 at s0;unfold r6;generalize dc v.length v b=z at c0 s0;refine qX 3 rfl ?_;refine qI ?_;refine qX 3 rfl ?_;refine ab.fU tok rfl rfl rfl rfl rfl ?_;refine ab.call tok rfl rfl rfl rfl cc ?_;refine qU 1 rfl ?_;refine qK 1 rfl ?_;refine ab.err tok rfl rfl rfl rfl rfl ?_;refine ab.nil ?_;refine AW.aB rfl ?_
 · refine AW.skip (AW.seq ?_);refine qX 2 rfl ?_;refine ab.call tok rfl rfl rfl rfl c0 ?_;refine qU 1 rfl ?_;refine ab.nil ?_;rw[beq_eq_false_iff_ne.2 s0];refine AW.aB rfl ?_
   · refine AW.skip (AW.seq ?_);refine AW.draw aN 7 (by kernel_rfl) ?_;refine qP 4 rfl ?_;refine ae.call tok rfl rfl rfl rfl rfl c1 ?_;refine ae.call tok rfl rfl rfl rfl rfl c2 ?_;refine ae.call tok rfl rfl rfl rfl rfl c3 ?_;refine ae.nil ?_;refine qU 2 rfl ?_;exact qN rfl
theorem uT{v:List NQ}{a:NQ}(V:lL v)(ha:ao v.length a)(ok:vz v a):Pure Tryz.prog 29 [bP v,af a] (.tu [dI (pc v a),aj]):=by
 refine qJ 17 Tryz.func29 rfl rfl rfl rfl (by kernel_rfl) (fun B0 F0 w0=>?_);have hl5:=V.l5;have hro:=V.ro;have cc:=wk V ha ok.sz;have c1:=cQ v.length ha hl5 hro (Nat.le_refl _) (by omega) ok;refine qX 3 rfl ?_;refine qI ?_;refine qX 2 rfl ?_;refine ab.fU tok rfl rfl rfl rfl rfl ?_;refine ab.call tok rfl rfl rfl rfl cc ?_;refine qU 1 rfl ?_;refine qK 1 rfl ?_;refine ab.err tok rfl rfl rfl rfl rfl ?_;refine ab.nil ?_;refine AW.aB rfl ?_
 · refine AW.skip ?_;refine qX 2 rfl ?_;refine ab.call tok rfl rfl rfl rfl c1 ?_;refine qU 2 rfl ?_;exact qN rfl
end Lift
namespace Lift
theorem wS(x:Rat)(h:0<x):iM x=1:=by
 have:=mC.2 h;rcases eI x with e | e | e<;>omega
theorem DG(x:Rat)(h:x<0):iM x= -1:=by
 have:=tC.2 h;rcases eI x with e | e | e<;>omega
theorem yU(x y:Rat):iM (x*y)=iM x*iM y:=by
 have key: ∀{x y:Rat},0<x→iM (x*y)=iM y:=fun {x y} hx=>by
  rcases eI y with e | e | e
  · rw[gN.1 e,Rat.mul_zero]
  · have h:=Rat.mul_pos hx (mC.1 (show 0<iM y by omega));rw[e,wS _ h]
  · have h:=Rat.mul_pos hx (show 0< -y from by have:=tC.1 (show iM y<0 by omega);grind);rw[e,DG]
    grind
 rcases eI x with e | e | e
 · rw[gN.1 e,Rat.zero_mul,gN.2 rfl,Int.zero_mul]
 · rw[e,Int.one_mul];exact key (mC.1 (by omega))
 · have hx:0< -x:=by have:=tC.1 (show iM x<0 by omega);grind
   have h:=key (y:=y) hx;have h2:=qk (x*y);rw[show -(x*y)= -x*y by grind,h] at h2;rw[e];omega
def mQ:Cf:=fun i=>if i=0 then 1 else 0
def EG:OR where
 T:=Rat
 add:=(· + ·)
 mul:=(· * ·)
 neg:=(- ·)
 z:=0
 o:=1
 ac:=Rat.add_comm
 aa:=Rat.add_assoc
 az:=Rat.add_zero
 an:=Rat.add_neg_cancel
 mc:=Rat.mul_comm
 ma:=Rat.mul_assoc
 mo:=Rat.mul_one
 md:=Rat.mul_add
 sgn:=iM
 s3 x:=by rcases eI x with h | h | h<;>omega
 sn:=qk
 sm:=yU
 sp x y hx hy:=by
  have h1:=mC.1 (show 0<iM x by omega);have h2:=mC.1 (show 0<iM y by omega);exact wS _ (by grind)
 s0 x y hx:=by
  rw[gN.1 hx];show iM (0+y)=iM y;rw[Rat.zero_add]
 s1:=wS 1 (by decide)
theorem Aj(x:Rat)(h:x≠0):iM (x*x⁻¹ + -1)=0:=by
 rw[Rat.mul_inv_cancel _ h];exact gN.2 (Rat.add_neg_cancel 1)
theorem Ak:EG.Inv:=fun x hx=>⟨_,Aj x (fun e=>hx (gN.2 e))⟩
structure Ev (v:List NQ) (l:Nat) where
 R:OR
 of:Cf→R.T
 inv:R.Inv
 add: ∀a b:Cf,of (fun i=>a i+b i)=of a+of b
 neg: ∀a:Cf,of (fun i=> -a i)= -of a
 mul: ∀a b:Cf,of (mulC v l a b)=of a*of b
 one:of mQ=1
 zero:of zC=0
 sgn: ∀a:Cf,R.sgn (of a)=aT v l a
 inj: ∀a b:Cf,of a=of b→ic l a b
 cong: ∀a b:Cf,ic l a b→of a=of b
theorem Ev.sub{v:List NQ}{l:Nat}(T:Ev v l)(a b:Cf):T.of (fun i=>a i-b i)=T.of a-T.of b:=by
 rw[Rg.sub_def,← T.neg,← T.add]
 congr 1
 funext i;exact Rat.sub_eq_add_neg ..
def Fu(v:List NQ):Ev v 0 where
 R:=EG
 of a:=a 0
 inv:=Ak
 add _ _:=rfl
 neg _:=rfl
 mul a b:=by
  show (if (0:Nat)=0 then a 0*b 0 else 0)=_;rw[if_pos rfl];rfl
 one:=rfl
 zero:=rfl
 sgn _:=rfl
 inj a b h i hi:=by
  obtain rfl:i=0:=by have:i<1:=hi;omega
  exact h
 cong a b h:=h 0 (by decide)
theorem AQ(l:Nat):br l zC=zC:=rfl
theorem CB(l:Nat):br l mQ=zC:=funext fun i=>by
 have hp:0<2^l:=Nat.pow_pos (by decide);show (if 2^l+i=0 then (1:Rat) else 0)=0;rw[if_neg (by omega)]
def Dt{v:List NQ}{l:Nat}(T:Ev v l)(hd:0≤aT v l (cf (v.getD l []))):Ev v (l+1) where
 R:=T.R.ext (T.of (cf (v.getD l []))) (by rw[T.sgn];exact hd)
 of a:=(T.of a,T.of (br l a))
 inv:=OR.CI T.inv _
 add a b:=Prod.ext (T.add a b) (T.add (br l a) (br l b))
 neg a:=Prod.ext (T.neg a) (T.neg (br l a))
 mul a b:=by
  refine Prod.ext ?_ ?_
  · show T.of (mulC v (l+1) a b)=T.of a*T.of b+T.of (br l a)*T.of (br l b)*T.of (cf (v.getD l []));rw[← T.mul,← T.mul,← T.mul,← T.add];refine T.cong _ _ fun i hi=>?_;show (if i<2^l then _ else _)=_;rw[if_pos hi]
  · show T.of (br l (mulC v (l+1) a b))=T.of a*T.of (br l b)+T.of (br l a)*T.of b;rw[← T.mul,← T.mul,← T.add];refine T.cong _ _ fun i hi=>?_;show (if 2^l+i<2^l then _ else _)=_;rw[if_neg (by omega),Nat.add_sub_cancel_left]
 one:=Prod.ext T.one (by show T.of (br l mQ)=0;rw[CB,T.zero])
 zero:=Prod.ext T.zero (by show T.of (br l zC)=0;rw[AQ,T.zero])
 sgn a:=by
  show OR.es T.R (T.of (cf (v.getD l []))) (T.of a,T.of (br l a))=aT v (l+1) a;unfold OR.es aT;simp only[];rw[T.sgn,T.sgn,T.sgn,← T.mul,← T.mul,← T.mul,← T.sub,T.sgn];rfl
 inj a b h i hi:=by
  have h1:=T.inj _ _ (congrArg Prod.fst h);have h2:=T.inj _ _ (congrArg Prod.snd h);by_cases c:i<2^l
  · exact h1 i c
  · rw[Nat.pow_succ] at hi;have:=h2 (i-2^l) (by omega);have:a (2^l+(i-2^l))=b (2^l+(i-2^l)):=this
    rwa [show 2^l+(i-2^l)=i by omega] at this
 cong a b h:=Prod.ext (T.cong _ _ h.down) (T.cong _ _ h.hi)
theorem Ep{v:List NQ}(hp:o8 v): ∀l,l≤v.length→Nonempty (Ev v l)
 | 0,_=>⟨Fu v⟩
 | l+1,hl=>by
   obtain ⟨T⟩:=Ep hp l (by omega);exact⟨Dt T (hp l (by omega))⟩
theorem vx(l:Nat):cg l mQ:=fun i hi=>by
 have hp:0<2^l:=Nat.pow_pos (by decide);exact if_neg (by omega)
def lf(a b:Cf):Cf:=fun i=>a i-b i
theorem cg.sub{l:Nat}{a b:Cf}(ha:cg l a)(hb:cg l b):cg l (lf a b):=fun i hi=>by
 show a i-b i=0;rw[ha i hi,hb i hi];exact Rat.sub_self
theorem DU{v:List NQ}(hrt:b9 v)(hp:o8 v): ∀(l:Nat) {a:NQ},ao l a→l≤v.length→aT v l (cf a)≠0→aT v l (lf (mulC v l (cf a) (cf (iX l v a))) mQ)=0:=by
 have one: ∀(l:Nat) (s:NQ),l≤v.length→s.length=1→s.getD 0 0≠0→aT v l (lf (mulC v l (cf s) (cf [1 / s.getD 0 0])) mQ)=0:=fun l s hl h1 h0=>by
  have e:mulC v l (cf s) (cf [1 / s.getD 0 0])=mQ:=by
   rw[b7 v (aL (a:=s) (l:=0) (by rw[h1];exact Nat.le_refl _)) (aL (a:=[1 / s.getD 0 0]) (l:=0) (by exact Nat.le_refl _)) (Nat.zero_le l)];funext i;show (if i=0 then s.getD 0 0*(1 / s.getD 0 0) else 0)=if i=0 then 1 else 0
   split
   · rw[Rat.div_def,Rat.one_mul,Rat.mul_inv_cancel _ h0]
   · rfl
  rw[e,show lf mQ mQ=zC from funext fun i=>Rat.sub_self];exact eH v l
 intro l
 induction l with
 | zero =>
   intro a ha hl h;have hs:=bW ha;have hc:=bH ha;have ho:=nI ha;show aT v 0 (lf (mulC v 0 (cf a) (cf (ku _ _ _ _ (aq a)))) mQ)=0;rw[← hc] at h ⊢;generalize aq a=s at *;rcases hs with e | ⟨i,hi,e⟩
   · rw[List.length_eq_zero_iff.1 e] at h;exact absurd (eH v 0) h
   · obtain rfl:i=0:=by omega
     unfold ku;rw[if_pos e];exact one 0 s (Nat.zero_le _) e (ho e)
 | succ l ih =>
   intro a ha hl h;have hs:=bW ha;have hc:=bH ha;have ho:=nI ha;show aT v (l+1) (lf (mulC v (l+1) (cf a) (cf (ku (iX l v) (dc l v) (dY l v) (aR (l+1) v) (aq a)))) mQ)=0;rw[← hc] at h ⊢;generalize aq a=s at *;by_cases h0:s.length=0
   · rw[List.length_eq_zero_iff.1 h0] at h;exact absurd (eH v (l+1)) h
   unfold ku;by_cases h1:s.length=1
   · rw[if_pos h1];exact one (l+1) s hl h1 (ho h1)
   rw[if_neg h1]
   obtain ⟨j,hj,hsl⟩: ∃j,j≤l∧s.length=2^(j+1):=by
    rcases hs with e | ⟨i,hi,e⟩
    · exact absurd e h0
    · rcases i with _ | j
      · exact absurd e h1
      · exact⟨j,by omega,e⟩
   obtain ⟨e1,e2,e3⟩:=bf hsl;have hx:ao l (s.take (s.length / 2)):= .inr ⟨j,hj,e1⟩;have hy:ao l (s.drop (s.length / 2)):= .inr ⟨j,hj,e2⟩;have hn:=pL hj hsl hrt (by omega);have ex:ic j (cf (s.take (s.length / 2))) (cf s):=dz _ e3;have ey:cf (s.drop (s.length / 2))=br j (cf s):=gy _ e3
   have lowN:cg j (bF v j (cf s)):=fun i hi=>by
    unfold bF;rw[a7 v j _ _ i hi,a7 v j _ _ i hi];exact Rat.sub_self
   have ls:cg (j+1) (cf s):=aL (by omega);have lx:cg j (cf (s.take (s.length / 2))):=aL (by omega);obtain ⟨Tj⟩:=Ep hp j (by omega);have hdj:=hp j (by omega)
   let T:=Dt Tj hdj
   obtain ⟨Tl⟩:=Ep hp l (by omega);obtain ⟨TL⟩:=Ep hp (l+1) hl;rw[eW l hn.1 hrt (by omega),hn.2,bw v lowN hj];rw[bw v ls (by omega)] at h
   have hT:Tj.R.sgn (OR.nr (Tj.of (cf (v.getD j []))) (T.of (cf s)))=aT v j (bF v j (cf s)):=by
    rw[← Tj.sgn]
    congr 1
    show Tj.of (cf s)*Tj.of (cf s) -Tj.of (br j (cf s))*Tj.of (br j (cf s))*Tj.of (cf (v.getD j []))=Tj.of (bF v j (cf s));rw[← Tj.mul,← Tj.mul,← Tj.mul,← Tj.sub];rfl
   by_cases hN:aT v j (bF v j (cf s))=0
   · rw[if_pos hN];have hxx:ao l (aK (s.take (s.length / 2)) (s.take (s.length / 2))):=hx.plus hx;have cxx:cf (aK (s.take (s.length / 2)) (s.take (s.length / 2)))=fun i=>cf (s.take (s.length / 2)) i+cf (s.take (s.length / 2)) i:=funext fun i=>dX _ _ i
     have lxx:cg j (cf (aK (s.take (s.length / 2)) (s.take (s.length / 2)))):=by
      rw[cxx];exact fun i hi=>by
       show _+_=(0:Rat);rw[lx i hi];exact Rat.add_zero 0
     have F:T.R.sgn (-Tj.of (cf s),Tj.of (br j (cf s)))=0∧Tj.R.sgn (Tj.of (cf s)+Tj.of (cf s))≠0:=by
      have hes:T.R.sgn (T.of (cf s))≠0:=by rw[T.sgn];exact h
      exact OR.Bc (R:=Tj.R) (d:=Tj.of (cf (v.getD j []))) (by rw[Tj.sgn];exact hdj) hes (by
       have h5:=hT;rw[hN] at h5;exact h5)
     have hr:=ih hxx (by omega) (by
      rw[bw v lxx hj,← Tj.sgn,cxx,Tj.add,Tj.cong _ _ ex]
      exact F.2)
     obtain ⟨r,hrr⟩: ∃r,iX l v (aK (s.take (s.length / 2)) (s.take (s.length / 2)))=r:=⟨_,rfl⟩;have hrl:ao l r:=by rw[← hrr];exact gd l hxx hrt (by omega)
     rw[hrr] at hr ⊢
     have g1:aT v (l+1) (lf (cf s) (cf (aK (s.take (s.length / 2)) (s.take (s.length / 2)))))=0:=by
      rw[bw v (ls.sub (lxx.mono (by omega))) (by omega),← T.sgn]
      have:T.of (lf (cf s) (cf (aK (s.take (s.length / 2)) (s.take (s.length / 2)))))=(-Tj.of (cf s),Tj.of (br j (cf s))):=by
       refine Prod.ext ?_ ?_
       · show Tj.of (lf (cf s) (cf (aK (s.take (s.length / 2)) (s.take (s.length / 2)))))= -Tj.of (cf s);rw[show Tj.of (lf (cf s) (cf (aK (s.take (s.length / 2)) (s.take (s.length / 2)))))=Tj.of (cf s) -Tj.of (cf (aK (s.take (s.length / 2)) (s.take (s.length / 2)))) from Tj.sub _ _,cxx,Tj.add,Tj.cong _ _ ex];exact Rg.fp [Tj.of (cf s)] (X0-(X0+X0)) (-X0) rfl
       · show Tj.of (br j (lf (cf s) (cf (aK (s.take (s.length / 2)) (s.take (s.length / 2))))))=Tj.of (br j (cf s));refine Tj.cong _ _ fun i hi=>?_;show cf s (2^j+i) -cf (aK (s.take (s.length / 2)) (s.take (s.length / 2))) (2^j+i)=cf s (2^j+i);rw[lxx _ (by omega)];exact Rat.sub_eq_add_neg .. |>.trans (by rw[Rat.neg_zero,Rat.add_zero])
      rw[this];exact F.1
     have g2:aT v (l+1) (lf (mulC v (l+1) (cf (aK (s.take (s.length / 2)) (s.take (s.length / 2)))) (cf r)) mQ)=0:=by
      rw[b7 v (aL hxx.le) (aL hrl.le) (Nat.le_succ l),bw v ((a7 v l _ _).sub (vx l)) (Nat.le_succ l)];exact hr
     rw[← TL.sgn] at g1 g2 ⊢;rw[show TL.of (lf _ _)=_ from TL.sub _ _,TL.mul,TL.one] at g2 ⊢;rw[show TL.of (lf _ _)=_ from TL.sub _ _] at g1
     have e:TL.of (cf s)*TL.of (cf r) -1=(TL.of (cf s) -TL.of (cf (aK (s.take (s.length / 2)) (s.take (s.length / 2)))))*TL.of (cf r)+(TL.of (cf (aK (s.take (s.length / 2)) (s.take (s.length / 2))))*TL.of (cf r) -1) :=
      Rg.fp [TL.of (cf s),TL.of (cf r),TL.of (cf (aK (s.take (s.length / 2)) (s.take (s.length / 2))))] (X0*X1-1) ((X0-X2)*X1+(X2*X1-1)) rfl
     rw[e,OR.null _ _ (OR.ia _ g1)];exact g2
   · rw[if_neg hN];have hr:=ih hn.1 (by omega) (by rw[hn.2,bw v lowN hj];exact hN);obtain ⟨r,hrr⟩: ∃r,iX l v (dY l v s)=r:=⟨_,rfl⟩;have hrl:ao l r:=by rw[← hrr];exact gd l hn.1 hrt (by omega)
     rw[hrr] at hr ⊢;rw[hn.2] at hr
     have hjl:ao (l+1) (cW (s.take (s.length / 2)) (aM (s.drop (s.length / 2))) (s.length / 2)):= .inr ⟨j+1,by omega,by
      rw[dq]
      omega⟩
     have cJ: ∀i,cf (cW (s.take (s.length / 2)) (aM (s.drop (s.length / 2))) (s.length / 2)) i=if i<2^j then cf (s.take (s.length / 2)) i else cf (aM (s.drop (s.length / 2))) (i-2^j):=fun i=>CT _ e3 (by rw[fB];omega) i
     have lJ:cg (j+1) (cf (cW (s.take (s.length / 2)) (aM (s.drop (s.length / 2))) (s.length / 2))):=aL (by rw[dq];omega);have ht:=fM (l+1) hjl (hrl.mono (Nat.le_succ l)) hrt hl;rw[ht.2];generalize cW (s.take (s.length / 2)) (aM (s.drop (s.length / 2))) (s.length / 2)=J at cJ lJ hjl ht
     have eN:mulC v (l+1) (cf s) (cf J)=bF v j (cf s):=by
      rw[b7 v ls lJ (by omega)];refine ic.full (T.inj _ _ ?_) (a7 v (j+1) _ _) (lowN.mono (Nat.le_succ j));rw[T.mul];have o1:Tj.of (cf J)=Tj.of (cf s):=Tj.cong _ _ fun i hi=>by rw[cJ i,if_pos hi];exact ex i hi
      have o2:Tj.of (br j (cf J))= -Tj.of (br j (cf s)):=by
       rw[← Tj.neg];refine Tj.cong _ _ fun i hi=>?_;show cf J (2^j+i)= -cf s (2^j+i);rw[cJ,if_neg (by omega),jd,Nat.add_sub_cancel_left,ey];rfl
      have o3:Tj.of (br j (bF v j (cf s)))=0:=by rw[lowN.vU,Tj.zero]
      have o4:Tj.of (bF v j (cf s))=Tj.of (cf s)*Tj.of (cf s) -Tj.of (br j (cf s))*Tj.of (br j (cf s))*Tj.of (cf (v.getD j [])):=by
       rw[← Tj.mul,← Tj.mul,← Tj.mul,← Tj.sub];rfl
      refine Prod.ext ?_ ?_
      · show Tj.of (cf s)*Tj.of (cf J)+Tj.of (br j (cf s))*Tj.of (br j (cf J))*Tj.of (cf (v.getD j []))=Tj.of (bF v j (cf s));rw[o1,o2,o4];exact Rg.fp [Tj.of (cf s),Tj.of (br j (cf s)),Tj.of (cf (v.getD j []))] (X0*X0+X1* -X1*X2) (X0*X0-X1*X1*X2) rfl
      · show Tj.of (cf s)*Tj.of (br j (cf J))+Tj.of (br j (cf s))*Tj.of (cf J)=Tj.of (br j (bF v j (cf s)));rw[o1,o2,o3];exact Rg.fp [Tj.of (cf s),Tj.of (br j (cf s))] (X0* -X1+X1*X0) 0 rfl
     have g2:aT v (l+1) (lf (mulC v (l+1) (bF v j (cf s)) (cf r)) mQ)=0:=by
      rw[b7 v (lowN.mono hj) (aL hrl.le) (Nat.le_succ l),bw v ((a7 v l _ _).sub (vx l)) (Nat.le_succ l)];exact hr
     rw[← eN] at g2;rw[← TL.sgn] at g2 ⊢;rw[show TL.of (lf _ _)=_ from TL.sub _ _,TL.mul,TL.mul,TL.one] at g2 ⊢;rw[← Rg.mul_assoc];exact g2
structure FV (v:List NQ) where
 K:Fd
 val:NQ→K.T
 add: ∀{a b:NQ},ao v.length a→ao v.length b→val (Bu a b)=val a+val b
 sub: ∀{a b:NQ},ao v.length a→ao v.length b→val (pb a b)=val a-val b
 neg: ∀{a:NQ},ao v.length a→val (y7 a)= -val a
 mul: ∀{a b:NQ},ao v.length a→ao v.length b→val (mW v a b)=val a*val b
 div: ∀{a b:NQ},ao v.length a→ao v.length b→pc v b≠0→val (r6 v a b)=val a*K.inv (val b)
 nil:val []=0
 one:val [1]=1
 sg: ∀{a:NQ},ao v.length a→(pc v a=0↔val a=0)
 eq: ∀{a b:NQ},aT v v.length (cf (aK a (aM b)))=0↔val a=val b
 inv: ∀{b:NQ},ao v.length b→pc v b≠0→val (iX v.length v b)=K.inv (val b)
theorem CS:cf []=zC:=rfl
theorem CR:cf [1]=mQ:=funext fun i=>by
 cases i with
 | zero=>rfl
 | succ i=>rfl
theorem E1{m:Nat}{v:List NQ}(V:nA m v):Nonempty (FV v):=by
 obtain ⟨T⟩:=Ep V.pos v.length (Nat.le_refl _);have hs: ∀{a:NQ},ao v.length a→pc v a=aT v v.length (cf a):=fun h=>eW v.length h V.ro (Nat.le_refl _)
 have iv: ∀{b:NQ},ao v.length b→pc v b≠0→OR.cl T.inv (T.of (cf (iX v.length v b)))=(T.R.fd T.inv).inv (OR.cl T.inv (T.of (cf b))):=fun {b} hb h0=>by
  rw[hs hb] at h0;have h:=DU V.ro V.pos v.length hb (Nat.le_refl _) h0;refine Fd.inv_eq ?_;rw[← OR.Bi,← T.mul,← OR.D9,OR.Bj,← T.one,← T.sub,T.sgn];exact h
 refine⟨⟨T.R.fd T.inv,fun a=>OR.cl T.inv (T.of (cf a)),fun {a b} ha hb=>?_,fun {a b} ha hb=>?_,fun {a} ha=>?_,fun {a b} ha hb=>?_,fun {a b} ha hb h0=>?_,?_,?_,fun {a} ha=>?_,fun {a b}=>?_,iv⟩⟩
 · show OR.cl T.inv (T.of (cf (aq (aK a b))))=_;rw[bH (ha.plus hb),show cf (aK a b)=fun i=>cf a i+cf b i from funext fun i=>dX a b i,T.add];rfl
 · show OR.cl T.inv (T.of (cf (aq (aK a (aM b)))))=_;rw[bH (ha.plus hb.minus),show cf (aK a (aM b))=fun i=>cf a i-cf b i from funext fun i=>by rw[dX,jd];exact(Rat.sub_eq_add_neg ..).symm,T.sub];rfl
 · show OR.cl T.inv (T.of (cf (aq (aM a))))=_;rw[bH ha.minus,show cf (aM a)=fun i=> -cf a i from funext fun i=>jd a i,T.neg];rfl
 · have ht:=fM v.length ha hb V.ro (Nat.le_refl _);show OR.cl T.inv (T.of (cf (aq (aR v.length v a b))))=_;rw[bH ht.1,ht.2,T.mul];rfl
 · have ht:=fM v.length ha (gd v.length hb V.ro (Nat.le_refl _)) V.ro (Nat.le_refl _);show OR.cl T.inv (T.of (cf (aq (aR v.length v a (iX v.length v b)))))=_;rw[bH ht.1,ht.2,T.mul,OR.Bi,iv hb h0]
 · show OR.cl T.inv (T.of (cf []))=0;rw[CS,T.zero];rfl
 · show OR.cl T.inv (T.of (cf [1]))=1;rw[CR,T.one];rfl
 · rw[OR.FN,T.sgn,hs ha]
 · rw[OR.Bj,← T.sub,T.sgn,show cf (aK a (aM b))=fun i=>cf a i-cf b i from funext fun i=>by rw[dX,jd];exact(Rat.sub_eq_add_neg ..).symm]
end Lift
namespace Lift
open Go
open Go.RowKit (Below)
section
variable {P:Program} {T:Ty} {B:Nat} {F0:Nat→Prop} {w0:bS} {n d:Nat} {o:Oper} {σ:St} {K:St→Prop} {all:Array Oper} {rest:List Oper} {lk hm:Nat→Option AV}
end
end Lift
namespace Lift
open Go
open Go.RowKit (Below)
section
variable {P:Program} {T:Ty} {B:Nat} {F0:Nat→Prop} {w0:bS} {n:Nat} {σ τ σ0:St} {ops all:Array Oper} {l rest:List Oper} {o:Oper} {d:Nat} {lk hm:Nat→Option AV} {K:St→Prop} {ds:List Nat}
end
end Lift
namespace Lift
open Go
open Go.RowKit (Below)
section
variable {P:Program} {T:Ty} {B:Nat} {F0:Nat→Prop} {w0:bS} {n:Nat} {σ:St} {all:Array Oper} {rest:List Oper} {o1 o2:Oper} {K:St→Prop}
end
end Lift
namespace Lift
open Go
open Go.RowKit (Below)
section
variable {P:Program} {T:Ty} {B:Nat} {F0:Nat→Prop} {w0:bS} {n:Nat} {σ:St} {all:Array Oper} {rest:List Oper} {o:Oper} {d:Nat} {K:St→Prop}
def A8(T:Ty)(lk:Nat→Option AV):Op→Option (Nat×List D)
 | .binOp .eql t x (.const (.slice none 0 0)) _=>match T.get t,b8 T (ex T lk 0 x) with
   | some ti,some (.sl s xs)=>match Nat.beq ti.kind 4 with
     | true=>some (s,xs)
     | false=>none
   | _,_=>none
 | _=>none
theorem xz{w:World}{t e:TypeId}(hi:P.underlying t=some (.slice e))(k:Nat)(b:Option Addr)(l c:Nat):(Op.equalIn (k+1) t (.slice b l c) (.slice none 0 0)).run P w= .ok b.isNone w:=by
 cases b<;>simp[Op.equalIn,run_underlying hi]
theorem A7{w:World}{t e:TypeId}(hi:P.underlying t=some (.slice e))(b:Option Addr)(l c:Nat):(Op.equal t (.slice b l c) (.slice none 0 0)).run P w= .ok b.isNone w:=xz hi 9999 b l c
theorem Bn{w:World}{t e:TypeId}(hi:P.underlying t=some (.slice e))(b:Option Addr)(l c:Nat):(Go.binOp .eql t (.slice b l c) (.slice none 0 0)).run P w= .ok (.bool b.isNone) w:=by
 have:Go.binOp .eql t (.slice b l c) (.slice none 0 0)=(do pure (.bool (← Op.equal t (.slice b l c) (.slice none 0 0))):Sem Value):=rfl;rw[this];simp only[Sem.run_bind,A7 hi,Result.andThen_ok,Sem.run_pure]
theorem ab.eqn(hT:bc P T){s:Nat}{xs:List D}(hd:o.dst=some d)(hdn:Nat.ble (d+1) n=true)(hg:o.guard=none)(hx:A8 T σ.get o.op=some (s,xs))
  (h: ∀b:Bool,(xs≠[]→b=false)→ab P B F0 w0 n all rest K ((d,.d (.v (.bool b)))::σ)):ab P B F0 w0 n all (o::rest) K σ:=by
 intro a w hR Q hQ;unfold wpList;rw[if_pos (by simp[Region.wanted,hg])];refine .inl ?_;obtain ⟨O,hOr,hO⟩:=hR.own;have hI:=hR.inv hOr hO (fun t=> .tmp t∈o.op.operands) d;obtain ⟨dst,op,ty,pos,after,guard⟩:=o;simp only[] at hd hx hI;cases op<;>try (simp only[A8] at hx;cases hx;done)
 rename_i bop t x y ty2;cases bop<;>try (simp only[A8] at hx;cases hx;done)
 cases y<;>try (simp only[A8] at hx;cases hx;done)
 rename_i c;unfold A8 at hx;split at hx<;>try (cases hx;done)
 rename_i heq;simp only[Op.binOp.injEq,Operand.const.injEq,true_and] at heq;obtain ⟨rfl,rfl,rfl,rfl⟩:=heq;split at hx<;>try (cases hx;done)
 rename_i ti s' xs' hti hdx;split at hx<;>simp at hx;rename_i hk;obtain ⟨rfl,rfl⟩:=hx;obtain ⟨info,dd,z,hok⟩:=hT _ ti hti;have hrd:=cP hT hI (fun t ht=>by subst ht;simp[Op.operands]) hdx;obtain ⟨ad,cap,hv,h1,h2,hne⟩:=Rd.uX hrd
 have hg2:(eqGuard .eql t x (.const (.slice none 0 0)) (a.eval x) (.slice none 0 0)).run P w= .ok () w:=by
  rw[hv];simp[eqGuard]
 refine aX (v:= .bool ad.isNone) (w':=w) ?_ ?_
 · simp only[execOp,eval_const,Sem.run_bind,hg2,Result.andThen_ok];rw[hv];rw[Bn (hok.gm hk).1];rfl
 · rw[hd];refine h ad.isNone (fun hx=>?_) _ _ (hR.put hOr hO (Nat.le_of_ble_eq_true hdn) (cH.refl hI.lt) (show cV _ _ _ _ _ _ _ _ (.d (.v (.bool ad.isNone))) (.bool ad.isNone) from Rd.v rfl)) Q hQ;rcases hne with e | ⟨b,off,cs,e,fz,hb,_⟩
   · exact absurd e hx
   · rw[hb];rfl
end
end Lift
namespace Lift
open Go Go.Proofs
end Lift
namespace Lift
open Go Go.Proofs
end Lift
namespace Lift
open Go Go.Proofs
end Lift
namespace Lift
open Go Go.Proofs
end Lift
namespace Lift
open Go Go.Proofs
abbrev kG(r:List (List RD)):D:= .sl 1 (r.map dw)
abbrev MxR(a:List (List (List RD))):D:= .sl 1 (a.map kG)
abbrev fi(r:List NQ):D:= .sl 1 (r.map af)
abbrev ek(a:List (List NQ)):D:= .sl 1 (a.map fi)
structure BA (m:Nat) (rt:List (List RD)) (a:List (List (List RD))):Prop where
 n: ∀i k,Bz m rt ((a.getD i []).getD k [])
 l:a.length≤1000000
 r: ∀i,(a.getD i []).length≤1000000
def ay{α:Type}(a:List (List α)):Nat:=(a.getD 0 []).length
def uL(a:List (List (List RD)))(i:Nat):Nat:=if (a.getD i []).length≠ay a then 10 else 0
def iR(rt:List (List RD))(r:List (List RD)):Nat:=fE (fun k=>px rt [r.getD k []]) (r.length-0) 0
def ug(rt:List (List RD))(a:List (List (List RD))):Nat :=
 if a.length=0 then 0 else if 32<a.length∨32<ay a then 4 else
 if fE (uL a) (a.length-0) 0≠0 then fE (uL a) (a.length-0) 0 else fE (fun i=>iR rt (a.getD i [])) (a.length-0) 0
def kl(rt:List (List RD))(a:List (List (List RD))):Nat:=if cX rt≠0 then cX rt else ug rt a
structure Eu (m:Nat) (rt:List (List RD)):Prop where
 w: ∀i,i<rt.length→(rt.getD i []).length=2^i→wN m (rt.getD i [])
 m1:1≤m
 l:rt.length≤1000000
 ll: ∀i,i<rt.length→(rt.getD i []).length≤4398046511104
 ok:rt.length≤5→ny rt.length m
 m2:m≤1000000
theorem nX{m:Nat}{rt:List (List RD)}{x:List RD}(T:Eu m rt)(X:Bz m rt x):Pure Tryz.prog 67 [TrD rt,dw x] (CJ (px rt [x])):=by
 refine qJ 14 Tryz.func67 rfl rfl rfl rfl (by kernel_rfl) (fun B F0 w0=>?_);have hm:=T.m2;have c:=rO rt x T.w T.m1 T.l T.ll T.ok X.w X.l (by omega);unfold zX at c;refine qX 2 rfl ?_;refine qK 2 rfl ?_;by_cases h:px rt [x]≠0
 · rw[if_pos h] at c;refine ab.call tok rfl rfl rfl rfl c ?_;refine qU 5 rfl ?_;refine qK 2 rfl ?_;exact qN rfl
 rw[if_neg h] at c;have h:px rt [x]=0:=by omega
 rw[h];refine ab.call tok rfl rfl rfl rfl c ?_;refine qU 5 rfl ?_;refine qK 2 rfl ?_;exact qN rfl
theorem CP{rt:List (List RD)}(h:cX rt=0)(x:List RD):px rt [x]=bQ rt.length x:=by
 unfold px;rw[if_neg (by rw[h];simp)];show (if bQ rt.length x=0 then 0 else bQ rt.length x)=_;split
 · rename_i e;exact e.symm
 · rfl
set_option maxHeartbeats 1600000 in
theorem qQ{rt:List (List RD)}{a:List (List (List RD))}(hal:a.length≤1000000)(har: ∀i,(a.getD i []).length≤1000000)(han: ∀i k,Pure Tryz.prog 67 [TrD rt,dw ((a.getD i []).getD k [])] (CJ (px rt [(a.getD i []).getD k []]))):Pure Tryz.prog 55 [TrD rt,MxR a] (CJ (ug rt a)):=by
 refine qJ 61 Tryz.func55 rfl rfl rfl rfl (by kernel_rfl) (fun B F0 w0=>?_);unfold ug;obtain ⟨E,hE⟩: ∃E,fE (uL a) (a.length-0) 0=E:=⟨_,rfl⟩;obtain ⟨G,hG⟩: ∃G,fE (fun i=>iR rt (a.getD i [])) (a.length-0) 0=G:=⟨_,rfl⟩;rw[hE,hG];refine qX 2 rfl ?_;refine qI ?_;refine qX 2 rfl ?_;rw[List.length_map];refine qU 1 rfl ?_;refine ab.nil ?_;by_cases h0:a.length=0
 · rw[if_pos h0,h0];refine AW.aH rfl ?_;refine qX 1 rfl ?_;exact qN rfl
 rw[if_neg h0,beq_eq_false_iff_ne.2 (show (a.length:Int)≠0 by omega)];have hc0:ay a=(a.getD 0 []).length:=rfl;have hcl:=har 0;have g0:=getM kG (l:=a) (i:=0) (by omega);refine AW.aB rfl ?_
 · skip
   refine AW.skip (AW.seq ?_);refine qX 2 rfl ?_;rw[List.length_map];refine qU 1 rfl ?_;by_cases h1:32<a.length
   · rw[decide_eq_true (show (32:Int)<(a.length:Int) by omega),if_pos (.inl h1)];refine qU 7 rfl ?_;refine ab.nil ?_;refine AW.aH rfl ?_;refine qX 2 rfl ?_;exact qN rfl
   rw[decide_eq_false (show ¬(32:Int)<(a.length:Int) by omega)];refine qU 2 rfl ?_;refine ab.idx tok (kG (a.getD 0 [])) rfl rfl rfl rfl (Int.le_refl _) g0 ?_;refine qU 2 rfl ?_;rw[List.length_map];refine qU 1 rfl ?_;by_cases h2:32<ay a
   · rw[decide_eq_true (show (32:Int)<((a.getD 0 []).length:Int) by omega),if_pos (.inr h2)];refine qU 1 rfl ?_;refine ab.nil ?_;refine AW.aH rfl ?_;refine qX 2 rfl ?_;exact qN rfl
   rw[decide_eq_false (show ¬(32:Int)<((a.getD 0 []).length:Int) by omega),if_neg (fun h=>h.elim h1 h2)];refine qU 1 rfl ?_;refine ab.nil ?_;refine AW.aB rfl ?_
   · refine AW.skip (AW.seq ?_);refine qX 2 rfl ?_;rw[List.length_map];refine qU 1 rfl ?_;refine ab.nil ?_;refine AW.block ?_;refine AW.aE [1,2,26,27,28] (fun i:Nat=>[(1,.d (MxR a)),(2,.bx [.sl 1 (rt.map dw)]),(26,.d (MxR a)),(27,.d (dI a.length)),(28,.d (dI i))]) (fun i=>i≤a.length∧fE (uL a) (a.length-i) i=E) (fun i=>a.length-i) 0 rfl ⟨Nat.zero_le _,hE⟩ (fun i ⟨hi,hiE⟩=>?_)
     · show AW _ _ _ _ _ _ _ [(1,.d (MxR a)),(2,.bx [.sl 1 (rt.map dw)]),(26,.d (MxR a)),(27,.d (dI a.length)),(28,.d (dI i))];refine qX 1 rfl ?_;refine qI ?_;refine AW.cond rfl (fun h=>?_) (fun h=>?_)
       · have hii:i<a.length:=by have:=of_decide_eq_true h;omega
         have hg:=getM kG (l:=a) (i:=i) hii;have hri:=har i;have hmiss:=fun h0:uL a i=0=>(gx hii h0).symm.trans hiE;have hhit:=fun h0:uL a i≠0=>(jy hii h0).symm.trans hiE;refine AW.skip (AW.seq (AW.block (AW.seq (AW.region ?_))));refine ab.idx tok (kG (a.getD i [])) rfl rfl rfl rfl (Int.natCast_nonneg i) hg ?_;refine qU 2 rfl ?_;refine qK 2 rfl ?_;rw[List.length_map];refine qU 1 rfl ?_;refine ab.idx tok (kG (a.getD 0 [])) rfl rfl rfl rfl (Int.le_refl _) g0 ?_;refine qU 2 rfl ?_;rw[List.length_map];refine qU 1 rfl ?_;refine ab.nil ?_;refine AW.cond rfl (fun h=>?_) (fun h=>?_)
         · have hne:(a.getD i []).length≠ay a:=by have:=bne_iff_ne.1 h;omega
           have e:uL a i=10:=if_pos hne;have:=hhit (by rw[e];decide);rw[e] at this;subst this;rw[if_pos (by decide)];refine qX 2 rfl ?_;exact qN rfl
         · have heq:(a.getD i []).length=ay a:=by have:=bne_eq_false_iff_eq.1 h;omega
           have e:uL a i=0:=if_neg (fun h=>h heq);refine AW.skip ?_;refine qT 1 rfl ?_;rw[aC (x:=(i:Int)+1) (by omega) (by omega)];refine qU 1 rfl ?_;refine ab.nil ?_;exact⟨i+1,rfl,⟨hii,hmiss e⟩,by omega⟩
       have hii: ¬i<a.length:=by have:=of_decide_eq_false h;omega
       rw[jz hii] at hiE;subst hiE;rw[if_neg (by decide)];refine AW.exit (AW.seq ?_);refine qX 2 rfl ?_;rw[List.length_map];refine qU 1 rfl ?_;refine ab.nil ?_;refine AW.block ?_;refine AW.aE [1,2,41,42,43] (fun i:Nat=>[(1,.d (MxR a)),(2,.bx [.sl 1 (rt.map dw)]),(41,.d (MxR a)),(42,.d (dI a.length)),(43,.d (dI i))]) (fun i=>i≤a.length∧fE (fun i=>iR rt (a.getD i [])) (a.length-i) i=G) (fun i=>a.length-i) 0 rfl ⟨Nat.zero_le _,hG⟩ (fun i ⟨hi,hiG⟩=>?_)
       · show AW _ _ _ _ _ _ _ [(1,.d (MxR a)),(2,.bx [.sl 1 (rt.map dw)]),(41,.d (MxR a)),(42,.d (dI a.length)),(43,.d (dI i))];refine qX 1 rfl ?_;refine qI ?_;refine AW.cond rfl (fun h=>?_) (fun h=>?_)
         · have hii:i<a.length:=by have:=of_decide_eq_true h;omega
           have hg:=getM kG (l:=a) (i:=i) hii;have hri:=har i;have hni:=han i;have hmiss:=fun h0:iR rt (a.getD i [])=0=>(gx (f:=fun i=>iR rt (a.getD i [])) hii h0).symm.trans hiG;have hhit:=fun h0:iR rt (a.getD i [])≠0=>(jy (f:=fun i=>iR rt (a.getD i [])) hii h0).symm.trans hiG;refine AW.skip (AW.seq (AW.block (AW.seq (AW.region ?_))));refine ab.idx tok (kG (a.getD i [])) rfl rfl rfl rfl (Int.natCast_nonneg i) hg ?_;refine qU 2 rfl ?_;refine ab.nil ?_;generalize a.getD i []=r at hri hni hmiss hhit;obtain ⟨H,hH⟩: ∃H,iR rt r=H:=⟨_,rfl⟩;rw[hH] at hmiss hhit;refine qX 2 rfl ?_;rw[List.length_map];refine qU 1 rfl ?_;refine ab.nil ?_;refine AW.block ?_;refine AW.aE [1,2,41,42,43,47,48,49] (fun k:Nat=>[(1,.d (MxR a)),(2,.bx [.sl 1 (rt.map dw)]),(41,.d (MxR a)),(42,.d (dI a.length)),(43,.d (dI i)),(47,.d (kG r)),(48,.d (dI r.length)),(49,.d (dI k))]) (fun k=>k≤r.length∧fE (fun k=>px rt [r.getD k []]) (r.length-k) k=H) (fun k=>r.length-k) 0 rfl ⟨Nat.zero_le _,hH⟩ (fun k ⟨hk,hkH⟩=>?_)
           · show AW _ _ _ _ _ _ _ [(1,.d (MxR a)),(2,.bx [.sl 1 (rt.map dw)]),(41,.d (MxR a)),(42,.d (dI a.length)),(43,.d (dI i)),(47,.d (kG r)),(48,.d (dI r.length)),(49,.d (dI k))];refine qX 1 rfl ?_;refine qI ?_;refine AW.cond rfl (fun h=>?_) (fun h=>?_)
             · have hkk:k<r.length:=by have:=of_decide_eq_true h;omega
               have hg2:=getM dw (l:=r) (i:=k) hkk;have cn:=hni k;have km:=fun h0:px rt [r.getD k []]=0=>(gx (f:=fun k=>px rt [r.getD k []]) hkk h0).symm.trans hkH;have kh:=fun h0:px rt [r.getD k []]≠0=>(jy (f:=fun k=>px rt [r.getD k []]) hkk h0).symm.trans hkH;refine AW.skip (AW.seq (AW.block (AW.seq (AW.region ?_))));refine ab.idx tok (dw (r.getD k [])) rfl rfl rfl rfl (Int.natCast_nonneg k) hg2 ?_;refine qU 2 rfl ?_;refine qK 2 rfl ?_;refine ab.call tok rfl rfl rfl rfl cn ?_;refine qU 1 rfl ?_;refine ab.nil ?_;generalize px rt [r.getD k []]=e at cn km kh;rcases e with _ | z
               rotate_left
               · have:=kh (Nat.succ_ne_zero z);subst this;have:=hhit (Nat.succ_ne_zero z);subst this;refine qX 1 rfl ?_;refine ab.err tok rfl rfl rfl rfl rfl ?_;refine ab.nil ?_;refine AW.aH rfl ?_;refine qX 2 rfl ?_;exact qN rfl
               refine qX 1 rfl ?_;refine ab.err tok rfl rfl rfl rfl rfl ?_;refine ab.nil ?_;refine AW.aB rfl ?_
               · skip
                 refine AW.skip ?_;refine qT 1 rfl ?_;rw[aC (x:=(k:Int)+1) (by omega) (by omega)];refine qU 1 rfl ?_;refine ab.nil ?_;exact⟨k+1,rfl,⟨hkk,km rfl⟩,by omega⟩
             have hkk: ¬k<r.length:=by have:=of_decide_eq_false h;omega
             rw[jz hkk] at hkH;subst hkH;refine AW.exit ?_;refine qT 1 rfl ?_;rw[aC (x:=(i:Int)+1) (by omega) (by omega)];refine qU 1 rfl ?_;refine ab.nil ?_;exact⟨i+1,rfl,⟨hii,hmiss rfl⟩,by omega⟩
         have hii: ¬i<a.length:=by have:=of_decide_eq_false h;omega
         rw[jz hii] at hiG;subst hiG;refine AW.exit ?_;refine qX 1 rfl ?_;exact qN rfl
theorem nY{m:Nat}{rt:List (List RD)}{a:List (List (List RD))}(T:Eu m rt)(A:BA m rt a):Pure Tryz.prog 55 [TrD rt,MxR a] (CJ (ug rt a)) :=
 qQ A.l A.r (fun i k=>nX T (A.n i k))
theorem ew{m:Nat}{rt:List (List RD)}{a:List (List (List RD))}(T:Eu m rt)(A:BA m rt a):Pure Tryz.prog 20 [TrD rt,MxR a] (CJ (kl rt a)):=by
 refine qJ 14 Tryz.func20 rfl rfl rfl rfl (by kernel_rfl) (fun B F0 w0=>?_);have cc:=j0 rt T.w T.m1 T.l T.ll T.ok;have cm:=nY T A;unfold kl;refine qX 2 rfl ?_;refine qI ?_;refine qX 1 rfl ?_;refine ab.call tok rfl rfl rfl rfl cc ?_;refine qU 1 rfl ?_;refine ab.nil ?_;generalize cX rt=e at cc ⊢;rcases e with _ | z
 rotate_left
 · rw[if_pos (Nat.succ_ne_zero z)];refine qX 1 rfl ?_;refine ab.err tok rfl rfl rfl rfl rfl ?_;refine ab.nil ?_;refine AW.aH rfl ?_;refine qX 2 rfl ?_;exact qN rfl
 rw[if_neg (by simp)];refine qX 1 rfl ?_;refine ab.err tok rfl rfl rfl rfl rfl ?_;refine ab.nil ?_;refine AW.aB rfl ?_
 · skip
   refine AW.skip ?_;refine qX 2 rfl ?_;refine ab.call tok rfl rfl rfl rfl cm ?_;refine qU 1 rfl ?_;exact qN rfl
theorem kp{v:List NQ}{a:NQ}(V:lL v)(ha:ao v.length a)(ok:vz v a):Pure Tryz.prog 69 [bP v,af a] (dI (pc v a)):=by
 refine qJ 14 Tryz.func69 rfl rfl rfl rfl (by kernel_rfl) (fun B F0 w0=>?_);have c:=uT V ha ok;refine qX 2 rfl ?_;refine qK 2 rfl ?_;refine ab.call tok rfl rfl rfl rfl c ?_;refine qU 5 rfl ?_;refine qK 2 rfl ?_;exact qN rfl
theorem dy(a:List (List NQ)):Pure Tryz.prog 47 [ek a] (dI (ay a)):=by
 refine qJ 10 Tryz.func47 rfl rfl rfl rfl (by kernel_rfl) (fun B F0 w0=>?_);refine qX 1 rfl ?_;refine qI ?_;refine qX 2 rfl ?_;rw[List.length_map];refine qU 1 rfl ?_;refine ab.nil ?_;by_cases h0:a.length=0
 · rw[List.length_eq_zero_iff.1 h0];refine AW.aH rfl ?_;refine qX 1 rfl ?_;exact qN rfl
 rw[beq_eq_false_iff_ne.2 (show (a.length:Int)≠0 by omega)];have g0:=getM fi (l:=a) (i:=0) (by omega);refine AW.aB rfl ?_
 · refine AW.skip ?_;refine qX 1 rfl ?_;refine ab.idx tok (fi (a.getD 0 [])) rfl rfl rfl rfl (Int.le_refl _) g0 ?_;refine qU 2 rfl ?_;rw[List.length_map];refine qU 1 rfl ?_;exact qN rfl
def EJ(r:List NQ)(res:D)(R':List LR):Prop:= ∃V,res= .v V∧R'=[(V,AV.ow 53 (r.map af))]
theorem wj(r:List NQ)(hl:r.length≤1000000):kK Tryz.prog 68 [fi r] [] (EJ r):=by
 refine kK.intro (n:=8) tok Tryz.func68 rfl rfl rfl (Nat.le_of_ble_eq_true rfl) (by kernel_rfl) (fun B F0 w0=>?_);refine AZ.seq ?_;refine AZ.gp (fun B1 F1 w1=>?_);refine qU 1 rfl ?_;refine ab.nil ⟨rfl,?_⟩;refine AZ.seq ?_;refine AZ.seq ?_;refine AZ.gp (fun B1 F1 w1=>?_);refine qU 1 rfl ?_;refine ab.eqn tok rfl rfl rfl rfl (fun b hb=>?_);refine ab.nil ⟨rfl,?_⟩;refine AZ.cond rfl (fun h=>?_) (fun h=>?_)
 · have hr:r=[]:=by
    refine Classical.byContradiction fun hr=>?_;have:=hb (by simp[hr]);rw[this] at h;cases h
   subst hr;refine AZ.seq ?_;refine AZ.gp (fun B1 F1 w1=>?_);refine qU 1 rfl ?_;refine ab.nil ⟨rfl,?_⟩;exact AZ.iG 2 rfl rfl rfl (fun V=>AZ.ret ⟨.v V,rfl,V,rfl,rfl⟩)
 · skip
   refine AZ.skip ?_;refine AZ.seq ?_;refine AZ.gp (fun B1 F1 w1=>?_);refine qU 2 rfl ?_;refine ab.xJ tok rfl rfl rfl rfl (by rw[List.length_map];show r.length*24≤_;omega) ?_;refine qU 1 rfl ?_;refine ab.nil ⟨rfl,?_⟩;exact AZ.iG 2 rfl rfl rfl (fun V=>AZ.ret ⟨.v V,rfl,V,rfl,rfl⟩)
end Lift
namespace Lift
open Go
open Go.RowKit (Below)
section
variable {P:Program} {T:Ty} {B:Nat} {F0:Nat→Prop} {w0:bS} {n:Nat} {σ:St} {R:List LR} {all ops:Array Oper} {l:List Oper} {o:Oper} {x:Code} {a:Act} {w:World} {K:List LR→St→Prop} {p:jg} {Q:Exit→List LR→St→Prop}
theorem kA: ∀{cs:List D},(∀d,d∈cs→d.flat=[d])→flatAll cs=cs
 | [],h=>rfl
 | d::r,h=>by
   show d.flat++flatAll r=d::r;rw[h d (List.mem_cons_self ..),kA (fun x hx=>h x (List.mem_cons_of_mem _ hx))];rfl
theorem bE.DZ{i j k e eo:Nat}{V Vo:Value}{xs cs:List D}(hR:bE P B F0 w0 n R σ a w)(hj:R[j]?=some (Vo,.ow eo cs))(hc1: ∀d,d∈cs→d.flat=[d])(hk:cs[k]?=some (.v V))(hi:R[i]?=some (V,.ow e xs))(hij:i≠j):
  bE P B F0 w0 n ((R.set i (V,.junk)).set j (Vo,.ow eo (cs.set k (.sl (P.cellsOf e) xs)))) σ a w:=by
 obtain ⟨O,hOr,hO,hL⟩:=hR.own
 let O':Nat→Option Nat:=fun b=>if O b=some (n+i) then none else O b
 have h1: ∀b t,O' b=some t→O b=some t:=fun b t h=>by
  simp only[O'] at h;split at h
  · cases h
  · exact h
 have h2: ∀b t,t≠n+i→O b=some t→O' b=some t:=fun b t ht h=>by
  simp only[O',h];rw[if_neg (by simpa using ht)]
 have hF: ∀c,aF O (FW B F0 w) c→aF O' (FW B F0 w) c:=fun c hc=>⟨by simp only[O',hc.1];simp,hc.2⟩
 have hlt: ∀t av,σ.get t=some av→t<n:=fun t av h=>by
  obtain ⟨v,hv,_⟩:=hO t av h;rw[← hR.size];exact(Array.getElem?_eq_some_iff.1 hv).1
 have hil:=(List.getElem?_eq_some_iff.1 hi).1;have hjl:=(List.getElem?_eq_some_iff.1 hj).1;have hkl:=(List.getElem?_eq_some_iff.1 hk).1;refine⟨hR.below,hR.base,hR.f0,hR.defers,hR.size,O',fun b t hb=>hOr b t (h1 b t hb),fun j av hav=>?_,fun m r hr=>?_⟩
 · obtain ⟨v,hv,hr⟩:=hO j av hav;exact⟨v,hv,hr.move (fun c hc=>⟨hF c hc,rfl⟩) (fun _ c hc=>⟨h2 c j (by have:=hlt j av hav;omega) hc,rfl⟩) (fun k _ x _ hk=>⟨hk,rfl⟩)⟩
 · by_cases hmj:m=j
   · subst hmj;rw[List.getElem?_set_self (by simpa using hjl)] at hr;cases hr
     have hcs': ∀d,d∈cs.set k (.sl (P.cellsOf e) xs)→d.flat=[d]:=fun d hd=>by
      rcases List.mem_or_eq_of_mem_set hd with h | h
      · exact hc1 d h
      · subst h;rfl
     rcases hL m _ hj with h | ⟨_,_,h⟩
     · cases h
     refine .inr ⟨rfl,rfl,?_⟩;rcases h with ⟨base,h3,h4⟩ | ⟨b',cap,cs',h3,h4,h5,h6,h7,h8,h9,h10⟩
     · subst h4;simp at hk
     · simp only at h3;subst h3;refine .inr ⟨b',cap,cs',by simp,h2 b' _ (by omega) h4,h5,by simpa using h6,h7,h8,fun d hd=>?_,fun q d hd=>?_⟩
       · rcases List.mem_or_eq_of_mem_set hd with h | h
         · exact h9 d h
         · subst h;have:=h9 _ (List.mem_of_getElem? hk);exact this
       · rw[kA hcs'] at hd;rw[kA hc1] at h10;by_cases hq:q=k
         · subst hq;rw[List.getElem?_set_self hkl] at hd;cases hd;obtain ⟨_,u,hu,hru⟩:=h10 q _ hk;have:=(Rd.jl hru).1;subst this;refine⟨rfl,_,hu,?_⟩;rcases hL i _ hi with h | ⟨_,_,h⟩
           · cases h
           · rcases h with ⟨base,h3,h4⟩ | ⟨b2,cap2,cs2,g3,g4,g5,g6,g7,g8,g9,g10⟩
             · simp only at h3 h4;subst h3;subst h4;exact .nil (Nat.zero_le _)
             · simp only at g3;subst g3;refine Rd.jJ (off:=0) ⟨by simp only[O',g4];simp,(hOr b2 _ g4).fw hR.f0⟩ g5 g6 g7 g9 (fun m d hd=>?_);obtain ⟨f1,u,f2,f3⟩:=g10 m d hd;exact⟨f1,u,by simpa using f2,f3.mono hF (fun _ _=>rfl)⟩
         · rw[List.getElem?_set_ne (Ne.symm hq)] at hd;obtain ⟨f1,u,f2,f3⟩:=h10 q d hd;exact⟨f1,u,f2,f3.mono hF (fun _ _=>rfl)⟩
   · have hr:=gE hmj hr;by_cases hmi:m=i
     · subst hmi;rw[List.getElem?_set_self hil] at hr;cases hr;exact .inl rfl
     · have:=gE hmi hr;rcases hL m r this with h | ⟨g1,g2,g3⟩
       · exact .inl h
       · exact .inr ⟨g1,g2,g3.move (fun c hc=>⟨hF c hc,rfl⟩) (fun _ c hc=>⟨h2 c _ (by omega) hc,rfl⟩) (fun k _ x _ hk=>by cases hk)⟩
theorem AZ.DZ(hT:bc P T)(i j k:Nat){V Vo:Value}{e eo:Nat}{te:TI}{xs cs:List D}(hj:R[j]?=some (Vo,.ow eo cs))(hc1: ∀d,d∈cs→d.flat=[d])(hk:cs[k]?=some (.v V))(hi:R[i]?=some (V,.ow e xs))(hij:i≠j)(he:T.get e=some te)
  (h:AZ P B F0 w0 n x Q ((R.set i (V,.junk)).set j (Vo,.ow eo (cs.set k (.sl te.size xs)))) σ):AZ P B F0 w0 n x Q R σ:=by
 obtain ⟨info,d,z,hok⟩:=hT e te he;intro a w hR;have:=hR.DZ hj hc1 hk hi hij;rw[hok.cellsOf] at this;exact h a w this
theorem ai.vO(t i:Nat){av:AV}(ht:σ.get t=some av)(hrow:av.row.isSome=true)(htag:av.tag=false)(hi:Nat.ble (i+1) R.length=true)(h: ∀V:Value,ai P B F0 w0 n all l K p (R.set i (V,av)) ((t,.d (.v V))::σ.kill t)):ai P B F0 w0 n all l K p R σ:=by
 intro a w hR hpin Q hQ;obtain ⟨O,_,hO,_⟩:=hR.own;obtain ⟨V,hV,_⟩:=hO t _ ht;exact h V a w (hR.iG (i:=i) ht hrow htag hV (List.getElem?_set_self (Nat.le_of_ble_eq_true hi)) (fun j r hj hr=>gE hj hr)) hpin Q hQ
theorem ah{K:List LR→St→Prop}(h: ∀B1 F1 w1,rE P B1 F1 w1 R→ab P B1 F1 w1 n ops [o] (fun σ'=>σ'.eZ=true∧K R σ') σ):ai P B F0 w0 n ops [o] K [] R σ :=
 ai.FK 1 rfl (fun B1 F1 w1 hS=>by
  have:=h B1 F1 w1 hS
  refine fun a w hR Q hQ=>this a w hR Q (fun a' w' σ' ⟨h1,h2⟩ hR'=>hQ a' w' σ' ⟨h1,ai.nil h2⟩ hR'))
end
section
variable {P:Program} {T:Ty} {B:Nat} {F0:Nat→Prop} {w0:bS} {n:Nat} {σ:St} {R:List LR} {ops:Array Oper} {o1 o2 o3 o4:Oper} {Q:Exit→List LR→St→Prop} {β:eQ} {fuel:Nat} {listed:Array Bool}
end
end Lift
namespace Lift
open Go Go.Proofs
abbrev fk(r:List NQ):AV:=AV.ow 53 (r.map af)
def fA{α:Type}(zs xs:List α)(i:Nat):List α:=zs.take i++xs.drop i
theorem qM{α:Type}{zs xs:List α}(h:zs.length=xs.length){i:Nat}(hi:i≤xs.length):(fA zs xs i).length=xs.length:=by
 unfold fA;rw[List.length_append,List.length_take,List.length_drop,h];omega
theorem vJ{α:Type}{zs xs:List α}(h:zs.length=xs.length){i:Nat}(hi:i<xs.length)(d:α):(fA zs xs i).getD i d=xs.getD i d:=by
 unfold fA;rw[List.getD_eq_getElem?_getD,List.getElem?_append_right (by rw[List.length_take];omega),List.length_take,h,List.getElem?_drop,List.getD_eq_getElem?_getD]
 congr 2;omega
theorem vI{α:Type}{zs xs:List α}(h:zs.length=xs.length){i:Nat}(hi:i<xs.length){d z:α}(hz:zs.getD i d=z):(fA zs xs i).set i z=fA zs xs (i+1):=by
 subst hz;refine List.ext_getElem? (fun c=>?_);by_cases hc:c=i
 · subst hc;rw[List.getElem?_set_self (by rw[qM h (by omega)];exact hi)];unfold fA;rw[List.getElem?_append_left (by rw[List.length_take];omega),List.getElem?_take,if_pos (by omega)];have h1:c<zs.length:=by omega
   simp[h1]
 · rw[List.getElem?_set_ne (Ne.symm hc)];unfold fA;rcases Nat.lt_or_ge c i with g | g
   · rw[List.getElem?_append_left (by rw[List.length_take];omega),List.getElem?_append_left (by rw[List.length_take];omega),List.getElem?_take,List.getElem?_take,if_pos g,if_pos (by omega)]
   · rw[List.getElem?_append_right (by rw[List.length_take];omega),List.getElem?_append_right (by rw[List.length_take];omega),List.getElem?_drop,List.getElem?_drop,List.length_take,List.length_take]
     congr 1;omega
theorem sU{α:Type}(zs xs:List α):fA zs xs 0=xs:=by unfold fA;simp
theorem vK{α:Type}{zs xs:List α}(h:zs.length=xs.length):fA zs xs xs.length=zs:=by
 unfold fA;rw[List.drop_length,List.append_nil,← h,List.take_length]
section
variable {P:Program} {T:Ty} {B:Nat} {F0:Nat→Prop} {w0:bS} {n:Nat} {σ τ:St} {K:St→Prop} {all:Array Oper} {o:Oper} {d:Nat} {rest:List Oper}
theorem ab.nG(hT:bc P T){k e i:Nat}{r:List NQ}(q:NQ)(hd:o.dst=none)(hg:au all σ o=true)(hx:x8 T σ o.op=some (k,.ow e (r.map af),r.map af,i,0,af q))(hi:i<r.length)
  (h:ab P B F0 w0 n all rest K ((k,.ow e ((r.set i q).map af))::σ)):ab P B F0 w0 n all (o::rest) K σ:=by
 refine ab.im hT (af (r.getD i [])) hd hg hx (getM af hi) rfl ?_;show ab P B F0 w0 n all rest K ((k,.ow e ((r.map af).set i (af q)))::σ);rw[show (r.map af).set i (af q)=(r.set i q).map af from (List.map_set ..).symm];exact h
end
def lz(v:List NQ)(xs ys:List NQ)(c:NQ):List NQ:=(List.range xs.length).map fun k=>pb (xs.getD k []) (mW v c (ys.getD k []))
theorem kO(v:List NQ)(xs ys:List NQ)(c:NQ):(lz v xs ys c).length=xs.length:=by unfold lz;rw[List.length_map,List.length_range]
theorem kP(v:List NQ)(xs ys:List NQ)(c:NQ){k:Nat}(h:k<xs.length):(lz v xs ys c).getD k []=pb (xs.getD k []) (mW v c (ys.getD k [])):=by
 unfold lz;rw[List.getD_eq_getElem?_getD,List.getElem?_map,List.getElem?_range h];rfl
def xe(v:List NQ)(xs ys:List NQ)(c:NQ):Prop:= ∀k,k<xs.length→yj v c (ys.getD k [])∧Ao (xs.getD k []) (mW v c (ys.getD k []))
def zK(V1 V2:Value)(zs ys:List NQ)(res:D)(R':List LR):Prop:=res=aj∧R'=[(V1,fk zs),(V2,fk ys)]
theorem pP{v:List NQ}(V:lL v){a b:NQ}(ha:ao v.length a)(hb:ao v.length b):ao v.length (mW v a b):=bW (dE v.length ha hb V.ro (Nat.le_refl _))
theorem BU{l:Nat}{a b:NQ}(ha:ao l a)(hb:ao l b):ao l (pb a b):=bW (ha.plus hb.minus)
theorem CK{v:List NQ}(V:lL v){a b:NQ}(ha:ao v.length a)(hb:ao v.length b):ao v.length (r6 v a b):=bW (dE v.length ha (gd v.length hb V.ro (Nat.le_refl _)) V.ro (Nat.le_refl _))
set_option maxHeartbeats 3200000 in
theorem qO(V1 V2:Value){v:List NQ}(V:lL v){xs ys:List NQ}{c:NQ}(hl:ys.length=xs.length)(hl0:0<xs.length)(hl1:xs.length≤1000000)(hx: ∀k,ao v.length (xs.getD k []))(hy: ∀k,ao v.length (ys.getD k []))(hc:ao v.length c)(ok:xe v xs ys c):
  kK Tryz.prog 90 [bP v,.v V1,.v V2,af c] [(V1,fk xs),(V2,fk ys)] (zK V1 V2 (lz v xs ys c) ys):=by
 refine kK.intro (n:=47) tok Tryz.func90 rfl rfl rfl (Nat.le_of_ble_eq_true rfl) (by kernel_rfl) (fun B F0 w0=>?_);have hz:=kO v xs ys c;obtain ⟨zs,hzs⟩: ∃zs,lz v xs ys c=zs:=⟨_,rfl⟩;rw[hzs] at hz ⊢;refine AZ.seq ?_;refine AZ.gp (fun B1 F1 w1=>?_);refine qU 2 rfl ?_;refine ab.nil ⟨rfl,?_⟩;refine AZ.seq ?_;refine AZ.seq ?_;refine AZ.Af (fun B1 F1 w1 hS=>?_);refine qU 1 rfl ?_;refine ab.lens tok (hS.at (i:=0) rfl (by rw[List.length_map];exact hl0)) rfl rfl rfl rfl ?_;refine qU 1 rfl ?_;rw[List.length_map];refine ab.nil ⟨rfl,?_⟩;refine AZ.block ?_;refine AZ.aE [1,2,3,4,13,14] (fun i:Nat=>([(V1,fk (fA zs xs i)),(V2,fk ys)],[(1,.d (.v V1)),(2,.d (.v V2)),(3,.d (af c)),(4,.bx [.sl 1 (v.map af)]),(13,.d (dI xs.length)),(14,.d (dI i))])) (fun i=>i≤xs.length) (fun i=>xs.length-i) 0 (by rw[sU];rfl) (Nat.zero_le _) (fun i hi=>?_)
 · show AZ _ _ _ _ _ _ _ [(V1,fk (fA zs xs i)),(V2,fk ys)] [(1,.d (.v V1)),(2,.d (.v V2)),(3,.d (af c)),(4,.bx [.sl 1 (v.map af)]),(13,.d (dI xs.length)),(14,.d (dI i))];refine AZ.seq ?_;refine AZ.gp (fun B1 F1 w1=>?_);refine qU 1 rfl ?_;refine ab.nil ⟨rfl,?_⟩;refine AZ.seq ?_;refine AZ.cond rfl (fun h=>?_) (fun h=>?_)
   · have hin:i<xs.length:=by have:=of_decide_eq_true h;omega
     have hpl:=qM hz (i:=i) (by omega);have hpg:=vJ hz hin [];have hps:=vI hz hin (d:=[]) (show zs.getD i []=pb (xs.getD i []) (mW v c (ys.getD i [])) by rw[← hzs];exact kP v xs ys c hin);have hyi:i<ys.length:=by omega
     obtain ⟨okm,oks⟩:=ok i hin;have cm:=qd V hc (hy i) okm;have cs:=wI V (hx i) (pP V hc (hy i)) oks;generalize fA zs xs i=ps at *;generalize hX:xs.getD i []=X at *;generalize hY:ys.getD i []=Y at *;generalize mW v c Y=M at *;generalize pb X M=S at *;refine AZ.skip ?_;refine AZ.seq ?_;refine AZ.block ?_;refine AZ.seq ?_;refine AZ.gp (fun B1 F1 w1=>?_);refine qU 2 rfl ?_;refine ab.nil ⟨rfl,?_⟩;refine AZ.seq ?_;refine AZ.any aN (wx.yD 11 (by kernel_rfl) (fun B1 F1 w1 hS=>?_));have hS2:=hS.at (i:=1) rfl (by rw[List.length_map];omega);refine qP 4 rfl ?_;refine ae.idxs tok hS2 rfl rfl rfl rfl rfl (Int.natCast_nonneg i) (by rw[List.length_map];exact hyi) ?_;refine ae.aY tok (af (ys.getD i [])) hS2 rfl rfl rfl rfl rfl rfl rfl (getM af hyi) rfl ?_;rw[hY];refine ae.call tok rfl rfl rfl rfl rfl cm ?_;refine qP 4 rfl ?_;refine ae.nil ⟨rfl,?_⟩;refine ai.cut 1 rfl (fun B1 F1 w1=>?_);refine qU 1 rfl ?_;refine ab.nil ⟨rfl,?_⟩;refine ai.nil ?_;refine AZ.to [1,2,3,4,9,10,11,13,14] [(1,.d (.v V1)),(2,.d (.v V2)),(3,.d (af c)),(4,.bx [.sl 1 (v.map af)]),(9,.d (dI i)),(10,.d (af M)),(11,.d aj),(13,.d (dI xs.length)),(14,.d (dI i))] rfl ?_;refine AZ.seq ?_;refine AZ.seq ?_;refine AZ.gp (fun B1 F1 w1=>?_);refine qU 1 rfl ?_;refine ab.err tok rfl rfl rfl rfl rfl ?_;refine ab.nil ⟨rfl,?_⟩;refine AZ.aB rfl ?_;refine AZ.skip ?_;refine AZ.seq ?_;refine AZ.any aN (ZH.any (β:=[]) ?_);refine ZH.mv 0 rfl rfl (by kernel_rfl) (by kernel_rfl) (by kernel_rfl) rfl (fun _ _ _ h=>h) (fun _=>rfl) trivial (fun B1 F1 w1=>?_);refine qU 1 rfl ?_;refine ab.nil ⟨rfl,?_⟩;refine ZH.mv 1 rfl rfl (by kernel_rfl) (by kernel_rfl) (by kernel_rfl) rfl (fun _ _ _ h=>h) (fun _=>rfl) trivial (fun B1 F1 w1=>?_);refine qU 1 rfl ?_;refine ab.nil ⟨rfl,?_⟩;refine ZH.mv 3 rfl rfl (by kernel_rfl) (by kernel_rfl) (by kernel_rfl) rfl (fun _ _ _ h=>h) (fun _=>rfl) trivial (fun B1 F1 w1=>?_);refine qU 1 rfl ?_;refine ab.nil ⟨rfl,?_⟩;refine ZH.mv 4 rfl rfl (by kernel_rfl) (by kernel_rfl) (by kernel_rfl) rfl (fun _ _ _ h=>h) (fun _=>rfl) trivial (fun B1 F1 w1=>?_);refine qU 1 rfl ?_;refine ab.nil ⟨rfl,?_⟩;refine ZH.mv 7 rfl rfl (by kernel_rfl) (by kernel_rfl) (by kernel_rfl) rfl (fun _ _ _ h=>h) (fun _=>rfl) trivial (fun B1 F1 w1=>?_);refine qU 1 rfl ?_;refine ab.nil ⟨rfl,?_⟩;refine ZH.meet 0 (qB 15 32767) (fun V=>[(V1,fk (fA zs xs (i+1))),(V2,fk ys)]) (fun V=>[(1,.d (.v V1)),(2,.d (.v V2)),(3,.d (af c)),(4,.bx [.sl 1 (v.map af)]),(9,.d (dI i)),(10,.d (af M)),(13,.d (dI xs.length)),(14,.d (dI i)),(31,.d (.v V1)),(32,.d (dI i)),(34,.d (.v V1)),(35,.d (dI i)),(38,.d (af M)),(33,.d (bP v)),(36,.d (.v (bd V1 (i*1)))),(37,.d (af X)),(39,.d (.tu [af S,aj])),(30,.d (.tu [af S,aj])),(40,.d (af S)),(41,.d aj),(11,.d aj)]) (fun V=>?_) (fun N1_2_5_1_1=>?_)
     · refine ZH.done (by kernel_rfl) trivial ?_;refine AZ.to [1,2,3,4,11,13,14] [(1,.d (.v V1)),(2,.d (.v V2)),(3,.d (af c)),(4,.bx [.sl 1 (v.map af)]),(11,.d aj),(13,.d (dI xs.length)),(14,.d (dI i))] rfl ?_;refine AZ.seq ?_;refine AZ.gp (fun B1 F1 w1=>?_);refine qU 1 rfl ?_;refine ab.err tok rfl rfl rfl rfl rfl ?_;refine ab.nil ⟨rfl,?_⟩;refine AZ.aB rfl ?_;refine AZ.skip ?_;refine AZ.gp (fun B1 F1 w1=>?_);refine qU 1 rfl ?_;rw[aC (x:=(i:Int)+1) (by omega) (by omega)];refine qU 1 rfl ?_;refine ab.nil ⟨rfl,?_⟩;exact⟨i+1,rfl,hin,by omega⟩
     refine ZH.meet 1 (qB 15 16383) (fun V=>[(V1,fk (fA zs xs (i+1))),(V2,fk ys)]) (fun V=>[(1,.d (.v V1)),(2,.d (.v V2)),(3,.d (af c)),(4,.bx [.sl 1 (v.map af)]),(9,.d (dI i)),(10,.d (af M)),(13,.d (dI xs.length)),(14,.d (dI i)),(31,.d (.v V1)),(32,.d (dI i)),(34,.d (.v V1)),(35,.d (dI i)),(38,.d (af M)),(33,.d (bP v)),(36,.d (.v (bd V1 (i*1)))),(37,.d (af X)),(39,.d (.tu [af S,aj])),(30,.d (.tu [af S,aj])),(40,.d (af S)),(41,.d aj)]) (fun V=>?_) (fun N1_2_5_1_0=>?_)
     · refine ZH.all 14 (by kernel_rfl) rfl rfl (fun _=>rfl) trivial ?_;refine ak (fun B1 F1 w1=>?_);refine qU 1 rfl ?_;refine ab.nil ⟨rfl,?_⟩;exact qL (N1_2_5_1_1 V) (by kernel_rfl) rfl trivial
     refine ZH.meet 2 (qB 15 8191) (fun V=>[(V1,fk ps),(V2,fk ys)]) (fun V=>[(1,.d (.v V1)),(2,.d (.v V2)),(3,.d (af c)),(4,.bx [.sl 1 (v.map af)]),(9,.d (dI i)),(10,.d (af M)),(13,.d (dI xs.length)),(14,.d (dI i)),(31,.d (.v V1)),(32,.d (dI i)),(34,.d (.v V1)),(35,.d (dI i)),(38,.d (af M)),(33,.d (bP v)),(36,.d (.v (bd V1 (i*1)))),(37,.d (af X)),(39,.d (.tu [af S,aj])),(30,.d (.tu [af S,aj])),(40,.d (af S)),(42,.d (.v (bd V1 (i*1)))),(41,.d aj)]) (fun V=>?_) (fun N1_2_4_1_0=>?_)
     · refine ZH.all 13 (by kernel_rfl) rfl rfl (fun _=>rfl) trivial ?_;refine ai.fh 31 0 rfl rfl rfl ?_;refine ai.el tok 31 42 rfl (List.Mem.head _) rfl rfl rfl (by rw[List.length_map,hpl];exact hin) rfl ?_;refine ai.cut 1 rfl (fun B1 F1 w1=>?_);refine ab.nG tok S rfl rfl rfl (by omega) ?_;rw[hps];refine ab.nil ⟨rfl,?_⟩;refine ai.back 31 0 rfl rfl rfl (List.Mem.head _) rfl ?_;refine ai.nil ?_;exact qL (N1_2_5_1_0 V) (by kernel_rfl) rfl trivial
     refine ZH.meet 2 (qB 15 14335) (fun V=>[(V1,fk (fA zs xs (i+1))),(V2,fk ys)]) (fun V=>[(1,.d (.v V1)),(2,.d (.v V2)),(3,.d (af c)),(4,.bx [.sl 1 (v.map af)]),(9,.d (dI i)),(10,.d (af M)),(13,.d (dI xs.length)),(14,.d (dI i)),(31,.d (.v V1)),(32,.d (dI i)),(34,.d (.v V1)),(35,.d (dI i)),(38,.d (af M)),(33,.d (bP v)),(36,.d (.v (bd V1 (i*1)))),(37,.d (af X)),(39,.d (.tu [af S,aj])),(30,.d (.tu [af S,aj])),(40,.d (af S))]) (fun V=>?_) (fun N1_2_5_0_0=>?_)
     · refine ZH.all 11 (by kernel_rfl) rfl rfl (fun _=>rfl) trivial ?_;refine ak (fun B1 F1 w1=>?_);refine qU 1 rfl ?_;refine ab.nil ⟨rfl,?_⟩;exact qL (N1_2_5_1_0 V) (by kernel_rfl) rfl trivial
     refine ZH.meet 3 (qB 15 4095) (fun V=>[(V1,fk ps),(V2,fk ys)]) (fun V=>[(1,.d (.v V1)),(2,.d (.v V2)),(3,.d (af c)),(4,.bx [.sl 1 (v.map af)]),(9,.d (dI i)),(10,.d (af M)),(13,.d (dI xs.length)),(14,.d (dI i)),(31,.d (.v V1)),(32,.d (dI i)),(34,.d (.v V1)),(35,.d (dI i)),(38,.d (af M)),(33,.d (bP v)),(36,.d (.v (bd V1 (i*1)))),(37,.d (af X)),(39,.d (.tu [af S,aj])),(30,.d (.tu [af S,aj])),(40,.d (af S)),(41,.d aj)]) (fun V=>?_) (fun N1_2_3_1_0=>?_)
     · refine ZH.all 12 (by kernel_rfl) rfl rfl (fun _=>rfl) trivial ?_;refine ah (fun B1 F1 w1 hS=>?_);refine ab.idxs tok (hS.at (i:=0) rfl (by rw[List.length_map];omega)) rfl rfl rfl rfl (Int.natCast_nonneg i) (by rw[List.length_map,hpl];exact hin) ?_;refine ab.nil ⟨rfl,?_⟩;exact qL (N1_2_4_1_0 V) (by kernel_rfl) rfl trivial
     refine ZH.meet 3 (qB 15 6143) (fun V=>[(V1,fk ps),(V2,fk ys)]) (fun V=>[(1,.d (.v V1)),(2,.d (.v V2)),(3,.d (af c)),(4,.bx [.sl 1 (v.map af)]),(9,.d (dI i)),(10,.d (af M)),(13,.d (dI xs.length)),(14,.d (dI i)),(31,.d (.v V1)),(32,.d (dI i)),(34,.d (.v V1)),(35,.d (dI i)),(38,.d (af M)),(33,.d (bP v)),(36,.d (.v (bd V1 (i*1)))),(37,.d (af X)),(39,.d (.tu [af S,aj])),(30,.d (.tu [af S,aj])),(40,.d (af S)),(42,.d (.v (bd V1 (i*1))))]) (fun V=>?_) (fun N1_2_4_0_0=>?_)
     · refine ZH.two 11 13 (by kernel_rfl) rfl rfl rfl rfl (fun _=>rfl) (fun _=>rfl) trivial ?_ ?_
       · refine ak (fun B1 F1 w1=>?_);refine qU 1 rfl ?_;refine ab.nil ⟨rfl,?_⟩;exact qL (N1_2_4_1_0 V) (by kernel_rfl) rfl trivial
       · refine ai.fh 31 0 rfl rfl rfl ?_;refine ai.el tok 31 42 rfl (List.Mem.head _) rfl rfl rfl (by rw[List.length_map,hpl];exact hin) rfl ?_;refine ai.cut 1 rfl (fun B1 F1 w1=>?_);refine ab.nG tok S rfl rfl rfl (by omega) ?_;rw[hps];refine ab.nil ⟨rfl,?_⟩;refine ai.back 31 0 rfl rfl rfl (List.Mem.head _) rfl ?_;refine ai.nil ?_;exact qL (N1_2_5_0_0 V) (by kernel_rfl) rfl trivial
     refine ZH.meet 4 (qB 15 3071) (fun V=>[(V1,fk ps),(V2,fk ys)]) (fun V=>[(1,.d (.v V1)),(2,.d (.v V2)),(3,.d (af c)),(4,.bx [.sl 1 (v.map af)]),(9,.d (dI i)),(10,.d (af M)),(13,.d (dI xs.length)),(14,.d (dI i)),(31,.d (.v V1)),(32,.d (dI i)),(34,.d (.v V1)),(35,.d (dI i)),(38,.d (af M)),(33,.d (bP v)),(36,.d (.v (bd V1 (i*1)))),(37,.d (af X)),(39,.d (.tu [af S,aj])),(30,.d (.tu [af S,aj])),(41,.d aj)]) (fun V=>?_) (fun N1_2_2_1_0=>?_)
     · refine ZH.all 10 (by kernel_rfl) rfl rfl (fun _=>rfl) trivial ?_;refine ak (fun B1 F1 w1=>?_);refine qU 1 rfl ?_;refine ab.nil ⟨rfl,?_⟩;exact qL (N1_2_3_1_0 V) (by kernel_rfl) rfl trivial
     refine ZH.meet 4 (qB 15 2047) (fun V=>[(V1,fk ps),(V2,fk ys)]) (fun V=>[(1,.d (.v V1)),(2,.d (.v V2)),(3,.d (af c)),(4,.bx [.sl 1 (v.map af)]),(9,.d (dI i)),(10,.d (af M)),(13,.d (dI xs.length)),(14,.d (dI i)),(31,.d (.v V1)),(32,.d (dI i)),(34,.d (.v V1)),(35,.d (dI i)),(38,.d (af M)),(33,.d (bP v)),(36,.d (.v (bd V1 (i*1)))),(37,.d (af X)),(39,.d (.tu [af S,aj])),(30,.d (.tu [af S,aj])),(40,.d (af S))]) (fun V=>?_) (fun N1_2_3_0_0=>?_)
     · refine ZH.two 11 12 (by kernel_rfl) rfl rfl rfl rfl (fun _=>rfl) (fun _=>rfl) trivial ?_ ?_
       · refine ak (fun B1 F1 w1=>?_);refine qU 1 rfl ?_;refine ab.nil ⟨rfl,?_⟩;exact qL (N1_2_3_1_0 V) (by kernel_rfl) rfl trivial
       · refine ah (fun B1 F1 w1 hS=>?_);refine ab.idxs tok (hS.at (i:=0) rfl (by rw[List.length_map];omega)) rfl rfl rfl rfl (Int.natCast_nonneg i) (by rw[List.length_map,hpl];exact hin) ?_;refine ab.nil ⟨rfl,?_⟩;exact qL (N1_2_4_0_0 V) (by kernel_rfl) rfl trivial
     refine ZH.meet 5 (qB 15 1023) (fun V=>[(V1,fk ps),(V2,fk ys)]) (fun V=>[(1,.d (.v V1)),(2,.d (.v V2)),(3,.d (af c)),(4,.bx [.sl 1 (v.map af)]),(9,.d (dI i)),(10,.d (af M)),(13,.d (dI xs.length)),(14,.d (dI i)),(31,.d (.v V1)),(32,.d (dI i)),(34,.d (.v V1)),(35,.d (dI i)),(38,.d (af M)),(33,.d (bP v)),(36,.d (.v (bd V1 (i*1)))),(37,.d (af X)),(39,.d (.tu [af S,aj])),(30,.d (.tu [af S,aj]))]) (fun V=>?_) (fun N1_2_2_0_0=>?_)
     · refine ZH.two 10 11 (by kernel_rfl) rfl rfl rfl rfl (fun _=>rfl) (fun _=>rfl) trivial ?_ ?_
       · refine ak (fun B1 F1 w1=>?_);refine qU 1 rfl ?_;refine ab.nil ⟨rfl,?_⟩;exact qL (N1_2_3_0_0 V) (by kernel_rfl) rfl trivial
       · refine ak (fun B1 F1 w1=>?_);refine qU 1 rfl ?_;refine ab.nil ⟨rfl,?_⟩;exact qL (N1_2_2_1_0 V) (by kernel_rfl) rfl trivial
     refine ZH.meet 6 (qB 15 511) (fun V=>[(V1,fk ps),(V2,fk ys)]) (fun V=>[(1,.d (.v V1)),(2,.d (.v V2)),(3,.d (af c)),(4,.bx [.sl 1 (v.map af)]),(9,.d (dI i)),(10,.d (af M)),(13,.d (dI xs.length)),(14,.d (dI i)),(31,.d (.v V1)),(32,.d (dI i)),(34,.d (.v V1)),(35,.d (dI i)),(38,.d (af M)),(33,.d (bP v)),(36,.d (.v (bd V1 (i*1)))),(37,.d (af X)),(39,.d (.tu [af S,aj]))]) (fun V=>?_) (fun N1_2_1_0_0=>?_)
     · refine ZH.all 9 (by kernel_rfl) rfl rfl (fun _=>rfl) trivial ?_;refine ak (fun B1 F1 w1=>?_);refine qU 1 rfl ?_;refine ab.nil ⟨rfl,?_⟩;exact qL (N1_2_2_0_0 V) (by kernel_rfl) rfl trivial
     refine ZH.meet 7 (qB 15 255) (fun V=>[(V1,fk ps),(V2,fk ys)]) (fun V=>[(1,.d (.v V1)),(2,.d (.v V2)),(3,.d (af c)),(4,.bx [.sl 1 (v.map af)]),(9,.d (dI i)),(10,.d (af M)),(13,.d (dI xs.length)),(14,.d (dI i)),(31,.d (.v V1)),(32,.d (dI i)),(34,.d (.v V1)),(35,.d (dI i)),(38,.d (af M)),(33,.d (bP v)),(36,.d (.v (bd V1 (i*1)))),(37,.d (af X))]) (fun V=>?_) (fun N1_2_0_0_0=>?_)
     · refine ZH.all 8 (by kernel_rfl) rfl rfl (fun _=>rfl) trivial ?_;refine ak (fun B1 F1 w1=>?_);refine ab.call tok rfl rfl rfl rfl cs ?_;refine ab.nil ⟨rfl,?_⟩;exact qL (N1_2_1_0_0 V) (by kernel_rfl) rfl trivial
     refine ZH.meet 8 (qB 15 251) (fun V=>[(V1,fk ps),(V2,fk ys)]) (fun V=>[(1,.d (.v V1)),(2,.d (.v V2)),(3,.d (af c)),(4,.bx [.sl 1 (v.map af)]),(9,.d (dI i)),(10,.d (af M)),(13,.d (dI xs.length)),(14,.d (dI i)),(31,.d (.v V1)),(32,.d (dI i)),(34,.d (.v V1)),(35,.d (dI i)),(38,.d (af M)),(36,.d (.v (bd V1 (i*1)))),(37,.d (af X))]) (fun V=>?_) (fun N0_2_0_0_0=>?_)
     · refine ZH.all 2 (by kernel_rfl) rfl rfl (fun _=>rfl) trivial ?_;refine ak (fun B1 F1 w1=>?_);refine qU 1 rfl ?_;refine ab.nil ⟨rfl,?_⟩;exact qL (N1_2_0_0_0 V) (by kernel_rfl) rfl trivial
     refine ZH.meet 8 (qB 15 191) (fun V=>[(V1,fk ps),(V2,fk ys)]) (fun V=>[(1,.d (.v V1)),(2,.d (.v V2)),(3,.d (af c)),(4,.bx [.sl 1 (v.map af)]),(9,.d (dI i)),(10,.d (af M)),(13,.d (dI xs.length)),(14,.d (dI i)),(31,.d (.v V1)),(32,.d (dI i)),(34,.d (.v V1)),(35,.d (dI i)),(38,.d (af M)),(33,.d (bP v)),(36,.d (.v (bd V1 (i*1))))]) (fun V=>?_) (fun N1_1_0_0_0=>?_)
     · refine ZH.all 6 (by kernel_rfl) rfl rfl (fun _=>rfl) trivial ?_;refine ah (fun B1 F1 w1 hS=>?_);refine ab.aY tok (af (ps.getD i [])) (hS.at (i:=0) rfl (by rw[List.length_map];omega)) rfl rfl rfl rfl rfl rfl (getM af (by omega)) rfl ?_;rw[hpg];refine ab.nil ⟨rfl,?_⟩;exact qL (N1_2_0_0_0 V) (by kernel_rfl) rfl trivial
     refine ZH.meet 9 (qB 15 187) (fun V=>[(V1,fk ps),(V2,fk ys)]) (fun V=>[(1,.d (.v V1)),(2,.d (.v V2)),(3,.d (af c)),(4,.bx [.sl 1 (v.map af)]),(9,.d (dI i)),(10,.d (af M)),(13,.d (dI xs.length)),(14,.d (dI i)),(31,.d (.v V1)),(32,.d (dI i)),(34,.d (.v V1)),(35,.d (dI i)),(38,.d (af M)),(36,.d (.v (bd V1 (i*1))))]) (fun V=>?_) (fun N0_1_0_0_0=>?_)
     · refine ZH.two 2 6 (by kernel_rfl) rfl rfl rfl rfl (fun _=>rfl) (fun _=>rfl) trivial ?_ ?_
       · refine ak (fun B1 F1 w1=>?_);refine qU 1 rfl ?_;refine ab.nil ⟨rfl,?_⟩;exact qL (N1_1_0_0_0 V) (by kernel_rfl) rfl trivial
       · refine ah (fun B1 F1 w1 hS=>?_);refine ab.aY tok (af (ps.getD i [])) (hS.at (i:=0) rfl (by rw[List.length_map];omega)) rfl rfl rfl rfl rfl rfl (getM af (by omega)) rfl ?_;rw[hpg];refine ab.nil ⟨rfl,?_⟩;exact qL (N0_2_0_0_0 V) (by kernel_rfl) rfl trivial
     refine ZH.meet 9 (qB 15 159) (fun V=>[(V1,fk ps),(V2,fk ys)]) (fun V=>[(1,.d (.v V1)),(2,.d (.v V2)),(3,.d (af c)),(4,.bx [.sl 1 (v.map af)]),(9,.d (dI i)),(10,.d (af M)),(13,.d (dI xs.length)),(14,.d (dI i)),(31,.d (.v V1)),(32,.d (dI i)),(34,.d (.v V1)),(35,.d (dI i)),(38,.d (af M)),(33,.d (bP v))]) (fun V=>?_) (fun N1_0_0_0_0=>?_)
     · refine ZH.all 5 (by kernel_rfl) rfl rfl (fun _=>rfl) trivial ?_;refine ah (fun B1 F1 w1 hS=>?_);refine ab.idxs tok (hS.at (i:=0) rfl (by rw[List.length_map];omega)) rfl rfl rfl rfl (Int.natCast_nonneg i) (by rw[List.length_map,hpl];exact hin) ?_;refine ab.nil ⟨rfl,?_⟩;exact qL (N1_1_0_0_0 V) (by kernel_rfl) rfl trivial
     refine ZH.meet 10 (qB 15 155) (fun V=>[(V1,fk ps),(V2,fk ys)]) (fun V=>[(1,.d (.v V1)),(2,.d (.v V2)),(3,.d (af c)),(4,.bx [.sl 1 (v.map af)]),(9,.d (dI i)),(10,.d (af M)),(13,.d (dI xs.length)),(14,.d (dI i)),(31,.d (.v V1)),(32,.d (dI i)),(34,.d (.v V1)),(35,.d (dI i)),(38,.d (af M))]) (fun V=>?_) (fun N0_0_0_0_0=>?_)
     · refine ZH.two 2 5 (by kernel_rfl) rfl rfl rfl rfl (fun _=>rfl) (fun _=>rfl) trivial ?_ ?_
       · refine ak (fun B1 F1 w1=>?_);refine qU 1 rfl ?_;refine ab.nil ⟨rfl,?_⟩;exact qL (N1_0_0_0_0 V) (by kernel_rfl) rfl trivial
       · refine ah (fun B1 F1 w1 hS=>?_);refine ab.idxs tok (hS.at (i:=0) rfl (by rw[List.length_map];omega)) rfl rfl rfl rfl (Int.natCast_nonneg i) (by rw[List.length_map,hpl];exact hin) ?_;refine ab.nil ⟨rfl,?_⟩;exact qL (N0_1_0_0_0 V) (by kernel_rfl) rfl trivial
     exact qL (N0_0_0_0_0 eU) (by kernel_rfl) rfl trivial
   have hin:i=xs.length:=by have:=of_decide_eq_false h;omega
   subst hin;rw[vK hz];refine AZ.exit ?_;refine AZ.seq ?_;refine AZ.gp (fun B1 F1 w1=>?_);refine qU 1 rfl ?_;refine ab.nil ⟨rfl,?_⟩;exact AZ.ret ⟨aj,rfl,rfl,rfl⟩
end Lift
namespace Lift
abbrev bq:=List (List NQ)
structure gj where
 rows:bq
 cols:List Nat
 sg:Int
 det:NQ
def gw(g:Nat→Bool):Nat→Nat→Nat
 | 0,i=>i
 | m+1,i=>if g i=true then i else gw g m (i+1)
theorem sY{g:Nat→Bool}{n i:Nat}(h:i<n)(h0:g i=false):gw g (n-i) i=gw g (n-(i+1)) (i+1):=by
 rw[show n-i=(n-(i+1))+1 by omega,gw,if_neg (by rw[h0];simp)]
theorem vY{g:Nat→Bool}{n i:Nat}(h:i<n)(h0:g i=true):gw g (n-i) i=i:=by
 rw[show n-i=(n-(i+1))+1 by omega,gw,if_pos h0]
theorem vZ{g:Nat→Bool}{n i:Nat}(h: ¬i<n):gw g (n-i) i=i:=by rw[show n-i=0 by omega,gw]
theorem ot{g:Nat→Bool}: ∀{m i:Nat},i≤gw g m i∧gw g m i≤i+m∧(∀k,i≤k→k<gw g m i→g k=false)∧(gw g m i<i+m→g (gw g m i)=true)
 | 0,i=>⟨Nat.le_refl _,Nat.le_refl _,fun k h1 h2=>by simp only[gw] at h2;omega,fun h=>by simp only[gw] at h;omega⟩
 | m+1,i=>by
   simp only[gw];split
   · rename_i h;exact⟨Nat.le_refl _,by omega,fun k h1 h2=>by omega,fun _=>h⟩
   · rename_i h;obtain ⟨h1,h2,h3,h4⟩:=ot (g:=g) (m:=m) (i:=i+1);refine⟨by omega,by omega,fun k k1 k2=>?_,fun k=>h4 (by omega)⟩;by_cases e:k=i
     · subst e;simpa using h
     · exact h3 k (by omega) k2
def bU(a:bq)(i k:Nat):NQ:=(a.getD i []).getD k []
def EP(v:List NQ)(a:bq)(c j:Nat):Bool:=decide (pc v (bU a j c)≠0)
def BQ(b:bq)(r t:Nat):bq:=(b.set t (b.getD r [])).set r (b.getD t [])
def cU(v:List NQ)(e:bq)(r c:Nat):Nat→bq
 | 0=>e
 | i+1=>if i≠r∧pc v (bU (cU v e r c i) i c)≠0 then (cU v e r c i).set i (lz v ((cU v e r c i).getD i []) ((cU v e r c i).getD r []) (bU (cU v e r c i) i c)) else cU v e r c i
def atR(v:List NQ)(s:gj)(c:Nat):Nat:=gw (EP v s.rows c) (s.rows.length-s.cols.length) s.cols.length
def bR(v:List NQ)(s:gj)(c:Nat):bq:=if atR v s c=s.cols.length then s.rows else BQ s.rows s.cols.length (atR v s c)
def pR(v:List NQ)(s:gj)(c:Nat):NQ:=bU (bR v s c) s.cols.length c
def wA(v:List NQ)(r:List NQ)(p:NQ):List NQ:=r.map (fun x=>r6 v x p)
def eR(v:List NQ)(s:gj)(c:Nat):bq:=(bR v s c).set s.cols.length (wA v ((bR v s c).getD s.cols.length []) (pR v s c))
def eG(v:List NQ)(s:gj)(c:Nat):gj :=
 if atR v s c<s.rows.length then ⟨cU v (eR v s c) s.cols.length c (eR v s c).length,s.cols++[c],if atR v s c=s.cols.length then s.sg else -s.sg,mW v s.det (pR v s c)⟩ else s
def aV(v:List NQ)(a:bq):Nat→gj
 | 0=>⟨a,[],1,[1]⟩
 | c+1=>eG v (aV v a c) c
structure jD (v:List NQ) (s:gj) (c:Nat):Prop where
 sg: ∀j,s.cols.length≤j→j<s.rows.length→vz v (bU s.rows j c)
 det:atR v s c<s.rows.length→yj v s.det (pR v s c)
 div:atR v s c<s.rows.length→ ∀k,k<((bR v s c).getD s.cols.length []).length→As v (bU (bR v s c) s.cols.length k) (pR v s c)
 sg2:atR v s c<s.rows.length→ ∀i,i<s.rows.length→i≠s.cols.length→vz v (bU (eR v s c) i c)
 take:atR v s c<s.rows.length→ ∀i,i<s.rows.length→i≠s.cols.length→pc v (bU (eR v s c) i c)≠0→xe v ((eR v s c).getD i []) ((eR v s c).getD s.cols.length []) (bU (eR v s c) i c)
def cG(N:Nat)(a:bq):Prop:= ∀j,j<a.length→(a.getD j []).length=N
def oF(l:Nat)(a:bq):Prop:= ∀j k,ao l (bU a j k)
theorem gf(a:bq)(i j:Nat)(r:List NQ):(a.set i r).getD j []=if j=i∧i<a.length then r else a.getD j []:=by
 rw[List.getD_eq_getElem?_getD,List.getElem?_set,List.getD_eq_getElem?_getD];by_cases e:i=j
 · subst e;by_cases h:i<a.length
   · rw[if_pos rfl,if_pos h,if_pos ⟨rfl,h⟩];rfl
   · rw[if_pos rfl,if_neg h,if_neg (fun e=>h e.2),List.getElem?_eq_none (by omega)]
 · rw[if_neg e,if_neg (fun h=>e h.1.symm)]
theorem nc{a:bq}{i:Nat}(h:a.length≤i):a.getD i []=[]:=by rw[List.getD_eq_getElem?_getD,List.getElem?_eq_none h];rfl
theorem m9{r:List NQ}{i:Nat}(h:r.length≤i):r.getD i []=[]:=by rw[List.getD_eq_getElem?_getD,List.getElem?_eq_none h];rfl
theorem cG.set{N:Nat}{a:bq}(h:cG N a){r:List NQ}(hr:r.length=N)(i:Nat):cG N (a.set i r):=fun j hj=>by
 rw[gf];split
 · exact hr
 · exact h j (by simpa using hj)
theorem oF.set{l:Nat}{a:bq}(h:oF l a){r:List NQ}(hr: ∀k,ao l (r.getD k []))(i:Nat):oF l (a.set i r):=fun j k=>by
 unfold bU;rw[gf];split
 · exact hr k
 · exact h j k
theorem BP(b:bq)(r t:Nat):(BQ b r t).length=b.length:=by unfold BQ;rw[List.length_set,List.length_set]
theorem zO{N:Nat}{b:bq}(h:cG N b){r t:Nat}(hr:r<b.length)(ht:t<b.length):cG N (BQ b r t):=(h.set (h r hr) t).set (h t ht) r
theorem Dz{l:Nat}{b:bq}(h:oF l b)(r t:Nat):oF l (BQ b r t):=(h.set (h r) t).set (h t) r
theorem pH(v:List NQ)(r:List NQ)(p:NQ):(wA v r p).length=r.length:=List.length_map ..
theorem pI(v:List NQ)(r:List NQ)(p:NQ){k:Nat}(h:k<r.length):(wA v r p).getD k []=r6 v (r.getD k []) p:=by
 unfold wA;rw[List.getD_eq_getElem?_getD,List.getElem?_map,List.getD_eq_getElem?_getD,List.getElem?_eq_getElem h];rfl
theorem DO{v:List NQ}(V:lL v){r:List NQ}{p:NQ}(hr: ∀k,ao v.length (r.getD k []))(hp:ao v.length p)(k:Nat):ao v.length ((wA v r p).getD k []):=by
 by_cases h:k<r.length
 · rw[pI v r p h];exact CK V (hr k) hp
 · rw[m9 (by rw[pH];omega)];exact bz _
theorem zL{v:List NQ}(V:lL v){xs ys:List NQ}{c:NQ}(hx: ∀k,ao v.length (xs.getD k []))(hy: ∀k,ao v.length (ys.getD k []))(hc:ao v.length c)(k:Nat):ao v.length ((lz v xs ys c).getD k []):=by
 by_cases h:k<xs.length
 · rw[kP v xs ys c h];exact BU (hx k) (pP V hc (hy k))
 · rw[m9 (by rw[kO];omega)];exact bz _
theorem jc(v:List NQ)(e:bq)(r c:Nat): ∀i,(cU v e r c i).length=e.length
 | 0=>rfl
 | i+1=>by
   unfold cU;split
   · rw[List.length_set];exact jc v e r c i
   · exact jc v e r c i
theorem oC{N:Nat}{v:List NQ}{e:bq}{r c:Nat}(h:cG N e): ∀i,i≤e.length→cG N (cU v e r c i)
 | 0,_=>h
 | i+1,hi=>by
   have ih:=oC (v:=v) (r:=r) (c:=c) h i (by omega);unfold cU;split
   · exact ih.set (by rw[kO];exact ih i (by rw[jc];omega)) i
   · exact ih
theorem uB{v:List NQ}(V:lL v){e:bq}{r c:Nat}(h:oF v.length e): ∀i,oF v.length (cU v e r c i)
 | 0=>h
 | i+1=>by
   have ih:=uB V (r:=r) (c:=c) h i;unfold cU;split
   · exact ih.set (zL V (ih i) (ih r) (ih i c)) i
   · exact ih
theorem fg(v:List NQ)(e:bq)(r c:Nat): ∀i,(∀j,i≤j∨j=r→(cU v e r c i).getD j []=e.getD j [])
 | 0,j,_=>rfl
 | i+1,j,hj=>by
   have ih:=fg v e r c i j (by omega);unfold cU;split
   · rename_i h;rw[gf,if_neg (fun g=>by rcases hj with hj | hj<;>omega)];exact ih
   · exact ih
theorem uC(v:List NQ)(e:bq)(r c:Nat)(i:Nat)(k:Nat):bU (cU v e r c i) i k=bU e i k:=by unfold bU;rw[fg v e r c i i (.inl (Nat.le_refl _))]
structure o7 (v:List NQ) (m N c:Nat) (s:gj):Prop where
 len:s.rows.length=m
 rect:cG N s.rows
 lt:oF v.length s.rows
 cl:s.cols.length≤c
 cm:s.cols.length≤m
 det:ao v.length s.det
 sg:s.sg=1∨s.sg= -1
theorem gY(v:List NQ)(s:gj)(c:Nat)(h:s.cols.length≤s.rows.length):s.cols.length≤atR v s c∧atR v s c≤s.rows.length∧(∀k,s.cols.length≤k→k<atR v s c→pc v (bU s.rows k c)=0)∧(atR v s c<s.rows.length→pc v (bU s.rows (atR v s c) c)≠0):=by
 obtain ⟨h1,h2,h3,h4⟩:=ot (g:=EP v s.rows c) (m:=s.rows.length-s.cols.length) (i:=s.cols.length);refine⟨h1,by unfold atR;omega,fun k k1 k2=>?_,fun h=>?_⟩
 · have:=h3 k k1 k2;unfold EP at this;exact Classical.byContradiction fun g=>by rw[decide_eq_true g] at this;cases this
 · exact of_decide_eq_true (h4 (by unfold atR at h;omega))
theorem wq{v:List NQ}{m N c k:Nat}{s:gj}(R:o7 v m N k s)(h:atR v s c<s.rows.length):(bR v s c).length=m∧cG N (bR v s c)∧oF v.length (bR v s c):=by
 have hl:=R.len;have:=(gY v s c (by have:=R.cm;omega)).1;unfold bR;split
 · exact⟨R.len,R.rect,R.lt⟩
 · exact⟨by rw[BP];exact R.len,zO R.rect (by omega) h,Dz R.lt _ _⟩
theorem yC{v:List NQ}(V:lL v){m N c k:Nat}{s:gj}(R:o7 v m N k s)(h:atR v s c<s.rows.length):(eR v s c).length=m∧cG N (eR v s c)∧oF v.length (eR v s c):=by
 obtain ⟨h1,h2,h3⟩:=wq (c:=c) R h;have hl:=R.len;have:=(gY v s c (by have:=R.cm;omega)).1;unfold eR;exact⟨by rw[List.length_set];exact h1,h2.set (by rw[pH];exact h2 _ (by omega)) _,h3.set (DO V (h3 _) (h3 _ _)) _⟩
theorem BY{v:List NQ}(V:lL v){m N c:Nat}{s:gj}(R:o7 v m N c s):o7 v m N (c+1) (eG v s c):=by
 have hl:=R.len;have hc:=R.cl;unfold eG;split
 · rename_i h;obtain ⟨e1,e2,e3⟩:=yC V (c:=c) R h;have ha:=(gY v s c (by have:=R.cm;omega)).1;refine⟨by rw[jc];exact e1,oC e2 _ (Nat.le_refl _),uB V e3 _,?_,?_,pP V R.det ((wq R h).2.2 _ _),?_⟩
   · show (s.cols++[c]).length≤c+1;rw[List.length_append];show s.cols.length+1≤_;omega
   · show (s.cols++[c]).length≤m;rw[List.length_append];show s.cols.length+1≤_;omega
   · rcases R.sg with h1 | h1<;>(show (if _ then s.sg else -s.sg)=1∨_= -1;split<;>simp[h1])
 · exact⟨R.len,R.rect,R.lt,by omega,R.cm,R.det,R.sg⟩
theorem gO{v:List NQ}(V:lL v){a:bq}{N:Nat}(hr:cG N a)(hl:oF v.length a): ∀c,o7 v a.length N c (aV v a c)
 | 0=>⟨rfl,hr,hl,Nat.le_refl _,Nat.zero_le _,gB _ _,.inl rfl⟩
 | c+1=>BY V (gO V hr hl c)
theorem mE(v:List NQ): ∀c,aV v [] c=⟨[],[],1,[1]⟩
 | 0=>rfl
 | c+1=>by
   show eG v (aV v [] c) c=_;rw[mE v c];unfold eG;exact if_neg (Nat.not_lt_zero _)
end Lift
namespace Lift
def vM{v:List NQ}(F:FV v)(a:bq):Mk F.K:=fun i k=>F.val (bU a i k)
theorem s8(v:List NQ)(e:bq)(r c:Nat): ∀n i,i<n→n≤e.length→(cU v e r c n).getD i []=if i≠r∧pc v (bU e i c)≠0 then lz v (e.getD i []) (e.getD r []) (bU e i c) else e.getD i []
 | 0,i,hi,_=>absurd hi (Nat.not_lt_zero i)
 | n+1,i,hi,hn=>by
   by_cases e1:i=n
   · subst e1;unfold cU;rw[uC];split
     · rw[gf,if_pos ⟨rfl,by rw[jc];omega⟩,fg v e r c i i (.inl (Nat.le_refl _)),fg v e r c i r (.inr rfl)]
     · exact fg v e r c i i (.inl (Nat.le_refl _))
   · have ih:=s8 v e r c n i (by omega) (by omega);rw[← ih]
     conv=>lhs;unfold cU
     split
     · rw[gf,if_neg (fun h=>e1 h.1)]
     · rfl
theorem xI{v:List NQ}{s:gj}{c i:Nat}(h1:s.cols.length≤atR v s c)(h:atR v s c<s.rows.length)(hi:i<s.rows.length):(bR v s c).getD i []=s.rows.getD (sw s.cols.length (atR v s c) i) []:=by
 unfold bR;split
 · rename_i e;rw[e];unfold sw;by_cases g:i=s.cols.length
   · rw[if_pos g,g]
   · rw[if_neg g,if_neg g]
 · unfold BQ sw;rw[gf,gf];by_cases g:i=s.cols.length
   · rw[if_pos ⟨g,by rw[List.length_set];omega⟩,if_pos g]
   · rw[if_neg (fun h=>g h.1),if_neg g];by_cases g2:i=atR v s c
     · rw[if_pos ⟨g2,h⟩,if_pos g2]
     · rw[if_neg (fun h=>g2 h.1),if_neg g2]
theorem zT{v:List NQ}(V:lL v)(F:FV v){m N c:Nat}{s:gj}(R:o7 v m N c s)(hc:c<N)(h:atR v s c<s.rows.length):
  vM F s.rows (atR v s c) c≠0∧ ∀i k,i<m→k<N→vM F (cU v (eR v s c) s.cols.length c (eR v s c).length) i k=if i=s.cols.length then vM F s.rows (atR v s c) k*F.K.inv (vM F s.rows (atR v s c) c) else vM F s.rows (sw s.cols.length (atR v s c) i) k-vM F s.rows (sw s.cols.length (atR v s c) i) c*(vM F s.rows (atR v s c) k*F.K.inv (vM F s.rows (atR v s c) c)):=by
 have hl:=R.len;obtain ⟨a1,a2,a3,a4⟩:=gY v s c (by have:=R.cm;omega);have hz:=a4 h;obtain ⟨b1,b2,b3⟩:=wq (c:=c) R h;obtain ⟨e1,e2,e3⟩:=yC V (c:=c) R h;have hrm:s.cols.length<m:=by omega
 have eB: ∀i k,i<m→bU (bR v s c) i k=bU s.rows (sw s.cols.length (atR v s c) i) k:=fun i k hi=>by
  unfold bU;rw[xI a1 h (by omega)]
 have hp:pR v s c=bU s.rows (atR v s c) c:=by
  unfold pR;rw[eB _ _ hrm,Dy]
 have hpz:pc v (pR v s c)≠0:=by rw[hp];exact hz
 have eE: ∀i k,i<m→k<N→bU (eR v s c) i k=if i=s.cols.length then r6 v (bU s.rows (atR v s c) k) (bU s.rows (atR v s c) c) else bU s.rows (sw s.cols.length (atR v s c) i) k:=fun i k hi hk=>by
  unfold bU eR;rw[gf];by_cases e:i=s.cols.length
  · rw[if_pos ⟨e,by omega⟩,if_pos e,pI _ _ _ (by rw[b2 _ (by omega)];exact hk),hp,xI a1 h (by omega),Dy];rfl
  · rw[if_neg (fun h=>e h.1),if_neg e,xI a1 h (by omega)]
 have ltR:=R.lt
 have vE: ∀i k,i<m→k<N→F.val (bU (eR v s c) i k)=if i=s.cols.length then vM F s.rows (atR v s c) k*F.K.inv (vM F s.rows (atR v s c) c) else vM F s.rows (sw s.cols.length (atR v s c) i) k:=fun i k hi hk=>by
  rw[eE i k hi hk];by_cases e:i=s.cols.length
  · rw[if_pos e,if_pos e,F.div (ltR _ _) (ltR _ _) hz];rfl
  · rw[if_neg e,if_neg e];rfl
 refine⟨fun e=>hz ((F.sg (ltR _ _)).2 e),fun i k hi hk=>?_⟩;have hd:=s8 v (eR v s c) s.cols.length c (eR v s c).length i (by omega) (Nat.le_refl _);show F.val (((cU v (eR v s c) s.cols.length c (eR v s c).length).getD i []).getD k [])=_;rw[hd];by_cases e:i=s.cols.length
 · rw[if_neg (fun h=>h.1 e),if_pos e];have:=vE i k hi hk;rw[if_pos e] at this;exact this
 · rw[if_neg e];have v1:=vE i k hi hk;have v2:=vE i c hi hc;have v3:=vE s.cols.length k hrm hk;rw[if_neg e] at v1 v2;rw[if_pos rfl] at v3;by_cases g:pc v (bU (eR v s c) i c)=0
   · rw[if_neg (fun h=>h.2 g)];have z:=(F.sg (e3 i c)).1 g;rw[v2] at z;rw[z,Rg.zero_mul];show F.val (bU (eR v s c) i k)=_;rw[v1];exact(Rg.fp [vM F s.rows (sw s.cols.length (atR v s c) i) k] (X0-0) X0 rfl).symm
   · rw[if_pos ⟨e,g⟩,kP v _ _ _ (by rw[e2 i (by omega)];exact hk)];show F.val (pb (bU (eR v s c) i k) (mW v (bU (eR v s c) i c) (bU (eR v s c) s.cols.length k)))=_;rw[F.sub (e3 i k) (pP V (e3 i c) (e3 _ k)),F.mul (e3 i c) (e3 _ k)];show F.val (bU (eR v s c) i k) -F.val (bU (eR v s c) i c)*F.val (bU (eR v s c) s.cols.length k)=_;rw[v1,v2,v3]
theorem w5{v:List NQ}(V:lL v)(F:FV v){a:bq}{N:Nat}(hr:cG N a)(hl:oF v.length a): ∀c,c≤N→RI a.length N c (vM F a) (vM F (aV v a c).rows) (aV v a c).cols
 | 0,_=>RI.start a.length N (vM F a)
 | c+1,hc=>by
   have I:=w5 V F hr hl c (by omega);have R:=gO V hr hl c;have hlen:=R.len;obtain ⟨a1,a2,a3,a4⟩:=gY v (aV v a c) c (by have:=R.cm;omega);show RI a.length N (c+1) (vM F a) (vM F (eG v (aV v a c) c).rows) (eG v (aV v a c) c).cols;unfold eG;by_cases h:atR v (aV v a c) c<(aV v a c).rows.length
   · rw[if_pos h];obtain ⟨h3,h4⟩:=zT V F R (by omega) h;exact I.hit (by omega) a1 (by omega) h3 h4
   · rw[if_neg h];exact I.FI (by omega) fun q h1 h2=>(F.sg (R.lt q c)).1 (a3 q h1 (by omega))
theorem cG.take{N:Nat}{a:bq}(h:cG N a)(n:Nat):cG N (a.take n):=fun j hj=>by
 rw[List.length_take] at hj;rw[List.getD_eq_getElem?_getD,List.getElem?_take,if_pos (by omega),← List.getD_eq_getElem?_getD];exact h j (by omega)
theorem uu{a:bq}{n j:Nat}(hj:j<n):(a.take n).getD j []=a.getD j []:=by
 rw[List.getD_eq_getElem?_getD,List.getElem?_take,if_pos hj,← List.getD_eq_getElem?_getD]
theorem nj{a:bq}{n j:Nat}(hj:j<n)(k:Nat):bU (a.take n) j k=bU a j k:=by
 unfold bU;rw[uu hj]
theorem oF.take{l:Nat}{a:bq}(h:oF l a)(n:Nat):oF l (a.take n):=fun j k=>by
 by_cases hj:j<n
 · rw[nj hj];exact h j k
 · unfold bU;rw[nc (by rw[List.length_take];omega)];exact bz l
theorem yY{m0:Nat}{v:List NQ}(V:nA m0 v){a b:bq}{N n:Nat}(ha:cG N a)(la:oF v.length a)(hb:cG a.length b)(lb:oF v.length b)(hbN:b.length=N)(hab: ∀i k,i<a.length→k<N→bU b k i=bU a i k)(hn:n≤a.length):
  (aV v b n).cols.length=(aV v (a.take n) N).cols.length:=by
 obtain ⟨F⟩:=E1 V;have I1:=w5 V.a F hb lb n hn;have I2:=w5 V.a F (ha.take n) (la.take n) N (Nat.le_refl N);have hl:(a.take n).length=n:=by rw[List.length_take];omega
 rw[hl] at I2;rw[hbN] at I1
 have key: ∀s,xO N n s (vM F b)↔xO n N s (vM F (a.take n)):=fun s=>by
  constructor
  · intro h;refine h.Ey.congr fun i k hi hk=>?_;show F.val (bU b k i)=F.val (bU (a.take n) i k);rw[hab i k (by omega) hk,nj hi]
  · intro h;refine h.Ey.congr fun k i hk hi=>?_;show F.val (bU (a.take n) i k)=F.val (bU b k i);rw[hab i k (by omega) hk,nj hi]
 have h1:=fun s=>(I1.fac (s:=s)).symm.trans ((key s).trans I2.fac);exact Nat.le_antisymm ((h1 _).2 (Nat.le_refl _)) ((h1 _).1 (Nat.le_refl _))
end Lift
