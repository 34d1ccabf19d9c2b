/- Parts of the proof, one behind the other: the logic, the contracts of the functions that the statement reaches. -/
import Derived.Test.YtfakkdmfofiibaaGreatT7D
set_option linter.unusedVariables false
set_option linter.unusedSimpArgs false
namespace Lift
open Go Go.Proofs
abbrev nR(Vs:List Value):List D:=Vs.map D.v
theorem b7{Vs:List Value}{i:Nat}(h:i<Vs.length):(nR Vs)[i]?=some (.v (Vs.getD i undef)):=by simp[h]
abbrev OA(Vs:List Value):AV:=AV.ow 22 (nR Vs)
abbrev CA(cols:List Nat):AV:=AV.ow 3 (cols.map (fun c:Nat=>dI c))
def cu(Vs:List Value)(a:a6):List LR:=List.zipWith (fun V r=>(V,eO r)) Vs a
theorem AL{Vs:List Value}{a:a6}(h:Vs.length=a.length)(V:Value)(r:List NQ):cu (Vs++[V]) (a++[r])=cu Vs a++[(V,eO r)]:=by
 unfold cu;rw[List.zipWith_append h];rfl
theorem bS{Vs:List Value}{a:a6}{j:Nat}(hV:j<Vs.length)(ha:j<a.length):(cu Vs a)[j]?=some (Vs.getD j undef,eO (a.getD j [])):=by
 unfold cu;simp[List.getElem?_zipWith,hV,ha]
theorem nT{Vs:List Value}{a:a6}{j:Nat}(hV:j<Vs.length)(ha:j<a.length)(V:Value)(r:List NQ):(cu Vs a).set j (V,eO r)=cu (Vs.set j V) (a.set j r):=by
 unfold cu;refine List.ext_getElem? (fun k=>?_);by_cases hk:k=j
 · subst hk;rw[List.getElem?_set_self (by simp;omega)];simp[List.getElem?_zipWith,hV,ha]
 · rw[List.getElem?_set_ne (Ne.symm hk)];simp[List.getElem?_zipWith,List.getElem?_set_ne (Ne.symm hk)]
theorem Ec{Vs:List Value}{j:Nat}(hV:j<Vs.length):Vs.set j (Vs.getD j undef)=Vs:=by
 refine List.ext_getElem? (fun k=>?_);by_cases hk:k=j
 · subst hk;rw[List.getElem?_set_self hV];simp[hV]
 · rw[List.getElem?_set_ne (Ne.symm hk)]
theorem nh{a:a6}{j:Nat}(ha:j<a.length):a.set j (a.getD j [])=a:=by
 refine List.ext_getElem? (fun k=>?_);by_cases hk:k=j
 · subst hk;rw[List.getElem?_set_self ha];simp[ha]
 · rw[List.getElem?_set_ne (Ne.symm hk)]
theorem uy{Vs:List Value}{a:a6}{j:Nat}(hV:j<Vs.length)(ha:j<a.length)(r:List NQ):(cu Vs a).set j (Vs.getD j undef,eO r)=cu Vs (a.set j r):=by
 rw[nT hV ha,Ec hV]
def zg(Vs:List Value)(r t:Nat):List Value:=(Vs.set t (Vs.getD r undef)).set r (Vs.getD t undef)
theorem xS(Vs:List Value)(r t:Nat):(zg Vs r t).length=Vs.length:=by unfold zg;rw[List.length_set,List.length_set]
theorem wA{Vs:List Value}{a:a6}{r t:Nat}(h:Vs.length=a.length)(hr:r<a.length)(ht:t<a.length):
  ((cu Vs a).set t (Vs.getD r undef,eO (a.getD r []))).set r (Vs.getD t undef,eO (a.getD t []))=cu (zg Vs r t) (zf a r t):=by
 rw[nT (by omega) ht,nT (by simp;omega) (by simp;omega)];rfl
theorem F6{Vs:List Value}{a:a6}{i r:Nat}(h:Vs.length=a.length)(hi:i<a.length)(hr:r<a.length)(hir:i≠r)(z:List NQ):
  ((cu Vs a).set i (Vs.getD i undef,eO z)).set r (Vs.getD r undef,eO (a.getD r []))=cu Vs (a.set i z):=by
 rw[uy (by omega) hi];have e:a.getD r []=(a.set i z).getD r []:=by rw[eM,if_neg (fun g=>hir g.1.symm)]
 rw[e,uy (by omega) (by simpa using hr),nh (by simpa using hr)]
section
variable {P:Program} {T:Ty} {B:Nat} {F0:Nat→Prop} {w0:c7} {n:Nat} {σ τ:St} {K:St→Prop} {all:Array Oper} {o:Oper} {d:Nat} {rest:List Oper} {R:List LR} {x:Code} {Q:Exit→List LR→St→Prop}
theorem ab.kB(hT:bH P T){k e i:Nat}{Vs:List Value}(V:Value)(hd:o.dst=none)(hg:aH all σ o=true)(hx:Co T σ o.op=some (k,.ow e (nR Vs),nR Vs,i,0,.v V))(hi:i<Vs.length)
  (h:ab P B F0 w0 n all rest K ((k,.ow e (nR (Vs.set i V)))::σ)):ab P B F0 w0 n all (o::rest) K σ:=by
 refine ab.kA hT (.v (Vs.getD i undef)) hd hg hx (b7 hi) rfl ?_;show ab P B F0 w0 n all rest K ((k,.ow e ((nR Vs).set i (.v V)))::σ);rw[show (nR Vs).set i (.v V)=nR (Vs.set i V) from (List.map_set ..).symm];exact h
theorem AZ.Fa(hT:bH P T){e eo:Nat}{te:TI}(he:T.get e=some te)(h1:te.size=1){Vr:Value}{X:LR}{Vs:List Value}{a:a6}(hl:Vs.length=a.length)
  (h:AZ P B F0 w0 n x Q [(Vr,.ow eo (a.map bW)),X] σ): ∀(m k:Nat),m+k=a.length→ ∀L:List LR,(∀j,k≤j→j<a.length→L[j]?=some (Vs.getD j undef,.ow e ((a.getD j []).map ah))) →
  AZ P B F0 w0 n x Q ((Vr,.ow eo ((a.take k).map bW++(nR Vs).drop k))::X::L) σ
 | 0,k,hk,L,hL=>by
   rw[List.take_of_length_le (by omega),List.drop_eq_nil_of_le (by rw[ae];omega),List.append_nil];refine AZ.oZ _ (fun i r hr=> .inl ?_) h
   match i,hr with
   | 0,hr=>exact hr
   | 1,hr=>exact hr
 | m+1,k,hk,L,hL=>by
   have hka:k<a.length:=by omega
   have hll:k<L.length:=(List.getElem?_eq_some_iff.1 (hL k (ak _) hka)).1;have hft:((a.take k).map bW).length=k:=by rw[ae,aT];omega
   refine AZ.Ha hT (k+2) 0 k (cs:=(a.take k).map bW++(nR Vs).drop k) rfl (fun d hd=>?_) ?_ (hL k (ak _) hka) (by omega) he ?_
   · rcases List.mem_append.1 hd with g | g
     · obtain ⟨r,_,rfl⟩:=List.mem_map.1 g;rfl
     · obtain ⟨V,_,rfl⟩:=List.mem_map.1 (List.mem_of_mem_drop g);rfl
   · rw[List.getElem?_append_right (by omega),hft,Nat.sub_self,List.getElem?_drop,Nat.add_zero];exact b7 (by omega)
   · have e1:((a.take k).map bW++(nR Vs).drop k).set k (.sl te.size ((a.getD k []).map ah))=(a.take (k+1)).map bW++(nR Vs).drop (k+1):=by
      rw[h1,List.set_append_right _ _ (by omega),hft,Nat.sub_self,List.take_succ_eq_append_getElem hka,List.map_append]
      have:(nR Vs).drop k= .v (Vs.getD k undef)::(nR Vs).drop (k+1):=by
       rw[List.drop_eq_getElem_cons (by rw[ae];omega)]
       congr 1
       have:=b7 (Vs:=Vs) (i:=k) (by omega);rw[a8 (by rw[ae];omega)] at this;simpa using this
      rw[this,List.set_cons_zero,List.append_assoc];have g:a[k]=a.getD k []:=by rw[aE,a8 hka];rfl
      rw[g];rfl
     show AZ P B F0 w0 n x Q ((Vr,.ow eo (((a.take k).map bW++(nR Vs).drop k).set k (.sl te.size ((a.getD k []).map ah))))::X::L.set k (Vs.getD k undef,.junk)) σ;rw[e1]
     exact AZ.Fa hT he h1 hl h m (k+1) (by omega) (L.set k (Vs.getD k undef,.junk)) (fun j hj hja=>by
      rw[List.getElem?_set_ne (by omega)];exact hL j (by omega) hja)
end
abbrev AI(s:im):D:= .ag [aX s.rows,.sl 1 (s.cols.map (fun c:Nat=>dI c)),dI s.sg,ah s.cE]
set_option maxHeartbeats 12800000 in
theorem rV{v:List NQ}(V:k8 v){a:a6}{N most:Nat}(ha0:0<a.length)(ha:a.length≤1000000)(hN:N≤1000000)(hmost:most≤N)(hr:bk N a)(hl:jC v.length a)(ok: ∀c,c<most→kZ v (aB v a c) c):
  Pure Tryz.prog 46 [bt v,aX a,dI most] (.tu [AI (aB v a most),aP]):=by
 refine qJ 205 Tryz.func46 rfl rfl rfl rfl (by kernel_rfl) (fun B F0 w0=>?_);have cone:=m3 (Qr ((1:Int):Rat)) (k:=1) (jB _ (by have:=jD;rw[show ((1:Int):Rat)=1 from rfl];omega)) (by decide) (by decide) (AJ _);rw[cG,show I5 ((1:Int):Rat)=[1] from rfl] at cone;have htk:=fun {i:Nat} (hi:i<a.length)=>List.take_succ_eq_append_getElem (l:=a) hi;refine AZ.aw ?_;refine AZ.seq (AZ.cQ (fun B1 F1 w1=>?_));refine qU 3 rfl ?_;refine ab.nil ⟨rfl,?_⟩;refine AZ.seq (AZ.cQ (fun B1 F1 w1=>?_));refine ab.call tok rfl rfl rfl rfl (ic 1 (by decide) (by decide)) ?_;refine ab.call tok rfl rfl rfl rfl cone ?_;refine ab.IG tok [.v gQ,.v gQ,dI 0,.sl 3 []] rfl rfl rfl rfl (by kernel_rfl) ?_;refine qU 2 rfl ?_;refine ab.nil ⟨rfl,?_⟩;refine AZ.yv 22 ?_;refine AZ.yv 3 ?_;refine AZ.seq (AZ.seq ?_);refine AZ.cQ (fun B1 F1 w1=>?_);refine qU 2 rfl ?_;rw[ae];refine qU 1 rfl ?_;refine ab.nil ⟨rfl,?_⟩;refine AZ.block (AZ.aG [2,3,6,7,8,22,23,24] (fun s:Nat×Value×List Value=>((s.2.1,OA s.2.2)::(gQ,CA [])::cu s.2.2 (a.take s.1),[(2,.d (dI most)),(3,.bx [.sl 1 (v.map ah)]),(6,.bx [.sl 1 [],.sl 1 [],dI 0,.sl 3 []]),(7,.d aP),(8,.bx [.v s.2.1,.v gQ,dI 1,ah [1]]),(22,.d (aX a)),(23,.d (dI a.length)),(24,.d (dI s.1))])) (fun s=>s.1≤a.length∧s.2.2.length=s.1) (fun s=>a.length-s.1) (0,gQ,[]) rfl ⟨Nat.zero_le _,rfl⟩ (fun s hs=>?_));obtain ⟨i,Vr,Vs⟩:=s;obtain ⟨hi,hVs⟩:=hs
 dsimp only at hi hVs
 show AZ _ _ _ _ _ _ _ ((Vr,OA Vs)::(gQ,CA [])::cu Vs (a.take i)) [(2,.d (dI most)),(3,.bx [.sl 1 (v.map ah)]),(6,.bx [.sl 1 [],.sl 1 [],dI 0,.sl 3 []]),(7,.d aP),(8,.bx [.v Vr,.v gQ,dI 1,ah [1]]),(22,.d (aX a)),(23,.d (dI a.length)),(24,.d (dI i))];refine AZ.seq (AZ.cQ (fun B1 F1 w1=>?_));refine qU 1 rfl ?_;refine ab.nil ⟨rfl,?_⟩;refine AZ.seq ?_;refine AZ.cond rfl (fun h=>?_) (fun h=>?_)
 · have hii:i<a.length:=by have:=aq h;omega
   have hg:=getM bW (l:=a) (i:=i) hii;have hrl:(a.getD i []).length≤1000000:=by rw[hr i hii];exact hN
   have htk:=htk hii;have hge:a[i]=a.getD i []:=by rw[aE,a8 hii];rfl
   rw[hge] at htk;generalize a.getD i []=row at hg hrl htk;refine AZ.skip (AZ.seq ?_);refine AZ.block (AZ.seq ?_);refine AZ.cQ (fun B1 F1 w1=>?_);refine ab.idx tok (bW row) rfl rfl rfl rfl (aj i) hg ?_;refine qU 2 rfl ?_;refine ab.nil ⟨rfl,?_⟩;refine AZ.any aQ (ZH.any (β:=[]) ?_);refine ZH.mv 2 rfl rfl (by kernel_rfl) (by kernel_rfl) (by kernel_rfl) rfl (fun _ _ _ h=>h) (fun _=>rfl) trivial (fun B1 F1 w1=>?_);refine qU 1 rfl ?_;refine ab.nil ⟨rfl,?_⟩;refine ZH.fd tok 0 rfl rfl (by kernel_rfl) (by kernel_rfl) (by kernel_rfl) rfl (fun _ _ _ h=>h) (fun _=>rfl) trivial (fun B1 F1 w1=>?_);refine qU 1 rfl ?_;refine ab.nil ⟨rfl,?_⟩;refine ZH.meet 3 (qB 8 31) (fun V=>(((Vr,OA Vs)::(gQ,CA [])::cu Vs (a.take i))++[(V,eO row)])) (fun V=>[(2,.d (dI most)),(3,.bx [.sl 1 (v.map ah)]),(6,.bx [.sl 1 [],.sl 1 [],dI 0,.sl 3 []]),(7,.d aP),(8,.bx [.v Vr,.v gQ,dI 1,ah [1]]),(22,.d (aX a)),(23,.d (dI a.length)),(24,.d (dI i)),(10,.d (bW row)),(30,.d (bW row)),(28,.pt 8 0),(29,.d (.v Vr)),(31,.d (.v V)),(32,.d (.sl 1 [.v V]))]) (fun V=>?_) (fun N1_2=>?_)
   · refine ZH.all 5 (by kernel_rfl) rfl rfl (fun _=>rfl) trivial ?_;refine ai.c8 29 0 rfl rfl rfl ?_;refine ai.cut 1 rfl (fun B1 F1 w1=>?_);refine ab.gv tok rfl rfl rfl rfl rfl rfl (by show ((nR Vs).length+1)*24≤_;rw[ae];omega) (by show (nR Vs).length+1≤_;rw[ae];omega) ?_;refine ab.nil ⟨rfl,?_⟩;refine ai.vG 33 0 rfl rfl rfl rfl (fun Vq=>?_)
     refine ai.jl (R':=(Vq,OA (Vs++[V]))::(gQ,CA [])::cu (Vs++[V]) (a.take (i+1))) (by
      show (Vq,AV.ow 22 (nR Vs++[.v V]))::(gQ,CA [])::(cu Vs (a.take i)++[(V,eO row)])=_
      rw[htk,AL (by rw[aT];omega),show nR Vs++[.v V]=nR (Vs++[V]) by simp]) ?_
     refine ai.nil ?_;refine ZH.to [2,3,6,7,8,22,23,24,10,30,28,32,33] [(2,.d (dI most)),(3,.bx [.sl 1 (v.map ah)]),(6,.bx [.sl 1 [],.sl 1 [],dI 0,.sl 3 []]),(7,.d aP),(8,.bx [.v Vr,.v gQ,dI 1,ah [1]]),(22,.d (aX a)),(23,.d (dI a.length)),(24,.d (dI i)),(10,.d (bW row)),(30,.d (bW row)),(28,.pt 8 0),(32,.d (.sl 1 [.v V])),(33,.d (.v Vq))] rfl trivial ?_;refine ZH.all 6 (by kernel_rfl) rfl rfl (fun _=>rfl) trivial ?_;refine aD (fun B1 F1 w1=>?_);refine qU 1 rfl ?_;refine ab.nil ⟨rfl,?_⟩;refine ZH.all 7 (by kernel_rfl) rfl rfl (fun _=>rfl) trivial ?_;refine aD (fun B1 F1 w1=>?_);refine qU 1 rfl ?_;refine ab.nil ⟨rfl,?_⟩;refine ZH.done (by kernel_rfl) trivial ?_;refine AZ.to [2,3,6,7,8,22,23,24] [(2,.d (dI most)),(3,.bx [.sl 1 (v.map ah)]),(6,.bx [.sl 1 [],.sl 1 [],dI 0,.sl 3 []]),(7,.d aP),(8,.bx [.v Vq,.v gQ,dI 1,ah [1]]),(22,.d (aX a)),(23,.d (dI a.length)),(24,.d (dI i))] rfl ?_;refine AZ.cQ (fun B1 F1 w1=>?_);refine qU 1 rfl ?_;rw[aF (x:=(i:Int)+1) (by omega) (by omega)];refine qU 1 rfl ?_;refine ab.nil ⟨rfl,?_⟩;exact⟨(i+1,Vq,Vs++[V]),rfl,⟨hii,by show (Vs++[V]).length=i+1;rw[List.length_append];show Vs.length+1=_;omega⟩,by show a.length-(i+1)<a.length-i;omega⟩
   refine ZH.meet 4 (qB 8 29) (fun V=>(((Vr,OA Vs)::(gQ,CA [])::cu Vs (a.take i))++[(V,eO row)])) (fun V=>[(2,.d (dI most)),(3,.bx [.sl 1 (v.map ah)]),(6,.bx [.sl 1 [],.sl 1 [],dI 0,.sl 3 []]),(7,.d aP),(8,.bx [.v Vr,.v gQ,dI 1,ah [1]]),(22,.d (aX a)),(23,.d (dI a.length)),(24,.d (dI i)),(10,.d (bW row)),(30,.d (bW row)),(28,.pt 8 0),(31,.d (.v V)),(32,.d (.sl 1 [.v V]))]) (fun V=>?_) (fun N0_2=>?_)
   · refine ZH.all 1 (by kernel_rfl) rfl rfl (fun _=>rfl) trivial ?_;refine aD (fun B1 F1 w1=>?_);refine qU 1 rfl ?_;refine ab.nil ⟨rfl,?_⟩;exact qL (N1_2 V) (by kernel_rfl) rfl trivial
   refine ZH.meet 4 (qB 8 15) (fun V=>(((Vr,OA Vs)::(gQ,CA [])::cu Vs (a.take i))++[(V,eO row)])) (fun V=>[(2,.d (dI most)),(3,.bx [.sl 1 (v.map ah)]),(6,.bx [.sl 1 [],.sl 1 [],dI 0,.sl 3 []]),(7,.d aP),(8,.bx [.v Vr,.v gQ,dI 1,ah [1]]),(22,.d (aX a)),(23,.d (dI a.length)),(24,.d (dI i)),(10,.d (bW row)),(30,.d (bW row)),(28,.pt 8 0),(29,.d (.v Vr)),(31,.d (.v V))]) (fun V=>?_) (fun N1_1=>?_)
   · refine ZH.all 4 (by kernel_rfl) rfl rfl (fun _=>rfl) trivial ?_;refine aD (fun B1 F1 w1=>?_);refine ab.fj tok rfl rfl rfl rfl rfl ?_;refine ab.nil ⟨rfl,?_⟩;exact qL (N1_2 V) (by kernel_rfl) rfl trivial
   refine ZH.meet 5 (qB 8 13) (fun V=>(((Vr,OA Vs)::(gQ,CA [])::cu Vs (a.take i))++[(V,eO row)])) (fun V=>[(2,.d (dI most)),(3,.bx [.sl 1 (v.map ah)]),(6,.bx [.sl 1 [],.sl 1 [],dI 0,.sl 3 []]),(7,.d aP),(8,.bx [.v Vr,.v gQ,dI 1,ah [1]]),(22,.d (aX a)),(23,.d (dI a.length)),(24,.d (dI i)),(10,.d (bW row)),(30,.d (bW row)),(28,.pt 8 0),(31,.d (.v V))]) (fun V=>?_) (fun N0_1=>?_)
   · refine ZH.two 1 4 (by kernel_rfl) rfl rfl rfl rfl (fun _=>rfl) (fun _=>rfl) trivial ?_ ?_
     · refine aD (fun B1 F1 w1=>?_);refine qU 1 rfl ?_;refine ab.nil ⟨rfl,?_⟩;exact qL (N1_1 V) (by kernel_rfl) rfl trivial
     · refine aD (fun B1 F1 w1=>?_);refine ab.fj tok rfl rfl rfl rfl rfl ?_;refine ab.nil ⟨rfl,?_⟩;exact qL (N0_2 V) (by kernel_rfl) rfl trivial
   refine ZH.meet 5 (qB 8 7) (fun V=>((Vr,OA Vs)::(gQ,CA [])::cu Vs (a.take i))) (fun V=>[(2,.d (dI most)),(3,.bx [.sl 1 (v.map ah)]),(6,.bx [.sl 1 [],.sl 1 [],dI 0,.sl 3 []]),(7,.d aP),(8,.bx [.v Vr,.v gQ,dI 1,ah [1]]),(22,.d (aX a)),(23,.d (dI a.length)),(24,.d (dI i)),(10,.d (bW row)),(30,.d (bW row)),(28,.pt 8 0),(29,.d (.v Vr))]) (fun V=>?_) (fun N1_0=>?_)
   · refine ZH.all 3 (by kernel_rfl) rfl rfl (fun _=>rfl) trivial ?_;refine ai.iD tok [] rfl rfl rfl rfl rfl List.nodup_nil rfl (AA row hrl) (fun _ _ _=>Nat.zero_le _) (fun res R1 hP=>?_);obtain ⟨V,rfl,rfl⟩:=hP;refine ai.nil ?_;exact qL (N1_1 V) (by kernel_rfl) rfl trivial
   refine ZH.meet 6 (qB 8 5) (fun V=>((Vr,OA Vs)::(gQ,CA [])::cu Vs (a.take i))) (fun V=>[(2,.d (dI most)),(3,.bx [.sl 1 (v.map ah)]),(6,.bx [.sl 1 [],.sl 1 [],dI 0,.sl 3 []]),(7,.d aP),(8,.bx [.v Vr,.v gQ,dI 1,ah [1]]),(22,.d (aX a)),(23,.d (dI a.length)),(24,.d (dI i)),(10,.d (bW row)),(30,.d (bW row)),(28,.pt 8 0)]) (fun V=>?_) (fun N0_0=>?_)
   · refine ZH.two 1 3 (by kernel_rfl) rfl rfl rfl rfl (fun _=>rfl) (fun _=>rfl) trivial ?_ ?_
     · refine aD (fun B1 F1 w1=>?_);refine qU 1 rfl ?_;refine ab.nil ⟨rfl,?_⟩;exact qL (N1_0 V) (by kernel_rfl) rfl trivial
     · refine ai.iD tok [] rfl rfl rfl rfl rfl List.nodup_nil rfl (AA row hrl) (fun _ _ _=>Nat.zero_le _) (fun res R1 hP=>?_);obtain ⟨V,rfl,rfl⟩:=hP;refine ai.nil ?_;exact qL (N0_1 V) (by kernel_rfl) rfl trivial
   exact qL (N0_0 gQ) (by kernel_rfl) rfl trivial
 have hii:i=a.length:=by have:=au h;omega
 subst hii;rw[List.take_length];refine AZ.exit ?_;refine AZ.seq (AZ.seq ?_);refine AZ.cQ (fun B1 F1 w1=>?_);refine qU 2 rfl ?_;refine ab.nil ⟨rfl,?_⟩;refine AZ.block (AZ.aG [3,6,7,8,36,37] (fun z:Nat×Value×Value×List Value=>((z.2.1,OA z.2.2.2)::(z.2.2.1,CA (aB v a z.1).cols)::cu z.2.2.2 (aB v a z.1).rows,[(3,.bx [.sl 1 (v.map ah)]),(6,.bx [.sl 1 [],.sl 1 [],dI 0,.sl 3 []]),(7,.d aP),(8,.bx [.v z.2.1,.v z.2.2.1,dI (aB v a z.1).sg,ah (aB v a z.1).cE]),(36,.d (dI most)),(37,.d (dI z.1))])) (fun z=>z.1≤most∧z.2.2.2.length=a.length) (fun z=>most-z.1) (0,Vr,gQ,Vs) rfl ⟨Nat.zero_le _,hVs⟩ (fun z hz=>?_));clear hVs;clear Vr Vs;obtain ⟨c,Vr,Vc,Vs⟩:=z;obtain ⟨hc,hVs⟩:=hz
 dsimp only at hc hVs
 have hR:=cY V hr hl c;have hnext:aB v a (c+1)=cT v (aB v a c) c:=rfl;have hok:=ok c;obtain ⟨s,hs⟩: ∃s,aB v a c=s:=⟨_,rfl⟩;rw[hs] at hR hnext hok;show AZ _ _ _ _ _ _ _ ((Vr,OA Vs)::(Vc,CA (aB v a c).cols)::cu Vs (aB v a c).rows) [(3,.bx [.sl 1 (v.map ah)]),(6,.bx [.sl 1 [],.sl 1 [],dI 0,.sl 3 []]),(7,.d aP),(8,.bx [.v Vr,.v Vc,dI (aB v a c).sg,ah (aB v a c).cE]),(36,.d (dI most)),(37,.d (dI c))];rw[hs];refine AZ.seq (AZ.cQ (fun B1 F1 w1=>?_));refine qU 1 rfl ?_;refine ab.nil ⟨rfl,?_⟩;refine AZ.seq (AZ.cond rfl (fun h=>?_) (fun h=>?_));rotate_left
 · have hcm:c=most:=by have:=au h;omega
   subst hcm;rw[hs];refine AZ.exit ?_;refine AZ.oZ ((Vr,AV.ow 22 ((s.rows.take 0).map bW++(nR Vs).drop 0))::(Vc,CA s.cols)::cu Vs s.rows) (fun _ _ h=> .inl h) ?_;refine AZ.Fa (te:=_) tok (e:=53) rfl rfl (by rw[hR.len];exact hVs) ?_ s.rows.length 0 (by omega) (cu Vs s.rows) (fun j _ hj=>bS (by rw[hVs,← hR.len];exact hj) hj);refine AZ.Hb tok 8 0 0 rfl rfl rfl rfl ?_;refine AZ.Hb tok 8 1 1 rfl rfl rfl rfl ?_;refine AZ.seq (AZ.cQ (fun B1 F1 w1=>?_));refine qU 3 rfl ?_;refine ab.nil ⟨rfl,?_⟩;exact AZ.ret rfl
 have hcm:c<most:=by have:=aq h;omega
 have hok:=hok hcm;have hm:=hR.len;have hcN:c<N:=by omega
 have hVm:Vs.length=s.rows.length:=by omega
 have hrm:=hR.cm;rw[← hm] at hrm;obtain ⟨hat1,hat2,hat3,hat4⟩:=gg v s c hrm;have hrow0:0<s.rows.length:=by omega
 have hm6:s.rows.length≤1000000:=by omega
 have hel: ∀{b:a6} {i:Nat},bk N b→i<b.length→ ∀k,k<N→((b.getD i []).map ah)[k]?=some (ah (aS b i k)):=fun {b i} hb hi k hk=>getM ah (by rw[hb i hi];exact hk);refine AZ.skip (AZ.seq ?_);refine AZ.block (AZ.seq ?_);refine AZ.cQ (fun B1 F1 w1=>?_);refine qU 2 rfl ?_;refine ab.nil ⟨rfl,?_⟩;refine AZ.seq (AZ.region ?_);refine ai.cut 2 rfl (fun B1 F1 w1=>?_);refine qU 2 rfl ?_;refine ab.nil ⟨rfl,?_⟩;refine ai.c8 41 1 rfl rfl rfl ?_;refine ai.cut 1 rfl (fun B1 F1 w1=>?_);refine qU 1 rfl ?_;rw[ae];refine ab.nil ⟨rfl,?_⟩;refine ai.back 41 1 rfl rfl rfl (List.Mem.head _) rfl ?_;refine ai.cut 1 rfl (fun B1 F1 w1=>?_);refine qU 1 rfl ?_;refine ab.nil ⟨rfl,?_⟩;refine ai.nil ?_;refine AZ.to [3,6,7,8,11,12,36,37] [(3,.bx [.sl 1 (v.map ah)]),(6,.bx [.sl 1 [],.sl 1 [],dI 0,.sl 3 []]),(7,.d aP),(8,.bx [.v Vr,.v Vc,dI s.sg,ah s.cE]),(11,.d (dI c)),(12,.d (dI s.cols.length)),(36,.d (dI most)),(37,.d (dI c))] rfl ?_;refine AZ.seq (AZ.cQ (fun B1 F1 w1=>?_));refine qU 2 rfl ?_;refine ab.nil ⟨rfl,?_⟩;refine AZ.cut [3,6,7,8,11,12,13,36,37] (fun _:Unit=>(((Vr,OA Vs)::(Vc,CA s.cols)::cu Vs s.rows),[(3,.bx [.sl 1 (v.map ah)]),(6,.bx [.sl 1 [],.sl 1 [],dI 0,.sl 3 []]),(7,.d aP),(8,.bx [.v Vr,.v Vc,dI s.sg,ah s.cE]),(11,.d (dI c)),(12,.d (dI s.cols.length)),(13,.d (dI (atR v s c))),(36,.d (dI most)),(37,.d (dI c))])) (fun _=>True) ?_ (fun _ _=>?_)
 · refine AZ.block (AZ.aG [3,6,7,8,11,12,13,36,37] (fun j:Nat=>(((Vr,OA Vs)::(Vc,CA s.cols)::cu Vs s.rows),[(3,.bx [.sl 1 (v.map ah)]),(6,.bx [.sl 1 [],.sl 1 [],dI 0,.sl 3 []]),(7,.d aP),(8,.bx [.v Vr,.v Vc,dI s.sg,ah s.cE]),(11,.d (dI c)),(12,.d (dI s.cols.length)),(13,.d (dI j)),(36,.d (dI most)),(37,.d (dI c))])) (fun j=>s.cols.length≤j∧j≤s.rows.length∧gR (Dh v s.rows c) (s.rows.length-j) j=atR v s c) (fun j=>s.rows.length-j) s.cols.length rfl ⟨ak _,hrm,rfl⟩ (fun j hj=>?_));show AZ _ _ _ _ _ _ _ ((Vr,OA Vs)::(Vc,CA s.cols)::cu Vs s.rows) [(3,.bx [.sl 1 (v.map ah)]),(6,.bx [.sl 1 [],.sl 1 [],dI 0,.sl 3 []]),(7,.d aP),(8,.bx [.v Vr,.v Vc,dI s.sg,ah s.cE]),(11,.d (dI c)),(12,.d (dI s.cols.length)),(13,.d (dI j)),(36,.d (dI most)),(37,.d (dI c))];obtain ⟨j1,j2,j3⟩:=hj;refine AZ.seq (AZ.seq ?_);refine AZ.any aQ (iy.kP 18 (by kernel_rfl) (fun B1 F1 w1 hS=>?_));have hS0:=hS.at (i:=0) rfl (by rw[ae];omega);refine qP 3 rfl ?_;refine af.lens tok hS0 rfl rfl rfl rfl rfl ?_;rw[ae];refine qP 1 rfl ?_;by_cases hjm:j<s.rows.length;rotate_left
   · rw[qV hjm] at j3;rw[aO (show ¬(j:Int)<(Vs.length:Int) by omega)];refine qP 13 rfl ?_;refine af.nil ⟨rfl,?_⟩;refine ai.nil ?_;refine AZ.aA rfl ?_;exact AZ.exit ⟨(),by rw[← j3];rfl,trivial⟩
   rw[aN (show (j:Int)<(Vs.length:Int) by omega)];have hj6:(s.rows.getD j []).length=N:=hR.rect j hjm;have hS1:=hS.at (i:=j+2) (bS (Vs:=Vs) (by omega) hjm) (by rw[ae];omega);have cs:=gX V (hR.lt j c) (hok.sg j j1 hjm);have hnz:Dh v s.rows c j=decide (fi v (aS s.rows j c)≠0):=rfl;generalize fi v (aS s.rows j c)=g at cs hnz;refine qP 5 rfl ?_;refine af.idxs tok hS0 rfl rfl rfl rfl rfl (aj j) (by rw[ae];omega) ?_;refine af.bc tok (.v (Vs.getD j undef)) hS0 rfl rfl rfl rfl rfl rfl rfl (b7 (by omega)) rfl ?_;refine qP 1 rfl ?_;refine af.idxs tok hS1 rfl rfl rfl rfl rfl (aj c) (by rw[ae];omega) ?_;refine af.bc tok (ah (aS s.rows j c)) hS1 rfl rfl rfl rfl rfl rfl rfl (hel hR.rect hjm c hcN) rfl ?_;refine af.call tok rfl rfl rfl rfl rfl cs ?_;refine qP 2 rfl ?_;refine af.nil ⟨rfl,?_⟩;refine ai.nil ?_;refine AZ.cond rfl (fun h=>?_) (fun h=>?_)
   · have hg:g=0:=beq_iff_eq.1 h;refine AZ.skip (AZ.block ?_);refine AZ.cQ (fun B1 F1 w1=>?_);refine qU 2 rfl ?_;rw[aF (x:=(j:Int)+1) (by omega) (by omega)];refine qU 1 rfl ?_;refine ab.nil ⟨rfl,?_⟩;exact⟨j+1,rfl,⟨by omega,hjm,by rw[← ot hjm (by rw[hnz,hg];rfl)];exact j3⟩,by omega⟩
   · have hg:g≠0:=beq_eq_false_iff_ne.1 h;rw[qS hjm (by rw[hnz,aN hg])] at j3;exact AZ.exit ⟨(),by rw[← j3];rfl,trivial⟩
 show AZ _ _ _ _ _ _ _ ((Vr,OA Vs)::(Vc,CA s.cols)::cu Vs s.rows) [(3,.bx [.sl 1 (v.map ah)]),(6,.bx [.sl 1 [],.sl 1 [],dI 0,.sl 3 []]),(7,.d aP),(8,.bx [.v Vr,.v Vc,dI s.sg,ah s.cE]),(11,.d (dI c)),(12,.d (dI s.cols.length)),(13,.d (dI (atR v s c))),(36,.d (dI most)),(37,.d (dI c))];refine AZ.seq (AZ.seq ?_);refine AZ.rG (fun B1 F1 w1 hS=>?_);refine qU 3 rfl ?_;refine ab.lens tok (hS.at (i:=0) rfl (by rw[ae];omega)) rfl rfl rfl rfl ?_;rw[ae];refine qU 1 rfl ?_;refine ab.nil ⟨rfl,?_⟩;refine AZ.cond rfl (fun h=>?_) (fun h=>?_)
 · have hat: ¬atR v s c<s.rows.length:=by have:=aq h;omega
   have hst:aB v a (c+1)=s:=by rw[hnext];unfold cT;rw[if_neg hat]
   refine AZ.exit ?_;refine AZ.cQ (fun B1 F1 w1=>?_);refine qU 1 rfl ?_;rw[aF (x:=(c:Int)+1) (by omega) (by omega)];refine qU 1 rfl ?_;refine ab.nil ⟨rfl,?_⟩;exact⟨(c+1,Vr,Vc,Vs),by rw[hst];rfl,⟨hcm,hVs⟩,by show most-(c+1)<most-c;omega⟩
 have hat:atR v s c<s.rows.length:=by have:=au h;omega
 have hst:aB v a (c+1)=⟨cD v (eR v s c) s.cols.length c (eR v s c).length,s.cols++[c],if atR v s c=s.cols.length then s.sg else -s.sg,dK v s.cE (pR v s c)⟩:=by rw[hnext];unfold cT;rw[if_pos hat]
 obtain ⟨hb1,hb2,hb3⟩:=s8 (c:=c) hR hat;obtain ⟨he1,he2,he3⟩:=Au V (c:=c) hR hat;have hbr:bR v s c=if atR v s c=s.cols.length then s.rows else zf s.rows s.cols.length (atR v s c):=rfl
 have hpr:pR v s c=aS (bR v s c) s.cols.length c:=rfl;have hE:eR v s c=(bR v s c).set s.cols.length (yr v ((bR v s c).getD s.cols.length []) (pR v s c)):=rfl;have okd:=hok.cE hat;have okv:=hok.div hat;have oks:=hok.sg2 hat;have okt:=hok.take hat;generalize bR v s c=b at *;generalize pR v s c=p at *;generalize eR v s c=e at *;generalize atR v s c=t at *;refine AZ.skip ?_;refine AZ.cut [3,6,7,8,11,12,36,37] (fun Ws:List Value=>(((Vr,OA Ws)::(Vc,CA s.cols)::cu Ws b),[(3,.bx [.sl 1 (v.map ah)]),(6,.bx [.sl 1 [],.sl 1 [],dI 0,.sl 3 []]),(7,.d aP),(8,.bx [.v Vr,.v Vc,dI (if t=s.cols.length then s.sg else -s.sg),ah s.cE]),(11,.d (dI c)),(12,.d (dI s.cols.length)),(36,.d (dI most)),(37,.d (dI c))])) (fun Ws=>Ws.length=b.length) ?_ (fun Ws hWs=>?_)
 · refine AZ.seq (AZ.cQ (fun B1 F1 w1=>?_));refine qU 3 rfl ?_;refine ab.nil ⟨rfl,?_⟩;by_cases htr:t=s.cols.length
   · rw[if_pos htr] at hbr;rw[bne_eq_false_iff_eq.2 (show (t:Int)=(s.cols.length:Int) by omega)];refine AZ.aA rfl ?_;refine AZ.skip ?_;exact⟨Vs,by rw[if_pos htr,hbr];rfl,by omega⟩
   rw[if_neg htr] at hbr;rw[bne_iff_ne.2 (show (t:Int)≠(s.cols.length:Int) by omega)];refine AZ.aL rfl ?_;refine AZ.seq (AZ.any aQ (ZH.any (β:=[(8,[.v Vr,.v Vc,dI s.sg,ah s.cE])]) ?_));refine ZH.mv 2 rfl rfl (by kernel_rfl) (by kernel_rfl) (by kernel_rfl) rfl (fun _ _ _ h=>h) (fun _=>rfl) ⟨rfl,trivial⟩ (fun B1 F1 w1=>?_);refine qU 1 rfl ?_;refine ab.nil ⟨rfl,?_⟩;refine ZH.mv 5 rfl rfl (by kernel_rfl) (by kernel_rfl) (by kernel_rfl) rfl (fun _ _ _ h=>h) (fun _=>rfl) ⟨rfl,trivial⟩ (fun B1 F1 w1=>?_);refine qU 1 rfl ?_;refine ab.nil ⟨rfl,?_⟩;refine ZH.mv 8 rfl rfl (by kernel_rfl) (by kernel_rfl) (by kernel_rfl) rfl (fun _ _ _ h=>h) (fun _=>rfl) ⟨rfl,trivial⟩ (fun B1 F1 w1=>?_);refine qU 1 rfl ?_;refine ab.nil ⟨rfl,?_⟩;refine ZH.mv 13 rfl rfl (by kernel_rfl) (by kernel_rfl) (by kernel_rfl) rfl (fun _ _ _ h=>h) (fun _=>rfl) ⟨rfl,trivial⟩ (fun B1 F1 w1=>?_);refine qU 1 rfl ?_;refine ab.nil ⟨rfl,?_⟩;refine ZH.fd tok 0 rfl rfl (by kernel_rfl) (by kernel_rfl) (by kernel_rfl) rfl (fun _ _ _ h=>h) (fun _=>rfl) ⟨rfl,trivial⟩ (fun B1 F1 w1=>?_);refine qU 1 rfl ?_;refine ab.nil ⟨rfl,?_⟩;refine ZH.fd tok 3 rfl rfl (by kernel_rfl) (by kernel_rfl) (by kernel_rfl) rfl (fun _ _ _ h=>h) (fun _=>rfl) ⟨rfl,trivial⟩ (fun B1 F1 w1=>?_);refine qU 1 rfl ?_;refine ab.nil ⟨rfl,?_⟩;refine ZH.fd tok 6 rfl rfl (by kernel_rfl) (by kernel_rfl) (by kernel_rfl) rfl (fun _ _ _ h=>h) (fun _=>rfl) ⟨rfl,trivial⟩ (fun B1 F1 w1=>?_);refine qU 1 rfl ?_;refine ab.nil ⟨rfl,?_⟩;refine ZH.fd tok 11 rfl rfl (by kernel_rfl) (by kernel_rfl) (by kernel_rfl) rfl (fun _ _ _ h=>h) (fun _=>rfl) ⟨rfl,trivial⟩ (fun B1 F1 w1=>?_);refine qU 1 rfl ?_;refine ab.nil ⟨rfl,?_⟩;refine ZH.ld tok 1 rfl rfl (by kernel_rfl) (by kernel_rfl) (by kernel_rfl) rfl rfl (fun _ _ _ h=>h) (fun _=>rfl) ⟨rfl,trivial⟩ (fun B1 F1 w1=>?_);refine qU 1 rfl ?_;refine ab.nil ⟨rfl,?_⟩;refine ZH.ld tok 4 rfl rfl (by kernel_rfl) (by kernel_rfl) (by kernel_rfl) rfl rfl (fun _ _ _ h=>h) (fun _=>rfl) ⟨rfl,trivial⟩ (fun B1 F1 w1=>?_);refine qU 1 rfl ?_;refine ab.nil ⟨rfl,?_⟩;refine ZH.ld tok 7 rfl rfl (by kernel_rfl) (by kernel_rfl) (by kernel_rfl) rfl rfl (fun _ _ _ h=>h) (fun _=>rfl) ⟨rfl,trivial⟩ (fun B1 F1 w1=>?_);refine qU 1 rfl ?_;refine ab.nil ⟨rfl,?_⟩;refine ZH.ld tok 12 rfl rfl (by kernel_rfl) (by kernel_rfl) (by kernel_rfl) rfl rfl (fun _ _ _ h=>h) (fun _=>rfl) ⟨rfl,trivial⟩ (fun B1 F1 w1=>?_);refine qU 1 rfl ?_;refine ab.nil ⟨rfl,?_⟩;refine ZH.meet 4 (qB 20 65535) (fun V=>((Vr,OA Vs)::(Vc,CA s.cols)::cu Vs s.rows)) (fun V=>[(3,.bx [.sl 1 (v.map ah)]),(6,.bx [.sl 1 [],.sl 1 [],dI 0,.sl 3 []]),(7,.d aP),(8,.bx [.v Vr,.v Vc,dI s.sg,ah s.cE]),(11,.d (dI c)),(12,.d (dI s.cols.length)),(13,.d (dI t)),(36,.d (dI most)),(37,.d (dI c)),(73,.d (.v Vr)),(74,.d (dI t)),(76,.d (.v Vr)),(77,.d (dI s.cols.length)),(79,.d (.v Vr)),(80,.d (dI s.cols.length)),(84,.d (.v Vr)),(85,.d (dI t)),(82,.d (.v (Vs.getD s.cols.length undef))),(87,.d (.v (Vs.getD t undef)))]) (fun V=>?_) (fun N2_2=>?_)
   · refine ZH.all 16 (by kernel_rfl) rfl rfl (fun _=>rfl) ⟨rfl,trivial⟩ ?_;refine bG (fun B1 F1 w1 hS=>?_);refine ab.idxs tok (hS.at (i:=0) rfl (by rw[ae];omega)) rfl rfl rfl rfl (aj _) (by show t<_;rw[ae];omega) ?_;refine ab.nil ⟨rfl,?_⟩;refine ZH.to [3,6,7,8,11,12,13,36,37,73,74,76,77,79,80,84,85,82,87,88] [(3,.bx [.sl 1 (v.map ah)]),(6,.bx [.sl 1 [],.sl 1 [],dI 0,.sl 3 []]),(7,.d aP),(8,.bx [.v Vr,.v Vc,dI s.sg,ah s.cE]),(11,.d (dI c)),(12,.d (dI s.cols.length)),(13,.d (dI t)),(36,.d (dI most)),(37,.d (dI c)),(73,.d (.v Vr)),(74,.d (dI t)),(76,.d (.v Vr)),(77,.d (dI s.cols.length)),(79,.d (.v Vr)),(80,.d (dI s.cols.length)),(84,.d (.v Vr)),(85,.d (dI t)),(82,.d (.v (Vs.getD s.cols.length undef))),(87,.d (.v (Vs.getD t undef))),(88,.d (.v (eV Vr (t*1))))] rfl ⟨rfl,trivial⟩ ?_;refine ZH.all 17 (by kernel_rfl) rfl rfl (fun _=>rfl) ⟨rfl,trivial⟩ ?_;refine ai.c8 73 0 rfl rfl rfl ?_;refine ai.el tok 73 88 rfl (List.Mem.head _) rfl rfl rfl (by rw[ae];omega) rfl ?_;refine ai.cut 1 rfl (fun B1 F1 w1=>?_);refine ab.kB tok (Vs.getD s.cols.length undef) rfl rfl rfl (by omega) ?_;refine ab.nil ⟨rfl,?_⟩;refine ai.back 73 0 rfl rfl rfl (List.Mem.head _) rfl ?_;refine ai.nil ?_;refine ZH.to [3,6,7,8,11,12,13,36,37,73,74,76,77,79,80,84,85,82,87] [(3,.bx [.sl 1 (v.map ah)]),(6,.bx [.sl 1 [],.sl 1 [],dI 0,.sl 3 []]),(7,.d aP),(8,.bx [.v Vr,.v Vc,dI s.sg,ah s.cE]),(11,.d (dI c)),(12,.d (dI s.cols.length)),(13,.d (dI t)),(36,.d (dI most)),(37,.d (dI c)),(73,.d (.v Vr)),(74,.d (dI t)),(76,.d (.v Vr)),(77,.d (dI s.cols.length)),(79,.d (.v Vr)),(80,.d (dI s.cols.length)),(84,.d (.v Vr)),(85,.d (dI t)),(82,.d (.v (Vs.getD s.cols.length undef))),(87,.d (.v (Vs.getD t undef)))] rfl ⟨rfl,trivial⟩ ?_;refine ZH.all 18 (by kernel_rfl) rfl rfl (fun _=>rfl) ⟨rfl,trivial⟩ ?_;refine bG (fun B1 F1 w1 hS=>?_);refine ab.idxs tok (hS.at (i:=0) rfl (by rw[ae,List.length_set];omega)) rfl rfl rfl rfl (aj _) (by show s.cols.length<_;rw[ae,List.length_set];omega) ?_;refine ab.nil ⟨rfl,?_⟩;refine ZH.to [3,6,7,8,11,12,13,36,37,73,74,76,77,79,80,84,85,82,87,89] [(3,.bx [.sl 1 (v.map ah)]),(6,.bx [.sl 1 [],.sl 1 [],dI 0,.sl 3 []]),(7,.d aP),(8,.bx [.v Vr,.v Vc,dI s.sg,ah s.cE]),(11,.d (dI c)),(12,.d (dI s.cols.length)),(13,.d (dI t)),(36,.d (dI most)),(37,.d (dI c)),(73,.d (.v Vr)),(74,.d (dI t)),(76,.d (.v Vr)),(77,.d (dI s.cols.length)),(79,.d (.v Vr)),(80,.d (dI s.cols.length)),(84,.d (.v Vr)),(85,.d (dI t)),(82,.d (.v (Vs.getD s.cols.length undef))),(87,.d (.v (Vs.getD t undef))),(89,.d (.v (eV Vr (s.cols.length*1))))] rfl ⟨rfl,trivial⟩ ?_;refine ZH.all 19 (by kernel_rfl) rfl rfl (fun _=>rfl) ⟨rfl,trivial⟩ ?_;refine ai.c8 76 0 rfl rfl rfl ?_;refine ai.el tok 76 89 rfl (List.Mem.head _) rfl rfl rfl (by rw[ae,List.length_set];omega) rfl ?_;refine ai.cut 1 rfl (fun B1 F1 w1=>?_);refine ab.kB tok (Vs.getD t undef) rfl rfl rfl (by rw[List.length_set];omega) ?_;refine ab.nil ⟨rfl,?_⟩;refine ai.back 76 0 rfl rfl rfl (List.Mem.head _) rfl ?_;refine ai.nil ?_;refine ZH.done (by kernel_rfl) ⟨rfl,trivial⟩ ?_;refine AZ.to [3,6,7,8,11,12,13,36,37] [(3,.bx [.sl 1 (v.map ah)]),(6,.bx [.sl 1 [],.sl 1 [],dI 0,.sl 3 []]),(7,.d aP),(8,.bx [.v Vr,.v Vc,dI s.sg,ah s.cE]),(11,.d (dI c)),(12,.d (dI s.cols.length)),(13,.d (dI t)),(36,.d (dI most)),(37,.d (dI c))] rfl ?_;refine AZ.xc (t+2) (s.cols.length+2) (bS (Vs:=Vs) (by omega) hat) (bS (Vs:=Vs) (by omega) (by omega)) ?_;show AZ _ _ _ _ _ _ _ ((Vr,OA (zg Vs s.cols.length t))::(Vc,CA s.cols)::((cu Vs s.rows).set t (Vs.getD s.cols.length undef,eO (s.rows.getD s.cols.length []))).set s.cols.length (Vs.getD t undef,eO (s.rows.getD t []))) _;rw[wA (by omega) (by omega) hat,← hbr];refine AZ.cQ (fun B1 F1 w1=>?_);refine qU 3 rfl ?_;rw[aF (x:=0-s.sg) (by have:=hR.sg;omega) (by have:=hR.sg;omega),Int.zero_sub];refine qU 2 rfl ?_;refine ab.nil ⟨rfl,?_⟩;exact⟨zg Vs s.cols.length t,by rw[if_neg htr];rfl,by show (zg Vs s.cols.length t).length=_;rw[xS,hb1];omega⟩
   refine ZH.meet 5 (qB 20 64511) (fun V=>((Vr,OA Vs)::(Vc,CA s.cols)::cu Vs s.rows)) (fun V=>[(3,.bx [.sl 1 (v.map ah)]),(6,.bx [.sl 1 [],.sl 1 [],dI 0,.sl 3 []]),(7,.d aP),(8,.bx [.v Vr,.v Vc,dI s.sg,ah s.cE]),(11,.d (dI c)),(12,.d (dI s.cols.length)),(13,.d (dI t)),(36,.d (dI most)),(37,.d (dI c)),(73,.d (.v Vr)),(74,.d (dI t)),(76,.d (.v Vr)),(77,.d (dI s.cols.length)),(79,.d (.v Vr)),(80,.d (dI s.cols.length)),(84,.d (.v Vr)),(85,.d (dI t)),(81,.d (.v (eV Vr (s.cols.length*1)))),(87,.d (.v (Vs.getD t undef)))]) (fun V=>?_) (fun N1_2=>?_)
   · refine ZH.all 10 (by kernel_rfl) rfl rfl (fun _=>rfl) ⟨rfl,trivial⟩ ?_;refine bG (fun B1 F1 w1 hS=>?_);refine ab.bc tok (.v (Vs.getD s.cols.length undef)) (hS.at (i:=0) rfl (by rw[ae];omega)) rfl rfl rfl rfl rfl rfl (b7 (by omega)) rfl ?_;refine ab.nil ⟨rfl,?_⟩;exact qL (N2_2 V) (by kernel_rfl) rfl ⟨rfl,trivial⟩
   refine ZH.meet 5 (qB 20 32767) (fun V=>((Vr,OA Vs)::(Vc,CA s.cols)::cu Vs s.rows)) (fun V=>[(3,.bx [.sl 1 (v.map ah)]),(6,.bx [.sl 1 [],.sl 1 [],dI 0,.sl 3 []]),(7,.d aP),(8,.bx [.v Vr,.v Vc,dI s.sg,ah s.cE]),(11,.d (dI c)),(12,.d (dI s.cols.length)),(13,.d (dI t)),(36,.d (dI most)),(37,.d (dI c)),(73,.d (.v Vr)),(74,.d (dI t)),(76,.d (.v Vr)),(77,.d (dI s.cols.length)),(79,.d (.v Vr)),(80,.d (dI s.cols.length)),(84,.d (.v Vr)),(85,.d (dI t)),(82,.d (.v (Vs.getD s.cols.length undef))),(86,.d (.v (eV Vr (t*1))))]) (fun V=>?_) (fun N2_1=>?_)
   · refine ZH.all 15 (by kernel_rfl) rfl rfl (fun _=>rfl) ⟨rfl,trivial⟩ ?_;refine bG (fun B1 F1 w1 hS=>?_);refine ab.bc tok (.v (Vs.getD t undef)) (hS.at (i:=0) rfl (by rw[ae];omega)) rfl rfl rfl rfl rfl rfl (b7 (by omega)) rfl ?_;refine ab.nil ⟨rfl,?_⟩;exact qL (N2_2 V) (by kernel_rfl) rfl ⟨rfl,trivial⟩
   refine ZH.meet 6 (qB 20 63999) (fun V=>((Vr,OA Vs)::(Vc,CA s.cols)::cu Vs s.rows)) (fun V=>[(3,.bx [.sl 1 (v.map ah)]),(6,.bx [.sl 1 [],.sl 1 [],dI 0,.sl 3 []]),(7,.d aP),(8,.bx [.v Vr,.v Vc,dI s.sg,ah s.cE]),(11,.d (dI c)),(12,.d (dI s.cols.length)),(13,.d (dI t)),(36,.d (dI most)),(37,.d (dI c)),(73,.d (.v Vr)),(74,.d (dI t)),(76,.d (.v Vr)),(77,.d (dI s.cols.length)),(79,.d (.v Vr)),(80,.d (dI s.cols.length)),(84,.d (.v Vr)),(85,.d (dI t)),(87,.d (.v (Vs.getD t undef)))]) (fun V=>?_) (fun N0_2=>?_)
   · refine ZH.all 9 (by kernel_rfl) rfl rfl (fun _=>rfl) ⟨rfl,trivial⟩ ?_;refine bG (fun B1 F1 w1 hS=>?_);refine ab.idxs tok (hS.at (i:=0) rfl (by rw[ae];omega)) rfl rfl rfl rfl (aj _) (by show s.cols.length<_;rw[ae];omega) ?_;refine ab.nil ⟨rfl,?_⟩;exact qL (N1_2 V) (by kernel_rfl) rfl ⟨rfl,trivial⟩
   refine ZH.meet 6 (qB 20 31743) (fun V=>((Vr,OA Vs)::(Vc,CA s.cols)::cu Vs s.rows)) (fun V=>[(3,.bx [.sl 1 (v.map ah)]),(6,.bx [.sl 1 [],.sl 1 [],dI 0,.sl 3 []]),(7,.d aP),(8,.bx [.v Vr,.v Vc,dI s.sg,ah s.cE]),(11,.d (dI c)),(12,.d (dI s.cols.length)),(13,.d (dI t)),(36,.d (dI most)),(37,.d (dI c)),(73,.d (.v Vr)),(74,.d (dI t)),(76,.d (.v Vr)),(77,.d (dI s.cols.length)),(79,.d (.v Vr)),(80,.d (dI s.cols.length)),(84,.d (.v Vr)),(85,.d (dI t)),(81,.d (.v (eV Vr (s.cols.length*1)))),(86,.d (.v (eV Vr (t*1))))]) (fun V=>?_) (fun N1_1=>?_)
   · refine ZH.two 10 15 (by kernel_rfl) rfl rfl rfl rfl (fun _=>rfl) (fun _=>rfl) ⟨rfl,trivial⟩ ?_ ?_
     · refine bG (fun B1 F1 w1 hS=>?_);refine ab.bc tok (.v (Vs.getD s.cols.length undef)) (hS.at (i:=0) rfl (by rw[ae];omega)) rfl rfl rfl rfl rfl rfl (b7 (by omega)) rfl ?_;refine ab.nil ⟨rfl,?_⟩;exact qL (N2_1 V) (by kernel_rfl) rfl ⟨rfl,trivial⟩
     · refine bG (fun B1 F1 w1 hS=>?_);refine ab.bc tok (.v (Vs.getD t undef)) (hS.at (i:=0) rfl (by rw[ae];omega)) rfl rfl rfl rfl rfl rfl (b7 (by omega)) rfl ?_;refine ab.nil ⟨rfl,?_⟩;exact qL (N1_2 V) (by kernel_rfl) rfl ⟨rfl,trivial⟩
   refine ZH.meet 6 (qB 20 16383) (fun V=>((Vr,OA Vs)::(Vc,CA s.cols)::cu Vs s.rows)) (fun V=>[(3,.bx [.sl 1 (v.map ah)]),(6,.bx [.sl 1 [],.sl 1 [],dI 0,.sl 3 []]),(7,.d aP),(8,.bx [.v Vr,.v Vc,dI s.sg,ah s.cE]),(11,.d (dI c)),(12,.d (dI s.cols.length)),(13,.d (dI t)),(36,.d (dI most)),(37,.d (dI c)),(73,.d (.v Vr)),(74,.d (dI t)),(76,.d (.v Vr)),(77,.d (dI s.cols.length)),(79,.d (.v Vr)),(80,.d (dI s.cols.length)),(84,.d (.v Vr)),(85,.d (dI t)),(82,.d (.v (Vs.getD s.cols.length undef)))]) (fun V=>?_) (fun N2_0=>?_)
   · refine ZH.all 14 (by kernel_rfl) rfl rfl (fun _=>rfl) ⟨rfl,trivial⟩ ?_;refine bG (fun B1 F1 w1 hS=>?_);refine ab.idxs tok (hS.at (i:=0) rfl (by rw[ae];omega)) rfl rfl rfl rfl (aj _) (by show t<_;rw[ae];omega) ?_;refine ab.nil ⟨rfl,?_⟩;exact qL (N2_1 V) (by kernel_rfl) rfl ⟨rfl,trivial⟩
   refine ZH.meet 7 (qB 20 31231) (fun V=>((Vr,OA Vs)::(Vc,CA s.cols)::cu Vs s.rows)) (fun V=>[(3,.bx [.sl 1 (v.map ah)]),(6,.bx [.sl 1 [],.sl 1 [],dI 0,.sl 3 []]),(7,.d aP),(8,.bx [.v Vr,.v Vc,dI s.sg,ah s.cE]),(11,.d (dI c)),(12,.d (dI s.cols.length)),(13,.d (dI t)),(36,.d (dI most)),(37,.d (dI c)),(73,.d (.v Vr)),(74,.d (dI t)),(76,.d (.v Vr)),(77,.d (dI s.cols.length)),(79,.d (.v Vr)),(80,.d (dI s.cols.length)),(84,.d (.v Vr)),(85,.d (dI t)),(86,.d (.v (eV Vr (t*1))))]) (fun V=>?_) (fun N0_1=>?_)
   · refine ZH.two 9 15 (by kernel_rfl) rfl rfl rfl rfl (fun _=>rfl) (fun _=>rfl) ⟨rfl,trivial⟩ ?_ ?_
     · refine bG (fun B1 F1 w1 hS=>?_);refine ab.idxs tok (hS.at (i:=0) rfl (by rw[ae];omega)) rfl rfl rfl rfl (aj _) (by show s.cols.length<_;rw[ae];omega) ?_;refine ab.nil ⟨rfl,?_⟩;exact qL (N1_1 V) (by kernel_rfl) rfl ⟨rfl,trivial⟩
     · refine bG (fun B1 F1 w1 hS=>?_);refine ab.bc tok (.v (Vs.getD t undef)) (hS.at (i:=0) rfl (by rw[ae];omega)) rfl rfl rfl rfl rfl rfl (b7 (by omega)) rfl ?_;refine ab.nil ⟨rfl,?_⟩;exact qL (N0_2 V) (by kernel_rfl) rfl ⟨rfl,trivial⟩
   refine ZH.meet 7 (qB 20 15359) (fun V=>((Vr,OA Vs)::(Vc,CA s.cols)::cu Vs s.rows)) (fun V=>[(3,.bx [.sl 1 (v.map ah)]),(6,.bx [.sl 1 [],.sl 1 [],dI 0,.sl 3 []]),(7,.d aP),(8,.bx [.v Vr,.v Vc,dI s.sg,ah s.cE]),(11,.d (dI c)),(12,.d (dI s.cols.length)),(13,.d (dI t)),(36,.d (dI most)),(37,.d (dI c)),(73,.d (.v Vr)),(74,.d (dI t)),(76,.d (.v Vr)),(77,.d (dI s.cols.length)),(79,.d (.v Vr)),(80,.d (dI s.cols.length)),(84,.d (.v Vr)),(85,.d (dI t)),(81,.d (.v (eV Vr (s.cols.length*1))))]) (fun V=>?_) (fun N1_0=>?_)
   · refine ZH.two 10 14 (by kernel_rfl) rfl rfl rfl rfl (fun _=>rfl) (fun _=>rfl) ⟨rfl,trivial⟩ ?_ ?_
     · refine bG (fun B1 F1 w1 hS=>?_);refine ab.bc tok (.v (Vs.getD s.cols.length undef)) (hS.at (i:=0) rfl (by rw[ae];omega)) rfl rfl rfl rfl rfl rfl (b7 (by omega)) rfl ?_;refine ab.nil ⟨rfl,?_⟩;exact qL (N2_0 V) (by kernel_rfl) rfl ⟨rfl,trivial⟩
     · refine bG (fun B1 F1 w1 hS=>?_);refine ab.idxs tok (hS.at (i:=0) rfl (by rw[ae];omega)) rfl rfl rfl rfl (aj _) (by show t<_;rw[ae];omega) ?_;refine ab.nil ⟨rfl,?_⟩;exact qL (N1_1 V) (by kernel_rfl) rfl ⟨rfl,trivial⟩
   refine ZH.meet 8 (qB 20 14847) (fun V=>((Vr,OA Vs)::(Vc,CA s.cols)::cu Vs s.rows)) (fun V=>[(3,.bx [.sl 1 (v.map ah)]),(6,.bx [.sl 1 [],.sl 1 [],dI 0,.sl 3 []]),(7,.d aP),(8,.bx [.v Vr,.v Vc,dI s.sg,ah s.cE]),(11,.d (dI c)),(12,.d (dI s.cols.length)),(13,.d (dI t)),(36,.d (dI most)),(37,.d (dI c)),(73,.d (.v Vr)),(74,.d (dI t)),(76,.d (.v Vr)),(77,.d (dI s.cols.length)),(79,.d (.v Vr)),(80,.d (dI s.cols.length)),(84,.d (.v Vr)),(85,.d (dI t))]) (fun V=>?_) (fun N0_0=>?_)
   · refine ZH.two 9 14 (by kernel_rfl) rfl rfl rfl rfl (fun _=>rfl) (fun _=>rfl) ⟨rfl,trivial⟩ ?_ ?_
     · refine bG (fun B1 F1 w1 hS=>?_);refine ab.idxs tok (hS.at (i:=0) rfl (by rw[ae];omega)) rfl rfl rfl rfl (aj _) (by show s.cols.length<_;rw[ae];omega) ?_;refine ab.nil ⟨rfl,?_⟩;exact qL (N1_0 V) (by kernel_rfl) rfl ⟨rfl,trivial⟩
     · refine bG (fun B1 F1 w1 hS=>?_);refine ab.idxs tok (hS.at (i:=0) rfl (by rw[ae];omega)) rfl rfl rfl rfl (aj _) (by show t<_;rw[ae];omega) ?_;refine ab.nil ⟨rfl,?_⟩;exact qL (N0_1 V) (by kernel_rfl) rfl ⟨rfl,trivial⟩
   exact qL (N0_0 gQ) (by kernel_rfl) rfl ⟨rfl,trivial⟩
 obtain ⟨sg,hsg⟩: ∃sg,(if t=s.cols.length then s.sg else -s.sg)=sg:=⟨_,rfl⟩;obtain ⟨r,hrr⟩: ∃r,s.cols.length=r:=⟨_,rfl⟩;have hrb:r<b.length:=by omega
 have hrN:(b.getD r []).length=N:=hb2 r hrb;have okc:=pa V hR.cE (by rw[hpr];exact hb3 _ _) okd;rw[hsg] at hst;rw[hrr] at hst hpr hE okv oks okt;show AZ _ _ _ _ _ _ _ ((Vr,OA Ws)::(Vc,CA s.cols)::cu Ws b) [(3,.bx [.sl 1 (v.map ah)]),(6,.bx [.sl 1 [],.sl 1 [],dI 0,.sl 3 []]),(7,.d aP),(8,.bx [.v Vr,.v Vc,dI (if t=s.cols.length then s.sg else -s.sg),ah s.cE]),(11,.d (dI c)),(12,.d (dI s.cols.length)),(36,.d (dI most)),(37,.d (dI c))];rw[hsg,hrr];refine AZ.seq (AZ.rG (fun B1 F1 w1 hS=>?_));refine qU 3 rfl ?_;refine ab.idxs tok (hS.at (i:=0) rfl (by rw[ae];omega)) rfl rfl rfl rfl (aj _) (by show r<_;rw[ae];omega) ?_;refine ab.bc tok (.v (Ws.getD r undef)) (hS.at (i:=0) rfl (by rw[ae];omega)) rfl rfl rfl rfl rfl rfl (b7 (by omega)) rfl ?_;refine qU 1 rfl ?_;refine ab.idxs tok (hS.at (i:=r+2) (bS (Vs:=Ws) (by omega) hrb) (by rw[ae];omega)) rfl rfl rfl rfl (aj c) (by rw[ae];omega) ?_;refine ab.bc tok (ah (aS b r c)) (hS.at (i:=r+2) (bS (Vs:=Ws) (by omega) hrb) (by rw[ae];omega)) rfl rfl rfl rfl rfl rfl (hel hb2 hrb c hcN) rfl ?_;rw[← hpr];refine qU 1 rfl ?_;refine ab.nil ⟨rfl,?_⟩;refine AZ.seq (AZ.cQ (fun B1 F1 w1=>?_));refine qU 1 rfl ?_;refine ab.nil ⟨rfl,?_⟩;refine AZ.seq (AZ.seq ?_);refine AZ.cQ (fun B1 F1 w1=>?_);refine qU 4 rfl ?_;refine ab.call tok rfl rfl rfl rfl okc ?_;refine qU 6 rfl ?_;refine ab.nil ⟨rfl,?_⟩;refine AZ.seq (AZ.cQ (fun B1 F1 w1=>?_));refine qU 1 rfl ?_;refine ab.err tok rfl rfl rfl rfl rfl ?_;refine ab.nil ⟨rfl,?_⟩;refine AZ.aA rfl ?_;refine AZ.skip ?_;generalize dK v s.cE p=cE at *;obtain ⟨row,hrow⟩: ∃row,b.getD r []=row:=⟨_,rfl⟩;have hz:=qu v row p;have hsr: ∀k,aS b r k=row.getD k []:=fun k=>by unfold aS;rw[hrow]
 have hb0:cu Ws b=cu Ws (b.set r row):=by rw[← hrow,nh hrb]
 have hgr: ∀q:List NQ,(cu Ws (b.set r q))[r]?=some (Ws.getD r undef,eO q):=fun q=>by
  rw[bS (by omega) (by simpa using hrb),eM,if_pos ⟨rfl,hrb⟩]
 rw[hrow] at hE hrN okv;rw[hb0];refine AZ.seq (AZ.seq ?_);refine AZ.rG (fun B1 F1 w1 hS=>?_);refine qU 3 rfl ?_;refine ab.idxs tok (hS.at (i:=0) rfl (by rw[ae];omega)) rfl rfl rfl rfl (aj _) (by show r<_;rw[ae];omega) ?_;refine ab.bc tok (.v (Ws.getD r undef)) (hS.at (i:=0) rfl (by rw[ae];omega)) rfl rfl rfl rfl rfl rfl (b7 (by omega)) rfl ?_;refine ab.lens tok (hS.at (i:=r+2) (hgr row) (by rw[ae];omega)) rfl rfl rfl rfl ?_;rw[ae,hrN];refine qU 1 rfl ?_;refine ab.nil ⟨rfl,?_⟩;refine AZ.block ?_;refine AZ.aG [3,6,7,8,11,12,14,36,37,120,121] (fun k:Nat=>(((Vr,OA Ws)::(Vc,CA s.cols)::cu Ws (b.set r (ir (yr v row p) row k))),[(3,.bx [.sl 1 (v.map ah)]),(6,.bx [.sl 1 [],.sl 1 [],dI 0,.sl 3 []]),(7,.d aP),(8,.bx [.v Vr,.v Vc,dI sg,ah cE]),(11,.d (dI c)),(12,.d (dI r)),(14,.d (ah p)),(36,.d (dI most)),(37,.d (dI c)),(120,.d (dI N)),(121,.d (dI k))])) (fun k=>k≤N) (fun k=>N-k) 0 (by rw[rS];rfl) (Nat.zero_le _) (fun k hk=>?_);show AZ _ _ _ _ _ _ _ ((Vr,OA Ws)::(Vc,CA s.cols)::cu Ws (b.set r (ir (yr v row p) row k))) [(3,.bx [.sl 1 (v.map ah)]),(6,.bx [.sl 1 [],.sl 1 [],dI 0,.sl 3 []]),(7,.d aP),(8,.bx [.v Vr,.v Vc,dI sg,ah cE]),(11,.d (dI c)),(12,.d (dI r)),(14,.d (ah p)),(36,.d (dI most)),(37,.d (dI c)),(120,.d (dI N)),(121,.d (dI k))];refine AZ.seq (AZ.cQ (fun B1 F1 w1=>?_));refine qU 1 rfl ?_;refine ab.nil ⟨rfl,?_⟩;refine AZ.seq ?_;refine AZ.cond rfl (fun h=>?_) (fun h=>?_)
 · have hkN:k<N:=by have:=aq h;omega
   have hpl:=qx hz (i:=k) (by omega);have hpg:=vy hz (show k<row.length by omega) [];have hps:=vx hz (show k<row.length by omega) (d:=[]) (qv v row p (show k<row.length by omega));have cd:=A0 V (a:=row.getD k []) (b:=p) (by rw[← hrow];exact hb3 r k) (by rw[hpr];exact hb3 _ _) (by have:=okv k (by omega);rw[hsr] at this;exact this);generalize ir (yr v row p) row k=q at *;generalize row.getD k []=X at *;generalize mT v X p=Y at *;refine AZ.skip (AZ.seq ?_);refine AZ.block (AZ.seq ?_);refine AZ.cQ (fun B1 F1 w1=>?_);refine qU 2 rfl ?_;refine ab.nil ⟨rfl,?_⟩;refine AZ.seq (AZ.any aQ (iy.q7 [(19,20)] (by kernel_rfl) (fun _ _ _ h=>h) (fun _ _ h=>h) (iy.kP 20 (by kernel_rfl) (fun B1 F1 w1 hS=>?_))));have hS0:=hS.at (i:=0) rfl (by rw[ae];omega);have hS1:=hS.at (i:=r+2) (hgr q) (by rw[ae];omega);refine qP 3 rfl ?_;refine af.idxs tok hS0 rfl rfl rfl rfl rfl (aj r) (by rw[ae];omega) ?_;refine af.bc tok (.v (Ws.getD r undef)) hS0 rfl rfl rfl rfl rfl rfl rfl (b7 (by omega)) rfl ?_;refine qP 5 rfl ?_;refine af.idxs tok hS0 rfl rfl rfl rfl rfl (aj r) (by rw[ae];omega) ?_;refine af.bc tok (.v (Ws.getD r undef)) hS0 rfl rfl rfl rfl rfl rfl rfl (b7 (by omega)) rfl ?_;refine qP 1 rfl ?_;refine af.idxs tok hS1 rfl rfl rfl rfl rfl (aj k) (by rw[ae];omega) ?_;refine af.bc tok (ah (q.getD k [])) hS1 rfl rfl rfl rfl rfl rfl rfl (getM ah (by omega)) rfl ?_;rw[hpg];refine qP 1 rfl ?_;refine af.call tok rfl rfl rfl rfl rfl cd ?_;refine qP 3 rfl ?_;refine af.nil ⟨rfl,?_⟩;refine ai.to [129,130,142,143,3,6,7,8,11,12,14,36,37,120,121] [(129,.d (.v (Ws.getD r undef))),(130,.d (dI k)),(142,.d (ah Y)),(143,.d aP),(3,.bx [.sl 1 (v.map ah)]),(6,.bx [.sl 1 [],.sl 1 [],dI 0,.sl 3 []]),(7,.d aP),(8,.bx [.v Vr,.v Vc,dI sg,ah cE]),(11,.d (dI c)),(12,.d (dI r)),(14,.d (ah p)),(36,.d (dI most)),(37,.d (dI c)),(120,.d (dI N)),(121,.d (dI k))] rfl ?_;refine ai.we 1 rfl (fun B1 F1 w1 hS=>?_);refine ab.idxs tok (hS.at (i:=r+2) (hgr q) (by rw[ae];omega)) rfl rfl rfl rfl (aj k) (by rw[ae];omega) ?_;refine ab.nil ⟨rfl,?_⟩;refine ai.c8 129 (r+2) (hgr q) rfl rfl ?_;refine ai.el (k:=k) tok 129 144 rfl (List.Mem.head _) rfl rfl rfl (by rw[ae];omega) rfl ?_;refine ai.cut 1 rfl (fun B1 F1 w1=>?_);refine ab.m7 tok Y rfl rfl rfl (by omega) ?_;rw[hps];refine ab.nil ⟨rfl,?_⟩;refine ai.back 129 (r+2) rfl rfl rfl (List.Mem.head _) (List.getElem?_set_self (by have:=(List.getElem?_eq_some_iff.1 (hgr q)).1;simp only[List.length_cons];omega)) ?_
   refine ai.jl (R':=((Vr,OA Ws)::(Vc,CA s.cols)::cu Ws (b.set r (ir (yr v row p) row (k+1))))) (by
    show (Vr,OA Ws)::(Vc,CA s.cols)::((cu Ws (b.set r q)).set r _).set r _=_
    rw[List.set_set,uy (by omega) (by simpa using hrb),List.set_set]) ?_
   refine ai.cut 1 rfl (fun B1 F1 w1=>?_);refine qU 1 rfl ?_;refine ab.nil ⟨rfl,?_⟩;refine ai.nil ?_;refine AZ.to [3,6,7,8,11,12,14,36,37,15,120,121] [(3,.bx [.sl 1 (v.map ah)]),(6,.bx [.sl 1 [],.sl 1 [],dI 0,.sl 3 []]),(7,.d aP),(8,.bx [.v Vr,.v Vc,dI sg,ah cE]),(11,.d (dI c)),(12,.d (dI r)),(14,.d (ah p)),(36,.d (dI most)),(37,.d (dI c)),(15,.d aP),(120,.d (dI N)),(121,.d (dI k))] rfl ?_;refine AZ.seq (AZ.cQ (fun B1 F1 w1=>?_));refine qU 1 rfl ?_;refine ab.err tok rfl rfl rfl rfl rfl ?_;refine ab.nil ⟨rfl,?_⟩;refine AZ.aA rfl ?_;refine AZ.skip (AZ.cQ (fun B1 F1 w1=>?_));refine qU 1 rfl ?_;rw[aF (x:=(k:Int)+1) (by omega) (by omega)];refine qU 1 rfl ?_;refine ab.nil ⟨rfl,?_⟩;exact⟨k+1,rfl,hkN,by omega⟩
 have hkN:k=N:=by have:=au h;omega
 subst hkN;rw[show ir (yr v row p) row k=yr v row p by rw[← hrN];exact vz hz,← hE];refine AZ.exit ?_;have hWe:Ws.length=e.length:=by omega
 have hre:r<e.length:=by omega
 have he2c:e.length=s.rows.length:=by omega
 refine AZ.seq (AZ.seq ?_);refine AZ.rG (fun B1 F1 w1 hS=>?_);refine qU 2 rfl ?_;refine ab.lens tok (hS.at (i:=0) rfl (by rw[ae];omega)) rfl rfl rfl rfl ?_;rw[ae,hWe];refine qU 1 rfl ?_;refine ab.nil ⟨rfl,?_⟩;refine AZ.block (AZ.aG [3,6,7,8,11,12,36,37,152,153] (fun i:Nat=>(((Vr,OA Ws)::(Vc,CA s.cols)::cu Ws (cD v e r c i)),[(3,.bx [.sl 1 (v.map ah)]),(6,.bx [.sl 1 [],.sl 1 [],dI 0,.sl 3 []]),(7,.d aP),(8,.bx [.v Vr,.v Vc,dI sg,ah cE]),(11,.d (dI c)),(12,.d (dI r)),(36,.d (dI most)),(37,.d (dI c)),(152,.d (dI e.length)),(153,.d (dI i))])) (fun i=>i≤e.length) (fun i=>e.length-i) 0 rfl (Nat.zero_le _) (fun i hi=>?_));show AZ _ _ _ _ _ _ _ ((Vr,OA Ws)::(Vc,CA s.cols)::cu Ws (cD v e r c i)) [(3,.bx [.sl 1 (v.map ah)]),(6,.bx [.sl 1 [],.sl 1 [],dI 0,.sl 3 []]),(7,.d aP),(8,.bx [.v Vr,.v Vc,dI sg,ah cE]),(11,.d (dI c)),(12,.d (dI r)),(36,.d (dI most)),(37,.d (dI c)),(152,.d (dI e.length)),(153,.d (dI i))];refine AZ.seq (AZ.cQ (fun B1 F1 w1=>?_));refine qU 1 rfl ?_;refine ab.nil ⟨rfl,?_⟩;refine AZ.seq ?_;refine AZ.cond rfl (fun h=>?_) (fun h=>?_)
 · have hie:i<e.length:=by have:=aq h;omega
   have hm1:=kj v e r c i;have hm2:=ox (v:=v) (r:=r) (c:=c) he2 i (by omega);have hm3:=ur V (r:=r) (c:=c) he3 i;have hmi:=fJ v e r c i i (.inl (ak _));have hmr:=fJ v e r c i r (.inr rfl);have hnx:cD v e r c (i+1)=if i≠r∧fi v (aS (cD v e r c i) i c)≠0 then (cD v e r c i).set i (eT v ((cD v e r c i).getD i []) ((cD v e r c i).getD r []) (aS (cD v e r c i) i c)) else cD v e r c i:=rfl
   have jG:aS (cD v e r c i) i c=aS e i c:=uu v e r c i c;generalize cD v e r c i=m at *;refine AZ.skip (AZ.seq ?_);refine AZ.block (AZ.seq ?_);refine AZ.cQ (fun B1 F1 w1=>?_);refine qU 2 rfl ?_;refine ab.nil ⟨rfl,?_⟩;refine AZ.seq (AZ.any aQ (iy.kP 16 (by kernel_rfl) (fun B1 F1 w1 hS=>?_)));have hS0:=hS.at (i:=0) rfl (by rw[ae];omega);refine qP 3 rfl ?_;by_cases hir:i=r
   · rw[if_neg (fun g=>g.1 hir)] at hnx;rw[bne_eq_false_iff_eq.2 (show (i:Int)=(r:Int) by omega)];refine qP 13 rfl ?_;refine af.nil ⟨rfl,?_⟩;refine ai.nil ?_;refine AZ.aA rfl ?_;refine AZ.skip (AZ.cQ (fun B1 F1 w1=>?_));refine qU 1 rfl ?_;rw[aF (x:=(i:Int)+1) (by omega) (by omega)];refine qU 1 rfl ?_;refine ab.nil ⟨rfl,?_⟩;exact⟨i+1,Prod.ext (show ((Vr,OA Ws)::(Vc,CA s.cols)::cu Ws m)=((Vr,OA Ws)::(Vc,CA s.cols)::cu Ws (cD v e r c (i+1))) by rw[hnx]) rfl,hie,by omega⟩
   have hmiN:(m.getD i []).length=k:=hm2 i (by omega);have hmrN:(m.getD r []).length=k:=hm2 r (by omega);have hgi:=bS (Vs:=Ws) (a:=m) (j:=i) (by omega) (by omega);have hgr2:=bS (Vs:=Ws) (a:=m) (j:=r) (by omega) (by omega);have hS1:=hS.at (i:=i+2) hgi (by rw[ae];omega);have cs:=gX V (hm3 i c) (by rw[jG];exact oks i (by omega) (by omega));have okt2:=okt i (by omega) (by omega);rw[← jG,← hmi,← hmr] at okt2;rw[bne_iff_ne.2 (show (i:Int)≠(r:Int) by omega)];refine qP 5 rfl ?_;refine af.idxs tok hS0 rfl rfl rfl rfl rfl (aj i) (by rw[ae];omega) ?_;refine af.bc tok (.v (Ws.getD i undef)) hS0 rfl rfl rfl rfl rfl rfl rfl (b7 (by omega)) rfl ?_;refine qP 1 rfl ?_;refine af.idxs tok hS1 rfl rfl rfl rfl rfl (aj c) (by rw[ae];omega) ?_;refine af.bc tok (ah (aS m i c)) hS1 rfl rfl rfl rfl rfl rfl rfl (hel hm2 (by omega) c hcN) rfl ?_;refine af.call tok rfl rfl rfl rfl rfl cs ?_;refine qP 2 rfl ?_;refine af.nil ⟨rfl,?_⟩;refine ai.nil ?_;refine AZ.cond rfl (fun h=>?_) (fun h=>?_);rotate_left
   · have hg:fi v (aS m i c)=0:=bne_eq_false_iff_eq.1 h;rw[if_neg (fun g=>g.2 hg)] at hnx;refine AZ.skip (AZ.cQ (fun B1 F1 w1=>?_));refine qU 1 rfl ?_;rw[aF (x:=(i:Int)+1) (by omega) (by omega)];refine qU 1 rfl ?_;refine ab.nil ⟨rfl,?_⟩;exact⟨i+1,Prod.ext (show ((Vr,OA Ws)::(Vc,CA s.cols)::cu Ws m)=((Vr,OA Ws)::(Vc,CA s.cols)::cu Ws (cD v e r c (i+1))) by rw[hnx]) rfl,hie,by omega⟩
   have hg:fi v (aS m i c)≠0:=bne_iff_ne.1 h;rw[if_pos ⟨hir,hg⟩] at hnx;have ct:=vA (Ws.getD i undef) (Ws.getD r undef) V (xs:=m.getD i []) (ys:=m.getD r []) (c:=aS m i c) (by omega) (by omega) (by omega) (hm3 i) (hm3 r) (hm3 i c) (okt2 (by rw[jG] at hg ⊢; exact hg));refine AZ.seq (AZ.any aQ (iy.kP 19 (by kernel_rfl) (fun B1 F1 w1 hS=>?_)));have hS0:=hS.at (i:=0) rfl (by rw[ae];omega);have hS1:=hS.at (i:=i+2) hgi (by rw[ae];omega);refine qP 4 rfl ?_;refine af.idxs tok hS0 rfl rfl rfl rfl rfl (aj i) (by rw[ae];omega) ?_;refine af.bc tok (.v (Ws.getD i undef)) hS0 rfl rfl rfl rfl rfl rfl rfl (b7 (by omega)) rfl ?_;refine qP 3 rfl ?_;refine af.idxs tok hS0 rfl rfl rfl rfl rfl (aj r) (by rw[ae];omega) ?_;refine af.bc tok (.v (Ws.getD r undef)) hS0 rfl rfl rfl rfl rfl rfl rfl (b7 (by omega)) rfl ?_;refine qP 3 rfl ?_;refine af.idxs tok hS0 rfl rfl rfl rfl rfl (aj i) (by rw[ae];omega) ?_;refine af.bc tok (.v (Ws.getD i undef)) hS0 rfl rfl rfl rfl rfl rfl rfl (b7 (by omega)) rfl ?_;refine qP 1 rfl ?_;refine af.idxs tok hS1 rfl rfl rfl rfl rfl (aj c) (by rw[ae];omega) ?_;refine af.bc tok (ah (aS m i c)) hS1 rfl rfl rfl rfl rfl rfl rfl (hel hm2 (by omega) c hcN) rfl ?_;refine af.nil ⟨rfl,?_⟩;refine ai.to [172,177,182,190,3,6,7,8,11,12,36,37,152,153] [(172,.d (bt v)),(177,.d (.v (Ws.getD i undef))),(182,.d (.v (Ws.getD r undef))),(190,.d (ah (aS m i c))),(3,.bx [.sl 1 (v.map ah)]),(6,.bx [.sl 1 [],.sl 1 [],dI 0,.sl 3 []]),(7,.d aP),(8,.bx [.v Vr,.v Vc,dI sg,ah cE]),(11,.d (dI c)),(12,.d (dI r)),(36,.d (dI most)),(37,.d (dI c)),(152,.d (dI e.length)),(153,.d (dI i))] rfl ?_;refine ai.iD tok [i+2,r+2] rfl rfl rfl rfl (Ib hgi hgr2) (by simp[hir]) rfl ct (fun res R1 hP=>by rw[hP.2];exact ak _) (fun res R1 hP=>?_);obtain ⟨rfl,rfl⟩:=hP
   refine ai.jl (R':=(Vr,OA Ws)::(Vc,CA s.cols)::cu Ws (cD v e r c (i+1))) (by
    show ((Vr,OA Ws)::(Vc,CA s.cols)::((cu Ws m).set i _).set r _)++[]=_
    rw[List.append_nil,F6 (by omega) (by omega) (by omega) hir,hnx]) ?_
   refine ai.cut 1 rfl (fun B1 F1 w1=>?_);refine qU 1 rfl ?_;refine ab.nil ⟨rfl,?_⟩;refine ai.nil ?_;refine AZ.seq (AZ.cQ (fun B1 F1 w1=>?_));refine qU 1 rfl ?_;refine ab.err tok rfl rfl rfl rfl rfl ?_;refine ab.nil ⟨rfl,?_⟩;refine AZ.aA rfl ?_;refine AZ.skip (AZ.cQ (fun B1 F1 w1=>?_));refine qU 1 rfl ?_;rw[aF (x:=(i:Int)+1) (by omega) (by omega)];refine qU 1 rfl ?_;refine ab.nil ⟨rfl,?_⟩;exact⟨i+1,rfl,hie,by omega⟩
 have hie:i=e.length:=by have:=au h;omega
 subst hie;refine AZ.exit ?_;refine AZ.region ?_;refine ai.cut 4 rfl (fun B1 F1 w1=>?_);refine qU 3 rfl ?_;refine ab.fj tok rfl rfl rfl rfl rfl ?_;refine ab.nil ⟨rfl,?_⟩;refine ai.c8 198 1 rfl rfl rfl ?_;refine ai.cut 1 rfl (fun B1 F1 w1=>?_);refine ab.gv tok rfl rfl rfl rfl rfl rfl (by show ((s.cols.map (fun c:Nat=>dI c)).length+1)*8≤_;rw[ae];omega) (by show (s.cols.map (fun c:Nat=>dI c)).length+1≤_;rw[ae];omega) ?_;refine ab.nil ⟨rfl,?_⟩;refine ai.vG 201 1 rfl rfl rfl rfl (fun Vq=>?_)
 refine ai.jl (R':=(Vr,OA Ws)::(Vq,CA (s.cols++[c]))::cu Ws (cD v e r c e.length)) (by
  show (Vr,OA Ws)::(Vq,AV.ow 3 (s.cols.map (fun c:Nat=>dI c)++[dI c]))::cu Ws (cD v e r c e.length)=_
  rw[show s.cols.map (fun c:Nat=>dI c)++[dI (c:Int)]=(s.cols++[c]).map (fun c:Nat=>dI c) by simp]) ?_
 refine ai.cut 2 rfl (fun B1 F1 w1=>?_);refine qU 2 rfl ?_;refine ab.nil ⟨rfl,?_⟩;refine ai.nil ?_;refine AZ.cQ (fun B1 F1 w1=>?_);refine qU 1 rfl ?_;rw[aF (x:=(c:Int)+1) (by omega) (by omega)];refine qU 1 rfl ?_;refine ab.nil ⟨rfl,?_⟩;exact⟨(c+1,Vr,Vq,Ws),by rw[hst];rfl,⟨hcm,by show Ws.length=a.length;omega⟩,by show most-(c+1)<most-c;omega⟩
end Lift
namespace Lift
open Go Go.Proofs
theorem qy(v:List NQ)(most:Nat)(hm:most≤1000000):Pure Tryz.prog 46 [bt v,aX [],dI most] (.tu [AI ⟨[],[],1,[1]⟩,aP]):=by
 refine qJ 205 Tryz.func46 rfl rfl rfl rfl (by kernel_rfl) (fun B F0 w0=>?_);have cone:=m3 (Qr ((1:Int):Rat)) (k:=1) (jB _ (by have:=jD;rw[show ((1:Int):Rat)=1 from rfl];omega)) (by decide) (by decide) (AJ _);rw[cG,show I5 ((1:Int):Rat)=[1] from rfl] at cone;refine qX 3 rfl ?_;refine qI (AW.region ?_);refine ab.call tok rfl rfl rfl rfl (ic 1 (by decide) (by decide)) ?_;refine ab.call tok rfl rfl rfl rfl cone ?_;refine qU 3 rfl ?_;refine qI (qX 3 rfl ?_);refine ab.nil ?_;refine AW.block (AW.aG [2,3,6,7,8,22,23,24] (fun _:Unit=>[(2,.d (dI most)),(3,.bx [.sl 1 (v.map ah)]),(6,.bx [.sl 1 [],.sl 1 [],dI 0,.sl 3 []]),(7,.d aP),(8,.bx [.sl 1 [],.sl 1 [],dI 1,ah [1]]),(22,.d (aX [])),(23,.d (dI 0)),(24,.d (dI 0))]) (fun _=>True) (fun _=>0) () rfl trivial (fun _ _=>?_));show AW _ _ _ _ _ _ _ [(2,.d (dI most)),(3,.bx [.sl 1 (v.map ah)]),(6,.bx [.sl 1 [],.sl 1 [],dI 0,.sl 3 []]),(7,.d aP),(8,.bx [.sl 1 [],.sl 1 [],dI 1,ah [1]]),(22,.d (aX [])),(23,.d (dI 0)),(24,.d (dI 0))];refine qX 1 rfl ?_;refine qI (AW.aA rfl ?_);refine AW.exit (AW.seq ?_);refine qX 2 rfl ?_;refine ab.nil ?_;refine AW.block (AW.aG [3,6,7,8,36,37] (fun c:Nat=>[(3,.bx [.sl 1 (v.map ah)]),(6,.bx [.sl 1 [],.sl 1 [],dI 0,.sl 3 []]),(7,.d aP),(8,.bx [.sl 1 [],.sl 1 [],dI 1,ah [1]]),(36,.d (dI most)),(37,.d (dI c))]) (fun c=>c≤most) (fun c=>most-c) 0 rfl (Nat.zero_le _) (fun c hc=>?_));show AW _ _ _ _ _ _ _ [(3,.bx [.sl 1 (v.map ah)]),(6,.bx [.sl 1 [],.sl 1 [],dI 0,.sl 3 []]),(7,.d aP),(8,.bx [.sl 1 [],.sl 1 [],dI 1,ah [1]]),(36,.d (dI most)),(37,.d (dI c))];refine qX 1 rfl ?_;refine qI (AW.cond rfl (fun h=>?_) (fun h=>?_));rotate_left
 · refine AW.exit ?_;refine qX 3 rfl ?_;exact qN rfl
 have hcm:c<most:=by have:=aq h;omega
 refine AW.skip (AW.seq (AW.block ?_));refine qX 2 rfl ?_;refine qK 4 rfl ?_;refine qK 2 rfl ?_;refine ab.nil ?_;refine AW.cut [3,6,7,8,12,13,36,37] (fun _:Unit=>[(3,.bx [.sl 1 (v.map ah)]),(6,.bx [.sl 1 [],.sl 1 [],dI 0,.sl 3 []]),(7,.d aP),(8,.bx [.sl 1 [],.sl 1 [],dI 1,ah [1]]),(12,.d (dI 0)),(13,.d (dI 0)),(36,.d (dI most)),(37,.d (dI c))]) (fun _=>True) ?_ (fun _ _=>?_)
 · refine AW.block (AW.aG [3,6,7,8,11,12,13,36,37] (fun _:Unit=>[(3,.bx [.sl 1 (v.map ah)]),(6,.bx [.sl 1 [],.sl 1 [],dI 0,.sl 3 []]),(7,.d aP),(8,.bx [.sl 1 [],.sl 1 [],dI 1,ah [1]]),(11,.d (dI c)),(12,.d (dI 0)),(13,.d (dI 0)),(36,.d (dI most)),(37,.d (dI c))]) (fun _=>True) (fun _=>0) () rfl trivial (fun _ _=>?_));show AW _ _ _ _ _ _ _ [(3,.bx [.sl 1 (v.map ah)]),(6,.bx [.sl 1 [],.sl 1 [],dI 0,.sl 3 []]),(7,.d aP),(8,.bx [.sl 1 [],.sl 1 [],dI 1,ah [1]]),(11,.d (dI c)),(12,.d (dI 0)),(13,.d (dI 0)),(36,.d (dI most)),(37,.d (dI c))];refine AW.seq (AW.seq ?_);refine AW.draw aQ 18 (by kernel_rfl) ?_;refine qP 18 rfl ?_;refine af.nil ?_;refine ab.nil ?_;refine AW.aA rfl ?_;exact AW.exit ⟨(),rfl,trivial⟩
 show AW _ _ _ _ _ _ _ [(3,.bx [.sl 1 (v.map ah)]),(6,.bx [.sl 1 [],.sl 1 [],dI 0,.sl 3 []]),(7,.d aP),(8,.bx [.sl 1 [],.sl 1 [],dI 1,ah [1]]),(12,.d (dI 0)),(13,.d (dI 0)),(36,.d (dI most)),(37,.d (dI c))];refine AW.seq (qX 5 rfl ?_);refine ab.nil ?_;refine AW.aL rfl ?_;refine AW.exit ?_;refine qT 1 rfl ?_;rw[aF (x:=(c:Int)+1) (by omega) (by omega)];refine qU 1 rfl ?_;refine ab.nil ?_;exact⟨c+1,rfl,hcm,by omega⟩
def aV(v:List NQ)(a:a6):im:=aB v a (ao a)
structure rq (v:List NQ) (a:a6):Prop where
 l:a.length≤32
 r:bk (ao a) a
 c:ao a≤32
 lt:jC v.length a
theorem eg{v:List NQ}(V:k8 v){a:a6}{N most:Nat}(ha:a.length≤1000000)(hN:N≤1000000)(hmost:most≤N)(hr:bk N a)(hl:jC v.length a)(ok: ∀c,c<most→kZ v (aB v a c) c):
  Pure Tryz.prog 46 [bt v,aX a,dI most] (.tu [AI (aB v a most),aP]):=by
 by_cases h0:a.length=0
 · rw[List.length_eq_zero_iff.1 h0,ub];exact qy v most (by omega)
 · exact rV V (by omega) ha hN hmost hr hl ok
def nq(a:a6):List (List (List RD)):=a.map (fun r=>r.map dQ)
theorem np(a:a6):(nq a).length=a.length:=ae ..
theorem lA(a:a6)(i:Nat):(nq a).getD i []=(a.getD i []).map dQ:=by
 unfold nq;rw[aE,List.getElem?_map,aE];cases a[i]? with
 | none=>rfl
 | some x=>rfl
theorem uc(a:a6)(i k:Nat):((nq a).getD i []).getD k []=dQ (aS a i k):=by
 rw[lA];unfold aS;generalize a.getD i []=r;rw[aE,List.getElem?_map,aE];cases r[k]? with
 | none=>rfl
 | some x=>rfl
theorem x6(a:a6):MxR (nq a)=aX a:=by
 show D.sl 1 ((a.map _).map kn)=D.sl 1 (a.map bW);rw[List.map_map]
 congr 1
 refine List.map_congr_left fun r _=>?_;show D.sl 1 ((r.map dQ).map dC)=D.sl 1 (r.map ah);rw[List.map_map]
 congr 1
 exact List.map_congr_left fun x _=>pg x
theorem xo(a:a6):ao (nq a)=ao a:=by unfold ao;rw[lA,ae]
theorem j5.s{m:Nat}{v:List NQ}(V:j5 m v)(hk:od v.length m):IW m (mR v):=by
 have hl5:=V.l5;have hm2:=V.m2;have T:=V.raw.1;exact⟨fun i hi _=>by rw[qd];exact pf (V.sz i),V.m1,by rw[ga];omega,T.ll,fun _=>by rw[ga];exact hk,hm2⟩
theorem rq.raw{m:Nat}{v:List NQ}{a:a6}(V:j5 m v)(G:rq v a)(hs: ∀i k,ay m (aS a i k)):DF m (mR v) (nq a)∧nB (mR v) (nq a)=0:=by
 have hl:=G.l;have hc:=G.c
 have hrow: ∀i,((nq a).getD i []).length≤32:=fun i=>by
  rw[lA,ae];by_cases h:i<a.length
  · rw[G.r i h];exact hc
  · rw[gk (by omega)];exact Nat.zero_le _
 refine⟨⟨fun i k=>by rw[uc];exact GD V (G.lt i k) (hs i k),by rw[np];omega,fun i=>Nat.le_trans (hrow i) (by decide)⟩,?_⟩;unfold nB;rw[if_neg (by rw[V.raw.2];simp)];unfold yx;split
 · rfl
 rw[np,xo,if_neg (by omega)]
 have e1:fE (yZ (nq a)) (a.length-0) 0=0:=kU fun j hj=>by
  unfold yZ;rw[xo,lA,ae,G.r j (by omega)];exact if_neg (fun h=>h rfl)
 rw[e1,if_neg (by decide)];refine kU fun j hj=>?_;unfold lv;refine kU fun k hk=>?_;rw[uc];exact Kp V (G.lt j k)
theorem vC{m:Nat}{v:List NQ}{a:a6}(V:j5 m v)(hk:od v.length m)(G:rq v a)(hs: ∀i k,ay m (aS a i k))(ok: ∀c,c<ao a→kZ v (aB v a c) c):Pure Tryz.prog 13 [bt v,aX a] (.tu [dI (aV v a).cols.length,aP]):=by
 refine qJ 29 Tryz.func13 rfl rfl rfl rfl (by kernel_rfl) (fun B F0 w0=>?_);obtain ⟨r1,r2⟩:=G.raw V hs;have cc:=gi (V.s hk) r1;rw[r2,rI,x6] at cc;have hGl:=G.l;have hGc:=G.c;have cr:=eg V.a (most:=ao a) (by omega) (by omega) (ak _) G.r G.lt ok;have hcl:=(cY V.a G.r G.lt (ao a)).cl;change Pure _ _ _ (.tu [AI (aV v a),aP]) at cr;generalize aV v a=s at cr ⊢;obtain ⟨rows,cols,sg,cE⟩:=s;refine qX 3 rfl ?_;refine qI (qX 2 rfl ?_);refine ab.call tok rfl rfl rfl rfl cc ?_;refine qU 1 rfl ?_;refine qK 1 rfl ?_;refine ab.err tok rfl rfl rfl rfl rfl ?_;refine ab.nil ?_;refine AW.aA rfl ?_
 · refine AW.skip (AW.seq ?_);refine AW.mO tok aQ [(7,true),(1,false),(1,true)] 9 [7] (by kernel_rfl) ⟨rfl,?_⟩;refine qP 3 rfl ?_;refine af.call tok rfl rfl rfl rfl rfl (bP a) ?_;refine af.call tok rfl rfl rfl rfl rfl cr ?_;refine qP 2 rfl ?_;refine af.nil ⟨rfl,?_⟩;refine qP 1 rfl ?_;refine af.nil ⟨rfl,?_⟩;refine qP 1 rfl ?_;refine af.nil ⟨_,oB.cons (.bx rfl) (oB.nil),?_⟩;refine qU 1 rfl ?_;refine qI (qX 1 rfl ?_);refine ab.err tok rfl rfl rfl rfl rfl ?_;refine ab.nil ?_;refine AW.aA rfl ?_
   · refine AW.skip (qX 2 rfl ?_);refine qU 1 rfl ?_;rw[ae];refine qU 2 rfl ?_;exact qN rfl
end Lift
namespace Lift
def bu(a:a6):a6:=(List.range (ao a)).map fun k=>a.map fun r=>r.getD k []
theorem fL(a:a6):(bu a).length=ao a:=by unfold bu;rw[ae,List.length_range]
theorem nW(a:a6){k:Nat}(h:k<ao a):(bu a).getD k []=a.map fun r=>r.getD k []:=by
 unfold bu;rw[aE,List.getElem?_map,List.getElem?_range h];rfl
theorem CP(a:a6)(k i:Nat):(a.map fun r=>r.getD k []).getD i []=aS a i k:=by
 unfold aS;rw[aE,List.getElem?_map,aE (l:=a)];cases a[i]? with
 | none=>exact(my (Nat.zero_le k)).symm
 | some r=>rfl
theorem p7(a:a6){i k:Nat}(h:k<ao a):aS (bu a) k i=aS a i k:=by
 show ((bu a).getD k []).getD i []=_;rw[nW a h];exact CP a k i
theorem fm(a:a6):bk a.length (bu a):=fun k hk=>by
 rw[fL] at hk;rw[nW a hk,ae]
theorem w6{p:NQ→Prop}(h0:p []){a:a6}(h: ∀i k,p (aS a i k)): ∀i k,p (aS (bu a) i k):=fun k i=>by
 by_cases hk:k<ao a
 · rw[p7 a hk];exact h i k
 · unfold aS;rw[gk (by rw[fL];omega)];exact h0
theorem jb{l:Nat}{a:a6}(h:jC l a):jC l (bu a):=w6 (p:=aC l) (bm l) h
theorem AX{a:a6}(h:0<ao a):ao (bu a)=a.length:=by
 unfold ao;rw[nW a h,ae]
def fH(v:List NQ)(a:a6)(c:Nat):List Nat:=(List.range c).filter fun i=> !(aB v a c).cols.contains i
theorem uV(v:List NQ)(a:a6)(c:Nat):(aB v a (c+1)).cols=(aB v a c).cols++[c]∨(aB v a (c+1)).cols=(aB v a c).cols:=by
 show (cT v (aB v a c) c).cols=(aB v a c).cols++[c]∨(cT v (aB v a c) c).cols=(aB v a c).cols;unfold cT;split
 · exact .inl rfl
 · exact .inr rfl
theorem jI(v:List NQ)(a:a6): ∀c,∀x∈(aB v a c).cols,x<c
 | 0,x,h=>by cases h
 | c+1,x,h=>by
   have ih:=jI v a c;rcases uV v a c with e | e
   · rw[e] at h;rcases List.mem_append.1 h with h | h
     · exact Nat.lt_succ_of_lt (ih x h)
     · rw[List.mem_singleton.1 h];exact Nat.lt_succ_self c
   · rw[e] at h;exact Nat.lt_succ_of_lt (ih x h)
theorem pI(v:List NQ)(a:a6)(c:Nat):((aB v a (c+1)).cols=(aB v a c).cols++[c]∧fH v a (c+1)=fH v a c)∨((aB v a (c+1)).cols=(aB v a c).cols∧fH v a (c+1)=fH v a c++[c]):=by
 have hlt:=jI v a c;rcases uV v a c with e | e
 · refine .inl ⟨e,?_⟩;unfold fH;rw[List.range_succ,List.filter_append,e];rw[show List.filter (fun i=> !((aB v a c).cols++[c]).contains i) [c]=[] by simp,List.append_nil];refine List.filter_congr fun i hi=>?_;have hi:=List.mem_range.1 hi;have:i≠c:=by omega
   simp[this]
 · refine .inr ⟨e,?_⟩;unfold fH;rw[List.range_succ,List.filter_append,e]
   congr 1
   have:c ∉ (aB v a c).cols:=fun h=>absurd (hlt c h) (Nat.lt_irrefl c);simp[this]
theorem ou(v:List NQ)(a:a6): ∀c,(fH v a c).length+(aB v a c).cols.length=c
 | 0=>rfl
 | c+1=>by
   have ih:=ou v a c;rcases pI v a c with ⟨e1,e2⟩ | ⟨e1,e2⟩
   · rw[e1,e2,List.length_append];show _+(_+1)=_;omega
   · rw[e1,e2,List.length_append];show _+1+_=_;omega
theorem Fb(v:List NQ)(a:a6)(c:Nat): ∀x∈fH v a c,x<c:=fun x h=>List.mem_range.1 (List.mem_filter.1 h).1
def GC(v:List NQ)(a:a6):List Nat:=fH v (bu a) a.length
theorem uW{m0:Nat}{v:List NQ}(V:j5 m0 v){a:a6}(G:rq v a){n:Nat}(hn:n≤a.length):(aB v (bu a) n).cols.length=(aB v (a.take n) (ao a)).cols.length :=
 Da V G.r G.lt (fm a) (jb G.lt) (fL a) (fun i k _ hk=>p7 a hk) hn
theorem n7{v:List NQ}(V:k8 v){a:a6}(G:rq v a):(aV v a).cols.length≤a.length∧(aV v a).cols.length≤ao a :=
 ⟨(cY V G.r G.lt (ao a)).cm,(cY V G.r G.lt (ao a)).cl⟩
theorem lz{m0:Nat}{v:List NQ}(V:j5 m0 v){a:a6}(G:rq v a):(aV v (bu a)).cols.length=(aV v a).cols.length∧(aB v (bu a) a.length).cols.length=(aV v a).cols.length:=by
 have h:=uW V G (ak a.length);rw[List.take_length] at h;refine⟨?_,h⟩;by_cases h0:0<ao a
 · unfold aV at *;rw[AX h0];exact h
 · have e:bu a=[]:=List.length_eq_zero_iff.1 (by rw[fL];omega);have:=(n7 V.a G).2;unfold aV at *;rw[e,ub];show 0=_;omega
def iu(s:im)(n c:Nat):Nat→List NQ
 | 0=>(List.replicate n []).set c [1]
 | r+1=>(iu s n c r).set (s.cols.getD r 0) (ju (aS s.rows r c))
def bJ(v:List NQ)(a:a6):a6:=(fH v a (ao a)).map fun c=>iu (aV v a) (ao a) c (aV v a).cols.length
theorem nH(s:im)(n c:Nat): ∀r,(iu s n c r).length=n
 | 0=>by unfold iu;rw[List.length_set,List.length_replicate]
 | r+1=>by unfold iu;rw[List.length_set,nH s n c r]
end Lift
namespace Lift
open Go Go.Proofs
theorem qf(n:Nat)(r:D)(hn:n≤4611686018427387904)(h1: ∀i:Nat,i≤5→n=2^i→r= .tu [dI i,dB true])(h2:(∀i:Nat,i≤5→n≠2^i)→r= .tu [dI 0,dB false]):Pure Tryz.prog 76 [dI n] r:=by
 refine qJ 14 Tryz.func76 rfl rfl rfl rfl (by kernel_rfl) (fun B0 F0 w0=>?_);refine qX 2 rfl ?_;refine qI (qX 1 rfl ?_);refine ab.nil ?_;refine AW.block (AW.aG [0,5] (fun k:Nat=>[(0,.d (dI n)),(5,.d (dI k))]) (fun k=>k≤6∧ ∀j,j<k→n≠2^j) (fun k=>6-k) 0 rfl ⟨Nat.zero_le _,fun j hj=>by omega⟩ (fun k ⟨hk,hi⟩=>?_));refine qX 1 rfl ?_;refine qI (AW.cond rfl (fun h=>?_) (fun h=>?_));rotate_left
 · have hkk:k=6:=by have:=au h;omega
   subst hkk;rw[h2 (fun i hi5=>hi i (by omega))];refine AW.exit ?_;refine qX 2 rfl ?_;exact qN rfl
 have hkk:k<6:=by have:=aq h;omega
 refine AW.skip (AW.seq (AW.block ?_));refine qX 2 rfl ?_;refine qK 3 rfl ?_;rw[zn (by omega)];refine qU 1 rfl ?_;refine ab.nil ?_;by_cases hp:n=2^k
 · rw[h1 k (by omega) hp,beq_iff_eq.2 (show (n:Int)=((2^k:Nat):Int) by rw[hp])];refine AW.aL rfl ?_;refine qX 3 rfl ?_;exact qN rfl
 rw[beq_eq_false_iff_ne.2 (show (n:Int)≠((2^k:Nat):Int) by omega)];refine AW.aA rfl ?_;refine AW.skip (qT 1 rfl ?_);rw[aF (x:=(k:Int)+1) (by omega) (by omega)];refine qU 1 rfl ?_;refine ab.nil ?_
 exact⟨k+1,rfl,⟨hkk,fun j hj=>by
  by_cases e:j=k
  · rw[e];exact hp
  · exact hi j (by omega)⟩,by omega⟩
theorem gb{n i:Nat}(h:n=2^i)(hi:i≤5):Pure Tryz.prog 76 [dI n] (.tu [dI i,dB true]):=by
 have hp:2^i≤2^5:=Nat.pow_le_pow_right (by decide) hi;refine qf n _ (by omega) (fun j hj e=>?_) (fun hn=>absurd h (hn i hi));have h1:=jJ (Nat.le_of_eq (h.symm.trans e));have h3:=jJ (Nat.le_of_eq (e.symm.trans h));rw[show j=i by omega]
theorem oP{n:Nat}(h: ∀i:Nat,i≤5→n≠2^i)(hn:n≤4611686018427387904):Pure Tryz.prog 76 [dI n] (.tu [dI 0,dB false]) :=
 qf n _ hn (fun i hi e=>absurd e (h i hi)) (fun _=>rfl)
theorem iY(m:Nat)(a:List RD){k:Nat}(hm5:m≤5)(hw:B5 m a→wN k a)(hk:k≤17300000000000)(hl:a.length≤4398046511104):Pure Tryz.prog 37 [dI m,dC a] (dI (bL m a)):=by
 refine qJ 37 Tryz.func37 rfl rfl rfl rfl (by kernel_rfl) (fun B0 F0 w0=>?_);have hno:=fun i hi=>z9 (l:=a) (i:=i) hi;have hyes:=xq (l:=a);unfold bL;generalize kH a=E at hno hyes ⊢
 obtain ⟨x,ok,cp,hok⟩: ∃(x:Nat) (ok:Bool),Pure Tryz.prog 76 [dI a.length] (.tu [dI x,dB ok])∧((ok=false∨m<x)↔BC m a.length=false):=by
  by_cases hp: ∃i,i≤5∧a.length=2^i
  · obtain ⟨i,hi,hp⟩:=hp;refine⟨i,true,gb hp hi,?_⟩;rw[hp,yA];constructor
    · rintro (h | h)
      · cases h
      · exact aO (by omega)
    · intro h;right;have:=au h;omega
  · refine⟨0,false,oP (fun i hi e=>hp ⟨i,hi,e⟩) (by omega),?_⟩;constructor
    · intro _;cases hv:BC m a.length
      · rfl
      · obtain ⟨i,h1,h2⟩:=EO hv;exact absurd ⟨i,by omega,h2⟩ hp
    · intro _;exact .inl rfl
 refine qX 1 rfl ?_;refine qK 2 rfl ?_;rw[ae];refine ab.call tok rfl rfl rfl rfl cp ?_;refine qU 5 rfl ?_;refine ab.nil ?_;refine AW.cut [1] (fun _:Unit=>[(1,.d (dC a))]) (fun _=> ¬(a.length≠0∧BC m a.length=false)) ?_ (fun _ hs=>?_)
 · refine qX 2 rfl ?_;rw[ae];refine qU 1 rfl ?_;by_cases h0:a.length=0
   · rw[bne_eq_false_iff_eq.2 (show (a.length:Int)=0 by omega)];refine qU 9 rfl ?_;refine ab.nil ?_;refine AW.aA rfl ?_;refine AW.skip ?_;exact⟨(),rfl,fun h=>h.1 h0⟩
   rw[bne_iff_ne.2 (show (a.length:Int)≠0 by omega)];cases ok with
   | false =>
     have hb:=hok.1 (.inl rfl);rw[if_pos ⟨h0,hb⟩];refine qU 9 rfl ?_;refine ab.nil ?_;refine AW.aL rfl ?_;refine qX 1 rfl ?_;exact qN rfl
   | true =>
   refine qU 7 rfl ?_;by_cases hx:(m:Int)<(x:Int)
   · rw[aN hx,if_pos ⟨h0,hok.1 (.inr (by omega))⟩];refine qU 2 rfl ?_;refine ab.nil ?_;refine AW.aL rfl ?_;refine qX 1 rfl ?_;exact qN rfl
   · rw[aO hx];refine qU 2 rfl ?_;refine ab.nil ?_;refine AW.aA rfl ?_;refine AW.skip ?_
     exact⟨(),rfl,fun h=>by
      rcases hok.2 h.2 with e | e
      · cases e
      · omega⟩
 rw[if_neg hs];have hw:=hw hs;show AW _ _ _ _ _ _ _ [(1,.d (dC a))];refine AW.seq (qX 2 rfl ?_);rw[ae];refine qU 1 rfl ?_;refine ab.nil ?_;refine AW.block (AW.aG [27,28,29] (fun i:Nat=>[(27,.d (dC a)),(28,.d (dI a.length)),(29,.d (dI i))]) (fun i=>i≤a.length∧ ∀j,j<i→(a.getD j default).okB=true) (fun i=>a.length-i) 0 rfl ⟨Nat.zero_le _,fun j hj=>by omega⟩ (fun i ⟨hi,hall⟩=>?_));refine qX 1 rfl ?_;refine qI (AW.cond rfl (fun h=>?_) (fun h=>?_));rotate_left
 · have hii:i=a.length:=by have:=au h;omega
   subst hii;rw[hyes hall,if_neg (by simp)];refine AW.exit ?_;refine qX 1 rfl ?_;exact qN rfl
 have hii:i<a.length:=by have:=aq h;omega
 have hg:=getM RD.D (l:=a) (i:=i) hii;have hno:=hno i hii;have cv:=qk (a.getD i default) (hw i hii) (by omega);refine AW.skip (AW.seq (AW.block (AW.seq (AW.region ?_))));refine ab.idx tok (a.getD i default).D rfl rfl rfl rfl (aj i) hg ?_;refine qU 3 rfl ?_;refine qK 1 rfl ?_;refine ab.call tok rfl rfl rfl rfl cv ?_;refine qU 1 rfl ?_;cases hv:(a.getD i default).okB with
 | false =>
   rw[hno hv,if_pos rfl];refine ab.nil ?_;refine AW.aL rfl ?_;refine qX 1 rfl ?_;exact qN rfl
 | true =>
 refine ab.nil ?_;refine AW.aA rfl ?_;refine AW.skip (qT 1 rfl ?_);rw[aF (x:=(i:Int)+1) (by omega) (by omega)];refine qU 1 rfl ?_;refine ab.nil ?_
 exact⟨i+1,rfl,⟨hii,fun j hj=>by
  by_cases e:j=i
  · subst e;exact hv
  · exact hall j (by omega)⟩,by omega⟩
theorem qg(a:NQ)(hl:a.length≤1000000):Pure Tryz.prog 151 [ah a] (dB (bF a)):=by
 refine qJ 26 Tryz.func151 rfl rfl rfl rfl (by kernel_rfl) (fun B F0 w0=>?_);have hno:=fun i hi=>uB (a:=a) (i:=i) hi;have hyes:=rv (a:=a);generalize bF a=E at hno hyes ⊢;refine qX 1 rfl ?_;refine qI (qX 2 rfl ?_);rw[ae];refine qU 1 rfl ?_;refine ab.nil ?_;refine AW.block ?_;refine AW.aG [5,6,7] (fun i:Nat=>[(5,.d (ah a)),(6,.d (dI a.length)),(7,.d (dI i))]) (fun i=> ∀j,j<i→j<a.length→a.getD j 0=0) (fun i=>a.length-i) 0 rfl (fun j h=>by omega) (fun i hi=>?_)
 · show AW _ _ _ _ _ _ _ [(5,.d (ah a)),(6,.d (dI a.length)),(7,.d (dI i))];refine qX 1 rfl ?_;refine qI ?_;refine AW.cond rfl (fun h=>?_) (fun h=>?_)
   · have hii:i<a.length:=by have:=aq h;omega
     have g:=mu hii;have hn:=hno i hii;have s0:=F4 (a.getD i 0);generalize hq:a.getD i 0=q at g hn s0;generalize Qr q=y at g s0;obtain ⟨yg,yn,yd⟩:=y;simp only[] at s0;refine AW.skip (AW.seq (AW.block (AW.seq (AW.region ?_))));refine ab.idx tok (RD.mk yg yn yd).D rfl rfl rfl rfl (aj i) g ?_;refine qU 3 rfl ?_;refine qK 3 rfl ?_;cases yg with
     | true =>
       refine qU 11 rfl ?_;refine ab.nil ?_;refine AW.aL rfl ?_;rw[hn (fun e=>by have:=s0.2 e;cases this.1)];refine qX 1 rfl ?_;exact qN rfl
     | false =>
     refine qU 3 rfl ?_;rw[bo];refine qU 1 rfl ?_;by_cases h1:yn.length=0;rotate_left
     · rw[bne_iff_ne.2 (show (yn.length:Int)≠0 by omega)];refine qU 7 rfl ?_;refine ab.nil ?_;refine AW.aL rfl ?_;rw[hn (fun e=>by have:=(s0.2 e).2.1;omega)];refine qX 1 rfl ?_;exact qN rfl
     rw[bne_eq_false_iff_eq.2 (show (yn.length:Int)=0 by omega)];refine qU 5 rfl ?_;rw[bo];refine qU 1 rfl ?_;by_cases h2:yd.length=0;rotate_left
     · rw[bne_iff_ne.2 (show (yd.length:Int)≠0 by omega)];refine qU 1 rfl ?_;refine ab.nil ?_;refine AW.aL rfl ?_;rw[hn (fun e=>by have:=(s0.2 e).2.2;omega)];refine qX 1 rfl ?_;exact qN rfl
     rw[bne_eq_false_iff_eq.2 (show (yd.length:Int)=0 by omega)];refine qU 1 rfl ?_;refine ab.nil ?_;refine AW.aA rfl ?_;refine AW.skip (qT 1 rfl ?_);rw[aF (x:=(i:Int)+1) (by omega) (by omega)];refine qU 1 rfl ?_;refine ab.nil ?_;refine⟨i+1,rfl,fun j h1 h2=>?_,by omega⟩;by_cases e:j=i
     · rw[e,hq];exact s0.1 ⟨rfl,by omega,by omega⟩
     · exact hi j (by omega) h2
   have hii: ¬i<a.length:=by have:=au h;omega
   rw[hyes (fun j h=>hi j (by omega) h)];refine AW.exit ?_;refine qX 1 rfl ?_;exact qN rfl
theorem jf(a:NQ){k:Nat}(hs:ay k a)(hk:k≤17300000000000)(hl:a.length≤1000000):Pure Tryz.prog 112 [ah a] (ah (aM a)):=by
 refine qJ 19 Tryz.func112 rfl rfl rfl rfl (by kernel_rfl) (fun B0 F0 w0=>?_);refine qX 1 rfl ?_;refine qK 1 rfl ?_;refine qI (qX 2 rfl ?_);rw[ae];refine qU 1 rfl ?_;refine ab.nil ?_;refine AW.block (AW.aG [3,6,7,8] (fun i:Nat=>[(3,.ow 111 (fa (aM (a.take i)))),(6,.d (ah a)),(7,.d (dI a.length)),(8,.d (dI i))]) (fun i=>i≤a.length) (fun i=>a.length-i) 0 rfl (Nat.zero_le _) (fun i hi=>?_));refine qX 1 rfl ?_;refine qI (AW.cond rfl (fun h=>?_) (fun h=>?_));rotate_left
 · have hii:i=a.length:=by have:=au h;have:i≤a.length:=hi;omega
   subst hii;rw[List.take_length];refine AW.exit ?_;refine qX 2 rfl ?_;exact qN rfl
 have hii:i<a.length:=by have:=aq h;omega
 have g:=mu hii;have cn:=Bn (Qr (a.getD i 0)) (jB _ (hs i)) hk;rw[cG] at cn;have htk:=uK a 0 hii;have hol:(aM (a.take i)).length=i:=by rw[bB,aT];omega
 have hms:aM (a.take (i+1))=aM (a.take i)++[-a.getD i 0]:=by
  rw[htk];unfold aM;rw[List.map_append];rfl
 generalize aM (a.take i)=M at hol hms ⊢;generalize a.getD i 0=q at g cn hms;refine AW.skip (AW.seq (AW.block (AW.seq (AW.region ?_))));refine ab.idx tok (Qr q).D rfl rfl rfl rfl (aj i) g ?_;refine qU 3 rfl ?_;refine ab.nil ?_;refine qT 2 rfl ?_;refine ab.call tok rfl rfl rfl rfl cn ?_;refine ab.bs tok rfl rfl rfl rfl ?_;refine ab.gv tok rfl rfl rfl rfl rfl rfl (by rw[ae,hol];show (_+1)*56≤_;omega) (by rw[ae,hol];show _+1≤_;omega) ?_;refine qU 1 rfl ?_;refine ab.nil ?_;refine qT 1 rfl ?_;rw[aF (x:=(i:Int)+1) (by omega) (by omega)];refine qU 1 rfl ?_;refine ab.nil ?_;exact⟨i+1,by show _=([(3,.ow 111 (fa (aM (a.take (i+1))))),(6,.d (ah a)),(7,.d (dI a.length)),(8,.d (dI (i+1:Nat)))]:St);rw[hms,fa,fa,List.map_append];rfl,hii,by omega⟩
end Lift
namespace Lift
open Go Go.Proofs
theorem c9(a:NQ){l:Nat}(ha:aC l a)(hl:l≤5):Pure Tryz.prog 121 [ah a] (ah (ar a)):=by
 refine qJ 43 Tryz.func121 rfl rfl rfl rfl (by kernel_rfl) (fun B0 F0 w0=>?_);have hl10:=ha.len (by omega);rcases ha with h0 | ⟨i,hi,hai⟩
 · obtain rfl:a=[]:=List.length_eq_zero_iff.1 h0;have cp:=oP (n:=0) (fun i _=>by have:=Nat.two_pow_pos i;omega) (by decide);refine qX 1 rfl ?_;refine qK 2 rfl ?_;refine ab.call tok rfl rfl rfl rfl cp ?_;refine qU 5 rfl ?_;refine qI (qX 2 rfl ?_);refine ab.nil ?_;refine AW.aL rfl ?_;refine qX 2 rfl ?_;refine ab.nQ tok rfl rfl rfl rfl (by decide) ?_;refine qU 1 rfl ?_;exact qN rfl
 have cp:=gb hai (by omega);have hp:=Nat.two_pow_pos i;have hE:ar a=iI i a:=by unfold ar;rw[if_neg (by omega),hai,Nat.log2_two_pow]
 rw[hE];refine qX 1 rfl ?_;refine qK 2 rfl ?_;rw[ae];refine ab.call tok rfl rfl rfl rfl cp ?_;refine qU 5 rfl ?_;refine qI (qX 2 rfl ?_);refine ab.nil ?_;refine AW.aA rfl ?_;refine AW.skip (qX 2 rfl ?_);rw[ae,hai];refine qU 1 rfl ?_;refine qI (AW.block ?_);refine AW.aG [0,5] (fun j:Nat=>[(0,.d (ah a)),(5,.d (dI (2^j:Nat)))]) (fun j=>j≤i∧iI j a=iI i a) (fun j=>j) i rfl ⟨ak _,rfl⟩ (fun j hj=>?_);obtain ⟨hj,hjE⟩:=hj;show AW _ _ _ _ _ _ _ [(0,.d (ah a)),(5,.d (dI (2^j:Nat)))];have hpj:2^j≤2^i:=Nat.pow_le_pow_right (by decide) hj;have hpp:=Nat.two_pow_pos j;refine AW.seq (qX 2 rfl ?_);rcases j with _ | j
 · refine qU 8 rfl ?_;refine ab.nil ?_;refine AW.aA rfl ?_;refine AW.exit (AW.seq ?_);refine qX 4 rfl ?_;refine ab.fZ tok (a:=a) (a.take 1) rfl rfl rfl rfl trivial (show (0:Int)≤1 by decide) (Nat.zero_le _) (show 1≤a.length by omega) rfl ?_;refine ab.call tok rfl rfl rfl rfl (qg (a.take 1) (by rw[aT];omega)) ?_;refine qU 1 rfl ?_;refine ab.nil ?_;rw[← hjE];unfold iI;cases hz:bF (a.take 1) with
   | true =>
     rw[if_pos rfl];refine AW.aL rfl ?_;refine qX 1 rfl ?_;exact qN rfl
   | false =>
     rw[if_neg (by simp)];refine AW.aA rfl ?_;refine AW.skip (qX 3 rfl ?_);refine ab.fZ tok (a:=a) (a.take 1) rfl rfl rfl rfl trivial (show (0:Int)≤1 by decide) (Nat.zero_le _) (show 1≤a.length by omega) rfl ?_;have hq:(a.take 1).length≤1024:=by rw[aT];omega
     refine ab.nQ tok rfl rfl rfl rfl (by rw[ae];show _*56≤_;omega) ?_;refine qU 1 rfl ?_;exact qN rfl
 have e2:2^(j+1)=2^j*2:=Nat.pow_succ ..;have eh:=lE j;rw[aN (show (1:Int)<((2^(j+1):Nat):Int) by have:=Nat.two_pow_pos j;omega)];refine qU 3 rfl ?_;refine ab.div tok rfl rfl rfl rfl (by decide) ?_;rw[gM _ (by omega),eh];refine qU 1 rfl ?_;refine ab.fZ tok (a:=a) ((a.take (2^(j+1))).drop (2^j)) rfl rfl rfl rfl (aj _) (aj _) (show 2^j≤2^(j+1) by omega) (show 2^(j+1)≤a.length by omega) rfl ?_;refine ab.call tok rfl rfl rfl rfl (qg _ (by rw[List.length_drop,aT];omega)) ?_;refine qU 1 rfl ?_;refine ab.nil ?_;cases hz:bF ((a.take (2^(j+1))).drop (2^j)) with
 | true =>
   refine AW.aL rfl ?_;refine AW.skip (AW.block ?_);refine qT 1 rfl ?_;refine ab.div tok rfl rfl rfl rfl (by decide) ?_;rw[gM _ (by omega),eh];refine qU 1 rfl ?_;refine ab.nil ?_;exact⟨j,rfl,⟨by omega,by rw[← hjE];show _=if bF ((a.take (2^(j+1))).drop (2^j))=true then _ else _;rw[if_pos hz]⟩,by omega⟩
 | false =>
 refine AW.aA rfl ?_;refine AW.exit (AW.seq ?_);refine qX 2 rfl ?_;rw[beq_eq_false_iff_ne.2 (show ((2^(j+1):Nat):Int)≠1 by have:=Nat.two_pow_pos j;omega)];refine qU 5 rfl ?_;refine ab.nil ?_;refine AW.aA rfl ?_;refine AW.skip (qX 3 rfl ?_);refine ab.fZ tok (a:=a) (a.take (2^(j+1))) rfl rfl rfl rfl trivial (aj _) (Nat.zero_le _) (show 2^(j+1)≤a.length by omega) rfl ?_;have hq:(a.take (2^(j+1))).length≤1024:=by rw[aT];omega
 refine ab.nQ tok rfl rfl rfl rfl (by rw[ae];show _*56≤_;omega) ?_;refine qU 1 rfl ?_;refine ab.nil ?_;rw[← hjE];unfold iI;rw[if_neg (by rw[hz];simp)];exact AW.ret rfl
theorem j6(a:NQ):bq a a.length=a:=by
 unfold bq;rw[List.take_length,Nat.sub_self];exact List.append_nil a
theorem uE{a:NQ}{i:Nat}(h:a.length≤i):bq a (i+1)=bq a i++[0]:=by
 unfold bq;rw[List.take_of_length_le h,List.take_of_length_le (by omega),Nat.succ_sub h,List.replicate_succ',List.append_assoc]
theorem kE(a:NQ)(n:Nat)(ha:a.length≤n)(hn:n≤1000000):jn Tryz.prog 142 [ah a,dI n] [] (Ex (bq a n)):=by
 refine jn.intro (n:=18) tok Tryz.func142 rfl rfl rfl (Nat.le_of_ble_eq_true rfl) (by kernel_rfl) (fun B F0 w0=>?_);refine AZ.seq (AZ.cQ (fun B1 F1 w1=>?_));refine qU 1 rfl ?_;refine ab.nil ⟨rfl,?_⟩;refine AZ.seq (AZ.cQ (fun B1 F1 w1=>?_));refine qU 2 rfl ?_;refine ab.tS tok rfl rfl rfl rfl (by rw[ae];show _*56≤_;omega) ?_;refine qU 1 rfl ?_;refine ab.nil ⟨rfl,?_⟩;refine AZ.seq (AZ.block ?_);refine AZ.aG [1,5] (fun i:Nat=>(([]:List LR),([(1,.d (dI n)),(5,.ow 111 (fa (bq a i)))]:St))) (fun i=>a.length≤i∧i≤n) (fun i=>n-i) a.length (by rw[j6];rfl) ⟨ak _,ha⟩ (fun i hi=>?_)
 · obtain ⟨hi,hin⟩:=hi;show AZ _ _ _ _ _ _ _ [] [(1,.d (dI n)),(5,.ow 111 (fa (bq a i)))];have wl:=bM a i;refine AZ.seq (AZ.seq ?_);refine AZ.cQ (fun B1 F1 w1=>?_);refine qU 2 rfl ?_;rw[ae,wl];refine qU 2 rfl ?_;refine ab.nil ⟨rfl,?_⟩;refine AZ.cond rfl (fun h=>?_) (fun h=>?_)
   · have hii:i<n:=by have:=aq h;omega
     have hs:=uE hi;refine AZ.skip (AZ.block ?_);refine AZ.cQ (fun B1 F1 w1=>?_);refine qU 2 rfl ?_;refine ab.bs tok rfl rfl rfl rfl ?_;refine ab.gv tok rfl rfl rfl rfl rfl rfl (by rw[ae,wl];show (_+1)*56≤_;omega) (by rw[ae,wl];show _+1≤_;omega) ?_;refine qU 1 rfl ?_;refine ab.nil ⟨rfl,?_⟩;refine⟨i+1,?_,⟨by omega,hii⟩,by omega⟩;rw[hs];show _=(([]:List LR),([(1,.d (dI n)),(5,.ow 111 ((bq a i++[0]).map (fun q=>(Qr q).D)))]:St));rw[List.map_append,List.map_cons,jO];rfl
   have hii:i=n:=by have:=au h;omega
   subst hii;refine AZ.exit ?_;refine AZ.seq (AZ.cQ (fun B1 F1 w1=>?_));refine qU 2 rfl ?_;refine ab.nil ⟨rfl,?_⟩;refine AZ.iM 4 rfl rfl rfl (fun V=>AZ.ret ⟨.v V,rfl,V,rfl,rfl⟩)
theorem l9(a:NQ)(n:Nat)(ha:a.length≤n)(hn:n≤1000000):Pure Tryz.prog 142 [ah a,dI n] (ah (bq a n)):=by
 refine qJ 18 Tryz.func142 rfl rfl rfl rfl (by kernel_rfl) (fun B F0 w0=>?_);refine qX 1 rfl ?_;refine qK 2 rfl ?_;refine ab.tS tok rfl rfl rfl rfl (by rw[ae];show _*56≤_;omega) ?_;refine qU 1 rfl ?_;refine qI (AW.block ?_);refine AW.aG [1,5] (fun i:Nat=>[(1,.d (dI n)),(5,.ow 111 (fa (bq a i)))]) (fun i=>a.length≤i∧i≤n) (fun i=>n-i) a.length (by rw[j6];rfl) ⟨ak _,ha⟩ (fun i hi=>?_)
 · obtain ⟨hi,hin⟩:=hi;show AW _ _ _ _ _ _ _ [(1,.d (dI n)),(5,.ow 111 (fa (bq a i)))];have wl:=bM a i;refine AW.seq (qX 2 rfl ?_);rw[ae,wl];refine qU 2 rfl ?_;refine ab.nil ?_;refine AW.cond rfl (fun h=>?_) (fun h=>?_)
   · have hii:i<n:=by have:=aq h;omega
     have hs:=uE hi;refine AW.skip (AW.block ?_);refine qT 2 rfl ?_;refine ab.bs tok rfl rfl rfl rfl ?_;refine ab.gv tok rfl rfl rfl rfl rfl rfl (by rw[ae,wl];show (_+1)*56≤_;omega) (by rw[ae,wl];show _+1≤_;omega) ?_;refine qU 1 rfl ?_;refine ab.nil ?_;refine⟨i+1,?_,⟨by omega,hii⟩,by omega⟩;rw[hs];show _=([(1,.d (dI n)),(5,.ow 111 ((bq a i++[0]).map (fun q=>(Qr q).D)))]:St);rw[List.map_append,List.map_cons,jO];rfl
   have hii:i=n:=by have:=au h;omega
   subst hii;refine AW.exit ?_;refine qX 2 rfl ?_;exact qN rfl
theorem fy(a b:NQ){k:Nat}(ha:ay k a)(hb:ay k b)(hk:k≤17300000000000)(hl:a.length≤1000000)(hl2:b.length≤1000000):Pure Tryz.prog 111 [ah a,ah b] (ah (aW a b)):=by
 refine qJ 37 Tryz.func111 rfl rfl rfl rfl (by kernel_rfl) (fun B F0 w0=>?_);obtain ⟨n,hn⟩: ∃n,n=max a.length b.length:=⟨_,rfl⟩;have cw1:=kE a n (by omega) (by omega);have cw2:=kE b n (by omega) (by omega);have l1:=bM a n;have l2:=bM b n;have g1: ∀i,i<n→(bq a n).getD i 0=a.getD i 0:=fun i hi=>by rw[gz,if_pos hi]
 have g2: ∀i,i<n→(bq b n).getD i 0=b.getD i 0:=fun i hi=>by rw[gz,if_pos hi]
 have hpl:(aW a b).length=n:=by rw[jV,hn]
 generalize bq a n=wa at cw1 l1 g1;generalize bq b n=wb at cw2 l2 g2;refine qX 1 rfl ?_;refine qK 4 rfl ?_;rw[ae,ae];refine qU 2 rfl ?_;rw[Iq,← hn];refine qI (AZ.aw ?_);refine AZ.region ?_;refine ai.cut 2 rfl (fun B1 F1 w1=>?_);refine qU 2 rfl ?_;refine ab.nil ⟨rfl,?_⟩;refine ai.iD tok [] rfl rfl rfl rfl rfl List.nodup_nil rfl cw1 (fun _ _ _=>Nat.zero_le _) (fun res R1 hP=>?_);obtain ⟨V1,rfl,rfl⟩:=hP;refine ai.cut 2 rfl (fun B1 F1 w1=>?_);refine qU 2 rfl ?_;refine ab.nil ⟨rfl,?_⟩;refine ai.iD tok [] rfl rfl rfl rfl rfl List.nodup_nil rfl cw2 (fun _ _ _=>Nat.zero_le _) (fun res R1 hP=>?_);obtain ⟨V2,rfl,rfl⟩:=hP;refine ai.cut 2 rfl (fun B1 F1 w1=>?_);refine qU 2 rfl ?_;refine ab.nil ⟨rfl,?_⟩;refine ai.to [0,1] [(0,.d (.v V1)),(1,.d (.v V2))] rfl ?_;refine ai.c8 0 0 (V:=V1) (av:= .ow 111 (fa wa)) rfl rfl rfl ?_;refine ai.to [0,1] [(0,.ow 111 (fa wa)),(1,.d (.v V2))] rfl ?_;refine ai.c8 1 1 (V:=V2) (av:= .ow 111 (fa wb)) rfl rfl rfl ?_;refine ai.to [0,1] [(0,.ow 111 (fa wa)),(1,.ow 111 (fa wb))] rfl ?_;refine ai.nil ?_;refine AW.fT tok 1 rfl rfl ?_;refine AW.seq (qX 2 rfl ?_);rw[ae,l1];refine qU 1 rfl ?_;refine ab.nil ?_;refine AW.block ?_;refine AW.aG [0,1,19,20] (fun s:Nat×NQ=>[(0,.ow 111 (fa s.2)),(1,.d (ah wb)),(19,.d (dI n)),(20,.d (dI s.1))]) (fun s=>s.2.length=n∧ ∀j,j<n→s.2.getD j 0=if j<s.1 then a.getD j 0+b.getD j 0 else a.getD j 0) (fun s=>n-s.1) (0,wa) rfl ⟨l1,fun j h=>by rw[if_neg (Nat.not_lt_zero _)];exact g1 j h⟩ (fun s hi=>?_)
 · obtain ⟨i,r⟩:=s;obtain ⟨hrl,hi⟩:=hi;simp only[] at hrl hi;show AW _ _ _ _ _ _ _ [(0,.ow 111 (fa r)),(1,.d (ah wb)),(19,.d (dI n)),(20,.d (dI i))];refine qX 1 rfl ?_;refine qI ?_;refine AW.cond rfl (fun h=>?_) (fun h=>?_)
   · have hii:i<n:=by have:=aq h;omega
     have e1:=mu (r:=r) (i:=i) (by omega);have e2:=mu (r:=wb) (i:=i) (by omega);rw[hi i hii,if_neg (Nat.lt_irrefl _)] at e1;rw[g2 i hii] at e2;have ca:=u6 (Qr (a.getD i 0)) (Qr (b.getD i 0)) (jB _ (ha i)) (jB _ (hb i)) hk;rw[cG,cG] at ca;refine AW.skip (AW.seq (AW.block ?_));refine qX 2 rfl ?_;refine ab.nil ?_;refine AW.draw aQ 12 (by kernel_rfl) ?_;refine qP 4 rfl ?_;refine af.fR tok rfl rfl rfl rfl rfl rfl (aj i) (by rw[ae];show i<_;omega) ?_;refine af.dh tok (Qr (a.getD i 0)).D rfl rfl rfl rfl rfl e1 rfl ?_;refine qP 2 rfl ?_;refine af.idx tok (Qr (b.getD i 0)).D rfl rfl rfl rfl rfl (aj i) e2 ?_;refine qP 1 rfl ?_;refine af.call tok rfl rfl rfl rfl rfl ca ?_;refine af.fR tok rfl rfl rfl rfl rfl rfl (aj i) (by rw[ae];show i<_;omega) ?_;refine af.nil ?_;refine ab.A9 tok (a.getD i 0+b.getD i 0) rfl rfl rfl (by show i<_;omega) ?_;refine ab.nil ?_;refine qT 1 rfl ?_;rw[aF (x:=(i:Int)+1) (by omega) (by omega)];refine qU 1 rfl ?_;refine ab.nil ?_;refine⟨(i+1,r.set i (a.getD i 0+b.getD i 0)),rfl,⟨by rw[List.length_set];exact hrl,fun j h1=>?_⟩,by show n-(i+1)<n-i;omega⟩;show (r.set i (a.getD i 0+b.getD i 0)).getD j 0=if j<i+1 then _ else _
     rw[BO];by_cases e:j=i
     · rw[if_pos ⟨e,by omega⟩,e,if_pos (by omega)]
     · rw[if_neg (fun h=>e h.1),hi j h1];by_cases h2:j<i
       · rw[if_pos h2,if_pos (by omega)]
       · rw[if_neg h2,if_neg (by omega)]
   have hii: ¬i<n:=by have:=au h;omega
   obtain rfl:r=aW a b:=Bz (by rw[hrl,hpl]) (fun j hj=>by rw[n9,hi j (by omega),if_pos (by omega)]);refine AW.exit ?_;refine qX 2 rfl ?_;exact qN rfl
end Lift
namespace Lift
open Go Go.Proofs
theorem xm{R:NQ→NQ→NQ}{rt:List NQ}{a b:NQ}:(kC R rt a b).length≤max a.length b.length:=by
 unfold kC;split
 · exact Nat.zero_le _
 split
 · rename_i h;rw[h];exact ak _
 · rw[et];omega
theorem zA{l k:Nat}{R:NQ→NQ→NQ}{rt:List NQ}{a b:NQ}(ha:aC l a)(hb:aC l b)(hrt:da rt)(hl:l≤rt.length)(sa:ay k a)(sb:ay k b)(sr:fq k rt)
  (hR: ∀l',l=l'+1→ ∀a' b' m,k≤m→aC l' a'→aC l' b'→ay m a'→ay m b'→aC l' (R a' b')∧ay (sT l' m) (R a' b')):aC l (kC R rt a b)∧ay (sT l k) (kC R rt a b):=by
 have hk:=sa.pos;have h2:=bU l k;unfold kC;by_cases h0:a.length=0∨b.length=0
 · rw[if_pos h0];exact⟨bm _,bn (by omega)⟩
 rw[if_neg h0];by_cases h1:max a.length b.length=1
 · rw[if_pos h1];refine⟨fh _ _,ft ?_⟩;have:=B8 (a.getD 0 0) (b.getD 0 0);have:=sa 0;have:=sb 0;omega
 rw[if_neg h1]
 obtain ⟨i,hi,hn⟩: ∃i,i≤l∧max a.length b.length=2^i:=by
  rcases ha with e | ⟨i,hi,e⟩
  · exact absurd (.inl e) h0
  rcases hb with e2 | ⟨k,hk,e2⟩
  · exact absurd (.inr e2) h0
  by_cases h:a.length≤b.length
  · exact⟨k,hk,by rw[Nat.max_eq_right h,e2]⟩
  · exact⟨i,hi,by rw[Nat.max_eq_left (by omega),e]⟩
 have xz:i≠0:=fun e=>h1 (by rw[hn,e]);obtain ⟨j,rfl⟩: ∃j,i=j+1:=⟨i-1,by omega⟩;obtain ⟨l',rfl⟩: ∃l',l=l'+1:=⟨l-1,by omega⟩;have hj:j≤l':=by omega
 have hR:=fun a' b' m h1 h2 h3 h4 h5=>hR l' rfl a' b' m h1 h2 h3 h4 h5;have wa:=bM a (max a.length b.length);have wb:=bM b (max a.length b.length);have sa:=sa.wide (max a.length b.length);have sb:=sb.wide (max a.length b.length);generalize bq a (max a.length b.length)=A at *;generalize bq b (max a.length b.length)=B at *;generalize max a.length b.length=n at *;subst hn;have e0:=lE j;have hlog:(2^(j+1)).log2-1=j:=by rw[Nat.log2_two_pow];omega
 rw[e0,hlog];obtain ⟨e1,e2,e3⟩:=bD wa;obtain ⟨f1,f2,f3⟩:=bD wb;rw[e3] at e1 e2;rw[f3] at f1 f2;have hx:aC l' (A.take (2^j)):= .inr ⟨j,hj,e1⟩;have hy:aC l' (A.drop (2^j)):= .inr ⟨j,hj,e2⟩;have hu:aC l' (B.take (2^j)):= .inr ⟨j,hj,f1⟩;have hv:aC l' (B.drop (2^j)):= .inr ⟨j,hj,f2⟩;have hd:aC l' (rt.getD j []):= .inr ⟨j,hj,hrt j (by omega)⟩;have hs0:=bU l' k;have hs1:=bU l' (sT l' k);have r1:=hR _ _ k (ak _) hx hu (sa.take _) (sb.take _);have r2:=hR _ _ k (ak _) hy hv (sa.drop _) (sb.drop _);have r3:=hR _ _ k (ak _) hx hv (sa.take _) (sb.drop _);have r4:=hR _ _ k (ak _) hy hu (sa.drop _) (sb.take _);have r5:=hR _ _ (sT l' k) (by omega) r2.1 hd r2.2 ((sr _).mono (by omega));refine⟨.inr ⟨j+1,by omega,by rw[et,Nat.pow_succ];omega⟩,(((r1.2.plus r5.2).mono ?_).join ((r3.2.plus r4.2).mono ?_) _)⟩
 · show _≤sT l' (sT l' k)+sT l' k+1;omega
 · show _≤sT l' (sT l' k)+sT l' k+1;omega
theorem l7(a:NQ){l:Nat}(ha:aC l a):(ar a).length≤a.length:=by
 unfold ar;split
 · exact Nat.zero_le _
 have: ∀i,(iI i a).length≤a.length:=fun i=>by
  induction i with
  | zero =>
    unfold iI;split
    · exact Nat.zero_le _
    · rw[aT];omega
  | succ i ih =>
    unfold iI;split
    · exact ih
    · rw[aT];omega
 exact this _
theorem gD: ∀(l:Nat) {k:Nat} {rt:List NQ} {a b:NQ},aC l a→aC l b→da rt→l≤rt.length→ay k a→ay k b→fq k rt→aC l (ff l rt a b)∧ay (sT l k) (ff l rt a b)
 | 0,k,rt,a,b,ha,hb,hrt,hl,sa,sb,sr=>zA (a5 ha sa).1 (a5 hb sb).1 hrt hl (a5 ha sa).2 (a5 hb sb).2 sr (fun l' h=>by omega)
 | l+1,k,rt,a,b,ha,hb,hrt,hl,sa,sb,sr=>zA (a5 ha sa).1 (a5 hb sb).1 hrt hl (a5 ha sa).2 (a5 hb sb).2 sr (fun l' e a' b' m hm h1 h2 h3 h4=>by
    obtain rfl:l=l':=by omega
    exact gD l h1 h2 hrt (by omega) h3 h4 (sr.mono hm))
theorem Bi: ∀(l:Nat) {rt:List NQ} {a b:NQ},aC l a→aC l b→(ff l rt a b).length≤max a.length b.length
 | 0,rt,a,b,ha,hb=>by
   have h1:=l7 a ha;have h2:=l7 b hb;have h3:=xm (R:=fun _ _=>[]) (rt:=rt) (a:=ar a) (b:=ar b);show (kC _ rt _ _).length≤_;omega
 | l+1,rt,a,b,ha,hb=>by
   have h1:=l7 a ha;have h2:=l7 b hb;have h3:=xm (R:=ff l rt) (rt:=rt) (a:=ar a) (b:=ar b);show (kC _ rt _ _).length≤_;omega
set_option maxHeartbeats 1600000 in
theorem sL{l k:Nat}{R:NQ→NQ→NQ}{rt:List NQ}{xs:List D}{a b:NQ}(ha:aC l a)(hb:aC l b)(hrt:da rt)(hl:l≤rt.length)(hl5:l≤5)(hxs: ∀j,j<rt.length→xs[j]?=some (ah (rt.getD j [])))(sa:ay k a)(sb:ay k b)(sr:fq k rt)(hk:sT l k≤17300000000000)
  (hR: ∀l',l=l'+1→ ∀a' b' m,k≤m→aC l' a'→aC l' b'→ay m a'→ay m b'→sT l' m≤17300000000000→Pure Tryz.prog 122 [.ag [.sl 1 xs],ah a',ah b'] (ah (R a' b'))∧(R a' b').length≤max a'.length b'.length∧aC l' (R a' b')∧ay (sT l' m) (R a' b')):
  Pure Tryz.prog 122 [.ag [.sl 1 xs],ah a,ah b] (ah (kC R rt (ar a) (ar b))):=by
 refine qJ 105 Tryz.func122 rfl rfl rfl rfl (by kernel_rfl) (fun B F0 w0=>?_);have hk1:=sa.pos;have h2:=bU l k;have cs1:=c9 a ha hl5;have cs2:=c9 b hb hl5;obtain ⟨ha,sa⟩:=a5 ha sa;obtain ⟨hb,sb⟩:=a5 hb sb;generalize ar a=s at *;generalize ar b=t at *;have hla:=ha.len (by omega);have hlb:=hb.len (by omega);refine qX 2 rfl ?_;refine qK 1 rfl ?_;refine ab.call tok rfl rfl rfl rfl cs1 ?_;refine qU 1 rfl ?_;refine ab.call tok rfl rfl rfl rfl cs2 ?_;refine qU 2 rfl ?_;refine qK 4 rfl ?_;rw[ae,ae];refine qU 2 rfl ?_;rw[Iq];refine qI (qX 2 rfl ?_);rw[ae];refine qU 1 rfl ?_;unfold kC;by_cases h0:s.length=0
 · have h00:s.length=0∨t.length=0:= .inl h0;rw[beq_iff_eq.2 (show (s.length:Int)=0 by omega),if_pos h00];refine qU 5 rfl ?_;refine ab.nil ?_;refine AW.aL rfl ?_;refine qX 1 rfl ?_;exact qN rfl
 rw[beq_eq_false_iff_ne.2 (show (s.length:Int)≠0 by omega)];refine qU 3 rfl ?_;rw[ae];refine qU 1 rfl ?_;by_cases h01:t.length=0
 · have h00:s.length=0∨t.length=0:= .inr h01;rw[beq_iff_eq.2 (show (t.length:Int)=0 by omega),if_pos h00];refine qU 1 rfl ?_;refine ab.nil ?_;refine AW.aL rfl ?_;refine qX 1 rfl ?_;exact qN rfl
 have h00: ¬(s.length=0∨t.length=0):=fun h=>h.elim h0 h01;rw[beq_eq_false_iff_ne.2 (show (t.length:Int)≠0 by omega),if_neg h00];refine qU 1 rfl ?_;refine ab.nil ?_;refine AW.aA rfl ?_;refine AW.skip (AW.seq (AW.seq (AW.region ?_)));obtain ⟨n,hn⟩: ∃n,n=max s.length t.length:=⟨_,rfl⟩;rw[← hn];refine qU 2 rfl ?_;by_cases h1:n=1
 · rw[if_pos h1,beq_iff_eq.2 (show (n:Int)=1 by omega)];have g1:=mu (r:=s) (i:=0) (by omega);have g2:=mu (r:=t) (i:=0) (by omega);have cm:=Bo (Qr (s.getD 0 0)) (Qr (t.getD 0 0)) (k:=k) (jB _ (sa 0)) (jB _ (sb 0)) (by omega);rw[cG,cG] at cm;refine ab.nil ?_;refine AW.aL rfl ?_;refine AW.seq (AW.draw aQ 8 (by kernel_rfl) ?_);refine qP 1 rfl ?_;refine af.idx tok (Qr (s.getD 0 0)).D rfl rfl rfl rfl rfl (Int.le_refl _) g1 ?_;refine qP 2 rfl ?_;refine af.idx tok (Qr (t.getD 0 0)).D rfl rfl rfl rfl rfl (Int.le_refl _) g2 ?_;refine qP 1 rfl ?_;refine af.call tok rfl rfl rfl rfl rfl cm ?_;refine af.fj tok rfl rfl rfl rfl rfl rfl ?_;refine af.nil ?_;refine qU 1 rfl ?_;exact qN rfl
 rw[if_neg h1,beq_eq_false_iff_ne.2 (show (n:Int)≠1 by omega)];refine ab.nil ?_;refine AW.aA rfl ?_;refine AW.skip ?_
 obtain ⟨i,hi,hni⟩: ∃i,i≤l∧n=2^i:=by
  rcases ha with e | ⟨i,hi,e⟩
  · exact absurd e h0
  rcases hb with e2 | ⟨k,hk,e2⟩
  · exact absurd e2 h01
  by_cases h:s.length≤t.length
  · exact⟨k,hk,by rw[hn,Nat.max_eq_right h,e2]⟩
  · exact⟨i,hi,by rw[hn,Nat.max_eq_left (by omega),e]⟩
 have hsn:s.length≤n:=by omega
 have htn:t.length≤n:=by omega
 have hn9:n≤1024:=by omega
 clear hn;have xz:i≠0:=fun e=>h1 (by rw[hni,e]);obtain ⟨j,rfl⟩: ∃j,i=j+1:=⟨i-1,by omega⟩;obtain ⟨l',rfl⟩: ∃l',l=l'+1:=⟨l-1,by omega⟩;have hj:j≤l':=by omega
 have hR:=fun a' b' m h1 h2 h3 h4 h5=>hR l' rfl a' b' m h1 h2 h3 h4 h5;have hs0:=bU l' k;have hs1:=bU l' (sT l' k);have hk:sT l' (sT l' k)+sT l' k+1≤17300000000000:=hk;have cw1:=l9 s n hsn (by omega);have cw2:=l9 t n htn (by omega);have cp:=gb hni (by omega);have wa:=bM s n;have wb:=bM t n;have sa:=sa.wide n;have sb:=sb.wide n;generalize bq s n=A at *;generalize bq t n=B at *;have e0:=lE j;have hlog:n.log2-1=j:=by rw[hni,Nat.log2_two_pow];omega
 obtain ⟨e1,e2,e3⟩:=bD (wa.trans hni);obtain ⟨f1,f2,f3⟩:=bD (wb.trans hni);rw[hlog];obtain ⟨h,hh⟩: ∃h,h=n / 2:=⟨_,rfl⟩
 have hnh:n=h+h:=by
  have:2^(j+1)=2^j*2:=Nat.pow_succ ..;omega
 have hh2:h=2^j:=by rw[hh,hni,e0]
 rw[wa,← hh] at e1 e2;rw[wb,← hh] at f1 f2;rw[← hh];have hx:aC l' (A.take h):= .inr ⟨j,hj,e1⟩;have hy:aC l' (A.drop h):= .inr ⟨j,hj,e2⟩;have hu:aC l' (B.take h):= .inr ⟨j,hj,f1⟩;have hv:aC l' (B.drop h):= .inr ⟨j,hj,f2⟩;have hdl:=hrt j (by omega);have hd:aC l' (rt.getD j []):= .inr ⟨j,hj,hdl⟩;have r1:=hR _ _ k (ak _) hx hu (sa.take _) (sb.take _) (by omega);have r2:=hR _ _ k (ak _) hy hv (sa.drop _) (sb.drop _) (by omega);have r3:=hR _ _ k (ak _) hx hv (sa.take _) (sb.drop _) (by omega);have r4:=hR _ _ k (ak _) hy hu (sa.drop _) (sb.take _) (by omega);have r5:=hR _ _ (sT l' k) (by omega) r2.2.2.1 hd r2.2.2.2 ((sr _).mono (by omega)) (by omega);have n1:(R (A.take h) (B.take h)).length≤h:=Nat.le_trans r1.2.1 (Nat.max_le.2 ⟨by omega,by omega⟩);have n2:(R (A.drop h) (B.drop h)).length≤h:=Nat.le_trans r2.2.1 (Nat.max_le.2 ⟨by omega,by omega⟩);have n3:(R (A.take h) (B.drop h)).length≤h:=Nat.le_trans r3.2.1 (Nat.max_le.2 ⟨by omega,by omega⟩);have n4:(R (A.drop h) (B.take h)).length≤h:=Nat.le_trans r4.2.1 (Nat.max_le.2 ⟨by omega,by omega⟩);have n5:(R (R (A.drop h) (B.drop h)) (rt.getD j [])).length≤h:=Nat.le_trans r5.2.1 (Nat.max_le.2 ⟨n2,by omega⟩);have r1:=And.intro r1.1 r1.2.2;have r2:=And.intro r2.1 r2.2.2;have r3:=And.intro r3.1 r3.2.2;have r4:=And.intro r4.1 r4.2.2;have r5:=And.intro r5.1 r5.2.2;have p1:=fy (R (A.take h) (B.take h)) (R (R (A.drop h) (B.drop h)) (rt.getD j [])) (k:=sT l' (sT l' k)) (r1.2.2.mono (by omega)) r5.2.2 (by omega) (by omega) (by omega);have p2:=fy (R (A.take h) (B.drop h)) (R (A.drop h) (B.take h)) (k:=sT l' k) r3.2.2 r4.2.2 (by omega) (by omega) (by omega);have q1:(aW (R (A.take h) (B.take h)) (R (R (A.drop h) (B.drop h)) (rt.getD j []))).length≤h:=by rw[jV];exact Nat.max_le.2 ⟨n1,n5⟩
 have q2:(aW (R (A.take h) (B.drop h)) (R (A.drop h) (B.take h))).length≤h:=by rw[jV];exact Nat.max_le.2 ⟨n3,n4⟩
 have cw3:=kE (aW (R (A.take h) (B.take h)) (R (R (A.drop h) (B.drop h)) (rt.getD j []))) h q1 (by omega);have cw4:=kE (aW (R (A.take h) (B.drop h)) (R (A.drop h) (B.take h))) h q2 (by omega);unfold dL;refine qX 2 rfl ?_;refine ab.call tok rfl rfl rfl rfl cw1 ?_;refine qU 2 rfl ?_;refine ab.call tok rfl rfl rfl rfl cw2 ?_;refine qU 2 rfl ?_;refine qK 1 rfl ?_;refine ab.call tok rfl rfl rfl rfl cp ?_;refine qU 5 rfl ?_;refine qI (AW.draw aQ 19 (by kernel_rfl) ?_);refine qP 2 rfl ?_;refine af.div tok rfl rfl rfl rfl rfl (by decide) ?_;rw[gM _ (by omega),← hh];refine af.fZ tok (a:=A) (A.take h) rfl rfl rfl rfl rfl trivial (aj h) (Nat.zero_le _) (show h≤A.length by omega) rfl ?_;refine qP 2 rfl ?_;refine af.div tok rfl rfl rfl rfl rfl (by decide) ?_;rw[gM _ (by omega),← hh];refine af.fZ tok (a:=A) (A.drop h) rfl rfl rfl rfl rfl (aj h) trivial (show h≤A.length by omega) (ak _) (by show (A.take A.length).drop h=_;rw[List.take_length]) ?_;refine qP 2 rfl ?_;refine af.div tok rfl rfl rfl rfl rfl (by decide) ?_;rw[gM _ (by omega),← hh];refine af.fZ tok (a:=B) (B.take h) rfl rfl rfl rfl rfl trivial (aj h) (Nat.zero_le _) (show h≤B.length by omega) rfl ?_;refine qP 2 rfl ?_;refine af.div tok rfl rfl rfl rfl rfl (by decide) ?_;rw[gM _ (by omega),← hh];refine af.fZ tok (a:=B) (B.drop h) rfl rfl rfl rfl rfl (aj h) trivial (show h≤B.length by omega) (ak _) (by show (B.take B.length).drop h=_;rw[List.take_length]) ?_;refine qP 3 rfl ?_;refine af.nil ?_;refine qU 1 rfl ?_;refine ab.nil ?_;refine AW.dW [3,7,8,10,11,12,13] ?_;show AW _ _ _ _ _ _ _ [(3,.bx [.sl 1 xs]),(7,.d (dI n)),(8,.d (dI (j+1:Nat))),(10,.d (ah (A.take h))),(11,.d (ah (A.drop h))),(12,.d (ah (B.take h))),(13,.d (ah (B.drop h)))];refine AW.seq (AW.draw aQ 17 (by kernel_rfl) ?_);refine qP 3 rfl ?_;refine af.call tok rfl rfl rfl rfl rfl r1.1 ?_;refine qP 4 rfl ?_;refine af.call tok rfl rfl rfl rfl rfl r2.1 ?_;refine qP 4 rfl ?_;rw[aF (x:=((j+1:Nat):Int) -1) (by omega) (by omega),show ((j+1:Nat):Int) -1=(j:Int) by omega];refine af.idx tok (ah (rt.getD j [])) rfl rfl rfl rfl rfl (aj j) (hxs j (by omega)) ?_;refine qP 1 rfl ?_;refine af.call tok rfl rfl rfl rfl rfl r5.1 ?_;refine af.call tok rfl rfl rfl rfl rfl p1 ?_;refine af.nil ?_;refine qU 1 rfl ?_;refine qI (AW.draw aQ 9 (by kernel_rfl) ?_);refine qP 3 rfl ?_;refine af.call tok rfl rfl rfl rfl rfl r3.1 ?_;refine qP 3 rfl ?_;refine af.call tok rfl rfl rfl rfl rfl r4.1 ?_;refine af.call tok rfl rfl rfl rfl rfl p2 ?_;refine af.nil ?_;refine qU 1 rfl ?_;refine ab.nil ?_;have l1:=bM (aW (R (A.take h) (B.take h)) (R (R (A.drop h) (B.drop h)) (rt.getD j []))) h;have l2:=bM (aW (R (A.take h) (B.drop h)) (R (A.drop h) (B.take h))) h;generalize aW (R (A.take h) (B.take h)) (R (R (A.drop h) (B.drop h)) (rt.getD j []))=P1 at *;generalize aW (R (A.take h) (B.drop h)) (R (A.drop h) (B.take h))=P2 at *;refine AW.dW [7,14,15] ?_;show AW _ _ _ _ _ _ _ [(7,.d (dI n)),(14,.d (ah P1)),(15,.d (ah P2))];generalize bq P1 h=wa at *;generalize bq P2 h=wb at *;refine AW.seq (AZ.aw ?_);refine AZ.region ?_;refine ai.cut 3 rfl (fun B1 F1 w1=>?_);refine qU 2 rfl ?_;refine ab.div tok rfl rfl rfl rfl (by decide) ?_;rw[gM _ (by omega),← hh];refine ab.nil ⟨rfl,?_⟩;refine ai.iD tok [] rfl rfl rfl rfl rfl List.nodup_nil rfl cw3 (fun _ _ _=>Nat.zero_le _) (fun res R1 hP=>?_);obtain ⟨V1,rfl,rfl⟩:=hP;refine ai.cut 3 rfl (fun B1 F1 w1=>?_);refine qU 2 rfl ?_;refine ab.div tok rfl rfl rfl rfl (by decide) ?_;rw[gM _ (by omega),← hh];refine ab.nil ⟨rfl,?_⟩;refine ai.iD tok [] rfl rfl rfl rfl rfl List.nodup_nil rfl cw4 (fun _ _ _=>Nat.zero_le _) (fun res R1 hP=>?_);obtain ⟨V2,rfl,rfl⟩:=hP;refine ai.to [99,103] [(99,.d (.v V1)),(103,.d (.v V2))] rfl ?_;refine ai.c8 99 0 (V:=V1) (av:= .ow 111 (fa wa)) rfl rfl rfl ?_;refine ai.to [99,103] [(99,.ow 111 (fa wa)),(103,.d (.v V2))] rfl ?_;refine ai.c8 103 1 (V:=V2) (av:= .ow 111 (fa wb)) rfl rfl rfl ?_;refine ai.to [99,103] [(99,.ow 111 (fa wa)),(103,.ow 111 (fa wb))] rfl ?_;refine ai.cut 2 rfl (fun B1 F1 w1=>?_);refine ab.fT tok 103 rfl rfl ?_;refine ab.gv tok rfl rfl rfl rfl rfl rfl (by rw[ae,ae,l1,l2];show (_+_)*56≤_;omega) (by rw[ae,ae,l1,l2];omega) ?_;refine qU 1 rfl ?_;refine ab.nil ⟨rfl,?_⟩;refine ai.nil ?_;rw[show fa wa++fa wb=fa (wa++wb) from List.map_append.symm];exact AW.ret rfl
theorem fN: ∀(l:Nat) {k:Nat} {rt:List NQ} {xs:List D} {a b:NQ},aC l a→aC l b→da rt→l≤rt.length→l≤5→(∀j,j<rt.length→xs[j]?=some (ah (rt.getD j [])))→ay k a→ay k b→fq k rt→sT l k≤17300000000000→Pure Tryz.prog 122 [.ag [.sl 1 xs],ah a,ah b] (ah (ff l rt a b))
 | 0,k,rt,xs,a,b,ha,hb,hrt,hl,hl5,hxs,sa,sb,sr,hk=>sL ha hb hrt hl hl5 hxs sa sb sr hk (fun l' h=>by omega)
 | l+1,k,rt,xs,a,b,ha,hb,hrt,hl,hl5,hxs,sa,sb,sr,hk=>sL ha hb hrt hl hl5 hxs sa sb sr hk (fun l' e a' b' m hm h1 h2 h3 h4 h5=>by
    obtain rfl:l=l':=by omega
    exact⟨fN l h1 h2 hrt (by omega) (by omega) hxs h3 h4 (sr.mono hm) h5,Bi l h1 h2,gD l h1 h2 hrt (by omega) h3 h4 (sr.mono hm)⟩)
end Lift
namespace Lift
open Go Go.Proofs
theorem zy{l k j:Nat}{rt:List NQ}{a:NQ}(hj:j≤l)(ha:a.length=2^(j+1))(hrt:da rt)(hl:l<rt.length)(sa:ay k a)(sr:fq k rt):aC l (fv l rt a)∧ay (sT (l+1) k) (fv l rt a):=by
 obtain ⟨e1,e2,e3⟩:=bD ha;have hx:aC l (a.take (a.length / 2)):= .inr ⟨j,hj,e1⟩;have hy:aC l (a.drop (a.length / 2)):= .inr ⟨j,hj,e2⟩;have hlog:a.length.log2-1=j:=by rw[ha,Nat.log2_two_pow];omega
 have hd:aC l (rt.getD j []):= .inr ⟨j,hj,hrt j (by omega)⟩;have h0:=bU l k;have h1:=bU l (sT l k);have r1:=gD l hx hx hrt (by omega) (sa.take _) (sa.take _) sr;have r2:=gD l hy hy hrt (by omega) (sa.drop _) (sa.drop _) sr;have r3:=gD l r2.1 hd hrt (by omega) r2.2 ((sr _).mono (by omega)) (sr.mono (by omega));unfold fv;rw[hlog];refine⟨r1.1.plus r3.1.minus,(r1.2.plus r3.2.minus).mono ?_⟩;show _≤sT l (sT l k)+sT l k+1;omega
theorem sP{l k j:Nat}{rt:List NQ}{xs:List D}{a:NQ}(hj:j≤l)(ha:a.length=2^(j+1))(hrt:da rt)(hl:l<rt.length)(hl5:l+1≤5)(hxs: ∀j,j<rt.length→xs[j]?=some (ah (rt.getD j [])))(sa:ay k a)(sr:fq k rt)(hk:sT (l+1) k≤17300000000000):
  Pure Tryz.prog 138 [.ag [.sl 1 xs],ah a,dI a.length] (ah (fv l rt a)):=by
 refine qJ 45 Tryz.func138 rfl rfl rfl rfl (by kernel_rfl) (fun B F0 w0=>?_);obtain ⟨e1,e2,e3⟩:=bD ha;have hx:aC l (a.take (a.length / 2)):= .inr ⟨j,hj,e1⟩;have hy:aC l (a.drop (a.length / 2)):= .inr ⟨j,hj,e2⟩;have hlog:a.length.log2-1=j:=by rw[ha,Nat.log2_two_pow];omega
 have hd:aC l (rt.getD j []):= .inr ⟨j,hj,hrt j (by omega)⟩;have h0:=bU l k;have h1:=bU l (sT l k);have hk:sT l (sT l k)+sT l k+1≤17300000000000:=hk;have hp:2^(j+1)≤2^10:=Nat.pow_le_pow_right (by decide) (by omega);have r1:=gD l hx hx hrt (by omega) (sa.take _) (sa.take _) sr;have r2:=gD l hy hy hrt (by omega) (sa.drop _) (sa.drop _) sr;have r3:=gD l r2.1 hd hrt (by omega) r2.2 ((sr _).mono (by omega)) (sr.mono (by omega));have c1:=fN l hx hx hrt (by omega) (by omega) hxs (sa.take _) (sa.take _) sr (by omega);have c2:=fN l hy hy hrt (by omega) (by omega) hxs (sa.drop _) (sa.drop _) sr (by omega);have c3:=fN l r2.1 hd hrt (by omega) (by omega) hxs r2.2 ((sr j).mono (by omega)) (sr.mono (by omega)) (by omega);have n1:=r1.1.len (by omega);have n3:=r3.1.len (by omega);have c4:=jf _ r3.2 (by omega) (by omega);have c5:=fy _ _ (k:=sT l (sT l k)) (r1.2.mono (by omega)) r3.2.minus (by omega) (by omega) (by rw[bB];omega);have cw:=l9 a a.length (ak _) (by omega);rw[j6] at cw;have cp:=gb ha (by omega);unfold fv;rw[hlog];obtain ⟨n,hn⟩: ∃n,n=a.length / 2:=⟨_,rfl⟩;rw[← hn] at e1 e2 e3 hx hy c1 c2 c3 c4 c5 ⊢;refine qX 2 rfl ?_;refine qK 2 rfl ?_;refine ab.call tok rfl rfl rfl rfl cw ?_;refine qU 1 rfl ?_;refine qK 1 rfl ?_;refine ab.call tok rfl rfl rfl rfl cp ?_;refine qU 5 rfl ?_;refine qI (AW.draw aQ 9 (by kernel_rfl) ?_);refine qP 2 rfl ?_;refine af.div tok rfl rfl rfl rfl rfl (by decide) ?_;rw[gM _ (by omega),← hn];refine af.fZ tok (a:=a) (a.take n) rfl rfl rfl rfl rfl trivial (aj n) (Nat.zero_le _) (show n≤a.length by omega) rfl ?_;refine qP 2 rfl ?_;refine af.div tok rfl rfl rfl rfl rfl (by decide) ?_;rw[gM _ (by omega),← hn];refine af.fZ tok (a:=a) (a.drop n) rfl rfl rfl rfl rfl (aj n) trivial (show n≤a.length by omega) (ak _) (by show (a.take a.length).drop n=_;rw[List.take_length]) ?_;refine qP 1 rfl ?_;refine af.nil ?_;refine qU 1 rfl ?_;refine qI (AW.draw aQ 18 (by kernel_rfl) ?_);refine qP 3 rfl ?_;refine af.call tok rfl rfl rfl rfl rfl c1 ?_;refine qP 4 rfl ?_;refine af.call tok rfl rfl rfl rfl rfl c2 ?_;refine qP 4 rfl ?_;rw[aF (x:=((j+1:Nat):Int) -1) (by omega) (by omega),show ((j+1:Nat):Int) -1=(j:Int) by omega];refine af.idx tok (ah (rt.getD j [])) rfl rfl rfl rfl rfl (aj j) (hxs j (by omega)) ?_;refine qP 1 rfl ?_;refine af.call tok rfl rfl rfl rfl rfl c3 ?_;refine af.call tok rfl rfl rfl rfl rfl c4 ?_;refine af.call tok rfl rfl rfl rfl rfl c5 ?_;refine af.nil ?_;refine qU 1 rfl ?_;exact qN rfl
theorem xl{R:NQ→Int}{N:NQ→NQ}{rt:List NQ}{a:NQ}(hR: ∀b,w7 (R b)):w7 (oM R N rt a):=by
 unfold oM;split
 · exact .inl rfl
 split
 · exact gC _
 split
 · exact hR _
 split
 · exact l0 (hR _) (hR _)
 · exact l0 (hR _) (hR _)
theorem uR: ∀(l:Nat) (rt:List NQ) (a:NQ),w7 (ni l rt a)
 | 0,rt,a=>xl (fun _=> .inl rfl)
 | l+1,rt,a=>xl (fun b=>uR l rt b)
set_option maxHeartbeats 1600000 in
theorem uQ{l k:Nat}{R:NQ→Int}{N:NQ→NQ}{rt:List NQ}{xs:List D}{a:NQ}(ha:aC l a)(hl5:l≤5)(hrt:da rt)(hl:l≤rt.length)(hxs: ∀j,j<rt.length→xs[j]?=some (ah (rt.getD j [])))(sa:ay k a)(sr:fq k rt)(hok:od l k)
  (hR: ∀l',l=l'+1→ ∀b m,aC l' b→ay m b→k≤m→od l' m→Pure Tryz.prog 100 [.ag [.sl 1 xs],ah b] (dI (R b))) (hT: ∀b,w7 (R b))
  (hN: ∀l',l=l'+1→ ∀b j,j≤l'→b.length=2^(j+1)→ay k b→Pure Tryz.prog 138 [.ag [.sl 1 xs],ah b,dI b.length] (ah (N b))∧aC l' (N b)∧ay (sT l k) (N b)):
  Pure Tryz.prog 100 [.ag [.sl 1 xs],ah a] (dI (oM R N rt (ar a))):=by
 refine qJ 70 Tryz.func100 rfl rfl rfl rfl (by kernel_rfl) (fun B F0 w0=>?_);have hk:=pw hok;have cs:=c9 a ha hl5;obtain ⟨ha,sa⟩:=a5 ha sa;generalize ar a=b at cs ha sa ⊢;have hlb:=ha.len (by omega);unfold oM;refine qX 2 rfl ?_;refine qK 1 rfl ?_;refine ab.call tok rfl rfl rfl rfl cs ?_;refine qU 1 rfl ?_;refine qI (qX 2 rfl ?_);rw[ae];refine qU 1 rfl ?_;refine ab.nil ?_;by_cases h0:b.length=0
 · rw[if_pos h0,h0];refine AW.aL rfl ?_;refine qX 1 rfl ?_;exact qN rfl
 rw[if_neg h0,beq_eq_false_iff_ne.2 (show (b.length:Int)≠0 by omega)];refine AW.aA rfl ?_;refine AW.skip (qX 2 rfl ?_);rw[ae];refine qU 1 rfl ?_;refine qI (qX 2 rfl ?_);refine ab.nil ?_;by_cases h1:b.length=1
 · have g:=mu (r:=b) (i:=0) (by omega);have cq:=sQ (Qr (b.getD 0 0)) (jB _ (sa 0)) (by omega);rw[cG,xY] at cq;rw[if_pos h1,h1];refine AW.aL rfl ?_;refine qX 1 rfl ?_;refine ab.idx tok (Qr (b.getD 0 0)).D rfl rfl rfl rfl (Int.le_refl _) g ?_;refine qU 1 rfl ?_;refine ab.call tok rfl rfl rfl rfl cq ?_;refine qU 1 rfl ?_;exact qN rfl
 rw[if_neg h1,beq_eq_false_iff_ne.2 (show (b.length:Int)≠1 by omega)];refine AW.aA rfl ?_;refine AW.skip ?_
 obtain ⟨i,hi,hla2⟩: ∃i,i≤l∧b.length=2^i:=by
  rcases ha with e | e
  · omega
  · exact e
 have xz:i≠0:=fun e=>h1 (by rw[hla2,e]);obtain ⟨j,rfl⟩: ∃j,i=j+1:=⟨i-1,by omega⟩;obtain ⟨l',rfl⟩: ∃l',l=l'+1:=⟨l-1,by omega⟩;have hj:j≤l':=by omega
 have hN:=hN l' rfl b j hj hla2 sa;have hR:=fun b m h1 h2 h3 h4=>hR l' rfl b m h1 h2 h3 h4;obtain ⟨e1,e2,e3⟩:=bD hla2;have hx:aC l' (b.take (b.length / 2)):= .inr ⟨j,hj,e1⟩;have hy:aC l' (b.drop (b.length / 2)):= .inr ⟨j,hj,e2⟩;have hlog:b.length.log2-1=j:=by rw[hla2,Nat.log2_two_pow];omega
 have hd:aC l' (rt.getD j []):= .inr ⟨j,hj,hrt j (by omega)⟩;have hk2:=bU (l'+1) k;have r1:=hR _ k hx (sa.take _) (ak _) (kd hok);have r2:=hR _ k hy (sa.drop _) (ak _) (kd hok);have r3:=hR _ k hd (sr j) (ak _) (kd hok);have r4:=hR _ _ hN.2.1 hN.2.2 (by omega) hok.2;have t1:=hT (b.take (b.length / 2));have t2:=l0 (hT (b.drop (b.length / 2))) (hT (rt.getD j []));have t4:=l0 t1 (hT (N b));have cn:=hN.1;have cp:=gb hla2 (by omega);rw[hlog];obtain ⟨n,hn⟩: ∃n,n=b.length / 2:=⟨_,rfl⟩;rw[← hn] at e1 e2 e3 hx hy r1 r2 t1 t2 t4 ⊢;generalize R (b.take n)=x at r1 t1 t4 ⊢;generalize R (b.drop n)=y at r2 t2 ⊢;generalize R (rt.getD j [])=z at r3 t2 ⊢;generalize R (N b)=u at r4 t4 ⊢;refine qX 1 rfl ?_;refine ab.call tok rfl rfl rfl rfl cp ?_;refine qU 5 rfl ?_;refine qK 4 rfl ?_;rw[aF (x:=((j+1:Nat):Int) -1) (by omega) (by omega),show ((j+1:Nat):Int) -1=(j:Int) by omega];refine ab.idx tok (ah (rt.getD j [])) rfl rfl rfl rfl (aj j) (hxs j (by omega)) ?_;refine qU 2 rfl ?_;refine qI (AW.draw aQ 17 (by kernel_rfl) ?_);refine qP 3 rfl ?_;refine af.div tok rfl rfl rfl rfl rfl (by decide) ?_;rw[gM _ (by omega),← hn];refine af.fZ tok (a:=b) (b.take n) rfl rfl rfl rfl rfl trivial (aj n) (Nat.zero_le _) (show n≤b.length by omega) rfl ?_;refine af.call tok rfl rfl rfl rfl rfl r1 ?_;refine qP 3 rfl ?_;refine af.div tok rfl rfl rfl rfl rfl (by decide) ?_;rw[gM _ (by omega),← hn];refine af.fZ tok (a:=b) (b.drop n) rfl rfl rfl rfl rfl (aj n) trivial (show n≤b.length by omega) (ak _) (by show (b.take b.length).drop n=_;rw[List.take_length]) ?_;refine af.call tok rfl rfl rfl rfl rfl r2 ?_;refine qP 2 rfl ?_;refine af.call tok rfl rfl rfl rfl rfl r3 ?_;refine qP 1 rfl ?_;rw[aF (x:=y*z) (by unfold w7 at t2;omega) (by unfold w7 at t2;omega)];refine qP 1 rfl ?_;refine af.nil ?_;refine qU 1 rfl ?_;refine ab.nil ?_;refine AW.dW [1,2,5,9,10] ?_;show AW _ _ _ _ _ _ _ [(1,.d (ah b)),(2,.bx [.sl 1 xs]),(5,.d (dI b.length)),(9,.d (.v (.int .i64 x))),(10,.d (.v (.int .i64 (y*z))))];generalize y*z=yz at t2 ⊢;refine AW.seq (qX 3 rfl ?_);by_cases hxy:x=yz
 · have hor:x=yz∨yz=0:= .inl hxy;rw[if_pos hor,beq_iff_eq.2 hxy];refine qU 4 rfl ?_;refine ab.nil ?_;refine AW.aL rfl ?_;refine qX 2 rfl ?_;exact qN rfl
 rw[beq_eq_false_iff_ne.2 hxy];refine qU 3 rfl ?_;by_cases hy0:yz=0
 · have hor:x=yz∨yz=0:= .inr hy0;rw[if_pos hor,beq_iff_eq.2 hy0];refine qU 1 rfl ?_;refine ab.nil ?_;refine AW.aL rfl ?_;refine qX 2 rfl ?_;exact qN rfl
 have hor: ¬(x=yz∨yz=0):=fun h=>h.elim hxy hy0;rw[if_neg hor,beq_eq_false_iff_ne.2 hy0];refine qU 1 rfl ?_;refine ab.nil ?_;refine AW.aA rfl ?_;refine AW.skip (AW.seq ?_);refine qX 2 rfl ?_;refine ab.nil ?_;by_cases hx0:x=0
 · rw[if_pos hx0,beq_iff_eq.2 hx0];refine AW.aL rfl ?_;refine qX 2 rfl ?_;exact qN rfl
 rw[if_neg hx0,beq_eq_false_iff_ne.2 hx0];refine AW.aA rfl ?_;refine AW.skip (AW.seq ?_);refine AW.draw aQ 8 (by kernel_rfl) ?_;refine qP 5 rfl ?_;refine af.call tok rfl rfl rfl rfl rfl cn ?_;refine af.call tok rfl rfl rfl rfl rfl r4 ?_;refine qP 1 rfl ?_;rw[aF (x:=x*u) (by unfold w7 at t4;omega) (by unfold w7 at t4;omega)];refine af.nil ?_;refine qU 1 rfl ?_;exact qN rfl
theorem gE: ∀(l:Nat) {k:Nat} {rt:List NQ} {xs:List D} {a:NQ},aC l a→l≤5→da rt→l≤rt.length→(∀j,j<rt.length→xs[j]?=some (ah (rt.getD j [])))→ay k a→fq k rt→od l k→Pure Tryz.prog 100 [.ag [.sl 1 xs],ah a] (dI (ni l rt a))
 | 0,k,rt,xs,a,ha,hl5,hrt,hl,hxs,sa,sr,hok=>uQ ha hl5 hrt hl hxs sa sr hok (fun l' h=>by omega) (fun _=> .inl rfl) (fun l' h=>by omega)
 | l+1,k,rt,xs,a,ha,hl5,hrt,hl,hxs,sa,sr,hok=>uQ ha hl5 hrt hl hxs sa sr hok (fun l' e b m h1 h2 h3 h4=>by
    obtain rfl:l=l':=by omega
    exact gE l h1 (by omega) hrt (by omega) hxs h2 (sr.mono h3) h4) (uR l rt) (fun l' e b j h1 h2 h3=>by
    obtain rfl:l=l':=by omega
    exact⟨sP h1 h2 hrt (by omega) (by omega) hxs h3 sr hok.1,zy h1 h2 hrt (by omega) h3 sr⟩)
end Lift
namespace Lift
open Go Go.Proofs
theorem Ig{v:List NQ}(ro:da v)(ps: ∀k,k<v.length→ ¬ed k (v.take k) (v.getD k [])<0):o8 v:=fun j hj=>by
 have h:=ps j hj
 have e: ∀i,i<j→(v.take j).getD i []=v.getD i []:=fun i hi=>by
  rw[aE,List.getElem?_take_of_lt hi,aE]
 have ro2:da (v.take j):=fun i hi=>by
  rw[aT] at hi;rw[e i (by omega)];exact ro i (by omega)
 have lt:aC j (v.getD j []):= .inr ⟨j,ak _,ro j hj⟩;rw[eI j lt ro2 (by rw[aT];omega)] at h
 have key: ∀(l:Nat) (a:Cf),l≤j→bg (v.take j) l a=bg v l a∧ ∀b:Cf,mulC (v.take j) l a b=mulC v l a b:=by
  intro l
  induction l with
  | zero=>exact fun a _=>⟨rfl,fun b=>rfl⟩
  | succ l ih =>
    intro a hl;have hm: ∀x y:Cf,mulC (v.take j) l x y=mulC v l x y:=fun x y=>(ih x (by omega)).2 y;have hs: ∀x:Cf,bg (v.take j) l x=bg v l x:=fun x=>(ih x (by omega)).1;refine⟨?_,fun b=>?_⟩
    · unfold bg b8;simp only[hm,hs,e l (by omega)]
    · funext i;show (if i<2^l then mulC (v.take j) l a b i+mulC (v.take j) l (mulC (v.take j) l (cy l a) (cy l b)) (cf ((v.take j).getD l [])) i else mulC (v.take j) l a (cy l b) (i-2^l)+mulC (v.take j) l (cy l a) b (i-2^l))=_;simp only[hm,e l (by omega)];rfl
 rw[(key j _ (ak _)).1] at h;omega
theorem Et{rt:List (List RD)}{i:Nat}(hi:i≤rt.length)(h: ∀j,j<i→wD rt j=0):o8 ((rt.take i).map bb):=Ig (lY hi h) (fun k hk=>by
 rw[fY hi] at hk;have h1:=(iK (h k hk)).2.2;rw[pZ hk,← List.map_take,List.take_take,Nat.min_eq_left (by omega)]
 exact h1)
theorem D6{rt:List (List RD)}{i:Nat}(hi:i≤rt.length)(h: ∀j,j<i→wD rt j=0){a:NQ}(ha:aC i a):ni i ((rt.take i).map bb) a=ed i ((rt.take i).map bb) a:=by
 rw[f' i ha (lY hi h) (Et hi h) (by rw[fY hi];exact ak _),eI i ha (lY hi h) (by rw[fY hi];exact ak _)]
theorem Ef{rt:List (List RD)}{k m:Nat}(hw: ∀i,i<k→wN m (rt.getD i []))(hk:k≤rt.length)(h: ∀j,j<k→kH (rt.getD j [])=true): ∀j,j<((rt.take k).map bb).length→(rt.map dC)[j]?=some (ah (((rt.take k).map bb).getD j [])):=fun j hj=>by
 rw[fY hk] at hj;have hj2:j<rt.length:=by omega
 rw[pZ hj,← lG (hw j hj) (h j hj)];simp[hj2]
theorem qi(rt:List (List RD)){m:Nat}(hw: ∀i,i<rt.length→(rt.getD i []).length=2^i→wN m (rt.getD i []))(h1:1≤m)(hl:rt.length≤1000000)(hll: ∀i,i<rt.length→(rt.getD i []).length≤4398046511104)(hok:rt.length≤5→od rt.length m):Pure Tryz.prog 56 [TrD rt] (dI (du rt)):=by
 refine qJ 34 Tryz.func56 rfl rfl rfl rfl (by kernel_rfl) (fun B F0 w0=>?_);unfold du;obtain ⟨E,hE⟩: ∃E,fE (wD rt) (rt.length-0) 0=E:=⟨_,rfl⟩;rw[hE];refine qX 2 rfl ?_;refine qI (qX 3 rfl ?_);rw[ae];refine qU 1 rfl ?_;refine ab.nil ?_;by_cases h5:5<rt.length
 · rw[if_pos h5,aN (show (5:Int)<(rt.length:Int) by omega)];refine AW.aL rfl ?_;refine qX 1 rfl ?_;exact qN rfl
 rw[if_neg h5,aO (show ¬(5:Int)<(rt.length:Int) by omega)];have hok:=hok (by omega);have hm7:=pw hok;refine AW.aA rfl ?_;refine AW.skip (AW.seq ?_);refine qX 3 rfl ?_;rw[ae];refine qU 1 rfl ?_;refine ab.nil ?_;refine AW.block (AW.aG [1,11,12,13] (fun i:Nat=>[(1,.bx [.sl 1 (rt.map dC)]),(11,.d (.sl 1 (rt.map dC))),(12,.d (dI rt.length)),(13,.d (dI i))]) (fun i=>i≤rt.length∧fE (wD rt) (rt.length-i) i=E∧ ∀j,j<i→wD rt j=0) (fun i=>rt.length-i) 0 rfl ⟨Nat.zero_le _,hE,fun j hj=>by omega⟩ (fun i ⟨hi,hiE,hall⟩=>?_));refine qX 1 rfl ?_;refine qI (AW.cond rfl (fun h=>?_) (fun h=>?_));rotate_left
 · have hii: ¬i<rt.length:=by have:=au h;omega
   rw[iR hii] at hiE;subst hiE;refine AW.exit ?_;refine qX 1 rfl ?_;exact qN rfl
 have hii:i<rt.length:=by have:=aq h;omega
 have hg:(rt.map dC)[i]?=some (dC (rt.getD i [])):=by simp[hii]
 have hwi:=hw i hii;have hli:=hll i hii;have hmiss:=fun h0:wD rt i=0=>(fU hii h0).symm.trans hiE;have hhit:=fun h0:wD rt i≠0=>(iP hii h0).symm.trans hiE;have hp:2^i≤2^5:=Nat.pow_le_pow_right (by decide) (by omega);have hrt:wD rt i=if (rt.getD i []).length≠2^i then 10 else if bL i (rt.getD i [])≠0 then bL i (rt.getD i []) else if ed i ((rt.take i).map bb) (bb (rt.getD i []))<0 then 3 else 0:=rfl
 refine AW.skip (AW.seq (AW.block ?_));refine qX 1 rfl ?_;refine ab.idx tok (dC (rt.getD i [])) rfl rfl rfl rfl (aj i) hg ?_;refine qU 3 rfl ?_;refine qI (qX 2 rfl ?_);rw[ae];refine qU 2 rfl ?_;rw[zn (by omega)];refine qU 1 rfl ?_;refine ab.nil ?_;by_cases e1:(rt.getD i []).length=2^i;rotate_left
 · rw[if_pos e1] at hrt;rw[bne_iff_ne.2 (show (((rt.getD i []).length:Nat):Int)≠((2^i:Nat):Int) by omega)];have:=hhit (by rw[hrt];decide);rw[hrt] at this;subst this;refine AW.aL rfl ?_;refine qX 1 rfl ?_;exact qN rfl
 rw[if_neg (fun h=>h e1)] at hrt;have hwi:=hwi e1;have cn:=iY i (rt.getD i []) (by omega) (fun _=>hwi) (by omega) hli;rw[e1,bne_eq_false_iff_eq.2 rfl];refine AW.aA rfl ?_;refine AW.skip (AW.seq ?_);refine qX 2 rfl ?_;refine ab.call tok rfl rfl rfl rfl cn ?_;refine qU 1 rfl ?_;refine qK 2 rfl ?_;refine ab.nil ?_;by_cases e2:bL i (rt.getD i [])=0;rotate_left
 · rw[if_pos e2] at hrt;have:=hhit (by rw[hrt];exact e2);rw[hrt] at this;subst this;rw[bne_iff_ne.2 (show ((bL i (rt.getD i []):Nat):Int)≠0 by omega)];refine AW.aL rfl ?_;refine qX 2 rfl ?_;exact qN rfl
 rw[if_neg (fun h=>h e2)] at hrt;rw[bne_eq_false_iff_eq.2 (show ((bL i (rt.getD i []):Nat):Int)=0 by omega)];obtain ⟨n1,n2⟩:=qt e2;have hwj:=fun j (hj:j<i)=>hw j (by omega) (iK (hall j hj)).1;have cs:=gE i (k:=m) (rt:=(rt.take i).map bb) (xs:=rt.map dC) n1 (by omega) (lY hi hall) (by rw[fY hi];exact ak _) (Ef hwj hi (fun j hj=>(iK (hall j hj)).2.1)) (m5 hwi h1) (tX hwj h1 hi) (Ez hok hi);have tr:=n0 i ((rt.take i).map bb) (bb (rt.getD i []));rw[D6 hi hall n1,← lG hwi n2] at cs;generalize ed i ((rt.take i).map bb) (bb (rt.getD i []))=s at cs hrt tr;refine AW.aA rfl ?_;refine AW.skip (qX 2 rfl ?_);refine ab.call tok rfl rfl rfl rfl cs ?_;refine qU 1 rfl ?_;refine ab.nil ?_;by_cases e3:s<0
 · rw[if_pos e3] at hrt;rw[aN e3];have:=hhit (by rw[hrt];decide);rw[hrt] at this;subst this;refine AW.aL rfl ?_;refine qX 1 rfl ?_;exact qN rfl
 rw[if_neg e3] at hrt;rw[aO e3];refine AW.aA rfl ?_;refine AW.skip (qT 1 rfl ?_);rw[aF (x:=(i:Int)+1) (by omega) (by omega)];refine qU 1 rfl ?_;refine ab.nil ?_
 exact⟨i+1,rfl,⟨hii,hmiss hrt,fun j hj=>by
  by_cases e:j=i
  · rw[e];exact hrt
  · exact hall j (by omega)⟩,by omega⟩
theorem oQ(rt l:List (List RD)){m mn:Nat}(hw: ∀i,i<rt.length→(rt.getD i []).length=2^i→wN m (rt.getD i []))(h1:1≤m)(hl:rt.length≤1000000)(hll: ∀i,i<rt.length→(rt.getD i []).length≤4398046511104)(hok:rt.length≤5→od rt.length m)
  (hlw: ∀i,i<l.length→B5 rt.length (l.getD i [])→wN mn (l.getD i [])) (hl2:l.length≤1000000) (hl3: ∀i,i<l.length→(l.getD i []).length≤4398046511104) (hm:mn≤17300000000000):Pure Tryz.prog 110 [TrD rt,.sl 1 (l.map dC)] (dI (rb rt l)):=by
 refine qJ 29 Tryz.func110 rfl rfl rfl rfl (by kernel_rfl) (fun B F0 w0=>?_);have cC:=qi rt hw h1 hl hll hok;unfold rb;obtain ⟨E,hE⟩: ∃E,fE (fun i=>bL rt.length (l.getD i [])) (l.length-0) 0=E:=⟨_,rfl⟩;rw[hE];refine qX 2 rfl ?_;refine qI (qX 1 rfl ?_);refine ab.call tok rfl rfl rfl rfl cC ?_;refine qU 1 rfl ?_;refine qK 2 rfl ?_;refine ab.nil ?_;by_cases e2:du rt=0;rotate_left
 · rw[if_pos e2,bne_iff_ne.2 (show ((du rt:Nat):Int)≠0 by omega)];refine AW.aL rfl ?_;refine qX 2 rfl ?_;exact qN rfl
 have h5:=(lQ e2).1;rw[if_neg (fun h=>h e2),bne_eq_false_iff_eq.2 (show ((du rt:Nat):Int)=0 by omega)];refine AW.aA rfl ?_;refine AW.skip (AW.seq ?_);refine qX 2 rfl ?_;rw[ae];refine qU 1 rfl ?_;refine ab.nil ?_;refine AW.block (AW.aG [2,14,15,16] (fun i:Nat=>[(2,.bx [.sl 1 (rt.map dC)]),(14,.d (.sl 1 (l.map dC))),(15,.d (dI l.length)),(16,.d (dI i))]) (fun i=>i≤l.length∧fE (fun i=>bL rt.length (l.getD i [])) (l.length-i) i=E) (fun i=>l.length-i) 0 rfl ⟨Nat.zero_le _,hE⟩ (fun i ⟨hi,hiE⟩=>?_));refine qX 1 rfl ?_;refine qI (AW.cond rfl (fun h=>?_) (fun h=>?_));rotate_left
 · have hii: ¬i<l.length:=by have:=au h;omega
   rw[iR hii] at hiE;subst hiE;refine AW.exit ?_;refine qX 1 rfl ?_;exact qN rfl
 have hii:i<l.length:=by have:=aq h;omega
 have hg:(l.map dC)[i]?=some (dC (l.getD i [])):=by simp[hii]
 have hmiss:=fun h0:bL rt.length (l.getD i [])=0=>(fU (f:=fun i=>bL rt.length (l.getD i [])) hii h0).symm.trans hiE;have hhit:=fun h0:bL rt.length (l.getD i [])≠0=>(iP (f:=fun i=>bL rt.length (l.getD i [])) hii h0).symm.trans hiE;have cn:=iY rt.length (l.getD i []) h5 (hlw i hii) hm (hl3 i hii);refine AW.skip (AW.seq (AW.block (AW.seq (AW.region ?_))));refine ab.idx tok (dC (l.getD i [])) rfl rfl rfl rfl (aj i) hg ?_;refine qU 2 rfl ?_;refine qK 3 rfl ?_;rw[ae];refine qU 1 rfl ?_;refine ab.call tok rfl rfl rfl rfl cn ?_;refine qU 1 rfl ?_;refine ab.nil ?_;generalize bL rt.length (l.getD i [])=v at hmiss hhit;refine qX 2 rfl ?_;refine ab.nil ?_;by_cases hv:v=0;rotate_left
 · have:=hhit hv;subst this;rw[bne_iff_ne.2 (show ((v:Nat):Int)≠0 by omega)];refine AW.aL rfl ?_;refine qX 2 rfl ?_;exact qN rfl
 rw[bne_eq_false_iff_eq.2 (show ((v:Nat):Int)=0 by omega)];refine AW.aA rfl ?_;refine AW.skip (qT 1 rfl ?_);rw[aF (x:=(i:Int)+1) (by omega) (by omega)];refine qU 1 rfl ?_;refine ab.nil ?_;exact⟨i+1,rfl,⟨hii,hmiss hv⟩,by omega⟩
end Lift
namespace Lift
open Go Go.Proofs
theorem Es(r s:RD){k:Nat}(hr:r.w k)(hs:s.w k)(hk:k≤17300000000000)(h0:s.val≠0):Pure Tryz.prog 161 [r.D,s.D] (.tu [(Qr (r.val / s.val)).D,dI 0]):=by
 refine qJ 29 Tryz.func161 rfl rfl rfl rfl (by kernel_rfl) (fun B F0 w0=>?_);have hl:=fe (hr.mono (Nat.le_max_left k 1)) (Nat.le_max_right k 1);have hm:=fe (hs.mono (Nat.le_max_left k 1)) (Nat.le_max_right k 1);have:=jQ r.val;have:=kt r.val;have:=jQ s.val;have:=kt s.val;obtain ⟨d1,d2,d3⟩:=Ft hl hm h0;rw[← pP r.val s.val h0];refine qX 4 rfl ?_;refine qK 1 rfl ?_;refine ab.call tok rfl rfl rfl rfl (dG r hr (by omega)) ?_;refine qU 7 rfl ?_;refine qK 1 rfl ?_;refine ab.call tok rfl rfl rfl rfl (dG s hs (by omega)) ?_;refine qU 7 rfl ?_;refine qI (AW.draw aQ 9 (by kernel_rfl) ?_);refine qP 2 rfl ?_;refine af.call tok rfl rfl rfl rfl rfl (gp r.val.num s.val.den (by omega) (by omega)) ?_;refine qP 2 rfl ?_;refine af.call tok rfl rfl rfl rfl rfl (gp r.val.den s.val.num (by omega) (by omega)) ?_;refine af.call tok rfl rfl rfl rfl rfl (zP (r.val.num*s.val.den) (r.val.den*s.val.num) (by omega) (by omega) d3) ?_;refine qP 2 rfl ?_;refine af.nil ?_;refine qU 2 rfl ?_;exact qN rfl
end Lift
namespace Lift
def tT(r:Nat):Nat→Nat→Nat
 | 0,s=>s
 | l+1,s=>tT r l s+tT r l (tT r l s+r)+1
theorem p9{r:Nat}: ∀{l s t:Nat},s≤t→tT r l s≤tT r l t
 | 0,_,_,h=>h
 | l+1,s,t,h=>by
   have h1:=p9 (r:=r) (l:=l) h;have h2:=p9 (r:=r) (l:=l) (Nat.add_le_add_right h1 r);show _+_+1≤_+_+1;omega
theorem sJ(r:Nat): ∀(l s:Nat),s≤tT r l s
 | 0,s=>ak s
 | l+1,s=>by
   have h1:=sJ r l s;show s≤tT r l s+_+1;omega
theorem H2(r l s:Nat):2*s+1≤tT r (l+1) s:=by
 have h1:=sJ r l s;have h2:=sJ r l (tT r l s+r);show _≤tT r l s+tT r l (tT r l s+r)+1;omega
theorem DV(r s:Nat):tT r 1 s=2*s+r+1:=by
 show s+(s+r)+1=_;omega
theorem jK{v:List NQ}{r:Nat}(hr:fq r v): ∀(l:Nat) {a b:Cf} {k m:Nat},(∀i,LQ (a i)≤k)→(∀i,LQ (b i)≤m)→ ∀i,LQ (mulC v l a b i)≤tT r l (k+m)
 | 0,a,b,k,m,ha,hb,i=>by
   show LQ (if i=0 then a 0*b 0 else 0)≤k+m;split
   · have:=B8 (a 0) (b 0);have:=ha 0;have:=hb 0;omega
   · have:=ru;have:=ha 0;have:=B7 (a 0);omega
 | l+1,a,b,k,m,ha,hb,i=>by
   have h1:=jK hr l ha hb;have h2:=jK hr l (a:=cy l a) (b:=cy l b) (fun i=>ha _) (fun i=>hb _);have h3:=jK hr l (a:=a) (b:=cy l b) ha (fun i=>hb _);have h4:=jK hr l (a:=cy l a) (b:=b) (fun i=>ha _) hb;have h5:=jK hr l (a:=mulC v l (cy l a) (cy l b)) (b:=cf (v.getD l [])) h2 (fun i=>hr l i);have h6:=sJ r l (tT r l (k+m)+r);show LQ (if i<2^l then _ else _)≤tT r l (k+m)+tT r l (tT r l (k+m)+r)+1;split
   · have:=yX (mulC v l a b i) (mulC v l (mulC v l (cy l a) (cy l b)) (cf (v.getD l [])) i);have:=h1 i;have:=h5 i;omega
   · have:=yX (mulC v l a (cy l b) (i-2^l)) (mulC v l (cy l a) b (i-2^l));have:=h3 (i-2^l);have:=h4 (i-2^l);omega
theorem Ce{a b:NQ}{k:Nat}(h:cf a=cf b)(hb:ay k b):ay k a:=fun i=>by
 have:cf a i=cf b i:=by rw[h]
 show LQ (cf a i)≤k;rw[this];exact hb i
theorem y9{v:List NQ}{r l k m:Nat}{a b:NQ}(hrt:da v)(hr:fq r v)(hl:l≤v.length)(ha:aC l a)(sa:ay k a)(hb:aC l b)(sb:ay m b):ay (tT r l (k+m)) (bd l v a b):=fun i=>by
 show LQ (cf (bd l v a b) i)≤_;rw[(eS l ha hb hrt hl).2];exact jK hr l sa sb i
theorem GO{v:List NQ}{r l j k:Nat}{a:NQ}(hrt:da v)(hr:fq r v)(hj:j≤l)(hl:l<v.length)(ha:a.length=2^(j+1))(sa:ay k a):ay (tT r (l+1) (k+k)) (eW l v a):=fun i=>by
 show LQ (cf (eW l v a) i)≤_;have h2:=kJ hj ha hrt hl
 have lowN:db j (b8 v j (cf a)):=fun i hi=>by
  unfold b8;rw[bh v j _ _ i hi,bh v j _ _ i hi];exact Rat.sub_self
 obtain ⟨e1,e2,e3⟩:=bD ha;rw[h2.2];have h3:=jK hr j (a:=cf a) (b:=cf a) sa sa i;have h4:=jK hr j (a:=cy j (cf a)) (b:=cy j (cf a)) (fun i=>sa _) (fun i=>sa _);have h5:=jK hr j (a:=mulC v j (cy j (cf a)) (cy j (cf a))) (b:=cf (v.getD j [])) h4 (fun i=>hr j i) i
 have h6:LQ (b8 v j (cf a) i)≤tT r (j+1) (k+k):=by
  have:=I0 (mulC v j (cf a) (cf a) i) (mulC v j (mulC v j (cy j (cf a)) (cy j (cf a))) (cf (v.getD j [])) i);show LQ (_-_)≤tT r j (k+k)+tT r j (tT r j (k+k)+r)+1;omega
 refine Nat.le_trans h6 ?_
 have up: ∀d s,tT r j s≤tT r (j+d) s:=fun d s=>by
  induction d with
  | zero=>exact ak _
  | succ d ih =>
    refine Nat.le_trans ih ?_;show tT r (j+d) s≤tT r (j+d) s+_+1;omega
 obtain ⟨d,rfl⟩: ∃d,l=j+d:=⟨l-j,by omega⟩;have u1:=up d (k+k);have u2:=up d (tT r j (k+k)+r);have u3:=p9 (r:=r) (l:=j+d) (Nat.add_le_add_right u1 r);show tT r j (k+k)+tT r j (tT r j (k+k)+r)+1≤tT r (j+d) (k+k)+tT r (j+d) (tT r (j+d) (k+k)+r)+1;omega
def iQ(r:Nat):Nat→Nat→Nat
 | 0,k=>k+1
 | l+1,k=>tT r (l+1) (k+iQ r l (tT r (l+1) (k+k)))
theorem yE{r:Nat}: ∀{l s t:Nat},s≤t→iQ r l s≤iQ r l t
 | 0,_,_,h=>Nat.succ_le_succ h
 | l+1,s,t,h=>by
   have h1:=yE (r:=r) (l:=l) (p9 (r:=r) (l:=l+1) (Nat.add_le_add h h));exact p9 (by omega)
theorem DW{k:Nat}{a b:NQ}(ha:ay k a)(hb:ay k b):ay k (a++b):=fun c=>by
 rw[sh];split
 · exact ha c
 · exact hb _
theorem CG(r:Nat): ∀(l k:Nat),k<iQ r l k
 | 0,k=>Nat.lt_succ_self k
 | l+1,k=>by
   have h1:=CG r l (tT r (l+1) (k+k));have h2:=sJ r (l+1) (k+iQ r l (tT r (l+1) (k+k)));show k<tT r (l+1) _;omega
theorem Hu{q:Rat}{k:Nat}(h0:q≠0)(h:LQ q≤k):LQ (1 / q)≤k+1:=by
 have h1:=I3 (r:=1) h0;have h2:=jD;omega
theorem w8(l:Nat)(v:List NQ)(b:NQ):bd l v [] b=[]:=by
 have key: ∀R:NQ→NQ→NQ,kp (jv R v) [] b=[]:=fun R=>by
  unfold kp jv;split
  · rw[if_pos (by simp[bF])]
  · rw[if_pos (by simp[bF])]
 cases l with
 | zero=>exact key _
 | succ l=>exact key _
theorem BH{v:List NQ}{r:Nat}(hrt:da v)(hr:fq r v): ∀(l:Nat) {k:Nat} {a:NQ},aC l a→l≤v.length→ay k a→ay (iQ r l k) (gZ l v a):=by
 have one: ∀{s:NQ} {l k:Nat},aC l s→wy s→s.length=1→ay k s→ay (k+1) [1 / s.getD 0 0]:=fun {s l k} hs ht h1 sa i=>by
  cases i with
  | zero=>exact Hu (ht.one h1) (sa 0)
  | succ i=>exact mD (Nat.le_add_left _ _)
 intro l
 induction l with
 | zero =>
   intro k a ha hl sa;have hs:=a5 ha sa;have ht:=jc ha;show ay (k+1) (kS _ _ _ _ (ar a));generalize ar a=s at *;unfold kS;split
   · rename_i h1;exact one hs.1 ht h1 hs.2
   · split
     · exact bn (Nat.le_add_left _ _)
     · exact bn (Nat.le_add_left _ _)
 | succ l ih =>
   intro k a ha hl sa;obtain ⟨hs,sa⟩:=a5 ha sa;have ht:=jc ha;show ay (iQ r (l+1) k) (kS (gZ l v) (ed l v) (eW l v) (bd (l+1) v) (ar a));generalize ar a=s at *;have hk:=CG r (l+1) k;unfold kS;by_cases h1:s.length=1
   · rw[if_pos h1];exact(one hs ht h1 sa).mono hk
   rw[if_neg h1];by_cases h0:s.length=0
   · rw[List.length_eq_zero_iff.1 h0]
     have en:eW l v []=[]:=by
      show aW (bd l v [] []) (aM (bd l v (bd l v [] []) (v.getD ((0:Nat).log2-1) [])))=[];rw[w8,w8];rfl
     have es:ed l v []=0:=by cases l<;>rfl
     rw[en,if_pos es];have h3:=ih (bm l) (by omega) (bn (k:=1) (ak _));refine h3.mono ?_;have hk1:=sa.pos;have h5:iQ r l 1≤iQ r l (tT r (l+1) (k+k)):=yE (by have:=sJ r (l+1) (k+k);omega);have h6:=sJ r (l+1) (k+iQ r l (tT r (l+1) (k+k)));show iQ r l 1≤tT r (l+1) _;omega
   obtain ⟨j,hj,hsl⟩: ∃j,j≤l∧s.length=2^(j+1):=by
    rcases hs with e | ⟨i,hi,e⟩
    · exact absurd e h0
    · rcases i with _ | j
      · exact absurd e h1
      · exact⟨j,by omega,e⟩
   obtain ⟨e1,e2,e3⟩:=bD hsl;have hx:aC l (s.take (s.length / 2)):= .inr ⟨j,hj,e1⟩;have hn:=uf hj hsl hrt (show l<v.length by omega);have sn:=GO hrt hr hj (show l<v.length by omega) hsl sa;split
   · have h3:=ih (hx.plus hx) (by omega) ((sa.take _).plus (sa.take _));refine h3.mono ?_;have h4:=H2 r l (k+k);have h5:iQ r l (k+k+1)≤iQ r l (tT r (l+1) (k+k)):=yE (by omega);have h6:=sJ r (l+1) (k+iQ r l (tT r (l+1) (k+k)));show iQ r l (k+k+1)≤tT r (l+1) _;omega
   · have h3:=ih hn (by omega) sn
     have hjl:aC (l+1) (dL (s.take (s.length / 2)) (aM (s.drop (s.length / 2))) (s.length / 2)):= .inr ⟨j+1,by omega,by
      rw[et]
      omega⟩
     exact y9 hrt hr hl hjl (((sa.take _).join (sa.drop _).minus _)) ((fX l hn hrt (by omega)).mono (Nat.le_succ l)) h3
end Lift
namespace Lift
open Go Go.Proofs
abbrev RQ(q:Rat):D:=(Qr q).D
set_option maxHeartbeats 3200000 in
theorem xn{l:Nat}{v:List NQ}{a Z:NQ}(ha:aC l a)(hl5:l≤5)(sa:mH a)(h0:(ar a).length≠0)
  (h1:(ar a).length=1→Z=[1 / (ar a).getD 0 0])
  (h2: ∀l' j,l=l'+1→j≤l'→(ar a).length=2^(j+1)→ ∃(N:NQ) (S:Int),Pure Tryz.prog 138 [bt v,ah (ar a),dI (ar a).length] (ah N)∧Pure Tryz.prog 100 [bt v,ah N] (dI S) ∧
   (S=0→Pure Tryz.prog 133 [bt v,ah (aW ((ar a).take ((ar a).length / 2)) ((ar a).take ((ar a).length / 2)))] (ah Z)) ∧
   (S≠0→ ∃I,Pure Tryz.prog 133 [bt v,ah N] (ah I)∧Pure Tryz.prog 122 [bt v,ah ((ar a).take ((ar a).length / 2)++aM ((ar a).drop ((ar a).length / 2))),ah I] (ah Z))):
  Pure Tryz.prog 133 [bt v,ah a] (ah Z):=by
 refine qJ 59 Tryz.func133 rfl rfl rfl rfl (by kernel_rfl) (fun B F0 w0=>?_);have cs:=c9 a ha hl5;have hone:=n6 ha;obtain ⟨hs,ss⟩:=a5 ha sa;generalize ar a=b at *;have hlb:=hs.len (by omega);refine qX 2 rfl ?_;refine qK 1 rfl ?_;refine ab.call tok rfl rfl rfl rfl cs ?_;refine qU 1 rfl ?_;refine qK 1 rfl ?_;refine qU 1 rfl ?_;rw[ae];refine qU 1 rfl ?_;refine qI (qX 2 rfl ?_);refine ab.nil ?_;by_cases e1:b.length=1
 · have g:=mu (r:=b) (i:=0) (by omega);have cq:=Es (Qr ((1:Int):Rat)) (Qr (b.getD 0 0)) (jB _ (by have:=jD;rw[show ((1:Int):Rat)=1 from rfl];omega)) (jB _ (ss 0)) (by decide) (by rw[cG];exact hone e1);rw[cG,cG,show ((1:Int):Rat)=1 from rfl] at cq;have hZ:=h1 e1;subst hZ;rw[beq_iff_eq.2 (show (b.length:Int)=1 by omega)];refine AW.aL rfl ?_;refine AW.seq (AW.mO tok aQ [(7,true),(1,false),(1,true)] 9 [6] (by kernel_rfl) ⟨rfl,?_⟩);refine af.call tok rfl rfl rfl rfl rfl (lD 1 (by decide) (by decide)) ?_;refine qP 1 rfl ?_;refine af.idx tok (Qr (b.getD 0 0)).D rfl rfl rfl rfl rfl (Int.le_refl _) g ?_;refine qP 1 rfl ?_;refine af.call tok rfl rfl rfl rfl rfl cq ?_;refine qP 2 rfl ?_;refine af.nil ⟨rfl,?_⟩;refine qP 1 rfl ?_;refine af.nil ⟨rfl,?_⟩;refine qP 1 rfl ?_;refine af.nil ⟨_,oB.cons (.bx rfl) (oB.nil),?_⟩;refine qU 1 rfl ?_;refine qK 1 rfl ?_;refine ab.fj tok rfl rfl rfl rfl rfl ?_;refine qU 1 rfl ?_;exact qN rfl
 rw[beq_eq_false_iff_ne.2 (show (b.length:Int)≠1 by omega)]
 obtain ⟨i,hi,hla2⟩: ∃i,i≤l∧b.length=2^i:=by
  rcases hs with e | e
  · exact absurd e h0
  · exact e
 have xz:i≠0:=fun e=>e1 (by rw[hla2,e]);obtain ⟨j,rfl⟩: ∃j,i=j+1:=⟨i-1,by omega⟩;obtain ⟨l',rfl⟩: ∃l',l=l'+1:=⟨l-1,by omega⟩;obtain ⟨N,S,cN,cS,hz,hi2⟩:=h2 l' j rfl (by omega) hla2;obtain ⟨g1,g2,g3⟩:=bD hla2;obtain ⟨n,hn⟩: ∃n,n=b.length / 2:=⟨_,rfl⟩;rw[← hn] at g1 g2 g3 hz hi2;refine AW.aA rfl ?_;refine AW.skip (AW.seq ?_);refine AW.draw aQ 9 (by kernel_rfl) ?_;refine qP 2 rfl ?_;refine af.div tok rfl rfl rfl rfl rfl (by decide) ?_;rw[gM _ (by omega),← hn];refine af.fZ tok (a:=b) (b.take n) rfl rfl rfl rfl rfl trivial (aj n) (Nat.zero_le _) (show n≤b.length by omega) rfl ?_;refine qP 2 rfl ?_;refine af.div tok rfl rfl rfl rfl rfl (by decide) ?_;rw[gM _ (by omega),← hn];refine af.fZ tok (a:=b) (b.drop n) rfl rfl rfl rfl rfl (aj n) trivial (show n≤b.length by omega) (ak _) (by show (b.take b.length).drop n=_;rw[List.take_length]) ?_;refine qP 1 rfl ?_;refine af.nil ?_;refine qU 1 rfl ?_;refine qK 3 rfl ?_;refine ab.call tok rfl rfl rfl rfl cN ?_;refine qU 1 rfl ?_;refine qI (qX 2 rfl ?_);refine ab.call tok rfl rfl rfl rfl cS ?_;refine qU 1 rfl ?_;refine ab.nil ?_;by_cases e2:S=0
 · have ci:=hz e2;have cp:=fy (b.take n) (b.take n) (ss.take n) (ss.take n) (by decide) (by rw[g1];omega) (by rw[g1];omega);rw[beq_iff_eq.2 e2];refine AW.aL rfl ?_;refine AW.seq (AW.draw aQ 5 (by kernel_rfl) ?_);refine qP 3 rfl ?_;refine af.call tok rfl rfl rfl rfl rfl cp ?_;refine af.call tok rfl rfl rfl rfl rfl ci ?_;refine af.nil ?_;refine qU 1 rfl ?_;exact qN rfl
 obtain ⟨I,ci,ct⟩:=hi2 e2;have cm:=jf (b.drop n) (ss.drop n) (by decide) (by rw[g2];omega);rw[beq_eq_false_iff_ne.2 e2];refine AW.aA rfl ?_;refine AW.skip ?_;have lx:(b.take n).length≤1024:=by rw[aT];omega
 have ly:(b.drop n).length≤1024:=by rw[List.length_drop];omega
 generalize b.take n=x at *;generalize b.drop n=y at *;refine AZ.aw ?_;refine AZ.seq (AZ.to [2,8,9,10] [(2,.bx [.sl 1 (v.map ah)]),(8,.d (ah x)),(9,.d (ah y)),(10,.d (ah N))] rfl ?_);refine AZ.any aQ (ZH.any (β:=[(2,[.sl 1 (v.map ah)])]) ?_);refine ZH.mv 2 rfl rfl (by kernel_rfl) (by kernel_rfl) (by kernel_rfl) rfl (fun _ _ _ h=>h) (fun _=>rfl) ⟨rfl,trivial⟩ (fun B1 F1 w1=>?_);refine qU 1 rfl ?_;refine ab.nil ⟨rfl,?_⟩;refine ZH.mv 4 rfl rfl (by kernel_rfl) (by kernel_rfl) (by kernel_rfl) rfl (fun _ _ _ h=>h) (fun _=>rfl) ⟨rfl,trivial⟩ (fun B1 F1 w1=>?_);refine qU 1 rfl ?_;refine ab.nil ⟨rfl,?_⟩;refine ZH.mv 8 rfl rfl (by kernel_rfl) (by kernel_rfl) (by kernel_rfl) rfl (fun _ _ _ h=>h) (fun _=>rfl) ⟨rfl,trivial⟩ (fun B1 F1 w1=>?_);refine qU 1 rfl ?_;refine ab.nil ⟨rfl,?_⟩;refine ZH.meet 0 (qB 12 4095) (fun V=>[]) (fun V=>[(2,.bx [.sl 1 (v.map ah)]),(50,.d (ah x)),(52,.d (ah y)),(56,.d (ah N)),(48,.d (bt v)),(55,.d (bt v)),(4,.d (ah Z))]) (fun V=>?_) (fun N7_1_1=>?_)
 · refine ZH.done (by kernel_rfl) ⟨rfl,trivial⟩ ?_;refine AZ.to [4] [(4,.d (ah Z))] rfl ?_;exact AZ.ret rfl
 refine ZH.meet 1 (qB 12 2047) (fun V=>[]) (fun V=>[(2,.bx [.sl 1 (v.map ah)]),(50,.d (ah x)),(52,.d (ah y)),(56,.d (ah N)),(48,.d (bt v)),(55,.d (bt v)),(58,.d (ah Z))]) (fun V=>?_) (fun N6_1_1=>?_)
 · refine ZH.all 11 (by kernel_rfl) rfl rfl (fun _=>rfl) ⟨rfl,trivial⟩ ?_;refine aD (fun B1 F1 w1=>?_);refine qU 1 rfl ?_;refine ab.nil ⟨rfl,?_⟩;exact qL (N7_1_1 V) (by kernel_rfl) rfl ⟨rfl,trivial⟩
 refine ZH.meet 2 (qB 12 1023) (fun V=>[]) (fun V=>[(2,.bx [.sl 1 (v.map ah)]),(50,.d (ah x)),(52,.d (ah y)),(56,.d (ah N)),(54,.ow 111 ((x++aM y).map RQ)),(57,.d (ah I)),(48,.d (bt v)),(55,.d (bt v))]) (fun V=>?_) (fun N5_1_1=>?_)
 · refine ZH.all 10 (by kernel_rfl) rfl rfl (fun _=>rfl) ⟨rfl,trivial⟩ ?_;refine aD (fun B1 F1 w1=>?_);refine ab.fT tok 54 rfl rfl ?_;refine ab.call tok rfl rfl rfl rfl ct ?_;refine ab.nil ⟨rfl,?_⟩;exact qL (N6_1_1 V) (by kernel_rfl) rfl ⟨rfl,trivial⟩
 refine ZH.meet 3 (qB 12 511) (fun V=>[]) (fun V=>[(2,.bx [.sl 1 (v.map ah)]),(50,.d (ah x)),(52,.d (ah y)),(56,.d (ah N)),(54,.ow 111 ((x++aM y).map RQ)),(48,.d (bt v)),(55,.d (bt v))]) (fun V=>?_) (fun N4_1_1=>?_)
 · refine ZH.all 9 (by kernel_rfl) rfl rfl (fun _=>rfl) ⟨rfl,trivial⟩ ?_;refine aD (fun B1 F1 w1=>?_);refine ab.call tok rfl rfl rfl rfl ci ?_;refine ab.nil ⟨rfl,?_⟩;exact qL (N5_1_1 V) (by kernel_rfl) rfl ⟨rfl,trivial⟩
 refine ZH.meet 3 (qB 12 1022) (fun V=>[]) (fun V=>[(2,.bx [.sl 1 (v.map ah)]),(50,.d (ah x)),(52,.d (ah y)),(56,.d (ah N)),(54,.ow 111 ((x++aM y).map RQ)),(57,.d (ah I)),(55,.d (bt v))]) (fun V=>?_) (fun N5_0_1=>?_)
 · refine ZH.all 0 (by kernel_rfl) rfl rfl (fun _=>rfl) ⟨rfl,trivial⟩ ?_;refine aD (fun B1 F1 w1=>?_);refine qU 1 rfl ?_;refine ab.nil ⟨rfl,?_⟩;exact qL (N5_1_1 V) (by kernel_rfl) rfl ⟨rfl,trivial⟩
 refine ZH.meet 4 (qB 12 447) (fun V=>[]) (fun V=>[(2,.bx [.sl 1 (v.map ah)]),(50,.d (ah x)),(52,.d (ah y)),(56,.d (ah N)),(51,.ow 111 (x.map RQ)),(53,.d (ah (aM y))),(48,.d (bt v)),(55,.d (bt v))]) (fun V=>?_) (fun N3_1_1=>?_)
 · refine ZH.all 6 (by kernel_rfl) rfl rfl (fun _=>rfl) ⟨rfl,trivial⟩ ?_;refine aD (fun B1 F1 w1=>?_);refine ab.gv tok rfl rfl rfl rfl rfl rfl (by rw[ae,ae,bB];show (_+_)*56≤_;omega) (by rw[ae,ae,bB];omega) ?_;rw[← List.map_append];refine ab.nil ⟨rfl,?_⟩;exact qL (N4_1_1 V) (by kernel_rfl) rfl ⟨rfl,trivial⟩
 refine ZH.meet 4 (qB 12 510) (fun V=>[]) (fun V=>[(2,.bx [.sl 1 (v.map ah)]),(50,.d (ah x)),(52,.d (ah y)),(56,.d (ah N)),(54,.ow 111 ((x++aM y).map RQ)),(55,.d (bt v))]) (fun V=>?_) (fun N4_0_1=>?_)
 · refine ZH.two 0 9 (by kernel_rfl) rfl rfl rfl rfl (fun _=>rfl) (fun _=>rfl) ⟨rfl,trivial⟩ ?_ ?_
   · refine aD (fun B1 F1 w1=>?_);refine qU 1 rfl ?_;refine ab.nil ⟨rfl,?_⟩;exact qL (N4_1_1 V) (by kernel_rfl) rfl ⟨rfl,trivial⟩
   · refine aD (fun B1 F1 w1=>?_);refine ab.call tok rfl rfl rfl rfl ci ?_;refine ab.nil ⟨rfl,?_⟩;exact qL (N5_0_1 V) (by kernel_rfl) rfl ⟨rfl,trivial⟩
 refine ZH.meet 4 (qB 12 383) (fun V=>[]) (fun V=>[(2,.bx [.sl 1 (v.map ah)]),(50,.d (ah x)),(52,.d (ah y)),(56,.d (ah N)),(54,.ow 111 ((x++aM y).map RQ)),(48,.d (bt v))]) (fun V=>?_) (fun N4_1_0=>?_)
 · refine ZH.all 7 (by kernel_rfl) rfl rfl (fun _=>rfl) ⟨rfl,trivial⟩ ?_;refine aD (fun B1 F1 w1=>?_);refine qU 1 rfl ?_;refine ab.nil ⟨rfl,?_⟩;exact qL (N4_1_1 V) (by kernel_rfl) rfl ⟨rfl,trivial⟩
 refine ZH.meet 5 (qB 12 415) (fun V=>[]) (fun V=>[(2,.bx [.sl 1 (v.map ah)]),(50,.d (ah x)),(52,.d (ah y)),(56,.d (ah N)),(51,.ow 111 (x.map RQ)),(48,.d (bt v)),(55,.d (bt v))]) (fun V=>?_) (fun N2_1_1=>?_)
 · refine ZH.all 5 (by kernel_rfl) rfl rfl (fun _=>rfl) ⟨rfl,trivial⟩ ?_;refine aD (fun B1 F1 w1=>?_);refine ab.call tok rfl rfl rfl rfl cm ?_;refine ab.nil ⟨rfl,?_⟩;exact qL (N3_1_1 V) (by kernel_rfl) rfl ⟨rfl,trivial⟩
 refine ZH.meet 5 (qB 12 446) (fun V=>[]) (fun V=>[(2,.bx [.sl 1 (v.map ah)]),(50,.d (ah x)),(52,.d (ah y)),(56,.d (ah N)),(51,.ow 111 (x.map RQ)),(53,.d (ah (aM y))),(55,.d (bt v))]) (fun V=>?_) (fun N3_0_1=>?_)
 · refine ZH.two 0 6 (by kernel_rfl) rfl rfl rfl rfl (fun _=>rfl) (fun _=>rfl) ⟨rfl,trivial⟩ ?_ ?_
   · refine aD (fun B1 F1 w1=>?_);refine qU 1 rfl ?_;refine ab.nil ⟨rfl,?_⟩;exact qL (N3_1_1 V) (by kernel_rfl) rfl ⟨rfl,trivial⟩
   · refine aD (fun B1 F1 w1=>?_);refine ab.gv tok rfl rfl rfl rfl rfl rfl (by rw[ae,ae,bB];show (_+_)*56≤_;omega) (by rw[ae,ae,bB];omega) ?_;rw[← List.map_append];refine ab.nil ⟨rfl,?_⟩;exact qL (N4_0_1 V) (by kernel_rfl) rfl ⟨rfl,trivial⟩
 refine ZH.meet 5 (qB 12 319) (fun V=>[]) (fun V=>[(2,.bx [.sl 1 (v.map ah)]),(50,.d (ah x)),(52,.d (ah y)),(56,.d (ah N)),(51,.ow 111 (x.map RQ)),(53,.d (ah (aM y))),(48,.d (bt v))]) (fun V=>?_) (fun N3_1_0=>?_)
 · refine ZH.two 6 7 (by kernel_rfl) rfl rfl rfl rfl (fun _=>rfl) (fun _=>rfl) ⟨rfl,trivial⟩ ?_ ?_
   · refine aD (fun B1 F1 w1=>?_);refine ab.gv tok rfl rfl rfl rfl rfl rfl (by rw[ae,ae,bB];show (_+_)*56≤_;omega) (by rw[ae,ae,bB];omega) ?_;rw[← List.map_append];refine ab.nil ⟨rfl,?_⟩;exact qL (N4_1_0 V) (by kernel_rfl) rfl ⟨rfl,trivial⟩
   · refine aD (fun B1 F1 w1=>?_);refine qU 1 rfl ?_;refine ab.nil ⟨rfl,?_⟩;exact qL (N3_1_1 V) (by kernel_rfl) rfl ⟨rfl,trivial⟩
 refine ZH.meet 5 (qB 12 382) (fun V=>[]) (fun V=>[(2,.bx [.sl 1 (v.map ah)]),(50,.d (ah x)),(52,.d (ah y)),(56,.d (ah N)),(54,.ow 111 ((x++aM y).map RQ))]) (fun V=>?_) (fun N4_0_0=>?_)
 · refine ZH.two 0 7 (by kernel_rfl) rfl rfl rfl rfl (fun _=>rfl) (fun _=>rfl) ⟨rfl,trivial⟩ ?_ ?_
   · refine aD (fun B1 F1 w1=>?_);refine qU 1 rfl ?_;refine ab.nil ⟨rfl,?_⟩;exact qL (N4_1_0 V) (by kernel_rfl) rfl ⟨rfl,trivial⟩
   · refine aD (fun B1 F1 w1=>?_);refine qU 1 rfl ?_;refine ab.nil ⟨rfl,?_⟩;exact qL (N4_0_1 V) (by kernel_rfl) rfl ⟨rfl,trivial⟩
 refine ZH.meet 6 (qB 12 407) (fun V=>[]) (fun V=>[(2,.bx [.sl 1 (v.map ah)]),(50,.d (ah x)),(52,.d (ah y)),(56,.d (ah N)),(49,.e0 111),(48,.d (bt v)),(55,.d (bt v))]) (fun V=>?_) (fun N1_1_1=>?_)
 · refine ZH.all 3 (by kernel_rfl) rfl rfl (fun _=>rfl) ⟨rfl,trivial⟩ ?_;refine aD (fun B1 F1 w1=>?_);refine ab.tS tok rfl rfl rfl rfl (by show (x.map RQ).length*56≤_;rw[ae];omega) ?_;refine ab.nil ⟨rfl,?_⟩;exact qL (N2_1_1 V) (by kernel_rfl) rfl ⟨rfl,trivial⟩
 refine ZH.meet 6 (qB 12 414) (fun V=>[]) (fun V=>[(2,.bx [.sl 1 (v.map ah)]),(50,.d (ah x)),(52,.d (ah y)),(56,.d (ah N)),(51,.ow 111 (x.map RQ)),(55,.d (bt v))]) (fun V=>?_) (fun N2_0_1=>?_)
 · refine ZH.two 0 5 (by kernel_rfl) rfl rfl rfl rfl (fun _=>rfl) (fun _=>rfl) ⟨rfl,trivial⟩ ?_ ?_
   · refine aD (fun B1 F1 w1=>?_);refine qU 1 rfl ?_;refine ab.nil ⟨rfl,?_⟩;exact qL (N2_1_1 V) (by kernel_rfl) rfl ⟨rfl,trivial⟩
   · refine aD (fun B1 F1 w1=>?_);refine ab.call tok rfl rfl rfl rfl cm ?_;refine ab.nil ⟨rfl,?_⟩;exact qL (N3_0_1 V) (by kernel_rfl) rfl ⟨rfl,trivial⟩
 refine ZH.meet 6 (qB 12 287) (fun V=>[]) (fun V=>[(2,.bx [.sl 1 (v.map ah)]),(50,.d (ah x)),(52,.d (ah y)),(56,.d (ah N)),(51,.ow 111 (x.map RQ)),(48,.d (bt v))]) (fun V=>?_) (fun N2_1_0=>?_)
 · refine ZH.two 5 7 (by kernel_rfl) rfl rfl rfl rfl (fun _=>rfl) (fun _=>rfl) ⟨rfl,trivial⟩ ?_ ?_
   · refine aD (fun B1 F1 w1=>?_);refine ab.call tok rfl rfl rfl rfl cm ?_;refine ab.nil ⟨rfl,?_⟩;exact qL (N3_1_0 V) (by kernel_rfl) rfl ⟨rfl,trivial⟩
   · refine aD (fun B1 F1 w1=>?_);refine qU 1 rfl ?_;refine ab.nil ⟨rfl,?_⟩;exact qL (N2_1_1 V) (by kernel_rfl) rfl ⟨rfl,trivial⟩
 refine ZH.meet 6 (qB 12 318) (fun V=>[]) (fun V=>[(2,.bx [.sl 1 (v.map ah)]),(50,.d (ah x)),(52,.d (ah y)),(56,.d (ah N)),(51,.ow 111 (x.map RQ)),(53,.d (ah (aM y)))]) (fun V=>?_) (fun N3_0_0=>?_)
 · refine ZH.three 0 6 7 (by kernel_rfl) rfl rfl rfl rfl rfl rfl (fun _=>rfl) (fun _=>rfl) (fun _=>rfl) ⟨rfl,trivial⟩ ?_ ?_ ?_
   · refine aD (fun B1 F1 w1=>?_);refine qU 1 rfl ?_;refine ab.nil ⟨rfl,?_⟩;exact qL (N3_1_0 V) (by kernel_rfl) rfl ⟨rfl,trivial⟩
   · refine aD (fun B1 F1 w1=>?_);refine ab.gv tok rfl rfl rfl rfl rfl rfl (by rw[ae,ae,bB];show (_+_)*56≤_;omega) (by rw[ae,ae,bB];omega) ?_;rw[← List.map_append];refine ab.nil ⟨rfl,?_⟩;exact qL (N4_0_0 V) (by kernel_rfl) rfl ⟨rfl,trivial⟩
   · refine aD (fun B1 F1 w1=>?_);refine qU 1 rfl ?_;refine ab.nil ⟨rfl,?_⟩;exact qL (N3_0_1 V) (by kernel_rfl) rfl ⟨rfl,trivial⟩
 refine ZH.meet 7 (qB 12 405) (fun V=>[]) (fun V=>[(2,.bx [.sl 1 (v.map ah)]),(50,.d (ah x)),(52,.d (ah y)),(56,.d (ah N)),(48,.d (bt v)),(55,.d (bt v))]) (fun V=>?_) (fun N0_1_1=>?_)
 · refine ZH.all 1 (by kernel_rfl) rfl rfl (fun _=>rfl) ⟨rfl,trivial⟩ ?_;refine aD (fun B1 F1 w1=>?_);refine qU 1 rfl ?_;refine ab.nil ⟨rfl,?_⟩;exact qL (N1_1_1 V) (by kernel_rfl) rfl ⟨rfl,trivial⟩
 refine ZH.meet 7 (qB 12 406) (fun V=>[]) (fun V=>[(2,.bx [.sl 1 (v.map ah)]),(50,.d (ah x)),(52,.d (ah y)),(56,.d (ah N)),(49,.e0 111),(55,.d (bt v))]) (fun V=>?_) (fun N1_0_1=>?_)
 · refine ZH.two 0 3 (by kernel_rfl) rfl rfl rfl rfl (fun _=>rfl) (fun _=>rfl) ⟨rfl,trivial⟩ ?_ ?_
   · refine aD (fun B1 F1 w1=>?_);refine qU 1 rfl ?_;refine ab.nil ⟨rfl,?_⟩;exact qL (N1_1_1 V) (by kernel_rfl) rfl ⟨rfl,trivial⟩
   · refine aD (fun B1 F1 w1=>?_);refine ab.tS tok rfl rfl rfl rfl (by show (x.map RQ).length*56≤_;rw[ae];omega) ?_;refine ab.nil ⟨rfl,?_⟩;exact qL (N2_0_1 V) (by kernel_rfl) rfl ⟨rfl,trivial⟩
 refine ZH.meet 7 (qB 12 279) (fun V=>[]) (fun V=>[(2,.bx [.sl 1 (v.map ah)]),(50,.d (ah x)),(52,.d (ah y)),(56,.d (ah N)),(49,.e0 111),(48,.d (bt v))]) (fun V=>?_) (fun N1_1_0=>?_)
 · refine ZH.two 3 7 (by kernel_rfl) rfl rfl rfl rfl (fun _=>rfl) (fun _=>rfl) ⟨rfl,trivial⟩ ?_ ?_
   · refine aD (fun B1 F1 w1=>?_);refine ab.tS tok rfl rfl rfl rfl (by show (x.map RQ).length*56≤_;rw[ae];omega) ?_;refine ab.nil ⟨rfl,?_⟩;exact qL (N2_1_0 V) (by kernel_rfl) rfl ⟨rfl,trivial⟩
   · refine aD (fun B1 F1 w1=>?_);refine qU 1 rfl ?_;refine ab.nil ⟨rfl,?_⟩;exact qL (N1_1_1 V) (by kernel_rfl) rfl ⟨rfl,trivial⟩
 refine ZH.meet 7 (qB 12 286) (fun V=>[]) (fun V=>[(2,.bx [.sl 1 (v.map ah)]),(50,.d (ah x)),(52,.d (ah y)),(56,.d (ah N)),(51,.ow 111 (x.map RQ))]) (fun V=>?_) (fun N2_0_0=>?_)
 · refine ZH.three 0 5 7 (by kernel_rfl) rfl rfl rfl rfl rfl rfl (fun _=>rfl) (fun _=>rfl) (fun _=>rfl) ⟨rfl,trivial⟩ ?_ ?_ ?_
   · refine aD (fun B1 F1 w1=>?_);refine qU 1 rfl ?_;refine ab.nil ⟨rfl,?_⟩;exact qL (N2_1_0 V) (by kernel_rfl) rfl ⟨rfl,trivial⟩
   · refine aD (fun B1 F1 w1=>?_);refine ab.call tok rfl rfl rfl rfl cm ?_;refine ab.nil ⟨rfl,?_⟩;exact qL (N3_0_0 V) (by kernel_rfl) rfl ⟨rfl,trivial⟩
   · refine aD (fun B1 F1 w1=>?_);refine qU 1 rfl ?_;refine ab.nil ⟨rfl,?_⟩;exact qL (N2_0_1 V) (by kernel_rfl) rfl ⟨rfl,trivial⟩
 refine ZH.meet 8 (qB 12 404) (fun V=>[]) (fun V=>[(2,.bx [.sl 1 (v.map ah)]),(50,.d (ah x)),(52,.d (ah y)),(56,.d (ah N)),(55,.d (bt v))]) (fun V=>?_) (fun N0_0_1=>?_)
 · refine ZH.two 0 1 (by kernel_rfl) rfl rfl rfl rfl (fun _=>rfl) (fun _=>rfl) ⟨rfl,trivial⟩ ?_ ?_
   · refine aD (fun B1 F1 w1=>?_);refine qU 1 rfl ?_;refine ab.nil ⟨rfl,?_⟩;exact qL (N0_1_1 V) (by kernel_rfl) rfl ⟨rfl,trivial⟩
   · refine aD (fun B1 F1 w1=>?_);refine qU 1 rfl ?_;refine ab.nil ⟨rfl,?_⟩;exact qL (N1_0_1 V) (by kernel_rfl) rfl ⟨rfl,trivial⟩
 refine ZH.meet 8 (qB 12 277) (fun V=>[]) (fun V=>[(2,.bx [.sl 1 (v.map ah)]),(50,.d (ah x)),(52,.d (ah y)),(56,.d (ah N)),(48,.d (bt v))]) (fun V=>?_) (fun N0_1_0=>?_)
 · refine ZH.two 1 7 (by kernel_rfl) rfl rfl rfl rfl (fun _=>rfl) (fun _=>rfl) ⟨rfl,trivial⟩ ?_ ?_
   · refine aD (fun B1 F1 w1=>?_);refine qU 1 rfl ?_;refine ab.nil ⟨rfl,?_⟩;exact qL (N1_1_0 V) (by kernel_rfl) rfl ⟨rfl,trivial⟩
   · refine aD (fun B1 F1 w1=>?_);refine qU 1 rfl ?_;refine ab.nil ⟨rfl,?_⟩;exact qL (N0_1_1 V) (by kernel_rfl) rfl ⟨rfl,trivial⟩
 refine ZH.meet 8 (qB 12 278) (fun V=>[]) (fun V=>[(2,.bx [.sl 1 (v.map ah)]),(50,.d (ah x)),(52,.d (ah y)),(56,.d (ah N)),(49,.e0 111)]) (fun V=>?_) (fun N1_0_0=>?_)
 · refine ZH.three 0 3 7 (by kernel_rfl) rfl rfl rfl rfl rfl rfl (fun _=>rfl) (fun _=>rfl) (fun _=>rfl) ⟨rfl,trivial⟩ ?_ ?_ ?_
   · refine aD (fun B1 F1 w1=>?_);refine qU 1 rfl ?_;refine ab.nil ⟨rfl,?_⟩;exact qL (N1_1_0 V) (by kernel_rfl) rfl ⟨rfl,trivial⟩
   · refine aD (fun B1 F1 w1=>?_);refine ab.tS tok rfl rfl rfl rfl (by show (x.map RQ).length*56≤_;rw[ae];omega) ?_;refine ab.nil ⟨rfl,?_⟩;exact qL (N2_0_0 V) (by kernel_rfl) rfl ⟨rfl,trivial⟩
   · refine aD (fun B1 F1 w1=>?_);refine qU 1 rfl ?_;refine ab.nil ⟨rfl,?_⟩;exact qL (N1_0_1 V) (by kernel_rfl) rfl ⟨rfl,trivial⟩
 refine ZH.meet 9 (qB 12 276) (fun V=>[]) (fun V=>[(2,.bx [.sl 1 (v.map ah)]),(50,.d (ah x)),(52,.d (ah y)),(56,.d (ah N))]) (fun V=>?_) (fun N0_0_0=>?_)
 · refine ZH.three 0 1 7 (by kernel_rfl) rfl rfl rfl rfl rfl rfl (fun _=>rfl) (fun _=>rfl) (fun _=>rfl) ⟨rfl,trivial⟩ ?_ ?_ ?_
   · refine aD (fun B1 F1 w1=>?_);refine qU 1 rfl ?_;refine ab.nil ⟨rfl,?_⟩;exact qL (N0_1_0 V) (by kernel_rfl) rfl ⟨rfl,trivial⟩
   · refine aD (fun B1 F1 w1=>?_);refine qU 1 rfl ?_;refine ab.nil ⟨rfl,?_⟩;exact qL (N1_0_0 V) (by kernel_rfl) rfl ⟨rfl,trivial⟩
   · refine aD (fun B1 F1 w1=>?_);refine qU 1 rfl ?_;refine ab.nil ⟨rfl,?_⟩;exact qL (N0_0_1 V) (by kernel_rfl) rfl ⟨rfl,trivial⟩
 exact qL (N0_0_0 gQ) (by kernel_rfl) rfl ⟨rfl,trivial⟩
end Lift
namespace Lift
open Go Go.Proofs
theorem v9{v:List NQ}(hrt:da v)(hp:o8 v){l j:Nat}{s:NQ}(hj:j≤l)(hl:l<v.length)(hsl:s.length=2^(j+1))(h:bg v (l+1) (cf s)≠0)(hN:bg v j (b8 v j (cf s))=0):bg v l (cf (aW (s.take (s.length / 2)) (s.take (s.length / 2))))≠0:=by
 obtain ⟨e1,e2,e3⟩:=bD hsl;have ex:ku j (cf (s.take (s.length / 2))) (cf s):=fg _ e3;have ls:db (j+1) (cf s):=a7 (by omega);have lx:db j (cf (s.take (s.length / 2))):=a7 (by omega);obtain ⟨Tj⟩:=I4 hp j (by omega);have hdj:=hp j (by omega)
 let T:=H0 Tj hdj
 rw[b6 v ls (by omega)] at h
 have hT:Tj.R.sgn (OR.nr (Tj.of (cf (v.getD j []))) (T.of (cf s)))=bg v j (b8 v j (cf s)):=by
  rw[← Tj.sgn]
  congr 1
  show Tj.of (cf s)*Tj.of (cf s) -Tj.of (cy j (cf s))*Tj.of (cy j (cf s))*Tj.of (cf (v.getD j []))=Tj.of (b8 v j (cf s));rw[← Tj.mul,← Tj.mul,← Tj.mul,← Tj.sub];rfl
 have cxx:cf (aW (s.take (s.length / 2)) (s.take (s.length / 2)))=fun i=>cf (s.take (s.length / 2)) i+cf (s.take (s.length / 2)) i:=funext fun i=>fV _ _ i
 have lxx:db j (cf (aW (s.take (s.length / 2)) (s.take (s.length / 2)))):=by
  rw[cxx];exact fun i hi=>by
   show _+_=(0:Rat);rw[lx i hi];exact Rat.add_zero 0
 have hes:T.R.sgn (T.of (cf s))≠0:=by rw[T.sgn];exact h
 have F:=OR.Fx (R:=Tj.R) (d:=Tj.of (cf (v.getD j []))) (by rw[Tj.sgn];exact hdj) hes (by
  have h5:=hT;rw[hN] at h5;exact h5)
 rw[b6 v lxx hj,← Tj.sgn,cxx,Tj.add,Tj.cong _ _ ex];exact F.2
def uT:Nat→List NQ→NQ→NQ
 | 0,_,a=>[1 / (ar a).getD 0 0]
 | l+1,v,a=>if (ar a).length=1 then [1 / (ar a).getD 0 0] else
   if ni l v (fv l v (ar a))=0 then uT l v (aW ((ar a).take ((ar a).length / 2)) ((ar a).take ((ar a).length / 2))) else
    ff (l+1) v ((ar a).take ((ar a).length / 2)++aM ((ar a).drop ((ar a).length / 2))) (uT l v (fv l v (ar a)))
theorem jR{v:List NQ}{l:Nat}{a:NQ}(ha:aC l a)(h:bg v l (cf a)≠0):(ar a).length≠0:=fun e=>by
 have:=bO ha;rw[List.length_eq_zero_iff.1 e] at this;rw[← this] at h;exact h (gB v l)
theorem Cq{v:List NQ}(hrt:da v)(hp:o8 v): ∀(l:Nat) {a b:NQ},aC l a→aC l b→cf a=cf b→l≤v.length→bg v l (cf a)≠0→aC l (uT l v a)∧cf (uT l v a)=cf (gZ l v b):=by
 intro l
 induction l with
 | zero =>
   intro a b ha hb hab hl h;have e:=nc ha hb hab;have hs:=bf hb;have h0:=jR ha h;rw[e] at h0;show aC 0 [1 / (ar a).getD 0 0]∧cf [1 / (ar a).getD 0 0]=cf (kS _ _ _ _ (ar b));rw[e];refine⟨fh _ _,?_⟩;unfold kS;rw[if_pos];rcases hs with e | ⟨i,hi,e⟩
   · exact absurd e h0
   · obtain rfl:i=0:=by omega
     exact e
 | succ l ih =>
   intro a b ha hb hab hl h;have e:=nc ha hb hab;have hs:=bf hb;have h0:=jR ha h;have hc:=bO hb;rw[hab,← hc] at h;rw[e] at h0;show aC (l+1) (if (ar a).length=1 then _ else _)∧cf (if (ar a).length=1 then _ else _)=cf (kS (gZ l v) (ed l v) (eW l v) (bd (l+1) v) (ar b));rw[e];generalize ar b=s at *;unfold kS;by_cases h1:s.length=1
   · rw[if_pos h1,if_pos h1];exact⟨fh _ _,rfl⟩
   rw[if_neg h1,if_neg h1]
   obtain ⟨j,hj,hsl⟩: ∃j,j≤l∧s.length=2^(j+1):=by
    rcases hs with e | ⟨i,hi,e⟩
    · exact absurd e h0
    · rcases i with _ | j
      · exact absurd e h1
      · exact⟨j,by omega,e⟩
   obtain ⟨e1,e2,e3⟩:=bD hsl;have hx:aC l (s.take (s.length / 2)):= .inr ⟨j,hj,e1⟩;have hn:=kJ hj hsl hrt (show l<v.length by omega);have hr:=uS hj hsl hrt (show l<v.length by omega);have hcn:cf (fv l v s)=cf (eW l v s):=hr.2.trans hn.2.symm
   have lowN:db j (b8 v j (cf s)):=fun i hi=>by
    unfold b8;rw[bh v j _ _ i hi,bh v j _ _ i hi];exact Rat.sub_self
   have s1:=f' l hr.1 hrt hp (by omega);have s2:=eI l hn.1 hrt (by omega);rw[s1,s2,hcn];by_cases hz:bg v l (cf (eW l v s))=0
   · rw[if_pos hz,if_pos hz];have hd:=v9 hrt hp hj (by omega) hsl h (by rw[hn.2,b6 v lowN hj] at hz;exact hz);have:=ih (hx.plus hx) (hx.plus hx) rfl (by omega) hd;exact⟨this.1.mono (Nat.le_succ l),this.2⟩
   · rw[if_neg hz,if_neg hz];have h3:=ih hr.1 hn.1 hcn (by omega) (by rw[hcn];exact hz)
     have e4:s.take (s.length / 2)++aM (s.drop (s.length / 2))=dL (s.take (s.length / 2)) (aM (s.drop (s.length / 2))) (s.length / 2):=by
      unfold dL
      have w1:bq (s.take (s.length / 2)) (s.length / 2)=s.take (s.length / 2):=by
       have:=j6 (s.take (s.length / 2))
       rwa [show (s.take (s.length / 2)).length=s.length / 2 by omega] at this
      have w2:bq (aM (s.drop (s.length / 2))) (s.length / 2)=aM (s.drop (s.length / 2)):=by
       have:=j6 (aM (s.drop (s.length / 2)))
       rwa [show (aM (s.drop (s.length / 2))).length=s.length / 2 by rw[bB];omega] at this
      rw[w1,w2]
     have hjl:aC (l+1) (dL (s.take (s.length / 2)) (aM (s.drop (s.length / 2))) (s.length / 2)):= .inr ⟨j+1,by omega,by
      rw[et]
      omega⟩
     rw[e4];have t1:=jU (l+1) hjl (h3.1.mono (Nat.le_succ l)) hrt hl;have t2:=eS (l+1) hjl ((fX l hn.1 hrt (by omega)).mono (Nat.le_succ l)) hrt hl;exact⟨t1.1,by rw[t1.2,t2.2,h3.2]⟩
def GJ:Nat→Nat→Prop
 | 0,k=>k≤17300000000000
 | l+1,k=>od l (sT (l+1) k)∧GJ l (sT (l+1) k)∧sT (l+1) k≤17300000000000∧sT (l+1) (iQ k l (sT (l+1) k))≤17300000000000
theorem GJ.le: ∀{l k:Nat},GJ l k→k≤17300000000000
 | 0,k,h=>h
 | l+1,k,h=>by have:=bU (l+1) k;have:=h.2.2.1;omega
theorem u5{v:List NQ}(hrt:da v)(hp:o8 v)(hv5:v.length≤5): ∀(l:Nat) {k:Nat} {a:NQ},aC l a→l≤v.length→ay k a→fq k v→bg v l (cf a)≠0→GJ l k→Pure Tryz.prog 133 [bt v,ah a] (ah (uT l v a)):=by
 intro l
 induction l with
 | zero =>
   intro k a ha hl sa sr h hk;exact xn ha (by omega) (sa.mono hk.le) (jR ha h) (fun _=>rfl) (fun l' j e=>by omega)
 | succ l ih =>
   intro k a ha hl sa sr h hk;obtain ⟨k1,k2,k3,k4⟩:=hk;have h2:=bU (l+1) k
   have h5:2*k+1≤sT (l+1) k:=by
    have:=bU l k;show _≤sT l (sT l k)+sT l k+1;omega
   have h0:=jR ha h;have hc:=bO ha;refine xn ha (by omega) (sa.mono (by omega)) h0 (fun e=>if_pos e) (fun l' j e hj hsl=>?_);obtain rfl:l=l':=by omega
   rw[← hc] at h;have ss:=(a5 ha sa).2
   have hne:(ar a).length≠1:=by
    have:0<2^j:=Nat.pow_pos (by decide);rw[hsl,Nat.pow_succ];omega
   show ∃(N:NQ) (S:Int),_∧_∧(S=0→Pure _ _ _ (ah (if (ar a).length=1 then _ else _)))∧(S≠0→ ∃I,_∧Pure _ _ _ (ah (if (ar a).length=1 then _ else _)));rw[if_neg hne];generalize ar a=s at *;obtain ⟨e1,e2,e3⟩:=bD hsl;have hx:aC l (s.take (s.length / 2)):= .inr ⟨j,hj,e1⟩;have hr:=uS hj hsl hrt (show l<v.length by omega);have hrs:=(zy hj hsl hrt (show l<v.length by omega) ss sr).2;have cN:=sP hj hsl hrt (show l<v.length by omega) (by omega) (xs:=v.map ah) (fun j hj=>oW hj) ss sr k3;have cS:=gE l hr.1 (by omega) hrt (by omega) (xs:=v.map ah) (fun j hj=>oW hj) hrs (sr.mono (by omega)) k1;have s1:=f' l hr.1 hrt hp (by omega)
   have lowN:db j (b8 v j (cf s)):=fun i hi=>by
    unfold b8;rw[bh v j _ _ i hi,bh v j _ _ i hi];exact Rat.sub_self
   refine⟨fv l v s,ni l v (fv l v s),cN,cS,fun hz=>?_,fun hz=>?_⟩
   · rw[if_pos hz];have hd:=v9 hrt hp hj (by omega) hsl h (by rw[s1,hr.2,b6 v lowN hj] at hz;exact hz);exact ih (hx.plus hx) (by omega) (((ss.take _).plus (ss.take _)).mono (by omega)) (sr.mono (by omega)) hd k2
   · rw[if_neg hz];rw[s1] at hz;have ci:=ih hr.1 (by omega) hrs (sr.mono (by omega)) hz k2;refine⟨uT l v (fv l v s),ci,?_⟩;have h3:=Cq hrt hp l hr.1 (kJ hj hsl hrt (show l<v.length by omega)).1 (hr.2.trans (kJ hj hsl hrt (show l<v.length by omega)).2.symm) (by omega) hz;have hnl:=(kJ hj hsl hrt (show l<v.length by omega));have s3:ay (iQ k l (sT (l+1) k)) (uT l v (fv l v s)):=Ce h3.2 (BH hrt sr l hnl.1 (by omega) (Ce (hnl.2.trans hr.2.symm) hrs));have hge:=CG k l (sT (l+1) k);exact fN (l+1) (.inr ⟨j+1,by omega,by rw[List.length_append,bB,e1,e2,Nat.pow_succ];omega⟩) (h3.1.mono (Nat.le_succ l)) hrt hl (by omega) (xs:=v.map ah) (fun j hj=>oW hj) ((DW (ss.take _) (ss.drop _).minus).mono (by omega)) s3 (sr.mono (by omega)) k4
end Lift
namespace Lift
theorem Ii{v:List NQ}(hrt:da v)(hp:o8 v): ∀(l:Nat) {k:Nat} {a:NQ},aC l a→l≤v.length→ay k a→fq k v→bg v l (cf a)≠0→GJ l k→Jr l v a:=by
 intro l
 induction l with
 | zero =>
   intro k a ha hl sa sr h hk;exact⟨sa.mono hk.le,jR ha h⟩
 | succ l ih =>
   intro k a ha hl sa sr h hk;obtain ⟨k1,k2,k3,k4⟩:=hk;have h2:=bU (l+1) k
   have h5:2*k+1≤sT (l+1) k:=by
    have:=bU l k;show _≤sT l (sT l k)+sT l k+1;omega
   have h0:=jR ha h;have hc:=bO ha;refine⟨sa.mono (by omega),h0,fun hne=>?_⟩;rw[← hc] at h;obtain ⟨hs,ss⟩:=a5 ha sa;generalize ar a=s at *
   obtain ⟨j,hj,hsl⟩: ∃j,j≤l∧s.length=2^(j+1):=by
    rcases hs with e | ⟨i,hi,e⟩
    · exact absurd e h0
    · rcases i with _ | j
      · exact absurd e hne
      · exact⟨j,by omega,e⟩
   obtain ⟨e1,e2,e3⟩:=bD hsl;have hx:aC l (s.take (s.length / 2)):= .inr ⟨j,hj,e1⟩;have hn:=kJ hj hsl hrt (show l<v.length by omega);have sn:=(ue hj hsl hrt (show l<v.length by omega) ss sr).2;have s1:=eI l hn.1 hrt (by omega)
   have lowN:db j (b8 v j (cf s)):=fun i hi=>by
    unfold b8;rw[bh v j _ _ i hi,bh v j _ _ i hi];exact Rat.sub_self
   refine⟨EB hj hsl hrt (by omega) ss sr k3,px l hn.1 hrt (by omega) sn (sr.mono (by omega)) k1,fun hz=>?_,fun hz=>⟨?_,?_⟩⟩
   · rw[s1,hn.2,b6 v lowN hj] at hz;have hd:=v9 hrt hp hj (by omega) hsl h hz;exact ih (hx.plus hx) (by omega) (((ss.take _).plus (ss.take _)).mono (by omega)) (sr.mono (by omega)) hd k2
   · rw[s1] at hz;exact ih hn.1 (by omega) sn (sr.mono (by omega)) hz k2
   · have hjl:aC (l+1) (dL (s.take (s.length / 2)) (aM (s.drop (s.length / 2))) (s.length / 2)):= .inr ⟨j+1,by omega,by
      rw[et]
      omega⟩
     have hge:=CG k l (sT (l+1) k);exact rO (l+1) hjl ((fX l hn.1 hrt (by omega)).mono (Nat.le_succ l)) hrt hl (((ss.take _).join (ss.drop _).minus _).mono (by omega)) (BH hrt sr l hn.1 (by omega) sn) (sr.mono (by omega)) k4
end Lift
namespace Lift
structure Lo (v:List NQ):Prop where
 V:j5 2 v
 l1:v.length≤1
theorem uP{l:Nat}(h:l≤1)(k:Nat):sT l k≤6*k+1:=by
 rcases l with _ | _ | l
 · show 2*k≤_;omega
 · show 2*(2*k)+2*k+1≤_;omega
 · omega
theorem me{l k:Nat}(h:l≤1)(hk:k≤400000000000):od l k:=by
 rcases l with _ | _ | l
 · show k≤_;omega
 · have h1:sT 1 k≤6*k+1:=uP (ak 1) k;have h2:sT 1 k≤17300000000000:=by omega
   exact⟨h2,h2⟩
 · omega
theorem Je{l:Nat}(h:l≤1)(s:Nat):tT 2 l s≤2*s+3:=by
 rcases l with _ | _ | l
 · show s≤_;omega
 · rw[DV];omega
 · omega
theorem JC{l r k:Nat}(h:l≤1):iQ r l k≤10*k+3*r+5:=by
 rcases l with _ | _ | l
 · show k+1≤_;omega
 · show tT r 1 (k+(tT r 1 (k+k)+1))≤_;rw[DV,DV];omega
 · omega
theorem Bv{l k:Nat}(h:l≤1)(hk:k≤400000000000):GJ l k:=by
 rcases l with _ | _ | l
 · show k≤_;omega
 · have h1:sT 1 k≤6*k+1:=uP (ak 1) k;have h2:sT 1 k≤17300000000000:=by omega
   have h3:sT 1 (sT 1 k+1)≤6*(sT 1 k+1)+1:=uP (ak 1) _;have h4:sT 1 (sT 1 k+1)≤17300000000000:=by omega
   exact⟨h2,h2,h2,h4⟩
 · omega
theorem Lo.add{v:List NQ}(_:Lo v){k m:Nat}{a b:NQ}(ha:aC v.length a)(sa:ay k a)(hb:aC v.length b)(sb:ay m b)(hk:k+m≤400000000000):z0 a b∧aC v.length (tV a b)∧ay (k+m+1) (tV a b) :=
 ⟨⟨sa.mono (by omega),sb.mono (by omega),(sa.plus sb).mono (by omega)⟩,Hp ha sa hb sb⟩
theorem Lo.sub{v:List NQ}(_:Lo v){k m:Nat}{a b:NQ}(ha:aC v.length a)(sa:ay k a)(hb:aC v.length b)(sb:ay m b)(hk:k+m≤400000000000):Ey a b∧aC v.length (oD a b)∧ay (k+m+1) (oD a b) :=
 ⟨⟨sa.mono (by omega),sb.mono (by omega),(sa.plus sb.minus).mono (by omega)⟩,Gg ha sa hb sb⟩
section
variable {v:List NQ} (L:Lo v) {k m:Nat} {a b:NQ}
include L
theorem Lo.mul(ha:aC v.length a)(sa:ay k a)(hb:aC v.length b)(sb:ay m b)(hk:k+m≤400000000000):vn v a b∧aC v.length (dK v a b)∧ay (2*(k+m)+3) (dK v a b):=by
 have h1:=uP L.l1 (k+m);have h2:=Je L.l1 (k+m);have hm:=sa.pos;have hm':=sb.pos;have st:=(y9 (m:=m) L.V.ro L.V.sz (ak _) ha sa hb sb).mono h2;have lt:=fp v.length ha hb L.V.ro (ak _);exact⟨⟨sa.mono (by omega),sb.mono (by omega),rO v.length ha hb L.V.ro (ak _) (sa.mono (Nat.le_add_right k m)) (sb.mono (Nat.le_add_left m k)) (L.V.sz.mono (by omega)) (by omega),st.mono (by omega)⟩,a5 lt st⟩
theorem Lo.sg(ha:aC v.length a)(sa:ay k a)(hk:k≤200000000000):vm v a:=by
 have:=sa.pos;exact px v.length ha L.V.ro (ak _) (sa.mono (Nat.le_succ k)) (L.V.sz.mono (by omega)) (me L.l1 (by omega))
theorem Lo.inv(hb:aC v.length b)(sb:ay m b):aC v.length (gZ v.length v b)∧ay (10*m+11) (gZ v.length v b) :=
 ⟨fX v.length hb L.V.ro (ak _),(BH L.V.ro L.V.sz v.length hb (ak _) sb).mono (JC L.l1)⟩
theorem Lo.div(ha:aC v.length a)(sa:ay k a)(hb:aC v.length b)(sb:ay m b)(h0:fi v b≠0)(hk:k+10*m≤200000000000):ED v a b∧aC v.length (mT v a b)∧ay (2*k+20*m+25) (mT v a b):=by
 have hm:=sb.pos;have hm':=sa.pos;obtain ⟨li,si⟩:=L.inv hb sb;obtain ⟨⟨k1,k2,k3,k4⟩,k5,k6⟩:=L.mul ha sa li si (by omega);have hs:bg v v.length (cf b)≠0:=by rw[← eI v.length hb L.V.ro (ak _)];exact h0
 exact⟨⟨k1,sb.mono (by omega),L.sg hb sb (by omega),h0,Ii L.V.ro L.V.pos v.length hb (ak _) (sb.mono (Nat.le_succ m)) (L.V.sz.mono (by omega)) hs (Bv L.l1 (by omega)),k3,k4⟩,k5,k6.mono (by omega)⟩
end
def gS(k:Nat):Nat:=110*k+129
def gI(k:Nat):Nat→Nat
 | 0=>k
 | c+1=>gS (gI k c)
theorem dN{k:Nat}: ∀{c d:Nat},c≤d→gI k c≤gI k d:=fun {c d} h=>by
 induction h with
 | refl=>exact ak _
 | step _ ih=>exact Nat.le_trans ih (by show _≤110*_+129;omega)
abbrev il(k:Nat)(a:a6):Prop:= ∀i j,ay k (aS a i j)
theorem il.mono{k m:Nat}{a:a6}(h:il k a)(hk:k≤m):il m a:=fun i j=>(h i j).mono hk
theorem il.pos{k:Nat}{a:a6}(h:il k a):1≤k:=(h 0 0).pos
theorem il.set{k:Nat}{a:a6}(h:il k a){r:List NQ}(hr: ∀j,ay k (r.getD j []))(i:Nat):il k (a.set i r):=fun j c=>by
 unfold aS;rw[eM];split
 · exact hr c
 · exact h j c
theorem il.bR{v:List NQ}{s:im}{c k:Nat}(h:il k s.rows):il k (bR v s c):=by
 unfold Lift.bR;split
 · exact h
 · exact(h.set (h _) _).set (h _) _
theorem Lo.step{v:List NQ}(L:Lo v){m N c k:Nat}{s:im}(R:o7 v m N c s)(hs:il k s.rows)(hd:ay k s.cE)(hk:gS k≤100000000000):
  kZ v s c∧il (gS k) (cT v s c).rows∧ay (gS k) (cT v s c).cE∧(atR v s c<s.rows.length→il (gS k) (eR v s c)∧ay (gS k) (ar (gZ v.length v (pR v s c)))):=by
 have hg:gS k=110*k+129:=rfl;have hk1:=hs.pos;have hl:=R.len;obtain ⟨a1,a2,a3,a4⟩:=gg v s c (by have:=R.cm;omega);by_cases h:atR v s c<s.rows.length
 · obtain ⟨b1,b2,b3⟩:=s8 R h;obtain ⟨e1,e2,e3⟩:=Au L.V.a R h;have sb:il k (bR v s c):=hs.bR
   have hp:fi v (pR v s c)≠0:=by
    have h4:=a4 h
    have:aS (bR v s c) s.cols.length c=aS s.rows (atR v s c) c:=by
     unfold bR aS;split
     · rename_i e;rw[e]
     · unfold zf;rw[eM,if_pos ⟨rfl,by rw[List.length_set];omega⟩]
    rw[pR,this];exact h4
   have se:il (22*k+25) (eR v s c):=by
    unfold eR;refine(sb.mono (by omega)).set (fun j=>?_) _;by_cases hj:j<((bR v s c).getD s.cols.length []).length
    · rw[qv v _ _ hj];exact(L.div (b3 _ j) (sb _ j) (b3 _ _) (sb _ _) hp (by omega)).2.2.mono (by omega)
    · rw[my (by rw[qu];omega)];exact bn (by omega)
   have okt: ∀i,Bu v ((eR v s c).getD i []) ((eR v s c).getD s.cols.length []) (aS (eR v s c) i c):=fun i j _=>by
    obtain ⟨q1,q2,q3⟩:=L.mul (e3 i c) (se i c) (e3 s.cols.length j) (se s.cols.length j) (by omega);exact⟨q1,(L.sub (e3 i j) (se i j) q2 q3 (by omega)).1⟩
   have sc: ∀i,il (gS k) (cD v (eR v s c) s.cols.length c i):=fun i=>by
    induction i with
    | zero=>exact se.mono (by omega)
    | succ i ih =>
      unfold cD;split
      · refine ih.set (fun j=>?_) i;rw[fJ v _ _ _ i i (.inl (ak _)),fJ v _ _ _ i _ (.inr rfl),uu];by_cases hj:j<((eR v s c).getD i []).length
        · rw[iH v _ _ _ hj];obtain ⟨q1,q2,q3⟩:=L.mul (e3 i c) (se i c) (e3 s.cols.length j) (se s.cols.length j) (by omega);exact(L.sub (e3 i j) (se i j) q2 q3 (by omega)).2.2.mono (by omega)
        · rw[my (by rw[gA];omega)];exact bn (by omega)
      · exact ih
   obtain ⟨d1,d2,d3⟩:=L.mul R.cE hd (b3 s.cols.length c) (sb _ _) (by omega);refine⟨⟨fun j _ _=>L.sg (R.lt j c) (hs j c) (by omega),fun _=>d1,fun _ j hj=>(L.div (b3 _ j) (sb _ j) (b3 _ _) (sb _ _) hp (by omega)).1,fun _ i _ _=>L.sg (e3 i c) (se i c) (by omega),fun _ i _ _ _=>okt i⟩,?_,?_,fun _=>⟨se.mono (by omega),?_⟩⟩
   · unfold cT;rw[if_pos h];exact sc _
   · unfold cT;rw[if_pos h];exact d3.mono (by omega)
   · obtain ⟨i1,i2⟩:=L.inv (b3 s.cols.length c) (sb _ _);exact(a5 i1 i2).2.mono (by omega)
 · refine⟨⟨fun j _ _=>L.sg (R.lt j c) (hs j c) (by omega),fun g=>absurd g h,fun g=>absurd g h,fun g=>absurd g h,fun g=>absurd g h⟩,?_,?_,fun g=>absurd g h⟩
   · unfold cT;rw[if_neg h];exact hs.mono (by omega)
   · unfold cT;rw[if_neg h];exact hd.mono (by omega)
theorem Lo.Eh{v:List NQ}(L:Lo v){a:a6}{N k:Nat}(hr:bk N a)(hl:jC v.length a)(hs:il k a): ∀{c:Nat},gI k c≤100000000000→il (gI k c) (aB v a c).rows∧ay (gI k c) (aB v a c).cE
 | 0,_=>⟨hs,ft (Nat.le_trans jD hs.pos)⟩
 | c+1,h=>by
   have h0:=Nat.le_trans (dN (Nat.le_succ c)) h;obtain ⟨h1,h2⟩:=L.Eh hr hl hs h0;obtain ⟨_,h3,h4,_⟩:=L.step (cY L.V.a hr hl c) h1 h2 h;exact⟨h3,h4⟩
theorem Lo.red{v:List NQ}(L:Lo v){a:a6}{N k n:Nat}(hr:bk N a)(hl:jC v.length a)(hs:il k a)(hN:gI k n≤100000000000):
  (∀c,c<n→kZ v (aB v a c) c)∧(∀c,c≤n→il (gI k n) (aB v a c).rows)∧(∀c,c≤n→ay (gI k n) (aB v a c).cE) ∧
  (∀c,c<n→atR v (aB v a c) c<(aB v a c).rows.length→il (gI k n) (eR v (aB v a c) c))∧(∀c,c<n→atR v (aB v a c) c<(aB v a c).rows.length→ay (gI k n) (ar (gZ v.length v (pR v (aB v a c) c)))):=by
 have g:=fun c (hc:c≤n)=>L.Eh hr hl hs (Nat.le_trans (dN hc) hN);have s:=fun c (hc:c<n)=>L.step (cY L.V.a hr hl c) (g c (by omega)).1 (g c (by omega)).2 (Nat.le_trans (dN (show c+1≤n from hc)) hN);exact⟨fun c hc=>(s c hc).1,fun c hc=>(g c hc).1.mono (dN hc),fun c hc=>(g c hc).2.mono (dN hc),fun c hc h=>((s c hc).2.2.2 h).1.mono (dN (show c+1≤n from hc)),fun c hc h=>((s c hc).2.2.2 h).2.mono (dN (show c+1≤n from hc))⟩
end Lift
namespace Lift
def eD(v:List NQ)(xs ys:List NQ):Nat→NQ
 | 0=>[]
 | i+1=>tV (eD v xs ys i) (dK v (xs.getD i []) (ys.getD i []))
theorem gl{v:List NQ}(V:k8 v){xs ys:List NQ}(hx: ∀i,aC v.length (xs.getD i []))(hy: ∀i,aC v.length (ys.getD i [])): ∀n,aC v.length (eD v xs ys n)
 | 0=>bm _
 | n+1=>bf ((gl V hx hy n).plus (ja V (hx n) (hy n)))
theorem v8{v:List NQ}(V:k8 v)(F:FV v){xs ys:List NQ}(hx: ∀i,aC v.length (xs.getD i []))(hy: ∀i,aC v.length (ys.getD i [])): ∀n,F.val (eD v xs ys n)=sm n (fun k=>F.val (xs.getD k [])*F.val (ys.getD k []))
 | 0=>F.nil
 | n+1=>by
   show F.val (tV _ _)=sm n _+_;rw[F.add (gl V hx hy n) (ja V (hx n) (hy n)),v8 V F hx hy n,F.mul (hx n) (hy n)]
def HC(v:List NQ)(xs ys:List NQ)(n:Nat):Prop:= ∀i,i<n→vn v (xs.getD i []) (ys.getD i [])∧z0 (eD v xs ys i) (dK v (xs.getD i []) (ys.getD i []))
theorem Lo.dot{v:List NQ}(L:Lo v){xs ys:List NQ}{k m:Nat}(hx: ∀i,aC v.length (xs.getD i []))(hy: ∀i,aC v.length (ys.getD i []))(sx: ∀i,ay k (xs.getD i []))(sy: ∀i,ay m (ys.getD i [])){n:Nat}(hn:n≤32)(hk:k+m≤1000000000):
  HC v xs ys n∧ay (n*(2*(k+m)+4)+1) (eD v xs ys n):=by
 obtain ⟨X,hX⟩: ∃X,X=2*(k+m)+4:=⟨_,rfl⟩;rw[← hX]
 have ind: ∀i,i≤n→ay (i*X+1) (eD v xs ys i)∧(i<n→vn v (xs.getD i []) (ys.getD i [])∧z0 (eD v xs ys i) (dK v (xs.getD i []) (ys.getD i []))):=by
  have st: ∀i,i<n→ay (i*X+1) (eD v xs ys i)→(vn v (xs.getD i []) (ys.getD i [])∧z0 (eD v xs ys i) (dK v (xs.getD i []) (ys.getD i [])))∧ay ((i+1)*X+1) (eD v xs ys (i+1)):=fun i hi h=>by
   obtain ⟨a1,a2,a3⟩:=L.mul (hx i) (sx i) (hy i) (sy i) (by omega);have hb:i*X≤32*X:=Nat.mul_le_mul_right _ (by omega);have e:(i+1)*X=i*X+X:=Nat.succ_mul i X;obtain ⟨b1,b2,b3⟩:=L.add (gl L.V.a hx hy i) h a2 a3 (by omega);exact⟨⟨a1,b1⟩,b3.mono (by omega)⟩
  intro i hi
  induction i with
  | zero =>
    have s0:ay (0*X+1) (eD v xs ys 0):=bn (Nat.le_add_left _ _);exact⟨s0,fun h=>(st 0 h s0).1⟩
  | succ i ih =>
    have s1:=(st i (by omega) (ih (by omega)).1).2;exact⟨s1,fun h=>(st (i+1) h s1).1⟩
 exact⟨fun i hi=>(ind i (by omega)).2 hi,(ind n (ak n)).1⟩
def wh(a:a6)(k:Nat):List NQ:=a.map fun r=>r.getD k []
theorem FC(a:a6)(k:Nat):(wh a k).length=a.length:=ae ..
theorem FD(a:a6)(k i:Nat):(wh a k).getD i []=aS a i k:=CP a k i
section
variable {m0:Nat} {v:List NQ} (V:j5 m0 v) {a:a6} (G:rq v a) {b:List NQ} (hb: ∀i,aC v.length (b.getD i []))
include V G hb
end
end Lift
namespace Lift
open Go Go.Proofs
abbrev bT(l:List Nat):D:= .sl 1 (l.map (fun c:Nat=>dI c))
theorem oX{l:List Nat}{i:Nat}(h:i<l.length):(l.map (fun c:Nat=>dI c))[i]?=some (dI (l.getD i 0)):=by simp[h]
def F7(l:List Nat)(x:Nat)(i:Nat):Bool:=decide ((x:Int)=(l.getD i 0:Nat))
def J1(l:List Nat)(x:Nat):Int:=if gR (F7 l x) (l.length-0) 0<l.length then (gR (F7 l x) (l.length-0) 0:Nat) else -1
theorem G1(l:List Nat)(x:Nat):decide (0≤J1 l x)=l.contains x:=by
 obtain ⟨h1,h2,h3,h4⟩:=lM (g:=F7 l x) (m:=l.length-0) (i:=0);unfold J1;by_cases h:gR (F7 l x) (l.length-0) 0<l.length
 · rw[if_pos h,aN (aj _)];have:=h4 (by omega)
   have e:x=l.getD (gR (F7 l x) (l.length-0) 0) 0:=by
    have:=aq this;omega
   rw[e,aE,a8 h];exact(List.contains_iff_mem.2 (List.getElem_mem h)).symm
 · rw[if_neg h,aO (by decide)];refine(Bool.eq_false_iff.2 fun hc=>?_).symm;have hm:=List.contains_iff_mem.1 hc;obtain ⟨j,hj,e⟩:=List.getElem_of_mem hm;have:=h3 j (Nat.zero_le _) (by omega);unfold F7 at this;rw[aE,a8 hj] at this;have:=au this;exact this (by show (x:Int)=((l[j]:Nat):Int);rw[e])
theorem rC(bs:List Nat)(hl:bs.length≤1000000000000000)(x:Nat):Pure Tryz.prog 93 [bT bs,dI x] (dI (J1 bs x)):=by
 refine qJ 19 Tryz.func93 rfl rfl rfl rfl (by kernel_rfl) (fun B F0 w0=>?_);unfold J1;generalize hE:gR (F7 bs x) (bs.length-0) 0=E;refine qX 1 rfl ?_;refine qI (qX 3 rfl ?_);rw[ae];refine ab.nil ?_;refine AW.block (AW.aG [0,1,7,8] (fun i:Nat=>[(0,.d (bT bs)),(1,.d (dI x)),(7,.d (dI bs.length)),(8,.d (dI i))]) (fun i=>i≤bs.length∧gR (F7 bs x) (bs.length-i) i=E) (fun i=>bs.length-i) 0 rfl ⟨Nat.zero_le _,hE⟩ (fun i hi=>?_));obtain ⟨hi,hE⟩:=hi
 · skip
   refine qX 1 rfl ?_;refine qI ?_;refine AW.cond rfl (fun h=>?_) (fun h=>?_)
   · have hin:i<bs.length:=by have:=aq h;omega
     have hhit:=qS (g:=F7 bs x) hin;have hmiss:=ot (g:=F7 bs x) hin;refine AW.skip (AW.seq (AW.block ?_));refine qX 2 rfl ?_;refine qK 3 rfl ?_;refine ab.idx tok (dI (bs.getD i 0)) rfl rfl rfl rfl (aj i) (oX hin) ?_;refine qU 2 rfl ?_;refine ab.nil ?_;refine AW.cond rfl (fun h=>?_) (fun h=>?_)
     · have e:E=i:=hE.symm.trans (hhit h);rw[e,if_pos hin];refine qX 2 rfl ?_;exact qN rfl
     · skip
       refine AW.skip (qT 1 rfl ?_);rw[aF (x:=(i:Int)+1) (by omega) (by omega)];refine qU 1 rfl ?_;refine ab.nil ?_;exact⟨i+1,rfl,⟨hin,by rw[← hmiss h];exact hE⟩,by omega⟩
   have hin: ¬i<bs.length:=by have:=au h;omega
   have e:E=i:=by rw[← hE,qV hin]
   rw[e,if_neg hin];refine AW.exit ?_;refine qX 1 rfl ?_;exact qN rfl
theorem jE(bs:List Nat)(hl:bs.length≤1000000000000000)(x:Nat):Pure Tryz.prog 50 [bT bs,dI x] (dB (bs.contains x)):=by
 refine qJ 9 Tryz.func50 rfl rfl rfl rfl (by kernel_rfl) (fun B F0 w0=>?_);rw[← G1];refine qX 1 rfl ?_;refine qK 2 rfl ?_;refine ab.call tok rfl rfl rfl rfl (rC bs hl x) ?_;refine qU 2 rfl ?_;exact qN rfl
theorem pb{α:Type}{d:α}{l:List α}{i:Nat}(h:i<l.length):l.take (i+1)=l.take i++[l.getD i d]:=by
 rw[List.take_succ_eq_append_getElem h,aE,a8 h];rfl
theorem rY(a:a6)(k:Nat)(ha:a.length≤1000000)(hr: ∀i,i<a.length→k<(a.getD i []).length):Pure Tryz.prog 59 [aX a,dI k] (bW (wh a k)):=by
 refine qJ 23 Tryz.func59 rfl rfl rfl rfl (by kernel_rfl) (fun B F0 w0=>?_);have hc:=FC a k
 have hts: ∀i,i<a.length→(wh a k).take (i+1)=(wh a k).take i++[(a.getD i []).getD k []]:=fun i hi=>by
  rw[pb (d:=[]) (by omega),FD];rfl
 have hta:(wh a k).take a.length=wh a k:=List.take_of_length_le (by omega);generalize wh a k=zs at *;refine qX 1 rfl ?_;refine qK 1 rfl ?_;refine qI (qX 3 rfl ?_);rw[ae];refine ab.nil ?_;refine AW.block ?_;refine AW.aG [0,1,5,8,9,10] (fun i:Nat=>[(0,.d (aX a)),(1,.d (dI k)),(5,.ow 53 ((zs.take i).map ah)),(8,.d (aX a)),(9,.d (dI a.length)),(10,.d (dI i))]) (fun i=>i≤a.length) (fun i=>a.length-i) 0 rfl (Nat.zero_le _) (fun i hi=>?_)
 · show AW _ _ _ _ _ _ _ [(0,.d (aX a)),(1,.d (dI k)),(5,.ow 53 ((zs.take i).map ah)),(8,.d (aX a)),(9,.d (dI a.length)),(10,.d (dI i))];refine qX 1 rfl ?_;refine qI ?_;refine AW.cond rfl (fun h=>?_) (fun h=>?_)
   · have hii:i<a.length:=by have:=aq h;omega
     have g1:=getM bW (l:=a) (i:=i) hii;have g2:=getM ah (l:=a.getD i []) (i:=k) (hr i hii);have hts:=hts i hii;generalize a.getD i []=r at g1 g2 hts;generalize r.getD k []=x at g2 hts;refine AW.skip (AW.seq (AW.block (AW.seq (AW.region ?_))));refine ab.idx tok (bW r) rfl rfl rfl rfl (aj i) g1 ?_;refine qU 2 rfl ?_;refine ab.nil ?_;refine qT 3 rfl ?_;refine ab.idx tok (ah x) rfl rfl rfl rfl (aj k) g2 ?_;refine qU 1 rfl ?_;refine ab.fj tok rfl rfl rfl rfl rfl ?_;refine ab.gv tok rfl rfl rfl rfl rfl rfl (by rw[ae,aT];show (_+1)*24≤_;omega) (by rw[ae,aT];show _+1≤_;omega) ?_;refine qU 1 rfl ?_;refine ab.nil ?_;refine qT 1 rfl ?_;rw[aF (x:=(i:Int)+1) (by omega) (by omega)];refine qU 1 rfl ?_;refine ab.nil ?_;exact⟨i+1,by rw[hts,List.map_append];rfl,hii,by omega⟩
   have hii:i=a.length:=by have:=au h;omega
   subst hii;rw[hta];refine AW.exit (AW.seq (AW.region ?_));refine ab.fT tok 5 rfl rfl ?_;refine qU 2 rfl ?_;exact qN rfl
theorem C2(a:a6){k:Nat}(h:k<ao a):(bu a).getD k []=wh a k:=nW a h
theorem rU(a:a6)(ha:a.length≤1000000)(hc:ao a≤1000000)(hr:bk (ao a) a):Pure Tryz.prog 92 [aX a] (aX (bu a)):=by
 refine qJ 18 Tryz.func92 rfl rfl rfl rfl (by kernel_rfl) (fun B F0 w0=>?_);have hz:=fL a
 have hts: ∀k,k<ao a→(bu a).take (k+1)=(bu a).take k++[wh a k]:=fun k hk=>by
  rw[pb (d:=[]) (by omega),C2 a hk]
 have hta:(bu a).take (ao a)=bu a:=List.take_of_length_le (by omega);have cc:=fun k (hk:k<ao a)=>rY a k ha (fun i hi=>by rw[hr i hi];exact hk);generalize bu a=zs at *;refine qX 1 rfl ?_;refine qK 1 rfl ?_;refine qI (qX 1 rfl ?_);refine ab.call tok rfl rfl rfl rfl (bP a) ?_;refine qU 1 rfl ?_;refine ab.nil ?_;refine AW.block ?_;refine AW.aG [0,3,6,7] (fun i:Nat=>[(0,.d (aX a)),(3,.ow 22 ((zs.take i).map bW)),(6,.d (dI (ao a))),(7,.d (dI i))]) (fun i=>i≤ao a) (fun i=>ao a-i) 0 rfl (Nat.zero_le _) (fun i hi=>?_)
 · show AW _ _ _ _ _ _ _ [(0,.d (aX a)),(3,.ow 22 ((zs.take i).map bW)),(6,.d (dI (ao a))),(7,.d (dI i))];refine qX 1 rfl ?_;refine qI ?_;refine AW.cond rfl (fun h=>?_) (fun h=>?_)
   · have hii:i<ao a:=by have:=aq h;omega
     have cc:=cc i hii;have hts:=hts i hii;generalize wh a i=z at cc hts;refine AW.skip (AW.seq (AW.block ?_));refine qX 2 rfl ?_;refine ab.nil ?_;refine qT 3 rfl ?_;refine ab.call tok rfl rfl rfl rfl cc ?_;refine ab.fj tok rfl rfl rfl rfl rfl ?_;refine ab.gv tok rfl rfl rfl rfl rfl rfl (by rw[ae,aT];show (_+1)*24≤_;omega) (by rw[ae,aT];show _+1≤_;omega) ?_;refine qU 1 rfl ?_;refine ab.nil ?_;refine qT 1 rfl ?_;rw[aF (x:=(i:Int)+1) (by omega) (by omega)];refine qU 1 rfl ?_;refine ab.nil ?_;exact⟨i+1,by rw[hts,List.map_append];rfl,hii,by omega⟩
   have hii:i=ao a:=by have:=au h;omega
   subst hii;rw[hta];refine AW.exit (AW.seq (AW.region ?_));refine ab.fT tok 3 rfl rfl ?_;refine qU 2 rfl ?_;exact qN rfl
theorem iB{v:List NQ}{a:a6}(V:k8 v)(G:rq v a)(ok: ∀c,c<a.length→kZ v (aB v (bu a) c) c):Pure Tryz.prog 49 [bt v,aX a] (.tu [bT (aB v (bu a) a.length).cols,aP]):=by
 refine qJ 20 Tryz.func49 rfl rfl rfl rfl (by kernel_rfl) (fun B F0 w0=>?_);have hGl:=G.l;have hGc:=G.c;have ct:=rU a (by omega) (by omega) G.r;have cr:=eg V (most:=a.length) (by rw[fL];omega) (by omega) (ak _) (fm a) (jb G.lt) ok;generalize aB v (bu a) a.length=s at *;generalize bu a=z at *;refine qX 3 rfl ?_;refine qI (AW.mO tok aQ [(8,true),(1,false),(1,true)] 10 [6] (by kernel_rfl) ⟨rfl,?_⟩);refine qP 2 rfl ?_;refine af.call tok rfl rfl rfl rfl rfl ct ?_;refine qP 2 rfl ?_;rw[ae];refine af.call tok rfl rfl rfl rfl rfl cr ?_;refine qP 2 rfl ?_;refine af.nil ⟨rfl,?_⟩;refine qP 1 rfl ?_;refine af.nil ⟨rfl,?_⟩;refine qP 1 rfl ?_;refine af.nil ⟨_,oB.cons (.bx rfl) (oB.nil),?_⟩;refine qU 1 rfl ?_;refine qK 5 rfl ?_;exact qN rfl
theorem oG{m:Nat}{v:List NQ}{a:a6}(V:j5 m v)(hk:od v.length m)(G:rq v a)(hs: ∀i k,ay m (aS a i k))(ok: ∀c,c<a.length→kZ v (aB v (bu a) c) c):Pure Tryz.prog 15 [bt v,aX a] (.tu [bT (GC v a),aP]):=by
 refine qJ 41 Tryz.func15 rfl rfl rfl rfl (by kernel_rfl) (fun B F0 w0=>?_);obtain ⟨r1,r2⟩:=G.raw V hs;have cc:=gi (V.s hk) r1;rw[r2,rI,x6] at cc;have hGl:=G.l;have ci:=iB V.a G ok;have hcl:=(cY V.a (fm a) (jb G.lt) a.length).cl;unfold GC fH;generalize aB v (bu a) a.length=s at *
 have hf: ∀i,((List.range (i+1)).filter fun i=> !s.cols.contains i)=((List.range i).filter fun i=> !s.cols.contains i)++(if s.cols.contains i then [] else [i]):=fun i=>by
  rw[List.range_succ,List.filter_append]
  congr 1
  by_cases h:s.cols.contains i=true
  · rw[if_pos h,List.filter_cons_of_neg (by rw[h];simp)];rfl
  · rw[if_neg h,List.filter_cons_of_pos (by simp only[Bool.not_eq_true] at h;rw[h];rfl)];rfl
 have hfl: ∀i,((List.range i).filter fun i=> !s.cols.contains i).length≤i:=fun i=>Nat.le_trans (List.length_filter_le ..) (by rw[List.length_range];exact ak _);refine qX 3 rfl ?_;refine qI (qX 2 rfl ?_);refine ab.call tok rfl rfl rfl rfl cc ?_;refine qU 1 rfl ?_;refine qK 1 rfl ?_;refine ab.err tok rfl rfl rfl rfl rfl ?_;refine ab.nil ?_;refine AW.aA rfl ?_
 · skip
   refine AW.skip (qX 2 rfl ?_);refine ab.call tok rfl rfl rfl rfl ci ?_;refine qU 5 rfl ?_;refine qI (qX 1 rfl ?_);refine ab.err tok rfl rfl rfl rfl rfl ?_;refine ab.nil ?_;refine AW.aA rfl ?_
   · skip
     refine AW.skip (qX 1 rfl ?_);refine qI (qX 2 rfl ?_);rw[ae];refine qU 1 rfl ?_;refine ab.nil ?_;refine AW.block ?_;refine AW.aG [7,9,27,28] (fun i:Nat=>[(7,.d (bT s.cols)),(9,.ow 3 (((List.range i).filter fun i=> !s.cols.contains i).map (fun c:Nat=>dI c))),(27,.d (dI a.length)),(28,.d (dI i))]) (fun i=>i≤a.length) (fun i=>a.length-i) 0 rfl (Nat.zero_le _) (fun i hi=>?_)
     · show AW _ _ _ _ _ _ _ [(7,.d (bT s.cols)),(9,.ow 3 (((List.range i).filter fun i=> !s.cols.contains i).map (fun c:Nat=>dI c))),(27,.d (dI a.length)),(28,.d (dI i))];refine qX 1 rfl ?_;refine qI ?_;refine AW.cond rfl (fun h=>?_) (fun h=>?_)
       · have hii:i<a.length:=by have:=aq h;omega
         have hf:=hf i;have hfl:=hfl i;have ch:=jE s.cols (by omega) i;generalize s.cols.contains i=b at hf ch;refine AW.skip (AW.seq (AW.block ?_));refine qX 2 rfl ?_;refine qK 2 rfl ?_;refine ab.call tok rfl rfl rfl rfl ch ?_;refine qU 1 rfl ?_;refine ab.nil ?_;refine AW.cond rfl (fun h=>?_) (fun h=>?_)
         · rw[show b=false by cases b;rfl;cases h] at hf;refine qT 2 rfl ?_;refine ab.fj tok rfl rfl rfl rfl rfl ?_;refine ab.gv tok rfl rfl rfl rfl rfl rfl (by rw[ae];show (_+1)*8≤_;omega) (by rw[ae];show _+1≤_;omega) ?_;refine qU 1 rfl ?_;refine ab.nil ?_;refine qT 1 rfl ?_;rw[aF (x:=(i:Int)+1) (by omega) (by omega)];refine qU 1 rfl ?_;refine ab.nil ?_;exact⟨i+1,by rw[hf,if_neg (by decide),List.map_append];rfl,hii,by omega⟩
         · rw[show b=true by cases b;cases h;rfl] at hf;refine AW.skip (qT 1 rfl ?_);rw[aF (x:=(i:Int)+1) (by omega) (by omega)];refine qU 1 rfl ?_;refine ab.nil ?_;exact⟨i+1,by rw[hf,if_pos rfl,List.append_nil];rfl,hii,by omega⟩
       have hii:i=a.length:=by have:=au h;omega
       subst hii;refine AW.exit (AW.seq (AW.region ?_));refine ab.fT tok 9 rfl rfl ?_;refine qU 3 rfl ?_;exact qN rfl
end Lift
namespace Lift
open Go Go.Proofs
section
variable {P:Program} {T:Ty} {B:Nat} {F0:Nat→Prop} {w0:c7} {n:Nat} {σ:St} {all:Array Oper} {rest:List Oper} {o:Oper} {d:Nat} {K:St→Prop}
theorem ab.EM(hT:bH P T)(z:Nat){e:Nat}{te:TI}{m:Int}(hd:o.dst=some d)(hdn:Nat.ble (d+1) n=true)(hg:aH all σ o=true)(hx:I6 T σ.get o.op=some (e,te,m))(hz:lX te=true)(hzd:uC te= .sl 3 [])(hb:te.bytes=24)(hm:m=(z:Int))(h1:z≤1000000)
  (h:ab P B F0 w0 n all rest K ((d,.ow e ((List.replicate z ([]:NQ)).map ah))::σ.kill d)):ab P B F0 w0 n all (o::rest) K σ:=by
 subst hm;refine ab.make hT hd hdn hg hx hz (by omega) (by rw[hb];omega) (by omega) ?_;rw[hzd,show List.replicate ((z:Int)).toNat (D.sl 3 [])=(List.replicate z ([]:NQ)).map ah by rw[List.map_replicate];rfl];exact h
end
theorem xR:Pure Tryz.prog 87 [(Qr ((1:Int):Rat)).D] (ah [1]):=by
 have cone:=m3 (Qr ((1:Int):Rat)) (k:=1) (jB _ (by have:=jD;rw[show ((1:Int):Rat)=1 from rfl];omega)) (by decide) (by decide) (AJ _);rw[cG,show I5 ((1:Int):Rat)=[1] from rfl] at cone;exact cone
def JA(s:im)(n:Nat):a6:=((List.range n).filter fun i=> !s.cols.contains i).map fun c=>iu s n c s.cols.length
def vN(s:im)(n i:Nat):a6:=((List.range i).filter fun i=> !s.cols.contains i).map fun c=>iu s n c s.cols.length
theorem xv(s:im)(n i:Nat):vN s n (i+1)=vN s n i++(if s.cols.contains i then [] else [iu s n i s.cols.length]):=by
 unfold vN;rw[List.range_succ,List.filter_append,List.map_append]
 congr 1
 by_cases h:s.cols.contains i=true
 · rw[if_pos h,List.filter_cons_of_neg (by rw[h];simp)];rfl
 · rw[if_neg h,List.filter_cons_of_pos (by simp only[Bool.not_eq_true] at h;rw[h];rfl)];rfl
theorem Al(s:im)(n i:Nat):(vN s n i).length≤i:=by
 unfold vN;rw[ae];exact Nat.le_trans (List.length_filter_le ..) (by rw[List.length_range];exact ak _)
set_option maxHeartbeats 800000 in
theorem rX{v:List NQ}(V:k8 v){rows:a6}{cols:List Nat}{sg:Int}{cE:NQ}{n:Nat}(hn:n≤1000000)(hr:bk n rows)(hl:jC v.length rows)(hs: ∀r c,mH (aS rows r c))(hc: ∀r,r<cols.length→cols.getD r 0<n)(hcl:cols.length≤rows.length)(hcn:cols.length≤1000000):
  Pure Tryz.prog 48 [bt v,AI ⟨rows,cols,sg,cE⟩,dI n] (.tu [aX (JA ⟨rows,cols,sg,cE⟩ n),aP]):=by
 refine qJ 65 Tryz.func48 rfl rfl rfl rfl (by kernel_rfl) (fun B F0 w0=>?_);have hks:=xv ⟨rows,cols,sg,cE⟩ n;have hkl:=Al ⟨rows,cols,sg,cE⟩ n;have hk0:vN ⟨rows,cols,sg,cE⟩ n 0=[]:=rfl;have hv0: ∀c,iu ⟨rows,cols,sg,cE⟩ n c 0=(List.replicate n []).set c [1]:=fun c=>rfl;have hvs: ∀c r,iu ⟨rows,cols,sg,cE⟩ n c (r+1)=(iu ⟨rows,cols,sg,cE⟩ n c r).set (cols.getD r 0) (ju (aS rows r c)):=fun c r=>rfl;have hvl:=nH ⟨rows,cols,sg,cE⟩ n;show AW _ _ _ _ _ _ (Gz _ _ (.tu [aX (vN ⟨rows,cols,sg,cE⟩ n n),aP])) _;generalize vN ⟨rows,cols,sg,cE⟩ n=kI at *;generalize iu ⟨rows,cols,sg,cE⟩ n=kv at *;simp only[] at hks;refine qX 4 rfl ?_;refine qK 1 rfl ?_;refine qI (qX 2 rfl ?_);refine ab.nil ?_;refine AW.block ?_;refine AW.aG [2,3,4,8,15,16] (fun c:Nat=>[(2,.d (dI n)),(3,.bx [.sl 1 (v.map ah)]),(4,.bx [aX rows,bT cols,dI sg,ah cE]),(8,.ow 22 ((kI c).map bW)),(15,.d (dI n)),(16,.d (dI c))]) (fun c=>c≤n) (fun c=>n-c) 0 (by rw[hk0];rfl) (Nat.zero_le _) (fun c hcc=>?_)
 · show AW _ _ _ _ _ _ _ [(2,.d (dI n)),(3,.bx [.sl 1 (v.map ah)]),(4,.bx [aX rows,bT cols,dI sg,ah cE]),(8,.ow 22 ((kI c).map bW)),(15,.d (dI n)),(16,.d (dI c))];refine qX 1 rfl ?_;refine qI ?_;refine AW.cond rfl (fun h=>?_) (fun h=>?_)
   · have hcn':c<n:=by have:=aq h;omega
     have hks:=hks c;have hkl:=hkl c;have ch:=jE cols (by omega) c;generalize cols.contains c=b at hks ch;refine AW.skip (AW.seq (AW.block ?_));refine qX 2 rfl ?_;refine qI (qX 3 rfl ?_);refine ab.call tok rfl rfl rfl rfl ch ?_;refine ab.nil ?_;refine AW.cond rfl (fun h=>?_) (fun h=>?_)
     · rw[show b=true from h] at hks;refine AW.exit ?_;refine qT 1 rfl ?_;rw[aF (x:=(c:Int)+1) (by omega) (by omega)];refine qU 1 rfl ?_;refine ab.nil ?_;exact⟨c+1,by rw[hks,if_pos rfl,List.append_nil];rfl,hcn',by omega⟩
     · rw[show b=false from h] at hks;refine AW.skip (qX 1 rfl ?_);refine ab.EM tok n rfl rfl rfl rfl rfl rfl rfl rfl (by omega) ?_;refine qU 1 rfl ?_;refine qK 2 rfl ?_;refine ab.call tok rfl rfl rfl rfl (ic 1 (by decide) (by decide)) ?_;refine ab.call tok rfl rfl rfl rfl xR ?_;refine ab.fR tok rfl rfl rfl rfl (aj c) (by rw[ae,List.length_replicate];omega) ?_;refine ab.m7 tok [1] rfl rfl rfl (by rw[List.length_replicate];exact hcn') ?_;refine qI (qX 3 rfl ?_);rw[ae];refine qU 1 rfl ?_;refine ab.nil ?_;refine AW.block ?_;refine AW.aG [2,3,4,8,9,10,15,16,31,32,33] (fun r:Nat=>[(2,.d (dI n)),(3,.bx [.sl 1 (v.map ah)]),(4,.bx [aX rows,bT cols,dI sg,ah cE]),(8,.ow 22 ((kI c).map bW)),(9,.d (dI c)),(10,.ow 53 ((kv c r).map ah)),(15,.d (dI n)),(16,.d (dI c)),(31,.d (bT cols)),(32,.d (dI cols.length)),(33,.d (dI r))]) (fun r=>r≤cols.length) (fun r=>cols.length-r) 0 (by rw[hv0];rfl) (Nat.zero_le _) (fun r hrc=>?_)
       · show AW _ _ _ _ _ _ _ [(2,.d (dI n)),(3,.bx [.sl 1 (v.map ah)]),(4,.bx [aX rows,bT cols,dI sg,ah cE]),(8,.ow 22 ((kI c).map bW)),(9,.d (dI c)),(10,.ow 53 ((kv c r).map ah)),(15,.d (dI n)),(16,.d (dI c)),(31,.d (bT cols)),(32,.d (dI cols.length)),(33,.d (dI r))];refine qX 1 rfl ?_;refine qI ?_;refine AW.cond rfl (fun h=>?_) (fun h=>?_)
         · have hrr:r<cols.length:=by have:=aq h;omega
           have hvs:=hvs c r;have hvl:=hvl c r;have hcr:=hc r hrr;have g0:=oX (l:=cols) (i:=r) hrr;have g1:=getM bW (l:=rows) (i:=r) (by omega);have g2:=getM ah (l:=rows.getD r []) (i:=c) (by rw[hr r (by omega)];exact hcn');have cn:=uI V (hl r c) (hs r c);unfold aS at cn hvs;generalize rows.getD r []=row at g1 g2 cn hvs;generalize row.getD c []=x at g2 cn hvs;generalize cols.getD r 0=p at g0 hcr hvs;refine AW.skip (AW.seq (AW.block ?_));refine qX 1 rfl ?_;refine ab.idx tok (dI p) rfl rfl rfl rfl (aj r) g0 ?_;refine qU 3 rfl ?_;refine qI (AW.draw aQ 14 (by kernel_rfl) ?_);refine qP 4 rfl ?_;refine af.idx tok (bW row) rfl rfl rfl rfl rfl (aj r) g1 ?_;refine qP 2 rfl ?_;refine af.idx tok (ah x) rfl rfl rfl rfl rfl (aj c) g2 ?_;refine qP 1 rfl ?_;refine af.call tok rfl rfl rfl rfl rfl cn ?_;refine qP 4 rfl ?_;refine af.nil ?_;refine qU 1 rfl ?_;refine qI (qX 1 rfl ?_);refine ab.err tok rfl rfl rfl rfl rfl ?_;refine ab.nil ?_;refine AW.aA rfl ?_
           · skip
             refine AW.skip (qT 3 rfl ?_);refine ab.fR tok rfl rfl rfl rfl (aj p) (by rw[ae,hvl];omega) ?_;refine ab.m7 tok (ju x) rfl rfl rfl (by rw[hvl];exact hcr) ?_;refine ab.nil ?_;refine qT 1 rfl ?_;rw[aF (x:=(r:Int)+1) (by omega) (by omega)];refine qU 1 rfl ?_;refine ab.nil ?_;exact⟨r+1,by rw[hvs];rfl,hrr,by omega⟩
         have hrr:r=cols.length:=by have:=au h;omega
         subst hrr;refine AW.exit (AW.region ?_);refine ab.fT tok 10 rfl rfl ?_;refine qU 2 rfl ?_;refine ab.fj tok rfl rfl rfl rfl rfl ?_;refine ab.gv tok rfl rfl rfl rfl rfl rfl (by rw[ae];show (_+1)*24≤_;omega) (by rw[ae];show _+1≤_;omega) ?_;refine qU 1 rfl ?_;refine ab.nil ?_;refine qT 1 rfl ?_;rw[aF (x:=(c:Int)+1) (by omega) (by omega)];refine qU 1 rfl ?_;refine ab.nil ?_;exact⟨c+1,by rw[hks,if_neg (by decide),List.map_append];rfl,hcn',by omega⟩
   have hcc:c=n:=by have:=au h;omega
   subst hcc;refine AW.exit (AW.seq (AW.region ?_));refine ab.fT tok 8 rfl rfl ?_;refine qU 3 rfl ?_;exact qN rfl
end Lift
namespace Lift
open Go Go.Proofs
def jk(v:List NQ)(a:a6):NQ:=if (aB v a a.length).cols.length<a.length then [] else if (aB v a a.length).sg<0 then ju (aB v a a.length).cE else (aB v a a.length).cE
theorem wP{v:List NQ}{a:a6}(V:k8 v)(ha:a.length≤1000000)(hr:bk a.length a)(hl:jC v.length a)(ok: ∀c,c<a.length→kZ v (aB v a c) c)(hd:mH (aB v a a.length).cE):Pure Tryz.prog 60 [bt v,aX a] (.tu [ah (jk v a),aP]):=by
 refine qJ 38 Tryz.func60 rfl rfl rfl rfl (by kernel_rfl) (fun B F0 w0=>?_);have cr:=eg V (most:=a.length) ha ha (ak _) hr hl ok;have R:=cY V hr hl a.length;have cn:=uI V R.cE hd;have hcm:=R.cm;unfold jk;generalize aB v a a.length=s at *;obtain ⟨rows,cols,sg,cE⟩:=s;clear R
 dsimp only at hcm cn ⊢
 change Pure _ _ _ (.tu [.ag [aX rows,bT cols,dI sg,ah cE],aP]) at cr;refine qX 3 rfl ?_;refine qK 4 rfl ?_;rw[ae];refine ab.call tok rfl rfl rfl rfl cr ?_;refine qU 6 rfl ?_;refine qI (qX 1 rfl ?_);refine ab.err tok rfl rfl rfl rfl rfl ?_;refine qU 3 rfl ?_;refine qU 1 rfl ?_;rw[ae];refine qU 2 rfl ?_;rw[ae];refine qU 2 rfl ?_;refine ab.nil ?_;refine AW.cond rfl (fun h=>?_) (fun h=>?_)
 · have hc:cols.length<a.length:=by have:=aq h;omega
   rw[if_pos hc];refine qX 3 rfl ?_;exact qN rfl
 · have hc: ¬cols.length<a.length:=by have:=au h;omega
   rw[if_neg hc];refine AW.skip (AW.seq ?_);refine qX 3 rfl ?_;refine ab.nil ?_;refine AW.cond rfl (fun h=>?_) (fun h=>?_)
   · have hs:sg<0:=aq h;rw[if_pos hs];refine qX 3 rfl ?_;refine ab.call tok rfl rfl rfl rfl cn ?_;refine qU 4 rfl ?_;exact qN rfl
   · have hs: ¬sg<0:=au h;rw[if_neg hs];refine AW.skip (qX 4 rfl ?_);exact qN rfl
theorem wQ{v:List NQ}{a:a6}(cc:Pure Tryz.prog 20 [bt v,aX a] aP)(hsq:ao a=a.length)(cd:Pure Tryz.prog 60 [bt v,aX a] (.tu [ah (jk v a),aP])):Pure Tryz.prog 27 [bt v,aX a] (.tu [ah (jk v a),aP]):=by
 refine qJ 24 Tryz.func27 rfl rfl rfl rfl (by kernel_rfl) (fun B F0 w0=>?_);generalize jk v a=d at *;refine qX 3 rfl ?_;refine qI (qX 2 rfl ?_);refine ab.call tok rfl rfl rfl rfl cc ?_;refine qU 1 rfl ?_;refine qK 1 rfl ?_;refine ab.err tok rfl rfl rfl rfl rfl ?_;refine ab.nil ?_;refine AW.aA rfl ?_
 · skip
   refine AW.skip (AW.seq ?_);refine qX 1 rfl ?_;refine ab.call tok rfl rfl rfl rfl (bP a) ?_;refine qU 2 rfl ?_;rw[ae];refine qU 1 rfl ?_;rw[hsq,bne_eq_false_iff_eq.2 rfl];refine ab.nil ?_;refine AW.aA rfl ?_
   · skip
     refine AW.skip (qX 2 rfl ?_);refine ab.call tok rfl rfl rfl rfl cd ?_;refine qU 4 rfl ?_;exact qN rfl
theorem oR{v:List NQ}{xs ys:List NQ}(V:k8 v)(hx: ∀i,aC v.length (xs.getD i []))(hy: ∀i,aC v.length (ys.getD i []))(hl:xs.length≤ys.length)(hl1:xs.length≤1000000)(ok:HC v xs ys xs.length):Pure Tryz.prog 58 [bt v,bW xs,bW ys] (.tu [ah (eD v xs ys xs.length),aP]):=by
 refine qJ 45 Tryz.func58 rfl rfl rfl rfl (by kernel_rfl) (fun B F0 w0=>?_);have h0:eD v xs ys 0=[]:=rfl;have hs: ∀i,eD v xs ys (i+1)=tV (eD v xs ys i) (dK v (xs.getD i []) (ys.getD i [])):=fun i=>rfl;have cm:=fun i (hi:i<xs.length)=>pa V (hx i) (hy i) (ok i hi).1;have ca:=fun i (hi:i<xs.length)=>A4 V (gl V hx hy i) (ja V (hx i) (hy i)) (ok i hi).2;clear ok;generalize eD v xs ys=f at *;refine qX 3 rfl ?_;refine qK 1 rfl ?_;refine qI (AW.seq (AW.region ?_));refine ab.fT tok 8 rfl rfl ?_;refine qU 2 rfl ?_;rw[ae];refine qU 1 rfl ?_;refine ab.nil ?_;refine AW.block ?_;refine AW.aG [1,2,3,8,13,14] (fun i:Nat=>[(1,.d (bW xs)),(2,.d (bW ys)),(3,.bx [.sl 1 (v.map ah)]),(8,.d (ah (f i))),(13,.d (dI xs.length)),(14,.d (dI i))]) (fun i=>i≤xs.length) (fun i=>xs.length-i) 0 (by rw[h0];rfl) (Nat.zero_le _) (fun i hi=>?_)
 · show AW _ _ _ _ _ _ _ [(1,.d (bW xs)),(2,.d (bW ys)),(3,.bx [.sl 1 (v.map ah)]),(8,.d (ah (f i))),(13,.d (dI xs.length)),(14,.d (dI i))];refine qX 1 rfl ?_;refine qI ?_;refine AW.cond rfl (fun h=>?_) (fun h=>?_)
   · have hii:i<xs.length:=by have:=aq h;omega
     have gx:=getM ah (l:=xs) (i:=i) hii;have gy:=getM ah (l:=ys) (i:=i) (by omega);have cm:=cm i hii;have ca:=ca i hii;have hs:=hs i;generalize xs.getD i []=x at gx cm ca hs;generalize ys.getD i []=y at gy cm ca hs;generalize dK v x y=p at *;refine AW.skip (AW.seq (AW.block ?_));refine qX 2 rfl ?_;refine qI (AW.draw aQ 14 (by kernel_rfl) ?_);refine qP 3 rfl ?_;refine af.idx tok (ah x) rfl rfl rfl rfl rfl (aj i) gx ?_;refine qP 3 rfl ?_;refine af.idx tok (ah y) rfl rfl rfl rfl rfl (aj i) gy ?_;refine qP 1 rfl ?_;refine af.call tok rfl rfl rfl rfl rfl cm ?_;refine qP 4 rfl ?_;refine af.nil ?_;refine qU 1 rfl ?_;refine qI (qX 1 rfl ?_);refine ab.err tok rfl rfl rfl rfl rfl ?_;refine ab.nil ?_;refine AW.aA rfl ?_
     · skip
       refine AW.skip (qX 3 rfl ?_);refine ab.call tok rfl rfl rfl rfl ca ?_;refine qU 5 rfl ?_;refine qK 1 rfl ?_;refine ab.err tok rfl rfl rfl rfl rfl ?_;refine ab.nil ?_;refine AW.aA rfl ?_
       · skip
         refine AW.skip (qT 1 rfl ?_);rw[aF (x:=(i:Int)+1) (by omega) (by omega)];refine qU 1 rfl ?_;refine ab.nil ?_;exact⟨i+1,by rw[hs];rfl,hii,by omega⟩
   have hii:i=xs.length:=by have:=au h;omega
   subst hii;refine AW.exit ?_;refine qX 3 rfl ?_;exact qN rfl
def bE(l:Nat)(b:List (List RD)):Nat:=fE (fun i=>bL l (b.getD i [])) (b.length-0) 0
end Lift
namespace Lift
open Go Go.Proofs
theorem sO{rt b:List (List RD)}(hbl:b.length≤1000000)(hbn: ∀i,Pure Tryz.prog 37 [dI rt.length,dC (b.getD i [])] (dI (bL rt.length (b.getD i [])))):
  Pure Tryz.prog 70 [TrD rt,kn b] (dI (fE (fun i=>bL rt.length (b.getD i [])) (b.length-0) 0)):=by
 refine qJ 23 Tryz.func70 rfl rfl rfl rfl (by kernel_rfl) (fun B F0 w0=>?_);obtain ⟨E,hE⟩: ∃E,fE (fun i=>bL rt.length (b.getD i [])) (b.length-0) 0=E:=⟨_,rfl⟩;rw[hE];refine qX 2 rfl ?_;refine qI (qX 2 rfl ?_);rw[ae];refine qU 1 rfl ?_;refine ab.nil ?_;refine AW.block ?_;refine AW.aG [2,8,9,10] (fun i:Nat=>[(2,.bx [.sl 1 (rt.map dC)]),(8,.d (kn b)),(9,.d (dI b.length)),(10,.d (dI i))]) (fun i=>i≤b.length∧fE (fun i=>bL rt.length (b.getD i [])) (b.length-i) i=E) (fun i=>b.length-i) 0 rfl ⟨Nat.zero_le _,hE⟩ (fun i ⟨hi,hiE⟩=>?_)
 · show AW _ _ _ _ _ _ _ [(2,.bx [.sl 1 (rt.map dC)]),(8,.d (kn b)),(9,.d (dI b.length)),(10,.d (dI i))];refine qX 1 rfl ?_;refine qI ?_;refine AW.cond rfl (fun h=>?_) (fun h=>?_)
   · have hii:i<b.length:=by have:=aq h;omega
     have g1:=getM dC (l:=b) (i:=i) hii;have cn:=hbn i;have hmiss:=fun h0:bL rt.length (b.getD i [])=0=>(fU (f:=fun i=>bL rt.length (b.getD i [])) hii h0).symm.trans hiE;have hhit:=fun h0:bL rt.length (b.getD i [])≠0=>(iP (f:=fun i=>bL rt.length (b.getD i [])) hii h0).symm.trans hiE;refine AW.skip (AW.seq (AW.block (AW.seq (AW.region ?_))));refine ab.idx tok (dC (b.getD i [])) rfl rfl rfl rfl (aj i) g1 ?_;refine qU 2 rfl ?_;refine qK 3 rfl ?_;rw[ae];refine qU 1 rfl ?_;refine ab.call tok rfl rfl rfl rfl cn ?_;refine qU 1 rfl ?_;refine qK 2 rfl ?_;refine ab.nil ?_;generalize bL rt.length (b.getD i [])=e at *;refine AW.cond rfl (fun h=>?_) (fun h=>?_)
     · have he:e≠0:=by have:=bne_iff_ne.1 h;omega
       rw[← hhit he];refine qX 2 rfl ?_;exact qN rfl
     · have he:e=0:=by have:=bne_eq_false_iff_eq.1 h;omega
       refine AW.skip (qT 1 rfl ?_);rw[aF (x:=(i:Int)+1) (by omega) (by omega)];refine qU 1 rfl ?_;refine ab.nil ?_;exact⟨i+1,rfl,⟨hii,hmiss he⟩,by omega⟩
   have hii: ¬i<b.length:=by have:=au h;omega
   rw[iR hii] at hiE;subst hiE;refine AW.exit ?_;refine qX 1 rfl ?_;exact qN rfl
theorem zx{rt:List (List RD)}(h0:du rt=0)(r:List (List RD)):lv rt r=fE (fun i=>bL rt.length (r.getD i [])) (r.length-0) 0:=by
 unfold lv;rw[show (fun k=>rb rt [r.getD k []])=fun i=>bL rt.length (r.getD i []) from funext fun k=>yP h0 _]
theorem x7{rt:List (List RD)}{a:List (List (List RD))}(h0:du rt=0)(hal:a.length≤1000000)(har: ∀i,(a.getD i []).length≤1000000)(hbn: ∀i k,Pure Tryz.prog 37 [dI rt.length,dC ((a.getD i []).getD k [])] (dI (bL rt.length ((a.getD i []).getD k [])))):
  Pure Tryz.prog 57 [TrD rt,MxR a] (dI (yx rt a)):=by
 refine qJ 52 Tryz.func57 rfl rfl rfl rfl (by kernel_rfl) (fun B F0 w0=>?_);unfold yx;obtain ⟨E,hE⟩: ∃E,fE (yZ a) (a.length-0) 0=E:=⟨_,rfl⟩;obtain ⟨G,hG⟩: ∃G,fE (fun i=>lv rt (a.getD i [])) (a.length-0) 0=G:=⟨_,rfl⟩;rw[hE,hG];have hc0:ao a=(a.getD 0 []).length:=rfl;have hcl:=har 0;refine qX 2 rfl ?_;refine ab.nil ?_;refine AW.cut [1,2] (fun _:Unit=>[(1,.d (MxR a)),(2,.bx [.sl 1 (rt.map dC)])]) (fun _=>(if a.length=0 then 0 else if 32<a.length∨32<ao a then 4 else if E≠0 then E else G)=if E≠0 then E else G) ?_ (fun _ hr=>?_)
 · refine qX 2 rfl ?_;rw[ae];refine qU 1 rfl ?_;by_cases h1:32<a.length
   · rw[aN (show (32:Int)<(a.length:Int) by omega),if_neg (show ¬a.length=0 by omega),if_pos (.inl h1)];refine qU 12 rfl ?_;refine ab.nil ?_;refine AW.aL rfl ?_;refine qX 1 rfl ?_;exact qN rfl
   rw[aO (show ¬(32:Int)<(a.length:Int) by omega)];refine qU 3 rfl ?_;rw[ae];refine qU 1 rfl ?_;by_cases h0:a.length=0
   · rw[aO (show ¬(0:Int)<(a.length:Int) by omega)];refine qU 8 rfl ?_;refine ab.nil ?_;refine AW.aA rfl ?_;refine AW.skip ?_;refine⟨(),rfl,?_⟩;have e1:E=0:=by rw[← hE,h0];rfl
     have e2:G=0:=by rw[← hG,h0];rfl
     rw[if_pos h0,e1,e2,if_neg (by decide)]
   rw[aN (show (0:Int)<(a.length:Int) by omega)];have g0:=getM kn (l:=a) (i:=0) (by omega);refine qU 2 rfl ?_;refine ab.idx tok (kn (a.getD 0 [])) rfl rfl rfl rfl (Int.le_refl _) g0 ?_;refine qU 2 rfl ?_;rw[ae];refine qU 1 rfl ?_;by_cases h2:32<ao a
   · rw[aN (show (32:Int)<((a.getD 0 []).length:Int) by omega),if_neg h0,if_pos (.inr h2)];refine qU 2 rfl ?_;refine ab.nil ?_;refine AW.aL rfl ?_;refine qX 1 rfl ?_;exact qN rfl
   rw[aO (show ¬(32:Int)<((a.getD 0 []).length:Int) by omega)];refine qU 2 rfl ?_;refine ab.nil ?_;refine AW.aA rfl ?_;refine AW.skip ?_;exact⟨(),rfl,by rw[if_neg h0,if_neg (fun g=>g.elim h1 h2)]⟩
 rw[hr]
 · show AW _ _ _ _ _ _ _ [(1,.d (MxR a)),(2,.bx [.sl 1 (rt.map dC)])];refine AW.seq (qX 2 rfl ?_);rw[ae];refine qU 1 rfl ?_;refine ab.nil ?_;refine AW.block ?_;refine AW.aG [1,2,25,26,27] (fun i:Nat=>[(1,.d (MxR a)),(2,.bx [.sl 1 (rt.map dC)]),(25,.d (MxR a)),(26,.d (dI a.length)),(27,.d (dI i))]) (fun i=>i≤a.length∧fE (yZ a) (a.length-i) i=E) (fun i=>a.length-i) 0 rfl ⟨Nat.zero_le _,hE⟩ (fun i ⟨hi,hiE⟩=>?_)
   · show AW _ _ _ _ _ _ _ [(1,.d (MxR a)),(2,.bx [.sl 1 (rt.map dC)]),(25,.d (MxR a)),(26,.d (dI a.length)),(27,.d (dI i))];refine qX 1 rfl ?_;refine qI ?_;refine AW.cond rfl (fun h=>?_) (fun h=>?_)
     · have hii:i<a.length:=by have:=aq h;omega
       have hg:=getM kn (l:=a) (i:=i) hii;have g0:=getM kn (l:=a) (i:=0) (by omega);have hri:=har i;have hmiss:=fun h0:yZ a i=0=>(fU hii h0).symm.trans hiE;have hhit:=fun h0:yZ a i≠0=>(iP hii h0).symm.trans hiE;refine AW.skip (AW.seq (AW.block (AW.seq (AW.region ?_))));refine ab.idx tok (kn (a.getD i [])) rfl rfl rfl rfl (aj i) hg ?_;refine qU 2 rfl ?_;refine qK 2 rfl ?_;rw[ae];refine qU 1 rfl ?_;refine ab.idx tok (kn (a.getD 0 [])) rfl rfl rfl rfl (Int.le_refl _) g0 ?_;refine qU 2 rfl ?_;rw[ae];refine qU 1 rfl ?_;refine ab.nil ?_;refine AW.cond rfl (fun h=>?_) (fun h=>?_)
       · have hne:(a.getD i []).length≠ao a:=by have:=bne_iff_ne.1 h;omega
         have e:yZ a i=10:=if_pos hne;have:=hhit (by rw[e];decide);rw[e] at this;subst this;rw[if_pos (by decide)];refine qX 1 rfl ?_;exact qN rfl
       · have heq:(a.getD i []).length=ao a:=by have:=bne_eq_false_iff_eq.1 h;omega
         have e:yZ a i=0:=if_neg (fun h=>h heq);refine AW.skip (qT 1 rfl ?_);rw[aF (x:=(i:Int)+1) (by omega) (by omega)];refine qU 1 rfl ?_;refine ab.nil ?_;exact⟨i+1,rfl,⟨hii,hmiss e⟩,by omega⟩
     have hii: ¬i<a.length:=by have:=au h;omega
     rw[iR hii] at hiE;subst hiE;rw[if_neg (by decide)];refine AW.exit (AW.seq ?_);refine qX 2 rfl ?_;rw[ae];refine qU 1 rfl ?_;refine ab.nil ?_;refine AW.block ?_;refine AW.aG [2,39,40,41] (fun i:Nat=>[(2,.bx [.sl 1 (rt.map dC)]),(39,.d (MxR a)),(40,.d (dI a.length)),(41,.d (dI i))]) (fun i=>i≤a.length∧fE (fun i=>lv rt (a.getD i [])) (a.length-i) i=G) (fun i=>a.length-i) 0 rfl ⟨Nat.zero_le _,hG⟩ (fun i ⟨hi,hiG⟩=>?_)
     · show AW _ _ _ _ _ _ _ [(2,.bx [.sl 1 (rt.map dC)]),(39,.d (MxR a)),(40,.d (dI a.length)),(41,.d (dI i))];refine qX 1 rfl ?_;refine qI ?_;refine AW.cond rfl (fun h=>?_) (fun h=>?_)
       · have hii:i<a.length:=by have:=aq h;omega
         have hg:=getM kn (l:=a) (i:=i) hii;have cl:=sO (har i) (hbn i);rw[← zx h0] at cl;have hmiss:=fun h0:lv rt (a.getD i [])=0=>(fU (f:=fun i=>lv rt (a.getD i [])) hii h0).symm.trans hiG;have hhit:=fun h0:lv rt (a.getD i [])≠0=>(iP (f:=fun i=>lv rt (a.getD i [])) hii h0).symm.trans hiG;refine AW.skip (AW.seq (AW.block (AW.seq (AW.region ?_))));refine ab.idx tok (kn (a.getD i [])) rfl rfl rfl rfl (aj i) hg ?_;refine qU 2 rfl ?_;refine qK 2 rfl ?_;refine ab.call tok rfl rfl rfl rfl cl ?_;refine qU 1 rfl ?_;refine qK 2 rfl ?_;refine ab.nil ?_;generalize lv rt (a.getD i [])=e at *;refine AW.cond rfl (fun h=>?_) (fun h=>?_)
         · have he:e≠0:=by have:=bne_iff_ne.1 h;omega
           rw[← hhit he];refine qX 2 rfl ?_;exact qN rfl
         · have he:e=0:=by have:=bne_eq_false_iff_eq.1 h;omega
           refine AW.skip (qT 1 rfl ?_);rw[aF (x:=(i:Int)+1) (by omega) (by omega)];refine qU 1 rfl ?_;refine ab.nil ?_;exact⟨i+1,rfl,⟨hii,hmiss he⟩,by omega⟩
       have hii: ¬i<a.length:=by have:=au h;omega
       rw[iR hii] at hiG;subst hiG;refine AW.exit ?_;refine qX 1 rfl ?_;exact qN rfl
theorem ya{m:Nat}{rt:List (List RD)}{a:List (List (List RD))}(T:IW m rt)(A:DF m rt a):Pure Tryz.prog 21 [TrD rt,MxR a] (dI (nB rt a)):=by
 refine qJ 14 Tryz.func21 rfl rfl rfl rfl (by kernel_rfl) (fun B F0 w0=>?_);have hm:=T.m2;have cc:=qi rt T.w T.m1 T.l T.ll T.ok;have cw:=fun h0:du rt=0=>x7 h0 A.l A.r (fun i k=>iY rt.length ((a.getD i []).getD k []) (lQ h0).1 (A.n i k).w (by omega) (A.n i k).l);unfold nB;refine qX 2 rfl ?_;refine qI (qX 1 rfl ?_);refine ab.call tok rfl rfl rfl rfl cc ?_;refine qU 1 rfl ?_;refine qK 2 rfl ?_;refine ab.nil ?_;generalize du rt=e at *;refine AW.cond rfl (fun h=>?_) (fun h=>?_)
 · have he:e≠0:=by have:=bne_iff_ne.1 h;omega
   rw[if_pos he];refine qX 2 rfl ?_;exact qN rfl
 · have he:e=0:=by have:=bne_eq_false_iff_eq.1 h;omega
   rw[if_neg (fun g=>g he)];refine AW.skip (qX 2 rfl ?_);refine ab.call tok rfl rfl rfl rfl (cw he) ?_;refine qU 1 rfl ?_;exact qN rfl
end Lift
namespace Lift
open Go Go.Proofs
theorem Du{a b:List Nat}(h:a.length=b.length)(hk: ∀k,k<a.length→a.getD k 0=b.getD k 0):a=b:=by
 refine List.ext_getElem h fun i h1 h2=>?_;have:=hk i h1
 rwa [aE,a8 h1,aE,a8 h2] at this
theorem kX(a b:List Nat)(ha:a.length≤1000000):Pure Tryz.prog 23 [bT a,bT b] (dB (decide (a=b))):=by
 refine qJ 26 Tryz.func23 rfl rfl rfl rfl (by kernel_rfl) (fun B F0 w0=>?_);refine qX 1 rfl ?_;refine qI (qX 5 rfl ?_);rw[ae,ae];refine ab.nil ?_;refine AW.cond rfl (fun h=>?_) (fun h=>?_)
 · have hne:a≠b:=by rintro rfl;simp at h
   rw[aO hne];refine qX 1 rfl ?_;exact qN rfl
 · have hlen:a.length=b.length:=by
    have:(a.length:Int)=b.length:=by simpa using h
    omega
   refine AW.skip (AW.seq ?_);refine qX 1 rfl ?_;refine ab.nil ?_;refine AW.block ?_;refine AW.aG [0,1,5] (fun i:Nat=>[(0,.d (bT a)),(1,.d (bT b)),(5,.d (dI i))]) (fun i=>i≤a.length∧ ∀k,k<i→a.getD k 0=b.getD k 0) (fun i=>a.length-i) 0 rfl ⟨Nat.zero_le _,fun k hk=>by omega⟩ (fun i ⟨hi,hI⟩=>?_)
   · show AW _ _ _ _ _ _ _ [(0,.d (bT a)),(1,.d (bT b)),(5,.d (dI i))];refine AW.seq (qX 3 rfl ?_);rw[ae];refine qU 1 rfl ?_;refine ab.nil ?_;refine AW.cond rfl (fun h=>?_) (fun h=>?_)
     · have hin:i<a.length:=by have:=aq h;omega
       refine AW.skip (AW.seq (AW.block (AW.seq ?_)));refine AW.draw aQ 9 (by kernel_rfl) ?_;refine qP 2 rfl ?_;refine af.idx tok (dI (a.getD i 0)) rfl rfl rfl rfl rfl (aj i) (oX hin) ?_;refine qP 3 rfl ?_;refine af.idx tok (dI (b.getD i 0)) rfl rfl rfl rfl rfl (aj i) (oX (by omega)) ?_;refine qP 2 rfl ?_;refine af.nil ?_;refine ab.nil ?_;refine AW.cond rfl (fun h=>?_) (fun h=>?_)
       · have hne:a≠b:=by rintro rfl;simp at h
         rw[aO hne];refine qX 1 rfl ?_;exact qN rfl
       · have he:a.getD i 0=b.getD i 0:=by have:((a.getD i 0:Nat):Int)=(b.getD i 0:Nat):=bne_eq_false_iff_eq.1 h;omega
         refine AW.skip (qT 2 rfl ?_);rw[aF (x:=(i:Int)+1) (by omega) (by omega)];refine qU 1 rfl ?_;refine ab.nil ?_;refine⟨i+1,rfl,⟨hin,fun k hk=>?_⟩,by omega⟩;rcases Nat.lt_or_ge k i with e | e
         · exact hI k e
         · rw[show k=i by omega];exact he
     have hin: ¬i<a.length:=by have:=au h;omega
     have hab:a=b:=Du hlen (fun k hk=>hI k (by omega));rw[aN hab];refine AW.exit ?_;refine qX 1 rfl ?_;exact qN rfl
theorem A2{v:List NQ}{a b:NQ}(V:k8 v)(ha:aC v.length a)(hb:aC v.length b)(sa:mH a)(sb:mH b)(ok:vm v (aW a (aM b))):Pure Tryz.prog 45 [bt v,ah a,ah b] (.tu [dI (fi v (aW a (aM b))),aP]):=by
 refine qJ 23 Tryz.func45 rfl rfl rfl rfl (by kernel_rfl) (fun B0 F0 w0=>?_);have hl5:=V.l5;have hro:=V.ro;have cc:=nO V ha sa hb sb;have c0:=fo b sb (by omega) (Nat.le_trans (hb.len (by omega)) (by decide));have c1:=dO a (aM b) sa sb.minus (by omega) (Nat.le_trans (ha.len (by omega)) (by decide)) (Nat.le_trans (hb.minus.len (by omega)) (by decide));have c2:=dZ v.length (ha.plus hb.minus) hl5 hro (ak _) (by omega) ok;refine qX 3 rfl ?_;refine qI (qX 3 rfl ?_);refine ab.fj tok rfl rfl rfl rfl rfl ?_;refine ab.call tok rfl rfl rfl rfl cc ?_;refine qU 1 rfl ?_;refine qK 1 rfl ?_;refine ab.err tok rfl rfl rfl rfl rfl ?_;refine ab.nil ?_;refine AW.aA rfl ?_
 · skip
   refine AW.skip (AW.seq ?_);refine AW.draw aQ 6 (by kernel_rfl) ?_;refine qP 3 rfl ?_;refine af.call tok rfl rfl rfl rfl rfl c0 ?_;refine af.call tok rfl rfl rfl rfl rfl c1 ?_;refine af.call tok rfl rfl rfl rfl rfl c2 ?_;refine af.nil ?_;refine qU 2 rfl ?_;exact qN rfl
theorem sX(l:List Int)(hl:l.length≤1000)(hb: ∀i, -1000≤l.getD i 0∧l.getD i 0≤1000):Pure Tryz.prog 44 [.sl 1 (l.map (fun n=>dI n))] (ah (l.map (fun n:Int=>(n:Rat)))):=by
 refine qJ 19 Tryz.func44 rfl rfl rfl rfl (by kernel_rfl) (fun B0 F0 w0=>?_);have hg: ∀i,i<l.length→(l.map (fun n:Int=>dI n))[i]?=some (dI (l.getD i 0)):=fun i hi=>by simp[hi]
 have hts: ∀i,i<l.length→(l.map (fun n:Int=>(n:Rat))).take (i+1)=(l.map (fun n:Int=>(n:Rat))).take i++[((l.getD i 0:Int):Rat)]:=fun i hi=>by
  rw[pb (d:=0) (by rw[ae];exact hi)]
  congr 2
  rw[aE,List.getElem?_map,aE,a8 hi];rfl
 have hta:(l.map (fun n:Int=>(n:Rat))).take l.length=l.map (fun n:Int=>(n:Rat)):=List.take_of_length_le (by rw[ae];exact ak _);generalize l.map (fun n:Int=>(n:Rat))=zs at *;refine qX 1 rfl ?_;refine qK 1 rfl ?_;refine qI (qX 2 rfl ?_);rw[ae];refine qU 1 rfl ?_;refine ab.nil ?_;refine AW.block ?_;refine AW.aG [3,6,7,8] (fun i:Nat=>[(3,.ow 111 (fa (zs.take i))),(6,.d (.sl 1 (l.map (fun n=>dI n)))),(7,.d (dI l.length)),(8,.d (dI i))]) (fun i=>i≤l.length) (fun i=>l.length-i) 0 rfl (Nat.zero_le _) (fun i hi=>?_)
 · show AW _ _ _ _ _ _ _ [(3,.ow 111 (fa (zs.take i))),(6,.d (.sl 1 (l.map (fun n=>dI n)))),(7,.d (dI l.length)),(8,.d (dI i))];refine qX 1 rfl ?_;refine qI ?_;refine AW.cond rfl (fun h=>?_) (fun h=>?_)
   · have hii:i<l.length:=by have:=aq h;omega
     have g1:=hg i hii;have hts:=hts i hii;have hb:=hb i;have c:=lD (l.getD i 0) (by omega) (by omega);generalize l.getD i 0=x at *;refine AW.skip (AW.seq (AW.block (AW.seq (AW.region ?_))));refine ab.idx tok (dI x) rfl rfl rfl rfl (aj i) g1 ?_;refine qU 2 rfl ?_;refine ab.nil ?_;refine qT 2 rfl ?_;refine ab.call tok rfl rfl rfl rfl c ?_;refine ab.fj tok rfl rfl rfl rfl rfl ?_;refine ab.gv tok rfl rfl rfl rfl rfl rfl (by rw[ae,aT];show (_+1)*56≤_;omega) (by rw[ae,aT];show _+1≤_;omega) ?_;refine qU 1 rfl ?_;refine ab.nil ?_;refine qT 1 rfl ?_;rw[aF (x:=(i:Int)+1) (by omega) (by omega)];refine qU 1 rfl ?_;refine ab.nil ?_;exact⟨i+1,by rw[hts,show fa (zs.take i++[(x:Rat)])=fa (zs.take i)++[(Qr (x:Rat)).D] from List.map_append ..];rfl,hii,by omega⟩
   have hii:i=l.length:=by have:=au h;omega
   subst hii;rw[hta];refine AW.exit (AW.seq (AW.region ?_));refine ab.fT tok 3 rfl rfl ?_;refine qU 2 rfl ?_;exact qN rfl
def k9(r:RD):Bool:=match r.n,r.d with
 | [],[]=>true
 | [x],[]=>decide (x≤1000)
 | [],[y]=>decide (y≤12)
 | [x],[y]=>decide (x≤1000)&&decide (y≤12)
 | _,_=>false
theorem DT{r:RD}(h:k9 r=true):r.n.length≤1∧r.d.length≤1:=by
 obtain ⟨g,n,d⟩:=r;unfold k9 at h;rcases n with _ | ⟨x,_ | ⟨x2,n⟩⟩<;>rcases d with _ | ⟨y,_ | ⟨y2,d⟩⟩<;>first | (simp at h;done) | (refine⟨?_,?_⟩<;>simp)
theorem wS(r:RD){k:Nat}(hw:r.w k)(hk:k≤1000000000000000):Pure Tryz.prog 66 [r.D,.v (.int .u32 1000),.v (.int .u32 12)] (dB (k9 r)):=by
 refine qJ 45 Tryz.func66 rfl rfl rfl rfl (by kernel_rfl) (fun B0 F0 w0=>?_);obtain ⟨w1,w2,w3,w4⟩:=hw;obtain ⟨g,n,d⟩:=r;unfold k9
 dsimp only at w3 w4 ⊢
 refine qX 2 rfl ?_;refine qK 3 rfl ?_;rw[ae];refine qU 1 rfl ?_;by_cases h1:n.length<2;rotate_left
 · rw[aO (show ¬(n.length:Int)<2 by omega)];refine qU 35 rfl ?_;refine ab.nil ?_;rcases n with _ | ⟨x,_ | ⟨x2,n⟩⟩
   · exact absurd (show 0<2 by decide) h1
   · exact absurd (show 1<2 by decide) h1
   · exact AW.ret rfl
 rw[aN (show (n.length:Int)<2 by omega)];refine qU 4 rfl ?_;rw[ae];refine qU 1 rfl ?_;by_cases h2:d.length<2;rotate_left
 · rw[aO (show ¬(d.length:Int)<2 by omega)];refine qU 30 rfl ?_;refine ab.nil ?_;rcases d with _ | ⟨x,_ | ⟨x2,d⟩⟩
   · exact absurd (show 0<2 by decide) h2
   · exact absurd (show 1<2 by decide) h2
   · rcases n with _ | ⟨x,_ | ⟨x2,n⟩⟩
     · exact AW.ret rfl
     · exact AW.ret rfl
     · exact AW.ret rfl
 rw[aN (show (d.length:Int)<2 by omega)];rcases n with _ | ⟨x,_ | ⟨x2,n⟩⟩
 · refine qU 16 rfl ?_;rcases d with _ | ⟨y,_ | ⟨y2,d⟩⟩
   · refine qU 14 rfl ?_;exact qN rfl
   · dsimp only
     refine qU 7 rfl ?_;refine ab.idx tok (wd y) rfl rfl rfl rfl (Int.le_refl _) rfl ?_;refine qU 6 rfl ?_;refine ab.nil ?_;rw[show decide (y≤12)=decide ((y:Int)≤12) from decide_eq_decide.2 (by omega)];exact AW.ret rfl
   · exact absurd h2 (by simp)
 · refine qU 9 rfl ?_;refine ab.idx tok (wd x) rfl rfl rfl rfl (Int.le_refl _) rfl ?_;refine qU 6 rfl ?_;rw[show decide ((x:Int)≤1000)=decide (x≤1000) from decide_eq_decide.2 (by omega)];rcases d with _ | ⟨y,_ | ⟨y2,d⟩⟩
   · dsimp only
     generalize decide (x≤1000)=b;cases b
     · refine qU 14 rfl ?_;exact qN rfl
     · refine qU 14 rfl ?_;exact qN rfl
   · dsimp only
     generalize decide (x≤1000)=b;cases b
     · refine qU 14 rfl ?_;exact qN rfl
     · refine qU 7 rfl ?_;refine ab.idx tok (wd y) rfl rfl rfl rfl (Int.le_refl _) rfl ?_;refine qU 6 rfl ?_;refine ab.nil ?_;rw[show decide (y≤12)=decide ((y:Int)≤12) from decide_eq_decide.2 (by omega)];exact AW.ret rfl
   · exact absurd h2 (by simp)
 · exact absurd h1 (by simp)
end Lift
namespace Lift
open Go Go.Proofs
def JP(a:List RD):Prop:=a.length≤4398046511104∧ ∀i,(a.getD i default).w big
def Nb2(b:List (List RD)):Prop:=b.length≤140737488355328∧ ∀i,JP (b.getD i [])
def Nb3(a:List (List (List RD))):Prop:=a.length≤140737488355328∧ ∀i,Nb2 (a.getD i [])
theorem sv{f:Nat→Nat}: ∀{m i:Nat},fE f m i=0→ ∀k,i≤k→k<i+m→f k=0
 | 0,i,_,k,h1,h2=>by omega
 | m+1,i,h,k,h1,h2=>by
   rw[fE] at h;split at h
   · rename_i h0;by_cases e:k=i
     · subst e;exact h0
     · exact sv h k (by omega) (by omega)
   · rename_i h0;exact absurd h h0
theorem yT{α:Type}(g:α→Bool){d:α}{l:List α}{i:Nat}(h:i<l.length):(l.drop i).all g=(g (l.getD i d)&&(l.drop (i+1)).all g):=by
 rw[List.drop_eq_getElem_cons h,List.all_cons,aE,a8 h];rfl
theorem ux{α:Type}(g:α→Bool){l:List α}{i:Nat}(h: ¬i<l.length):(l.drop i).all g=true:=by
 rw[List.drop_eq_nil_of_le (by omega)];rfl
theorem yS{α:Type}{g:α→Bool}{l:List α}(h:l.all g=true){d:α}{i:Nat}(hi:i<l.length):g (l.getD i d)=true:=by
 rw[aE,a8 hi];exact List.all_eq_true.1 h _ (List.getElem_mem hi)
def DH(x:List RD):Bool:=decide (x.length≤4)&&x.all k9
def iJ(l:List (List RD)):Bool:=l.all DH
theorem nG(l:List (List RD))(hl:Nb2 l):Pure Tryz.prog 31 [kn l] (dB (iJ l)):=by
 refine qJ 27 Tryz.func31 rfl rfl rfl rfl (by kernel_rfl) (fun B0 F0 w0=>?_);obtain ⟨hl1,hl2⟩:=hl;obtain ⟨E,hE⟩: ∃E,(l.drop 0).all DH=E:=⟨_,rfl⟩;rw[show iJ l=E from hE];refine qX 1 rfl ?_;refine qI (qX 2 rfl ?_);rw[ae];refine qU 1 rfl ?_;refine ab.nil ?_;refine AW.block ?_;refine AW.aG [7,8,9] (fun i:Nat=>[(7,.d (kn l)),(8,.d (dI l.length)),(9,.d (dI i))]) (fun i=>i≤l.length∧(l.drop i).all DH=E) (fun i=>l.length-i) 0 rfl ⟨Nat.zero_le _,hE⟩ (fun i ⟨hi,hiE⟩=>?_)
 · show AW _ _ _ _ _ _ _ [(7,.d (kn l)),(8,.d (dI l.length)),(9,.d (dI i))];refine qX 1 rfl ?_;refine qI ?_;refine AW.cond rfl (fun h=>?_) (fun h=>?_)
   · have hii:i<l.length:=by have:=aq h;omega
     have g1:=getM dC (l:=l) (i:=i) hii;have hx:=hl2 i;have hat:=(yT DH (d:=[]) hii).symm.trans hiE;change (DH (l.getD i default)&&_)=E at hat;generalize l.getD i default=x at g1 hx hat;obtain ⟨hx1,hx2⟩:=hx;refine AW.skip (AW.seq (AW.block (AW.seq (AW.region ?_))));refine ab.idx tok (dC x) rfl rfl rfl rfl (aj i) g1 ?_;refine qU 2 rfl ?_;refine qI (qX 2 rfl ?_);rw[ae];refine qU 1 rfl ?_;refine ab.nil ?_;refine AW.cond rfl (fun h=>?_) (fun h=>?_)
     · have h4: ¬x.length≤4:=by have:=aq h;omega
       have hs:DH x=false:=by unfold DH;rw[aO h4];rfl
       rw[hs] at hat;rw[← hat];refine qX 1 rfl ?_;exact qN rfl
     · have h4:x.length≤4:=by have:=au h;omega
       obtain ⟨X,hX⟩: ∃X,(x.drop 0).all k9=X:=⟨_,rfl⟩;have hs:DH x=X:=by unfold DH;rw[aN h4];exact hX
       rw[hs] at hat;refine AW.skip (qX 2 rfl ?_);rw[ae];refine qU 1 rfl ?_;refine ab.nil ?_;refine AW.block ?_;refine AW.aG [7,8,9,16,17,18] (fun k:Nat=>[(7,.d (kn l)),(8,.d (dI l.length)),(9,.d (dI i)),(16,.d (dC x)),(17,.d (dI x.length)),(18,.d (dI k))]) (fun k=>k≤x.length∧(x.drop k).all k9=X) (fun k=>x.length-k) 0 rfl ⟨Nat.zero_le _,hX⟩ (fun k ⟨hk,hkX⟩=>?_)
       · show AW _ _ _ _ _ _ _ [(7,.d (kn l)),(8,.d (dI l.length)),(9,.d (dI i)),(16,.d (dC x)),(17,.d (dI x.length)),(18,.d (dI k))];refine qX 1 rfl ?_;refine qI ?_;refine AW.cond rfl (fun h=>?_) (fun h=>?_)
         · have hkk:k<x.length:=by have:=aq h;omega
           have g2:=getM RD.D (l:=x) (i:=k) hkk;have ct:=wS (x.getD k default) (hx2 k) (by unfold big;omega);have hatk:=(yT k9 (d:=default) hkk).symm.trans hkX;generalize x.getD k default=r at g2 ct hatk;refine AW.skip (AW.seq (AW.block (AW.seq (AW.region ?_))));refine ab.idx tok r.D rfl rfl rfl rfl (aj k) g2 ?_;refine qU 3 rfl ?_;refine qK 1 rfl ?_;refine ab.call tok rfl rfl rfl rfl ct ?_;refine qU 1 rfl ?_;refine ab.nil ?_;refine AW.cond rfl (fun h=>?_) (fun h=>?_)
           · have ht:k9 r=false:=by cases g:k9 r;rfl;rw[g] at h;cases h
             rw[ht] at hatk;rw[← hatk] at hat;rw[← hat];refine qX 1 rfl ?_;exact qN rfl
           · have ht:k9 r=true:=by cases g:k9 r;rw[g] at h;cases h;rfl
             rw[ht] at hatk;refine AW.skip (qT 1 rfl ?_);rw[aF (x:=(k:Int)+1) (by omega) (by omega)];refine qU 1 rfl ?_;refine ab.nil ?_;exact⟨k+1,rfl,⟨hkk,hatk⟩,by omega⟩
         have hkk: ¬k<x.length:=by have:=au h;omega
         rw[ux k9 hkk] at hkX;rw[← hkX] at hat;refine AW.exit ?_;refine qT 1 rfl ?_;rw[aF (x:=(i:Int)+1) (by omega) (by omega)];refine qU 1 rfl ?_;refine ab.nil ?_;exact⟨i+1,rfl,⟨hii,hat⟩,by omega⟩
   have hii: ¬i<l.length:=by have:=au h;omega
   rw[ux DH hii] at hiE;rw[← hiE];refine AW.exit ?_;refine qX 1 rfl ?_;exact qN rfl
def jr(n:Nat):Bool:=(decide (4<n)&&decide (n≤32))||decide (40<n)
def yY(r:List (List RD)):Bool:= !(jr r.length|| !iJ r)
def pd(a:List (List (List RD))):Bool:= !jr a.length&&a.all yY
theorem nF(a:List (List (List RD)))(ha:Nb3 a):Pure Tryz.prog 11 [MxR a] (dB (pd a)):=by
 refine qJ 43 Tryz.func11 rfl rfl rfl rfl (by kernel_rfl) (fun B0 F0 w0=>?_);obtain ⟨ha1,ha2⟩:=ha;obtain ⟨E,hE⟩: ∃E,(a.drop 0).all yY=E:=⟨_,rfl⟩;unfold pd;rw[show a.all yY=E from hE];refine qX 1 rfl ?_;refine ab.nil ?_;refine AW.cut [0] (fun _:Unit=>[(0,.d (MxR a))]) (fun _=>jr a.length=false) ?_ (fun _ hs=>?_)
 · refine qX 2 rfl ?_;rw[ae];refine qU 1 rfl ?_;by_cases hp:4<a.length
   · rw[aN (show (4:Int)<(a.length:Int) by omega)];refine qU 3 rfl ?_;rw[ae];refine qU 1 rfl ?_;by_cases hq:a.length≤32
     · rw[aN (show (a.length:Int)≤32 by omega)];have hz:jr a.length=true:=by unfold jr;rw[aN hp,aN hq];rfl
       refine qU 6 rfl ?_;rw[hz];refine ab.nil ?_;refine AW.aL rfl ?_;refine qX 1 rfl ?_;exact qN rfl
     · rw[aO (show ¬(a.length:Int)≤32 by omega)];refine qU 4 rfl ?_;rw[ae];refine qU 1 rfl ?_;by_cases hr:40<a.length
       · rw[aN (show (40:Int)<(a.length:Int) by omega)];have hz:jr a.length=true:=by unfold jr;rw[aN hp,aO hq,aN hr];rfl
         refine qU 1 rfl ?_;rw[hz];refine ab.nil ?_;refine AW.aL rfl ?_;refine qX 1 rfl ?_;exact qN rfl
       · rw[aO (show ¬(40:Int)<(a.length:Int) by omega)];have hz:jr a.length=false:=by unfold jr;rw[aN hp,aO hq,aO hr];rfl
         refine qU 1 rfl ?_;refine ab.nil ?_;refine AW.aA rfl ?_;refine AW.skip ?_;exact⟨(),rfl,hz⟩
   · rw[aO (show ¬(4:Int)<(a.length:Int) by omega)];refine qU 7 rfl ?_;refine qU 1 rfl ?_;rw[ae];refine qU 1 rfl ?_;by_cases hr:40<a.length
     · rw[aN (show (40:Int)<(a.length:Int) by omega)];have hz:jr a.length=true:=by unfold jr;rw[aO hp,aN hr];rfl
       refine qU 1 rfl ?_;rw[hz];refine ab.nil ?_;refine AW.aL rfl ?_;refine qX 1 rfl ?_;exact qN rfl
     · rw[aO (show ¬(40:Int)<(a.length:Int) by omega)];have hz:jr a.length=false:=by unfold jr;rw[aO hp,aO hr];rfl
       refine qU 1 rfl ?_;refine ab.nil ?_;refine AW.aA rfl ?_;refine AW.skip ?_;exact⟨(),rfl,hz⟩
 rw[hs,show (!false&&E)=E from rfl]
 · show AW _ _ _ _ _ _ _ [(0,.d (MxR a))];refine AW.seq (qX 2 rfl ?_);rw[ae];refine qU 1 rfl ?_;refine ab.nil ?_;refine AW.block ?_;refine AW.aG [18,19,20] (fun i:Nat=>[(18,.d (MxR a)),(19,.d (dI a.length)),(20,.d (dI i))]) (fun i=>i≤a.length∧(a.drop i).all yY=E) (fun i=>a.length-i) 0 rfl ⟨Nat.zero_le _,hE⟩ (fun i ⟨hi,hiE⟩=>?_)
   · show AW _ _ _ _ _ _ _ [(18,.d (MxR a)),(19,.d (dI a.length)),(20,.d (dI i))];refine qX 1 rfl ?_;refine qI ?_;refine AW.cond rfl (fun h=>?_) (fun h=>?_)
     · have hii:i<a.length:=by have:=aq h;omega
       have g1:=getM kn (l:=a) (i:=i) hii;have cs:=nG (a.getD i []) (ha2 i);have hr1:=(ha2 i).1;have hat:=(yT yY (d:=[]) hii).symm.trans hiE;change (yY (a.getD i default)&&_)=E at hat;change Pure _ _ [kn (a.getD i default)] (dB (iJ (a.getD i default))) at cs;change (a.getD i default).length≤_ at hr1;generalize a.getD i default=r at g1 hat cs hr1;refine AW.skip (AW.seq (AW.block (AW.seq (AW.region ?_))));refine ab.idx tok (kn r) rfl rfl rfl rfl (aj i) g1 ?_;refine qU 2 rfl ?_;refine qK 2 rfl ?_;rw[ae];refine qU 1 rfl ?_;by_cases hp:4<r.length
       · rw[aN (show (4:Int)<(r.length:Int) by omega)];refine qU 3 rfl ?_;rw[ae];refine qU 1 rfl ?_;by_cases hq:r.length≤32
         · rw[aN (show (r.length:Int)≤32 by omega)];have hz:jr r.length=true:=by unfold jr;rw[aN hp,aN hq];rfl
           refine qU 11 rfl ?_;have hm:yY r=false:=by unfold yY;rw[hz];rfl
           rw[hm] at hat;rw[← hat];refine ab.nil ?_;refine AW.aL rfl ?_;refine qX 1 rfl ?_;exact qN rfl
         · rw[aO (show ¬(r.length:Int)≤32 by omega)];refine qU 4 rfl ?_;rw[ae];refine qU 1 rfl ?_;by_cases hr:40<r.length
           · rw[aN (show (40:Int)<(r.length:Int) by omega)];have hz:jr r.length=true:=by unfold jr;rw[aN hp,aO hq,aN hr];rfl
             refine qU 6 rfl ?_;have hm:yY r=false:=by unfold yY;rw[hz];rfl
             rw[hm] at hat;rw[← hat];refine ab.nil ?_;refine AW.aL rfl ?_;refine qX 1 rfl ?_;exact qN rfl
           · rw[aO (show ¬(40:Int)<(r.length:Int) by omega)];have hz:jr r.length=false:=by unfold jr;rw[aN hp,aO hq,aO hr];rfl
             refine qU 3 rfl ?_;refine ab.call tok rfl rfl rfl rfl cs ?_;refine qU 2 rfl ?_;refine ab.nil ?_;have hm:yY r=iJ r:=by unfold yY;rw[hz];cases iJ r<;>rfl
             rw[hm] at hat;generalize iJ r=s at *;cases s with
             | false =>
               rw[← hat];refine AW.aL rfl ?_;refine qX 1 rfl ?_;exact qN rfl
             | true =>
               refine AW.aA rfl ?_;refine AW.skip (qT 1 rfl ?_);rw[aF (x:=(i:Int)+1) (by omega) (by omega)];refine qU 1 rfl ?_;refine ab.nil ?_;exact⟨i+1,rfl,⟨hii,hat⟩,by omega⟩
       · rw[aO (show ¬(4:Int)<(r.length:Int) by omega)];refine qU 7 rfl ?_;refine qU 1 rfl ?_;rw[ae];refine qU 1 rfl ?_;by_cases hr:40<r.length
         · rw[aN (show (40:Int)<(r.length:Int) by omega)];have hz:jr r.length=true:=by unfold jr;rw[aO hp,aN hr];rfl
           refine qU 6 rfl ?_;have hm:yY r=false:=by unfold yY;rw[hz];rfl
           rw[hm] at hat;rw[← hat];refine ab.nil ?_;refine AW.aL rfl ?_;refine qX 1 rfl ?_;exact qN rfl
         · rw[aO (show ¬(40:Int)<(r.length:Int) by omega)];have hz:jr r.length=false:=by unfold jr;rw[aO hp,aO hr];rfl
           refine qU 3 rfl ?_;refine ab.call tok rfl rfl rfl rfl cs ?_;refine qU 2 rfl ?_;refine ab.nil ?_;have hm:yY r=iJ r:=by unfold yY;rw[hz];cases iJ r<;>rfl
           rw[hm] at hat;generalize iJ r=s at *;cases s with
           | false =>
             rw[← hat];refine AW.aL rfl ?_;refine qX 1 rfl ?_;exact qN rfl
           | true =>
             refine AW.aA rfl ?_;refine AW.skip (qT 1 rfl ?_);rw[aF (x:=(i:Int)+1) (by omega) (by omega)];refine qU 1 rfl ?_;refine ab.nil ?_;exact⟨i+1,rfl,⟨hii,hat⟩,by omega⟩
     have hii: ¬i<a.length:=by have:=au h;omega
     rw[ux yY hii] at hiE;rw[← hiE];refine AW.exit ?_;refine qX 1 rfl ?_;exact qN rfl
def Ah(rt:List (List RD)):Bool:=(decide (rt.length≤1)||(decide (5<rt.length)&&decide (rt.length<9)))&&iJ rt
theorem yC(rt:List (List RD))(hr:Nb2 rt):Pure Tryz.prog 10 [TrD rt] (dB (Ah rt)):=by
 refine qJ 24 Tryz.func10 rfl rfl rfl rfl (by kernel_rfl) (fun B0 F0 w0=>?_);have cs:=nG rt hr;have hr1:=hr.1;unfold Ah;generalize iJ rt=s at cs ⊢;refine qX 2 rfl ?_;refine qK 3 rfl ?_;rw[ae];refine qU 1 rfl ?_;by_cases h1:rt.length≤1
 · rw[aN (show (rt.length:Int)≤1 by omega),aN h1];refine qU 15 rfl ?_;refine ab.call tok rfl rfl rfl rfl cs ?_;refine qU 2 rfl ?_;exact qN rfl
 rw[aO (show ¬(rt.length:Int)≤1 by omega),aO h1];refine qU 4 rfl ?_;rw[ae];refine qU 1 rfl ?_;by_cases h2:5<rt.length;rotate_left
 · rw[aO (show ¬(5:Int)<(rt.length:Int) by omega),aO h2];refine qU 13 rfl ?_;exact qN rfl
 rw[aN (show (5:Int)<(rt.length:Int) by omega),aN h2];refine qU 4 rfl ?_;rw[ae];refine qU 1 rfl ?_;by_cases h3:rt.length<9;rotate_left
 · rw[aO (show ¬(rt.length:Int)<9 by omega),aO h3];refine qU 8 rfl ?_;exact qN rfl
 rw[aN (show (rt.length:Int)<9 by omega),aN h3];refine qU 5 rfl ?_;refine ab.call tok rfl rfl rfl rfl cs ?_;refine qU 2 rfl ?_;exact qN rfl
theorem H9{x:List RD}(h:DH x=true)(nb:JP x):x.length≤4∧wN 2 x:=by
 unfold DH at h;rw[Bool.and_eq_true] at h;refine⟨aq h.1,fun i hi=>?_⟩;obtain ⟨t1,t2⟩:=DT (yS h.2 (d:=default) hi);obtain ⟨w1,w2,w3,w4⟩:=nb.2 i;exact⟨w1,w2,by omega,by omega⟩
theorem EH:JP []:=⟨Nat.zero_le _,fun _=>⟨fun _ h=>(by cases h),fun _ h=>(by cases h),Nat.zero_le _,Nat.zero_le _⟩⟩
theorem DM(k:Nat):wN k []:=fun i hi=>absurd hi (Nat.not_lt_zero i)
theorem rD{l:List (List RD)}(h:iJ l=true)(nb:Nb2 l)(i:Nat):(l.getD i []).length≤4∧wN 2 (l.getD i []):=by
 by_cases hi:i<l.length
 · exact H9 (yS h (d:=[]) hi) (nb.2 i)
 · rw[aE,List.getElem?_eq_none (by omega)];exact⟨Nat.zero_le _,DM 2⟩
theorem Cw{rt:List (List RD)}(h:Ah rt=true)(nb:Nb2 rt):IW 2 rt∧(rt.length≤5→rt.length≤1):=by
 unfold Ah at h;rw[Bool.and_eq_true,Bool.or_eq_true,Bool.and_eq_true] at h;obtain ⟨h1,h2⟩:=h
 have hl:rt.length<9∧(rt.length≤5→rt.length≤1):=by
  rcases h1 with h1 | ⟨h1,h3⟩
  · have:=aq h1;omega
  · have:=aq h1;have:=aq h3;omega
 refine⟨⟨fun i _ _=>(rD h2 nb i).2,by decide,by omega,fun i _=>by have:=(rD h2 nb i).1;omega,fun h5=>me (hl.2 h5) (by decide),by decide⟩,hl.2⟩
theorem ES{rt:List (List RD)}(h:Ah rt=true)(nb:Nb2 rt)(h0:du rt=0):Hr 2 rt∧rt.length≤1:=by
 obtain ⟨T,h1⟩:=Cw h nb;have h5:=(lQ h0).1;exact⟨⟨⟨2,by decide,ak _,T.w,T.ok⟩,by decide,T.l,T.ll⟩,h1 h5⟩
theorem l3{rt:List (List RD)}{a:List (List (List RD))}(h:pd a=true)(nb:Nb3 a):DF 2 rt a∧(a.length≤32→a.length≤4)∧(∀i,(a.getD i []).length≤32→(a.getD i []).length≤4):=by
 unfold pd at h;rw[Bool.and_eq_true] at h
 have sz: ∀n,(!jr n)=true→n≤40∧(n≤32→n≤4):=fun n hn=>by
  unfold jr at hn;simp at hn;omega
 have hr: ∀i,(a.getD i []).length≤40∧((a.getD i []).length≤32→(a.getD i []).length≤4)∧ ∀k,((a.getD i []).getD k []).length≤4∧wN 2 ((a.getD i []).getD k []):=fun i=>by
  by_cases hi:i<a.length
  · have g:=yS h.2 (d:=[]) hi;unfold yY at g;rw[Bool.not_or,Bool.not_not,Bool.and_eq_true] at g;have s1:=sz _ g.1;exact⟨s1.1,s1.2,fun k=>rD g.2 (nb.2 i) k⟩
  · rw[aE,List.getElem?_eq_none (by omega)];exact⟨Nat.zero_le _,fun _=>Nat.zero_le _,fun k=>⟨Nat.zero_le _,DM 2⟩⟩
 have s0:=sz _ h.1;exact⟨⟨fun i k=>⟨fun _=>((hr i).2.2 k).2,by have:=((hr i).2.2 k).1;omega⟩,by omega,fun i=>by have:=(hr i).1;omega⟩,s0.2,fun i=>(hr i).2.1⟩
def b9(a:List (List (List RD))):a6:=a.map fun r=>r.map bb
theorem gd(a:List (List (List RD))):(b9 a).length=a.length:=ae ..
theorem nC(a:List (List (List RD)))(i:Nat):(b9 a).getD i []=(a.getD i []).map bb:=by
 unfold b9;rw[aE,List.getElem?_map,aE];cases a[i]? with
 | none=>rfl
 | some r=>rfl
theorem zw(r:List (List RD))(k:Nat):(r.map bb).getD k []=bb (r.getD k []):=by
 rw[aE,List.getElem?_map,aE];cases r[k]? with
 | none=>rfl
 | some x=>rfl
theorem jW(a:List (List (List RD))):ao (b9 a)=ao a:=by unfold ao;rw[nC,ae]
structure Acc (rt:List (List RD)) (a:List (List (List RD))) (v:List NQ) (q:a6):Prop where
 L:Lo v
 G:rq v q
 s:il 2 q
 l4:q.length≤4
 c4:ao q≤4
 t:TrD rt=bt v
 m:MxR a=aX q
 vl:v.length=rt.length
 al:q.length=a.length
 ac:ao q=ao a
theorem Gy{rt:List (List RD)}{r:List (List RD)}(h0:du rt=0)(h:lv rt r=0){k:Nat}(hk:k<r.length):bL rt.length (r.getD k [])=0:=by
 rw[zx h0] at h;exact sv h k (Nat.zero_le _) (by omega)
theorem Hq{rt:List (List RD)}(h1:Ah rt=true)(n1:Nb2 rt)(h0:du rt=0):Lo (rt.map bb)∧TrD rt=bt (rt.map bb):=by
 obtain ⟨T,l1⟩:=ES h1 n1 h0;exact⟨⟨j5.of T h0,by rw[ae];exact l1⟩,(Hv T h0).eq⟩
theorem Cp{rt:List (List RD)}{r:List (List RD)}(hn: ∀k,DE 2 rt (r.getD k []))(h: ∀k,k<r.length→bL rt.length (r.getD k [])=0):kn r=bW (r.map bb)∧(∀k,aC rt.length ((r.map bb).getD k []))∧(∀k,ay 2 ((r.map bb).getD k [])):=by
 have g:=fun k (hk:k<r.length)=>Ik (by decide) (hn k) (h k hk);refine⟨?_,fun k=>?_,fun k=>?_⟩
 · show D.sl 1 (r.map dC)=D.sl 1 ((r.map bb).map ah);rw[List.map_map]
   congr 1
   refine List.map_congr_left fun x hx=>?_;obtain ⟨k,hk,e⟩:=List.getElem_of_mem hx;have:=(g k hk).2.2;rw[aE,a8 hk] at this;rw[← e];exact this
 · rw[zw];by_cases hk:k<r.length
   · exact(g k hk).1
   · rw[aE,List.getElem?_eq_none (by omega)];exact bm _
 · rw[zw];by_cases hk:k<r.length
   · exact(g k hk).2.1
   · rw[aE,List.getElem?_eq_none (by omega)];exact bn (by decide)
theorem IU{rt:List (List RD)}{a:List (List (List RD))}(h1:Ah rt=true)(n1:Nb2 rt)(h2:pd a=true)(n2:Nb3 a)(h:nB rt a=0):Acc rt a (rt.map bb) (b9 a):=by
 have h0:du rt=0:=by
  unfold nB at h;split at h
  · rename_i g;exact absurd h g
  · omega
 have hm:yx rt a=0:=by
  unfold nB at h;rw[if_neg (by rw[h0];simp)] at h;exact h
 obtain ⟨L,ht⟩:=Hq h1 n1 h0;obtain ⟨M,l4,r4⟩:=l3 (rt:=rt) h2 n2
 have key:a.length≤4∧ao a≤4∧(∀j,j<a.length→(a.getD j []).length=ao a)∧(∀j,j<a.length→lv rt (a.getD j [])=0):=by
  unfold yx at hm;by_cases e0:a.length=0
  · refine⟨by omega,?_,fun j hj=>by omega,fun j hj=>by omega⟩;unfold ao;rw[aE,List.getElem?_eq_none (by omega)];exact Nat.zero_le _
  · rw[if_neg e0] at hm;by_cases e1:32<a.length∨32<ao a
    · rw[if_pos e1] at hm;cases hm
    · rw[if_neg e1] at hm;have e2:fE (yZ a) (a.length-0) 0=0:=Classical.byContradiction fun g=>by rw[if_pos g] at hm;exact g hm
      rw[if_neg (by rw[e2];simp)] at hm;refine⟨l4 (by omega),r4 0 (show ao a≤32 by omega),fun j hj=>?_,fun j hj=>sv hm j (Nat.zero_le _) (by omega)⟩;have:=sv e2 j (Nat.zero_le _) (by omega);unfold yZ at this;exact Classical.byContradiction fun g=>by rw[if_pos g] at this;cases this
 obtain ⟨k1,k2,k3,k4⟩:=key;have rw1:=fun i (hi:i<a.length)=>Cp (M.n i) (fun k hk=>Gy h0 (k4 i hi) hk);have hvl:(rt.map bb).length=rt.length:=ae ..
 have el: ∀i k,aC rt.length (aS (b9 a) i k)∧ay 2 (aS (b9 a) i k):=fun i k=>by
  by_cases hi:i<a.length
  · have:=rw1 i hi;unfold aS;rw[nC];exact⟨this.2.1 k,this.2.2 k⟩
  · unfold aS;rw[gk (by rw[gd];omega)];exact⟨bm _,bn (by decide)⟩
 refine⟨L,⟨by rw[gd];omega,fun j hj=>?_,by rw[jW];omega,fun i k=>by rw[hvl];exact(el i k).1⟩,fun i k=>(el i k).2,by rw[gd];exact k1,by rw[jW];exact k2,ht,?_,hvl,gd a,jW a⟩
 · rw[gd] at hj;rw[nC,ae,jW];exact k3 j hj
 · show D.sl 1 (a.map kn)=D.sl 1 ((b9 a).map bW);unfold b9;rw[List.map_map]
   congr 1
   refine List.map_congr_left fun r hr=>?_;obtain ⟨k,hk,e⟩:=List.getElem_of_mem hr;have:=(rw1 k hk).1;rw[aE,a8 hk] at this;rw[← e];exact this
end Lift
namespace Lift
open Go Go.Proofs
theorem Ju:RT Tryz.prog 53 (List RD) (fun l=>[dC l]) (fun l=>JP l) :=
 (RT.sliceB 32 (el:=RD.D) (s:=3) Tryz.underlying53 (by kernel_rfl) (by kernel_rfl) (by decide) (Nat.le_of_ble_eq_true (by kernel_rfl)) Ja (fun v=>rfl)).map id (fun l h=>rfl) (fun l h=>⟨by have:=h.1;unfold reachBytes at this;show l.length≤_;omega,yG (fun v hv=>(h.2 v hv).mono (by decide)) ⟨fun _ h=>(by cases h),fun _ h=>(by cases h),Nat.zero_le _,Nat.zero_le _⟩⟩) (fun v=>⟨by kernel_rfl,fun d hd=>by simp at hd;subst hd;rfl⟩)
theorem EJ:RT Tryz.prog 22 (List (List RD)) (fun l=>[kn l]) (fun l=>Nb2 l) :=
 (RT.slice (el:=dC) (s:=1) (by kernel_rfl) (by kernel_rfl) (by kernel_rfl) (by decide) (Nat.le_of_ble_eq_true (by kernel_rfl)) Ju (fun v=>rfl)).map id (fun l h=>rfl) (fun l h=>⟨Nat.le_trans h.1 (by decide),fun i=>yG (p:=JP) (l:=l) h.2 EH i⟩) (fun v=>⟨by kernel_rfl,fun d hd=>by simp at hd;subst hd;rfl⟩)
theorem GS:Nb2 []:=⟨Nat.zero_le _,fun _=>EH⟩
theorem n_mat:RT Tryz.prog 25 (List (List (List RD))) (fun l=>[MxR l]) (fun l=>Nb3 l) :=
 (RT.slice (el:=kn) (s:=1) (by kernel_rfl) (by kernel_rfl) (by kernel_rfl) (by decide) (Nat.le_of_ble_eq_true (by kernel_rfl)) EJ (fun v=>rfl)).map id (fun l h=>rfl) (fun l h=>⟨Nat.le_trans h.1 (by decide),fun i=>yG (p:=Nb2) (l:=l) h.2 GS i⟩) (fun v=>⟨by kernel_rfl,fun d hd=>by simp at hd;subst hd;rfl⟩)
theorem n_tower:RT Tryz.prog 24 (List (List RD)) (fun l=>[kn l]) (fun l=>Nb2 l):=by
 have h:=RT.struct (P:=Tryz.prog) (t:=24) (m:=1) Tryz.underlying24 (by kernel_rfl) (RTF.cons (by kernel_rfl) EJ RTF.nil) (fun v=>rfl);exact h.map (fun v=>v.1) (fun v h=>rfl) (fun v h=>h.1) (fun v=>⟨by kernel_rfl,fun d hd=>by simp at hd;subst hd;rfl⟩)
theorem n_ints:RT Tryz.prog 35 (List Int) (fun l=>[.sl 1 (l.map (fun n=>dI n))]) (fun l=>l.length≤140737488355328) :=
 (RT.slice (el:=fun n:Int=>dI n) (s:=1) (by kernel_rfl) (by kernel_rfl) (by kernel_rfl) (by decide) (Nat.le_of_ble_eq_true (by kernel_rfl)) Jb (fun v=>rfl)).map id (fun l h=>rfl) (fun l h=>Nat.le_trans h.1 (by decide)) (fun v=>⟨by kernel_rfl,fun d hd=>by simp at hd;subst hd;rfl⟩)
end Lift
namespace Lift
section
variable {K:Fd}
def dX(a:Nat):Px:= .v a*(.v (a+4)* .v (a+8) - .v (a+5)* .v (a+7)) - .v (a+1)*(.v (a+3)* .v (a+8) - .v (a+5)* .v (a+6))+ .v (a+2)*(.v (a+3)* .v (a+7) - .v (a+4)* .v (a+6))
end
theorem IN{l:List Nat}{N:Nat}(hN:l.length=N)(asc: ∀p q,p<q→q<l.length→l.getD p 0<l.getD q 0)(lt: ∀x∈l,x<N): ∀p,p<N→l.getD p 0=p:=by
 have l2: ∀p,p<N→l.getD p 0<N:=fun p hp=>by
  have hp':p<l.length:=by omega
  rw[aE,a8 hp'];exact lt _ (List.getElem_mem hp')
 have up: ∀p,p<N→p≤l.getD p 0:=fun p=>by
  induction p with
  | zero=>exact fun _=>Nat.zero_le _
  | succ p ih =>
    intro hp;have:=asc p (p+1) (Nat.lt_succ_self p) (by omega);have:=ih (by omega);omega
 have dn: ∀d p,p+d+1=N→l.getD p 0+d<N:=fun d=>by
  induction d with
  | zero=>exact fun p hp=>l2 p (by omega)
  | succ d ih =>
    intro p hp;have:=asc p (p+1) (Nat.lt_succ_self p) (by omega);have:=ih (p+1) (by omega);omega
 intro p hp;have:=up p hp;have:=dn (N-1-p) p (by omega);omega
section
variable {v:List NQ} (V:k8 v) (F:FV v) {a:a6}
include V in
theorem Ei{N:Nat}(hr:bk N a)(hl:jC v.length a): ∀c,c≤N→F.val (aB v a c).cE≠0
 | 0,_=>by
   show F.val [1]≠0;rw[F.one];exact F.K.ne
 | c+1,hc=>by
   have ih:=Ei hr hl c (by omega);have R:=cY V hr hl c;have hlen:=R.len;obtain ⟨a1,a2,a3,a4⟩:=gg v (aB v a c) c (by have:=R.cm;omega);show F.val (cT v (aB v a c) c).cE≠0;unfold cT;by_cases h:atR v (aB v a c) c<(aB v a c).rows.length
   · rw[if_pos h];obtain ⟨h3,_⟩:=uM V F R (show c<N by omega) h;have b3:=(s8 (c:=c) R h).2.2
     have hp:F.val (pR v (aB v a c) c)=vM F (aB v a c).rows (atR v (aB v a c) c) c:=by
      unfold pR vM aS;rw[wu a1 h (by omega),A6]
     have hmul:F.val (dK v (aB v a c).cE (pR v (aB v a c) c))=F.val (aB v a c).cE*F.val (pR v (aB v a c) c):=F.mul R.cE (b3 _ _);show F.val (dK v (aB v a c).cE (pR v (aB v a c) c))≠0;rw[hmul,hp];intro e;have hm:=Fd.oe h3;refine ih ?_;generalize F.val (aB v a c).cE=d at e ⊢;generalize vM F (aB v a c).rows (atR v (aB v a c) c) c=p at e hm;have:d*p*F.K.inv p=0*F.K.inv p:=by rw[e]
     rw[Rg.mul_assoc,hm,Rg.mul_one,Rg.zero_mul] at this;exact this
   · rw[if_neg h];exact ih
def Ia{K:Fd}(z:Int):K.T:=if z<0 then -1 else 1
theorem Gv{K:Fd}{z:Int}(h:z=1∨z= -1):(Ia (-z):K.T)= -Ia z:=by
 rcases h with rfl | rfl
 · show (if (-1:Int)<0 then (-1:K.T) else 1)= -(if (1:Int)<0 then -1 else 1);rw[if_pos (by decide),if_neg (by decide)]
 · show (if (- -1:Int)<0 then (-1:K.T) else 1)= -(if (-1:Int)<0 then -1 else 1);rw[if_neg (by decide),if_pos (by decide)];exact(Rg.neg_neg _).symm
include V
end
end Lift
namespace Lift
def eA(v:List NQ)(b:a6)(k:Nat):Nat→a6
 | 0=>b
 | i+1=>if k<i then (eA v b k i).set i (eT v ((eA v b k i).getD i []) ((eA v b k i).getD k []) (mT v (aS (eA v b k i) i k) (aS (eA v b k i) k k))) else eA v b k i
theorem lI(v:List NQ)(b:a6)(k:Nat): ∀i,(eA v b k i).length=b.length
 | 0=>rfl
 | i+1=>by
   unfold eA;split
   · rw[List.length_set];exact lI v b k i
   · exact lI v b k i
theorem ke(v:List NQ)(b:a6)(k:Nat): ∀i j,(eA v b k i).getD j []=if k<j∧j<i∧j<b.length then eT v (b.getD j []) (b.getD k []) (mT v (aS b j k) (aS b k k)) else b.getD j []
 | 0,j=>by rw[if_neg (by omega)];rfl
 | i+1,j=>by
   have ih:=ke v b k i;have hk:(eA v b k i).getD k []=b.getD k []:=by rw[ih k,if_neg (by omega)]
   have hi:(eA v b k i).getD i []=b.getD i []:=by rw[ih i,if_neg (by omega)]
   have e1:aS (eA v b k i) i k=aS b i k:=by unfold aS;rw[hi]
   have e2:aS (eA v b k i) k k=aS b k k:=by unfold aS;rw[hk]
   unfold eA;split
   · rename_i h;rw[eM,hi,hk,e1,e2,lI];by_cases hj:j=i∧i<b.length
     · rw[if_pos hj,if_pos ⟨by omega,by omega,by omega⟩,hj.1]
     · rw[if_neg hj,ih j];by_cases g:k<j∧j<i∧j<b.length
       · rw[if_pos g,if_pos ⟨g.1,by omega,g.2.2⟩]
       · rw[if_neg g,if_neg (fun h'=>by omega)]
   · rename_i h;rw[ih j];by_cases g:k<j∧j<i∧j<b.length
     · rw[if_pos g,if_pos ⟨g.1,by omega,g.2.2⟩]
     · rw[if_neg g,if_neg (fun h'=>by omega)]
theorem vF(v:List NQ)(b:a6)(k:Nat): ∀i,i≤k+1→eA v b k i=b
 | 0,_=>rfl
 | i+1,h=>by
   unfold eA;rw[if_neg (by omega)];exact vF v b k i (by omega)
def bK(m:a6)(k t:Nat):a6:=if t=k then m else zf m k t
theorem IM(m:a6)(k t:Nat):(bK m k t).length=m.length:=by
 unfold bK;split
 · rfl
 · exact Ch m k t
theorem BZ{m:a6}{k t i:Nat}(hk:k<m.length)(h:t<m.length):(bK m k t).getD i []=m.getD (sw k t i) []:=by
 unfold bK;split
 · rename_i e;rw[e];unfold sw;by_cases g:i=k
   · rw[if_pos g,g]
   · rw[if_neg g,if_neg g]
 · unfold zf sw;rw[eM,eM];by_cases g:i=k
   · rw[if_pos ⟨g,by rw[List.length_set];omega⟩,if_pos g]
   · rw[if_neg (fun h=>g h.1),if_neg g];by_cases g2:i=t
     · rw[if_pos ⟨g2,h⟩,if_pos g2]
     · rw[if_neg (fun h=>g2 h.1),if_neg g2]
def tA(v:List NQ)(m:a6)(k:Nat):Nat:=gR (Dh v m k) (m.length-k) k
def wU(v:List NQ)(a:a6):Nat→Option (a6×NQ)
 | 0=>some (a,[1])
 | k+1=>match wU v a k with
   | none=>none
   | some (m,d)=>if tA v m k<m.length then some (eA v (bK m k (tA v m k)) k m.length,dK v (if tA v m k=k then d else ju d) (aS (bK m k (tA v m k)) k k)) else none
def DI(v:List NQ)(a:a6):NQ:=match wU v a a.length with
 | none=>[]
 | some x=>x.2
theorem uo{v:List NQ}{a m:a6}{d:NQ}{k:Nat}(h:wU v a k=some (m,d))(ht:tA v m k<m.length):wU v a (k+1)=some (eA v (bK m k (tA v m k)) k m.length,dK v (if tA v m k=k then d else ju d) (aS (bK m k (tA v m k)) k k)):=by
 show (match wU v a k with
  | none=>none
  | some (m,d)=>if tA v m k<m.length then some (eA v (bK m k (tA v m k)) k m.length,dK v (if tA v m k=k then d else ju d) (aS (bK m k (tA v m k)) k k)) else none)=_
 rw[h];exact if_pos ht
theorem q9{v:List NQ}{a m:a6}{d:NQ}{k:Nat}(h:wU v a k=some (m,d))(ht: ¬tA v m k<m.length):wU v a (k+1)=none:=by
 show (match wU v a k with
  | none=>none
  | some (m,d)=>if tA v m k<m.length then some (eA v (bK m k (tA v m k)) k m.length,dK v (if tA v m k=k then d else ju d) (aS (bK m k (tA v m k)) k k)) else none)=_
 rw[h];exact if_neg ht
theorem q8{v:List NQ}{a:a6}{k:Nat}(h:wU v a k=none):wU v a (k+1)=none:=by
 show (match wU v a k with
  | none=>none
  | some (m,d)=>if tA v m k<m.length then some (eA v (bK m k (tA v m k)) k m.length,dK v (if tA v m k=k then d else ju d) (aS (bK m k (tA v m k)) k k)) else none)=_
 rw[h]
theorem Fq{v:List NQ}{a:a6}{k:Nat}(h:wU v a k=none): ∀n,k≤n→wU v a n=none:=fun n hn=>by
 induction hn with
 | refl=>exact h
 | step _ ih=>exact q8 ih
structure JU (v:List NQ) (n:Nat) (m:a6) (d:NQ):Prop where
 len:m.length=n
 rect:bk n m
 lt:jC v.length m
 d:aC v.length d
theorem CW{v:List NQ}{n k t:Nat}{m:a6}{d:NQ}(R:JU v n m d)(hk:k<n)(ht:t<n):(bK m k t).length=n∧bk n (bK m k t)∧jC v.length (bK m k t):=by
 have hl:=R.len;refine⟨(IM m k t).trans hl,?_,?_⟩
 · unfold bK;split
   · exact R.rect
   · exact ze R.rect (by omega) (by omega)
 · unfold bK;split
   · exact R.lt
   · exact DZ R.lt k t
theorem ER{v:List NQ}(V:k8 v){n k:Nat}{b:a6}(hl:b.length=n)(hr:bk n b)(lt:jC v.length b)(i:Nat):bk n (eA v b k i)∧jC v.length (eA v b k i):=by
 refine⟨fun j hj=>?_,fun j c=>?_⟩
 · rw[lI] at hj;rw[ke];split
   · rw[gA];exact hr j hj
   · exact hr j hj
 · show aC v.length (((eA v b k i).getD j []).getD c []);rw[ke];split
   · exact za V (lt j) (lt k) (uq V (lt j k) (lt k k)) c
   · exact lt j c
theorem Av{v:List NQ}(V:k8 v){a:a6}(hr:bk a.length a)(hl:jC v.length a): ∀k m d,k≤a.length→wU v a k=some (m,d)→JU v a.length m d
 | 0,m,d,_,h=>by
   cases h;exact⟨rfl,hr,hl,fh _ _⟩
 | k+1,m,d,hk,h=>by
   cases h0:wU v a k with
   | none=>rw[q8 h0] at h;cases h
   | some x =>
     obtain ⟨m0,d0⟩:=x;have R:=Av V hr hl k m0 d0 (by omega) h0;have hlen:=R.len;by_cases ht:tA v m0 k<m0.length
     · rw[uo h0 ht] at h;cases h;obtain ⟨b1,b2,b3⟩:=CW (t:=tA v m0 k) R (show k<a.length by omega) (by omega);obtain ⟨l1,l2⟩:=ER V (k:=k) b1 b2 b3 m0.length;refine⟨by rw[lI,b1],l1,l2,ja V ?_ (b3 _ _)⟩;split
       · exact R.d
       · exact bf R.d.minus
     · rw[q9 h0 ht] at h;cases h
theorem vR{g f:Nat→Bool}: ∀{m i:Nat},(∀j,i≤j→j<i+m→g j=f j)→gR g m i=gR f m i
 | 0,_,_=>rfl
 | m+1,i,h=>by
   unfold gR;rw[h i (ak _) (by omega),vR (fun j h1 h2=>h j (by omega) (by omega))]
section
variable {v:List NQ} (V:k8 v) (F:FV v) {a:a6}
include V
theorem Fp(hr:bk a.length a)(hl:jC v.length a): ∀k,k≤a.length→(wU v a k=none∧(aB v a k).cols.length<k)∨ ∃m d,wU v a k=some (m,d)∧(aB v a k).cols.length=k ∧
  (∀i j,k≤i→i<a.length→k≤j→j<a.length→F.val (aS m i j)=vM F (aB v a k).rows i j)∧F.val d=Ia (aB v a k).sg*F.val (aB v a k).cE
 | 0,_=> .inr ⟨a,[1],rfl,rfl,fun i j _ _ _ _=>rfl,by
   show _=(if (1:Int)<0 then (-1:F.K.T) else 1)*F.val [1]
   rw[if_neg (by decide),F.one,Rg.one_mul]⟩
 | k+1,hk=>by
   rcases Fp hr hl k (by omega) with ⟨h0,h1⟩ | ⟨m,d,h0,hc,hm,hd⟩
   · refine .inl ⟨q8 h0,?_⟩;rcases pI v a k with ⟨e,_⟩ | ⟨e,_⟩
     · rw[e,List.length_append];show _+1<_;omega
     · rw[e];omega
   · have D:=Av V hr hl k m d (by omega) h0;have R:=cY V hr hl k;have hml:=D.len;have hlen:=R.len
     have ht:tA v m k=atR v (aB v a k) k:=by
      unfold tA atR;rw[hc,hml,hlen];refine vR fun j h1 h2=>?_;have e:=hm j k h1 (by omega) (ak _) (by omega);have s1:=F.sg (D.lt j k);have s2:=F.sg (R.lt j k);unfold Dh;change F.val (aS m j k)=F.val (aS (aB v a k).rows j k) at e;rw[e] at s1;have:fi v (aS m j k)=0↔fi v (aS (aB v a k).rows j k)=0:=s1.trans s2.symm;by_cases g:fi v (aS m j k)=0
      · rw[aO (fun h=>h g),aO (fun h=>h (this.1 g))]
      · rw[aN g,aN (show fi v (aS (aB v a k).rows j k)≠0 from fun h=>g (this.2 h))]
     obtain ⟨a1,a2,a3,a4⟩:=gg v (aB v a k) k (by have:=R.cm;omega);have hst:aB v a (k+1)=cT v (aB v a k) k:=rfl;by_cases h:atR v (aB v a k) k<(aB v a k).rows.length
     · refine .inr ⟨_,_,uo h0 (by rw[ht];omega),?_⟩;obtain ⟨h3,h4⟩:=uM V F R (show k<a.length by omega) h;have b3:=(s8 (c:=k) R h).2.2
       have hp:F.val (pR v (aB v a k) k)=vM F (aB v a k).rows (atR v (aB v a k) k) k:=by
        unfold pR vM aS;rw[wu a1 h (by omega),A6]
       have hmul:F.val (dK v (aB v a k).cE (pR v (aB v a k) k))=F.val (aB v a k).cE*F.val (pR v (aB v a k) k):=F.mul R.cE (b3 _ _);have hsg:=R.sg;rw[hst];unfold cT;rw[if_pos h,ht];rw[hc] at a1 h4;generalize hT:atR v (aB v a k) k=t at *;have htn:t<a.length:=by omega
       have hkn:k<a.length:=by omega
       obtain ⟨c1,c2,c3⟩:=CW (t:=t) D hkn htn
       have eb: ∀i j,aS (bK m k t) i j=aS m (sw k t i) j:=fun i j=>by
        unfold aS;rw[BZ (by omega) (by omega)]
       have vb: ∀i j,k≤i→i<a.length→k≤j→j<a.length→F.val (aS (bK m k t) i j)=vM F (aB v a k).rows (sw k t i) j:=fun i j h1 h2 h5 h6=>by
        rw[eb];exact hm _ _ (DX a1 h1) (zb hkn htn h2) h5 h6
       have vk: ∀j,k≤j→j<a.length→F.val (aS (bK m k t) k j)=vM F (aB v a k).rows t j:=fun j h1 h2=>by
        have:=vb k j (ak _) hkn h1 h2;rw[A6] at this;exact this
       have hz:fi v (aS (bK m k t) k k)≠0:=fun e=>h3 (by
        rw[← vk k (ak _) hkn]
        exact(F.sg (c3 k k)).1 e)
       refine⟨by rw[List.length_append,hc];rfl,fun i j h1 h2 h5 h6=>?_,?_⟩
       · have e4:=h4 i j h2 h6;rw[if_neg (by omega)] at e4;rw[hc];rw[e4]
         have er:aS (eA v (bK m k t) k m.length) i j=oD (aS (bK m k t) i j) (dK v (mT v (aS (bK m k t) i k) (aS (bK m k t) k k)) (aS (bK m k t) k j)):=by
          unfold aS;rw[ke,if_pos ⟨by omega,by omega,by omega⟩,iH v _ _ _ (by rw[c2 i (by omega)];exact h6)];rfl
         rw[er,F.sub (c3 i j) (ja V (uq V (c3 i k) (c3 k k)) (c3 k j)),F.mul (uq V (c3 i k) (c3 k k)) (c3 k j),F.div (c3 i k) (c3 k k) hz,vb i j (by omega) h2 (by omega) h6,vb i k (by omega) h2 (ak _) hkn,vk k (ak _) hkn,vk j (by omega) h6];generalize vM F (aB v a k).rows (sw k t i) j=x;generalize vM F (aB v a k).rows (sw k t i) k=y;generalize vM F (aB v a k).rows t j=z;generalize F.K.inv (vM F (aB v a k).rows t k)=q;exact Rg.fW [x,y,z,q] (X0-X1*X3*X2) (X0-X1*(X2*X3)) rfl
       · show F.val (dK v (if t=k then d else ju d) (aS (bK m k t) k k))=Ia (if t=(aB v a k).cols.length then (aB v a k).sg else -(aB v a k).sg)*F.val (dK v (aB v a k).cE (pR v (aB v a k) k));rw[hmul,hp,hc];by_cases e:t=k
         · rw[if_pos e,if_pos e,F.mul D.d (c3 k k),vk k (ak _) hkn,hd,Rg.mul_assoc]
         · rw[if_neg e,if_neg e,F.mul (show aC v.length (ju d) from bf D.d.minus) (c3 k k),vk k (ak _) hkn,F.neg D.d,hd,Gv hsg];generalize (Ia (aB v a k).sg:F.K.T)=g;generalize F.val (aB v a k).cE=x;generalize vM F (aB v a k).rows t k=p;exact Rg.fW [g,x,p] (-(X0*X1)*X2) (-X0*(X1*X2)) rfl
     · refine .inl ⟨q9 h0 (by rw[ht];omega),?_⟩;rw[hst];unfold cT;rw[if_neg h];omega
theorem Hf(hr:bk a.length a)(hl:jC v.length a):F.val (DI v a)=F.val (jk v a):=by
 unfold DI jk;rcases Fp V F hr hl a.length (ak _) with ⟨h0,h1⟩ | ⟨m,d,h0,hc,_,hd⟩
 · rw[h0,if_pos h1]
 · rw[h0,if_neg (by omega)];show F.val d=_;have R:=cY V hr hl a.length;rw[hd];by_cases hg:(aB v a a.length).sg<0
   · rw[if_pos hg,F.neg R.cE,show (Ia (aB v a a.length).sg:F.K.T)= -1 from if_pos hg];generalize F.val (aB v a a.length).cE=x;exact Rg.fW [x] (-1*X0) (-X0) rfl
   · rw[if_neg hg,show (Ia (aB v a a.length).sg:F.K.T)=1 from if_neg hg,Rg.one_mul]
end
theorem Lo.low{v:List NQ}(L:Lo v){b:a6}{k z n:Nat}(b2:bk n b)(b3:jC v.length b)(bs:il z b)(hz:fi v (aS b k k)≠0)(hg:110*z+129≤100000000000)(l:Nat):il (110*z+129) (eA v b k l):=fun i j=>by
 have hp:=bs.pos;show ay _ (((eA v b k l).getD i []).getD j []);rw[ke];split
 · by_cases hj:j<(b.getD i []).length
   · rw[iH v _ _ _ hj];obtain ⟨_,q2,q3⟩:=L.div (b3 i k) (bs i k) (b3 k k) (bs k k) hz (by omega);obtain ⟨_,q5,q6⟩:=L.mul q2 q3 (b3 k j) (bs k j) (by omega);exact(L.sub (b3 i j) (bs i j) q5 q6 (by omega)).2.2.mono (by omega)
   · rw[my (by rw[gA];omega)];exact bn (by omega)
 · exact(bs i j).mono (by omega)
theorem FQ{v:List NQ}{m:a6}{k:Nat}(hk:k<m.length)(ht:tA v m k<m.length):k≤tA v m k∧fi v (aS (bK m k (tA v m k)) k k)≠0:=by
 have h4:=lM (g:=Dh v m k) (m:=m.length-k) (i:=k);refine⟨h4.1,?_⟩
 have e:aS (bK m k (tA v m k)) k k=aS m (tA v m k) k:=by
  unfold aS;rw[BZ hk ht,A6]
 rw[e];exact aq (h4.2.2.2 (by show tA v m k<_;omega))
theorem HT{m:a6}{k t z:Nat}(hk:k<m.length)(ht:t<m.length)(h:il z m):il z (bK m k t):=fun i j=>by
 unfold aS;rw[BZ hk ht];exact h _ j
theorem Lo.dt{v:List NQ}(L:Lo v){a:a6}{z:Nat}(hr:bk a.length a)(hl:jC v.length a)(hs:il z a): ∀k m d,k≤a.length→gI z k≤100000000000→wU v a k=some (m,d)→il (gI z k) m∧ay (gI z k) d
 | 0,m,d,_,_,h=>by
   cases h;exact⟨hs,ft (Nat.le_trans jD hs.pos)⟩
 | k+1,m,d,hk,hg,h=>by
   have hge:gI z (k+1)=110*gI z k+129:=rfl;cases h0:wU v a k with
   | none=>rw[q8 h0] at h;cases h
   | some x =>
     obtain ⟨m0,d0⟩:=x;obtain ⟨s1,s2⟩:=L.dt hr hl hs k m0 d0 (by omega) (by omega) h0;have D:=Av L.V.a hr hl k m0 d0 (by omega) h0;have hlen:=D.len;have hp:=s1.pos;by_cases ht:tA v m0 k<m0.length
     · rw[uo h0 ht] at h;cases h;obtain ⟨b1,b2,b3⟩:=CW (t:=tA v m0 k) D (show k<a.length by omega) (by omega);have bs:=HT (show k<m0.length by omega) ht s1;have hz:=(FQ (show k<m0.length by omega) ht).2;refine⟨L.low b2 b3 bs hz (by omega) _,?_⟩
       · refine(L.mul (k:=gI z k) ?_ ?_ (b3 k k) (bs k k) (by omega)).2.2.mono (by omega)
         · split
           · exact D.d
           · exact bf D.d.minus
         · split
           · exact s2
           · exact(ug D.d s2).2
     · rw[q9 h0 ht] at h;cases h
end Lift
namespace Lift
open Go Go.Proofs
theorem rL{m k:Nat}{v:List NQ}{a:NQ}(V:j5 m v)(ha:aC v.length a)(sa:ay k a)(hk:k≤17300000000000):Pure Tryz.prog 110 [bt v,.sl 1 [ah a]] (dI 0):=by
 have T:=V.raw.1;obtain ⟨m0,t1,t2,tw,tk⟩:=T.t
 have h0: ∀i,i<[dQ a].length→i=0:=fun i hi=>by
  have:i<1:=hi;omega
 have hl:=ha.len (by have:=V.l5;omega);have h:=oQ (mR v) [dQ a] tw t1 T.l T.ll tk (fun i hi _=>by rw[h0 i hi];exact pf sa) (show 1≤1000000 by decide) (fun i hi=>by rw[h0 i hi];show (dQ a).length≤_;rw[gV];omega) hk;rw[Kp V ha,rI] at h;have e:[dQ a].map dC=[ah a]:=by show [dC (dQ a)]=_;rw[pg]
 rw[e] at h;exact h
theorem n8{m k:Nat}{v:List NQ}{a b:NQ}(V:j5 m v)(ha:aC v.length a)(sa:ay k a)(hb:aC v.length b)(sb:ay k b)(hk:k≤17300000000000):Pure Tryz.prog 110 [bt v,.sl 1 [ah a,ah b]] (dI 0):=by
 have T:=V.raw.1;obtain ⟨m0,t1,t2,tw,tk⟩:=T.t
 have h0: ∀i,i<[dQ a,dQ b].length→i=0∨i=1:=fun i hi=>by
  have:i<2:=hi;omega
 have hl:=ha.len (by have:=V.l5;omega);have hl2:=hb.len (by have:=V.l5;omega)
 have h:=oQ (mR v) [dQ a,dQ b] tw t1 T.l T.ll tk (fun i hi _=>by rcases h0 i hi with rfl | rfl;exact pf sa;exact pf sb) (show 2≤1000000 by decide) (fun i hi=>by
  rcases h0 i hi with rfl | rfl
  · show (dQ a).length≤_;rw[gV];omega
  · show (dQ b).length≤_;rw[gV];omega) hk
 rw[ck2 V ha hb,rI] at h;have e:[dQ a,dQ b].map dC=[ah a,ah b]:=by show [dC (dQ a),dC (dQ b)]=_;rw[pg,pg]
 rw[e] at h;exact h
theorem zO{m k:Nat}{v:List NQ}{a:NQ}(V:j5 m v)(ha:aC v.length a)(sa:ay k a)(hk:k≤17300000000000):Pure Tryz.prog 98 [bt v,ah a] (.tu [ah (ju a),dI 0]):=by
 refine qJ 17 Tryz.func98 rfl rfl rfl rfl (by kernel_rfl) (fun B F0 w0=>?_);have ce:=rL V ha sa (by omega);have h5:=V.l5;have la:=ha.len (by omega);have cl:=jf a sa hk (by omega);have cs:=c9 (aM a) ha.minus h5;refine qX 3 rfl ?_;refine qI (qX 2 rfl ?_);refine ab.fj tok rfl rfl rfl rfl rfl ?_;refine ab.call tok rfl rfl rfl rfl ce ?_;refine qU 1 rfl ?_;refine qK 2 rfl ?_;refine ab.nil ?_;refine AW.aA rfl ?_;refine AW.skip (qX 1 rfl ?_);refine ab.call tok rfl rfl rfl rfl cl ?_;refine ab.call tok rfl rfl rfl rfl cs ?_;refine qU 2 rfl ?_;exact qN rfl
theorem Er{m k:Nat}{v:List NQ}{a b:NQ}(V:j5 m v)(ha:aC v.length a)(sa:ay k a)(hb:aC v.length b)(sb:ay k b)(hk:k≤17300000000000):Pure Tryz.prog 83 [bt v,ah a,ah b] (.tu [ah (tV a b),dI 0]):=by
 refine qJ 21 Tryz.func83 rfl rfl rfl rfl (by kernel_rfl) (fun B F0 w0=>?_);have ce:=n8 V ha sa hb sb (by omega);have h5:=V.l5;have la:=ha.len (by omega);have lb:=hb.len (by omega);have cp:=fy a b sa sb hk (by omega) (by omega);have cs:=c9 (aW a b) (ha.plus hb) h5;refine qX 3 rfl ?_;refine qI (qX 3 rfl ?_);refine ab.fj tok rfl rfl rfl rfl rfl ?_;refine ab.call tok rfl rfl rfl rfl ce ?_;refine qU 1 rfl ?_;refine qK 2 rfl ?_;refine ab.nil ?_;refine AW.aA rfl ?_;refine AW.skip (qX 2 rfl ?_);refine ab.call tok rfl rfl rfl rfl cp ?_;refine ab.call tok rfl rfl rfl rfl cs ?_;refine qU 2 rfl ?_;exact qN rfl
theorem Eo{m k:Nat}{v:List NQ}{a b:NQ}(V:j5 m v)(ha:aC v.length a)(sa:ay k a)(hb:aC v.length b)(sb:ay k b)(hk:k≤17300000000000):Pure Tryz.prog 134 [bt v,ah a,ah b] (.tu [ah (oD a b),dI 0]):=by
 refine qJ 22 Tryz.func134 rfl rfl rfl rfl (by kernel_rfl) (fun B F0 w0=>?_);have ce:=n8 V ha sa hb sb (by omega);have h5:=V.l5;have la:=ha.len (by omega);have lb:=hb.len (by omega);have cl:=jf b sb hk (by omega);have cp:=fy a (aM b) sa sb.minus hk (by omega) (by rw[bB];omega);have cs:=c9 (aW a (aM b)) (ha.plus hb.minus) h5;refine qX 3 rfl ?_;refine qI (qX 3 rfl ?_);refine ab.fj tok rfl rfl rfl rfl rfl ?_;refine ab.call tok rfl rfl rfl rfl ce ?_;refine qU 1 rfl ?_;refine qK 2 rfl ?_;refine ab.nil ?_;refine AW.aA rfl ?_;refine AW.skip (qX 2 rfl ?_);refine ab.call tok rfl rfl rfl rfl cl ?_;refine ab.call tok rfl rfl rfl rfl cp ?_;refine ab.call tok rfl rfl rfl rfl cs ?_;refine qU 2 rfl ?_;exact qN rfl
theorem ns{m k:Nat}{v:List NQ}{a b:NQ}(V:j5 m v)(ha:aC v.length a)(sa:ay k a)(hb:aC v.length b)(sb:ay k b)(hm:m≤k)(hk:sT v.length k≤17300000000000):Pure Tryz.prog 82 [bt v,ah a,ah b] (.tu [ah (dK v a b),dI 0]):=by
 refine qJ 22 Tryz.func82 rfl rfl rfl rfl (by kernel_rfl) (fun B F0 w0=>?_);have hk2:=bU v.length k;have ce:=n8 V ha sa hb sb (by omega);have h5:=V.l5;have la:=ha.len (by omega);have lb:=hb.len (by omega);have hx: ∀j,j<v.length→(v.map ah)[j]?=some (ah (v.getD j [])):=fun j hj=>oW hj;have ct:=fN v.length (xs:=v.map ah) ha hb V.ro (ak _) h5 hx sa sb (V.sz.mono hm) hk;have rt:=jU v.length ha hb V.ro (ak _);have tt:=eS v.length ha hb V.ro (ak _);have cs:=c9 (ff v.length v a b) rt.1 h5;rw[nc rt.1 tt.1 (rt.2.trans tt.2.symm)] at cs;refine qX 3 rfl ?_;refine qI (qX 3 rfl ?_);refine ab.fj tok rfl rfl rfl rfl rfl ?_;refine ab.call tok rfl rfl rfl rfl ce ?_;refine qU 1 rfl ?_;refine qK 2 rfl ?_;refine ab.nil ?_;refine AW.aA rfl ?_;refine AW.skip (qX 3 rfl ?_);refine ab.call tok rfl rfl rfl rfl ct ?_;refine ab.call tok rfl rfl rfl rfl cs ?_;refine qU 2 rfl ?_;exact qN rfl
theorem Db{m k:Nat}{v:List NQ}{a:NQ}(V:j5 m v)(ha:aC v.length a)(sa:ay k a)(hm:m≤k)(hk:od v.length k):Pure Tryz.prog 120 [bt v,ah a] (.tu [dI (fi v a),dI 0]):=by
 refine qJ 17 Tryz.func120 rfl rfl rfl rfl (by kernel_rfl) (fun B F0 w0=>?_);have hk2:=pw hk;have ce:=rL V ha sa (by omega);have h5:=V.l5;have la:=ha.len (by omega);have cg:=gE v.length (xs:=v.map ah) ha (by omega) V.ro (ak _) (fun j hj=>oW hj) sa (V.sz.mono hm) hk;rw[f' v.length ha V.ro V.pos (ak _),← eI v.length ha V.ro (ak _)] at cg;refine qX 3 rfl ?_;refine qI (qX 2 rfl ?_);refine ab.fj tok rfl rfl rfl rfl rfl ?_;refine ab.call tok rfl rfl rfl rfl ce ?_;refine qU 1 rfl ?_;refine qK 2 rfl ?_;refine ab.nil ?_;refine AW.aA rfl ?_;refine AW.skip (qX 2 rfl ?_);refine ab.call tok rfl rfl rfl rfl cg ?_;refine qU 2 rfl ?_;exact qN rfl
theorem Ep{m k:Nat}{v:List NQ}{a b:NQ}(V:j5 m v)(ha:aC v.length a)(sa:ay k a)(hb:aC v.length b)(sb:ay k b)(hm:m≤2*k+1)(hk:od v.length (2*k+1)):Pure Tryz.prog 65 [bt v,ah a,ah b] (.tu [dI (bg v v.length (cf (aW a (aM b)))),dI 0]):=by
 refine qJ 23 Tryz.func65 rfl rfl rfl rfl (by kernel_rfl) (fun B F0 w0=>?_);have hk2:=pw hk;have ce:=n8 V ha sa hb sb (by omega);have h5:=V.l5;have la:=ha.len (by omega);have lb:=hb.len (by omega);have cl:=jf b sb (by omega) (by omega);have cp:=fy a (aM b) sa sb.minus (by omega) (by omega) (by rw[bB];omega);have hp:=ha.plus hb.minus;have cg:=gE v.length (xs:=v.map ah) hp h5 V.ro (ak _) (fun j hj=>oW hj) ((sa.plus sb.minus).mono (by omega)) (V.sz.mono hm) hk;rw[f' v.length hp V.ro V.pos (ak _)] at cg;refine qX 3 rfl ?_;refine qI (qX 3 rfl ?_);refine ab.fj tok rfl rfl rfl rfl rfl ?_;refine ab.call tok rfl rfl rfl rfl ce ?_;refine qU 1 rfl ?_;refine qK 2 rfl ?_;refine ab.nil ?_;refine AW.aA rfl ?_
 · refine AW.skip (AW.seq ?_);refine AW.draw aQ 6 (by kernel_rfl) ?_;refine qP 3 rfl ?_;refine af.call tok rfl rfl rfl rfl rfl cl ?_;refine af.call tok rfl rfl rfl rfl rfl cp ?_;refine af.call tok rfl rfl rfl rfl rfl cg ?_;refine af.nil ?_;refine qU 2 rfl ?_;exact qN rfl
theorem qh{m k:Nat}{v:List NQ}{a:NQ}(V:j5 m v)(ha:aC v.length a)(sa:ay k a)(hm:m≤k)(hk:od v.length k)(hj:GJ v.length k)(h0:fi v a≠0):Pure Tryz.prog 95 [bt v,ah a] (.tu [ah (ar (gZ v.length v a)),dI 0]):=by
 refine qJ 22 Tryz.func95 rfl rfl rfl rfl (by kernel_rfl) (fun B F0 w0=>?_);have hk2:=pw hk;have ce:=rL V ha sa hk2;have h5:=V.l5;have cg:=gE v.length (xs:=v.map ah) ha (by omega) V.ro (ak _) (fun j hj=>oW hj) sa (V.sz.mono hm) hk;rw[f' v.length ha V.ro V.pos (ak _),← eI v.length ha V.ro (ak _)] at cg;have hs:bg v v.length (cf a)≠0:=by rw[← eI v.length ha V.ro (ak _)];exact h0
 have h0:ed v.length v a≠0:=h0;have ci:=u5 V.ro V.pos h5 v.length ha (ak _) sa (V.sz.mono hm) hs hj;have hr:=Cq V.ro V.pos v.length ha ha rfl (ak _) hs;have cs:=c9 _ hr.1 h5;rw[nc hr.1 (fX v.length ha V.ro (ak _)) hr.2] at cs;refine qX 3 rfl ?_;refine qI (qX 2 rfl ?_);refine ab.fj tok rfl rfl rfl rfl rfl ?_;refine ab.call tok rfl rfl rfl rfl ce ?_;refine qU 1 rfl ?_;refine qK 2 rfl ?_;refine ab.nil ?_;refine AW.aA rfl ?_;refine AW.skip (AW.seq ?_);refine qX 2 rfl ?_;refine ab.call tok rfl rfl rfl rfl cg ?_;refine qU 1 rfl ?_;rw[beq_eq_false_iff_ne.2 h0];refine ab.nil ?_;refine AW.aA rfl ?_;refine AW.skip (qX 2 rfl ?_);refine ab.call tok rfl rfl rfl rfl ci ?_;refine ab.call tok rfl rfl rfl rfl cs ?_;refine qU 2 rfl ?_;exact qN rfl
end Lift
namespace Lift
open Go Go.Proofs
theorem Ad{m k:Nat}{v:List NQ}{a b:NQ}(V:j5 m v)(ha:aC v.length a)(sa:ay k a)(hb:aC v.length b)(sb:ay k b)(hm:m≤k):aC v.length (dK v a b)∧ay (sT v.length k) (dK v a b):=by
 have h:=eQ v.length ha hb V.ro (ak _) sa sb (V.sz.mono hm);exact a5 h.1 h.2
theorem je{m k:Nat}{v:List NQ}{a:NQ}(V:j5 m v)(ha:aC v.length a)(sa:ay k a)(hm:m≤k)(hk:od v.length k):Pure Tryz.prog 81 [bt v,ah a] (dB (decide (fi v a=0))):=by
 refine qJ 15 Tryz.func81 rfl rfl rfl rfl (by kernel_rfl) (fun B F0 w0=>?_);have c:=Db V ha sa hm hk;rw[show decide (fi v a=0)=(fi v a==0) by by_cases h:fi v a=0<;>simp[h]];refine qX 2 rfl ?_;refine qK 2 rfl ?_;refine ab.call tok rfl rfl rfl rfl c ?_;refine qU 5 rfl ?_;refine qK 3 rfl ?_;exact qN rfl
theorem fx(a:a6):Pure Tryz.prog 71 [aX a] (dI (ao a)):=by
 refine qJ 10 Tryz.func71 rfl rfl rfl rfl (by kernel_rfl) (fun B F0 w0=>?_);refine qX 1 rfl ?_;refine qI (qX 2 rfl ?_);rw[ae];refine qU 1 rfl ?_;refine ab.nil ?_;by_cases h0:a.length=0
 · rw[List.length_eq_zero_iff.1 h0];refine AW.aL rfl ?_;refine qX 1 rfl ?_;exact qN rfl
 rw[beq_eq_false_iff_ne.2 (show (a.length:Int)≠0 by omega)];have g0:=getM bW (l:=a) (i:=0) (by omega);refine AW.aA rfl ?_
 · skip
   refine AW.skip (qX 1 rfl ?_);refine ab.idx tok (bW (a.getD 0 [])) rfl rfl rfl rfl (Int.le_refl _) g0 ?_;refine qU 2 rfl ?_;rw[ae];refine qU 1 rfl ?_;exact qN rfl
theorem A5(v:List NQ)(xs ys:List NQ)(c:NQ){i:Nat}(hi:i<xs.length):(eT v xs ys c).take (i+1)=(eT v xs ys c).take i++[oD (xs.getD i []) (dK v c (ys.getD i []))]:=by
 have hl:i<(eT v xs ys c).length:=by rw[gA];exact hi
 rw[List.take_succ_eq_append_getElem hl]
 congr 2
 have:=iH v xs ys c hi;rw[aE,a8 hl] at this;exact this
end Lift
namespace Lift
open Go Go.Proofs
def BW(a:a6)(res:D)(R':List LR):Prop:= ∃(Vr:Value) (Vs:List Value),Vs.length=a.length∧res= .v Vr∧R'=(Vr,OA Vs)::cu Vs a
theorem iX{a:a6}(ha:a.length≤1000000)(hN: ∀i,(a.getD i []).length≤1000000):jn Tryz.prog 94 [aX a] [] (BW a):=by
 refine jn.intro (n:=20) tok Tryz.func94 rfl rfl rfl (Nat.le_of_ble_eq_true rfl) (by kernel_rfl) (fun B F0 w0=>?_);have htk:=fun {i:Nat} (hi:i<a.length)=>List.take_succ_eq_append_getElem (l:=a) hi;refine AZ.seq (AZ.cQ (fun B1 F1 w1=>?_));refine qU 1 rfl ?_;refine ab.nil ⟨rfl,?_⟩;refine AZ.seq (AZ.cQ (fun B1 F1 w1=>?_));refine qU 1 rfl ?_;refine ab.nil ⟨rfl,?_⟩;refine AZ.to [0,3] [(0,.d (aX a)),(3,.ow 22 [])] rfl ?_;refine AZ.iM 3 rfl rfl rfl (fun V0=>?_);refine AZ.seq (AZ.seq ?_);refine AZ.cQ (fun B1 F1 w1=>?_);refine qU 2 rfl ?_;rw[ae];refine qU 1 rfl ?_;refine ab.nil ⟨rfl,?_⟩;refine AZ.block (AZ.aG [3,6,7,8] (fun s:Nat×Value×List Value=>((s.2.1,OA s.2.2)::cu s.2.2 (a.take s.1),[(3,.d (.v s.2.1)),(6,.d (aX a)),(7,.d (dI a.length)),(8,.d (dI s.1))])) (fun s=>s.1≤a.length∧s.2.2.length=s.1) (fun s=>a.length-s.1) (0,V0,[]) rfl ⟨Nat.zero_le _,rfl⟩ (fun s hs=>?_));obtain ⟨i,Vr,Vs⟩:=s;obtain ⟨hi,hVs⟩:=hs
 dsimp only at hi hVs
 show AZ _ _ _ _ _ _ _ ((Vr,OA Vs)::cu Vs (a.take i)) [(3,.d (.v Vr)),(6,.d (aX a)),(7,.d (dI a.length)),(8,.d (dI i))];refine AZ.seq (AZ.cQ (fun B1 F1 w1=>?_));refine qU 1 rfl ?_;refine ab.nil ⟨rfl,?_⟩;refine AZ.seq (AZ.cond rfl (fun h=>?_) (fun h=>?_));rotate_left
 · have hii:i=a.length:=by have:=au h;omega
   subst hii;rw[List.take_length];refine AZ.exit ?_;refine AZ.seq (AZ.cQ (fun B1 F1 w1=>?_));refine qU 2 rfl ?_;refine ab.nil ⟨rfl,?_⟩;exact AZ.ret ⟨.v Vr,rfl,Vr,Vs,hVs,rfl,rfl⟩
 have hii:i<a.length:=by have:=aq h;omega
 have hg:=getM bW (l:=a) (i:=i) hii;have hrl:=hN i;have htk:=htk hii;have hge:a[i]=a.getD i []:=by rw[aE,a8 hii];rfl
 rw[hge] at htk;generalize a.getD i []=row at hg hrl htk;refine AZ.skip (AZ.seq ?_);refine AZ.block (AZ.seq ?_);refine AZ.cQ (fun B1 F1 w1=>?_);refine ab.idx tok (bW row) rfl rfl rfl rfl (aj i) hg ?_;refine qU 2 rfl ?_;refine ab.nil ⟨rfl,?_⟩;refine AZ.region ?_;refine ai.cut 4 rfl (fun B1 F1 w1=>?_);refine qU 3 rfl ?_;refine ab.tS tok rfl rfl rfl rfl (by rw[ae];show row.length*24≤_;omega) ?_;refine ab.nil ⟨rfl,?_⟩;refine ai.iM 15 rfl rfl rfl (fun V=>?_);refine ai.cut 1 rfl (fun B1 F1 w1=>?_);refine ab.fj tok rfl rfl rfl rfl rfl ?_;refine ab.nil ⟨rfl,?_⟩;refine ai.c8 12 0 rfl rfl rfl ?_;refine ai.cut 1 rfl (fun B1 F1 w1=>?_);refine ab.gv tok rfl rfl rfl rfl rfl rfl (by show ((nR Vs).length+1)*24≤_;rw[ae];omega) (by show (nR Vs).length+1≤_;rw[ae];omega) ?_;refine ab.nil ⟨rfl,?_⟩;refine ai.vG 17 0 rfl rfl rfl rfl (fun Vq=>?_)
 refine ai.jl (R':=(Vq,OA (Vs++[V]))::cu (Vs++[V]) (a.take (i+1))) (by
  show (Vq,AV.ow 22 (nR Vs++[.v V]))::(cu Vs (a.take i)++[(V,eO row)])=_
  rw[htk,AL (by rw[aT];omega),show nR Vs++[.v V]=nR (Vs++[V]) by simp]) ?_
 refine ai.cut 1 rfl (fun B1 F1 w1=>?_);refine qU 1 rfl ?_;refine ab.nil ⟨rfl,?_⟩;refine ai.nil ?_;refine AZ.cQ (fun B1 F1 w1=>?_);refine qU 1 rfl ?_;rw[aF (x:=(i:Int)+1) (by omega) (by omega)];refine qU 1 rfl ?_;refine ab.nil ⟨rfl,?_⟩;exact⟨(i+1,Vq,Vs++[V]),rfl,⟨hii,by show (Vs++[V]).length=i+1;rw[List.length_append];show Vs.length+1=_;omega⟩,by show a.length-(i+1)<a.length-i;omega⟩
theorem tv(Vr:Value)(Vs:List Value)(row:List NQ)(h0:0<Vs.length):jn Tryz.prog 71 [.v Vr] [(Vr,OA Vs),(Vs.getD 0 undef,eO row)] (fun res R'=>res=dI row.length∧R'=[(Vr,OA Vs),(Vs.getD 0 undef,eO row)]):=by
 refine jn.intro (n:=10) tok Tryz.func71 rfl rfl rfl (Nat.le_of_ble_eq_true rfl) (by kernel_rfl) (fun B F0 w0=>?_);refine AZ.seq (AZ.cQ (fun B1 F1 w1=>?_));refine qU 1 rfl ?_;refine ab.nil ⟨rfl,?_⟩;refine AZ.seq (AZ.seq ?_);refine AZ.rG (fun B1 F1 w1 hS=>?_);refine qU 1 rfl ?_;refine ab.lens tok (hS.at (i:=0) rfl (by rw[ae];exact h0)) rfl rfl rfl rfl ?_;rw[ae];refine qU 1 rfl ?_;rw[beq_eq_false_iff_ne.2 (show (Vs.length:Int)≠0 by omega)];refine ab.nil ⟨rfl,?_⟩;refine AZ.aA rfl ?_;refine AZ.skip (AZ.seq ?_);refine AZ.region ?_;refine ai.we 3 rfl (fun B1 F1 w1 hS=>?_);refine qU 1 rfl ?_;refine ab.idxs tok (hS.at (i:=0) rfl (by rw[ae];exact h0)) rfl rfl rfl rfl (Int.le_refl _) (by rw[ae];exact h0) ?_;refine ab.bc tok (.v (Vs.getD 0 undef)) (i:=0) (hS.at (i:=0) rfl (by rw[ae];exact h0)) rfl rfl rfl rfl rfl rfl (b7 h0) rfl ?_;refine ab.nil ⟨rfl,?_⟩;refine ai.c8 8 1 rfl rfl rfl ?_;refine ai.cut 1 rfl (fun B1 F1 w1=>?_);refine qU 1 rfl ?_;rw[ae];refine ab.nil ⟨rfl,?_⟩;refine ai.back 8 1 rfl rfl rfl (List.Mem.head _) rfl ?_;refine ai.cut 1 rfl (fun B1 F1 w1=>?_);refine qU 1 rfl ?_;refine ab.nil ⟨rfl,?_⟩;refine ai.nil ?_;exact AZ.ret ⟨_,rfl,rfl,rfl⟩
end Lift
namespace Lift
open Go Go.Proofs
def EU(V1 V2:Value)(xs ys zs:List NQ)(res:D)(R':List LR):Prop:= ∃V:Value,res= .v V∧R'=[(V1,eO xs),(V2,eO ys),(V,eO zs)]
theorem qe(V1 V2:Value){m k:Nat}{v:List NQ}{xs ys:List NQ}{c:NQ}(V:j5 m v)(hx: ∀i,aC v.length (xs.getD i []))(hy: ∀i,aC v.length (ys.getD i []))(hc:aC v.length c)(sx: ∀i,ay k (xs.getD i []))(sy: ∀i,ay k (ys.getD i []))(sc:ay k c)(hm:m≤k)(hk:sT v.length k≤17300000000000)(hl:ys.length=xs.length)(hl0:0<xs.length)(hl1:xs.length≤1000000):
  jn Tryz.prog 96 [bt v,.v V1,.v V2,ah c] [(V1,eO xs),(V2,eO ys)] (EU V1 V2 xs ys (eT v xs ys c)):=by
 refine jn.intro (n:=46) tok Tryz.func96 rfl rfl rfl (Nat.le_of_ble_eq_true rfl) (by kernel_rfl) (fun B F0 w0=>?_);have hk2:=bU v.length k;have hz:=gA v xs ys c;have hts:=fun i (hi:i<xs.length)=>A5 v xs ys c hi;have hta:(eT v xs ys c).take xs.length=eT v xs ys c:=List.take_of_length_le (by omega);have cm:=fun i=>ns V hc sc (hy i) (sy i) hm hk;have cs:=fun i=>Eo V (hx i) ((sx i).mono (by omega:k≤sT v.length k)) (Ad V hc sc (hy i) (sy i) hm).1 (Ad V hc sc (hy i) (sy i) hm).2 (by omega);generalize eT v xs ys c=zs at *;refine AZ.seq (AZ.cQ (fun B1 F1 w1=>?_));refine qU 2 rfl ?_;refine ab.nil ⟨rfl,?_⟩;refine AZ.seq (AZ.cQ (fun B1 F1 w1=>?_));refine qU 1 rfl ?_;refine ab.nil ⟨rfl,?_⟩;refine AZ.to [1,2,3,4,9] [(1,.d (.v V1)),(2,.d (.v V2)),(3,.d (ah c)),(4,.bx [.sl 1 (v.map ah)]),(9,.ow 53 [])] rfl ?_;refine AZ.seq (AZ.seq ?_);refine AZ.rG (fun B1 F1 w1 hS=>?_);refine qU 1 rfl ?_;refine ab.lens tok (hS.at (i:=0) rfl (by rw[ae];exact hl0)) rfl rfl rfl rfl ?_;rw[ae];refine qU 1 rfl ?_;refine ab.nil ⟨rfl,?_⟩;refine AZ.block (AZ.aG [1,2,3,4,9,16,17] (fun i:Nat=>([(V1,eO xs),(V2,eO ys)],[(1,.d (.v V1)),(2,.d (.v V2)),(3,.d (ah c)),(4,.bx [.sl 1 (v.map ah)]),(9,.ow 53 ((zs.take i).map ah)),(16,.d (dI xs.length)),(17,.d (dI i))])) (fun i=>i≤xs.length) (fun i=>xs.length-i) 0 rfl (Nat.zero_le _) (fun i hi=>?_));show AZ _ _ _ _ _ _ _ [(V1,eO xs),(V2,eO ys)] [(1,.d (.v V1)),(2,.d (.v V2)),(3,.d (ah c)),(4,.bx [.sl 1 (v.map ah)]),(9,.ow 53 ((zs.take i).map ah)),(16,.d (dI xs.length)),(17,.d (dI i))];refine AZ.seq (AZ.cQ (fun B1 F1 w1=>?_));refine qU 1 rfl ?_;refine ab.nil ⟨rfl,?_⟩;refine AZ.seq (AZ.cond rfl (fun h=>?_) (fun h=>?_));rotate_left
 · have hii:i=xs.length:=by have:=au h;omega
   subst hii;rw[hta];refine AZ.exit ?_;refine AZ.seq (AZ.cQ (fun B1 F1 w1=>?_));refine qU 2 rfl ?_;refine ab.nil ⟨rfl,?_⟩;exact AZ.iM 8 rfl rfl rfl (fun V=>AZ.ret ⟨.v V,rfl,V,rfl,rfl⟩)
 have hii:i<xs.length:=by have:=aq h;omega
 have gx:=getM ah (l:=xs) (i:=i) hii;have gy:=getM ah (l:=ys) (i:=i) (by omega);have hts:=hts i hii;have cm:=cm i;have cs:=cs i;generalize xs.getD i []=x at *;generalize ys.getD i []=y at *;generalize dK v c y=p at *;generalize oD x p=q at *;refine AZ.skip (AZ.seq ?_);refine AZ.block (AZ.seq ?_);refine AZ.cQ (fun B1 F1 w1=>?_);refine qU 2 rfl ?_;refine ab.nil ⟨rfl,?_⟩;refine AZ.seq (AZ.Fs aQ 11 (by kernel_rfl) (fun B1 F1 w1 hS=>?_));have hS2:=hS.at (i:=1) rfl (by rw[ae];omega);refine qP 4 rfl ?_;refine af.idxs tok hS2 rfl rfl rfl rfl rfl (aj i) (by rw[ae];show i<ys.length;omega) ?_;refine af.bc tok (ah y) hS2 rfl rfl rfl rfl rfl rfl rfl gy rfl ?_;refine af.call tok rfl rfl rfl rfl rfl cm ?_;refine qP 4 rfl ?_;refine af.nil ?_;refine qU 1 rfl ?_;refine ab.nil ⟨rfl,?_⟩;refine AZ.seq (AZ.Fs aQ 11 (by kernel_rfl) (fun B1 F1 w1 hS=>?_));have hS1:=hS.at (i:=0) rfl (by rw[ae];omega);refine qP 3 rfl ?_;refine af.idxs tok hS1 rfl rfl rfl rfl rfl (aj i) (by rw[ae];exact hii) ?_;refine af.bc tok (ah x) hS1 rfl rfl rfl rfl rfl rfl rfl gx rfl ?_;refine qP 1 rfl ?_;refine af.call tok rfl rfl rfl rfl rfl cs ?_;refine qP 4 rfl ?_;refine af.nil ?_;refine qU 1 rfl ?_;refine ab.nil ⟨rfl,?_⟩;refine AZ.cQ (fun B1 F1 w1=>?_);refine qU 2 rfl ?_;refine ab.fj tok rfl rfl rfl rfl rfl ?_;refine ab.gv tok rfl rfl rfl rfl rfl rfl (by rw[ae,aT];show (_+1)*24≤_;omega) (by rw[ae,aT];show _+1≤_;omega) ?_;refine qU 1 rfl ?_;refine ab.nil ⟨rfl,?_⟩;refine AZ.cQ (fun B1 F1 w1=>?_);refine qU 1 rfl ?_;rw[aF (x:=(i:Int)+1) (by omega) (by omega)];refine qU 1 rfl ?_;refine ab.nil ⟨rfl,?_⟩;exact⟨i+1,by rw[hts,List.map_append];rfl,hii,by omega⟩
end Lift
