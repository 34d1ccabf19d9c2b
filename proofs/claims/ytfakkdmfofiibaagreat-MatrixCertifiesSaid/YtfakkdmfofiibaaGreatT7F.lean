/- Parts of the proof, one behind the other: the logic, the contracts of the functions that the statement reaches. -/
import Derived.Test.YtfakkdmfofiibaaGreatT7E
set_option linter.unusedVariables false
set_option linter.unusedSimpArgs false
namespace Lift
open Go Go.Proofs
theorem zH{v:List NQ}{a:a6}{c:Nat}(h:(aB v a c).cols.length=(aB v a c).rows.length): ∀d,aB v a (c+d)=aB v a c
 | 0=>rfl
 | d+1=>by
   have ih:=zH h d;show cT v (aB v a (c+d)) (c+d)=aB v a c;rw[ih];unfold cT;rw[if_neg];unfold atR;rw[h,Nat.sub_self];exact Nat.lt_irrefl _
theorem Jj{R:List LR}{x y:LR}(h0:R[0]?=some x)(h1:R[1]?=some y):tj R [0,1]=some [x,y]:=by
 unfold tj tj;rw[h0,h1];rfl
theorem lp{R:List LR}{i:Nat}{x:LR}(h:R[i]?=some x):R.set i x=R:=by
 refine List.ext_getElem? (fun k=>?_);by_cases hk:k=i
 · subst hk;rw[List.getElem?_set_self (List.getElem?_eq_some_iff.1 h).1,h]
 · rw[List.getElem?_set_ne (Ne.symm hk)]
theorem I'{R:List LR}{x y:LR}(h0:R[0]?=some x)(h1:R[1]?=some y):C0 R [0,1] [x,y]=R:=by
 show (R.set 0 x).set 1 y++[]=R;rw[List.append_nil,lp h0,lp h1]
theorem vw{m:Nat}{v:List NQ}(V:j5 m v){x p:NQ}(hx:aC v.length x)(hp:aC v.length p):dK v x (ar (gZ v.length v p))=mT v x p:=by
 have hi:=fX v.length hp V.ro (ak _);have h1:=eS v.length hx (bf hi) V.ro (ak _);have h2:=eS v.length hx hi V.ro (ak _);exact nc h1.1 h2.1 (by rw[h1.2,h2.2,bO hi])
theorem DY{b:a6}{r:Nat}(h:r<b.length):zf b r r=b:=by
 unfold zf;rw[nh h,nh h]
theorem Ci{Vs:List Value}{r t:Nat}:(Vs.set r (Vs.getD t undef)).set t (Vs.getD r undef)=zg Vs r t:=by
 unfold zg;by_cases h:r=t
 · subst h;rfl
 · exact List.set_comm _ _ h
section
variable {P:Program} {T:Ty} {B:Nat} {F0:Nat→Prop} {w0:c7} {n:Nat} {σ:St} {x:Code} {Q:Exit→List LR→St→Prop}
theorem AZ.zF{R:LR}{L:List LR}{i:Nat}{a b:LR}(hi:L[i]?=some a)(h:AZ P B F0 w0 n x Q (R::L.set i b) σ):AZ P B F0 w0 n x Q (R::L++[b]) σ:=by
 have hl:i<L.length:=(List.getElem?_eq_some_iff.1 hi).1;refine AZ.xc (ri:=a) (rj:=b) (i+1) (L.length+1) ?_ ?_ (AZ.oZ (R::L.set i b) (fun k r hk=> .inl ?_) h)
 · show (L++[b])[i]?=_;rw[List.getElem?_append_left hl,hi]
 · show (L++[b])[L.length]?=_;rw[List.getElem?_append_right (ak _),Nat.sub_self];rfl
 · match k,hk with
   | 0,hk=>exact hk
   | k+1,hk =>
     have hk:(L.set i b)[k]?=some r:=hk;have hkl:k<(L.set i b).length:=(List.getElem?_eq_some_iff.1 hk).1;rw[List.length_set] at hkl;show (((L++[b]).set i b).set L.length a)[k]?=some r;rw[List.getElem?_set_ne (by omega),List.set_append_left _ _ hl,List.getElem?_append_left (by rw[List.length_set];exact hkl)];exact hk
theorem AZ.yI(hT:bH P T){e eo:Nat}{te:TI}(he:T.get e=some te)(h1:te.size=1){Vr:Value}{Vs:List Value}{a:a6}(hl:Vs.length=a.length)
  (h:AZ P B F0 w0 n x Q [(Vr,.ow eo (a.map bW))] σ): ∀(m k:Nat),m+k=a.length→ ∀L:List LR,(∀j,k≤j→j<a.length→L[j]?=some (Vs.getD j undef,.ow e ((a.getD j []).map ah))) →
  AZ P B F0 w0 n x Q ((Vr,.ow eo ((a.take k).map bW++(nR Vs).drop k))::L) σ
 | 0,k,hk,L,hL=>by
   rw[List.take_of_length_le (by omega),List.drop_eq_nil_of_le (by rw[ae];omega),List.append_nil];refine AZ.oZ _ (fun i r hr=> .inl ?_) h
   match i,hr with
   | 0,hr=>exact hr
 | m+1,k,hk,L,hL=>by
   have hka:k<a.length:=by omega
   have hll:k<L.length:=(List.getElem?_eq_some_iff.1 (hL k (ak _) hka)).1;have hft:((a.take k).map bW).length=k:=by rw[ae,aT];omega
   refine AZ.Ha hT (k+1) 0 k (cs:=(a.take k).map bW++(nR Vs).drop k) rfl (fun d hd=>?_) ?_ (hL k (ak _) hka) (by omega) he ?_
   · rcases List.mem_append.1 hd with g | g
     · obtain ⟨r,_,rfl⟩:=List.mem_map.1 g;rfl
     · obtain ⟨V,_,rfl⟩:=List.mem_map.1 (List.mem_of_mem_drop g);rfl
   · rw[List.getElem?_append_right (by omega),hft,Nat.sub_self,List.getElem?_drop,Nat.add_zero];exact b7 (by omega)
   · have e1:((a.take k).map bW++(nR Vs).drop k).set k (.sl te.size ((a.getD k []).map ah))=(a.take (k+1)).map bW++(nR Vs).drop (k+1):=by
      rw[h1,List.set_append_right _ _ (by omega),hft,Nat.sub_self,List.take_succ_eq_append_getElem hka,List.map_append]
      have:(nR Vs).drop k= .v (Vs.getD k undef)::(nR Vs).drop (k+1):=by
       rw[List.drop_eq_getElem_cons (by rw[ae];omega)]
       congr 1
       have:=b7 (Vs:=Vs) (i:=k) (by omega);rw[a8 (by rw[ae];omega)] at this;simpa using this
      rw[this,List.set_cons_zero,List.append_assoc];have g:a[k]=a.getD k []:=by rw[aE,a8 hka];rfl
      rw[g];rfl
     show AZ P B F0 w0 n x Q ((Vr,.ow eo (((a.take k).map bW++(nR Vs).drop k).set k (.sl te.size ((a.getD k []).map ah))))::L.set k (Vs.getD k undef,.junk)) σ;rw[e1]
     exact AZ.yI hT he h1 hl h m (k+1) (by omega) (L.set k (Vs.getD k undef,.junk)) (fun j hj hja=>by
      rw[List.getElem?_set_ne (by omega)];exact hL j (by omega) hja)
end
set_option maxHeartbeats 12800000 in
theorem wJ{m Kz:Nat}{v:List NQ}(V:j5 m v){a:a6}{N:Nat}(ha0:0<a.length)(ha:a.length≤1000000)(hN:N≤1000000)(hr:bk N a)(hl:jC v.length a)
  (sz: ∀c,c≤N→ ∀j i,ay Kz (aS (aB v a c).rows j i)) (szE: ∀c,c<N→atR v (aB v a c) c<(aB v a c).rows.length→ ∀j i,ay Kz (aS (eR v (aB v a c) c) j i)) (szI: ∀c,c<N→atR v (aB v a c) c<(aB v a c).rows.length→ay Kz (ar (gZ v.length v (pR v (aB v a c) c))))
  (hmK:m≤Kz) (k1:od v.length Kz) (k2:GJ v.length Kz) (k3:sT v.length Kz≤17300000000000):
  Pure Tryz.prog 51 [bt v,aX a] (.tu [aX ((aB v a N).rows.take (aB v a N).cols.length),.sl 1 ((aB v a N).cols.map (fun c:Nat=>dI c))]):=by
 refine qJ 157 Tryz.func51 rfl rfl rfl rfl (by kernel_rfl) (fun B F0 w0=>?_);refine AZ.aw ?_;refine AZ.seq (AZ.cQ (fun B1 F1 w1=>?_));refine qU 3 rfl ?_;refine ab.nil ⟨rfl,?_⟩;refine AZ.seq (AZ.region ?_);refine ai.cut 1 rfl (fun B1 F1 w1=>?_);refine qU 1 rfl ?_;refine ab.nil ⟨rfl,?_⟩
 refine ai.iD tok [] rfl rfl rfl rfl rfl List.nodup_nil rfl (iX (a:=a) ha (fun i=>by
  by_cases hi:i<a.length
  · rw[hr i hi];exact hN
  · rw[gk (by omega)];exact Nat.zero_le _)) (fun _ _ _=>Nat.zero_le _) (fun res R1 hP=>?_)
 obtain ⟨V0,Vs0,hV0,rfl,rfl⟩:=hP;refine ai.cut 1 rfl (fun B1 F1 w1=>?_);refine qU 1 rfl ?_;refine ab.nil ⟨rfl,?_⟩;refine ai.nil ?_;refine AZ.seq (AZ.cQ (fun B1 F1 w1=>?_));refine qU 1 rfl ?_;refine ab.nil ⟨rfl,?_⟩;refine AZ.seq (AZ.seq ?_);refine AZ.cQ (fun B1 F1 w1=>?_);refine qU 1 rfl ?_;refine ab.nil ⟨rfl,?_⟩;refine AZ.block (AZ.aG [1,2,6,7] (fun z:Nat×Value×List Value=>((z.2.1,OA z.2.2)::cu z.2.2 (aB v a z.1).rows,[(1,.d (.v z.2.1)),(2,.bx [.sl 1 (v.map ah)]),(6,.ow 3 ((aB v a z.1).cols.map (fun c:Nat=>dI c))),(7,.d (dI z.1))])) (fun z=>z.1≤N∧z.2.2.length=a.length) (fun z=>N-z.1) (0,V0,Vs0) rfl ⟨Nat.zero_le _,hV0⟩ (fun z hz=>?_));clear hV0;clear V0 Vs0;obtain ⟨c,Vr,Vs⟩:=z;obtain ⟨hc,hVs⟩:=hz
 dsimp only at hc hVs
 have hR:=cY V.a hr hl c;have hnext:aB v a (c+1)=cT v (aB v a c) c:=rfl;have zR:=sz c hc;have zE:=szE c;have zI:=szI c;have zN:=sz (c+1);have hfull:=fun h=>zH (v:=v) (a:=a) (c:=c) h (N-c);rw[show c+(N-c)=N by omega] at hfull;obtain ⟨s,hs⟩: ∃s,aB v a c=s:=⟨_,rfl⟩;rw[hs] at hR hnext zR zE zI hfull;show AZ _ _ _ _ _ _ _ ((Vr,OA Vs)::cu Vs (aB v a c).rows) [(1,.d (.v Vr)),(2,.bx [.sl 1 (v.map ah)]),(6,.ow 3 ((aB v a c).cols.map (fun c:Nat=>dI c))),(7,.d (dI c))];rw[hs];have hm':=hR.len;have hrm:=hR.cm;rw[← hm'] at hrm;have hVm:Vs.length=s.rows.length:=by omega
 have hrow0:0<s.rows.length:=by omega
 have hr0:(s.rows.getD 0 []).length=N:=hR.rect 0 hrow0;have hg0:((Vr,OA Vs)::cu Vs s.rows)[1]?=some (Vs.getD 0 undef,eO (s.rows.getD 0 [])):=bS (Vs:=Vs) (j:=0) (by omega) hrow0;refine AZ.seq (AZ.seq ?_);refine AZ.region ?_;refine ai.cut 2 rfl (fun B1 F1 w1=>?_);refine qU 2 rfl ?_;refine ab.nil ⟨rfl,?_⟩;refine ai.iD tok [0,1] rfl rfl rfl rfl (Jj rfl hg0) (by simp) rfl (tv Vr Vs (s.rows.getD 0 []) (by omega)) (fun res R1 hP=>by rw[hP.2];exact ak _) (fun res R1 hP=>?_);obtain ⟨rfl,rfl⟩:=hP;rw[hr0];refine ai.jl (R':=(Vr,OA Vs)::cu Vs s.rows) (I' rfl hg0) ?_;by_cases hcN:c<N;rotate_left
 · have hcc:c=N:=by omega
   subst hcc;rw[hs];refine ai.cut 9 rfl (fun B1 F1 w1=>?_);refine qU 1 rfl ?_;rw[aO (show ¬(c:Int)<(c:Int) by omega)];refine qU 8 rfl ?_;refine ab.nil ⟨rfl,?_⟩;refine ai.nil ?_;refine AZ.aA rfl ?_;refine AZ.exit ?_;refine AZ.to [1,6] [(1,.d (.v Vr)),(6,CA s.cols)] rfl ?_;refine AZ.oZ ((Vr,AV.ow 22 ((s.rows.take 0).map bW++(nR Vs).drop 0))::cu Vs s.rows) (fun _ _ h=> .inl h) ?_;refine AZ.yI (te:=_) tok (e:=53) rfl rfl (by omega) ?_ s.rows.length 0 (by omega) (cu Vs s.rows) (fun j _ hj=>bS (by omega) hj);refine AZ.c8 1 0 rfl rfl rfl ?_;refine AZ.seq (AZ.cQ (fun B1 F1 w1=>?_));refine ab.fT tok 1 rfl rfl ?_;refine ab.fT tok 6 rfl rfl ?_;refine qU 2 rfl ?_;refine qU 1 rfl ?_;rw[ae];refine ab.Ck tok rfl rfl rfl rfl trivial (aj _) (Nat.zero_le _) (by show s.cols.length≤_;rw[ae];omega) ?_;refine qU 3 rfl ?_;refine ab.nil ⟨rfl,?_⟩;refine AZ.ret ?_;show _=some (D.tu [aX (s.rows.take s.cols.length),_]);rw[show aX (s.rows.take s.cols.length)=D.sl 1 (((s.rows.map bW).take s.cols.length).drop 0) by rw[List.drop_zero,← List.map_take]];rfl
 have hfN:=fun h=>hfull h;refine ai.we 8 rfl (fun B1 F1 w1 hS=>?_);refine qU 1 rfl ?_;rw[aN (show (c:Int)<(N:Int) by omega)];refine qU 3 rfl ?_;rw[ae];refine qU 1 rfl ?_;refine ab.lens tok (hS.at (i:=0) rfl (by rw[ae];omega)) rfl rfl rfl rfl ?_;rw[ae];refine qU 2 rfl ?_;refine ab.nil ⟨rfl,?_⟩;refine ai.nil ?_;refine AZ.cond rfl (fun h=>?_) (fun h=>?_);rotate_left
 · have hlc:s.cols.length=s.rows.length:=by have:=au h;omega
   rw[hfN hlc];refine AZ.exit ?_;refine AZ.to [1,6] [(1,.d (.v Vr)),(6,CA s.cols)] rfl ?_;refine AZ.oZ ((Vr,AV.ow 22 ((s.rows.take 0).map bW++(nR Vs).drop 0))::cu Vs s.rows) (fun _ _ h=> .inl h) ?_;refine AZ.yI (te:=_) tok (e:=53) rfl rfl (by omega) ?_ s.rows.length 0 (by omega) (cu Vs s.rows) (fun j _ hj=>bS (by omega) hj);refine AZ.c8 1 0 rfl rfl rfl ?_;refine AZ.seq (AZ.cQ (fun B1 F1 w1=>?_));refine ab.fT tok 1 rfl rfl ?_;refine ab.fT tok 6 rfl rfl ?_;refine qU 2 rfl ?_;refine qU 1 rfl ?_;rw[ae];refine ab.Ck tok rfl rfl rfl rfl trivial (aj _) (Nat.zero_le _) (by show s.cols.length≤_;rw[ae];omega) ?_;refine qU 3 rfl ?_;refine ab.nil ⟨rfl,?_⟩;refine AZ.ret ?_;show _=some (D.tu [aX (s.rows.take s.cols.length),_]);rw[show aX (s.rows.take s.cols.length)=D.sl 1 (((s.rows.map bW).take s.cols.length).drop 0) by rw[List.drop_zero,← List.map_take]];rfl
 have hlt:s.cols.length<s.rows.length:=by have:=aq h;omega
 obtain ⟨hat1,hat2,hat3,hat4⟩:=gg v s c hrm;have hm6:s.rows.length≤1000000:=by omega
 have hel: ∀{b:a6} {i:Nat},bk N b→i<b.length→ ∀k,k<N→((b.getD i []).map ah)[k]?=some (ah (aS b i k)):=fun {b i} hb hi k hk=>getM ah (by rw[hb i hi];exact hk);refine AZ.skip (AZ.seq ?_);refine AZ.block (AZ.seq ?_);refine AZ.cQ (fun B1 F1 w1=>?_);refine qU 2 rfl ?_;rw[ae];refine qU 1 rfl ?_;refine ab.nil ⟨rfl,?_⟩;refine AZ.seq (AZ.cQ (fun B1 F1 w1=>?_));refine qU 2 rfl ?_;refine ab.nil ⟨rfl,?_⟩;refine AZ.cut [1,2,6,7,8,9] (fun _:Unit=>(((Vr,OA Vs)::cu Vs s.rows),[(1,.d (.v Vr)),(2,.bx [.sl 1 (v.map ah)]),(6,CA s.cols),(7,.d (dI c)),(8,.d (dI s.cols.length)),(9,.d (dI (atR v s c)))])) (fun _=>True) ?_ (fun _ _=>?_)
 · refine AZ.block (AZ.aG [1,2,6,7,8,9] (fun j:Nat=>(((Vr,OA Vs)::cu Vs s.rows),[(1,.d (.v Vr)),(2,.bx [.sl 1 (v.map ah)]),(6,CA s.cols),(7,.d (dI c)),(8,.d (dI s.cols.length)),(9,.d (dI j))])) (fun j=>s.cols.length≤j∧j≤s.rows.length∧gR (Dh v s.rows c) (s.rows.length-j) j=atR v s c) (fun j=>s.rows.length-j) s.cols.length rfl ⟨ak _,hrm,rfl⟩ (fun j hj=>?_));show AZ _ _ _ _ _ _ _ ((Vr,OA Vs)::cu Vs s.rows) [(1,.d (.v Vr)),(2,.bx [.sl 1 (v.map ah)]),(6,CA s.cols),(7,.d (dI c)),(8,.d (dI s.cols.length)),(9,.d (dI j))];obtain ⟨j1,j2,j3⟩:=hj;refine AZ.seq (AZ.seq ?_);refine AZ.any aQ (iy.kP 15 (by kernel_rfl) (fun B1 F1 w1 hS=>?_));have hS0:=hS.at (i:=0) rfl (by rw[ae];omega);refine qP 2 rfl ?_;refine af.lens tok hS0 rfl rfl rfl rfl rfl ?_;rw[ae];refine qP 1 rfl ?_;by_cases hjm:j<s.rows.length;rotate_left
   · rw[qV hjm] at j3;rw[aO (show ¬(j:Int)<(Vs.length:Int) by omega)];refine qP 11 rfl ?_;refine af.nil ⟨rfl,?_⟩;refine ai.nil ?_;refine AZ.aA rfl ?_;exact AZ.exit ⟨(),by rw[← j3];rfl,trivial⟩
   rw[aN (show (j:Int)<(Vs.length:Int) by omega)];have hj6:(s.rows.getD j []).length=N:=hR.rect j hjm;have hS1:=hS.at (i:=j+1) (bS (Vs:=Vs) (by omega) hjm) (by rw[ae];omega);have cs:=je V (hR.lt j c) (zR j c) hmK k1;have hnz:Dh v s.rows c j=decide (fi v (aS s.rows j c)≠0):=rfl;generalize fi v (aS s.rows j c)=g at cs hnz;refine qP 4 rfl ?_;refine af.idxs tok hS0 rfl rfl rfl rfl rfl (aj j) (by rw[ae];omega) ?_;refine af.bc tok (.v (Vs.getD j undef)) hS0 rfl rfl rfl rfl rfl rfl rfl (b7 (by omega)) rfl ?_;refine qP 1 rfl ?_;refine af.idxs tok hS1 rfl rfl rfl rfl rfl (aj c) (by rw[ae];omega) ?_;refine af.bc tok (ah (aS s.rows j c)) hS1 rfl rfl rfl rfl rfl rfl rfl (hel hR.rect hjm c hcN) rfl ?_;refine af.call tok rfl rfl rfl rfl rfl cs ?_;refine qP 1 rfl ?_;refine af.nil ⟨rfl,?_⟩;refine ai.nil ?_;refine AZ.cond rfl (fun h=>?_) (fun h=>?_)
   · have hg:g=0:=aq h;refine AZ.skip (AZ.block ?_);refine AZ.cQ (fun B1 F1 w1=>?_);refine qU 2 rfl ?_;rw[aF (x:=(j:Int)+1) (by omega) (by omega)];refine qU 1 rfl ?_;refine ab.nil ⟨rfl,?_⟩;exact⟨j+1,rfl,⟨by omega,hjm,by rw[← ot hjm (by rw[hnz,hg];rfl)];exact j3⟩,by omega⟩
   · have hg:g≠0:=au h;rw[qS hjm (by rw[hnz,aN hg])] at j3;exact AZ.exit ⟨(),by rw[← j3];rfl,trivial⟩
 show AZ _ _ _ _ _ _ _ ((Vr,OA Vs)::cu Vs s.rows) [(1,.d (.v Vr)),(2,.bx [.sl 1 (v.map ah)]),(6,CA s.cols),(7,.d (dI c)),(8,.d (dI s.cols.length)),(9,.d (dI (atR v s c)))];refine AZ.seq (AZ.seq ?_);refine AZ.rG (fun B1 F1 w1 hS=>?_);refine qU 2 rfl ?_;refine ab.lens tok (hS.at (i:=0) rfl (by rw[ae];omega)) rfl rfl rfl rfl ?_;rw[ae];refine qU 1 rfl ?_;refine ab.nil ⟨rfl,?_⟩;refine AZ.cond rfl (fun h=>?_) (fun h=>?_)
 · have hat: ¬atR v s c<s.rows.length:=by have:=beq_iff_eq.1 h;omega
   have hst:aB v a (c+1)=s:=by rw[hnext];unfold cT;rw[if_neg hat]
   refine AZ.exit ?_;refine AZ.cQ (fun B1 F1 w1=>?_);refine qU 2 rfl ?_;rw[aF (x:=(c:Int)+1) (by omega) (by omega)];refine qU 1 rfl ?_;refine ab.nil ⟨rfl,?_⟩;exact⟨(c+1,Vr,Vs),by rw[hst];rfl,⟨hcN,hVs⟩,by show N-(c+1)<N-c;omega⟩
 have hat:atR v s c<s.rows.length:=by have:=beq_eq_false_iff_ne.1 h;omega
 have hst:aB v a (c+1)=⟨cD v (eR v s c) s.cols.length c (eR v s c).length,s.cols++[c],if atR v s c=s.cols.length then s.sg else -s.sg,dK v s.cE (pR v s c)⟩:=by rw[hnext];unfold cT;rw[if_pos hat]
 obtain ⟨hb1,hb2,hb3⟩:=s8 (c:=c) hR hat;obtain ⟨he1,he2,he3⟩:=Au V.a (c:=c) hR hat
 have hbr:bR v s c=zf s.rows s.cols.length (atR v s c):=by
  unfold bR;split
  · rename_i e;rw[e,DY hlt]
  · rfl
 have hpr:pR v s c=aS (bR v s c) s.cols.length c:=rfl;have hE:eR v s c=(bR v s c).set s.cols.length (yr v ((bR v s c).getD s.cols.length []) (pR v s c)):=rfl
 have hpz:fi v (pR v s c)≠0:=by
  rw[hpr,hbr];unfold aS zf;rw[eM,if_pos ⟨rfl,by rw[List.length_set];exact hlt⟩];exact hat4 hat
 have zE2:=zE hcN hat;have zI2:=zI hcN hat;have zN2:=zN hcN;rw[hst] at zN2;clear zE zI zN
 have zB: ∀j i,ay Kz (aS (bR v s c) j i):=fun j i=>by
  rw[hbr];unfold aS zf;rw[eM];split
  · exact zR _ _
  · rw[eM];split
    · exact zR _ _
    · exact zR _ _
 generalize bR v s c=b at *;generalize pR v s c=p at *;generalize eR v s c=e at *;generalize atR v s c=t at *;refine AZ.skip ?_;refine AZ.cut [1,2,6,7,8] (fun _:Unit=>((Vr,OA (zg Vs s.cols.length t))::cu Vs s.rows,[(1,.d (.v Vr)),(2,.bx [.sl 1 (v.map ah)]),(6,CA s.cols),(7,.d (dI c)),(8,.d (dI s.cols.length))])) (fun _=>True) ?_ (fun _ _=>?_)
 · refine AZ.any aQ (iy.q7 [(2,12),(3,12)] (by kernel_rfl) (fun _ _ _ h=>h) (fun _ _ h=>h) (iy.kP 12 (by kernel_rfl) (fun B1 F1 w1 hS=>?_)));have hS0:=hS.at (i:=0) rfl (by rw[ae];omega);refine qP 6 rfl ?_;refine af.idxs tok hS0 rfl rfl rfl rfl rfl (aj t) (by rw[ae];omega) ?_;refine af.bc tok (.v (Vs.getD t undef)) hS0 rfl rfl rfl rfl rfl rfl rfl (b7 (by omega)) rfl ?_;refine qP 2 rfl ?_;refine af.idxs tok hS0 rfl rfl rfl rfl rfl (aj s.cols.length) (by rw[ae];omega) ?_;refine af.bc tok (.v (Vs.getD s.cols.length undef)) hS0 rfl rfl rfl rfl rfl rfl rfl (b7 (by omega)) rfl ?_;refine af.nil ⟨rfl,?_⟩;refine ai.to [1,2,6,7,8,9,53,54,55,56,60,64] [(1,.d (.v Vr)),(2,.bx [.sl 1 (v.map ah)]),(6,CA s.cols),(7,.d (dI c)),(8,.d (dI s.cols.length)),(9,.d (dI t)),(53,.d (.v Vr)),(54,.d (dI s.cols.length)),(55,.d (.v Vr)),(56,.d (dI t)),(60,.d (.v (Vs.getD t undef))),(64,.d (.v (Vs.getD s.cols.length undef)))] rfl ?_;refine ai.we 1 rfl (fun B1 F1 w1 hS=>?_);refine ab.idxs tok (hS.at (i:=0) rfl (by rw[ae];omega)) rfl rfl rfl rfl (aj s.cols.length) (by rw[ae];omega) ?_;refine ab.nil ⟨rfl,?_⟩;refine ai.c8 53 0 rfl rfl rfl ?_;refine ai.el (k:=s.cols.length) tok 53 65 rfl (List.Mem.head _) rfl rfl rfl (by rw[ae];omega) rfl ?_;refine ai.cut 1 rfl (fun B1 F1 w1=>?_);refine ab.kB tok (Vs.getD t undef) rfl rfl rfl (by omega) ?_;refine ab.nil ⟨rfl,?_⟩;refine ai.back 53 0 rfl rfl rfl (List.Mem.head _) rfl ?_;refine ai.jl (R':=((Vr,OA (Vs.set s.cols.length (Vs.getD t undef)))::cu Vs s.rows)) rfl ?_;refine ai.to [1,2,6,7,8,9,55,56,64] [(1,.d (.v Vr)),(2,.bx [.sl 1 (v.map ah)]),(6,CA s.cols),(7,.d (dI c)),(8,.d (dI s.cols.length)),(9,.d (dI t)),(55,.d (.v Vr)),(56,.d (dI t)),(64,.d (.v (Vs.getD s.cols.length undef)))] rfl ?_;refine ai.we 1 rfl (fun B1 F1 w1 hS=>?_);refine ab.idxs tok (hS.at (i:=0) rfl (by rw[ae,List.length_set];omega)) rfl rfl rfl rfl (aj t) (by rw[ae,List.length_set];omega) ?_;refine ab.nil ⟨rfl,?_⟩;refine ai.c8 55 0 rfl rfl rfl ?_;refine ai.el (k:=t) tok 55 66 rfl (List.Mem.head _) rfl rfl rfl (by rw[ae,List.length_set];omega) rfl ?_;refine ai.cut 1 rfl (fun B1 F1 w1=>?_);refine ab.kB tok (Vs.getD s.cols.length undef) rfl rfl rfl (by rw[List.length_set];omega) ?_;refine ab.nil ⟨rfl,?_⟩;refine ai.back 55 0 rfl rfl rfl (List.Mem.head _) rfl ?_
   refine ai.jl (R':=((Vr,OA (zg Vs s.cols.length t))::cu Vs s.rows)) (by
    show (Vr,OA ((Vs.set s.cols.length (Vs.getD t undef)).set t (Vs.getD s.cols.length undef)))::cu Vs s.rows=_
    rw[Ci]) ?_
   refine ai.nil ?_;exact⟨(),rfl,trivial⟩
 show AZ _ _ _ _ _ _ _ ((Vr,OA (zg Vs s.cols.length t))::cu Vs s.rows) [(1,.d (.v Vr)),(2,.bx [.sl 1 (v.map ah)]),(6,CA s.cols),(7,.d (dI c)),(8,.d (dI s.cols.length))];refine AZ.xc (t+1) (s.cols.length+1) (bS (Vs:=Vs) (by omega) hat) (bS (Vs:=Vs) (by omega) hlt) ?_;refine AZ.oZ ((Vr,OA (zg Vs s.cols.length t))::((cu Vs s.rows).set t (Vs.getD s.cols.length undef,eO (s.rows.getD s.cols.length []))).set s.cols.length (Vs.getD t undef,eO (s.rows.getD t []))) (fun _ _ h=> .inl h) ?_;rw[wA (by omega) hlt hat,← hbr];have hWs:(zg Vs s.cols.length t).length=b.length:=by rw[xS,hb1];omega
 generalize zg Vs s.cols.length t=Ws at *;obtain ⟨r,hrr⟩: ∃r,s.cols.length=r:=⟨_,rfl⟩;have hrb:r<b.length:=by omega
 have hrN:(b.getD r []).length=N:=hb2 r hrb;rw[hrr] at hst hpr hE;rw[hrr] at hlt;have cinv:=qh V (by rw[hpr];exact hb3 r c) (by rw[hpr];exact zB r c) hmK k1 k2 hpz;show AZ _ _ _ _ _ _ _ ((Vr,OA Ws)::cu Ws b) [(1,.d (.v Vr)),(2,.bx [.sl 1 (v.map ah)]),(6,CA s.cols),(7,.d (dI c)),(8,.d (dI s.cols.length))];rw[hrr];refine AZ.seq (AZ.Fs aQ 13 (by kernel_rfl) (fun B1 F1 w1 hS=>?_));have hS0:=hS.at (i:=0) rfl (by rw[ae];omega);have hS1:=hS.at (i:=r+1) (bS (Vs:=Ws) (by omega) hrb) (by rw[ae];omega);refine qP 3 rfl ?_;refine af.idxs tok hS0 rfl rfl rfl rfl rfl (aj r) (by rw[ae];show r<Ws.length;omega) ?_;refine af.bc tok (.v (Ws.getD r undef)) hS0 rfl rfl rfl rfl rfl rfl rfl (b7 (by omega)) rfl ?_;refine qP 1 rfl ?_;refine af.idxs tok hS1 rfl rfl rfl rfl rfl (aj c) (by rw[ae];omega) ?_;refine af.bc tok (ah (aS b r c)) hS1 rfl rfl rfl rfl rfl rfl rfl (hel hb2 hrb c hcN) rfl ?_;rw[← hpr];refine af.call tok rfl rfl rfl rfl rfl cinv ?_;refine qP 4 rfl ?_;refine af.nil ?_;refine qU 1 rfl ?_;refine ab.nil ⟨rfl,?_⟩;obtain ⟨f,hf⟩: ∃f,ar (gZ v.length v p)=f:=⟨_,rfl⟩;have hfl:aC v.length f:=by rw[← hf];exact bf (fX v.length (by rw[hpr];exact hb3 r c) V.ro (ak _))
 have hmul:=fun {x:NQ} (hx:aC v.length x)=>vw V hx (p:=p) (by rw[hpr];exact hb3 r c);rw[hf] at zI2 hmul ⊢;refine AZ.to [1,2,6,7,8,10] [(1,.d (.v Vr)),(2,.bx [.sl 1 (v.map ah)]),(6,CA s.cols),(7,.d (dI c)),(8,.d (dI r)),(10,.d (ah f))] rfl ?_;obtain ⟨row,hrow⟩: ∃row,b.getD r []=row:=⟨_,rfl⟩;have hz:=qu v row p;have hsr: ∀k,aS b r k=row.getD k []:=fun k=>by unfold aS;rw[hrow]
 have hb0:cu Ws b=cu Ws (b.set r row):=by rw[← hrow,nh hrb]
 have hgr: ∀q:List NQ,(cu Ws (b.set r q))[r]?=some (Ws.getD r undef,eO q):=fun q=>by
  rw[bS (by omega) (by simpa using hrb),eM,if_pos ⟨rfl,hrb⟩]
 rw[hrow] at hE hrN;rw[hb0];refine AZ.seq (AZ.seq ?_);refine AZ.rG (fun B1 F1 w1 hS=>?_);refine qU 2 rfl ?_;refine ab.idxs tok (hS.at (i:=0) rfl (by rw[ae];omega)) rfl rfl rfl rfl (aj _) (by show r<_;rw[ae];omega) ?_;refine ab.bc tok (.v (Ws.getD r undef)) (hS.at (i:=0) rfl (by rw[ae];omega)) rfl rfl rfl rfl rfl rfl (b7 (by omega)) rfl ?_;refine ab.lens tok (hS.at (i:=r+1) (hgr row) (by rw[ae];omega)) rfl rfl rfl rfl ?_;rw[ae,hrN];refine qU 1 rfl ?_;refine ab.nil ⟨rfl,?_⟩;refine AZ.block ?_;refine AZ.aG [1,2,6,7,8,10,83,84] (fun k:Nat=>(((Vr,OA Ws)::cu Ws (b.set r (ir (yr v row p) row k))),[(1,.d (.v Vr)),(2,.bx [.sl 1 (v.map ah)]),(6,CA s.cols),(7,.d (dI c)),(8,.d (dI r)),(10,.d (ah f)),(83,.d (dI N)),(84,.d (dI k))])) (fun k=>k≤N) (fun k=>N-k) 0 (by rw[rS];rfl) (Nat.zero_le _) (fun k hk=>?_);show AZ _ _ _ _ _ _ _ ((Vr,OA Ws)::cu Ws (b.set r (ir (yr v row p) row k))) [(1,.d (.v Vr)),(2,.bx [.sl 1 (v.map ah)]),(6,CA s.cols),(7,.d (dI c)),(8,.d (dI r)),(10,.d (ah f)),(83,.d (dI N)),(84,.d (dI k))];refine AZ.seq (AZ.cQ (fun B1 F1 w1=>?_));refine qU 1 rfl ?_;refine ab.nil ⟨rfl,?_⟩;refine AZ.seq ?_;refine AZ.cond rfl (fun h=>?_) (fun h=>?_)
 · have hkN:k<N:=by have:=aq h;omega
   have hpl:=qx hz (i:=k) (by omega);have hpg:=vy hz (show k<row.length by omega) [];have hps:=vx hz (show k<row.length by omega) (d:=[]) (qv v row p (show k<row.length by omega));have cd:=ns V (a:=row.getD k []) (b:=f) (by rw[← hsr];exact hb3 r k) (by rw[← hsr];exact zB r k) hfl zI2 hmK k3;rw[hmul (by rw[← hsr];exact hb3 r k)] at cd;generalize ir (yr v row p) row k=q at *;generalize row.getD k []=X at *;generalize mT v X p=Y at *;refine AZ.skip (AZ.seq ?_);refine AZ.block (AZ.seq ?_);refine AZ.cQ (fun B1 F1 w1=>?_);refine qU 2 rfl ?_;refine ab.nil ⟨rfl,?_⟩;refine AZ.any aQ (iy.q7 [(17,18)] (by kernel_rfl) (fun _ _ _ h=>h) (fun _ _ h=>h) (iy.kP 18 (by kernel_rfl) (fun B1 F1 w1 hS=>?_)));have hS0:=hS.at (i:=0) rfl (by rw[ae];omega);have hS1:=hS.at (i:=r+1) (hgr q) (by rw[ae];omega);refine qP 2 rfl ?_;refine af.idxs tok hS0 rfl rfl rfl rfl rfl (aj r) (by rw[ae];omega) ?_;refine af.bc tok (.v (Ws.getD r undef)) hS0 rfl rfl rfl rfl rfl rfl rfl (b7 (by omega)) rfl ?_;refine qP 4 rfl ?_;refine af.idxs tok hS0 rfl rfl rfl rfl rfl (aj r) (by rw[ae];omega) ?_;refine af.bc tok (.v (Ws.getD r undef)) hS0 rfl rfl rfl rfl rfl rfl rfl (b7 (by omega)) rfl ?_;refine qP 1 rfl ?_;refine af.idxs tok hS1 rfl rfl rfl rfl rfl (aj k) (by rw[ae];omega) ?_;refine af.bc tok (ah (q.getD k [])) hS1 rfl rfl rfl rfl rfl rfl rfl (getM ah (by omega)) rfl ?_;rw[hpg];refine qP 1 rfl ?_;refine af.call tok rfl rfl rfl rfl rfl cd ?_;refine qP 3 rfl ?_;refine af.nil ⟨rfl,?_⟩;refine ai.to [91,92,103,1,2,6,7,8,10,83,84] [(91,.d (.v (Ws.getD r undef))),(92,.d (dI k)),(103,.d (ah Y)),(1,.d (.v Vr)),(2,.bx [.sl 1 (v.map ah)]),(6,CA s.cols),(7,.d (dI c)),(8,.d (dI r)),(10,.d (ah f)),(83,.d (dI N)),(84,.d (dI k))] rfl ?_;refine ai.we 1 rfl (fun B1 F1 w1 hS=>?_);refine ab.idxs tok (hS.at (i:=r+1) (hgr q) (by rw[ae];omega)) rfl rfl rfl rfl (aj k) (by rw[ae];omega) ?_;refine ab.nil ⟨rfl,?_⟩;refine ai.c8 91 (r+1) (hgr q) rfl rfl ?_;refine ai.el (k:=k) tok 91 105 rfl (List.Mem.head _) rfl rfl rfl (by rw[ae];omega) rfl ?_;refine ai.cut 1 rfl (fun B1 F1 w1=>?_);refine ab.m7 tok Y rfl rfl rfl (by omega) ?_;rw[hps];refine ab.nil ⟨rfl,?_⟩;refine ai.back 91 (r+1) rfl rfl rfl (List.Mem.head _) (List.getElem?_set_self (by have:=(List.getElem?_eq_some_iff.1 (hgr q)).1;simp only[List.length_cons];omega)) ?_
   refine ai.jl (R':=((Vr,OA Ws)::cu Ws (b.set r (ir (yr v row p) row (k+1))))) (by
    show (Vr,OA Ws)::((cu Ws (b.set r q)).set r _).set r _=_
    rw[List.set_set,uy (by omega) (by simpa using hrb),List.set_set]) ?_
   refine ai.nil ?_;refine AZ.to [1,2,6,7,8,10,83,84] [(1,.d (.v Vr)),(2,.bx [.sl 1 (v.map ah)]),(6,CA s.cols),(7,.d (dI c)),(8,.d (dI r)),(10,.d (ah f)),(83,.d (dI N)),(84,.d (dI k))] rfl ?_;refine AZ.cQ (fun B1 F1 w1=>?_);refine qU 1 rfl ?_;rw[aF (x:=(k:Int)+1) (by omega) (by omega)];refine qU 1 rfl ?_;refine ab.nil ⟨rfl,?_⟩;exact⟨k+1,rfl,hkN,by omega⟩
 have hkN:k=N:=by have:=au h;omega
 subst hkN;rw[show ir (yr v row p) row k=yr v row p by rw[← hrN];exact vz hz,← hE];refine AZ.exit ?_;have hWe:Ws.length=e.length:=by omega
 have hre:r<e.length:=by omega
 have he2c:e.length=s.rows.length:=by omega
 clear hb0 hgr;refine AZ.to [1,2,6,7,8] [(1,.d (.v Vr)),(2,.bx [.sl 1 (v.map ah)]),(6,CA s.cols),(7,.d (dI c)),(8,.d (dI r))] rfl ?_;refine AZ.seq (AZ.seq ?_);refine AZ.rG (fun B1 F1 w1 hS=>?_);refine qU 1 rfl ?_;refine ab.lens tok (hS.at (i:=0) rfl (by rw[ae];omega)) rfl rfl rfl rfl ?_;rw[ae,hWe];refine qU 1 rfl ?_;refine ab.nil ⟨rfl,?_⟩;refine AZ.block (AZ.aG [1,2,6,7,8,108,109] (fun z:Nat×List Value=>((Vr,OA z.2)::cu z.2 (cD v e r c z.1),[(1,.d (.v Vr)),(2,.bx [.sl 1 (v.map ah)]),(6,CA s.cols),(7,.d (dI c)),(8,.d (dI r)),(108,.d (dI e.length)),(109,.d (dI z.1))])) (fun z=>z.1≤e.length∧z.2.length=e.length) (fun z=>e.length-z.1) (0,Ws) rfl ⟨Nat.zero_le _,hWe⟩ (fun z hz2=>?_));obtain ⟨i,Ws⟩:=z;obtain ⟨hi,hWe⟩:=hz2
 dsimp only at hi hWe
 show AZ _ _ _ _ _ _ _ ((Vr,OA Ws)::cu Ws (cD v e r c i)) [(1,.d (.v Vr)),(2,.bx [.sl 1 (v.map ah)]),(6,CA s.cols),(7,.d (dI c)),(8,.d (dI r)),(108,.d (dI e.length)),(109,.d (dI i))];refine AZ.seq (AZ.cQ (fun B1 F1 w1=>?_));refine qU 1 rfl ?_;refine ab.nil ⟨rfl,?_⟩;refine AZ.seq ?_;refine AZ.cond rfl (fun h=>?_) (fun h=>?_)
 · have hie:i<e.length:=by have:=aq h;omega
   have hm1:=kj v e r c i;have hm2:=ox (v:=v) (r:=r) (c:=c) he2 i (by omega);have hm3:=ur V.a (r:=r) (c:=c) he3 i;have hmi:=fJ v e r c i i (.inl (ak _));have hmr:=fJ v e r c i r (.inr rfl);have hnx:cD v e r c (i+1)=if i≠r∧fi v (aS (cD v e r c i) i c)≠0 then (cD v e r c i).set i (eT v ((cD v e r c i).getD i []) ((cD v e r c i).getD r []) (aS (cD v e r c i) i c)) else cD v e r c i:=rfl
   have jG:aS (cD v e r c i) i c=aS e i c:=uu v e r c i c;have zi: ∀q,ay Kz (((cD v e r c i).getD i []).getD q []):=fun q=>by rw[hmi];exact zE2 i q
   have zr: ∀q,ay Kz (((cD v e r c i).getD r []).getD q []):=fun q=>by rw[hmr];exact zE2 r q
   have zc:ay Kz (aS (cD v e r c i) i c):=zi c;generalize cD v e r c i=m at *;refine AZ.skip (AZ.seq ?_);refine AZ.block (AZ.seq ?_);refine AZ.cQ (fun B1 F1 w1=>?_);refine qU 2 rfl ?_;refine ab.nil ⟨rfl,?_⟩;refine AZ.seq (AZ.any aQ (iy.kP 15 (by kernel_rfl) (fun B1 F1 w1 hS=>?_)));have hS0:=hS.at (i:=0) rfl (by rw[ae];omega);refine qP 3 rfl ?_;by_cases hir:i=r
   · rw[if_neg (fun g=>g.1 hir)] at hnx;rw[bne_eq_false_iff_eq.2 (show (i:Int)=(r:Int) by omega)];refine qP 12 rfl ?_;refine af.nil ⟨rfl,?_⟩;refine ai.nil ?_;refine AZ.aA rfl ?_;refine AZ.skip (AZ.cQ (fun B1 F1 w1=>?_));refine qU 1 rfl ?_;rw[aF (x:=(i:Int)+1) (by omega) (by omega)];refine qU 1 rfl ?_;refine ab.nil ⟨rfl,?_⟩;exact⟨(i+1,Ws),Prod.ext (show ((Vr,OA Ws)::cu Ws m)=((Vr,OA Ws)::cu Ws (cD v e r c (i+1))) by rw[hnx]) rfl,⟨hie,hWe⟩,by show e.length-(i+1)<e.length-i;omega⟩
   have hmiN:(m.getD i []).length=k:=hm2 i (by omega);have hmrN:(m.getD r []).length=k:=hm2 r (by omega);have hgi:=bS (Vs:=Ws) (a:=m) (j:=i) (by omega) (by omega);have hgr2:=bS (Vs:=Ws) (a:=m) (j:=r) (by omega) (by omega);have hS1:=hS.at (i:=i+1) hgi (by rw[ae];omega);have cs:=je V (hm3 i c) zc hmK k1;rw[bne_iff_ne.2 (show (i:Int)≠(r:Int) by omega)];refine qP 4 rfl ?_;refine af.idxs tok hS0 rfl rfl rfl rfl rfl (aj i) (by rw[ae];omega) ?_;refine af.bc tok (.v (Ws.getD i undef)) hS0 rfl rfl rfl rfl rfl rfl rfl (b7 (by omega)) rfl ?_;refine qP 1 rfl ?_;refine af.idxs tok hS1 rfl rfl rfl rfl rfl (aj c) (by rw[ae];omega) ?_;refine af.bc tok (ah (aS m i c)) hS1 rfl rfl rfl rfl rfl rfl rfl (hel hm2 (by omega) c hcN) rfl ?_;refine af.call tok rfl rfl rfl rfl rfl cs ?_;refine qP 2 rfl ?_;refine af.nil ⟨rfl,?_⟩;refine ai.nil ?_;refine AZ.cond rfl (fun h=>?_) (fun h=>?_);rotate_left
   · have hg:fi v (aS m i c)=0:=by simpa using h
     rw[if_neg (fun g=>g.2 hg)] at hnx;refine AZ.skip (AZ.cQ (fun B1 F1 w1=>?_));refine qU 1 rfl ?_;rw[aF (x:=(i:Int)+1) (by omega) (by omega)];refine qU 1 rfl ?_;refine ab.nil ⟨rfl,?_⟩;exact⟨(i+1,Ws),Prod.ext (show ((Vr,OA Ws)::cu Ws m)=((Vr,OA Ws)::cu Ws (cD v e r c (i+1))) by rw[hnx]) rfl,⟨hie,hWe⟩,by show e.length-(i+1)<e.length-i;omega⟩
   have hg:fi v (aS m i c)≠0:=by simpa using h
   rw[if_pos ⟨hir,hg⟩] at hnx;have ct:=qe (Ws.getD i undef) (Ws.getD r undef) V (xs:=m.getD i []) (ys:=m.getD r []) (c:=aS m i c) (hm3 i) (hm3 r) (hm3 i c) zi zr zc hmK k3 (by omega) (by omega) (by omega);refine AZ.any aQ (iy.q7 [(0,18),(1,18)] (by kernel_rfl) (fun _ _ _ h=>h) (fun _ _ h=>h) (iy.kP 18 (by kernel_rfl) (fun B1 F1 w1 hS=>?_)));have hS0:=hS.at (i:=0) rfl (by rw[ae];omega);have hS1:=hS.at (i:=i+1) hgi (by rw[ae];omega);refine qP 5 rfl ?_;refine af.idxs tok hS0 rfl rfl rfl rfl rfl (aj i) (by rw[ae];omega) ?_;refine af.bc tok (.v (Ws.getD i undef)) hS0 rfl rfl rfl rfl rfl rfl rfl (b7 (by omega)) rfl ?_;refine qP 2 rfl ?_;refine af.idxs tok hS0 rfl rfl rfl rfl rfl (aj r) (by rw[ae];omega) ?_;refine af.bc tok (.v (Ws.getD r undef)) hS0 rfl rfl rfl rfl rfl rfl rfl (b7 (by omega)) rfl ?_;refine qP 2 rfl ?_;refine af.idxs tok hS0 rfl rfl rfl rfl rfl (aj i) (by rw[ae];omega) ?_;refine af.bc tok (.v (Ws.getD i undef)) hS0 rfl rfl rfl rfl rfl rfl rfl (b7 (by omega)) rfl ?_;refine qP 1 rfl ?_;refine af.idxs tok hS1 rfl rfl rfl rfl rfl (aj c) (by rw[ae];omega) ?_;refine af.bc tok (ah (aS m i c)) hS1 rfl rfl rfl rfl rfl rfl rfl (hel hm2 (by omega) c hcN) rfl ?_;refine af.nil ⟨rfl,?_⟩;refine ai.to [127,128,129,133,137,144,1,2,6,7,8,108,109] [(127,.d (.v Vr)),(128,.d (dI i)),(129,.d (bt v)),(133,.d (.v (Ws.getD i undef))),(137,.d (.v (Ws.getD r undef))),(144,.d (ah (aS m i c))),(1,.d (.v Vr)),(2,.bx [.sl 1 (v.map ah)]),(6,CA s.cols),(7,.d (dI c)),(8,.d (dI r)),(108,.d (dI e.length)),(109,.d (dI i))] rfl ?_;refine ai.iD tok [i+1,r+1] rfl rfl rfl rfl (Ib hgi hgr2) (by simp[hir]) rfl ct (fun res R1 hP=>by obtain ⟨_,_,rfl⟩:=hP;exact Nat.le_succ 2) (fun res R1 hP=>?_);obtain ⟨V,rfl,rfl⟩:=hP
   refine ai.jl (R':=((Vr,OA Ws)::cu Ws m++[(V,eO (eT v (m.getD i []) (m.getD r []) (aS m i c)))])) (by
    show ((Vr,OA Ws)::((cu Ws m).set i _).set r _)++[_]=_
    rw[lp hgi,lp hgr2]) ?_
   refine ai.we 1 rfl (fun B1 F1 w1 hS=>?_);refine ab.idxs tok (hS.at (i:=0) rfl (by rw[ae];omega)) rfl rfl rfl rfl (aj i) (by rw[ae];omega) ?_;refine ab.nil ⟨rfl,?_⟩;refine ai.c8 127 0 rfl rfl rfl ?_;refine ai.el (k:=i) tok 127 146 rfl (List.Mem.head _) rfl rfl rfl (by rw[ae];omega) rfl ?_;refine ai.cut 1 rfl (fun B1 F1 w1=>?_);refine ab.kB tok V rfl rfl rfl (by omega) ?_;refine ab.nil ⟨rfl,?_⟩;refine ai.back 127 0 rfl rfl rfl (List.Mem.head _) rfl ?_;refine ai.jl (R':=((Vr,OA (Ws.set i V))::cu Ws m++[(V,eO (eT v (m.getD i []) (m.getD r []) (aS m i c)))])) rfl ?_;refine ai.nil ?_;refine AZ.to [1,2,6,7,8,108,109] [(1,.d (.v Vr)),(2,.bx [.sl 1 (v.map ah)]),(6,CA s.cols),(7,.d (dI c)),(8,.d (dI r)),(108,.d (dI e.length)),(109,.d (dI i))] rfl ?_;refine AZ.zF (i:=i) hgi ?_;rw[nT (by omega) (by omega),← hnx];refine AZ.cQ (fun B1 F1 w1=>?_);refine qU 1 rfl ?_;rw[aF (x:=(i:Int)+1) (by omega) (by omega)];refine qU 1 rfl ?_;refine ab.nil ⟨rfl,?_⟩;exact⟨(i+1,Ws.set i V),rfl,⟨hie,by show (Ws.set i V).length=_;rw[List.length_set];exact hWe⟩,by show e.length-(i+1)<e.length-i;omega⟩
 have hie:i=e.length:=by have:=au h;omega
 subst hie;refine AZ.exit ?_;refine AZ.cQ (fun B1 F1 w1=>?_);refine qU 2 rfl ?_;refine ab.fj tok rfl rfl rfl rfl rfl ?_;refine ab.gv tok rfl rfl rfl rfl rfl rfl (by show ((s.cols.map (fun c:Nat=>dI c)).length+1)*8≤_;rw[ae];omega) (by show (s.cols.map (fun c:Nat=>dI c)).length+1≤_;rw[ae];omega) ?_;refine qU 1 rfl ?_;refine ab.nil ⟨rfl,?_⟩;refine AZ.cQ (fun B1 F1 w1=>?_);refine qU 2 rfl ?_;rw[aF (x:=(c:Int)+1) (by omega) (by omega)];refine qU 1 rfl ?_;refine ab.nil ⟨rfl,?_⟩;exact⟨(c+1,Vr,Ws),by rw[hst];show _=((Vr,OA Ws)::cu Ws (cD v e r c e.length),([(1,.d (.v Vr)),(2,.bx [.sl 1 (v.map ah)]),(6,.ow 3 ((s.cols++[c]).map (fun c:Nat=>dI c))),(7,.d (dI (c+1:Nat)))]:St));rw[List.map_append];rfl,⟨hcN,by show Ws.length=a.length;omega⟩,by show k-(c+1)<k-c;omega⟩
end Lift
namespace Lift
open Go Go.Proofs
theorem x8(l:List Nat)(hl:l.length≤1000000)(n:Nat):Pure Tryz.prog 72 [bT l,dI n] (dB (l.contains n)):=by
 refine qJ 17 Tryz.func72 rfl rfl rfl rfl (by kernel_rfl) (fun B F0 w0=>?_);obtain ⟨E,hE⟩: ∃E,(l.drop 0).contains n=E:=⟨_,rfl⟩;rw[show l.contains n=E from hE];refine qX 1 rfl ?_;refine qI (qX 2 rfl ?_);rw[ae];refine qU 1 rfl ?_;refine ab.nil ?_;refine AW.block ?_;refine AW.aG [1,7,8,9] (fun i:Nat=>[(1,.d (dI n)),(7,.d (bT l)),(8,.d (dI l.length)),(9,.d (dI i))]) (fun i=>i≤l.length∧(l.drop i).contains n=E) (fun i=>l.length-i) 0 rfl ⟨Nat.zero_le _,hE⟩ (fun i ⟨hi,hiE⟩=>?_)
 · show AW _ _ _ _ _ _ _ [(1,.d (dI n)),(7,.d (bT l)),(8,.d (dI l.length)),(9,.d (dI i))];refine qX 1 rfl ?_;refine qI ?_;refine AW.cond rfl (fun h=>?_) (fun h=>?_)
   · have hii:i<l.length:=by have:=aq h;omega
     have g1:=oX (l:=l) (i:=i) hii;have hge:l[i]=l.getD i 0:=by rw[aE,a8 hii];rfl
     rw[List.drop_eq_getElem_cons hii,List.contains_cons,hge] at hiE;generalize l.getD i 0=x at g1 hiE;refine AW.skip (AW.seq (AW.block (AW.seq (AW.region ?_))));refine ab.idx tok (dI x) rfl rfl rfl rfl (aj i) g1 ?_;refine qU 2 rfl ?_;refine qK 3 rfl ?_;refine ab.nil ?_;refine AW.cond rfl (fun h=>?_) (fun h=>?_)
     · have hx:x=n:=by have:=beq_iff_eq.1 h;omega
       rw[hx,beq_self_eq_true,Bool.true_or] at hiE;rw[← hiE];refine qX 1 rfl ?_;exact qN rfl
     · have hx:x≠n:=by have:=beq_eq_false_iff_ne.1 h;omega
       rw[beq_eq_false_iff_ne.2 (Ne.symm hx),Bool.false_or] at hiE;refine AW.skip (qT 1 rfl ?_);rw[aF (x:=(i:Int)+1) (by omega) (by omega)];refine qU 1 rfl ?_;refine ab.nil ?_;exact⟨i+1,rfl,⟨hii,hiE⟩,by omega⟩
   have hii:i=l.length:=by have:=au h;omega
   rw[hii,List.drop_length] at hiE;rw[← hiE];refine AW.exit ?_;refine qX 1 rfl ?_;exact qN rfl
theorem ph:Pure Tryz.prog 97 [(Qr ((1:Int):Rat)).D] (ah [1]):=by
 refine qJ 10 Tryz.func97 rfl rfl rfl rfl (by kernel_rfl) (fun B0 F0 w0=>?_);have hw:(Qr ((1:Int):Rat)).w 1:=jB _ (by have:=jD;rw[show ((1:Int):Rat)=1 from rfl];omega);have c1:=sQ (Qr ((1:Int):Rat)) hw (by decide);have c2:=u6 (Qr ((1:Int):Rat)) (Qr 0) hw (jB _ (mD (ak 1))) (by decide);rw[cG,cG,show ((1:Int):Rat)+0=((1:Int):Rat) from Rat.add_zero _,jO] at c2;rw[xY,cG] at c1;refine qX 2 rfl ?_;refine qI (qX 1 rfl ?_);refine ab.call tok rfl rfl rfl rfl c1 ?_;refine qU 1 rfl ?_;refine ab.nil ?_;rw[beq_eq_false_iff_ne.2 (fun e=>absurd (jd.1 e) (by decide))];refine AW.aA rfl ?_;refine AW.skip (qX 2 rfl ?_);refine ab.call tok rfl rfl rfl rfl c2 ?_;refine ab.fj tok rfl rfl rfl rfl rfl ?_;refine qU 1 rfl ?_;exact qN rfl
theorem uX(v:List NQ):Pure Tryz.prog 51 [bt v,aX []] (.tu [aX [],bT []]):=by
 refine qJ 157 Tryz.func51 rfl rfl rfl rfl (by kernel_rfl) (fun B F0 w0=>?_);refine AZ.aw ?_;refine AZ.seq (AZ.cQ (fun B1 F1 w1=>?_));refine qU 3 rfl ?_;refine ab.nil ⟨rfl,?_⟩;refine AZ.seq (AZ.region ?_);refine ai.cut 1 rfl (fun B1 F1 w1=>?_);refine qU 1 rfl ?_;refine ab.nil ⟨rfl,?_⟩;refine ai.iD tok [] rfl rfl rfl rfl rfl List.nodup_nil rfl (iX (a:=[]) (Nat.zero_le _) (fun i=>Nat.zero_le _)) (fun _ _ _=>Nat.zero_le _) (fun res R1 hP=>?_);obtain ⟨V0,Vs0,hV0,rfl,rfl⟩:=hP;obtain rfl:Vs0=[]:=List.length_eq_zero_iff.1 hV0;refine ai.cut 1 rfl (fun B1 F1 w1=>?_);refine qU 1 rfl ?_;refine ab.nil ⟨rfl,?_⟩;refine ai.nil ?_;refine AZ.to [1,2] [(1,.d (.v V0)),(2,.bx [.sl 1 (v.map ah)])] rfl ?_;refine AZ.c8 1 0 rfl rfl rfl ?_;refine AZ.seq (AZ.cQ (fun B1 F1 w1=>?_));refine ab.fT tok 1 rfl rfl ?_;refine qU 1 rfl ?_;refine ab.nil ⟨rfl,?_⟩;refine AZ.seq (AZ.seq ?_);refine AZ.cQ (fun B1 F1 w1=>?_);refine qU 1 rfl ?_;refine ab.nil ⟨rfl,?_⟩;refine AZ.to [1,2,6,7] [(1,.d (aX [])),(2,.bx [.sl 1 (v.map ah)]),(6,.ow 3 []),(7,.d (dI (0:Nat)))] rfl ?_;refine AZ.oZ [] (fun i r h=>by simp at h) ?_;refine AZ.block (AZ.aG [1,2,6,7] (fun _:Unit=>([],[(1,.d (aX [])),(2,.bx [.sl 1 (v.map ah)]),(6,.ow 3 []),(7,.d (dI (0:Nat)))])) (fun _=>True) (fun _=>0) () rfl trivial (fun _ _=>?_));show AZ _ _ _ _ _ _ _ [] [(1,.d (aX [])),(2,.bx [.sl 1 (v.map ah)]),(6,.ow 3 []),(7,.d (dI (0:Nat)))];refine AZ.seq (AZ.seq ?_);refine AZ.cQ (fun B1 F1 w1=>?_);refine qU 2 rfl ?_;refine ab.call tok rfl rfl rfl rfl (fx []) ?_;refine qU 9 rfl ?_;refine ab.nil ⟨rfl,?_⟩;refine AZ.aA rfl ?_;refine AZ.exit ?_;refine AZ.seq (AZ.cQ (fun B1 F1 w1=>?_));refine ab.fT tok 6 rfl rfl ?_;refine qU 3 rfl ?_;refine ab.Ck tok rfl rfl rfl rfl trivial (Int.le_refl _) (Nat.zero_le _) (Nat.zero_le _) ?_;refine qU 3 rfl ?_;refine ab.nil ⟨rfl,?_⟩;exact AZ.ret rfl
def Ay(f:Nat→List Nat)(i:Nat):List Nat:=(List.range i).filter fun j=>decide ((f j).length=(f (j+1)).length)
def wT(f:Nat→List Nat)(i:Nat):List Nat:=(List.range i).filter fun j=> !decide ((f j).length=(f (j+1)).length)
theorem Dy(f:Nat→List Nat)(i:Nat):Ay f (i+1)=if (f i).length=(f (i+1)).length then Ay f i++[i] else Ay f i:=by
 unfold Ay;rw[List.range_succ,List.filter_append];split
 · rename_i h;rw[List.filter_cons_of_pos (by simp[h])];rfl
 · rename_i h;rw[List.filter_cons_of_neg (by simp[h]),List.filter_nil,List.append_nil]
theorem xy(f:Nat→List Nat)(i:Nat):wT f (i+1)=if (f i).length=(f (i+1)).length then wT f i else wT f i++[i]:=by
 unfold wT;rw[List.range_succ,List.filter_append];split
 · rename_i h;rw[List.filter_cons_of_neg (by simp[h]),List.filter_nil,List.append_nil]
 · rename_i h;rw[List.filter_cons_of_pos (by simp[h])];rfl
theorem Fw(f:Nat→List Nat)(i:Nat):(Ay f i).length≤i:=Nat.le_trans (List.length_filter_le ..) (by rw[List.length_range];exact ak _)
theorem E2(f:Nat→List Nat)(i:Nat):(wT f i).length≤i:=Nat.le_trans (List.length_filter_le ..) (by rw[List.length_range];exact ak _)
theorem rJ{v:List NQ}{a:a6}(ha:a.length≤1000000)(f:Nat→List Nat)(g:Nat→a6)(cr: ∀i,i≤a.length→Pure Tryz.prog 51 [bt v,aX (a.take i)] (.tu [aX (g i),bT (f i)])):
  Pure Tryz.prog 53 [bt v,aX a] (.tu [bT (Ay f a.length),bT (wT f a.length)]):=by
 refine qJ 51 Tryz.func53 rfl rfl rfl rfl (by kernel_rfl) (fun B F0 w0=>?_);have hd:=Dy f;have hi:=xy f;have hdl:=Fw f;have hil:=E2 f;have hd0:Ay f 0=[]:=rfl;have xz:wT f 0=[]:=rfl;generalize Ay f=dF at *;generalize wT f=iF at *;refine qX 3 rfl ?_;refine qK 2 rfl ?_;refine qI (qX 2 rfl ?_);rw[ae];refine qU 1 rfl ?_;refine ab.nil ?_;refine AW.block ?_;refine AW.aG [1,2,6,7,13,14,15] (fun c:Nat=>[(1,.d (aX a)),(2,.bx [.sl 1 (v.map ah)]),(6,.ow 3 ((dF c).map (fun n:Nat=>dI n))),(7,.ow 3 ((iF c).map (fun n:Nat=>dI n))),(13,.d (aX a)),(14,.d (dI a.length)),(15,.d (dI c))]) (fun c=>c≤a.length) (fun c=>a.length-c) 0 (by rw[hd0,xz];rfl) (Nat.zero_le _) (fun c hcc=>?_)
 · show AW _ _ _ _ _ _ _ [(1,.d (aX a)),(2,.bx [.sl 1 (v.map ah)]),(6,.ow 3 ((dF c).map (fun n:Nat=>dI n))),(7,.ow 3 ((iF c).map (fun n:Nat=>dI n))),(13,.d (aX a)),(14,.d (dI a.length)),(15,.d (dI c))];refine qX 1 rfl ?_;refine qI ?_;refine AW.cond rfl (fun h=>?_) (fun h=>?_)
   · have hca:c<a.length:=by have:=aq h;omega
     have hd:=hd c;have hi:=hi c;have hdl:=hdl c;have hil:=hil c;have c1:=cr c (by omega);have c2:=cr (c+1) (by omega);generalize f c=l1 at hd hi c1;generalize f (c+1)=l2 at hd hi c2;refine AW.skip (AW.seq (AW.block ?_));refine qX 2 rfl ?_;refine qI (AW.draw aQ 9 (by kernel_rfl) ?_);refine qP 3 rfl ?_;refine af.Ck tok rfl rfl rfl rfl rfl trivial (aj c) (Nat.zero_le _) (show ((c:Int)).toNat≤(a.map bW).length by rw[ae];omega) ?_
     rw[show ((a.map bW).take (cR (a.map bW).length (some (c:Int)))).drop (fK none)=(a.take c).map bW from by
      show ((a.map bW).take ((c:Int)).toNat).drop 0=_;rw[List.drop_zero,← List.map_take]
      rfl]
     refine af.call tok rfl rfl rfl rfl rfl c1 ?_;refine qP 4 rfl ?_;refine af.nil ?_;refine qU 1 rfl ?_;refine qI (AW.draw aQ 10 (by kernel_rfl) ?_);refine qP 4 rfl ?_;rw[aF (x:=(c:Int)+1) (by omega) (by omega)];refine af.Ck tok rfl rfl rfl rfl rfl trivial (show (0:Int)≤(c:Int)+1 by omega) (Nat.zero_le _) (show ((c:Int)+1).toNat≤(a.map bW).length by rw[ae];omega) ?_
     rw[show ((a.map bW).take (cR (a.map bW).length (some ((c:Int)+1)))).drop (fK none)=(a.take (c+1)).map bW from by
      show ((a.map bW).take ((c:Int)+1).toNat).drop 0=_;rw[List.drop_zero,← List.map_take]
      rfl]
     refine af.call tok rfl rfl rfl rfl rfl c2 ?_;refine qP 4 rfl ?_;refine af.nil ?_;refine qU 1 rfl ?_;refine qK 2 rfl ?_;rw[ae];refine qU 2 rfl ?_;rw[ae];refine qU 1 rfl ?_;refine ab.nil ?_;refine AW.cond rfl (fun h=>?_) (fun h=>?_)
     · rw[if_pos (show l1.length=l2.length by have:=beq_iff_eq.1 h;omega)] at hd hi;refine qT 2 rfl ?_;refine ab.fj tok rfl rfl rfl rfl rfl ?_;refine ab.gv tok rfl rfl rfl rfl rfl rfl (by rw[ae];show (_+1)*8≤_;omega) (by rw[ae];show _+1≤_;omega) ?_;refine qU 1 rfl ?_;refine ab.nil ?_;refine qT 1 rfl ?_;rw[aF (x:=(c:Int)+1) (by omega) (by omega)];refine qU 1 rfl ?_;refine ab.nil ?_;exact⟨c+1,by rw[hd,hi,List.map_append];rfl,hca,by omega⟩
     · rw[if_neg (show ¬l1.length=l2.length by have:=beq_eq_false_iff_ne.1 h;omega)] at hd hi;refine qT 2 rfl ?_;refine ab.fj tok rfl rfl rfl rfl rfl ?_;refine ab.gv tok rfl rfl rfl rfl rfl rfl (by rw[ae];show (_+1)*8≤_;omega) (by rw[ae];show _+1≤_;omega) ?_;refine qU 1 rfl ?_;refine ab.nil ?_;refine qT 1 rfl ?_;rw[aF (x:=(c:Int)+1) (by omega) (by omega)];refine qU 1 rfl ?_;refine ab.nil ?_;exact⟨c+1,by rw[hd,hi,List.map_append];rfl,hca,by omega⟩
   have hcc:c=a.length:=by have:=au h;omega
   subst hcc;refine AW.exit (AW.seq (AW.region ?_));refine ab.fT tok 6 rfl rfl ?_;refine ab.fT tok 7 rfl rfl ?_;refine qU 4 rfl ?_;exact qN rfl
theorem wK{m Kz:Nat}{v:List NQ}(V:j5 m v){a rows:a6}{cols:List Nat}{sg:Int}{cE:NQ}(hn:ao a≤1000000)(cr:Pure Tryz.prog 51 [bt v,aX a] (.tu [aX (rows.take cols.length),bT cols]))(hr:bk (ao a) rows)(hl:jC v.length rows)(hs: ∀r c,ay Kz (aS rows r c))(hK:Kz≤17300000000000)(hc: ∀r,r<cols.length→cols.getD r 0<ao a)(hcl:cols.length≤rows.length)(hcn:cols.length≤1000000):
  Pure Tryz.prog 52 [bt v,aX a] (aX (JA ⟨rows,cols,sg,cE⟩ (ao a))):=by
 refine qJ 63 Tryz.func52 rfl rfl rfl rfl (by kernel_rfl) (fun B F0 w0=>?_);have cols_ok:=fx a;generalize ao a=n at *;have hks:=xv ⟨rows,cols,sg,cE⟩ n;have hkl:=Al ⟨rows,cols,sg,cE⟩ n;have hk0:vN ⟨rows,cols,sg,cE⟩ n 0=[]:=rfl;have hv0: ∀c,iu ⟨rows,cols,sg,cE⟩ n c 0=(List.replicate n []).set c [1]:=fun c=>rfl;have hvs: ∀c r,iu ⟨rows,cols,sg,cE⟩ n c (r+1)=(iu ⟨rows,cols,sg,cE⟩ n c r).set (cols.getD r 0) (ju (aS rows r c)):=fun c r=>rfl;have hvl:=nH ⟨rows,cols,sg,cE⟩ n;show AW _ _ _ _ _ _ (Gz _ _ (aX (vN ⟨rows,cols,sg,cE⟩ n n))) _;generalize vN ⟨rows,cols,sg,cE⟩ n=kI at *;generalize iu ⟨rows,cols,sg,cE⟩ n=kv at *;simp only[] at hks;have hrt: ∀r,r<cols.length→(rows.take cols.length).getD r []=rows.getD r []:=fun r h=>CL h;have hrtl:(rows.take cols.length).length=cols.length:=by rw[aT];omega
 generalize rows.take cols.length=rt at *;refine qX 2 rfl ?_;refine qK 2 rfl ?_;refine ab.call tok rfl rfl rfl rfl cr ?_;refine qU 5 rfl ?_;refine qK 1 rfl ?_;refine qI (qX 1 rfl ?_);refine ab.call tok rfl rfl rfl rfl cols_ok ?_;refine qU 1 rfl ?_;refine ab.nil ?_;refine AW.block ?_;refine AW.aG [1,2,5,6,7,19,20] (fun c:Nat=>[(1,.d (aX a)),(2,.bx [.sl 1 (v.map ah)]),(5,.d (aX rt)),(6,.d (bT cols)),(7,.ow 22 ((kI c).map bW)),(19,.d (dI n)),(20,.d (dI c))]) (fun c=>c≤n) (fun c=>n-c) 0 (by rw[hk0];rfl) (Nat.zero_le _) (fun c hcc=>?_)
 · show AW _ _ _ _ _ _ _ [(1,.d (aX a)),(2,.bx [.sl 1 (v.map ah)]),(5,.d (aX rt)),(6,.d (bT cols)),(7,.ow 22 ((kI c).map bW)),(19,.d (dI n)),(20,.d (dI c))];refine qX 1 rfl ?_;refine qI ?_;refine AW.cond rfl (fun h=>?_) (fun h=>?_)
   · have hcn':c<n:=by have:=aq h;omega
     have hks:=hks c;have hkl:=hkl c;have ch:=x8 cols hcn c;generalize cols.contains c=b at hks ch;refine AW.skip (AW.seq (AW.block ?_));refine qX 2 rfl ?_;refine qI (qX 2 rfl ?_);refine ab.call tok rfl rfl rfl rfl ch ?_;refine ab.nil ?_;refine AW.cond rfl (fun h=>?_) (fun h=>?_)
     · rw[show b=true from h] at hks;refine AW.exit ?_;refine qT 1 rfl ?_;rw[aF (x:=(c:Int)+1) (by omega) (by omega)];refine qU 1 rfl ?_;refine ab.nil ?_;exact⟨c+1,by rw[hks,if_pos rfl,List.append_nil];rfl,hcn',by omega⟩
     · rw[show b=false from h] at hks;refine AW.skip (qX 1 rfl ?_);refine ab.call tok rfl rfl rfl rfl cols_ok ?_;refine ab.EM tok n rfl rfl rfl rfl rfl rfl rfl rfl (by omega) ?_;refine qU 1 rfl ?_;refine qK 2 rfl ?_;refine ab.call tok rfl rfl rfl rfl (lD 1 (by decide) (by decide)) ?_;refine ab.call tok rfl rfl rfl rfl ph ?_;refine ab.fR tok rfl rfl rfl rfl (aj c) (by rw[ae,List.length_replicate];omega) ?_;refine ab.m7 tok [1] rfl rfl rfl (by rw[List.length_replicate];exact hcn') ?_;refine qI (qX 2 rfl ?_);rw[ae];refine qU 1 rfl ?_;refine ab.nil ?_;refine AW.block ?_;refine AW.aG [1,2,5,6,7,8,9,19,20,34,35,36] (fun r:Nat=>[(1,.d (aX a)),(2,.bx [.sl 1 (v.map ah)]),(5,.d (aX rt)),(6,.d (bT cols)),(7,.ow 22 ((kI c).map bW)),(8,.d (dI c)),(9,.ow 53 ((kv c r).map ah)),(19,.d (dI n)),(20,.d (dI c)),(34,.d (bT cols)),(35,.d (dI cols.length)),(36,.d (dI r))]) (fun r=>r≤cols.length) (fun r=>cols.length-r) 0 (by rw[hv0];rfl) (Nat.zero_le _) (fun r hrc=>?_)
       · show AW _ _ _ _ _ _ _ [(1,.d (aX a)),(2,.bx [.sl 1 (v.map ah)]),(5,.d (aX rt)),(6,.d (bT cols)),(7,.ow 22 ((kI c).map bW)),(8,.d (dI c)),(9,.ow 53 ((kv c r).map ah)),(19,.d (dI n)),(20,.d (dI c)),(34,.d (bT cols)),(35,.d (dI cols.length)),(36,.d (dI r))];refine qX 1 rfl ?_;refine qI ?_;refine AW.cond rfl (fun h=>?_) (fun h=>?_)
         · have hrr:r<cols.length:=by have:=aq h;omega
           have hvs:=hvs c r;have hvl:=hvl c r;have hcr:=hc r hrr;have g0:=oX (l:=cols) (i:=r) hrr;have g1:=getM bW (l:=rt) (i:=r) (by omega);change _=some (bW (rt.getD r [])) at g1;rw[hrt r hrr] at g1;have g2:=getM ah (l:=rows.getD r []) (i:=c) (by rw[hr r (by omega)];exact hcn');have cn:=zO V (hl r c) (hs r c) hK;unfold aS at cn hvs;generalize rows.getD r []=row at g1 g2 cn hvs;change _=some (ah (row.getD c [])) at g2;generalize row.getD c []=x at g2 cn hvs;generalize cols.getD r 0=p at g0 hcr hvs;refine AW.skip (AW.seq (AW.block ?_));refine qX 1 rfl ?_;refine ab.idx tok (dI p) rfl rfl rfl rfl (aj r) g0 ?_;refine qU 3 rfl ?_;refine ab.nil ?_;refine AW.any aQ (pV.q7 [(13,14)] (by kernel_rfl) (fun _ _ h=>h) (fun _ h=>h) (pV.draw 14 (by kernel_rfl) ?_));refine qP 5 rfl ?_;refine af.idx tok (bW row) rfl rfl rfl rfl rfl (aj r) g1 ?_;refine qP 2 rfl ?_;refine af.idx tok (ah x) rfl rfl rfl rfl rfl (aj c) g2 ?_;refine qP 1 rfl ?_;refine af.call tok rfl rfl rfl rfl rfl cn ?_;refine qP 3 rfl ?_;refine af.nil ?_;refine ab.fR tok rfl rfl rfl rfl (aj p) (by rw[ae,hvl];omega) ?_;refine ab.m7 tok (ju x) rfl rfl rfl (by rw[hvl];exact hcr) ?_;refine ab.nil ?_;refine qT 1 rfl ?_;rw[aF (x:=(r:Int)+1) (by omega) (by omega)];refine qU 1 rfl ?_;refine ab.nil ?_;exact⟨r+1,by rw[hvs];rfl,hrr,by omega⟩
         have hrr:r=cols.length:=by have:=au h;omega
         subst hrr;refine AW.exit (AW.region ?_);refine ab.fT tok 9 rfl rfl ?_;refine qU 2 rfl ?_;refine ab.fj tok rfl rfl rfl rfl rfl ?_;refine ab.gv tok rfl rfl rfl rfl rfl rfl (by rw[ae];show (_+1)*24≤_;omega) (by rw[ae];show _+1≤_;omega) ?_;refine qU 1 rfl ?_;refine ab.nil ?_;refine qT 1 rfl ?_;rw[aF (x:=(c:Int)+1) (by omega) (by omega)];refine qU 1 rfl ?_;refine ab.nil ?_;exact⟨c+1,by rw[hks,if_neg (by decide),List.map_append];rfl,hcn',by omega⟩
   have hcc:c=n:=by have:=au h;omega
   subst hcc;refine AW.exit (AW.seq (AW.region ?_));refine ab.fT tok 7 rfl rfl ?_;refine qU 2 rfl ?_;exact qN rfl
end Lift
namespace Lift
open Go Go.Proofs
def s4:List NQ:=[[2]]
def CN:a6:=[[[1],[0,1]],[[0,1],[2]]]
def Fg:a6:=[[[1],[0,1]],[[0,1],[1]]]
theorem ov:Lo s4:=by
 have s2:fq 2 s4:=fun i=>match i with
  | 0=>ft (by decide +kernel)
  | i+1=>bn (by decide)
 refine⟨⟨by decide,fun k hk=>?_,s2,fun k hk=>?_,by decide,2,by decide,by decide,s2,me (by decide) (by decide)⟩,by decide⟩
 · have hk:k<1:=hk;obtain rfl:k=0:=by omega
   rfl
 · have hk:k<1:=hk;obtain rfl:k=0:=by omega
   decide +kernel
theorem CM{a:a6}(h:a=CN∨a=Fg):rq s4 a∧il 2 a∧a.length=2∧ao a=2:=by
 have hl: ∀b:a6,b=CN∨b=Fg→ ∀i k,aC 1 (aS b i k)∧ay 2 (aS b i k):=fun b hb i k=>by
  have key: ∀q:Rat,q=0∨q=1∨q=2→LQ q≤2:=fun q hq=>by rcases hq with rfl | rfl | rfl<;>decide +kernel
  have g1: ∀q:Rat,LQ q≤2→aC 1 [q]∧ay 2 [q]:=fun q hq=>⟨fh _ _,ft hq⟩
  have g2:aC 1 [(0:Rat),1]∧ay 2 [(0:Rat),1]:=⟨.inr ⟨1,by decide,rfl⟩,fun c=>match c with
   | 0=>key 0 (.inl rfl)
   | 1=>key 1 (.inr (.inl rfl))
   | c+2=>mD (by decide)⟩
  have g0:aC 1 []∧ay 2 []:=⟨bm _,bn (by decide)⟩;rcases hb with rfl | rfl
  · match i,k with
    | 0,0=>exact g1 1 (key 1 (.inr (.inl rfl)))
    | 0,1=>exact g2
    | 0,k+2=>exact g0
    | 1,0=>exact g2
    | 1,1=>exact g1 2 (key 2 (.inr (.inr rfl)))
    | 1,k+2=>exact g0
    | i+2,k=>exact g0
  · match i,k with
    | 0,0=>exact g1 1 (key 1 (.inr (.inl rfl)))
    | 0,1=>exact g2
    | 0,k+2=>exact g0
    | 1,0=>exact g2
    | 1,1=>exact g1 1 (key 1 (.inr (.inl rfl)))
    | 1,k+2=>exact g0
    | i+2,k=>exact g0
 have hlen:a.length=2∧ao a=2:=by rcases h with rfl | rfl<;>exact⟨rfl,rfl⟩
 refine⟨⟨by omega,fun j hj=>?_,by omega,fun i k=>(hl a h i k).1⟩,fun i k=>(hl a h i k).2,hlen⟩;rcases h with rfl | rfl
 · match j,hj with
   | 0,_=>rfl
   | 1,_=>rfl
 · match j,hj with
   | 0,_=>rfl
   | 1,_=>rfl
theorem EA{v:List NQ}(L:Lo v):od v.length 2:=me L.l1 (by decide)
theorem kN: ∀{n:Nat},n≤5→gI 2 n≤100000000000:=fun {n} h=>Nat.le_trans (dN h) (by decide)
theorem oy{v:List NQ}{a:a6}(L:Lo v)(G:rq v a)(hs:il 2 a):Pure Tryz.prog 20 [bt v,aX a] aP:=by
 obtain ⟨r1,r2⟩:=G.raw L.V hs;have cc:=gi (L.V.s (EA L)) r1;rw[r2,rI,x6] at cc;exact cc
theorem En{v:List NQ}{a:a6}(L:Lo v)(G:rq v a)(hs:il 2 a)(hc:ao a≤5):Pure Tryz.prog 13 [bt v,aX a] (.tu [dI (aV v a).cols.length,aP]) :=
 vC L.V (EA L) G hs (L.red G.r G.lt hs (kN hc)).1
theorem Cd{a:a6}{k:Nat}(hs:il k a):il k (bu a):=w6 (p:=ay k) (bn hs.pos) hs
theorem wI{v:List NQ}{a:a6}(L:Lo v)(G:rq v a)(hs:il 2 a)(hl:a.length≤5):Pure Tryz.prog 15 [bt v,aX a] (.tu [bT (GC v a),aP]) :=
 oG L.V (EA L) G hs (L.red (fm a) (jb G.lt) (Cd hs) (kN hl)).1
theorem yO{v:List NQ}{a:a6}{k:Nat}(L:Lo v)(hl:a.length≤5)(hr:bk a.length a)(lt:jC v.length a)(hs:il k a)(hk:gI k a.length≤100000000000):Pure Tryz.prog 60 [bt v,aX a] (.tu [ah (jk v a),aP]):=by
 have R:=L.red hr lt hs hk;exact wP L.V.a (by omega) hr lt R.1 ((R.2.2.1 _ (ak _)).mono (by omega))
theorem r6(n:Int)(h: -1000≤n∧n≤1000):Pure Tryz.prog 44 [.sl 1 [dI n]] (ah [(n:Rat)]) :=
 sX [n] (Nat.le_of_ble_eq_true rfl) (fun i=>match i with
  | 0=>h
  | i+1=>by show (-1000:Int)≤0∧(0:Int)≤1000;omega)
theorem BD:Pure Tryz.prog 44 [.sl 1 [dI 0,dI 1]] (ah [(0:Rat),(1:Rat)]) :=
 sX [0,1] (by decide) (fun i=>match i with
  | 0=>by decide
  | 1=>by decide
  | i+2=>by show (-1000:Int)≤0∧(0:Int)≤1000;omega)
theorem ei:Pure Tryz.prog 12 [] (dB true):=by
 refine qJ 97 Tryz.func12 rfl rfl rfl rfl (by kernel_rfl) (fun B F0 w0=>?_);obtain ⟨GA,sA,_,cA⟩:=CM (.inl rfl);obtain ⟨GB,sB,lB,cB⟩:=CM (.inr rfl);have c1:=En ov GA sA (by decide);have c2:=wI ov GA sA (by decide);have c3:=wQ (oy ov GB sB) (by decide) (yO ov (by decide) GB.r GB.lt sB (by decide));rw[show (aV s4 CN).cols.length=1 by decide +kernel] at c1;rw[show GC s4 CN=[1] by decide +kernel] at c2;rw[show jk s4 Fg=[-1] by decide +kernel] at c3;have sm:ay 2 [(-1:Rat)]:=ft (by decide +kernel);have lm:aC 1 [(-1:Rat)]:=fh _ _;have c4:=A2 (v:=s4) (a:=[-1]) (b:=[-1]) ov.V.a lm lm (sm.mono (by decide)) (sm.mono (by decide)) (ov.sg (lm.plus lm.minus) (sm.plus sm.minus) (by decide));rw[show fi s4 (aW [-1] (aM [-1]))=0 by decide +kernel] at c4;have o1:=r6 1 (by decide);have o2:=r6 2 (by decide);have om:=r6 (-1) (by decide);have o01:=BD;have cI:=kX [1] [1] (by decide);have e1:((1:Int):Rat)=1:=rfl;have e2:((2:Int):Rat)=2:=rfl;have em:((-1:Int):Rat)= -1:=rfl;rw[e1] at o1;rw[e2] at o2;rw[em] at om;refine qX 1 rfl ?_;refine qI (AW.region ?_);refine ab.fj tok rfl rfl rfl rfl rfl ?_;refine ab.call tok rfl rfl rfl rfl o2 ?_;refine ab.fj tok rfl rfl rfl rfl rfl ?_;refine qU 3 rfl ?_;refine qI (AW.draw aQ 17 (by kernel_rfl) ?_);refine qP 1 rfl ?_;refine af.fj tok rfl rfl rfl rfl rfl rfl ?_;refine af.call tok rfl rfl rfl rfl rfl o1 ?_;refine af.fj tok rfl rfl rfl rfl rfl rfl ?_;refine af.call tok rfl rfl rfl rfl rfl o01 ?_;refine af.fj tok rfl rfl rfl rfl rfl rfl ?_;refine af.fj tok rfl rfl rfl rfl rfl rfl ?_;refine af.call tok rfl rfl rfl rfl rfl o01 ?_;refine af.fj tok rfl rfl rfl rfl rfl rfl ?_;refine af.call tok rfl rfl rfl rfl rfl o2 ?_;refine af.fj tok rfl rfl rfl rfl rfl rfl ?_;refine af.fj tok rfl rfl rfl rfl rfl rfl ?_;refine af.call tok rfl rfl rfl rfl rfl c1 ?_;refine qP 4 rfl ?_;refine af.nil ?_;refine qU 1 rfl ?_;refine qI (AW.draw aQ 17 (by kernel_rfl) ?_);refine qP 1 rfl ?_;refine af.fj tok rfl rfl rfl rfl rfl rfl ?_;refine af.call tok rfl rfl rfl rfl rfl o1 ?_;refine af.fj tok rfl rfl rfl rfl rfl rfl ?_;refine af.call tok rfl rfl rfl rfl rfl o01 ?_;refine af.fj tok rfl rfl rfl rfl rfl rfl ?_;refine af.fj tok rfl rfl rfl rfl rfl rfl ?_;refine af.call tok rfl rfl rfl rfl rfl o01 ?_;refine af.fj tok rfl rfl rfl rfl rfl rfl ?_;refine af.call tok rfl rfl rfl rfl rfl o2 ?_;refine af.fj tok rfl rfl rfl rfl rfl rfl ?_;refine af.fj tok rfl rfl rfl rfl rfl rfl ?_;refine af.call tok rfl rfl rfl rfl rfl c2 ?_;refine qP 4 rfl ?_;refine af.nil ?_;refine qU 1 rfl ?_;refine qI (AW.draw aQ 17 (by kernel_rfl) ?_);refine qP 1 rfl ?_;refine af.fj tok rfl rfl rfl rfl rfl rfl ?_;refine af.call tok rfl rfl rfl rfl rfl o1 ?_;refine af.fj tok rfl rfl rfl rfl rfl rfl ?_;refine af.call tok rfl rfl rfl rfl rfl o01 ?_;refine af.fj tok rfl rfl rfl rfl rfl rfl ?_;refine af.fj tok rfl rfl rfl rfl rfl rfl ?_;refine af.call tok rfl rfl rfl rfl rfl o01 ?_;refine af.fj tok rfl rfl rfl rfl rfl rfl ?_;refine af.call tok rfl rfl rfl rfl rfl o1 ?_;refine af.fj tok rfl rfl rfl rfl rfl rfl ?_;refine af.fj tok rfl rfl rfl rfl rfl rfl ?_;refine af.call tok rfl rfl rfl rfl rfl c3 ?_;refine qP 4 rfl ?_;refine af.nil ?_;refine qU 1 rfl ?_;refine qI (AW.draw aQ 9 (by kernel_rfl) ?_);refine qP 2 rfl ?_;refine af.fj tok rfl rfl rfl rfl rfl rfl ?_;refine af.call tok rfl rfl rfl rfl rfl om ?_;refine af.call tok rfl rfl rfl rfl rfl c4 ?_;refine qP 4 rfl ?_;refine af.nil ?_;refine qU 1 rfl ?_;refine qK 1 rfl ?_;refine ab.err tok rfl rfl rfl rfl rfl ?_;refine qU 2 rfl ?_;refine ab.err tok rfl rfl rfl rfl rfl ?_;refine qU 3 rfl ?_;refine ab.err tok rfl rfl rfl rfl rfl ?_;refine qU 3 rfl ?_;refine ab.err tok rfl rfl rfl rfl rfl ?_;refine qU 7 rfl ?_;refine ab.fj tok rfl rfl rfl rfl rfl ?_;refine ab.call tok rfl rfl rfl rfl cI ?_;refine qU 6 rfl ?_;exact qN rfl
end Lift
namespace Lift
open Go Go.Proofs
variable {P:Program} {T:Ty} {B:Nat} {F0:Nat→Prop} {w0:c7} {n:Nat} {σ:St}
set_option maxHeartbeats 6400000 in
theorem zL{v:List NQ}{a:a6}(L:Lo v)(ha0:0<a.length)(h5:a.length≤5)(hr:bk a.length a)(hl:jC v.length a)(hs:il 2 a):Pure Tryz.prog 73 [bt v,aX a] (ah (DI v a)):=by
 refine qJ 129 Tryz.func73 rfl rfl rfl rfl (by kernel_rfl) (fun B F0 w0=>?_);have V:=L.V;have hKz:=kN h5;obtain ⟨Kz,hKe⟩: ∃Kz,gI 2 a.length=Kz:=⟨_,rfl⟩;have hmK:2≤Kz:=by rw[← hKe];exact Nat.le_trans (ak 2) (dN (Nat.zero_le _))
 rw[hKe] at hKz;have k1:od v.length Kz:=me L.l1 (by omega);have k2:GJ v.length Kz:=Bv L.l1 (by omega);have k3:sT v.length Kz≤17300000000000:=Nat.le_trans (uP L.l1 Kz) (by omega);refine AZ.aw ?_;refine AZ.seq (AZ.cQ (fun B1 F1 w1=>?_));refine qU 2 rfl ?_;refine ab.nil ⟨rfl,?_⟩;refine AZ.seq (AZ.region ?_);refine ai.cut 1 rfl (fun B1 F1 w1=>?_);refine qU 1 rfl ?_;refine ab.nil ⟨rfl,?_⟩
 refine ai.iD tok [] rfl rfl rfl rfl rfl List.nodup_nil rfl (iX (a:=a) (by omega) (fun i=>by
  by_cases hi:i<a.length
  · rw[hr i hi];omega
  · rw[gk (by omega)];exact Nat.zero_le _)) (fun _ _ _=>Nat.zero_le _) (fun res R1 hP=>?_)
 obtain ⟨Vr,Vs0,hV0,rfl,rfl⟩:=hP;refine ai.cut 1 rfl (fun B1 F1 w1=>?_);refine qU 1 rfl ?_;refine ab.nil ⟨rfl,?_⟩;refine ai.nil ?_;refine AZ.seq (AZ.cQ (fun B1 F1 w1=>?_));refine ab.call tok rfl rfl rfl rfl (lD 1 (by decide) (by decide)) ?_;refine ab.call tok rfl rfl rfl rfl ph ?_;refine qU 1 rfl ?_;refine ab.nil ⟨rfl,?_⟩;refine AZ.to [1,2,5] [(1,.d (.v Vr)),(2,.bx [.sl 1 (v.map ah)]),(5,.d (ah [1]))] rfl ?_;refine AZ.seq (AZ.seq ?_);refine AZ.rG (fun B1 F1 w1 hS=>?_);refine qU 1 rfl ?_;refine ab.lens tok (hS.at (i:=0) rfl (by rw[ae];omega)) rfl rfl rfl rfl ?_;rw[ae,hV0];refine qU 1 rfl ?_;refine ab.nil ⟨rfl,?_⟩;refine AZ.block (AZ.aG [1,2,5,18,19] (fun z:Nat×List Value×a6×NQ=>((Vr,OA z.2.1)::cu z.2.1 z.2.2.1,[(1,.d (.v Vr)),(2,.bx [.sl 1 (v.map ah)]),(5,.d (ah z.2.2.2)),(18,.d (dI a.length)),(19,.d (dI z.1))])) (fun z=>z.1≤a.length∧wU v a z.1=some (z.2.2.1,z.2.2.2)∧z.2.1.length=a.length) (fun z=>a.length-z.1) (0,Vs0,a,[1]) rfl ⟨Nat.zero_le _,rfl,hV0⟩ (fun z hz=>?_));obtain ⟨k,Vs,m,d⟩:=z;obtain ⟨hkn,hdt,hVs⟩:=hz
 dsimp only at hkn hdt hVs
 show AZ _ _ _ _ _ _ _ ((Vr,OA Vs)::cu Vs m) [(1,.d (.v Vr)),(2,.bx [.sl 1 (v.map ah)]),(5,.d (ah d)),(18,.d (dI a.length)),(19,.d (dI k))];have D:=Av V.a hr hl k m d hkn hdt;have hml:=D.len;refine AZ.seq (AZ.cQ (fun B1 F1 w1=>?_));refine qU 1 rfl ?_;refine ab.nil ⟨rfl,?_⟩;refine AZ.seq (AZ.cond rfl (fun h=>?_) (fun h=>?_));rotate_left
 · have hke:k=a.length:=by have:=au h;omega
   refine AZ.exit ?_;refine AZ.seq (AZ.cQ (fun B1 F1 w1=>?_));refine qU 2 rfl ?_;refine ab.nil ⟨rfl,?_⟩;refine AZ.ret ?_
   have hd:DI v a=d:=by
    unfold DI;rw[← hke,hdt]
   rw[hd];rfl
 have hk:k<a.length:=by have:=aq h;omega
 have hg1:gI 2 (k+1)≤Kz:=by rw[← hKe];exact dN hk
 have hge:gI 2 (k+1)=110*gI 2 k+129:=rfl;obtain ⟨zm,zd⟩:=L.dt hr hl hs k m d hkn (by omega) hdt;generalize gI 2 k=z at hge zm zd;have zp:=zm.pos;have zK:z≤Kz:=by omega
 have hel: ∀{b:a6} {i:Nat},bk a.length b→i<b.length→ ∀k,k<a.length→((b.getD i []).map ah)[k]?=some (ah (aS b i k)):=fun {b i} hb hi k hk=>getM ah (by rw[hb i hi];exact hk);refine AZ.skip (AZ.seq ?_);refine AZ.block (AZ.seq ?_);refine AZ.cQ (fun B1 F1 w1=>?_);refine qU 2 rfl ?_;refine ab.nil ⟨rfl,?_⟩;refine AZ.seq (AZ.cQ (fun B1 F1 w1=>?_));refine qU 2 rfl ?_;refine ab.nil ⟨rfl,?_⟩;refine AZ.cut [1,2,5,6,7,18,19] (fun _:Unit=>(((Vr,OA Vs)::cu Vs m),[(1,.d (.v Vr)),(2,.bx [.sl 1 (v.map ah)]),(5,.d (ah d)),(6,.d (dI k)),(7,.d (dI (tA v m k))),(18,.d (dI a.length)),(19,.d (dI k))])) (fun _=>True) ?_ (fun _ _=>?_)
 · refine AZ.block (AZ.aG [1,2,5,6,7,18,19] (fun j:Nat=>(((Vr,OA Vs)::cu Vs m),[(1,.d (.v Vr)),(2,.bx [.sl 1 (v.map ah)]),(5,.d (ah d)),(6,.d (dI k)),(7,.d (dI j)),(18,.d (dI a.length)),(19,.d (dI k))])) (fun j=>k≤j∧j≤m.length∧gR (Dh v m k) (m.length-j) j=tA v m k) (fun j=>m.length-j) k rfl ⟨ak _,by omega,rfl⟩ (fun j hj=>?_));show AZ _ _ _ _ _ _ _ ((Vr,OA Vs)::cu Vs m) [(1,.d (.v Vr)),(2,.bx [.sl 1 (v.map ah)]),(5,.d (ah d)),(6,.d (dI k)),(7,.d (dI j)),(18,.d (dI a.length)),(19,.d (dI k))];obtain ⟨j1,j2,j3⟩:=hj;refine AZ.seq (AZ.seq ?_);refine AZ.any aQ (iy.kP 15 (by kernel_rfl) (fun B1 F1 w1 hS=>?_));have hS0:=hS.at (i:=0) rfl (by rw[ae];omega);refine qP 2 rfl ?_;refine af.lens tok hS0 rfl rfl rfl rfl rfl ?_;rw[ae];refine qP 1 rfl ?_;by_cases hjm:j<m.length;rotate_left
   · rw[qV hjm] at j3;rw[aO (show ¬(j:Int)<(Vs.length:Int) by omega)];refine qP 11 rfl ?_;refine af.nil ⟨rfl,?_⟩;refine ai.nil ?_;refine AZ.aA rfl ?_;exact AZ.exit ⟨(),by rw[← j3];rfl,trivial⟩
   rw[aN (show (j:Int)<(Vs.length:Int) by omega)];have hj6:(m.getD j []).length=a.length:=D.rect j hjm;have hS1:=hS.at (i:=j+1) (bS (Vs:=Vs) (by omega) hjm) (by rw[ae];omega);have cs:=je V (D.lt j k) ((zm j k).mono zK) hmK k1;have hnz:Dh v m k j=decide (fi v (aS m j k)≠0):=rfl;generalize fi v (aS m j k)=g at cs hnz;refine qP 4 rfl ?_;refine af.idxs tok hS0 rfl rfl rfl rfl rfl (aj j) (by rw[ae];omega) ?_;refine af.bc tok (.v (Vs.getD j undef)) hS0 rfl rfl rfl rfl rfl rfl rfl (b7 (by omega)) rfl ?_;refine qP 1 rfl ?_;refine af.idxs tok hS1 rfl rfl rfl rfl rfl (aj k) (by rw[ae];omega) ?_;refine af.bc tok (ah (aS m j k)) hS1 rfl rfl rfl rfl rfl rfl rfl (hel D.rect hjm k hk) rfl ?_;refine af.call tok rfl rfl rfl rfl rfl cs ?_;refine qP 1 rfl ?_;refine af.nil ⟨rfl,?_⟩;refine ai.nil ?_;refine AZ.cond rfl (fun h=>?_) (fun h=>?_)
   · have hg:g=0:=aq h;refine AZ.skip (AZ.block ?_);refine AZ.cQ (fun B1 F1 w1=>?_);refine qU 2 rfl ?_;rw[aF (x:=(j:Int)+1) (by omega) (by omega)];refine qU 1 rfl ?_;refine ab.nil ⟨rfl,?_⟩;exact⟨j+1,rfl,⟨by omega,hjm,by rw[← ot hjm (by rw[hnz,hg];rfl)];exact j3⟩,by omega⟩
   · have hg:g≠0:=au h;rw[qS hjm (by rw[hnz,aN hg])] at j3;exact AZ.exit ⟨(),by rw[← j3];rfl,trivial⟩
 show AZ _ _ _ _ _ _ _ ((Vr,OA Vs)::cu Vs m) [(1,.d (.v Vr)),(2,.bx [.sl 1 (v.map ah)]),(5,.d (ah d)),(6,.d (dI k)),(7,.d (dI (tA v m k))),(18,.d (dI a.length)),(19,.d (dI k))];have hta:=(lM (g:=Dh v m k) (m:=m.length-k) (i:=k)).2.1;change tA v m k≤k+(m.length-k) at hta;refine AZ.seq (AZ.seq ?_);refine AZ.rG (fun B1 F1 w1 hS=>?_);refine qU 2 rfl ?_;refine ab.lens tok (hS.at (i:=0) rfl (by rw[ae];omega)) rfl rfl rfl rfl ?_;rw[ae];refine qU 1 rfl ?_;refine ab.nil ⟨rfl,?_⟩;refine AZ.cond rfl (fun h=>?_) (fun h=>?_)
 · have hat: ¬tA v m k<m.length:=by have:=beq_iff_eq.1 h;omega
   refine AZ.seq (AZ.cQ (fun B1 F1 w1=>?_));refine qU 1 rfl ?_;refine ab.nil ⟨rfl,?_⟩;refine AZ.ret ?_
   have hd:DI v a=[]:=by
    unfold DI;rw[Fq (q9 hdt hat) a.length hk]
   rw[hd];rfl
 have ht:tA v m k<m.length:=by have:=beq_eq_false_iff_ne.1 h;omega
 have hnext:=uo hdt ht;obtain ⟨hkt,hpz⟩:=FQ (by omega) ht;obtain ⟨b1,b2,b3⟩:=CW (t:=tA v m k) D hk (by omega);have bs:=HT (k:=k) (by omega) ht zm;have hbK:bK m k (tA v m k)=if tA v m k=k then m else zf m k (tA v m k):=rfl
 generalize tA v m k=t at *;obtain ⟨Us,hUs⟩: ∃Us,(if t=k then Vs else zg Vs k t)=Us:=⟨_,rfl⟩;obtain ⟨d1,hd1⟩: ∃d1,(if t=k then d else ju d)=d1:=⟨_,rfl⟩;obtain ⟨b,hb⟩: ∃b,bK m k t=b:=⟨_,rfl⟩;rw[hb] at hnext hpz b1 b2 b3 bs hbK;rw[hd1] at hnext
 have hUl:Us.length=a.length:=by
  rw[← hUs];split
  · exact hVs
  · rw[xS];exact hVs
 have ld1:aC v.length d1∧ay z d1:=by
  rw[← hd1];split
  · exact⟨D.d,zd⟩
  · exact ug D.d zd
 refine AZ.skip ?_;refine AZ.cut [1,2,5,6,18,19] (fun _:Unit=>((Vr,OA Us)::cu Us b,[(1,.d (.v Vr)),(2,.bx [.sl 1 (v.map ah)]),(5,.d (ah d1)),(6,.d (dI k)),(18,.d (dI a.length)),(19,.d (dI k))])) (fun _=>True) ?_ (fun _ _=>?_)
 · refine AZ.seq (AZ.cQ (fun B1 F1 w1=>?_));refine qU 3 rfl ?_;refine ab.nil ⟨rfl,?_⟩;refine AZ.cond rfl (fun h=>?_) (fun h=>?_);rotate_left
   · have hte:t=k:=by have:=bne_eq_false_iff_eq.1 h;omega
     rw[if_pos hte] at hUs hd1 hbK;subst hUs hd1 hbK;exact AZ.skip ⟨(),rfl,trivial⟩
   have hte:t≠k:=by have:=bne_iff_ne.1 h;omega
   rw[if_neg hte] at hUs hd1 hbK;have cn:=zO V D.d (zd.mono zK) (by omega);refine AZ.seq (AZ.any aQ (iy.q7 [(2,12),(3,12)] (by kernel_rfl) (fun _ _ _ h=>h) (fun _ _ h=>h) (iy.kP 12 (by kernel_rfl) (fun B1 F1 w1 hS=>?_))));have hS0:=hS.at (i:=0) rfl (by rw[ae];omega);refine qP 6 rfl ?_;refine af.idxs tok hS0 rfl rfl rfl rfl rfl (aj t) (by rw[ae];omega) ?_;refine af.bc tok (.v (Vs.getD t undef)) hS0 rfl rfl rfl rfl rfl rfl rfl (b7 (by omega)) rfl ?_;refine qP 2 rfl ?_;refine af.idxs tok hS0 rfl rfl rfl rfl rfl (aj k) (by rw[ae];omega) ?_;refine af.bc tok (.v (Vs.getD k undef)) hS0 rfl rfl rfl rfl rfl rfl rfl (b7 (by omega)) rfl ?_;refine af.nil ⟨rfl,?_⟩;refine ai.to [1,2,5,6,18,19,47,48,49,50,54,58] [(1,.d (.v Vr)),(2,.bx [.sl 1 (v.map ah)]),(5,.d (ah d)),(6,.d (dI k)),(18,.d (dI a.length)),(19,.d (dI k)),(47,.d (.v Vr)),(48,.d (dI k)),(49,.d (.v Vr)),(50,.d (dI t)),(54,.d (.v (Vs.getD t undef))),(58,.d (.v (Vs.getD k undef)))] rfl ?_;refine ai.we 1 rfl (fun B1 F1 w1 hS=>?_);refine ab.idxs tok (hS.at (i:=0) rfl (by rw[ae];omega)) rfl rfl rfl rfl (aj k) (by rw[ae];omega) ?_;refine ab.nil ⟨rfl,?_⟩;refine ai.c8 47 0 rfl rfl rfl ?_;refine ai.el (k:=k) tok 47 59 rfl (List.Mem.head _) rfl rfl rfl (by rw[ae];omega) rfl ?_;refine ai.cut 1 rfl (fun B1 F1 w1=>?_);refine ab.kB tok (Vs.getD t undef) rfl rfl rfl (by omega) ?_;refine ab.nil ⟨rfl,?_⟩;refine ai.back 47 0 rfl rfl rfl (List.Mem.head _) rfl ?_;refine ai.jl (R':=((Vr,OA (Vs.set k (Vs.getD t undef)))::cu Vs m)) rfl ?_;refine ai.to [1,2,5,6,18,19,49,50,58] [(1,.d (.v Vr)),(2,.bx [.sl 1 (v.map ah)]),(5,.d (ah d)),(6,.d (dI k)),(18,.d (dI a.length)),(19,.d (dI k)),(49,.d (.v Vr)),(50,.d (dI t)),(58,.d (.v (Vs.getD k undef)))] rfl ?_;refine ai.we 1 rfl (fun B1 F1 w1 hS=>?_);refine ab.idxs tok (hS.at (i:=0) rfl (by rw[ae,List.length_set];omega)) rfl rfl rfl rfl (aj t) (by rw[ae,List.length_set];omega) ?_;refine ab.nil ⟨rfl,?_⟩;refine ai.c8 49 0 rfl rfl rfl ?_;refine ai.el (k:=t) tok 49 60 rfl (List.Mem.head _) rfl rfl rfl (by rw[ae,List.length_set];omega) rfl ?_;refine ai.cut 1 rfl (fun B1 F1 w1=>?_);refine ab.kB tok (Vs.getD k undef) rfl rfl rfl (by rw[List.length_set];omega) ?_;refine ab.nil ⟨rfl,?_⟩;refine ai.back 49 0 rfl rfl rfl (List.Mem.head _) rfl ?_
   refine ai.jl (R':=((Vr,OA (zg Vs k t))::cu Vs m)) (by
    show (Vr,OA ((Vs.set k (Vs.getD t undef)).set t (Vs.getD k undef)))::cu Vs m=_
    rw[Ci]) ?_
   refine ai.nil ?_;refine AZ.to [1,2,5,6,18,19] [(1,.d (.v Vr)),(2,.bx [.sl 1 (v.map ah)]),(5,.d (ah d)),(6,.d (dI k)),(18,.d (dI a.length)),(19,.d (dI k))] rfl ?_;refine AZ.xc (t+1) (k+1) (bS (Vs:=Vs) (by omega) (by omega)) (bS (Vs:=Vs) (by omega) (by omega)) ?_;refine AZ.oZ ((Vr,OA (zg Vs k t))::((cu Vs m).set t (Vs.getD k undef,eO (m.getD k []))).set k (Vs.getD t undef,eO (m.getD t []))) (fun _ _ h=> .inl h) ?_;rw[wA (by omega) (by omega) (by omega)];refine AZ.cQ (fun B1 F1 w1=>?_);refine qU 2 rfl ?_;refine ab.call tok rfl rfl rfl rfl cn ?_;refine qU 4 rfl ?_;refine ab.nil ⟨rfl,?_⟩;subst hUs hd1 hbK;exact⟨(),rfl,trivial⟩
 clear hUs hd1 hbK hVs;show AZ _ _ _ _ _ _ _ ((Vr,OA Us)::cu Us b) [(1,.d (.v Vr)),(2,.bx [.sl 1 (v.map ah)]),(5,.d (ah d1)),(6,.d (dI k)),(18,.d (dI a.length)),(19,.d (dI k))];have hkb:k<b.length:=by omega
 have hbk:(b.getD k []).length=a.length:=b2 k hkb;have cm:=ns V ld1.1 (ld1.2.mono zK) (b3 k k) ((bs k k).mono zK) hmK k3;have cinv:=qh V (b3 k k) ((bs k k).mono zK) hmK k1 k2 hpz;have hmul:=fun {x:NQ} (hx:aC v.length x)=>vw V hx (p:=aS b k k) (b3 k k)
 have lf:aC v.length (ar (gZ v.length v (aS b k k)))∧ay (10*z+11) (ar (gZ v.length v (aS b k k))):=by
  obtain ⟨i1,i2⟩:=L.inv (b3 k k) (bs k k);exact a5 i1 i2
 generalize ar (gZ v.length v (aS b k k))=f0 at cinv hmul lf;obtain ⟨p,hp⟩: ∃p,aS b k k=p:=⟨_,rfl⟩;obtain ⟨d2,hd2⟩: ∃d2,dK v d1 p=d2:=⟨_,rfl⟩;rw[hp] at hnext cm cinv hmul;rw[hd2] at hnext cm;refine AZ.seq (AZ.any aQ (iy.q7 [(12,13)] (by kernel_rfl) (fun _ _ _ h=>h) (fun _ _ h=>h) (iy.kP 13 (by kernel_rfl) (fun B1 F1 w1 hS=>?_))));have hS0:=hS.at (i:=0) rfl (by rw[ae];omega);have hS1:=hS.at (i:=k+1) (bS (Vs:=Us) (by omega) hkb) (by rw[ae];omega);refine qP 4 rfl ?_;refine af.idxs tok hS0 rfl rfl rfl rfl rfl (aj k) (by rw[ae];omega) ?_;refine af.bc tok (.v (Us.getD k undef)) hS0 rfl rfl rfl rfl rfl rfl rfl (b7 (by omega)) rfl ?_;refine qP 1 rfl ?_;refine af.idxs tok hS1 rfl rfl rfl rfl rfl (aj k) (by rw[ae];omega) ?_;refine af.bc tok (ah (aS b k k)) hS1 rfl rfl rfl rfl rfl rfl rfl (hel b2 hkb k hk) rfl ?_;rw[hp];refine af.call tok rfl rfl rfl rfl rfl cm ?_;refine qP 3 rfl ?_;refine af.nil ⟨rfl,?_⟩;refine ai.cut 1 rfl (fun B1 F1 w1=>?_);refine qU 1 rfl ?_;refine ab.nil ⟨rfl,?_⟩;refine ai.nil ?_;refine AZ.to [1,2,5,6,18,19] [(1,.d (.v Vr)),(2,.bx [.sl 1 (v.map ah)]),(5,.d (ah d2)),(6,.d (dI k)),(18,.d (dI a.length)),(19,.d (dI k))] rfl ?_;refine AZ.seq (AZ.Fs aQ 13 (by kernel_rfl) (fun B1 F1 w1 hS=>?_));have hS0:=hS.at (i:=0) rfl (by rw[ae];omega);have hS1:=hS.at (i:=k+1) (bS (Vs:=Us) (by omega) hkb) (by rw[ae];omega);refine qP 3 rfl ?_;refine af.idxs tok hS0 rfl rfl rfl rfl rfl (aj k) (by rw[ae];omega) ?_;refine af.bc tok (.v (Us.getD k undef)) hS0 rfl rfl rfl rfl rfl rfl rfl (b7 (by omega)) rfl ?_;refine qP 1 rfl ?_;refine af.idxs tok hS1 rfl rfl rfl rfl rfl (aj k) (by rw[ae];omega) ?_;refine af.bc tok (ah (aS b k k)) hS1 rfl rfl rfl rfl rfl rfl rfl (hel b2 hkb k hk) rfl ?_;rw[hp];refine af.call tok rfl rfl rfl rfl rfl cinv ?_;refine qP 4 rfl ?_;refine af.nil ?_;refine qU 1 rfl ?_;refine ab.nil ⟨rfl,?_⟩;refine AZ.to [1,2,5,6,8,18,19] [(1,.d (.v Vr)),(2,.bx [.sl 1 (v.map ah)]),(5,.d (ah d2)),(6,.d (dI k)),(8,.d (ah f0)),(18,.d (dI a.length)),(19,.d (dI k))] rfl ?_;refine AZ.seq (AZ.cQ (fun B1 F1 w1=>?_));refine qU 2 rfl ?_;rw[aF (x:=(k:Int)+1) (by omega) (by omega)];refine qU 1 rfl ?_;refine ab.nil ⟨rfl,?_⟩;refine AZ.block ?_;refine AZ.aG [1,2,5,6,8,10,18,19] (fun y:Nat×List Value=>((Vr,OA y.2)::cu y.2 (eA v b k y.1),[(1,.d (.v Vr)),(2,.bx [.sl 1 (v.map ah)]),(5,.d (ah d2)),(6,.d (dI k)),(8,.d (ah f0)),(10,.d (dI y.1)),(18,.d (dI a.length)),(19,.d (dI k))])) (fun y=>k<y.1∧y.1≤a.length∧y.2.length=a.length) (fun y=>a.length-y.1) (k+1,Us) (by rw[vF v b k (k+1) (ak _)];rfl) ⟨Nat.lt_succ_self k,hk,hUl⟩ (fun y hy=>?_);obtain ⟨i,Ws⟩:=y;obtain ⟨hki,hin,hWs⟩:=hy
 dsimp only at hki hin hWs
 show AZ _ _ _ _ _ _ _ ((Vr,OA Ws)::cu Ws (eA v b k i)) [(1,.d (.v Vr)),(2,.bx [.sl 1 (v.map ah)]),(5,.d (ah d2)),(6,.d (dI k)),(8,.d (ah f0)),(10,.d (dI i)),(18,.d (dI a.length)),(19,.d (dI k))];refine AZ.seq (AZ.seq ?_);refine AZ.rG (fun B1 F1 w1 hS=>?_);refine qU 2 rfl ?_;refine ab.lens tok (hS.at (i:=0) rfl (by rw[ae];omega)) rfl rfl rfl rfl ?_;rw[ae,hWs];refine qU 1 rfl ?_;refine ab.nil ⟨rfl,?_⟩;refine AZ.cond rfl (fun h=>?_) (fun h=>?_);rotate_left
 · have hie:i=m.length:=by have:=au h;omega
   subst hie;refine AZ.exit ?_;refine AZ.cQ (fun B1 F1 w1=>?_);refine qU 1 rfl ?_;rw[aF (x:=(k:Int)+1) (by omega) (by omega)];refine qU 1 rfl ?_;refine ab.nil ⟨rfl,?_⟩;exact⟨(k+1,Ws,eA v b k m.length,d2),rfl,⟨hk,hnext,hWs⟩,by show a.length-(k+1)<a.length-k;omega⟩
 have hia:i<a.length:=by have:=aq h;omega
 have low:=ER V.a (k:=k) b1 b2 b3 i;have zl:=L.low b2 b3 bs hpz (by omega) i;have hll:=lI v b k i;have hri:(eA v b k i).getD i []=b.getD i []:=by rw[ke,if_neg (by omega)]
 have hrk:(eA v b k i).getD k []=b.getD k []:=by rw[ke,if_neg (by omega)]
 have hnx:eA v b k (i+1)=(eA v b k i).set i (eT v ((eA v b k i).getD i []) ((eA v b k i).getD k []) (mT v (aS (eA v b k i) i k) p)):=by
  show (if k<i then _ else _)=_;rw[if_pos hki];have:aS (eA v b k i) k k=p:=by unfold aS;rw[hrk];exact hp
  rw[this]
 have zi:ay z (aS (eA v b k i) i k):=by unfold aS;rw[hri];exact bs i k
 generalize eA v b k i=mm at *;have hgi:=bS (Vs:=Ws) (a:=mm) (j:=i) (by omega) (by omega);have hgk:=bS (Vs:=Ws) (a:=mm) (j:=k) (by omega) (by omega);have hmi:(mm.getD i []).length=a.length:=low.1 i (by omega);have hmk:(mm.getD k []).length=a.length:=low.1 k (by omega);have cf:=ns V (low.2 i k) (zi.mono zK) lf.1 (lf.2.mono (by omega)) hmK k3;rw[hmul (low.2 i k)] at cf;obtain ⟨_,lq,zq⟩:=L.div (low.2 i k) zi (by rw[← hp];exact b3 k k:aC v.length p) (by rw[← hp];exact bs k k) (by rw[← hp];exact hpz) (by omega);have ct:=qe (Ws.getD i undef) (Ws.getD k undef) V (xs:=mm.getD i []) (ys:=mm.getD k []) (c:=mT v (aS mm i k) p) (low.2 i) (low.2 k) lq (fun q=>(zl i q).mono (by omega)) (fun q=>(zl k q).mono (by omega)) (zq.mono (by omega)) hmK k3 (by omega) (by omega) (by omega);refine AZ.skip (AZ.seq ?_);refine AZ.block (AZ.seq ?_);refine AZ.Fs aQ 14 (by kernel_rfl) (fun B1 F1 w1 hS=>?_);have hS0:=hS.at (i:=0) rfl (by rw[ae];omega);have hS1:=hS.at (i:=i+1) hgi (by rw[ae];omega);refine qP 3 rfl ?_;refine af.idxs tok hS0 rfl rfl rfl rfl rfl (aj i) (by rw[ae];omega) ?_;refine af.bc tok (.v (Ws.getD i undef)) hS0 rfl rfl rfl rfl rfl rfl rfl (b7 (by omega)) rfl ?_;refine qP 1 rfl ?_;refine af.idxs tok hS1 rfl rfl rfl rfl rfl (aj k) (by rw[ae];omega) ?_;refine af.bc tok (ah (aS mm i k)) hS1 rfl rfl rfl rfl rfl rfl rfl (hel low.1 (by omega) k hk) rfl ?_;refine qP 1 rfl ?_;refine af.call tok rfl rfl rfl rfl rfl cf ?_;refine qP 4 rfl ?_;refine af.nil ?_;refine qU 1 rfl ?_;refine ab.nil ⟨rfl,?_⟩;obtain ⟨f,hf⟩: ∃f,mT v (aS mm i k) p=f:=⟨_,rfl⟩;rw[hf] at ct hnx ⊢;refine AZ.to [1,2,5,6,8,10,11,18,19] [(1,.d (.v Vr)),(2,.bx [.sl 1 (v.map ah)]),(5,.d (ah d2)),(6,.d (dI k)),(8,.d (ah f0)),(10,.d (dI i)),(11,.d (ah f)),(18,.d (dI a.length)),(19,.d (dI k))] rfl ?_;refine AZ.any aQ (iy.q7 [(0,12),(1,12)] (by kernel_rfl) (fun _ _ _ h=>h) (fun _ _ h=>h) (iy.kP 12 (by kernel_rfl) (fun B1 F1 w1 hS=>?_)));have hS0:=hS.at (i:=0) rfl (by rw[ae];omega);refine qP 5 rfl ?_;refine af.idxs tok hS0 rfl rfl rfl rfl rfl (aj i) (by rw[ae];omega) ?_;refine af.bc tok (.v (Ws.getD i undef)) hS0 rfl rfl rfl rfl rfl rfl rfl (b7 (by omega)) rfl ?_;refine qP 2 rfl ?_;refine af.idxs tok hS0 rfl rfl rfl rfl rfl (aj k) (by rw[ae];omega) ?_;refine af.bc tok (.v (Ws.getD k undef)) hS0 rfl rfl rfl rfl rfl rfl rfl (b7 (by omega)) rfl ?_;refine qP 1 rfl ?_;refine af.nil ⟨rfl,?_⟩;refine ai.to [113,114,115,119,123,124,1,2,5,6,8,10,18,19] [(113,.d (.v Vr)),(114,.d (dI i)),(115,.d (bt v)),(119,.d (.v (Ws.getD i undef))),(123,.d (.v (Ws.getD k undef))),(124,.d (ah f)),(1,.d (.v Vr)),(2,.bx [.sl 1 (v.map ah)]),(5,.d (ah d2)),(6,.d (dI k)),(8,.d (ah f0)),(10,.d (dI i)),(18,.d (dI a.length)),(19,.d (dI k))] rfl ?_;refine ai.iD tok [i+1,k+1] rfl rfl rfl rfl (Ib hgi hgk) (by simp;omega) rfl ct (fun res R1 hP=>by obtain ⟨_,_,rfl⟩:=hP;exact Nat.le_succ 2) (fun res R1 hP=>?_);obtain ⟨V1,rfl,rfl⟩:=hP
 refine ai.jl (R':=((Vr,OA Ws)::cu Ws mm++[(V1,eO (eT v (mm.getD i []) (mm.getD k []) f))])) (by
  show ((Vr,OA Ws)::((cu Ws mm).set i _).set k _)++[_]=_
  rw[lp hgi,lp hgk]) ?_
 refine ai.we 1 rfl (fun B1 F1 w1 hS=>?_);refine ab.idxs tok (hS.at (i:=0) rfl (by rw[ae];omega)) rfl rfl rfl rfl (aj i) (by rw[ae];omega) ?_;refine ab.nil ⟨rfl,?_⟩;refine ai.c8 113 0 rfl rfl rfl ?_;refine ai.el (k:=i) tok 113 126 rfl (List.Mem.head _) rfl rfl rfl (by rw[ae];omega) rfl ?_;refine ai.cut 1 rfl (fun B1 F1 w1=>?_);refine ab.kB tok V1 rfl rfl rfl (by omega) ?_;refine ab.nil ⟨rfl,?_⟩;refine ai.back 113 0 rfl rfl rfl (List.Mem.head _) rfl ?_;refine ai.jl (R':=((Vr,OA (Ws.set i V1))::cu Ws mm++[(V1,eO (eT v (mm.getD i []) (mm.getD k []) f))])) rfl ?_;refine ai.nil ?_;refine AZ.to [1,2,5,6,8,10,18,19] [(1,.d (.v Vr)),(2,.bx [.sl 1 (v.map ah)]),(5,.d (ah d2)),(6,.d (dI k)),(8,.d (ah f0)),(10,.d (dI i)),(18,.d (dI a.length)),(19,.d (dI k))] rfl ?_;refine AZ.zF (i:=i) hgi ?_;rw[nT (by omega) (by omega),← hnx];refine AZ.cQ (fun B1 F1 w1=>?_);refine qU 2 rfl ?_;rw[aF (x:=(i:Int)+1) (by omega) (by omega)];refine qU 1 rfl ?_;refine ab.nil ⟨rfl,?_⟩;exact⟨(i+1,Ws.set i V1),rfl,⟨by show k<i+1;omega,hia,by show (Ws.set i V1).length=_;rw[List.length_set];exact hWs⟩,by show a.length-(i+1)<a.length-i;omega⟩
end Lift
namespace Lift
open Go Go.Proofs
end Lift
namespace Lift
open Go Go.Proofs
theorem zM(v:List NQ):Pure Tryz.prog 73 [bt v,aX []] (ah [1]):=by
 refine qJ 129 Tryz.func73 rfl rfl rfl rfl (by kernel_rfl) (fun B F0 w0=>?_);refine AZ.aw ?_;refine AZ.seq (AZ.cQ (fun B1 F1 w1=>?_));refine qU 2 rfl ?_;refine ab.nil ⟨rfl,?_⟩;refine AZ.seq (AZ.region ?_);refine ai.cut 1 rfl (fun B1 F1 w1=>?_);refine qU 1 rfl ?_;refine ab.nil ⟨rfl,?_⟩;refine ai.iD tok [] rfl rfl rfl rfl rfl List.nodup_nil rfl (iX (a:=[]) (Nat.zero_le _) (fun i=>Nat.zero_le _)) (fun _ _ _=>Nat.zero_le _) (fun res R1 hP=>?_);obtain ⟨V0,Vs0,hV0,rfl,rfl⟩:=hP;obtain rfl:Vs0=[]:=List.length_eq_zero_iff.1 hV0;refine ai.cut 1 rfl (fun B1 F1 w1=>?_);refine qU 1 rfl ?_;refine ab.nil ⟨rfl,?_⟩;refine ai.nil ?_;refine AZ.to [1,2] [(1,.d (.v V0)),(2,.bx [.sl 1 (v.map ah)])] rfl ?_;refine AZ.c8 1 0 rfl rfl rfl ?_;refine AZ.seq (AZ.cQ (fun B1 F1 w1=>?_));refine ab.fT tok 1 rfl rfl ?_;refine ab.call tok rfl rfl rfl rfl (lD 1 (by decide) (by decide)) ?_;refine ab.call tok rfl rfl rfl rfl ph ?_;refine qU 1 rfl ?_;refine ab.nil ⟨rfl,?_⟩;refine AZ.to [1,2,5] [(1,.d (aX [])),(2,.bx [.sl 1 (v.map ah)]),(5,.d (ah [1]))] rfl ?_;refine AZ.seq (AZ.seq ?_);refine AZ.cQ (fun B1 F1 w1=>?_);refine qU 3 rfl ?_;refine ab.nil ⟨rfl,?_⟩;refine AZ.to [5,18,19] [(5,.d (ah [1])),(18,.d (dI (0:Nat))),(19,.d (dI (0:Nat)))] rfl ?_;refine AZ.oZ [] (fun i r h=>by simp at h) ?_;refine AZ.block (AZ.aG [5,18,19] (fun _:Unit=>([],[(5,.d (ah [1])),(18,.d (dI (0:Nat))),(19,.d (dI (0:Nat)))])) (fun _=>True) (fun _=>0) () rfl trivial (fun _ _=>?_));show AZ _ _ _ _ _ _ _ [] [(5,.d (ah [1])),(18,.d (dI (0:Nat))),(19,.d (dI (0:Nat)))];refine AZ.seq (AZ.cQ (fun B1 F1 w1=>?_));refine qU 1 rfl ?_;refine ab.nil ⟨rfl,?_⟩;refine AZ.seq (AZ.aA rfl ?_);refine AZ.exit ?_;refine AZ.seq (AZ.cQ (fun B1 F1 w1=>?_));refine qU 2 rfl ?_;refine ab.nil ⟨rfl,?_⟩;exact AZ.ret rfl
theorem Bm{v:List NQ}{a:a6}(L:Lo v)(h5:a.length≤5)(hr:bk a.length a)(hl:jC v.length a)(hs:il 2 a):Pure Tryz.prog 73 [bt v,aX a] (ah (DI v a)):=by
 by_cases h0:a.length=0
 · obtain rfl:=List.length_eq_zero_iff.1 h0;exact zM v
 · exact zL L (by omega) h5 hr hl hs
end Lift
namespace Lift
open Go Go.Proofs
theorem Ge{a:a6}{k:Nat}(hs:il k a)(n:Nat):il k (a.take n):=fun i j=>by
 by_cases hi:i<n
 · rw[qZ hi];exact hs i j
 · unfold aS;rw[gk (by rw[aT];omega)];exact bn hs.pos
theorem nI(v:List NQ)(a:a6):(bJ v a).length+(aV v a).cols.length=ao a:=by
 unfold bJ;rw[ae];exact ou v a (ao a)
end Lift
namespace Lift
open Go Go.Proofs
theorem x9{v:List NQ}{xs ys:List NQ}{k:Nat}(L:Lo v)(hl:ys.length=xs.length)(hl1:xs.length≤1000000)(hx: ∀i,aC v.length (xs.getD i []))(hy: ∀i,aC v.length (ys.getD i []))(sx: ∀i,ay k (xs.getD i []))(sy: ∀i,ay k (ys.getD i []))(hk:k≤100000000000)
  (he: ∀i,i<xs.length→bg v v.length (cf (aW (xs.getD i []) (aM (ys.getD i []))))=0):Pure Tryz.prog 30 [bt v,bW xs,bW ys] (dB true):=by
 refine qJ 40 Tryz.func30 rfl rfl rfl rfl (by kernel_rfl) (fun B F0 w0=>?_);have cc:=fun i=>Ep L.V (hx i) (sx i) (hy i) (sy i) (by have:=(sx 0).pos;omega) (me L.l1 (by omega));refine qX 2 rfl ?_;refine qI (qX 2 rfl ?_);rw[ae];refine qU 2 rfl ?_;rw[ae,hl];refine qU 1 rfl ?_;rw[bne_eq_false_iff_eq.2 rfl];refine ab.nil ?_;refine AW.aA rfl ?_
 · skip
   refine AW.skip (AW.seq ?_);refine qX 2 rfl ?_;rw[ae];refine qU 1 rfl ?_;refine ab.nil ?_;refine AW.block ?_;refine AW.aG [1,2,3,16,17] (fun i:Nat=>[(1,.d (bW xs)),(2,.d (bW ys)),(3,.bx [.sl 1 (v.map ah)]),(16,.d (dI xs.length)),(17,.d (dI i))]) (fun i=>i≤xs.length) (fun i=>xs.length-i) 0 rfl (Nat.zero_le _) (fun i hi=>?_)
   · show AW _ _ _ _ _ _ _ [(1,.d (bW xs)),(2,.d (bW ys)),(3,.bx [.sl 1 (v.map ah)]),(16,.d (dI xs.length)),(17,.d (dI i))];refine qX 1 rfl ?_;refine qI ?_;refine AW.cond rfl (fun h=>?_) (fun h=>?_)
     · have hii:i<xs.length:=by have:=aq h;omega
       have gx:=getM ah (l:=xs) (i:=i) hii;have gy:=getM ah (l:=ys) (i:=i) (by omega);have cc:=cc i;rw[he i hii] at cc;generalize xs.getD i []=x at gx cc;generalize ys.getD i []=y at gy cc;refine AW.skip (AW.seq (AW.block ?_));refine qX 2 rfl ?_;refine qI (AW.draw aQ 14 (by kernel_rfl) ?_);refine qP 3 rfl ?_;refine af.idx tok (ah x) rfl rfl rfl rfl rfl (aj i) gx ?_;refine qP 3 rfl ?_;refine af.idx tok (ah y) rfl rfl rfl rfl rfl (aj i) gy ?_;refine qP 1 rfl ?_;refine af.call tok rfl rfl rfl rfl rfl cc ?_;refine qP 4 rfl ?_;refine af.nil ?_;refine qU 1 rfl ?_;refine qK 6 rfl ?_;refine ab.nil ?_;refine AW.aA rfl ?_
       · skip
         refine AW.skip (qT 1 rfl ?_);rw[aF (x:=(i:Int)+1) (by omega) (by omega)];refine qU 1 rfl ?_;refine ab.nil ?_;exact⟨i+1,rfl,hii,by omega⟩
     have hii:i=xs.length:=by have:=au h;omega
     subst hii;refine AW.exit ?_;refine qX 1 rfl ?_;exact qN rfl
end Lift
namespace Lift
open Go Go.Proofs
theorem vH{rt:List (List RD)}{ks:a6}(hk:ks.length≤1000000)(ce: ∀i,i<ks.length→Pure Tryz.prog 30 [TrD rt,bW (ks.getD i []),bW (ks.getD i [])] (dB true)):Pure Tryz.prog 22 [TrD rt,aX ks,aX ks] (dB true):=by
 refine qJ 30 Tryz.func22 rfl rfl rfl rfl (by kernel_rfl) (fun B F0 w0=>?_);refine qX 2 rfl ?_;refine qI (qX 2 rfl ?_);rw[ae];refine qU 2 rfl ?_;rw[ae];refine qU 1 rfl ?_;rw[bne_eq_false_iff_eq.2 (show (ks.length:Int)=(ks.length:Int) from rfl)];refine ab.nil ?_;refine AW.aA rfl ?_
 · skip
   refine AW.skip (AW.seq ?_);refine qX 2 rfl ?_;rw[ae];refine qU 1 rfl ?_;refine ab.nil ?_;refine AW.block ?_;refine AW.aG [1,2,3,13,14,15] (fun i:Nat=>[(1,.d (aX ks)),(2,.d (aX ks)),(3,.bx [.sl 1 (rt.map dC)]),(13,.d (aX ks)),(14,.d (dI ks.length)),(15,.d (dI i))]) (fun i=>i≤ks.length) (fun i=>ks.length-i) 0 rfl (Nat.zero_le _) (fun i hi=>?_)
   · show AW _ _ _ _ _ _ _ [(1,.d (aX ks)),(2,.d (aX ks)),(3,.bx [.sl 1 (rt.map dC)]),(13,.d (aX ks)),(14,.d (dI ks.length)),(15,.d (dI i))];refine qX 1 rfl ?_;refine qI ?_;refine AW.cond rfl (fun h=>?_) (fun h=>?_)
     · have hii:i<ks.length:=by have:=aq h;omega
       have g1:=getM bW (l:=ks) (i:=i) hii;have ce:=ce i hii;change _=some (bW (ks.getD i [])) at g1;generalize ks.getD i []=row at g1 ce;refine AW.skip (AW.seq (AW.block ?_));refine qX 2 rfl ?_;refine qI (AW.draw aQ 11 (by kernel_rfl) ?_);refine qP 3 rfl ?_;refine af.idx tok (bW row) rfl rfl rfl rfl rfl (aj i) g1 ?_;refine qP 3 rfl ?_;refine af.idx tok (bW row) rfl rfl rfl rfl rfl (aj i) g1 ?_;refine qP 1 rfl ?_;refine af.call tok rfl rfl rfl rfl rfl ce ?_;refine qP 1 rfl ?_;refine af.nil ?_;refine ab.nil ?_;refine AW.aA rfl ?_
       · skip
         refine AW.skip (qT 1 rfl ?_);rw[aF (x:=(i:Int)+1) (by omega) (by omega)];refine qU 1 rfl ?_;refine ab.nil ?_;exact⟨i+1,rfl,hii,by omega⟩
     refine AW.exit ?_;refine qX 1 rfl ?_;exact qN rfl
theorem j9{v:List NQ}{a:a6}{N:Nat}(L:Lo v)(hN:N≤5)(ha:a.length≤1000000)(hr:bk N a)(hl:jC v.length a)(hs:il 2 a):Pure Tryz.prog 51 [bt v,aX a] (.tu [aX ((aB v a N).rows.take (aB v a N).cols.length),bT (aB v a N).cols]):=by
 by_cases h0:a.length=0
 · obtain rfl:=List.length_eq_zero_iff.1 h0;rw[ub];exact uX v
 · have g:=kN hN;have R:=L.red hr hl hs g;have h2:2≤gI 2 N:=Nat.le_trans (ak 2) (dN (Nat.zero_le N));have h3:=uP L.l1 (gI 2 N);exact wJ L.V (by omega) ha (by omega) hr hl R.2.1 R.2.2.2.1 R.2.2.2.2 h2 (me L.l1 (by omega)) (Bv L.l1 (by omega)) (by omega)
theorem Ak{p:NQ→Prop}(h0:p [])(h1:p [1]){s:im}{n c:Nat}(h: ∀r,p (ju (aS s.rows r c))): ∀r i,p ((iu s n c r).getD i [])
 | 0,i=>by
   unfold iu;rw[aE,List.getElem?_set];split
   · split
     · exact h1
     · exact h0
   · rw[List.getElem?_replicate];split
     · exact h0
     · exact h0
 | r+1,i=>by
   unfold iu;rw[aE,List.getElem?_set];split
   · split
     · exact h r
     · exact h0
   · rw[← aE];exact Ak h0 h1 h r i
theorem EY{p:NQ→Prop}(h0:p [])(h1:p [1]){v:List NQ}{a:a6}(h: ∀r c,p (ju (aS (aV v a).rows r c)))(j i:Nat):p (((bJ v a).getD j []).getD i []):=by
 unfold bJ;rw[aE (l:=List.map _ _),List.getElem?_map];cases (fH v a (ao a))[j]? with
 | none=>exact h0
 | some c=>exact Ak h0 h1 (fun r=>h r c) _ i
end Lift
namespace Lift
open Go Go.Proofs
theorem Bw{rt:List (List RD)}{x:List RD}{v:List NQ}(T:IW 2 rt)(h0:du rt=0)(ht:TrD rt=bt v)(hv:v.length=rt.length)(X:DE 2 rt x):Pure Tryz.prog 67 [bt v,dC x] (tR (bL v.length x)):=by
 have h:=lH T X;rw[yP h0,ht,← hv] at h;exact h
end Lift
namespace Lift
open Go Go.Proofs
abbrev IvD(l:List Int):D:= .sl 1 (l.map (fun n=>dI n))
theorem xB{l:List Int}{i:Nat}(h:i<l.length):(l.map (fun n=>dI n))[i]?=some (dI (l.getD i 0)):=by simp[h]
def bA(l:List Int)(n:Nat):Bool:=l.all fun x=>decide (0≤x)&&decide (x<n)
theorem oO(l:List Int)(n:Nat)(hl:l.length≤140737488355328):Pure Tryz.prog 78 [IvD l,dI n] (dB (bA l n)):=by
 refine qJ 21 Tryz.func78 rfl rfl rfl rfl (by kernel_rfl) (fun B F0 w0=>?_);obtain ⟨E,hE⟩: ∃E,(l.drop 0).all (fun x=>decide (0≤x)&&decide (x<n))=E:=⟨_,rfl⟩;rw[show bA l n=E from hE];refine qX 1 rfl ?_;refine qI (qX 2 rfl ?_);rw[ae];refine qU 1 rfl ?_;refine ab.nil ?_;refine AW.block ?_;refine AW.aG [1,7,8,9] (fun i:Nat=>[(1,.d (dI n)),(7,.d (IvD l)),(8,.d (dI l.length)),(9,.d (dI i))]) (fun i=>i≤l.length∧(l.drop i).all (fun x=>decide (0≤x)&&decide (x<n))=E) (fun i=>l.length-i) 0 rfl ⟨Nat.zero_le _,hE⟩ (fun i ⟨hi,hiE⟩=>?_)
 · show AW _ _ _ _ _ _ _ [(1,.d (dI n)),(7,.d (IvD l)),(8,.d (dI l.length)),(9,.d (dI i))];refine qX 1 rfl ?_;refine qI ?_;refine AW.cond rfl (fun h=>?_) (fun h=>?_)
   · have hii:i<l.length:=by have:=aq h;omega
     have g1:=xB (l:=l) (i:=i) hii;have hat:=(yT (fun x=>decide (0≤x)&&decide (x<(n:Int))) (d:=0) hii).symm.trans hiE;generalize l.getD i 0=x at g1 hat;refine AW.skip (AW.seq (AW.block (AW.seq (AW.region ?_))));refine ab.idx tok (dI x) rfl rfl rfl rfl (aj i) g1 ?_;refine qU 2 rfl ?_;refine qK 2 rfl ?_;by_cases h0:x<0
     · rw[aN h0];refine qU 5 rfl ?_;refine ab.nil ?_;rw[aO (show ¬(0:Int)≤x by omega),Bool.false_and,Bool.false_and] at hat;rw[← hat];refine AW.aL rfl ?_;refine qX 1 rfl ?_;exact qN rfl
     rw[aO h0];rw[aN (show (0:Int)≤x by omega),Bool.true_and] at hat;refine qU 5 rfl ?_;refine ab.nil ?_;refine AW.cond rfl (fun h=>?_) (fun h=>?_)
     · have h1: ¬x<(n:Int):=by have:=aq h;omega
       rw[aO h1,Bool.false_and] at hat;rw[← hat];refine qX 1 rfl ?_;exact qN rfl
     · have h1:x<(n:Int):=by have:=au h;omega
       rw[aN h1,Bool.true_and] at hat;refine AW.skip (qT 1 rfl ?_);rw[aF (x:=(i:Int)+1) (by omega) (by omega)];refine qU 1 rfl ?_;refine ab.nil ?_;exact⟨i+1,rfl,⟨hii,hat⟩,by omega⟩
   have hii: ¬i<l.length:=by have:=au h;omega
   rw[ux _ hii] at hiE;rw[← hiE];refine AW.exit ?_;refine qX 1 rfl ?_;exact qN rfl
def DG(l:List Int)(i:Nat):Bool:= !(decide (0<i)&&decide (l.getD i 0≤l.getD (i-1) 0))
def jz(g:Nat→Bool):Nat→Nat→Bool
 | 0,_=>true
 | m+1,i=>g i&&jz g m (i+1)
theorem mB{g:Nat→Bool}{n i:Nat}(h:i<n):jz g (n-i) i=(g i&&jz g (n-(i+1)) (i+1)):=by
 rw[show n-i=(n-(i+1))+1 by omega,jz]
theorem lT{g:Nat→Bool}{n i:Nat}(h: ¬i<n):jz g (n-i) i=true:=by rw[show n-i=0 by omega,jz]
theorem rp{g:Nat→Bool}: ∀{m i:Nat},jz g m i=true→ ∀k,i≤k→k<i+m→g k=true
 | 0,i,_,k,h1,h2=>by omega
 | m+1,i,h,k,h1,h2=>by
   rw[jz,Bool.and_eq_true] at h;by_cases e:k=i
   · rw[e];exact h.1
   · exact rp h.2 k (by omega) (by omega)
def jM(l:List Int):Bool:=jz (DG l) (l.length-0) 0
theorem lC(l:List Int)(hl:l.length≤140737488355328):Pure Tryz.prog 79 [IvD l] (dB (jM l)):=by
 refine qJ 24 Tryz.func79 rfl rfl rfl rfl (by kernel_rfl) (fun B F0 w0=>?_);obtain ⟨E,hE⟩: ∃E,jz (DG l) (l.length-0) 0=E:=⟨_,rfl⟩;rw[show jM l=E from hE];refine qX 1 rfl ?_;refine qI (qX 2 rfl ?_);rw[ae];refine qU 1 rfl ?_;refine ab.nil ?_;refine AW.block ?_;refine AW.aG [0,4,5,6] (fun i:Nat=>[(0,.d (IvD l)),(4,.d (IvD l)),(5,.d (dI l.length)),(6,.d (dI i))]) (fun i=>i≤l.length∧jz (DG l) (l.length-i) i=E) (fun i=>l.length-i) 0 rfl ⟨Nat.zero_le _,hE⟩ (fun i ⟨hi,hiE⟩=>?_)
 · show AW _ _ _ _ _ _ _ [(0,.d (IvD l)),(4,.d (IvD l)),(5,.d (dI l.length)),(6,.d (dI i))];refine qX 1 rfl ?_;refine qI ?_;refine AW.cond rfl (fun h=>?_) (fun h=>?_)
   · have hii:i<l.length:=by have:=aq h;omega
     have hat:=(mB (g:=DG l) hii).symm.trans hiE;have g1:=xB (l:=l) (i:=i) hii;have g2:=xB (l:=l) (i:=i-1) (by omega);have hu:DG l i= !(decide (0<i)&&decide (l.getD i 0≤l.getD (i-1) 0)):=rfl;generalize l.getD i 0=x at g1 hu;generalize l.getD (i-1) 0=y at g2 hu;refine AW.skip (AW.seq (AW.block ?_));refine qX 2 rfl ?_;refine qI (AW.draw aQ 14 (by kernel_rfl) ?_);refine qP 2 rfl ?_;by_cases h0:i=0
     · rw[aO (show ¬(0:Int)<(i:Int) by omega)];rw[aO (show ¬0<i by omega)] at hu;rw[show DG l i=true from hu,Bool.true_and] at hat;refine qP 12 rfl ?_;refine af.nil ?_;refine ab.nil ?_;refine AW.aA rfl ?_;refine AW.skip (qT 1 rfl ?_);rw[aF (x:=(i:Int)+1) (by omega) (by omega)];refine qU 1 rfl ?_;refine ab.nil ?_;exact⟨i+1,rfl,⟨hii,hat⟩,by omega⟩
     rw[aN (show (0:Int)<(i:Int) by omega)];rw[aN (show 0<i by omega),Bool.true_and] at hu;refine qP 3 rfl ?_;refine af.idx tok (dI x) rfl rfl rfl rfl rfl (aj i) g1 ?_;refine qP 4 rfl ?_;rw[aF (x:=(i:Int) -1) (by omega) (by omega)];refine af.idx tok (dI y) rfl rfl rfl rfl rfl (show (0:Int)≤(i:Int) -1 by omega) (by rw[show ((i:Int) -1).toNat=i-1 by omega];exact g2) ?_;refine qP 3 rfl ?_;refine af.nil ?_;refine ab.nil ?_;refine AW.cond rfl (fun h=>?_) (fun h=>?_)
     · rw[show decide (x≤y)=true from h] at hu;rw[hu] at hat;rw[← hat];refine qX 1 rfl ?_;exact qN rfl
     · rw[show decide (x≤y)=false from h] at hu;rw[hu] at hat;refine AW.skip (qT 1 rfl ?_);rw[aF (x:=(i:Int)+1) (by omega) (by omega)];refine qU 1 rfl ?_;refine ab.nil ?_;exact⟨i+1,rfl,⟨hii,hat⟩,by omega⟩
   have hii: ¬i<l.length:=by have:=au h;omega
   rw[lT hii] at hiE;rw[← hiE];refine AW.exit ?_;refine qX 1 rfl ?_;exact qN rfl
abbrev CertD(rows cols:List Int)(ker:List (List (List RD))):D:= .ag [IvD rows,IvD cols,MxR ker]
def tK(l:Nat)(q:a6)(r:List (List RD)):Nat:=if r.length≠ao q then 10 else bE l r
def o6(l:Nat)(q:a6)(rows cols:List Int)(ker:List (List (List RD))):Nat :=
 if rows.length≠cols.length then 10 else if (!bA rows q.length|| !bA cols (ao q))=true then 9 else if (!jM rows|| !jM cols)=true then 12 else
 if fE (fun i=>tK l q (ker.getD i [])) (ker.length-0) 0≠0 then fE (fun i=>tK l q (ker.getD i [])) (ker.length-0) 0 else if 32<ker.length then 4 else 0
theorem rK{v:List NQ}{q:a6}{rows cols:List Int}{ker:List (List (List RD))}(hr:rows.length≤140737488355328)(hc:cols.length≤140737488355328)(hk:ker.length≤1000000)
  (cl: ∀i,Pure Tryz.prog 70 [bt v,kn (ker.getD i [])] (dI (bE v.length (ker.getD i [])))):
  Pure Tryz.prog 39 [bt v,aX q,CertD rows cols ker] (dI (o6 v.length q rows cols ker)):=by
 refine qJ 64 Tryz.func39 rfl rfl rfl rfl (by kernel_rfl) (fun B F0 w0=>?_);have w1:=oO rows q.length hr;have w2:=oO cols (ao q) hc;have a1:=lC rows hr;have a2:=lC cols hc;unfold o6;generalize bA rows q.length=b1 at w1 ⊢;generalize bA cols (ao q)=b2 at w2 ⊢;generalize jM rows=b3 at a1 ⊢;generalize jM cols=b4 at a2 ⊢;obtain ⟨E,hE⟩: ∃E,fE (fun i=>tK v.length q (ker.getD i [])) (ker.length-0) 0=E:=⟨_,rfl⟩;rw[hE];refine qX 3 rfl ?_;refine qI (qX 3 rfl ?_);rw[ae];refine qU 3 rfl ?_;rw[ae];refine qU 1 rfl ?_;refine ab.nil ?_;refine AW.cond rfl (fun h=>?_) (fun h=>?_)
 · rw[if_pos (show rows.length≠cols.length by have:=bne_iff_ne.1 h;omega)];refine qX 1 rfl ?_;exact qN rfl
 · rw[if_neg (show ¬rows.length≠cols.length by have:=bne_eq_false_iff_eq.1 h;omega)];refine AW.skip ?_;refine AW.cut [1,3,5] (fun _:Unit=>[(1,.d (aX q)),(3,.bx [.sl 1 (v.map ah)]),(5,.bx [IvD rows,IvD cols,MxR ker])]) (fun _=>(!b1|| !b2)=false) ?_ (fun _ hb=>?_)
   · refine AW.seq (AW.draw aQ 14 (by kernel_rfl) ?_);refine qP 4 rfl ?_;rw[ae];refine af.call tok rfl rfl rfl rfl rfl w1 ?_;cases b1 with
     | false =>
       refine qP 9 rfl ?_;refine af.nil ?_;refine ab.nil ?_;refine AW.aL rfl ?_;refine qX 1 rfl ?_;refine ab.nil ?_;rw[if_pos (by rfl)];exact AW.ret rfl
     | true =>
     refine qP 5 rfl ?_;refine af.call tok rfl rfl rfl rfl rfl (fx q) ?_;refine af.call tok rfl rfl rfl rfl rfl w2 ?_;cases b2 with
     | false =>
       refine qP 2 rfl ?_;refine af.nil ?_;refine ab.nil ?_;refine AW.aL rfl ?_;refine qX 1 rfl ?_;refine ab.nil ?_;rw[if_pos (by rfl)];exact AW.ret rfl
     | true =>
     refine qP 2 rfl ?_;refine af.nil ?_;refine ab.nil ?_;refine AW.aA rfl ?_;refine AW.skip ?_;exact⟨(),rfl,rfl⟩
   rw[hb,if_neg (by decide)]
   · show AW _ _ _ _ _ _ _ [(1,.d (aX q)),(3,.bx [.sl 1 (v.map ah)]),(5,.bx [IvD rows,IvD cols,MxR ker])];refine AW.cut [1,3,5] (fun _:Unit=>[(1,.d (aX q)),(3,.bx [.sl 1 (v.map ah)]),(5,.bx [IvD rows,IvD cols,MxR ker])]) (fun _=>(!b3|| !b4)=false) ?_ (fun _ hb=>?_)
     · refine qX 2 rfl ?_;refine ab.call tok rfl rfl rfl rfl a1 ?_;cases b3 with
       | false =>
         refine qU 7 rfl ?_;refine ab.nil ?_;refine AW.aL rfl ?_;refine qX 1 rfl ?_;refine ab.nil ?_;rw[if_pos (by rfl)];exact AW.ret rfl
       | true =>
       refine qU 4 rfl ?_;refine ab.call tok rfl rfl rfl rfl a2 ?_;cases b4 with
       | false =>
         refine qU 2 rfl ?_;refine ab.nil ?_;refine AW.aL rfl ?_;refine qX 1 rfl ?_;refine ab.nil ?_;rw[if_pos (by rfl)];exact AW.ret rfl
       | true =>
       refine qU 2 rfl ?_;refine ab.nil ?_;refine AW.aA rfl ?_;refine AW.skip ?_;exact⟨(),rfl,rfl⟩
     rw[hb,if_neg (by decide)]
     · show AW _ _ _ _ _ _ _ [(1,.d (aX q)),(3,.bx [.sl 1 (v.map ah)]),(5,.bx [IvD rows,IvD cols,MxR ker])];refine AW.seq (qX 3 rfl ?_);rw[ae];refine qU 1 rfl ?_;refine ab.nil ?_;refine AW.block ?_;refine AW.aG [1,3,5,42,43,44] (fun i:Nat=>[(1,.d (aX q)),(3,.bx [.sl 1 (v.map ah)]),(5,.bx [IvD rows,IvD cols,MxR ker]),(42,.d (MxR ker)),(43,.d (dI ker.length)),(44,.d (dI i))]) (fun i=>i≤ker.length∧fE (fun i=>tK v.length q (ker.getD i [])) (ker.length-i) i=E) (fun i=>ker.length-i) 0 rfl ⟨Nat.zero_le _,hE⟩ (fun i ⟨hi,hiE⟩=>?_)
       · show AW _ _ _ _ _ _ _ [(1,.d (aX q)),(3,.bx [.sl 1 (v.map ah)]),(5,.bx [IvD rows,IvD cols,MxR ker]),(42,.d (MxR ker)),(43,.d (dI ker.length)),(44,.d (dI i))];refine qX 1 rfl ?_;refine qI ?_;refine AW.cond rfl (fun h=>?_) (fun h=>?_)
         · have hii:i<ker.length:=by have:=aq h;omega
           have g1:=getM kn (l:=ker) (i:=i) hii;have cl:=cl i;have hmiss:=fun h0:tK v.length q (ker.getD i [])=0=>(fU (f:=fun i=>tK v.length q (ker.getD i [])) hii h0).symm.trans hiE;have hhit:=fun h0:tK v.length q (ker.getD i [])≠0=>(iP (f:=fun i=>tK v.length q (ker.getD i [])) hii h0).symm.trans hiE;have hkv:tK v.length q (ker.getD i [])=if (ker.getD i []).length≠ao q then 10 else bE v.length (ker.getD i []):=rfl
           change (ker.map kn)[i]?=some (kn (ker.getD i [])) at g1;generalize tK v.length q (ker.getD i [])=e at hmiss hhit hkv;generalize ker.getD i []=r at g1 cl hkv;refine AW.skip (AW.seq (AW.block (AW.seq (AW.region ?_))));refine ab.idx tok (kn r) rfl rfl rfl rfl (aj i) g1 ?_;refine qU 2 rfl ?_;refine qI (qX 2 rfl ?_);rw[ae];refine qU 1 rfl ?_;refine ab.call tok rfl rfl rfl rfl (fx q) ?_;refine qU 1 rfl ?_;refine ab.nil ?_;refine AW.cond rfl (fun h=>?_) (fun h=>?_)
           · rw[if_pos (show r.length≠ao q by have:=bne_iff_ne.1 h;omega)] at hkv;have:=hhit (by rw[hkv];decide);rw[if_pos (show E≠0 by rw[← this,hkv];decide),← this,hkv];refine qX 1 rfl ?_;exact qN rfl
           · rw[if_neg (show ¬r.length≠ao q by have:=bne_eq_false_iff_eq.1 h;omega)] at hkv;rw[← hkv] at cl;refine AW.skip (qX 2 rfl ?_);refine ab.call tok rfl rfl rfl rfl cl ?_;refine qU 1 rfl ?_;refine qK 2 rfl ?_;refine ab.nil ?_;refine AW.cond rfl (fun h=>?_) (fun h=>?_)
             · have he:e≠0:=by have:=bne_iff_ne.1 h;omega
               have:=hhit he;rw[if_pos (show E≠0 by rw[← this];exact he),← this];refine qX 2 rfl ?_;exact qN rfl
             · have he:e=0:=by have:=bne_eq_false_iff_eq.1 h;omega
               refine AW.skip (qT 1 rfl ?_);rw[aF (x:=(i:Int)+1) (by omega) (by omega)];refine qU 1 rfl ?_;refine ab.nil ?_;exact⟨i+1,rfl,⟨hii,hmiss he⟩,by omega⟩
         have hii: ¬i<ker.length:=by have:=au h;omega
         rw[iR hii] at hiE;subst hiE;rw[if_neg (by decide)];refine AW.exit (AW.seq ?_);refine qX 3 rfl ?_;rw[ae];refine qU 1 rfl ?_;refine ab.nil ?_;refine AW.cond rfl (fun h=>?_) (fun h=>?_)
         · rw[if_pos (show 32<ker.length by have:=aq h;omega)];refine qX 1 rfl ?_;exact qN rfl
         · rw[if_neg (show ¬32<ker.length by have:=au h;omega)];refine AW.skip (qX 1 rfl ?_);exact qN rfl
end Lift
namespace Lift
open Go Go.Proofs
def Ev(n:Nat)(x:Int):Bool:=decide (x<0)||decide ((n:Int)≤x)
theorem Bs(l:List Int)(n:Nat):(l.any (Ev n))= !bA l n:=by
 unfold bA;rw[List.not_all_eq_any_not]
 congr 1
 funext x;unfold Ev;by_cases h0:x<0
 · rw[aN h0,aO (show ¬(0:Int)≤x by omega)];rfl
 · rw[aO h0,aN (show (0:Int)≤x by omega)];by_cases h1:(n:Int)≤x
   · rw[aN h1,aO (show ¬x<(n:Int) by omega)];rfl
   · rw[aO h1,aN (show x<(n:Int) by omega)];rfl
theorem tF(n:Nat)(x:Int):Pure Tryz.prog 119 [dI x,.pr [dI n]] (dB (Ev n x)):=by
 refine qJ 11 Tryz.func119 rfl rfl rfl rfl (by kernel_rfl) (fun B F0 w0=>?_);unfold Ev;refine qX 1 rfl ?_;refine qK 2 rfl ?_;by_cases h0:x<0
 · rw[aN h0];refine qU 6 rfl ?_;exact qN rfl
 rw[aO h0];refine qU 6 rfl ?_;exact qN rfl
def Dm(g:Nat→Bool):Nat→Nat→Int
 | 0,_=> -1
 | m+1,i=>if g i=true then (i:Int) else Dm g m (i+1)
theorem G2{g:Nat→Bool}{n i:Nat}(h:i<n)(h0:g i=true):Dm g (n-i) i=i:=by
 rw[show n-i=(n-(i+1))+1 by omega,Dm,if_pos h0]
theorem EZ{g:Nat→Bool}{n i:Nat}(h:i<n)(h0:g i=false):Dm g (n-i) i=Dm g (n-(i+1)) (i+1):=by
 rw[show n-i=(n-(i+1))+1 by omega,Dm,if_neg (by rw[h0];simp)]
theorem G3{g:Nat→Bool}{n i:Nat}(h: ¬i<n):Dm g (n-i) i= -1:=by rw[show n-i=0 by omega,Dm]
theorem CC(l:List Int)(p:Int→Bool): ∀(m i:Nat),i+m=l.length→decide (0≤Dm (fun i=>p (l.getD i 0)) m i)=(l.drop i).any p
 | 0,i,h=>by
   rw[List.drop_eq_nil_of_le (by omega)];rfl
 | m+1,i,h=>by
   have hi:i<l.length:=by omega
   rw[List.drop_eq_getElem_cons hi,List.any_cons,Dm];have e:l.getD i 0=l[i]:=by rw[aE,a8 hi];rfl
   rw[e];cases p l[i]
   · rw[if_neg (by simp),Bool.false_or];exact CC l p m (i+1) (by omega)
   · rw[if_pos rfl,aN (aj i)];rfl
theorem m9(l:List Int)(hl:l.length≤140737488355328){k:Nat}{xs ys:List D}(p:Int→Bool)(hp: ∀x,Pure Tryz.prog k (xs++[dI x]++ys) (dB (p x))):
  Pure Tryz.prog 150 [IvD l,.fn k xs ys] (dI (Dm (fun i=>p (l.getD i 0)) l.length 0)):=by
 refine qJ 19 Tryz.func150 rfl rfl rfl rfl (by kernel_rfl) (fun B F0 w0=>?_);generalize hE:Dm (fun i=>p (l.getD i 0)) l.length 0=E;refine qX 1 rfl ?_;refine qI (qX 2 rfl ?_);rw[ae];refine qU 1 rfl ?_;refine ab.nil ?_;refine AW.block (AW.aG [0,1,7,8] (fun i:Nat=>[(0,.d (IvD l)),(1,.d (.fn k xs ys)),(7,.d (dI l.length)),(8,.d (dI i))]) (fun i=>i≤l.length∧Dm (fun i=>p (l.getD i 0)) (l.length-i) i=E) (fun i=>l.length-i) 0 rfl ⟨Nat.zero_le _,hE⟩ (fun i hi=>?_));obtain ⟨hi,hE⟩:=hi
 · show AW _ _ _ _ _ _ _ [(0,.d (IvD l)),(1,.d (.fn k xs ys)),(7,.d (dI l.length)),(8,.d (dI i))];refine qX 1 rfl ?_;refine qI ?_;refine AW.cond rfl (fun h=>?_) (fun h=>?_)
   · have hin:i<l.length:=by have:=aq h;omega
     have hpi:=hp (l.getD i 0);have hhit:=G2 (g:=fun i=>p (l.getD i 0)) hin;have hmiss:=EZ (g:=fun i=>p (l.getD i 0)) hin;have g1:=xB (l:=l) (i:=i) hin;refine AW.skip (AW.seq (AW.block ?_));refine qX 2 rfl ?_;refine qK 3 rfl ?_;refine ab.idx tok (dI (l.getD i 0)) rfl rfl rfl rfl (aj i) g1 ?_;refine qU 1 rfl ?_;refine ab.FI tok rfl rfl rfl rfl hpi ?_;refine ab.nil ?_;refine AW.cond rfl (fun h=>?_) (fun h=>?_)
     · rw[← hE,hhit h];refine qX 2 rfl ?_;exact qN rfl
     · skip
       refine AW.skip (qT 1 rfl ?_);rw[aF (x:=(i:Int)+1) (by omega) (by omega)];refine qU 1 rfl ?_;refine ab.nil ?_;exact⟨i+1,rfl,⟨hin,by rw[← hmiss h];exact hE⟩,by omega⟩
   have hin: ¬i<l.length:=by have:=au h;omega
   rw[← hE,G3 hin];refine AW.exit ?_;refine qX 1 rfl ?_;exact qN rfl
theorem lg(l:List Int)(hl:l.length≤140737488355328){k:Nat}{xs ys:List D}(p:Int→Bool)(hp: ∀x,Pure Tryz.prog k (xs++[dI x]++ys) (dB (p x))):
  Pure Tryz.prog 118 [IvD l,.fn k xs ys] (dB (l.any p)):=by
 refine qJ 9 Tryz.func118 rfl rfl rfl rfl (by kernel_rfl) (fun B F0 w0=>?_);have e:=CC l p l.length 0 (Nat.zero_add _);rw[List.drop_zero] at e;rw[← e];refine qX 1 rfl ?_;refine qK 2 rfl ?_;refine ab.call tok rfl rfl rfl rfl (m9 l hl p hp) ?_;refine qU 2 rfl ?_;exact qN rfl
set_option maxHeartbeats 1600000 in
theorem iC{v:List NQ}{q:a6}{rows cols:List Int}{ker:List (List (List RD))}(hr:rows.length≤140737488355328)(hc:cols.length≤140737488355328)(hk:ker.length≤1000000)(hkr: ∀i,(ker.getD i []).length≤1000000)(hql:q.length≤1000000)(hqc:ao q≤1000000)
  (cn: ∀i k,Pure Tryz.prog 67 [bt v,dC ((ker.getD i []).getD k [])] (tR (bL v.length ((ker.getD i []).getD k [])))):
  Pure Tryz.prog 80 [bt v,aX q,CertD rows cols ker] (tR (o6 v.length q rows cols ker)):=by
 refine qJ 108 Tryz.func80 rfl rfl rfl rfl (by kernel_rfl) (fun B F0 w0=>?_)
 have f1: ∀n,∀l:List Int,l.length≤140737488355328→Pure Tryz.prog 118 [IvD l,.fn 119 [] [.pr [dI (n:Nat)]]] (dB (!bA l n)):=fun n l hl=>by
  have h:=lg l hl (k:=119) (xs:=[]) (ys:=[.pr [dI n]]) (Ev n) (fun x=>tF n x);rw[Bs] at h;exact h
 unfold o6;obtain ⟨E,hE⟩: ∃E,fE (fun i=>tK v.length q (ker.getD i [])) (ker.length-0) 0=E:=⟨_,rfl⟩;rw[hE]
 let L:Nat→List Int:=fun i=>if i=0 then rows else cols
 let M:Nat→Nat:=fun i=>if i=1 then ao q else q.length
 have hL: ∀i,(L i).length≤140737488355328:=fun i=>by
  show (if i=0 then rows else cols).length≤_;split<;>assumption
 have g2: ∀i,i<2→([IvD rows,IvD cols])[i]?=some (IvD (L i)):=fun i hi=>match i,hi with
  | 0,_=>rfl
  | 1,_=>rfl
 refine qX 3 rfl ?_;refine qI (qX 3 rfl ?_);rw[ae];refine qU 3 rfl ?_;rw[ae];refine qU 1 rfl ?_;refine ab.nil ?_;refine AW.cond rfl (fun h=>?_) (fun h=>?_)
 · rw[if_pos (show rows.length≠cols.length by have:=bne_iff_ne.1 h;omega)];refine qX 2 rfl ?_;exact qN rfl
 · rw[if_neg (show ¬rows.length≠cols.length by have:=bne_eq_false_iff_eq.1 h;omega)];refine AW.skip (AW.seq ?_);refine qX 4 rfl ?_;refine ab.fj tok rfl rfl rfl rfl rfl ?_;refine qU 2 rfl ?_;refine ab.nil ?_;refine AW.block (AW.aG [1,3,5,30,31,32] (fun i:Nat=>[(1,.d (aX q)),(3,.bx [.sl 1 (v.map ah)]),(5,.bx [IvD rows,IvD cols,MxR ker]),(30,.d (.sl 1 [IvD rows,IvD cols])),(31,.d (dI 2)),(32,.d (dI i))]) (fun i=>i≤2∧(0<i→bA rows q.length=true)∧(1<i→bA cols (ao q)=true)) (fun i=>2-i) 0 rfl ⟨Nat.zero_le _,fun h=>absurd h (by decide),fun h=>absurd h (by decide)⟩ (fun i hI=>?_));obtain ⟨hi,hi1,hi2⟩:=hI
   · show AW _ _ _ _ _ _ _ [(1,.d (aX q)),(3,.bx [.sl 1 (v.map ah)]),(5,.bx [IvD rows,IvD cols,MxR ker]),(30,.d (.sl 1 [IvD rows,IvD cols])),(31,.d (dI 2)),(32,.d (dI i))];refine qX 1 rfl ?_;refine qI ?_;refine AW.cond rfl (fun h=>?_) (fun h=>?_)
     · have hii:i<2:=by have:=aq h;omega
       have g2:=g2 i hii;have f2:=f1 (M i) (L i) (hL i)
       have hM:((i:Int)==1)=decide (i=1):=by
        by_cases e:i=1
        · rw[e];rfl
        · rw[aO e];exact beq_eq_false_iff_ne.2 (by omega)
       have bad:bA (L i) (M i)=false→(!bA rows q.length|| !bA cols (ao q))=true:=fun e=>by
        match i,hii,e with
        | 0,_,e =>
          have e:bA rows q.length=false:=e;rw[e];rfl
        | 1,_,e =>
          have e:bA cols (ao q)=false:=e;rw[e,Bool.not_false,Bool.or_true]
       have good:bA (L i) (M i)=true→(0<i+1→bA rows q.length=true)∧(1<i+1→bA cols (ao q)=true):=fun e=>by
        match i,hii,e with
        | 0,_,e=>exact⟨fun _=>e,fun h=>absurd h (by decide)⟩
        | 1,_,e=>exact⟨fun _=>hi1 (by decide),fun _=>e⟩
       have hM1:i=1→M i=ao q:=fun e=>if_pos e;have hM0:i≠1→M i=q.length:=fun e=>if_neg e;generalize L i=l at g2 f2 bad good;generalize M i=m at f2 bad good hM1 hM0;refine AW.skip (AW.seq (AW.block ?_));refine qX 1 rfl ?_;refine ab.idx tok (IvD l) rfl rfl rfl rfl (aj i) g2 ?_;refine qU 3 rfl ?_;refine qK 2 rfl ?_;rw[ae];refine qU 2 rfl ?_;refine ab.nil ?_;refine AW.cut [1,3,5,8,9,30,31,32] (fun _:Unit=>[(1,.d (aX q)),(3,.bx [.sl 1 (v.map ah)]),(5,.bx [IvD rows,IvD cols,MxR ker]),(8,.d (IvD l)),(9,.bx [dI m]),(30,.d (.sl 1 [IvD rows,IvD cols])),(31,.d (dI 2)),(32,.d (dI i))]) (fun _=>True) ?_ (fun _ _=>?_)
       · refine qX 2 rfl ?_;refine ab.nil ?_;refine AW.cond rfl (fun h=>?_) (fun h=>?_)
         · have e1:i=1:=aq (hM▸h);refine qT 1 rfl ?_;refine ab.call tok rfl rfl rfl rfl (bP q) ?_;refine qU 1 rfl ?_;refine ab.nil ?_;exact⟨(),by rw[hM1 e1];rfl,trivial⟩
         · have e1:i≠1:=au (hM▸h);refine AW.skip ?_;exact⟨(),by rw[hM0 e1];rfl,trivial⟩
       · show AW _ _ _ _ _ _ _ [(1,.d (aX q)),(3,.bx [.sl 1 (v.map ah)]),(5,.bx [IvD rows,IvD cols,MxR ker]),(8,.d (IvD l)),(9,.bx [dI m]),(30,.d (.sl 1 [IvD rows,IvD cols])),(31,.d (dI 2)),(32,.d (dI i))];refine qX 1 rfl ?_;refine ab.Kj 9 rfl ?_;refine ab.Io tok rfl rfl rfl rfl ?_;refine ab.call tok rfl rfl rfl rfl f2 ?_;refine ab.nil ?_;refine AW.cond rfl (fun h=>?_) (fun h=>?_)
         · rw[if_pos (bad (by cases e:bA l m;rfl;rw[e] at h;cases h))];refine qX 2 rfl ?_;exact qN rfl
         · have hg:=good (by cases e:bA l m;rw[e] at h;cases h;rfl);refine AW.skip (qT 1 rfl ?_);rw[aF (x:=(i:Int)+1) (by omega) (by omega)];refine qU 1 rfl ?_;refine ab.nil ?_;exact⟨i+1,rfl,⟨hii,hg⟩,by omega⟩
     have hii:i=2:=by have:=au h;omega
     subst hii;rw[if_neg (by rw[hi1 (by decide),hi2 (by decide)];simp)];refine AW.exit (AW.seq ?_);refine qX 4 rfl ?_;refine ab.fj tok rfl rfl rfl rfl rfl ?_;refine qU 2 rfl ?_;refine ab.nil ?_;refine AW.block (AW.aG [1,3,5,52,53,54] (fun i:Nat=>[(1,.d (aX q)),(3,.bx [.sl 1 (v.map ah)]),(5,.bx [IvD rows,IvD cols,MxR ker]),(52,.d (.sl 1 [IvD rows,IvD cols])),(53,.d (dI 2)),(54,.d (dI i))]) (fun i=>i≤2∧(0<i→jM rows=true)∧(1<i→jM cols=true)) (fun i=>2-i) 0 rfl ⟨Nat.zero_le _,fun h=>absurd h (by decide),fun h=>absurd h (by decide)⟩ (fun i hI=>?_));obtain ⟨hi,hi1,hi2⟩:=hI
     · show AW _ _ _ _ _ _ _ [(1,.d (aX q)),(3,.bx [.sl 1 (v.map ah)]),(5,.bx [IvD rows,IvD cols,MxR ker]),(52,.d (.sl 1 [IvD rows,IvD cols])),(53,.d (dI 2)),(54,.d (dI i))];refine qX 1 rfl ?_;refine qI ?_;refine AW.cond rfl (fun h=>?_) (fun h=>?_)
       · have hii:i<2:=by have:=aq h;omega
         have g2:=g2 i hii;have hLi:=hL i
         have bad:jM (L i)=false→(!jM rows|| !jM cols)=true:=fun e=>by
          match i,hii,e with
          | 0,_,e =>
            have e:jM rows=false:=e;rw[e];rfl
          | 1,_,e =>
            have e:jM cols=false:=e;rw[e,Bool.not_false,Bool.or_true]
         have good:jM (L i)=true→(0<i+1→jM rows=true)∧(1<i+1→jM cols=true):=fun e=>by
          match i,hii,e with
          | 0,_,e=>exact⟨fun _=>e,fun h=>absurd h (by decide)⟩
          | 1,_,e=>exact⟨fun _=>hi1 (by decide),fun _=>e⟩
         generalize L i=l at g2 bad good hLi;refine AW.skip (AW.seq (AW.block (AW.seq (AW.region ?_))));refine ab.idx tok (IvD l) rfl rfl rfl rfl (aj i) g2 ?_;refine qU 2 rfl ?_;refine qK 1 rfl ?_;refine ab.nil ?_;refine AW.block ?_
         refine AW.aG [1,3,5,11,12,52,53,54] (fun k:Nat=>[(1,.d (aX q)),(3,.bx [.sl 1 (v.map ah)]),(5,.bx [IvD rows,IvD cols,MxR ker]),(11,.d (IvD l)),(12,.d (dI k)),(52,.d (.sl 1 [IvD rows,IvD cols])),(53,.d (dI 2)),(54,.d (dI i))]) (fun k=>1≤k∧(k≤l.length∨k=1)∧jz (DG l) (l.length-k) k=jM l) (fun k=>l.length-k) 1 rfl ⟨ak 1,.inr rfl,by
          unfold jM;by_cases h0:0<l.length
          · rw[mB h0];rfl
          · rw[show l.length=0 by omega];rfl⟩ (fun k hK=>?_)
         obtain ⟨hk1,hk2,hkA⟩:=hK
         · show AW _ _ _ _ _ _ _ [(1,.d (aX q)),(3,.bx [.sl 1 (v.map ah)]),(5,.bx [IvD rows,IvD cols,MxR ker]),(11,.d (IvD l)),(12,.d (dI k)),(52,.d (.sl 1 [IvD rows,IvD cols])),(53,.d (dI 2)),(54,.d (dI i))];refine AW.seq (qX 3 rfl ?_);rw[ae];refine qU 1 rfl ?_;refine ab.nil ?_;refine AW.cond rfl (fun h=>?_) (fun h=>?_)
           · have hkk:k<l.length:=by have:=aq h;omega
             have hat:=(mB (g:=DG l) hkk).symm.trans hkA;have g3:=xB (l:=l) (i:=k) hkk;have g4:=xB (l:=l) (i:=k-1) (by omega);have hu:DG l k= !(decide (0<k)&&decide (l.getD k 0≤l.getD (k-1) 0)):=rfl;rw[aN (show 0<k by omega),Bool.true_and] at hu;generalize l.getD k 0=x at g3 hu;generalize l.getD (k-1) 0=y at g4 hu;refine AW.skip (AW.seq (AW.block (AW.seq ?_)));refine AW.draw aQ 10 (by kernel_rfl) ?_;refine qP 2 rfl ?_;refine af.idx tok (dI x) rfl rfl rfl rfl rfl (aj k) g3 ?_;refine qP 4 rfl ?_;rw[aF (x:=(k:Int) -1) (by omega) (by omega)];refine af.idx tok (dI y) rfl rfl rfl rfl rfl (show (0:Int)≤(k:Int) -1 by omega) (by rw[show ((k:Int) -1).toNat=k-1 by omega];exact g4) ?_;refine qP 2 rfl ?_;refine af.nil ?_;refine ab.nil ?_;refine AW.cond rfl (fun h=>?_) (fun h=>?_)
             · rw[show decide (x≤y)=true from h] at hu;rw[hu,Bool.not_true,Bool.false_and] at hat;rw[if_pos (bad hat.symm)];refine qX 2 rfl ?_;exact qN rfl
             · rw[show decide (x≤y)=false from h] at hu;rw[hu,Bool.not_false,Bool.true_and] at hat;refine AW.skip (qT 2 rfl ?_);rw[aF (x:=(k:Int)+1) (by omega) (by omega)];refine qU 1 rfl ?_;refine ab.nil ?_;exact⟨k+1,rfl,⟨by omega,.inl (by omega),hat⟩,by omega⟩
           have hkk: ¬k<l.length:=by have:=au h;omega
           rw[lT hkk] at hkA;have hg:=good hkA.symm;refine AW.exit ?_;refine qT 1 rfl ?_;rw[aF (x:=(i:Int)+1) (by omega) (by omega)];refine qU 1 rfl ?_;refine ab.nil ?_;exact⟨i+1,rfl,⟨hii,hg⟩,by omega⟩
       have hii:i=2:=by have:=au h;omega
       subst hii;rw[if_neg (by rw[hi1 (by decide),hi2 (by decide)];simp)];refine AW.exit (AW.seq ?_);refine qX 3 rfl ?_;rw[ae];refine qU 1 rfl ?_;refine ab.nil ?_;refine AW.block ?_;refine AW.aG [1,3,5,77,78,79] (fun i:Nat=>[(1,.d (aX q)),(3,.bx [.sl 1 (v.map ah)]),(5,.bx [IvD rows,IvD cols,MxR ker]),(77,.d (MxR ker)),(78,.d (dI ker.length)),(79,.d (dI i))]) (fun i=>i≤ker.length∧fE (fun i=>tK v.length q (ker.getD i [])) (ker.length-i) i=E) (fun i=>ker.length-i) 0 rfl ⟨Nat.zero_le _,hE⟩ (fun i ⟨hi,hiE⟩=>?_)
       · show AW _ _ _ _ _ _ _ [(1,.d (aX q)),(3,.bx [.sl 1 (v.map ah)]),(5,.bx [IvD rows,IvD cols,MxR ker]),(77,.d (MxR ker)),(78,.d (dI ker.length)),(79,.d (dI i))];refine qX 1 rfl ?_;refine qI ?_;refine AW.cond rfl (fun h=>?_) (fun h=>?_)
         · have hii:i<ker.length:=by have:=aq h;omega
           have g1:=getM kn (l:=ker) (i:=i) hii;have cn:=cn i;have hri:=hkr i;have hmiss:=fun h0:tK v.length q (ker.getD i [])=0=>(fU (f:=fun i=>tK v.length q (ker.getD i [])) hii h0).symm.trans hiE;have hhit:=fun h0:tK v.length q (ker.getD i [])≠0=>(iP (f:=fun i=>tK v.length q (ker.getD i [])) hii h0).symm.trans hiE;have hkv:tK v.length q (ker.getD i [])=if (ker.getD i []).length≠ao q then 10 else bE v.length (ker.getD i []):=rfl
           change (ker.map kn)[i]?=some (kn (ker.getD i [])) at g1;generalize tK v.length q (ker.getD i [])=e at hmiss hhit hkv;generalize ker.getD i []=r at g1 cn hkv hri;refine AW.skip (AW.seq (AW.block (AW.seq (AW.region ?_))));refine ab.idx tok (kn r) rfl rfl rfl rfl (aj i) g1 ?_;refine qU 2 rfl ?_;refine qI (qX 2 rfl ?_);rw[ae];refine qU 1 rfl ?_;refine ab.call tok rfl rfl rfl rfl (bP q) ?_;refine qU 1 rfl ?_;refine ab.nil ?_;refine AW.cond rfl (fun h=>?_) (fun h=>?_)
           · rw[if_pos (show r.length≠ao q by have:=bne_iff_ne.1 h;omega)] at hkv;have:=hhit (by rw[hkv];decide);rw[if_pos (show E≠0 by rw[← this,hkv];decide),← this,hkv];refine qX 2 rfl ?_;exact qN rfl
           · rw[if_neg (show ¬r.length≠ao q by have:=bne_eq_false_iff_eq.1 h;omega)] at hkv;refine AW.skip (qX 2 rfl ?_);rw[ae];refine qU 1 rfl ?_;refine ab.nil ?_;refine AW.block ?_;refine AW.aG [1,3,5,77,78,79,89,90,91] (fun k:Nat=>[(1,.d (aX q)),(3,.bx [.sl 1 (v.map ah)]),(5,.bx [IvD rows,IvD cols,MxR ker]),(77,.d (MxR ker)),(78,.d (dI ker.length)),(79,.d (dI i)),(89,.d (kn r)),(90,.d (dI r.length)),(91,.d (dI k))]) (fun k=>k≤r.length∧fE (fun k=>bL v.length (r.getD k [])) (r.length-k) k=e) (fun k=>r.length-k) 0 rfl ⟨Nat.zero_le _,hkv.symm⟩ (fun k ⟨hk,hke⟩=>?_)
             · show AW _ _ _ _ _ _ _ [(1,.d (aX q)),(3,.bx [.sl 1 (v.map ah)]),(5,.bx [IvD rows,IvD cols,MxR ker]),(77,.d (MxR ker)),(78,.d (dI ker.length)),(79,.d (dI i)),(89,.d (kn r)),(90,.d (dI r.length)),(91,.d (dI k))];refine qX 1 rfl ?_;refine qI ?_;refine AW.cond rfl (fun h=>?_) (fun h=>?_)
               · have hkk:k<r.length:=by have:=aq h;omega
                 have g2:=getM dC (l:=r) (i:=k) hkk;have cn:=cn k;have km:=fun h0:bL v.length (r.getD k [])=0=>(fU (f:=fun k=>bL v.length (r.getD k [])) hkk h0).symm.trans hke;have kh:=fun h0:bL v.length (r.getD k [])≠0=>(iP (f:=fun k=>bL v.length (r.getD k [])) hkk h0).symm.trans hke;refine AW.skip (AW.seq (AW.block (AW.seq (AW.region ?_))));refine ab.idx tok (dC (r.getD k [])) rfl rfl rfl rfl (aj k) g2 ?_;refine qU 2 rfl ?_;refine qK 2 rfl ?_;refine ab.call tok rfl rfl rfl rfl cn ?_;refine qU 1 rfl ?_;refine ab.nil ?_;generalize bL v.length (r.getD k [])=z at cn km kh;rcases z with _ | z
                 rotate_left
                 · have h1:=kh (Nat.succ_ne_zero z);have h2:=hhit (by rw[← h1];exact Nat.succ_ne_zero z);rw[if_pos (show E≠0 by rw[← h2,← h1];exact Nat.succ_ne_zero z),← h2,← h1];refine qX 1 rfl ?_;refine ab.err tok rfl rfl rfl rfl rfl ?_;refine ab.nil ?_;refine AW.aL rfl ?_;refine qX 2 rfl ?_;exact qN rfl
                 refine qX 1 rfl ?_;refine ab.err tok rfl rfl rfl rfl rfl ?_;refine ab.nil ?_;refine AW.aA rfl ?_
                 · skip
                   refine AW.skip (qT 1 rfl ?_);rw[aF (x:=(k:Int)+1) (by omega) (by omega)];refine qU 1 rfl ?_;refine ab.nil ?_;exact⟨k+1,rfl,⟨hkk,km rfl⟩,by omega⟩
               have hkk: ¬k<r.length:=by have:=au h;omega
               rw[iR hkk] at hke;refine AW.exit ?_;refine qT 1 rfl ?_;rw[aF (x:=(i:Int)+1) (by omega) (by omega)];refine qU 1 rfl ?_;refine ab.nil ?_;exact⟨i+1,rfl,⟨hii,hmiss hke.symm⟩,by omega⟩
         have hii: ¬i<ker.length:=by have:=au h;omega
         rw[iR hii] at hiE;subst hiE;rw[if_neg (by decide)];refine AW.exit (AW.seq ?_);refine qX 3 rfl ?_;rw[ae];refine qU 1 rfl ?_;refine ab.nil ?_;refine AW.cond rfl (fun h=>?_) (fun h=>?_)
         · rw[if_pos (show 32<ker.length by have:=aq h;omega)];refine qX 2 rfl ?_;exact qN rfl
         · rw[if_neg (show ¬32<ker.length by have:=au h;omega)];refine AW.skip (qX 1 rfl ?_);exact qN rfl
end Lift
namespace Lift
def aJ(q:a6)(rn cn:List Nat):a6:=rn.map fun r=>cn.map fun k=>aS q r k
theorem dS(q:a6)(rn cn:List Nat):(aJ q rn cn).length=rn.length:=ae ..
theorem mh(q:a6)(rn cn:List Nat){i:Nat}(h:i<rn.length):(aJ q rn cn).getD i []=cn.map fun k=>aS q (rn.getD i 0) k:=by
 unfold aJ;rw[aE,List.getElem?_map,aE,a8 h];rfl
theorem rT(q:a6)(rn cn:List Nat){i k:Nat}(h:i<rn.length)(hk:k<cn.length):aS (aJ q rn cn) i k=aS q (rn.getD i 0) (cn.getD k 0):=by
 show ((aJ q rn cn).getD i []).getD k []=_;rw[mh q rn cn h,aE,List.getElem?_map,aE (l:=cn),a8 hk];rfl
theorem gJ(q:a6)(rn cn:List Nat):bk cn.length (aJ q rn cn):=fun i hi=>by
 rw[dS] at hi;rw[mh q rn cn hi,ae]
theorem fD{p:NQ→Prop}(h0:p []){q:a6}(h: ∀i k,p (aS q i k))(rn cn:List Nat): ∀i k,p (aS (aJ q rn cn) i k):=fun i k=>by
 by_cases hi:i<rn.length
 · by_cases hk:k<cn.length
   · rw[rT q rn cn hi hk];exact h _ _
   · unfold aS;rw[my (by rw[gJ q rn cn i (by rw[dS];exact hi)];omega)];exact h0
 · unfold aS;rw[gk (by rw[dS];omega)];exact h0
section
variable {m0:Nat} {v:List NQ} (V:j5 m0 v) {q kq:a6} (Gq:rq v q)
include V Gq
theorem BB{rn cn:List Nat}(hsq:cn.length=rn.length)(hrn: ∀i,i<rn.length→rn.getD i 0<q.length)(hcn: ∀k,k<cn.length→cn.getD k 0<ao q)(hd:fi v (jk v (aJ q rn cn))≠0):rn.length≤(aV v q).cols.length:=by
 obtain ⟨F⟩:=qR V;have hl:=dS q rn cn;have rm:bk (aJ q rn cn).length (aJ q rn cn):=by rw[hl,← hsq];exact gJ q rn cn
 have lm:jC v.length (aJ q rn cn):=fD (p:=aC v.length) (bm _) Gq.lt rn cn;have I1:=gn V.a F Gq.r Gq.lt (ao q) (ak _);have I2:=gn V.a F rm lm (aJ q rn cn).length (ak _);have f1:AM q.length (ao q) (aV v q).cols.length (vM F q):=I1.I7.2 (ak _);obtain ⟨L,R,f1⟩:=f1
 have f2:AM (aJ q rn cn).length (aJ q rn cn).length (aV v q).cols.length (vM F (aJ q rn cn)):=⟨fun i p=>L (rn.getD i 0) p,fun p k=>R p (cn.getD k 0),fun i k hi hk=>by
  rw[hl] at hi hk;show F.val (aS (aJ q rn cn) i k)=_;rw[rT q rn cn hi (by omega)]
  exact f1 _ _ (hrn i hi) (hcn k (by omega))⟩
 have h:=I2.I7.1 f2
 have hf: ¬(aB v (aJ q rn cn) (aJ q rn cn).length).cols.length<(aJ q rn cn).length:=fun g=>by
  refine hd ?_;unfold jk;rw[if_pos g];exact(F.sg (bm _)).2 F.nil
 omega
variable (Gk:rq v kq)
include Gk
theorem EX(hkc:ao kq=ao q)(hs: ∀i j,i<q.length→j<kq.length→fi v (eD v (q.getD i []) (kq.getD j []) (q.getD i []).length)=0)(hr:(aV v kq).cols.length=kq.length):(aV v q).cols.length+kq.length≤ao q:=by
 obtain ⟨F⟩:=qR V;refine Classical.byContradiction fun hlt=>?_;have I1:=gn V.a F Gq.r Gq.lt (ao q) (ak _);have hfl:=ou v q (ao q);change RI q.length (ao q) (ao q) (vM F q) (vM F (aV v q).rows) (aV v q).cols at I1;change (fH v q (ao q)).length+(aV v q).cols.length=ao q at hfl
 have hfm: ∀j,j<ao q→j ∉ (aV v q).cols→ ∃p,p<(fH v q (ao q)).length∧(fH v q (ao q)).getD p 0=j:=fun j hj hn=>by
  have hm:j∈fH v q (ao q):=List.mem_filter.2 ⟨List.mem_range.2 hj,by
   have:(aB v q (ao q)).cols.contains j=false:=Bool.eq_false_iff.2 fun h=>hn (List.contains_iff_mem.1 h)
   rw[this];rfl⟩
  obtain ⟨p,hp,e⟩:=List.getElem_of_mem hm;exact⟨p,hp,by rw[aE,a8 hp];exact e⟩
 have hkl: ∀j i,vM F kq j i=F.val ((kq.getD j []).getD i []):=fun _ _=>rfl
 have hker: ∀i j,i<q.length→j<kq.length→sm (ao q) (fun k=>vM F q i k*vM F kq j k)=0:=fun i j hi hj=>by
  have h:=(F.sg (gl V.a (Gq.lt i) (Gk.lt j) _)).1 (hs i j hi hj);rw[v8 V.a F (Gq.lt i) (Gk.lt j),Gq.r i hi] at h;exact h
 generalize fH v q (ao q)=fr at hfl hfm;obtain ⟨y,⟨k0,hk0,hy0⟩,hy⟩:=rB fr.length kq.length (fun p k=>vM F kq k (fr.getD p 0)) (by omega)
 have hx0: ∀i,i<q.length→sm (ao q) (fun j=>vM F q i j*sm kq.length (fun k=>vM F kq k j*y k))=0:=fun i hi=>by
  rw[show sm (ao q) (fun j=>vM F q i j*sm kq.length (fun k=>vM F kq k j*y k))=sm (ao q) (fun j=>sm kq.length (fun k=>vM F q i j*vM F kq k j*y k)) from bN fun j _=>by
   rw[← l6];exact bN fun k _=>(Rg.mul_assoc _ _ _).symm,nZ]
  refine gh fun k hk=>?_;rw[nY,hker i k hi hk,Rg.zero_mul]
 have hM:=(I1.eqv _).1 hx0
 have hx: ∀j,j<ao q→sm kq.length (fun k=>vM F kq k j*y k)=0:=fun j hj=>by
  by_cases hc:j∈(aV v q).cols
  · obtain ⟨p,hp,e⟩:=List.getElem_of_mem hc;have e':(aV v q).cols.getD p 0=j:=by rw[aE,a8 hp];exact e
    have h:=hM p (by have:=I1.rm;omega)
    rw[m8 hj (fun k hk hne=>by
     by_cases hc2:k∈(aV v q).cols
     · obtain ⟨p2,hp2,e2⟩:=List.getElem_of_mem hc2;have e2':(aV v q).cols.getD p2 0=k:=by rw[aE,a8 hp2];exact e2
       have h2:=I1.piv p2 p hp2 (by have:=I1.rm;omega);rw[e2',if_neg (fun e3=>hne (by rw[← e2',← e3,e']))] at h2;rw[h2,Rg.zero_mul]
     · obtain ⟨p2,hp2,e2⟩:=hfm k hk hc2;have h2:=hy p2 hp2;rw[e2] at h2
       rw[h2,Rg.mul_zero])] at h
    have h3:=I1.piv p p hp (by have:=I1.rm;omega);rw[e',if_pos rfl] at h3;rw[h3,Rg.one_mul] at h;exact h
  · obtain ⟨p,hp,e⟩:=hfm j hj hc;have h:=hy p hp;rw[e] at h;exact h
 have I2:=gn V.a F (fm kq) (jb Gk.lt) kq.length (ak _);have ht:=(lz V Gk).2;rw[hr] at ht;have lt2:=jI v (bu kq) kq.length;have hid:=IN ht (fun p q' h1 h2=>I2.asc p q' h1 h2) lt2;refine hy0 (I2.indep y (fun i hi=>?_) k0 (by omega));rw[fL] at hi;rw[ht];rw[← hx i (by omega)];refine bN fun p hp=>?_;rw[hid p hp];show F.val (aS (bu kq) i p)*y p=_;rw[p7 kq hi];rfl
end
end Lift
namespace Lift
open Go Go.Proofs
def uN(v:List NQ)(q kq:a6)(j:Nat):Bool:=jz (fun i=>decide (fi v (eD v (q.getD i []) (kq.getD j []) (q.getD i []).length)=0)) (q.length-0) 0
def xg(v:List NQ)(q kq:a6):Bool:=jz (uN v q kq) (kq.length-0) 0
def wx(v:List NQ)(q:a6)(rn cn:List Nat)(kq:a6):Bool :=
 if (kq.length:Int)≠(ao q:Int) -cn.length then false else if fi v (jk v (aJ q rn cn))=0 then false else
 if xg v q kq=false then false else decide (((aV v kq).cols.length:Int)=kq.length)
set_option maxHeartbeats 1600000 in
theorem kK{v:List NQ}{q kq:a6}{rn cn:List Nat}(V:k8 v)(cc:Pure Tryz.prog 20 [bt v,aX q] aP)(ce:Pure Tryz.prog 80 [bt v,aX q,.ag [bT rn,bT cn,aX kq]] aP)
  (hql:q.length≤1000000) (hqc:ao q≤1000000) (hqr:bk (ao q) q) (hkl:kq.length≤1000000) (hrl:rn.length≤1000000) (hcl:cn.length≤1000000) (hrn: ∀i,i<rn.length→rn.getD i 0<q.length) (hcn: ∀k,k<cn.length→cn.getD k 0<ao q)
  (cd:Pure Tryz.prog 60 [bt v,aX (aJ q rn cn)] (.tu [ah (jk v (aJ q rn cn)),aP])) (ld:aC v.length (jk v (aJ q rn cn))) (sd:vm v (jk v (aJ q rn cn)))
  (ct: ∀i j,i<q.length→j<kq.length→Pure Tryz.prog 58 [bt v,bW (q.getD i []),bW (kq.getD j [])] (.tu [ah (eD v (q.getD i []) (kq.getD j []) (q.getD i []).length),aP]))
  (lt: ∀i j,i<q.length→j<kq.length→aC v.length (eD v (q.getD i []) (kq.getD j []) (q.getD i []).length)) (st: ∀i j,i<q.length→j<kq.length→vm v (eD v (q.getD i []) (kq.getD j []) (q.getD i []).length))
  (cr:Pure Tryz.prog 46 [bt v,aX kq,dI (ao kq)] (.tu [AI (aV v kq),aP])):
  Pure Tryz.prog 40 [bt v,aX q,.ag [bT rn,bT cn,aX kq]] (.tu [dB (wx v q rn cn kq),aP]):=by
 refine qJ 142 Tryz.func40 rfl rfl rfl rfl (by kernel_rfl) (fun B F0 w0=>?_);have cs:=gX V ld sd;have cst:=fun i j (hi:i<q.length) (hj:j<kq.length)=>gX V (lt i j hi hj) (st i j hi hj);have hml:=dS q rn cn
 have hmt: ∀i,i<rn.length→(aJ q rn cn).take (i+1)=(aJ q rn cn).take i++[cn.map fun k=>aS q (rn.getD i 0) k]:=fun i hi=>by
  rw[pb (d:=[]) (by omega),mh q rn cn hi]
 have hma:(aJ q rn cn).take rn.length=aJ q rn cn:=List.take_of_length_le (by omega);have hzl: ∀r,(cn.map fun k=>aS q r k).length=cn.length:=fun r=>ae ..
 have hzt: ∀r k,k<cn.length→(cn.map fun k=>aS q r k).take (k+1)=(cn.map fun k=>aS q r k).take k++[(q.getD r []).getD (cn.getD k 0) []]:=fun r k hk=>by
  rw[pb (d:=[]) (by rw[hzl];exact hk)]
  congr 2
  rw[aE,List.getElem?_map,aE (l:=cn),a8 hk];rfl
 have hza: ∀r,(cn.map fun k=>aS q r k).take cn.length=cn.map fun k=>aS q r k:=fun r=>List.take_of_length_le (by rw[hzl];exact ak _);unfold wx;clear ld sd lt st;generalize jk v (aJ q rn cn)=d at *;generalize aJ q rn cn=mm at *;generalize hzz:(fun r=>cn.map fun k=>aS q r k)=zz at *;have hz1: ∀r,(cn.map fun k=>aS q r k)=zz r:=fun r=>by rw[← hzz]
 simp only[hz1] at hmt hzl hzt hza;clear hzz hz1;obtain ⟨Z,hZ⟩: ∃Z,jz (uN v q kq) (kq.length-0) 0=Z:=⟨_,rfl⟩;rw[show xg v q kq=Z from hZ];generalize aV v kq=s at *;obtain ⟨srows,scols,ssg,sdet⟩:=s;change Pure _ _ _ (.tu [.ag [aX srows,bT scols,dI ssg,ah sdet],aP]) at cr
 dsimp only
 refine qX 4 rfl ?_;refine qI (qX 2 rfl ?_);refine ab.call tok rfl rfl rfl rfl cc ?_;refine qU 1 rfl ?_;refine qK 1 rfl ?_;refine ab.err tok rfl rfl rfl rfl rfl ?_;refine ab.nil ?_;refine AW.aA rfl ?_
 · skip
   refine AW.skip (AW.seq ?_);refine qX 3 rfl ?_;refine ab.call tok rfl rfl rfl rfl ce ?_;refine qU 1 rfl ?_;refine qK 1 rfl ?_;refine ab.err tok rfl rfl rfl rfl rfl ?_;refine ab.nil ?_;refine AW.aA rfl ?_
   · skip
     refine AW.skip (AW.seq (AW.seq ?_));refine AW.draw aQ 10 (by kernel_rfl) ?_;refine qP 3 rfl ?_;rw[ae];refine qP 1 rfl ?_;refine af.call tok rfl rfl rfl rfl rfl (bP q) ?_;refine qP 3 rfl ?_;rw[ae];refine qP 1 rfl ?_;rw[aF (x:=(ao q:Int) -cn.length) (by omega) (by omega)];refine qP 1 rfl ?_;refine af.nil ?_;refine ab.nil ?_;refine AW.cond rfl (fun h=>?_) (fun h=>?_)
     · rw[if_pos (show (kq.length:Int)≠(ao q:Int) -cn.length from bne_iff_ne.1 h)];refine qX 2 rfl ?_;exact qN rfl
     · have hk0:(kq.length:Int)=(ao q:Int) -cn.length:=bne_eq_false_iff_eq.1 h;rw[if_neg (fun g=>g hk0)];refine AW.skip (qX 1 rfl ?_);refine qI (qX 3 rfl ?_);rw[ae];refine qU 1 rfl ?_;refine ab.nil ?_;refine AW.block ?_;refine AW.aG [1,3,5,10,49,50,51] (fun i:Nat=>[(1,.d (aX q)),(3,.bx [.sl 1 (v.map ah)]),(5,.bx [bT rn,bT cn,aX kq]),(10,.ow 22 ((mm.take i).map bW)),(49,.d (bT rn)),(50,.d (dI rn.length)),(51,.d (dI i))]) (fun i=>i≤rn.length) (fun i=>rn.length-i) 0 rfl (Nat.zero_le _) (fun i hi=>?_)
       · show AW _ _ _ _ _ _ _ [(1,.d (aX q)),(3,.bx [.sl 1 (v.map ah)]),(5,.bx [bT rn,bT cn,aX kq]),(10,.ow 22 ((mm.take i).map bW)),(49,.d (bT rn)),(50,.d (dI rn.length)),(51,.d (dI i))];refine qX 1 rfl ?_;refine qI ?_;refine AW.cond rfl (fun h=>?_) (fun h=>?_)
         · have hii:i<rn.length:=by have:=aq h;omega
           have g1:=oX (l:=rn) (i:=i) hii;have hmt:=hmt i hii;have hrn:=hrn i hii;generalize rn.getD i 0=r at g1 hmt hrn;have hzl:=hzl r;have hzt:=hzt r;have hza:=hza r;have hq1:=getM bW (l:=q) (i:=r) hrn;have hq2:=hqr r hrn;generalize zz r=z at *;generalize q.getD r []=row at hzt hq1 hq2;refine AW.skip (AW.seq (AW.block (AW.seq (AW.region ?_))));refine ab.idx tok (dI r) rfl rfl rfl rfl (aj i) g1 ?_;refine qU 2 rfl ?_;refine qK 1 rfl ?_;refine qI (qX 3 rfl ?_);rw[ae];refine qU 1 rfl ?_;refine ab.nil ?_;refine AW.block ?_;refine AW.aG [1,3,5,10,12,13,49,50,51,56,57,58] (fun k:Nat=>[(1,.d (aX q)),(3,.bx [.sl 1 (v.map ah)]),(5,.bx [bT rn,bT cn,aX kq]),(10,.ow 22 ((mm.take i).map bW)),(12,.d (dI r)),(13,.ow 53 ((z.take k).map ah)),(49,.d (bT rn)),(50,.d (dI rn.length)),(51,.d (dI i)),(56,.d (bT cn)),(57,.d (dI cn.length)),(58,.d (dI k))]) (fun k=>k≤cn.length) (fun k=>cn.length-k) 0 rfl (Nat.zero_le _) (fun k hk=>?_)
           · show AW _ _ _ _ _ _ _ [(1,.d (aX q)),(3,.bx [.sl 1 (v.map ah)]),(5,.bx [bT rn,bT cn,aX kq]),(10,.ow 22 ((mm.take i).map bW)),(12,.d (dI r)),(13,.ow 53 ((z.take k).map ah)),(49,.d (bT rn)),(50,.d (dI rn.length)),(51,.d (dI i)),(56,.d (bT cn)),(57,.d (dI cn.length)),(58,.d (dI k))];refine qX 1 rfl ?_;refine qI ?_;refine AW.cond rfl (fun h=>?_) (fun h=>?_)
             · have hkk:k<cn.length:=by have:=aq h;omega
               have g2:=oX (l:=cn) (i:=k) hkk;have hzt:=hzt k hkk;have hcn:=hcn k hkk;generalize cn.getD k 0=c at g2 hzt hcn;have hq3:=getM ah (l:=row) (i:=c) (by omega);generalize row.getD c []=x at hzt hq3;refine AW.skip (AW.seq (AW.block (AW.seq (AW.region ?_))));refine ab.idx tok (dI c) rfl rfl rfl rfl (aj k) g2 ?_;refine qU 2 rfl ?_;refine ab.nil ?_;refine qT 3 rfl ?_;refine ab.idx tok (bW row) rfl rfl rfl rfl (aj r) hq1 ?_;refine qU 2 rfl ?_;refine ab.idx tok (ah x) rfl rfl rfl rfl (aj c) hq3 ?_;refine qU 1 rfl ?_;refine ab.fj tok rfl rfl rfl rfl rfl ?_;refine ab.gv tok rfl rfl rfl rfl rfl rfl (by rw[ae,aT];show (_+1)*24≤_;omega) (by rw[ae,aT];show _+1≤_;omega) ?_;refine qU 1 rfl ?_;refine ab.nil ?_;refine qT 1 rfl ?_;rw[aF (x:=(k:Int)+1) (by omega) (by omega)];refine qU 1 rfl ?_;refine ab.nil ?_;exact⟨k+1,by rw[hzt,List.map_append];rfl,hkk,by omega⟩
             have hkk:k=cn.length:=by have:=au h;omega
             subst hkk;rw[hza];refine AW.exit (AW.region ?_);refine ab.fT tok 13 rfl rfl ?_;refine qU 2 rfl ?_;refine ab.fj tok rfl rfl rfl rfl rfl ?_;refine ab.gv tok rfl rfl rfl rfl rfl rfl (by rw[ae,aT];show (_+1)*24≤_;omega) (by rw[ae,aT];show _+1≤_;omega) ?_;refine qU 1 rfl ?_;refine ab.nil ?_;refine qT 1 rfl ?_;rw[aF (x:=(i:Int)+1) (by omega) (by omega)];refine qU 1 rfl ?_;refine ab.nil ?_;exact⟨i+1,by rw[hmt,List.map_append];rfl,hii,by omega⟩
         have hii:i=rn.length:=by have:=au h;omega
         subst hii;rw[hma];refine AW.exit (AW.seq (AW.region ?_));refine ab.fT tok 10 rfl rfl ?_;refine qU 2 rfl ?_;refine ab.call tok rfl rfl rfl rfl cd ?_;refine qU 5 rfl ?_;refine qI (qX 1 rfl ?_);refine ab.err tok rfl rfl rfl rfl rfl ?_;refine qU 3 rfl ?_;refine ab.call tok rfl rfl rfl rfl cs ?_;refine qU 2 rfl ?_;refine ab.nil ?_;refine AW.cond rfl (fun h=>?_) (fun h=>?_)
         · rw[if_pos (show fi v d=0 from beq_iff_eq.1 h)];refine qX 3 rfl ?_;exact qN rfl
         · rw[if_neg (show ¬fi v d=0 from beq_eq_false_iff_ne.1 h)];refine AW.skip (AW.seq ?_);refine qX 3 rfl ?_;rw[ae];refine qU 1 rfl ?_;refine ab.nil ?_;refine AW.block ?_;refine AW.aG [1,3,5,94,95,96] (fun j:Nat=>[(1,.d (aX q)),(3,.bx [.sl 1 (v.map ah)]),(5,.bx [bT rn,bT cn,aX kq]),(94,.d (aX kq)),(95,.d (dI kq.length)),(96,.d (dI j))]) (fun j=>j≤kq.length∧jz (uN v q kq) (kq.length-j) j=Z) (fun j=>kq.length-j) 0 rfl ⟨Nat.zero_le _,hZ⟩ (fun j ⟨hj,hjZ⟩=>?_)
           · show AW _ _ _ _ _ _ _ [(1,.d (aX q)),(3,.bx [.sl 1 (v.map ah)]),(5,.bx [bT rn,bT cn,aX kq]),(94,.d (aX kq)),(95,.d (dI kq.length)),(96,.d (dI j))];refine qX 1 rfl ?_;refine qI ?_;refine AW.cond rfl (fun h=>?_) (fun h=>?_)
             · have hjj:j<kq.length:=by have:=aq h;omega
               have g1:=getM bW (l:=kq) (i:=j) hjj;have hat:=(mB (g:=uN v q kq) hjj).symm.trans hjZ;obtain ⟨Y,hY⟩: ∃Y,jz (fun i=>decide (fi v (eD v (q.getD i []) (kq.getD j []) (q.getD i []).length)=0)) (q.length-0) 0=Y:=⟨_,rfl⟩;rw[show uN v q kq j=Y from hY] at hat;have ct:=fun i hi=>ct i j hi hjj;have cst:=fun i hi=>cst i j hi hjj;change (kq.map bW)[j]?=some (bW (kq.getD j [])) at g1;generalize kq.getD j []=w at g1 hY ct cst;refine AW.skip (AW.seq (AW.block (AW.seq (AW.region ?_))));refine ab.idx tok (bW w) rfl rfl rfl rfl (aj j) g1 ?_;refine qU 2 rfl ?_;refine qK 2 rfl ?_;rw[ae];refine qU 1 rfl ?_;refine ab.nil ?_;refine AW.block ?_;refine AW.aG [1,3,5,19,94,95,96,100,101,102] (fun i:Nat=>[(1,.d (aX q)),(3,.bx [.sl 1 (v.map ah)]),(5,.bx [bT rn,bT cn,aX kq]),(19,.d (bW w)),(94,.d (aX kq)),(95,.d (dI kq.length)),(96,.d (dI j)),(100,.d (aX q)),(101,.d (dI q.length)),(102,.d (dI i))]) (fun i=>i≤q.length∧jz (fun i=>decide (fi v (eD v (q.getD i []) w (q.getD i []).length)=0)) (q.length-i) i=Y) (fun i=>q.length-i) 0 rfl ⟨Nat.zero_le _,hY⟩ (fun i ⟨hi,hiY⟩=>?_)
               · show AW _ _ _ _ _ _ _ [(1,.d (aX q)),(3,.bx [.sl 1 (v.map ah)]),(5,.bx [bT rn,bT cn,aX kq]),(19,.d (bW w)),(94,.d (aX kq)),(95,.d (dI kq.length)),(96,.d (dI j)),(100,.d (aX q)),(101,.d (dI q.length)),(102,.d (dI i))];refine qX 1 rfl ?_;refine qI ?_;refine AW.cond rfl (fun h=>?_) (fun h=>?_)
                 · have hii:i<q.length:=by have:=aq h;omega
                   have g2:=getM bW (l:=q) (i:=i) hii;have hai:=(mB (g:=fun i=>decide (fi v (eD v (q.getD i []) w (q.getD i []).length)=0)) hii).symm.trans hiY;have ct:=ct i hii;have cst:=cst i hii;change (q.map bW)[i]?=some (bW (q.getD i [])) at g2;generalize eD v (q.getD i []) w (q.getD i []).length=x at hai ct cst;generalize q.getD i []=row at g2 ct;generalize fi v x=z at hai cst;refine AW.skip (AW.seq (AW.block (AW.seq (AW.region ?_))));refine ab.idx tok (bW row) rfl rfl rfl rfl (aj i) g2 ?_;refine qU 2 rfl ?_;refine qK 3 rfl ?_;refine ab.call tok rfl rfl rfl rfl ct ?_;refine qU 5 rfl ?_;refine qK 1 rfl ?_;refine ab.err tok rfl rfl rfl rfl rfl ?_;refine qU 3 rfl ?_;refine ab.call tok rfl rfl rfl rfl cst ?_;refine qU 2 rfl ?_;refine ab.nil ?_;refine AW.cond rfl (fun h=>?_) (fun h=>?_)
                   · rw[aO (show ¬z=0 from bne_iff_ne.1 h),Bool.false_and] at hai;rw[← hai,Bool.false_and] at hat;rw[if_pos hat.symm];refine qX 3 rfl ?_;exact qN rfl
                   · rw[aN (show z=0 from bne_eq_false_iff_eq.1 h),Bool.true_and] at hai;refine AW.skip (qT 1 rfl ?_);rw[aF (x:=(i:Int)+1) (by omega) (by omega)];refine qU 1 rfl ?_;refine ab.nil ?_;exact⟨i+1,rfl,⟨hii,hai⟩,by omega⟩
                 have hii: ¬i<q.length:=by have:=au h;omega
                 rw[lT hii] at hiY;rw[← hiY,Bool.true_and] at hat;refine AW.exit ?_;refine qT 1 rfl ?_;rw[aF (x:=(j:Int)+1) (by omega) (by omega)];refine qU 1 rfl ?_;refine ab.nil ?_;exact⟨j+1,rfl,⟨hjj,hat⟩,by omega⟩
             have hjj: ¬j<kq.length:=by have:=au h;omega
             rw[lT hjj] at hjZ;rw[if_neg (by rw[← hjZ];simp)];refine AW.exit (AW.seq ?_);refine AW.mO tok aQ [(9,true),(1,false),(1,true)] 11 [24] (by kernel_rfl) ⟨rfl,?_⟩;refine qP 5 rfl ?_;refine af.call tok rfl rfl rfl rfl rfl (bP kq) ?_;refine af.call tok rfl rfl rfl rfl rfl cr ?_;refine qP 2 rfl ?_;refine af.nil ⟨rfl,?_⟩;refine qP 1 rfl ?_;refine af.nil ⟨rfl,?_⟩;refine qP 1 rfl ?_;refine af.nil ⟨_,oB.cons (.bx rfl) (oB.nil),?_⟩;refine qU 1 rfl ?_;refine qK 3 rfl ?_;rw[ae];refine qU 3 rfl ?_;rw[ae];refine qU 1 rfl ?_;rw[show ((scols.length:Int)==(kq.length:Int))=decide ((scols.length:Int)=kq.length) by by_cases g:(scols.length:Int)=kq.length<;>simp[g]];refine qU 3 rfl ?_;exact qN rfl
end Lift
namespace Lift
open Go Go.Proofs
theorem EI{l:List Int}{n:Nat}(h:bA l n=true):IvD l=bT (l.map Int.toNat)∧ ∀i,i<(l.map Int.toNat).length→(l.map Int.toNat).getD i 0<n:=by
 unfold bA at h
 have hx: ∀x∈l,0≤x∧x<n:=fun x hx=>by
  have g:=List.all_eq_true.1 h x hx;rw[Bool.and_eq_true] at g;exact⟨aq g.1,aq g.2⟩
 refine⟨?_,fun i hi=>?_⟩
 · show D.sl 1 (l.map fun n=>dI n)=D.sl 1 ((l.map Int.toNat).map fun n:Nat=>dI n);rw[List.map_map]
   congr 1
   refine List.map_congr_left fun x h1=>?_;show dI x=dI ((x.toNat:Nat):Int);rw[Int.toNat_of_nonneg (hx x h1).1]
 · rw[ae] at hi;rw[aE,List.getElem?_map,a8 hi];show (l[i]).toNat<n;have:=hx _ (List.getElem_mem hi);omega
theorem CX{l:List Int}{n:Nat}(h:bA l n=true)(ha:jM l=true):l.length≤n:=by
 have hx: ∀i,i<l.length→0≤l.getD i 0∧l.getD i 0<n:=fun i hi=>by
  have g:=List.all_eq_true.1 h _ (List.getElem_mem hi);rw[Bool.and_eq_true] at g;rw[aE,a8 hi];exact⟨aq g.1,aq g.2⟩
 have up: ∀i,i<l.length→(i:Int)≤l.getD i 0:=fun i=>by
  induction i with
  | zero=>intro hi;exact(hx 0 hi).1
  | succ i ih =>
    intro hi;have g:=rp ha (i+1) (Nat.zero_le _) (by omega);unfold DG at g;rw[aN (show 0<i+1 by omega),Bool.true_and,Bool.not_eq_true'] at g;have:=au g;rw[Nat.add_sub_cancel] at this;have:=ih (by omega);omega
 by_cases h0:l.length=0
 · omega
 · have h1:=up (l.length-1) (by omega);have h2:=(hx (l.length-1) (by omega)).2;omega
theorem G0{rt:List (List RD)}{ker:List (List (List RD))}{c:Nat}(M:DF 2 rt ker)(hl: ∀i,i<ker.length→(ker.getD i []).length=c)(he: ∀i,i<ker.length→ ∀k,k<(ker.getD i []).length→bL rt.length ((ker.getD i []).getD k [])=0)(hc:c≤4)(k4:ker.length≤4):
  rq (rt.map bb) (b9 ker)∧il 2 (b9 ker)∧MxR ker=aX (b9 ker)∧(0<ker.length→ao (b9 ker)=c)∧ao (b9 ker)≤4:=by
 have rw1:=fun i (hi:i<ker.length)=>Cp (M.n i) (he i hi);have hcc:0<ker.length→ao (b9 ker)=c:=fun h=>by rw[jW];exact hl 0 h
 have hc4:ao (b9 ker)≤4:=by
  by_cases h:0<ker.length
  · rw[hcc h];exact hc
  · rw[jW];unfold ao;rw[aE,List.getElem?_eq_none (by omega)];exact Nat.zero_le _
 have el: ∀i k,aC rt.length (aS (b9 ker) i k)∧ay 2 (aS (b9 ker) i k):=fun i k=>by
  by_cases hi:i<ker.length
  · have:=rw1 i hi;unfold aS;rw[nC];exact⟨this.2.1 k,this.2.2 k⟩
  · unfold aS;rw[gk (by rw[gd];omega)];exact⟨bm _,bn (by decide)⟩
 refine⟨⟨by rw[gd];omega,fun j hj=>?_,by omega,fun i k=>by rw[ae];exact(el i k).1⟩,fun i k=>(el i k).2,?_,hcc,hc4⟩
 · rw[gd] at hj;rw[nC,ae,hcc (by omega)];exact hl j hj
 · show D.sl 1 (ker.map kn)=D.sl 1 ((b9 ker).map bW);unfold b9;rw[List.map_map]
   congr 1
   refine List.map_congr_left fun r hr=>?_;obtain ⟨k,hk,e⟩:=List.getElem_of_mem hr;have:=(rw1 k hk).1;rw[aE,a8 hk] at this;rw[← e];exact this
theorem DC{l:Nat}{q:a6}{rows cols:List Int}{ker:List (List (List RD))}(h:o6 l q rows cols ker=0):rows.length=cols.length∧bA rows q.length=true∧bA cols (ao q)=true∧jM rows=true∧jM cols=true∧(∀i,i<ker.length→(ker.getD i []).length=ao q∧ ∀k,k<(ker.getD i []).length→bL l ((ker.getD i []).getD k [])=0)∧ker.length≤32:=by
 unfold o6 at h;by_cases h1:rows.length≠cols.length
 · rw[if_pos h1] at h;cases h
 rw[if_neg h1] at h;by_cases h2:(!bA rows q.length|| !bA cols (ao q))=true
 · rw[if_pos h2] at h;cases h
 rw[if_neg h2] at h;by_cases h3:(!jM rows|| !jM cols)=true
 · rw[if_pos h3] at h;cases h
 rw[if_neg h3] at h;by_cases h4:fE (fun i=>tK l q (ker.getD i [])) (ker.length-0) 0≠0
 · rw[if_pos h4] at h;exact absurd h h4
 rw[if_neg h4] at h;by_cases h5:32<ker.length
 · rw[if_pos h5] at h;cases h
 simp at h2 h3;have h4':fE (fun i=>tK l q (ker.getD i [])) (ker.length-0) 0=0:=Classical.byContradiction h4;refine⟨by omega,h2.1,h2.2,h3.1,h3.2,fun i hi=>?_,by omega⟩;have g:tK l q (ker.getD i [])=0:=sv h4' i (Nat.zero_le _) (by omega);unfold tK at g;by_cases h6:(ker.getD i []).length≠ao q
 · rw[if_pos h6] at g;cases g
 rw[if_neg h6] at g;exact⟨by omega,fun k hk=>sv g k (Nat.zero_le _) (by omega)⟩
theorem FX{v:List NQ}{q kq:a6}{rn cn:List Nat}(h:wx v q rn cn kq=true):(kq.length:Int)=(ao q:Int) -cn.length∧fi v (jk v (aJ q rn cn))≠0∧(∀i j,i<q.length→j<kq.length→fi v (eD v (q.getD i []) (kq.getD j []) (q.getD i []).length)=0)∧(aV v kq).cols.length=kq.length:=by
 unfold wx at h;by_cases h1:(kq.length:Int)≠(ao q:Int) -cn.length
 · rw[if_pos h1] at h;cases h
 rw[if_neg h1] at h;by_cases h2:fi v (jk v (aJ q rn cn))=0
 · rw[if_pos h2] at h;cases h
 rw[if_neg h2] at h;by_cases h3:xg v q kq=false
 · rw[if_pos h3] at h;cases h
 rw[if_neg h3] at h;have h4:=aq h;refine⟨by omega,h2,fun i j hi hj=>?_,by omega⟩;have g:xg v q kq=true:=by simpa using h3
 have g1:=rp g j (Nat.zero_le _) (by omega);exact aq (rp g1 i (Nat.zero_le _) (by omega))
theorem Lo.cE{v:List NQ}{a:a6}{k:Nat}(L:Lo v)(hr:bk a.length a)(lt:jC v.length a)(hs:il k a)(hg:gI k a.length≤100000000000):aC v.length (jk v a)∧ay (gI k a.length) (jk v a):=by
 have R:=L.red hr lt hs (n:=a.length) hg;have D:=(cY L.V.a hr lt a.length).cE;have sD:=R.2.2.1 _ (ak a.length);unfold jk;split
 · exact⟨bm _,bn sD.pos⟩
 · split
   · exact ug D sD
   · exact⟨D,sD⟩
theorem AH{v:List NQ}{q kq:a6}{rn cn:List Nat}(L:Lo v)(G:rq v q)(hs2:il 2 q)(hl4:q.length≤4)(hc4:ao q≤4)(Gk:rq v kq)(sk:il 2 kq)(hk4:kq.length≤4)(hkc4:ao kq≤4)(hkc:0<kq.length→ao kq=ao q)(h4:rn.length≤4)(hsq:cn.length=rn.length)(hrn: ∀i,i<rn.length→rn.getD i 0<q.length)(hcn: ∀k,k<cn.length→cn.getD k 0<ao q)
  (ce:Pure Tryz.prog 80 [bt v,aX q,.ag [bT rn,bT cn,aX kq]] aP):Pure Tryz.prog 40 [bt v,aX q,.ag [bT rn,bT cn,aX kq]] (.tu [dB (wx v q rn cn kq),aP])∧(wx v q rn cn kq=true→(aV v q).cols.length=rn.length):=by
 have ml:=dS q rn cn;have mr:bk (aJ q rn cn).length (aJ q rn cn):=by rw[ml,← hsq];exact gJ q rn cn
 have mt:jC v.length (aJ q rn cn):=fD (p:=aC v.length) (bm _) G.lt rn cn;have ms:il 2 (aJ q rn cn):=fD (p:=ay 2) (bn (by decide)) hs2 rn cn;have mg:gI 2 (aJ q rn cn).length≤100000000000:=kN (by omega);have D:=L.cE mr mt ms mg;have dt:=fun i j (hi:i<q.length)=>L.dot (xs:=q.getD i []) (ys:=kq.getD j []) (G.lt i) (Gk.lt j) (hs2 i) (sk j) (n:=(q.getD i []).length) (by rw[G.r i hi];omega) (by decide)
 refine⟨kK L.V.a (oy L G hs2) ce (by omega) (by omega) G.r (by omega) (by omega) (by omega) hrn hcn (yO L (by omega) mr mt ms mg) D.1 (L.sg D.1 D.2 (by omega))
  (fun i j hi hj=>oR L.V.a (G.lt i) (Gk.lt j) (by rw[G.r i hi,Gk.r j hj,hkc (by omega)];exact ak _) (by rw[G.r i hi];omega) (dt i j hi).1)
  (fun i j hi hj=>gl L.V.a (G.lt i) (Gk.lt j) _)
  (fun i j hi hj=>L.sg (gl L.V.a (G.lt i) (Gk.lt j) _) (dt i j hi).2 (by
   rw[G.r i hi];have:ao q*(2*(2+2)+4)≤4*(2*(2+2)+4):=Nat.mul_le_mul hc4 (ak _)
   omega))
  (eg L.V.a (most:=ao kq) (by omega) (by omega) (ak _) Gk.r Gk.lt (L.red Gk.r Gk.lt sk (kN (by omega))).1),fun hacc=>?_⟩
 obtain ⟨e1,e2,e3,e4⟩:=FX hacc;have b1:=BB L.V G hsq hrn hcn e2
 have b2:(aV v q).cols.length+kq.length≤ao q:=by
  by_cases h:0<kq.length
  · exact EX L.V G Gk (hkc h) e3 e4
  · have:=(n7 L.V.a G).2;omega
 omega
end Lift
namespace Lift
open Go Go.Proofs
theorem IC{v:List NQ}(L:Lo v){a:a6}(hr:bk a.length a)(hl:jC v.length a)(hs:il 2 a)(h5:a.length≤5):aC v.length (DI v a)∧ay (gI 2 a.length) (DI v a):=by
 have g:=kN h5;unfold DI;cases h:wU v a a.length with
 | none=>exact⟨bm _,bn (Nat.le_trans (Nat.le_trans (by decide) (ak 2)) (dN (Nat.zero_le _)))⟩
 | some x =>
   obtain ⟨m,d⟩:=x;exact⟨(Av L.V.a hr hl a.length m d (ak _) h).d,(L.dt hr hl hs a.length m d (ak _) g h).2⟩
end Lift
namespace Lift
section
variable {m0:Nat} {v:List NQ} (V:j5 m0 v) {q:a6} (Gq:rq v q)
include V Gq
theorem Dd:fi v (jk v (aJ q (aB v (bu q) q.length).cols (aV v q).cols))≠0:=by
 obtain ⟨F⟩:=qR V;have hrr:=(lz V Gq).2;have I1:=gn V.a F Gq.r Gq.lt (ao q) (ak _);have IT:=gn V.a F (fm q) (jb Gq.lt) q.length (ak _);have lr:=jI v (bu q) q.length;change RI q.length (ao q) (ao q) (vM F q) (vM F (aV v q).rows) (aV v q).cols at I1;have hI:=I1.lt;have hindep:=I1.indep;generalize (aV v q).cols=cn at *;have hTby:=fun {k:Nat} (hk:k<q.length) {i:Nat} (hi:i<(bu q).length)=>IT.by hk hi;generalize vM F (aB v (bu q) q.length).rows=MT at *;generalize (aB v (bu q) q.length).cols=rn at *;have hml:=dS q rn cn;have rm:bk (aJ q rn cn).length (aJ q rn cn):=by rw[hml,hrr];exact gJ q rn cn
 have lm:jC v.length (aJ q rn cn):=fD (p:=aC v.length) (bm _) Gq.lt rn cn;have I2:=gn V.a F rm lm (aJ q rn cn).length (ak _);have nz:=Ei V.a F rm lm (aJ q rn cn).length (ak _);have RO:=cY V.a rm lm (aJ q rn cn).length;intro hd
 have hlt:(aB v (aJ q rn cn) (aJ q rn cn).length).cols.length<(aJ q rn cn).length:=Classical.byContradiction fun g=>by
  unfold jk at hd;rw[if_neg g] at hd;split at hd
  · have:=(F.sg (show aC v.length (ju _) from bf RO.cE.minus)).1 hd;rw[F.neg RO.cE] at this;exact nz (by rw[← Rg.neg_neg (F.val (aB v (aJ q rn cn) (aJ q rn cn).length).cE),this];exact Rg.neg_zero)
  · exact nz ((F.sg RO.cE).1 hd)
 obtain ⟨L,R,hf⟩:=I2.I7.2 (ak _);rw[hml] at hlt hf;obtain ⟨y,⟨k0,hk0,hy0⟩,hy⟩:=rB _ rn.length R hlt
 have hel: ∀i k,i<rn.length→k<rn.length→vM F (aJ q rn cn) i k=vM F q (rn.getD i 0) (cn.getD k 0):=fun i k hi hk=>by
  show F.val (aS (aJ q rn cn) i k)=_;rw[rT q rn cn hi (by omega)];rfl
 have h1: ∀i,i<rn.length→sm rn.length (fun k=>vM F q (rn.getD i 0) (cn.getD k 0)*y k)=0:=fun i hi=>by
  rw[show sm rn.length (fun k=>vM F q (rn.getD i 0) (cn.getD k 0)*y k)=sm rn.length (fun k=>sm _ (fun p=>L i p*(R p k*y k))) from bN fun k hk=>by
   rw[← hel i k hi hk,hf i k (by omega) (by omega),← nY]
   exact bN fun p _=>Rg.mul_assoc _ _ _,nZ]
  exact gh fun p hp=>by rw[l6,hy p hp,Rg.mul_zero]
 refine hy0 (hindep y (fun j hj=>?_) k0 (by omega));rw[← hrr];have hcn: ∀k,k<rn.length→cn.getD k 0<(bu q).length:=fun k hk=>by rw[fL];exact hI k (by omega)
 have hT: ∀c i,c<(bu q).length→vM F (bu q) c i=vM F q i c:=fun c i hc=>by
  rw[fL] at hc;show F.val (aS (bu q) c i)=_;rw[p7 q hc];rfl
 rw[show sm rn.length (fun k=>vM F q j (cn.getD k 0)*y k)=sm rn.length (fun k=>sm rn.length (fun p=>MT p j*(vM F q (rn.getD p 0) (cn.getD k 0)*y k))) from bN fun k hk=>by
  rw[← hT _ j (hcn k hk),hTby hj (hcn k hk),← nY];refine bN fun p hp=>?_;rw[hT _ _ (hcn k hk)];generalize vM F q (rn.getD p 0) (cn.getD k 0)=a
  exact Rg.fW [a,MT p j,y k] (X0*X1*X2) (X1*(X0*X2)) rfl,nZ]
 exact gh fun p hp=>by rw[l6,h1 p hp,Rg.mul_zero]
end
theorem vK{v:List NQ}(F:FV v){s:im}{N c:Nat}(hc:c<N)(lt:jC v.length s.rows)(hn: ∀p,p<s.cols.length→s.cols.getD p 0<N∧s.cols.getD p 0≠c)(asc: ∀p p',p<p'→p'<s.cols.length→s.cols.getD p 0<s.cols.getD p' 0): ∀n,n≤s.cols.length→ ∀k,k<N→F.val ((iu s N c n).getD k [])=(if k=c then 1 else 0)+sm n (fun p=>if k=s.cols.getD p 0 then -vM F s.rows p c else 0)
 | 0,_,k,hk=>by
   show F.val (((List.replicate N ([]:NQ)).set c [1]).getD k [])=_+0;rw[aE,List.getElem?_set];by_cases e:c=k
   · rw[if_pos e,if_pos (by rw[List.length_replicate];omega),if_pos e.symm];show F.val [1]=_;rw[F.one];exact Rg.fW [(1:F.K.T)] (X0) (X0+0) rfl
   · rw[if_neg e,if_neg (fun h=>e h.symm),List.getElem?_replicate,if_pos hk];show F.val []=_;rw[F.nil];exact Rg.fW [(1:F.K.T)] 0 (0+0) rfl
 | n+1,hn1,k,hk=>by
   have ih:=vK F hc lt hn asc n (by omega) k hk;show F.val (((iu s N c n).set (s.cols.getD n 0) (ju (aS s.rows n c))).getD k [])=(if k=c then 1 else 0)+(sm n (fun p=>if k=s.cols.getD p 0 then -vM F s.rows p c else 0)+(if k=s.cols.getD n 0 then -vM F s.rows n c else 0));have hl:=nH s N c n;rw[aE,List.getElem?_set];obtain ⟨h1,h2⟩:=hn n (by omega);by_cases e:s.cols.getD n 0=k
   · rw[if_pos e,if_pos (by omega),if_pos e.symm,if_neg (fun h=>h2 (e.trans h)),gh (fun p hp=>if_neg (fun h=>by have:=asc p n hp (by omega);omega))];show F.val (ju (aS s.rows n c))=_;rw[F.neg (lt n c)];show -vM F s.rows n c=_;generalize vM F s.rows n c=x;exact Rg.fW [x] (-X0) (0+(0+ -X0)) rfl
   · rw[if_neg e,← aE,ih,if_neg (show ¬k=s.cols.getD n 0 from fun h=>e h.symm)];generalize sm n _=x;generalize (if k=c then (1:F.K.T) else 0)=z;exact Rg.fW [z,x] (X0+X1) (X0+(X1+0)) rfl
theorem yD{p:NQ→Prop}(h0:p [])(h1:p [1]){s:im}{n c:Nat}(h: ∀r,p (ju (aS s.rows r c))): ∀r i,p ((iu s n c r).getD i [])
 | 0,i=>by
   unfold iu;rw[aE,List.getElem?_set];split
   · split
     · exact h1
     · exact h0
   · rw[List.getElem?_replicate];split
     · exact h0
     · exact h0
 | r+1,i=>by
   unfold iu;rw[aE,List.getElem?_set];split
   · split
     · exact h r
     · exact h0
   · rw[← aE];exact yD h0 h1 h r i
theorem vL{v:List NQ}{q:a6}{j:Nat}(hj:j<(bJ v q).length): ∃c,(fH v q (ao q))[j]?=some c∧c<ao q∧(∀p,p<(aV v q).cols.length→(aV v q).cols.getD p 0≠c)∧(bJ v q).getD j []=iu (aV v q) (ao q) c (aV v q).cols.length:=by
 unfold bJ at hj ⊢;rw[ae] at hj;refine⟨(fH v q (ao q))[j],a8 hj,Fb v q (ao q) _ (List.getElem_mem hj),fun p hp e=>?_,?_⟩
 · have h:=(List.mem_filter.1 (show (fH v q (ao q))[j]∈(List.range (ao q)).filter fun i=> !(aB v q (ao q)).cols.contains i from List.getElem_mem hj)).2
   have hm:(fH v q (ao q))[j]∈(aB v q (ao q)).cols:=by
    rw[← e,aE,a8 hp];exact List.getElem_mem hp
   rw[List.contains_iff_mem.2 hm] at h;cases h
 · rw[aE,List.getElem?_map,a8 hj];rfl
section
variable {m0:Nat} {v:List NQ} (V:j5 m0 v) {q:a6} (Gq:rq v q)
include V Gq
theorem Dc(i j:Nat)(hi:i<q.length)(hj:j<(bJ v q).length):fi v (eD v (q.getD i []) ((bJ v q).getD j []) (q.getD i []).length)=0:=by
 obtain ⟨F⟩:=qR V;obtain ⟨c,_,hcN,hcn,hrow⟩:=vL hj;have RO:=cY V.a Gq.r Gq.lt (ao q);have I:=gn V.a F Gq.r Gq.lt (ao q) (ak _);change o7 v q.length (ao q) (ao q) (aV v q) at RO;change RI q.length (ao q) (ao q) (vM F q) (vM F (aV v q).rows) (aV v q).cols at I
 have kl: ∀k,aC v.length (((bJ v q).getD j []).getD k []):=fun k=>by
  rw[hrow];exact yD (p:=aC v.length) (bm _) (fh _ _) (fun r=>bf (RO.lt r c).minus) _ k
 refine(F.sg (gl V.a (Gq.lt i) kl _)).2 ?_;rw[v8 V.a F (Gq.lt i) kl,Gq.r i hi,hrow];have hval:=vK F hcN RO.lt (fun p hp=>⟨I.lt p hp,hcn p hp⟩) I.asc (aV v q).cols.length (ak _);refine(I.eqv (fun k=>F.val ((iu (aV v q) (ao q) c (aV v q).cols.length).getD k []))).2 (fun r hr=>?_) i hi;have hrm:=I.rm
 rw[show sm (ao q) (fun k=>vM F (aV v q).rows r k*F.val ((iu (aV v q) (ao q) c (aV v q).cols.length).getD k []))=sm (ao q) (fun k=>vM F (aV v q).rows r k*(if k=c then 1 else 0))+sm (ao q) (fun k=>vM F (aV v q).rows r k*sm (aV v q).cols.length (fun p=>if k=(aV v q).cols.getD p 0 then -vM F (aV v q).rows p c else 0)) from by
  rw[← Bb]
  exact bN fun k hk=>by rw[hval k hk,Rg.mul_add],I.at (vM F (aV v q).rows r) (fun p=> -vM F (aV v q).rows p c),m8 hcN (fun k _ hne=>by rw[if_neg hne,Rg.mul_zero]),if_pos rfl,Rg.mul_one]
 by_cases h:r<(aV v q).cols.length
 · rw[m8 h (fun p hp hne=>by rw[I.piv p r hp hr,if_neg (fun e=>hne e.symm),Rg.zero_mul]),I.piv r r h hr,if_pos rfl,Rg.one_mul];generalize vM F (aV v q).rows r c=x;exact Rg.fW [x] (X0+ -X0) 0 rfl
 · rw[gh (fun p hp=>by rw[I.piv p r hp hr,if_neg (by omega),Rg.zero_mul]),I.zr r c (by omega) hr hcN];exact Rg.fW [(1:F.K.T)] (0+0) 0 rfl
theorem zW:rq v (bJ v q)∧(0<(bJ v q).length→ao (bJ v q)=ao q):=by
 have RO:=cY V.a Gq.r Gq.lt (ao q);change o7 v q.length (ao q) (ao q) (aV v q) at RO
 have hlen:(bJ v q).length+(aV v q).cols.length=ao q:=by
  unfold bJ;rw[ae];exact ou v q (ao q)
 have hcc:=Gq.c
 have hrl: ∀j,j<(bJ v q).length→((bJ v q).getD j []).length=ao q:=fun j hj=>by
  obtain ⟨c,_,_,_,hrow⟩:=vL hj;rw[hrow,nH]
 have hc:0<(bJ v q).length→ao (bJ v q)=ao q:=fun h=>hrl 0 h;refine⟨⟨by omega,fun j hj=>?_,?_,fun j k=>?_⟩,hc⟩
 · rw[hc (by omega)];exact hrl j hj
 · by_cases h:0<(bJ v q).length
   · rw[hc h];exact hcc
   · unfold ao;rw[gk (by omega)];exact Nat.zero_le _
 · unfold aS;by_cases hj:j<(bJ v q).length
   · obtain ⟨c,_,_,_,hrow⟩:=vL hj;rw[hrow];exact yD (p:=aC v.length) (bm _) (fh _ _) (fun r=>bf (RO.lt r c).minus) _ k
   · rw[gk (by omega)];exact bm _
theorem Eu:(aV v (bJ v q)).cols.length=(bJ v q).length:=by
 obtain ⟨F⟩:=qR V;obtain ⟨GK,hcK⟩:=zW V Gq;have hle:=(n7 V.a GK).1;refine Classical.byContradiction fun hne=>?_;have h0:0<(bJ v q).length:=by omega
 have RO:=cY V.a Gq.r Gq.lt (ao q);have I:=gn V.a F Gq.r Gq.lt (ao q) (ak _);change o7 v q.length (ao q) (ao q) (aV v q) at RO;change RI q.length (ao q) (ao q) (vM F q) (vM F (aV v q).rows) (aV v q).cols at I;have IK:=gn V.a F GK.r GK.lt (ao (bJ v q)) (ak _);obtain ⟨L,R,hf⟩:=IK.I7.2 (ak _);change ∀i k,i<(bJ v q).length→k<ao (bJ v q)→vM F (bJ v q) i k=sm (aV v (bJ v q)).cols.length (fun p=>L i p*R p k) at hf;obtain ⟨y,⟨j0,hj0,hy0⟩,hy⟩:=rB (aV v (bJ v q)).cols.length (bJ v q).length (fun p j=>L j p) (by omega);obtain ⟨c0,hf0,hc0,hn0,hr0⟩:=vL hj0
 have hz:sm (bJ v q).length (fun j=>vM F (bJ v q) j c0*y j)=0:=by
  rw[show sm (bJ v q).length (fun j=>vM F (bJ v q) j c0*y j)=sm (bJ v q).length (fun j=>sm (aV v (bJ v q)).cols.length (fun p=>R p c0*(L j p*y j))) from bN fun j hj=>by
   rw[hf j c0 hj (by rw[hcK h0];exact hc0),← nY]
   exact bN fun p _=>Rg.fW [L j p,R p c0,y j] (X0*X1*X2) (X1*(X0*X2)) rfl,nZ]
  exact gh fun p hp=>by rw[l6,hy p hp,Rg.mul_zero]
 have hv: ∀j c,(fH v q (ao q))[j]?=some c→j<(bJ v q).length→c<ao q→(∀p,p<(aV v q).cols.length→(aV v q).cols.getD p 0≠c)→(bJ v q).getD j []=iu (aV v q) (ao q) c (aV v q).cols.length→vM F (bJ v q) j c0=if c0=c then 1 else 0:=fun j c _ _ hc hn hr=>by
  show F.val (((bJ v q).getD j []).getD c0 [])=_;rw[hr,vK F hc RO.lt (fun p hp=>⟨I.lt p hp,hn p hp⟩) I.asc (aV v q).cols.length (ak _) c0 hc0,gh (fun p hp=>if_neg (fun e=>hn0 p hp e.symm))];generalize (if c0=c then (1:F.K.T) else 0)=z;exact Rg.fW [z] (X0+0) X0 rfl
 have hnd:(fH v q (ao q)).Nodup:=List.Pairwise.filter _ List.nodup_range
 rw[m8 hj0 (fun j hj hne=>by
  obtain ⟨c,hfj,hc,hn,hr⟩:=vL hj;rw[hv j c hfj hj hc hn hr,if_neg (fun e=>hne ?_),Rg.zero_mul];obtain ⟨g1,e1⟩:=List.getElem?_eq_some_iff.1 hfj;obtain ⟨g2,e2⟩:=List.getElem?_eq_some_iff.1 hf0
  exact(List.getElem_inj hnd).1 (e1.trans (e.symm.trans e2.symm))),hv j0 c0 hf0 hj0 hc0 hn0 hr0,if_pos rfl,Rg.one_mul] at hz
 exact hy0 hz
end
end Lift
namespace Lift
open Go Go.Proofs
theorem pD{rt:List (List RD)}{a:List (List (List RD))}{e:Nat}(he:e≠0)(cc:Pure Tryz.prog 20 [TrD rt,MxR a] (tR e)):Pure Tryz.prog 41 [TrD rt,MxR a] (.tu [.ag [bT [],bT [],aX []],tR e]):=by
 obtain ⟨m,rfl⟩: ∃m,e=m+1:=⟨e-1,by omega⟩;refine qJ 57 Tryz.func41 rfl rfl rfl rfl (by kernel_rfl) (fun B F0 w0=>?_);refine qX 3 rfl ?_;refine qI (qX 2 rfl ?_);refine ab.call tok rfl rfl rfl rfl cc ?_;refine qU 1 rfl ?_;refine qK 1 rfl ?_;refine ab.err tok rfl rfl rfl rfl rfl ?_;refine ab.nil ?_;refine AW.aL rfl ?_
 · skip
   refine qX 4 rfl ?_;exact qN rfl
theorem qA{v:List NQ}{q K:a6}{rn:List Nat}{s:im}(cc:Pure Tryz.prog 20 [bt v,aX q] aP)(ci:Pure Tryz.prog 49 [bt v,aX q] (.tu [bT rn,aP]))(cr:Pure Tryz.prog 46 [bt v,aX q,dI (ao q)] (.tu [AI s,aP]))(ck:Pure Tryz.prog 48 [bt v,AI s,dI (ao q)] (.tu [aX K,aP])):Pure Tryz.prog 41 [bt v,aX q] (.tu [.ag [bT rn,bT s.cols,aX K],aP]):=by
 refine qJ 57 Tryz.func41 rfl rfl rfl rfl (by kernel_rfl) (fun B F0 w0=>?_);have cols_ok:=bP q;obtain ⟨rows,cols,sg,cE⟩:=s;refine qX 3 rfl ?_;refine qI (qX 2 rfl ?_);refine ab.call tok rfl rfl rfl rfl cc ?_;refine qU 1 rfl ?_;refine qK 1 rfl ?_;refine ab.err tok rfl rfl rfl rfl rfl ?_;refine ab.nil ?_;refine AW.aA rfl ?_
 · skip
   refine AW.skip (qX 2 rfl ?_);refine ab.call tok rfl rfl rfl rfl ci ?_;refine qU 5 rfl ?_;refine qI (qX 1 rfl ?_);refine ab.err tok rfl rfl rfl rfl rfl ?_;refine ab.nil ?_;refine AW.aA rfl ?_
   · skip
     refine AW.skip (AW.seq ?_);refine AW.mO tok aQ [(7,true),(1,false),(1,true)] 9 [9] (by kernel_rfl) ⟨rfl,?_⟩;refine qP 3 rfl ?_;refine af.call tok rfl rfl rfl rfl rfl cols_ok ?_;refine af.call tok rfl rfl rfl rfl rfl cr ?_;refine qP 2 rfl ?_;refine af.nil ⟨rfl,?_⟩;refine qP 1 rfl ?_;refine af.nil ⟨rfl,?_⟩;refine qP 1 rfl ?_;refine af.nil ⟨_,oB.cons (.bx rfl) (oB.nil),?_⟩;refine qU 1 rfl ?_;refine qI (qX 1 rfl ?_);refine ab.err tok rfl rfl rfl rfl rfl ?_;refine ab.nil ?_;refine AW.aA rfl ?_
     · skip
       refine AW.skip (AW.seq ?_);refine AW.draw aQ 9 (by kernel_rfl) ?_;refine qP 3 rfl ?_;refine af.call tok rfl rfl rfl rfl rfl cols_ok ?_;refine af.call tok rfl rfl rfl rfl rfl ck ?_;refine qP 4 rfl ?_;refine af.nil ?_;refine qU 1 rfl ?_;refine qI (qX 1 rfl ?_);refine ab.err tok rfl rfl rfl rfl rfl ?_;refine ab.nil ?_;refine AW.aA rfl ?_
       · skip
         refine AW.skip (qX 7 rfl ?_);exact qN rfl
end Lift
namespace Lift
open Go Go.Proofs
theorem tB{rt:List (List RD)}{a:List (List (List RD))}{e:Nat}(he:e≠0)(cc:Pure Tryz.prog 21 [TrD rt,MxR a] (dI e)):Pure Tryz.prog 42 [TrD rt,MxR a] (.tu [.ag [bT [],bT [],aX []],dI e]):=by
 refine qJ 36 Tryz.func42 rfl rfl rfl rfl (by kernel_rfl) (fun B F0 w0=>?_);refine qX 3 rfl ?_;refine qI (qX 2 rfl ?_);refine ab.call tok rfl rfl rfl rfl cc ?_;refine qU 1 rfl ?_;refine qK 2 rfl ?_;rw[bne_iff_ne.2 (show (e:Int)≠0 by omega)];refine ab.nil ?_;refine AW.aL rfl ?_
 · skip
   refine qX 4 rfl ?_;exact qN rfl
theorem uY{v:List NQ}{q m K:a6}{dep rn cn:List Nat}(cc:Pure Tryz.prog 21 [bt v,aX q] (dI (0:Nat)))(cd:Pure Tryz.prog 53 [bt v,aX q] (.tu [bT dep,bT rn]))(cr:Pure Tryz.prog 51 [bt v,aX q] (.tu [aX m,bT cn]))(ck:Pure Tryz.prog 52 [bt v,aX q] (aX K)):Pure Tryz.prog 42 [bt v,aX q] (.tu [.ag [bT rn,bT cn,aX K],dI (0:Nat)]):=by
 refine qJ 36 Tryz.func42 rfl rfl rfl rfl (by kernel_rfl) (fun B F0 w0=>?_);refine qX 3 rfl ?_;refine qI (qX 2 rfl ?_);refine ab.call tok rfl rfl rfl rfl cc ?_;refine qU 1 rfl ?_;refine qK 2 rfl ?_;refine ab.nil ?_;refine AW.aA rfl ?_
 · skip
   refine AW.skip (qX 2 rfl ?_);refine ab.call tok rfl rfl rfl rfl cd ?_;refine qU 5 rfl ?_;refine qK 2 rfl ?_;refine ab.call tok rfl rfl rfl rfl cr ?_;refine qU 5 rfl ?_;refine qK 4 rfl ?_;refine ab.call tok rfl rfl rfl rfl ck ?_;refine qU 3 rfl ?_;exact qN rfl
theorem Ej{m0:Nat}{v:List NQ}(V:j5 m0 v){a:a6}(G:rq v a):(aB v (bu a) a.length).cols=wT (fun i=>(aB v (a.take i) (ao a)).cols) a.length:=by
 have key: ∀i,i≤a.length→wT (fun i=>(aB v (a.take i) (ao a)).cols) i=(aB v (bu a) i).cols:=fun i=>by
  induction i with
  | zero=>intro _;rfl
  | succ i ih =>
    intro h;have r1:=uW V G (n:=i) (by omega);have r2:=uW V G (n:=i+1) h;rw[xy,ih (by omega)];rcases pI v (bu a) i with ⟨f1,f2⟩ | ⟨f1,f2⟩
    · have e1:=f1;rw[f1,List.length_append] at r2;rw[if_neg (by show ¬(aB v (a.take i) (ao a)).cols.length=(aB v (a.take (i+1)) (ao a)).cols.length;rw[← r1,← r2];show ¬_=_+1;omega),e1]
    · have e1:=f1;rw[f1] at r2;rw[if_pos (by show (aB v (a.take i) (ao a)).cols.length=(aB v (a.take (i+1)) (ao a)).cols.length;rw[← r1,← r2]),e1]
 exact(key a.length (ak _)).symm
end Lift
namespace Lift
open Go Go.Proofs
theorem tC{rt:List (List RD)}{a:List (List (List RD))}{C:D}{e:Nat}(he:e≠0)(cc:Pure Tryz.prog 21 [TrD rt,MxR a] (dI e))(hC: ∃x y z,C= .ag [x,y,z]):Pure Tryz.prog 43 [TrD rt,MxR a,C] (.tu [dB false,dI e]):=by
 obtain ⟨x,y,z,rfl⟩:=hC;refine qJ 142 Tryz.func43 rfl rfl rfl rfl (by kernel_rfl) (fun B F0 w0=>?_);refine qX 4 rfl ?_;refine qI (qX 2 rfl ?_);refine ab.call tok rfl rfl rfl rfl cc ?_;refine qU 1 rfl ?_;refine qK 2 rfl ?_;rw[bne_iff_ne.2 (show (e:Int)≠0 by omega)];refine ab.nil ?_;refine AW.aL rfl ?_
 · skip
   refine qX 3 rfl ?_;exact qN rfl
theorem tD{rt:List (List RD)}{a:List (List (List RD))}{rows cols:List Int}{ker:List (List (List RD))}{c:Nat}(he:c≠0)(cc:Pure Tryz.prog 21 [TrD rt,MxR a] (dI (0:Nat)))(ce:Pure Tryz.prog 39 [TrD rt,MxR a,CertD rows cols ker] (dI c)):Pure Tryz.prog 43 [TrD rt,MxR a,CertD rows cols ker] (.tu [dB false,dI c]):=by
 refine qJ 142 Tryz.func43 rfl rfl rfl rfl (by kernel_rfl) (fun B F0 w0=>?_);refine qX 4 rfl ?_;refine qI (qX 2 rfl ?_);refine ab.call tok rfl rfl rfl rfl cc ?_;refine qU 1 rfl ?_;refine qK 2 rfl ?_;refine ab.nil ?_;refine AW.aA rfl ?_
 · skip
   refine AW.skip (AW.seq ?_);refine qX 3 rfl ?_;refine ab.call tok rfl rfl rfl rfl ce ?_;refine qU 1 rfl ?_;refine qK 2 rfl ?_;rw[bne_iff_ne.2 (show (c:Int)≠0 by omega)];refine ab.nil ?_;refine AW.aL rfl ?_
   · skip
     refine qX 3 rfl ?_;exact qN rfl
set_option maxHeartbeats 1600000 in
theorem uZ{v:List NQ}{q kq:a6}{rn cn:List Nat}{d:NQ}{R:a6}(cc:Pure Tryz.prog 21 [bt v,aX q] (dI (0:Nat)))(ce:Pure Tryz.prog 39 [bt v,aX q,.ag [bT rn,bT cn,aX kq]] (dI (0:Nat)))
  (hql:q.length≤1000000) (hqc:ao q≤1000000) (hqr:bk (ao q) q) (hkl:kq.length≤1000000) (hkr: ∀j,j<kq.length→(kq.getD j []).length=ao q) (hrl:rn.length≤1000000) (hcl:cn.length≤1000000) (hrn: ∀i,i<rn.length→rn.getD i 0<q.length) (hcn: ∀k,k<cn.length→cn.getD k 0<ao q)
  (cd:Pure Tryz.prog 73 [bt v,aX (aJ q rn cn)] (ah d)) (cz:Pure Tryz.prog 81 [bt v,ah d] (dB (decide (fi v (jk v (aJ q rn cn))=0))))
  (cm: ∀i j k,i<q.length→j<kq.length→k<(q.getD i []).length→Pure Tryz.prog 82 [bt v,ah ((q.getD i []).getD k []),ah ((kq.getD j []).getD k [])] (.tu [ah (dK v ((q.getD i []).getD k []) ((kq.getD j []).getD k [])),dI 0]))
  (ca: ∀i j k,i<q.length→j<kq.length→k<(q.getD i []).length→Pure Tryz.prog 83 [bt v,ah (eD v (q.getD i []) (kq.getD j []) k),ah (dK v ((q.getD i []).getD k []) ((kq.getD j []).getD k []))] (.tu [ah (tV (eD v (q.getD i []) (kq.getD j []) k) (dK v ((q.getD i []).getD k []) ((kq.getD j []).getD k []))),dI 0]))
  (ct: ∀i j,i<q.length→j<kq.length→Pure Tryz.prog 81 [bt v,ah (eD v (q.getD i []) (kq.getD j []) (q.getD i []).length)] (dB (decide (fi v (eD v (q.getD i []) (kq.getD j []) (q.getD i []).length)=0))))
  (cr:Pure Tryz.prog 51 [bt v,aX kq] (.tu [aX R,bT (aV v kq).cols])):
  Pure Tryz.prog 43 [bt v,aX q,.ag [bT rn,bT cn,aX kq]] (.tu [dB (wx v q rn cn kq),dI (0:Nat)]):=by
 refine qJ 142 Tryz.func43 rfl rfl rfl rfl (by kernel_rfl) (fun B F0 w0=>?_);have hml:=dS q rn cn
 have hmt: ∀i,i<rn.length→(aJ q rn cn).take (i+1)=(aJ q rn cn).take i++[cn.map fun k=>aS q (rn.getD i 0) k]:=fun i hi=>by
  rw[pb (d:=[]) (by omega),mh q rn cn hi]
 have hma:(aJ q rn cn).take rn.length=aJ q rn cn:=List.take_of_length_le (by omega);have hzl: ∀r,(cn.map fun k=>aS q r k).length=cn.length:=fun r=>ae ..
 have hzt: ∀r k,k<cn.length→(cn.map fun k=>aS q r k).take (k+1)=(cn.map fun k=>aS q r k).take k++[(q.getD r []).getD (cn.getD k 0) []]:=fun r k hk=>by
  rw[pb (d:=[]) (by rw[hzl];exact hk)]
  congr 2
  rw[aE,List.getElem?_map,aE (l:=cn),a8 hk];rfl
 have hza: ∀r,(cn.map fun k=>aS q r k).take cn.length=cn.map fun k=>aS q r k:=fun r=>List.take_of_length_le (by rw[hzl];exact ak _);unfold wx;generalize jk v (aJ q rn cn)=dq at *;generalize aJ q rn cn=mm at *;generalize hzz:(fun r=>cn.map fun k=>aS q r k)=zz at *;have hz1: ∀r,(cn.map fun k=>aS q r k)=zz r:=fun r=>by rw[← hzz]
 simp only[hz1] at hmt hzl hzt hza;clear hzz hz1;obtain ⟨Z,hZ⟩: ∃Z,jz (uN v q kq) (kq.length-0) 0=Z:=⟨_,rfl⟩;rw[show xg v q kq=Z from hZ];generalize (aV v kq).cols=scols at *;refine qX 4 rfl ?_;refine qI (qX 2 rfl ?_);refine ab.call tok rfl rfl rfl rfl cc ?_;refine qU 1 rfl ?_;refine qK 2 rfl ?_;refine ab.nil ?_;refine AW.aA rfl ?_
 · skip
   refine AW.skip (AW.seq ?_);refine qX 3 rfl ?_;refine ab.call tok rfl rfl rfl rfl ce ?_;refine qU 1 rfl ?_;refine qK 2 rfl ?_;refine ab.nil ?_;refine AW.aA rfl ?_
   · skip
     refine AW.skip (AW.seq (AW.seq ?_));refine AW.draw aQ 10 (by kernel_rfl) ?_;refine qP 2 rfl ?_;refine qP 1 rfl ?_;rw[ae];refine qP 1 rfl ?_;refine af.call tok rfl rfl rfl rfl rfl (fx q) ?_;refine qP 3 rfl ?_;rw[ae];refine qP 1 rfl ?_;rw[aF (x:=(ao q:Int) -cn.length) (by omega) (by omega)];refine qP 1 rfl ?_;refine af.nil ?_;refine ab.nil ?_;refine AW.cond rfl (fun h=>?_) (fun h=>?_)
     · rw[if_pos (show (kq.length:Int)≠(ao q:Int) -cn.length from bne_iff_ne.1 h)];refine qX 2 rfl ?_;exact qN rfl
     · have hk0:(kq.length:Int)=(ao q:Int) -cn.length:=bne_eq_false_iff_eq.1 h;rw[if_neg (fun g=>g hk0)];refine AW.skip (qX 1 rfl ?_);refine qI (qX 3 rfl ?_);rw[ae];refine qU 1 rfl ?_;refine ab.nil ?_;refine AW.block ?_;refine AW.aG [1,3,5,10,50,51,52] (fun i:Nat=>[(1,.d (aX q)),(3,.bx [.sl 1 (v.map ah)]),(5,.bx [bT rn,bT cn,aX kq]),(10,.ow 22 ((mm.take i).map bW)),(50,.d (bT rn)),(51,.d (dI rn.length)),(52,.d (dI i))]) (fun i=>i≤rn.length) (fun i=>rn.length-i) 0 rfl (Nat.zero_le _) (fun i hi=>?_)
       · show AW _ _ _ _ _ _ _ [(1,.d (aX q)),(3,.bx [.sl 1 (v.map ah)]),(5,.bx [bT rn,bT cn,aX kq]),(10,.ow 22 ((mm.take i).map bW)),(50,.d (bT rn)),(51,.d (dI rn.length)),(52,.d (dI i))];refine qX 1 rfl ?_;refine qI ?_;refine AW.cond rfl (fun h=>?_) (fun h=>?_)
         · have hii:i<rn.length:=by have:=aq h;omega
           have g1:=oX (l:=rn) (i:=i) hii;have hmt:=hmt i hii;have hrn:=hrn i hii;generalize rn.getD i 0=r at g1 hmt hrn;have hzl:=hzl r;have hzt:=hzt r;have hza:=hza r;have hq1:=getM bW (l:=q) (i:=r) hrn;have hq2:=hqr r hrn;generalize zz r=z at *;generalize q.getD r []=row at hzt hq1 hq2;refine AW.skip (AW.seq (AW.block (AW.seq (AW.region ?_))));refine ab.idx tok (dI r) rfl rfl rfl rfl (aj i) g1 ?_;refine qU 2 rfl ?_;refine qK 1 rfl ?_;refine qI (qX 3 rfl ?_);rw[ae];refine qU 1 rfl ?_;refine ab.nil ?_;refine AW.block ?_;refine AW.aG [1,3,5,10,12,13,50,51,52,57,58,59] (fun k:Nat=>[(1,.d (aX q)),(3,.bx [.sl 1 (v.map ah)]),(5,.bx [bT rn,bT cn,aX kq]),(10,.ow 22 ((mm.take i).map bW)),(12,.d (dI r)),(13,.ow 53 ((z.take k).map ah)),(50,.d (bT rn)),(51,.d (dI rn.length)),(52,.d (dI i)),(57,.d (bT cn)),(58,.d (dI cn.length)),(59,.d (dI k))]) (fun k=>k≤cn.length) (fun k=>cn.length-k) 0 rfl (Nat.zero_le _) (fun k hk=>?_)
           · show AW _ _ _ _ _ _ _ [(1,.d (aX q)),(3,.bx [.sl 1 (v.map ah)]),(5,.bx [bT rn,bT cn,aX kq]),(10,.ow 22 ((mm.take i).map bW)),(12,.d (dI r)),(13,.ow 53 ((z.take k).map ah)),(50,.d (bT rn)),(51,.d (dI rn.length)),(52,.d (dI i)),(57,.d (bT cn)),(58,.d (dI cn.length)),(59,.d (dI k))];refine qX 1 rfl ?_;refine qI ?_;refine AW.cond rfl (fun h=>?_) (fun h=>?_)
             · have hkk:k<cn.length:=by have:=aq h;omega
               have g2:=oX (l:=cn) (i:=k) hkk;have hzt:=hzt k hkk;have hcn:=hcn k hkk;generalize cn.getD k 0=c at g2 hzt hcn;have hq3:=getM ah (l:=row) (i:=c) (by omega);generalize row.getD c []=x at hzt hq3;refine AW.skip (AW.seq (AW.block (AW.seq (AW.region ?_))));refine ab.idx tok (dI c) rfl rfl rfl rfl (aj k) g2 ?_;refine qU 2 rfl ?_;refine ab.nil ?_;refine qT 3 rfl ?_;refine ab.idx tok (bW row) rfl rfl rfl rfl (aj r) hq1 ?_;refine qU 2 rfl ?_;refine ab.idx tok (ah x) rfl rfl rfl rfl (aj c) hq3 ?_;refine qU 1 rfl ?_;refine ab.fj tok rfl rfl rfl rfl rfl ?_;refine ab.gv tok rfl rfl rfl rfl rfl rfl (by rw[ae,aT];show (_+1)*24≤_;omega) (by rw[ae,aT];show _+1≤_;omega) ?_;refine qU 1 rfl ?_;refine ab.nil ?_;refine qT 1 rfl ?_;rw[aF (x:=(k:Int)+1) (by omega) (by omega)];refine qU 1 rfl ?_;refine ab.nil ?_;exact⟨k+1,by rw[hzt,List.map_append];rfl,hkk,by omega⟩
             have hkk:k=cn.length:=by have:=au h;omega
             subst hkk;rw[hza];refine AW.exit (AW.region ?_);refine ab.fT tok 13 rfl rfl ?_;refine qU 2 rfl ?_;refine ab.fj tok rfl rfl rfl rfl rfl ?_;refine ab.gv tok rfl rfl rfl rfl rfl rfl (by rw[ae,aT];show (_+1)*24≤_;omega) (by rw[ae,aT];show _+1≤_;omega) ?_;refine qU 1 rfl ?_;refine ab.nil ?_;refine qT 1 rfl ?_;rw[aF (x:=(i:Int)+1) (by omega) (by omega)];refine qU 1 rfl ?_;refine ab.nil ?_;exact⟨i+1,by rw[hmt,List.map_append];rfl,hii,by omega⟩
         have hii:i=rn.length:=by have:=au h;omega
         subst hii;rw[hma];refine AW.exit (AW.seq (AW.seq ?_));refine AW.fT tok 10 rfl rfl ?_;refine AW.draw aQ 5 (by kernel_rfl) ?_;refine qP 3 rfl ?_;refine af.call tok rfl rfl rfl rfl rfl cd ?_;refine af.call tok rfl rfl rfl rfl rfl cz ?_;refine af.nil ?_;refine ab.nil ?_;refine AW.cond rfl (fun h=>?_) (fun h=>?_)
         · rw[if_pos (show fi v dq=0 from aq h)];refine qX 2 rfl ?_;exact qN rfl
         · rw[if_neg (show ¬fi v dq=0 from au h)];refine AW.skip (AW.seq ?_);refine qX 3 rfl ?_;rw[ae];refine qU 1 rfl ?_;refine ab.nil ?_;refine AW.block ?_;refine AW.aG [1,3,5,85,86,87] (fun j:Nat=>[(1,.d (aX q)),(3,.bx [.sl 1 (v.map ah)]),(5,.bx [bT rn,bT cn,aX kq]),(85,.d (aX kq)),(86,.d (dI kq.length)),(87,.d (dI j))]) (fun j=>j≤kq.length∧jz (uN v q kq) (kq.length-j) j=Z) (fun j=>kq.length-j) 0 rfl ⟨Nat.zero_le _,hZ⟩ (fun j ⟨hj,hjZ⟩=>?_)
           · show AW _ _ _ _ _ _ _ [(1,.d (aX q)),(3,.bx [.sl 1 (v.map ah)]),(5,.bx [bT rn,bT cn,aX kq]),(85,.d (aX kq)),(86,.d (dI kq.length)),(87,.d (dI j))];refine qX 1 rfl ?_;refine qI ?_;refine AW.cond rfl (fun h=>?_) (fun h=>?_)
             · have hjj:j<kq.length:=by have:=aq h;omega
               have g1:=getM bW (l:=kq) (i:=j) hjj;have hat:=(mB (g:=uN v q kq) hjj).symm.trans hjZ;obtain ⟨Y,hY⟩: ∃Y,jz (fun i=>decide (fi v (eD v (q.getD i []) (kq.getD j []) (q.getD i []).length)=0)) (q.length-0) 0=Y:=⟨_,rfl⟩;rw[show uN v q kq j=Y from hY] at hat;have hkr:=hkr j hjj;have cm:=fun i k hi=>cm i j k hi hjj;have ca:=fun i k hi=>ca i j k hi hjj;have ct:=fun i hi=>ct i j hi hjj;change (kq.map bW)[j]?=some (bW (kq.getD j [])) at g1;generalize kq.getD j []=w at g1 hY ct cm ca hkr;refine AW.skip (AW.seq (AW.block (AW.seq (AW.region ?_))));refine ab.idx tok (bW w) rfl rfl rfl rfl (aj j) g1 ?_;refine qU 2 rfl ?_;refine qK 2 rfl ?_;rw[ae];refine qU 1 rfl ?_;refine ab.nil ?_;refine AW.block ?_;refine AW.aG [1,3,5,17,85,86,87,91,92,93] (fun i:Nat=>[(1,.d (aX q)),(3,.bx [.sl 1 (v.map ah)]),(5,.bx [bT rn,bT cn,aX kq]),(17,.d (bW w)),(85,.d (aX kq)),(86,.d (dI kq.length)),(87,.d (dI j)),(91,.d (aX q)),(92,.d (dI q.length)),(93,.d (dI i))]) (fun i=>i≤q.length∧jz (fun i=>decide (fi v (eD v (q.getD i []) w (q.getD i []).length)=0)) (q.length-i) i=Y) (fun i=>q.length-i) 0 rfl ⟨Nat.zero_le _,hY⟩ (fun i ⟨hi,hiY⟩=>?_)
               · show AW _ _ _ _ _ _ _ [(1,.d (aX q)),(3,.bx [.sl 1 (v.map ah)]),(5,.bx [bT rn,bT cn,aX kq]),(17,.d (bW w)),(85,.d (aX kq)),(86,.d (dI kq.length)),(87,.d (dI j)),(91,.d (aX q)),(92,.d (dI q.length)),(93,.d (dI i))];refine qX 1 rfl ?_;refine qI ?_;refine AW.cond rfl (fun h=>?_) (fun h=>?_)
                 · have hii:i<q.length:=by have:=aq h;omega
                   have g2:=getM bW (l:=q) (i:=i) hii;have hai:=(mB (g:=fun i=>decide (fi v (eD v (q.getD i []) w (q.getD i []).length)=0)) hii).symm.trans hiY;have hqr:=hqr i hii;have ct:=ct i hii;have cm:=fun k=>cm i k hii;have ca:=fun k=>ca i k hii;have hf0:eD v (q.getD i []) w 0=[]:=rfl;have hfs: ∀k,eD v (q.getD i []) w (k+1)=tV (eD v (q.getD i []) w k) (dK v ((q.getD i []).getD k []) (w.getD k [])):=fun k=>rfl;change (q.map bW)[i]?=some (bW (q.getD i [])) at g2;generalize eD v (q.getD i []) w=f at *;generalize q.getD i []=row at g2 ct cm ca hfs hai hqr;obtain ⟨z,hz⟩: ∃z,fi v (f row.length)=z:=⟨_,rfl⟩;rw[hz] at ct;rw[show fi v (f row.length)=z from hz] at hai;refine AW.skip (AW.seq (AW.block (AW.seq (AW.region ?_))));refine ab.idx tok (bW row) rfl rfl rfl rfl (aj i) g2 ?_;refine qU 2 rfl ?_;refine qK 1 rfl ?_;refine qI (AW.seq (AW.region ?_));refine ab.fT tok 20 rfl rfl ?_;refine qU 2 rfl ?_;rw[ae];refine qU 1 rfl ?_;refine ab.nil ?_;refine AW.block ?_;refine AW.aG [1,3,5,17,19,20,85,86,87,91,92,93,98,99] (fun k:Nat=>[(1,.d (aX q)),(3,.bx [.sl 1 (v.map ah)]),(5,.bx [bT rn,bT cn,aX kq]),(17,.d (bW w)),(19,.d (bW row)),(20,.d (ah (f k))),(85,.d (aX kq)),(86,.d (dI kq.length)),(87,.d (dI j)),(91,.d (aX q)),(92,.d (dI q.length)),(93,.d (dI i)),(98,.d (dI row.length)),(99,.d (dI k))]) (fun k=>k≤row.length) (fun k=>row.length-k) 0 (by rw[hf0];rfl) (Nat.zero_le _) (fun k hk=>?_)
                   · show AW _ _ _ _ _ _ _ [(1,.d (aX q)),(3,.bx [.sl 1 (v.map ah)]),(5,.bx [bT rn,bT cn,aX kq]),(17,.d (bW w)),(19,.d (bW row)),(20,.d (ah (f k))),(85,.d (aX kq)),(86,.d (dI kq.length)),(87,.d (dI j)),(91,.d (aX q)),(92,.d (dI q.length)),(93,.d (dI i)),(98,.d (dI row.length)),(99,.d (dI k))];refine qX 1 rfl ?_;refine qI ?_;refine AW.cond rfl (fun h=>?_) (fun h=>?_)
                     · have hkk:k<row.length:=by have:=aq h;omega
                       have g3:=getM ah (l:=row) (i:=k) hkk;have g4:=getM ah (l:=w) (i:=k) (by omega);have cm:=cm k hkk;have ca:=ca k hkk;have hfs:=hfs k;generalize row.getD k []=x at g3 cm ca hfs;generalize w.getD k []=y at g4 cm ca hfs;generalize dK v x y=p at *;refine AW.skip (AW.seq (AW.block ?_));refine qX 2 rfl ?_;refine qI (AW.draw aQ 14 (by kernel_rfl) ?_);refine qP 3 rfl ?_;refine af.idx tok (ah x) rfl rfl rfl rfl rfl (aj k) g3 ?_;refine qP 3 rfl ?_;refine af.idx tok (ah y) rfl rfl rfl rfl rfl (aj k) g4 ?_;refine qP 1 rfl ?_;refine af.call tok rfl rfl rfl rfl rfl cm ?_;refine qP 4 rfl ?_;refine af.nil ?_;refine qU 1 rfl ?_;refine ab.nil ?_;refine qT 3 rfl ?_;refine ab.call tok rfl rfl rfl rfl ca ?_;refine qU 4 rfl ?_;refine ab.nil ?_;refine qT 1 rfl ?_;rw[aF (x:=(k:Int)+1) (by omega) (by omega)];refine qU 1 rfl ?_;refine ab.nil ?_;exact⟨k+1,by rw[hfs];rfl,hkk,by omega⟩
                     have hkk:k=row.length:=by have:=au h;omega
                     subst hkk;refine AW.exit ?_;refine qX 2 rfl ?_;refine ab.call tok rfl rfl rfl rfl ct ?_;refine qU 1 rfl ?_;refine ab.nil ?_;refine AW.cond rfl (fun h=>?_) (fun h=>?_)
                     · rw[show decide (z=0)=false by simpa using h,Bool.false_and] at hai;rw[← hai,Bool.false_and] at hat;rw[if_pos hat.symm];refine qX 2 rfl ?_;exact qN rfl
                     · rw[show decide (z=0)=true by simpa using h,Bool.true_and] at hai;refine AW.skip (qT 1 rfl ?_);rw[aF (x:=(i:Int)+1) (by omega) (by omega)];refine qU 1 rfl ?_;refine ab.nil ?_;exact⟨i+1,rfl,⟨hii,hai⟩,by omega⟩
                 have hii: ¬i<q.length:=by have:=au h;omega
                 rw[lT hii] at hiY;rw[← hiY,Bool.true_and] at hat;refine AW.exit ?_;refine qT 1 rfl ?_;rw[aF (x:=(j:Int)+1) (by omega) (by omega)];refine qU 1 rfl ?_;refine ab.nil ?_;exact⟨j+1,rfl,⟨hjj,hat⟩,by omega⟩
             have hjj: ¬j<kq.length:=by have:=au h;omega
             rw[lT hjj] at hjZ;rw[if_neg (by rw[← hjZ];simp)];refine AW.exit ?_;refine qX 3 rfl ?_;refine ab.call tok rfl rfl rfl rfl cr ?_;refine qU 5 rfl ?_;refine qK 2 rfl ?_;rw[ae];refine qU 3 rfl ?_;rw[ae];refine qU 1 rfl ?_;rw[show ((scols.length:Int)==(kq.length:Int))=decide ((scols.length:Int)=kq.length) by by_cases g:(scols.length:Int)=kq.length<;>simp[g]];refine qU 2 rfl ?_;exact qN rfl
end Lift
namespace Lift
open Go Go.Proofs
theorem Lo.Ic{v:List NQ}(L:Lo v){a:a6}{N k n R:Nat}(hr:bk N a)(hl:jC v.length a)(hs:il k a)(hR: ∀c,c≤n→(aB v a c).cols.length≤R)(hg:gI k (R+1)≤100000000000): ∀c,c≤n→il (gI k (aB v a c).cols.length) (aB v a c).rows∧ay (gI k (aB v a c).cols.length) (aB v a c).cE∧(c<n→kZ v (aB v a c) c)
 | 0,_=>⟨hs,ft (Nat.le_trans jD hs.pos),fun _=>(L.step (cY L.V.a hr hl 0) hs (ft (Nat.le_trans jD hs.pos)) (Nat.le_trans (dN (k:=k) (show 1≤R+1 by omega)) hg)).1⟩
 | c+1,hc=>by
   obtain ⟨h1,h2,_⟩:=L.Ic hr hl hs hR hg c (by omega);have g1:=hR c (by omega);have g2:=hR (c+1) hc;have st:=L.step (cY L.V.a hr hl c) h1 h2 (Nat.le_trans (dN (k:=k) (show (aB v a c).cols.length+1≤R+1 by omega)) hg)
   have key:il (gI k (aB v a (c+1)).cols.length) (aB v a (c+1)).rows∧ay (gI k (aB v a (c+1)).cols.length) (aB v a (c+1)).cE:=by
    by_cases h:atR v (aB v a c) c<(aB v a c).rows.length
    · have e:(aB v a (c+1)).cols.length=(aB v a c).cols.length+1:=by
       show (cT v (aB v a c) c).cols.length=_;unfold cT;rw[if_pos h];exact List.length_append
      rw[e];exact⟨st.2.1,st.2.2.1⟩
    · have e:aB v a (c+1)=aB v a c:=by
       show cT v (aB v a c) c=_;unfold cT;rw[if_neg h]
      rw[e];exact⟨h1,h2⟩
   exact⟨key.1,key.2,fun _=>(L.step (cY L.V.a hr hl (c+1)) key.1 key.2 (Nat.le_trans (dN (k:=k) (show (aB v a (c+1)).cols.length+1≤R+1 by omega)) hg)).1⟩
theorem zG(v:List NQ)(a:a6){c d:Nat}(h:c≤d):(aB v a c).cols.length≤(aB v a d).cols.length:=by
 induction h with
 | refl=>exact ak _
 | @step m _ ih =>
   rcases uV v a m with e | e
   · rw[e,List.length_append];exact Nat.le_add_right_of_le ih
   · rw[e];exact ih
theorem E'(k a:Nat): ∀b,gI (gI k a) b=gI k (a+b)
 | 0=>rfl
 | b+1=>by show gS (gI (gI k a) b)=gS (gI k (a+b));rw[E' k a b]
theorem GI{m0:Nat}{v:List NQ}(V:j5 m0 v){q:a6}(G:rq v q):wx v q (aB v (bu q) q.length).cols (aV v q).cols (bJ v q)=true:=by
 have hk:=nI v q
 have hs:xg v q (bJ v q)=true:=by
  have key: ∀j,j<(bJ v q).length→uN v q (bJ v q) j=true:=fun j hj=>by
   have h1: ∀n i,i+n=q.length→jz (fun i=>decide (fi v (eD v (q.getD i []) ((bJ v q).getD j []) (q.getD i []).length)=0)) n i=true:=fun n=>by
    induction n with
    | zero=>intro i _;rfl
    | succ n ih =>
      intro i hi;show (_&&_)=true;rw[ih (i+1) (by omega),Bool.and_true];exact aN (Dc V G i j (by omega) hj)
   exact h1 _ 0 (by omega)
  have h2: ∀n j,j+n=(bJ v q).length→jz (uN v q (bJ v q)) n j=true:=fun n=>by
   induction n with
   | zero=>intro i _;rfl
   | succ n ih =>
     intro j hj;show (_&&_)=true;rw[ih (j+1) (by omega),Bool.and_true];exact key j (by omega)
  exact h2 _ 0 (by omega)
 unfold wx;rw[if_neg (show ¬((bJ v q).length:Int)≠(ao q:Int) -(aV v q).cols.length by omega),if_neg (Dd V G),if_neg (by rw[hs];decide)];exact aN (by rw[Eu V G])
def BF(l:List Nat):List Int:=l.map fun n:Nat=>(n:Int)
theorem HJ(l:List Nat):IvD (BF l)=bT l:=by
 show D.sl 1 ((l.map _).map _)=D.sl 1 (l.map _);rw[List.map_map];rfl
theorem qC(l:List Nat):(BF l).length=l.length:=ae ..
theorem CD(l:List Nat)(i:Nat):(BF l).getD i 0=(l.getD i 0:Nat):=by
 unfold BF;rw[aE,List.getElem?_map,aE];cases l[i]?<;>rfl
theorem E0{l:List Nat}{n:Nat}(h: ∀x∈l,x<n):bA (BF l) n=true:=by
 unfold bA BF;rw[List.all_eq_true];intro x hx;obtain ⟨y,hy,rfl⟩:=List.mem_map.1 hx;have:=h y hy;rw[aN (show (0:Int)≤(y:Int) by omega),aN (show (y:Int)<(n:Int) by omega)];rfl
theorem CE{l:List Nat}(h: ∀p q,p<q→q<l.length→l.getD p 0<l.getD q 0):jM (BF l)=true:=by
 have key: ∀n i,i+n=(BF l).length→jz (DG (BF l)) n i=true:=fun n=>by
  induction n with
  | zero=>intro i _;rfl
  | succ n ih =>
    intro i hi;show (_&&_)=true;rw[ih (i+1) (by omega),Bool.and_true];unfold DG;rw[qC] at hi;by_cases h0:0<i
    · have:=h (i-1) i (by omega) (by omega);rw[aN h0,CD,CD,aO (by omega)];rfl
    · rw[aO h0];rfl
 exact key _ 0 (by omega)
theorem pE{rt:List (List RD)}{a:List (List (List RD))}{C:D}{e:Nat}(he:e≠0)(cc:Pure Tryz.prog 20 [TrD rt,MxR a] (tR e))(hC: ∃x y z,C= .ag [x,y,z]):Pure Tryz.prog 40 [TrD rt,MxR a,C] (.tu [dB false,tR e]):=by
 obtain ⟨m,rfl⟩: ∃m,e=m+1:=⟨e-1,by omega⟩;obtain ⟨x,y,z,rfl⟩:=hC;refine qJ 142 Tryz.func40 rfl rfl rfl rfl (by kernel_rfl) (fun B F0 w0=>?_);refine qX 4 rfl ?_;refine qI (qX 2 rfl ?_);refine ab.call tok rfl rfl rfl rfl cc ?_;refine qU 1 rfl ?_;refine qK 1 rfl ?_;refine ab.err tok rfl rfl rfl rfl rfl ?_;refine ab.nil ?_;refine AW.aL rfl ?_
 · skip
   refine qX 3 rfl ?_;exact qN rfl
theorem pG{rt:List (List RD)}{a:List (List (List RD))}{rows cols:List Int}{ker:List (List (List RD))}{c:Nat}(he:c≠0)(cc:Pure Tryz.prog 20 [TrD rt,MxR a] (tR 0))(ce:Pure Tryz.prog 80 [TrD rt,MxR a,CertD rows cols ker] (tR c)):Pure Tryz.prog 40 [TrD rt,MxR a,CertD rows cols ker] (.tu [dB false,tR c]):=by
 obtain ⟨m,rfl⟩: ∃m,c=m+1:=⟨c-1,by omega⟩;refine qJ 142 Tryz.func40 rfl rfl rfl rfl (by kernel_rfl) (fun B F0 w0=>?_);refine qX 4 rfl ?_;refine qI (qX 2 rfl ?_);refine ab.call tok rfl rfl rfl rfl cc ?_;refine qU 1 rfl ?_;refine qK 1 rfl ?_;refine ab.err tok rfl rfl rfl rfl rfl ?_;refine ab.nil ?_;refine AW.aA rfl ?_
 · skip
   refine AW.skip (AW.seq ?_);refine qX 3 rfl ?_;refine ab.call tok rfl rfl rfl rfl ce ?_;refine qU 1 rfl ?_;refine qK 1 rfl ?_;refine ab.err tok rfl rfl rfl rfl rfl ?_;refine ab.nil ?_;refine AW.aL rfl ?_
   · skip
     refine qX 3 rfl ?_;exact qN rfl
theorem qz{v:List NQ}{x:NQ}(V:k8 v)(hx:aC v.length x)(ok:vm v x):Pure Tryz.prog 67 [bt v,ah x] aP:=by
 have c:=sI V hx ok;refine qJ 14 Tryz.func67 rfl rfl rfl rfl (by kernel_rfl) (fun B F0 w0=>?_);refine qX 2 rfl ?_;refine qK 2 rfl ?_;refine ab.call tok rfl rfl rfl rfl c ?_;refine qU 5 rfl ?_;refine qK 2 rfl ?_;exact qN rfl
theorem EG{m:Nat}{v:List NQ}{x:NQ}(V:j5 m v)(hx:aC v.length x):bL v.length (dQ x)=0:=by
 have h:=Kp V hx;rw[yP V.raw.2,ga] at h;exact h
theorem De{m0:Nat}{v:List NQ}(V:j5 m0 v){q:a6}(G:rq v q):o6 v.length q (BF (aB v (bu q) q.length).cols) (BF (aV v q).cols) (nq (bJ v q))=0:=by
 obtain ⟨F⟩:=qR V;have hrr:=(lz V G).2;have I1:=(gn V.a F G.r G.lt (ao q) (ak _)).asc;have I2:=(gn V.a F (fm q) (jb G.lt) q.length (ak _)).asc;have c1:=jI v (bu q) q.length;have c2:=jI v q (ao q);change ∀x∈(aV v q).cols,x<ao q at c2;change ∀p p',p<p'→p'<(aV v q).cols.length→(aV v q).cols.getD p 0<(aV v q).cols.getD p' 0 at I1;obtain ⟨GK,hK⟩:=zW V G;have hkl:=nI v q;have hGc:=G.c;unfold o6;rw[if_neg (by rw[qC,qC,hrr];exact fun h=>h rfl),E0 c1,E0 c2,if_neg (by decide),CE I2,CE I1,if_neg (by decide)]
 have e1:fE (fun i=>tK v.length q ((nq (bJ v q)).getD i [])) ((nq (bJ v q)).length-0) 0=0:=kU fun j hj=>by
  rw[np] at hj;have hj:j<(bJ v q).length:=by omega
  show tK v.length q ((nq (bJ v q)).getD j [])=0;unfold tK;rw[if_neg (by rw[lA,ae,GK.r j hj,hK (by omega)];exact fun h=>h rfl)];unfold bE
  exact kU fun k hk=>by
   show bL v.length (((nq (bJ v q)).getD j []).getD k [])=0;rw[uc];exact EG V (GK.lt j k)
 rw[e1,if_neg (by decide),np,if_neg (by omega)]
theorem Cu{v:List NQ}{q:a6}(L:Lo v)(G:rq v q)(hs:il 2 q)(hc4:ao q≤4):il (gI 2 (aV v q).cols.length) (bJ v q)∧(∀c,c<ao (bJ v q)→kZ v (aB v (bJ v q) c) c)∧gI 2 (aV v q).cols.length≤500000000:=by
 have RO:=cY L.V.a G.r G.lt (ao q);have hle:=(n7 L.V.a G).2;have hkl:=nI v q;obtain ⟨GK,hK⟩:=zW L.V G;have R:=L.Ic G.r G.lt hs (n:=ao q) (R:=(aV v q).cols.length) (fun c hc=>zG v q hc) (kN (by omega)) (ao q) (ak _);have sR:il (gI 2 (aV v q).cols.length) (aV v q).rows:=R.1;have sK:il (gI 2 (aV v q).cols.length) (bJ v q):=fun j i=>EY (p:=ay (gI 2 (aV v q).cols.length)) (bn sR.pos) (ft (Nat.le_trans jD sR.pos)) (fun r c=>(ug (RO.lt r c) (sR r c)).2) j i;refine⟨sK,fun c hc=>?_,Nat.le_trans (dN (show (aV v q).cols.length≤4 by omega)) (by decide)⟩;have ROK:=fun c=>cY L.V.a GK.r GK.lt c;exact(L.Ic GK.r GK.lt sK (n:=ao (bJ v q)) (R:=(bJ v q).length) (fun c hc=>by have h1:=(ROK c).cm;exact h1) (by rw[E'];exact kN (by omega)) c (by omega)).2.2 hc
theorem AG{v:List NQ}{q:a6}(L:Lo v)(G:rq v q)(hs:il 2 q)(hl4:q.length≤4)(hc4:ao q≤4):Pure Tryz.prog 40 [bt v,aX q,.ag [bT (aB v (bu q) q.length).cols,bT (aV v q).cols,aX (bJ v q)]] (.tu [dB true,aP]):=by
 have hle:=n7 L.V.a G;have hkl:=nI v q;have hrr:=(lz L.V G).2;obtain ⟨GK,hK⟩:=zW L.V G;obtain ⟨sK,okK,hS⟩:=Cu L G hs hc4;have hGKc:=GK.c
 have ce:=iC (v:=v) (q:=q) (rows:=BF (aB v (bu q) q.length).cols) (cols:=BF (aV v q).cols) (ker:=nq (bJ v q)) (by rw[qC];omega) (by rw[qC];omega) (by rw[np];omega) (fun i=>by
  rw[lA,ae];by_cases h:i<(bJ v q).length
  · rw[GK.r i h];omega
  · rw[gk (by omega)];exact Nat.zero_le _) (by omega) (by omega) (fun i k=>by
  rw[uc,EG L.V (GK.lt i k),pg]
  exact qz L.V.a (GK.lt i k) (L.sg (GK.lt i k) (sK i k) (by omega)))
 rw[De L.V G] at ce
 rw[show CertD (BF (aB v (bu q) q.length).cols) (BF (aV v q).cols) (nq (bJ v q))= .ag [bT (aB v (bu q) q.length).cols,bT (aV v q).cols,aX (bJ v q)] from by
  show D.ag [IvD _,IvD _,MxR _]=_
  rw[HJ,HJ,x6]] at ce
 have c1:=jI v (bu q) q.length;have c2:=jI v q (ao q);change ∀x∈(aV v q).cols,x<ao q at c2;have hacc:=GI L.V G;generalize hrn:(aB v (bu q) q.length).cols=rn at *;generalize hcn:(aV v q).cols=cn at *;have ml:=dS q rn cn;have mr:bk (aJ q rn cn).length (aJ q rn cn):=by rw[ml,hrr];exact gJ q rn cn
 have mt:jC v.length (aJ q rn cn):=fD (p:=aC v.length) (bm _) G.lt rn cn;have ms:il 2 (aJ q rn cn):=fD (p:=ay 2) (bn (by decide)) hs rn cn;have mg:gI 2 (aJ q rn cn).length≤100000000000:=kN (by omega);have D:=L.cE mr mt ms mg;have dt:=fun i j (hi:i<q.length)=>L.dot (xs:=q.getD i []) (ys:=(bJ v q).getD j []) (G.lt i) (GK.lt j) (hs i) (sK j) (n:=(q.getD i []).length) (by rw[G.r i hi];omega) (by omega)
 have h:=kK L.V.a (oy L G hs) ce (by omega) (by omega) G.r (by omega) (by omega) (by omega) (fun i hi=>c1 _ (by
   rw[aE,a8 hi];exact List.getElem_mem hi)) (fun k hk=>c2 _ (by
   rw[aE,a8 hk];exact List.getElem_mem hk)) (yO L (by omega) mr mt ms mg) D.1 (L.sg D.1 D.2 (by omega))
  (fun i j hi hj=>oR L.V.a (G.lt i) (GK.lt j) (by rw[G.r i hi,GK.r j hj,hK (by omega)];exact ak _) (by rw[G.r i hi];omega) (dt i j hi).1)
  (fun i j hi hj=>gl L.V.a (G.lt i) (GK.lt j) _)
  (fun i j hi hj=>L.sg (gl L.V.a (G.lt i) (GK.lt j) _) (dt i j hi).2 (by
   rw[G.r i hi];have:ao q*(2*(2+gI 2 cn.length)+4)≤4*(2*(2+gI 2 cn.length)+4):=Nat.mul_le_mul hc4 (ak _)
   omega))
  (eg L.V.a (most:=ao (bJ v q)) (by omega) (by omega) (ak _) GK.r GK.lt okK)
 rw[hacc] at h;exact h
theorem tz{v:List NQ}{q kq:a6}{rn cn:List Nat}(L:Lo v)(G:rq v q)(hs2:il 2 q)(hl4:q.length≤4)(hc4:ao q≤4)(Gk:rq v kq)(sk:il 2 kq)(hk4:kq.length≤4)(hkc4:ao kq≤4)(hkc:0<kq.length→ao kq=ao q)(h4:rn.length≤4)(hsq:cn.length=rn.length)(hrn: ∀i,i<rn.length→rn.getD i 0<q.length)(hcn: ∀k,k<cn.length→cn.getD k 0<ao q)
  (cc:Pure Tryz.prog 21 [bt v,aX q] (dI (0:Nat))) (ce:Pure Tryz.prog 39 [bt v,aX q,.ag [bT rn,bT cn,aX kq]] (dI (0:Nat))):Pure Tryz.prog 43 [bt v,aX q,.ag [bT rn,bT cn,aX kq]] (.tu [dB (wx v q rn cn kq),dI (0:Nat)]):=by
 obtain ⟨F⟩:=qR L.V;have ml:=dS q rn cn;have mr:bk (aJ q rn cn).length (aJ q rn cn):=by rw[ml,← hsq];exact gJ q rn cn
 have mt:jC v.length (aJ q rn cn):=fD (p:=aC v.length) (bm _) G.lt rn cn;have ms:il 2 (aJ q rn cn):=fD (p:=ay 2) (bn (by decide)) hs2 rn cn;have mg:gI 2 (aJ q rn cn).length≤100000000000:=kN (by omega);have D:=L.cE mr mt ms mg;have E:=IC L mr mt ms (by omega);have m2:2≤gI 2 (aJ q rn cn).length:=dN (k:=2) (Nat.zero_le _);have cz:=je L.V E.1 E.2 m2 (me L.l1 (by omega))
 have hz:decide (fi v (DI v (aJ q rn cn))=0)=decide (fi v (jk v (aJ q rn cn))=0):=by
  refine decide_eq_decide.2 ?_;rw[F.sg E.1,F.sg D.1,Hf L.V.a F mr mt]
 rw[hz] at cz;have dt:=fun i j (hi:i<q.length) (n:Nat) (hn:n≤(q.getD i []).length)=>(L.dot (xs:=q.getD i []) (ys:=kq.getD j []) (G.lt i) (Gk.lt j) (hs2 i) (sk j) (n:=n) (by rw[G.r i hi] at hn;omega) (by decide)).2
 have dts: ∀i j n,i<q.length→n≤(q.getD i []).length→ay 100 (eD v (q.getD i []) (kq.getD j []) n):=fun i j n hi hn=>(dt i j hi n hn).mono (by
  rw[G.r i hi] at hn;have:n*(2*(2+2)+4)≤4*(2*(2+2)+4):=Nat.mul_le_mul (by omega) (ak _)
  omega)
 have s2:=uP L.l1 2
 exact uZ cc ce (by omega) (by omega) G.r (by omega) (fun j hj=>by rw[Gk.r j hj,hkc (by omega)]) (by omega) (by omega) hrn hcn (Bm L (by omega) mr mt ms) cz
  (fun i j k hi hj hk=>ns L.V (G.lt i k) (hs2 i k) (Gk.lt j k) (sk j k) (ak _) (by omega))
  (fun i j k hi hj hk=>Er L.V (gl L.V.a (G.lt i) (Gk.lt j) k) (dts i j k hi (by omega)) (ja L.V.a (G.lt i k) (Gk.lt j k)) ((L.mul (G.lt i k) (hs2 i k) (Gk.lt j k) (sk j k) (by decide)).2.2.mono (by decide)) (by decide))
  (fun i j hi hj=>je L.V (gl L.V.a (G.lt i) (Gk.lt j) _) (dts i j _ hi (ak _)) (by decide) (me L.l1 (by decide)))
  (j9 L (N:=ao kq) (by omega) (by omega) Gk.r Gk.lt sk)
end Lift
namespace Lift
open Go Go.Proofs
theorem tJ{rt:List (List RD)}{a:List (List (List RD))}{rows cols:List Int}{ker:List (List (List RD))}(cl:Pure Tryz.prog 10 [TrD rt] (dB false)):Pure Tryz.prog 9 [TrD rt,MxR a,CertD rows cols ker] (dB true):=by
 have ca:=ei;refine qJ 137 Tryz.func9 rfl rfl rfl rfl (by kernel_rfl) (fun B F0 w0=>?_);refine qX 3 rfl ?_;refine qI (qX 1 rfl ?_);refine ab.call tok rfl rfl rfl rfl cl ?_;refine qU 28 rfl ?_;refine ab.nil ?_;refine AW.aL rfl ?_
 · skip
   refine AW.seq (AW.region ?_);refine ab.call tok rfl rfl rfl rfl ca ?_;refine qU 1 rfl ?_;exact qN rfl
theorem tI{rt:List (List RD)}{a:List (List (List RD))}{rows cols:List Int}{ker:List (List (List RD))}(cl:Pure Tryz.prog 10 [TrD rt] (dB true))(cs:Pure Tryz.prog 11 [MxR a] (dB false)):Pure Tryz.prog 9 [TrD rt,MxR a,CertD rows cols ker] (dB true):=by
 have ca:=ei;refine qJ 137 Tryz.func9 rfl rfl rfl rfl (by kernel_rfl) (fun B F0 w0=>?_);refine qX 3 rfl ?_;refine qI (qX 1 rfl ?_);refine ab.call tok rfl rfl rfl rfl cl ?_;refine qU 3 rfl ?_;refine ab.call tok rfl rfl rfl rfl cs ?_;refine qU 24 rfl ?_;refine ab.nil ?_;refine AW.aL rfl ?_
 · skip
   refine AW.seq (AW.region ?_);refine ab.call tok rfl rfl rfl rfl ca ?_;refine qU 1 rfl ?_;exact qN rfl
theorem tH{rt:List (List RD)}{a:List (List (List RD))}{rows cols:List Int}{ker:List (List (List RD))}(cl:Pure Tryz.prog 10 [TrD rt] (dB true))(cs:Pure Tryz.prog 11 [MxR a] (dB true))(ck:Pure Tryz.prog 11 [MxR ker] (dB false)):Pure Tryz.prog 9 [TrD rt,MxR a,CertD rows cols ker] (dB true):=by
 have ca:=ei;refine qJ 137 Tryz.func9 rfl rfl rfl rfl (by kernel_rfl) (fun B F0 w0=>?_);refine qX 3 rfl ?_;refine qI (qX 1 rfl ?_);refine ab.call tok rfl rfl rfl rfl cl ?_;refine qU 3 rfl ?_;refine ab.call tok rfl rfl rfl rfl cs ?_;refine qU 5 rfl ?_;refine ab.call tok rfl rfl rfl rfl ck ?_;refine qU 18 rfl ?_;refine ab.nil ?_;refine AW.aL rfl ?_
 · skip
   refine AW.seq (AW.region ?_);refine ab.call tok rfl rfl rfl rfl ca ?_;refine qU 1 rfl ?_;exact qN rfl
theorem tG{rt:List (List RD)}{a:List (List (List RD))}{rows cols:List Int}{ker:List (List (List RD))}(h0: ¬(rows.length≤10∧cols.length≤10))(cl:Pure Tryz.prog 10 [TrD rt] (dB true))(cs:Pure Tryz.prog 11 [MxR a] (dB true))(ck:Pure Tryz.prog 11 [MxR ker] (dB true)):Pure Tryz.prog 9 [TrD rt,MxR a,CertD rows cols ker] (dB true):=by
 have ca:=ei;refine qJ 137 Tryz.func9 rfl rfl rfl rfl (by kernel_rfl) (fun B F0 w0=>?_);refine qX 3 rfl ?_;refine qI (qX 1 rfl ?_);refine ab.call tok rfl rfl rfl rfl cl ?_;refine qU 3 rfl ?_;refine ab.call tok rfl rfl rfl rfl cs ?_;refine qU 5 rfl ?_;refine ab.call tok rfl rfl rfl rfl ck ?_;refine qU 6 rfl ?_;rw[ae];refine qU 1 rfl ?_;by_cases h1:rows.length≤10;rotate_left
 · rw[aN (show (10:Int)<(rows.length:Int) by omega)];refine qU 11 rfl ?_;refine ab.nil ?_;refine AW.aL rfl ?_;refine AW.seq (AW.region ?_);refine ab.call tok rfl rfl rfl rfl ca ?_;refine qU 1 rfl ?_;exact qN rfl
 rw[aO (show ¬(10:Int)<(rows.length:Int) by omega)];refine qU 5 rfl ?_;rw[ae];refine qU 1 rfl ?_;rw[aN (show (10:Int)<(cols.length:Int) by omega)];refine qU 5 rfl ?_;refine ab.nil ?_;refine AW.aL rfl ?_
 · skip
   refine AW.seq (AW.region ?_);refine ab.call tok rfl rfl rfl rfl ca ?_;refine qU 1 rfl ?_;exact qN rfl
theorem rh(x:Int):(x != x)=false:=bne_eq_false_iff_eq.2 rfl
theorem vI{rt:List (List RD)}{a:List (List (List RD))}{rows cols:List Int}{ker:List (List (List RD))}{e f:Nat}{b:Bool}(he:e≠0)(h0:rows.length≤10)(h1:cols.length≤10)(cl:Pure Tryz.prog 10 [TrD rt] (dB true))(cs:Pure Tryz.prog 11 [MxR a] (dB true))(ck:Pure Tryz.prog 11 [MxR ker] (dB true))
  (cX:Pure Tryz.prog 41 [TrD rt,MxR a] (.tu [.ag [bT [],bT [],aX []],tR e])) (cA:Pure Tryz.prog 40 [TrD rt,MxR a,CertD rows cols ker] (.tu [dB b,tR f])) (dX:Pure Tryz.prog 42 [TrD rt,MxR a] (.tu [.ag [bT [],bT [],aX []],dI (e:Nat)])) (dA:Pure Tryz.prog 43 [TrD rt,MxR a,CertD rows cols ker] (.tu [dB b,dI (f:Nat)])):Pure Tryz.prog 9 [TrD rt,MxR a,CertD rows cols ker] (dB true):=by
 have cn1:=kQ e;have cn2:=kQ f;have ca:=ei;refine qJ 137 Tryz.func9 rfl rfl rfl rfl (by kernel_rfl) (fun B F0 w0=>?_);refine qX 3 rfl ?_;refine qI (qX 1 rfl ?_);refine ab.call tok rfl rfl rfl rfl cl ?_;refine qU 3 rfl ?_;refine ab.call tok rfl rfl rfl rfl cs ?_;refine qU 5 rfl ?_;refine ab.call tok rfl rfl rfl rfl ck ?_;refine qU 6 rfl ?_;rw[ae];refine qU 1 rfl ?_;rw[aO (show ¬(10:Int)<(rows.length:Int) by omega)];refine qU 5 rfl ?_;rw[ae];refine qU 1 rfl ?_;rw[aO (show ¬(10:Int)<(cols.length:Int) by omega)];refine qU 2 rfl ?_;refine ab.call tok rfl rfl rfl rfl ca ?_;refine qU 2 rfl ?_;refine ab.nil ?_;refine AW.aA rfl ?_
 · skip
   refine AW.skip (qX 2 rfl ?_);refine ab.call tok rfl rfl rfl rfl cX ?_;refine qU 6 rfl ?_;refine qK 3 rfl ?_;refine ab.call tok rfl rfl rfl rfl cA ?_;refine qU 5 rfl ?_;refine qK 2 rfl ?_;refine ab.call tok rfl rfl rfl rfl dX ?_;refine qU 6 rfl ?_;refine qK 3 rfl ?_;refine ab.call tok rfl rfl rfl rfl dA ?_;refine qU 5 rfl ?_;refine qI (qX 1 rfl ?_);refine ab.call tok rfl rfl rfl rfl cn1 ?_;refine qU 2 rfl ?_;rw[rh];refine qU 2 rfl ?_;refine ab.call tok rfl rfl rfl rfl cn2 ?_;refine qU 2 rfl ?_;rw[rh];refine qU 4 rfl ?_;refine ab.be tok rfl rfl rfl rfl ?_;rw[beq_self_eq_true];refine qU 1 rfl ?_;refine ab.nil ?_;refine AW.aA rfl ?_
   · skip
     refine AW.skip (AW.seq ?_);refine qX 2 rfl ?_;rw[bne_iff_ne.2 (show (e:Int)≠0 by omega)];refine ab.nil ?_;refine AW.aL rfl ?_
     · skip
       refine qX 13 rfl ?_;exact qN rfl
theorem vJ{rt:List (List RD)}{a:List (List (List RD))}{rows cols:List Int}{ker:List (List (List RD))}{f:Nat}{b:Bool}{rn cn:List Nat}{K:a6}(hr:rn.length≤1000000)(hc:cn.length≤1000000)(h0:rows.length≤10)(h1:cols.length≤10)(cl:Pure Tryz.prog 10 [TrD rt] (dB true))(cs:Pure Tryz.prog 11 [MxR a] (dB true))(ck:Pure Tryz.prog 11 [MxR ker] (dB true))
  (cX:Pure Tryz.prog 41 [TrD rt,MxR a] (.tu [.ag [bT rn,bT cn,aX K],tR 0])) (cA:Pure Tryz.prog 40 [TrD rt,MxR a,CertD rows cols ker] (.tu [dB b,tR f])) (dX:Pure Tryz.prog 42 [TrD rt,MxR a] (.tu [.ag [bT rn,bT cn,aX K],dI (0:Nat)])) (dA:Pure Tryz.prog 43 [TrD rt,MxR a,CertD rows cols ker] (.tu [dB b,dI (f:Nat)])) (cO:Pure Tryz.prog 40 [TrD rt,MxR a,.ag [bT rn,bT cn,aX K]] (.tu [dB true,aP])) (ce:Pure Tryz.prog 22 [TrD rt,aX K,aX K] (dB true)):Pure Tryz.prog 9 [TrD rt,MxR a,CertD rows cols ker] (dB true):=by
 have cn1:=kQ 0;have cn2:=kQ f;have ci1:=kX rn rn hr;have ci2:=kX cn cn hc;rw[aN rfl] at ci1 ci2;have ca:=ei;refine qJ 137 Tryz.func9 rfl rfl rfl rfl (by kernel_rfl) (fun B F0 w0=>?_);refine qX 3 rfl ?_;refine qI (qX 1 rfl ?_);refine ab.call tok rfl rfl rfl rfl cl ?_;refine qU 3 rfl ?_;refine ab.call tok rfl rfl rfl rfl cs ?_;refine qU 5 rfl ?_;refine ab.call tok rfl rfl rfl rfl ck ?_;refine qU 6 rfl ?_;rw[ae];refine qU 1 rfl ?_;rw[aO (show ¬(10:Int)<(rows.length:Int) by omega)];refine qU 5 rfl ?_;rw[ae];refine qU 1 rfl ?_;rw[aO (show ¬(10:Int)<(cols.length:Int) by omega)];refine qU 2 rfl ?_;refine ab.call tok rfl rfl rfl rfl ca ?_;refine qU 2 rfl ?_;refine ab.nil ?_;refine AW.aA rfl ?_
 · skip
   refine AW.skip (qX 2 rfl ?_);refine ab.call tok rfl rfl rfl rfl cX ?_;refine qU 6 rfl ?_;refine qK 3 rfl ?_;refine ab.call tok rfl rfl rfl rfl cA ?_;refine qU 5 rfl ?_;refine qK 2 rfl ?_;refine ab.call tok rfl rfl rfl rfl dX ?_;refine qU 6 rfl ?_;refine qK 3 rfl ?_;refine ab.call tok rfl rfl rfl rfl dA ?_;refine qU 5 rfl ?_;refine qI (qX 1 rfl ?_);refine ab.call tok rfl rfl rfl rfl cn1 ?_;refine qU 2 rfl ?_;rw[rh];refine qU 2 rfl ?_;refine ab.call tok rfl rfl rfl rfl cn2 ?_;refine qU 2 rfl ?_;rw[rh];refine qU 4 rfl ?_;refine ab.be tok rfl rfl rfl rfl ?_;rw[beq_self_eq_true];refine qU 1 rfl ?_;refine ab.nil ?_;refine AW.aA rfl ?_
   · skip
     refine AW.skip (AW.seq ?_);refine qX 2 rfl ?_;refine ab.nil ?_;refine AW.aA rfl ?_
     · skip
       refine AW.skip (qX 3 rfl ?_);refine ab.call tok rfl rfl rfl rfl cO ?_;refine qU 5 rfl ?_;refine qK 1 rfl ?_;refine ab.err tok rfl rfl rfl rfl rfl ?_;refine qU 8 rfl ?_;refine ab.call tok rfl rfl rfl rfl ci1 ?_;refine qU 6 rfl ?_;refine ab.call tok rfl rfl rfl rfl ci2 ?_;refine qU 7 rfl ?_;refine ab.call tok rfl rfl rfl rfl ce ?_;refine qU 2 rfl ?_;exact qN rfl
theorem law10_Certifies_ok(rt:List (List RD))(a:List (List (List RD)))(rows cols:List Int)(ker:List (List (List RD)))(n1:Nb2 rt)(n2:Nb3 a)(n3:Nb3 ker)(hr:rows.length≤140737488355328)(hc:cols.length≤140737488355328):Pure Tryz.prog 9 [TrD rt,MxR a,CertD rows cols ker] (dB true):=by
 have cl:=yC rt n1;have cs:=nF a n2;have ck:=nF ker n3;by_cases hl:Ah rt=true;rotate_left
 · simp only[Bool.not_eq_true] at hl;rw[hl] at cl;exact tJ cl
 rw[hl] at cl;by_cases hs:pd a=true;rotate_left
 · simp only[Bool.not_eq_true] at hs;rw[hs] at cs;exact tI cl cs
 rw[hs] at cs;by_cases hk:pd ker=true;rotate_left
 · simp only[Bool.not_eq_true] at hk;rw[hk] at ck;exact tH cl cs ck
 rw[hk] at ck;by_cases h10:rows.length≤10∧cols.length≤10;rotate_left
 · exact tG h10 cl cs ck
 have T:=(Cw hl n1).1;have cc:=gi T (l3 (rt:=rt) hs n2).1;have dc:=ya T (l3 (rt:=rt) hs n2).1;by_cases h0:nB rt a=0;rotate_left
 · exact vI h0 h10.1 h10.2 cl cs ck (pD h0 cc) (pE h0 cc ⟨_,_,_,rfl⟩) (tB h0 dc) (tC h0 dc ⟨_,_,_,rfl⟩)
 have A:=IU hl n1 hs n2 h0;rw[h0] at cc dc
 have hc0:du rt=0:=by
  have h:=h0;unfold nB at h;split at h
  · rename_i g;exact absurd h g
  · omega
 have hvl:=A.vl;have L:=A.L;have G:=A.G;have hAl:=A.l4;have hAc:=A.c4;have hsA:=A.s;obtain ⟨K,k4,kr4⟩:=l3 (rt:=rt) hk n3;have hKl:=K.l
 have ce:Pure Tryz.prog 39 [TrD rt,MxR a,CertD rows cols ker] (dI (o6 rt.length (b9 a) rows cols ker)):=by
  have h:=rK (v:=rt.map bb) (q:=b9 a) (rows:=rows) (cols:=cols) (ker:=ker) hr hc (by omega) (fun i=>by
   have hkr:=K.r i;have h:=sO (rt:=rt) (b:=ker.getD i []) (by omega) (fun k=>iY rt.length _ (lQ hc0).1 (K.n i k).w (by decide) (K.n i k).l);rw[A.t] at h;rw[hvl]
   exact h)
  rw[hvl] at h;rw[A.t,A.m];exact h
 have certc:=iC (v:=rt.map bb) (q:=b9 a) (rows:=rows) (cols:=cols) (ker:=ker) hr hc (by omega) (fun i=>by have:=K.r i;omega) (by omega) (by omega) (fun i k=>Bw T hc0 A.t hvl (K.n i k));rw[hvl] at certc
 have cAd: ∃(b:Bool) (f:Nat),Pure Tryz.prog 40 [TrD rt,MxR a,CertD rows cols ker] (.tu [dB b,tR f])∧Pure Tryz.prog 43 [TrD rt,MxR a,CertD rows cols ker] (.tu [dB b,dI f]):=by
  by_cases hz:o6 rt.length (b9 a) rows cols ker=0;rotate_left
  · refine⟨false,_,pG hz cc ?_,tD hz dc ce⟩;rw[A.t,A.m];exact certc
  obtain ⟨z1,z2,z3,z4,z5,z6,z7⟩:=DC hz;rw[hz] at ce certc;obtain ⟨Gk,sk,ek,hkc,hkc4⟩:=G0 K (fun i hi=>(z6 i hi).1) (fun i hi=>(z6 i hi).2) hAc (k4 z7);obtain ⟨er,hrn⟩:=EI z2;obtain ⟨ec,hcn⟩:=EI z3;have lr:=CX z2 z4;have lc:=CX z3 z5;have hkq:(b9 ker).length≤4:=by rw[gd];exact k4 z7
  have hrl:(rows.map Int.toNat).length=rows.length:=ae ..;have hcl:(cols.map Int.toNat).length=cols.length:=ae ..
  have eC:CertD rows cols ker= .ag [bT (rows.map Int.toNat),bT (cols.map Int.toNat),aX (b9 ker)]:=by
   show D.ag [IvD rows,IvD cols,MxR ker]=_;rw[er,ec,ek]
  rw[eC] at certc ce;have hkm:=gd ker;obtain ⟨cA,_⟩:=AH L G hsA hAl hAc Gk sk hkq hkc4 (fun h=>hkc (by omega)) (by omega) (by omega) hrn hcn certc;rw[A.t,A.m] at dc ce;have dA:=tz L G hsA hAl hAc Gk sk hkq hkc4 (fun h=>hkc (by omega)) (by omega) (by omega) hrn hcn dc ce;rw[A.t,A.m,eC];exact⟨_,0,cA,dA⟩
 obtain ⟨b,f,cA,dA⟩:=cAd;have RO:=cY L.V.a G.r G.lt (ao (b9 a));have R:=L.red G.r G.lt hsA (kN (show ao (b9 a)≤5 by omega));have g:=kN (show ao (b9 a)≤5 by omega);have hlt:=jI (rt.map bb) (b9 a) (ao (b9 a))
 have hgt: ∀r,r<(aV (rt.map bb) (b9 a)).cols.length→(aV (rt.map bb) (b9 a)).cols.getD r 0<ao (b9 a):=fun r hr=>by
  rw[aE,a8 hr];exact hlt _ (List.getElem_mem hr)
 have hcm:(aV (rt.map bb) (b9 a)).cols.length≤(aV (rt.map bb) (b9 a)).rows.length:=by have h1:=RO.cm;have h2:=RO.len;show (aB _ _ _).cols.length≤(aB _ _ _).rows.length;omega
 have hle:=n7 L.V.a G;have hrr:=(lz L.V G).2;have ci:=iB L.V.a G (L.red (fm _) (jb G.lt) (Cd hsA) (kN (show (b9 a).length≤5 by omega))).1;have cr:=eg L.V.a (most:=ao (b9 a)) (by omega) (by omega) (ak _) G.r G.lt R.1;have ckk:=rX L.V.a (n:=ao (b9 a)) (rows:=(aV (rt.map bb) (b9 a)).rows) (cols:=(aV (rt.map bb) (b9 a)).cols) (sg:=(aV (rt.map bb) (b9 a)).sg) (cE:=(aV (rt.map bb) (b9 a)).cE) (by omega) RO.rect RO.lt (fun r c=>((R.2.1 _ (ak _)) r c).mono (by omega)) hgt hcm (by omega);have cX:=qA (oy L G hsA) ci cr ckk;have dr:=j9 L (N:=ao (b9 a)) (by omega) (by omega) G.r G.lt hsA;have dk:=wK (rows:=(aV (rt.map bb) (b9 a)).rows) (cols:=(aV (rt.map bb) (b9 a)).cols) (sg:=(aV (rt.map bb) (b9 a)).sg) (cE:=(aV (rt.map bb) (b9 a)).cE) L.V (by omega) dr RO.rect RO.lt (R.2.1 _ (ak _)) (by omega) hgt hcm (by omega);have dd:=rJ (v:=rt.map bb) (a:=b9 a) (by omega) (fun i=>(aB (rt.map bb) ((b9 a).take i) (ao (b9 a))).cols) (fun i=>(aB (rt.map bb) ((b9 a).take i) (ao (b9 a))).rows.take (aB (rt.map bb) ((b9 a).take i) (ao (b9 a))).cols.length) (fun i _=>j9 L (by omega) (by rw[aT];omega) (G.r.take i) (G.lt.take i) (Ge hsA i));rw[← Ej L.V G] at dd;rw[A.t,A.m] at dc;have dX:=uY dc dd dr dk;have cO:=AG L G hsA hAl hAc;obtain ⟨sK,_,hS⟩:=Cu L G hsA hAc;obtain ⟨GK,hK⟩:=zW L.V G;have hkl:=nI (rt.map bb) (b9 a);have hGKc:=GK.c
 have ceq:=vH (rt:=rt) (ks:=bJ (rt.map bb) (b9 a)) (by omega) (fun i hi=>by
  obtain ⟨F⟩:=qR L.V;have h:=x9 (xs:=(bJ (rt.map bb) (b9 a)).getD i []) (ys:=(bJ (rt.map bb) (b9 a)).getD i []) L rfl (by rw[GK.r i hi];omega) (GK.lt i) (GK.lt i) (sK i) (sK i) (by omega) (fun j hj=>F.eq.2 rfl);rw[← A.t] at h
  exact h)
 rw[← A.t,← A.m] at cX dX cO;exact vJ (Nat.le_trans (Nat.le_of_eq hrr) (Nat.le_trans hle.1 (by omega))) (Nat.le_trans hle.1 (by omega)) h10.1 h10.2 cl cs ck cX cA dX dA cO ceq
end Lift

