/- Parts of the proof, one behind the other: the logic, the contracts of the functions that the statement reaches. -/
import Derived.Test.YtebpenldlefgjaaGreatM6B
import Derived.Laws.Strings
import Derived.Test.YtebpenldlefgjaaGreatRows
import Derived.OrdersHeld
import Derived.OrdersIn
import Derived.TacticsIn
import Derived.RangeFuncCalls
import Derived.RangeFuncKeeps
set_option linter.unusedVariables false
set_option linter.unusedSimpArgs false
set_option maxHeartbeats 4000000
open Array renaming getElem?_eq_some_iff→a3,replicate→c4,mapM_eq_mapM_toList→en,ext'→eq
open BitVec renaming ofInt→g8,toNat_ofNat→ii
open Bool renaming eq_iff_iff→an,and_eq_true→f9,or_eq_true→jr
open Go renaming sizeOf→hU
open Go.Addr renaming add_lit→km
open Go.Addr.mk renaming injEq→jg
open Go.Builtin renaming copy_→eN,lenOf→jb,len_→jp
open Go.ByteArray renaming toList_eq→g7
open Go.Call renaming operands→g6
open Go.Instr renaming sureAddr→gB,loadAt→kk
open Go.IntKind renaming u32→cB,i64→e6,signed→i7,bits→jo,min→j2,max→j3
open Go.Op renaming operands→c7
open Go.Oper renaming wp→i4,upon→ja
open Go.Region renaming wanted→cS,ready→c0,noSelect→ep,free→f4
open Go.Result renaming andThen_ok→cN
open Go.Sem renaming run_bind→dl,run_pure→d9,run_map→ik
open Go.Value.pointer renaming injEq→ga
open Go.WideShapes renaming bytes_inj→e9
open Int renaming natCast_nonneg→aa,toNat_natCast→cA,le_refl→dj,natAbs_natCast→ek,natCast_add→gy,sub_eq_add_neg→i8,mul_ne_zero→j'
open List renaming getD_eq_getElem?_getD→ab,length_map→am,getElem?_eq_getElem→az,getElem?_eq_some_iff→a0,length_take→bn,getElem?_append_right→cb,getElem?_append_left→cd,take_of_length_le→ce,replicate→cg,length_pos_iff→cp,mem_cons→cr,getElem?_set_self→cz,length_eq_zero_iff→cC,getElem?_eq_none→cJ,getElem?_set_ne→c6,mem_nil_iff→c8,length_append→di,take_append_drop→dx,length_drop→dz,mem_of_mem_take→d5,mem_of_getElem?→d6,drop_zero→ea,all_eq_true→eo,length_replicate→eE,nodup_nil→eL,findIdx?_eq_some_iff_getElem→e4,getElem?_map→e5,take_length→f7,getElem_mem→f8,map_append→gc,pairwise_iff_getElem→gM,getElem?_take_of_lt→g5,getElem?_replicate→g9,mem_map→g',mem_iff_getElem→hW,map→hZ,getElem?_append→ie,range→ix,mem_singleton→i0,getElem?_take→i1,getElem?_drop→i2,all_eq_false→i6,nodup_cons→jj,nil_append→jk,length_set→jn,take_zero→jt,takeWhile→j0,mapM_cons→j1,map_take→kd,map_drop→kh,idxOf?→k'
open Nat renaming le_refl→ap,zero_le→a4,le_trans→bi,le_of_ble_eq_true→bv,le_max_right→bz,pow_succ→b0,gcd→b3,le_max_left→b8,pow_le_pow_right→ch,eq_zero_or_pos→ci,mod_eq_of_lt→co,lt_or_ge→ct,lt_of_lt_of_le→cI,eq_of_beq_eq_true→cM,mul_add→c3,ble→c5,mul_le_mul_left→c9,pow_le_pow_iff_right→c',beq→dn,log2_two_pow→dM,div_eq_of_lt→d0,mul_assoc→d4,two_pow_pos→d7,mod_lt→ef,lt_of_le_of_lt→ej,ne_of_beq_eq_false→eu,gcd_comm→ew,add_zero→ey,min_eq_left→eA,gcd_le_left→eB,pow_mul→eX,pow_add→eY,add_assoc→e0,gcd_zero_left→f6,mul_one→gb,mul_add_mod→gs,mul_add_div→gt,div_le_self→gx,mul_zero→hD,min→hH,div_div_eq_div_mul→hN,pow_pos→io,pow_one→ip,mul_le_mul_right→it,pos_of_ne_zero→i5,zero_add→kw,pow_zero→k0,mul_comm→k4
open Ne renaming symm→dr
open Option renaming map_some→c1,map_eq_some_iff→gR
open Option.some renaming injEq→cw
open Prod.mk renaming injEq→i9
open Rat renaming divInt→cT,divInt_eq_div→f5,num_eq_zero→go,num_divInt_den→i3,intCast_mul→js
namespace Lift
open Go Go.Proofs
variable {A B l:List Nat}{c i k m n v x y:Nat}{f:Nat→Nat}
theorem Bj(a b:List Nat)(ha:bc a)(hb:bc b)(hla:a.length≤17450000000000)(hlb:b.length≤17450000000000):Pure Tryz.prog 195 [Wd a,Wd b] (Wd (tw (nv a*nv b))):=by
 refine qJ 68 Tryz.func195 rfl fun B F0 w0=>?_;refine qX 1 rfl<|qK 5 rfl ?_;refine ae.qv tok (a.length+b.length) rfl rfl rfl rfl rfl rfl (by simp only[am];rw[aD (by omega) (by omega)];omega) rfl (by omega) ?_;refine qU 1 rfl<|qI<|qX 3 rfl ?_;rw[bf a];refine ae.nil<|AW.block ?_
 refine AW.aK [0,1,5,17,18] (fun s:Nat×List Nat=>[(0,.d (Wd a)),(1,.d (Wd b)),(5,.ow 117 (s.2.map wd)),(17,.d (dI a.length)),(18,.d (dI s.1))])
  (fun s=>s.1≤a.length∧s.2.length=a.length+b.length∧bc s.2∧(∀j,s.1+b.length≤j→s.2.getD j 0=0)∧nv s.2=nv (a.take s.1)*nv b) (fun s=>a.length-s.1) (0,cg (a.length+b.length) 0) rfl ⟨a4 _,by simp,bc.replicate _,fun j _=>by simp[List.getD,g9];split<;>rfl,by simp[nv,jc]⟩ (fun (i,out) ⟨hi,hol,how,hz,hv⟩=>?_)
 simp only[]at hi hol how hz hv;refine qX 1 rfl<|qI<|AW.cond rfl (fun h=>?_) fun h=>?_
 ·have dm:i<a.length:=by have:=ao h;omega
  have hx:=ha.getD i;refine AW.skip<|AW.seq<|AW.block<|qX 2 rfl<|qK 1 rfl<|qI<|qX 3 rfl ?_;rw[bf b];refine ae.nil<|AW.block ?_
  refine AW.aK [0,1,5,17,18,6,7,22,23] (fun s:Nat×List Nat×Nat=>[(0,.d (Wd a)),(1,.d (Wd b)),(5,.ow 117 (s.2.1.map wd)),(17,.d (dI a.length)),(18,.d (dI i)),(6,.d (dI i)),(7,.d (dU s.2.2)),(22,.d (dI b.length)),(23,.d (dI s.1))])
   (fun s=>s.1≤b.length∧s.2.1.length=a.length+b.length∧bc s.2.1∧(∀j,i+b.length≤j→s.2.1.getD j 0=0)∧s.2.2<4294967296∧nv s.2.1+4294967296^(i+s.1)*s.2.2=nv (a.take i)*nv b+4294967296^i*(a.getD i 0*nv (b.take s.1))) (fun s=>b.length-s.1) (0,out,0) rfl ⟨a4 _,hol,how,hz,by simp,by simp[nv,hv]⟩ (fun (k,o,c) ⟨hk,hol,how,hz,hc,hv⟩=>?_)
  simp only[]at hk hol how hz hc hv;refine qX 1 rfl<|qI<|AW.cond rfl (fun h=>?_) fun h=>?_
  ·have hkN:k<b.length:=by have:=ao h;omega
   have hy:=hb.getD k;have ho:=how.getD (i+k);have hxy:a.getD i 0*b.getD k 0≤4294967295*4294967295:=Nat.mul_le_mul (by omega) (by omega);refine AW.skip<|AW.seq<|AW.block<|qX 2 rfl<|qI<|AW.draw aO 21 (by kernel_rfl) ?_;refine qP 2 rfl<|ai.idx tok (wd (a.getD i 0)) rfl rfl rfl rfl rfl (aa i) (bQ (by omega)) ?_;refine qP 4 rfl<|ai.idx tok (wd (b.getD k 0)) rfl rfl rfl rfl rfl (aa k) (bQ (by omega)) ?_;refine qP 7 rfl ?_;rw[aD (x:=(i:Int)+(k:Int)) (by omega) (by omega),←gy i k];refine ai.gI tok rfl rfl rfl rfl rfl rfl (aa (i+k)) (by simp;omega) ?_;refine ai.dE tok (wd (o.getD (i+k) 0)) rfl rfl rfl rfl rfl (bQ (by simp;omega)) rfl ?_;refine qP 4 rfl ?_;rw[gr (a.getD i 0) (by omega),gr (b.getD k 0) (by omega),LD (a.getD i 0) (b.getD k 0) (by omega),gr (o.getD (i+k) 0) (by omega),vQ _ (o.getD (i+k) 0) (by omega),vQ _ c (by omega)];refine ai.nil<|qU 1 rfl<|ae.nil ?_;obtain⟨S,hS0⟩: ∃S,S=a.getD i 0*b.getD k 0+o.getD (i+k) 0+c:=⟨_,rfl⟩;rw[←hS0];have hS:S=c+(a.getD i 0*b.getD k 0+o.getD (i+k) 0):=by omega
   refine qT 8 rfl ?_;rw[aD (x:=(i:Int)+(k:Int)) (by omega) (by omega),←gy i k,lf];refine ae.gI tok rfl rfl rfl rfl (aa (i+k)) (by simp;omega) ?_;refine ae.kx tok (S%4294967296) rfl rfl rfl (by simp;omega) (fK _) ?_;refine qU 1 rfl<|ae.nil<|qT 2 rfl ?_;rw[aD (by omega) (by omega)];refine ae.nil ?_;refine⟨(k+1,o.set (i+k) (S%4294967296),S/4294967296),rfl,⟨by omega,by simpa using hol,how.set _ (by omega),fun j hj=>?_,by show S/4294967296<4294967296;omega,?_⟩,by simp only[];omega⟩
   ·rw[fJ _ _ _ _ (by omega),af (by(try simp only[]at hj);omega)];exact hz j hj
   ·have h1:=iq (l:=o) (i:=i+k) (x:=S%4294967296) (by omega);have h2:=iy (4294967296^(i+k)) S;have h3:4294967296^(i+k)*S=4294967296^(i+k)*c+(4294967296^(i+k)*(a.getD i 0*b.getD k 0)+4294967296^(i+k)*o.getD (i+k) 0):=by rw[hS,c3,c3]
    have h4:4294967296^i*(a.getD i 0*(nv (b.take k)+4294967296^k*b.getD k 0))=4294967296^i*(a.getD i 0*nv (b.take k))+4294967296^(i+k)*(a.getD i 0*b.getD k 0):=by
     rw[eY];simp only[c3]
     congr 1
     ac_rfl
    simp only[aX b k];rw[h4,show i+(k+1)=i+k+1 by omega,b0];omega
  ·have hkN:k=b.length:=by have:=ar h;omega
   subst hkN;refine AW.exit<|qT 7 rfl ?_;rw[bf b,aD (x:=(i:Int)+(b.length:Int)) (by omega) (by omega),←gy i b.length];refine ae.gI tok rfl rfl rfl rfl (aa (i+b.length)) (by simp;omega) ?_;refine ae.kx tok (c%4294967296) rfl rfl rfl (by simp;omega) (fK _) ?_;refine ae.nil<|qT 2 rfl ?_;rw[aD (by omega) (by omega)];refine ae.nil ?_;refine⟨(i+1,o.set (i+b.length) (c%4294967296)),rfl,⟨by omega,by simpa using hol,how.set _ (by omega),fun j hj=>?_,?_⟩,by simp only[];omega⟩
   ·rw[fJ _ _ _ _ (by omega),af (by(try simp only[]at hj);omega)];exact hz j (by(try simp only[]at hj);omega)
   ·have h1:=iq (l:=o) (i:=i+b.length) (x:=c%4294967296) (by omega);rw[hz (i+b.length) (ap _),hD,ey,co hc,hv,ce (ap _)]at h1;simp only[aX a i];rw[co hc,h1,Nat.add_mul]
    ac_rfl
 ·have dm:i=a.length:=by have:=ar h;omega
  subst dm;rw[ce (ap _)]at hv;refine AW.exit<|qX 1 rfl<|ae.iu tok 5 rfl rfl ?_;refine qM rfl (iH out how (by omega)) ?_;refine qU 1 rfl<|ae.nil ?_;rw[hv];exact AW.ret rfl
theorem xr(L:List Nat)(lo m:Nat)(hL:bc L)(hlm:lo+m≤L.length)(hm:m≤35184372088831):
  FP Tryz.prog 205 117 (L.map wd) lo m [] (L.map wd) (.part lo (tw (nv (dW L lo m))).length):=by
 refine FP.intro (n:=21) tok Tryz.func205 rfl rfl rfl (bv rfl) (by kernel_rfl) rfl fun B F0 w0=>?_;obtain⟨a,ha0⟩: ∃a,a=dW L lo m:=⟨_,rfl⟩;have ha:bc a:=by rw[ha0];exact hL.dW _ _
 have hal:a.length=m:=by rw[ha0,bX hlm]
 have hag: ∀j,j<m→a.getD j 0=L.getD (lo+j) 0:=fun j hj=>by rw[ha0,ia _ _ _ _ hj]
 rw[←ha0];refine qX 1 rfl<|qI<|AW.block ?_;refine AW.aK [0] (fun k:Nat=>[(0,.wn true 117 (L.map wd) lo k)]) (fun k=>k≤m∧ ∀i,k≤i→a.getD i 0=0) (fun k=>k) m rfl ⟨ap _,fun i hi=>fA (by omega)⟩ fun k ⟨hk,hz⟩=>?_;refine AW.seq ?_;have hwl:(((L.map wd).drop lo).take k).length=k:=o8 (by omega);refine AW.cut [0,14] (fun b:Bool=>[(0,.wn true 117 (L.map wd) lo k),(14,.d (dB b))]) (fun b=>(b=true→0<k∧a.getD (k-1) 0=0)∧(b=false→k=0∨a.getD (k-1) 0≠0)) ?_ fun b ⟨ht,hf⟩=>?_
 ·refine qT 4 rfl ?_;rw[hwl];refine ae.split (t:=6) rfl (fun h=>?_) fun h=>?_
  ·have hk0:0<k:=by have:=ao h;omega
   obtain⟨j,rfl⟩: ∃j,k=j+1:=⟨k-1,by omega⟩;refine qU 4 rfl ?_;rw[hwl,aD (by omega) (by omega),show((j+1:Nat):Int) -1=(j:Int) by omega];refine ae.qh tok rfl rfl rfl rfl (aa j) (by simp only[cA];omega) ?_;rw[cA];refine ae.dE tok (wd (L.getD (lo+j) 0)) rfl rfl rfl rfl (bQ (by omega)) rfl ?_;refine qU 2 rfl<|ae.nil ?_;rw[←hag j (by omega)];exact⟨_,rfl,⟨fun h=>⟨by omega,by have:=ao h;simp at this;simpa using this⟩,fun h=>.inr (by simpa using h)⟩⟩
  ·have hk0:k=0:=by have:=ar h;omega
   refine qU 8 rfl<|ae.nil ?_;exact⟨_,rfl,⟨fun h=>by simp at h,fun h=>.inl hk0⟩⟩
 ·refine AW.cond rfl (fun h=>?_) (fun h=>?_)
  ·obtain⟨h0,h1⟩:=ht h;refine AW.skip<|AW.block<|qT 4 rfl ?_;rw[hwl,aD (by omega) (by omega),show(k:Int) -1=((k-1:Nat):Int) by omega];refine ae.Og tok rfl rfl rfl rfl trivial (aa _) (by simp only[gA,dm,cA];omega) (by simp only[dm,cA];omega) ?_;rw[show lo+gA none=lo from rfl,show dm k (some ((k-1:Nat):Int)) -gA none=k-1 by simp[dm,gA]];refine qU 1 rfl<|ae.nil ?_;refine⟨k-1,rfl,⟨by omega,fun i hi=>?_⟩,by omega⟩;by_cases he:i=k-1
   ·rw[he,h1]
   ·exact hz i (by omega)
  ·have hres:=AJ ha (by omega) hz (hf h);have hlen:k=(tw (nv a)).length:=by rw[←hres];simp;omega
   refine AW.exit ?_;rw[←hlen];refine qX 2 rfl<|ae.ij 2 0 rfl rfl rfl rfl ?_;exact ae.nil<|AW.ret ⟨0,⟨lo,k,rfl⟩,2,rfl,_,rfl,rfl⟩
theorem Ff(v i:Nat):v/2/4294967296^i%4294967296=(v/4294967296^(i+1)%4294967296*4294967296+v/4294967296^i%4294967296)/2%4294967296:=by have:=yq v 1 i (by decide);simpa using this
theorem LW(x y:Nat)(hx:x<4294967296)(hy:y<4294967296):(x/2 ||| y*2147483648)%4294967296=(y*4294967296+x)/2%4294967296:=by have h:=Bp y 31 (x/2) (by omega);rw[show(2:Nat)^31=2147483648 from rfl]at h;rw[h];omega
theorem Bl(L:List Nat)(lo m:Nat)(hL:bc L)(hlm:lo+m≤L.length)(hm:m≤35184372088830)(hm0:0<m):
  FP Tryz.prog 203 117 (L.map wd) lo m [] ((put L lo m (dg m (nv (dW L lo m)/2))).map wd) (.part lo (tw (nv (dW L lo m)/2)).length):=by
 refine FP.intro (n:=26) tok Tryz.func203 rfl rfl rfl (bv rfl) (by kernel_rfl) (by rw[am,am,eW hlm (aU _ _)]) fun B F0 w0=>?_;obtain⟨V,hV⟩: ∃V,V=nv (dW L lo m):=⟨_,rfl⟩;rw[←hV]
 have hVd: ∀j,L.getD (lo+j) 0=V/4294967296^j%4294967296∨m≤j:=fun j=>by
  rcases ct j m with h|h
  ·exact .inl (by rw[hV,←gj (hL.dW lo m) j,ia _ _ _ _ h])
  ·exact .inr h
 refine qX 1 rfl<|qI<|qX 3 rfl ?_;rw[o8 hlm];refine ae.nil<|AW.block ?_
 refine AW.aK [0,5,6] (fun s:Nat×List Nat=>[(0,.wn true 117 (s.2.map wd) lo m),(5,.d (dI m)),(6,.d (dI s.1))])
  (fun s=>s.1≤m∧s.2.length=L.length∧bc s.2∧s.2.take lo=L.take lo∧s.2.drop (lo+s.1)=L.drop (lo+s.1)∧ ∀j,j<s.1→s.2.getD (lo+j) 0=V/2/4294967296^j%4294967296) (fun s=>m-s.1) (0,L) rfl ⟨a4 _,rfl,hL,rfl,rfl,fun j hj=>by simp at hj⟩ (fun (i,M) ⟨hi,hMl,hMw,ht,hd,he⟩=>?_)
 simp only[]at hi hMl hMw ht hd he;refine qX 1 rfl<|qI<|AW.cond rfl (fun h=>?_) fun h=>?_
 ·have dm:i<m:=by have:=ao h;omega
  have hx:=(hMw.dW lo m).getD i;have hy:=(hMw.dW lo m).getD (i+1);have hME:=gJ hd;refine AW.skip<|AW.seq<|AW.block<|qX 2 rfl<|ae.nil<|qT 4 rfl<|ae.calls tok rfl rfl rfl rfl (rb M lo m hMw i) rfl ?_;refine qU 4 rfl ?_;rw[aD (x:=(i:Int)+1) (by omega) (by omega),show(i:Int)+1=((i+1:Nat):Int) by omega];refine ae.calls tok rfl rfl rfl rfl (rb M lo m hMw (i+1)) rfl ?_;refine qU 3 rfl ?_;rw[Le _ 1 (by decide),Nj _ 31 (by decide) (by omega),P0 _ _ (by omega) (by omega),fK];refine ae.qh tok rfl rfl rfl rfl (aa i) dm ?_;rw[cA];refine ae.AP tok (((dW M lo m).getD i 0/2^1 ||| (dW M lo m).getD (i+1) 0*2^31)%4294967296) rfl rfl rfl (by omega) rfl ?_;refine ae.nil ?_;rw[show(2:Nat)^1=2 from rfl,show(2:Nat)^31=2147483648 from rfl,LW _ _ hx hy]
  have hdig:((dW M lo m).getD (i+1) 0*4294967296+(dW M lo m).getD i 0)/2%4294967296=V/2/4294967296^i%4294967296:=by
   rw[Ff]
   have e1:(dW M lo m).getD i 0=V/4294967296^i%4294967296:=by rw[ia _ _ _ _ dm,hME];exact(hVd i).resolve_right (by omega)
   have e2:(dW M lo m).getD (i+1) 0=V/4294967296^(i+1)%4294967296:=by
    rcases ct (i+1) m with h|h
    ·rw[ia _ _ _ _ h,←e0,gJ (k6 hd),e0];exact(hVd (i+1)).resolve_right (by omega)
    ·rw[fA (by rw[bX (by omega)];exact h)]
     have:V<4294967296^(i+1):=by have:=dH (hL.dW lo m);rw[bX hlm,←hV]at this;exact cI this<|jI (by omega)
     rw[d0 this]
   rw[e1,e2]
  rw[hdig];refine qT 2 rfl ?_;rw[aD (by omega) (by omega)];refine ae.nil ?_;refine⟨(i+1,M.set (lo+i) (V/2/4294967296^i%4294967296)),rfl,⟨by omega,by simpa using hMl,hMw.set _ (ef _ (by decide)),by simp only[lQ,ht],by simp only[];rw[←e0,iL,k6 hd],fun j hj=>?_⟩,by simp only[];omega⟩;simp only[]at hj ⊢;rw[fJ _ _ _ _ (by omega)];split
  ·rename_i hji;have:j=i:=by omega
   subst this;rfl
  ·exact he j (by omega)
 ·have dm:i=m:=by have:=ar h;omega
  subst dm
  have hw:dW M lo i=dg i (V/2):=by
   refine td (by rw[bX (by omega),aU]) fun j hj=>?_;rw[bX (by omega)]at hj;rw[ia _ _ _ _ hj,he j hj,gj (fY i (V/2)) j,jy]
   have hlt:V/2<4294967296^i:=by have:=dH (hL.dW lo i);rw[bX hlm,←hV]at this;omega
   rw[co hlt]
  have hres:put L lo i (dg i (V/2))=M:=(B5 ht hd hw).symm
  have hwv:nv (dW M lo i)=V/2:=by rw[hw,jy];have:=dH (hL.dW lo i);rw[bX hlm,←hV]at this;exact co (by omega)
  have hcut:=xr M lo i hMw (by omega) (by omega);rw[hwv]at hcut;rw[hres];refine AW.exit<|qX 1 rfl<|ae.vi tok rfl rfl rfl rfl hcut hm0 (gG _) rfl ?_;exact qU 1 rfl<|ae.nil<|AW.ret ⟨2,⟨_,_,rfl⟩,2,rfl,_,rfl,rfl⟩
theorem uV(L v:List Nat)(lo m:Nat)(hL:bc L)(hv:bc v)(hlm:lo+m≤L.length)(hm:m≤35184372088830)(hle:nv v≤nv (dW L lo m)):
  FP Tryz.prog 204 117 (L.map wd) lo m [Wd v] ((put L lo m (dg m (nv (dW L lo m) -nv v))).map wd) (.val (.tu [])):=by
 refine FP.intro (n:=31) tok Tryz.func204 rfl rfl rfl (bv rfl) (by kernel_rfl) (by rw[am,am,eW hlm (aU _ _)]) fun B F0 w0=>?_;refine qX 1 rfl<|qK 3 rfl ?_;rw[o8 hlm];refine ae.nil<|AW.block ?_
 refine AW.aK [0,1,4,8,9] (fun s:Nat×List Nat×Nat=>[(0,.wn true 117 (s.2.1.map wd) lo m),(1,.d (Wd v)),(4,.d (dU s.2.2)),(8,.d (dI m)),(9,.d (dI s.1))])
  (fun s=>s.1≤m∧s.2.1.length=L.length∧bc s.2.1∧s.2.2≤1∧s.2.1.take lo=L.take lo∧s.2.1.drop (lo+s.1)=L.drop (lo+s.1)∧nv ((s.2.1.drop lo).take s.1)+nv (v.take s.1)=nv ((L.drop lo).take s.1)+4294967296^s.1*s.2.2) (fun s=>m-s.1) (0,L,0) rfl ⟨a4 _,rfl,hL,by simp,rfl,rfl,by simp[nv]⟩ (fun (i,M,c) ⟨hi,hMl,hMw,hc,ht,hd,he⟩=>?_)
 simp only[]at hi hMl hMw hc ht hd he;refine qX 1 rfl<|qI<|AW.cond rfl (fun h=>?_) fun h=>?_
 ·have dm:i<m:=by have:=ao h;omega
  have hx:=hMw.getD (lo+i);have hy:=hv.getD i;have hME:=gJ hd;refine AW.skip<|AW.seq<|AW.block<|qX 2 rfl<|qK 2 rfl<|ae.calls tok rfl rfl rfl rfl (rb M lo m hMw i) rfl ?_;rw[ia M lo m i dm];refine qU 3 rfl<|qM rfl (fO v hv i) ?_;refine qU 4 rfl ?_;obtain⟨hd1,hd2,hd3⟩:=zS hx hy hc;rw[Pp (M.getD (lo+i) 0) hx,K8 (4294967296+M.getD (lo+i) 0) (v.getD i 0) (by omega) (by omega),K8 (4294967296+M.getD (lo+i) 0-v.getD i 0) c (by omega) (by omega)];refine ae.nil ?_;obtain⟨S,hS⟩: ∃S,S=4294967296+M.getD (lo+i) 0-v.getD i 0-c:=⟨_,rfl⟩;rw[←hS]at hd2 hd3 ⊢;refine qT 7 rfl ?_;rw[lf,IA (S/4294967296) hd2];refine ae.qh tok rfl rfl rfl rfl (aa i) dm ?_;refine ae.AP tok (S%4294967296) rfl rfl rfl (by simp;omega) (fK _) ?_;refine qU 1 rfl<|ae.nil<|qT 2 rfl ?_;rw[aD (by omega) (by omega)];refine ae.nil ?_;refine⟨(i+1,M.set (lo+i) (S%4294967296),1-S/4294967296),rfl,⟨by omega,by simpa using hMl,hMw.set _ (by omega),by show 1-S/4294967296≤1;omega,?_,?_,?_⟩,by simp only[];omega⟩
  ·simp only[lQ,ht]
  ·simp only[];rw[←e0,iL,k6 hd]
  ·simp only[];rw[rr (by omega),aX (L.drop lo) i,aX v i,mQ,←hME,b0];have:=congrArg (fun z=>4294967296^i*z) hd3;simp only[c3]at this;rw[d4];omega
 ·have dm:i=m:=by have:=ar h;omega
  subst dm;have e:nv (dW M lo i)+nv (v.take i)=nv (dW L lo i)+4294967296^i*c:=he;have h3:nv (dW M lo i)<4294967296^i:=by have:=dH (hMw.dW lo i);rwa [bX (by omega)]at this
  have h1:nv (dW L lo i)<4294967296^i:=by have:=dH (hL.dW lo i);rwa [bX (by omega)]at this
  have hbt:nv (v.take i)=nv v:=by
   by_cases hlb:i≤v.length
   ·have h4:=bE v i hlb;rcases ci (nv (v.drop i))with h|h
    ·rw[h4,h];omega
    ·have:4294967296^i*1≤4294967296^i*nv (v.drop i):=c9 _ h;omega
   ·rw[ce (by omega)]
  have hc0:c=0:=by
   rcases ci c with h|h
   ·exact h
   ·have:4294967296^i*1≤4294967296^i*c:=c9 _ h;omega
  have hres:put L lo i (dg i (nv (dW L lo i) -nv v))=M:=by have hw:dW M lo i=dg i (nv (dW L lo i) -nv v):=DV (hMw.dW lo i) (bX (by omega)) (by rw[hc0]at e;omega);exact(B5 ht hd hw).symm
  rw[hres];refine AW.exit ?_;exact⟨⟨lo,i,rfl⟩,rfl,rfl⟩
theorem N0{a:List Nat}(ha:bc a)(na:Nm a)(h0:a≠[]):bl (nv a)=32*(a.length-1)+bl (a.getD (a.length-1) 0):=by
 have hl:0<a.length:=cp.2 h0;have h1:=Bw na h0;have h2:=xI a (a.length-1) (by omega);rw[List.drop_of_length_le (by omega)]at h2;simp only[nv,hD,ey]at h2;have h3:=nF ha (a.length-1);have e:(2:Nat)^(32*(a.length-1))=4294967296^(a.length-1):=by rw[eX]
 rw[tj (32*(a.length-1)) (nv a) (by rw[e];exact h1),e,h2,Nat.add_mul_div_left _ _ (pow_pos _),d0 h3,kw]
theorem Df(a:List Nat)(ha:bc a)(na:Nm a)(hla:a.length≤35184372088830):Pure Tryz.prog 206 [Wd a] (dI (bl (nv a))):=by
 refine qJ 25 Tryz.func206 rfl fun B F0 w0=>?_;refine qX 1 rfl<|qI<|qX 3 rfl<|ae.nil<|AW.cond rfl (fun h=>?_) fun h=>?_
 ·have h0:a=[]:=by simpa using h
  rw[h0,show nv []=0 from rfl,p9];exact qX 1 rfl<|qN rfl
 ·have h0:a≠[]:=by simpa using h
  have hl:0<a.length:=cp.2 h0;have hT:=ha.getD (a.length-1);have hbl:=N0 ha na h0;have hb32:=iO (show a.getD (a.length-1) 0<2^32 by omega);refine AW.skip<|qX 5 rfl ?_;rw[bf,aD (x:=(a.length:Int) -1) (by omega) (by omega),aD (by omega) (by omega),show(32:Int)*((a.length:Int) -1)=((32*(a.length-1):Nat):Int) by omega];refine qI<|qX 4 rfl ?_;rw[bf,aD (x:=(a.length:Int) -1) (by omega) (by omega),show(a.length:Int) -1=((a.length-1:Nat):Int) by omega];refine ae.idx tok (wd (a.getD (a.length-1) 0)) rfl rfl rfl rfl (aa _) (bQ (by omega)) ?_;refine qU 2 rfl<|ae.nil ?_;refine AW.block<|AW.aK [3,4] (fun s:Nat×Nat=>[(3,.d (dI s.1)),(4,.d (wd s.2))]) (fun s=>s.1+bl s.2=bl (nv a)∧s.2<4294967296) (fun s=>s.2) (32*(a.length-1),a.getD (a.length-1) 0) rfl ⟨hbl.symm,hT⟩ fun (k,x) ⟨hk,hx⟩=>?_;simp only[]at hk hx;refine AW.seq<|qX 2 rfl<|ae.nil<|AW.cond rfl (fun h=>?_) fun h=>?_
  ·have hx0:x≠0:=by have:=ao h;omega
   rw[Cg hx0]at hk;refine AW.skip<|AW.seq<|AW.block<|qT 3 rfl ?_;rw[aD (by omega) (by omega)];refine ae.nil<|qT 3 rfl ?_;rw[II x 1 (by decide)];refine ae.nil ?_;exact⟨(k+1,x/2^1),rfl,⟨by simp only[ip];omega,by simp only[ip];omega⟩,by simp only[ip];omega⟩
  ·have hx0:x=0:=by have:=ar h;omega
   subst hx0;rw[p9,ey]at hk;subst hk;exact AW.exit<|qX 2 rfl<|qN rfl
theorem KC(x:Nat)(h:x<4294967296):cB.wrap ((g8 cB.bits (x:Int) &&& g8 cB.bits 1).toNat:Int)=((x%2:Nat):Int):=by have hb:cB.bits=32:=rfl;rw[hb,BitVec.ofInt_natCast,show g8 32 1=BitVec.ofNat 32 1 from rfl,BitVec.toNat_and,ii,ii,co h,co (by decide),Nat.and_one_is_mod];exact Oo (by omega) (by omega)
structure m9 (A:List Nat) (x:Nat):Prop where
 w:bc A
 len:A.length≤35184372088830
 le:(tw x).length≤A.length
 dW:dW A 0 (tw x).length=tw x
abbrev yU(A:List Nat)(x:Nat):AV:=.wn false 117 (A.map wd) 0 (tw x).length
theorem Pf(h:v<4294967296^k):(dg k v).take (tw v).length=tw v:=by rw[B9 _ _ _ (iE h)];exact(DV (fQ v) rfl (eZ v)).symm
theorem m9.nv{A:List Nat}{x:Nat}(h:m9 A x):nv (Lift.dW A 0 (tw x).length)=x:=by rw[h.dW,eZ]
theorem m9.trim{a:List Nat}(ha:bc a)(hl:a.length≤35184372088830):m9 a (Lift.nv a):=⟨ha,hl,rW ha,Im ha⟩
theorem m9.put{A:List Nat}{x v:Nat}(h:m9 A x)(hv:v≤x):m9 (put A 0 (tw x).length (dg (tw x).length v)) v:=by
 have hlt:v<4294967296^(tw x).length:=ej hv (fx x);have hl:(Lift.put A 0 (tw x).length (dg (tw x).length v)).length=A.length:=eW (by have:=h.le;omega) (aU _ _);have hle:=iE hlt;refine⟨h.w.put (fY _ _) _ _,by rw[hl];exact h.len,by rw[hl];have:=h.le;omega,?_⟩;have hw:=vS (l:=A) (lo:=0) (m:=(tw x).length) (w:=dg (tw x).length v) (by have:=h.le;omega) (aU _ _);rw[Lift.dW,ea]at hw ⊢;have:((Lift.put A 0 (tw x).length (dg (tw x).length v)).take (tw x).length).take (tw v).length=tw v:=by rw[hw];exact Pf hlt
 rwa [List.take_take,eA hle]at this
theorem m9.PU(h:m9 A x)(hv:v≤x):Lift.nv (Lift.dW (Lift.put A 0 (tw x).length (dg (tw x).length v)) 0 (tw x).length)=v:=by rw[vS (by have:=h.le;omega) (aU _ _),jy];exact co<|ej hv<|fx x
theorem bI(h:0<x):0<(tw x).length:=cp.2 (Io (by omega))
theorem m9.first(h:m9 A x)(h0:0<x):A.getD 0 0=x%4294967296:=by have h1:=ia A 0 (tw x).length 0 (bI h0);rw[h.dW]at h1;rw[←h1,gj (fQ x) 0,eZ];simp
theorem m9.even(h:m9 A x)(h0:0<x):(((A.getD 0 0%2:Nat):Int)==0)=decide (x%2=0):=by rw[h.first h0,an];simp;omega
theorem m9.GN(h:m9 A x)(h0:0<x):FP Tryz.prog 203 117 (A.map wd) 0 (tw x).length [] ((Lift.put A 0 (tw x).length (dg (tw x).length (x/2))).map wd) (.part 0 (tw (x/2)).length):=by
 have:=Bl A 0 (tw x).length h.w (by have:=h.le;omega) (by have:=h.le;have:=h.len;omega) (bI h0)
 rwa [h.nv]at this
theorem m9.take(h:m9 A x)(k:m9 B y)(hle:y≤x):FP Tryz.prog 204 117 (A.map wd) 0 (tw x).length [.sl 1 (((B.map wd).drop 0).take (tw y).length)] ((Lift.put A 0 (tw x).length (dg (tw x).length (x-y))).map wd) (.val (.tu [])):=by have:=uV A (tw y) 0 (tw x).length h.w (fQ y) (by have:=h.le;omega) (by have:=h.le;have:=h.len;omega) (by rw[h.nv,eZ];exact hle);rw[h.nv,eZ]at this;rw[tG,k.dW];exact this
theorem m9.cut(h:m9 A x)(hv:v≤x):FP Tryz.prog 205 117 ((Lift.put A 0 (tw x).length (dg (tw x).length v)).map wd) 0 (tw x).length [] ((Lift.put A 0 (tw x).length (dg (tw x).length v)).map wd) (.part 0 (tw v).length):=by
 have hl:(Lift.put A 0 (tw x).length (dg (tw x).length v)).length=A.length:=eW (by have:=h.le;omega) (aU _ _);have:=xr (Lift.put A 0 (tw x).length (dg (tw x).length v)) 0 (tw x).length (h.w.put (fY _ _) _ _) (by rw[hl];have:=h.le;omega) (by have:=h.le;have:=h.len;omega)
 rwa [h.PU hv]at this
theorem m9.cmp(h:m9 A x)(k:m9 B y):Pure Tryz.prog 194 [.sl 1 (((A.map wd).drop 0).take (tw x).length),.sl 1 (((B.map wd).drop 0).take (tw y).length)] (dI (jN x y)):=by
 rw[tG,tG,h.dW,k.dW];have:=lz (tw x) (tw y) (fQ x) (fQ y) (by have:=h.le;have:=h.len;omega) (by have:=k.le;have:=k.len;omega)
 rwa [eZ,eZ]at this
theorem Qg(h:y%2=1):Nat.Coprime 2 y:=by rw[Nat.Coprime,Nat.gcd_rec,h];decide
theorem x6(hx:x%2=0)(hy:y%2=1):b3 (x/2) y=b3 x y:=by
 have:x=2*(x/2):=by omega
 conv=>rhs;rw[this]
 exact(Nat.Coprime.gcd_mul_left_cancel (x/2) (Qg hy)).symm
theorem Fk(hx:x%2=1)(hy:y%2=0):b3 x (y/2)=b3 x y:=by rw[ew,x6 hy hx,ew]
theorem Fl(hx:x%2=0)(hy:y%2=0):b3 x y=2*b3 (x/2) (y/2):=by
 have e1:x=2*(x/2):=by omega
 have e2:y=2*(y/2):=by omega
 conv=>lhs;rw[e1,e2]
 exact Nat.gcd_mul_left 2 _ _
theorem LY(h:y≤x):b3 (x-y) y=b3 x y:=by
 have e:x=(x-y)+y:=by omega
 conv=>rhs;rw[e]
 rw[ew,ew (x-y+y)];exact(Nat.gcd_add_self_right y (x-y)).symm
theorem EW(a b:List Nat)(ha:bc a)(hb:bc b)(hla:a.length≤35184372088829)(hlb:b.length≤35184372088829):Pure Tryz.prog 185 [Wd a,Wd b] (Wd (tw (b3 (nv a) (nv b)))):=by
 refine qJ 72 Tryz.func185 rfl fun B F0 w0=>?_;have ka:=m9.trim ha (by omega);have kb:=m9.trim hb (by omega);obtain⟨X,hX⟩: ∃X,X=nv a:=⟨_,rfl⟩;obtain⟨Y,hY⟩: ∃Y,Y=nv b:=⟨_,rfl⟩;have hta:=q9 a ha (by omega);have htb:=q9 b hb (by omega);have hXl:=dH ha;rw[←hX]at ka hta hXl ⊢;rw[←hY]at kb htb ⊢;refine qX 1 rfl<|qK 1 rfl<|ae.yD tok rfl rfl rfl rfl hta (gG _) ?_;refine qU 1 rfl<|ae.yD tok rfl rfl rfl rfl htb (gG _) ?_;refine qU 2 rfl<|ae.nil<|AW.norm [0,1] [(0,yU a X),(1,yU b Y)] rfl ?_
 have hlen0: ∀(A:List Nat) (x:Nat),m9 A x→(((((A.map wd).drop 0).take (tw x).length).length:Int)==0)=decide (x=0):=fun A x h=>by
  rw[o8 (by have:=h.le;omega),an];have:=jV (uY x);rw[eZ]at this;rw[decide_eq_true_eq,this,D7];constructor
  ·intro h;exact List.eq_nil_of_length_eq_zero (by omega)
  ·intro h;rw[h];rfl
 have hdat: ∀(A:List Nat) (x:Nat),m9 A x→D.sl 1 (((A.map wd).drop 0).take (tw x).length)=Wd (tw x):=fun A x h=>by rw[tG,h.dW];rfl
 refine AW.seq<|qX 3 rfl ?_;rw[hlen0 a X ka];refine ae.nil<|AW.cond rfl (fun h=>?_) fun h=>?_
 ·have h0:=ao h;rw[h0,f6,←hdat b Y kb];exact qX 2 rfl<|qN rfl
 have hX0:X≠0:=ar h;refine AW.skip<|AW.seq<|qX 3 rfl ?_;rw[hlen0 b Y kb];refine ae.nil<|AW.cond rfl (fun h=>?_) fun h=>?_
 ·have h0:=ao h;rw[h0,Nat.gcd_zero_right,←hdat a X ka];exact qX 2 rfl<|qN rfl
 have hY0:Y≠0:=ar h;obtain⟨G,hG⟩: ∃G,G=b3 X Y:=⟨_,rfl⟩;rw[←hG];have hGX:G≤X:=by rw[hG];exact eB Y (by omega)
 refine AW.skip<|qX 1 rfl<|ae.nil ?_
 refine AW.cut [0,1,5] (fun s:(List Nat×Nat)×(List Nat×Nat)×Nat=>[(0,yU s.1.1 s.1.2),(1,yU s.2.1.1 s.2.1.2),(5,.d (dI s.2.2))])
  (fun s=>m9 s.1.1 s.1.2∧m9 s.2.1.1 s.2.1.2∧0<s.1.2∧0<s.2.1.2∧b3 s.1.2 s.2.1.2*2^s.2.2=G∧s.2.2≤32*a.length∧(s.1.2%2=1∨s.2.1.2%2=1)) ?_ (fun⟨⟨A1,x1⟩,⟨B1,y1⟩,k⟩ ⟨hA1,hB1,hx1,hy1,hg1,hk1,ho1⟩=>?_)
 ·refine AW.block ?_
  refine AW.aK [0,1,5] (fun s:(List Nat×Nat)×(List Nat×Nat)×Nat=>[(0,yU s.1.1 s.1.2),(1,yU s.2.1.1 s.2.1.2),(5,.d (dI s.2.2))])
   (fun s=>m9 s.1.1 s.1.2∧m9 s.2.1.1 s.2.1.2∧0<s.1.2∧0<s.2.1.2∧b3 s.1.2 s.2.1.2*2^s.2.2=G∧s.1.2*2^s.2.2=X) (fun s=>s.1.2) ((a,X),(b,Y),0) rfl ⟨ka,kb,by simp only[];omega,by simp only[];omega,by simp[hG],by simp⟩ (fun⟨⟨A,x⟩,⟨B,y⟩,k⟩ ⟨hA,hB,hx,hy,hg,hxk⟩=>?_)
  simp only[]at hA hB hx hy hg hxk
  have hkl:k<32*a.length:=by
   have h1:2^k≤X:=by rw[←hxk];exact Nat.le_mul_of_pos_left _ hx
   have e:(4294967296:Nat)^a.length=2^(32*a.length):=by rw[eX]
   rw[e]at hXl;exact(Nat.pow_lt_pow_iff_right (by decide:1<2)).1 (ej h1 hXl)
  refine AW.seq ?_;refine AW.cut [0,1,5,29] (fun c:Bool=>[(0,yU A x),(1,yU B y),(5,.d (dI k)),(29,.d (dB c))]) (fun c=>c=decide (x%2=0∧y%2=0)) ?_ fun c hc=>?_
  ·refine qT 1 rfl (ae.qh tok rfl rfl rfl rfl (dj 0) (bI hx) ?_);refine ae.dE tok (wd (A.getD 0 0)) rfl rfl rfl rfl (bQ (by have:=hA.le;have:=bI hx;simp;omega)) rfl ?_;refine qU 3 rfl ?_;rw[KC _ (hA.w.getD 0),hA.even hx];refine ae.split (t:=23) rfl (fun h=>?_) fun h=>?_
   ·have hxe:=ao h;refine qU 1 rfl<|ae.qh tok rfl rfl rfl rfl (dj 0) (bI hy) ?_;refine ae.dE tok (wd (B.getD 0 0)) rfl rfl rfl rfl (bQ (by have:=hB.le;have:=bI hy;simp;omega)) rfl ?_;refine qU 3 rfl ?_;rw[KC _ (hB.w.getD 0),hB.even hy];refine ae.nil ?_;exact⟨_,rfl,by show decide _=decide _;rw[decide_eq_decide];exact⟨fun h=>⟨hxe,h⟩,fun h=>h.2⟩⟩
   ·have hxe:=ar h;refine qU 6 rfl<|ae.nil ?_;exact⟨false,rfl,(a5 (fun h=>hxe h.1)).symm⟩
  ·refine AW.cond rfl (fun h=>?_) (fun h=>?_)
   ·rw[h]at hc;obtain⟨hxe,hye⟩:=ao hc.symm;refine AW.skip<|AW.block<|qX 1 rfl<|ae.vi tok rfl rfl rfl rfl (hA.GN hx) (bI hx) (gG _) rfl ?_;refine qU 1 rfl<|ae.vi tok rfl rfl rfl rfl (hB.GN hy) (bI hy) (gG _) rfl ?_;refine qU 2 rfl<|ae.nil<|qT 3 rfl ?_;rw[aD (by omega) (by omega)];refine ae.nil ?_;refine⟨((_,x/2),(_,y/2),k+1),rfl,⟨hA.put (by omega),hB.put (by omega),by simp only[];omega,by simp only[];omega,?_,?_⟩,by simp only[];omega⟩
    ·simp only[];rw[←hg,Fl hxe hye,b0];ac_rfl
    ·simp only[];rw[←hxk,b0,k4 (2^k),←d4,show x/2*2=x by omega]
   ·rw[h]at hc;have hne:=ar hc.symm;refine AW.exit ?_;exact⟨((A,x),(B,y),k),rfl,⟨hA,hB,hx,hy,hg,by simp only[];omega,by simp only[];omega⟩⟩
 simp only[]at hA1 hB1 hx1 hy1 hg1 hk1 ho1;obtain⟨g0,hg0⟩: ∃g0,g0=b3 x1 y1:=⟨_,rfl⟩;rw[←hg0]at hg1;refine AW.cut [1,5] (fun s:List Nat×Nat=>[(1,yU s.1 s.2),(5,.d (dI k))]) (fun s=>m9 s.1 s.2∧s.2=g0) ?_ fun⟨B2,y2⟩ ⟨hB2,hy2⟩=>?_
 ·refine AW.block ?_
  refine AW.aK [0,1,5] (fun s:(List Nat×Nat)×(List Nat×Nat)=>[(0,yU s.1.1 s.1.2),(1,yU s.2.1 s.2.2),(5,.d (dI k))])
   (fun s=>m9 s.1.1 s.1.2∧m9 s.2.1 s.2.2∧0<s.2.2∧b3 s.1.2 s.2.2=g0∧(s.1.2=0∨s.1.2%2=1∨s.2.2%2=1)) (fun s=>s.1.2+s.2.2) ((A1,x1),(B1,y1)) rfl ⟨hA1,hB1,hy1,hg0.symm,.inr ho1⟩ (fun⟨⟨A,x⟩,⟨B,y⟩⟩ ⟨hA,hB,hy,hg,ho⟩=>?_)
  simp only[]at hA hB hy hg ho;refine AW.seq<|qX 3 rfl ?_;rw[o8 (show 0+(tw x).length≤A.length by have:=hA.le;omega)];refine ae.nil<|AW.cond rfl (fun h=>?_) fun h=>?_
  ·have hx:0<x:=by
    rcases ci x with h0|h0
    ·subst h0;rw[jQ]at h;simp at h
    ·exact h0
   have ho':x%2=1∨y%2=1:=ho.resolve_left (by omega);refine AW.skip<|AW.block ?_;refine AW.cut [0,1,5] (fun s:List Nat×Nat=>[(0,yU s.1 s.2),(1,yU B y),(5,.d (dI k))]) (fun s=>m9 s.1 s.2∧s.2%2=1∧s.2≤x∧b3 s.2 y=g0) ?_ fun⟨A',x'⟩ ⟨hA',hxo,hxl,hg'⟩=>?_
   ·refine AW.block (AW.aK [0,1,5] (fun s:List Nat×Nat=>[(0,yU s.1 s.2),(1,yU B y),(5,.d (dI k))]) (fun s=>m9 s.1 s.2∧0<s.2∧s.2≤x∧b3 s.2 y=g0∧(s.2%2=1∨y%2=1)) (fun s=>s.2) (A,x) rfl ⟨hA,hx,ap _,hg,ho'⟩ (fun⟨A',x'⟩ ⟨hA',hx',hxl,hg',ho2⟩=>?_));simp only[]at hA' hx' hxl hg' ho2;refine AW.seq<|qX 1 rfl<|ae.qh tok rfl rfl rfl rfl (dj 0) (bI hx') ?_;refine ae.dE tok (wd (A'.getD 0 0)) rfl rfl rfl rfl (bQ (by have:=hA'.le;have:=bI hx';simp;omega)) rfl ?_;refine qU 2 rfl ?_;rw[KC _ (hA'.w.getD 0),hA'.even hx'];refine ae.nil<|AW.cond rfl (fun h=>?_) fun h=>?_
    ·have hxe:=ao h;refine AW.skip<|AW.block<|qT 1 rfl<|ae.vi tok rfl rfl rfl rfl (hA'.GN hx') (bI hx') (gG _) rfl ?_;refine qU 1 rfl<|ae.nil ?_;exact⟨(_,x'/2),rfl,⟨hA'.put (by omega),by simp only[];omega,by simp only[];omega,by simp only[];rw[x6 hxe (by omega),hg'],by simp only[];omega⟩,by simp only[];omega⟩
    ·have hxo:=ar h;refine AW.exit ?_;exact⟨(A',x'),rfl,⟨hA',by simp only[];omega,hxl,hg'⟩⟩
   simp only[]at hA' hxo hxl hg';refine AW.cut [0,1,5] (fun s:List Nat×Nat=>[(0,yU A' x'),(1,yU s.1 s.2),(5,.d (dI k))]) (fun s=>m9 s.1 s.2∧s.2%2=1∧s.2≤y∧b3 x' s.2=g0) ?_ fun⟨B',y'⟩ ⟨hB',hyo,hyl,hg2⟩=>?_
   ·refine AW.block (AW.aK [0,1,5] (fun s:List Nat×Nat=>[(0,yU A' x'),(1,yU s.1 s.2),(5,.d (dI k))]) (fun s=>m9 s.1 s.2∧0<s.2∧s.2≤y∧b3 x' s.2=g0) (fun s=>s.2) (B,y) rfl ⟨hB,hy,ap _,hg'⟩ (fun⟨B',y'⟩ ⟨hB',hy',hyl,hg2⟩=>?_));simp only[]at hB' hy' hyl hg2;refine AW.seq<|qX 1 rfl<|ae.qh tok rfl rfl rfl rfl (dj 0) (bI hy') ?_;refine ae.dE tok (wd (B'.getD 0 0)) rfl rfl rfl rfl (bQ (by have:=hB'.le;have:=bI hy';simp;omega)) rfl ?_;refine qU 2 rfl ?_;rw[KC _ (hB'.w.getD 0),hB'.even hy'];refine ae.nil<|AW.cond rfl (fun h=>?_) fun h=>?_
    ·have hye:=ao h;refine AW.skip<|AW.block<|qT 1 rfl<|ae.vi tok rfl rfl rfl rfl (hB'.GN hy') (bI hy') (gG _) rfl ?_;refine qU 1 rfl<|ae.nil ?_;exact⟨(_,y'/2),rfl,⟨hB'.put (by omega),by simp only[];omega,by simp only[];omega,by simp only[];rw[Fk hxo hye,hg2]⟩,by simp only[];omega⟩
    ·have hyo:=ar h;refine AW.exit ?_;exact⟨(B',y'),rfl,⟨hB',by simp only[];omega,hyl,hg2⟩⟩
   simp only[]at hB' hyo hyl hg2;refine AW.cut [0,1,5] (fun s:(List Nat×Nat)×(List Nat×Nat)=>[(0,yU s.1.1 s.1.2),(1,yU s.2.1 s.2.2),(5,.d (dI k))]) (fun s=>m9 s.1.1 s.1.2∧m9 s.2.1 s.2.2∧s.2.2≤s.1.2∧s.1.2%2=1∧s.2.2%2=1∧b3 s.1.2 s.2.2=g0∧s.1.2+s.2.2≤x+y) ?_ fun⟨⟨A3,x3⟩,⟨B3,y3⟩⟩ ⟨hA3,hB3,hle,hx3,hy3,hg3,hsum⟩=>?_
   ·refine qX 2 rfl (ae.calls tok rfl rfl rfl rfl (hA'.cmp hB') rfl ?_);refine qU 1 rfl<|ae.nil<|AW.cond rfl (fun h=>?_) fun h=>?_
    ·have hlt:x'<y':=by
      have:=ao h;unfold jN at this;split at this
      ·assumption
      ·split at this<;>omega
     refine qT 2 rfl<|ae.ij 1 57 rfl rfl rfl rfl ?_;refine ae.ij 0 58 rfl rfl rfl rfl ?_;refine qU 2 rfl<|ae.nil ?_;exact⟨((B',y'),(A',x')),rfl,⟨hB',hA',by simp only[];omega,hyo,hxo,by simp only[];rw[ew,hg2],by simp only[];omega⟩⟩
    ·have hlt:y'≤x':=by
      have:=ar h;unfold jN at this;split at this
      ·omega
      ·omega
     refine AW.skip ?_;exact⟨((A',x'),(B',y')),rfl,⟨hA',hB',hlt,hxo,hyo,hg2,by simp only[];omega⟩⟩
   simp only[]at hA3 hB3 hle hx3 hy3 hg3 hsum;have hx3p:0<x3:=by omega
   refine qX 2 rfl<|ae.AD tok rfl rfl rfl rfl (hA3.take hB3 hle) (bI hx3p) (gG _) rfl ?_;refine ae.nil (qT 1 rfl (ae.vi tok rfl rfl rfl rfl (hA3.cut (v:=x3-y3) (by omega)) (bI hx3p) (gG _) rfl ?_));refine qU 1 rfl<|ae.nil ?_;exact⟨((_,x3-y3),(B3,y3)),rfl,⟨hA3.put (by omega),hB3,by simp only[];omega,by simp only[];rw[LY hle,hg3],.inr (.inr hy3)⟩,by simp only[];omega⟩
  ·have hx:x=0:=by
    rcases ci x with h0|h0
    ·exact h0
    ·have:=bI h0;have:=ar h;omega
   subst hx;rw[f6]at hg;refine AW.exit ?_;exact⟨(B,y),rfl,⟨hB,hg⟩⟩
 simp only[]at hB2 hy2;have hgy:=hg1;rw[←hy2]at hgy
 have hlz: ∀j,j≤k→(tw (y2*2^j)).length≤a.length:=fun j hj=>iE (by
  have:2^j≤2^k:=ch (by decide) hj;have:y2*2^j≤y2*2^k:=c9 _ this
  omega)
 refine AW.HX tok 1 rfl rfl ?_;rw[show D.sl (TI.size ⟨1,4,false,[.v (.int .u32 0)],[],0,2,.u32⟩) (((B2.map wd).drop 0).take (tw y2).length)=Wd (tw y2)from hdat B2 y2 hB2];refine AW.seq<|qX 2 rfl<|ae.nil<|AW.block ?_;refine AW.aK [1,64,65] (fun s:Nat=>[(1,.d (Wd (tw (y2*2^s)))),(64,.d (dI k)),(65,.d (dI s))]) (fun s=>s≤k) (fun s=>k-s) 0 (by rw[k0,gb];rfl) (a4 _) fun j hj=>?_;refine qX 1 rfl<|qI<|AW.cond rfl (fun h=>?_) fun h=>?_
 ·have hjk:j<k:=by have:=ao h;omega
  have hl:=hlz j hj;have hplus:=oQ (tw (y2*2^j)) (tw (y2*2^j)) (fQ _) (fQ _) (by omega) (by omega);rw[eZ,show y2*2^j+y2*2^j=y2*2^(j+1) by rw[b0,←d4];omega]at hplus;refine AW.skip<|AW.seq<|AW.block<|qT 2 rfl<|qM rfl hplus<|qU 1 rfl<|ae.nil<|qT 2 rfl ?_;rw[aD (by omega) (by omega)];refine ae.nil ?_;exact⟨j+1,rfl,hjk,by omega⟩
 ·have hjk:j=k:=by have:=ar h;omega
  subst hjk;refine AW.exit<|qX 2 rfl<|ae.nil ?_;rw[←hgy];exact AW.ret rfl
theorem MP(i c:Nat)(hc:0<c)(h:i≤9223372036854775807):ot true .i64 (i:Int) (c:Int)= .int .i64 ((i/c:Nat):Int):=by have e:((i:Int).tdiv (c:Int))=((i/c:Nat):Int):=rfl;have:i/c≤i:=gx i c;generalize i/c=q at e this ⊢;simp only[ot,e,aD (x:=(q:Int)) (by omega) (by omega)]
theorem MO(i c:Nat):ot false .i64 (i:Int) (c:Int)= .int .i64 ((i%c:Nat):Int):=rfl
theorem N4(A i:Nat):A/4294967296^(i/32)%4294967296/2^(i%32)%2=A/2^i%2:=by
 have e:(2:Nat)^i=4294967296^(i/32)*2^(i%32):=by rw[show(4294967296:Nat)=2^32 from rfl,←eX,←eY];congr 1;omega
 rw[e,←hN];generalize A/4294967296^(i/32)=w
 have h32:(4294967296:Nat)=2^(i%32)*(2*2^(31-i%32)):=by rw[show 2*2^(31-i%32)=2^(32-i%32) by rw[←Nat.pow_succ'];congr 1;omega,←eY,show i%32+(32-i%32)=32 by omega]
 have h1:w=4294967296*(w/4294967296)+w%4294967296:=by omega
 conv=>rhs;rw[h1,h32,d4,gt (io (by decide)),d4,gs,←h32]
theorem H4(hx:x<4294967296)(hc:c≤1):(x*2%4294967296 ||| c)=x*2%4294967296+c∧x*2%4294967296+c<4294967296∧x*2%4294967296+c+4294967296*(x/2147483648)=2*x+c:=by have h:=Bq (x%2147483648) 1 c (by omega);rw[show x%2147483648*2^1=x*2%4294967296 by omega]at h;exact⟨h,by omega,by omega⟩
theorem Lj{q:List Nat}(hw:bc q)(hq:nv q=2^(i+1)*m)(hi:i/32<q.length):
  (q.getD (i/32) 0 ||| 2^(i%32))=q.getD (i/32) 0+2^(i%32)∧q.getD (i/32) 0+2^(i%32)<4294967296∧nv (q.set (i/32) (q.getD (i/32) 0+2^(i%32)))=nv q+2^i:=by
 have e:(2:Nat)^i=4294967296^(i/32)*2^(i%32):=by rw[show(4294967296:Nat)=2^32 from rfl,←eX,←eY];congr 1;omega
 have hd:=gj hw (i/32)
 have hd2:nv q/4294967296^(i/32)=2^(i%32+1)*m:=by rw[hq,b0,e,show 4294967296^(i/32)*2^(i%32)*2*m=4294967296^(i/32)*(2^(i%32+1)*m) by rw[b0];ac_rfl];exact Nat.mul_div_cancel_left _<|pow_pos _
 have h32:(4294967296:Nat)=2^(i%32+1)*2^(31-i%32):=by rw[←eY,show i%32+1+(31-i%32)=32 by omega]
 have hdig:q.getD (i/32) 0=2^(i%32+1)*(m%2^(31-i%32)):=by
  rw[hd,hd2]
  conv=>lhs;rw[h32]
  exact Nat.mul_mod_mul_left _ _ _
 have hml:m%2^(31-i%32)+1≤2^(31-i%32):=ef _ (io (by decide));have hmm:2^(i%32+1)*(m%2^(31-i%32)+1)≤2^(i%32+1)*2^(31-i%32):=c9 _ hml;rw[←h32,c3,gb,←hdig]at hmm;have hp:(2:Nat)^(i%32+1)=2^(i%32)*2:=b0 ..;have hp0:0<(2:Nat)^(i%32):=io (by decide);have hlt:q.getD (i/32) 0+2^(i%32)<4294967296:=by omega
 refine⟨?_,hlt,?_⟩
 ·rw[hdig,k4];exact Bq _ _ _ (by omega)
 ·have h1:=iq (l:=q) (i:=i/32) (x:=q.getD (i/32) 0+2^(i%32)) hi;rw[c3,←e]at h1;omega
theorem FF{V Q R:Nat}(h:n=V*Q+R)(h1:V≤R)(h2:R<V+V):n/V=Q+1∧n%V=R-V:=by
 have e:n=V*(Q+1)+(R-V):=by rw[h,c3,gb];omega
 rw[e,gt (by omega),gs,d0 (by omega),co (by omega)];exact⟨rfl,rfl⟩
theorem zk(a b:List Nat)(ha:bc a)(hb:bc b)(na:Nm a)(hla:a.length≤34800000000000)(hlb:b.length≤34800000000000)(hb0:nv b≠0):Pure Tryz.prog 186 [Wd a,Wd b] (.tu [Wd (tw (nv a/nv b)),Wd (tw (nv a%nv b))]):=by
 refine qJ 76 Tryz.func186 rfl fun B F0 w0=>?_;obtain⟨V,hV⟩: ∃V,V=nv b:=⟨_,rfl⟩;obtain⟨A,hA⟩: ∃A,A=nv a:=⟨_,rfl⟩;have hVl:=dH hb;have hAl:=dH ha;have hbits:=Df a ha na (by omega);rw[←hV]at hb0 hVl ⊢;rw[←hA]at hAl hbits ⊢;have hbl:bl A≤32*a.length:=iO (by rw[eX];exact hAl);have hdA: ∀j,a.getD j 0=A/4294967296^j%4294967296:=fun j=>by rw[hA];exact gj ha j
 refine qX 2 rfl<|qK 2 rfl ?_;refine ae.qv tok a.length rfl rfl rfl rfl rfl rfl (by rw[bf]) rfl (by omega) ?_;refine qU 1 rfl<|qK 3 rfl ?_;refine ae.qv tok (b.length+1) rfl rfl rfl rfl rfl rfl (by rw[bf,aD (by omega) (by omega)];omega) rfl (by omega) ?_;refine qU 1 rfl<|qI<|qX 1 rfl<|qM rfl hbits<|qU 2 rfl ?_;rw[aD (x:=(bl A:Int) -1) (by omega) (by omega)];refine ae.nil<|AW.block ?_;have hAbl:A/2^bl A=0:=d0 (Jw A)
 refine AW.aK [0,1,6,7,8] (fun s:Nat×List Nat×List Nat=>[(0,.d (Wd a)),(1,.d (Wd b)),(6,.ow 117 (s.2.1.map wd)),(7,.ow 117 (s.2.2.map wd)),(8,.d (dI ((s.1:Int) -1)))])
  (fun s=>s.1≤bl A∧s.2.1.length=a.length∧bc s.2.1∧s.2.2.length=b.length+1∧bc s.2.2∧nv s.2.1=2^s.1*(A/2^s.1/V)∧nv s.2.2=A/2^s.1%V) (fun s=>s.1) (bl A,cg a.length 0,cg (b.length+1) 0) rfl
  ⟨ap _,by simp,bc.replicate _,by simp,bc.replicate _,by simp[jc,hAbl],by simp[jc,hAbl]⟩ (fun (k,q,r) ⟨hk,hql,hqw,hrl,hrw,hqv,hrv⟩=>?_)
 simp only[]at hk hql hqw hrl hrw hqv hrv;refine AW.seq<|qX 2 rfl<|ae.nil<|AW.cond rfl (fun h=>?_) fun h=>?_
 ·have hk0:0<k:=by have:=ao h;omega
  obtain⟨i,rfl⟩: ∃i,k=i+1:=⟨k-1,by omega⟩;rw[show((i+1:Nat):Int) -1=(i:Int) by omega];have hi32:i/32<a.length:=by omega
  obtain⟨bit,hbit⟩: ∃bit,bit=A/2^i%2:=⟨_,rfl⟩;have hbit1:bit≤1:=by omega
  refine AW.skip<|AW.seq<|AW.block<|qX 2 rfl<|ae.div tok rfl rfl rfl rfl (by decide) ?_;rw[show ot true .i64 (i:Int) 32= .int .i64 ((i/32:Nat):Int)from MP i 32 (by decide) (by omega)];refine ae.idx tok (wd (a.getD (i/32) 0)) rfl rfl rfl rfl (aa _) (bQ hi32) ?_;refine qU 2 rfl<|ae.div tok rfl rfl rfl rfl (by decide) ?_;rw[show ot false .i64 (i:Int) 32= .int .i64 ((i%32:Nat):Int)from MO i 32];refine qU 3 rfl ?_;have hsh:((a.getD (i/32) 0:Nat):Int).fdiv (2^(min (i%32) cB.bits))=((a.getD (i/32) 0/2^(i%32):Nat):Int):=II _ _ (by omega);rw[hsh,KC _ (ej (gx _ _) (ha.getD _)),hdA,N4,←hbit];refine ae.nil<|AW.norm [0,1,6,7,8,9] [(0,.d (Wd a)),(1,.d (Wd b)),(6,.ow 117 (q.map wd)),(7,.ow 117 (r.map wd)),(8,.d (dI i)),(9,.d (wd bit))] rfl ?_;obtain⟨r0,hr0⟩: ∃r0,r0=nv r:=⟨_,rfl⟩;have hr0V:r0<V:=by rw[hr0,hrv];exact ef _ (by omega)
  refine AW.cut [0,1,6,7,8] (fun s:List Nat=>[(0,.d (Wd a)),(1,.d (Wd b)),(6,.ow 117 (q.map wd)),(7,.ow 117 (s.map wd)),(8,.d (dI i))]) (fun s=>s.length=b.length+1∧bc s∧nv s=2*r0+bit) ?_ fun r' ⟨hrl',hrw',hrv'⟩=>?_
  ·as_aux_lemma =>
   refine qX 3 rfl ?_;rw[bf,hrl];refine ae.nil<|AW.block ?_
   refine AW.aK [0,1,6,7,8,9,35,36] (fun s:Nat×List Nat×Nat=>[(0,.d (Wd a)),(1,.d (Wd b)),(6,.ow 117 (q.map wd)),(7,.ow 117 (s.2.1.map wd)),(8,.d (dI i)),(9,.d (wd s.2.2)),(35,.d (dI (b.length+1:Nat))),(36,.d (dI s.1))])
    (fun s=>s.1≤b.length+1∧s.2.1.length=b.length+1∧bc s.2.1∧s.2.2≤1∧s.2.1.drop s.1=r.drop s.1∧nv (s.2.1.take s.1)+4294967296^s.1*s.2.2=2*nv (r.take s.1)+bit) (fun s=>b.length+1-s.1) (0,r,bit) rfl ⟨a4 _,hrl,hrw,hbit1,rfl,by simp[nv]⟩ (fun (j,M,c) ⟨hj,hMl,hMw,hc,hd,hv⟩=>?_)
   simp only[]at hj hMl hMw hc hd hv;refine qX 1 rfl<|qI<|AW.cond rfl (fun h=>?_) fun h=>?_
   ·have hjN:j<b.length+1:=by have:=ao h;omega
    have hx:=hMw.getD j;have hME:=gJ hd;obtain⟨hor,hlt,hkey⟩:=H4 hx hc;refine AW.skip<|AW.seq<|AW.block<|qX 2 rfl<|ae.nil<|AW.mU tok aO [(13,true),(1,false),(1,true)] 15 [7] (by kernel_rfl) ⟨rfl,?_⟩;refine qP 4 rfl ?_;refine ai.gI tok rfl rfl rfl rfl rfl rfl (aa j) (by simp;omega) ?_;refine ai.dE tok (wd (M.getD j 0)) rfl rfl rfl rfl rfl (bQ (by simp;omega)) rfl ?_;refine qP 5 rfl ?_;refine ai.gI tok rfl rfl rfl rfl rfl rfl (aa j) (by simp;omega) ?_;refine ai.dE tok (wd (M.getD j 0)) rfl rfl rfl rfl rfl (bQ (by simp;omega)) rfl ?_;refine ai.nil ⟨rfl,?_⟩;refine qP 1 rfl<|ai.nil ⟨rfl,?_⟩;refine ai.gI tok rfl rfl rfl rfl rfl rfl (aa j) (by simp;omega) ?_
    have hshl:cB.wrap (((M.getD j 0:Nat):Int)*2^(min 1 cB.bits))=((M.getD j 0*2%4294967296:Nat):Int):=by rw[show((M.getD j 0:Nat):Int)*2^(min 1 cB.bits)=((M.getD j 0*2:Nat):Int) by rw[show min 1 cB.bits=1 from rfl];push_cast;rfl];exact fK _
    have hshr:((M.getD j 0:Nat):Int).fdiv (2^(min 31 cB.bits))=((M.getD j 0/2147483648:Nat):Int):=II _ 31 (by decide);rw[hshl,hshr,Jg _ c (ef _ (by decide)) (by omega),hor];refine ai.nil ⟨_,m8.cons (uG.elW (M.getD j 0*2%4294967296+c) rfl (by omega) rfl) m8.nil,?_⟩;refine qU 1 rfl<|ae.nil<|qT 2 rfl ?_;rw[aD (by omega) (by omega)];refine ae.nil ?_;refine⟨(j+1,M.set j (M.getD j 0*2%4294967296+c),M.getD j 0/2147483648),rfl,⟨by omega,by simpa using hMl,hMw.set _ hlt,by show _/_≤1;omega,?_,?_⟩,by simp only[];omega⟩
    ·simp only[];rw[iL,k6 hd]
    ·simp only[];rw[lX (by omega),aX r j,←hME,b0,d4];have h2:=congrArg (fun z=>4294967296^j*z) hkey;simp only[c3]at h2;have h3:4294967296^j*(2*M.getD j 0)=2*(4294967296^j*M.getD j 0):=by ac_rfl
     rw[c3];omega
   ·have hjN:j=b.length+1:=by have:=ar h;omega
    subst hjN;rw[ce (by omega),ce (by omega),←hr0]at hv
    have hc0:c=0:=by
     rw[b0]at hv;rcases ci c with h|h
     ·exact h
     ·have:4294967296^b.length*4294967296*1≤4294967296^b.length*4294967296*c:=c9 _ h;omega
    rw[hc0,hD,ey]at hv;refine AW.exit ?_;exact⟨M,rfl,⟨hMl,hMw,hv⟩⟩
  ·have hAi:A/2^i=V*(2*(A/2^(i+1)/V))+(2*r0+bit):=by
    have e1:A/2^i=2*(A/2^(i+1))+bit:=by rw[hbit,b0,←hN];omega
    have e2:=Nat.div_add_mod (A/2^(i+1)) V;rw[←hrv,←hr0]at e2;have e3:V*(2*(A/2^(i+1)/V))=2*(V*(A/2^(i+1)/V)):=by ac_rfl
    omega
   have hq1:2^(i+1)*(A/2^(i+1)/V)=2^i*(2*(A/2^(i+1)/V)):=by rw[b0];ac_rfl
   refine qX 2 rfl<|ae.calls tok rfl rfl rfl rfl (lz r' b hrw' hb (by omega) (by omega)) rfl ?_;refine qU 1 rfl<|ae.nil ?_;rw[hrv',←hV];refine AW.cond rfl (fun h=>?_) fun h=>?_
   ·as_aux_lemma =>
    have hge:V≤2*r0+bit:=by have:=ao h;unfold jN at this;split at this<;>omega
    have hdm:=FF (n:=A/2^i) (V:=V) (Q:=2*(A/2^(i+1)/V)) (R:=2*r0+bit) hAi hge (by omega);obtain⟨hs1,hs2,hs3⟩:=Lj hqw hqv (show i/32<q.length by omega);have hwn:dW r' 0 (b.length+1)=r':=by rw[dW,ea,ce (by omega)]
    have htake:=uV r' b 0 (b.length+1) hrw' hb (by omega) (by omega) (by rw[hwn,hrv',←hV];exact hge);rw[hwn,hrv',←hV]at htake;obtain⟨r2,hr2⟩: ∃r2,r2=put r' 0 (b.length+1) (dg (b.length+1) (2*r0+bit-V)):=⟨_,rfl⟩;have hr2l:r2.length=b.length+1:=by rw[hr2,eW (by omega) (aU _ _)];exact hrl'
    have hr2w:bc r2:=by rw[hr2];exact hrw'.put (fY _ _) _ _
    have hr2v:nv r2=2*r0+bit-V:=by have h1:=vS (l:=r') (lo:=0) (m:=b.length+1) (w:=dg (b.length+1) (2*r0+bit-V)) (by omega) (aU _ _);rw[←hr2,dW,ea,ce (by omega)]at h1;rw[h1,jy];refine co ?_;rw[b0];omega
    rw[←hr2]at htake;have hml:(r'.map wd).length=b.length+1:=by rw[bf];exact hrl'
    rw[←hml]at htake;refine qX 2 rfl ?_;refine ae.AD tok rfl rfl rfl rfl htake (by rw[hml];omega) (gG _) rfl ?_;refine ae.nil<|AW.norm [0,1,6,7,8] [(0,.d (Wd a)),(1,.d (Wd b)),(6,.ow 117 (q.map wd)),(7,.ow 117 (r2.map wd)),(8,.d (dI i))] rfl ?_;refine AW.draw aO 10 (by kernel_rfl) ?_;refine qP 2 rfl<|ai.div tok rfl rfl rfl rfl rfl (by decide) ?_;rw[show ot true .i64 (i:Int) 32= .int .i64 ((i/32:Nat):Int)from MP i 32 (by decide) (by omega)];refine ai.gI tok rfl rfl rfl rfl rfl rfl (aa _) (by simp;omega) ?_;refine ai.dE tok (wd (q.getD (i/32) 0)) rfl rfl rfl rfl rfl (bQ (by simp;omega)) rfl ?_;refine qP 1 rfl<|ai.div tok rfl rfl rfl rfl rfl (by decide) ?_;rw[show ot false .i64 (i:Int) 32= .int .i64 ((i%32:Nat):Int)from MO i 32];refine qP 2 rfl ?_;refine ai.gI tok rfl rfl rfl rfl rfl rfl (aa _) (by simp;omega) ?_;refine ai.nil ?_;have hpw:2^(i%32)<4294967296:=by omega
    have hshl:cB.wrap (1*2^(min (i%32) cB.bits))=((2^(i%32):Nat):Int):=by
     rw[show min (i%32) cB.bits=i%32 from eA (by show i%32≤32;omega),Int.one_mul];have e:(2:Int)^(i%32)=((2^(i%32):Nat):Int):=by push_cast;rfl
     rw[e];rw[fK,co hpw]
    rw[hshl,Jg _ _ (hqw.getD _) hpw,hs1];refine ae.kx tok (q.getD (i/32) 0+2^(i%32)) rfl rfl rfl (by simp;omega) rfl ?_;refine ae.nil<|qT 3 rfl ?_;rw[aD (x:=(i:Int) -1) (by omega) (by omega)];refine ae.nil ?_;refine⟨(i,q.set (i/32) (q.getD (i/32) 0+2^(i%32)),r2),rfl,⟨by simp only[];omega,by simpa using hql,hqw.set _ hs2,hr2l,hr2w,?_,?_⟩,by simp only[];omega⟩
    ·simp only[];rw[hs3,hdm.1,hqv,hq1,c3,gb]
    ·simp only[];rw[hdm.2,hr2v]
   ·have hlt:2*r0+bit<V:=by have:=ar h;unfold jN at this;split at this<;>omega
    have e1:A/2^i/V=2*(A/2^(i+1)/V):=by rw[hAi,gt (by omega),d0 hlt,ey]
    have e2:A/2^i%V=2*r0+bit:=by rw[hAi,gs,co hlt]
    refine AW.skip<|qT 3 rfl ?_;rw[aD (x:=(i:Int) -1) (by omega) (by omega)];refine ae.nil ?_;exact⟨(i,q,r'),rfl,⟨by simp only[];omega,hql,hqw,hrl',hrw',by simp only[];rw[e1,hqv,hq1],by simp only[];rw[e2,hrv']⟩,by simp only[];omega⟩
 ·have hk0:k=0:=by have:=ar h;omega
  subst hk0;simp only[k0,Nat.div_one,Nat.one_mul]at hqv hrv;refine AW.exit<|qX 1 rfl<|ae.iu tok 6 rfl rfl ?_;refine qM rfl (iH q hqw (by omega)) ?_;refine qU 1 rfl<|ae.iu tok 7 rfl rfl ?_;refine qM rfl (iH r hrw (by omega)) ?_;refine qU 2 rfl<|ae.nil ?_;rw[hqv,hrv];exact AW.ret rfl
theorem sK(g:Bool)(m:List Nat)(hm:bc m)(hl:m.length≤35184372088831):Pure Tryz.prog 202 [Wh g m] (dB (okW g m)):=by
 refine qJ 19 Tryz.func202 rfl fun B F0 w0=>?_;refine qX 2 rfl<|qI<|qX 4 rfl<|ae.nil<|AW.cond rfl (fun h=>?_) fun h=>?_
 ·have h0:m=[]:=by simpa using h
  rw[okW,ah h0];exact qX 4 rfl<|qN rfl
 ·have h0:m≠[]:=by simpa using h
  have hp:0<m.length:=cp.2 h0;rw[okW,af h0];refine AW.skip<|qX 6 rfl ?_;rw[bf,aD (by omega) (by omega),show(m.length:Int) -1=((m.length-1:Nat):Int) by omega];refine ae.idx tok (wd (m.getD (m.length-1) 0)) rfl rfl rfl rfl (aa _) (bQ (by omega)) ?_;refine qU 3 rfl<|ae.nil ?_
  have e:(m.getD (m.length-1) 0 != 0)=(((m.getD (m.length-1) 0:Nat):Int) != 0):=by rw[an];simp
  rw[e];exact AW.ret rfl
theorem dR(z:Int)(hl:L z≤35184372088831):Pure Tryz.prog 183 [fk z] (Wd (iw z)):=by refine qJ 8 Tryz.func183 rfl (fun B F0 w0=>?_);refine qX 2 rfl<|qI<|qX 1 rfl<|qM rfl (sK (decide (z<0)) (iw z) (bY z) hl) ?_;rw[Bs];exact qU 1 rfl<|ae.nil<|AW.aC rfl<|AW.skip<|qX 3 rfl<|qN rfl
theorem du(z:Int)(hl:L z≤35184372088831):Pure Tryz.prog 184 [fk z] (dB (decide (z<0))):=by refine qJ 9 Tryz.func184 rfl (fun B F0 w0=>?_);refine qX 2 rfl<|qK 1 rfl<|qM rfl (sK (decide (z<0)) (iw z) (bY z) hl) ?_;rw[Bs];exact qU 5 rfl<|qN rfl
theorem oR(g:Bool)(m:List Nat)(hm:bc m)(hl:m.length≤35184372088831):Pure Tryz.prog 143 [dB g,Wd m] (fk (sg g (nv m))):=by
 refine qJ 14 Tryz.func143 rfl fun B F0 w0=>?_;refine qX 1 rfl<|qK 1 rfl<|qM rfl (iH m hm hl) ?_;refine qU 1 rfl<|ae.nil ?_;have hz:=jV (uY (nv m));rw[eZ]at hz;rw[Ep];refine AW.seq<|qX 3 rfl ?_;rw[zq];refine ae.nil<|AW.cond rfl (fun h=>?_) fun h=>?_
 ·have h0:=ao h;rw[hz.2 h0,jQ,show(g&&decide ((0:Nat)≠0))=false by simp];exact qX 2 rfl<|qN rfl
 ·have h0:=ar h;rw[show(g&&decide (nv m≠0))=g by simp[mt hz.1 h0]];exact AW.skip<|qX 4 rfl<|qN rfl
theorem De(g:Bool)(z:Int)(hl:L z≤35184372088831):Pure Tryz.prog 143 [dB g,Wd (iw z)] (fk (sg g z.natAbs)):=by
 have:=oR g (iw z) (bY z) hl
 rwa [dq]at this
theorem gh(g:Bool)(n:Nat)(hl:(tw n).length≤35184372088831):Pure Tryz.prog 143 [dB g,Wd (tw n)] (fk (sg g n)):=by
 have:=oR g (tw n) (fQ n) hl
 rwa [eZ]at this
theorem Ah(n:Int)(h0: -9223372036854775808≤n)(h1:n≤9223372036854775807):Pure Tryz.prog 95 [dI n] (fk n):=by
 refine qJ 19 Tryz.func95 rfl fun B F0 w0=>?_
 have hfin: ∀(m:Nat),m<18446744073709551616→m=n.natAbs→Pure Tryz.prog 143 [dB (decide (n<0)),Wd [m%4294967296,m/4294967296%4294967296]] (fk n):=fun m hm he=>by have:=oR (decide (n<0)) [m%4294967296,m/4294967296%4294967296] (bc.cons.2 ⟨ef _ (by decide),bc.cons.2 ⟨ef _ (by decide),bc.nil⟩⟩) (by simp);rw[zH m hm,he,EF]at this;rw[he];exact this
 refine qX 1 rfl<|qK 3 rfl<|ae.nil ?_;refine AW.cut [0,2,3] (fun _:Unit=>[(0,.d (dI n)),(2,.bx [dB false,.sl 1 []]),(3,.d (dU n.natAbs))]) (fun _=>True) ?_ fun _ _=>?_
 ·refine qX 2 rfl (ae.nil (AW.cond rfl (fun h=>?_) (fun h=>?_)))
  ·have hn:=ao h;refine qT 3 rfl ?_;rw[Kd n hn h0,ON _ (by omega) (by omega),show 18446744073709551616-(18446744073709551616-n.natAbs)=n.natAbs by omega];refine ae.nil ?_;exact⟨(),rfl,trivial⟩
  ·have hn:=ar h;refine AW.skip ?_;rw[vu (x:=n) (by omega) (by omega)];exact⟨(),by rw[show((n.natAbs:Nat):Int)=n by omega];rfl,trivial⟩
 ·refine qX 7 rfl ?_;rw[fK,lf,fK];refine ae.bs tok rfl rfl rfl rfl ?_;refine ae.iu tok 17 rfl rfl ?_;refine qM rfl (hfin n.natAbs (by omega) rfl) ?_;exact qU 1 rfl<|qN rfl
theorem iI(z:Int)(hl:L z≤35184372088831):Pure Tryz.prog 139 [fk z] (dI (ky z)):=by
 refine qJ 9 Tryz.func139 rfl fun B F0 w0=>?_;refine qX 2 rfl<|qI<|qX 1 rfl<|qM rfl (dR z hl) ?_;refine qU 2 rfl ?_;rw[zq];refine ae.nil<|AW.cond rfl (fun h=>?_) fun h=>?_
 ·have h0:z=0:=pb.1 (ao h);rw[show ky z=0 by subst h0;rfl];exact qX 1 rfl<|qN rfl
 ·have h0:z≠0:=fun e=>(ar h) (pb.2 e);refine AW.skip<|AW.seq<|qX 1 rfl<|qM rfl (du z hl) ?_;refine ae.nil<|AW.cond rfl (fun h=>?_) fun h=>?_
  ·have hn:=ao h;rw[show ky z= -1 by unfold ky;rw[ah hn]];exact qX 1 rfl<|qN rfl
  ·have hn:=ar h;rw[show ky z=1 by unfold ky;rw[af hn,af h0]];exact AW.skip<|qX 1 rfl<|qN rfl
theorem xu(x y:Int)(hx:L x≤35184372088831)(hy:L y≤35184372088831):Pure Tryz.prog 194 [Wd (iw x),Wd (iw y)] (dI (jv x.natAbs y.natAbs)):=by rw[←G2];exact lz (iw x) (iw y) (bY x) (bY y) hx hy
theorem nD(z:Int)(hl:L z≤35184372088831):Pure Tryz.prog 140 [fk z] (fk (-z)):=by refine qJ 9 Tryz.func140 rfl (fun B F0 w0=>?_);refine qX 2 rfl<|qI<|AW.draw aO 6 (by kernel_rfl) ?_;refine qP 1 rfl<|qQ rfl (du z hl) ?_;refine qP 2 rfl<|qQ rfl (dR z hl) ?_;refine qQ rfl (De (!decide (z<0)) z hl) ?_;refine ai.nil<|qU 1 rfl<|ae.nil ?_;rw[IK];exact AW.ret rfl
theorem Dd(x y:Int)(hx:L x≤35184372088830)(hy:L y≤35184372088830):Pure Tryz.prog 187 [Wd (iw x),Wd (iw y)] (Wd (tw (x.natAbs+y.natAbs))):=by
 have:=oQ (iw x) (iw y) (bY x) (bY y) hx hy
 rwa [dq,dq]at this
theorem sJ(x y:Int)(hx:L x≤35184372088830)(hle:y.natAbs≤x.natAbs):Pure Tryz.prog 188 [Wd (iw x),Wd (iw y)] (Wd (tw (x.natAbs-y.natAbs))):=by
 have:=sI (iw x) (iw y) (bY x) (bY y) hx (by rwa [dq,dq])
 rwa [dq,dq]at this
theorem Bk(x y:Int)(hx:L x≤17450000000000)(hy:L y≤17450000000000):Pure Tryz.prog 195 [Wd (iw x),Wd (iw y)] (Wd (tw (x.natAbs*y.natAbs))):=by
 have:=Bj (iw x) (iw y) (bY x) (bY y) hx hy
 rwa [dq,dq]at this
theorem zl(x y:Int)(hx:L x≤34800000000000)(hy:L y≤34800000000000)(h0:y≠0):Pure Tryz.prog 186 [Wd (iw x),Wd (iw y)] (.tu [Wd (tw (x.natAbs/y.natAbs)),Wd (tw (x.natAbs%y.natAbs))]):=by
 have:=zk (iw x) (iw y) (bY x) (bY y) (uZ x) hx hy (by rw[dq];omega)
 rwa [dq,dq]at this
theorem xy(a b:Int)(ha:L a≤35184372088830)(hb:L b≤35184372088830):Pure Tryz.prog 158 [fk a,fk b] (fk (a+b)):=by
 refine qJ 38 Tryz.func158 rfl fun B F0 w0=>?_;refine qX 3 rfl<|qI<|AW.draw aO 4 (by kernel_rfl) ?_;refine qP 1 rfl<|qQ rfl (dR a (by omega)) ?_;refine qP 1 rfl<|qQ rfl (dR b (by omega)) ?_;refine ai.nil<|qU 2 rfl<|ae.nil<|AW.norm [2,3,4,5,6] [(2,.bx [dB (decide (a<0)),Wd (iw a)]),(3,.bx [dB (decide (b<0)),Wd (iw b)]),(4,.bx [dB false,.sl 1 []]),(5,.d (Wd (iw a))),(6,.d (Wd (iw b)))] rfl ?_;refine AW.seq<|AW.seq<|AW.draw aO 5 (by kernel_rfl) ?_;refine qP 1 rfl<|qQ rfl (du a (by omega)) ?_;refine qP 1 rfl<|qQ rfl (du b (by omega)) ?_;refine ai.be tok rfl rfl rfl rfl rfl ?_;refine ai.nil<|ae.nil<|AW.norm [2,3,4,5,6,15] [(2,.bx [dB (decide (a<0)),Wd (iw a)]),(3,.bx [dB (decide (b<0)),Wd (iw b)]),(4,.bx [dB false,.sl 1 []]),(5,.d (Wd (iw a))),(6,.d (Wd (iw b))),(15,.d (dB ((decide (a<0)==decide (b<0))==true)))] rfl ?_;refine AW.cond rfl (fun h=>?_) fun h=>?_
 ·have he:decide (a<0)=decide (b<0):=by simpa using h
  rw[←add_same he];have hl:=GH a b;refine qX 1 rfl<|qM rfl (du a (by omega)) ?_;refine qU 2 rfl<|qM rfl (Dd a b ha hb) ?_;refine qM rfl (gh (decide (a<0)) _ (by omega)) ?_;exact qU 1 rfl<|qN rfl
 ·have he:decide (a<0)≠decide (b<0):=by simpa using h
  refine AW.skip<|AW.seq<|qX 2 rfl<|qM rfl (xu a b (by omega) (by omega)) ?_;refine qU 1 rfl<|ae.nil<|AW.cond rfl (fun h=>?_) fun h=>?_
  ·have hc:=G4 (ao h);rw[←Ci he hc];have hl:=kF (z:=a) (n:=a.natAbs-b.natAbs) (by omega);refine qX 1 rfl<|qM rfl (du a (by omega)) ?_;refine qU 2 rfl<|qM rfl (sJ a b ha hc) ?_;refine qM rfl (gh (decide (a<0)) _ (by omega)) ?_;exact qU 1 rfl<|qN rfl
  ·have hc:=G3 (ar h);rw[Int.add_comm,←Ci (dr he) (Nat.le_of_lt hc)];have hl:=kF (z:=b) (n:=b.natAbs-a.natAbs) (by omega);refine AW.skip<|qX 1 rfl<|qM rfl (du b (by omega)) ?_;refine qU 2 rfl<|qM rfl (sJ b a hb (by omega)) ?_;refine qM rfl (gh (decide (b<0)) _ (by omega)) ?_;exact qU 1 rfl<|qN rfl
theorem im(a b:Int)(ha:L a≤17450000000000)(hb:L b≤17450000000000):Pure Tryz.prog 159 [fk a,fk b] (fk (a*b)):=by refine qJ 16 Tryz.func159 rfl (fun B F0 w0=>?_);have hl:=GG a b;refine qX 3 rfl<|qI<|AW.draw aO 11 (by kernel_rfl) ?_;refine qP 1 rfl<|qQ rfl (du a (by omega)) ?_;refine qP 1 rfl<|qQ rfl (du b (by omega)) ?_;refine ai.be tok rfl rfl rfl rfl rfl ?_;refine qP 1 rfl<|qQ rfl (dR a (by omega)) ?_;refine qP 1 rfl<|qQ rfl (dR b (by omega)) ?_;refine qQ rfl (Bk a b ha hb) ?_;refine qQ rfl (gh ((decide (a<0)==decide (b<0))==false) _ (by omega)) ?_;refine ai.nil<|qU 1 rfl<|ae.nil ?_;rw[Js];exact AW.ret rfl
theorem EX(a b:Int)(ha:L a≤35184372088830)(hb:L b≤35184372088830):Pure Tryz.prog 192 [fk a,fk b] (fk (a-b)):=by refine qJ 9 Tryz.func192 rfl (fun B F0 w0=>?_);rw[i8];refine qX 3 rfl<|qI<|AW.draw aO 4 (by kernel_rfl) ?_;refine qP 2 rfl<|qQ rfl (nD b (by omega)) ?_;refine qQ rfl (xy a (-b) ha (by rw[pE];exact hb)) ?_;exact ai.nil<|qU 1 rfl<|qN rfl
theorem Li(a b:Int):ky (a-b)=jv a b:=by
 unfold ky jv
 repeat' split
 all_goals first|rfl|omega
theorem Pu(a b:Int):L (a-b)≤max (L a) (L b)+1:=by
 have:=Ec a (-b)
 rwa [pE,←i8]at this
theorem EY(a b:Int)(ha:L a≤35184372088830)(hb:L b≤35184372088830):Pure Tryz.prog 153 [fk a,fk b] (dI (jv a b)):=by refine qJ 9 Tryz.func153 rfl (fun B F0 w0=>?_);have hl:=Pu a b;rw[←Li];refine qX 3 rfl<|qK 2 rfl<|qM rfl (EX a b ha hb) ?_;refine qM rfl (iI (a-b) (by omega)) ?_;exact qU 1 rfl<|qN rfl
theorem xv(a b:Int)(ha:L a≤35184372088829)(hb:L b≤35184372088829):Pure Tryz.prog 141 [fk a,fk b] (fk (b3 a.natAbs b.natAbs)):=by
 refine qJ 11 Tryz.func141 rfl fun B F0 w0=>?_;have hgcd:=EW (iw a) (iw b) (bY a) (bY b) ha hb;rw[dq,dq]at hgcd
 have hgl:(tw (b3 a.natAbs b.natAbs)).length≤35184372088829:=by
  rcases ci a.natAbs with h|h
  ·rw[h,f6];exact hb
  ·exact bi (kF (z:=a) (eB _ h)) ha
 refine qX 3 rfl<|qI<|AW.draw aO 6 (by kernel_rfl) ?_;refine qP 1 rfl<|qQ rfl (dR a (by omega)) ?_;refine qP 1 rfl<|qQ rfl (dR b (by omega)) ?_;refine qQ rfl hgcd<|qQ rfl (gh false _ (by omega)) ?_;exact ai.nil<|qU 1 rfl<|qN rfl
theorem xw(a b:Int)(ha:L a≤34800000000000)(hb:L b≤34800000000000)(h0:b≠0):Pure Tryz.prog 142 [fk a,fk b] (.tu [fk (a/b),fk (a%b),dI 0]):=by
 refine qJ 45 Tryz.func142 rfl fun B F0 w0=>?_;refine qX 5 rfl<|qI<|qX 1 rfl<|qM rfl (iI b (by omega)) ?_;refine qU 1 rfl ?_;rw[show(ky b==0)=false by unfold ky;(repeat' split)<;>first|rfl|(exact aG ‹_› h0)];refine ae.nil<|AW.aC rfl<|AW.skip<|AW.seq<|AW.draw aO 9 (by kernel_rfl) ?_;refine qP 1 rfl<|qQ rfl (dR a (by omega)) ?_;refine qP 1 rfl<|qQ rfl (dR b (by omega)) ?_;refine qQ rfl (zl a b ha hb h0) ?_;refine qP 4 rfl<|ai.nil<|qU 1 rfl<|ae.nil ?_;have hlt:a.natAbs%b.natAbs<b.natAbs:=ef _ (by omega);have hdl:a.natAbs/b.natAbs≤a.natAbs:=gx _ _;have hr0:=tI (a.natAbs%b.natAbs);have hl1:=kF (z:=a) hdl;have hl2:=kF (z:=b) (n:=a.natAbs%b.natAbs) (by omega)
 refine AW.cut [2,3,4,5,7,8] (fun s:Nat×Nat=>[(2,.bx [dB (decide (a<0)),Wd (iw a)]),(3,.bx [dB (decide (b<0)),Wd (iw b)]),(4,.bx [dB false,.sl 1 []]),(5,.bx [dB false,.sl 1 []]),(7,.d (Wd (tw s.1))),(8,.d (Wd (tw s.2)))])
  (fun s=>(tw s.1).length≤34800000000002∧(tw s.2).length≤34800000000002∧sg ((decide (a<0)==decide (b<0))==false) s.1=a/b∧sg false s.2=a%b) ?_ (fun (m,n) ⟨hm,hn,hq,hr⟩=>?_)
 ·refine AW.cut [2,3,4,5,7,8,28] (fun c:Bool=>[(2,.bx [dB (decide (a<0)),Wd (iw a)]),(3,.bx [dB (decide (b<0)),Wd (iw b)]),(4,.bx [dB false,.sl 1 []]),(5,.bx [dB false,.sl 1 []]),(7,.d (Wd (tw (a.natAbs/b.natAbs)))),(8,.d (Wd (tw (a.natAbs%b.natAbs)))),(28,.d (dB c))])
   (fun c=>(c=true→a<0∧a.natAbs%b.natAbs≠0)∧(c=false→0≤a∨a.natAbs%b.natAbs=0)) ?_ (fun c ⟨ht,hf⟩=>?_)
  ·refine qT 1 rfl (qM rfl (du a (by omega)) ?_);refine qU 1 rfl ?_;refine ae.split (t:=24) rfl (fun h=>?_) fun h=>?_
   ·have hneg:=ao h;refine qU 4 rfl<|ae.nil ?_;refine⟨_,rfl,⟨fun h=>⟨hneg,hr0.1 (ao h)⟩,fun h=>.inr ?_⟩⟩;have:=ar h;rw[hr0]at this;exact Decidable.not_not.1 this
   ·have hneg:=ar h;refine qU 4 rfl<|ae.nil ?_;exact⟨false,rfl,⟨(fun h=>by cases h),fun _=>.inl (by omega)⟩⟩
  ·refine AW.cond rfl (fun h=>?_) (fun h=>?_)
   ·subst h;obtain⟨hneg,hrn⟩:=ht rfl;have hl3:=DM (a.natAbs/b.natAbs);have hp:=oQ (tw (a.natAbs/b.natAbs)) [1] (fQ _) (bc.cons.2 ⟨by decide,bc.nil⟩) (by omega) (by decide);have hm:=sI (iw b) (tw (a.natAbs%b.natAbs)) (bY b) (fQ _) (bi hb (by decide)) (by rw[eZ,dq];omega);rw[eZ,show nv [1]=1 from rfl]at hp;rw[eZ,dq]at hm;refine AW.draw aO 7 (by kernel_rfl) ?_;refine qP 1 rfl<|ai.ku tok rfl rfl rfl rfl rfl rfl ?_;refine qQ rfl hp<|qP 1 rfl<|qQ rfl (dR b (by omega)) ?_;refine qP 1 rfl<|qQ rfl hm<|ai.nil<|qU 2 rfl<|ae.nil ?_;exact⟨(a.natAbs/b.natAbs+1,b.natAbs-a.natAbs%b.natAbs),rfl,⟨bi hl3 (by omega),bi (kF (z:=b) (by simp only[];omega)) (by omega),B8 h0 _ _ (.inl ⟨hneg,hrn,rfl,rfl⟩)⟩⟩
   ·subst h;refine AW.skip ?_;exact⟨(a.natAbs/b.natAbs,a.natAbs%b.natAbs),rfl,⟨by simp only[];omega,by simp only[];omega,B8 h0 _ _ (.inr ⟨hf rfl,rfl,rfl⟩)⟩⟩
 ·simp only[]at hm hn hq hr;refine AW.seq<|AW.draw aO 9 (by kernel_rfl) ?_;refine qP 1 rfl<|qQ rfl (du a (by omega)) ?_;refine qP 1 rfl<|qQ rfl (du b (by omega)) ?_;refine ai.be tok rfl rfl rfl rfl rfl ?_;refine qP 1 rfl<|qQ rfl (gh ((decide (a<0)==decide (b<0))==false) m (by omega)) ?_;refine qP 1 rfl<|qQ rfl (gh false n (by omega)) ?_;refine ai.nil<|qU 3 rfl<|ae.nil ?_;rw[hq,hr];exact AW.ret rfl
theorem q7:Pure Tryz.prog 96 [] (fk 1):=by refine qJ 2 Tryz.func96 rfl (fun B F0 w0=>?_);refine qX 1 rfl<|qI<|AW.region<|qM rfl (Ah 1 (by decide) (by decide)) ?_;exact qU 1 rfl<|qN rfl
theorem sH(m:List Nat)(hm:bc m)(hl:m.length≤35184372088831):Pure Tryz.prog 152 [Wd m] (dB (decide (m≠[]∧okW false m=true))):=by
 refine qJ 15 Tryz.func152 rfl fun B F0 w0=>?_;refine qX 1 rfl<|qK 3 rfl ?_;rw[bf];refine ae.split (t:=5) rfl (fun h=>?_) fun h=>?_
 ·have h1:m≠[]:=by have:=ao h;intro e;subst e;simp at this
  have hl0:0<m.length:=cp.2 h1;refine qU 5 rfl ?_;rw[bf,aD (x:=(m.length:Int) -1) (by omega) (by omega),show(m.length:Int) -1=((m.length-1:Nat):Int) by omega];refine ae.idx tok (wd (m.getD (m.length-1) 0)) rfl rfl rfl rfl (aa _) (bQ (by omega)) ?_;refine qU 4 rfl<|ae.nil ?_
  rw[show decide (m≠[]∧okW false m=true)=(((m.getD (m.length-1) 0:Nat):Int) != 0) by
   unfold okW;rw[af h1,an]
   simp[h1]]
  exact AW.ret rfl
 ·have h1:m=[]:=by have:=ar h;exact cC.1 (by omega)
  refine qU 10 rfl<|ae.nil ?_;rw[show decide (m≠[]∧okW false m=true)=false by simp[h1]];exact AW.ret rfl
theorem kO(r:RD)(hw:r.w k)(hk:k≤35184372088829):Pure Tryz.prog 111 [r.D] (dB r.okB):=by
 obtain⟨g,m,d⟩:=r;obtain⟨hm,hd,hlm,hld⟩:=hw;simp only[]at hm hd hlm hld;refine qJ 36 Tryz.func111 rfl fun B F0 w0=>?_;refine qX 2 rfl<|qI ?_;refine AW.cut [1,12] (fun _:Unit=>[(1,.bx [dB g,Wd m,Wd d]),(12,.d (dB (decide (m=[]∧d=[]))))]) (fun _=>True) ?_ fun _ _=>?_
 ·refine qT 4 rfl ?_;rw[zq];refine ae.split (t:=6) rfl (fun h=>?_) fun h=>?_
  ·refine qU 6 rfl (ae.nil ?_);have:=ao h;exact⟨(),by rw[show decide (m=[]∧d=[])=(((d.map wd).length:Int)==0) by rw[zq,an];simp only[decide_eq_true_eq];exact⟨fun e=>e.2,fun e=>⟨this,e⟩⟩];rfl,trivial⟩
  ·refine qU 6 rfl (ae.nil ?_);have:=ar h;exact⟨(),by rw[show decide (m=[]∧d=[])=false by simp[this]];rfl,trivial⟩
 refine AW.cond rfl (fun h=>?_) fun h=>?_
 ·have h0:=ao h;rw[show RD.okB ⟨g,m,d⟩= !g by unfold RD.okB;rw[ah h0]];exact qX 4 rfl<|qN rfl
 ·have h0:=ar h;have hokB:RD.okB ⟨g,m,d⟩=decide (m≠[]∧d≠[]∧okW false m=true∧okW false d=true∧b3 (nv m) (nv d)=1):=by unfold RD.okB;rw[af h0]
  rw[hokB];clear hokB;refine AW.skip<|qX 2 rfl<|qM rfl (sH m hm (by omega)) ?_;refine ae.split (t:=18) rfl (fun h=>?_) fun h=>?_
  ·obtain⟨hm0,ok1⟩:=ao h;refine qU 3 rfl<|qM rfl (sH d hd (by omega)) ?_;refine qU 1 rfl ?_;refine ae.split (t:=23) rfl (fun h=>?_) fun h=>?_
   ·obtain⟨hd0,ok2⟩:=ao h;have e1:=pX hm ok1;have e2:=pX hd ok2;have l1:=tB hm ok1;have l2:=tB hd ok2
    have hgl:L ((b3 (nv m) (nv d):Nat):Int)≤35184372088829:=by have hp:0<nv m:=i5 fun e=>hm0 ((jV (tU ok1)).1 e);have:=eB (nv d) hp;have:=pG (a:=((b3 (nv m) (nv d):Nat):Int)) (b:=((nv m:Nat):Int)) (by simpa using this);omega
    have hgcd:=xv (nv m:Nat) (nv d:Nat) (by omega) (by omega);rw[←e1,←e2,ek,ek]at hgcd;refine qU 7 rfl<|qM rfl hgcd<|qM rfl q7 ?_;refine qM rfl (EY ((b3 (nv m) (nv d):Nat):Int) 1 (by omega) (by rw[yN];decide)) ?_;refine qU 3 rfl<|ae.nil ?_
    rw[show decide (m≠[]∧d≠[]∧okW false m=true∧okW false d=true∧b3 (nv m) (nv d)=1)=(jv ((b3 (nv m) (nv d):Nat):Int) 1==0) by
     rw[an];simp only[ne_eq,hm0,not_false_eq_true,hd0,ok1,ok2,true_and,decide_eq_true_eq,D7];unfold jv;constructor
     ·intro h;rw[h];rfl
     ·intro h;split at h
      ·cases h
      ·split at h
       ·omega
       ·cases h]
    exact AW.ret rfl
   ·have h2:=ar h;refine qU 13 rfl<|ae.nil ?_;rw[show decide (m≠[]∧d≠[]∧okW false m=true∧okW false d=true∧b3 (nv m) (nv d)=1)=false from a5 fun e=>h2 ⟨e.2.1,e.2.2.2.1⟩];exact AW.ret rfl
  ·have h1:=ar h;refine qU 5 rfl<|qU 13 rfl<|ae.nil ?_;rw[show decide (m≠[]∧d≠[]∧okW false m=true∧okW false d=true∧b3 (nv m) (nv d)=1)=false from a5 fun e=>h1 ⟨e.1,e.2.2.1⟩];exact AW.ret rfl
theorem eJ(r:RD)(hw:r.w k)(hk:k≤34800000000000):Pure Tryz.prog 156 [r.D] (.tu [fk r.val.num,fk r.val.den]):=by
 refine qJ 23 Tryz.func156 rfl fun B F0 w0=>?_;refine qX 3 rfl<|qI ?_;refine AW.cut [1,2,3,12] (fun _:Unit=>[(1,.bx [dB r.g,Wd r.n,Wd r.d]),(2,.bx [dB false,.sl 1 []]),(3,.bx [dB false,.sl 1 []]),(12,.d (dB (decide (r.okB=false∨r.n=[]))))]) (fun _=>True) ?_ fun _ _=>?_
 ·refine qT 1 rfl (qM rfl (kO r hw (by omega)) ?_);refine qU 2 rfl ?_;refine ae.split (t:=7) rfl (fun h=>?_) fun h=>?_
  ·have h1:r.okB=false:=by simpa using h
   refine qU 5 rfl<|ae.nil ?_;exact⟨(),by rw[show decide (r.okB=false∨r.n=[])=true by simp[h1]];rfl,trivial⟩
  ·have h1:r.okB=true:=by simpa using h
   refine qU 5 rfl ?_;rw[zq];refine ae.nil ?_;exact⟨(),by rw[show decide (r.okB=false∨r.n=[])=decide (r.n=[]) by simp only[h1];simp];rfl,trivial⟩
 refine AW.cond rfl (fun h=>?_) fun h=>?_
 ·have h1:=ao h
  have hv:r.val=0:=by
   rcases h1 with h1|h1
   ·exact RD.vU h1
   ·exact RD.pH h1
  rw[hv,show(0:Rat).num=0 from rfl,show(((0:Rat).den:Nat):Int)=1 from rfl,Ct];exact qX 1 rfl<|qM rfl q7<|qU 2 rfl<|qN rfl
 ·have h1:=ar h
  have h2:r.okB=true:=by cases ho:r.okB with
   |true=>rfl
   |false=>exact aG (.inl ho) h1
  obtain⟨_,_,p3,p4,p5,_⟩:=RD.parts hw h2 (fun e=>h1 (.inr e));have e1:fk r.val.num=Wh r.g r.n:=by rw[fk,←p3,←p4]
  have e2:fk (r.val.den:Nat)=Wh false r.d:=by
   have:decide (((r.val.den:Nat):Int)<0)=false:=by simp
   rw[fk,this,iw,ek,←p5]
  rw[e1,e2];have hl1:=hw.2.2.1;have hl2:=hw.2.2.2;refine AW.skip<|AW.seq<|AW.mU tok aO [(5,true),(3,false)] 8 [2,3] (by kernel_rfl) ⟨rfl,?_⟩;refine qP 5 rfl<|ai.nil ⟨rfl,?_⟩;refine qP 3 rfl<|ai.nil ⟨_,m8.cons (.bx rfl) (m8.cons (.bx rfl) m8.nil),ae.nil ?_⟩;exact AW.ret rfl
theorem Ml{n d:Int}(hd:0<d)(hn:n≠0):(Qr (cT n d)).D= .ag [dB (decide (n/(b3 n.natAbs d.natAbs:Int)<0)),Wd (iw (n/(b3 n.natAbs d.natAbs:Int))),Wd (iw (d/(b3 n.natAbs d.natAbs:Int)))]:=by
 obtain⟨h1,h2⟩:=x9 (n:=n) hd
 have hnz:(cT n d).num≠0:=by intro e;rw[h1]at e;exact hn<|Int.eq_zero_of_ediv_eq_zero (Int.ofNat_dvd_left.2 (Nat.gcd_dvd_left _ _)) e
 show D.ag [dB (decide ((cT n d).num<0)),Wd (iw (cT n d).num),Wd (if (cT n d).num=0 then []else tw (cT n d).den)]=_;rw[af hnz,h1,←h2,iw,iw,ek]
theorem ke(n d:Int)(hn:L n≤34800000000000)(hd:L d≤34800000000000)(h0:d≠0):Pure Tryz.prog 94 [fk n,fk d] (Qr (cT n d)).D:=by
 refine qJ 47 Tryz.func94 rfl fun B F0 w0=>?_;refine qX 3 rfl<|qI<|qX 1 rfl<|qM rfl (iI n (by omega)) ?_;refine qU 1 rfl<|ae.nil<|AW.cond rfl (fun h=>?_) fun h=>?_
 ·have hn0:n=0:=by
   have:ky n=0:=by simpa using h
   unfold ky at this
   repeat' split at this
   all_goals omega
  rw[hn0,Rat.zero_divInt,gL];exact qX 2 rfl<|qN rfl
 ·have hn0:n≠0:=by rintro rfl;simp[ky]at h
  refine AW.skip ?_
  refine AW.cut [2,3,4] (fun s:Int×Int=>[(2,.bx [dB (decide (s.1<0)),Wd (iw s.1)]),(3,.bx [dB (decide (s.2<0)),Wd (iw s.2)]),(4,.bx [dB false,.sl 1 [],.sl 1 []])])
   (fun s=>0<s.2∧s.1≠0∧L s.1≤34800000000000∧L s.2≤34800000000000∧cT s.1 s.2=cT n d) ?_ (fun (x,y) ⟨hy,hx,hlx,hly,he⟩=>?_)
  ·refine qX 1 rfl (qM rfl (iI d (by omega)) ?_);refine qU 1 rfl<|ae.nil<|AW.cond rfl (fun h=>?_) fun h=>?_
   ·have hd0:d<0:=by
     have:=ao h;unfold ky at this
     repeat' split at this
     all_goals omega
    refine AW.draw aO 4 (by kernel_rfl) ?_;refine qP 1 rfl<|qQ rfl (nD n (by omega)) ?_;refine qP 1 rfl<|qQ rfl (nD d (by omega)) ?_;refine ai.nil<|qU 2 rfl<|ae.nil ?_;exact⟨(-n, -d),rfl,⟨by simp only[];omega,by simp only[];omega,by rw[pE];exact hn,by rw[pE];exact hd,Rat.neg_divInt_neg n d⟩⟩
   ·have hd0:0<d:=by
     have:=ar h;unfold ky at this
     repeat' split at this
     all_goals omega
    refine AW.skip ?_;exact⟨(n,d),rfl,⟨hd0,hn0,hn,hd,rfl⟩⟩
  ·simp only[]at hy hx hlx hly he;rw[←he]
   have hgl:L ((b3 x.natAbs y.natAbs:Nat):Int)≤34800000000000:=by have:=eB y.natAbs (show 0<x.natAbs by omega);have:=pG (a:=((b3 x.natAbs y.natAbs:Nat):Int)) (b:=x) (by simpa using this);omega
   have hg0:((b3 x.natAbs y.natAbs:Nat):Int)≠0:=by have:0<b3 x.natAbs y.natAbs:=Nat.gcd_pos_of_pos_left _ (by omega);omega
   rw[Ml hy hx];have hgcd:=xv x y (by omega) (by omega);generalize ((b3 x.natAbs y.natAbs:Nat):Int)=g at *;refine qX 2 rfl<|qM rfl hgcd<|qU 2 rfl<|qK 2 rfl<|qM rfl (xw x g hlx hgl hg0) ?_;refine qU 9 rfl<|qK 2 rfl<|qM rfl (xw y g hly hgl hg0) ?_;exact qU 9 rfl<|qK 8 rfl<|qN rfl
theorem tP(n:Int)(h0: -9223372036854775808≤n)(h1:n≤9223372036854775807):Pure Tryz.prog 49 [dI n] (Qr n).D:=by refine qJ 7 Tryz.func49 rfl (fun B F0 w0=>?_);have hl:=Pv n (by omega);have hf:=ke n 1 (by omega) (by rw[yN];decide) (by decide);rw[tX]at hf;refine qX 1 rfl<|qK 1 rfl<|qM rfl (Ah n h0 h1) ?_;exact qM rfl q7<|qM rfl hf<|qU 1 rfl<|qN rfl
theorem xp(r:RD)(hw:r.w k)(hk:k≤17300000000000):Pure Tryz.prog 119 [r.D] (Qr (-r.val)).D:=by refine qJ 14 Tryz.func119 rfl (fun B F0 w0=>?_);have hl:=bU (hw.mono (b8 k 1)) (bz k 1);have hn:=kr r.val;have hd:=kT r.val;rw[←neg_divInt];refine qX 2 rfl<|qK 1 rfl<|qM rfl (eJ r hw (by omega)) ?_;refine qU 7 rfl<|qI<|AW.draw aO 4 (by kernel_rfl) ?_;refine qP 1 rfl<|qQ rfl (nD r.val.num (by omega)) ?_;refine qP 1 rfl ?_;refine qQ rfl (ke (-r.val.num) r.val.den (by rw[pE];omega) (by omega) (uC _)) ?_;exact ai.nil<|qU 1 rfl<|qN rfl
theorem oP(r:RD)(hr:r.w k)(hk:k≤17300000000000):Pure Tryz.prog 115 [r.D] (dI (ky r.val.num)):=by refine qJ 12 Tryz.func115 rfl (fun B F0 w0=>?_);have hl:=bU (hr.mono (b8 k 1)) (bz k 1);have:=kr r.val;refine qX 2 rfl<|qK 1 rfl<|qM rfl (eJ r hr (by omega)) ?_;refine qU 7 rfl<|qK 1 rfl<|qM rfl (iI r.val.num (by omega)) ?_;exact qU 1 rfl<|qN rfl
theorem q8(r s:RD)(hr:r.w k)(hs:s.w k)(hk:k≤17300000000000):Pure Tryz.prog 118 [r.D,s.D] (Qr (r.val+s.val)).D:=by refine qJ 30 Tryz.func118 rfl (fun B F0 w0=>?_);have hl:=bU (hr.mono (b8 k 1)) (bz k 1);have hm:=bU (hs.mono (b8 k 1)) (bz k 1);have:=kr r.val;have:=kT r.val;have:=kr s.val;have:=kT s.val;have:=gQ r.val.num s.val.den;have:=gQ s.val.num r.val.den;have:=gQ r.val.den s.val.den;have:=Ec (r.val.num*s.val.den) (s.val.num*r.val.den);rw[←rK];refine qX 3 rfl<|qK 1 rfl<|qM rfl (eJ r hr (by omega)) ?_;refine qU 7 rfl<|qK 1 rfl<|qM rfl (eJ s hs (by omega)) ?_;refine qU 7 rfl<|qI<|AW.draw aO 11 (by kernel_rfl) ?_;refine qP 2 rfl<|qQ rfl (im r.val.num s.val.den (by omega) (by omega)) ?_;refine qP 2 rfl<|qQ rfl (im s.val.num r.val.den (by omega) (by omega)) ?_;refine qQ rfl (xy (r.val.num*s.val.den) (s.val.num*r.val.den) (by omega) (by omega)) ?_;refine qP 2 rfl<|qQ rfl (im r.val.den s.val.den (by omega) (by omega)) ?_;refine qQ rfl (ke (r.val.num*s.val.den+s.val.num*r.val.den) (r.val.den*s.val.den) (by omega) (by omega) (jM _ _)) ?_;exact ai.nil<|qU 1 rfl<|qN rfl
theorem EV(r s:RD)(hr:r.w k)(hs:s.w k)(hk:k≤17300000000000):Pure Tryz.prog 193 [r.D,s.D] (Qr (r.val*s.val)).D:=by refine qJ 26 Tryz.func193 rfl (fun B F0 w0=>?_);have hl:=bU (hr.mono (b8 k 1)) (bz k 1);have hm:=bU (hs.mono (b8 k 1)) (bz k 1);have:=kr r.val;have:=kT r.val;have:=kr s.val;have:=kT s.val;have:=gQ r.val.num s.val.num;have:=gQ r.val.den s.val.den;rw[←rA];refine qX 3 rfl<|qK 1 rfl<|qM rfl (eJ r hr (by omega)) ?_;refine qU 7 rfl<|qK 1 rfl<|qM rfl (eJ s hs (by omega)) ?_;refine qU 7 rfl<|qI<|AW.draw aO 7 (by kernel_rfl) ?_;refine qP 2 rfl<|qQ rfl (im r.val.num s.val.num (by omega) (by omega)) ?_;refine qP 2 rfl<|qQ rfl (im r.val.den s.val.den (by omega) (by omega)) ?_;refine qQ rfl (ke (r.val.num*s.val.num) (r.val.den*s.val.den) (by omega) (by omega) (jM _ _)) ?_;exact ai.nil<|qU 1 rfl<|qN rfl
theorem EU(r s:RD)(hr:r.w k)(hs:s.w k)(hk:k≤17300000000000):Pure Tryz.prog 154 [r.D,s.D] (Qr (r.val-s.val)).D:=by refine qJ 9 Tryz.func154 rfl (fun B F0 w0=>?_);have hm:=bU (hs.mono (b8 k 1)) (bz k 1);have hadd:=q8 r (Qr (-s.val)) (k:=max k 1) (hr.mono (by omega)) (gz _ (by rw[Cm];omega)) (by omega);rw[b5,←Rat.sub_eq_add_neg]at hadd;refine qX 3 rfl<|qI<|AW.draw aO 4 (by kernel_rfl) ?_;refine qP 2 rfl<|qQ rfl (xp s hs (by omega)) ?_;exact qQ rfl hadd<|ai.nil<|qU 1 rfl<|qN rfl
theorem IN(a b:Rat):ky (a-b).num=Cb a b:=by rw[←Kj]
theorem xq(r s:RD)(hr:r.w k)(hs:s.w k)(hk:k≤8600000000000):Pure Tryz.prog 112 [r.D,s.D] (dI (Cb r.val s.val)):=by refine qJ 9 Tryz.func112 rfl (fun B F0 w0=>?_);have hl:=bU (hr.mono (b8 k 1)) (bz k 1);have hm:=bU (hs.mono (b8 k 1)) (bz k 1);have hq:=FR r.val s.val;have hsg:=oP (Qr (r.val-s.val)) (gz _ (ap _)) (by omega);rw[b5,IN]at hsg;refine qX 3 rfl<|qK 2 rfl<|qM rfl (EU r s hr hs (by omega)) ?_;exact qM rfl hsg<|qU 1 rfl<|qN rfl
def rO(c:Nat):Bool:=(decide (97≤c)&&decide (c≤122))||(decide (65≤c)&&decide (c≤90))
def xZ(c:Nat):Bool:=decide (48≤c)&&decide (c≤57)
def vH(c:Nat):Bool:=rO c||xZ c||decide (c=95)
abbrev d8(c:Nat):D:=.v (.int .u8 (c:Int))
abbrev dS(s:ByteArray):D:=.v (.string s)
def rP(s:ByteArray):List Nat:=s.data.toList.map UInt8.toNat
theorem wz(s:ByteArray):(rP s).length=s.size:=by simp[rP]
theorem yF(s:ByteArray)(i:Nat):(s.data.toList.getD i 0).toNat=(rP s).getD i 0:=by simp only[rP,ab,e5];cases s.data.toList[i]?<;>rfl
def vt(l:List Nat):Nat:=if rO (l.getD 0 0)=true then(l.takeWhile vH).length else 0
def dV(s:ByteArray):Bool:=decide (0<vt (rP s)∧vt (rP s)=s.size∧s.size≤24)
theorem OZ(h:rO c=true):vH c=true:=by simp[vH,h]
theorem rY(h1:n≤l.length)(h2: ∀i,i<n→vH (l.getD i 0)=true)(h3:vH (l.getD n 0)=false):(l.takeWhile vH).length=n:=by
 induction l generalizing n with
 |nil=>simp at h1;subst h1;rfl
 |cons a r ih =>
  cases n with
  |zero =>
   have:vH a=false:=by simpa using h3
   simp[j0,this]
  |succ m =>
   have ha:vH a=true:=by simpa using h2 0 (by omega)
   have:=ih (n:=m) (by simpa using h1) (fun i hi=>by simpa using h2 (i+1) (by omega)) (by simpa using h3);simp[j0,ha,this]
theorem mP(h:l.length≤n):l.getD n 0=0:=by rw[ab,cJ h];rfl
theorem wT(c:Nat):Pure Tryz.prog 190 [d8 c] (dB (xZ c)):=by
 refine qJ 9 Tryz.func190 rfl fun B F0 w0=>?_;refine qX 1 rfl<|qK 2 rfl ?_;refine ae.split (t:=4) rfl (fun h=>?_) fun h=>?_
 ·have h1:=ao h;refine qU 5 rfl<|ae.nil ?_;rw[show xZ c=decide ((c:Int)≤57) by unfold xZ;rw[an];simp<;>omega];exact AW.ret rfl
 ·have h1:=ar h;refine qU 5 rfl<|ae.nil ?_;rw[show xZ c=false by unfold xZ;rw[an];simp<;>omega];exact AW.ret rfl
theorem nU(c:Nat):Pure Tryz.prog 144 [d8 c] (dB (rO c)):=by
 refine qJ 17 Tryz.func144 rfl fun B F0 w0=>?_;refine qX 1 rfl<|qK 2 rfl ?_;refine ae.split (t:=4) rfl (fun h=>?_) fun h=>?_
 ·have h1:=ao h;refine qU 5 rfl ?_;refine ae.split (t:=9) rfl (fun h=>?_) fun h=>?_
  ·have h2:=ao h;refine qU 8 rfl<|ae.nil ?_;rw[show rO c=true by unfold rO;rw[an];simp<;>omega];exact AW.ret rfl
  ·have h2:=ar h;refine qU 2 rfl ?_;refine ae.split (t:=11) rfl (fun h=>?_) fun h=>?_
   ·have h3:=ao h;refine qU 6 rfl<|ae.nil ?_;rw[show rO c=decide ((c:Int)≤90) by unfold rO;rw[an];simp<;>omega];exact AW.ret rfl
   ·have h3:=ar h;refine qU 6 rfl<|ae.nil ?_;rw[show rO c=false by unfold rO;rw[an];simp<;>omega];exact AW.ret rfl
 ·have h1:=ar h;refine qU 7 rfl ?_;refine ae.split (t:=11) rfl (fun h=>?_) fun h=>?_
  ·have h3:=ao h;refine qU 6 rfl<|ae.nil ?_;rw[show rO c=decide ((c:Int)≤90) by unfold rO;rw[an];simp<;>omega];exact AW.ret rfl
  ·have h3:=ar h;refine qU 6 rfl<|ae.nil ?_;rw[show rO c=false by unfold rO;rw[an];simp<;>omega];exact AW.ret rfl
theorem y5(c:Nat):Pure Tryz.prog 145 [d8 c] (dB (vH c)):=by
 refine qJ 13 Tryz.func145 rfl fun B F0 w0=>?_;refine qX 1 rfl<|qK 1 rfl<|qM rfl (nU c) ?_;refine ae.split (t:=4) rfl (fun h=>?_) fun h=>?_
 ·refine qU 9 rfl (ae.nil ?_);rw[show vH c=true by simp[vH,h]];exact AW.ret rfl
 ·refine qU 2 rfl (qM rfl (wT c) ?_);refine qU 2 rfl ?_;refine ae.split (t:=9) rfl (fun h2=>?_) fun h2=>?_
  ·refine qU 4 rfl (ae.nil ?_);rw[show vH c=true by simp[vH,h2]];exact AW.ret rfl
  ·refine qU 4 rfl (ae.nil ?_);rw[show vH c=((c:Int)==95) by unfold vH;rw[h,h2,an];simp<;>omega];exact AW.ret rfl
theorem nk(a b:ByteArray):(a.toList==b.toList)=decide (a=b):=by rw[g7,g7,an];simp only[D7,decide_eq_true_eq];exact⟨fun h=>e9 h,fun h=>by rw[h]⟩
theorem Hu(s:ByteArray):(s.toList==(⟨#[]⟩:ByteArray).toList)=decide (s.size=0):=by
 rw[nk,an];simp only[decide_eq_true_eq];constructor
 ·intro h;rw[h];rfl
 ·intro h;exact e9 (by
   have:s.data.toList.length=0:=h
   rw[cC.1 this])
theorem yZ(s:ByteArray)(hs:s.size≤1000000000000000):Pure Tryz.prog 97 [dS s] (dI (vt (rP s):Nat)):=by
 refine qJ 25 Tryz.func97 rfl fun B F0 w0=>?_;refine qX 1 rfl<|qI ?_;have hl:=wz s;refine AW.cut [0,11] (fun _:Unit=>[(0,.d (dS s)),(11,.d (dB (!rO ((rP s).getD 0 0))))]) (fun _=>True) ?_ fun _ _=>?_
 ·refine qT 2 rfl ?_;rw[Hu];refine ae.split (t:=5) rfl (fun h=>?_) fun h=>?_
  ·have h1:=ao h;refine qU 6 rfl<|ae.nil ?_;refine⟨(),?_,trivial⟩;rw[mP (by omega)];rfl
  ·have h1:=ar h;refine qU 2 rfl<|ae.zT tok rfl rfl rfl rfl (dj 0) (i5 h1) ?_;rw[show(0:Int).toNat=0 from rfl,yF];refine qM rfl (nU ((rP s).getD 0 0)) ?_;refine qU 2 rfl<|ae.nil ?_;exact⟨(),rfl,trivial⟩
 refine AW.cond rfl (fun h=>?_) fun h=>?_
 ·have h1:rO ((rP s).getD 0 0)=false:=by simpa using h
  rw[vt,h1];exact qX 1 rfl<|qN rfl
 ·have h1:rO ((rP s).getD 0 0)=true:=by simpa using h
  rw[vt,ah h1]
  have hs0:0<s.size:=by
   rcases ci s.size with e|e
   ·rw[mP (by omega)]at h1;cases h1
   ·exact e
  refine AW.skip<|qX 1 rfl<|qI<|AW.block ?_
  refine AW.aK [0,3] (fun k:Nat=>[(0,.d (dS s)),(3,.d (dI k))]) (fun k=>k≤s.size∧ ∀i,i<k→vH ((rP s).getD i 0)=true) (fun k=>s.size-k) 1 rfl
   ⟨hs0,fun i hi=>by rw[show i=0 by omega];exact OZ h1⟩ (fun k ⟨hk,hp⟩=>?_)
  refine AW.seq ?_;refine AW.cut [0,3,21] (fun _:Unit=>[(0,.d (dS s)),(3,.d (dI k)),(21,.d (dB (vH ((rP s).getD k 0))))]) (fun _=>True) ?_ fun _ _=>?_
  ·refine qT 4 rfl ?_;refine ae.split (t:=15) rfl (fun h=>?_) fun h=>?_
   ·have h2:=ao h;refine qU 3 rfl ?_;refine ae.zT tok rfl rfl rfl rfl (aa k) (by simp only[cA];omega) ?_;rw[cA,yF];refine qM rfl (y5 ((rP s).getD k 0)) ?_;refine qU 1 rfl<|ae.nil ?_;exact⟨(),rfl,trivial⟩
   ·have h2:=ar h;refine qU 6 rfl<|ae.nil ?_;refine⟨(),?_,trivial⟩;rw[mP (by omega)];rfl
  refine AW.cond rfl (fun h=>?_) fun h=>?_
  ·have hks:k<s.size:=by
    rcases ct k s.size with e|e
    ·exact e
    ·rw[mP (by omega)]at h;cases h
   refine AW.skip<|AW.block<|qT 3 rfl ?_;rw[aD (x:=(k:Int)+1) (by omega) (by omega)];refine ae.nil ?_;refine⟨k+1,rfl,⟨hks,fun i hi=>?_⟩,by omega⟩;rcases ct i k with e|e
   ·exact hp i e
   ·rw[show i=k by omega];exact h
  ·rw[rY (by omega) hp h];exact AW.exit<|qX 2 rfl<|qN rfl
theorem gV(s:ByteArray)(hs:s.size≤1000000000000000):Pure Tryz.prog 51 [dS s] (dB (dV s)):=by
 refine qJ 18 Tryz.func51 rfl fun B F0 w0=>?_;refine qX 1 rfl<|qK 1 rfl<|qM rfl (yZ s hs) ?_;refine qU 1 rfl<|qK 2 rfl ?_;unfold dV;generalize vt (rP s)=n;refine ae.split (t:=7) rfl (fun h=>?_) fun h=>?_
 ·have h1:=ao h;refine qU 6 rfl ?_;refine ae.split (t:=13) rfl (fun h=>?_) fun h=>?_
  ·have h2:(n:Int)=s.size:=by simpa using h
   refine qU 5 rfl<|ae.nil ?_;rw[show decide (0<n∧n=s.size∧s.size≤24)=decide ((n:Int)≤24) by rw[an];simp only[decide_eq_true_eq];omega];exact AW.ret rfl
  ·have h2: ¬(n:Int)=s.size:=by simpa using h
   refine qU 5 rfl<|ae.nil ?_;rw[show decide (0<n∧n=s.size∧s.size≤24)=false by rw[an];simp<;>omega];exact AW.ret rfl
 ·have h1:=ar h;refine qU 11 rfl<|ae.nil ?_;rw[show decide (0<n∧n=s.size∧s.size≤24)=false by rw[an];simp<;>omega];exact AW.ret rfl
theorem xl(c:Nat):Pure Tryz.prog 110 [d8 c] (dB (xZ c)):=by
 refine qJ 9 Tryz.func110 rfl fun B F0 w0=>?_;refine qX 1 rfl<|qK 2 rfl ?_;refine ae.split (t:=4) rfl (fun h=>?_) fun h=>?_
 ·have h1:=ao h;refine qU 5 rfl<|ae.nil ?_;rw[show xZ c=decide ((c:Int)≤57) by unfold xZ;rw[an];simp<;>omega];exact AW.ret rfl
 ·have h1:=ar h;refine qU 5 rfl<|ae.nil ?_;rw[show xZ c=false by unfold xZ;rw[an];simp<;>omega];exact AW.ret rfl
theorem nW(c:Nat):Pure Tryz.prog 108 [d8 c] (dB (rO c)):=by
 refine qJ 17 Tryz.func108 rfl fun B F0 w0=>?_;refine qX 1 rfl<|qK 2 rfl ?_;refine ae.split (t:=4) rfl (fun h=>?_) fun h=>?_
 ·have h1:=ao h;refine qU 5 rfl ?_;refine ae.split (t:=9) rfl (fun h=>?_) fun h=>?_
  ·have h2:=ao h;refine qU 8 rfl<|ae.nil ?_;rw[show rO c=true by unfold rO;rw[an];simp<;>omega];exact AW.ret rfl
  ·have h2:=ar h;refine qU 2 rfl ?_;refine ae.split (t:=11) rfl (fun h=>?_) fun h=>?_
   ·have h3:=ao h;refine qU 6 rfl<|ae.nil ?_;rw[show rO c=decide ((c:Int)≤122) by unfold rO;rw[an];simp<;>omega];exact AW.ret rfl
   ·have h3:=ar h;refine qU 6 rfl<|ae.nil ?_;rw[show rO c=false by unfold rO;rw[an];simp<;>omega];exact AW.ret rfl
 ·have h1:=ar h;refine qU 7 rfl ?_;refine ae.split (t:=11) rfl (fun h=>?_) fun h=>?_
  ·have h3:=ao h;refine qU 6 rfl<|ae.nil ?_;rw[show rO c=decide ((c:Int)≤122) by unfold rO;rw[an];simp<;>omega];exact AW.ret rfl
  ·have h3:=ar h;refine qU 6 rfl<|ae.nil ?_;rw[show rO c=false by unfold rO;rw[an];simp<;>omega];exact AW.ret rfl
theorem pS(s:ByteArray)(i:Nat):Pure Tryz.prog 109 [dS s,dI i] (d8 ((rP s).getD i 0)):=by
 refine qJ 12 Tryz.func109 rfl fun B F0 w0=>?_;have hl:=wz s;refine qX 1 rfl<|qI<|qX 4 rfl<|ae.nil<|AW.cond rfl (fun h=>?_) fun h=>?_
 ·have h1:=ao h;refine qX 2 rfl ?_;refine ae.zT tok rfl rfl rfl rfl (aa i) (by simp only[cA];omega) ?_;rw[cA,yF];exact qU 1 rfl<|qN rfl
 ·have h1:=ar h;rw[mP (by omega)];exact AW.skip<|qX 1 rfl<|qN rfl
theorem xk(s:ByteArray)(hs:s.size≤1000000000000000):Pure Tryz.prog 62 [dS s,dI 0] (dI (vt (rP s):Nat)):=by
 refine qJ 30 Tryz.func62 rfl fun B F0 w0=>?_;have hl:=wz s;refine qX 1 rfl<|qI<|qX 2 rfl<|qM rfl (pS s 0) ?_;refine qM rfl (nW ((rP s).getD 0 0)) ?_;refine qU 1 rfl<|ae.nil<|AW.cond rfl (fun h=>?_) fun h=>?_
 ·have h1:rO ((rP s).getD 0 0)=false:=by simpa using h
  rw[vt,h1];exact qX 2 rfl<|qN rfl
 ·have h1:rO ((rP s).getD 0 0)=true:=by simpa using h
  rw[vt,ah h1];refine AW.skip<|AW.seq<|AW.block ?_
  refine AW.aK [0,1] (fun k:Nat=>[(0,.d (dS s)),(1,.d (dI k))]) (fun k=>k≤s.size∧ ∀i,i<k→vH ((rP s).getD i 0)=true) (fun k=>s.size-k) 0 rfl
   ⟨a4 _,fun i hi=>by omega⟩ (fun k ⟨hk,hp⟩=>?_)
  refine AW.seq ?_;refine AW.cut [0,1,26] (fun _:Unit=>[(0,.d (dS s)),(1,.d (dI k)),(26,.d (dB (vH ((rP s).getD k 0))))]) (fun _=>True) ?_ fun _ _=>?_
  ·refine qT 2 rfl (qM rfl (pS s k) ?_);refine qM rfl (nW ((rP s).getD k 0)) ?_;refine ae.split (t:=14) rfl (fun h=>?_) fun h=>?_
   ·refine qU 12 rfl (ae.nil ?_);exact⟨(),by rw[show vH ((rP s).getD k 0)=true by unfold vH;rw[h];rfl];rfl,trivial⟩
   ·refine qU 3 rfl (qM rfl (pS s k) ?_);refine qM rfl (xl ((rP s).getD k 0)) ?_;refine qU 2 rfl ?_;refine ae.split (t:=21) rfl (fun h2=>?_) fun h2=>?_
    ·refine qU 5 rfl (ae.nil ?_);exact⟨(),by rw[show vH ((rP s).getD k 0)=true by unfold vH;rw[h,h2];rfl];rfl,trivial⟩
    ·refine qU 2 rfl (qM rfl (pS s k) ?_);refine qU 2 rfl<|ae.nil ?_;exact⟨(),by rw[show vH ((rP s).getD k 0)=((((rP s).getD k 0:Nat):Int)==95) by unfold vH;rw[h,h2,an];simp<;>omega];rfl,trivial⟩
  refine AW.cond rfl (fun h=>?_) fun h=>?_
  ·have hks:k<s.size:=by
    rcases ct k s.size with e|e
    ·exact e
    ·rw[mP (by omega)]at h;cases h
   refine AW.skip<|AW.block<|qT 3 rfl ?_;rw[aD (x:=(k:Int)+1) (by omega) (by omega)];refine ae.nil ?_;refine⟨k+1,rfl,⟨hks,fun i hi=>?_⟩,by omega⟩;rcases ct i k with e|e
   ·exact hp i e
   ·rw[show i=k by omega];exact h
  ·rw[rY (by omega) hp h];exact AW.exit<|qX 2 rfl<|qN rfl
theorem j8(s:ByteArray)(hs:s.size≤1000000000000000):Pure Tryz.prog 33 [dS s] (dB (dV s)):=by
 refine qJ 18 Tryz.func33 rfl fun B F0 w0=>?_
 have hle:vt (rP s)≤s.size:=by
  unfold vt;split
  ·rw[←wz];exact(List.takeWhile_prefix _).length_le
  ·omega
 have hw:=xk s hs;unfold dV;generalize vt (rP s)=n at *;refine qX 1 rfl<|qK 3 rfl ?_;refine ae.split (t:=5) rfl (fun h=>?_) fun h=>?_
 ·have h1:=ao h;refine qU 5 rfl ?_;refine ae.split (t:=10) rfl (fun h=>?_) fun h=>?_
  ·have h2:=ao h;refine qU 2 rfl<|qM rfl hw<|qU 5 rfl<|ae.nil ?_;rw[show decide (0<n∧n=s.size∧s.size≤24)=((n:Int)==s.size) by rw[an];simp only[decide_eq_true_eq,D7];omega];exact AW.ret rfl
  ·have h2:=ar h;refine qU 8 rfl<|ae.nil ?_;rw[show decide (0<n∧n=s.size∧s.size≤24)=false by rw[an];simp<;>omega];exact AW.ret rfl
 ·have h1:=ar h;refine qU 13 rfl<|ae.nil ?_;rw[show decide (0<n∧n=s.size∧s.size≤24)=false by rw[an];simp<;>omega];exact AW.ret rfl
instance:Inhabited RD:=⟨⟨false,[],[]⟩⟩
structure Mark where
 nm:ByteArray
 x:RD
 y:RD
deriving Inhabited
structure Body where
 nm:ByteArray
 pts:List Mark
deriving Inhabited
structure bp where
 nm:ByteArray
 kind:Int
 a:Int
 pt:Int
 b:Int
 on:Int
 to:Int
deriving Inhabited
structure Driver where
 nm:ByteArray
 body:Int
deriving Inhabited
structure Lkg where
 nm:ByteArray
 bodies:List Body
 joints:List bp
 drivers:List Driver
deriving Inhabited
abbrev Mark.D(p:Mark):D:=.ag [dS p.nm,dB p.x.g,Wd p.x.n,Wd p.x.d,dB p.y.g,Wd p.y.n,Wd p.y.d]
abbrev rN(l:List Mark):D:=.sl 7 (l.map Mark.D)
abbrev Body.D(b:Body):D:=.ag [dS b.nm,rN b.pts]
abbrev bp.D(j:bp):D:=.ag [dS j.nm,dI j.kind,dI j.a,dI j.pt,dI j.b,dI j.on,dI j.to]
abbrev Driver.D(d:Driver):D:=.ag [dS d.nm,dI d.body]
abbrev aI(l:List Body):D:=.sl 2 (l.map Body.D)
abbrev aE(l:List bp):D:=.sl 7 (l.map bp.D)
abbrev aF(l:List Driver):D:=.sl 2 (l.map Driver.D)
abbrev Lkg.D(l:Lkg):D:=.ag [dS l.nm,aI l.bodies,aE l.joints,aF l.drivers]
def big:Nat:=1000000000000000
def Mark.ok(k:Nat)(p:Mark):Prop:=p.nm.size≤big∧p.x.w k∧p.y.w k
def Body.ok(k:Nat)(b:Body):Prop:=b.nm.size≤big∧b.pts.length≤big∧ ∀i,(b.pts.getD i default).ok k
structure Lkg.ok (k:Nat) (l:Lkg):Prop where
 nm:l.nm.size≤big
 nb:l.bodies.length≤big
 nj:l.joints.length≤big
 nd:l.drivers.length≤big
 b: ∀i,(l.bodies.getD i default).ok k
 j: ∀i,(l.joints.getD i default).nm.size≤big
 d: ∀i,(l.drivers.getD i default).nm.size≤big
def fT(g:Nat→Bool):Nat→Nat→Bool
 |0,_=>false
 |m+1,i=>g i||fT g m (i+1)
def fE(f:Nat→Nat):Nat→Nat→Nat
 |0,_=>0
 |m+1,i=>if f i=0 then fE f m (i+1)else f i
theorem ez(h:i<n)(h0:f i≠0):fE f (n-i) i=f i:=by rw[show n-i=(n-(i+1))+1 by omega,fE,af h0]
theorem cQ(h:i<n)(h0:f i=0):fE f (n-i) i=fE f (n-(i+1)) (i+1):=by rw[show n-i=(n-(i+1))+1 by omega,fE,ah h0]
theorem eC(h: ¬i<n):fE f (n-i) i=0:=by rw[show n-i=0 by omega,fE]
theorem gv{f:Nat→Bool}(h:i<n)(h0:f i=true):fT f (n-i) i=true:=by rw[show n-i=(n-(i+1))+1 by omega,fT,h0];rfl
theorem fj{f:Nat→Bool}(h:i<n)(h0:f i=false):fT f (n-i) i=fT f (n-(i+1)) (i+1):=by rw[show n-i=(n-(i+1))+1 by omega,fT,h0];rfl
theorem gw{f:Nat→Bool}(h: ¬i<n):fT f (n-i) i=false:=by rw[show n-i=0 by omega,fT]
theorem getM{α:Type}[Inhabited α](f:α→D){l:List α}(h:i<l.length):(l.map f)[i]?=some (f (l.getD i default)):=by simp[h]
theorem JQ{α:Type}[Inhabited α](f:α→D){l:List α}(h:k<l.length)(hk:k<i):((l.map f).take i)[k]?=some (f (l.getD k default)):=by rw[g5 hk,getM f h]
theorem wZ{l:List D}(h:i≤l.length):((l.take (dm l.length (some (i:Int)))).drop (gA none)).length=i:=by show((l.take i).drop 0).length=i;rw[ea,bn];omega
def Fy(l:List Mark)(i:Nat):Bool:=fT (fun k=>decide ((l.getD k default).nm=(l.getD i default).nm)) i 0
def FC(l:List Body)(i:Nat):Bool:=fT (fun k=>decide ((l.getD k default).nm=(l.getD i default).nm)) i 0
def FA(l:List bp)(i:Nat):Bool:=fT (fun k=>decide ((l.getD k default).nm=(l.getD i default).nm)) i 0
def FB(l:List Driver)(i:Nat):Bool:=fT (fun k=>decide ((l.getD k default).nm=(l.getD i default).nm)) i 0
def Fx(l:List Driver)(i:Nat):Bool:=fT (fun k=>decide ((l.getD k default).body=(l.getD i default).body)) i 0
def v7(l:List Mark)(i:Nat):Nat:=if dV (l.getD i default).nm=false then 5 else if Fy l i=true then 6 else
 if (l.getD i default).x.okB=true∧(l.getD i default).y.okB=true then 0 else 3
def tR(l:List Mark):Nat:=if 8<l.length then 4 else fE (v7 l) l.length 0
def gO(l:List Body)(i:Nat):Nat:=if dV (l.getD i default).nm=false then 5 else if FC l i=true then 6 else tR (l.getD i default).pts
def bW(l:List Body):Nat:=fE (gO l) l.length 0
def kj(i:Int)(n:Nat):Bool:=decide (0≤i∧i<n)
def mF(p q:Mark):Bool:=decide (p.x.val=q.x.val∧p.y.val=q.y.val)
def jE(l:List Body)(j:bp):Nat :=
 if j.kind≠0∧j.kind≠1 then 7 else if (kj j.a l.length&&kj j.b l.length)=false then 9 else if j.a=j.b then 13 else
 if (kj j.pt (l.getD j.a.toNat default).pts.length&&kj j.on (l.getD j.b.toNat default).pts.length)=false then 9 else
 if j.kind=0 then(if j.to=0 then 0 else 2)else if kj j.to (l.getD j.b.toNat default).pts.length=false then 9 else
 if mF ((l.getD j.b.toNat default).pts.getD j.on.toNat default) ((l.getD j.b.toNat default).pts.getD j.to.toNat default)=true then 8 else 0
def fy(b:List Body)(l:List bp)(i:Nat):Nat:=if dV (l.getD i default).nm=false then 5 else if FA l i=true then 6 else jE b (l.getD i default)
def eK(b:List Body)(l:List bp):Nat:=if 16<l.length then 4 else fE (fy b l) l.length 0
def eM(n:Nat)(l:List Driver)(i:Nat):Nat:=if dV (l.getD i default).nm=false then 5 else if FB l i=true then 6 else
 if kj (l.getD i default).body n=false then 9 else if (l.getD i default).body=0 then 7 else if Fx l i=true then 6 else 0
def kp(n:Nat)(l:List Driver):Nat:=if 2<l.length then 4 else fE (eM n l) l.length 0
def Cq(l:Lkg):Nat:=if dV l.nm=false then 5 else if l.bodies=[]then 10 else if 8<l.bodies.length then 4 else
 if bW l.bodies≠0 then bW l.bodies else if eK l.bodies l.joints≠0 then eK l.bodies l.joints else kp l.bodies.length l.drivers
def tE(n:Nat):D:=match n with
 |0=>bd
 |m+1=>er ((m+1:Nat):Int)
theorem M6:RT Tryz.prog 4 Bool (fun b=>[dB b]) (fun _=>True):=RT.bool (by kernel_rfl) (by kernel_rfl)
theorem uN:RT Tryz.prog 3 Int (fun n=>[dI n]) (fun n=>(Lit.int .i64 n).wf=true):=RT.int (by kernel_rfl) (by kernel_rfl)
theorem oC:RT Tryz.prog 9 ByteArray (fun s=>[dS s]) (fun s=>s.size≤reachBytes):=RT.string (by kernel_rfl) (by kernel_rfl)
theorem M3:RT Tryz.prog 117 Nat (fun n=>[wd n]) (fun n=>n<4294967296):=by
 refine(RT.int (k:=.u32) (by kernel_rfl) (by kernel_rfl)).map Int.toNat (fun n h=>?_) (fun n h=>?_) (fun v=>⟨by kernel_rfl,fun d hd=>by simp at hd;subst hd;rfl⟩)
 ·have:0≤n∧n≤4294967295:=by simpa[Lit.wf,j2,j3,i7,jo]using h
  rw[wd,Int.toNat_of_nonneg this.1]
 ·have:0≤n∧n≤4294967295:=by simpa[Lit.wf,j2,j3,i7,jo]using h
  omega
theorem F2:RT Tryz.prog 66 (List Nat) (fun l=>[Wd l]) (fun l=>bc l∧l.length≤reachBytes) :=
 (RT.slice (el:=wd) (s:=1) (by kernel_rfl) (by kernel_rfl) (by kernel_rfl) (by decide) (bv (by kernel_rfl)) M3 (fun v=>rfl)).map id (fun l h=>rfl) (fun l h=>⟨h.2,h.1⟩) (fun v=>⟨by kernel_rfl,fun d hd=>by simp at hd;subst hd;rfl⟩)
theorem Ih:RT Tryz.prog 68 RD (fun r=>[dB r.g,Wd r.n,Wd r.d]) (fun r=>r.w reachBytes):=by
 have h:=RT.struct (P:=Tryz.prog) (t:=68) (m:=3) Tryz.underlying68 (by kernel_rfl) (l7.cons (by kernel_rfl) M6 (l7.cons (by kernel_rfl) F2 (l7.cons (by kernel_rfl) F2 l7.nil))) (fun v=>rfl)
 exact h.map (fun v=>⟨v.1,v.2.1,v.2.2.1⟩) (fun v h=>rfl) (fun v h=>⟨h.2.1.1,h.2.2.1.1,h.2.1.2,h.2.2.1.2⟩) (fun v=>⟨by kernel_rfl,fun d hd=>by
  simp only[cr,c8,or_false]at hd
  rcases hd with rfl|rfl|rfl<;>rfl⟩)
theorem M5:RT Tryz.prog 70 Mark (fun p=>p.D.flat) (fun p=>p.ok reachBytes):=by
 have h:=RT.struct (P:=Tryz.prog) (t:=70) (m:=7) Tryz.underlying70 (by kernel_rfl) (l7.cons (by kernel_rfl) oC (l7.cons (by kernel_rfl) Ih (l7.cons (by kernel_rfl) Ih l7.nil))) (fun v=>rfl)
 exact h.map (fun v=>⟨v.1,v.2.1,v.2.2.1⟩) (fun v h=>rfl) (fun v h=>⟨bi h.1 (by decide),h.2.1,h.2.2.1⟩) (fun v=>⟨by kernel_rfl,fun d hd=>by
  simp only[D.flat,cr,c8,or_false]at hd
  rcases hd with rfl|rfl|rfl|rfl|rfl|rfl|rfl<;>rfl⟩)
theorem KZ:RT Tryz.prog 63 (List Mark) (fun l=>[rN l]) (fun l=>l.length≤reachBytes∧ ∀v∈l,v.ok reachBytes) :=
 RT.slice (el:=Mark.D) (s:=7) (by kernel_rfl) (by kernel_rfl) (by kernel_rfl) (by decide) (bv (by kernel_rfl)) M5 (fun v=>rfl)
theorem l4{α:Type}[Inhabited α]{p:α→Prop}{l:List α}(h: ∀v∈l,p v)(h0:p default)(i:Nat):p (l.getD i default):=by
 rw[ab];rcases ct i l.length with hi|hi
 ·rw[az hi];exact h _<|f8 hi
 ·rw[cJ hi];exact h0
theorem DK(k:Nat):(default:Mark).ok k:=⟨by decide,⟨bc.nil,bc.nil,a4 _,a4 _⟩,⟨bc.nil,bc.nil,a4 _,a4 _⟩⟩
theorem Kt(k:Nat):(default:Body).ok k:=⟨by decide,by decide,fun i=>l4 (l:=[]) (fun v h=>by cases h) (DK k) i⟩
theorem M7:RT Tryz.prog 65 Body (fun b=>b.D.flat) (fun b=>b.ok reachBytes):=by
 have h:=RT.struct (P:=Tryz.prog) (t:=65) (m:=2) Tryz.underlying65 (by kernel_rfl) (l7.cons (by kernel_rfl) oC (l7.cons (by kernel_rfl) KZ l7.nil)) (fun v=>rfl)
 exact h.map (fun v=>⟨v.1,v.2.1⟩) (fun v h=>rfl) (fun v h=>⟨bi h.1 (by decide),bi h.2.1.1 (by decide),l4 h.2.1.2 (DK _)⟩) (fun v=>⟨by kernel_rfl,fun d hd=>by
  simp only[D.flat,cr,c8,or_false]at hd
  rcases hd with rfl|rfl<;>rfl⟩)
theorem Il:RT Tryz.prog 22 (List Body) (fun l=>[aI l]) (fun l=>l.length≤reachBytes∧ ∀v∈l,v.ok reachBytes) :=
 RT.slice (el:=Body.D) (s:=2) (by kernel_rfl) (by kernel_rfl) (by kernel_rfl) (by decide) (bv (by kernel_rfl)) M7 (fun v=>rfl)
theorem K0:RT Tryz.prog 41 bp (fun j=>j.D.flat) (fun j=>j.nm.size≤big):=by
 have h:=RT.struct (P:=Tryz.prog) (t:=41) (m:=7) Tryz.underlying41 (by kernel_rfl) (l7.cons (by kernel_rfl) oC (l7.cons (by kernel_rfl) uN (l7.cons (by kernel_rfl) uN (l7.cons (by kernel_rfl) uN (l7.cons (by kernel_rfl) uN (l7.cons (by kernel_rfl) uN (l7.cons (by kernel_rfl) uN l7.nil))))))) (fun v=>rfl)
 exact h.map (fun v=>⟨v.1,v.2.1,v.2.2.1,v.2.2.2.1,v.2.2.2.2.1,v.2.2.2.2.2.1,v.2.2.2.2.2.2.1⟩) (fun v h=>rfl) (fun v h=>bi h.1 (by decide)) (fun v=>⟨by kernel_rfl,fun d hd=>by
  simp only[D.flat,cr,c8,or_false]at hd
  rcases hd with rfl|rfl|rfl|rfl|rfl|rfl|rfl<;>rfl⟩)
theorem Ij:RT Tryz.prog 23 (List bp) (fun l=>[aE l]) (fun l=>l.length≤reachBytes∧ ∀v∈l,v.nm.size≤big) :=
 RT.slice (el:=bp.D) (s:=7) (by kernel_rfl) (by kernel_rfl) (by kernel_rfl) (by decide) (bv (by kernel_rfl)) K0 (fun v=>rfl)
theorem Ik:RT Tryz.prog 110 Driver (fun d=>d.D.flat) (fun d=>d.nm.size≤big):=by
 have h:=RT.struct (P:=Tryz.prog) (t:=110) (m:=2) Tryz.underlying110 (by kernel_rfl) (l7.cons (by kernel_rfl) oC (l7.cons (by kernel_rfl) uN l7.nil)) (fun v=>rfl)
 exact h.map (fun v=>⟨v.1,v.2.1⟩) (fun v h=>rfl) (fun v h=>bi h.1 (by decide)) (fun v=>⟨by kernel_rfl,fun d hd=>by
  simp only[D.flat,cr,c8,or_false]at hd
  rcases hd with rfl|rfl<;>rfl⟩)
theorem Hn:RT Tryz.prog 24 (List Driver) (fun l=>[aF l]) (fun l=>l.length≤reachBytes∧ ∀v∈l,v.nm.size≤big) :=
 RT.slice (el:=Driver.D) (s:=2) (by kernel_rfl) (by kernel_rfl) (by kernel_rfl) (by decide) (bv (by kernel_rfl)) Ik (fun v=>rfl)
theorem Lkg.ok.mono{l:Lkg}(h:l.ok k)(hk:k≤m):l.ok m :=
 ⟨h.nm,h.nb,h.nj,h.nd,fun i=>⟨(h.b i).1,(h.b i).2.1,fun j=>⟨((h.b i).2.2 j).1,((h.b i).2.2 j).2.1.mono hk,((h.b i).2.2 j).2.2.mono hk⟩⟩,h.j,h.d⟩
theorem Hm:RT Tryz.prog 26 Lkg (fun l=>l.D.flat) (fun l=>l.ok big):=by
 have h:=RT.struct (P:=Tryz.prog) (t:=26) (m:=4) Tryz.underlying26 (by kernel_rfl) (l7.cons (by kernel_rfl) oC (l7.cons (by kernel_rfl) Il (l7.cons (by kernel_rfl) Ij (l7.cons (by kernel_rfl) Hn l7.nil)))) (fun v=>rfl)
 exact h.map (fun v=>⟨v.1,v.2.1,v.2.2.1,v.2.2.2.1⟩) (fun v h=>rfl) (fun v h=>Lkg.ok.mono (k:=reachBytes) ⟨bi h.1 (by decide),bi h.2.1.1 (by decide),bi h.2.2.1.1 (by decide),bi h.2.2.2.1.1 (by decide),
  l4 h.2.1.2 (Kt _),l4 (p:=fun j:bp=>j.nm.size≤big) h.2.2.1.2 (by decide),l4 (p:=fun d:Driver=>d.nm.size≤big) h.2.2.2.1.2 (by decide)⟩ (by decide)) (fun v=>⟨by kernel_rfl,fun d hd=>by
  simp only[D.flat,cr,c8,or_false]at hd
  rcases hd with rfl|rfl|rfl|rfl<;>rfl⟩)
end Lift
namespace Go.Proofs.YtebpenldlefgjaaGreat
open Lift Go
theorem Tryz.own:ownKnob Tryz.prog.godebug=none:=by kernel_rfl
theorem Tryz.laidOut:laidOutB Tryz.prog=true:=by kernel_rfl
theorem a_linkage:RA Tryz.prog 26 Lkg (fun l=>l.D) (fun l=>l.ok big):=RA.agg Tryz.underlying26 Hm
end Go.Proofs.YtebpenldlefgjaaGreat
namespace Lift
open Go Go.Proofs
variable {i k:Nat}{q r:Rat}
theorem D6(n:Nat):Pure Tryz.prog 17 [tE n] (dI n):=by
 refine qJ 15 Tryz.func17 rfl fun B F0 w0=>?_;cases n with
 |zero =>
  exact qX 1 rfl<|qI<|qX 1 rfl<|qR rfl rfl<|ae.nil<|AW.aH rfl<|qX 1 rfl<|qN rfl
 |succ m =>
  refine qX 1 rfl<|qI<|qX 1 rfl<|qR rfl rfl<|ae.nil<|AW.aC rfl<|AW.skip<|qX 1 rfl<|ae.ta tok rfl rfl rfl rfl ?_;exact qU 5 rfl<|qI<|qX 2 rfl<|ae.nil<|AW.aC rfl<|AW.skip<|qX 2 rfl<|qN rfl
theorem rH(a b:Rat)(h:b≠0):cT (a.num*(b.den:Int)) ((a.den:Int)*b.num)=a/b:=by
 have h1:((a.den:Int):Rat)≠0:=by have:=a.den_nz;exact_mod_cast this
 have h2:((b.den:Int):Rat)≠0:=by have:=b.den_nz;exact_mod_cast this
 have h3:b.num≠0:=fun e=>h (go.1 e);have h4:(b.num:Rat)≠0:=by exact_mod_cast h3
 have ha:(a.num:Rat)/((a.den:Int):Rat)=a:=by rw[←f5];exact i3 a
 have hb:(b.num:Rat)/((b.den:Int):Rat)=b:=by rw[←f5];exact i3 b
 rw[f5,js,js];generalize (a.num:Rat)=x at *;generalize ((a.den:Int):Rat)=y at *;generalize (b.num:Rat)=z at *;generalize ((b.den:Int):Rat)=u at *;subst ha;subst hb
 grind
theorem EG{z:Int}(h:z≠0):(ky z==0)=false:=by
 unfold ky;rcases Int.lt_trichotomy z 0 with g|g|g
 ·simp[g]
 ·exact aG g h
 ·have: ¬z<0:=by omega
  simp[this,h]
theorem E3(h:q≠0):q.num≠0:=fun e=>h (go.1 e)
theorem J'{s:Rat}(h1:LQ r≤k)(h2:LQ s≤k)(h0:s≠0):L (r.num*(s.den:Int))≤2*k∧L ((r.den:Int)*s.num)≤2*k∧(r.den:Int)*s.num≠0:=by have:=kr r;have:=kT r;have:=kr s;have:=kT s;have:=gQ r.num s.den;have:=gQ r.den s.num;exact⟨by omega,by omega,j' (uC r) (E3 h0)⟩
theorem Of{s:Rat}(h0:s≠0):LQ (r/s)≤LQ r+LQ s:=by have:=kr r;have:=kT r;have:=kr s;have:=kT s;have:=gQ r.num s.den;have:=gQ r.den s.num;have:=mZ (r.num*(s.den:Int)) ((r.den:Int)*s.num) (j' (uC r) (E3 h0));rw[rH r s h0]at this;omega
theorem jh(n:Int)(h0: -9223372036854775808≤n)(h1:n≤9223372036854775807):Pure Tryz.prog 107 [dI n] (Qr n).D:=by refine qJ 7 Tryz.func107 rfl (fun B F0 w0=>?_);have hn:=Pv n (by omega);rw[←tX];refine qX 1 rfl<|qK 1 rfl<|qM rfl (qA n h0 h1) ?_;refine qM rfl kH ?_;refine qM rfl (fi n 1 (by omega) (by rw[yN];omega) (by decide)) ?_;exact qU 1 rfl<|qN rfl
theorem mR(r:RD)(hr:r.w k)(hk:k≤17300000000000):Pure Tryz.prog 86 [r.D] (dI (ky r.val.num)):=by refine qJ 12 Tryz.func86 rfl (fun B F0 w0=>?_);have hl:=bU (hr.mono (b8 k 1)) (bz k 1);have:=kr r.val;refine qX 2 rfl<|qK 1 rfl<|qM rfl (bm r hr (by omega)) ?_;refine qU 7 rfl<|qK 1 rfl<|qM rfl (dv r.val.num (by omega)) ?_;exact qU 1 rfl<|qN rfl
theorem uy(n d:Int)(hn:L n≤34800000000000)(hd:L d≤34800000000000)(h0:d≠0):Pure Tryz.prog 214 [fk n,fk d] (.tu [(Qr (cT n d)).D,bd]):=by
 refine qJ 14 Tryz.func214 rfl fun B F0 w0=>?_;refine qX 4 rfl<|qI<|qX 1 rfl<|qM rfl (dv d (by omega)) ?_;refine qU 1 rfl ?_;rw[EG h0];refine ae.nil<|AW.aC rfl ?_
 ·skip
  refine AW.skip<|qX 2 rfl<|qM rfl (fi n d hn hd h0) ?_;exact qU 2 rfl<|qN rfl
theorem vO(r s:RD)(hr:r.w k)(hs:s.w k)(hk:k≤17300000000000)(h0:s.val≠0):Pure Tryz.prog 198 [r.D,s.D] (.tu [(Qr (r.val/s.val)).D,bd]):=by refine qJ 29 Tryz.func198 rfl (fun B F0 w0=>?_);have hl:=bU (hr.mono (b8 k 1)) (bz k 1);have hm:=bU (hs.mono (b8 k 1)) (bz k 1);have:=kr r.val;have:=kT r.val;have:=kr s.val;have:=kT s.val;obtain⟨d1,d2,d3⟩:=J' hl hm h0;rw[←rH r.val s.val h0];refine qX 4 rfl<|qK 1 rfl<|qM rfl (bm r hr (by omega)) ?_;refine qU 7 rfl<|qK 1 rfl<|qM rfl (bm s hs (by omega)) ?_;refine qU 7 rfl<|qI<|AW.draw aO 9 (by kernel_rfl) ?_;refine qP 2 rfl<|qQ rfl (cy r.val.num s.val.den (by omega) (by omega)) ?_;refine qP 2 rfl<|qQ rfl (cy r.val.den s.val.num (by omega) (by omega)) ?_;refine qQ rfl (uy (r.val.num*s.val.den) (r.val.den*s.val.num) (by omega) (by omega) d3) ?_;exact qP 2 rfl<|ai.nil<|qU 2 rfl<|qN rfl
theorem Db(n d:Int)(hn:L n≤34800000000000)(hd:L d≤34800000000000)(h0:d≠0):Pure Tryz.prog 217 [fk n,fk d] (.tu [(Qr (cT n d)).D,dI 0]):=by
 refine qJ 13 Tryz.func217 rfl fun B F0 w0=>?_;refine qX 4 rfl<|qI<|qX 1 rfl<|qM rfl (iI d (by omega)) ?_;refine qU 1 rfl ?_;rw[EG h0];refine ae.nil<|AW.aC rfl ?_
 ·skip
  refine AW.skip<|qX 2 rfl<|qM rfl (ke n d hn hd h0) ?_;exact qU 2 rfl<|qN rfl
theorem RD.canon{r:RD}(hw:r.w k)(h:r.okB=true):r=Qr r.val:=by
 by_cases hn:r.n=[]
 ·have hv:=RD.pH hn;rw[hv,gL];obtain⟨g,m,d⟩:=r
  dsimp only at hn
  subst hn;unfold RD.okB at h;simp only[true_and]at h;split at h
  ·rename_i hd;subst hd;simpa using h
  ·simp at h
 ·obtain⟨h1,h2,h3,h4,h5,h6⟩:=RD.parts hw h hn;obtain⟨g,m,d⟩:=r
  dsimp only at h3 h4 h5 hn
  unfold Qr;rw[af h6,←h4,←h5,←h3]
theorem PQ:ky q.num=0↔q=0:=by
 constructor
 ·intro h;by_cases hq:q=0
  ·exact hq
  ·have:=EG (E3 hq);rw[h]at this;cases this
 ·intro h;subst h;rfl
abbrev fX(r:List Rat):List D:=r.map (fun q=>(Qr q).D)
theorem nK{r:List Rat}(h:i<r.length):(fX r)[i]?=some (Qr (r.getD i 0)).D:=by simp[h]
section
variable {P:Program} {T:Ty} {B:Nat} {F0:Nat→Prop} {w0:dh} {n:Nat} {σ τ:St} {K:St→Prop} {all:Array Oper} {o:Oper} {d:Nat} {rest:List Oper}
theorem ae.EC(hT:bB P T){e:Nat}{r:List Rat}(q:Rat)(hd:o.dst=none)(hg:aJ all σ o=true)(hx:Gf T σ o.op=some (k,.ow e (fX r),fX r,i,0,(Qr q).D))(hi:i<r.length)
  (h:ae P B F0 w0 n all rest K ((k,.ow e (fX (r.set i q)))::σ)):ae P B F0 w0 n all (o::rest) K σ:=by
 refine ae.lR hT (Qr (r.getD i 0)).D hd hg hx (nK hi) rfl ?_;show ae P B F0 w0 n all rest K ((k,.ow e ((fX r).set i (Qr q).D))::σ);rw[show(fX r).set i (Qr q).D=fX (r.set i q)from (List.map_set ..).symm];exact h
end
end Lift
namespace Lift
variable {k l m:Nat}{x:Rat}
abbrev V2:=Rat×Rat
def j7(x:Rat):Int:=if x=0 then 0 else if x<0 then -1 else 1
theorem sf:0<j7 x↔0<x:=by
 unfold j7;split
 ·rename_i h;subst h;constructor<;>intro h<;>grind
 ·split<;>constructor<;>intro h<;>grind
theorem AT:j7 x<0↔x<0:=by
 unfold j7;split
 ·rename_i h;subst h;constructor<;>intro h<;>grind
 ·split<;>constructor<;>intro h<;>grind
theorem cR:j7 x=0↔x=0:=by
 unfold j7;split
 ·rename_i h;exact⟨fun _=>h,fun _=>rfl⟩
 ·rename_i h0;split
  ·exact⟨fun h=>aG h (by decide),fun h=>aG h h0⟩
  ·exact⟨fun h=>aG h (by decide),fun h=>aG h h0⟩
theorem iG(x:Rat):j7 x=0∨j7 x=1∨j7 x= -1:=by
 unfold j7;split
 ·exact .inl rfl
 ·split
  ·exact .inr (.inr rfl)
  ·exact .inr (.inl rfl)
theorem qV(x:Rat):j7 (-x)= -j7 x:=by
 unfold j7;by_cases h:x=0
 ·subst h;rfl
 ·rw[af (by grind),af h];by_cases h2:x<0
  ·rw[ah h2,af (by grind)];rfl
  ·rw[af h2,ah (by grind)]
abbrev NQ:=List Rat
def au(k:Nat)(a:NQ):Prop:= ∀c,LQ (a.getD c 0)≤k
def dk(k:Nat)(rt:List NQ):Prop:= ∀i,au k (rt.getD i [])
def bH(a:NQ):Bool:=a.all (fun q=>decide (q=0))
def bk(a:NQ)(n:Nat):NQ:=a.take n++cg (n-a.length) 0
def aS(a b:NQ):NQ:=(ix (max a.length b.length)).map fun i=>a.getD i 0+b.getD i 0
def aP(a:NQ):NQ:=a.map (fun q=> -q)
def dK(a b:NQ)(n:Nat):NQ:=bk a n++bk b n
def kD(R:NQ→NQ→NQ)(rt:List NQ)(a b:NQ):NQ :=
 if (bH a||bH b)=true then []else if a.length=1 then [a.getD 0 0*b.getD 0 0]else
 if b.length≤a.length/2 then dK (R (a.take (a.length/2)) b) (R (a.drop (a.length/2)) b) (a.length/2)else
 dK (aS (R (a.take (a.length/2)) (b.take (a.length/2))) (R (R (a.drop (a.length/2)) (b.drop (a.length/2))) (rt.getD (a.length.log2-1) [])))
  (aS (R (a.take (a.length/2)) (b.drop (a.length/2))) (R (a.drop (a.length/2)) (b.take (a.length/2)))) (a.length/2)
def lL(R:NQ→NQ→NQ)(a b:NQ):NQ:=if a.length<b.length then R b a else R a b
def aT:Nat→List NQ→NQ→NQ→NQ
 |0,rt,a,b=>lL (kD (fun _ _=>[]) rt) a b
 |l+1,rt,a,b=>lL (kD (aT l rt) rt) a b
def ay(l:Nat)(a:NQ):Prop:=a.length=0∨ ∃i,i≤l∧a.length=2^i
def cU(rt:List NQ):Prop:= ∀j,j<rt.length→(rt.getD j []).length=2^j
def sT:Nat→Nat→Nat
 |0,k=>2*k
 |l+1,k=>sT l (sT l k)+sT l k+1
theorem vX: ∀{l k m:Nat},k≤m→sT l k≤sT l m
 |0,k,m,h=>by show 2*k≤2*m;omega
 |l+1,k,m,h=>by have h1:=vX (l:=l) h;have h2:=vX (l:=l) h1;show sT l (sT l k)+sT l k+1≤sT l (sT l m)+sT l m+1;omega
theorem bP: ∀(l k:Nat),2*k≤sT l k
 |0,k=>ap _
 |l+1,k=>by have h1:=bP l k;show 2*k≤sT l (sT l k)+sT l k+1;omega
theorem au.mono{a:NQ}(h:au k a)(hk:k≤m):au m a:=fun c=>bi (h c) hk
theorem dk.mono{a:List NQ}(h:dk k a)(hk:k≤m):dk m a:=fun i=>(h i).mono hk
theorem au.pos{a:NQ}(h:au k a):1≤k:=bi (Cl _) (h 0)
theorem lK(h:1≤k):LQ 0≤k:=by rw[jZ];exact h
theorem ig{a:NQ}{c:Nat}(h:a.length≤c):a.getD c 0=0:=by rw[ab,cJ h];rfl
theorem db(h:1≤k):au k []:=fun c=>by rw[ig (a4 _)];exact lK h
theorem nL(a:NQ)(n c:Nat):(a.take n).getD c 0=if c<n then a.getD c 0 else 0:=by
 rw[ab,i1];split
 ·rw[ab]
 ·rfl
theorem wj(a:NQ)(n c:Nat):(a.drop n).getD c 0=a.getD (n+c) 0:=by rw[ab,i2,ab]
theorem au.take{a:NQ}(h:au k a)(n:Nat):au k (a.take n):=fun c=>by
 rw[nL];split
 ·exact h c
 ·exact lK h.pos
theorem au.drop{a:NQ}(h:au k a)(n:Nat):au k (a.drop n):=fun c=>by rw[wj];exact h _
theorem uu(a b:NQ)(c:Nat):(a++b).getD c 0=if c<a.length then a.getD c 0 else b.getD (c-a.length) 0:=by rw[ab,ie];split<;>rw[ab]
theorem bL(a:NQ)(n:Nat):(bk a n).length=n:=by unfold bk;rw[di,bn,eE];omega
theorem iD(a:NQ)(n c:Nat):(bk a n).getD c 0=if c<n then a.getD c 0 else 0:=by
 unfold bk;rw[uu,bn,nL];by_cases h:c<min n a.length
 ·rw[ah h,ah (by omega)]
 ·rw[af h]
  have e:(cg (n-a.length) (0:Rat)).getD (c-min n a.length) 0=0:=by rw[ab,g9];split<;>rfl
  rw[e];by_cases h2:c<n
  ·rw[ah h2,ig (by omega)]
  ·rw[af h2]
theorem au.wide{a:NQ}(h:au k a)(n:Nat):au k (bk a n):=fun c=>by
 rw[iD];split
 ·exact h c
 ·exact lK h.pos
theorem kY(a b:NQ):(aS a b).length=max a.length b.length:=by unfold aS;rw[am,List.length_range]
theorem pT(a b:NQ)(c:Nat):(aS a b).getD c 0=a.getD c 0+b.getD c 0:=by
 by_cases h:c<max a.length b.length
 ·unfold aS;rw[ab,e5,List.getElem?_range h];rfl
 ·rw[ig (by rw[kY];omega),ig (a:=a) (by omega),ig (a:=b) (by omega),Rat.add_zero]
variable {b:NQ}
theorem au.plus{a:NQ}(h:au k a)(h2:au m b):au (k+m+1) (aS a b):=fun c=>by rw[pT];have:=yO (a.getD c 0) (b.getD c 0);have:=h c;have:=h2 c;omega
theorem cV(a:NQ):(aP a).length=a.length:=am ..
theorem rB(a:NQ)(c:Nat):(aP a).getD c 0= -a.getD c 0:=by
 unfold aP;rw[ab,e5,ab];cases a[c]? with
 |none=>rfl
 |some q=>rfl
theorem au.minus{a:NQ}(h:au k a):au k (aP a):=fun c=>by rw[rB,Cm];exact h c
theorem dN(a b:NQ)(n:Nat):(dK a b n).length=n+n:=by unfold dK;rw[di,bL,bL]
theorem pW(a b:NQ)(n c:Nat):(dK a b n).getD c 0=if c<n then a.getD c 0 else if c<n+n then b.getD (c-n) 0 else 0:=by
 unfold dK;rw[uu,bL,iD,iD];by_cases h:c<n
 ·rw[ah h,ah h,ah h]
 ·rw[af h,af h];by_cases h2:c<n+n
  ·rw[ah h2,ah (by omega)]
  ·rw[af h2,af (by omega)]
theorem au.join{a:NQ}(h:au k a)(h2:au k b)(n:Nat):au k (dK a b n):=fun c=>by
 rw[pW];split
 ·exact h c
 ·split
  ·exact h2 _
  ·exact lK h.pos
theorem gd{q:Rat}(h:LQ q≤k):au k [q]:=fun c=>by
 have:=Cl q;cases c with
 |zero=>exact h
 |succ c=>rw[ig (by simp)];exact lK (by omega)
theorem kV{a:NQ}(h:bH a=false):a≠[]:=by intro e;subst e;cases h
theorem ay.mono{a:NQ}(h:ay l a)(hl:l≤m):ay m a:=h.imp id (fun⟨i,h1,h2⟩=>⟨i,by omega,h2⟩)
theorem cE(l:Nat):ay l []:=.inl rfl
theorem dZ(l:Nat)(q:Rat):ay l [q]:=.inr ⟨0,a4 _,rfl⟩
theorem ay.le{a:NQ}(h:ay l a):a.length≤2^l:=by
 rcases h with h|⟨i,h1,h2⟩
 ·rw[h];exact a4 _
 ·rw[h2];exact ch (by decide) h1
theorem ay.plus{a:NQ}(h:ay l a)(h2:ay l b):ay l (aS a b):=by
 unfold ay;rw[kY];by_cases e:a.length≤b.length
 ·rw[Nat.max_eq_right e];exact h2
 ·rw[Nat.max_eq_left (by omega)];exact h
theorem ay.minus{a:NQ}(h:ay l a):ay l (aP a):=by unfold ay;rw[cV];exact h
theorem mK(i:Nat):2^(i+1)/2=2^i:=by rw[b0];omega
theorem bt{a:NQ}{i:Nat}(h:a.length=2^(i+1)):(a.take (a.length/2)).length=2^i∧(a.drop (a.length/2)).length=2^i∧a.length/2=2^i:=by have e:=mK i;have e2:2^(i+1)=2^i*2:=b0 ..;rw[bn,dz,h,e];omega
theorem we{R:NQ→NQ→NQ}{rt:List NQ}{a:NQ}(ha:ay l a)(hb:ay l b)(hab:b.length≤a.length)(hrt:cU rt)(hl:l≤rt.length)(sa:au k a)(sb:au k b)(sr:dk k rt)
  (hR: ∀l',l=l'+1→ ∀a' b' m,k≤m→ay l' a'→ay l' b'→au m a'→au m b'→ay l' (R a' b')∧au (sT l' m) (R a' b')):ay l (kD R rt a b)∧au (sT l k) (kD R rt a b):=by
 have hk:=sa.pos;have h2:=bP l k;unfold kD;by_cases h0:(bH a||bH b)=true
 ·rw[ah h0];exact⟨cE _,db (by omega)⟩
 rw[af h0];by_cases h1:a.length=1
 ·rw[ah h1];refine⟨dZ _ _,gd ?_⟩;have:=uK (a.getD 0 0) (b.getD 0 0);have:=sa 0;have:=sb 0;omega
 rw[af h1];have hz:=fun z:bH a=true=>h0 (by rw[z];rfl);have hz2:=fun z:bH b=true=>h0 (by rw[z,Bool.or_true])
 obtain⟨i,hi,hla⟩: ∃i,i≤l∧a.length=2^i:=by
  rcases ha with e|e
  ·exact aG (by rw[cC.1 e];rfl) hz
  ·exact e
 have u9:i≠0:=fun e=>h1 (by rw[hla,e]);obtain⟨j,rfl⟩: ∃j,i=j+1:=⟨i-1,by omega⟩;obtain⟨l',rfl⟩: ∃l',l=l'+1:=⟨l-1,by omega⟩;have hj:j≤l':=by omega
 have hR:=fun a' b' m h1 h2 h3 h4 h5=>hR l' rfl a' b' m h1 h2 h3 h4 h5;obtain⟨e1,e2,e3⟩:=bt hla;have hx:ay l' (a.take (a.length/2)):=.inr ⟨j,hj,e1⟩;have hy:ay l' (a.drop (a.length/2)):=.inr ⟨j,hj,e2⟩;have hJ: ∀c d,ay (l'+1) (dK c d (a.length/2)):=fun c d=>.inr ⟨j+1,by omega,by rw[dN,e3,b0];omega⟩;have hs0:=bP l' k;have hs1:=bP l' (sT l' k);by_cases h3:b.length≤a.length/2
 ·rw[ah h3]
  have hb':ay l' b:=by
   rcases hb with e|⟨i',_,e⟩
   ·exact .inl e
   ·refine .inr ⟨i',?_,e⟩;rw[e3,e]at h3;have:=(c' (a:=2) (by decide)).1 h3;omega
  have r1:=hR _ _ k (ap _) hx hb' (sa.take _) sb;have r2:=hR _ _ k (ap _) hy hb' (sa.drop _) sb;refine⟨hJ _ _,(r1.2.join r2.2 _).mono ?_⟩;show _≤sT l' (sT l' k)+sT l' k+1;omega
 rw[af h3]
 have hlb:b.length=2^(j+1):=by
  rcases hb with e|⟨i',_,e⟩
  ·exact aG (by rw[cC.1 e];rfl) hz2
  ·rw[e]at h3 hab ⊢;rw[hla]at hab;rw[e3]at h3;have h4:=(c' (a:=2) (by decide)).1 hab;have h5: ¬i'≤j:=fun h=>h3 ((c' (a:=2) (by decide)).2 h);rw[show i'=j+1 by omega]
 obtain⟨f1,f2,f3⟩:=bt hlb;rw[show b.length/2=a.length/2 by rw[f3,e3]]at f1 f2;have hu:ay l' (b.take (a.length/2)):=.inr ⟨j,hj,f1⟩;have hv:ay l' (b.drop (a.length/2)):=.inr ⟨j,hj,f2⟩;have r1:=hR _ _ k (ap _) hx hu (sa.take _) (sb.take _);have r2:=hR _ _ k (ap _) hy hv (sa.drop _) (sb.drop _);have r3:=hR _ _ k (ap _) hx hv (sa.take _) (sb.drop _);have r4:=hR _ _ k (ap _) hy hu (sa.drop _) (sb.take _);have hlog:a.length.log2-1=j:=by rw[hla,dM];omega
 have hd:ay l' (rt.getD (a.length.log2-1) []):=.inr ⟨j,hj,by rw[hlog];exact hrt j (by omega)⟩;have r5:=hR _ _ (sT l' k) (by omega) r2.1 hd r2.2 ((sr _).mono (by omega));refine⟨hJ _ _,(((r1.2.plus r5.2).mono ?_).join ((r3.2.plus r4.2).mono ?_) _)⟩
 ·show _≤sT l' (sT l' k)+sT l' k+1;omega
 ·show _≤sT l' (sT l' k)+sT l' k+1;omega
theorem dy: ∀(l:Nat) {k:Nat} {rt:List NQ} {a b:NQ},ay l a→ay l b→cU rt→l≤rt.length→au k a→au k b→dk k rt→ay l (aT l rt a b)∧au (sT l k) (aT l rt a b)
 |0,k,rt,a,b,ha,hb,hrt,hl,sa,sb,sr=>by
  show ay 0 (lL (kD _ rt) a b)∧au (sT 0 k) (lL (kD _ rt) a b);unfold lL;split
  ·exact we hb ha (by omega) hrt hl sb sa sr (fun l' h=>by omega)
  ·exact we ha hb (by omega) hrt hl sa sb sr (fun l' h=>by omega)
 |l+1,k,rt,a,b,ha,hb,hrt,hl,sa,sb,sr=>by
  show ay (l+1) (lL (kD (aT l rt) rt) a b)∧au (sT (l+1) k) (lL (kD (aT l rt) rt) a b);unfold lL
  have ih: ∀l',l+1=l'+1→ ∀a' b' m,k≤m→ay l' a'→ay l' b'→au m a'→au m b'→ay l' (aT l rt a' b')∧au (sT l' m) (aT l rt a' b'):=fun l' e a' b' m hm h1 h2 h3 h4=>by
   obtain rfl:l=l':=by omega
   exact dy l h1 h2 hrt (by omega) h3 h4<|sr.mono hm
  split
  ·exact we hb ha (by omega) hrt hl sb sa sr ih
  ·exact we ha hb (by omega) hrt hl sa sb sr ih
theorem F3(a:NQ): ∃K,au K a:=by
 induction a with
 |nil=>exact⟨1,db (ap _)⟩
 |cons x r ih =>
  obtain⟨K,hK⟩:=ih;refine⟨max K (LQ x),fun c=>?_⟩;cases c with
  |zero=>exact bz _ _
  |succ c=>exact bi (hK c) (b8 _ _)
theorem M9(rt:List NQ): ∃K,dk K rt:=by
 induction rt with
 |nil=>exact⟨1,fun i=>db (ap _)⟩
 |cons x r ih =>
  obtain⟨K,hK⟩:=ih;obtain⟨M,hM⟩:=F3 x;refine⟨max K M,fun i=>?_⟩;cases i with
  |zero=>exact hM.mono (bz _ _)
  |succ i=>exact(hK i).mono (b8 _ _)
theorem zO(a b:NQ)(rt:List NQ): ∃K,au K a∧au K b∧dk K rt:=by obtain⟨k1,h1⟩:=F3 a;obtain⟨k2,h2⟩:=F3 b;obtain⟨k3,h3⟩:=M9 rt;exact⟨max k1 (max k2 k3),h1.mono (by omega),h2.mono (by omega),h3.mono (by omega)⟩
end Lift
namespace Lift
open Go
open Go.RowKit (Below)
variable {av:AV}{listed:Array Bool}{ops:Array Oper}{x:Code}{fn:Func}{f:FuncId}{iv:Int}{cs ds xs:List D}{l rest:List Oper}{rs:List ResultVar}{B d e fuel i id j k n off t u:Nat}{hm lk:Nat→Option AV}{O O':Nat→Option Nat}{tm:Nat→Option Value}{F F' F0 X X':Nat→Prop}{o:Oper}{c:Operand}{P:Program}{σ σ' σ0 τ:St}{te ti:TI}{T:Ty}{V v:Value}{w0:dh}
abbrev LR:=Value×AV
def AV.loose:AV→Bool
 | .d _=>true
 |av=>av.row.isSome
theorem AV.Ao(h:av.row.isSome=true):av.loose=true:=by cases av<;>first|rfl|exact h
variable {Post:D→List LR→Prop}{Q:Exit→List LR→St→Prop}{r ri rj:LR}{R R':List LR}{K:List LR→St→Prop}
section
variable {a:Act} {w:World}
def l8(P:Program)(w:World)(O:Nat→Option Nat)(F:Nat→Prop)(t:Nat)(r:LR):Prop :=
 r.2= .junk∨r.2.loose=true∧r.2.tag=false∧fo P (fun _=>False) w O F (fun _=>none) (fun _=>none) t r.2 r.1
structure bT (P:Program) (B:Nat) (F0:Nat→Prop) (w0:dh) (n:Nat) (R:List LR) (σ:St) (a:Act) (w:World):Prop where
 below:jq B w0 w0.w w
 base:B≤w.heap.size
 f0:FU B F0 w0
 defers:a.defers=[]
 size:a.tmps.size=n
 own: ∃O:Nat→Option Nat,(∀b t,O b=some t→kS B w0 w b)∧(∀t av,σ.get t=some av→ ∃v,a.tmps[t]?=some v∧fo P w0.X w O (FW B F0 w) σ.get (fun h=>a.tmps[h]?) t av v) ∧
  ∀i r,R[i]?=some r→l8 P w O (FW B F0 w) (n+i) r
theorem bT.rel(h:bT P B F0 w0 n R σ a w):Rel P B F0 w0 n σ a w:=by obtain⟨O,h1,h2,_⟩:=h.own;exact⟨h.below,h.base,h.f0,h.defers,h.size,O,h1,h2⟩
theorem Rel.z(h:Rel P B F0 w0 n σ a w):bT P B F0 w0 n [] σ a w:=by obtain⟨O,h1,h2⟩:=h.own;exact⟨h.below,h.base,h.f0,h.defers,h.size,O,h1,h2,fun i r hr=>by simp at hr⟩
theorem fo.reX(h:fo P X w O F hm tm t av v)
  (hx:av.tag=true→ ∀b,O b=some t→X' b):fo P X' w O F hm tm t av v:=by
 cases av with
 |wn q e l lo m =>
  rcases h with h|⟨b,o,cap,cs,hq,h1,h0,h2,h3⟩
  ·exact .inl h
  ·exact .inr ⟨b,o,cap,cs,fun e=>hx e b h2,h1,h0,h2,h3⟩
 |_=>exact h
theorem fo.owner{hm':Nat→Option AV}{tm':Nat→Option Value}{s:Nat}(h:fo P X w O F hm tm s av v)(hrow:av.loose=true)(htag:av.tag=false)
  (hO: ∀c,O c=some s→O' c=some t) (hF: ∀c,aQ O F c→aQ O' F' c):fo P X' w O' F' hm' tm' t av v:=by
 cases av<;>simp[AV.loose,AV.row]at hrow
 ·exact Rd.mono h hF (fun _ _=>rfl)
 ·rcases h with h|⟨b,cap,cs,h1,h2,h3,h4,h5,h6,h7,h8⟩
  ·exact .inl h
  ·exact .inr ⟨b,cap,cs,h1,hO b h2,h3,h4,h5,h6,h7,fun i d hd=>⟨(h8 i d hd).1,let ⟨u,hu,hr⟩:=(h8 i d hd).2;⟨u,hu,hr.mono hF (fun _ _=>rfl)⟩⟩⟩
 ·simp only[AV.tag]at htag;subst htag;rcases h with h|⟨b,o,cap,cs,_,h1,h0,h2,h3,h4,h5,h6,h7,h8⟩
  ·exact .inl h
  ·exact .inr ⟨b,o,cap,cs,(fun e=>by cases e),h1,h0,hO b h2,h3,h4,h5,h6,h7,fun i d hd=>⟨(h8 i d hd).1,let ⟨u,hu,hr⟩:=(h8 i d hd).2;⟨u,hu,hr.mono hF (fun _ _=>rfl)⟩⟩⟩
def St.gN:St→Bool
 |[]=>true
 |(_,a)::r=>match a.tag with
  |true=>false
  |false=>St.gN r
theorem St.Al: ∀{σ:St},σ.gN=true→ ∀(t:Nat) (av:AV),σ.get t=some av→av.tag=false
 |[],_,t,av,h=>by cases h
 |(k,a)::r,hn,t,av,h=>by
  rw[St.aL]at h;simp only[St.gN]at hn;split at hn
  ·cases hn
  ·rename_i ha;split at h
   ·cases h;exact ha
   ·exact St.Al hn t av h
def Seen(P:Program)(B:Nat)(F0:Nat→Prop)(w0:dh)(V:Value)(e:Nat)(xs:List D):Prop :=
 ∃b cap cs,V= .slice (some ⟨b,0,none⟩) xs.length cap∧b<B∧ ¬w0.X b∧w0.w.heap[b]?=some (.cells cs e (0,0))∧(∀x,x∈xs→x.flat.length=P.cellsOf e) ∧
  ∀(i:Nat) (d:D),(flatAll xs)[i]?=some d→d.ba=true∧ ∃u,cs[i]?=some u∧ ∀(w:World) (O:Nat→Option Nat),jq B w0 w0.w w→(∀b t,O b=some t→kS B w0 w b)→Rd w (aQ O (FW B F0 w)) d u
theorem bT.K7(hR:bT P B F0 w0 n R σ a w): ∃B1 F1 w1,Rel P B1 F1 w1 n σ a w∧(∀(i:Nat) (V:Value) (e:Nat) (xs:List D),R[i]?=some (V,.ow e xs)→xs≠[]→Seen P B1 F1 w1 V e xs)∧ ∀σ' a' w',σ'.gN=true→Rel P B1 F1 w1 n σ' a' w'→bT P B F0 w0 n R σ' a' w':=by
 obtain⟨O,hOr,hO,hL⟩:=hR.own
 let X1:Nat→Prop:=fun b=> ∃t,t<n∧O b=some t
 let F1:Nat→Prop:=fun b=>FW B F0 w b∧ ∀t,O b=some t→t<n
 let O1:Nat→Option Nat:=fun b=>match O b with
  |some t=>if t<n then some t else none
  |none=>none
 have hO1: ∀b t,O1 b=some t↔O b=some t∧t<n:=fun b t=>by
  simp only[O1];split
  ·rename_i t' ht';rw[ht'];split
   ·rename_i hlt;constructor
    ·intro h;cases h;exact⟨rfl,hlt⟩
    ·intro h;exact h.1
   ·rename_i hlt;constructor
    ·intro h;cases h
    ·intro h;obtain⟨h,h'⟩:=h;cases h;exact aG h' hlt
  ·rename_i ht';rw[ht'];simp
 have hO1z: ∀b,O b=none→O1 b=none:=fun b hb=>by simp only[O1,hb]
 have hlt: ∀t av,σ.get t=some av→t<n:=fun t av h=>by obtain⟨v,hv,_⟩:=hO t av h;rw[←hR.size];exact(a3.1 hv).1
 have hFlt: ∀b,FW B F0 w b→b<w.heap.size:=fun b hb=>(FW.step hR.f0 hR.base (ap _) b hb).1;have hFree: ∀c,aQ O (FW B F0 w) c→aQ O1 (FW w.heap.size F1 w) c:=fun c hc=>⟨hO1z c hc.1,.inl ⟨hc.2,fun t ht=>by rw[hc.1]at ht;cases ht⟩⟩;refine⟨w.heap.size,F1,⟨w,X1⟩,⟨.refl _ _ _,ap _,⟨fun b hb=>hFlt b hb.1,fun b hb=>?_⟩,hR.defers,hR.size,O1,fun b t hb=>?_,fun t av hav=>?_⟩,fun i V e xs hi hne=>?_,?_⟩
 ·obtain⟨t,h1,h2⟩:=hb;exact⟨(hOr b t h2).fw hR.f0,fun t' h'=>by rw[h2]at h';cases h';exact h1⟩
 ·have:=(hO1 b t).1 hb;exact⟨.inr ⟨t,this.2,this.1⟩,(hOr b t this.1).2⟩
 ·obtain⟨v,hv,hr⟩:=hO t av hav;refine⟨v,hv,fo.reX (hr.move (fun c hc=>⟨hFree c hc,rfl⟩) (fun _ c hc=>⟨(hO1 c t).2 ⟨hc,hlt t av hav⟩,rfl⟩) (fun k _ x _ hk=>⟨hk,rfl⟩)) (fun _ b hb=>?_)⟩;have:=(hO1 b t).1 hb;exact⟨t,this.2,this.1⟩
 ·rcases hL i _ hi with h|⟨_,_,h⟩
  ·cases h
  ·rcases h with⟨base,_,h4⟩|⟨b,cap,cs,h3,h4,h5,h6,h7,h8,h9,h10⟩
   ·exact aG h4 hne
   refine⟨b,cap,cs,h3,(hOr b _ h4).2,fun⟨t,g1,g2⟩=>by rw[h4]at g2;cases g2;omega,h5,h9,fun j d hd=>?_⟩;obtain⟨f1,u,f2,f3⟩:=h10 j d hd;refine⟨f1,u,f2,fun w' O' hb' hO'=>f3.mono (fun c hc=>?_) (fun c hc=>hb'.block c (hFlt c hc.2) (fun⟨t,_,g⟩=>by rw[hc.1]at g;cases g))⟩;refine⟨?_,.inl ⟨hc.2,fun t ht=>by rw[hc.1]at ht;cases ht⟩⟩;cases hx:O' c with
   |none=>rfl
   |some t =>
    exfalso;rcases (hO' c t hx).1 with g|⟨s,_,g⟩
    ·have:=hFlt c hc.2;have g:w.heap.size≤c:=g;omega
    ·rw[hc.1]at g;cases g
 ·intro σ' a' w' htag h2;have htag:=St.Al htag;obtain⟨O2,hOr2,hO2⟩:=h2.own;have hsz:w.heap.size≤w'.heap.size:=h2.below.size;have hX1: ∀b,X1 b→B≤b∨w0.X b:=fun b ⟨t,_,h⟩=>(hOr b t h).1
  have k1: ∀b t t',O2 b=some t→O b=some t'→t'<n:=fun b t t' h h'=>by
   rcases (hOr2 b t h).1 with g|⟨t2,g1,g2⟩
   ·have g:w.heap.size≤b:=g;have h1:b<w.heap.size:=(hOr b t' h').2;omega
   ·rw[h']at g2;cases g2;exact g1
  let O3:Nat→Option Nat:=fun b=>match O b with
   |some t=>if t<n then O2 b else some t
   |none=>O2 b
  have k2: ∀b t,O2 b=some t→O3 b=some t:=fun b t h=>by
   simp only[O3];split
   ·rename_i t' ht';rw[ah (k1 b t t' h ht')];exact h
   ·exact h
  have k3: ∀c,aQ O2 (FW w.heap.size F1 w') c→aQ O3 (FW B F0 w') c:=fun c hc=>by
   rcases hc.2 with g|⟨g1,g2⟩
   ·refine⟨?_,?_⟩
    ·simp only[O3];split
     ·rename_i t' ht';rw[ah (g.2 t' ht')];exact hc.1
     ·exact hc.1
    ·rcases g.1 with g|⟨g1,g2⟩
     ·exact .inl g
     ·exact .inr ⟨g1,cI g2 hsz⟩
   ·refine⟨?_,.inr ⟨bi hR.base g1,g2⟩⟩;simp only[O3];split
    ·rename_i t' ht';have:c<w.heap.size:=(hOr c t' ht').2;omega
    ·exact hc.1
  refine⟨hR.below.back hR.base hX1 h2.below,bi hR.base hsz,hR.f0,h2.defers,h2.size,O3,fun b t hb=>?_,fun t av hav=>?_,fun i r hr=>?_⟩
  ·simp only[O3]at hb
   have e2:O2 b=some t→kS B w0 w' b:=fun h=>by
    refine⟨?_,(hOr2 b t h).2⟩;rcases (hOr2 b t h).1 with g|g
    ·exact .inl (bi hR.base g)
    ·exact hX1 b g
   split at hb
   ·rename_i t' ht';split at hb
    ·exact e2 hb
    ·exact⟨(hOr b t' ht').1,cI (hOr b t' ht').2 hsz⟩
   ·exact e2 hb
  ·obtain⟨v,hv,hr⟩:=hO2 t av hav;refine⟨v,hv,fo.reX (hr.move (fun c hc=>⟨k3 c hc,rfl⟩) (fun _ c hc=>⟨k2 c t hc,rfl⟩) (fun k _ x _ hk=>⟨hk,rfl⟩)) (fun e=>?_)⟩;rw[htag t av hav]at e;cases e
  ·rcases hL i r hr with h|⟨h1,h2',h3⟩
   ·exact .inl h
   refine .inr ⟨h1,h2',h3.move (fun c hc=>?_) (fun _ c hc=>?_) (fun k _ x _ hk=>by cases hk)⟩
   ·have hc':=hFlt c hc.2;have hnx: ¬X1 c:=fun⟨t,_,h⟩=>by rw[hc.1]at h;cases h
    refine⟨⟨?_,?_⟩,h2.below.block c hc' hnx⟩
    ·simp only[O3,hc.1];cases h:O2 c with
     |none=>rfl
     |some t =>
      exfalso;rcases (hOr2 c t h).1 with g|g
      ·have g:w.heap.size≤c:=g;omega
      ·exact hnx g
    ·rcases hc.2 with g|⟨g1,g2⟩
     ·exact .inl g
     ·exact .inr ⟨g1,cI g2 hsz⟩
   ·have hnx: ¬X1 c:=fun⟨t,h,h'⟩=>by rw[hc]at h';cases h';omega
    refine⟨?_,h2.below.block c (hOr c _ hc).2 hnx⟩;simp only[O3,hc];rw[af (by omega)]
theorem bT.sub(hR:bT P B F0 w0 n R σ a w): ∃B1 F1 w1,Rel P B1 F1 w1 n σ a w∧ ∀σ' a' w',σ'.gN=true→Rel P B1 F1 w1 n σ' a' w'→bT P B F0 w0 n R σ' a' w':=by obtain⟨B1,F1,w1,h1,_,h2⟩:=hR.K7;exact⟨B1,F1,w1,h1,h2⟩
theorem kX{x:LR}(hj:j≠i)(h:(R.set i x)[j]?=some r):R[j]?=some r:=by rw[c6 (dr hj)]at h;exact h
theorem fo.swap{x:AV}(hk:k≠t)(hku:k≠u)(h:fo P X w O F σ.get tm k x v)(ha:av.home=true→True):
  fo P X w (tJ O u t) F (St.get ((t,av)::σ.kill t)) tm k (x.kill t) v:=by
 rcases AV.jW t x with⟨h1,h2⟩|h1
 ·rw[h1];refine h.move (fun c hc=>⟨⟨fG.2 hc.1,hc.2⟩,rfl⟩) (fun _ c hc=>⟨gD hc hku hk,rfl⟩) fun j hj y hy hg=>?_;have hjt:j≠t:=fun e=>h2 (e▸hj);rw[St.aL,af (dr hjt),St.dA]at hg;cases hgj:σ.get j with
  |none=>simp[hgj]at hg
  |some y' =>
   simp only[hgj,c1,cw]at hg;subst hg;rw[ir hy];exact⟨rfl,rfl⟩
 ·rw[h1];trivial
theorem bT.cO(hR:bT P B F0 w0 n R σ a w)(hi:R[i]?=some (V,av))(hrow:av.loose=true)(ht:σ.get t=some (.d (.v V))):
  bT P B F0 w0 n (R.set i (V,.junk)) ((t,av)::σ.kill t) a w:=by
 obtain⟨O,hOr,hO,hL⟩:=hR.own;obtain⟨v,hv,hr⟩:=hO t _ ht;have hvV:=(Rd.j5 hr).1;subst hvV;have htn:t<n:=by rw[←hR.size];exact(a3.1 hv).1
 refine⟨hR.below,hR.base,hR.f0,hR.defers,hR.size,tJ O (n+i) t,oI hOr,fun k x hk=>?_,fun j r hr'=>?_⟩
 ·rw[St.aL]at hk;split at hk
  ·rename_i e;subst e;cases hk;rcases hL i _ hi with h|⟨h1,h2,h3⟩
   ·simp only at h;subst h;cases hrow
   exact⟨v,hv,h3.owner h1 h2 (fun c hc=>by simp[tJ,hc]) (fun c hc=>⟨fG.2 hc.1,hc.2⟩)⟩
  ·rename_i hkt;rw[St.dA]at hk;cases hg:σ.get k with
   |none=>simp[hg]at hk
   |some y =>
    simp only[hg,c1,cw]at hk;subst hk;obtain⟨z,hz,hzr⟩:=hO k y hg;have hkn:k<n:=by rw[←hR.size];exact(a3.1 hz).1
    exact⟨z,hz,hzr.swap (dr hkt) (by omega) (fun _=>trivial)⟩
 ·by_cases hj:j=i
  ·subst hj;have hlt:j<R.length:=(a0.1 hi).1;rw[cz hlt]at hr';cases hr';exact .inl rfl
  ·have:=kX hj hr';rcases hL j r this with h|⟨h1,h2,h3⟩
   ·exact .inl h
   ·exact .inr ⟨h1,h2,h3.move (fun c hc=>⟨⟨fG.2 hc.1,hc.2⟩,rfl⟩) (fun _ c hc=>⟨gD hc (by omega) (by omega),rfl⟩) (fun k _ x _ hk=>by cases hk)⟩
theorem bT.fS(hR:bT P B F0 w0 n R σ a w)(ht:σ.get t=some av)(hrow:av.row.isSome=true)(htag:av.tag=false)(hV:a.tmps[t]?=some V)
  (hi:R'[i]?=some (V,av)) (hj: ∀j r,j≠i→R'[j]?=some r→R[j]?=some r):bT P B F0 w0 n R' ((t,.d (.v V))::σ.kill t) a w:=by
 obtain⟨O,hOr,hO,hL⟩:=hR.own;obtain⟨v,hv,hr⟩:=hO t _ ht;rw[hV]at hv;cases hv;have htn:t<n:=by rw[←hR.size];exact(a3.1 hV).1
 refine⟨hR.below,hR.base,hR.f0,hR.defers,hR.size,tJ O (n+i) t,oI hOr,fun k x hk=>?_,fun j r hr'=>?_⟩
 ·rw[St.aL]at hk;split at hk
  ·rename_i e;subst e;cases hk;refine⟨V,hV,.v ?_⟩;cases av<;>simp[AV.row]at hrow
   ·rcases hr with⟨_,rfl,_⟩|⟨_,_,_,rfl,_⟩<;>rfl
   ·rcases hr with⟨_,_,rfl,_⟩|⟨_,_,_,_,_,rfl,_⟩<;>rfl
  ·rename_i hkt;rw[St.dA]at hk;cases hg:σ.get k with
   |none=>simp[hg]at hk
   |some y =>
    simp only[hg,c1,cw]at hk;subst hk;obtain⟨z,hz,hzr⟩:=hO k y hg;have hkn:k<n:=by rw[←hR.size];exact(a3.1 hz).1
    exact⟨z,hz,hzr.swap (dr hkt) (by omega) (fun _=>trivial)⟩
 ·by_cases hji:j=i
  ·subst hji;rw[hi]at hr';cases hr';refine .inr ⟨AV.Ao hrow,htag,hr.owner (AV.Ao hrow) htag (fun c hc=>?_) (fun c hc=>⟨fG.2 hc.1,hc.2⟩)⟩;simp only[tJ];rw[af (by rw[hc];intro e;cases e;omega),ah hc]
  ·rcases hL j r (hj j r hji hr')with h|⟨h1,h2,h3⟩
   ·exact .inl h
   ·exact .inr ⟨h1,h2,h3.move (fun c hc=>⟨⟨fG.2 hc.1,hc.2⟩,rfl⟩) (fun _ c hc=>⟨gD hc (by omega) (by omega),rfl⟩) (fun k _ x _ hk=>by cases hk)⟩
theorem bT.fc(ks:List Nat)(hR:bT P B F0 w0 n R σ a w):bT P B F0 w0 n R (σ.fc ks) a w:=by
 obtain⟨O,hOr,hO,hL⟩:=hR.own;refine⟨hR.below,hR.base,hR.f0,hR.defers,hR.size,O,hOr,fun t av h=>?_,hL⟩;rw[St.s8]at h;split at h<;>try (cases h;done)
 obtain⟨v,hv,hr⟩:=hO t av h;refine⟨v,hv,hr.move (fun c hc=>⟨hc,rfl⟩) (fun _ c hc=>⟨hc,rfl⟩) (fun k hk x hx hg=>?_)⟩;rw[St.s8]at hg;split at hg
 ·exact⟨hg,rfl⟩
 ·cases hg
theorem bT.drop(hR:bT P B F0 w0 n R σ a w)(h: ∀(i:Nat) (r:LR),R'[i]?=some r→R[i]?=some r∨r.2= .junk):bT P B F0 w0 n R' σ a w:=by
 obtain⟨O,hOr,hO,hL⟩:=hR.own;refine⟨hR.below,hR.base,hR.f0,hR.defers,hR.size,O,hOr,hO,fun i r hr=>?_⟩;rcases h i r hr with g|g
 ·exact hL i r g
 ·exact .inl g
end
section
variable {all:Array Oper} 
theorem pI{a:Act}{next next':Act→World→Prop}{Q Q':Exit→Act→World→Prop}(hp: ∀c a w,Q (.panic c) a w→Q' (.panic c) a w)(ho:LetsOut Q→LetsOut Q')
  (hn: ∀v d w,next ({a with defers:=d}.put o.dst v) w→next' ({a with defers:=d}.put o.dst v) w) {r:Result Next} (h:o.upon P a next Q r):o.upon P a next' Q' r:=by
 cases r with
 |ok x w' =>
  cases x<;>simp only[ja]at h ⊢
  ·exact hn _ a.defers _ h
  ·exact hn _ a.defers _ h
  ·exact Calls.mono h (fun e w'' he=>by cases e<;>first|exact hn _ a.defers _ he|exact hp _ _ _ he|exact ho he)
  ·exact hn _ _ _ h
  ·exact Rows.mono h (fun v w'' he=>hn _ a.defers _ he)
 |halt x w'=>cases x<;>simp only[ja]at h ⊢ <;>exact hp _ _ _ h
def OX(t:Nat)(x:Option Value)(Q:Exit→Act→World→Prop):Exit→Act→World→Prop:=fun e a w=>Q e a w∧(e= .normal→a.tmps[t]?=x)
theorem oA{t:Nat}{x:Option Value}{Q:Exit→Act→World→Prop}: ∀(l:List Oper) (a:Act) (w:World),(∀o,o∈l→o.dst≠some t)→a.tmps[t]?=x→wpList P all Q l a w→wpList P all (OX t x Q) l a w
 |[],a,w,_,hx,h=>⟨h,fun _=>hx⟩
 |o::l,a,w,hd,hx,h=>by
  have hput: ∀v d,({a with defers:=d}.put o.dst v).tmps[t]?=x:=fun v d=>by
   cases hdst:o.dst with
   |none=>exact hx
   |some k =>
    have:k≠t:=fun e=>hd o (by simp) (by rw[hdst,e]);rw[dX (dr this)];exact hx
  unfold wpList at h ⊢;split at h
  ·rw[ah (by assumption)];rcases h with h|⟨h1,a1,w1,h2⟩
   ·exact .inl (pI (fun c a w h=>⟨h,fun e=>by cases e⟩) (fun⟨a,w,h⟩=>⟨a,w,h,fun e=>by cases e⟩) (fun v d w h=>oA l _ _ (fun o ho=>hd o (by simp[ho])) (hput v d) h) h)
   ·exact .inr ⟨h1,a1,w1,h2,fun e=>by cases e⟩
  ·rw[af (by assumption)];exact oA l _ _ (fun o ho=>hd o (by simp[ho])) (hput undef a.defers) h
theorem iz{Q Q':Exit→Act→World→Prop}(hq: ∀e a w,Q e a w→Q' e a w): ∀{l:List Oper} {a:Act} {w:World},wpList P all Q l a w→wpList P all Q' l a w
 |[],a,w,h=>hq _ _ _ h
 |o::l,a,w,h=>by
  unfold wpList at h ⊢;split at h
  ·rw[ah (by assumption)];rcases h with h|⟨h1,a1,w1,h2⟩
   ·exact .inl (pI (fun c a w h=>hq _ _ _ h) (fun⟨a,w,h⟩=>⟨a,w,hq _ _ _ h⟩) (fun v d w h=>iz hq h) h)
   ·exact .inr ⟨h1,a1,w1,hq _ _ _ h2⟩
  ·rw[af (by assumption)];exact iz hq h
abbrev mY:=List (Nat×Value)
def lH(p:mY)(a:Act):Prop:= ∀e,e∈p→a.tmps[e.1]?=some e.2
def vg(t:Nat):List Oper→Bool
 |[]=>true
 |o::r=>match o.dst with
  |some d=>match dn d t with
   |true=>false
   |false=>vg t r
  |none=>vg t r
theorem ym{t:Nat}: ∀{l:List Oper},vg t l=true→ ∀o,o∈l→o.dst≠some t
 |[],_,o,ho=>by cases ho
 |x::r,h,o,ho=>by
  simp only[vg]at h;rcases cr.1 ho with rfl|ho
  ·split at h
   ·rename_i d hd;split at h
    ·cases h
    ·rename_i hb;rw[hd];intro e;cases e;exact eu hb rfl
   ·rename_i hd;rw[hd];intro e;cases e
  ·split at h
   ·split at h
    ·cases h
    ·exact ym h o ho
   ·exact ym h o ho
def kf(p:mY)(l:List Oper):Bool:=match p with
 |[]=>true
 |(t,_)::r=>match vg t l with
  |true=>kf r l
  |false=>false
theorem oU: ∀{p:mY} {l:List Oper},kf p l=true→ ∀e,e∈p→ ∀o,o∈l→o.dst≠some e.1
 |[],l,_,e,he=>by cases he
 |(t,V)::r,l,h,e,he=>by
  simp only[kf]at h;split at h
  ·rename_i h1;rcases cr.1 he with rfl|he
   ·exact ym h1
   ·exact oU h e he
  ·cases h
theorem lO{Q:Exit→Act→World→Prop}{a:Act}{w:World}: ∀{p:mY},lH p a→(∀e,e∈p→ ∀o,o∈l→o.dst≠some e.1)→wpList P all Q l a w→wpList P all (fun e a w=>Q e a w∧(e= .normal→lH p a)) l a w
 |[],_,_,h=>iz (fun e a w h=>⟨h,fun _ e he=>by cases he⟩) h
 |(t,V)::r,hp,hd,h=>by
  have h1:=lO (p:=r) (fun e he=>hp e (by simp[he])) (fun e he=>hd e (by simp[he])) h;have h2:=oA l a w (hd (t,V) (by simp)) (hp (t,V) (by simp)) h1;refine iz (fun e a w ⟨⟨h1,h2⟩,h3⟩=>⟨h1,fun he e' he'=>?_⟩) h2;rcases cr.1 he' with rfl|he'
  ·exact h3 he
  ·exact h2 he e' he'
def aj(P:Program)(B:Nat)(F0:Nat→Prop)(w0:dh)(n:Nat)(all:Array Oper)(l:List Oper)(K:List LR→St→Prop)(p:mY)(R:List LR)(σ:St):Prop :=
 ∀(a:Act) (w:World),bT P B F0 w0 n R σ a w→lH p a→ ∀Q:Exit→Act→World→Prop,(∀a w R' σ',K R' σ'→bT P B F0 w0 n R' σ' a w→Q .normal a w)→wpList P all Q l a w
variable {p:mY}
theorem aj.nil(h:K R σ):aj P B F0 w0 n all [] K p R σ:=fun a w hR _ Q hQ=>hQ a w R σ h hR
theorem aj.cut(k:Nat)(hp:kf p (l.take k)=true)(h: ∀B1 F1 w1,ae P B1 F1 w1 n all (l.take k) (fun σ'=>σ'.gN=true∧aj P B F0 w0 n all (l.drop k) K p R σ') σ):aj P B F0 w0 n all l K p R σ:=by intro a w hR hpin Q hQ;obtain⟨B1,F1,w1,hR1,hback⟩:=hR.sub;rw[←dx k l];refine jP (l.drop k) (l.take k) a w ?_;have h1:=h B1 F1 w1 a w hR1 (fun e a' w'=>e= .normal∧ ∃σ',σ'.gN=true∧aj P B F0 w0 n all (l.drop k) K p R σ'∧bT P B F0 w0 n R σ' a' w') (fun a' w' σ' ⟨h1,h2⟩ hR'=>⟨rfl,σ',h1,h2,hback σ' a' w' h1 hR'⟩);refine iz (fun e a' w' ⟨⟨he,σ',_,h2,h3⟩,h4⟩=>?_)<|lO hpin (oU hp) h1;subst he;exact h2 a' w' h3 (h4 rfl) Q hQ
theorem aj.cO(t i:Nat)(hi:R[i]?=some (V,av))(ht:σ.get t=some (.d (.v V)))(hrow:av.loose=true)(h:aj P B F0 w0 n all l K ((t,V)::p) (R.set i (V,.junk)) ((t,av)::σ.kill t)):aj P B F0 w0 n all l K p R σ:=by
 intro a w hR hpin Q hQ;refine h a w (hR.cO hi hrow ht) (fun e he=>?_) Q hQ;rcases cr.1 he with rfl|he
 ·obtain⟨O,_,hO,_⟩:=hR.own;obtain⟨v,hv,hr⟩:=hO t _ ht;rw[hv,(Rd.j5 hr).1]
 ·exact hpin e he
theorem aj.back(t i:Nat){V':Value}{av':AV}(ht:σ.get t=some av)(hrow:av.row.isSome=true)(htag:av.tag=false)(hp:(t,V)∈p)(hi:R[i]?=some (V',av'))(h:aj P B F0 w0 n all l K p (R.set i (V,av)) ((t,.d (.v V))::σ.kill t)):aj P B F0 w0 n all l K p R σ:=by intro a w hR hpin Q hQ;exact h a w (hR.fS ht hrow htag (hpin _ hp) (cz (a0.1 hi).1) (fun j r hj hr=>kX hj hr)) hpin Q hQ
theorem aj.fS(t:Nat)(ht:σ.get t=some av)(hrow:av.row.isSome=true)(htag:av.tag=false)(h: ∀V:Value,aj P B F0 w0 n all l K p (R++[(V,av)]) ((t,.d (.v V))::σ.kill t)):aj P B F0 w0 n all l K p R σ:=by
 intro a w hR hpin Q hQ;obtain⟨O,_,hO,_⟩:=hR.own;obtain⟨V,hV,_⟩:=hO t _ ht;refine h V a w (hR.fS (i:=R.length) ht hrow htag hV (by simp) (fun j r hj hr=>?_)) hpin Q hQ;rcases ct j R.length with hlt|hge
 ·rw[cd hlt]at hr;exact hr
 ·rw[cb hge]at hr;have:j-R.length≠0:=by omega
  cases hj':j-R.length with
  |zero=>omega
  |succ m=>rw[hj']at hr;simp at hr
theorem aj.fc(ks:List Nat)(h:aj P B F0 w0 n all l K p R (σ.fc ks)):aj P B F0 w0 n all l K p R σ:=fun a w hR=>h a w (hR.fc ks)
theorem aj.mV(h:R=R')(hk:aj P B F0 w0 n all l K p R' σ):aj P B F0 w0 n all l K p R σ:=h▸hk
def AZ(P:Program)(B:Nat)(F0:Nat→Prop)(w0:dh)(n:Nat)(c:Code)(Q:Exit→List LR→St→Prop)(R:List LR)(σ:St):Prop :=
 ∀(a:Act) (w:World),bT P B F0 w0 n R σ a w→c.wp P (fun e a' w'=> ∃R' σ',Q e R' σ'∧bT P B F0 w0 n R' σ' a' w') a w
variable {y:Code}
def Mo(K:List LR→St→Prop)(Q:Exit→List LR→St→Prop):Exit→List LR→St→Prop
 | .normal,R,σ=>K R σ
 | .exit i,R,σ=>Q (.exit i) R σ
 | .goto i,R,σ=>Q (.goto i) R σ
 | .ret,R,σ=>Q .ret R σ
 | .panic c,R,σ=>Q (.panic c) R σ
 | .outgrown,R,σ=>Q .outgrown R σ
def Ku(id:Nat)(Q:Exit→List LR→St→Prop):Exit→List LR→St→Prop
 | .normal,R,σ=>Q .normal R σ
 | .exit i,R,σ=>match dn i id with
   |true=>Q .normal R σ
   |false=>Q (.exit i) R σ
 | .goto i,R,σ=>Q (.goto i) R σ
 | .ret,R,σ=>Q .ret R σ
 | .panic c,R,σ=>Q (.panic c) R σ
 | .outgrown,R,σ=>Q .outgrown R σ
theorem AZ.skip(h:Q .normal R σ):AZ P B F0 w0 n .skip Q R σ:=fun a w hR=>wp_skip ⟨R,σ,h,hR⟩
theorem AZ.exit(h:Q (.exit id) R σ):AZ P B F0 w0 n (.exit id) Q R σ:=fun a w hR=>wp_exit ⟨R,σ,h,hR⟩
theorem AZ.ret(h:Q .ret R σ):AZ P B F0 w0 n .ret Q R σ:=fun a w hR=>wp_ret ⟨R,σ,h,hR⟩
theorem AZ.seq(h:AZ P B F0 w0 n x (Mo (AZ P B F0 w0 n y Q) Q) R σ):AZ P B F0 w0 n (.seq x y) Q R σ:=by intro a w hR;refine wp_seq (wp_mono (h a w hR) fun e a' w' ⟨R',σ',hq,hR'⟩=>?_);cases e<;>first|exact hq a' w' hR'|exact⟨R',σ',hq,hR'⟩
theorem AZ.block(h:AZ P B F0 w0 n x (Ku id Q) R σ):AZ P B F0 w0 n (.block id x) Q R σ:=by
 intro a w hR;refine wp_block (wp_mono (h a w hR) fun e a' w' ⟨R',σ',hq,hR'⟩=>?_);cases e with
 |exit i =>
  simp only[Ku]at hq;simp only[Exit.inBlock];split at hq
  ·rename_i hb;rw[ah (cM hb)];exact⟨R',σ',hq,hR'⟩
  ·rename_i hb;rw[af (eu hb)];exact⟨R',σ',hq,hR'⟩
 |_=>exact⟨R',σ',hq,hR'⟩
theorem AZ.cond{b:Bool}(hc:pv σ c=some b)(h1:b=true→AZ P B F0 w0 n x Q R σ)(h2:b=false→AZ P B F0 w0 n y Q R σ):AZ P B F0 w0 n (.cond c x y) Q R σ:=by
 intro a w hR
 have he:a.eval c= .bool b:=by
  unfold pv at hc;split at hc<;>try (cases hc;done)
  ·split at hc<;>simp at hc;rename_i hg;subst hc;obtain⟨O,hOr,hO,_⟩:=hR.own;obtain⟨v,hv,hr⟩:=hO _ _ hg;have:=(Rd.j5 hr).1;subst this;exact gp hv
  ·simp at hc;subst hc;rfl
 refine wp_cond he ?_;cases b with
 |true=>exact h1 rfl a w hR
 |false=>exact h2 rfl a w hR
theorem AZ.aH(hc:pv σ c=some true)(h1:AZ P B F0 w0 n x Q R σ):AZ P B F0 w0 n (.cond c x y) Q R σ:=AZ.cond hc (fun _=>h1) (fun h=>by cases h)
theorem AZ.aC(hc:pv σ c=some false)(h1:AZ P B F0 w0 n y Q R σ):AZ P B F0 w0 n (.cond c x y) Q R σ:=AZ.cond hc (fun h=>by cases h) (fun _=>h1)
theorem AZ.region(h:aj P B F0 w0 n ops ops.toList (Q .normal) [] R σ):AZ P B F0 w0 n (.region id ops false) Q R σ :=
 fun a w hR=>wp_region_list (h a w hR (fun e he=>by cases he) _ fun a' w' R' σ' hk hR'=>⟨R',σ',hk,hR'⟩)
theorem AZ.frame(h: ∀B1 F1 w1,AW P B1 F1 w1 n x (fun e σ'=>σ'.gN=true∧Q e R σ') σ):AZ P B F0 w0 n x Q R σ:=by intro a w hR;obtain⟨B1,F1,w1,hR1,hback⟩:=hR.sub;exact wp_mono (h B1 F1 w1 a w hR1) fun e a' w' ⟨σ',⟨h1,h2⟩,hR'⟩=>⟨R,σ',h2,hback σ' a' w' h1 hR'⟩
theorem AZ.fc(ks:List Nat)(h:AZ P B F0 w0 n x Q R (σ.fc ks)):AZ P B F0 w0 n x Q R σ:=fun a w hR=>h a w (hR.fc ks)
theorem AZ.conv(h:σ=σ')(hk:AZ P B F0 w0 n x Q R σ'):AZ P B F0 w0 n x Q R σ:=h▸hk
theorem AZ.mV(h:R=R')(hk:AZ P B F0 w0 n x Q R' σ):AZ P B F0 w0 n x Q R σ:=h▸hk
theorem AZ.mono{Q':Exit→List LR→St→Prop}(h:AZ P B F0 w0 n x Q R σ)(hq: ∀e R σ,Q e R σ→Q' e R σ):AZ P B F0 w0 n x Q' R σ:=fun a w hR=>wp_mono (h a w hR) fun e a' w' ⟨R',σ',h1,h2⟩=>⟨R',σ',hq _ _ _ h1,h2⟩
theorem AZ.fS(t:Nat)(ht:σ.get t=some av)(hrow:av.row.isSome=true)(htag:av.tag=false)(h: ∀V:Value,AZ P B F0 w0 n x Q (R++[(V,av)]) ((t,.d (.v V))::σ.kill t)):AZ P B F0 w0 n x Q R σ:=by
 intro a w hR;obtain⟨O,_,hO,_⟩:=hR.own;obtain⟨V,hV,_⟩:=hO t _ ht;refine h V a w (hR.fS (i:=R.length) ht hrow htag hV (by simp) (fun j r hj hr=>?_));rcases ct j R.length with hlt|hge
 ·rw[cd hlt]at hr;exact hr
 ·rw[cb hge]at hr;have:j-R.length≠0:=by omega
  cases hj':j-R.length with
  |zero=>omega
  |succ m=>rw[hj']at hr;simp at hr
theorem AZ.cO(t i:Nat)(hi:R[i]?=some (V,av))(ht:σ.get t=some (.d (.v V)))(hrow:av.loose=true)(h:AZ P B F0 w0 n x Q (R.set i (V,.junk)) ((t,av)::σ.kill t)):AZ P B F0 w0 n x Q R σ :=
 fun a w hR=>h a w (hR.cO hi hrow ht)
theorem AZ.aK{S:Type}(ks:List Nat)(mk:S→List LR×St)(I:S→Prop)(μ:S→Nat)(s0:S)(h0:(R,σ.fc ks)=mk s0)(hI:I s0)
  (hb: ∀s,I s→AZ P B F0 w0 n x (Mo (fun R' σ'=> ∃s',(R',σ'.fc ks)=mk s'∧I s'∧μ s'<μ s) Q) (mk s).1 (mk s).2):AZ P B F0 w0 n (.loop x) Q R σ:=by
 intro a w hR
 let G:Act→World→S→Prop:=fun a w s=>I s∧bT P B F0 w0 n (mk s).1 (mk s).2 a w
 have hex: ∀a w,(∃s,G a w s)→ ∃m,(∃s,μ s=m∧G a w s)∧ ∀s,G a w s→m≤μ s:=fun a w ⟨s,h1⟩=>by
  let q:Nat→Prop:=fun m=> ∃s,μ s=m∧G a w s
  have key: ∀k m,m≤k→q m→ ∃m0,q m0∧ ∀m',q m'→m0≤m':=by
   intro k
   induction k with
   |zero=>intro m hm hp;exact⟨m,hp,fun m' _=>by omega⟩
   |succ k ih =>
    intro m hm hp;by_cases hlt: ∃m',m'≤k∧q m'
    ·obtain⟨m',h1,h2⟩:=hlt;exact ih m' h1 h2
    ·exact⟨m,hp,fun m' hp'=>by
      rcases ct k m' with h|h
      ·omega
      ·exact aG ⟨m',h,hp'⟩ hlt⟩
  obtain⟨m0,h3,h4⟩:=key (μ s) (μ s) (ap _) ⟨s,rfl,h1⟩;exact⟨m0,h3,fun s' g=>h4 _ ⟨s',rfl,g⟩⟩
 let M:Act→World→Nat:=fun a w=>open Classical in if h: ∃s,G a w s then Classical.choose (hex a w h)else 0
 have hM: ∀a w,(∃s,G a w s)→(∃s,μ s=M a w∧G a w s)∧ ∀s,G a w s→M a w≤μ s:=fun a w h=>by have:=Classical.choose_spec (hex a w h);simp only[M,dif_pos h];exact this
 have hG0:G a w s0:=⟨hI,by rw[←h0];exact hR.fc ks⟩;refine wp_loop (fun a w=> ∃s,G a w s) M ⟨s0,hG0⟩ fun a w hg=>?_;obtain⟨⟨s1,hm,hI1,hR1⟩,_⟩:=hM a w hg;refine wp_mono (hb s1 hI1 a w hR1) fun e a' w' ⟨R',σ',hq,hR'⟩=>?_;cases e with
 |normal =>
  obtain⟨s',h1,h2,h3⟩:=hq;have hg':G a' w' s':=⟨h2,by rw[←h1];exact hR'.fc ks⟩;refine⟨⟨s',hg'⟩,?_⟩;have:=(hM a' w' ⟨s',hg'⟩).2 s' hg';omega
 |_=>exact⟨R',σ',hq,hR'⟩
def Qe{S:Type}(ks:List Nat)(mk:S→List LR×St)(I:S→Prop)(Q:Exit→List LR→St→Prop):Exit→List LR→St→Prop
 | .normal,R,σ=> ∃s,(R,σ.fc ks)=mk s∧I s
 | .exit i,R,σ=>Q (.exit i) R σ
 | .goto i,R,σ=>Q (.goto i) R σ
 | .ret,R,σ=>Q .ret R σ
 | .panic c,R,σ=>Q (.panic c) R σ
 | .outgrown,R,σ=>Q .outgrown R σ
theorem AZ.cut{S:Type}(ks:List Nat)(mk:S→List LR×St)(I:S→Prop)(hx:AZ P B F0 w0 n x (Qe ks mk I Q) R σ)(hy: ∀s,I s→AZ P B F0 w0 n y Q (mk s).1 (mk s).2):AZ P B F0 w0 n (.seq x y) Q R σ:=by
 refine AZ.seq (AZ.mono hx fun e R' σ' hq=>?_);cases e with
 |normal =>
  obtain⟨s,h1,h2⟩:=hq;have h1':=Prod.mk.inj (h1.trans (Prod.eta (mk s)).symm);refine AZ.mV h1'.1<|AZ.fc ks<|AZ.conv h1'.2<|hy s h2
 |_=>exact hq
end
def Fw(ops:Array Oper)(i:Nat):Bool:=match ops[i]? with
 |some oi=>oi.guard.isNone&&(oi.after.toList.all fun e=> !Region.binds .any e)&&Gx ops &&
   (ix ops.size).all fun j=>dn j i||match ops[j]? with
    |some oj=>(oj.after.toList.any fun e=>Region.binds .any e&&dn e.on i)||oi.apart ops oj
    |none=>true
 |none=>false
theorem AG{Q:Exit→Act→World→Prop}(i:Nat)(hB:Fw ops i=true)(hpan: ∀c a w,Q (.panic c) a w→False)(hout:LetsOut Q→False){a:Act}{w:World}{oi:Oper}(hoi:ops[i]?=some oi)
  (hexec: ∀w,(execOp a.eval oi).run P w= .ok (.value v) w) (hA:wpAny P .any (gK i ops) Q ops.size (c4 ops.size false) a w):wpAny P .any ops Q ops.size (c4 ops.size false) a w:=by
 unfold Fw at hB;rw[hoi]at hB;simp only[f9,eo]at hB;obtain⟨⟨⟨hg,haf⟩,hsel⟩,hall⟩:=hB;have hil:i<ops.size:=(a3.1 hoi).1;have hgn:oi.guard=none:=by simpa using hg
 obtain⟨s,hs⟩: ∃s,ops.size=s+1:=⟨ops.size-1,by omega⟩;have u9:(c4 ops.size false).getD i true=false:=getD_in (by simpa using hil) (getD_replicate_false _ _)
 have hri: ∀ops':Array Oper,ops'[i]?=some oi→i∈c0 .any ops' (c4 ops.size false):=fun ops' h'=>by rw[mem_ready];refine⟨u9,oi,h',fun e he hb=>?_⟩;have:=haf e (by simpa using he);rw[hb]at this;cases this
 have hwant:cS oi (yielded ops a.tmps)=true:=by simp[cS,hgn]
 rw[hs]at hA;rw[hs];have hI:=hri (gK i ops) (by rw[l6,hoi];simp[Cj]);rw[hs]at hI;have h1:=rS i i (hA.2 i hI)
 have h2:wpAny P .any (gK i ops) Q s ((c4 (s+1) false).setIfInBounds i true) (a.put oi.dst v) w:=by
  unfold wpOp at h1;simp only[hoi,hwant,if_true]at h1;rcases h1 with h1|⟨_,h1⟩
  ·unfold i4 at h1;rw[hexec]at h1;exact h1
  ·exact(hout h1).elim
 have h3:=qk s _ _ _ (by simp;omega) h2;have hri2:=hri ops hoi;rw[hs]at hri2;refine wpAny_first (i:=i) (oi:=oi) (v:=v) hoi (fun j o cs b hj he=>?_) (fun c a' w' hq=>(hpan _ _ _ hq).elim) s _ a _ (fun j oj hj hji _ hne=>?_) hri2 (.inl ⟨hwant,fun w=>hexec w⟩) h3
 ·unfold Gx at hsel;have:=eo.1 hsel o (by simpa using Array.mem_of_getElem? hj);rw[he]at this;cases this
 ·have hjl:j<ops.size:=(a3.1 hj).1;have:=hall j (List.mem_range.2 hjl);rw[hj]at this;simp only[jr]at this;rcases this with h|h
  ·exact aG (cM h) hji
  ·rcases h with h|h
   ·exfalso;obtain⟨e,he,hb⟩:=List.any_eq_true.1 h;simp only[f9]at hb;exact hne e (by simpa using he) hb.1<|cM hb.2
   ·exact h
def JZ(T:Ty)(σ:St):Op→Bool
 | .fieldAddr t (.tmp s) f=>match T.get t,σ.get s with
   |some i,some (.bx _)=>(uA i f).isSome
   |_,_=>false
 |_=>false
theorem GV(hT:bB P T){a:Act}{w:World}(hR:Rel P B F0 w0 n σ a w)(h:JZ T σ o.op=true): ∃v,∀w',(execOp a.eval o).run P w'= .ok (.value v) w':=by
 obtain⟨dst,op,ty,pos,after,guard⟩:=o;simp only[]at h;cases op<;>simp only[JZ]at h<;>try (cases h;done)
 rename_i t x f;cases x<;>simp only[JZ]at h<;>try (cases h;done)
 rename_i s;split at h<;>try (cases h;done)
 rename_i i ds hi hs;obtain⟨⟨off,size,g⟩,hf⟩:=Option.isSome_iff_exists.1 h;obtain⟨info,dd,z,hok⟩:=hT t i hi;obtain⟨fs,fl,j,dd',h1,h2,h3,h4,h5,h6,h7,h8⟩:=nN hok hf;obtain⟨O,hOr,hO⟩:=hR.own;obtain⟨v,hv,b,cs,e,rfl,_⟩:=hO s _ hs;have he:a.eval (.tmp s)= .pointer (some ⟨b,0,none⟩):=gp hv;refine⟨.pointer (some ⟨b,0+off,none⟩),fun w'=>?_⟩;have hs:j.size≠0:=by omega
 simp[execOp,Instr.fieldAt,run_underlying h1,h2,he,gB,fieldPlace,hU,typeInfo,h4,hs,h3,km]
def fL(P:Program)(B:Nat)(F0:Nat→Prop)(w0:dh)(n:Nat)(ops:Array Oper)(Q:Exit→List LR→St→Prop)(R:List LR)(σ:St):Prop :=
 ∀(a:Act) (w:World),bT P B F0 w0 n R σ a w→wpAny P .any ops (fun e a' w'=> ∃R' σ',Q e R' σ'∧bT P B F0 w0 n R' σ' a' w') ops.size (c4 ops.size false) a {w with drawn:=w.drawn+1}
theorem AZ.any(kt:P.follows .mixedOrders=true)(h:fL P B F0 w0 n ops Q R σ):AZ P B F0 w0 n (.region id ops true) Q R σ:=fun a w hR=>wp_region_any kt (h a w hR)
theorem fL.draw(m:Nat)(hB:yp ops m=true)
  (h: ∀B1 F1 w1,ai P B1 F1 w1 n ops (e8 ops m) (σ.less (e8 ops m)) (ops.toList.take m) (σ.less (e8 ops m)) (fun τ=>τ.gN=true∧aj P B F0 w0 n ops (ops.toList.drop m) (Q .normal) [] R τ)):fL P B F0 w0 n ops Q R σ:=by
 intro a w hR;obtain⟨B1,F1,w1,hR1,hback⟩:=hR.sub;exact yQ.J9 m hB (fun τ a' w' ⟨ht,hz⟩ hR'=>hz a' w' (hback τ a' w' ht hR') (fun e he=>by cases he) _ (fun a w R' σ' hk hr=>⟨R',σ',hk,hr⟩)) (h B1 F1 w1) a w hR1
variable {p:mY}
section
variable {all:Array Oper} {a:Act} {w:World} 
theorem AZ.aw{Q:Exit→St→Prop}(h:AZ P B F0 w0 n x (fun e _ σ'=>Q e σ') [] σ):AW P B F0 w0 n x Q σ:=fun a w hR=>wp_mono (h a w hR.z) fun e a' w' ⟨R',σ',h1,h2⟩=>⟨σ',h1,h2.rel⟩
theorem AZ.cL(h: ∀B1 F1 w1,ae P B1 F1 w1 n ops ops.toList (fun σ'=>σ'.gN=true∧Q .normal R σ') σ):AZ P B F0 w0 n (.region id ops false) Q R σ :=
 AZ.frame fun B1 F1 w1=>AW.region (h B1 F1 w1)
theorem bT.L1(hR:bT P B F0 w0 n R σ a w)(ht:σ.get t=some (.bx cs))(hk:cs[k]?=some (.v V))(hi:R[i]?=some (V,.ow e xs)):
  bT P B F0 w0 n (R.set i (V,.junk)) ((t,.bx (cs.set k (.sl (P.cellsOf e) xs)))::σ) a w:=by
 obtain⟨O,hOr,hO,hL⟩:=hR.own
 let O':Nat→Option Nat:=fun b=>if O b=some (n+i)then none else O b
 have h1: ∀b t,O' b=some t→O b=some t:=fun b t h=>by
  simp only[O']at h;split at h
  ·cases h
  ·exact h
 have h2: ∀b t,t≠n+i→O b=some t→O' b=some t:=fun b t ht h=>by simp only[O',h];rw[af (by simpa using ht)]
 have hF: ∀c,aQ O (FW B F0 w) c→aQ O' (FW B F0 w) c:=fun c hc=>⟨by simp only[O',hc.1];simp,hc.2⟩
 have hlt: ∀t av,σ.get t=some av→t<n:=fun t av h=>by obtain⟨v,hv,_⟩:=hO t av h;rw[←hR.size];exact(a3.1 hv).1
 refine⟨hR.below,hR.base,hR.f0,hR.defers,hR.size,O',fun b t hb=>hOr b t (h1 b t hb),fun j av hav=>?_,fun j r hr=>?_⟩
 ·have key: ∀j,(∀ds,St.get ((t,AV.bx (cs.set k (.sl (P.cellsOf e) xs)))::σ) j=some (.bx ds)→ ∃ds',σ.get j=some (.bx ds'))∧(∀x e' l,St.get ((t,AV.bx (cs.set k (.sl (P.cellsOf e) xs)))::σ) j=some x→x.row=some (e',l)→ ∃y l',σ.get j=some y∧y.row=some (e',l')∧l'.length=l.length∧y.tag=x.tag):=fun j=>by
   rw[St.aL];by_cases hj:t=j
   ·subst hj;refine⟨fun ds _=>⟨cs,ht⟩,fun x e' l hx hrow=>?_⟩;rw[ah rfl]at hx;cases hx;simp[AV.row]at hrow
   ·rw[af hj];exact⟨fun ds hds=>⟨ds,hds⟩,fun x e' l hx hrow=>⟨x,l,hx,hrow,rfl,rfl⟩⟩
  rw[St.aL]at hav;split at hav
  ·rename_i e';subst e';cases hav;obtain⟨v,hv,b,cells,eb,rfl,g1,g2,g3⟩:=hO t _ ht;refine⟨_,hv,b,cells,eb,rfl,h2 b t (by have:=hlt t _ ht;omega) g1,g2,by simpa using g3.1,fun j d u hd hu=>?_⟩;by_cases hj:j=k
   ·subst hj;rw[cz (a0.1 hk).1]at hd;cases hd;have:=(Rd.j5 (g3.2 j _ u hk hu).2).1;subst this;refine⟨rfl,?_⟩;rcases hL i _ hi with h|⟨_,_,h⟩
    ·cases h
    ·rcases h with⟨base,h3,h4⟩|⟨b',cap,cs',h3,h4,h5,h6,h7,h8,h9,h10⟩
     ·simp only at h3 h4;subst h3;subst h4;exact .nil<|a4 _
     ·simp only at h3;subst h3;refine Rd.nV (off:=0) ⟨by simp only[O',h4];simp,(hOr b' _ h4).fw hR.f0⟩ h5 h6 h7 h9 fun m d hd=>?_;obtain⟨f1,u,f2,f3⟩:=h10 m d hd;exact⟨f1,u,by simpa using f2,f3.mono hF (fun _ _=>rfl)⟩
   ·rw[c6 (dr hj)]at hd;exact⟨(g3.2 j d u hd hu).1,(g3.2 j d u hd hu).2.mono hF (fun _ _=>rfl)⟩
  ·obtain⟨v,hv,hr⟩:=hO j av hav;have hr':fo P w0.X w O' (FW B F0 w) σ.get (fun h=>a.tmps[h]?) j av v:=hr.move (fun c hc=>⟨hF c hc,rfl⟩) (fun _ c hc=>⟨h2 c j (by have:=hlt j av hav;omega) hc,rfl⟩) (fun k _ x _ hk=>⟨hk,rfl⟩);exact⟨v,hv,hr'.Ms (fun j _=>key j)⟩
 ·by_cases hj:j=i
  ·subst hj;rw[cz (a0.1 hi).1]at hr;cases hr;exact .inl rfl
  ·have:=kX hj hr;rcases hL j r this with h|⟨g1,g2,g3⟩
   ·exact .inl h
   ·exact .inr ⟨g1,g2,g3.move (fun c hc=>⟨hF c hc,rfl⟩) (fun _ c hc=>⟨h2 c _ (by omega) hc,rfl⟩) (fun k _ x _ hk=>by cases hk)⟩
theorem AZ.L1(hT:bB P T)(t k i:Nat)(ht:σ.get t=some (.bx cs))(hk:cs[k]?=some (.v V))(hi:R[i]?=some (V,.ow e xs))(he:T.get e=some te)
  (h:AZ P B F0 w0 n x Q (R.set i (V,.junk)) ((t,.bx (cs.set k (.sl te.size xs)))::σ)):AZ P B F0 w0 n x Q R σ:=by
 obtain⟨info,d,z,hok⟩:=hT e te he;intro a w hR;have:=hR.L1 ht hk hi;rw[hok.cellsOf]at this;exact h a w this
end
section
variable {Q:Exit→Act→World→Prop}
variable {Q:Exit→List LR→St→Prop}
theorem aj.to{all:Array Oper}(ks:List Nat)(τ:St)(h:σ.fc ks=τ)(hk:aj P B F0 w0 n all l K p R τ):aj P B F0 w0 n all l K p R σ:=aj.fc ks (h▸hk)
theorem AZ.to{c:Code}(ks:List Nat)(τ:St)(h:σ.fc ks=τ)(hk:AZ P B F0 w0 n c Q R τ):AZ P B F0 w0 n c Q R σ:=AZ.fc ks (h▸hk)
end
def qG(O:Nat→Option Nat)(b:Nat):Prop:= ∃t,O b=some t
def fM(P:Program)(f:FuncId)(args:List D)(R:List LR)(Post:D→List LR→Prop):Prop :=
 uL P f∧ ∀(w:World) (F:Nat→Prop) (O:Nat→Option Nat) (vs:List Value),(∀b,F b→b<w.heap.size)→(∀b t,O b=some t→F b)→vs.length=args.length →
  (∀(i:Nat) (d:D) (v:Value),args[i]?=some d→vs[i]?=some v→Rd w (aQ O F) d v)→(∀(i:Nat) (r:LR),R[i]?=some r→l8 P w O F i r) →
  Calls P f vs.toArray w (fun ee w'=> ∃v res R' O',ee= .returned v∧Post res R'∧jq w.heap.size ⟨w,qG O⟩ w w'∧(∀b t,O' b=some t→kS w.heap.size ⟨w,qG O⟩ w' b)∧Rd w' (aQ O' (FW w.heap.size F w')) res v ∧
   ∀(i:Nat) (r:LR),R'[i]?=some r→l8 P w' O' (FW w.heap.size F w') i r)
section
variable {all:Array Oper} 
def vY(T:Ty)(σ:St):ResultVar→Option D
 | .tmp t=>dO T (ex T σ.get 0 (.tmp t))
 | .cell c t=>match T.get t,σ.get c with
   |some i,some (.bx ds)=>match jA i ds with
    |some (.d x)=>some x
    |_=>none
   |_,_=>none
def so(T:Ty)(σ:St):List ResultVar→Option (List D)
 |[]=>some []
 |r::rs=>match vY T σ r,so T σ rs with
  |some d,some ds=>some (d::ds)
  |_,_=>none
def I3(T:Ty)(σ:St)(rs:List ResultVar):Option D:=match so T σ rs with
 |some [d]=>some d
 |some []=>some (.tu [])
 |some (d::e::r)=>some (.tu (d::e::r))
 |none=>none
def PR(T:Ty)(rs:List ResultVar)(Post:D→List LR→Prop):Exit→List LR→St→Prop
 | .normal,R,σ=> ∃res,I3 T σ rs=some res∧Post res R
 | .ret,R,σ=> ∃res,I3 T σ rs=some res∧Post res R
 | .exit _,_,_=>False
 | .goto _,_,_=>False
 | .panic _,_,_=>False
 | .outgrown,_,_=>False
theorem y9(hT:bB P T){a:Act}{w:World}(hR:Rel P B F0 w0 n σ a w)(hOr: ∀b t,O b=some t→kS B w0 w b)
  (hO: ∀t av,σ.get t=some av→ ∃v,a.tmps[t]?=some v∧fo P w0.X w O (FW B F0 w) σ.get (fun h=>a.tmps[h]?) t av v) {r:ResultVar} {d:D} (h:vY T σ r=some d):
  ∃v,(oL a.tmps r).run P w= .ok v w∧Rd w (aQ O (FW B F0 w)) d v:=by
 have hI:Inv P B F0 w0 (fun _=>True) σ.get σ.get a w O:=⟨hR.below,hR.base,hR.f0,hOr,fun t _ av h=>hO t av h,fun t av h _=>hO t av h⟩;cases r with
 |tmp t =>
  simp only[vY]at h;exact⟨_,rfl,eO hT hI (fun _ _=>trivial) h⟩
 |cell c t =>
  simp only[vY]at h;split at h<;>try (cases h;done)
  rename_i i ds hi hc;split at h<;>simp at h;rename_i y hy;subst h;obtain⟨info,dd,z,hok⟩:=hT t i hi;obtain⟨u,hu,b,cs,e,rfl,h2,h3,h4⟩:=hO c _ hc;obtain⟨x,v,hx,hrun,hrd⟩:=lD (off:=0) hok h3 (fun j x hj=>by obtain⟨g1,g2⟩:=h4.get hj;exact⟨g1,by simpa using g2⟩) hy;simp at hx;subst hx;refine⟨v,?_,hrd⟩;have hgd:a.tmps.getD c undef= .pointer (some ⟨b,0,none⟩):=by simp[Array.getD_eq_getD_getElem?,hu]
  simp only[oL,hgd,asAddr,dl,d9,cN,hrun]
theorem jS(hT:bB P T){a:Act}{w:World}{O:Nat→Option Nat}(hR:Rel P B F0 w0 n σ a w)(hOr: ∀b t,O b=some t→kS B w0 w b)
  (hO: ∀t av,σ.get t=some av→ ∃v,a.tmps[t]?=some v∧fo P w0.X w O (FW B F0 w) σ.get (fun h=>a.tmps[h]?) t av v): ∀(rs:List ResultVar) (ds:List D),so T σ rs=some ds →
  ∃vs:List Value,(rs.mapM (oL a.tmps)).run P w= .ok vs w∧vs.length=ds.length ∧
   ∀(i:Nat) (d:D) (v:Value),ds[i]?=some d→vs[i]?=some v→Rd w (aQ O (FW B F0 w)) d v
 |[],ds,h=>by simp[so]at h;subst h;exact⟨[],by simp,rfl,fun i d v h=>by simp at h⟩
 |r::rs,ds,h=>by
  simp only[so]at h;split at h<;>simp at h;rename_i d ds' h1 h2;subst h;obtain⟨v,hv,hr⟩:=y9 hT hR hOr hO h1;obtain⟨vs,hvs,hl,hall⟩:=jS hT hR hOr hO rs ds' h2;refine⟨v::vs,?_,by simp[hl],fun i d' u h3 h4=>?_⟩
  ·simp only[j1,dl,cN,hvs,d9,hv]
  ·cases i with
   |zero=>simp at h3 h4;subst h3;subst h4;exact hr
   |succ i=>exact hall i d' u (by simpa using h3) (by simpa using h4)
theorem EM(hT:bB P T)(hrs:fn.results.toList=rs){a:Act}{w:World}(hR:Rel P B F0 w0 n σ a w)(hOr: ∀b t,O b=some t→kS B w0 w b)
  (hO: ∀t av,σ.get t=some av→ ∃v,a.tmps[t]?=some v∧fo P w0.X w O (FW B F0 w) σ.get (fun h=>a.tmps[h]?) t av v) {res:D} (hq:I3 T σ rs=some res):
  ∃v,(results fn a.tmps).run P w= .ok v w∧Rd w (aQ O (FW B F0 w)) res v:=by
 unfold I3 at hq;split at hq<;>simp at hq
 ·rename_i d hd;subst hq;obtain⟨vs',hrun,hl',hall⟩:=jS hT hR hOr hO rs _ hd
  match vs',hl' with
  |[v],_ =>
   refine⟨v,?_,hall 0 d v rfl rfl⟩;rw[eV];simp only[dl,en,hrs,ik,hrun,cN,d9];rfl
 ·rename_i hd;subst hq;obtain⟨vs',hrun,hl',hall⟩:=jS hT hR hOr hO rs _ hd
  match vs',hl' with
  |[],_ =>
   refine⟨.tuple #[],?_,Rd.tu (vs:=[]) rfl (fun i d v h=>by simp at h)⟩;rw[eV];simp only[dl,en,hrs,ik,hrun,cN,d9];rfl
 ·rename_i d e r hd;subst hq;obtain⟨vs',hrun,hl',hall⟩:=jS hT hR hOr hO rs _ hd;refine⟨.tuple vs'.toArray,?_,Rd.tu hl' (fun i d v h1 h2=>hall i d v h1 h2)⟩;rw[eV];simp only[dl,en,hrs,ik,hrun,cN,d9];rw[dif_neg (by simp at hl' ⊢; omega)]
theorem l8.owner{w:World}{s:Nat}(h:l8 P w O F s r)(hO: ∀c,O c=some s→O' c=some t)(hF: ∀c,aQ O F c→aQ O' F' c):l8 P w O' F' t r:=by
 rcases h with h|⟨h1,h2,h3⟩
 ·exact .inl h
 ·exact .inr ⟨h1,h2,h3.owner h1 h2 hO hF⟩
theorem fM.intro{c:Code}{args:List D}(hT:bB P T)(hf:P.funcs[f]?=some fn)(hb:fn.body=some c)(hrs:fn.results.toList=rs)(hn:fn.ntmps=n)(hl:args.length≤n)(hnm:(fn.name=="runtime.NumGoroutine")=false)
  (h: ∀(B:Nat) (F0:Nat→Prop) (w0:dh),AZ P B F0 w0 n c (PR T rs Post) R (fh 0 args)):fM P f args R Post:=by
 refine⟨⟨fn,hf,hnm,by simp[hb]⟩,fun w F O vs hF hOF hlen hr hL=>?_⟩
 let Oz:Nat→Option Nat:=fun b=>(O b).map (n+ ·)
 have hOz: ∀b t,Oz b=some t→ ∃s,O b=some s∧t=n+s:=fun b t h=>by simp only[Oz,gR]at h;obtain⟨s,h1,h2⟩:=h;exact⟨s,h1,h2.symm⟩
 have hfr: ∀c,aQ O F c→aQ Oz (FW w.heap.size F w) c:=fun c hc=>⟨by simp[Oz,hc.1],.inl hc.2⟩;refine calls_of_wp hf hb<|wp_mono (h w.heap.size F ⟨w,qG O⟩ _ w ?_) ?_
 ·refine⟨.refl _ _ _,ap _,⟨hF,fun b ⟨t,hb⟩=>hOF b t hb⟩,rfl,?_,Oz,(fun b t hb=>?_),(fun t av hav=>?_),fun i r hr=>?_⟩
  ·simp[hn];omega
  ·obtain⟨s,h1,_⟩:=hOz b t hb;exact⟨.inr ⟨s,h1⟩,hF b (hOF b s h1)⟩
  ·rw[jL]at hav;simp only[a4,if_true,Nat.sub_zero,gR]at hav;obtain⟨d,hd,rfl⟩:=hav;have hlt:t<vs.length:=by rw[hlen];exact(a0.1 hd).1
   refine⟨vs[t],by simp[Array.getElem?_append,hlt],?_⟩;exact(hr t d _ hd (az hlt)).mono hfr (fun _ _=>rfl)
  ·exact(hL i r hr).owner (fun c hc=>by simp[Oz,hc]) hfr
 ·rintro ee a w' ⟨R',σ',hq,hR⟩
  obtain⟨O2,hOr2,hO2,hL2⟩:=hR.own
  let O3:Nat→Option Nat:=fun b=>match O2 b with
   |some t=>if n≤t then some (t-n)else none
   |none=>none
  have h3n: ∀c,O2 c=none→O3 c=none:=fun c hc=>by simp only[O3,hc]
  have h3: ∀c t,O3 c=some t→O2 c=some (n+t):=fun c t hc=>by
   simp only[O3]at hc;split at hc
   ·rename_i s hs;split at hc
    ·cases hc;rw[hs];congr 1;omega
    ·cases hc
   ·cases hc
  have key:(∃res,I3 T σ' rs=some res∧Post res R')→a.defers=[]∧ ∃v,(results fn a.tmps).run P w'= .ok v w'∧ ∃v' res R' O',Ending.returned v= .returned v'∧Post res R'∧jq w.heap.size ⟨w,qG O⟩ w w'∧(∀b t,O' b=some t→kS w.heap.size ⟨w,qG O⟩ w' b)∧Rd w' (aQ O' (FW w.heap.size F w')) res v' ∧
    ∀(i:Nat) (r:LR),R'[i]?=some r→l8 P w' O' (FW w.heap.size F w') i r:=fun⟨res,hq,hP⟩=>by
   refine⟨hR.defers,?_⟩;obtain⟨v,hv,hrd⟩:=EM hT hrs hR.rel hOr2 hO2 hq;refine⟨v,hv,v,res,R',O3,rfl,hP,hR.below,fun b t hb=>hOr2 b _ (h3 b t hb),hrd.mono (fun c hc=>⟨h3n c hc.1,hc.2⟩) (fun _ _=>rfl),fun i r hr=>?_⟩;exact(hL2 i r hr).owner (fun c hc=>by simp only[O3,hc];rw[ah (by omega)];congr 1;omega) (fun c hc=>⟨h3n c hc.1,hc.2⟩)
  cases ee with
  |normal=>exact key hq
  |ret=>exact key hq
  |exit _=>exact hq.elim
  |goto _=>exact hq.elim
  |panic _=>exact hq.elim
  |outgrown=>exact hq.elim
end
section
variable {all:Array Oper} 
def vw(R:List LR):List Nat→Option (List LR)
 |[]=>some []
 |i::r=>match R[i]?,vw R r with
  |some x,some xs=>some (x::xs)
  |_,_=>none
def Hj(R:List LR):List Nat→List LR→List LR
 |i::is,r::rs=>Hj (R.set i r) is rs
 |[],rs=>R++rs
 |_::_,[]=>R
theorem CP: ∀{is:List Nat} {Rs:List LR},vw R is=some Rs→Rs.length=is.length∧ ∀(k:Nat) (r:LR),Rs[k]?=some r→ ∃i:Nat,is[k]?=some i∧R[i]?=some r
 |[],Rs,h=>by simp[vw]at h;subst h;exact⟨rfl,fun k r h=>by simp at h⟩
 |i::is,Rs,h=>by
  simp only[vw]at h;split at h<;>simp at h;rename_i x xs h1 h2;subst h;obtain⟨g1,g2⟩:=CP h2;refine⟨by simp[g1],fun k r hk=>?_⟩;cases k with
  |zero=>simp at hk;subst hk;exact⟨i,rfl,h1⟩
  |succ k=>simpa using g2 k r (by simpa using hk)
theorem Ge: ∀{is:List Nat} {Rs:List LR},vw R is=some Rs→ ∀i,i∈is→i<R.length
 |[],Rs,h,i,hi=>by cases hi
 |j::is,Rs,h,i,hi=>by
  simp only[vw]at h;split at h<;>simp at h;rename_i x xs h1 h2;rcases cr.1 hi with rfl|hi
  ·exact(a0.1 h1).1
  ·exact Ge h2 i hi
theorem Cw: ∀{is:List Nat} {R R1:List LR} {j:Nat} {r:LR},is.length≤R1.length→(∀i,i∈is→i<R.length)→is.Nodup→(Hj R is R1)[j]?=some r →
  (∃k:Nat,is[k]?=some j∧R1[k]?=some r)∨(j ∉ is∧j<R.length∧R[j]?=some r)∨ ∃k:Nat,j=R.length+k∧R1[is.length+k]?=some r
 |[],R,R1,j,r,_,_,_,h=>by
  have h:(R++R1)[j]?=some r:=by cases R1<;>simpa[Hj]using h
  rcases ct j R.length with hj|hj
  ·rw[cd hj]at h;exact .inr (.inl ⟨by simp,hj,h⟩)
  ·rw[cb hj]at h;exact .inr (.inr ⟨j-R.length,by omega,by simpa using h⟩)
 |i::is,R,[],j,r,hl,_,_,h=>by simp at hl
 |i::is,R,x::R1,j,r,hl,hlt,hnd,h=>by
  simp only[Hj]at h;have hni:=(jj.1 hnd).1;have hil:=hlt i (by simp);rcases Cw (is:=is) (R:=R.set i x) (by simpa using hl) (fun k hk=>by simpa using hlt k (by simp[hk])) (jj.1 hnd).2 h with⟨k,g1,g2⟩|⟨g1,g2,g3⟩|⟨k,g1,g2⟩
  ·exact .inl ⟨k+1,by simpa using g1,by simpa using g2⟩
  ·by_cases hj:j=i
   ·subst hj;rw[cz hil]at g3;exact .inl ⟨0,rfl,by simpa using g3⟩
   ·rw[c6 (dr hj)]at g3;exact .inr (.inl ⟨by simp[hj,g1],by simpa using g2,g3⟩)
  ·refine .inr (.inr ⟨k,by simpa using g1,?_⟩);rw[show(i::is).length+k=(is.length+k)+1 by simp;omega];simpa using g2
theorem HO{is:List Nat}(h:is.Nodup): ∀{j k x:Nat},is[j]?=some x→is[k]?=some x→j=k:=by
 intro j k x h1 h2;obtain⟨a1,b1⟩:=a0.1 h1;obtain⟨a2,b2⟩:=a0.1 h2;rcases Nat.lt_trichotomy j k with g|g|g
 ·exact aG (b1.trans b2.symm) (gM.1 h j k a1 a2 g)
 ·exact g
 ·exact aG (b2.trans b1.symm) (gM.1 h k j a2 a1 g)
theorem aj.ed(hT:bB P T)(is:List Nat){Rs:List LR}(hd:o.dst=some d)(hdn:c5 (d+1) n=true)(hg:o.guard=none)(hx:vj T σ.get o.op=some (f,ds))(hsel:vw R is=some Rs)(hnd:is.Nodup)(hpin:kf p [o]=true)
  (hP:fM P f ds Rs Post) (hlen: ∀res R1,Post res R1→is.length≤R1.length) (h: ∀res R1,Post res R1→aj P B F0 w0 n all rest K p (Hj R is R1) ((d,.d res)::σ)):aj P B F0 w0 n all (o::rest) K p R σ:=by
 intro a w hR hpins Q hQ;unfold wpList;rw[ah (by simp[cS,hg])];refine .inl ?_;obtain⟨O,hOr,hO,hL⟩:=hR.own;obtain⟨dst,op,ty,pos,after,guard⟩:=o;simp only[]at hd hx hg;have hdo: ∀v:Value,a.put dst v=a.put (some d) v:=fun v=>by rw[hd]
 have hpin':=oU hpin;cases op<;>simp only[vj]at hx<;>try (cases hx;done)
 rename_i c;obtain⟨callee,args,ats⟩:=c;simp only[]at hx;split at hx<;>try (cases hx;done)
 rename_i g;split at hx<;>simp at hx;rename_i ds' hds;obtain⟨rfl,rfl⟩:=hx;have hI:Inv P B F0 w0 (fun _=>True) σ.get σ.get a w O:=⟨hR.below,hR.base,hR.f0,hOr,fun t _ av h=>hO t av h,fun t av h _=>hO t av h⟩;have hr:=qa hT hI args.toList ats.toList ds' (fun x hx t ht=>trivial) hds;unfold i4;rw[mT hP.1];show Calls P g (args.map a.eval) w _
 let pass:Nat→Prop:=fun t=> ∃i,i∈is∧t=n+i
 let Oc:Nat→Option Nat:=fun b=>match O b with
  |some t=>if n≤t then is.idxOf? (t-n)else none
  |none=>none
 let Fc:Nat→Prop:=fun b=>FW B F0 w b∧ ∀t,O b=some t→pass t
 have hlt:=Ge hsel;obtain⟨hsl,hsg⟩:=CP hsel
 have hOc: ∀b k,Oc b=some k→ ∃i,is[k]?=some i∧O b=some (n+i):=fun b k h=>by
  simp only[Oc]at h;split at h
  ·rename_i t ht;split at h
   ·rename_i hnt;rw[k',e4]at h;obtain⟨h1,h2,_⟩:=h;refine⟨is[k],az h1,?_⟩;have:is[k]=t-n:=by simpa using h2
    rw[this,ht];congr 1;omega
   ·cases h
  ·cases h
 have hOc': ∀b k i,is[k]?=some i→O b=some (n+i)→Oc b=some k:=fun b k i hk hb=>by
  simp only[Oc,hb];rw[ah (by omega),show n+i-n=i by omega,k',e4];obtain⟨h1,h2⟩:=a0.1 hk;refine⟨h1,by simp[h2],fun j hj=>?_⟩;intro hc;have hc:is[j]=i:=by simpa using hc
  have:=HO hnd (az (by omega:j<is.length)) (by rw[hk,hc]:is[k]?=some is[j]);omega
 have hOcn: ∀b,(∀t,O b=some t→ ¬pass t)→Oc b=none:=fun b hb=>by
  cases h:Oc b with
  |none=>rfl
  |some k =>
   obtain⟨i,h1,h2⟩:=hOc b k h;exact(hb _ h2 ⟨i,d6 h1,rfl⟩).elim
 have hOwn: ∀b,qG Oc b↔ ∃t,O b=some t∧pass t:=fun b=>by
  constructor
  ·intro ⟨k,hk⟩;obtain⟨i,h1,h2⟩:=hOc b k hk;exact⟨_,h2,i,d6 h1,rfl⟩
  ·intro ⟨t,ht,i,hi,hti⟩;obtain⟨k,hk,rfl⟩:=List.getElem_of_mem hi;subst hti;exact⟨k,hOc' b k _ (az hk) ht⟩
 have hFlt: ∀b,FW B F0 w b→b<w.heap.size:=fun b hb=>(FW.step hR.f0 hR.base (ap _) b hb).1;have hfr: ∀c,aQ O (FW B F0 w) c→aQ Oc Fc c:=fun c hc=>⟨hOcn c (fun t ht=>by rw[hc.1]at ht;cases ht),hc.2,fun t ht=>by rw[hc.1]at ht;cases ht⟩
 have hc:=hP.2 w Fc Oc (args.toList.map a.eval) (fun b hb=>hFlt b hb.1) (fun b k hb=>by
   obtain⟨i,h1,h2⟩:=hOc b k hb
   exact⟨(hOr b _ h2).fw hR.f0,fun t ht=>by rw[h2]at ht;cases ht;exact⟨i,d6 h1,rfl⟩⟩) hr.1 (fun i d v h1 h2=>(hr.2 i d v h1 h2).mono hfr (fun _ _=>rfl))
  (fun k r hk=>by
   obtain⟨i,h1,h2⟩:=hsg k r hk
   exact(hL i r h2).owner (fun c hc=>hOc' c k i h1 hc) hfr)
 have he:(args.toList.map a.eval).toArray=args.map a.eval:=by apply eq;simp
 rw[he]at hc;refine hc.mono fun ee w' ⟨v,res,R1,O1,he,hPost,hbel,hOr1,hrd,hL1⟩=>?_;subst he;show wpList P all Q rest (a.put dst v) w';have hsz:w.heap.size≤w'.heap.size:=hbel.size;have hlen1:=hlen res R1 hPost
 let tg:Nat→Nat:=fun k=>match is[k]? with
  |some i=>i
  |none=>R.length+(k-is.length)
 let cv:Option Nat→Option Nat:=fun x=>x.map (fun k=>n+tg k)
 let O3:Nat→Option Nat:=fun b=>match O b with
  |some t=>if t<n∨t-n ∉ is then some t else cv (O1 b)
  |none=>cv (O1 b)
 have hO1: ∀b k,O1 b=some k→O3 b=cv (O1 b):=fun b k hk=>by
  simp only[O3];split
  ·rename_i t ht;rw[af];intro hcon;rcases (hOr1 b k hk).1 with g1|g1
   ·have g1:w.heap.size≤b:=g1;have:=(hOr b t ht).2;omega
   ·obtain⟨t',h1,i,h2,h3⟩:=(hOwn b).1 g1;rw[ht]at h1;cases h1;subst h3;rcases hcon with h|h
    ·omega
    ·exact h (by rwa [show n+i-n=i by omega])
  ·rfl
 have h3n: ∀c,(O c=none∨ ∃t,O c=some t∧pass t)→O1 c=none→O3 c=none:=fun c hc h1=>by
  simp only[O3];split
  ·rename_i t ht;rcases hc with hc|⟨t',h2,i,h3,h4⟩
   ·rw[hc]at ht;cases ht
   ·rw[ht]at h2;cases h2;subst h4;rw[af (fun h=>?_),h1];rfl;rcases h with h|h
    ·omega
    ·exact h (by rwa [show n+i-n=i by omega])
  ·rw[h1];rfl
 have hfree0: ∀c,aQ O (FW B F0 w) c→aQ O3 (FW B F0 w') c∧w'.heap[c]?=w.heap[c]?:=fun c hc=>by
  have hcl:=hFlt c hc.2
  have hnx: ¬qG Oc c:=fun h=>by obtain⟨t,h1,_⟩:=(hOwn c).1 h;rw[hc.1]at h1;cases h1
  refine⟨⟨h3n c (.inl hc.1) ?_,?_⟩,hbel.block c hcl hnx⟩
  ·cases h:O1 c with
   |none=>rfl
   |some k =>
    exfalso;rcases (hOr1 c k h).1 with g1|g1
    ·have g1:w.heap.size≤c:=g1;omega
    ·exact hnx g1
  ·rcases hc.2 with g|⟨g1,g2⟩
   ·exact .inl g
   ·exact .inr ⟨g1,cI g2 hsz⟩
 have hkeep: ∀t,¬pass t→ ∀c,O c=some t→O3 c=some t∧w'.heap[c]?=w.heap[c]?:=fun t ht c hc=>by
  have hnx: ¬qG Oc c:=fun h=>by obtain⟨t',h1,h2⟩:=(hOwn c).1 h;rw[hc]at h1;cases h1;exact ht h2
  refine⟨?_,hbel.block c (hOr c t hc).2 hnx⟩;simp only[O3,hc];rw[ah];rcases ct t n with h|h
  ·exact .inl h
  ·exact .inr (fun hm=>ht ⟨t-n,hm,by omega⟩)
 have hfree1: ∀c,aQ O1 (FW w.heap.size Fc w') c→aQ O3 (FW B F0 w') c:=fun c hc=>by
  rcases hc.2 with g|⟨g1,g2⟩
  ·refine⟨h3n c ?_ hc.1,?_⟩
   ·cases h:O c with
    |none=>exact .inl rfl
    |some t=>exact .inr ⟨t,rfl,g.2 t h⟩
   ·rcases g.1 with g|⟨g1,g2⟩
    ·exact .inl g
    ·exact .inr ⟨g1,cI g2 hsz⟩
  ·refine⟨h3n c (.inl ?_) hc.1,.inr ⟨bi hR.base g1,g2⟩⟩;cases h:O c with
   |none=>rfl
   |some t=>have:=(hOr c t h).2;omega
 have hdn':d<n:=bv hdn
 have hX: ∀b,qG Oc b→B≤b∨w0.X b:=fun b hb=>by obtain⟨t,h1,_⟩:=(hOwn b).1 hb;exact(hOr b t h1).1
 rw[hdo v];refine h res R1 hPost (a.put (some d) v) w' ⟨hR.below.back (w1:=⟨w,qG Oc⟩) hR.base hX hbel,bi hR.base hsz,hR.f0,by simp[Act.put,hR.defers],by simp[Act.put,hR.size],O3,fun b t hb=>?_,fun t av hav=>?_,fun j r hj=>?_⟩ (fun e he=>?_) Q hQ
 ·have e2: ∀k,O1 b=some k→kS B w0 w' b:=fun k hk=>by
   refine⟨?_,(hOr1 b k hk).2⟩;rcases (hOr1 b k hk).1 with g|g
   ·exact .inl (bi hR.base g)
   ·exact hX b g
  have e3:cv (O1 b)=some t→kS B w0 w' b:=fun h=>by
   cases h1:O1 b with
   |none=>rw[h1]at h;cases h
   |some k=>exact e2 k h1
  simp only[O3]at hb;split at hb
  ·rename_i t' ht';split at hb
   ·exact⟨(hOr b t' ht').1,cI (hOr b t' ht').2 hsz⟩
   ·exact e3 hb
  ·exact e3 hb
 ·rw[St.aL]at hav;split at hav
  ·rename_i e;subst e;cases hav;exact⟨v,fu (by rw[hR.size];exact hdn'),hrd.mono hfree1 (fun _ _=>rfl)⟩
  ·rename_i htd;obtain⟨u,hu,hur⟩:=hO t av hav;have htn:t<n:=by rw[←hR.size];exact(a3.1 hu).1
   refine⟨u,by rw[dX (dr htd)];exact hu,?_⟩;refine hur.move hfree0 (fun _ c hc=>hkeep t (fun⟨i,_,hti⟩=>by omega) c hc) fun k hk x hx hg=>?_;rw[St.aL]at hg;split at hg
   ·cases hg;cases hx
   ·rename_i hkd;exact⟨hg,dX (dr hkd)⟩
 ·rcases Cw hlen1 hlt hnd hj with⟨k,g1,g2⟩|⟨g1,g2,g3⟩|⟨k,g1,g2⟩
  ·exact(hL1 k r g2).owner (fun c hc=>by rw[hO1 c k hc,hc];simp only[cv,tg,g1,c1]) hfree1
  ·rcases hL j r g3 with h|⟨h1,h2,h3⟩
   ·exact .inl h
   ·exact .inr ⟨h1,h2,h3.move hfree0 (fun _ c hc=>hkeep (n+j) (fun⟨i,hi,hti⟩=>g1 (by rwa [show j=i by omega])) c hc) (fun k _ x _ hk=>by cases hk)⟩
  ·subst g1;refine(hL1 _ r g2).owner (fun c hc=>?_) hfree1;rw[hO1 c _ hc,hc];have:is[is.length+k]?=none:=cJ (by omega);simp only[cv,tg,this,c1]
   congr 2;omega
 ·have hne:e.1≠d:=fun h=>hpin' e he _ (i0.2 rfl) (by simp only[];rw[h];exact hd);rw[dX hne];exact hpins e he
end
section
variable {all:Array Oper} {ds:List Nat}
def lM(V:Value)(k:Nat):Value:=match V with
 | .slice (some ⟨b,o,x⟩) _ _=>.pointer (some ⟨b,o+k,x⟩)
 |_=>undef
theorem Seen.plain(h:Seen P B F0 w0 V e xs)(k:Nat): ∃b cap,V= .slice (some ⟨b,0,none⟩) xs.length cap∧lM V k= .pointer (some ⟨b,k,none⟩):=by obtain⟨b,cap,cs,rfl,_⟩:=h;exact⟨b,cap,rfl,by simp[lM]⟩
def LS(T:Ty)(lk:Nat→Option AV):Op→Option (Value×Nat×Int)
 | .indexAddr t x i=>match T.get t,dO T (ex T lk 0 x),lr (dO T (ex T lk 0 i))with
   |some ti,some (.v V),some (.int _ iv)=>match dn ti.kind 4,T.get ti.elem with
    |true,some te=>some (V,te.size,iv)
    |_,_=>none
   |_,_,_=>none
 |_=>none
theorem aM.idxs(hT:bB P T){s:Nat}(hS:Seen P B F0 w0 V e xs)(hd:o.dst=some d)(hn:hm d=none)(h:LS T lk o.op=some (V,s,iv))(h0:0≤iv)(hl:iv.toNat<xs.length):aM P B F0 w0 d o lk hm (.d (.v (lM V (iv.toNat*s)))):=by
 refine⟨hd,hn,fun a w O hI K Q hK=>?_⟩;obtain⟨dst,op,ty,pos,after,guard⟩:=o;simp only[]at hd h hI;cases op<;>simp only[LS]at h<;>try (cases h;done)
 rename_i t x i;split at h<;>try (cases h;done)
 rename_i ti V' k iv' hti hx hi;split at h<;>simp at h;rename_i te hk hte;obtain⟨rfl,rfl,rfl⟩:=h;obtain⟨info,dd,z,hok⟩:=hT t ti hti;obtain⟨info',dd',z',hok'⟩:=hT _ te hte;have hxv:=(eO hT hI (fun t ht=>by subst ht;simp[c7]) hx).j5.1;have hiv:=(cZ hT hI (fun t ht=>by subst ht;simp[c7]) hi).1;obtain⟨b,cap,hV,hp⟩:=hS.plain (iv'.toNat*te.size);rw[hV]at hxv;refine bh (v:=lM V' (iv'.toNat*te.size)) (w':=w) ?_<|hK _ w O (dG.refl hI.lt) (.v (by rw[hp];rfl));have h1:0≤iv'∧iv'<(xs.length:Int):=by omega
 rw[hp];simp[execOp,Instr.indexAt,hxv,hiv,asIntOf,run_underlying (hok.kg hk).1,h1,hU,typeInfo,hok'.hinfo,hok'.size,km]
def GD(T:Ty)(lk:Nat→Option AV):Op→Option (TI×Value)
 | .load t x=>match T.get t,dO T (ex T lk 0 x)with
   |some ti,some (.v V)=>some (ti,V)
   |_,_=>none
 |_=>none
theorem aM.bM(hT:bB P T){s:Nat}{y:D}(hS:Seen P B F0 w0 V e xs)(hd:o.dst=some d)(hn:hm d=none)(h:GD T lk o.op=some (ti,lM V (i*s)))(hte:T.get e=some te)(hs:te.size=s)(hy:xs[i]?=some y)(hav:jA ti y.flat=some av):
  aM P B F0 w0 d o lk hm av:=by
 refine⟨hd,hn,fun a w O hI K Q hK=>?_⟩;obtain⟨dst,op,ty,pos,after,guard⟩:=o;simp only[]at hd h hI;cases op<;>simp only[GD]at h<;>try (cases h;done)
 rename_i t x;split at h<;>simp at h;rename_i ti' V' hti hx;obtain⟨rfl,rfl⟩:=h;obtain⟨info,dd,z,hok⟩:=hT t ti' hti;obtain⟨info',dd',z',hok'⟩:=hT _ te hte;have hxv:=(eO hT hI (fun t ht=>by subst ht;simp[c7]) hx).j5.1;obtain⟨b,cap,cs,hV,h1,h2,h3,h4,h5⟩:=hS;have hp:lM V (i*s)= .pointer (some ⟨b,i*s,none⟩):=by rw[hV];simp[lM]
 rw[hp]at hxv;have hb:w.heap[b]?=some (.cells cs e (0,0)):=by rw[hI.below.block b h1 h2];exact h3
 have hsz:P.cellsOf e=s:=by rw[hok'.cellsOf,hs]
 obtain⟨x',v,rfl,hrun,hrd⟩:=lD (F:=aQ O (FW B F0 w)) hok hb (off:=i*s) (fun j z hj=>by
  have hlt:j<P.cellsOf e:=by rw[←h4 y (d6 hy)];exact(a0.1 hj).1
  have:=de j h4 hy hlt;rw[hj]at this;obtain⟨f1,u,f2,f3⟩:=h5 _ z this
  exact⟨f1,u,by rw[←hsz];exact f2,f3 w O hI.below hI.orange⟩) hav
 exact bh (v:=v) (w':=w) (by simp[execOp,kk,gB,hxv,hrun])<|hK _ w O (dG.refl hI.lt) hrd
def LK(T:Ty)(lk:Nat→Option AV):Op→Option Value
 | .call c=>match c.callee with
   | .builtin .len=>match c.args.toList,c.argTypes.toList with
     |[x],[t]=>match T.get t,dO T (ex T lk 0 x)with
      |some i,some (.v V)=>match dn i.kind 4 with
       |true=>some V
       |false=>none
      |_,_=>none
     |_,_=>none
   |_=>none
 |_=>none
theorem aM.lens(hT:bB P T)(hS:Seen P B F0 w0 V e xs)(hd:o.dst=some d)(hn:hm d=none)(h:LK T lk o.op=some V):aM P B F0 w0 d o lk hm (.d (.v (.int .i64 (xs.length:Int)))):=by
 refine⟨hd,hn,fun a w O hI K Q hK=>?_⟩;obtain⟨dst,op,ty,pos,after,guard⟩:=o;simp only[]at hd h hI;cases op<;>simp only[LK]at h<;>try (cases h;done)
 rename_i c;obtain⟨callee,args,ats⟩:=c;simp only[]at h;split at h<;>try (cases h;done)
 split at h<;>try (cases h;done)
 rename_i x t hargs hats;split at h<;>try (cases h;done)
 rename_i i V' hti hx;split at h<;>simp at h;rename_i hk;subst h;obtain⟨info,dd,z,hok⟩:=hT t i hti;have hargs':args= #[x]:=by apply eq;simpa using hargs
 have hats':ats= #[t]:=by apply eq;simpa using hats
 subst hargs';subst hats';have hxv:=(eO hT hI (fun t ht=>by subst ht;simp[c7,g6]) hx).j5.1;obtain⟨b,cap,hV,_⟩:=hS.plain 0;refine bh (v:=.int .i64 (xs.length:Int)) (w':=w) ?_<|hK _ w O (dG.refl hI.lt) (.v rfl)
 have hrun:(jp #[t] ty #[V']).run P w= .ok (.int .i64 (xs.length:Int)) w:=by rw[hV];simp[jp,run_underlying (hok.kg hk).1,goInt]
 simp[execOp,resolve,invoke,builtin,hxv,hrun]
theorem ae.idxs(hT:bB P T){K:St→Prop}{s:Nat}(hS:Seen P B F0 w0 V e xs)(hd:o.dst=some d)(hdn:c5 (d+1) n=true)(hg:aJ all σ o=true)(hx:LS T σ.get o.op=some (V,s,iv))(h0:0≤iv)(hl:iv.toNat<xs.length)
  (h:ae P B F0 w0 n all rest K ((d,.d (.v (lM V (iv.toNat*s))))::σ)):ae P B F0 w0 n all (o::rest) K σ:=ae.pure hg hdn (aM.idxs hT hS hd (bq σ d) hx h0 hl) h
theorem ae.bM(hT:bB P T){K:St→Prop}{s:Nat}{x:D}(y:D)(hS:Seen P B F0 w0 V e xs)(hd:o.dst=some d)(hdn:c5 (d+1) n=true)(hg:aJ all σ o=true)(hx:GD T σ.get o.op=some (ti,lM V (i*s)))(hte:T.get e=some te)(hs:te.size=s)(hy:xs[i]?=some y)(hav:jA ti y.flat=some (.d x))
  (h:ae P B F0 w0 n all rest K ((d,.d x)::σ)):ae P B F0 w0 n all (o::rest) K σ:=ae.pure hg hdn (aM.bM hT hS hd (bq σ d) hx hte hs hy hav) h
theorem ae.lens(hT:bB P T){K:St→Prop}(hS:Seen P B F0 w0 V e xs)(hd:o.dst=some d)(hdn:c5 (d+1) n=true)(hg:aJ all σ o=true)(hx:LK T σ.get o.op=some V)
  (h:ae P B F0 w0 n all rest K ((d,.d (.v (.int .i64 (xs.length:Int))))::σ)):ae P B F0 w0 n all (o::rest) K σ:=ae.pure hg hdn (aM.lens hT hS hd (bq σ d) hx) h
theorem ai.idxs(hT:bB P T){K:St→Prop}{s:Nat}(hS:Seen P B F0 w0 V e xs)(hd:o.dst=some d)(hdn:c5 (d+1) n=true)(hg:aJ ops τ o=true)(hs:σ0.get d=none)(hx:LS T τ.get o.op=some (V,s,iv))(h0:0≤iv)(hl:iv.toNat<xs.length)
  (h:ai P B F0 w0 n ops ds σ0 rest ((d,.d (.v (lM V (iv.toNat*s))))::τ) K):ai P B F0 w0 n ops ds σ0 (o::rest) τ K:=ai.pure hd hdn rfl hg (aM.idxs hT hS hd hs hx h0 hl) h
theorem ai.bM(hT:bB P T){K:St→Prop}{s:Nat}{x:D}(y:D)(hS:Seen P B F0 w0 V e xs)(hd:o.dst=some d)(hdn:c5 (d+1) n=true)(hg:aJ ops τ o=true)(hs:σ0.get d=none)(hx:GD T τ.get o.op=some (ti,lM V (i*s)))(hte:T.get e=some te)(hs2:te.size=s)(hy:xs[i]?=some y)(hav:jA ti y.flat=some (.d x))
  (h:ai P B F0 w0 n ops ds σ0 rest ((d,.d x)::τ) K):ai P B F0 w0 n ops ds σ0 (o::rest) τ K:=ai.pure hd hdn rfl hg (aM.bM hT hS hd hs hx hte hs2 hy hav) h
theorem ai.lens(hT:bB P T){K:St→Prop}(hS:Seen P B F0 w0 V e xs)(hd:o.dst=some d)(hdn:c5 (d+1) n=true)(hg:aJ ops τ o=true)(hs:σ0.get d=none)(hx:LK T τ.get o.op=some V)
  (h:ai P B F0 w0 n ops ds σ0 rest ((d,.d (.v (.int .i64 (xs.length:Int))))::τ) K):ai P B F0 w0 n ops ds σ0 (o::rest) τ K:=ai.pure hd hdn rfl hg (aM.lens hT hS hd hs hx) h
def vn(P:Program)(B:Nat)(F0:Nat→Prop)(w0:dh)(R:List LR):Prop:= ∀(i:Nat) (V:Value) (e:Nat) (xs:List D),R[i]?=some (V,.ow e xs)→xs≠[]→Seen P B F0 w0 V e xs
theorem vn.at{i:Nat}{V:Value}{e:Nat}{xs:List D}(h:vn P B F0 w0 R)(hi:R[i]?=some (V,.ow e xs))(hne:0<xs.length):Seen P B F0 w0 V e xs:=h i V e xs hi (fun e=>by subst e;simp at hne)
theorem aj.Ca(k:Nat)(hp:kf p (l.take k)=true)(h: ∀B1 F1 w1,vn P B1 F1 w1 R→ae P B1 F1 w1 n all (l.take k) (fun σ'=>σ'.gN=true∧aj P B F0 w0 n all (l.drop k) K p R σ') σ):aj P B F0 w0 n all l K p R σ:=by intro a w hR hpin Q hQ;obtain⟨B1,F1,w1,hR1,hS,hback⟩:=hR.K7;rw[←dx k l];refine jP (l.drop k) (l.take k) a w ?_;have h1:=h B1 F1 w1 hS a w hR1 (fun e a' w'=>e= .normal∧ ∃σ',σ'.gN=true∧aj P B F0 w0 n all (l.drop k) K p R σ'∧bT P B F0 w0 n R σ' a' w') (fun a' w' σ' ⟨h1,h2⟩ hR'=>⟨rfl,σ',h1,h2,hback σ' a' w' h1 hR'⟩);refine iz (fun e a' w' ⟨⟨he,σ',_,h2,h3⟩,h4⟩=>?_)<|lO hpin (oU hp) h1;subst he;exact h2 a' w' h3 (h4 rfl) Q hQ
theorem AZ.JW(h: ∀B1 F1 w1,vn P B1 F1 w1 R→AW P B1 F1 w1 n x (fun e σ'=>σ'.gN=true∧Q e R σ') σ):AZ P B F0 w0 n x Q R σ:=by intro a w hR;obtain⟨B1,F1,w1,hR1,hS,hback⟩:=hR.K7;exact wp_mono (h B1 F1 w1 hS a w hR1) fun e a' w' ⟨σ',⟨h1,h2⟩,hR'⟩=>⟨R,σ',h2,hback σ' a' w' h1 hR'⟩
theorem AZ.za(h: ∀B1 F1 w1,vn P B1 F1 w1 R→ae P B1 F1 w1 n ops ops.toList (fun σ'=>σ'.gN=true∧Q .normal R σ') σ):AZ P B F0 w0 n (.region id ops false) Q R σ :=
 AZ.JW fun B1 F1 w1 hS=>AW.region (h B1 F1 w1 hS)
theorem AZ.NT(kt:P.follows .mixedOrders=true)(m:Nat)(hB:yp ops m=true)
  (h: ∀B1 F1 w1,vn P B1 F1 w1 R→ai P B1 F1 w1 n ops (e8 ops m) (σ.less (e8 ops m)) (ops.toList.take m) (σ.less (e8 ops m)) (fun τ=>ae P B1 F1 w1 n ops (ops.toList.drop m) (fun σ'=>σ'.gN=true∧Q .normal R σ') τ)):AZ P B F0 w0 n (.region id ops true) Q R σ :=
 AZ.JW fun B1 F1 w1 hS=>AW.draw kt m hB (h B1 F1 w1 hS)
theorem fL.lG(m:Nat)(hB:yp ops m=true)
  (h: ∀B1 F1 w1,vn P B1 F1 w1 R→ai P B1 F1 w1 n ops (e8 ops m) (σ.less (e8 ops m)) (ops.toList.take m) (σ.less (e8 ops m)) (fun τ=>τ.gN=true∧aj P B F0 w0 n ops (ops.toList.drop m) (Q .normal) [] R τ)):fL P B F0 w0 n ops Q R σ:=by
 intro a w hR;obtain⟨B1,F1,w1,hR1,hS,hback⟩:=hR.K7;exact yQ.J9 m hB (fun τ a' w' ⟨ht,hz⟩ hR'=>hz a' w' (hback τ a' w' ht hR') (fun e he=>by cases he) _ (fun a w R' σ' hk hr=>⟨R',σ',hk,hr⟩)) (h B1 F1 w1 hS) a w hR1
theorem bT.el{a:Act}{w:World}(hR:bT P B F0 w0 n R σ a w)(ht:σ.get t=some (.ow e xs))(hV:a.tmps[t]?=some V)(hu:σ.get u=some (.d (.v (lM V (k*P.cellsOf e)))))(hk:k<xs.length)(htu:t≠u):
  bT P B F0 w0 n R ((u,.el t k 0)::σ) a w:=by
 obtain⟨O,hOr,hO,hL⟩:=hR.own;obtain⟨v,hv,hr⟩:=hO t _ ht;rw[hV]at hv;cases hv;refine⟨hR.below,hR.base,hR.f0,hR.defers,hR.size,O,hOr,fun j av hj=>?_,hL⟩
 have hkeep: ∀j x,x.home=true→St.get ((u,AV.el t k 0)::σ) j=some x→σ.get j=some x∧a.tmps[j]?=a.tmps[j]?:=fun j x hx hj=>by
  rw[St.aL]at hj;split at hj
  ·cases hj;cases hx
  ·exact⟨hj,rfl⟩
 rw[St.aL]at hj;split at hj
 ·rename_i e';subst e';cases hj;obtain⟨v',hv',hr'⟩:=hO u _ hu;refine⟨v',hv',fun x e' l hx hrow=>?_⟩;have hx':=(hkeep t x (dQ (by rw[hrow];rfl)) hx).1;rw[ht]at hx';cases hx';simp only[AV.row,cw,i9]at hrow;obtain⟨rfl,rfl⟩:=hrow;refine⟨hk,?_⟩;rcases hr with⟨_,_,h⟩|⟨b,cap,cs,rfl,_⟩
  ·subst h;simp at hk
  refine⟨b,0,_,cap,hV,?_⟩;have:=(Rd.j5 hr').1;rw[this];simp[lM]
 ·obtain⟨z,hz,hzr⟩:=hO j av hj;exact⟨z,hz,hzr.move (fun c hc=>⟨hc,rfl⟩) (fun _ c hc=>⟨hc,rfl⟩) (fun k _ x hx hk=>hkeep k x hx hk)⟩
theorem aj.el(hT:bB P T)(t u:Nat){s:Nat}(ht:σ.get t=some (.ow e xs))(hp:(t,V)∈p)(hu:σ.get u=some (.d (.v (lM V (k*s)))))(hte:T.get e=some te)(hs:te.size=s)(hk:k<xs.length)(htu:dn t u=false)
  (h:aj P B F0 w0 n all l K p R ((u,.el t k 0)::σ)):aj P B F0 w0 n all l K p R σ:=by
 intro a w hR hpin Q hQ;obtain⟨info,d,z,hok⟩:=hT e te hte;exact h a w (hR.el ht (hpin _ hp) (by rw[hok.cellsOf,hs];exact hu) hk (eu htu)) hpin Q hQ
end
section
variable {E:Array Oper}
variable {Q:Exit→Act→World→Prop}
end
section
variable {K:St→Prop}
namespace D2
variable {lt:List (Nat×Bool)} {m:Nat} {hs ds:List Nat} {tl wl:List (Nat×AV)} (H:D2 P T B F0 w0 n ops lt m hs ds σ0 tl wl)
include H
end D2
end
section
variable {all:Array Oper} 
theorem bT.CE{a:Act}{w:World}(hi:R[i]?=some ri)(hj:R[j]?=some rj)(hR:bT P B F0 w0 n R σ a w):bT P B F0 w0 n ((R.set i rj).set j ri) σ a w:=by
 obtain⟨O,hOr,hO,hL⟩:=hR.own
 have hlt: ∀t av,σ.get t=some av→t<n:=fun t av h=>by obtain⟨v,hv,_⟩:=hO t av h;rw[←hR.size];exact(a3.1 hv).1
 have hF: ∀c,aQ O (FW B F0 w) c→aQ (tJ O (n+i) (n+j)) (FW B F0 w) c:=fun c hc=>⟨fG.2 hc.1,hc.2⟩;refine⟨hR.below,hR.base,hR.f0,hR.defers,hR.size,tJ O (n+i) (n+j),oI hOr,fun t av h=>?_,fun k r hr=>?_⟩
 ·obtain⟨v,hv,hr⟩:=hO t av h;have:=hlt t av h;exact⟨v,hv,hr.move (fun c hc=>⟨hF c hc,rfl⟩) (fun _ c hc=>⟨gD hc (by omega) (by omega),rfl⟩) (fun k _ x _ hk=>⟨hk,rfl⟩)⟩
 ·have hil:=(a0.1 hi).1;have hjl:=(a0.1 hj).1;by_cases hkj:k=j
  ·subst hkj;rw[cz (by simpa using hjl)]at hr;cases hr;exact(hL i _ hi).owner (fun c hc=>by simp[tJ,hc]) hF
  ·rw[c6 (dr hkj)]at hr;by_cases hki:k=i
   ·subst hki;rw[cz hil]at hr;cases hr;exact(hL j _ hj).owner (fun c hc=>by simp only[tJ,hc];rw[af (by simp;omega)];simp) hF
   ·rw[c6 (dr hki)]at hr;exact(hL k _ hr).owner (fun c hc=>gD hc (by omega) (by omega)) hF
theorem AZ.CE(i j:Nat)(hi:R[i]?=some ri)(hj:R[j]?=some rj)(h:AZ P B F0 w0 n x Q ((R.set i rj).set j ri) σ):AZ P B F0 w0 n x Q R σ:=fun a w hR=>h a w (hR.CE hi hj)
theorem AZ.tf(R':List LR)(hd: ∀(i:Nat) (r:LR),R'[i]?=some r→R[i]?=some r∨r.2= .junk)(h:AZ P B F0 w0 n x Q R' σ):AZ P B F0 w0 n x Q R σ:=fun a w hR=>h a w (hR.drop hd)
theorem OB{x y:LR}(hi:R[i]?=some x)(hj:R[j]?=some y):vw R [i,j]=some [x,y]:=by simp[vw,hi,hj]
end
section
variable {all:Array Oper} {ds:List Nat}
end
section
variable {a:Act} {w:World}
abbrev fW:=List (Nat×List D)
def SB(β:fW)(bl:Nat→Nat)(w:World):Prop:= ∀t ds,(t,ds)∈β→ ∀(i:Nat) (u:Value),ds[i]?=some (.v u)→ ∃cs e fz,w.heap[bl t]?=some (.cells cs e fz)∧cs[i]?=some u
def fv(β:fW)(bl:Nat→Nat):mY:=β.map fun x=>(x.1,.pointer (some ⟨bl x.1,0,none⟩))
def m6(σ:St):fW→Prop
 |[]=>True
 |(t,ds)::r=>σ.get t=some (.bx ds)∧m6 σ r
theorem m6.get: ∀{β:fW},m6 σ β→ ∀t ds,(t,ds)∈β→σ.get t=some (.bx ds)
 |[],_,t,ds,h=>by cases h
 |(t',ds')::r,h,t,ds,hm=>by
  rcases cr.1 hm with e|e
  ·cases e;exact h.1
  ·exact m6.get h.2 t ds e
theorem rh{β:fW}{bl:Nat→Nat}(h:lH (fv β bl) a)(hm:(t,ds)∈β):a.tmps[t]?=some (.pointer (some ⟨bl t,0,none⟩)) :=
 h (t,_) (g'.2 ⟨(t,ds),hm,rfl⟩)
theorem KI{β:fW}{bl:Nat→Nat}(hR:bT P B F0 w0 n R σ a w)(hσ:m6 σ β)(hp:lH (fv β bl) a):SB β bl w:=by intro t ds hm i u hu;obtain⟨O,_,hO,_⟩:=hR.own;obtain⟨v,hv,b,cs,e,rfl,_,g2,g3⟩:=hO t _ (hσ.get t ds hm);rw[rh hp hm]at hv;simp only[cw,ga,jg]at hv;obtain⟨rfl,_,_⟩:=hv;obtain⟨_,u',h1,h2⟩:=g3.get hu;rw[(Rd.j5 h2).1]at h1;exact⟨cs,e,_,g2,by simpa using h1⟩
def ZH(P:Program)(B:Nat)(F0:Nat→Prop)(w0:dh)(n:Nat)(ops:Array Oper)(Q:Exit→List LR→St→Prop)(β:fW)(fuel:Nat)(listed:Array Bool)(R:List LR)(σ:St):Prop :=
 m6 σ β∧ ∀(bl:Nat→Nat) (a:Act) (w:World),bT P B F0 w0 n R σ a w→lH (fv β bl) a →
  wpAnyH P .any ops (fun e a' w'=> ∃R' σ',Q e R' σ'∧bT P B F0 w0 n R' σ' a' w') (SB β bl) fuel listed a w
theorem bT.drew(hR:bT P B F0 w0 n R σ a w):bT P B F0 w0 n R σ a {w with drawn:=w.drawn+1}:=by
 obtain⟨O,hOr,hO,hL⟩:=hR.own;refine⟨hR.below.drew,hR.base,hR.f0,hR.defers,hR.size,O,hOr,fun t av h=>?_,fun i r hr=>?_⟩
 ·obtain⟨v,hv,hr⟩:=hO t av h;exact⟨v,hv,hr.move (fun c hc=>⟨hc,rfl⟩) (fun _ c hc=>⟨hc,rfl⟩) (fun k _ x _ hk=>⟨hk,rfl⟩)⟩
 ·rcases hL i r hr with h|⟨g1,g2,g3⟩
  ·exact .inl h
  ·exact .inr ⟨g1,g2,g3.move (fun c hc=>⟨hc,rfl⟩) (fun _ c hc=>⟨hc,rfl⟩) (fun k _ x _ hk=>by cases hk)⟩
theorem ZH.any{β:fW}(h:ZH P B F0 w0 n ops Q β ops.size (c4 ops.size false) R σ):fL P B F0 w0 n ops Q R σ:=by intro a w hR;refine wpAny_of_held _ _ _ _<|h.2 (fun t=>match a.tmps[t]? with|some (.pointer (some ⟨b,_,_⟩))=>b|_=>0) a _ hR.drew fun e he=>?_;obtain⟨⟨t,ds⟩,hm,rfl⟩:=g'.1 he;obtain⟨O,_,hO,_⟩:=hR.own;obtain⟨v,hv,b,cs,e,rfl,_⟩:=hO t _ (h.1.get t ds hm);show a.tmps[t]?=some _;simp only[hv]
theorem wX{β:fW}{bl:Nat→Nat}(hpn:kf (fv β bl) [o]=true)(h:aj P B F0 w0 n ops [o] K [] R σ)(hR:bT P B F0 w0 n R σ a w)(hp:lH (fv β bl) a):
  wpList P ops (fun e a' w'=>(e= .normal∧ ∃R' σ',K R' σ'∧bT P B F0 w0 n R' σ' a' w')∧(e= .normal→lH (fv β bl) a')) [o] a w :=
 lO hp (oU hpn) (h a w hR (fun e he=>by cases he) _ (fun a w R' σ' h1 h2=>⟨rfl,R',σ',h1,h2⟩))
theorem ZH.all{β:fW}(i:Nat)(hr:c0 .any ops listed=[i])(ho:ops[i]?=some o)(hg:o.guard=none)(hpn: ∀bl,kf (fv β bl) [o]=true)(hσ:m6 σ β)
  (h:aj P B F0 w0 n ops [o] (fun R' σ'=>ZH P B F0 w0 n ops Q β fuel (listed.setIfInBounds i true) R' σ') [] R σ):ZH P B F0 w0 n ops Q β (fuel+1) listed R σ:=by
 refine⟨hσ,fun bl a w hR hp=>wpAnyH_all hr (by simp) (fun j hj=>?_)⟩;rw[i0]at hj;subst hj;have h1:=wX (hpn bl) h hR hp;have hw:cS o (yielded ops a.tmps)=true:=by simp[cS,hg]
 unfold wpOp;simp only[ho,hw,if_true];unfold wpList at h1;rw[ah hw]at h1;rcases h1 with h1|⟨_,a1,w1,⟨h2,_⟩,_⟩
 ·refine .inl (pI (fun c a w h=>by cases h.1.1) (fun⟨a,w,h⟩=>by cases h.1.1) (fun v dd w' hn=>?_) h1);unfold wpList at hn;obtain⟨⟨_,R',σ',h2,h3⟩,h4⟩:=hn;exact⟨KI h3 h2.1 (h4 rfl),h2.2 bl _ _ h3 (h4 rfl)⟩
 ·cases h2
theorem ZH.done{β:fW}(hr:c0 .any ops listed=[])(hσ:m6 σ β)(h:Q .normal R σ):ZH P B F0 w0 n ops Q β fuel listed R σ :=
 ⟨hσ,fun bl a w hR hp=>wpAnyH_done hr ⟨R,σ,h,hR⟩ fuel⟩
theorem ZH.to{β:fW}(ks:List Nat)(τ:St)(h:σ.fc ks=τ)(hσ:m6 σ β)(hk:ZH P B F0 w0 n ops Q β fuel listed R τ):ZH P B F0 w0 n ops Q β fuel listed R σ :=
 ⟨hσ,fun bl a w hR hp=>hk.2 bl a w (h▸hR.fc ks) hp⟩
theorem ZH.first{β:fW}(i:Nat)(ho:ops[i]?=some o)(hg:o.guard=none)(hs:ep ops=true)(hf:f4 .any ops listed i=true)(hr:(c0 .any ops listed).contains i=true)
  (hpan: ∀c R σ,Q (.panic c) R σ→False) (hpn: ∀bl,kf (fv β bl) [o]=true) (hσ:m6 σ β)
  (hy: ∀bl a w,bT P B F0 w0 n R σ a w→lH (fv β bl) a→ ∃v,∀w',SB β bl w'→(execOp a.eval o).run P w'= .ok (.value v) w')
  (h:aj P B F0 w0 n ops [o] (fun R' σ'=>ZH P B F0 w0 n ops Q β fuel (listed.setIfInBounds i true) R' σ') [] R σ):ZH P B F0 w0 n ops Q β (fuel+1) listed R σ:=by
 refine⟨hσ,fun bl a w hR hp=>?_⟩;obtain⟨v,hv⟩:=hy bl a w hR hp;have hS:=KI hR hσ hp;have hw:cS o (yielded ops a.tmps)=true:=by simp[cS,hg]
 refine wpAnyH_take ho hs hf hr (fun c a' w' hq=>?_) (.inl ⟨hw,hv⟩) hS ?_
 ·obtain⟨R',σ',hq,_⟩:=hq;exact(hpan c R' σ' hq).elim
 have h1:=wX (hpn bl) h hR hp;unfold wpList at h1;rw[ah hw]at h1;rcases h1 with h1|⟨_,a1,w1,⟨h2,_⟩,_⟩
 ·unfold i4 at h1;rw[hv w hS]at h1;simp only[ja]at h1;unfold wpList at h1;obtain⟨⟨_,R',σ',h2,h3⟩,h4⟩:=h1;exact h2.2 bl _ _ h3<|h4 rfl
 ·cases h2
def xY:Op→Bool
 | .move _=>true
 |_=>false
theorem xO(h:xY o.op=true)(a:Act): ∃v,∀w',(execOp a.eval o).run P w'= .ok (.value v) w':=by
 obtain⟨dst,op,ty,pos,after,guard⟩:=o;simp only[]at h;cases op<;>simp only[xY]at h<;>try (cases h;done)
 rename_i x;exact⟨a.eval x,fun w'=>by simp[execOp]⟩
def OU(T:Ty)(σ:St)(β:fW):Op→Option (TI×Nat×Nat×List D×Value)
 | .load t (.tmp s)=>match T.get t,σ.get s with
   |some i,some (.pt h off)=>match β.find? (fun x=>dn x.1 h)with
    |some (_,ds)=>match ds[off]? with
     |some (.v u)=>some (i,h,off,ds,u)
     |_=>none
    |none=>none
   |_,_=>none
 |_=>none
theorem JB(hT:bB P T){β:fW}{bl:Nat→Nat}{i:TI}{h:Nat}{u:Value}(hR:bT P B F0 w0 n R σ a w)(hσ:m6 σ β)(hp:lH (fv β bl) a)(hx:OU T σ β o.op=some (i,h,off,ds,u))(hl:jA i [.v u]=some (.d (.v u))):
  ∃v,∀w',SB β bl w'→(execOp a.eval o).run P w'= .ok (.value v) w':=by
 obtain⟨dst,op,ty,pos,after,guard⟩:=o;simp only[]at hx;cases op<;>simp only[OU]at hx<;>try (cases hx;done)
 rename_i t x;cases x<;>simp only[OU]at hx<;>try (cases hx;done)
 rename_i s;split at hx<;>try (cases hx;done)
 rename_i i' h' off' hi hs;split at hx<;>try (cases hx;done)
 rename_i t' ds' hfind;split at hx<;>try (cases hx;done)
 rename_i u' hu;simp only[cw,i9]at hx;obtain⟨rfl,rfl,rfl,rfl,rfl⟩:=hx;have hm:=List.mem_of_find?_eq_some hfind;have he:t'=h':=cM (@List.find?_some _ (fun x=>dn x.1 h') (t',ds') β hfind);subst he;obtain⟨info,dd,z,hok⟩:=hT t i' hi;obtain⟨O,hOr,hO,_⟩:=hR.own;obtain⟨v,hv,hr⟩:=hO s _ hs;obtain⟨b,hb,rfl⟩:=hr ds' (hσ.get t' ds' hm);obtain⟨_,_,_,_,_,_,_,_,g3⟩:=hO t' _ (hσ.get t' ds' hm);obtain⟨hc,u2,_,hr2⟩:=g3.get hu;have hpl:=(Rd.j5 hr2).2;have hb:a.tmps[t']?=some (.pointer (some ⟨b,0,none⟩)):=hb;rw[rh hp hm]at hb;simp only[cw,ga,jg]at hb;obtain⟨rfl,_,_⟩:=hb;have hev:a.eval (.tmp s)= .pointer (some ⟨bl t',off',none⟩):=gp hv;refine⟨u',fun w' hS=>?_⟩;obtain⟨cs,e,fz,h1,h2⟩:=hS t' ds' hm off' u' hu
 obtain⟨x,v,hx,hrun,hrd⟩:=lD (w:=w') hok h1 (off:=off') (F:=fun _=>True) (ds:=[.v u']) (fun j z hj=>by
  cases j with
  |zero=>simp at hj;subst hj;exact⟨hc,u',h2,.v hpl⟩
  |succ j=>simp at hj) hl
 cases hx;have:=(Rd.j5 hrd).1;subst this;simp[execOp,kk,gB,hev,hrun]
end
section
variable {all:Array Oper} {a:Act} {w:World} 
end
abbrev ju:Value:=.slice none 0 0
def M0(d:D)(v:Value):Bool:=Py d v||match d,v with
 | .v (.slice none 0 0),.slice none 0 0=>true
 |_,_=>false
def wD:List D→List Value→Bool
 |[],[]=>true
 |d::ds,v::vs=>M0 d v&&wD ds vs
 |_,_=>false
theorem KU{w:World}{d:D}(h:M0 d v=true):d.ba=true∧Rd w F d v:=by
 unfold M0 at h;rw[jr]at h;rcases h with h|h
 ·exact Ib h
 ·split at h<;>try (cases h;done)
  exact⟨rfl,.v rfl⟩
theorem Cs{w:World}{F:Nat→Prop}: ∀{ds:List D} {vs:List Value},wD ds vs=true→nR w F ds vs
 |[],[],_=>⟨rfl,fun i d u h=>by simp at h⟩
 |[],_::_,h=>by simp[wD]at h
 |_::_,[],h=>by simp[wD]at h
 |d::ds,v::vs,h=>by
  simp only[wD,f9]at h;have ih:=Cs (w:=w) (F:=F) h.2;have h1:=KU (w:=w) (F:=F) h.1;refine⟨by simp[ih.1],fun i d' u hd hu=>?_⟩;cases i with
  |zero=>simp at hd hu;subst hd;subst hu;exact h1
  |succ i=>exact ih.2 i d' u (by simpa using hd) (by simpa using hu)
section
variable {all:Array Oper} {a:Act} {w:World} {ds:List Nat}
def NZ(T:Ty)(lk:Nat→Option AV)(zs:List D):Op→Option (Nat×List D)
 | .build t parts=>match T.get t,tS T lk parts.toList with
   |some i,some ps=>match dn i.kind 5 with
    |true=>match At i.fields zs ps with
     |some cs=>some (t,cs)
     |none=>none
    |false=>none
   |_,_=>none
 |_=>none
def El(P:Program)(t:Nat)(zs:List D):Bool:=match P.info? t with
 |some info=>match info.zero with
  |some z=>wD zs z.cells.toList
  |none=>false
 |none=>false
theorem aM.NY(hT:bB P T)(zs:List D)(hd:o.dst=some d)(hn:hm d=none)(hx:NZ T lk zs o.op=some (t,cs))(hz:El P t zs=true):aM P B F0 w0 d o lk hm (.d (.ag cs)):=by
 refine⟨hd,hn,fun a w O hI K Q hK=>?_⟩;obtain⟨dst,op,ty,pos,after,guard⟩:=o;simp only[]at hd hx hI;cases op<;>simp only[NZ]at hx<;>try (cases hx;done)
 rename_i t' parts;split at hx<;>try (cases hx;done)
 rename_i i ps hi hps;split at hx<;>try (cases hx;done)
 rename_i hk;split at hx<;>simp at hx;rename_i cs' hcs;obtain⟨rfl,rfl⟩:=hx;obtain⟨info,dd,z,hok⟩:=hT t' i hi
 have hzs:wD zs z.cells.toList=true:=by unfold El at hz;rw[hok.hinfo]at hz;simp only[hok.zero]at hz;exact hz
 obtain⟨fs,hu,hfs,hall⟩:=hok.JC hk
 have hp:=rk hT hI parts.toList ps (fun p hp t ht=>by
  simp only[c7];have:p.2∈parts.toList.map (·.2):=g'.2 ⟨p,hp,rfl⟩;rw[ht]at this
  simpa using this) hps
 obtain⟨cs2,e1,e2,e3⟩:=uz ps (parts.toList.map fun (i,x)=>(i,a.eval x)) zs z.cells cs' (by simp[hp.1]) hp.2 (Cs hzs) hcs
 have hmap:fs.toList.mapM (fun f=>(P.info? f.type).map fun i=>(f.offset,i.size))=some (i.fields.map fun x=>(x.1,x.2.1)):=by
  rw[←hfs];clear hfs hu hcs e1;generalize fs.toList=l at hall
  induction l with
  |nil=>rfl
  |cons f l ih =>
   obtain⟨⟨j,hj⟩,_,_⟩:=hall f (by simp);simp[j1,hj,ih (fun f hf=>hall f (by simp[hf])),fieldsOf,Program.cellsOf]
 have hb:P.built t' (parts.toList.map fun (i,x)=>(i,a.eval x))=some cs2:=by
  unfold Program.built;simp only[hok.hinfo,hu,hok.zero,hmap];rw[←e1]
  congr 1
  funext k;simp
 have hrun:=run_build w t' (parts.map fun (i,x)=>(i,a.eval x)) cs2 (by simpa using hb);refine bh (v:=.agg cs2) (w':=w) (by simp only[execOp,dl,hrun,cN];rfl)<|hK _ w O (dG.refl hI.lt) ?_
 have:=Rd.ag (w:=w) (F:=aQ O (FW B F0 w)) (l:=cs') (vs:=cs2.toList) e2.1 (fun x hx=>by
  obtain⟨j,hj⟩:=List.mem_iff_getElem?.1 hx
  exact(e2.get hj).1) (fun j x u h1 h2=>(e2.2 j x u h1 h2).2)
 show Rd _ _ _ _;simpa using this
theorem ae.NY(hT:bB P T){K:St→Prop}(zs:List D)(hd:o.dst=some d)(hdn:c5 (d+1) n=true)(hg:aJ all σ o=true)(hx:NZ T σ.get zs o.op=some (t,cs))(hz:El P t zs=true)
  (h:ae P B F0 w0 n all rest K ((d,.d (.ag cs))::σ)):ae P B F0 w0 n all (o::rest) K σ:=ae.pure hg hdn (aM.NY hT zs hd (bq σ d) hx hz) h
theorem bT.BD(e:Nat)(hR:bT P B F0 w0 n R σ a w):bT P B F0 w0 n (R++[(ju,.ow e [])]) σ a w:=by
 obtain⟨O,hOr,hO,hL⟩:=hR.own;refine⟨hR.below,hR.base,hR.f0,hR.defers,hR.size,O,hOr,hO,fun i r hr=>?_⟩;rcases ct i R.length with h|h
 ·rw[cd h]at hr;exact hL i r hr
 ·rw[cb h]at hr
  have:i-R.length=0:=by
   rcases ci (i-R.length)with e|e
   ·exact e
   ·rw[cJ (by simp;omega)]at hr;cases hr
  rw[this]at hr;cases hr;exact .inr ⟨rfl,rfl,.inl ⟨none,rfl,rfl⟩⟩
theorem AZ.BD(e:Nat)(h:AZ P B F0 w0 n x Q (R++[(ju,.ow e [])]) σ):AZ P B F0 w0 n x Q R σ:=fun a w hR=>h a w (hR.BD e)
end
variable {β:fW}
theorem a8(h: ∀B1 F1 w1,ae P B1 F1 w1 n ops [o] (fun σ'=>σ'.gN=true∧K R σ') σ):aj P B F0 w0 n ops [o] K [] R σ :=
 aj.cut 1 rfl (fun B1 F1 w1=>by
  have:=h B1 F1 w1
  refine fun a w hR Q hQ=>this a w hR Q (fun a' w' σ' ⟨h1,h2⟩ hR'=>hQ a' w' σ' ⟨h1,aj.nil h2⟩ hR'))
theorem ZH.mv(i:Nat)(ho:ops[i]?=some o)(hg:o.guard=none)(hs:ep ops=true)(hf:f4 .any ops listed i=true)(hr:(c0 .any ops listed).contains i=true)(hm:xY o.op=true)
  (hpan: ∀c R σ,Q (.panic c) R σ→False) (hpn: ∀bl,kf (fv β bl) [o]=true) (hσ:m6 σ β)
  (h: ∀B1 F1 w1,ae P B1 F1 w1 n ops [o] (fun σ'=>σ'.gN=true∧ZH P B F0 w0 n ops Q β fuel (listed.setIfInBounds i true) R σ') σ):ZH P B F0 w0 n ops Q β (fuel+1) listed R σ :=
 ZH.first i ho hg hs hf hr hpan hpn hσ (fun bl a w _ _=>let ⟨v,h⟩:=xO hm a;⟨v,fun w' _=>h w'⟩) (a8 h)
theorem ZH.fd(hT:bB P T)(i:Nat)(ho:ops[i]?=some o)(hg:o.guard=none)(hs:ep ops=true)(hf:f4 .any ops listed i=true)(hr:(c0 .any ops listed).contains i=true)(hm:JZ T σ o.op=true)
  (hpan: ∀c R σ,Q (.panic c) R σ→False) (hpn: ∀bl,kf (fv β bl) [o]=true) (hσ:m6 σ β)
  (h: ∀B1 F1 w1,ae P B1 F1 w1 n ops [o] (fun σ'=>σ'.gN=true∧ZH P B F0 w0 n ops Q β fuel (listed.setIfInBounds i true) R σ') σ):ZH P B F0 w0 n ops Q β (fuel+1) listed R σ :=
 ZH.first i ho hg hs hf hr hpan hpn hσ (fun bl a w hR _=>let ⟨v,h⟩:=GV hT hR.rel hm;⟨v,fun w' _=>h w'⟩) (a8 h)
theorem ZH.ld(hT:bB P T)(i:Nat){u:Value}(ho:ops[i]?=some o)(hg:o.guard=none)(hs:ep ops=true)(hf:f4 .any ops listed i=true)(hr:(c0 .any ops listed).contains i=true)(hx:OU T σ β o.op=some (ti,t,off,ds,u))(hl:jA ti [.v u]=some (.d (.v u)))
  (hpan: ∀c R σ,Q (.panic c) R σ→False) (hpn: ∀bl,kf (fv β bl) [o]=true) (hσ:m6 σ β)
  (h: ∀B1 F1 w1,ae P B1 F1 w1 n ops [o] (fun σ'=>σ'.gN=true∧ZH P B F0 w0 n ops Q β fuel (listed.setIfInBounds i true) R σ') σ):ZH P B F0 w0 n ops Q β (fuel+1) listed R σ :=
 ZH.first i ho hg hs hf hr hpan hpn hσ (fun bl a w hR hp=>JB hT hR hσ hp hx hl) (a8 h)
section
variable {o1 o2 o3:Oper} 
def KF(P:Program)(B:Nat)(F0:Nat→Prop)(w0:dh)(n:Nat)(ops:Array Oper)(Q:Exit→List LR→St→Prop)(β:fW)(fuel:Nat)(listed:Array Bool)(R:List LR)(σ:St)(i:Nat)(o:Oper):Prop :=
 aj P B F0 w0 n ops [o] (fun R' σ'=>ZH P B F0 w0 n ops Q β fuel (listed.setIfInBounds i true) R' σ') [] R σ
theorem ZH.many(rs:List Nat)(hr:c0 .any ops listed=rs)(hne:rs≠[])(hσ:m6 σ β)
  (h: ∀i∈rs,∃o,ops[i]?=some o∧o.guard=none∧(∀bl,kf (fv β bl) [o]=true)∧KF P B F0 w0 n ops Q β fuel listed R σ i o):ZH P B F0 w0 n ops Q β (fuel+1) listed R σ:=by
 refine⟨hσ,fun bl a w hR hp=>wpAnyH_all hr hne (fun j hj=>?_)⟩;obtain⟨o,ho,hg,hpn,h⟩:=h j hj;have h1:=wX (hpn bl) h hR hp;have hw:cS o (yielded ops a.tmps)=true:=by simp[cS,hg]
 unfold wpOp;simp only[ho,hw,if_true];unfold wpList at h1;rw[ah hw]at h1;rcases h1 with h1|⟨_,a1,w1,⟨h2,_⟩,_⟩
 ·refine .inl (pI (fun c a w h=>by cases h.1.1) (fun⟨a,w,h⟩=>by cases h.1.1) (fun v dd w' hn=>?_) h1);unfold wpList at hn;obtain⟨⟨_,R',σ',h2,h3⟩,h4⟩:=hn;exact⟨KI h3 h2.1 (h4 rfl),h2.2 bl _ _ h3 (h4 rfl)⟩
 ·cases h2
theorem ZH.two(i j:Nat)(hr:c0 .any ops listed=[i,j])(ho1:ops[i]?=some o1)(ho2:ops[j]?=some o2)(hg1:o1.guard=none)(hg2:o2.guard=none)(hp1: ∀bl,kf (fv β bl) [o1]=true)(hp2: ∀bl,kf (fv β bl) [o2]=true)(hσ:m6 σ β)
  (h1:KF P B F0 w0 n ops Q β fuel listed R σ i o1) (h2:KF P B F0 w0 n ops Q β fuel listed R σ j o2):ZH P B F0 w0 n ops Q β (fuel+1) listed R σ :=
 ZH.many [i,j] hr (by simp) hσ (fun k hk=>by
   simp only[cr,List.not_mem_nil,or_false]at hk;rcases hk with rfl|rfl
   ·exact⟨o1,ho1,hg1,hp1,h1⟩
   ·exact⟨o2,ho2,hg2,hp2,h2⟩)
theorem ZH.meet(fuel':Nat)(listed':Array Bool)(Rf:Value→List LR)(σf:Value→St)(h: ∀V,ZH P B F0 w0 n ops Q β fuel' listed' (Rf V) (σf V))
  (hk:(∀V,ZH P B F0 w0 n ops Q β fuel' listed' (Rf V) (σf V))→ZH P B F0 w0 n ops Q β fuel listed R σ):ZH P B F0 w0 n ops Q β fuel listed R σ:=hk h
theorem ZH.ls(l':Array Bool)(h:listed=l')(hk:ZH P B F0 w0 n ops Q β fuel l' R σ):ZH P B F0 w0 n ops Q β fuel listed R σ:=h▸hk
end
end Lift
namespace Lift
open Go
section
variable {P:Program} {B:Nat} {F0:Nat→Prop} {w0:dh} {n:Nat} {σ τ:St} {R:List LR} {ops:Array Oper} {Q:Exit→List LR→St→Prop} {β:fW} {fuel:Nat} {listed l':Array Bool}
def qB(n k:Nat):Array Bool:=⟨(ix n).map (fun i=>Nat.testBit k i)⟩
theorem qL(hk:ZH P B F0 w0 n ops Q β fuel l' R τ)(h:listed=l')(hs:σ.fc (τ.map Prod.fst)=τ)(hσ:m6 σ β):ZH P B F0 w0 n ops Q β fuel listed R σ :=
 ZH.to _ _ hs hσ (ZH.ls _ h hk)
end
end Lift
namespace Lift
open Go
open Go.RowKit (Below)
variable {av:AV}{a':Act}{ops:Array Oper}{x:Code}{res:D}{f:FuncId}{cs l ys:List D}{R:List LR}{rest:List Oper}{B d e h n t:Nat}{F0:Nat→Prop}{o:Oper}{P:Program}{σ σ' τ:St}{K:St→Prop}{T:Ty}{W W':World}{w0:dh}{p:mY}
section
variable {σ0:St} {all:Array Oper} {l:List Oper} {lk hm:Nat→Option AV} {a:Act} {w:World} {K:List LR→St→Prop} {ds:List Nat}
theorem Rel.P9(hR:Rel P B F0 w0 n σ a w)(ht:σ.get t=some (.bx cs)):Rel P B F0 w0 n ((t,.d (.pr cs))::σ.kill t) a w:=by
 obtain⟨O,hOr,hO⟩:=hR.own
 let O':Nat→Option Nat:=fun c=>if O c=some t then none else O c
 have hfree: ∀c,aQ O (FW B F0 w) c→aQ O' (FW B F0 w) c:=fun c hc=>⟨by simp only[O'];rw[hc.1];simp,hc.2⟩;refine⟨hR.below,hR.base,hR.f0,hR.defers,hR.size,O',fun b k hk=>?_,fun k av hk=>?_⟩
 ·simp only[O']at hk;split at hk
  ·cases hk
  ·exact hOr b k hk
 have hget: ∀j x,x.home=true→St.get ((t,AV.d (.pr cs))::σ.kill t) j=some x→σ.get j=some x:=fun j x hx hg=>by
  rw[St.aL]at hg;split at hg
  ·simp at hg;subst hg;simp[AV.home]at hx
  ·rw[St.dA]at hg;cases hsk:σ.get j with
   |none=>simp[hsk]at hg
   |some z =>
    simp only[hsk,c1,cw]at hg;subst hg;rw[ir hx]
 rw[St.aL]at hk;split at hk
 ·rename_i e;subst e;cases hk;obtain⟨v,hv,hr⟩:=hO t _ ht;obtain⟨b,es,e,rfl,h2,h3,h4⟩:=hr;refine⟨_,hv,Rd.OF ⟨by simp only[O',h2];simp,(hOr b t h2).fw hR.f0⟩ h3 (fun i d hd=>?_)⟩;obtain⟨h5,u,hu,h6⟩:=h4.get hd;exact⟨h5,u,by simpa using hu,h6.mono hfree (fun _ _=>rfl)⟩
 ·rename_i hne;rw[St.dA]at hk;cases hs:σ.get k with
  |none=>simp[hs]at hk
  |some y =>
   simp only[hs,c1,cw]at hk;subst hk;obtain⟨u,hu,hur⟩:=hO k y hs;refine⟨u,hu,?_⟩;rcases AV.jW t y with⟨h1,h2⟩|h1
   ·rw[h1];exact hur.move (fun c hc=>⟨hfree c hc,rfl⟩) (fun _ c hc=>⟨by simp only[O',hc];rw[af (by simpa using dr hne)],rfl⟩) fun j hj z hz hg=>⟨hget j z hz hg,rfl⟩
   ·rw[h1];trivial
theorem ae.P8{K:St→Prop}(t:Nat)(ht:σ.get t=some (.bx cs))(h:ae P B F0 w0 n all l K ((t,.d (.pr cs))::σ.kill t)):ae P B F0 w0 n all l K σ:=fun a w hR=>h a w (hR.P9 ht)
def Ks(T:Ty)(lk:Nat→Option AV):Op→Option (FuncId×List D)
 | .call c=>match c.callee with
   | .value (.tmp t)=>match lk t,yK T lk c.args.toList c.argTypes.toList with
     |some (.d (.fn k xs ys)),some ds=>some (k,xs++ds++ys)
     |_,_=>none
   |_=>none
 |_=>none
theorem Fo{a:Act}{w:World}{f:Nat}{xs ys:List Value}{args:Array Operand}{ts:Array TypeId}{ty:TypeId}{pos:String}{after:Array Edge}{guard:Option (Nat×Bool)}{dst:Option Tmp}(hok:uL P f)(ht:a.eval (.tmp t)= .func (.func f) xs.toArray ys.toArray):
  (execOp a.eval {dst:=dst,op:=.call {callee:=.value (.tmp t),args:=args,argTypes:=ts},type:=ty,pos:=pos,after:=after,guard:=guard}).run P w= .ok (.enter f (xs++args.toList.map a.eval++ys).toArray) w:=by
 obtain⟨fn,h1,h2,h3⟩:=hok;have e:xs.toArray++args.map a.eval++ys.toArray=(xs++args.toList.map a.eval++ys).toArray:=by apply eq;simp
 simp only[execOp,resolve,Deferred.ofValue,ht,dl,d9,cN,invoke,callFunc,run_program,h1,h2,h3,Bool.false_eq_true,if_false,e]
theorem Mt{w:World}{F:Nat→Prop}{ds es:List D}{vs us:List Value}(h1:vs.length=ds.length)(h2:us.length=es.length)(r1: ∀(i:Nat) (d:D) (v:Value),ds[i]?=some d→vs[i]?=some v→Rd w F d v)
  (r2: ∀(i:Nat) (d:D) (v:Value),es[i]?=some d→us[i]?=some v→Rd w F d v):(vs++us).length=(ds++es).length∧ ∀(i:Nat) (d:D) (v:Value),(ds++es)[i]?=some d→(vs++us)[i]?=some v→Rd w F d v:=by
 refine⟨by simp[h1,h2],fun i d v hd hv=>?_⟩;rcases ct i ds.length with h|h
 ·rw[cd h]at hd;rw[cd (by omega)]at hv;exact r1 i d v hd hv
 ·rw[cb h]at hd;rw[cb (by omega),h1]at hv;exact r2 _ d v hd hv
theorem aM.Kr(hT:bB P T){ds:List D}(hd:o.dst=some d)(hn:hm d=none)(hx:Ks T lk o.op=some (f,ds))(hP:Pure P f ds res):aM P B F0 w0 d o lk hm (.d res):=by
 refine⟨hd,hn,fun a w O hI K Q hK=>?_⟩;obtain⟨dst,op,ty,pos,after,guard⟩:=o;simp only[]at hd hx hI;cases op<;>simp only[Ks]at hx<;>try (cases hx;done)
 rename_i c;obtain⟨callee,args,ats⟩:=c;simp only[]at hx;split at hx<;>try (cases hx;done)
 rename_i t;split at hx<;>simp at hx;rename_i k xs ys ds' ht hds;obtain⟨rfl,rfl⟩:=hx;rw[←List.append_assoc]at hP;have hr:=qa hT hI args.toList ats.toList ds' (fun x hx t ht=>by subst ht;simp[c7,g6];exact .inr (Array.mem_toList_iff.1 hx)) hds;obtain⟨v,hv,hvr⟩:=hI.rd t (by simp[c7,g6]) _ ht;obtain⟨va,vc,rfl,l1,l2,r1,r2⟩:=Rd.O7 hvr;have hev:=gp hv;have hA:=Mt l1 hr.1 r1 hr.2;have hA2:=Mt hA.1 l2 hA.2 r2;unfold i4;rw[Fo hP.1 hev];show Calls P k (va++args.toList.map a.eval++vc).toArray w _;have hc:=hP.2 w (aQ O (FW B F0 w)) (va++args.toList.map a.eval++vc) (fun b hb=>(FW.step hI.f0 hI.base (ap _) b hb.2).1) hA2.1 hA2.2;refine hc.mono fun e w' ⟨v,he,hb,hv⟩=>?_;subst he;refine hK v w' O ⟨hb,fun _ _=>rfl,fun b t h=>.inl (hI.lt b t h)⟩<|hv.mono (fun b hb'=>?_) fun _ _=>rfl;rcases hb' with h|⟨h1,h2⟩
 ·exact⟨h.1,(FW.step hI.f0 hI.base hb.size b h.2).2⟩
 ·refine⟨?_,.inr ⟨bi hI.base h1,h2⟩⟩;cases ho:O b with
  |none=>rfl
  |some t=>have:=hI.lt b t ho;omega
theorem ae.Kr(hT:bB P T){K:St→Prop}{xs:List D}(hd:o.dst=some d)(hdn:c5 (d+1) n=true)(hg:aJ all σ o=true)(hx:Ks T σ.get o.op=some (f,xs))(hP:Pure P f xs res)
  (h:ae P B F0 w0 n all rest K ((d,.d res)::σ)):ae P B F0 w0 n all (o::rest) K σ:=ae.pure hg hdn (aM.Kr hT hd (bq σ d) hx hP) h
def Gy(T:Ty)(lk hm:Nat→Option AV):Op→Option AV
 | .nilCheck x=>match ex T lk 0 x with
   |some (.d (.pr l))=>some (.d (.pr l))
   |some (.pt h off)=>match hm h with
    |some (.bx _)=>some (.pt h off)
    |_=>none
   |_=>none
 |_=>none
theorem aM.Dw(hT:bB P T)(hd:o.dst=some d)(hn:hm d=none)(hx:Gy T lk hm o.op=some av):aM P B F0 w0 d o lk hm av:=by
 refine⟨hd,hn,fun a w O hI K Q hK=>?_⟩;obtain⟨dst,op,ty,pos,after,guard⟩:=o;simp only[]at hd hx hI;cases op<;>simp only[Gy]at hx<;>try (cases hx;done)
 rename_i x;split at hx<;>try (cases hx;done)
 ·rename_i l he;simp at hx;subst hx;have hr:=(aZ hI (fun t ht=>by subst ht;simp[c7]) he d).1;obtain⟨b,cs,e,fz,hv,_⟩:=Rd.Ja hr
  have hrun:(execOp a.eval {dst:=dst,op:=.nilCheck x,type:=ty,pos:=pos,after:=after,guard:=guard}).run P w= .ok (.value (a.eval x)) w:=by simp only[execOp,hv];rfl
  exact bh hrun<|hK _ w O (dG.refl hI.lt) hr
 ·rename_i h off he;split at hx<;>try (cases hx;done)
  rename_i cs hcs;simp at hx;subst hx;have hr:=(aZ hI (fun t ht=>by subst ht;simp[c7]) he d).1;obtain⟨b,hb,hv⟩:=hr cs hcs
  have hrun:(execOp a.eval {dst:=dst,op:=.nilCheck x,type:=ty,pos:=pos,after:=after,guard:=guard}).run P w= .ok (.value (a.eval x)) w:=by simp only[execOp,hv];rfl
  exact bh hrun<|hK _ w O (dG.refl hI.lt) hr
theorem ae.Dw(hT:bB P T){K:St→Prop}(hd:o.dst=some d)(hdn:c5 (d+1) n=true)(hg:aJ all σ o=true)(hh:av.home=false)(hx:Gy T σ.get (kt σ d) o.op=some av)
  (h:ae P B F0 w0 n all rest K ((d,av)::σ)):ae P B F0 w0 n all (o::rest) K σ:=ae.pure hg hdn (aM.Dw hT hd (bq σ d) hx) (by rw[St.put,hh];exact h)
theorem ai.Dw(hT:bB P T){K:St→Prop}{l:List D}(hd:o.dst=some d)(hdn:c5 (d+1) n=true)(hg:aJ ops τ o=true)(hs:σ0.get d=none)(hx:Gy T τ.get σ0.get o.op=some (.d (.pr l)))
  (h:ai P B F0 w0 n ops ds σ0 rest ((d,.d (.pr l))::τ) K):ai P B F0 w0 n ops ds σ0 (o::rest) τ K:=ai.pure hd hdn rfl hg (aM.Dw hT hd hs hx) h
end
section
variable {r:Nat} {pn:mY} {y:Code} {Q:Exit→List LR→St→Prop}
end
section
variable {R':List LR} {all:Array Oper} {l:List Oper} {K:List LR→St→Prop} 
end
section
variable {G:Nat→Prop} {l:Nat} {x:Option D} {ys:List Nat} {a:Act} 
variable {β:Type} {JJ:β→World→Prop} {os:List Oper} {Q:Exit→β→Option D→St→Prop} {s s1 s2:β} {c c2:Code} 
end
section
variable {a:Act} 
end
section
variable {all:Array Oper} 
theorem Hz(w:World)(dT sT ty elem:TypeId)(g o dLen dCap:Nat)(a:Addr)(sLen sCap:Nat)(cur:Array Value)(t:TypeId)(cs:List Value)(i:TypeInfo)
  (hu:P.underlying dT=some (.slice elem)) (hi:P.info? elem=some i)
  (hg:w.heap[g]?=some (.cells cur t (0,0))) (hn:cs.length=hH sLen dLen*i.size)
  (hsrc: ∀j v,cs[j]?=some v→w.cell? (a.add j)=some v) (hfit:o+cs.length≤cur.size) (h1: ∀v∈cs,v.oneCell'=true):
  (eN #[dT,sT] ty #[.slice (some ⟨g,o,none⟩) dLen dCap,.slice (some a) sLen sCap]).run P w =
   .ok (goInt (hH sLen dLen)) (w.setRow g (cur.toList.take o++cs++cur.toList.drop (o+cs.length)).toArray):=by
 have hl:=run_firstCells_some (P:=P) w i.size (hH sLen dLen) a sLen sCap cs hn hsrc;have hst:=run_storeCells_at P g o t cs 0 cur w hg (by simpa using hfit) h1;simp[eN,run_underlying hu,jb,hU,typeInfo,hi,hl,hst]
theorem EK(w:World)(dT sT ty elem:TypeId)(x a:Option Addr)(dLen dCap sLen sCap:Nat)(i:TypeInfo)(hu:P.underlying dT=some (.slice elem))(hi:P.info? elem=some i)(hn:hH sLen dLen=0):
  (eN #[dT,sT] ty #[.slice x dLen dCap,.slice a sLen sCap]).run P w= .ok (goInt 0) w:=by
 have hl: ∀(x:Addr),(loadCells x 0).run P w= .ok #[] w:=fun x=>by simpa using run_loadCells_list (P:=P) w x [] (by simp)
 cases x<;>cases a<;>simp[eN,run_underlying hu,jb,Builtin.firstCells,hU,typeInfo,hi,hn,storeCells,hl]
def PJ(T:Ty)(σ:St):Op→Option (Nat×Nat×List D×List D)
 | .call c=>match c.callee with
   | .builtin .copy=>match c.args.toList,c.argTypes.toList with
     |[x,y],[t,u]=>match T.get t,ex T σ.get t x,ex T σ.get u y with
      |some ti,some (.al h),some (.d (.sl s ys))=>match σ.get h with
       |some (.ow e l)=>match dn ti.kind 4,dn e ti.elem,T.get ti.elem with
        |true,true,some te=>match dn te.size s with
         |true=>some (h,e,l,ys)
         |_=>none
        |_,_,_=>none
       |_=>none
      |_,_,_=>none
     |_,_=>none
   |_=>none
 |_=>none
theorem eS.Ke(hT:bB P T)(hd:o.dst=some d)(hdn:d<n)(hx:PJ T σ o.op=some (h,e,l,ys)):
  eS P B F0 w0 n o σ ((d,.d (.v (.int .i64 ((min ys.length l.length:Nat):Int))))::(h,.ow e (ys.take (min ys.length l.length)++l.drop (min ys.length l.length)))::σ):=by
 intro a w hR K Q hK;obtain⟨O,hOr,hO⟩:=hR.own;have hI:Inv P B F0 w0 (fun _=>True) σ.get σ.get a w O:=⟨hR.below,hR.base,hR.f0,hOr,fun t _ av h=>hO t av h,fun t av h _=>hO t av h⟩;obtain⟨dst,op,ty,pos,after,guard⟩:=o;simp only[]at hd hx;subst hd;cases op<;>simp only[PJ]at hx<;>try (cases hx;done)
 rename_i c;obtain⟨callee,args,ats⟩:=c;simp only[]at hx;split at hx<;>try (cases hx;done)
 split at hx<;>try (cases hx;done)
 rename_i x y t u hxy htu;split at hx<;>try (cases hx;done)
 rename_i ti h' s ys' hti hxe hye;split at hx<;>try (cases hx;done)
 rename_i e' l' hav;split at hx<;>try (cases hx;done)
 rename_i te hk hee hte;split at hx<;>simp at hx;rename_i hts;obtain⟨rfl,rfl,rfl,rfl⟩:=hx;have hee:=cM hee;subst hee;have hts:=cM hts;subst hts;have hargs:args= #[x,y]:=by apply eq;simpa using hxy
 have hats:ats= #[t,u]:=by apply eq;simpa using htu
 subst hargs;subst hats;obtain⟨info,dd,z,hok⟩:=hT t ti hti;obtain⟨info',dd',z',hok'⟩:=hT _ te hte;have hun:=(hok.kg hk).1;have hsz:info'.size=te.size:=hok'.size;have hcel:P.cellsOf ti.elem=te.size:=hok'.cellsOf;have hw:my σ.get (ex T σ.get t x)=some (h',ti.elem,l',0,l'.length):=by rw[hxe];simp only[my,hav]
 have hys:y6 T σ.get (ex T σ.get u y)=some (te.size,ys'):=by rw[hye];rfl
 rw[hxe]at hw;rw[hye]at hys;obtain⟨zz,hz,hrow,hlm,cap,hcap,hmax,hv⟩:=iC hI (aZ hI (fun _ _=>trivial) hxe 0).1 hw;rw[hav]at hz;simp at hz;subst hz;obtain⟨ad,cap',hyv,kt,hall⟩:=mC hT hI (aZ hI (fun _ _=>trivial) hye 0).1 hys;obtain⟨k,hkk⟩: ∃k,k=min ys'.length l'.length:=⟨_,rfl⟩;rw[←hkk]at hK;rcases ci k with hk0|hk0
 ·
  have hval: ∃ax lc cx,a.eval x= .slice ax lc cx∧lc=l'.length:=by
   rcases hv with⟨hl0,_,_,base,hev⟩|⟨b,o1,len,cap1,cs,off,hq,htm,hev,h0',hOb,hb,hu,hcells⟩
   ·exact⟨base,0,_,hev,hl0.symm⟩
   ·exact⟨_,_,_,hev,rfl⟩
  obtain⟨ax,lc,cx,hev,hlc⟩:=hval;have hrun:=EK (P:=P) w t u ty ti.elem ax ad lc cx ys'.length cap' info' hun hok'.hinfo (by rw[hlc];show min _ _=0;omega)
  have hex:(execOp a.eval {dst:=some d,op:=.call {callee:=.builtin .copy,args:= #[x,y],argTypes:= #[t,u]},type:=ty,pos:=pos,after:=after,guard:=guard}).run P w= .ok (.value (goInt 0)) w:=by simp[execOp,resolve,invoke,builtin,hev,hyv,hrun]
  refine bh hex ?_
  have hsame: ∀k2,St.get ((h',AV.ow ti.elem l')::σ) k2=σ.get k2:=fun k2=>by
   rw[St.aL];split
   ·rename_i e1;subst e1;exact hav.symm
   ·rfl
  have hR1:Rel P B F0 w0 n ((h',.ow ti.elem l')::σ) a w:=⟨hR.below,hR.base,hR.f0,hR.defers,hR.size,O,hOr,fun t av h=>by
   rw[hsame]at h;obtain⟨v,h1,h2⟩:=hO t av h;refine⟨v,h1,?_⟩;have:St.get ((h',AV.ow ti.elem l')::σ)=σ.get:=funext hsame
   rw[this];exact h2⟩
  subst hk0;rw[jt,ea,jk]at hK;obtain⟨O2,hOr2,hO2⟩:=hR1.own;exact hK _ _ (hR1.put (d:=d) (av:=.d (.v (.int .i64 ((0:Nat):Int)))) (v:=goInt 0) hOr2 hO2 hdn (dG.refl (fun b t hb=>(hOr2 b t hb).2)) (.v rfl))
 rcases hv with⟨hl0,_⟩|⟨b,o1,len,cap1,cs,off,hq,htm,hev,h0',hOb,hb,hu,hcells⟩
 ·omega
 rw[hcel]at h0' hu;have hoff:off=0:=by have:=h0'.1;omega
 subst hoff;rcases hall with h|⟨sa,news,rfl,g1,g2,g3,g4⟩
 ·subst h;simp at hkk;omega
 rw[aR g2]at g1;obtain⟨s,hs⟩: ∃s,s=te.size:=⟨_,rfl⟩;rw[←hs]at g1 g2 hu hcel hsz;have hlfl:=aR hu
 have hcsl:l'.length*s≤cs.size:=by
  rcases ci (l'.length*s)with h0|h0
  ·omega
  ·obtain⟨_,u,f2,_⟩:=hcells (l'.length*s-1) _ (az (by omega));have:=(a3.1 f2).1;omega
 have hkl:k*s≤l'.length*s:=it s (by omega);have hky:k*s≤ys'.length*s:=it s (by omega);have hnk:(news.take (k*s)).length=k*s:=by rw[bn];omega
 have hrun:=Hz (P:=P) w t u ty ti.elem b 0 l'.length cap sa ys'.length cap' cs ti.elem (news.take (k*s)) info' hun hok'.hinfo hb
  (by rw[hnk,hsz,hkk]) (fun j v hj=>by
   rw[i1]at hj;split at hj
   ·exact g3 j v hj
   ·cases hj) (by rw[hnk];omega) (fun v hv=>g4.yC v (d5 hv))
 rw[hnk,kw,jt,jk]at hrun;obtain⟨cs',hcs'⟩: ∃cs',cs'=(news.take (k*s)++cs.toList.drop (k*s)).toArray:=⟨_,rfl⟩;rw[←hcs',show hH ys'.length l'.length=k from hkk.symm]at hrun
 have hss:cs'.size=cs.size:=by rw[hcs'];simp only[List.size_toArray,di,hnk,dz,Array.length_toList];omega
 have hex:(execOp a.eval {dst:=some d,op:=.call {callee:=.builtin .copy,args:= #[x,y],argTypes:= #[t,u]},type:=ty,pos:=pos,after:=after,guard:=guard}).run P w= .ok (.value (goInt k)) (w.setRow b cs'):=by simp[execOp,resolve,invoke,builtin,hev,hyv,hrun]
 refine bh hex ?_
 have hR1:Rel P B F0 w0 n ((h',.ow ti.elem (ys'.take k++l'.drop k))::σ) a (w.setRow b cs'):=by
  refine Rel.write hb hss hR hOr hO hav hOb (.inr ⟨_,_,_,hrow,(eI hrow).1,by simp only[di,bn,dz];omega,(eI hrow).2.2.symm⟩) (fun v hv hr=>?_) (eI hrow).2.1;rw[htm]at hv;simp at hv;subst hv;refine pQ hr hrow hb (setRow_heap w b cs _ ti.elem _ hb) hss (by simp only[di,bn,dz];omega) (fun h0=>by subst h0;simp at hkk;omega) (fun x hx=>?_) fun j dd hj=>?_
  ·rw[hcel];rcases List.mem_append.1 hx with hx|hx
   ·exact g2 x (d5 hx)
   ·exact hu x (List.mem_of_mem_drop hx)
  ·have hB: ∀c,aQ O (FW B F0 w) c→(w.setRow b cs').heap[c]?=w.heap[c]?:=fun c hc=>setRow_other w b c _ (fun e=>by rw[e,aQ,hOb]at hc;cases hc.1);have f2:=aR (s:=s) (l:=ys'.take k) (fun x hx=>g2 x (d5 hx));have e2:flatAll ys'=flatAll (ys'.take k)++flatAll (ys'.drop k):=by rw[←cD,dx]
   have e3:flatAll l'=flatAll (l'.take k)++flatAll (l'.drop k):=by rw[←cD,dx]
   have f3:=aR (s:=s) (l:=l'.take k) (fun x hx=>hu x (d5 hx));rw[bn,show min k ys'.length=k by omega]at f2;rw[bn,show min k l'.length=k by omega]at f3;rw[cD]at hj;have hcg:cs'[j]?=(news.take (k*s)++cs.toList.drop (k*s))[j]?:=by rw[hcs',List.getElem?_toArray]
   rw[hcg];rw[ie]at hj;split at hj
   ·rename_i hj2;have h1:(flatAll ys')[j]?=some dd:=by rw[e2,cd (by omega)];exact hj
    obtain⟨q1,v,q2,q3⟩:=g4.get h1;exact⟨q1,v,by rw[cd (by omega),g5 (by omega)];exact q2,q3.mono (fun _ h=>by simpa[aQ,FW]using h) hB⟩
   ·rename_i hj1
    have h1:(flatAll l')[j]?=some dd:=by
     rw[e3,cb (by omega),←hj]
     congr 1
     omega
    obtain⟨q1,v,q2,q3⟩:=hcells j dd h1
    exact⟨q1,v,by
     rw[cb (by omega),i2];rw[←q2];simp
     congr 1
     omega,q3.mono (fun _ h=>by simpa[aQ,FW]using h) hB⟩
 obtain⟨O2,hOr2,hO2⟩:=hR1.own;exact hK _ _ (hR1.put (d:=d) (av:=.d (.v (.int .i64 (k:Int)))) (v:=goInt k) hOr2 hO2 hdn (dG.refl (fun b t hb=>(hOr2 b t hb).2)) (.v rfl))
theorem ae.Ke(hT:bB P T)(hd:o.dst=some d)(hdn:c5 (d+1) n=true)(hg:aJ all σ o=true)(hx:PJ T σ o.op=some (h,e,l,ys))
  (hk:ae P B F0 w0 n all rest K ((d,.d (.v (.int .i64 ((min ys.length l.length:Nat):Int))))::(h,.ow e (ys.take (min ys.length l.length)++l.drop (min ys.length l.length)))::σ)):ae P B F0 w0 n all (o::rest) K σ :=
 ae.op hg (eS.Ke hT hd (bv hdn) hx) hk
end
end Lift
namespace Lift
def nz(x:Rat):Bool:=decide (x≠0)
end Lift
namespace Lift
open Go Go.Proofs
variable {rt:List NQ}{rest:List Oper}{b:NQ}{R:NQ→NQ→NQ}{O:NQ→NQ→Prop}{B d e i k l n:Nat}{F0:Nat→Prop}{o:Oper}{lo:Option Int}{P:Program}{σ τ:St}{K:St→Prop}{T:Ty}{w0:dh}
structure TD where
 t:RD
 h:Bool
def TQ:Option Rat→TD
 |none=>⟨Qr 0,true⟩
 |some q=>⟨Qr q,false⟩
theorem fU:LQ 1≤1:=by have h:=MY 1;rw[yN,show((1:Int):Rat)=1 from rfl]at h;omega
structure PD where
 x:RD
 y:RD
structure PoD where
 t:TD
 l:PD
abbrev VQ(v:V2):PD:=⟨Qr v.1,Qr v.2⟩
abbrev PoQ(p:Option Rat×V2):PoD:=⟨TQ p.1,VQ p.2⟩
structure DyD where
 c:PD
 m:PD
 r:RD
abbrev DyQ(d:V2×V2×Rat):DyD:=⟨VQ d.1,VQ d.2.1,Qr d.2.2⟩
instance:Inhabited PoD:=⟨PoQ (none,(0,0))⟩
theorem N7{l:List RD}(hi:i<l.length)(h:(l.getD i default).okB=false):l.all RD.okB=false:=by rw[i6];exact⟨l.getD i default,by rw[ab,az hi];exact f8 hi,by rw[h];simp⟩
theorem Mf{l:List RD}(h: ∀i,i<l.length→(l.getD i default).okB=true):l.all RD.okB=true:=by rw[eo];intro x hx;obtain⟨i,hi,rfl⟩:=hW.1 hx;have:=h i hi;rw[ab,az hi]at this;exact this
theorem wW{α:Type}(l:List α)(d:α)(h:i<l.length):l.take (i+1)=l.take i++[l.getD i d]:=by rw[List.take_add_one,ab,az h];rfl
instance:Inhabited DyD:=⟨DyQ ((0,0),(0,0),0)⟩
abbrev Dy:=V2×V2×Rat
theorem AU(q:Rat):ky q.num=j7 q:=by
 unfold ky j7;have h0:q.num=0↔q=0:=go
 have h1:q.num<0↔q<0:=by have e1:= @Rat.num_nonneg q;have e2:= @Rat.not_le 0 q;rw[←e2,←e1];omega
 by_cases hz:q=0
 ·subst hz;rfl
 ·rw[af hz];by_cases hl:q<0
  ·rw[ah hl,ah (h1.2 hl)]
  ·rw[af hl,af (fun h=>hl (h1.1 h)),af (fun h=>hz (h0.1 h))]
abbrev ak(a:NQ):D:=.sl 3 (fX a)
abbrev fm(rt:List NQ):D:=.ag [.sl 1 (rt.map ak)]
theorem CM(hk:k≤43):e6.wrap ((1:Int)*2^(min k e6.bits))=((2^k:Nat):Int):=by have hb:e6.bits=64:=rfl;have h:2^k≤2^43:=ch (by decide) hk;rw[hb,eA (by omega),show(1:Int)*2^k=((2^k:Nat):Int) by push_cast;omega];generalize 2^k=m at h;rw[aD (by omega) (by omega)]
theorem oE(xs:List D)(r:Int)(hx:xs.length≤4398046511104)(hr: ∀k:Nat,k≤43→xs.length≤2^k→(∀j,j<k→2^j<xs.length)→r=if 2^k=xs.length then (k:Int) else -1):Pure Tryz.prog 81 [.sl 3 xs] (dI r):=by
 refine qJ 17 Tryz.func81 rfl fun B F0 w0=>?_;refine qX 1 rfl<|qK 1 rfl<|qI<|AW.block ?_;refine AW.aK [0,3] (fun k:Nat=>[(0,.d (.sl 3 xs)),(3,.d (dI k))]) (fun k=>k≤43∧ ∀j,j<k→2^j<xs.length) (fun k=>43-k) 0 rfl ⟨a4 _,fun j h=>by omega⟩ fun k hi=>?_
 ·obtain⟨hk,hi⟩:=hi;show AW _ _ _ _ _ _ _ [(0,.d (.sl 3 xs)),(3,.d (dI k))];have hp:2^k≤2^43:=ch (by decide) hk;refine AW.seq<|qX 2 rfl ?_;rw[CM hk];refine qU 3 rfl<|ae.nil<|AW.cond rfl (fun h=>?_) fun h=>?_
  ·have h:2^k<xs.length:=by have:=ao h;omega
   have hk4:k≠43:=fun e=>by subst e;omega
   refine AW.skip<|AW.block<|qT 2 rfl ?_;rw[aD (x:=(k:Int)+1) (by omega) (by omega)];refine qU 1 rfl<|ae.nil ?_
   exact⟨k+1,rfl,⟨by omega,fun j hj=>by
    by_cases e:j=k
    ·rw[e];exact h
    ·exact hi j (by omega)⟩,by omega⟩
  have h: ¬2^k<xs.length:=by have:=ar h;omega
  rw[hr k hk (by omega) hi];refine AW.exit<|AW.seq<|qX 2 rfl ?_;rw[CM hk];refine qU 3 rfl<|ae.nil ?_;by_cases e:2^k=xs.length
  ·rw[ah e,e,bne_eq_false_iff_eq.2 rfl];exact AW.aC rfl<|AW.skip<|qX 2 rfl<|qN rfl
  rw[af e,bne_iff_ne.2 (fun h=>e (by omega))];exact AW.aH rfl<|qX 1 rfl<|qN rfl
theorem iZ{j:Nat}(h:2^i≤2^j):i≤j:=(c' (a:=2) (by decide)).1 h
theorem fD(xs:List D)(h:xs.length=2^i)(hi:i≤42):Pure Tryz.prog 81 [.sl 3 xs] (dI i):=by
 have hp:2^i≤2^42:=ch (by decide) hi;refine oE xs i (by omega) fun k hk h1 h2=>?_;rw[h]at h1;have h1:=iZ h1;by_cases e:i<k
 ·have:=h2 i e;omega
 ·have e:i=k:=by omega
  rw[ah (by rw[h,e]),e]
theorem nT(xs:List D)(h: ∀i,xs.length≠2^i)(hx:xs.length≤4398046511104):Pure Tryz.prog 81 [.sl 3 xs] (dI (-1)):=by refine oE xs (-1) hx (fun k hk h1 h2=>?_);rw[af (fun e=>h k e.symm)]
theorem wF{a:NQ}(hi:i<a.length)(h:a.getD i 0≠0):bH a=false:=by unfold bH;rw[i6];exact⟨a.getD i 0,by rw[ab,az hi];exact f8 hi,by rw[a5 h];simp⟩
theorem tF{a:NQ}(h: ∀i,i<a.length→a.getD i 0=0):bH a=true:=by unfold bH;rw[eo];intro x hx;obtain⟨i,hi,rfl⟩:=hW.1 hx;have:=h i hi;rw[ab,az hi]at this;exact aN this
theorem qm(a:NQ)(hs:au k a)(hk:k≤17300000000000)(hl:a.length≤1000000):Pure Tryz.prog 170 [ak a] (dB (bH a)):=by
 refine qJ 15 Tryz.func170 rfl fun B F0 w0=>?_;have hno:=fun i hi=>wF (a:=a) (i:=i) hi;have hyes:=tF (a:=a);generalize bH a=E at hno hyes ⊢;refine qX 1 rfl<|qI<|qX 2 rfl ?_;rw[am];refine qU 1 rfl<|ae.nil<|AW.block ?_;refine AW.aK [5,6,7] (fun i:Nat=>[(5,.d (ak a)),(6,.d (dI a.length)),(7,.d (dI i))]) (fun i=> ∀j,j<i→j<a.length→a.getD j 0=0) (fun i=>a.length-i) 0 rfl (fun j h=>by omega) fun i hi=>?_
 ·show AW _ _ _ _ _ _ _ [(5,.d (ak a)),(6,.d (dI a.length)),(7,.d (dI i))];refine qX 1 rfl<|qI<|AW.cond rfl (fun h=>?_) fun h=>?_
  ·have hii:i<a.length:=by have:=ao h;omega
   have g:=nK hii;have cs:=mR (Qr (a.getD i 0)) (gz _ (hs i)) hk;have hn:=hno i hii;rw[b5]at cs;have s0:=PQ (q:=a.getD i 0);generalize hq:a.getD i 0=q at g cs hn s0;generalize ky q.num=s at cs s0;refine AW.skip<|AW.seq<|AW.block<|AW.seq<|AW.region<|ae.idx tok (Qr q).D rfl rfl rfl rfl (aa i) g ?_;refine qU 3 rfl<|qK 1 rfl<|qM rfl cs<|qU 1 rfl<|ae.nil<|AW.cond rfl (fun h=>?_) fun h=>?_
   ·have h:s≠0:=bne_iff_ne.1 h;rw[hn (fun e=>h (s0.2 e))];exact qX 1 rfl<|qN rfl
   ·have h:s=0:=bne_eq_false_iff_eq.1 h;refine AW.skip<|qT 1 rfl ?_;rw[aD (x:=(i:Int)+1) (by omega) (by omega)];refine qU 1 rfl<|ae.nil ?_;refine⟨i+1,rfl,fun j h1 h2=>?_,by omega⟩;by_cases e:j=i
    ·rw[e,hq];exact s0.1 h
    ·exact hi j (by omega) h2
  have hii: ¬i<a.length:=by have:=ar h;omega
  rw[hyes (fun j h=>hi j (by omega) h)];exact AW.exit<|qX 1 rfl<|qN rfl
theorem KL(q:Rat):((Qr q).g=false∧(Qr q).n.length=0∧(Qr q).d.length=0)↔q=0:=by
 constructor
 ·rintro⟨_,h,_⟩
  have:=RD.pH (r:=Qr q) (cC.1 h);rw[b5]at this;exact this
 ·intro e;subst e;rw[gL];exact⟨rfl,rfl,rfl⟩
theorem oF(a:NQ)(hl:a.length≤1000000):Pure Tryz.prog 83 [ak a] (dB (bH a)):=by
 refine qJ 26 Tryz.func83 rfl fun B F0 w0=>?_;have hno:=fun i hi=>wF (a:=a) (i:=i) hi;have hyes:=tF (a:=a);generalize bH a=E at hno hyes ⊢;refine qX 1 rfl<|qI<|qX 2 rfl ?_;rw[am];refine qU 1 rfl<|ae.nil<|AW.block ?_;refine AW.aK [5,6,7] (fun i:Nat=>[(5,.d (ak a)),(6,.d (dI a.length)),(7,.d (dI i))]) (fun i=> ∀j,j<i→j<a.length→a.getD j 0=0) (fun i=>a.length-i) 0 rfl (fun j h=>by omega) fun i hi=>?_
 ·show AW _ _ _ _ _ _ _ [(5,.d (ak a)),(6,.d (dI a.length)),(7,.d (dI i))];refine qX 1 rfl<|qI<|AW.cond rfl (fun h=>?_) fun h=>?_
  ·have hii:i<a.length:=by have:=ao h;omega
   have g:=nK hii;have hn:=hno i hii;have s0:=KL (a.getD i 0);generalize hq:a.getD i 0=q at g hn s0;generalize Qr q=y at g s0;obtain⟨yg,yn,yd⟩:=y;simp only[]at s0;refine AW.skip<|AW.seq<|AW.block<|AW.seq<|AW.region<|ae.idx tok (RD.mk yg yn yd).D rfl rfl rfl rfl (aa i) g ?_;refine qU 3 rfl<|qK 3 rfl ?_;cases yg with
   |true =>
    refine qU 11 rfl<|ae.nil<|AW.aH rfl ?_;rw[hn (fun e=>by have:=s0.2 e;cases this.1)];exact qX 1 rfl<|qN rfl
   |false =>
   refine qU 3 rfl ?_;rw[bf];refine qU 1 rfl ?_;by_cases h1:(0:Int)<(yn.length:Int)
   ·rw[aN h1];refine qU 7 rfl<|ae.nil<|AW.aH rfl ?_;rw[hn (fun e=>by have:=(s0.2 e).2.1;omega)];exact qX 1 rfl<|qN rfl
   rw[a5 h1];refine qU 5 rfl ?_;rw[bf];refine qU 1 rfl ?_;by_cases h2:(0:Int)<(yd.length:Int)
   ·rw[aN h2];refine qU 1 rfl<|ae.nil<|AW.aH rfl ?_;rw[hn (fun e=>by have:=(s0.2 e).2.2;omega)];exact qX 1 rfl<|qN rfl
   rw[a5 h2];refine qU 1 rfl<|ae.nil<|AW.aC rfl<|AW.skip<|qT 1 rfl ?_;rw[aD (x:=(i:Int)+1) (by omega) (by omega)];refine qU 1 rfl<|ae.nil ?_;refine⟨i+1,rfl,fun j h1 h2=>?_,by omega⟩;by_cases e:j=i
   ·rw[e,hq];exact s0.1 ⟨rfl,by omega,by omega⟩
   ·exact hi j (by omega) h2
  have hii: ¬i<a.length:=by have:=ar h;omega
  rw[hyes (fun j h=>hi j (by omega) h)];exact AW.exit<|qX 1 rfl<|qN rfl
section
variable {all:Array Oper} 
theorem ae.Mw(hT:bB P T)(z:Nat){te:TI}{m:Int}(hd:o.dst=some d)(hdn:c5 (d+1) n=true)(hg:aJ all σ o=true)(hx:Oi T σ.get o.op=some (e,te,m))(hz:nc te=true)(hzd:wG te= .ag [.v (.bool false),.sl 1 [],.sl 1 []])(hb:te.bytes=56)(hm:m=z)(h1:z≤1000000)
  (h:ae P B F0 w0 n all rest K ((d,.ow e (fX (cg z 0)))::σ.kill d)):ae P B F0 w0 n all (o::rest) K σ:=by
 subst hm;refine ae.make hT hd hdn hg hx hz (by omega) (by rw[hb];omega) (by omega) ?_;have hq:(Qr 0).D= .ag [.v (.bool false),.sl 1 [],.sl 1 []]:=by rw[gL];rfl
 rw[hzd,←hq,show cg ((z:Int)).toNat (Qr 0).D=fX (cg z 0) by rw[fX,List.map_replicate];rfl];exact h
theorem Ic(a:NQ)(m:Nat):(fX a).take (min (fX a).length (fX (cg m 0)).length)++(fX (cg m 0)).drop (min (fX a).length (fX (cg m 0)).length)=fX (bk a m):=by
 rw[am,am,eE,←kd,←kh,←gc];unfold bk;rw[List.drop_replicate]
 congr 2
 ·by_cases h:a.length≤m
  ·rw[eA h,ce (ap _),ce h]
  ·rw[Nat.min_eq_right (by omega)]
 ·congr 1;omega
theorem ae.Pg(hT:bB P T){h m:Nat}{a:NQ}(hd:o.dst=some d)(hdn:c5 (d+1) n=true)(hg:aJ all σ o=true)(hx:PJ T σ o.op=some (h,e,fX (cg m 0),fX a))
  (hk: ∀z,ae P B F0 w0 n all rest K ((d,.d (.v (.int .i64 z)))::(h,.ow e (fX (bk a m)))::σ)):ae P B F0 w0 n all (o::rest) K σ:=by
 refine ae.Ke hT hd hdn hg hx ?_;rw[Ic];exact hk _
end
theorem E4{a:NQ}(h:a.length=b.length)(h2: ∀i,i<a.length→a.getD i 0=b.getD i 0):a=b:=by refine List.ext_getElem h (fun i h3 h4=>?_);have:=h2 i h3;rw[ab,ab,az h3,az h4]at this;exact this
theorem Fm(r:NQ)(i j:Nat)(q:Rat):(r.set i q).getD j 0=if j=i∧i<r.length then q else r.getD j 0:=by
 rw[ab,List.getElem?_set,ab];by_cases e:i=j
 ·subst e;by_cases h:i<r.length
  ·rw[ah rfl,ah h,ah ⟨rfl,h⟩];rfl
  ·rw[ah rfl,af h,af (fun e=>h e.2),cJ (by omega)]
 ·rw[af e,af (fun h=>e h.1.symm)]
def Jh(r:NQ)(res:D)(R':List LR):Prop:= ∃V,res= .v V∧R'=[(V,AV.ow 68 (fX r))]
theorem jR(a:NQ)(n:Nat)(hn:n≤1000000):fM Tryz.prog 84 [ak a,dI n] [] (Jh (bk a n)):=by refine fM.intro (n:=12) tok Tryz.func84 rfl rfl rfl (bv rfl) (by kernel_rfl) (fun B F0 w0=>?_);refine AZ.seq<|AZ.cL fun B1 F1 w1=>?_;refine qU 1 rfl<|ae.nil ⟨rfl,?_⟩;refine AZ.seq<|AZ.cL fun B1 F1 w1=>?_;refine qU 1 rfl<|ae.Mw tok n rfl rfl rfl rfl rfl rfl rfl rfl hn ?_;refine qU 1 rfl<|ae.nil ⟨rfl,?_⟩;refine AZ.seq<|AZ.cL fun B1 F1 w1=>?_;refine qU 2 rfl ?_;refine ae.Pg tok (a:=a) (m:=n) rfl rfl rfl rfl fun z=>?_;refine ae.nil ⟨rfl,?_⟩;refine AZ.seq<|AZ.cL fun B1 F1 w1=>?_;refine qU 2 rfl<|ae.nil ⟨rfl,?_⟩;refine AZ.fS 4 rfl rfl rfl fun V=>AZ.ret ⟨.v V,rfl,V,rfl,rfl⟩
theorem f'(a:NQ)(hs:au k a)(hk:k≤17300000000000)(hl:a.length≤1000000):Pure Tryz.prog 129 [ak a] (ak (aP a)):=by
 refine qJ 23 Tryz.func129 rfl fun B F0 w0=>?_;refine qX 1 rfl<|qK 2 rfl ?_;rw[am];refine ae.Mw tok a.length rfl rfl rfl rfl rfl rfl rfl rfl hl ?_;refine qU 1 rfl<|qI<|qX 2 rfl ?_;rw[am];refine qU 1 rfl<|ae.nil<|AW.block ?_;refine AW.aK [0,3,9,10] (fun s:Nat×NQ=>[(0,.d (ak a)),(3,.ow 68 (fX s.2)),(9,.d (dI a.length)),(10,.d (dI s.1))]) (fun s=>s.2.length=a.length∧ ∀j,j<s.1→j<a.length→s.2.getD j 0= -a.getD j 0) (fun s=>a.length-s.1) (0,cg a.length 0) rfl ⟨eE,fun j h=>by omega⟩ fun s hi=>?_
 ·obtain⟨i,r⟩:=s;obtain⟨hrl,hi⟩:=hi;simp only[]at hrl hi;show AW _ _ _ _ _ _ _ [(0,.d (ak a)),(3,.ow 68 (fX r)),(9,.d (dI a.length)),(10,.d (dI i))];refine qX 1 rfl<|qI<|AW.cond rfl (fun h=>?_) fun h=>?_
  ·have hii:i<a.length:=by have:=ao h;omega
   have g:=nK hii;have cn:=vL (Qr (a.getD i 0)) (gz _ (hs i)) hk;rw[b5]at cn;refine AW.skip<|AW.seq<|AW.block<|qX 2 rfl<|ae.nil<|qT 4 rfl<|ae.idx tok (Qr (a.getD i 0)).D rfl rfl rfl rfl (aa i) g ?_;refine qU 1 rfl<|qM rfl cn ?_;refine ae.gI tok rfl rfl rfl rfl (aa i) (by rw[am];show i<_;omega) ?_;refine ae.EC tok (-a.getD i 0) rfl rfl rfl (by show i<_;omega) ?_;refine ae.nil<|qT 1 rfl ?_;rw[aD (x:=(i:Int)+1) (by omega) (by omega)];refine qU 1 rfl<|ae.nil ?_;refine⟨(i+1,r.set i (-a.getD i 0)),rfl,⟨by rw[jn];exact hrl,fun j h1 h2=>?_⟩,by show a.length-(i+1)<a.length-i;omega⟩;show(r.set i (-a.getD i 0)).getD j 0=_;rw[Fm];by_cases e:j=i
   ·rw[ah ⟨e,by omega⟩,e]
   ·rw[af (fun h=>e h.1)];exact hi j (by omega) h2
  have hii: ¬i<a.length:=by have:=ar h;omega
  obtain rfl:r=aP a:=E4 (by rw[hrl,cV]) (fun j hj=>by rw[rB];exact hi j (by omega) (by omega));exact AW.exit<|qX 2 rfl<|qN rfl
theorem LF(a b:Nat):(if (b:Int)>(a:Int)then(b:Int)else(a:Int))=((max a b:Nat):Int):=by split<;>omega
theorem eT(a b:NQ)(ha:au k a)(hb:au k b)(hk:k≤17300000000000)(hl:a.length≤1000000)(hl2:b.length≤1000000):Pure Tryz.prog 44 [ak a,ak b] (ak (aS a b)):=by
 refine qJ 37 Tryz.func44 rfl fun B F0 w0=>?_;obtain⟨n,hn⟩: ∃n,n=max a.length b.length:=⟨_,rfl⟩;have cw1:=jR a n (by omega);have cw2:=jR b n (by omega);have l1:=bL a n;have l2:=bL b n;have g1: ∀i,i<n→(bk a n).getD i 0=a.getD i 0:=fun i hi=>by rw[iD,ah hi]
 have g2: ∀i,i<n→(bk b n).getD i 0=b.getD i 0:=fun i hi=>by rw[iD,ah hi]
 have hpl:(aS a b).length=n:=by rw[kY,hn]
 generalize bk a n=wa at cw1 l1 g1;generalize bk b n=wb at cw2 l2 g2;refine qX 1 rfl<|qK 4 rfl ?_;rw[am,am];refine qU 2 rfl ?_;rw[LF,←hn];refine qI<|AZ.aw ?_;refine AZ.region ?_;refine aj.cut 2 rfl fun B1 F1 w1=>?_;refine qU 2 rfl<|ae.nil ⟨rfl,?_⟩;refine aj.ed tok [] rfl rfl rfl rfl rfl eL rfl cw1 (fun _ _ _=>a4 _) fun res R1 hP=>?_;obtain⟨V1,rfl,rfl⟩:=hP;refine aj.cut 2 rfl fun B1 F1 w1=>?_;refine qU 2 rfl<|ae.nil ⟨rfl,?_⟩;refine aj.ed tok [] rfl rfl rfl rfl rfl eL rfl cw2 (fun _ _ _=>a4 _) fun res R1 hP=>?_;obtain⟨V2,rfl,rfl⟩:=hP;refine aj.cut 2 rfl fun B1 F1 w1=>?_;refine qU 2 rfl<|ae.nil ⟨rfl,?_⟩;refine aj.to [0,1] [(0,.d (.v V1)),(1,.d (.v V2))] rfl ?_;refine aj.cO 0 0 (V:=V1) (av:=.ow 68 (fX wa)) rfl rfl rfl ?_;refine aj.to [0,1] [(0,.ow 68 (fX wa)),(1,.d (.v V2))] rfl ?_;refine aj.cO 1 1 (V:=V2) (av:=.ow 68 (fX wb)) rfl rfl rfl ?_;refine aj.to [0,1] [(0,.ow 68 (fX wa)),(1,.ow 68 (fX wb))] rfl ?_;refine aj.nil<|AW.iu tok 1 rfl rfl ?_;refine AW.seq<|qX 2 rfl ?_;rw[am,l1];refine qU 1 rfl<|ae.nil<|AW.block ?_;refine AW.aK [0,1,19,20] (fun s:Nat×NQ=>[(0,.ow 68 (fX s.2)),(1,.d (ak wb)),(19,.d (dI n)),(20,.d (dI s.1))]) (fun s=>s.2.length=n∧ ∀j,j<n→s.2.getD j 0=if j<s.1 then a.getD j 0+b.getD j 0 else a.getD j 0) (fun s=>n-s.1) (0,wa) rfl ⟨l1,fun j h=>by rw[af (Nat.not_lt_zero _)];exact g1 j h⟩ fun s hi=>?_
 ·obtain⟨i,r⟩:=s;obtain⟨hrl,hi⟩:=hi;simp only[]at hrl hi;show AW _ _ _ _ _ _ _ [(0,.ow 68 (fX r)),(1,.d (ak wb)),(19,.d (dI n)),(20,.d (dI i))];refine qX 1 rfl<|qI<|AW.cond rfl (fun h=>?_) fun h=>?_
  ·have hii:i<n:=by have:=ao h;omega
   have e1:=nK (r:=r) (i:=i) (by omega);have e2:=nK (r:=wb) (i:=i) (by omega);rw[hi i hii,af (Nat.lt_irrefl _)]at e1;rw[g2 i hii]at e2;have ca:=oe (Qr (a.getD i 0)) (Qr (b.getD i 0)) (gz _ (ha i)) (gz _ (hb i)) hk;rw[b5,b5]at ca;refine AW.skip<|AW.seq<|AW.block<|qX 2 rfl<|ae.nil<|AW.draw aO 12 (by kernel_rfl) ?_;refine qP 4 rfl ?_;refine ai.gI tok rfl rfl rfl rfl rfl rfl (aa i) (by rw[am];show i<_;omega) ?_;refine ai.dE tok (Qr (a.getD i 0)).D rfl rfl rfl rfl rfl e1 rfl ?_;refine qP 2 rfl<|ai.idx tok (Qr (b.getD i 0)).D rfl rfl rfl rfl rfl (aa i) e2 ?_;refine qP 1 rfl<|qQ rfl ca ?_;refine ai.gI tok rfl rfl rfl rfl rfl rfl (aa i) (by rw[am];show i<_;omega) ?_;refine ai.nil ?_;refine ae.EC tok (a.getD i 0+b.getD i 0) rfl rfl rfl (by show i<_;omega) ?_;refine ae.nil<|qT 1 rfl ?_;rw[aD (x:=(i:Int)+1) (by omega) (by omega)];refine qU 1 rfl<|ae.nil ?_;refine⟨(i+1,r.set i (a.getD i 0+b.getD i 0)),rfl,⟨by rw[jn];exact hrl,fun j h1=>?_⟩,by show n-(i+1)<n-i;omega⟩;show(r.set i (a.getD i 0+b.getD i 0)).getD j 0=if j<i+1 then _ else _
   rw[Fm];by_cases e:j=i
   ·rw[ah ⟨e,by omega⟩,e,ah (by omega)]
   ·rw[af (fun h=>e h.1),hi j h1];by_cases h2:j<i
    ·rw[ah h2,ah (by omega)]
    ·rw[af h2,af (by omega)]
  have hii: ¬i<n:=by have:=ar h;omega
  obtain rfl:r=aS a b:=E4 (by rw[hrl,hpl]) (fun j hj=>by rw[pT,hi j (by omega),ah (by omega)]);exact AW.exit<|qX 2 rfl<|qN rfl
theorem l9(a b:NQ)(n:Nat)(hn:n≤100000):Pure Tryz.prog 172 [ak a,ak b,dI n] (ak (dK a b n)):=by refine qJ 14 Tryz.func172 rfl (fun B F0 w0=>?_);have cw1:=jR a n (by omega);have cw2:=jR b n (by omega);have l1:=bL a n;have l2:=bL b n;unfold dK;generalize bk a n=wa at cw1 l1 ⊢;generalize bk b n=wb at cw2 l2 ⊢;refine qX 1 rfl<|qI<|AZ.aw ?_;refine AZ.region ?_;refine aj.cut 2 rfl fun B1 F1 w1=>?_;refine qU 2 rfl<|ae.nil ⟨rfl,?_⟩;refine aj.ed tok [] rfl rfl rfl rfl rfl eL rfl cw1 (fun _ _ _=>a4 _) fun res R1 hP=>?_;obtain⟨V1,rfl,rfl⟩:=hP;refine aj.cut 2 rfl fun B1 F1 w1=>?_;refine qU 2 rfl<|ae.nil ⟨rfl,?_⟩;refine aj.ed tok [] rfl rfl rfl rfl rfl eL rfl cw2 (fun _ _ _=>a4 _) fun res R1 hP=>?_;obtain⟨V2,rfl,rfl⟩:=hP;refine aj.to [9,12] [(9,.d (.v V1)),(12,.d (.v V2))] rfl ?_;refine aj.cO 9 0 (V:=V1) (av:=.ow 68 (fX wa)) rfl rfl rfl ?_;refine aj.to [9,12] [(9,.ow 68 (fX wa)),(12,.d (.v V2))] rfl ?_;refine aj.cO 12 1 (V:=V2) (av:=.ow 68 (fX wb)) rfl rfl rfl ?_;refine aj.to [9,12] [(9,.ow 68 (fX wa)),(12,.ow 68 (fX wb))] rfl ?_;refine aj.cut 2 rfl fun B1 F1 w1=>?_;refine ae.iu tok 12 rfl rfl ?_;refine ae.jw tok rfl rfl rfl rfl rfl rfl (by rw[am,am,l1,l2];show(_+_)*56≤_;omega) (by rw[am,am,l1,l2];omega) ?_;refine qU 1 rfl<|ae.nil ⟨rfl,?_⟩;refine aj.nil ?_;rw[show fX wa++fX wb=fX (wa++wb)from gc.symm];exact AW.ret rfl
theorem kv(a:NQ)(hs:au k a)(hk:k≤17300000000000)(hl:a.length≤1000000):Pure Tryz.prog 82 [ak a] (ak a):=by
 refine qJ 28 Tryz.func82 rfl fun B F0 w0=>?_;refine qX 1 rfl<|qK 1 rfl<|qI<|qX 2 rfl ?_;rw[am];refine qU 1 rfl<|ae.nil<|AW.block ?_;refine AW.aK [3,6,7,8] (fun i:Nat=>[(3,.ow 68 (fX (a.take i))),(6,.d (ak a)),(7,.d (dI a.length)),(8,.d (dI i))]) (fun i=>i≤a.length) (fun i=>a.length-i) 0 rfl (a4 _) fun i hi=>?_
 ·have hi:i≤a.length:=hi;show AW _ _ _ _ _ _ _ [(3,.ow 68 (fX (a.take i))),(6,.d (ak a)),(7,.d (dI a.length)),(8,.d (dI i))];refine qX 1 rfl<|qI<|AW.cond rfl (fun h=>?_) fun h=>?_
  ·have hii:i<a.length:=by have:=ao h;omega
   have g:=nK hii;have hw:=gz _ (hs i);have htk:=wW a 0 hii;have hol:(a.take i).length=i:=by rw[bn];omega
   generalize a.getD i 0=q at g hw htk;have hw1:=hw.2.2.1;have hw2:=hw.2.2.2;refine AW.skip<|AW.seq<|AW.block<|AW.seq<|AW.region<|ae.idx tok (Qr q).D rfl rfl rfl rfl (aa i) g ?_;refine qU 3 rfl<|ae.nil<|AW.draw aO 13 (by kernel_rfl) ?_;refine qP 6 rfl ?_;refine ai.pB tok rfl rfl rfl rfl rfl (by show(((Qr q).n.map wd).length)*4≤_;rw[bf];omega) ?_;refine qP 3 rfl ?_;refine ai.pB tok rfl rfl rfl rfl rfl (by show(((Qr q).d.map wd).length)*4≤_;rw[bf];omega) ?_;refine qP 1 rfl<|ai.ku tok rfl rfl rfl rfl rfl rfl ?_;refine ai.nil ?_;refine ae.jw tok rfl rfl rfl rfl rfl rfl (by rw[am,hol];show(_+1)*56≤_;omega) (by rw[am,hol];show _+1≤_;omega) ?_;refine qU 1 rfl<|ae.nil<|qT 1 rfl ?_;rw[aD (x:=(i:Int)+1) (by omega) (by omega)];refine qU 1 rfl<|ae.nil ?_;exact⟨i+1,by rw[htk];show _=[(3,AV.ow _ (hZ _ _)),_,_,_];rw[gc];rfl,hii,by omega⟩
  have hii:i=a.length:=by have:=ar h;omega
  subst hii;rw[f7];exact AW.exit<|qX 2 rfl<|qN rfl
section
variable {σ0:St} {all ops:Array Oper} {ds:List Nat} 
theorem Ga(a:NQ)(lo hi:Option Int):((fX a).take (dm (fX a).length hi)).drop (gA lo)=fX ((a.take (dm a.length hi)).drop (gA lo)):=by show List.drop _ (List.take (dm (hZ _ a).length hi) (hZ _ a))=hZ _ _;rw[kh,kd,am]
theorem ae.gX(hT:bB P T){a:NQ}{hi:Option Int}(x:NQ)(hd:o.dst=some d)(hdn:c5 (d+1) n=true)(hg:aJ all σ o=true)(hx:Hy T σ.get o.op=some (ak a,lo,hi))(g1:okB lo)(g2:okB hi)(g3:gA lo≤dm a.length hi)(g4:dm a.length hi≤a.length)(hxx:(a.take (dm a.length hi)).drop (gA lo)=x)
  (h:ae P B F0 w0 n all rest K ((d,.d (ak x))::σ)):ae P B F0 w0 n all (o::rest) K σ:=by
 refine ae.CK hT hd hdn hg hx g1 g2 (by rw[am];exact g3) (by rw[am];exact g4) ?_;rw[Ga,hxx];exact h
theorem ai.gX(hT:bB P T){a:NQ}{hi:Option Int}(x:NQ)(hd:o.dst=some d)(hdn:c5 (d+1) n=true)(hg:aJ ops τ o=true)(hs:σ0.get d=none)(hx:Hy T τ.get o.op=some (ak a,lo,hi))(g1:okB lo)(g2:okB hi)(g3:gA lo≤dm a.length hi)(g4:dm a.length hi≤a.length)(hxx:(a.take (dm a.length hi)).drop (gA lo)=x)
  (h:ai P B F0 w0 n ops ds σ0 rest ((d,.d (ak x))::τ) K):ai P B F0 w0 n ops ds σ0 (o::rest) τ K:=by
 refine ai.CK hT hd hdn hg hs hx g1 g2 (by rw[am];exact g3) (by rw[am];exact g4) ?_;rw[Ga,hxx];exact h
end
theorem iM(i:Nat)(h:i≤9223372036854775807):ot true .i64 (i:Int) 2= .int .i64 ((i/2:Nat):Int):=by have e:((i:Int).tdiv ((2:Nat):Int))=((i/2:Nat):Int):=rfl;show Value.int .i64 (e6.wrap ((i:Int).tdiv ((2:Nat):Int)))=_;rw[e,aD (by omega) (by omega)]
theorem qC(h:i<rt.length):(rt.map ak)[i]?=some (ak (rt.getD i [])):=by simp[h]
theorem ay.len{a:NQ}(h:ay l a)(hl:l≤10):a.length≤1024:=bi h.le (ch (n:=2) (by decide) hl)
def jC:Nat→NQ→NQ
 |0,a=>if bH (a.take 1)=true then []else a.take 1
 |i+1,a=>if bH ((a.take (2^(i+1))).drop (2^i))=true then jC i a else a.take (2^(i+1))
def aq(a:NQ):NQ:=if a.length=0 then []else jC a.length.log2 a
theorem Gb: ∀{i:Nat} {a:NQ} {k:Nat},2^i≤a.length→au k a→ay i (jC i a)∧au k (jC i a)
 |0,a,k,h,hs=>by
  unfold jC;split
  ·exact⟨cE _,db hs.pos⟩
  ·exact⟨.inr ⟨0,ap _,by rw[bn];have h:1≤a.length:=h;show min 1 _=1;omega⟩,hs.take _⟩
 |i+1,a,k,h,hs=>by
  unfold jC;have e:2^(i+1)=2^i*2:=b0 ..;split
  ·have:=Gb (i:=i) (a:=a) (by omega) hs;exact⟨this.1.mono (by omega),this.2⟩
  ·exact⟨.inr ⟨i+1,ap _,by rw[bn];omega⟩,hs.take _⟩
theorem a6{a:NQ}(h:ay l a)(hs:au k a):ay l (aq a)∧au k (aq a):=by
 unfold aq;split
 ·exact⟨cE _,db hs.pos⟩
 rename_i h0;rcases h with e|⟨i,hi,e⟩
 ·exact aG e h0
 rw[e,dM];have:=Gb (i:=i) (a:=a) (by omega) hs;exact⟨this.1.mono hi,this.2⟩
theorem bO(a:NQ)(ha:ay l a)(hl:l≤5)(hs:au k a)(hk:k≤17300000000000):Pure Tryz.prog 43 [ak a] (ak (aq a)):=by
 refine qJ 45 Tryz.func43 rfl fun B F0 w0=>?_;have hl10:=ha.len (by omega);rcases ha with h0|⟨i,hi,hai⟩
 ·obtain rfl:a=[]:=cC.1 h0;have cl:=nT (fX []) (fun i=>by have:=d7 i;show 0≠_;omega) (by decide);have cc:=kv [] hs hk (by decide);refine qX 1 rfl<|qI<|qX 1 rfl<|qM rfl cl<|qU 1 rfl<|qK 11 rfl<|ae.nil<|AW.aC rfl<|AW.skip<|qX 3 rfl ?_;refine qI<|AW.block ?_;refine AW.aK [0,4] (fun _:Unit=>[(0,.d (ak [])),(4,.d (dI 0))]) (fun _=>True) (fun _=>0) () rfl trivial fun _ _=>?_;refine AW.seq<|qX 10 rfl<|ae.nil<|AW.aC rfl<|AW.exit<|AW.seq<|qX 7 rfl<|ae.nil<|AW.aC rfl ?_;refine AW.skip (qX 2 rfl (ae.gX tok (a:=[]) [] rfl rfl rfl rfl trivial (dj _) (ap _) (ap _) rfl ?_));exact qM rfl cc<|qU 1 rfl<|qN rfl
 have cl:=fD (fX a) (by rw[am];exact hai) (by omega);have hp:=d7 i;have hE:aq a=jC i a:=by unfold aq;rw[af (by omega),hai,dM]
 rw[hE];refine qX 1 rfl<|qI<|qX 1 rfl<|qM rfl cl<|qU 1 rfl<|qK 2 rfl ?_;rw[am];refine qU 1 rfl ?_;rw[aN (show(0:Int)<(a.length:Int) by omega)];refine qU 3 rfl ?_;rw[a5 (show ¬((i:Int)<0) by omega)];refine qU 3 rfl ?_;rw[a5 (show ¬((5:Int)<(i:Int)) by omega)];refine qU 2 rfl<|ae.nil<|AW.aC rfl<|AW.skip<|qX 2 rfl ?_;rw[am,hai];refine qU 1 rfl<|qI<|AW.block ?_;refine AW.aK [0,4] (fun j:Nat=>[(0,.d (ak a)),(4,.d (dI (2^j:Nat)))]) (fun j=>j≤i∧jC j a=jC i a) (fun j=>j) i rfl ⟨ap _,rfl⟩ fun j hj=>?_;obtain⟨hj,hjE⟩:=hj;show AW _ _ _ _ _ _ _ [(0,.d (ak a)),(4,.d (dI (2^j:Nat)))];have hpj:2^j≤2^i:=ch (by decide) hj;have hpp:=d7 j;refine AW.seq<|qX 2 rfl ?_;rcases j with _|j
 ·refine qU 8 rfl (ae.nil (AW.aC rfl (AW.exit (AW.seq (qX 4 rfl ?_)))));refine ae.gX tok (a:=a) (a.take 1) rfl rfl rfl rfl trivial (show(0:Int)≤1 by decide) (a4 _) (show 1≤a.length by omega) rfl ?_;refine qM rfl (oF (a.take 1) (by rw[bn];omega)) ?_;refine qU 1 rfl<|ae.nil ?_;rw[←hjE];unfold jC;cases hz:bH (a.take 1)with
  |true =>
   rw[ah rfl];exact AW.aH rfl<|qX 1 rfl<|qN rfl
  |false =>
   rw[af (by simp)];refine AW.aC rfl<|AW.skip<|qX 2 rfl ?_;refine ae.gX tok (a:=a) (a.take 1) rfl rfl rfl rfl trivial (show(0:Int)≤1 by decide) (a4 _) (show 1≤a.length by omega) rfl ?_;refine qM rfl (kv (a.take 1) (hs.take 1) hk (by rw[bn];omega)) ?_;exact qU 1 rfl<|qN rfl
 have e2:2^(j+1)=2^j*2:=b0 ..;have eh:=mK j;rw[aN (show(1:Int)<((2^(j+1):Nat):Int) by have:=d7 j;omega)];refine qU 3 rfl<|ae.div tok rfl rfl rfl rfl (by decide) ?_;rw[iM _ (by omega),eh];refine qU 1 rfl ?_;refine ae.gX tok (a:=a) ((a.take (2^(j+1))).drop (2^j)) rfl rfl rfl rfl (aa _) (aa _) (show 2^j≤2^(j+1) by omega) (show 2^(j+1)≤a.length by omega) rfl ?_;refine qM rfl (oF _ (by rw[dz,bn];omega)) ?_;refine qU 1 rfl<|ae.nil ?_;cases hz:bH ((a.take (2^(j+1))).drop (2^j))with
 |true =>
  refine AW.aH rfl<|AW.skip<|AW.block<|qT 1 rfl<|ae.div tok rfl rfl rfl rfl (by decide) ?_;rw[iM _ (by omega),eh];refine qU 1 rfl<|ae.nil ?_;exact⟨j,rfl,⟨by omega,by rw[←hjE];show _=if bH ((a.take (2^(j+1))).drop (2^j))=true then _ else _;rw[ah hz]⟩,by omega⟩
 |false =>
 refine AW.aC rfl<|AW.exit<|AW.seq<|qX 2 rfl ?_;rw[beq_eq_false_iff_ne.2 (show((2^(j+1):Nat):Int)≠1 by have:=d7 j;omega)];refine qU 5 rfl<|ae.nil<|AW.aC rfl<|AW.skip<|qX 2 rfl ?_;refine ae.gX tok (a:=a) (a.take (2^(j+1))) rfl rfl rfl rfl trivial (aa _) (a4 _) (show 2^(j+1)≤a.length by omega) rfl ?_;refine qM rfl (kv _ (hs.take _) hk (by rw[bn];omega)) ?_;refine qU 1 rfl<|ae.nil ?_;rw[←hjE];unfold jC;rw[af (by rw[hz];simp)];exact AW.ret rfl
abbrev qo(a:NQ):Prop:=au 17300000000000 a
def OJ(R:NQ→NQ→NQ)(O:NQ→NQ→Prop)(rt:List NQ)(a b:NQ):Prop :=
 qo a∧qo b∧(a.length≠1→bH a=false→bH b=false →
  (b.length≤a.length/2→O (a.take (a.length/2)) b∧O (a.drop (a.length/2)) b) ∧
  (¬b.length≤a.length/2→(O (a.take (a.length/2)) (b.take (a.length/2))∧O (a.drop (a.length/2)) (b.drop (a.length/2))∧O (R (a.drop (a.length/2)) (b.drop (a.length/2))) (rt.getD (a.length.log2-1) []) ∧
   O (a.take (a.length/2)) (b.drop (a.length/2))∧O (a.drop (a.length/2)) (b.take (a.length/2))) ∧
   qo (R (a.take (a.length/2)) (b.take (a.length/2)))∧qo (R (R (a.drop (a.length/2)) (b.drop (a.length/2))) (rt.getD (a.length.log2-1) []))∧qo (R (a.take (a.length/2)) (b.drop (a.length/2)))∧qo (R (a.drop (a.length/2)) (b.take (a.length/2)))))
def vB(R:NQ→NQ→NQ)(O:NQ→NQ→Prop)(rt:List NQ)(a b:NQ):Prop:=if a.length<b.length then OJ R O rt b a else OJ R O rt a b
def Dm:Nat→List NQ→NQ→NQ→Prop
 |0,rt,a,b=>vB (fun _ _=>[]) (fun _ _=>True) rt a b
 |l+1,rt,a,b=>vB (aT l rt) (Dm l rt) rt a b
theorem wU{a:NQ}(ha:ay l a)(hb:ay l b)(hrt:cU rt)(hl:l≤rt.length)(hl5:rt.length≤10)(hok:vB R O rt a b)
  (hR: ∀l',l=l'+1→ ∀a' b',ay l' a'→ay l' b'→O a' b'→Pure Tryz.prog 128 [fm rt,ak a',ak b'] (ak (R a' b'))∧ay l' (R a' b')):
  Pure Tryz.prog 128 [fm rt,ak a,ak b] (ak (lL (kD R rt) a b)):=by
 refine qJ 100 Tryz.func128 rfl fun B F0 w0=>?_;have hla:=ha.len (by omega);have hlb:=hb.len (by omega);unfold vB at hok;refine qX 2 rfl<|ae.nil ?_;refine AW.cut [1,2,3] (fun s:NQ×NQ=>[(1,.d (ak s.1)),(2,.d (ak s.2)),(3,.bx [.sl 1 (rt.map ak)])]) (fun s=>kD R rt s.1 s.2=lL (kD R rt) a b∧s.2.length≤s.1.length∧ay l s.1∧ay l s.2∧OJ R O rt s.1 s.2) ?_ fun s hs=>?_
 ·refine qX 4 rfl ?_;rw[am,am];refine qU 1 rfl<|ae.nil ?_;unfold lL;by_cases hab:a.length<b.length
  ·rw[aN (show(a.length:Int)<(b.length:Int) by omega),ah hab];refine AW.aH rfl<|qT 4 rfl<|ae.nil ?_;exact⟨(b,a),rfl,rfl,by show a.length≤b.length;omega,hb,ha,by rw[ah hab]at hok;exact hok⟩
  ·rw[a5 (show ¬(a.length:Int)<(b.length:Int) by omega),af hab];refine AW.aC rfl<|AW.skip ?_;exact⟨(a,b),rfl,rfl,by show b.length≤a.length;omega,ha,hb,by rw[af hab]at hok;exact hok⟩
 ·obtain⟨x,y⟩:=s;obtain⟨hE,hab,ha,hb,sa,sb,hm⟩:=hs;simp only[]at hE hab ha hb sa sb hm;show AW _ _ _ _ _ _ _ [(1,.d (ak x)),(2,.d (ak y)),(3,.bx [.sl 1 (rt.map ak)])];rw[←hE];clear hE;clear hok;generalize x=a at *;generalize y=b at *;have hla:=ha.len (by omega);have hlb:=hb.len (by omega);have cz1:=qm a sa (by omega) (by omega);have cz2:=qm b sb (by omega) (by omega);unfold kD;refine AW.seq<|AW.block<|qX 1 rfl<|qM rfl cz1 ?_;cases hza:bH a with
  |true =>
   rw[ah (by rfl)];exact qU 5 rfl<|ae.nil<|AW.aH rfl<|qX 1 rfl<|qN rfl
  |false =>
  refine qU 2 rfl<|qM rfl cz2<|qU 2 rfl<|ae.nil ?_;cases hzb:bH b with
  |true =>
   rw[ah (by rfl)];exact AW.aH rfl<|qX 1 rfl<|qN rfl
  |false =>
  rw[af (by decide)];refine AW.aC rfl<|qX 2 rfl ?_;rw[am];refine qU 2 rfl<|ae.nil ?_;have hb0:0<b.length:=cp.2 (kV hzb);have ha0:0<a.length:=cp.2 (kV hza);by_cases h1:a.length=1
  ·rw[ah h1,beq_iff_eq.2 (show(a.length:Int)=1 by omega)];have g1:=nK (r:=a) (i:=0) ha0;have g2:=nK (r:=b) (i:=0) hb0;have cm:=vN (Qr (a.getD 0 0)) (Qr (b.getD 0 0)) (gz _ (sa 0)) (gz _ (sb 0)) (by omega);rw[b5,b5]at cm;refine AW.aH rfl<|AW.seq<|AW.draw aO 8 (by kernel_rfl) ?_;refine qP 1 rfl<|ai.idx tok (Qr (a.getD 0 0)).D rfl rfl rfl rfl rfl (dj _) g1 ?_;refine qP 2 rfl<|ai.idx tok (Qr (b.getD 0 0)).D rfl rfl rfl rfl rfl (dj _) g2 ?_;refine qP 1 rfl<|qQ rfl cm<|ai.ku tok rfl rfl rfl rfl rfl rfl ?_;exact ai.nil<|qU 1 rfl<|qN rfl
  rw[af h1,beq_eq_false_iff_ne.2 (show(a.length:Int)≠1 by omega)];refine AW.aC rfl<|AW.skip ?_
  obtain⟨i,hi,hla2⟩: ∃i,i≤l∧a.length=2^i:=by
   rcases ha with e|e
   ·omega
   ·exact e
  have u9:i≠0:=fun e=>h1 (by rw[hla2,e]);obtain⟨j,rfl⟩: ∃j,i=j+1:=⟨i-1,by omega⟩;obtain⟨l',rfl⟩: ∃l',l=l'+1:=⟨l-1,by omega⟩;have hj:j≤l':=by omega
  have hR:=fun a' b' h1 h2 h3=>hR l' rfl a' b' h1 h2 h3;obtain⟨hm1,hm2⟩:=hm h1 hza hzb;obtain⟨e1,e2,e3⟩:=bt hla2;have hx:ay l' (a.take (a.length/2)):=.inr ⟨j,hj,e1⟩;have hy:ay l' (a.drop (a.length/2)):=.inr ⟨j,hj,e2⟩;have hlog:a.length.log2-1=j:=by rw[hla2,dM];omega
  obtain⟨n,hn⟩: ∃n,n=a.length/2:=⟨_,rfl⟩
  have hn2:a.length=n+n:=by have:2^(j+1)=2^j*2:=b0 ..;omega
  rw[←hn]at e1 e2 e3 hx hy hm1 hm2 ⊢;refine qX 2 rfl ?_;rw[am];refine ae.div tok rfl rfl rfl rfl (by decide) ?_;rw[iM _ (by omega),←hn];refine qU 1 rfl<|qI<|AW.draw aO 7 (by kernel_rfl) ?_;refine qP 2 rfl ?_;refine ai.gX tok (a:=a) (a.take n) rfl rfl rfl rfl rfl trivial (aa n) (a4 _) (show n≤a.length by omega) rfl ?_;refine qP 2 rfl ?_;refine ai.gX tok (a:=a) (a.drop n) rfl rfl rfl rfl rfl (aa n) trivial (show n≤a.length by omega) (ap _) (by show(a.take a.length).drop n=_;rw[f7]) ?_;refine qP 1 rfl<|ai.nil<|qU 1 rfl<|qI<|qX 2 rfl ?_;rw[am];refine qU 2 rfl<|ae.nil ?_;by_cases h3:b.length≤n
  ·rw[ah h3,aN (show(b.length:Int)≤(n:Int) by omega)]
   have hb':ay l' b:=by
    rcases hb with e|⟨i',_,e⟩
    ·exact .inl e
    ·refine .inr ⟨i',?_,e⟩;rw[e3,e]at h3;have:=iZ h3;omega
   have r1:=hR _ _ hx hb' (hm1 h3).1;have r2:=hR _ _ hy hb' (hm1 h3).2;have cj:=l9 (R (a.take n) b) (R (a.drop n) b) n (by omega);refine AW.aH rfl<|AW.seq<|AW.draw aO 10 (by kernel_rfl) ?_;refine qP 3 rfl<|qQ rfl r1.1 ?_;refine qP 3 rfl<|qQ rfl r2.1 ?_;exact qP 1 rfl<|qQ rfl cj<|ai.nil<|qU 1 rfl<|qN rfl
  rw[af h3,a5 (show ¬(b.length:Int)≤(n:Int) by omega)]
  have hlb2:b.length=2^(j+1):=by
   rcases hb with e|⟨i',_,e⟩
   ·omega
   ·rw[e]at h3 hab ⊢;rw[hla2]at hab;rw[e3]at h3;have h4:=iZ hab;have h5: ¬i'≤j:=fun h=>h3 (ch (by decide) h);rw[show i'=j+1 by omega]
  obtain⟨f1,f2,f3⟩:=bt hlb2;rw[show b.length/2=n by omega]at f1 f2;have hu:ay l' (b.take n):=.inr ⟨j,hj,f1⟩;have hv:ay l' (b.drop n):=.inr ⟨j,hj,f2⟩;obtain⟨⟨o1,o2,o5,o3,o4⟩,z1,z5,z3,z4⟩:=hm2 h3;rw[hlog]at o5 z5;have r1:=hR _ _ hx hu o1;have r2:=hR _ _ hy hv o2;have r3:=hR _ _ hx hv o3;have r4:=hR _ _ hy hu o4;rw[hlog];have hd:ay l' (rt.getD j []):=.inr ⟨j,hj,hrt j (by omega)⟩;have r5:=hR _ _ r2.2 hd o5;have n1:=r1.2.len (by omega);have n3:=r3.2.len (by omega);have n4:=r4.2.len (by omega);have n5:=r5.2.len (by omega);have p1:=eT (R (a.take n) (b.take n)) (R (R (a.drop n) (b.drop n)) (rt.getD j [])) z1 z5 (by omega) (by omega) (by omega);have p2:=eT (R (a.take n) (b.drop n)) (R (a.drop n) (b.take n)) z3 z4 (by omega) (by omega) (by omega);have cj:=l9 (aS (R (a.take n) (b.take n)) (R (R (a.drop n) (b.drop n)) (rt.getD j []))) (aS (R (a.take n) (b.drop n)) (R (a.drop n) (b.take n))) n (by omega);have cl:=fD (fX a) (by rw[am];exact hla2) (by omega);refine AW.aC rfl<|AW.skip<|AW.seq<|AW.draw aO 7 (by kernel_rfl) ?_;refine qP 2 rfl ?_;refine ai.gX tok (a:=b) (b.take n) rfl rfl rfl rfl rfl trivial (aa n) (a4 _) (show n≤b.length by omega) rfl ?_;refine qP 2 rfl ?_;refine ai.gX tok (a:=b) (b.drop n) rfl rfl rfl rfl rfl (aa n) trivial (show n≤b.length by omega) (ap _) (by show(b.take b.length).drop n=_;rw[f7]) ?_;refine qP 1 rfl<|ai.nil<|qU 1 rfl<|qI<|AW.draw aO 7 (by kernel_rfl) ?_;refine qP 3 rfl<|qQ rfl cl<|qP 1 rfl ?_;rw[aD (x:=((j+1:Nat):Int) -1) (by omega) (by omega),show((j+1:Nat):Int) -1=(j:Int) by omega];refine ai.idx tok (ak (rt.getD j [])) rfl rfl rfl rfl rfl (aa j) (qC (by omega)) ?_;refine qP 1 rfl<|ai.nil<|qU 1 rfl<|qI<|AW.draw aO 12 (by kernel_rfl) ?_;refine qP 3 rfl<|qQ rfl r1.1 ?_;refine qP 4 rfl<|qQ rfl r2.1 ?_;refine qP 1 rfl<|qQ rfl r5.1 ?_;refine qQ rfl p1<|ai.nil<|qU 1 rfl<|qI<|AW.draw aO 12 (by kernel_rfl) ?_;refine qP 4 rfl<|qQ rfl r3.1 ?_;refine qP 3 rfl<|qQ rfl r4.1 ?_;exact qQ rfl p2<|qP 1 rfl<|qQ rfl cj<|ai.nil<|qU 1 rfl<|qN rfl
theorem cK: ∀(l:Nat) {rt:List NQ} {a b:NQ},ay l a→ay l b→cU rt→l≤rt.length→rt.length≤10→Dm l rt a b→Pure Tryz.prog 128 [fm rt,ak a,ak b] (ak (aT l rt a b))
 |0,rt,a,b,ha,hb,hrt,hl,hl5,hok=>wU (O:=fun _ _=>True) ha hb hrt hl hl5 hok (fun l' h=>by omega)
 |l+1,rt,a,b,ha,hb,hrt,hl,hl5,hok=>wU (O:=Dm l rt) ha hb hrt hl hl5 hok (fun l' e a' b' h1 h2 h3=>by
   obtain rfl:l=l':=by omega
   obtain⟨K,k1,k2,k3⟩:=zO a' b' rt
   exact⟨cK l h1 h2 hrt (by omega) hl5 h3,(dy l h1 h2 hrt (by omega) k1 k2 k3).1⟩)
theorem Bu{a:NQ}(ha:ay l a)(hb:ay l b)(hab:b.length≤a.length)(hrt:cU rt)(hl:l≤rt.length)(sa:au k a)(sb:au k b)(sr:dk k rt)(hk:sT l k≤17300000000000)
  (hR: ∀l',l=l'+1→ ∀a' b' m,k≤m→ay l' a'→ay l' b'→au m a'→au m b'→sT l' m≤17300000000000→O a' b'∧ay l' (R a' b')∧au (sT l' m) (R a' b')):OJ R O rt a b:=by
 have hk1:=sa.pos;have h2:=bP l k;refine⟨sa.mono (by omega),sb.mono (by omega),fun h1 hza hzb=>?_⟩;have hb0:0<b.length:=cp.2 (kV hzb);have ha0:0<a.length:=cp.2 (kV hza)
 obtain⟨i,hi,hla⟩: ∃i,i≤l∧a.length=2^i:=by
  rcases ha with e|e
  ·omega
  ·exact e
 have u9:i≠0:=fun e=>h1 (by rw[hla,e]);obtain⟨j,rfl⟩: ∃j,i=j+1:=⟨i-1,by omega⟩;obtain⟨l',rfl⟩: ∃l',l=l'+1:=⟨l-1,by omega⟩;have hj:j≤l':=by omega
 have hR:=fun a' b' m h1 h2 h3 h4 h5=>hR l' rfl a' b' m h1 h2 h3 h4 h5;obtain⟨e1,e2,e3⟩:=bt hla;have hx:ay l' (a.take (a.length/2)):=.inr ⟨j,hj,e1⟩;have hy:ay l' (a.drop (a.length/2)):=.inr ⟨j,hj,e2⟩;have hs0:=bP l' k;have hs1:=bP l' (sT l' k);have hk:sT l' (sT l' k)+sT l' k+1≤17300000000000:=hk;refine⟨fun h3=>?_,fun h3=>?_⟩
 ·have hb':ay l' b:=by
   rcases hb with e|⟨i',_,e⟩
   ·exact .inl e
   ·refine .inr ⟨i',?_,e⟩;rw[e3,e]at h3;have:=iZ h3;omega
  exact⟨(hR _ _ k (ap _) hx hb' (sa.take _) sb (by omega)).1,(hR _ _ k (ap _) hy hb' (sa.drop _) sb (by omega)).1⟩
 have hlb:b.length=2^(j+1):=by
  rcases hb with e|⟨i',_,e⟩
  ·omega
  ·rw[e]at h3 hab ⊢;rw[hla]at hab;rw[e3]at h3;have h4:=iZ hab;have h5: ¬i'≤j:=fun h=>h3 (ch (by decide) h);rw[show i'=j+1 by omega]
 obtain⟨f1,f2,f3⟩:=bt hlb;rw[show b.length/2=a.length/2 by rw[f3,e3]]at f1 f2;have hu:ay l' (b.take (a.length/2)):=.inr ⟨j,hj,f1⟩;have hv:ay l' (b.drop (a.length/2)):=.inr ⟨j,hj,f2⟩;have r1:=hR _ _ k (ap _) hx hu (sa.take _) (sb.take _) (by omega);have r2:=hR _ _ k (ap _) hy hv (sa.drop _) (sb.drop _) (by omega);have r3:=hR _ _ k (ap _) hx hv (sa.take _) (sb.drop _) (by omega);have r4:=hR _ _ k (ap _) hy hu (sa.drop _) (sb.take _) (by omega);have hlog:a.length.log2-1=j:=by rw[hla,dM];omega
 have hd:ay l' (rt.getD (a.length.log2-1) []):=.inr ⟨j,hj,by rw[hlog];exact hrt j (by omega)⟩;have r5:=hR _ _ (sT l' k) (by omega) r2.2.1 hd r2.2.2 ((sr _).mono (by omega)) (by omega);exact⟨⟨r1.1,r2.1,r5.1,r3.1,r4.1⟩,r1.2.2.mono (by omega),r5.2.2.mono (by omega),r3.2.2.mono (by omega),r4.2.2.mono (by omega)⟩
theorem rp: ∀(l:Nat) {k:Nat} {rt:List NQ} {a b:NQ},ay l a→ay l b→cU rt→l≤rt.length→au k a→au k b→dk k rt→sT l k≤17300000000000→Dm l rt a b
 |0,k,rt,a,b,ha,hb,hrt,hl,sa,sb,sr,hk=>by
  show vB _ _ rt a b;unfold vB;split
  ·exact Bu hb ha (by omega) hrt hl sb sa sr hk (fun l' h=>by omega)
  ·exact Bu ha hb (by omega) hrt hl sa sb sr hk (fun l' h=>by omega)
 |l+1,k,rt,a,b,ha,hb,hrt,hl,sa,sb,sr,hk=>by
  show vB (aT l rt) (Dm l rt) rt a b;unfold vB
  have ih: ∀l',l+1=l'+1→ ∀a' b' m,k≤m→ay l' a'→ay l' b'→au m a'→au m b'→sT l' m≤17300000000000→Dm l rt a' b'∧ay l' (aT l rt a' b')∧au (sT l' m) (aT l rt a' b'):=fun l' e a' b' m hm h1 h2 h3 h4 h5=>by
   obtain rfl:l=l':=by omega
   exact⟨rp l h1 h2 hrt (by omega) h3 h4 (sr.mono hm) h5,dy l h1 h2 hrt (by omega) h3 h4 (sr.mono hm)⟩
  split
  ·exact Bu hb ha (by omega) hrt hl sb sa sr hk ih
  ·exact Bu ha hb (by omega) hrt hl sa sb sr hk ih
theorem wQ(l:Nat){a:NQ}(ha:ay l a)(hb:ay l b)(hrt:cU rt)(hl:l≤rt.length)(hl5:rt.length≤10)(sa:au k a)(sb:au k b)(sr:dk k rt)(hk:sT l k≤17300000000000):Pure Tryz.prog 128 [fm rt,ak a,ak b] (ak (aT l rt a b)) :=
 cK l ha hb hrt hl hl5 (rp l ha hb hrt hl sa sb sr (by omega))
end Lift
