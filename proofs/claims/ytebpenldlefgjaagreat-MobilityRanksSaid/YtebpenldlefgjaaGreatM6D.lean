/- Parts of the proof, one behind the other: the logic, the contracts of the functions that the statement reaches. -/
import Derived.Test.YtebpenldlefgjaaGreatM6C
import Derived.Laws.StructEq
set_option linter.unusedVariables false
set_option linter.unusedSimpArgs false
set_option maxHeartbeats 4000000
open Array renaming getElem?_eq_some_iff→cI
open Bool renaming and_eq_true→d3,or_true→eN,or_eq_true→gt
open Classical renaming byContradiction→ep
open Decidable renaming not_not→dz
open Go.Instr renaming extract→ee,sureAddr→gs
open Go.Oper renaming upon→ea
open Go.Operand.const renaming injEq→ii
open Go.Region renaming wanted→c8,ready→d5,binds→eE
open Go.Result renaming andThen_ok→eh
open Go.Sem renaming run_bind→eX,run_pure→hW
open Int renaming natCast_nonneg→al,le_refl→d4
open List renaming length_map→aa,getD_eq_getElem?_getD→am,length_take→ax,getElem?_eq_getElem→az,length_eq_zero_iff→bi,getElem?_set_self→bz,getElem?_map→ce,length_set→cg,getElem?_eq_some_iff→ch,length_append→co,getElem?_set_ne→cw,take_length→c7,map_append→c9,getElem?_eq_none→c',replicate→dj,getElem?_append_right→dl,all_eq_true→dn,getElem?_drop→dM,map_map→dT,any_eq_true→d0,getElem?_append_left→d6,ext_getElem?→d7,getElem?_zipWith→d9,mem_range→d',map_take→ef,getElem?_take→ej,take_succ_eq_append_getElem→ek,eq_nil_iff_forall_not_mem→en,append_nil→eu,mem_or_eq_of_mem_set→eA,drop_eq_getElem_cons→eB,getElem?_take_of_lt→eL,length_replicate→e5,mem_iff_getElem→e6,map_congr_left→e',range→f5,append_assoc→f8,any_eq_false→f9,length_drop→gc,getElem_mem→go,nodup_nil→gx,map→gy,set_set→g',mem_map→hM,map_set→hU,map_id→io
open List.Mem renaming head→cx
open Nat renaming zero_le→an,le_refl→ap,succ_ne_zero→bn,log2_two_pow→bv,le_trans→b3,pow_succ→cr,le_of_ble_eq_true→cJ,pow_le_pow_right→cS,pow_le_pow_iff_right→c6,eq_of_beq_eq_true→di,beq→eb,not_lt_zero→ew,le_of_eq→eY,ble→e4,pow_pos→e9,log2→gR,sub_self→ik
open Ne renaming symm→ey
open Option renaming getD_some→f4,map_some→f7
open Rat renaming add_zero→dx,sub_eq_add_neg→f6,zero_add→hZ,sub_self→ie
namespace Lift
open Go Go.Proofs
variable {rt:List (List RD)}{b:List RD}{R:NQ→Int}{N:NQ→NQ}{i j k l m n:Nat}
def e7(l:Nat)(rt:List NQ)(a:NQ):NQ :=
 aS (aT l rt (a.take (a.length/2)) (a.take (a.length/2))) (aP (aT l rt (aT l rt (a.drop (a.length/2)) (a.drop (a.length/2))) (rt.getD (a.length.log2-1) [])))
def y7(R:NQ→Int)(N:NQ→NQ)(rt:List NQ)(a:NQ):Int :=
 if a.length=0 then 0 else if a.length=1 then j7 (a.getD 0 0)else
 if R (rt.getD (a.length.log2-1) [])=0 then R (a.take (a.length/2))else
 if R (a.take (a.length/2))=R (a.drop (a.length/2))∨R (a.drop (a.length/2))=0 then R (a.take (a.length/2))else
 if R (a.take (a.length/2))=0 then R (a.drop (a.length/2))else R (a.take (a.length/2))*R (N a)
def ec:Nat→List NQ→NQ→Int
 |0,rt,a=>y7 (fun _=>0) (fun a=>a) rt (aq a)
 |l+1,rt,a=>y7 (ec l rt) (e7 l rt) rt (aq a)
def ou:Nat→Nat→Prop
 |0,k=>k≤17300000000000
 |l+1,k=>sT (l+1) k≤17300000000000∧ou l (sT (l+1) k)
theorem xD: ∀{l k m:Nat},ou l k→m≤k→ou l m
 |0,k,m,h,hm=>b3 hm h
 |l+1,k,m,h,hm=>⟨b3 (vX hm) h.1,xD h.2 (vX hm)⟩
theorem tW: ∀{l k:Nat},ou l k→k≤17300000000000
 |0,k,h=>h
 |l+1,k,h=>by have:=bP (l+1) k;have:=h.1;omega
theorem lA(h:ou (l+1) k):ou l k:=xD h.2 (by have:=bP (l+1) k;omega)
def zJ(z:Int):Prop:=z=0∨z=1∨z= -1
theorem ni{x y:Int}(hx:zJ x)(hy:zJ y):zJ (x*y):=by unfold zJ at *;rcases hx with rfl|rfl|rfl<;>rcases hy with rfl|rfl|rfl<;>decide
theorem CN{rt:List NQ}{a:NQ}(hR: ∀b,zJ (R b)):zJ (y7 R N rt a):=by
 unfold y7;split
 ·exact .inl rfl
 split
 ·exact iG _
 split
 ·exact hR _
 split
 ·exact hR _
 split
 ·exact hR _
 ·exact ni (hR _) (hR _)
theorem pK: ∀(l:Nat) (rt:List NQ) (a:NQ),zJ (ec l rt a)
 |0,rt,a=>CN (fun _=>.inl rfl)
 |l+1,rt,a=>CN (fun b=>pK l rt b)
theorem BB{rt:List NQ}{a:NQ}(hj:j≤l)(ha:a.length=2^(j+1))(hrt:cU rt)(hl:l<rt.length)(sa:au k a)(sr:dk k rt):ay l (e7 l rt a)∧au (sT (l+1) k) (e7 l rt a):=by
 obtain⟨e1,e2,e3⟩:=bt ha;have hx:ay l (a.take (a.length/2)):=.inr ⟨j,hj,e1⟩;have hy:ay l (a.drop (a.length/2)):=.inr ⟨j,hj,e2⟩;have hlog:a.length.log2-1=j:=by rw[ha,bv];omega
 have hd:ay l (rt.getD j []):=.inr ⟨j,hj,hrt j (by omega)⟩;have h0:=bP l k;have h1:=bP l (sT l k);have r1:=dy l hx hx hrt (by omega) (sa.take _) (sa.take _) sr;have r2:=dy l hy hy hrt (by omega) (sa.drop _) (sa.drop _) sr;have r3:=dy l r2.1 hd hrt (by omega) r2.2 ((sr _).mono (by omega)) (sr.mono (by omega));unfold e7;rw[hlog];refine⟨r1.1.plus r3.1.minus,(r1.2.plus r3.2.minus).mono ?_⟩;show _≤sT l (sT l k)+sT l k+1;omega
def Nu(l:Nat)(rt:List NQ)(a:NQ):Prop :=
 Dm l rt (a.take (a.length/2)) (a.take (a.length/2))∧Dm l rt (a.drop (a.length/2)) (a.drop (a.length/2))∧Dm l rt (aT l rt (a.drop (a.length/2)) (a.drop (a.length/2))) (rt.getD (a.length.log2-1) []) ∧
 qo (aT l rt (a.take (a.length/2)) (a.take (a.length/2)))∧qo (aT l rt (aT l rt (a.drop (a.length/2)) (a.drop (a.length/2))) (rt.getD (a.length.log2-1) []))
theorem wc{rt:List NQ}{a:NQ}(hj:j≤l)(ha:a.length=2^(j+1))(hrt:cU rt)(hl:l<rt.length):ay l (e7 l rt a):=by obtain⟨K,k1,_,k3⟩:=zO a a rt;exact(BB hj ha hrt hl k1 k3).1
theorem fF(l:Nat){rt:List NQ}{a b:NQ}(ha:ay l a)(hb:ay l b)(hrt:cU rt)(hl:l≤rt.length):ay l (aT l rt a b):=by obtain⟨K,k1,k2,k3⟩:=zO a b rt;exact(dy l ha hb hrt hl k1 k2 k3).1
theorem oD{rt:List NQ}{a:NQ}(hj:j≤l)(ha:a.length=2^(j+1))(hrt:cU rt)(hl:l<rt.length)(hl5:rt.length≤10)(hok:Nu l rt a):
  Pure Tryz.prog 87 [fm rt,ak a] (ak (e7 l rt a)):=by
 refine qJ 36 Tryz.func87 rfl fun B F0 w0=>?_;obtain⟨e1,e2,e3⟩:=bt ha;have hx:ay l (a.take (a.length/2)):=.inr ⟨j,hj,e1⟩;have hy:ay l (a.drop (a.length/2)):=.inr ⟨j,hj,e2⟩;have hlog:a.length.log2-1=j:=by rw[ha,bv];omega
 have hd:ay l (rt.getD j []):=.inr ⟨j,hj,hrt j (by omega)⟩;obtain⟨o1,o2,o3,z1,z3⟩:=hok;rw[hlog]at o3 z3;have r1:=fF l hx hx hrt (by omega);have r2:=fF l hy hy hrt (by omega);have r3:=fF l r2 hd hrt (by omega);have c1:=cK l hx hx hrt (by omega) hl5 o1;have c2:=cK l hy hy hrt (by omega) hl5 o2;have c3:=cK l r2 hd hrt (by omega) hl5 o3;have n1:=r1.len (by omega);have n3:=r3.len (by omega);have c4:=f' _ z3 (by omega) (by omega);have c5:=eT _ _ z1 z3.minus (by omega) (by omega) (by rw[cV];omega);have cl:=fD (fX a) (by rw[aa];exact ha) (by omega);have hp:2^(j+1)≤2^10:=cS (by decide) (by omega);unfold e7;rw[hlog];obtain⟨n,hn⟩: ∃n,n=a.length/2:=⟨_,rfl⟩;rw[←hn]at e1 e2 e3 hx hy c1 c2 c3 c4 c5 ⊢;refine qX 2 rfl<|qK 2 rfl ?_;rw[aa];refine ae.div tok rfl rfl rfl rfl (by decide) ?_;rw[iM _ (by omega),←hn];refine qU 1 rfl<|qI<|AW.draw aO 7 (by kernel_rfl) ?_;refine qP 2 rfl ?_;refine ai.gX tok (a:=a) (a.take n) rfl rfl rfl rfl rfl trivial (al n) (an _) (show n≤a.length by omega) rfl ?_;refine qP 2 rfl ?_;refine ai.gX tok (a:=a) (a.drop n) rfl rfl rfl rfl rfl (al n) trivial (show n≤a.length by omega) (ap _) (by show(a.take a.length).drop n=_;rw[c7]) ?_;refine qP 1 rfl<|ai.nil<|qU 1 rfl<|qI<|AW.draw aO 19 (by kernel_rfl) ?_;refine qP 3 rfl<|qQ rfl c1<|qP 4 rfl<|qQ rfl c2<|qP 3 rfl<|qQ rfl cl<|qP 1 rfl ?_;rw[aD (x:=((j+1:Nat):Int) -1) (by omega) (by omega),show((j+1:Nat):Int) -1=(j:Int) by omega];refine ai.idx tok (ak (rt.getD j [])) rfl rfl rfl rfl rfl (al j) (qC (by omega)) ?_;exact qP 1 rfl<|qQ rfl c3<|qQ rfl c4<|qQ rfl c5<|ai.nil<|qU 1 rfl<|qN rfl
theorem Jl{rt:List NQ}{a:NQ}(hj:j≤l)(ha:a.length=2^(j+1))(hrt:cU rt)(hl:l<rt.length)(sa:au k a)(sr:dk k rt)(hk:sT (l+1) k≤17300000000000):Nu l rt a:=by
 obtain⟨e1,e2,e3⟩:=bt ha;have hx:ay l (a.take (a.length/2)):=.inr ⟨j,hj,e1⟩;have hy:ay l (a.drop (a.length/2)):=.inr ⟨j,hj,e2⟩;have hlog:a.length.log2-1=j:=by rw[ha,bv];omega
 have hd:ay l (rt.getD j []):=.inr ⟨j,hj,hrt j (by omega)⟩;have h0:=bP l k;have h1:=bP l (sT l k);have hk:sT l (sT l k)+sT l k+1≤17300000000000:=hk;have r1:=dy l hx hx hrt (by omega) (sa.take _) (sa.take _) sr;have r2:=dy l hy hy hrt (by omega) (sa.drop _) (sa.drop _) sr;have r3:=dy l r2.1 hd hrt (by omega) r2.2 ((sr _).mono (by omega)) (sr.mono (by omega));unfold Nu;rw[hlog];exact⟨rp l hx hx hrt (by omega) (sa.take _) (sa.take _) sr (by omega),rp l hy hy hrt (by omega) (sa.drop _) (sa.drop _) sr (by omega),rp l r2.1 hd hrt (by omega) r2.2 ((sr j).mono (by omega)) (sr.mono (by omega)) (by omega),r1.2.mono (by omega),r3.2.mono (by omega)⟩
def OL(O:NQ→Prop)(N:NQ→NQ)(Nk:NQ→Prop)(rt:List NQ)(s:NQ):Prop:=s.length≠0→s.length≠1 →
 O (s.take (s.length/2))∧O (s.drop (s.length/2))∧O (rt.getD (s.length.log2-1) [])∧Nk s∧O (N s)
def Jn:Nat→List NQ→NQ→Prop
 |0,rt,a=>qo a
 |l+1,rt,a=>qo a∧OL (Jn l rt) (e7 l rt) (Nu l rt) rt (aq a)
theorem rq: ∀(l:Nat) {k:Nat} {rt:List NQ} {a:NQ},ay l a→cU rt→l≤rt.length→au k a→dk k rt→ou l k→Jn l rt a
 |0,k,rt,a,ha,hrt,hl,sa,sr,hok=>sa.mono (b3 hok (by decide))
 |l+1,k,rt,a,ha,hrt,hl,sa,sr,hok=>by
  have hk:=tW hok;refine⟨sa.mono (by omega),fun h0 h1=>?_⟩;obtain⟨ha,sa⟩:=a6 ha sa;generalize aq a=b at ha sa h0 h1 ⊢
  obtain⟨i,hi,hla⟩: ∃i,i≤l+1∧b.length=2^i:=by
   rcases ha with e|e
   ·omega
   ·exact e
  have u9:i≠0:=fun e=>h1 (by rw[hla,e]);obtain⟨j,rfl⟩: ∃j,i=j+1:=⟨i-1,by omega⟩;have hj:j≤l:=by omega
  obtain⟨e1,e2,e3⟩:=bt hla;have hx:ay l (b.take (b.length/2)):=.inr ⟨j,hj,e1⟩;have hy:ay l (b.drop (b.length/2)):=.inr ⟨j,hj,e2⟩;have hlog:b.length.log2-1=j:=by rw[hla,bv];omega
  have hd:ay l (rt.getD (b.length.log2-1) []):=.inr ⟨j,hj,by rw[hlog];exact hrt j (by omega)⟩;have hn:=BB hj hla hrt (by omega) sa sr;have h2:=bP (l+1) k;have h3:=hok.1;exact⟨rq l hx hrt (by omega) (sa.take _) sr (lA hok),rq l hy hrt (by omega) (sa.drop _) sr (lA hok),rq l hd hrt (by omega) (sr _) sr (lA hok),Jl hj hla hrt (by omega) sa sr (by omega),rq l hn.1 hrt (by omega) hn.2 (sr.mono (by omega)) hok.2⟩
theorem Jn.sz{rt:List NQ}{a:NQ}(h:Jn l rt a):qo a:=by
 cases l with
 |zero=>exact h
 |succ l=>exact h.1
theorem zX{O:NQ→Prop}{Nk:NQ→Prop}{rt:List NQ}{a:NQ}(ha:ay l a)(hl5:l≤5)(hrt:cU rt)(hl:l≤rt.length)(hl10:rt.length≤10)(sa:qo a)(hok:l≠0→OL O N Nk rt (aq a))
  (hR: ∀l',l=l'+1→ ∀b,ay l' b→O b→Pure Tryz.prog 45 [fm rt,ak b] (dI (R b))) (hT: ∀b,zJ (R b))
  (hN: ∀l',l=l'+1→ ∀b j,j≤l'→b.length=2^(j+1)→Nk b→Pure Tryz.prog 87 [fm rt,ak b] (ak (N b))∧ay l' (N b)):
  Pure Tryz.prog 45 [fm rt,ak a] (dI (y7 R N rt (aq a))):=by
 refine qJ 64 Tryz.func45 rfl fun B F0 w0=>?_;have cs:=bO a ha hl5 sa (by omega);obtain⟨ha,sa⟩:=a6 ha sa;generalize aq a=b at cs ha sa hok ⊢;have hlb:=ha.len (by omega);unfold y7;refine qX 2 rfl<|qK 1 rfl<|qM rfl cs<|qU 1 rfl<|qI<|qX 2 rfl ?_;rw[aa];refine qU 1 rfl<|ae.nil ?_;by_cases h0:b.length=0
 ·rw[ah h0,h0];exact AW.aH rfl<|qX 1 rfl<|qN rfl
 rw[af h0,beq_eq_false_iff_ne.2 (show(b.length:Int)≠0 by omega)];refine AW.aC rfl<|AW.skip<|AW.seq<|qX 2 rfl ?_;rw[aa];refine qU 1 rfl<|ae.nil ?_;by_cases h1:b.length=1
 ·have g:=nK (r:=b) (i:=0) (by omega);have cq:=mR (Qr (b.getD 0 0)) (gz _ (sa 0)) (by omega);rw[b5,AU]at cq;rw[ah h1,h1];refine AW.aH rfl<|qX 1 rfl<|ae.idx tok (Qr (b.getD 0 0)).D rfl rfl rfl rfl (d4 _) g ?_;exact qU 1 rfl<|qM rfl cq<|qU 1 rfl<|qN rfl
 rw[af h1,beq_eq_false_iff_ne.2 (show(b.length:Int)≠1 by omega)];refine AW.aC rfl<|AW.skip ?_
 obtain⟨i,hi,hla2⟩: ∃i,i≤l∧b.length=2^i:=by
  rcases ha with e|e
  ·omega
  ·exact e
 have u9:i≠0:=fun e=>h1 (by rw[hla2,e]);obtain⟨j,rfl⟩: ∃j,i=j+1:=⟨i-1,by omega⟩;obtain⟨l',rfl⟩: ∃l',l=l'+1:=⟨l-1,by omega⟩;have hj:j≤l':=by omega
 have hR:=hR l' rfl;obtain⟨o1,o2,o3,o4,o5⟩:=hok (by omega) h0 h1;have hN:=hN l' rfl b j hj hla2 o4;obtain⟨e1,e2,e3⟩:=bt hla2;have hx:ay l' (b.take (b.length/2)):=.inr ⟨j,hj,e1⟩;have hy:ay l' (b.drop (b.length/2)):=.inr ⟨j,hj,e2⟩;have hlog:b.length.log2-1=j:=by rw[hla2,bv];omega
 have hd:ay l' (rt.getD j []):=.inr ⟨j,hj,hrt j (by omega)⟩;rw[hlog]at o3;have r1:=hR _ hx o1;have r2:=hR _ hy o2;have r3:=hR _ hd o3;have r4:=hR _ hN.2 o5;have t1:=hT (b.take (b.length/2));have t2:=hT (b.drop (b.length/2));have t4:=ni t1 (hT (N b));have cn:=hN.1;have cl:=fD (fX b) (by rw[aa];exact hla2) (by omega);rw[hlog];obtain⟨n,hn⟩: ∃n,n=b.length/2:=⟨_,rfl⟩;rw[←hn]at e1 e2 e3 hx hy r1 r2 t1 t2 t4 ⊢;generalize R (b.take n)=x at r1 t1 t4 ⊢;generalize R (b.drop n)=y at r2 t2 ⊢;generalize R (rt.getD j [])=z at r3 ⊢;generalize R (N b)=u at r4 t4 ⊢;refine qX 2 rfl ?_;rw[aa];refine ae.div tok rfl rfl rfl rfl (by decide) ?_;rw[iM _ (by omega),←hn];refine qU 1 rfl<|qI<|AW.draw aO 10 (by kernel_rfl) ?_;refine qP 3 rfl ?_;refine ai.gX tok (a:=b) (b.take n) rfl rfl rfl rfl rfl trivial (al n) (an _) (show n≤b.length by omega) rfl ?_;refine qQ rfl r1<|qP 3 rfl ?_;refine ai.gX tok (a:=b) (b.drop n) rfl rfl rfl rfl rfl (al n) trivial (show n≤b.length by omega) (ap _) (by show(b.take b.length).drop n=_;rw[c7]) ?_;refine qQ rfl r2<|ai.nil<|qU 2 rfl<|qI<|AW.seq<|AW.draw aO 10 (by kernel_rfl) ?_;refine qP 4 rfl<|qQ rfl cl<|qP 1 rfl ?_;rw[aD (x:=((j+1:Nat):Int) -1) (by omega) (by omega),show((j+1:Nat):Int) -1=(j:Int) by omega];refine ai.idx tok (ak (rt.getD j [])) rfl rfl rfl rfl rfl (al j) (qC (by omega)) ?_;refine qP 1 rfl<|qQ rfl r3<|qP 1 rfl<|ai.nil<|ae.nil ?_;by_cases hz:z=0
 ·rw[ah hz,beq_iff_eq.2 hz];exact AW.aH rfl<|qX 2 rfl<|qN rfl
 rw[af hz,beq_eq_false_iff_ne.2 hz];refine AW.aC rfl<|AW.skip<|AW.seq<|AW.block<|qX 3 rfl ?_;by_cases hxy:x=y
 ·rw[ah (.inl hxy),beq_iff_eq.2 hxy];exact qU 5 rfl<|ae.nil<|AW.aH rfl<|qX 2 rfl<|qN rfl
 rw[beq_eq_false_iff_ne.2 hxy];refine qU 3 rfl ?_;by_cases hy0:y=0
 ·rw[ah (.inr hy0),beq_iff_eq.2 hy0];exact qU 2 rfl<|ae.nil<|AW.aH rfl<|qX 2 rfl<|qN rfl
 rw[af (fun h=>h.elim hxy hy0),beq_eq_false_iff_ne.2 hy0];refine qU 2 rfl<|ae.nil<|AW.aC rfl<|qX 3 rfl<|ae.nil ?_;by_cases hx0:x=0
 ·rw[ah hx0,beq_iff_eq.2 hx0];exact AW.aH rfl<|qX 2 rfl<|qN rfl
 rw[af hx0,beq_eq_false_iff_ne.2 hx0];refine AW.aC rfl<|AW.skip<|AW.seq<|AW.draw aO 7 (by kernel_rfl) ?_;refine qP 4 rfl<|qQ rfl cn<|qQ rfl r4<|qP 1 rfl ?_;rw[aD (x:=x*u) (by unfold zJ at t4;omega) (by unfold zJ at t4;omega)];exact ai.nil<|qU 1 rfl<|qN rfl
theorem fZ: ∀(l:Nat) {rt:List NQ} {a:NQ},ay l a→l≤5→cU rt→l≤rt.length→rt.length≤10→Jn l rt a→Pure Tryz.prog 45 [fm rt,ak a] (dI (ec l rt a))
 |0,rt,a,ha,hl5,hrt,hl,hl10,hok=>zX (O:=fun _=>True) (Nk:=fun _=>True) ha hl5 hrt hl hl10 hok (fun h=>aG rfl h) (fun l' h=>by omega) (fun _=>.inl rfl) (fun l' h=>by omega)
 |l+1,rt,a,ha,hl5,hrt,hl,hl10,hok=>zX (O:=Jn l rt) (Nk:=Nu l rt) ha hl5 hrt hl hl10 hok.1 (fun _=>hok.2) (fun l' e b h1 h2=>by
   obtain rfl:l=l':=by omega
   exact fZ l h1 (by omega) hrt (by omega) hl10 h2) (pK l rt) (fun l' e b j h1 h2 h3=>by
   obtain rfl:l=l':=by omega
   exact⟨oD h1 h2 hrt (by omega) hl10 h3,wc h1 h2 hrt (by omega)⟩)
theorem qn(l:Nat){rt:List NQ}{a:NQ}(ha:ay l a)(hl5:l≤5)(hrt:cU rt)(hl:l≤rt.length)(hl10:rt.length≤10)(sa:au k a)(sr:dk k rt)(hok:ou l k):Pure Tryz.prog 45 [fm rt,ak a] (dI (ec l rt a)) :=
 fZ l ha hl5 hrt hl hl10 (rq l ha hrt hl sa sr hok)
abbrev bo(a:List RD):D:=.sl 3 (a.map RD.D)
abbrev uF(rt:List (List RD)):D:=.ag [.sl 1 (rt.map bo)]
def lY(a:List RD):Bool:=a.all RD.okB
def E9(m n:Nat):Bool:=(f5 (m+1)).any fun i=>decide (n=2^i)
def bF(m:Nat)(a:List RD):Nat:=if a.length≠0∧E9 m a.length=false then 10 else if lY a=false then 2 else 0
def aA(a:List RD):NQ:=a.map RD.val
def wN(k:Nat)(a:List RD):Prop:= ∀i,i<a.length→(a.getD i default).w k
def yS(rt:List (List RD))(k:Nat):Nat:=if (rt.getD k []).length≠2^k then 10 else if bF k (rt.getD k [])≠0 then bF k (rt.getD k [])else if ec k ((rt.take k).map aA) (aA (rt.getD k []))<0 then 3 else 0
def df(rt:List (List RD)):Nat:=if 5<rt.length then 4 else fE (yS rt) (rt.length-0) 0
def kL(rt l:List (List RD)):Nat:=if df rt≠0 then df rt else fE (fun i=>bF rt.length (l.getD i [])) (l.length-0) 0
theorem Dq(a:List RD)(i:Nat):(aA a).getD i 0=if i<a.length then(a.getD i default).val else 0:=by
 unfold aA;rw[am,ce,am];by_cases h:i<a.length
 ·rw[ah h,az h];rfl
 ·rw[af h,c' (by omega)];rfl
theorem oH{a:List RD}(h:wN k a)(h1:1≤k):au k (aA a):=fun c=>by
 rw[Dq];split
 ·rename_i hc;exact bU (h c hc) h1
 ·exact lK h1
theorem mM{a:List RD}(hw:wN k a)(h:lY a=true):bo a=ak (aA a):=by
 show D.sl 3 (a.map RD.D)=D.sl 3 (gy _ (gy _ a));rw[dT]
 congr 1
 refine e' fun x hx=>?_;obtain⟨i,hi,rfl⟩:=e6.1 hx;have hi2:=hw i hi;rw[am,az hi]at hi2;unfold lY at h;rw[dn]at h;have:=RD.canon hi2 (h _ (go hi));simp only[f4]at this;show(a[i]).D=(Qr (a[i]).val).D;rw[←this]
theorem Dt{l:List RD}(hi:i<l.length)(h:(l.getD i default).okB=false):lY l=false:=N7 hi h
theorem Aj{l:List RD}(h: ∀i,i<l.length→(l.getD i default).okB=true):lY l=true:=Mf h
theorem BM(m i:Nat):E9 m (2^i)=decide (i≤m):=by
 unfold E9;by_cases h:i≤m
 ·rw[aN h,d0];exact⟨i,d'.2 (by omega),aN rfl⟩
 ·rw[a5 h,f9];intro j hj;have hj:=d'.1 hj;rw[a5]
  ·simp
  ·intro e;have h1:=iZ (eY e);omega
theorem LH(h: ∀i,n≠2^i):E9 m n=false:=by unfold E9;rw[f9];intro j _;rw[a5 (h j)];simp
theorem Jv(h:E9 m n=true): ∃i,i≤m∧n=2^i:=by unfold E9 at h;rw[d0]at h;obtain⟨i,h1,h2⟩:=h;exact⟨i,by have:=d'.1 h1;omega,ao h2⟩
theorem sQ{a:List RD}(h:bF m a=0):ay m (aA a)∧lY a=true:=by
 unfold bF at h;split at h
 ·cases h
 rename_i h1;split at h
 ·cases h
 rename_i h2;constructor
 ·by_cases h0:a.length=0
  ·exact .inl (by unfold aA;rw[aa];exact h0)
  ·have h3:E9 m a.length=true:=by
    cases hv:E9 m a.length
    ·exact aG ⟨h0,hv⟩ h1
    ·rfl
   obtain⟨i,h4,h5⟩:=Jv h3;exact .inr ⟨i,h4,by unfold aA;rw[aa];exact h5⟩
 ·cases hv:lY a
  ·exact aG hv h2
  ·rfl
def FO(m:Nat)(a:List RD):Prop:= ¬(a.length≠0∧E9 m a.length=false)
theorem Bx{a:List RD}(h:bF m a=0):FO m a:=by
 unfold bF at h;split at h
 ·cases h
 ·assumption
theorem nS(xs:List D)(a:List RD)(hw:FO xs.length a→wN k a)(hk:k≤17300000000000)(hl:a.length≤4398046511104)(hx:xs.length≤1000000):Pure Tryz.prog 80 [.ag [.sl 1 xs],bo a] (tE (bF xs.length a)):=by
 refine qJ 34 Tryz.func80 rfl fun B F0 w0=>?_;have hno:=fun i hi=>Dt (l:=a) (i:=i) hi;have hyes:=Aj (l:=a);unfold bF;generalize lY a=E at hno hyes ⊢;refine qX 2 rfl<|ae.nil ?_;refine AW.cut [1] (fun _:Unit=>[(1,.d (bo a))]) (fun _=> ¬(a.length≠0∧E9 xs.length a.length=false)) ?_ fun _ hs=>?_
 ·refine qX 2 rfl ?_;rw[aa];refine qU 1 rfl<|ae.nil ?_;by_cases h0:a.length=0
  ·rw[h0];refine AW.aC rfl<|AW.skip ?_;exact⟨(),rfl,fun h=>h.1 rfl⟩
  rw[aN (show(0:Int)<(a.length:Int) by omega)];refine AW.aH rfl ?_;by_cases hp: ∃i,a.length=2^i
  ·obtain⟨i,hp⟩:=hp
   have hi:i≤42:=by refine iZ ?_;rw[←hp];omega
   have cl:=fD (a.map RD.D) (by rw[aa];exact hp) (by omega);rw[hp,BM];refine qX 1 rfl<|qM rfl cl<|qU 1 rfl<|qK 2 rfl ?_;rw[a5 (show ¬((i:Int)<0) by omega)];refine qU 6 rfl ?_;by_cases hm:i≤xs.length
   ·rw[aN hm,a5 (show ¬((xs.length:Int)<(i:Int)) by omega)];refine qU 1 rfl<|ae.nil<|AW.aC rfl<|AW.skip ?_;exact⟨(),rfl,fun h=>by cases h.2⟩
   ·rw[a5 hm,aN (show(xs.length:Int)<(i:Int) by omega),ah ⟨by have:=Nat.two_pow_pos i;omega,rfl⟩];exact qU 1 rfl<|ae.nil<|AW.aH rfl<|qX 2 rfl<|qN rfl
  ·have hp: ∀i,a.length≠2^i:=fun i e=>hp ⟨i,e⟩;have cl:=nT (a.map RD.D) (by rw[aa];exact hp) (by rw[aa];omega);rw[ah ⟨h0,LH hp⟩];exact qX 1 rfl<|qM rfl cl<|qU 1 rfl<|qK 9 rfl<|ae.nil<|AW.aH rfl<|qX 2 rfl<|qN rfl
 ·rw[af hs];have hw:=hw hs;show AW _ _ _ _ _ _ _ [(1,.d (bo a))];refine AW.seq<|qX 2 rfl ?_;rw[aa];refine qU 1 rfl<|ae.nil ?_;refine AW.block<|AW.aK [23,24,25] (fun i:Nat=>[(23,.d (bo a)),(24,.d (dI a.length)),(25,.d (dI i))]) (fun i=>i≤a.length∧ ∀j,j<i→(a.getD j default).okB=true) (fun i=>a.length-i) 0 rfl ⟨an _,fun j hj=>by omega⟩ fun i ⟨hi,hall⟩=>?_;refine qX 1 rfl<|qI<|AW.cond rfl (fun h=>?_) fun h=>?_
  ·have hii:i<a.length:=by have:=ao h;omega
   have hg:=getM RD.D (l:=a) (i:=i) hii;have hno:=hno i hii;have cv:=fV (a.getD i default) (hw i hii) (by omega);refine AW.skip<|AW.seq<|AW.block<|AW.seq<|AW.region<|ae.idx tok (a.getD i default).D rfl rfl rfl rfl (al i) hg ?_;refine qU 3 rfl<|qK 1 rfl<|qM rfl cv<|qU 1 rfl ?_;cases hv:(a.getD i default).okB with
   |false =>
    rw[hno hv,ah rfl];exact ae.nil<|AW.aH rfl<|qX 2 rfl<|qN rfl
   |true =>
    refine ae.nil<|AW.aC rfl<|AW.skip<|qT 1 rfl ?_;rw[aD (x:=(i:Int)+1) (by omega) (by omega)];refine qU 1 rfl<|ae.nil ?_
    exact⟨i+1,rfl,⟨hii,fun j hj=>by
     by_cases e:j=i
     ·subst e;exact hv
     ·exact hall j (by omega)⟩,by omega⟩
  have hii:i=a.length:=by have:=ar h;omega
  subst hii;rw[hyes hall,af (by simp)];exact AW.exit<|qX 1 rfl<|qN rfl
theorem IF(rt:List (List RD))(k:Nat):((rt.map bo).take (dm (rt.map bo).length (some (k:Int)))).drop (gA none)=(rt.take k).map bo:=by show((rt.map bo).take k).drop 0=_;rw[List.drop_zero,ef]
theorem qW(hw: ∀i,i<k→wN m (rt.getD i []))(hk:k≤rt.length)(h: ∀j,j<k→lY (rt.getD j [])=true):(rt.take k).map bo=((rt.take k).map aA).map ak:=by
 rw[dT];refine e' fun x hx=>?_;obtain⟨i,hi,rfl⟩:=e6.1 hx;rw[ax]at hi
 have e:(rt.take k)[i]'(by rw[ax];exact hi)=rt.getD i []:=by rw[List.getElem_take,am,az (by omega)];rfl
 rw[e];exact mM (hw i (by omega))<|h i (by omega)
theorem rU(hi:i<k):((rt.take k).map aA).getD i []=aA (rt.getD i []):=by
 rw[am,ce,eL hi,am];cases rt[i]? with
 |none=>rfl
 |some x=>rfl
theorem Hi(hi:k≤i):((rt.take k).map aA).getD i []=[]:=by rw[am,c' (by rw[aa,ax];omega)];rfl
theorem gU(hk:k≤rt.length):((rt.take k).map aA).length=k:=by rw[aa,ax];omega
theorem vT(hw: ∀i,i<k→wN m (rt.getD i []))(h1:1≤m)(hk:k≤rt.length):dk m ((rt.take k).map aA):=fun i=>by
 by_cases h:i<k
 ·rw[rU h];exact oH (hw i (by omega)) h1
 ·rw[Hi (by omega)];exact db h1
theorem Jp(a:List RD):(aA a).length=a.length:=aa ..
theorem jD(h:yS rt k=0):(rt.getD k []).length=2^k∧lY (rt.getD k [])=true∧ ¬ec k ((rt.take k).map aA) (aA (rt.getD k []))<0:=by
 unfold yS at h;split at h
 ·cases h
 rename_i h1;split at h
 ·rename_i h2;exact aG h h2
 rename_i h2;split at h
 ·cases h
 rename_i h3;exact⟨by omega,(sQ (m:=k) (by omega)).2,h3⟩
theorem nh(hk:k≤rt.length)(h: ∀j,j<k→yS rt j=0):cU ((rt.take k).map aA):=fun j hj=>by rw[gU hk]at hj;rw[rU hj,Jp];exact(jD (h j hj)).1
theorem tV(h:ou l k)(hm:m≤l):ou m k:=by
 induction l with
 |zero=>obtain rfl:m=0:=by omega
        exact h
 |succ l ih =>
  by_cases e:m=l+1
  ·rw[e];exact h
  ·exact ih (lA h) (by omega)
theorem k9(rt:List (List RD))(hw: ∀i,i<rt.length→(rt.getD i []).length=2^i→wN m (rt.getD i []))(h1:1≤m)(hl:rt.length≤1000000)(hll: ∀i,i<rt.length→(rt.getD i []).length≤4398046511104)(hok:rt.length≤5→ou rt.length m):Pure Tryz.prog 79 [uF rt] (tE (df rt)):=by
 refine qJ 43 Tryz.func79 rfl fun B F0 w0=>?_;unfold df;obtain⟨E,hE⟩: ∃E,fE (yS rt) (rt.length-0) 0=E:=⟨_,rfl⟩;rw[hE];refine qX 2 rfl<|qI<|qX 3 rfl ?_;rw[aa];refine qU 1 rfl<|ae.nil ?_;by_cases h5:5<rt.length
 ·rw[ah h5,aN (show(5:Int)<(rt.length:Int) by omega)];exact AW.aH rfl<|qX 2 rfl<|qN rfl
 rw[af h5,a5 (show ¬(5:Int)<(rt.length:Int) by omega)];have hok:=hok (by omega);have hm7:=tW hok;refine AW.aC rfl<|AW.skip<|AW.seq<|qX 3 rfl ?_;rw[aa];refine qU 1 rfl<|ae.nil ?_;refine AW.block<|AW.aK [1,13,14,15] (fun i:Nat=>[(1,.bx [.sl 1 (rt.map bo)]),(13,.d (.sl 1 (rt.map bo))),(14,.d (dI rt.length)),(15,.d (dI i))]) (fun i=>i≤rt.length∧fE (yS rt) (rt.length-i) i=E∧ ∀j,j<i→yS rt j=0) (fun i=>rt.length-i) 0 rfl ⟨an _,hE,fun j hj=>by omega⟩ fun i ⟨hi,hiE,hall⟩=>?_;refine qX 1 rfl ?_;refine qI<|AW.cond rfl (fun h=>?_) fun h=>?_;rotate_left
 ·have hii: ¬i<rt.length:=by have:=ar h;omega
  rw[eC hii]at hiE;subst hiE;exact AW.exit<|qX 1 rfl<|qN rfl
 have hii:i<rt.length:=by have:=ao h;omega
 have hg:(rt.map bo)[i]?=some (bo (rt.getD i [])):=by simp[hii]
 have hwi:=hw i hii;have hli:=hll i hii;have hmiss:=fun h0:yS rt i=0=>(cQ hii h0).symm.trans hiE;have hhit:=fun h0:yS rt i≠0=>(ez hii h0).symm.trans hiE;have hp:2^i≤2^5:=cS (by decide) (by omega);have hrt:yS rt i=if (rt.getD i []).length≠2^i then 10 else if bF i (rt.getD i [])≠0 then bF i (rt.getD i [])else if ec i ((rt.take i).map aA) (aA (rt.getD i []))<0 then 3 else 0:=rfl
 refine AW.skip<|AW.seq<|AW.block<|qX 1 rfl<|ae.idx tok (bo (rt.getD i [])) rfl rfl rfl rfl (al i) hg ?_;refine qU 3 rfl<|qI<|qX 2 rfl ?_;rw[aa];refine qU 2 rfl ?_;rw[CM (by omega)];refine qU 1 rfl<|ae.nil ?_;by_cases e1:(rt.getD i []).length=2^i;rotate_left
 ·rw[ah e1]at hrt;rw[bne_iff_ne.2 (show(((rt.getD i []).length:Nat):Int)≠((2^i:Nat):Int) by omega)];have:=hhit (by rw[hrt];decide);rw[hrt]at this;subst this;exact AW.aH rfl<|qX 2 rfl<|qN rfl
 rw[af (fun h=>h e1)]at hrt;have hwi:=hwi e1;have cn:=nS ((rt.take i).map bo) (rt.getD i []) (fun _=>hwi) (by omega) hli (by rw[aa,ax];omega);rw[aa,ax,Nat.min_eq_left hi]at cn;rw[e1,bne_eq_false_iff_eq.2 rfl];refine AW.aC rfl<|AW.skip<|qX 3 rfl ?_;refine ae.CK tok rfl rfl rfl rfl trivial (al i) (an _) (by show i≤_;rw[aa];omega) ?_;rw[IF];refine qU 3 rfl<|qI<|qX 2 rfl<|qM rfl cn<|qU 1 rfl<|ae.nil ?_;rcases e2:bF i (rt.getD i [])with _|z
 rotate_left
 ·rw[e2,ah (bn z)]at hrt;have:=hhit (by rw[hrt];exact bn z);rw[hrt]at this;subst this;exact qX 1 rfl<|qR rfl rfl<|ae.nil<|AW.aH rfl<|qX 2 rfl<|qN rfl
 rw[af (by rw[e2];simp)]at hrt;obtain⟨n1,n2⟩:=sQ e2;have cs:=qn i (k:=m) n1 (by omega) (nh hi hall) (by rw[gU hi];exact ap _) (by rw[gU hi];omega) (oH hwi h1) (vT (fun j hj=>hw j (by omega) (jD (hall j hj)).1) h1 hi) (tV hok hi);have tr:=pK i ((rt.take i).map aA) (aA (rt.getD i []));rw[show fm ((rt.take i).map aA)= .ag [.sl 1 ((rt.take i).map bo)]from by rw[qW (fun j hj=>hw j (by omega) (jD (hall j hj)).1) hi (fun j hj=>(jD (hall j hj)).2.1)],←mM hwi n2]at cs;generalize ec i ((rt.take i).map aA) (aA (rt.getD i []))=s at cs hrt tr;refine qX 1 rfl<|qR rfl rfl<|ae.nil<|AW.aC rfl<|AW.skip<|qX 2 rfl<|qM rfl cs<|qU 1 rfl<|ae.nil ?_;by_cases e3:s<0
 ·rw[ah e3]at hrt;rw[aN e3];have:=hhit (by rw[hrt];decide);rw[hrt]at this;subst this;exact AW.aH rfl<|qX 2 rfl<|qN rfl
 rw[af e3]at hrt;rw[a5 e3];refine AW.aC rfl<|AW.skip<|qT 1 rfl ?_;rw[aD (x:=(i:Int)+1) (by omega) (by omega)];refine qU 1 rfl<|ae.nil ?_
 exact⟨i+1,rfl,⟨hii,hmiss hrt,fun j hj=>by
  by_cases e:j=i
  ·rw[e];exact hrt
  ·exact hall j (by omega)⟩,by omega⟩
theorem ib(rt l:List (List RD)){mn:Nat}(hw: ∀i,i<rt.length→(rt.getD i []).length=2^i→wN m (rt.getD i []))(h1:1≤m)(hl:rt.length≤1000000)(hll: ∀i,i<rt.length→(rt.getD i []).length≤4398046511104)(hok:rt.length≤5→ou rt.length m)
  (hlw: ∀i,i<l.length→FO rt.length (l.getD i [])→wN mn (l.getD i [])) (hl2:l.length≤1000000) (hl3: ∀i,i<l.length→(l.getD i []).length≤4398046511104) (hm:mn≤17300000000000):Pure Tryz.prog 42 [uF rt,.sl 1 (l.map bo)] (tE (kL rt l)):=by
 refine qJ 27 Tryz.func42 rfl fun B F0 w0=>?_;have cC:=k9 rt hw h1 hl hll hok;unfold kL;obtain⟨E,hE⟩: ∃E,fE (fun i=>bF rt.length (l.getD i [])) (l.length-0) 0=E:=⟨_,rfl⟩;rw[hE];refine qX 2 rfl<|qI<|qX 1 rfl<|qM rfl cC<|qU 1 rfl<|ae.nil ?_;rcases e2:df rt with _|z
 rotate_left
 ·rw[ah (bn z)];exact qX 1 rfl<|qR rfl rfl<|ae.nil<|AW.aH rfl<|qX 2 rfl<|qN rfl
 rw[af (by simp)];refine qX 1 rfl<|qR rfl rfl<|ae.nil<|AW.aC rfl<|AW.skip<|AW.seq<|qX 2 rfl ?_;rw[aa];refine qU 1 rfl<|ae.nil ?_;refine AW.block<|AW.aK [2,14,15,16] (fun i:Nat=>[(2,.bx [.sl 1 (rt.map bo)]),(14,.d (.sl 1 (l.map bo))),(15,.d (dI l.length)),(16,.d (dI i))]) (fun i=>i≤l.length∧fE (fun i=>bF rt.length (l.getD i [])) (l.length-i) i=E) (fun i=>l.length-i) 0 rfl ⟨an _,hE⟩ fun i ⟨hi,hiE⟩=>?_;refine qX 1 rfl ?_;refine qI<|AW.cond rfl (fun h=>?_) fun h=>?_;rotate_left
 ·have hii: ¬i<l.length:=by have:=ar h;omega
  rw[eC hii]at hiE;subst hiE;exact AW.exit<|qX 1 rfl<|qN rfl
 have hii:i<l.length:=by have:=ao h;omega
 have hg:(l.map bo)[i]?=some (bo (l.getD i [])):=by simp[hii]
 have hmiss:=fun h0:bF rt.length (l.getD i [])=0=>(cQ (f:=fun i=>bF rt.length (l.getD i [])) hii h0).symm.trans hiE;have hhit:=fun h0:bF rt.length (l.getD i [])≠0=>(ez (f:=fun i=>bF rt.length (l.getD i [])) hii h0).symm.trans hiE;have cn:=nS (rt.map bo) (l.getD i []) (fun h=>hlw i hii (by rw[aa]at h;exact h)) hm (hl3 i hii) (by rw[aa];omega);rw[aa]at cn;refine AW.skip<|AW.seq<|AW.block<|AW.seq<|AW.region<|ae.idx tok (bo (l.getD i [])) rfl rfl rfl rfl (al i) hg ?_;refine qU 2 rfl<|qK 2 rfl<|qM rfl cn<|qU 1 rfl<|ae.nil ?_;generalize bF rt.length (l.getD i [])=v at hmiss hhit;rcases v with _|z
 rotate_left
 ·have:=hhit (bn z);subst this;exact qX 1 rfl<|qR rfl rfl<|ae.nil<|AW.aH rfl<|qX 2 rfl<|qN rfl
 refine qX 1 rfl<|qR rfl rfl<|ae.nil<|AW.aC rfl<|AW.skip<|qT 1 rfl ?_;rw[aD (x:=(i:Int)+1) (by omega) (by omega)];refine qU 1 rfl<|ae.nil ?_;exact⟨i+1,rfl,⟨hii,hmiss rfl⟩,by omega⟩
theorem pq(h:df rt=0):rt.length≤5∧ ∀j,j<rt.length→yS rt j=0:=by
 unfold df at h;split at h
 ·cases h
 rename_i h1
 have key: ∀(m i:Nat),fE (yS rt) m i=0→ ∀j,i≤j→j<i+m→yS rt j=0:=by
  intro m
  induction m with
  |zero=>intro i _ j h1 h2;omega
  |succ m ih =>
   intro i h j h1 h2;rw[fE]at h;split at h
   ·rename_i h0;by_cases e:j=i
    ·rw[e];exact h0
    ·exact ih (i+1) h j (by omega) (by omega)
   ·rename_i h0;exact aG h h0
 exact⟨by omega,fun j hj=>key _ _ h j (an _) (by omega)⟩
def IH(rt:List (List RD))(a:List RD):D:=if kL rt [a]≠0 then .tu [dI 0,tE (kL rt [a])]else .tu [dI (ec rt.length (rt.map aA) (aA a)),bd]
theorem Cd{a:List RD}(h:kL rt [a]=0):df rt=0∧bF rt.length a=0:=by
 unfold kL at h;split at h
 ·rename_i h0;exact aG h h0
 rename_i h0;refine⟨by omega,?_⟩;have e:fE (fun i=>bF rt.length ([a].getD i [])) ([a].length-0) 0=if bF rt.length a=0 then 0 else bF rt.length a:=rfl
 rw[e]at h;split at h
 ·assumption
 ·rename_i h1;exact aG h h1
theorem yY(rt:List (List RD))(a:List RD)(hw: ∀i,i<rt.length→(rt.getD i []).length=2^i→wN m (rt.getD i []))(h1:1≤m)(hl:rt.length≤1000000)(hll: ∀i,i<rt.length→(rt.getD i []).length≤4398046511104)(hok:rt.length≤5→ou rt.length m)
  (haw:FO rt.length a→wN m a) (hal:a.length≤4398046511104) (hm:m≤17300000000000):Pure Tryz.prog 22 [uF rt,bo a] (IH rt a):=by
 refine qJ 17 Tryz.func22 rfl fun B F0 w0=>?_
 have h0: ∀i,i<[a].length→i=0:=fun i hi=>by have:i<1:=hi;omega
 have cc:=ib rt [a] hw h1 hl hll hok (fun i hi=>by rw[h0 i hi];exact haw) (show 1≤1000000 by decide) (fun i hi=>by rw[h0 i hi];exact hal) hm;unfold IH;refine qX 3 rfl<|qI<|qX 2 rfl<|ae.ku tok rfl rfl rfl rfl rfl ?_;refine qM rfl cc<|qU 1 rfl<|ae.nil ?_;rcases e2:kL rt [a]with _|z
 rotate_left
 ·rw[ah (bn z)];exact qX 1 rfl<|qR rfl rfl<|ae.nil<|AW.aH rfl<|qX 3 rfl<|qN rfl
 rw[af (by simp)];obtain⟨k1,k2⟩:=Cd e2;obtain⟨k3,k4⟩:=pq k1;obtain⟨n1,n2⟩:=sQ k2;have vo:=nh (k:=rt.length) (ap _) k4;have vl:=gU (rt:=rt) (k:=rt.length) (ap _);have vs:=vT (k:=rt.length) (fun j hj=>hw j hj (jD (k4 j hj)).1) h1 (ap _);have vc:=qW (k:=rt.length) (fun j hj=>hw j hj (jD (k4 j hj)).1) (ap _) (fun j hj=>(jD (k4 j hj)).2.1);rw[c7]at vo vl vs vc;have cs:=qn rt.length (k:=m) n1 k3 vo (by rw[vl];exact ap _) (by rw[vl];omega) (oH (haw (Bx k2)) h1) vs (hok k3);rw[show fm (rt.map aA)= .ag [.sl 1 (rt.map bo)]from by rw[vc],←mM (haw (Bx k2)) n2]at cs;exact qX 1 rfl<|qR rfl rfl<|ae.nil<|AW.aC rfl<|AW.skip<|qX 2 rfl<|qM rfl cs<|qU 2 rfl<|qN rfl
structure qj (m:Nat) (rt:List (List RD)):Prop where
 t: ∃m0,1≤m0∧m0≤m∧(∀i,i<rt.length→(rt.getD i []).length=2^i→wN m0 (rt.getD i []))∧(rt.length≤5→ou rt.length m0)
 m2:m≤1000000
 l:rt.length≤1000000
 ll: ∀i,i<rt.length→(rt.getD i []).length≤4398046511104
theorem qj.m1(T:qj m rt):1≤m:=by obtain⟨m0,h1,h2,_⟩:=T.t;omega
structure kR (m:Nat) (rt:List (List RD)) (a:List RD):Prop where
 w:FO rt.length a→wN m a
 l:a.length≤4398046511104
theorem FK{a:List RD}(T:qj m rt)(A:kR m rt a):Pure Tryz.prog 42 [uF rt,.sl 1 [bo a]] (tE (kL rt [a])):=by
 have hm:=T.m2
 have h0: ∀i,i<[a].length→i=0:=fun i hi=>by have:i<1:=hi;omega
 obtain⟨m0,t1,t2,tw,tk⟩:=T.t;exact ib rt [a] tw t1 T.l T.ll tk (fun i hi=>by rw[h0 i hi];exact A.w) (show 1≤1000000 by decide) (fun i hi=>by rw[h0 i hi];exact A.l) (by omega)
theorem rI{a:List RD}(T:qj m rt)(A:kR m rt a)(B:kR m rt b):Pure Tryz.prog 42 [uF rt,.sl 1 [bo a,bo b]] (tE (kL rt [a,b])):=by
 have hm:=T.m2
 have h0: ∀i,i<[a,b].length→i=0∨i=1:=fun i hi=>by have:i<2:=hi;omega
 obtain⟨m0,t1,t2,tw,tk⟩:=T.t;exact ib rt [a,b] tw t1 T.l T.ll tk (fun i hi=>by rcases h0 i hi with rfl|rfl;exact A.w;exact B.w) (show 2≤1000000 by decide) (fun i hi=>by rcases h0 i hi with rfl|rfl;exact A.l;exact B.l) (by omega)
theorem Cc{a:List RD}(h:kL rt [a,b]=0):df rt=0∧bF rt.length a=0∧bF rt.length b=0:=by
 unfold kL at h;split at h
 ·rename_i h0;exact aG h h0
 rename_i h0;have e:fE (fun i=>bF rt.length ([a,b].getD i [])) ([a,b].length-0) 0=if bF rt.length a=0 then(if bF rt.length b=0 then 0 else bF rt.length b)else bF rt.length a:=rfl
 rw[e]at h;by_cases h1:bF rt.length a=0
 ·rw[ah h1]at h;by_cases h2:bF rt.length b=0
  ·exact⟨by omega,h1,h2⟩
  ·rw[af h2]at h;exact aG h h2
 ·rw[af h1]at h;exact aG h h1
structure Qm (m:Nat) (rt:List (List RD)) (v:List NQ):Prop where
 l5:rt.length≤5
 ln:v.length=rt.length
 ro:cU v
 sz:dk m v
 t: ∃m0,1≤m0∧m0≤m∧dk m0 v∧ou rt.length m0
 ps: ∀k,k<v.length→ ¬ec k (v.take k) (v.getD k [])<0
 eq:uF rt=fm v
theorem rV(T:qj m rt)(h:df rt=0):Qm m rt (rt.map aA):=by
 obtain⟨k3,k4⟩:=pq h;have vo:=nh (k:=rt.length) (ap _) k4;have vl:=gU (rt:=rt) (k:=rt.length) (ap _);obtain⟨m0,t1,t2,tw,tk⟩:=T.t;have hw:=fun j hj=>tw j hj (jD (k4 j hj)).1;have vs:=vT (k:=rt.length) hw t1 (ap _);have vc:=qW (k:=rt.length) hw (ap _) (fun j hj=>(jD (k4 j hj)).2.1);rw[c7]at vo vl vs vc;refine⟨k3,vl,vo,vs.mono t2,⟨m0,t1,t2,vs,tk k3⟩,fun k hk=>?_,by show D.ag [.sl 1 (rt.map bo)]=_;rw[vc]⟩;rw[vl]at hk;have:=(jD (k4 k hk)).2.2
 have e:(rt.map aA).getD k []=aA (rt.getD k []):=by rw[am,ce,am,az hk];rfl
 rw[e,←ef];exact this
theorem kC{a:List RD}(m1:1≤m)(A:kR m rt a)(h:bF rt.length a=0):ay rt.length (aA a)∧au m (aA a)∧bo a=ak (aA a):=by obtain⟨n1,n2⟩:=sQ h;have w:=A.w (Bx h);exact⟨n1,oH w m1,mM w n2⟩
def Nt(rt:List (List RD))(a:List RD)(F:NQ→NQ):D:=if kL rt [a]≠0 then .tu [ak [],tE (kL rt [a])]else .tu [ak (F (aA a)),bd]
def Br(rt:List (List RD))(a b:List RD)(F:NQ→NQ→NQ):D:=if kL rt [a,b]≠0 then .tu [ak [],tE (kL rt [a,b])]else .tu [ak (F (aA a) (aA b)),bd]
theorem AL{a:List RD}(T:qj m rt)(A:kR m rt a):Pure Tryz.prog 101 [uF rt,bo a] (Nt rt a (fun x=>aq (aP x))):=by
 refine qJ 17 Tryz.func101 rfl fun B0 F0 w0=>?_;have cc:=FK T A;have hm:=T.m2;unfold Nt;refine qX 3 rfl<|qI<|qX 2 rfl<|ae.ku tok rfl rfl rfl rfl rfl ?_;refine qM rfl cc<|qU 1 rfl<|ae.nil ?_;rcases e2:kL rt [a]with _|z
 rotate_left
 ·rw[ah (bn z)];exact qX 1 rfl<|qR rfl rfl<|ae.nil<|AW.aH rfl<|qX 3 rfl<|qN rfl
 rw[af (by simp)];obtain⟨k1,k2⟩:=Cd e2;have W:=rV T k1;have hl5:=W.l5;obtain⟨n1,n2,n3⟩:=kC T.m1 A k2;have c1:=f' (aA a) (k:=m) n2 (by omega) (b3 (n1.len (by omega)) (by decide));have c2:=bO (aP (aA a)) n1.minus hl5 n2.minus (by omega);rw[←n3]at c1;refine qX 1 rfl<|qR rfl rfl<|ae.nil<|AW.aC rfl<|AW.skip<|qX 1 rfl<|qM rfl c1<|qM rfl c2<|qU 2 rfl ?_;exact qN rfl
theorem AN{a:List RD}(T:qj m rt)(A:kR m rt a)(B:kR m rt b):Pure Tryz.prog 21 [uF rt,bo a,bo b] (Br rt a b (fun x y=>aq (aS x y))):=by
 refine qJ 21 Tryz.func21 rfl fun B0 F0 w0=>?_;have cc:=rI T A B;have hm:=T.m2;unfold Br;refine qX 3 rfl<|qI<|qX 3 rfl<|ae.ku tok rfl rfl rfl rfl rfl ?_;refine qM rfl cc<|qU 1 rfl<|ae.nil ?_;rcases e2:kL rt [a,b]with _|z
 rotate_left
 ·rw[ah (bn z)];exact qX 1 rfl<|qR rfl rfl<|ae.nil<|AW.aH rfl<|qX 3 rfl<|qN rfl
 rw[af (by simp)];obtain⟨k1,k2,k3⟩:=Cc e2;have W:=rV T k1;have hl5:=W.l5;obtain⟨n1,n2,n3⟩:=kC T.m1 A k2;obtain⟨p1,p2,p3⟩:=kC T.m1 B k3;have c1:=eT (aA a) (aA b) (k:=m) n2 p2 (by omega) (b3 (n1.len (by omega)) (by decide)) (b3 (p1.len (by omega)) (by decide));have c2:=bO (aS (aA a) (aA b)) (n1.plus p1) hl5 (n2.plus p2) (by omega);rw[←n3,←p3]at c1;refine qX 1 rfl<|qR rfl rfl<|ae.nil<|AW.aC rfl<|AW.skip<|qX 2 rfl<|qM rfl c1<|qM rfl c2<|qU 2 rfl ?_;exact qN rfl
theorem AK{a:List RD}(T:qj m rt)(A:kR m rt a)(B:kR m rt b):Pure Tryz.prog 105 [uF rt,bo a,bo b] (Br rt a b (fun x y=>aq (aS x (aP y)))):=by
 refine qJ 22 Tryz.func105 rfl fun B0 F0 w0=>?_;have cc:=rI T A B;have hm:=T.m2;unfold Br;refine qX 3 rfl<|qI<|qX 3 rfl<|ae.ku tok rfl rfl rfl rfl rfl ?_;refine qM rfl cc<|qU 1 rfl<|ae.nil ?_;rcases e2:kL rt [a,b]with _|z
 rotate_left
 ·rw[ah (bn z)];exact qX 1 rfl<|qR rfl rfl<|ae.nil<|AW.aH rfl<|qX 3 rfl<|qN rfl
 rw[af (by simp)];obtain⟨k1,k2,k3⟩:=Cc e2;have W:=rV T k1;have hl5:=W.l5;obtain⟨n1,n2,n3⟩:=kC T.m1 A k2;obtain⟨p1,p2,p3⟩:=kC T.m1 B k3;have c0:=f' (aA b) (k:=m) p2 (by omega) (b3 (p1.len (by omega)) (by decide));have c1:=eT (aA a) (aP (aA b)) (k:=m) n2 p2.minus (by omega) (b3 (n1.len (by omega)) (by decide)) (b3 (p1.minus.len (by omega)) (by decide));have c2:=bO (aS (aA a) (aP (aA b))) (n1.plus p1.minus) hl5 (n2.plus p2.minus) (by omega);rw[←p3]at c0;rw[←n3]at c1;refine qX 1 rfl<|qR rfl rfl<|ae.nil<|AW.aC rfl<|AW.skip<|qX 2 rfl<|qM rfl c0<|qM rfl c1<|qM rfl c2 ?_;exact qU 2 rfl<|qN rfl
theorem AM{a:List RD}(hsT:sT rt.length m≤17300000000000)(T:qj m rt)(A:kR m rt a)(B:kR m rt b):Pure Tryz.prog 106 [uF rt,bo a,bo b] (Br rt a b (fun x y=>aq (aT rt.length (rt.map aA) x y))):=by
 refine qJ 22 Tryz.func106 rfl fun B0 F0 w0=>?_;have cc:=rI T A B;have hm:=T.m2;unfold Br;refine qX 3 rfl<|qI<|qX 3 rfl<|ae.ku tok rfl rfl rfl rfl rfl ?_;refine qM rfl cc<|qU 1 rfl<|ae.nil ?_;rcases e2:kL rt [a,b]with _|z
 rotate_left
 ·rw[ah (bn z)];exact qX 1 rfl<|qR rfl rfl<|ae.nil<|AW.aH rfl<|qX 3 rfl<|qN rfl
 rw[af (by simp)];obtain⟨k1,k2,k3⟩:=Cc e2;have W:=rV T k1;have hl5:=W.l5;obtain⟨n1,n2,n3⟩:=kC T.m1 A k2;obtain⟨p1,p2,p3⟩:=kC T.m1 B k3;have ht:=dy rt.length n1 p1 W.ro (by rw[W.ln];exact ap _) n2 p2 W.sz;have c1:=wQ rt.length n1 p1 W.ro (by rw[W.ln];exact ap _) (by rw[W.ln];omega) n2 p2 W.sz hsT;have c2:=bO (aT rt.length (rt.map aA) (aA a) (aA b)) ht.1 hl5 ht.2 (by omega);rw[←n3,←p3,←W.eq]at c1;refine qX 1 rfl<|qR rfl rfl<|ae.nil<|AW.aC rfl<|AW.skip<|qX 3 rfl<|qM rfl c1<|qM rfl c2<|qU 2 rfl ?_;exact qN rfl
def nZ(q:Rat):NQ:=if q=0 then []else [q]
theorem HM(q:Rat):aq [q]=nZ q:=by
 show(if 1=0 then []else jC (gR 1) [q])=_;rw[af (by decide),show gR 1=0 by decide];unfold jC nZ;show(if bH [q]=true then []else [q])=_;have:bH [q]=decide (q=0):=by unfold bH;simp
 rw[this];by_cases h:q=0
 ·rw[aN h,ah rfl,ah h]
 ·rw[a5 h,af (by simp),af h]
theorem j6(r:RD)(hr:r.w k)(h1:1≤k)(hk:k≤1000000)(ho:r.okB=true):Pure Tryz.prog 102 [r.D] (ak (nZ r.val)):=by
 refine qJ 8 Tryz.func102 rfl fun B0 F0 w0=>?_;have c1:=oe r (Qr 0) (k:=k) hr (gz _ (by rw[jZ];exact h1)) (by omega);have z:=bU hr h1;rw[b5,dx]at c1;have c2:=bO [r.val] (l:=0) (k:=k) (dZ 0 _) (by decide) (gd z) (by omega);rw[HM]at c2;have hz:(Qr 0).D= .ag [dB false,.sl 1 [],.sl 1 []]:=by rw[gL];rfl
 rw[hz]at c1;refine qX 2 rfl<|qK 2 rfl<|qM rfl c1<|ae.ku tok rfl rfl rfl rfl rfl ?_;exact qM rfl c2<|qU 1 rfl<|qN rfl
end Lift
namespace Lift
variable {rt:List NQ}{b:NQ}{R:NQ→NQ→NQ}{j l m:Nat}
abbrev Cf:=Nat→Rat
def cf(a:NQ):Cf:=fun i=>a.getD i 0
def bG(l:Nat)(a:Cf):Cf:=fun i=>a (2^l+i)
def mulC(rt:List NQ):Nat→Cf→Cf→Cf
 |0,a,b=>fun i=>if i=0 then a 0*b 0 else 0
 |l+1,a,b=>fun i=>if i<2^l then mulC rt l a b i+mulC rt l (mulC rt l (bG l a) (bG l b)) (cf (rt.getD l [])) i else mulC rt l a (bG l b) (i-2^l)+mulC rt l (bG l a) b (i-2^l)
def bK(l:Nat)(a:Cf):Prop:= ∀i,2^l≤i→a i=0
def kM(l:Nat)(a b:Cf):Prop:= ∀i,i<2^l→a i=b i
theorem a9(rt:List NQ): ∀(l:Nat) (a b:Cf),bK l (mulC rt l a b)
 |0,a,b=>fun i hi=>by
  have:i≠0:=by have:1≤i:=hi;omega
  show(if i=0 then _ else(0:Rat))=0;rw[af this]
 |l+1,a,b=>fun i hi=>by rw[cr]at hi;have hp:0<2^l:=e9 (by decide);show(if i<2^l then _ else _)=(0:Rat);rw[af (by omega),a9 rt l _ _ _ (by omega),a9 rt l _ _ _ (by omega),dx]
theorem kM.down{a b:Cf}(h:kM (l+1) a b):kM l a b:=fun i hi=>h i (by rw[cr];omega)
theorem kM.hi{l:Nat}{a b:Cf}(h:kM (l+1) a b):kM l (bG l a) (bG l b):=fun i hi=>h _ (by rw[cr];omega)
theorem kM.vy{a:Cf}:kM l a a:=fun _ _=>rfl
theorem kM.full{a b:Cf}(h:kM l a b)(ha:bK l a)(hb:bK l b):a=b:=funext fun i=>by
 by_cases hi:i<2^l
 ·exact h i hi
 ·rw[ha i (by omega),hb i (by omega)]
theorem bZ(rt:List NQ): ∀(l:Nat) {a b a' b':Cf},kM l a a'→kM l b b'→mulC rt l a b=mulC rt l a' b'
 |0,a,b,a',b',h1,h2=>funext fun i=>by show(if i=0 then a 0*b 0 else 0)=(if i=0 then a' 0*b' 0 else 0);rw[h1 0 (by decide),h2 0 (by decide)]
 |l+1,a,b,a',b',h1,h2=>funext fun i=>by show(if i<2^l then mulC rt l a b i+mulC rt l (mulC rt l (bG l a) (bG l b)) (cf (rt.getD l [])) i else mulC rt l a (bG l b) (i-2^l)+mulC rt l (bG l a) b (i-2^l))=(if i<2^l then mulC rt l a' b' i+mulC rt l (mulC rt l (bG l a') (bG l b')) (cf (rt.getD l [])) i else mulC rt l a' (bG l b') (i-2^l)+mulC rt l (bG l a') b' (i-2^l));rw[bZ rt l h1.down h2.down,bZ rt l h1.hi h2.hi,bZ rt l h1.down h2.hi,bZ rt l h1.hi h2.down]
def zC:Cf:=fun _=>0
theorem b6(rt:List NQ): ∀(l:Nat) {a b:Cf},kM l a zC∨kM l b zC→mulC rt l a b=zC
 |0,a,b,h=>funext fun i=>by
  show(if i=0 then a 0*b 0 else 0)=0;split
  ·rcases h with h|h
   ·rw[h 0 (by decide)];exact Rat.zero_mul _
   ·rw[h 0 (by decide)];exact Rat.mul_zero _
  ·rfl
 |l+1,a,b,h=>funext fun i=>by have hz:kM l zC zC:=kM.vy;have r1:mulC rt l a b=zC:=b6 rt l (h.imp kM.down kM.down);have r2:mulC rt l (bG l a) (bG l b)=zC:=b6 rt l (h.imp kM.hi kM.hi);have r3:mulC rt l a (bG l b)=zC:=b6 rt l (h.imp kM.down kM.hi);have r4:mulC rt l (bG l a) b=zC:=b6 rt l (h.imp kM.hi kM.down);have r5:mulC rt l zC (cf (rt.getD l []))=zC:=b6 rt l (.inl hz);show(if i<2^l then mulC rt l a b i+mulC rt l (mulC rt l (bG l a) (bG l b)) (cf (rt.getD l [])) i else mulC rt l a (bG l b) (i-2^l)+mulC rt l (bG l a) b (i-2^l))=0;rw[r2,r1,r3,r4,r5];show(if i<2^l then(0:Rat)+0 else 0+0)=0;split<;>exact dx 0
theorem kZ(rt:List NQ): ∀(l:Nat) (a b:Cf),mulC rt l a b=mulC rt l b a
 |0,a,b=>funext fun i=>by show(if i=0 then a 0*b 0 else 0)=(if i=0 then b 0*a 0 else 0);rw[Rat.mul_comm]
 |l+1,a,b=>funext fun i=>by show(if i<2^l then mulC rt l a b i+mulC rt l (mulC rt l (bG l a) (bG l b)) (cf (rt.getD l [])) i else mulC rt l a (bG l b) (i-2^l)+mulC rt l (bG l a) b (i-2^l))=(if i<2^l then mulC rt l b a i+mulC rt l (mulC rt l (bG l b) (bG l a)) (cf (rt.getD l [])) i else mulC rt l b (bG l a) (i-2^l)+mulC rt l (bG l b) a (i-2^l));rw[kZ rt l a b,kZ rt l (bG l a) (bG l b),kZ rt l a (bG l b),kZ rt l (bG l a) b,Rat.add_comm (mulC rt l (bG l b) a _)]
theorem bK.mono{a:Cf}(h:bK l a)(hl:l≤m):bK m a:=fun i hi=>h i (b3 (cS (by decide) hl) hi)
theorem bK.u9{a:Cf}(h:bK l a):bG l a=zC:=funext fun i=>h _ (by omega)
theorem dD(rt:List NQ){a b:Cf}(ha:bK j a)(hb:bK j b): ∀{l:Nat},j≤l→mulC rt l a b=mulC rt j a b:=fun {l} h=>by
 obtain⟨d,rfl⟩: ∃d,l=j+d:=⟨l-j,by omega⟩;clear h
 induction d with
 |zero=>rfl
 |succ d ih =>
  have ha':bK (j+d) a:=ha.mono (by omega);have hb':bK (j+d) b:=hb.mono (by omega);have hz:kM (j+d) zC zC:=kM.vy;rw[←ih];funext i;show(if i<2^(j+d)then mulC rt (j+d) a b i+mulC rt (j+d) (mulC rt (j+d) (bG (j+d) a) (bG (j+d) b)) (cf (rt.getD (j+d) [])) i else mulC rt (j+d) a (bG (j+d) b) (i-2^(j+d))+mulC rt (j+d) (bG (j+d) a) b (i-2^(j+d)))=_;rw[ha'.u9,hb'.u9,b6 rt (j+d) (a:=zC) (b:=zC) (.inl hz),b6 rt (j+d) (a:=zC) (.inl hz),b6 rt (j+d) (b:=zC) (.inr hz),b6 rt (j+d) (a:=zC) (.inl hz)];by_cases hi:i<2^(j+d)
  ·rw[ah hi];exact dx _
  ·rw[af hi,a9 rt (j+d) a b i (by omega)];exact dx _
theorem aV{a:NQ}(h:a.length≤2^l):bK l (cf a):=fun i hi=>ig (by omega)
theorem eP(a b:NQ)(i:Nat):cf (aS a b) i=cf a i+cf b i:=pT a b i
theorem jl(a:NQ)(i:Nat):cf (aP a) i= -cf a i:=rB a i
theorem wu{a:NQ}(h:bH a=true):cf a=zC:=funext fun i=>by
 unfold bH at h;rw[dn]at h;by_cases hi:i<a.length
 ·have:=ao (h a[i] (go hi));show a.getD i 0=0;rw[am,az hi];exact this
 ·exact ig (by omega)
theorem G9{p q:NQ}(n:Nat)(hn:n=2^j)(hq:q.length≤2^j)(i:Nat):cf (dK p q n) i=if i<2^j then cf p i else cf q (i-2^j):=by
 show(dK p q n).getD i 0=_;rw[pW,hn];by_cases h:i<2^j
 ·rw[ah h,ah h];rfl
 ·rw[af h,af h];by_cases h2:i<2^j+2^j
  ·rw[ah h2];rfl
  ·rw[af h2];exact(ig (by omega)).symm
theorem fB{a:NQ}(n:Nat)(hn:n=2^j):kM j (cf (a.take n)) (cf a):=fun i hi=>by show(a.take n).getD i 0=a.getD i 0;rw[nL,ah (by omega)]
theorem jY{a:NQ}(n:Nat)(hn:n=2^j):cf (a.drop n)=bG j (cf a):=funext fun i=>by show(a.drop n).getD i 0=a.getD (2^j+i) 0;rw[wj,hn]
theorem BJ{a:NQ}(ha:ay l a)(hb:ay l b)(hab:b.length≤a.length)(hrt:cU rt)(hl:l≤rt.length)
  (hR: ∀l',l=l'+1→ ∀a' b',ay l' a'→ay l' b'→ay l' (R a' b')∧cf (R a' b')=mulC rt l' (cf a') (cf b')):cf (kD R rt a b)=mulC rt l (cf a) (cf b):=by
 unfold kD;by_cases h0:(bH a||bH b)=true
 ·rw[ah h0];have:cf ([]:NQ)=zC:=rfl;rw[this,b6];rw[gt]at h0;rcases h0 with h|h
  ·left;rw[wu h];exact kM.vy
  ·right;rw[wu h];exact kM.vy
 rw[af h0];have hz:=fun z:bH a=true=>h0 (by rw[z];rfl);have hz2:=fun z:bH b=true=>h0 (by rw[z,eN]);by_cases h1:a.length=1
 ·rw[ah h1];have lb:b.length≤1:=by omega
  rw[dD rt (j:=0) (aV (by rw[h1];exact ap _)) (aV lb) (an _)];funext i;show [a.getD 0 0*b.getD 0 0].getD i 0=if i=0 then a.getD 0 0*b.getD 0 0 else 0
  cases i with
  |zero=>rfl
  |succ i=>rw[af (by omega)];rfl
 rw[af h1]
 obtain⟨i,hi,hla⟩: ∃i,i≤l∧a.length=2^i:=by
  rcases ha with e|e
  ·exact aG (by rw[bi.1 e];rfl) hz
  ·exact e
 have u9:i≠0:=fun e=>h1 (by rw[hla,e]);obtain⟨j,rfl⟩: ∃j,i=j+1:=⟨i-1,by omega⟩;obtain⟨l',rfl⟩: ∃l',l=l'+1:=⟨l-1,by omega⟩;have hj:j≤l':=by omega
 have hR:=fun a' b' h1 h2=>hR l' rfl a' b' h1 h2;obtain⟨e1,e2,e3⟩:=bt hla;have hx:ay l' (a.take (a.length/2)):=.inr ⟨j,hj,e1⟩;have hy:ay l' (a.drop (a.length/2)):=.inr ⟨j,hj,e2⟩;have la:bK (j+1) (cf a):=aV (by omega);have lb:bK (j+1) (cf b):=aV (by omega);rw[dD rt la lb hi]
 have low: ∀{p q:NQ},p.length≤2^j→q.length≤2^j→ay l' p→ay l' q→cf (R p q)=mulC rt j (cf p) (cf q):=fun {p q} hp hq h1 h2=>by rw[(hR p q h1 h2).2,dD rt (aV hp) (aV hq) hj]
 have lenR: ∀{p q:NQ},p.length≤2^j→q.length≤2^j→ay l' p→ay l' q→bK j (cf (R p q)):=fun {p q} hp hq h1 h2=>by rw[low hp hq h1 h2];exact a9 rt j _ _
 have tk:=fB (a:=a) (a.length/2) e3;have dr:=jY (a:=a) (a.length/2) e3
 have cj: ∀{p q:NQ},bK j (cf q)→ ∀i,cf (dK p q (a.length/2)) i=if i<2^j then cf p i else cf q (i-2^j):=fun {p q} hq i=>by
  show(dK p q (a.length/2)).getD i 0=_;rw[pW,e3];by_cases h:i<2^j
  ·rw[ah h,ah h];rfl
  ·rw[af h,af h];by_cases h2:i<2^j+2^j
   ·rw[ah h2];rfl
   ·rw[af h2,hq _ (by omega)]
 by_cases h3:b.length≤a.length/2
 ·rw[ah h3]
  have hb':ay l' b:=by
   rcases hb with e|⟨i',_,e⟩
   ·exact .inl e
   ·refine .inr ⟨i',?_,e⟩;rw[e3,e]at h3;have:=(c6 (a:=2) (by decide)).1 h3;omega
  rw[e3]at h3;have lbj:bK j (cf b):=aV h3;funext i;rw[cj (lenR (by omega) h3 hy hb'),low (by omega) h3 hx hb',low (by omega) h3 hy hb',dr,bZ rt j tk kM.vy];show _=if i<2^j then mulC rt j (cf a) (cf b) i+mulC rt j (mulC rt j (bG j (cf a)) (bG j (cf b))) (cf (rt.getD j [])) i else mulC rt j (cf a) (bG j (cf b)) (i-2^j)+mulC rt j (bG j (cf a)) (cf b) (i-2^j)
  have hzz:kM j zC zC:=kM.vy;rw[lbj.u9,b6 rt j (b:=zC) (.inr hzz),b6 rt j (b:=zC) (.inr hzz),b6 rt j (a:=zC) (.inl hzz)];by_cases h:i<2^j
  ·rw[ah h,ah h];exact(dx _).symm
  ·rw[af h,af h];exact(hZ _).symm
 rw[af h3]
 have hlb:b.length=2^(j+1):=by
  rcases hb with e|⟨i',_,e⟩
  ·exact aG (by rw[bi.1 e];rfl) hz2
  ·rw[e]at h3 hab ⊢;rw[hla]at hab;rw[e3]at h3;have h4:=(c6 (a:=2) (by decide)).1 hab;have h5: ¬i'≤j:=fun h=>h3 ((c6 (a:=2) (by decide)).2 h);rw[show i'=j+1 by omega]
 obtain⟨f1,f2,f3⟩:=bt hlb;rw[show b.length/2=a.length/2 by rw[f3,e3]]at f1 f2;have hu:ay l' (b.take (a.length/2)):=.inr ⟨j,hj,f1⟩;have hv:ay l' (b.drop (a.length/2)):=.inr ⟨j,hj,f2⟩;have tkb:=fB (a:=b) (a.length/2) e3;have drb:=jY (a:=b) (a.length/2) e3;have hlog:a.length.log2-1=j:=by rw[hla,bv];omega
 rw[hlog];have hdl:(rt.getD j []).length=2^j:=hrt j (by omega);have hd:ay l' (rt.getD j []):=.inr ⟨j,hj,hdl⟩;have Ryv:=hR _ _ hy hv;have lyv:bK j (cf (R (a.drop (a.length/2)) (b.drop (a.length/2)))):=lenR (by omega) (by omega) hy hv;have c1:=low (p:=a.take (a.length/2)) (q:=b.take (a.length/2)) (by omega) (by omega) hx hu;have c2:=low (p:=a.drop (a.length/2)) (q:=b.drop (a.length/2)) (by omega) (by omega) hy hv;have c3:=low (p:=a.take (a.length/2)) (q:=b.drop (a.length/2)) (by omega) (by omega) hx hv;have c4:=low (p:=a.drop (a.length/2)) (q:=b.take (a.length/2)) (by omega) (by omega) hy hu
 have c5:cf (R (R (a.drop (a.length/2)) (b.drop (a.length/2))) (rt.getD j []))=mulC rt j (cf (R (a.drop (a.length/2)) (b.drop (a.length/2)))) (cf (rt.getD j [])):=by rw[(hR _ _ Ryv.1 hd).2,dD rt lyv (aV (by omega)) hj]
 have lq:bK j (cf (aS (R (a.take (a.length/2)) (b.drop (a.length/2))) (R (a.drop (a.length/2)) (b.take (a.length/2))))):=fun i hi=>by rw[eP,c3,c4,a9 rt j _ _ i hi,a9 rt j _ _ i hi];exact dx _
 funext i;rw[cj lq,eP,eP,c1,c5,c2,c3,c4,dr,drb,bZ rt j tk tkb,bZ rt j tk kM.vy,bZ rt j kM.vy tkb];rfl
theorem da: ∀(l:Nat) {rt:List NQ} {a b:NQ},ay l a→ay l b→cU rt→l≤rt.length→ay l (aT l rt a b)∧cf (aT l rt a b)=mulC rt l (cf a) (cf b)
 |0,rt,a,b,ha,hb,hrt,hl=>by
  have key: ∀{a b:NQ},ay 0 a→ay 0 b→b.length≤a.length→ay 0 (kD (fun _ _=>[]) rt a b)∧cf (kD (fun _ _=>[]) rt a b)=mulC rt 0 (cf a) (cf b):=fun {a b} ha hb hab =>
   ⟨by
    unfold kD;split
    ·exact cE _
    split
    ·exact dZ _ _
    ·rename_i h0 h1;have:a.length≤1:=ha.le;have:a=[]:=bi.1 (by omega);subst this
     exact aG rfl h0,BJ ha hb hab hrt hl (fun l' h=>by omega)⟩
  show ay 0 (lL (kD (fun _ _=>[]) rt) a b)∧cf (lL (kD (fun _ _=>[]) rt) a b)=_;unfold lL;split
  ·have:=key hb ha (by omega);exact⟨this.1,by rw[this.2,kZ]⟩
  ·exact key ha hb (by omega)
 |l+1,rt,a,b,ha,hb,hrt,hl=>by
  have ih: ∀l',l+1=l'+1→ ∀a' b',ay l' a'→ay l' b'→ay l' (aT l rt a' b')∧cf (aT l rt a' b')=mulC rt l' (cf a') (cf b'):=fun l' e a' b' h1 h2=>by
   obtain rfl:l=l':=by omega
   exact da l h1 h2 hrt (by omega)
  have lt:ay (l+1) (aT (l+1) rt a b):=by obtain⟨K,hK⟩: ∃K,au K a∧au K b∧dk K rt:=zO a b rt;exact(dy (l+1) ha hb hrt hl hK.1 hK.2.1 hK.2.2).1
  refine⟨lt,?_⟩;show cf (lL (kD (aT l rt) rt) a b)=_;unfold lL;split
  ·rw[BJ hb ha (by omega) hrt hl ih,kZ]
  ·exact BJ ha hb (by omega) hrt hl ih
theorem IM:j7 0=0:=cR.2 rfl
theorem Kq: ∀{i:Nat} {a:NQ},bK i (cf a)→cf (jC i a)=cf a
 |0,a,h=>by
  unfold jC;by_cases h0:bH (a.take 1)=true
  ·rw[ah h0];have z:=wu h0;funext c;show(0:Rat)=a.getD c 0;cases c with
   |zero =>
    have:(a.take 1).getD 0 0=0:=congrFun z 0;rw[nL,ah (by decide)]at this;exact this.symm
   |succ c=>exact(h (c+1) (by show 1≤c+1;omega)).symm
  ·rw[af h0];funext c;show(a.take 1).getD c 0=a.getD c 0;rw[nL];split
   ·rfl
   ·exact(h c (by show 1≤c;omega)).symm
 |i+1,a,h=>by
  unfold jC;have e:2^(i+1)=2^i*2:=cr ..;by_cases h0:bH ((a.take (2^(i+1))).drop (2^i))=true
  ·rw[ah h0];refine Kq fun c hc=>?_;by_cases hc2:c<2^(i+1)
   ·have:=congrFun (wu h0) (c-2^i);have:((a.take (2^(i+1))).drop (2^i)).getD (c-2^i) 0=0:=this;rw[wj,nL,ah (by omega),show 2^i+(c-2^i)=c by omega]at this;exact this
   ·exact h c (by omega)
  ·rw[af h0];funext c;show(a.take (2^(i+1))).getD c 0=a.getD c 0;rw[nL];split
   ·rfl
   ·exact(h c (by omega)).symm
theorem bb{a:NQ}(ha:ay l a):cf (aq a)=cf a:=by
 unfold aq;split
 ·rename_i h;rw[bi.1 h]
 rename_i h0;rcases ha with e|⟨i,hi,e⟩
 ·exact aG e h0
 rw[e,bv];exact Kq<|aV (by omega)
theorem bC{a:NQ}(ha:ay l a):ay l (aq a):=by obtain⟨K,hK⟩:=F3 a;exact(a6 ha hK).1
structure yM (a:NQ):Prop where
 one:a.length=1→a.getD 0 0≠0
 two: ∀i,a.length=2^(i+1)→ ¬bK i (cf a)
theorem zM:yM []:=⟨fun h=>aG h (by decide),fun i h=>by
  have hp:0<2^(i+1):=e9 (by decide);have h:0=2^(i+1):=h
  omega⟩
theorem wE{a:NQ}(h:cf a=zC):bH a=true:=by unfold bH;rw[dn];intro x hx;obtain⟨i,hi,rfl⟩:=List.getElem_of_mem hx;have:=congrFun h i;have:a.getD i 0=0:=this;rw[am,az hi]at this;exact aN this
theorem zL: ∀{i:Nat} {a:NQ},a.length=2^i∨2^i≤a.length→yM (jC i a)
 |0,a,h=>by
  unfold jC;by_cases h0:bH (a.take 1)=true
  ·rw[ah h0];exact zM
  ·rw[af h0]
   have hl:(a.take 1).length=1:=by rw[ax];have:1≤a.length:=by rcases h with h|h;(have h:a.length=1:=h;omega);exact h
                                   omega
   refine⟨fun _ e=>h0 (wE (funext fun c=>?_)),fun i h=>?_⟩
   ·show(a.take 1).getD c 0=0;cases c with
    |zero=>exact e
    |succ c=>exact ig (by omega)
   ·rw[hl,cr]at h;omega
 |i+1,a,h=>by
  unfold jC;have e:2^(i+1)=2^i*2:=cr ..;have hp:0<2^i:=e9 (by decide);by_cases h0:bH ((a.take (2^(i+1))).drop (2^i))=true
  ·rw[ah h0];exact zL (.inr (by omega))
  ·rw[af h0];have hl:(a.take (2^(i+1))).length=2^(i+1):=by rw[ax];omega
   refine⟨fun h1=>?_,fun k hk hlow=>h0 (wE (funext fun c=>?_))⟩
   ·rw[hl]at h1;omega
   ·rw[hl]at hk
    have:k=i:=by have h1:=(c6 (a:=2) (by decide)).1 (eY hk);have h2:=(c6 (a:=2) (by decide)).1 (eY hk.symm);omega
    subst this;show((a.take (2^(k+1))).drop (2^k)).getD c 0=0;rw[wj];exact hlow _ (by omega)
theorem iF{a:NQ}(ha:ay l a):yM (aq a):=by
 unfold aq;split
 ·exact zM
 rename_i h0;rcases ha with e|⟨i,hi,e⟩
 ·exact aG e h0
 rw[e,bv];exact zL (.inl e)
theorem LI{a:NQ}(hl:a.length=b.length)(h:cf a=cf b):a=b:=by refine List.ext_getElem hl fun i h1 h2=>?_;have:a.getD i 0=b.getD i 0:=congrFun h i;rw[am,am,az h1,az h2]at this;exact this
theorem Ir{a:NQ}(ha:ay l a)(hb:ay m b)(ta:yM a)(tb:yM b)(h:cf a=cf b):a=b:=by
 refine LI ?_ h
 have key: ∀{l m:Nat} {a b:NQ},ay l a→ay m b→yM b→cf a=cf b→b.length≤a.length:=fun {l m a b} ha hb tb h=>by
  by_cases hlt:b.length≤a.length
  ·exact hlt
  exfalso;rcases hb with e|⟨k,_,e⟩
  ·omega
  rcases k with _|k
  ·have h1:b.length=1:=e;have h0:a.length=0:=by omega
   refine tb.one h1 ?_;have:a.getD 0 0=b.getD 0 0:=congrFun h 0;rw[←this];exact ig (by omega)
  ·refine tb.two k e ?_;rw[←h];refine aV ?_;rcases ha with e1|⟨j,_,e1⟩
   ·omega
   ·rw[e1,e]at hlt;have: ¬k+1≤j:=fun h=>hlt (cS (by decide) h);rw[e1];exact cS (by decide) (by omega)
 exact Nat.le_antisymm (key hb ha ta h.symm)<|key ha hb tb h
theorem lg{a:NQ}(ha:ay l a)(hb:ay m b)(h:cf a=cf b):aq a=aq b:=by refine Ir (bC ha) (bC hb) (iF ha) (iF hb) ?_;rw[bb ha,bb hb,h]
def bj(rt:List NQ)(l:Nat)(a:Cf):Cf:=fun i=>mulC rt l a a i-mulC rt l (mulC rt l (bG l a) (bG l a)) (cf (rt.getD l [])) i
def aW(rt:List NQ):Nat→Cf→Int
 |0,a=>j7 (a 0)
 |l+1,a=>if aW rt l (cf (rt.getD l []))=0 then aW rt l a else if aW rt l a=aW rt l (bG l a)∨aW rt l (bG l a)=0 then aW rt l a else
  if aW rt l a=0 then aW rt l (bG l a)else aW rt l a*aW rt l (bj rt l a)
theorem Dv(rt:List NQ){a b:Cf}(h:kM (l+1) a b):bj rt l a=bj rt l b:=by unfold bj;rw[bZ rt l h.down h.down,bZ rt l h.hi h.hi]
theorem lp(rt:List NQ): ∀(l:Nat) {a b:Cf},kM l a b→aW rt l a=aW rt l b
 |0,a,b,h=>by show j7 (a 0)=j7 (b 0);rw[h 0 (by decide)]
 |l+1,a,b,h=>by unfold aW;rw[lp rt l h.down,lp rt l h.hi,Dv rt h]
theorem eD(rt:List NQ): ∀(l:Nat),aW rt l zC=0
 |0=>by show j7 0=0;exact IM
 |l+1=>by
  have h:=eD rt l;have h2:aW rt l (bG l zC)=0:=h;unfold aW;rw[h,h2];split
  ·rfl
  ·rw[ah (Or.inl rfl)]
theorem bD(rt:List NQ){a:Cf}(ha:bK j a): ∀{l:Nat},j≤l→aW rt l a=aW rt j a:=fun {l} h=>by
 obtain⟨d,rfl⟩: ∃d,l=j+d:=⟨l-j,by omega⟩;clear h
 induction d with
 |zero=>rfl
 |succ d ih =>
  have ha':bK (j+d) a:=ha.mono (by omega);show(if aW rt (j+d) (cf (rt.getD (j+d) []))=0 then aW rt (j+d) a else if aW rt (j+d) a=aW rt (j+d) (bG (j+d) a)∨aW rt (j+d) (bG (j+d) a)=0 then aW rt (j+d) a else if aW rt (j+d) a=0 then aW rt (j+d) (bG (j+d) a)else aW rt (j+d) a*aW rt (j+d) (bj rt (j+d) a))=_;rw[ha'.u9,eD,ih];by_cases hd:aW rt (j+d) (cf (rt.getD (j+d) []))=0
  ·rw[ah hd]
  ·rw[af hd,ah (Or.inr rfl)]
theorem nG{a:NQ}(hj:j≤l)(ha:a.length=2^(j+1))(hrt:cU rt)(hl:l<rt.length):ay l (e7 l rt a)∧cf (e7 l rt a)=bj rt j (cf a):=by
 obtain⟨K,hK⟩: ∃K,au K a∧au K a∧dk K rt:=zO a a rt;refine⟨(BB hj ha hrt hl hK.1 hK.2.2).1,?_⟩;obtain⟨e1,e2,e3⟩:=bt ha;have hx:ay l (a.take (a.length/2)):=.inr ⟨j,hj,e1⟩;have hy:ay l (a.drop (a.length/2)):=.inr ⟨j,hj,e2⟩;have hlog:a.length.log2-1=j:=by rw[ha,bv];omega
 have hdl:(rt.getD j []).length=2^j:=hrt j (by omega);have hd:ay l (rt.getD j []):=.inr ⟨j,hj,hdl⟩;have r1:=da l hx hx hrt (by omega);have r2:=da l hy hy hrt (by omega);have r3:=da l r2.1 hd hrt (by omega);unfold e7 bj;rw[hlog];funext i;rw[eP,jl,r1.2,r3.2,r2.2,dD rt (aV (by omega)) (aV (by omega)) hj,dD rt (aV (a:=a.drop (a.length/2)) (by omega)) (aV (by omega)) hj,dD rt (a9 rt j _ _) (aV (by omega)) hj,jY _ e3,bZ rt j (fB _ e3) (fB _ e3)];exact f6 _ _ |>.symm
theorem cY: ∀(l:Nat) {rt:List NQ} {a:NQ},ay l a→cU rt→l≤rt.length→ec l rt a=aW rt l (cf a)
 |0,rt,a,ha,hrt,hl=>by
  have hs:=bC ha;have hc:=bb ha;show y7 (fun _=>0) (fun a=>a) rt (aq a)=j7 (cf a 0);rw[←hc];generalize aq a=s at hs;unfold y7;rcases hs with e|⟨i,hi,e⟩
  ·rw[ah e,bi.1 e];show 0=j7 0;rw[IM]
  ·obtain rfl:i=0:=by omega
   have e:s.length=1:=e;rw[af (by omega),ah e];rfl
 |l+1,rt,a,ha,hrt,hl=>by
  have hs:=bC ha;have hc:=bb ha;show y7 (ec l rt) (e7 l rt) rt (aq a)=aW rt (l+1) (cf a);rw[←hc];generalize aq a=s at hs;clear hc ha;unfold y7;by_cases h0:s.length=0
  ·rw[ah h0,bi.1 h0];exact(eD rt (l+1)).symm
  rw[af h0];by_cases h1:s.length=1
  ·rw[ah h1,bD rt (j:=0) (aV (by rw[h1];exact ap _)) (an _)];rfl
  rw[af h1]
  obtain⟨j,hj,hsl⟩: ∃j,j≤l∧s.length=2^(j+1):=by
   rcases hs with e|⟨i,hi,e⟩
   ·exact aG e h0
   ·rcases i with _|j
    ·exact aG e h1
    ·exact⟨j,by omega,e⟩
  obtain⟨e1,e2,e3⟩:=bt hsl;have hx:ay l (s.take (s.length/2)):=.inr ⟨j,hj,e1⟩;have hy:ay l (s.drop (s.length/2)):=.inr ⟨j,hj,e2⟩;have hlog:s.length.log2-1=j:=by rw[hsl,bv];omega
  have hdl:(rt.getD j []).length=2^j:=hrt j (by omega);have hd:ay l (rt.getD j []):=.inr ⟨j,hj,hdl⟩;have hn:=nG hj hsl hrt (by omega)
  have lowN:bK j (bj rt j (cf s)):=fun i hi=>by unfold bj;rw[a9 rt j _ _ i hi,a9 rt j _ _ i hi];exact ie
  rw[hlog,cY l hd hrt (by omega),cY l hx hrt (by omega),cY l hy hrt (by omega),cY l hn.1 hrt (by omega),hn.2,jY _ e3,
   bD rt (aV (a:=rt.getD j []) (by omega)) hj,bD rt (aV (a:=s.take (s.length/2)) (by omega)) hj,bD rt lowN hj,lp rt j (fB _ e3)]
  have lh:bK j (bG j (cf s)):=fun i hi=>(aV (l:=j+1) (by omega)) _ (by rw[cr];omega);rw[bD rt lh hj,bD rt (a:=cf s) (j:=j+1) (l:=l+1) (aV (by omega)) (by omega)];rfl
def lT(R:NQ→NQ→NQ)(rt:List NQ)(a b:NQ):NQ :=
 if a.length=0∨b.length=0 then []else if max a.length b.length=1 then [a.getD 0 0*b.getD 0 0]else
 dK (aS (R ((bk a (max a.length b.length)).take (max a.length b.length/2)) ((bk b (max a.length b.length)).take (max a.length b.length/2)))
   (R (R ((bk a (max a.length b.length)).drop (max a.length b.length/2)) ((bk b (max a.length b.length)).drop (max a.length b.length/2))) (rt.getD ((max a.length b.length).log2-1) [])))
  (aS (R ((bk a (max a.length b.length)).take (max a.length b.length/2)) ((bk b (max a.length b.length)).drop (max a.length b.length/2)))
   (R ((bk a (max a.length b.length)).drop (max a.length b.length/2)) ((bk b (max a.length b.length)).take (max a.length b.length/2)))) (max a.length b.length/2)
def eH:Nat→List NQ→NQ→NQ→NQ
 |0,rt,a,b=>lT (fun _ _=>[]) rt (aq a) (aq b)
 |l+1,rt,a,b=>lT (eH l rt) rt (aq a) (aq b)
theorem G6{l:Nat}{a:NQ}(n:Nat)(ha:a.length≤n):cf (bk a n)=cf a:=funext fun i=>by
 show(bk a n).getD i 0=a.getD i 0;rw[iD];split
 ·rfl
 ·exact(ig (by omega)).symm
theorem CT{a:NQ}(ha:ay l a)(hb:ay l b)(hrt:cU rt)(hl:l≤rt.length)
  (hR: ∀l',l=l'+1→ ∀a' b',ay l' a'→ay l' b'→ay l' (R a' b')∧cf (R a' b')=mulC rt l' (cf a') (cf b')):ay l (lT R rt a b)∧cf (lT R rt a b)=mulC rt l (cf a) (cf b):=by
 have cz: ∀{x:NQ},x.length=0→cf x=zC:=fun {x} h=>by rw[bi.1 h];rfl
 unfold lT;by_cases h0:a.length=0∨b.length=0
 ·rw[ah h0];refine⟨cE _,?_⟩;rw[b6 rt l (h0.imp (fun h=>by rw[cz h];exact kM.vy) (fun h=>by rw[cz h];exact kM.vy))];rfl
 rw[af h0];by_cases h1:max a.length b.length=1
 ·rw[ah h1];refine⟨dZ _ _,?_⟩;rw[dD rt (j:=0) (aV (show a.length≤1 by omega)) (aV (show b.length≤1 by omega)) (an _)];funext i;show [a.getD 0 0*b.getD 0 0].getD i 0=if i=0 then a.getD 0 0*b.getD 0 0 else 0
  cases i with
  |zero=>rfl
  |succ i=>rw[af (by omega)];rfl
 rw[af h1]
 obtain⟨i,hi,hn⟩: ∃i,i≤l∧max a.length b.length=2^i:=by
  rcases ha with e|⟨i,hi,e⟩
  ·exact aG (.inl e) h0
  rcases hb with e2|⟨k,hk,e2⟩
  ·exact aG (.inr e2) h0
  by_cases h:a.length≤b.length
  ·exact⟨k,hk,by rw[Nat.max_eq_right h,e2]⟩
  ·exact⟨i,hi,by rw[Nat.max_eq_left (by omega),e]⟩
 have u9:i≠0:=fun e=>h1 (by rw[hn,e]);obtain⟨j,rfl⟩: ∃j,i=j+1:=⟨i-1,by omega⟩;obtain⟨l',rfl⟩: ∃l',l=l'+1:=⟨l-1,by omega⟩;have hj:j≤l':=by omega
 have hR:=fun a' b' h1 h2=>hR l' rfl a' b' h1 h2;have ca:=G6 (l:=l') (max a.length b.length) (Nat.le_max_left a.length b.length);have cb:=G6 (l:=l') (max a.length b.length) (Nat.le_max_right a.length b.length);have wa:=bL a (max a.length b.length);have wb:=bL b (max a.length b.length);rw[←ca,←cb];generalize bk a (max a.length b.length)=A at *;generalize bk b (max a.length b.length)=B at *;generalize max a.length b.length=n at *;subst hn;have e0:=mK j;have hlog:(2^(j+1)).log2-1=j:=by rw[bv];omega
 rw[e0,hlog];obtain⟨e1,e2,e3⟩:=bt wa;obtain⟨f1,f2,f3⟩:=bt wb;rw[e3]at e1 e2;rw[f3]at f1 f2;have hx:ay l' (A.take (2^j)):=.inr ⟨j,hj,e1⟩;have hy:ay l' (A.drop (2^j)):=.inr ⟨j,hj,e2⟩;have hu:ay l' (B.take (2^j)):=.inr ⟨j,hj,f1⟩;have hv:ay l' (B.drop (2^j)):=.inr ⟨j,hj,f2⟩;have hdl:(rt.getD j []).length=2^j:=hrt j (by omega);have hd:ay l' (rt.getD j []):=.inr ⟨j,hj,hdl⟩
 have low: ∀{p q:NQ},p.length≤2^j→q.length≤2^j→ay l' p→ay l' q→cf (R p q)=mulC rt j (cf p) (cf q):=fun {p q} hp hq h1 h2=>by rw[(hR p q h1 h2).2,dD rt (aV hp) (aV hq) hj]
 have Ryv:=hR _ _ hy hv;have c2:=low (p:=A.drop (2^j)) (q:=B.drop (2^j)) (by omega) (by omega) hy hv;have lyv:bK j (cf (R (A.drop (2^j)) (B.drop (2^j)))):=by rw[c2];exact a9 rt j _ _
 have c1:=low (p:=A.take (2^j)) (q:=B.take (2^j)) (by omega) (by omega) hx hu;have c3:=low (p:=A.take (2^j)) (q:=B.drop (2^j)) (by omega) (by omega) hx hv;have c4:=low (p:=A.drop (2^j)) (q:=B.take (2^j)) (by omega) (by omega) hy hu
 have c5:cf (R (R (A.drop (2^j)) (B.drop (2^j))) (rt.getD j []))=mulC rt j (cf (R (A.drop (2^j)) (B.drop (2^j)))) (cf (rt.getD j [])):=by rw[(hR _ _ Ryv.1 hd).2,dD rt lyv (aV (by omega)) hj]
 refine⟨.inr ⟨j+1,by omega,by rw[dN,cr];omega⟩,?_⟩;rw[dD rt (j:=j+1) (aV (by omega)) (aV (by omega)) (by omega)]
 have lq:bK j (cf (aS (R (A.take (2^j)) (B.drop (2^j))) (R (A.drop (2^j)) (B.take (2^j))))):=fun i hi=>by rw[eP,c3,c4,a9 rt j _ _ i hi,a9 rt j _ _ i hi];exact dx _
 have cj: ∀{p q:NQ},bK j (cf q)→ ∀i,cf (dK p q (2^j)) i=if i<2^j then cf p i else cf q (i-2^j):=fun {p q} hq i=>by
  show(dK p q (2^j)).getD i 0=_;rw[pW];by_cases h:i<2^j
  ·rw[ah h,ah h];rfl
  ·rw[af h,af h];by_cases h2:i<2^j+2^j
   ·rw[ah h2];rfl
   ·rw[af h2,hq _ (by omega)]
 funext i;rw[cj lq,eP,eP,c1,c5,c2,c3,c4,jY (a:=A) (2^j) rfl,jY (a:=B) (2^j) rfl,bZ rt j (fB (a:=A) (2^j) rfl) (fB (a:=B) (2^j) rfl),bZ rt j (fB (a:=A) (2^j) rfl) kM.vy,bZ rt j kM.vy (fB (a:=B) (2^j) rfl)];rfl
theorem fN: ∀(l:Nat) {rt:List NQ} {a b:NQ},ay l a→ay l b→cU rt→l≤rt.length→ay l (eH l rt a b)∧cf (eH l rt a b)=mulC rt l (cf a) (cf b)
 |0,rt,a,b,ha,hb,hrt,hl=>by have:=CT (R:=fun _ _=>[]) (bC ha) (bC hb) hrt hl (fun l' h=>by omega);rw[bb ha,bb hb]at this;exact this
 |l+1,rt,a,b,ha,hb,hrt,hl=>by
  have:=CT (R:=eH l rt) (bC ha) (bC hb) hrt hl (fun l' e a' b' h1 h2=>by
   obtain rfl:l=l':=by omega
   exact fN l h1 h2 hrt (by omega))
  rw[bb ha,bb hb]at this;exact this
def fR(l:Nat)(rt:List NQ)(a:NQ):NQ :=
 aS (eH l rt (a.take (a.length/2)) (a.take (a.length/2))) (aP (eH l rt (eH l rt (a.drop (a.length/2)) (a.drop (a.length/2))) (rt.getD (a.length.log2-1) [])))
def qp(R:NQ→Int)(N:NQ→NQ)(rt:List NQ)(a:NQ):Int :=
 if a.length=0 then 0 else if a.length=1 then j7 (a.getD 0 0)else
 if R (a.take (a.length/2))=R (a.drop (a.length/2))*R (rt.getD (a.length.log2-1) [])∨R (a.drop (a.length/2))*R (rt.getD (a.length.log2-1) [])=0 then R (a.take (a.length/2))else
 if R (a.take (a.length/2))=0 then R (a.drop (a.length/2))*R (rt.getD (a.length.log2-1) [])else R (a.take (a.length/2))*R (N a)
def oK:Nat→List NQ→NQ→Int
 |0,rt,a=>qp (fun _=>0) (fun a=>a) rt (aq a)
 |l+1,rt,a=>qp (oK l rt) (fR l rt) rt (aq a)
def oh(rt:List NQ):Prop:= ∀j,j<rt.length→0≤aW rt j (cf (rt.getD j []))
theorem w8{a:NQ}(hj:j≤l)(ha:a.length=2^(j+1))(hrt:cU rt)(hl:l<rt.length):ay l (fR l rt a)∧cf (fR l rt a)=bj rt j (cf a):=by
 obtain⟨e1,e2,e3⟩:=bt ha;have hx:ay l (a.take (a.length/2)):=.inr ⟨j,hj,e1⟩;have hy:ay l (a.drop (a.length/2)):=.inr ⟨j,hj,e2⟩;have hlog:a.length.log2-1=j:=by rw[ha,bv];omega
 have hdl:(rt.getD j []).length=2^j:=hrt j (by omega);have hd:ay l (rt.getD j []):=.inr ⟨j,hj,hdl⟩;have r1:=fN l hx hx hrt (by omega);have r2:=fN l hy hy hrt (by omega);have r3:=fN l r2.1 hd hrt (by omega);unfold fR;rw[hlog];refine⟨r1.1.plus r3.1.minus,?_⟩;unfold bj;funext i;rw[eP,jl,r1.2,r3.2,r2.2,dD rt (aV (by omega)) (aV (by omega)) hj,dD rt (aV (a:=a.drop (a.length/2)) (by omega)) (aV (by omega)) hj,dD rt (a9 rt j _ _) (aV (by omega)) hj,jY _ e3,bZ rt j (fB _ e3) (fB _ e3)];exact f6 _ _ |>.symm
theorem mE(rt:List NQ): ∀(l:Nat) (a:Cf),zJ (aW rt l a)
 |0,a=>iG _
 |l+1,a=>by
  unfold aW;split
  ·exact mE rt l _
  split
  ·exact mE rt l _
  split
  ·exact mE rt l _
  ·exact ni (mE rt l _) (mE rt l _)
theorem iW: ∀(l:Nat) {rt:List NQ} {a:NQ},ay l a→cU rt→oh rt→l≤rt.length→oK l rt a=aW rt l (cf a)
 |0,rt,a,ha,hrt,hp,hl=>by
  have hs:=bC ha;have hc:=bb ha;show qp (fun _=>0) (fun a=>a) rt (aq a)=j7 (cf a 0);rw[←hc];generalize aq a=s at hs;unfold qp;rcases hs with e|⟨i,hi,e⟩
  ·rw[ah e,bi.1 e];show 0=j7 0;rw[IM]
  ·obtain rfl:i=0:=by omega
   have e:s.length=1:=e;rw[af (by omega),ah e];rfl
 |l+1,rt,a,ha,hrt,hp,hl=>by
  have hs:=bC ha;have hc:=bb ha;show qp (oK l rt) (fR l rt) rt (aq a)=aW rt (l+1) (cf a);rw[←hc];generalize aq a=s at hs;clear hc ha;unfold qp;by_cases h0:s.length=0
  ·rw[ah h0,bi.1 h0];exact(eD rt (l+1)).symm
  rw[af h0];by_cases h1:s.length=1
  ·rw[ah h1,bD rt (j:=0) (aV (by rw[h1];exact ap _)) (an _)];rfl
  rw[af h1]
  obtain⟨j,hj,hsl⟩: ∃j,j≤l∧s.length=2^(j+1):=by
   rcases hs with e|⟨i,hi,e⟩
   ·exact aG e h0
   ·rcases i with _|j
    ·exact aG e h1
    ·exact⟨j,by omega,e⟩
  obtain⟨e1,e2,e3⟩:=bt hsl;have hx:ay l (s.take (s.length/2)):=.inr ⟨j,hj,e1⟩;have hy:ay l (s.drop (s.length/2)):=.inr ⟨j,hj,e2⟩;have hlog:s.length.log2-1=j:=by rw[hsl,bv];omega
  have hdl:(rt.getD j []).length=2^j:=hrt j (by omega);have hd:ay l (rt.getD j []):=.inr ⟨j,hj,hdl⟩;have hn:=w8 hj hsl hrt (by omega)
  have lowN:bK j (bj rt j (cf s)):=fun i hi=>by unfold bj;rw[a9 rt j _ _ i hi,a9 rt j _ _ i hi];exact ie
  have lh:bK j (bG j (cf s)):=fun i hi=>(aV (l:=j+1) (by omega)) _ (by rw[cr];omega);have hpj:=hp j (by omega)
  rw[hlog,iW l hd hrt hp (by omega),iW l hx hrt hp (by omega),iW l hy hrt hp (by omega),iW l hn.1 hrt hp (by omega),hn.2,jY _ e3,
   bD rt (aV (a:=rt.getD j []) (by omega)) hj,bD rt (aV (a:=s.take (s.length/2)) (by omega)) hj,bD rt lowN hj,lp rt j (fB _ e3),bD rt lh hj,bD rt (a:=cf s) (j:=j+1) (l:=l+1) (aV (by omega)) (by omega)]
  show _=if aW rt j (cf (rt.getD j []))=0 then aW rt j (cf s)else if aW rt j (cf s)=aW rt j (bG j (cf s))∨aW rt j (bG j (cf s))=0 then aW rt j (cf s)else
   if aW rt j (cf s)=0 then aW rt j (bG j (cf s))else aW rt j (cf s)*aW rt j (bj rt j (cf s))
  have ht:=mE rt j (cf (rt.getD j []));generalize aW rt j (cf (rt.getD j []))=D at hpj ht;unfold zJ at ht;rcases ht with rfl|rfl|rfl
  ·rw[ah rfl,Int.mul_zero,ah (.inr rfl)]
  ·rw[Int.mul_one,af (show ¬(1:Int)=0 by decide)]
  ·omega
end Lift
namespace Lift
open Go Go.Proofs
variable {v:List NQ}{b:NQ}{j k l m:Nat}
structure fC (m:Nat) (v:List NQ):Prop where
 l5:v.length≤5
 ro:cU v
 sz:dk m v
 ps: ∀k,k<v.length→ ¬ec k (v.take k) (v.getD k [])<0
 m2:m≤1000000
 t: ∃m0,1≤m0∧m0≤m∧dk m0 v∧ou v.length m0
theorem fC.m1(V:fC m v):1≤m:=by obtain⟨m0,h1,h2,_⟩:=V.t;omega
theorem fC.mono(V:fC m v)(h:m≤k)(hk:k≤1000000):fC k v:=by obtain⟨m0,h1,h2,h3,h4⟩:=V.t;exact⟨V.l5,V.ro,V.sz.mono h,V.ps,hk,m0,h1,by omega,h3,h4⟩
theorem fC.of{rt:List (List RD)}(T:qj m rt)(h:df rt=0):fC m (rt.map aA):=by have W:=rV T h;exact⟨by rw[W.ln];exact W.l5,W.ro,W.sz,W.ps,T.m2,by rw[W.ln];exact W.t⟩
def fa(a:NQ):List RD:=a.map Qr
theorem iX(a:NQ):aA (fa a)=a:=by unfold aA fa;rw[dT];have:(RD.val ∘ Qr)=id:=funext b5;rw[this,io]
theorem il(a:NQ):bo (fa a)=ak a:=by show D.sl 3 ((a.map Qr).map RD.D)=D.sl 3 (gy _ a);rw[dT];rfl
theorem iY(a:NQ):(fa a).length=a.length:=aa ..
theorem qY{a:NQ}(h:au k a):wN k (fa a):=fun i hi=>by rw[iY]at hi;unfold fa;rw[am,ce,az hi];have:=h i;rw[am,az hi]at this;exact gz _ this
theorem oO{a:NQ}(h:ay l a):bF l (fa a)=0:=by
 unfold bF;rw[iY]
 have h1: ¬(a.length≠0∧E9 l a.length=false):=fun hs=>by
  rcases h with e|⟨i,hi,e⟩
  ·exact hs.1 e
  ·rw[e,BM,aN hi]at hs;exact Bool.noConfusion hs.2
 have h2:lY (fa a)=true:=by unfold lY fa;rw[List.all_map,dn];exact fun q _=>Eb q
 rw[af h1,af (by rw[h2];simp)]
def oo(v:List NQ):List (List RD):=v.map fa
theorem gf(v:List NQ):(oo v).length=v.length:=aa ..
theorem sv(v:List NQ)(i:Nat):(oo v).getD i []=fa (v.getD i []):=by
 unfold oo;rw[am,ce,am];cases v[i]? with
 |none=>rfl
 |some x=>rfl
theorem CY(v:List NQ):(oo v).map aA=v:=by unfold oo;rw[dT];have:(aA ∘ fa)=id:=funext iX;rw[this,io]
theorem lv(v:List NQ):uF (oo v)=fm v:=by show D.ag [.sl 1 ((v.map fa).map bo)]=D.ag [.sl 1 (v.map ak)];rw[dT];have:(bo ∘ fa)=ak:=funext il;rw[this]
theorem pk{f:Nat→Nat}: ∀{n i:Nat},(∀j,j<i+n→f j=0)→fE f n i=0
 |0,i,h=>rfl
 |n+1,i,h=>by rw[fE,ah (h i (by omega))];exact pk fun j hj=>h j (by omega)
theorem fC.raw(V:fC m v):qj m (oo v)∧df (oo v)=0:=by
 have l5:=V.l5;have hp: ∀i,i<v.length→2^i≤2^5:=fun i hi=>cS (by decide) (by omega);obtain⟨m0,t1,t2,ts,tk⟩:=V.t
 refine⟨⟨⟨m0,t1,t2,fun i hi _=>by rw[sv];exact qY (ts i),fun _=>by rw[gf];exact tk⟩,V.m2,by rw[gf];omega,fun i hi=>by
  rw[gf]at hi;rw[sv,iY,V.ro i hi];have:=hp i hi
  omega⟩,?_⟩
 unfold df;rw[gf,af (by omega)];refine pk fun j hj=>?_;have hj:j<v.length:=by omega
 unfold yS;rw[sv,iY,af (fun h=>h (V.ro j hj)),af (fun h=>h (oO (.inr ⟨j,ap _,V.ro j hj⟩))),iX,ef,CY,af (V.ps j hj)]
theorem jT{a:NQ}(V:fC m v)(ha:ay v.length a)(sa:au m a):kR m (oo v) (fa a):=⟨fun _=>qY sa,by
 have l5:=V.l5;rw[iY]
 exact b3 (ha.len (by omega)) (by decide)⟩
theorem Qi{a:NQ}(V:fC m v)(ha:ay v.length a):kL (oo v) [fa a]=0:=by
 unfold kL;rw[af (by rw[V.raw.2];simp)];refine pk fun j hj=>?_;have hj:j<0+1:=hj;obtain rfl:j=0:=by omega
 rw[gf];exact oO ha
theorem Pj{a:NQ}(V:fC m v)(ha:ay v.length a)(hb:ay v.length b):kL (oo v) [fa a,fa b]=0:=by
 unfold kL;rw[af (by rw[V.raw.2];simp)];refine pk fun j hj=>?_;have hj:j<0+2:=hj;rw[gf]
 match j,hj with
 |0,_=>exact oO ha
 |1,_=>exact oO hb
def gk(a:NQ):NQ:=aq (aP a)
def uE(a b:NQ):NQ:=aq (aS a b)
def fq(a b:NQ):NQ:=aq (aS a (aP b))
def et(v:List NQ)(a b:NQ):NQ:=aq (aT v.length v a b)
theorem yX{a:NQ}(V:fC m v)(ha:ay v.length a)(sa:au m a)(hb:ay v.length b)(sb:au m b):Pure Tryz.prog 21 [fm v,ak a,ak b] (.tu [ak (uE a b),bd]):=by have h:=AN V.raw.1 (jT V ha sa) (jT V hb sb);unfold Br at h;rw[af (by rw[Pj V ha hb];simp),lv,il,il,iX,iX]at h;exact h
theorem yV{a:NQ}(V:fC m v)(ha:ay v.length a)(sa:au m a)(hb:ay v.length b)(sb:au m b):Pure Tryz.prog 105 [fm v,ak a,ak b] (.tu [ak (fq a b),bd]):=by have h:=AK V.raw.1 (jT V ha sa) (jT V hb sb);unfold Br at h;rw[af (by rw[Pj V ha hb];simp),lv,il,il,iX,iX]at h;exact h
theorem yW{a:NQ}(hsT:sT v.length m≤17300000000000)(V:fC m v)(ha:ay v.length a)(sa:au m a)(hb:ay v.length b)(sb:au m b):Pure Tryz.prog 106 [fm v,ak a,ak b] (.tu [ak (et v a b),bd]):=by have h:=AM (by rw[gf];exact hsT) V.raw.1 (jT V ha sa) (jT V hb sb);unfold Br at h;rw[af (by rw[Pj V ha hb];simp),lv,il,il,iX,iX,gf,CY]at h;exact h
theorem LA{a:NQ}(ha:ay l a)(sa:au k a):ay l (gk a)∧au k (gk a):=a6 ha.minus sa.minus
theorem tv{a:NQ}(ha:ay l a)(sa:au k a)(hb:ay l b)(sb:au j b):ay l (uE a b)∧au (k+j+1) (uE a b):=a6 (ha.plus hb) (sa.plus sb)
theorem ic{a:NQ}(ha:ay l a)(sa:au k a)(hb:ay l b)(sb:au j b):ay l (fq a b)∧au (k+j+1) (fq a b):=a6 (ha.plus hb.minus) (sa.plus sb.minus)
theorem dY{a:NQ}(V:fC m v)(ha:ay v.length a)(sa:au m a)(hb:ay v.length b)(sb:au m b):ay v.length (et v a b)∧au (sT v.length m) (et v a b):=by have h:=dy v.length ha hb V.ro (ap _) sa sb V.sz;exact a6 h.1 h.2
theorem kB(l:Nat){q:Rat}(h:LQ q≤k):ay l (nZ q)∧au k (nZ q):=by
 unfold nZ;split
 ·exact⟨cE _,db (b3 (Cl _) h)⟩
 ·exact⟨dZ _ _,gd h⟩
theorem fC.pos(V:fC m v):oh v:=fun j hj=>by
 have h:=V.ps j hj
 have e: ∀i,i<j→(v.take j).getD i []=v.getD i []:=fun i hi=>by rw[am,eL hi,am]
 have ro:cU (v.take j):=fun i hi=>by rw[ax]at hi;rw[e i (by omega)];exact V.ro i (by omega)
 have lt:ay j (v.getD j []):=.inr ⟨j,ap _,V.ro j hj⟩;rw[cY j lt ro (by rw[ax];omega)]at h
 have key: ∀(l:Nat) (a:Cf),l≤j→aW (v.take j) l a=aW v l a∧ ∀b:Cf,mulC (v.take j) l a b=mulC v l a b:=by
  intro l
  induction l with
  |zero=>exact fun a _=>⟨rfl,fun b=>rfl⟩
  |succ l ih =>
   intro a hl;have hm: ∀x y:Cf,mulC (v.take j) l x y=mulC v l x y:=fun x y=>(ih x (by omega)).2 y;have hs: ∀x:Cf,aW (v.take j) l x=aW v l x:=fun x=>(ih x (by omega)).1;refine⟨?_,fun b=>?_⟩
   ·unfold aW bj;simp only[hm,hs,e l (by omega)]
   ·funext i;show(if i<2^l then mulC (v.take j) l a b i+mulC (v.take j) l (mulC (v.take j) l (bG l a) (bG l b)) (cf ((v.take j).getD l [])) i else mulC (v.take j) l a (bG l b) (i-2^l)+mulC (v.take j) l (bG l a) b (i-2^l))=_;simp only[hm,e l (by omega)];rfl
 rw[(key j _ (ap _)).1]at h;omega
end Lift
namespace Lift
open Go
open Go.RowKit (Below)
variable {rest:List Oper}{B d n:Nat}{hm lk:Nat→Option AV}{F0:Nat→Prop}{o:Oper}{P:Program}{σ:St}{K:St→Prop}{T:Ty}{w0:dh}
section
variable {all:Array Oper} 
end
section
variable {τ σ0:St} {ops all:Array Oper} {l:List Oper} {ds:List Nat}
end
section
variable {all:Array Oper} {o1 o2:Oper} 
theorem CO{w:World}{b:Nat}{cs:Array Value}{e:TypeId}(hb:w.heap[b]?=some (.cells cs e (0,0))):w.setRow b cs=w:=by
 have h1:=setRow_heap w b cs cs e (0,0) hb
 have hh:(w.setRow b cs).heap=w.heap:=by
  refine Array.ext_getElem? fun i=>?_;by_cases hi:i=b
  ·subst hi;rw[h1,hb]
  ·exact setRow_other w b i cs hi
 have:w.setRow b cs={w with heap:=(w.setRow b cs).heap}:=rfl;rw[this,hh]
theorem ae.Nd(hT:bB P T){d1 d2 off size f s t:Nat}{x:Operand}{cs:List D}{c:Value}{i j:TI}{g:Bool}
  (h1d:o1.dst=some d1) (h1:o1.op= .fieldAddr s x f) (h1g:o1.guard=none) (hdn:e4 (d1+1) n=true)
  (h2d:o2.dst=none) (h2:o2.op= .store t (.tmp d1) (.tmp d2)) (h2g:o2.guard=none) (hne:eb d2 d1=false)
  (hi:T.get s=some i) (hf:uA i f=some (off,size,g)) (hj:T.get t=some j) (hj1:j.size=1)
  (hx:ex T σ.get 0 x=some (.d (.pr cs))) (hc:cs[off]?=some (.v c)) (hyv:dO T (ex T σ.get t (.tmp d2))=some (.v c))
  (h:ae P B F0 w0 n all rest K ((d1,.rf (cs.drop off))::σ)):ae P B F0 w0 n all (o1::o2::rest) K σ:=by
 intro a w hR Q hQ;obtain⟨O,hOr,hO⟩:=hR.own;have hI:=hR.inv hOr hO (fun _=>True) d1;have hr:Rd w (aQ O (FW B F0 w)) (.pr cs) (a.eval x):=(aZ hI (fun _ _=>trivial) hx d1).1;obtain⟨b,arr,e,hv,hF,hb,hel⟩:=Rd.Nr hr;obtain⟨_,u,hu,hru⟩:=hel off (.v c) hc;obtain rfl:=(Rd.j5 hru).1;have hyd:=eO hT hI (fun _ _=>trivial) hyv;have hye:=(Rd.j5 hyd).1;obtain⟨info,dd,z,hok⟩:=hT s i hi;obtain⟨info',dd',z',hok'⟩:=hT t j hj;obtain⟨fs,fl,jj,dd2,g1,g2,g3,g4,g5,g6,g7,g8⟩:=nN hok hf;have hdn:=cJ hdn;have hne:d2≠d1:=fun e=>by subst e;rw[Nat.beq_refl]at hne;cases hne
 unfold wpList;rw[ah (by simp[c8,h1g])];refine .inl ?_;refine bh (v:=.pointer (some ⟨b,off,none⟩)) (w':=w) ?_ ?_
 ·obtain⟨dst,op,ty,pos,after,guard⟩:=o1;simp only[]at h1;subst h1;have hs:jj.size≠0:=by omega
  simp[execOp,Instr.fieldAt,run_underlying g1,g2,hv,gs,fieldPlace,Go.sizeOf,typeInfo,g4,hs,g3,Addr.add_lit]
 ·have hR':Rel P B F0 w0 n ((d1,.rf (cs.drop off))::σ) (a.put (some d1) (.pointer (some ⟨b,off,none⟩))) w :=
   hR.put (av:=.rf (cs.drop off)) hOr hO hdn (dG.refl (fun b t hb=>(hOr b t hb).2)) ⟨b,off,arr,e,(0,0),rfl,hF,hb,fun k y hy=>by
     rw[dM]at hy
     exact hel _ y hy⟩
  rw[h1d];unfold wpList;rw[ah (by simp[c8,h2g])];refine .inl ?_
  have e1:(a.put (some d1) (.pointer (some ⟨b,off,none⟩))).eval (.tmp d1)= .pointer (some ⟨b,off,none⟩):=by exact gp (fu (a:=a) (d:=d1) (v:=.pointer (some ⟨b,off,none⟩)) (by rw[hR.size];exact hdn))
  have e2:(a.put (some d1) (.pointer (some ⟨b,off,none⟩))).eval (.tmp d2)=u:=by
   have h3:=dX (a:=a) (d:=d1) (v:=.pointer (some ⟨b,off,none⟩)) hne;have h4:a.eval (.tmp d2)=(a.tmps[d2]?).getD undef:=by simp[Act.eval]
   have h5:(a.put (some d1) (.pointer (some ⟨b,off,none⟩))).eval (.tmp d2)=(((a.put (some d1) (.pointer (some ⟨b,off,none⟩))).tmps)[d2]?).getD undef:=by simp[Act.eval]
   rw[h5,h3,←h4];exact hye
  have hcl:u.cells= #[u]:=by have:=(Rd.j5 hru).2;cases u<;>simp_all [Value.cells,ei]
  have hrun:=np hok' hb (v:=u) (off:=off) (by rw[hcl,hj1];rfl) (by rw[hcl];have:=(cI.1 hu).1;show off+1≤_;omega) (fun y hy=>by
   rw[hcl]at hy;have hy:y=u:=by simpa using hy
   rw[hy];have:=(Rd.j5 hru).2
   cases u<;>simp_all [ei,Value.oneCell'])
  have hsame:(arr.toList.take off++u.cells.toList++arr.toList.drop (off+u.cells.size)).toArray=arr:=by
   rw[hcl];have hlt:=(cI.1 hu).1;apply Array.ext';have hu2:arr.toList[off]?=some u:=by simpa using hu
   have:arr.toList=arr.toList.take off++(u::arr.toList.drop (off+1)):=by
    conv=>lhs;rw[←List.take_append_drop off arr.toList]
    congr 1
    rw[eB (by simpa using hlt)]
    congr 1
    exact(ch.1 hu2).2
   show arr.toList.take off++[u]++arr.toList.drop (off+1)=arr.toList;rw[f8];exact this.symm
  rw[hsame,CO hb]at hrun;refine wI (w':=w) ?_ ?_
  ·obtain⟨dst,op,ty,pos,after,guard⟩:=o2;simp only[]at h2;subst h2;simp only[execOp,Instr.storeAt,gs,eX,e1,e2,hW,eh,hrun]
  ·rw[h2d,xA];exact h _ _ hR' Q hQ
end
end Lift
namespace Lift
open Go Go.Proofs
variable {i:Int}{rt:List (List RD)}{v:List NQ}{rest:List Oper}{b:NQ}{S:NQ→Int}{N R:NQ→NQ}{T:NQ→NQ→NQ}{B K d e l m n:Nat}{F0:Nat→Prop}{o:Oper}{P:Program}{σ:St}{w0:dh}
theorem iJ(i:Int)(n:Nat):Pure Tryz.prog 100 [dI i,dI n] (dB (kj i n)):=by
 refine qJ 12 Tryz.func100 rfl fun B F0 w0=>?_;refine qX 1 rfl<|qK 2 rfl ?_;refine ae.split (t:=6) rfl (fun h=>?_) fun h=>?_
 ·have h1:=ao h;refine qU 6 rfl<|ae.nil ?_;rw[show kj i n=decide (i<n) by unfold kj;rw[decide_eq_decide];omega];exact AW.ret rfl
 ·have h1:=ar h;refine qU 6 rfl<|ae.nil ?_;rw[show kj i n=false by unfold kj;rw[decide_eq_false_iff_not];omega];exact AW.ret rfl
theorem vD(bs:List Body)(hn:bs.length≤big)(hb: ∀i,(bs.getD i default).ok K)(hK:K≤50000000):Pure Tryz.prog 52 [aI bs] (tE (bW bs)):=by
 refine qJ 85 Tryz.func52 rfl fun B F0 w0=>?_;unfold big at hn;refine qX 1 rfl<|qI<|qX 3 rfl ?_;rw[aa];refine ae.nil<|AW.block ?_
 refine AW.aK [0,11,12,13] (fun i:Nat=>[(0,.d (aI bs)),(11,.d (aI bs)),(12,.d (dI bs.length)),(13,.d (dI i))])
  (fun i=>i≤bs.length∧bW bs=fE (gO bs) (bs.length-i) i) (fun i=>bs.length-i) 0 rfl ⟨an _,rfl⟩ (fun i ⟨hi,hE⟩=>?_)
 refine qX 1 rfl<|qI<|AW.cond rfl (fun h=>?_) fun h=>?_
 ·have hin:i<bs.length:=by have:=ao h;omega
  obtain⟨bok1,bok2,bok3⟩:=hb i;have hbE:gO bs i≠0→bW bs=gO bs i:=fun h0=>hE.trans (ez hin h0);have hbM:gO bs i=0→bW bs=fE (gO bs) (bs.length-(i+1)) (i+1):=fun h0=>hE.trans (cQ hin h0);obtain⟨b,hbe⟩: ∃b,b=bs.getD i default:=⟨_,rfl⟩;rw[←hbe]at bok1 bok2 bok3;unfold big at bok1 bok2;have hdup:FC bs i=fT (fun k=>decide ((bs.getD k default).nm=b.nm)) i 0:=by rw[hbe];rfl
  have hbd:gO bs i=if dV b.nm=false then 5 else if FC bs i=true then 6 else tR b.pts:=by rw[hbe];rfl
  refine AW.skip<|AW.seq<|AW.block<|qX 1 rfl ?_;refine ae.idx tok b.D rfl rfl rfl rfl (al i) (by rw[hbe];exact getM Body.D hin) ?_;refine qU 4 rfl<|qI<|qX 2 rfl<|qM rfl (gV b.nm bok1) ?_;refine qU 1 rfl<|ae.nil<|AW.cond rfl (fun h=>?_) fun h=>?_
  ·have hnm:dV b.nm=false:=by simpa using h
   have h5:gO bs i=5:=by rw[hbd,hnm];rfl
   rw[show bW bs=5 by rw[hbE (by omega),h5]];exact qX 2 rfl<|qN rfl
  ·have hnm:dV b.nm=true:=by simpa using h
   rw[hnm,af (by decide)]at hbd;refine AW.skip<|AW.seq<|qX 2 rfl ?_;refine ae.CK tok rfl rfl rfl rfl trivial (al i) (an _) (by show i≤_;rw[aa];omega) ?_;refine qU 2 rfl ?_;rw[wZ (by rw[aa];omega)];refine ae.nil<|AW.block ?_
   refine AW.aK [0,3,4,11,12,13,25,26,27] (fun k:Nat=>[(0,.d (aI bs)),(3,.d (dI i)),(4,.bx [dS b.nm,rN b.pts]),(11,.d (aI bs)),(12,.d (dI bs.length)),(13,.d (dI i)),(25,.d (.sl 2 ((bs.map Body.D).take i))),(26,.d (dI i)),(27,.d (dI k))])
    (fun k=>k≤i∧FC bs i=fT (fun k=>decide ((bs.getD k default).nm=b.nm)) (i-k) k) (fun k=>i-k) 0 rfl ⟨an _,hdup⟩ (fun k ⟨hk,hD⟩=>?_)
   refine qX 1 rfl<|qI<|AW.cond rfl (fun h=>?_) fun h=>?_
   ·have hki:k<i:=by have:=ao h;omega
    refine AW.skip<|AW.seq<|AW.block<|AW.seq<|AW.region<|ae.idx tok (bs.getD k default).D rfl rfl rfl rfl (al k) (JQ Body.D (by omega) hki) ?_;refine qU 3 rfl<|qK 5 rfl ?_;rw[nk];refine ae.nil<|AW.cond rfl (fun h=>?_) fun h=>?_
    ·have h6:gO bs i=6:=by rw[hbd,hD.trans (gv hki h)];rfl
     rw[show bW bs=6 by rw[hbE (by omega),h6]];exact qX 2 rfl<|qN rfl
    ·refine AW.skip (qT 2 rfl ?_);rw[aD (x:=(k:Int)+1) (by omega) (by omega)];refine ae.nil ?_;exact⟨k+1,rfl,⟨hki,hD.trans (fj hki h)⟩,by omega⟩
   ·have hki: ¬k<i:=by have:=ar h;omega
    rw[hD.trans (gw hki),af (by decide)]at hbd;refine AW.exit<|AW.seq<|qX 4 rfl ?_;rw[aa];refine ae.nil<|AW.cond rfl (fun h=>?_) fun h=>?_
    ·have h8:8<b.pts.length:=by have:=ao h;omega
     have h4:gO bs i=4:=by rw[hbd,tR,ah h8]
     rw[show bW bs=4 by rw[hbE (by omega),h4]];exact qX 2 rfl<|qN rfl
    ·have h8: ¬8<b.pts.length:=by have:=ar h;omega
     rw[tR,af h8]at hbd;refine AW.skip<|qX 4 rfl ?_;rw[aa];refine ae.nil<|AW.block ?_
     refine AW.aK [0,4,11,12,13,44,45,46] (fun p:Nat=>[(0,.d (aI bs)),(4,.bx [dS b.nm,rN b.pts]),(11,.d (aI bs)),(12,.d (dI bs.length)),(13,.d (dI i)),(44,.d (rN b.pts)),(45,.d (dI b.pts.length)),(46,.d (dI p))])
      (fun p=>p≤b.pts.length∧gO bs i=fE (v7 b.pts) (b.pts.length-p) p) (fun p=>b.pts.length-p) 0 rfl ⟨an _,hbd⟩ (fun p ⟨hp,hP⟩=>?_)
     refine qX 1 rfl<|qI<|AW.cond rfl (fun h=>?_) fun h=>?_
     ·have hpn:p<b.pts.length:=by have:=ao h;omega
      obtain⟨mok1,mok2,mok3⟩:=bok3 p
      have hpE:v7 b.pts p≠0→bW bs=v7 b.pts p:=fun h0=>by have:=hP.trans (ez hpn h0);rw[hbE (by omega),this]
      have hpM:v7 b.pts p=0→gO bs i=fE (v7 b.pts) (b.pts.length-(p+1)) (p+1):=fun h0=>hP.trans (cQ hpn h0);obtain⟨m,hm⟩: ∃m,m=b.pts.getD p default:=⟨_,rfl⟩;rw[←hm]at mok1 mok2 mok3;unfold big at mok1;have hdup2:Fy b.pts p=fT (fun k=>decide ((b.pts.getD k default).nm=m.nm)) p 0:=by rw[hm];rfl
      have hpd:v7 b.pts p=if dV m.nm=false then 5 else if Fy b.pts p=true then 6 else if m.x.okB=true∧m.y.okB=true then 0 else 3:=by rw[hm];rfl
      refine AW.skip<|AW.seq<|AW.block<|qX 1 rfl ?_;refine ae.idx tok m.D rfl rfl rfl rfl (al p) (by rw[hm];exact getM Mark.D hpn) ?_;refine qU 4 rfl<|qI<|qX 2 rfl<|qM rfl (gV m.nm mok1) ?_;refine qU 1 rfl<|ae.nil<|AW.cond rfl (fun h=>?_) fun h=>?_
      ·have hnm2:dV m.nm=false:=by simpa using h
       have h5:v7 b.pts p=5:=by rw[hpd,hnm2];rfl
       rw[show bW bs=5 by rw[hpE (by omega),h5]];exact qX 2 rfl<|qN rfl
      ·have hnm2:dV m.nm=true:=by simpa using h
       rw[hnm2,af (by decide)]at hpd;refine AW.skip<|AW.seq<|qX 3 rfl ?_;refine ae.CK tok rfl rfl rfl rfl trivial (al p) (an _) (by show p≤_;rw[aa];omega) ?_;refine qU 2 rfl ?_;rw[wZ (by rw[aa];omega)];refine ae.nil<|AW.block ?_
       refine AW.aK [0,4,8,11,12,13,44,45,46,59,60,61] (fun k:Nat=>[(0,.d (aI bs)),(4,.bx [dS b.nm,rN b.pts]),(8,.bx [dS m.nm,dB m.x.g,Wd m.x.n,Wd m.x.d,dB m.y.g,Wd m.y.n,Wd m.y.d]),(11,.d (aI bs)),(12,.d (dI bs.length)),(13,.d (dI i)),(44,.d (rN b.pts)),(45,.d (dI b.pts.length)),(46,.d (dI p)),(59,.d (.sl 7 ((b.pts.map Mark.D).take p))),(60,.d (dI p)),(61,.d (dI k))])
        (fun k=>k≤p∧Fy b.pts p=fT (fun k=>decide ((b.pts.getD k default).nm=m.nm)) (p-k) k) (fun k=>p-k) 0 rfl ⟨an _,hdup2⟩ (fun k ⟨hk,hD2⟩=>?_)
       refine qX 1 rfl<|qI<|AW.cond rfl (fun h=>?_) fun h=>?_
       ·have hkp:k<p:=by have:=ao h;omega
        refine AW.skip<|AW.seq<|AW.block<|AW.seq<|AW.region<|ae.idx tok (b.pts.getD k default).D rfl rfl rfl rfl (al k) (JQ Mark.D (by omega) hkp) ?_;refine qU 3 rfl<|qK 5 rfl ?_;rw[nk];refine ae.nil<|AW.cond rfl (fun h=>?_) fun h=>?_
        ·have h6:v7 b.pts p=6:=by rw[hpd,hD2.trans (gv hkp h)];rfl
         rw[show bW bs=6 by rw[hpE (by omega),h6]];exact qX 2 rfl<|qN rfl
        ·refine AW.skip (qT 2 rfl ?_);rw[aD (x:=(k:Int)+1) (by omega) (by omega)];refine ae.nil ?_;exact⟨k+1,rfl,⟨hkp,hD2.trans (fj hkp h)⟩,by omega⟩
       ·have hkp: ¬k<p:=by have:=ar h;omega
        rw[hD2.trans (gw hkp),af (by decide)]at hpd;refine AW.exit ?_;refine AW.cut [0,4,11,12,13,44,45,46,81] (fun _:Unit=>[(0,.d (aI bs)),(4,.bx [dS b.nm,rN b.pts]),(11,.d (aI bs)),(12,.d (dI bs.length)),(13,.d (dI i)),(44,.d (rN b.pts)),(45,.d (dI b.pts.length)),(46,.d (dI p)),(81,.d (dB (!decide (m.x.okB=true∧m.y.okB=true))))]) (fun _=>True) ?_ fun _ _=>?_
        ·refine qT 2 rfl (qM rfl (fV m.x mok2 (by omega)) ?_);refine ae.split (t:=74) rfl (fun h=>?_) fun h=>?_
         ·refine qU 4 rfl (qM rfl (fV m.y mok3 (by omega)) ?_);refine qU 2 rfl<|ae.nil ?_;exact⟨(),by rw[show decide (m.x.okB=true∧m.y.okB=true)=m.y.okB by simp[h]];rfl,trivial⟩
         ·refine qU 7 rfl (ae.nil ?_);exact⟨(),by rw[show decide (m.x.okB=true∧m.y.okB=true)=false by simp[h]];rfl,trivial⟩
        refine AW.cond rfl (fun h=>?_) fun h=>?_
        ·have hno: ¬(m.x.okB=true∧m.y.okB=true):=fun e=>by rw[aN e]at h;cases h
         have h3:v7 b.pts p=3:=by rw[hpd,af hno]
         rw[show bW bs=3 by rw[hpE (by omega),h3]];exact qX 2 rfl<|qN rfl
        ·have hyes:m.x.okB=true∧m.y.okB=true:=by simpa using h
         rw[ah hyes]at hpd;refine AW.skip<|qT 2 rfl ?_;rw[aD (x:=(p:Int)+1) (by omega) (by omega)];refine ae.nil ?_;exact⟨p+1,rfl,⟨hpn,hpM hpd⟩,by omega⟩
     ·have hpn: ¬p<b.pts.length:=by have:=ar h;omega
      have h0:gO bs i=0:=hP.trans (eC hpn);refine AW.exit<|qT 2 rfl ?_;rw[aD (x:=(i:Int)+1) (by omega) (by omega)];refine ae.nil ?_;exact⟨i+1,rfl,⟨hin,hbM h0⟩,by omega⟩
 ·have hin: ¬i<bs.length:=by have:=ar h;omega
  rw[hE,eC hin];exact AW.exit<|qX 1 rfl<|qN rfl
theorem p7(a b:Rat):(Cb a b==0)=decide (a=b):=by
 unfold Cb;by_cases h:a<b
 ·rw[ah h];have hne:a≠b:=fun e=>by rw[e]at h;exact aG h Rat.lt_irrefl
  rw[a5 hne];rfl
 ·rw[af h];by_cases he:a=b
  ·rw[ah he,aN he];rfl
  ·rw[af he,a5 he];rfl
theorem lB{b:Bool}(h:(!b)=true):b=false:=by cases b<;>simp_all
theorem u7(h:kj i n=true):0≤i∧i.toNat<n:=by have:=ao h;omega
theorem xP(l:Lkg)(j:bp)(hl:l.ok K)(hK:K≤20000000):Pure Tryz.prog 99 [l.D,j.D] (tE (jE l.bodies j)):=by
 refine qJ 107 Tryz.func99 rfl fun B F0 w0=>?_;obtain⟨ln,bs,js,ds⟩:=l;have hb:=hl.b;simp only[]at hb ⊢;obtain⟨nm,kind,a,pt,b,on,to⟩:=j
 have hj:jE bs ⟨nm,kind,a,pt,b,on,to⟩=if kind≠0∧kind≠1 then 7 else if (kj a bs.length&&kj b bs.length)=false then 9 else if a=b then 13 else
  if (kj pt (bs.getD a.toNat default).pts.length&&kj on (bs.getD b.toNat default).pts.length)=false then 9 else
  if kind=0 then(if to=0 then 0 else 2)else if kj to (bs.getD b.toNat default).pts.length=false then 9 else
  if mF ((bs.getD b.toNat default).pts.getD on.toNat default) ((bs.getD b.toNat default).pts.getD to.toNat default)=true then 8 else 0:=rfl
 generalize jE bs ⟨nm,kind,a,pt,b,on,to⟩=E at *;refine qX 3 rfl<|qI ?_;refine AW.cut [2,3,15] (fun _:Unit=>[(2,.bx [dS ln,aI bs,aE js,aF ds]),(3,.bx [dS nm,dI kind,dI a,dI pt,dI b,dI on,dI to]),(15,.d (dB (decide (kind≠0∧kind≠1))))]) (fun _=>True) ?_ fun _ _=>?_
 ·refine qT 3 rfl ?_;refine ae.split (t:=10) rfl (fun h=>?_) fun h=>?_
  ·have h1:kind≠0:=by simpa using h
   refine qU 5 rfl<|ae.nil ?_;exact⟨(),by rw[show decide (kind≠0∧kind≠1)=(kind != 1) by rw[Bool.eq_iff_iff];simp[h1]];rfl,trivial⟩
  ·have h1:kind=0:=by simpa using h
   refine qU 5 rfl<|ae.nil ?_;exact⟨(),by rw[show decide (kind≠0∧kind≠1)=false by simp[h1]];rfl,trivial⟩
 refine AW.cond rfl (fun h=>?_) fun h=>?_
 ·rw[ah (ao h)]at hj;rw[hj];exact qX 2 rfl<|qN rfl
 rw[af (ar h)]at hj;refine AW.skip<|AW.seq ?_;refine AW.cut [2,3,32] (fun _:Unit=>[(2,.bx [dS ln,aI bs,aE js,aF ds]),(3,.bx [dS nm,dI kind,dI a,dI pt,dI b,dI on,dI to]),(32,.d (dB (!(kj a bs.length&&kj b bs.length))))]) (fun _=>True) ?_ fun _ _=>?_
 ·refine qT 5 rfl ?_;rw[aa];refine qM rfl (iJ a bs.length) ?_;refine ae.split (t:=22) rfl (fun h=>?_) fun h=>?_
  ·refine qU 7 rfl ?_;rw[aa];refine qM rfl (iJ b bs.length) ?_;refine qU 2 rfl<|ae.nil ?_;exact⟨(),by rw[h];rfl,trivial⟩
  ·refine qU 10 rfl (ae.nil ?_);exact⟨(),by rw[h];rfl,trivial⟩
 refine AW.cond rfl (fun h=>?_) fun h=>?_
 ·rw[ah (lB h)]at hj;rw[hj];exact qX 2 rfl<|qN rfl
 have hab:kj a bs.length=true∧kj b bs.length=true:=by simpa using h
 rw[af (by simp[hab])]at hj;obtain⟨ha0,ha1⟩:=u7 hab.1;obtain⟨hb0,hb1⟩:=u7 hab.2;obtain⟨Bb,hBb⟩: ∃x,x=bs.getD b.toNat default:=⟨_,rfl⟩;obtain⟨Ba,hBa⟩: ∃x,x=bs.getD a.toNat default:=⟨_,rfl⟩;have okb:=hb b.toNat;rw[←hBb]at hj okb;rw[←hBa]at hj;refine AW.skip<|AW.seq<|qX 5 rfl<|ae.nil<|AW.cond rfl (fun h=>?_) fun h=>?_
 ·rw[ah (by simpa using h)]at hj;rw[hj];exact qX 2 rfl<|qN rfl
 rw[af (by simpa using h)]at hj;refine AW.skip<|qX 4 rfl ?_;refine ae.idx tok Bb.D rfl rfl rfl rfl hb0 (by rw[hBb];exact getM Body.D hb1) ?_;refine qU 3 rfl<|qI ?_;refine AW.cut [2,3,5,66] (fun _:Unit=>[(2,.bx [dS ln,aI bs,aE js,aF ds]),(3,.bx [dS nm,dI kind,dI a,dI pt,dI b,dI on,dI to]),(5,.d (rN Bb.pts)),(66,.d (dB (!(kj pt Ba.pts.length&&kj on Bb.pts.length))))]) (fun _=>True) ?_ fun _ _=>?_
 ·have c1:=iJ pt Ba.pts.length;cases hq:kj pt Ba.pts.length with
  |true =>
   rw[hq]at c1;refine AW.draw aO 20 (by kernel_rfl) ?_;refine qP 6 rfl ?_;refine ai.idx tok Ba.D rfl rfl rfl rfl rfl ha0 (by rw[hBa];exact getM Body.D ha1) ?_;refine qP 3 rfl ?_;rw[aa];refine qQ rfl c1<|qP 6 rfl ?_;rw[aa];refine qQ rfl (iJ on Bb.pts.length) ?_;refine qP 2 rfl<|ai.nil<|ae.nil ?_;exact⟨(),rfl,trivial⟩
  |false =>
   rw[hq]at c1;refine AW.draw aO 20 (by kernel_rfl) ?_;refine qP 6 rfl ?_;refine ai.idx tok Ba.D rfl rfl rfl rfl rfl ha0 (by rw[hBa];exact getM Body.D ha1) ?_;refine qP 3 rfl ?_;rw[aa];refine qQ rfl c1<|qP 9 rfl<|ai.nil<|ae.nil ?_;exact⟨(),rfl,trivial⟩
 refine AW.cond rfl (fun h=>?_) fun h=>?_
 ·rw[ah (lB h)]at hj;rw[hj];exact qX 2 rfl<|qN rfl
 have hpo:kj pt Ba.pts.length=true∧kj on Bb.pts.length=true:=by simpa using h
 rw[af (by simp[hpo])]at hj;obtain⟨ho0,ho1⟩:=u7 hpo.2;refine AW.skip<|AW.seq<|qX 3 rfl<|ae.nil<|AW.cond rfl (fun h=>?_) fun h=>?_
 ·rw[ah (by simpa using h)]at hj;refine AW.seq<|qX 3 rfl<|ae.nil<|AW.cond rfl (fun h=>?_) fun h=>?_
  ·rw[af (by simpa using h)]at hj;rw[hj];exact qX 2 rfl<|qN rfl
  ·rw[ah (by simpa using h)]at hj;rw[hj];exact AW.skip<|qX 1 rfl<|qN rfl
 rw[af (by simpa using h)]at hj;refine AW.skip<|AW.seq<|qX 4 rfl ?_;rw[aa];refine qM rfl (iJ to Bb.pts.length) ?_;refine qU 1 rfl<|ae.nil<|AW.cond rfl (fun h=>?_) fun h=>?_
 ·rw[ah (by simpa using h)]at hj;rw[hj];exact qX 2 rfl<|qN rfl
 have hto:kj to Bb.pts.length=true:=by simpa using h
 rw[af (by simp[hto])]at hj;obtain⟨ht0,ht1⟩:=u7 hto;obtain⟨p,hp⟩: ∃x,x=Bb.pts.getD on.toNat default:=⟨_,rfl⟩;obtain⟨q,hq⟩: ∃x,x=Bb.pts.getD to.toNat default:=⟨_,rfl⟩;have okp:=okb.2.2 on.toNat;have okq:=okb.2.2 to.toNat;rw[←hp]at hj okp;rw[←hq]at hj okq;refine AW.skip<|AW.seq<|AW.mU tok aO [(5,true),(5,false),(2,true)] 12 [6,7] (by kernel_rfl) ⟨rfl,?_⟩;refine qP 3 rfl ?_;refine ai.idx tok p.D rfl rfl rfl rfl rfl ho0 (by rw[hp];exact getM Mark.D ho1) ?_;refine qP 1 rfl<|ai.nil ⟨rfl,?_⟩;refine qP 3 rfl ?_;refine ai.idx tok q.D rfl rfl rfl rfl rfl ht0 (by rw[hq];exact getM Mark.D ht1) ?_;refine qP 1 rfl<|ai.nil ⟨rfl,?_⟩;refine qP 2 rfl<|ai.nil ⟨_,m8.cons (.bx rfl) (m8.cons (.bx rfl) (m8.nil)),?_⟩;refine qI ?_;refine AW.cut [105] (fun _:Unit=>[(105,.d (dB (mF p q)))]) (fun _=>True) ?_ fun _ _=>?_
 ·refine qT 4 rfl (qM rfl (od p.x q.x okp.2.1 okq.2.1 (by omega)) ?_);refine qU 1 rfl ?_;rw[p7];refine ae.split (t:=97) rfl (fun h=>?_) fun h=>?_
  ·have h1:=ao h;refine qU 5 rfl<|qM rfl (od p.y q.y okp.2.2 okq.2.2 (by omega)) ?_;refine qU 2 rfl ?_;rw[p7];refine ae.nil ?_;exact⟨(),by rw[show mF p q=decide (p.y.val=q.y.val) by unfold mF;simp[h1]];rfl,trivial⟩
  ·have h1:=ar h;refine qU 8 rfl<|ae.nil ?_;exact⟨(),by rw[show mF p q=false by unfold mF;simp[h1]];rfl,trivial⟩
 refine AW.cond rfl (fun h=>?_) fun h=>?_
 ·rw[ah h]at hj;rw[hj];exact qX 2 rfl<|qN rfl
 ·rw[af (by rw[h];decide)]at hj;rw[hj];exact AW.skip<|qX 1 rfl<|qN rfl
theorem vC(l:Lkg)(hl:l.ok K)(hK:K≤20000000):Pure Tryz.prog 53 [l.D] (tE (eK l.bodies l.joints)):=by
 refine qJ 49 Tryz.func53 rfl fun B F0 w0=>?_;have hjoint:=fun j=>xP l j hl hK;obtain⟨ln,bs,js,ds⟩:=l;have hj:=hl.j;have hn:=hl.nj;simp only[]at hj hn hjoint ⊢;show AW _ _ _ _ _ _ _ (fh 0 [D.ag [dS ln,aI bs,aE js,aF ds]]);unfold big at hn;refine qX 2 rfl<|qI<|qX 4 rfl ?_;rw[aa];refine ae.nil<|AW.cond rfl (fun h=>?_) fun h=>?_
 ·have h16:16<js.length:=by have:=ao h;omega
  rw[eK,ah h16];exact qX 2 rfl<|qN rfl
 have h16: ¬16<js.length:=by have:=ar h;omega
 rw[eK,af h16];refine AW.skip<|AW.seq<|qX 4 rfl ?_;rw[aa];refine ae.nil<|AW.block ?_
 refine AW.aK [1,14,15,16] (fun i:Nat=>[(1,.bx [dS ln,aI bs,aE js,aF ds]),(14,.d (aE js)),(15,.d (dI js.length)),(16,.d (dI i))])
  (fun i=>i≤js.length∧fE (fy bs js) js.length 0=fE (fy bs js) (js.length-i) i) (fun i=>js.length-i) 0 rfl ⟨an _,rfl⟩ (fun i ⟨hi,hE⟩=>?_)
 refine qX 1 rfl<|qI<|AW.cond rfl (fun h=>?_) fun h=>?_
 ·have hin:i<js.length:=by have:=ao h;omega
  have jok:=hj i;have hbE:fy bs js i≠0→fE (fy bs js) js.length 0=fy bs js i:=fun h0=>hE.trans (ez hin h0);have hbM:fy bs js i=0→fE (fy bs js) js.length 0=fE (fy bs js) (js.length-(i+1)) (i+1):=fun h0=>hE.trans (cQ hin h0);generalize fE (fy bs js) js.length 0=E at *;obtain⟨j,hje⟩: ∃j,j=js.getD i default:=⟨_,rfl⟩;rw[←hje]at jok;unfold big at jok;have hdup:FA js i=fT (fun k=>decide ((js.getD k default).nm=j.nm)) i 0:=by rw[hje];rfl
  have hbd:fy bs js i=if dV j.nm=false then 5 else if FA js i=true then 6 else jE bs j:=by rw[hje];rfl
  refine AW.skip<|AW.seq<|AW.block<|qX 1 rfl ?_;refine ae.idx tok j.D rfl rfl rfl rfl (al i) (by rw[hje];exact getM bp.D hin) ?_;refine qU 4 rfl<|qI<|qX 2 rfl<|qM rfl (gV j.nm jok) ?_;refine qU 1 rfl<|ae.nil<|AW.cond rfl (fun h=>?_) fun h=>?_
  ·have hnm:dV j.nm=false:=lB h;have h5:fy bs js i=5:=by rw[hbd,hnm];rfl
   rw[show E=5 by rw[hbE (by omega),h5]];exact qX 2 rfl<|qN rfl
  have hnm:dV j.nm=true:=by simpa using h
  rw[hnm,af (by decide)]at hbd;refine AW.skip<|AW.seq<|qX 3 rfl ?_;refine ae.CK tok rfl rfl rfl rfl trivial (al i) (an _) (by show i≤_;rw[aa];omega) ?_;refine qU 2 rfl ?_;rw[wZ (by rw[aa];omega)];refine ae.nil<|AW.block ?_
  refine AW.aK [1,4,14,15,16,29,30,31] (fun k:Nat=>[(1,.bx [dS ln,aI bs,aE js,aF ds]),(4,.bx [dS j.nm,dI j.kind,dI j.a,dI j.pt,dI j.b,dI j.on,dI j.to]),(14,.d (aE js)),(15,.d (dI js.length)),(16,.d (dI i)),(29,.d (.sl 7 ((js.map bp.D).take i))),(30,.d (dI i)),(31,.d (dI k))])
   (fun k=>k≤i∧FA js i=fT (fun k=>decide ((js.getD k default).nm=j.nm)) (i-k) k) (fun k=>i-k) 0 rfl ⟨an _,hdup⟩ (fun k ⟨hk,hD⟩=>?_)
  refine qX 1 rfl<|qI<|AW.cond rfl (fun h=>?_) fun h=>?_
  ·have hki:k<i:=by have:=ao h;omega
   refine AW.skip<|AW.seq<|AW.block<|AW.seq<|AW.region<|ae.idx tok (js.getD k default).D rfl rfl rfl rfl (al k) (JQ bp.D (by omega) hki) ?_;refine qU 3 rfl<|qK 5 rfl ?_;rw[nk];refine ae.nil<|AW.cond rfl (fun h=>?_) fun h=>?_
   ·have h6:fy bs js i=6:=by rw[hbd,hD.trans (gv hki h)];rfl
    rw[show E=6 by rw[hbE (by omega),h6]];exact qX 2 rfl<|qN rfl
   ·refine AW.skip (qT 2 rfl ?_);rw[aD (x:=(k:Int)+1) (by omega) (by omega)];refine ae.nil ?_;exact⟨k+1,rfl,⟨hki,hD.trans (fj hki h)⟩,by omega⟩
  ·have hki: ¬k<i:=by have:=ar h;omega
   rw[hD.trans (gw hki),af (by decide)]at hbd;refine AW.exit ?_;have c:=hjoint j;cases he:jE bs j with
   |zero =>
    rw[he]at hbd c;refine qX 2 rfl<|qM rfl c<|qU 1 rfl<|qK 1 rfl<|qR rfl rfl<|ae.nil<|AW.aC rfl<|AW.skip<|qT 2 rfl ?_;rw[aD (x:=(i:Int)+1) (by omega) (by omega)];refine ae.nil ?_;exact⟨i+1,rfl,⟨hin,hbM hbd⟩,by omega⟩
   |succ m =>
    rw[he]at hbd c;rw[show E=m+1 by rw[hbE (by omega),hbd]];exact qX 2 rfl<|qM rfl c<|qU 1 rfl<|qK 1 rfl<|qR rfl rfl<|ae.nil<|AW.aH rfl<|qX 2 rfl<|qN rfl
 ·have hin: ¬i<js.length:=by have:=ar h;omega
  rw[hE,eC hin];exact AW.exit<|qX 1 rfl<|qN rfl
theorem ub(l:Lkg)(hl:l.ok K):Pure Tryz.prog 54 [l.D] (tE (kp l.bodies.length l.drivers)):=by
 refine qJ 72 Tryz.func54 rfl fun B F0 w0=>?_;obtain⟨ln,bs,js,ds⟩:=l;have hd:=hl.d;have hn:=hl.nd;simp only[]at hd hn ⊢;show AW _ _ _ _ _ _ _ (fh 0 [D.ag [dS ln,aI bs,aE js,aF ds]]);unfold big at hn;refine qX 2 rfl<|qI<|qX 4 rfl ?_;rw[aa];refine ae.nil<|AW.cond rfl (fun h=>?_) fun h=>?_
 ·have h2:2<ds.length:=by have:=ao h;omega
  rw[kp,ah h2];exact qX 2 rfl<|qN rfl
 have h2: ¬2<ds.length:=by have:=ar h;omega
 rw[kp,af h2];refine AW.skip<|AW.seq<|qX 4 rfl ?_;rw[aa];refine ae.nil<|AW.block ?_
 refine AW.aK [1,15,16,17] (fun i:Nat=>[(1,.bx [dS ln,aI bs,aE js,aF ds]),(15,.d (aF ds)),(16,.d (dI ds.length)),(17,.d (dI i))])
  (fun i=>i≤ds.length∧fE (eM bs.length ds) ds.length 0=fE (eM bs.length ds) (ds.length-i) i) (fun i=>ds.length-i) 0 rfl ⟨an _,rfl⟩ (fun i ⟨hi,hE⟩=>?_)
 refine qX 1 rfl<|qI<|AW.cond rfl (fun h=>?_) fun h=>?_
 ·have hin:i<ds.length:=by have:=ao h;omega
  have dok:=hd i;have hbE:eM bs.length ds i≠0→fE (eM bs.length ds) ds.length 0=eM bs.length ds i:=fun h0=>hE.trans (ez hin h0);have hbM:eM bs.length ds i=0→fE (eM bs.length ds) ds.length 0=fE (eM bs.length ds) (ds.length-(i+1)) (i+1):=fun h0=>hE.trans (cQ hin h0);generalize fE (eM bs.length ds) ds.length 0=E at *;obtain⟨d,hde⟩: ∃d,d=ds.getD i default:=⟨_,rfl⟩;rw[←hde]at dok;unfold big at dok;have hdup:FB ds i=fT (fun k=>decide ((ds.getD k default).nm=d.nm)) i 0:=by rw[hde];rfl
  have hdup2:Fx ds i=fT (fun k=>decide ((ds.getD k default).body=d.body)) i 0:=by rw[hde];rfl
  have hbd:eM bs.length ds i=if dV d.nm=false then 5 else if FB ds i=true then 6 else if kj d.body bs.length=false then 9 else if d.body=0 then 7 else if Fx ds i=true then 6 else 0:=by rw[hde];rfl
  refine AW.skip<|AW.seq<|AW.block<|qX 1 rfl ?_;refine ae.idx tok d.D rfl rfl rfl rfl (al i) (by rw[hde];exact getM Driver.D hin) ?_;refine qU 4 rfl<|qI<|qX 2 rfl<|qM rfl (gV d.nm dok) ?_;refine qU 1 rfl<|ae.nil<|AW.cond rfl (fun h=>?_) fun h=>?_
  ·have hnm:dV d.nm=false:=lB h;have h5:eM bs.length ds i=5:=by rw[hbd,hnm];rfl
   rw[show E=5 by rw[hbE (by omega),h5]];exact qX 2 rfl<|qN rfl
  have hnm:dV d.nm=true:=by simpa using h
  rw[hnm,af (by decide)]at hbd;refine AW.skip<|AW.seq<|qX 3 rfl ?_;refine ae.CK tok rfl rfl rfl rfl trivial (al i) (an _) (by show i≤_;rw[aa];omega) ?_;refine qU 2 rfl ?_;rw[wZ (by rw[aa];omega)];refine ae.nil<|AW.block ?_
  refine AW.aK [1,3,4,15,16,17,30,31,32] (fun k:Nat=>[(1,.bx [dS ln,aI bs,aE js,aF ds]),(3,.d (dI i)),(4,.bx [dS d.nm,dI d.body]),(15,.d (aF ds)),(16,.d (dI ds.length)),(17,.d (dI i)),(30,.d (.sl 2 ((ds.map Driver.D).take i))),(31,.d (dI i)),(32,.d (dI k))])
   (fun k=>k≤i∧FB ds i=fT (fun k=>decide ((ds.getD k default).nm=d.nm)) (i-k) k) (fun k=>i-k) 0 rfl ⟨an _,hdup⟩ (fun k ⟨hk,hD⟩=>?_)
  refine qX 1 rfl<|qI<|AW.cond rfl (fun h=>?_) fun h=>?_
  ·have hki:k<i:=by have:=ao h;omega
   refine AW.skip<|AW.seq<|AW.block<|AW.seq<|AW.region<|ae.idx tok (ds.getD k default).D rfl rfl rfl rfl (al k) (JQ Driver.D (by omega) hki) ?_;refine qU 3 rfl<|qK 5 rfl ?_;rw[nk];refine ae.nil<|AW.cond rfl (fun h=>?_) fun h=>?_
   ·have h6:eM bs.length ds i=6:=by rw[hbd,hD.trans (gv hki h)];rfl
    rw[show E=6 by rw[hbE (by omega),h6]];exact qX 2 rfl<|qN rfl
   ·refine AW.skip (qT 2 rfl ?_);rw[aD (x:=(k:Int)+1) (by omega) (by omega)];refine ae.nil ?_;exact⟨k+1,rfl,⟨hki,hD.trans (fj hki h)⟩,by omega⟩
  ·have hki: ¬k<i:=by have:=ar h;omega
   rw[hD.trans (gw hki),af (by decide)]at hbd;refine AW.exit<|AW.seq<|qX 5 rfl ?_;rw[aa];refine qM rfl (iJ d.body bs.length) ?_;refine qU 1 rfl<|ae.nil<|AW.cond rfl (fun h=>?_) fun h=>?_
   ·rw[ah (lB h)]at hbd;rw[show E=9 by rw[hbE (by omega),hbd]];exact qX 2 rfl<|qN rfl
   have hinb:kj d.body bs.length=true:=by simpa using h
   rw[af (by simp[hinb])]at hbd;refine AW.skip<|AW.seq<|qX 3 rfl<|ae.nil<|AW.cond rfl (fun h=>?_) fun h=>?_
   ·rw[ah (by simpa using h)]at hbd;rw[show E=7 by rw[hbE (by omega),hbd]];exact qX 2 rfl<|qN rfl
   rw[af (by simpa using h)]at hbd;refine AW.skip<|qX 3 rfl ?_;refine ae.CK tok rfl rfl rfl rfl trivial (al i) (an _) (by show i≤_;rw[aa];omega) ?_;refine qU 2 rfl ?_;rw[wZ (by rw[aa];omega)];refine ae.nil<|AW.block ?_
   refine AW.aK [1,4,15,16,17,58,59,60] (fun k:Nat=>[(1,.bx [dS ln,aI bs,aE js,aF ds]),(4,.bx [dS d.nm,dI d.body]),(15,.d (aF ds)),(16,.d (dI ds.length)),(17,.d (dI i)),(58,.d (.sl 2 ((ds.map Driver.D).take i))),(59,.d (dI i)),(60,.d (dI k))])
    (fun k=>k≤i∧Fx ds i=fT (fun k=>decide ((ds.getD k default).body=d.body)) (i-k) k) (fun k=>i-k) 0 rfl ⟨an _,hdup2⟩ (fun k ⟨hk,hD⟩=>?_)
   refine qX 1 rfl<|qI<|AW.cond rfl (fun h=>?_) fun h=>?_
   ·have hki:k<i:=by have:=ao h;omega
    refine AW.skip<|AW.seq<|AW.block<|AW.seq<|AW.region<|ae.idx tok (ds.getD k default).D rfl rfl rfl rfl (al k) (JQ Driver.D (by omega) hki) ?_;refine qU 3 rfl<|qK 5 rfl<|ae.nil<|AW.cond rfl (fun h=>?_) fun h=>?_
    ·have h':decide ((ds.getD k default).body=d.body)=true:=by simpa using h
     rw[hD.trans (gv hki h')]at hbd;rw[show E=6 by rw[hbE (by rw[hbd];decide),hbd];rfl];exact qX 2 rfl<|qN rfl
    ·have h':decide ((ds.getD k default).body=d.body)=false:=by simpa using h
     refine AW.skip<|qT 2 rfl ?_;rw[aD (x:=(k:Int)+1) (by omega) (by omega)];refine ae.nil ?_;exact⟨k+1,rfl,⟨hki,hD.trans (fj hki h')⟩,by omega⟩
   ·have hki: ¬k<i:=by have:=ar h;omega
    rw[hD.trans (gw hki),af (by decide)]at hbd;refine AW.exit<|qT 2 rfl ?_;rw[aD (x:=(i:Int)+1) (by omega) (by omega)];refine ae.nil ?_;exact⟨i+1,rfl,⟨hin,hbM hbd⟩,by omega⟩
 ·have hin: ¬i<ds.length:=by have:=ar h;omega
  rw[hE,eC hin];exact AW.exit<|qX 1 rfl<|qN rfl
theorem oX(l:Lkg)(hl:l.ok K)(hK:K≤20000000):Pure Tryz.prog 31 [l.D] (tE (Cq l)):=by
 refine qJ 33 Tryz.func31 rfl fun B F0 w0=>?_;have c1:=vD l.bodies hl.nb hl.b (by omega);have c2:=vC l hl hK;have c3:=ub l hl
 have hcd:Cq l=if dV l.nm=false then 5 else if l.bodies=[]then 10 else if 8<l.bodies.length then 4 else
  if bW l.bodies≠0 then bW l.bodies else if eK l.bodies l.joints≠0 then eK l.bodies l.joints else kp l.bodies.length l.drivers:=rfl
 generalize Cq l=E at *;obtain⟨ln,bs,js,ds⟩:=l;have hnm:=hl.nm;have hnb:=hl.nb;simp only[]at hcd c1 c2 c3 hnm hnb ⊢;show AW _ _ _ _ _ _ _ (fh 0 [D.ag [dS ln,aI bs,aE js,aF ds]]);unfold big at hnm hnb;refine qX 2 rfl<|qI<|qX 2 rfl<|qM rfl (gV ln hnm) ?_;refine qU 1 rfl<|ae.nil<|AW.cond rfl (fun h=>?_) fun h=>?_
 ·rw[ah (lB h)]at hcd;rw[hcd];exact qX 2 rfl<|qN rfl
 rw[af (by simpa using h)]at hcd;refine AW.skip<|AW.seq<|qX 4 rfl ?_;rw[aa];refine ae.nil<|AW.cond rfl (fun h=>?_) fun h=>?_
 ·have h0:bs=[]:=by
   have:(bs.length:Int)=0:=by simpa using h
   exact bi.1 (by omega)
  rw[ah h0]at hcd;rw[hcd];exact qX 2 rfl<|qN rfl
 have h0:bs≠[]:=by rintro rfl;simp at h
 rw[af h0]at hcd;refine AW.skip<|AW.seq<|qX 4 rfl ?_;rw[aa];refine ae.nil<|AW.cond rfl (fun h=>?_) fun h=>?_
 ·have h8:8<bs.length:=by have:=ao h;omega
  rw[ah h8]at hcd;rw[hcd];exact qX 2 rfl<|qN rfl
 have h8: ¬8<bs.length:=by have:=ar h;omega
 rw[af h8]at hcd;refine AW.skip ?_;cases he:bW bs with
 |succ m =>
  rw[he]at hcd c1;rw[show E=m+1 by rw[hcd,ah (by omega)]];refine AW.seq<|qX 2 rfl<|qM rfl c1<|qU 1 rfl<|qK 1 rfl<|qR rfl rfl<|ae.nil<|AW.aH rfl<|qX 2 rfl ?_;exact qN rfl
 |zero =>
  rw[he]at hcd c1;rw[af (by omega)]at hcd;refine AW.seq<|qX 2 rfl<|qM rfl c1<|qU 1 rfl<|qK 1 rfl<|qR rfl rfl<|ae.nil<|AW.aC rfl<|AW.skip ?_;cases he2:eK bs js with
  |succ m =>
   rw[he2]at hcd c2;rw[show E=m+1 by rw[hcd,ah (by omega)]];refine AW.seq<|qX 1 rfl<|qM rfl c2<|qU 1 rfl<|qK 1 rfl<|qR rfl rfl<|ae.nil<|AW.aH rfl<|qX 2 rfl ?_;exact qN rfl
  |zero =>
   rw[he2]at hcd c2;rw[af (by omega)]at hcd;rw[hcd];refine AW.seq<|qX 1 rfl<|qM rfl c2<|qU 1 rfl<|qK 1 rfl<|qR rfl rfl<|ae.nil<|AW.aC rfl<|AW.skip<|qX 1 rfl ?_;exact qM rfl c3<|qU 1 rfl<|qN rfl
abbrev AF(v:List NQ):D:=.pr [.sl 1 (v.map ak),bd]
theorem qO{f:Nat}{a r:NQ}(hP:Pure Tryz.prog f [fm v,ak a,ak b] (.tu [ak r,bd])):Pure Tryz.prog 104 [AF v,.fn f [] [],ak a,ak b] (ak r):=by
 refine qJ 32 Tryz.func104 rfl fun B0 F0 w0=>?_;refine qX 1 rfl<|qI<|qX 1 rfl<|ae.Dw tok rfl rfl rfl rfl rfl ?_;refine qU 2 rfl<|qR rfl rfl<|ae.nil<|AW.aC rfl ?_
 ·skip
  refine AW.skip<|qX 2 rfl<|ae.Dw tok rfl rfl rfl rfl rfl ?_;refine qU 4 rfl<|ae.Kr tok rfl rfl rfl rfl hP ?_;refine qU 5 rfl<|qK 2 rfl<|ae.Dw tok rfl rfl rfl rfl rfl ?_;refine ae.Nd tok rfl rfl rfl rfl rfl rfl rfl rfl rfl rfl rfl rfl rfl rfl rfl ?_;exact qK 2 rfl<|qN rfl
theorem oB{a:NQ}(V:fC m v)(ha:ay v.length a)(sa:au m a)(hb:ay v.length b)(sb:au m b):Pure Tryz.prog 103 [AF v,ak a,ak b] (ak (uE a b)):=by refine qJ 11 Tryz.func103 rfl (fun B0 F0 w0=>?_);have c:=qO (yX V ha sa hb sb);exact qX 1 rfl<|qK 3 rfl<|qM rfl c<|qU 1 rfl<|qN rfl
theorem j4{a:NQ}(V:fC m v)(ha:ay v.length a)(sa:au m a)(hb:ay v.length b)(sb:au m b):Pure Tryz.prog 57 [AF v,ak a,ak b] (ak (fq a b)):=by refine qJ 11 Tryz.func57 rfl (fun B0 F0 w0=>?_);have c:=qO (yV V ha sa hb sb);exact qX 1 rfl<|qK 3 rfl<|qM rfl c<|qU 1 rfl<|qN rfl
theorem iB{a:NQ}(hsT:sT v.length m≤17300000000000)(V:fC m v)(ha:ay v.length a)(sa:au m a)(hb:ay v.length b)(sb:au m b):Pure Tryz.prog 58 [AF v,ak a,ak b] (ak (et v a b)):=by refine qJ 11 Tryz.func58 rfl (fun B0 F0 w0=>?_);have c:=qO (yW hsT V ha sa hb sb);exact qX 1 rfl<|qK 3 rfl<|qM rfl c<|qU 1 rfl<|qN rfl
theorem Iz{a:NQ}(ha:ay l a):fq [] a=gk a:=lg ((cE l).plus ha.minus) ha.minus (funext fun i=>by
 rw[eP];show(0:Rat)+_=_
 rw[hZ])
theorem iA{a:NQ}(V:fC m v)(ha:ay v.length a)(sa:au m a):Pure Tryz.prog 60 [AF v,ak a] (ak (gk a)):=by refine qJ 8 Tryz.func60 rfl (fun B0 F0 w0=>?_);have c:=j4 V (cE _) (db V.m1) ha sa;rw[Iz ha]at c;exact qX 1 rfl<|qK 2 rfl<|qM rfl c<|qU 1 rfl<|qN rfl
theorem Lt(hl:l≤2)(hm:m≤30000):ou l m:=by
 have h2:ou 2 m:=by
  show sT 2 m≤17300000000000∧sT 1 (sT 2 m)≤17300000000000∧sT 1 (sT 2 m)≤17300000000000;have e1: ∀k,sT 1 k=6*k+1:=fun k=>by show 2*(2*k)+2*k+1=_;omega
  have e2:sT 2 m=42*m+9:=by show sT 1 (sT 1 m)+sT 1 m+1=_;rw[e1,e1];omega
  rw[e2,e1];omega
 exact tV h2 hl
theorem pO(hl:l≤2):sT l m≤42*m+9:=by
 have e1: ∀k,sT 1 k=6*k+1:=fun k=>by show 2*(2*k)+2*k+1=_;omega
 match l,hl with
 |0,_=>show 2*m≤_;omega
 |1,_=>rw[e1];omega
 |2,_ =>
  show sT 1 (sT 1 m)+sT 1 m+1≤_;rw[e1,e1];omega
structure KM where
 c:NQ
 s:NQ
 x:NQ
 y:NQ
abbrev KM.D(b:KM):D:=.ag [ak b.c,ak b.s,ak b.x,ak b.y]
structure KM.ok (l k:Nat) (b:KM):Prop where
 c:ay l b.c∧au k b.c
 s:ay l b.s∧au k b.s
 x:ay l b.x∧au k b.x
 y:ay l b.y∧au k b.y
def MW(v:List NQ)(b:KM)(px py:NQ):NQ:=uE (fq (et v b.c px) (et v b.s py)) b.x
def MV(v:List NQ)(b:KM)(px py:NQ):NQ:=uE (uE (et v b.s px) (et v b.c py)) b.y
theorem MU{b:KM}{px py:NQ}(V:fC 16 v)(hl:v.length≤2)(hb:b.ok v.length 16)(hx:ay v.length px∧au 16 px)(hy:ay v.length py∧au 16 py):
  (ay v.length (MW v b px py)∧au 1400 (MW v b px py))∧(ay v.length (MV v b px py)∧au 1400 (MV v b px py)):=by
 have s1:=pO (m:=16) hl;have p1:=dY V hb.c.1 hb.c.2 hx.1 hx.2;have p2:=dY V hb.s.1 hb.s.2 hy.1 hy.2;have p3:=dY V hb.s.1 hb.s.2 hx.1 hx.2;have p4:=dY V hb.c.1 hb.c.2 hy.1 hy.2;have q1:=ic p1.1 p1.2 p2.1 p2.2;have q2:=tv p3.1 p3.2 p4.1 p4.2;have r1:=tv q1.1 q1.2 hb.x.1 hb.x.2;have r2:=tv q2.1 q2.2 hb.y.1 hb.y.2;exact⟨⟨r1.1,r1.2.mono (by omega)⟩,⟨r2.1,r2.2.mono (by omega)⟩⟩
theorem Eo{b:KM}{p:Mark}(V:fC 16 v)(hl:v.length≤2)(hb:b.ok v.length 16)(wx:p.x.w 16)(wy:p.y.w 16)(ox:p.x.okB=true)(oy:p.y.okB=true):
  Pure Tryz.prog 56 [AF v,b.D,p.D] (.tu [ak (MW v b (nZ p.x.val) (nZ p.y.val)),ak (MV v b (nZ p.x.val) (nZ p.y.val))]):=by
 refine qJ 50 Tryz.func56 rfl fun B0 F0 w0=>?_;have c1:=j6 p.x wx (by decide) (by decide) ox;have c2:=j6 p.y wy (by decide) (by decide) oy;have hx:=kB v.length (bU wx (by decide));have hy:=kB v.length (bU wy (by decide));generalize nZ p.x.val=px at *;generalize nZ p.y.val=py at *;have s1:=pO (m:=16) hl;have V2:=V.mono (k:=1400) (by decide) (by decide);have m1:=iB (by omega) V hb.c.1 hb.c.2 hx.1 hx.2;have m2:=iB (by omega) V hb.s.1 hb.s.2 hy.1 hy.2;have m3:=iB (by omega) V hb.s.1 hb.s.2 hx.1 hx.2;have m4:=iB (by omega) V hb.c.1 hb.c.2 hy.1 hy.2;have p1:=dY V hb.c.1 hb.c.2 hx.1 hx.2;have p2:=dY V hb.s.1 hb.s.2 hy.1 hy.2;have p3:=dY V hb.s.1 hb.s.2 hx.1 hx.2;have p4:=dY V hb.c.1 hb.c.2 hy.1 hy.2;have q1:=ic p1.1 p1.2 p2.1 p2.2;have q2:=tv p3.1 p3.2 p4.1 p4.2;have n1:=j4 V2 p1.1 (p1.2.mono (by omega)) p2.1 (p2.2.mono (by omega));have n2:=oB V2 p3.1 (p3.2.mono (by omega)) p4.1 (p4.2.mono (by omega));have o1:=oB V2 q1.1 (q1.2.mono (by omega)) hb.x.1 (hb.x.2.mono (by omega));have o2:=oB V2 q2.1 (q2.2.mono (by omega)) hb.y.1 (hb.y.2.mono (by omega));unfold MW MV;refine qX 4 rfl<|qI<|AW.draw aO 6 (by kernel_rfl) ?_;refine qP 2 rfl<|qQ rfl c1<|qP 2 rfl<|qQ rfl c2<|ai.nil<|qU 2 rfl<|qI<|AW.draw aO 16 (by kernel_rfl) ?_;refine qP 6 rfl<|qQ rfl m1<|qP 4 rfl<|qQ rfl m2<|qQ rfl n1<|qP 2 rfl<|qQ rfl o1<|ai.nil<|qU 1 rfl ?_;refine qI<|AW.draw aO 16 (by kernel_rfl) ?_;refine qP 6 rfl<|qQ rfl m3<|qP 4 rfl<|qQ rfl m4<|qQ rfl n2<|qP 2 rfl<|qQ rfl o2<|ai.nil<|qU 1 rfl ?_;exact qK 4 rfl<|qN rfl
theorem nH:Pure Tryz.prog 61 [] (ak [1]):=by refine qJ 3 Tryz.func61 rfl (fun B0 F0 w0=>?_);have c1:=jh 1 (by decide) (by decide);have c2:=j6 (Qr ((1:Int):Rat)) (k:=1) (gz _ (by have:=fU;rw[show((1:Int):Rat)=1 from rfl];omega)) (by decide) (by decide) (Eb _);rw[b5,show nZ ((1:Int):Rat)=[1]from rfl]at c2;exact qX 1 rfl<|qI<|AW.region<|qM rfl c1<|qM rfl c2<|qU 1 rfl<|qN rfl
structure fp where
 c:List RD
 s:List RD
 x:List RD
 y:List RD
deriving Inhabited
abbrev fp.D(p:fp):D:=.ag [bo p.c,bo p.s,bo p.x,bo p.y]
structure Asm where
 rt:List (List RD)
 bodies:List fp
 modes:List Int
abbrev Asm.D(a:Asm):D:=.ag [.sl 1 (a.rt.map bo),.sl 4 (a.bodies.map fp.D),.sl 1 (a.modes.map (fun n=>dI n))]
structure fp.ok (m:Nat) (rt:List (List RD)) (p:fp):Prop where
 c:kR m rt p.c
 s:kR m rt p.s
 x:kR m rt p.x
 y:kR m rt p.y
structure Asm.ok (m:Nat) (a:Asm):Prop where
 t:qj m a.rt
 b: ∀i,i<a.bodies.length→(a.bodies.getD i default).ok m a.rt
 l:a.bodies.length≤1000000
def HK(rt:List (List RD))(p:fp)(k:Nat):Nat:=bF rt.length ([p.c,p.s,p.x,p.y].getD k [])
def Ai(rt:List (List RD))(p:fp):Nat:=fE (HK rt p) (4-0) 0
def gl(l:Lkg)(a:Asm):Nat:=if Cq l≠0 then Cq l else if df a.rt≠0 then df a.rt else if a.bodies.length≠l.bodies.length then 10 else fE (fun i=>Ai a.rt (a.bodies.getD i default)) (a.bodies.length-0) 0
theorem MS{a:List RD}(h:df rt=0):kL rt [a]=bF rt.length a:=by
 unfold kL;rw[af (by rw[h];simp)];show(if bF rt.length a=0 then 0 else bF rt.length a)=_;by_cases h0:bF rt.length a=0
 ·rw[ah h0,h0]
 ·rw[af h0]
theorem BK(l:Lkg)(a:Asm)(hl:l.ok K)(hK:K≤20000000)(hb:l.bodies.length≤1000000000000)(ha:a.ok m):Pure Tryz.prog 55 [l.D,a.D] (tE (gl l a)):=by
 refine qJ 65 Tryz.func55 rfl fun B0 F0 w0=>?_;have cM:=oX l hl hK;obtain⟨m0,t1,t2,tw,tk⟩:=ha.t.t;have cT:=k9 a.rt tw t1 ha.t.l ha.t.ll tk;have hal:=ha.l;unfold gl;obtain⟨E,hE⟩: ∃E,fE (fun i=>Ai a.rt (a.bodies.getD i default)) (a.bodies.length-0) 0=E:=⟨_,rfl⟩;rw[hE];refine qX 3 rfl<|qI<|qX 1 rfl<|qM rfl cM<|qU 1 rfl<|ae.nil ?_;rcases e1:Cq l with _|z
 rotate_left
 ·rw[ah (bn z)];exact qX 1 rfl<|qR rfl rfl<|ae.nil<|AW.aH rfl<|qX 2 rfl<|qN rfl
 rw[af (by simp)];refine qX 1 rfl<|qR rfl rfl<|ae.nil<|AW.aC rfl<|AW.skip<|AW.seq<|qX 2 rfl<|qM rfl cT<|qU 1 rfl ?_;refine ae.nil ?_;rcases e2:df a.rt with _|z
 rotate_left
 ·rw[ah (bn z)];exact qX 1 rfl<|qR rfl rfl<|ae.nil<|AW.aH rfl<|qX 2 rfl<|qN rfl
 rw[af (by simp)];refine qX 1 rfl<|qR rfl rfl<|ae.nil<|AW.aC rfl<|AW.skip<|AW.seq<|qX 6 rfl ?_;rw[aa,aa];refine qU 1 rfl<|ae.nil ?_;by_cases hbl:a.bodies.length=l.bodies.length;rotate_left
 ·rw[ah hbl,bne_iff_ne.2 (show(a.bodies.length:Int)≠(l.bodies.length:Int) by omega)];exact AW.aH rfl<|qX 2 rfl<|qN rfl
 rw[af (fun h=>h hbl),bne_eq_false_iff_eq.2 (show(a.bodies.length:Int)=(l.bodies.length:Int) by omega)];refine AW.aC rfl<|AW.skip ?_;obtain⟨rt,bs,md⟩:=a;simp only[]at *;refine AW.seq<|qX 3 rfl ?_;rw[aa];refine qU 1 rfl<|ae.nil ?_;refine AW.block<|AW.aK [3,33,34,35] (fun i:Nat=>[(3,.bx [.sl 1 (rt.map bo),.sl 4 (bs.map fp.D),.sl 1 (md.map (fun n=>dI n))]),(33,.d (.sl 4 (bs.map fp.D))),(34,.d (dI bs.length)),(35,.d (dI i))]) (fun i=>i≤bs.length∧fE (fun i=>Ai rt (bs.getD i default)) (bs.length-i) i=E) (fun i=>bs.length-i) 0 rfl ⟨an _,hE⟩ fun i ⟨hi,hiE⟩=>?_;refine qX 1 rfl ?_;refine qI<|AW.cond rfl (fun h=>?_) fun h=>?_;rotate_left
 ·have hii: ¬i<bs.length:=by have:=ar h;omega
  rw[eC hii]at hiE;subst hiE;exact AW.exit<|qX 1 rfl<|qN rfl
 have hii:i<bs.length:=by have:=ao h;omega
 have hg:(bs.map fp.D)[i]?=some (bs.getD i default).D:=by simp[hii]
 have hmiss:=fun h0:Ai rt (bs.getD i default)=0=>(cQ (f:=fun i=>Ai rt (bs.getD i default)) hii h0).symm.trans hiE;have hhit:=fun h0:Ai rt (bs.getD i default)≠0=>(ez (f:=fun i=>Ai rt (bs.getD i default)) hii h0).symm.trans hiE;have hp:=ha.b i hii;generalize bs.getD i default=p at hg hmiss hhit hp;obtain⟨P,hP⟩: ∃P,Ai rt p=P:=⟨_,rfl⟩;rw[hP]at hmiss hhit;unfold Ai at hP;obtain⟨pc,ps,px,py⟩:=p;refine AW.skip<|AW.seq<|AW.block<|AW.seq<|AW.region<|ae.idx tok (fp.mk pc ps px py).D rfl rfl rfl rfl (al i) hg ?_;refine qU 3 rfl<|qK 8 rfl<|ae.ku tok rfl rfl rfl rfl rfl ?_;refine qU 2 rfl<|ae.nil ?_;refine AW.block<|AW.aK [3,33,34,35,47,48,49] (fun k:Nat=>[(3,.bx [.sl 1 (rt.map bo),.sl 4 (bs.map fp.D),.sl 1 (md.map (fun n=>dI n))]),(33,.d (.sl 4 (bs.map fp.D))),(34,.d (dI bs.length)),(35,.d (dI i)),(47,.d (.sl 1 [bo pc,bo ps,bo px,bo py])),(48,.d (dI 4)),(49,.d (dI k))]) (fun k=>k≤4∧fE (HK rt ⟨pc,ps,px,py⟩) (4-k) k=P) (fun k=>4-k) 0 rfl ⟨an _,hP⟩ fun k ⟨hk,hkP⟩=>?_;refine qX 1 rfl ?_;refine qI<|AW.cond rfl (fun h=>?_) fun h=>?_;rotate_left
 ·have hkk: ¬k<4:=by have:=ar h;omega
  rw[eC hkk]at hkP;refine AW.exit<|qT 1 rfl ?_;rw[aD (x:=(i:Int)+1) (by omega) (by omega)];refine qU 1 rfl<|ae.nil ?_;exact⟨i+1,rfl,⟨hii,hmiss hkP.symm⟩,by omega⟩
 have hkk:k<4:=by have:=ao h;omega
 have km:=fun h0:HK rt ⟨pc,ps,px,py⟩ k=0=>(cQ (f:=HK rt ⟨pc,ps,px,py⟩) hkk h0).symm.trans hkP;have kh:=fun h0:HK rt ⟨pc,ps,px,py⟩ k≠0=>(ez (f:=HK rt ⟨pc,ps,px,py⟩) hkk h0).symm.trans hkP
 obtain⟨q,hq,hqg,hqn⟩: ∃q,[bo pc,bo ps,bo px,bo py][k]?=some (bo q)∧HK rt ⟨pc,ps,px,py⟩ k=bF rt.length q∧kR m rt q:=by
  match k,hkk with
  |0,_=>exact⟨pc,rfl,rfl,hp.c⟩
  |1,_=>exact⟨ps,rfl,rfl,hp.s⟩
  |2,_=>exact⟨px,rfl,rfl,hp.x⟩
  |3,_=>exact⟨py,rfl,rfl,hp.y⟩
 rw[hqg]at km kh;have cN:=AL ha.t hqn;unfold Nt at cN;rw[MS e2]at cN;refine AW.skip<|AW.seq<|AW.block<|AW.seq<|AW.region<|ae.idx tok (bo q) rfl rfl rfl rfl (al k) hq ?_;refine qU 2 rfl<|qK 3 rfl ?_;rcases e3:bF rt.length q with _|z
 rotate_left
 ·rw[e3]at kh;rw[e3,ah (bn z)]at cN;have h1:=kh (bn z);have h2:=hhit (by rw[←h1];exact bn z);rw[←h1]at h2;subst h2;exact qM rfl cN<|qU 5 rfl<|qK 1 rfl<|qR rfl rfl<|ae.nil<|AW.aH rfl<|qX 2 rfl<|qN rfl
 rw[e3]at km;rw[e3,af (by simp)]at cN;refine qM rfl cN<|qU 5 rfl<|qK 1 rfl<|qR rfl rfl<|ae.nil<|AW.aC rfl<|AW.skip<|qT 1 rfl ?_;rw[aD (x:=(k:Int)+1) (by omega) (by omega)];refine qU 1 rfl<|ae.nil ?_;exact⟨k+1,rfl,⟨hkk,km rfl⟩,by omega⟩
def Fi(js:List bp):Nat→Int
 |0=>0
 |i+1=>Fi js i+if (js.getD i default).kind=0 then 2 else 1
theorem JO(js:List bp): ∀i,0≤Fi js i∧Fi js i≤2*i
 |0=>by exact⟨d4 _,d4 _⟩
 |i+1=>by have:=JO js i;show 0≤Fi js i+(if _ then _ else _)∧Fi js i+(if _ then _ else _)≤_;split<;>omega
def NI(l:Lkg):Int:=3*((l.bodies.length:Int) -1) -Fi l.joints l.joints.length
def NJ(l:Lkg):D:=if Cq l≠0 then .tu [dI 0,tE (Cq l)]else .tu [dI (NI l),bd]
theorem vF(l:Lkg)(hl:l.ok K)(hK:K≤20000000):Pure Tryz.prog 13 [l.D] (NJ l):=by
 refine qJ 34 Tryz.func13 rfl fun B0 F0 w0=>?_;have cM:=oX l hl hK;have nb:=hl.nb;have nj:=hl.nj;unfold big at nb nj;unfold NJ NI;refine qX 3 rfl<|qI<|qX 1 rfl<|qM rfl cM<|qU 1 rfl<|ae.nil ?_;rcases e1:Cq l with _|z
 rotate_left
 ·rw[ah (bn z)];exact qX 1 rfl<|qR rfl rfl<|ae.nil<|AW.aH rfl<|qX 3 rfl<|qN rfl
 rw[af (by simp)];refine qX 1 rfl<|qR rfl rfl<|ae.nil<|AW.aC rfl<|AW.skip ?_;clear cM e1 hl;obtain⟨ln,bs,js,ds⟩:=l;simp only[]at nb nj ⊢;refine qX 3 rfl ?_;rw[aa];refine qU 1 rfl ?_;rw[aD (x:=(bs.length:Int) -1) (by omega) (by omega)];refine qU 1 rfl ?_;rw[aD (x:=3*((bs.length:Int) -1)) (by omega) (by omega)];refine qU 1 rfl<|qI<|qX 3 rfl ?_;rw[aa];refine qU 1 rfl<|ae.nil<|AW.block ?_;refine AW.aK [5,19,20,21] (fun i:Nat=>[(5,.d (dI (3*((bs.length:Int) -1) -Fi js i))),(19,.d (aE js)),(20,.d (dI js.length)),(21,.d (dI i))]) (fun i=>i≤js.length) (fun i=>js.length-i) 0 (by show _=([(5,.d (dI (3*((bs.length:Int) -1) -0))),(19,.d (aE js)),(20,.d (dI js.length)),(21,.d (dI (0:Nat)))]:St);rw[Int.sub_zero];rfl) (an _) fun i hi=>?_;refine qX 1 rfl ?_;refine qI<|AW.cond rfl (fun h=>?_) fun h=>?_;rotate_left
 ·have hii:i=js.length:=by have:=ar h;have:i≤js.length:=hi;omega
  subst hii;exact AW.exit<|qX 3 rfl<|qN rfl
 have hii:i<js.length:=by have:=ao h;omega
 have hg:(js.map bp.D)[i]?=some (js.getD i default).D:=by simp[hii]
 have hgc:Fi js (i+1)=Fi js i+if (js.getD i default).kind=0 then 2 else 1:=rfl
 have gb:=JO js i;generalize js.getD i default=j at hg hgc;obtain⟨nm,kd,a,pt,b,on,to⟩:=j;simp only[]at hgc;refine AW.skip<|AW.seq<|AW.block<|AW.seq<|AW.region<|ae.idx tok (bp.mk nm kd a pt b on to).D rfl rfl rfl rfl (al i) hg ?_;refine qU 3 rfl<|qK 3 rfl<|ae.nil ?_;by_cases hkd:kd=0
 ·rw[ah hkd]at hgc;rw[beq_iff_eq.2 hkd];refine AW.aH rfl<|qT 2 rfl ?_;rw[aD (x:=3*((bs.length:Int) -1) -Fi js i-2) (by omega) (by omega),show 3*((bs.length:Int) -1) -Fi js i-2=3*((bs.length:Int) -1) -Fi js (i+1) by omega];refine qU 1 rfl<|ae.nil<|qT 1 rfl ?_;rw[aD (x:=(i:Int)+1) (by omega) (by omega)];refine qU 1 rfl<|ae.nil ?_;exact⟨i+1,rfl,hii,by omega⟩
 ·rw[af hkd]at hgc;rw[beq_eq_false_iff_ne.2 hkd];refine AW.aC rfl<|qT 2 rfl ?_;rw[aD (x:=3*((bs.length:Int) -1) -Fi js i-1) (by omega) (by omega),show 3*((bs.length:Int) -1) -Fi js i-1=3*((bs.length:Int) -1) -Fi js (i+1) by omega];refine qU 1 rfl<|ae.nil<|qT 1 rfl ?_;rw[aD (x:=(i:Int)+1) (by omega) (by omega)];refine qU 1 rfl<|ae.nil ?_;exact⟨i+1,rfl,hii,by omega⟩
section
open Go.RowKit (Below)
variable {T:Ty} {all:Array Oper} {K:St→Prop}
theorem ae.Ph(hT:bB P T){h lo:Nat}{av:AV}{l ys:List D}{row:AV}(hd:o.dst=some d)(hdn:e4 (d+1) n=true)(hg:aJ all σ o=true)(hx:PK T σ o.op=some (h,av,e,l,lo,m,ys))(hm:0<m)(hy:ys≠[])
  (he:av.dC (l.take lo++ys.take (min ys.length m)++l.drop (lo+min ys.length m))=row)
  (hk:ae P B F0 w0 n all rest K ((d,.d (.v (.int .i64 ((min ys.length m:Nat):Int))))::(h,row)::σ)):ae P B F0 w0 n all (o::rest) K σ :=
 ae.copy hT hd hdn hg hx hm hy (by rw[he];exact hk)
end
abbrev wA(l:List NQ):List D:=l.map ak
def iR(r:List NQ)(b:Int)(x y w:NQ):List NQ:=if 0<b then r.take (3*(b.toNat-1))++[x,y,w]++r.drop (3*(b.toNat-1)+3)else r
theorem sL{r:List NQ}{b:Int}(x y w:NQ)(h:0<b→3*b.toNat≤r.length):(iR r b x y w).length=r.length:=by
 unfold iR;split
 ·rename_i h0;have:=h h0;rw[co,co,ax,gc];show min _ _+3+_=_;omega
 ·rfl
def Gn(V:Value)(r:List NQ)(b:Int)(x y w:NQ)(res:D)(R':List LR):Prop:=res= .tu []∧R'=[(V,AV.ow 52 (wA (iR r b x y w)))]
theorem jJ(V:Value)(r:List NQ)(b:Int)(x y w:NQ)(h1:0<b→3*b.toNat≤r.length)(hb:b≤1000000)(hb0: -1000000≤b):fM Tryz.prog 59 [.v V,dI b,ak x,ak y,ak w] [(V,AV.ow 52 (wA r))] (Gn V r b x y w):=by
 refine fM.intro (n:=22) tok Tryz.func59 rfl rfl rfl (cJ rfl) (by kernel_rfl) fun B0 F0 w0=>?_;unfold Gn;refine AZ.seq<|AZ.cL fun B1 F1 w1=>?_;refine qU 2 rfl ?_;by_cases h0:0<b;rotate_left
 ·rw[a5 h0];refine ae.nil ⟨rfl,?_⟩;refine AZ.aC rfl ?_;refine AZ.skip ?_;exact⟨.tu [],rfl,rfl,by unfold iR;rw[af h0]⟩
 rw[aN h0];refine ae.nil ⟨rfl,?_⟩;have h1:=h1 h0;have hlo:3*(b-1)=((3*(b.toNat-1):Nat):Int):=by omega
 refine AZ.aH rfl ?_;refine AZ.region ?_;refine aj.cut 4 rfl fun B1 F1 w1=>?_;refine qU 3 rfl ?_;rw[aD (x:=b-1) (by omega) (by omega)];refine qU 1 rfl ?_;rw[aD (x:=3*(b-1)) (by omega) (by omega),hlo];refine ae.nil ⟨rfl,?_⟩;refine aj.cO 12 0 rfl rfl rfl ?_;refine aj.cut 6 rfl fun B1 F1 w1=>?_;refine ae.Og tok rfl rfl rfl rfl (al _) trivial (by show 3*(b.toNat-1)≤(wA r).length;rw[aa];omega) (ap _) ?_;refine qU 3 rfl<|ae.ku tok rfl rfl rfl rfl rfl ?_;refine ae.Ph tok (row:=.ow 52 (wA (iR r b x y w))) rfl rfl rfl rfl (by show 0<(wA r).length-3*(b.toNat-1);rw[aa];omega) (by simp) ?_ ?_
 ·have e3:min [ak x,ak y,ak w].length ((wA r).length-3*(b.toNat-1))=3:=by rw[aa];show min 3 _=3;omega
  show AV.ow _ ((wA r).take (0+3*(b.toNat-1))++[ak x,ak y,ak w].take (min [ak x,ak y,ak w].length ((wA r).length-3*(b.toNat-1)))++(wA r).drop (0+3*(b.toNat-1)+min [ak x,ak y,ak w].length ((wA r).length-3*(b.toNat-1))))=_;rw[e3,Nat.zero_add];unfold iR;rw[ah h0];show AV.ow _ ((r.map ak).take _++[x,y,w].map ak++(r.map ak).drop _)=AV.ow _ ((_++[x,y,w]++_).map ak);rw[c9,c9,ef,List.map_drop]
 refine ae.nil ⟨rfl,?_⟩;refine aj.back 12 0 rfl rfl rfl (cx _) rfl ?_;refine aj.nil ?_;exact⟨.tu [],rfl,rfl,rfl⟩
theorem HY{f:Nat→Nat}: ∀{m i:Nat},fE f m i=0→ ∀k,i≤k→k<i+m→f k=0
 |0,i,_,k,h1,h2=>by omega
 |m+1,i,h,k,h1,h2=>by
  rw[fE]at h;split at h
  ·rename_i h0;rcases Nat.eq_or_lt_of_le h1 with e|e
   ·subst e;exact h0
   ·exact HY h k (by omega) (by omega)
  ·rename_i h0;exact aG h h0
structure Om (bs:List Body) (j:bp):Prop where
 k:j.kind=0∨j.kind=1
 a:0≤j.a∧j.a<bs.length
 b:0≤j.b∧j.b<bs.length
 ab:j.a≠j.b
 pt:0≤j.pt∧j.pt<(bs.getD j.a.toNat default).pts.length
 on:0≤j.on∧j.on<(bs.getD j.b.toNat default).pts.length
 to:j.kind≠0→0≤j.to∧j.to<(bs.getD j.b.toNat default).pts.length
structure LkG (l:Lkg):Prop where
 b1:0<l.bodies.length
 b8:l.bodies.length≤8
 j16:l.joints.length≤16
 p: ∀i,i<l.bodies.length→ ∀k,k<(l.bodies.getD i default).pts.length→((l.bodies.getD i default).pts.getD k default).x.okB=true∧((l.bodies.getD i default).pts.getD k default).y.okB=true
 j: ∀i,i<l.joints.length→Om l.bodies (l.joints.getD i default)
theorem DP(h:kj i n=true):0≤i∧i<n:=ao h
theorem MX{a b:Bool}(h: ¬(a&&b)=false):a=true∧b=true:=by cases a<;>cases b<;>simp_all
theorem OS{l:Lkg}(h:Cq l=0):LkG l:=by
 unfold Cq at h;split at h
 ·cases h
 split at h
 ·cases h
 rename_i h2;split at h
 ·cases h
 rename_i h3;split at h
 ·rename_i h4;exact aG h h4
 rename_i h4;split at h
 ·rename_i h5;exact aG h h5
 rename_i h5;have h4:bW l.bodies=0:=dz.1 h4;have h5:eK l.bodies l.joints=0:=dz.1 h5;unfold bW at h4;unfold eK at h5;split at h5
 ·cases h5
 rename_i h6;refine⟨List.length_pos_iff.2 h2,by omega,by omega,fun i hi k hk=>?_,fun i hi=>?_⟩
 ·have:=HY h4 i (an _) (by omega);unfold gO at this;split at this
  ·cases this
  split at this
  ·cases this
  unfold tR at this;split at this
  ·cases this
  have:=HY this k (an _) (by omega);unfold v7 at this;split at this
  ·cases this
  split at this
  ·cases this
  split at this
  ·assumption
  ·cases this
 ·have:=HY h5 i (an _) (by omega);unfold fy at this;split at this
  ·cases this
  split at this
  ·cases this
  generalize l.joints.getD i default=j at this;unfold jE at this;split at this
  ·cases this
  rename_i g1;split at this
  ·cases this
  rename_i g2;split at this
  ·cases this
  rename_i g3;split at this
  ·cases this
  rename_i g4;obtain⟨a1,a2⟩:=MX g2;obtain⟨a3,a4⟩:=MX g4
  have hk:j.kind=0∨j.kind=1:=by
   by_cases e:j.kind=0
   ·exact .inl e
   ·by_cases e2:j.kind=1
    ·exact .inr e2
    ·exact aG ⟨e,e2⟩ g1
  refine⟨hk,DP a1,DP a2,g3,DP a3,DP a4,fun hne=>?_⟩;rw[af hne]at this;split at this
  ·cases this
  rename_i g5
  have:kj j.to (l.bodies.getD j.b.toNat default).pts.length=true:=by
   cases hv:kj j.to (l.bodies.getD j.b.toNat default).pts.length
   ·exact aG hv g5
   ·rfl
  exact DP this
def zm(p:fp):KM:=⟨aA p.c,aA p.s,aA p.x,aA p.y⟩
instance:Inhabited KM:=⟨⟨[],[],[],[]⟩⟩
structure Pt (l:Lkg) (a:Asm):Prop where
 lk:LkG l
 tw:df a.rt=0
 ln:a.bodies.length=l.bodies.length
 pl: ∀i,i<a.bodies.length→Ai a.rt (a.bodies.getD i default)=0
theorem Bm{l:Lkg}{a:Asm}(h:gl l a=0):Pt l a:=by
 unfold gl at h;split at h
 ·rename_i h0;exact aG h h0
 rename_i h0;split at h
 ·rename_i h1;exact aG h h1
 rename_i h1;split at h
 ·cases h
 rename_i h2;exact⟨OS (dz.1 h0),dz.1 h1,dz.1 h2,fun i hi=>HY h i (an _) (by omega)⟩
theorem Jc{p:fp}(m1:1≤m)(hp:p.ok m rt)(h:Ai rt p=0):(zm p).ok rt.length m∧p.D=(zm p).D:=by have g:=fun k (hk:k<4)=>HY (f:=HK rt p) (m:=4) (i:=0) h k (an _) (by omega);have c:=kC m1 hp.c (g 0 (by decide));have s:=kC m1 hp.s (g 1 (by decide));have x:=kC m1 hp.x (g 2 (by decide));have y:=kC m1 hp.y (g 3 (by decide));refine⟨⟨⟨c.1,c.2.1⟩,⟨s.1,s.2.1⟩,⟨x.1,x.2.1⟩,⟨y.1,y.2.1⟩⟩,?_⟩;show D.ag [bo p.c,bo p.s,bo p.x,bo p.y]=_;rw[c.2.2,s.2.2,x.2.2,y.2.2];rfl
def qt(v:List NQ)(l:Lkg)(a:Asm)(b p:Int):NQ:=MW v (zm (a.bodies.getD b.toNat default)) (nZ ((l.bodies.getD b.toNat default).pts.getD p.toNat default).x.val) (nZ ((l.bodies.getD b.toNat default).pts.getD p.toNat default).y.val)
def qs(v:List NQ)(l:Lkg)(a:Asm)(b p:Int):NQ:=MV v (zm (a.bodies.getD b.toNat default)) (nZ ((l.bodies.getD b.toNat default).pts.getD p.toNat default).x.val) (nZ ((l.bodies.getD b.toNat default).pts.getD p.toNat default).y.val)
def lu(n:Nat):List NQ:=dj (3*(n-1)) []
def Hx(v:List NQ)(r:List NQ)(a b:Int)(px py qx qy rx ry:NQ):List NQ :=
 iR (iR r a (fq qy ry) (fq rx qx) (fq (et v (fq rx qx) px) (et v (fq qy ry) py))) b (gk (fq qy ry)) (gk (fq rx qx)) (gk (fq (et v (fq rx qx) px) (et v (fq qy ry) py)))
def Je(r:List NQ)(a b:Int)(py qy:NQ):List NQ:=iR (iR r a [1] [] (gk py)) b (gk [1]) [] qy
def Jd(r:List NQ)(a b:Int)(px qx:NQ):List NQ:=iR (iR r a [] [1] px) b [] (gk [1]) (gk qx)
def HR(v:List NQ)(l:Lkg)(a:Asm)(j:bp):List (List NQ) :=
 if j.kind=1 then [Hx v (lu l.bodies.length) j.a j.b (qt v l a j.a j.pt) (qs v l a j.a j.pt) (qt v l a j.b j.on) (qs v l a j.b j.on) (qt v l a j.b j.to) (qs v l a j.b j.to)]
 else [Je (lu l.bodies.length) j.a j.b (qs v l a j.a j.pt) (qs v l a j.b j.on),Jd (lu l.bodies.length) j.a j.b (qt v l a j.a j.pt) (qt v l a j.b j.on)]
def Cp(j:bp):Nat:=if j.kind=1 then 1 else 2
theorem GJ(v:List NQ)(l:Lkg)(a:Asm)(j:bp):(HR v l a j).length=Cp j:=by unfold HR Cp;split<;>rfl
def jx(v:List NQ)(l:Lkg)(a:Asm):Nat→List (List NQ)
 |0=>[]
 |i+1=>jx v l a i++HR v l a (l.joints.getD i default)
def qu(js:List bp):Nat→List Int
 |0=>[]
 |i+1=>qu js i++dj (Cp (js.getD i default)) (i:Int)
theorem pP(v:List NQ)(l:Lkg)(a:Asm): ∀i,(jx v l a i).length≤2*i
 |0=>an _
 |i+1=>by
  have h1:=pP v l a i;have h2:=GJ v l a (l.joints.getD i default);have h3:Cp (l.joints.getD i default)≤2:=by unfold Cp;split<;>omega
  show(jx v l a i++_).length≤_;rw[co,h2];omega
theorem Gu(js:List bp): ∀i,(qu js i).length≤2*i
 |0=>an _
 |i+1=>by
  have h1:=Gu js i;have h3:Cp (js.getD i default)≤2:=by unfold Cp;split<;>omega
  show(qu js i++_).length≤_;rw[co,e5];omega
abbrev uH(r:List NQ):D:=.sl 1 (wA r)
abbrev Ps(m:List (List NQ)):D:=.sl 1 (m.map uH)
def Gh(l:Lkg)(a:Asm):D:=if gl l a≠0 then .tu [.sl 1 [],.sl 1 [],tE (gl l a)]else .tu [Ps (jx (a.rt.map aA) l a l.joints.length),.sl 1 ((qu l.joints l.joints.length).map (fun n=>dI n)),bd]
theorem sj(n:Nat):(lu n).length=3*(n-1):=e5
section
open Go.RowKit (Below)
variable {T:Ty} {all:Array Oper} {K:St→Prop}
theorem ae.Jt(hT:bB P T)(r:List NQ){z:Nat}{te:TI}{m:Int}(hd:o.dst=some d)(hdn:e4 (d+1) n=true)(hg:aJ all σ o=true)(hx:Oi T σ.get o.op=some (e,te,m))(hz:nc te=true)(hzd:wG te= .sl 3 [])(hb:te.bytes=24)(hm:m=(z:Int))(h1:z≤1000000)(hr:r=dj z [])
  (h:ae P B F0 w0 n all rest K ((d,.ow e (wA r))::σ.kill d)):ae P B F0 w0 n all (o::rest) K σ:=by
 subst hm;subst hr;refine ae.make hT hd hdn hg hx hz (by omega) (by rw[hb];omega) (by omega) ?_;rw[hzd,show dj ((z:Int)).toNat (D.sl 3 [])=wA (dj z []) by unfold wA;rw[List.map_replicate];rfl];exact h
end
theorem u5(l:Lkg)(a:Asm)(hl:l.ok 16)(ha:a.ok 16)(h2:a.rt.length≤2)(hnb:l.bodies.length≤1000000000000):Pure Tryz.prog 32 [l.D,a.D] (Gh l a):=by
 refine qJ 211 Tryz.func32 rfl fun B0 F0 w0=>?_;have cC:=BK l a hl (by decide) hnb ha;unfold Gh;refine qX 5 rfl<|qI<|qX 2 rfl<|qM rfl cC<|qU 1 rfl<|ae.nil ?_;rcases e1:gl l a with _|z
 rotate_left
 ·rw[ah (bn z)];exact qX 1 rfl<|qR rfl rfl<|ae.nil<|AW.aH rfl<|qX 4 rfl<|qN rfl
 rw[af (by simp)];refine qX 1 rfl<|qR rfl rfl<|ae.nil<|AW.aC rfl<|AW.skip ?_;have G:=Bm e1;have V:=fC.of ha.t G.tw;have W:=rV ha.t G.tw;have hvl:(a.rt.map aA).length≤2:=by rw[aa];exact h2
 have hrt:a.rt.map bo=(a.rt.map aA).map ak:=by have:=W.eq;simpa using this
 have gP: ∀b:Int,0≤b→b<l.bodies.length→(a.bodies.map fp.D)[b.toNat]?=some (zm (a.bodies.getD b.toNat default)).D∧(zm (a.bodies.getD b.toNat default)).ok (a.rt.map aA).length 16:=fun b b0 b1=>by
  have hln:=G.ln;have hb:b.toNat<a.bodies.length:=by omega
  have h3:=Jc (by decide) (ha.b _ hb) (G.pl _ hb);rw[aa,←h3.2];exact⟨by simp[hb],h3.1⟩
 have gB: ∀b:Int,0≤b→b<l.bodies.length→(l.bodies.map Body.D)[b.toNat]?=some (l.bodies.getD b.toNat default).D:=fun b b0 b1=>by exact getM Body.D (by omega)
 have gM: ∀(b p:Int),0≤p→p<(l.bodies.getD b.toNat default).pts.length→((l.bodies.getD b.toNat default).pts.map Mark.D)[p.toNat]?=some ((l.bodies.getD b.toNat default).pts.getD p.toNat default).D:=fun b p p0 p1=>by exact getM Mark.D (by omega)
 have cAt: ∀(b p:Int),0≤b→b<l.bodies.length→0≤p→p<(l.bodies.getD b.toNat default).pts.length→Pure Tryz.prog 56 [AF (a.rt.map aA),(zm (a.bodies.getD b.toNat default)).D,((l.bodies.getD b.toNat default).pts.getD p.toNat default).D] (.tu [ak (qt (a.rt.map aA) l a b p),ak (qs (a.rt.map aA) l a b p)]):=fun b p b0 b1 p0 p1=>by have hm:=(hl.b b.toNat).2.2 p.toNat;have ho:=G.lk.p b.toNat (by omega) p.toNat (by omega);exact Eo V hvl (gP b b0 b1).2 hm.2.1 hm.2.2 ho.1 ho.2
 have sAt: ∀(b p:Int),0≤b→b<l.bodies.length→0≤p→p<(l.bodies.getD b.toNat default).pts.length→(ay (a.rt.map aA).length (qt (a.rt.map aA) l a b p)∧au 1400 (qt (a.rt.map aA) l a b p))∧(ay (a.rt.map aA).length (qs (a.rt.map aA) l a b p)∧au 1400 (qs (a.rt.map aA) l a b p)):=fun b p b0 b1 p0 p1=>by have hm:=(hl.b b.toNat).2.2 p.toNat;exact MU V hvl (gP b b0 b1).2 (kB _ (bU hm.2.1 (by decide)))<|kB _<|bU hm.2.2 (by decide)
 have hRs: ∀i,jx (a.rt.map aA) l a (i+1)=jx (a.rt.map aA) l a i++HR (a.rt.map aA) l a (l.joints.getD i default):=fun i=>rfl;have hR0:jx (a.rt.map aA) l a 0=[]:=rfl;have hRl:=pP (a.rt.map aA) l a;have hJ: ∀j,HR (a.rt.map aA) l a j=if j.kind=1 then [Hx (a.rt.map aA) (lu l.bodies.length) j.a j.b (qt (a.rt.map aA) l a j.a j.pt) (qs (a.rt.map aA) l a j.a j.pt) (qt (a.rt.map aA) l a j.b j.on) (qs (a.rt.map aA) l a j.b j.on) (qt (a.rt.map aA) l a j.b j.to) (qs (a.rt.map aA) l a j.b j.to)]else [Je (lu l.bodies.length) j.a j.b (qs (a.rt.map aA) l a j.a j.pt) (qs (a.rt.map aA) l a j.b j.on),Jd (lu l.bodies.length) j.a j.b (qt (a.rt.map aA) l a j.a j.pt) (qt (a.rt.map aA) l a j.b j.on)]:=fun j=>rfl
 generalize jx (a.rt.map aA) l a=R at hRs hR0 hRl ⊢;generalize qt (a.rt.map aA) l a=X at cAt sAt hJ;generalize qs (a.rt.map aA) l a=Y at cAt sAt hJ;generalize HR (a.rt.map aA) l a=J at hRs hJ;have hOs: ∀i,qu l.joints (i+1)=qu l.joints i++dj (Cp (l.joints.getD i default)) (i:Int):=fun i=>rfl;have hO0:qu l.joints 0=[]:=rfl;have hOl:=Gu l.joints;generalize qu l.joints=O at hOs hO0 hOl ⊢;have LG:=G.lk;clear e1 G W cC ha;obtain⟨ln,lb,js,lds⟩:=l;obtain⟨rt,bs,md⟩:=a;have lb1:=LG.b1;have lb8:=LG.b8;have lj:=LG.j16;have lJ:=LG.j;clear LG;simp only[]at *
 have hD:(Asm.mk rt bs md).D=D.ag [.sl 1 ((rt.map aA).map ak),.sl 4 (bs.map fp.D),.sl 1 (md.map (fun n=>dI n))]:=by show D.ag [.sl 1 (rt.map bo),_,_]=_;rw[hrt]
 rw[hD];clear hrt hD;generalize rt.map aA=v at *;refine qX 4 rfl<|ae.P8 34 rfl ?_;refine qU 1 rfl<|qK 1 rfl<|qK 1 rfl<|qI<|qX 3 rfl ?_;rw[aa];refine qU 1 rfl<|ae.nil<|AW.block ?_;refine AW.aK [2,3,8,9,10,36,37,38] (fun i:Nat=>[(2,.bx [dS ln,aI lb,aE js,aF lds]),(3,.bx [.sl 1 (v.map ak),.sl 4 (bs.map fp.D),.sl 1 (md.map (fun n=>dI n))]),(8,.d (AF v)),(9,.ow 27 ((R i).map uH)),(10,.ow 3 ((O i).map (fun n=>dI n))),(36,.d (aE js)),(37,.d (dI js.length)),(38,.d (dI i))]) (fun i=>i≤js.length) (fun i=>js.length-i) 0 (by show _=([(2,.bx [dS ln,aI lb,aE js,aF lds]),(3,.bx [.sl 1 (v.map ak),.sl 4 (bs.map fp.D),.sl 1 (md.map (fun n=>dI n))]),(8,.d (AF v)),(9,.ow 27 ((R 0).map uH)),(10,.ow 3 ((O 0).map (fun n=>dI n))),(36,.d (aE js)),(37,.d (dI js.length)),(38,.d (dI (0:Nat)))]:St);rw[hR0,hO0];rfl) (an _) fun i hi=>?_;refine qX 1 rfl ?_;refine qI<|AW.cond rfl (fun h=>?_) fun h=>?_;rotate_left
 ·have hii:i=js.length:=by have:=ar h;have:i≤js.length:=hi;omega
  subst hii;refine AW.exit<|AW.seq<|AW.iu tok 9 rfl rfl ?_;refine AW.iu tok 10 rfl rfl ?_;refine AW.draw aO 8 (by kernel_rfl) ?_;refine qP 3 rfl<|ai.Dw tok rfl rfl rfl rfl rfl ?_;exact qP 4 rfl<|ai.nil<|qU 1 rfl<|qN rfl
 have hii:i<js.length:=by have:=ao h;omega
 have hg:(js.map bp.D)[i]?=some (js.getD i default).D:=by simp[hii]
 have jg:=lJ i hii;have hRi:=hRs i;have hOi:=hOs i;have hRl:=hRl i;have hOl:=hOl i;rw[hJ]at hRi;generalize js.getD i default=j at hg jg hRi hOi;obtain⟨nm,kd,ja,jp,jb,jo,jt⟩:=j;obtain⟨jk,⟨a0,a1⟩,⟨b0,b1⟩,ab,⟨p0,p1⟩,⟨o0,o1⟩,jto⟩:=jg;simp only[]at *;have gPa:=(gP ja a0 a1).1;have gPb:=(gP jb b0 b1).1;have gBa:=gB ja a0 a1;have gBb:=gB jb b0 b1;have gMp:=gM ja jp p0 p1;have gMo:=gM jb jo o0 o1;have cA:=cAt ja jp a0 a1 p0 p1;have cB:=cAt jb jo b0 b1 o0 o1;obtain⟨⟨sx1,sx2⟩,⟨sy1,sy2⟩⟩:=sAt ja jp a0 a1 p0 p1;obtain⟨⟨tx1,tx2⟩,⟨ty1,ty2⟩⟩:=sAt jb jo b0 b1 o0 o1;refine AW.skip<|AW.seq<|AW.block<|qX 1 rfl<|ae.idx tok (bp.mk nm kd ja jp jb jo jt).D rfl rfl rfl rfl (al i) hg ?_;refine qU 4 rfl<|qK 4 rfl<|ae.idx tok (lb.getD jb.toNat default).D rfl rfl rfl rfl b0 gBb ?_;refine qU 3 rfl<|qI<|AW.draw aO 23 (by kernel_rfl) ?_;refine qP 5 rfl<|ai.idx tok (zm (bs.getD ja.toNat default)).D rfl rfl rfl rfl rfl a0 gPa ?_;refine qP 5 rfl<|ai.idx tok (lb.getD ja.toNat default).D rfl rfl rfl rfl rfl a0 gBa ?_;refine qP 4 rfl<|ai.idx tok ((lb.getD ja.toNat default).pts.getD jp.toNat default).D rfl rfl rfl rfl rfl p0 gMp ?_;refine qP 1 rfl<|qQ rfl cA<|qP 4 rfl<|ai.nil<|qU 1 rfl<|qI<|AW.draw aO 17 (by kernel_rfl) ?_;refine qP 5 rfl<|ai.idx tok (zm (bs.getD jb.toNat default)).D rfl rfl rfl rfl rfl b0 gPb ?_;refine qP 4 rfl<|ai.idx tok ((lb.getD jb.toNat default).pts.getD jo.toNat default).D rfl rfl rfl rfl rfl o0 gMo ?_;refine qP 1 rfl<|qQ rfl cB<|qP 4 rfl<|ai.nil<|qU 1 rfl<|qK 3 rfl ?_;rw[aa];refine qU 1 rfl ?_;rw[aD (x:=(lb.length:Int) -1) (by omega) (by omega)];refine qU 1 rfl ?_;rw[aD (x:=3*((lb.length:Int) -1)) (by omega) (by omega)];refine ae.Jt tok (lu lb.length) (z:=3*(lb.length-1)) rfl rfl rfl rfl rfl rfl rfl (by omega) (by omega) rfl ?_;refine qU 1 rfl<|ae.nil ?_;have hzl:=sj lb.length;have hzr:lu lb.length=dj (3*(lb.length-1)) []:=rfl;generalize lu lb.length=Z at hRi hzl hzr ⊢;refine AW.seq<|qX 3 rfl<|ae.nil ?_;have ga:0<ja→3*ja.toNat≤Z.length:=fun h=>by rw[hzl];omega
 have gb:0<jb→3*jb.toNat≤Z.length:=fun h=>by rw[hzl];omega
 have V2:=V.mono (k:=1400) (by decide) (by decide);have V3:=V.mono (k:=2801) (by decide) (by decide);have V4:=V.mono (k:=120000) (by decide) (by decide);have V5:=V.mono (k:=240000) (by decide) (by decide);have sT3:=pO (m:=2801) hvl;by_cases hk1:kd=1
 ·rw[ah hk1]at hRi;rw[beq_iff_eq.2 hk1];rw[show Cp (bp.mk nm kd ja jp jb jo jt)=1 by unfold Cp;rw[ah hk1]]at hOi;obtain⟨r0,r1⟩:=jto (by omega);have gMt:=gM jb jt r0 r1;have cT:=cAt jb jt b0 b1 r0 r1;obtain⟨⟨ux1,ux2⟩,⟨uy1,uy2⟩⟩:=sAt jb jt b0 b1 r0 r1;generalize X ja jp=px at *;generalize Y ja jp=py at *;generalize X jb jo=qx at *;generalize Y jb jo=qy at *;generalize X jb jt=rx at *;generalize Y jb jt=ry at *;have n1:=j4 V2 ty1 ty2 uy1 uy2;have n2:=j4 V2 ux1 ux2 tx1 tx2;have m1:=ic ty1 ty2 uy1 uy2;have m2:=ic ux1 ux2 tx1 tx2;unfold Hx at hRi;generalize fq qy ry=nx at *;generalize fq rx qx=ny at *;have n3:=iB (by omega) V3 m2.1 (m2.2.mono (by decide)) sx1 (sx2.mono (by decide));have n4:=iB (by omega) V3 m1.1 (m1.2.mono (by decide)) sy1 (sy2.mono (by decide));have m3:=dY V3 m2.1 (m2.2.mono (by decide)) sx1 (sx2.mono (by decide));have m4:=dY V3 m1.1 (m1.2.mono (by decide)) sy1 (sy2.mono (by decide));generalize et v ny px=e1 at *;generalize et v nx py=e2 at *;have n5:=j4 V4 m3.1 (m3.2.mono (by omega)) m4.1 (m4.2.mono (by omega));have m5:=ic m3.1 m3.2 m4.1 m4.2;generalize fq e1 e2=mm at *;have n6:=iA V5 m1.1 (m1.2.mono (by decide));have n7:=iA V5 m2.1 (m2.2.mono (by decide));have n8:=iA V5 m5.1 (m5.2.mono (by omega));generalize gk nx=nx' at *;generalize gk ny=ny' at *;generalize gk mm=mm' at *;have u1:=fun V=>jJ V Z ja nx ny mm ga (by omega) (by omega);have u2:=fun V=>jJ V (iR Z ja nx ny mm) jb nx' ny' mm' (by rw[sL _ _ _ ga];exact gb) (by omega) (by omega);refine AW.aH rfl<|AW.seq<|AW.draw aO 17 (by kernel_rfl) ?_;refine qP 5 rfl<|ai.idx tok (zm (bs.getD jb.toNat default)).D rfl rfl rfl rfl rfl b0 gPb ?_;refine qP 4 rfl<|ai.idx tok ((lb.getD jb.toNat default).pts.getD jt.toNat default).D rfl rfl rfl rfl rfl r0 gMt ?_;refine qP 1 rfl<|qQ rfl cT<|qP 4 rfl<|ai.nil<|qU 1 rfl<|qK 3 rfl<|qM rfl n1<|qU 3 rfl<|qM rfl n2 ?_;refine qU 2 rfl<|qK 4 rfl<|qM rfl n3<|qU 3 rfl<|qM rfl n4<|qM rfl n5<|qU 1 rfl<|ae.nil<|AZ.aw ?_;refine AZ.fS 18 rfl rfl rfl fun V1=>?_;refine AZ.to [2,3,8,9,10,36,37,38,11,12,18,21,22,23] ([(2,.bx [dS ln,aI lb,aE js,aF lds]),(3,.bx [.sl 1 (v.map ak),.sl 4 (bs.map fp.D),.sl 1 (md.map (fun n=>dI n))]),(8,.d (AF v)),(9,.ow 27 ((R i).map uH)),(10,.ow 3 ((O i).map (fun n=>dI n))),(36,.d (aE js)),(37,.d (dI js.length)),(38,.d (dI i)),(11,.d (dI i)),(12,.bx [dS nm,dI kd,dI ja,dI jp,dI jb,dI jo,dI jt]),(18,.d (.v V1)),(21,.d (ak nx)),(22,.d (ak ny)),(23,.d (ak mm))]:St) rfl ?_;refine AZ.seq<|AZ.region ?_;refine aj.cut 6 rfl fun B1 F1 w1=>?_;refine qU 6 rfl<|ae.nil ⟨rfl,?_⟩;refine aj.ed tok [0] rfl rfl rfl rfl rfl (by simp) rfl (u1 V1) (fun res R1 hP=>by rw[hP.2];exact ap _) fun res R1 hP=>?_;obtain⟨rfl,rfl⟩:=hP;refine aj.nil ?_;refine AZ.to [2,3,8,9,10,36,37,38,11,12,18,21,22,23] ([(2,.bx [dS ln,aI lb,aE js,aF lds]),(3,.bx [.sl 1 (v.map ak),.sl 4 (bs.map fp.D),.sl 1 (md.map (fun n=>dI n))]),(8,.d (AF v)),(9,.ow 27 ((R i).map uH)),(10,.ow 3 ((O i).map (fun n=>dI n))),(36,.d (aE js)),(37,.d (dI js.length)),(38,.d (dI i)),(11,.d (dI i)),(12,.bx [dS nm,dI kd,dI ja,dI jp,dI jb,dI jo,dI jt]),(18,.d (.v V1)),(21,.d (ak nx)),(22,.d (ak ny)),(23,.d (ak mm))]:St) rfl ?_;refine AZ.seq<|AZ.any aO<|fL.draw 12 (by kernel_rfl) fun B1 F1 w1=>?_;refine qP 5 rfl<|qQ rfl n6<|qP 2 rfl<|qQ rfl n7<|qP 2 rfl<|qQ rfl n8<|ai.nil ⟨rfl,?_⟩;refine aj.ed tok [0] rfl rfl rfl rfl rfl (by simp) rfl (u2 V1) (fun res R1 hP=>by rw[hP.2];exact ap _) fun res R1 hP=>?_;obtain⟨rfl,rfl⟩:=hP;refine aj.nil ?_;refine AZ.to [2,3,8,9,10,36,37,38,11,12,18,21,22,23] ([(2,.bx [dS ln,aI lb,aE js,aF lds]),(3,.bx [.sl 1 (v.map ak),.sl 4 (bs.map fp.D),.sl 1 (md.map (fun n=>dI n))]),(8,.d (AF v)),(9,.ow 27 ((R i).map uH)),(10,.ow 3 ((O i).map (fun n=>dI n))),(36,.d (aE js)),(37,.d (dI js.length)),(38,.d (dI i)),(11,.d (dI i)),(12,.bx [dS nm,dI kd,dI ja,dI jp,dI jb,dI jo,dI jt]),(18,.d (.v V1)),(21,.d (ak nx)),(22,.d (ak ny)),(23,.d (ak mm))]:St) rfl ?_;refine AZ.seq<|AZ.cO 18 0 rfl rfl rfl ?_;refine AZ.cL fun B1 F1 w1=>?_;refine ae.iu tok 18 rfl rfl ?_;refine qU 2 rfl<|ae.bs tok rfl rfl rfl rfl ?_;refine ae.jw tok rfl rfl rfl rfl rfl rfl (by rw[aa];show(_+1)*24≤_;omega) (by rw[aa];show _+1≤_;omega) ?_;refine qU 2 rfl<|ae.bs tok rfl rfl rfl rfl ?_;refine ae.jw tok rfl rfl rfl rfl rfl rfl (by rw[aa];show(_+1)*8≤_;omega) (by rw[aa];show _+1≤_;omega) ?_;refine qU 2 rfl<|ae.nil ⟨rfl,?_⟩;refine AZ.exit ?_;refine qT 1 rfl ?_;rw[aD (x:=(i:Int)+1) (by omega) (by omega)];refine qU 1 rfl<|ae.nil ?_;exact⟨i+1,by show _=([(2,.bx [dS ln,aI lb,aE js,aF lds]),(3,.bx [.sl 1 (v.map ak),.sl 4 (bs.map fp.D),.sl 1 (md.map (fun n=>dI n))]),(8,.d (AF v)),(9,.ow 27 ((R (i+1)).map uH)),(10,.ow 3 ((O (i+1)).map (fun n=>dI n))),(36,.d (aE js)),(37,.d (dI js.length)),(38,.d (dI (i+1:Nat)))]:St);rw[hRi,hOi,c9,c9];rfl,hii,by omega⟩
 rw[af hk1]at hRi;rw[beq_eq_false_iff_ne.2 hk1];rw[show Cp (bp.mk nm kd ja jp jb jo jt)=2 by unfold Cp;rw[af hk1]]at hOi;generalize X ja jp=px at *;generalize Y ja jp=py at *;generalize X jb jo=qx at *;generalize Y jb jo=qy at *;have o1:=kB v.length (q:=1) (k:=1) (by have:=fU;omega);have n6:=iA V2 sy1 sy2;have n7:=iA V2 tx1 tx2;have n8:Pure Tryz.prog 60 [AF v,ak [1]] (ak (gk [1])):=iA V2 (dZ _ _) (gd (by have:=fU;omega));unfold Je Jd at hRi;generalize gk py=py' at *;generalize gk qx=qx' at *;generalize gk [1]=on' at *;have u1:=fun V=>jJ V Z ja [1] [] py' ga (by omega) (by omega);have u2:=fun V=>jJ V (iR Z ja [1] [] py') jb on' [] qy (by rw[sL _ _ _ ga];exact gb) (by omega) (by omega);have u3:=fun V=>jJ V Z ja [] [1] px ga (by omega) (by omega);have u4:=fun V=>jJ V (iR Z ja [] [1] px) jb [] on' qx' (by rw[sL _ _ _ ga];exact gb) (by omega) (by omega);refine AW.aC rfl<|AW.skip<|qX 2 rfl ?_;rw[aa,hzl];refine ae.Jt tok Z (z:=3*(lb.length-1)) rfl rfl rfl rfl rfl rfl rfl rfl (by omega) hzr ?_;refine qU 1 rfl<|ae.nil<|AZ.aw ?_;refine AZ.fS 18 rfl rfl rfl fun V1=>?_;refine AZ.fS 24 rfl rfl rfl fun V2=>?_;refine AZ.to [2,3,8,9,10,36,37,38,11,12,14,15,16,17,18,24] ([(2,.bx [dS ln,aI lb,aE js,aF lds]),(3,.bx [.sl 1 (v.map ak),.sl 4 (bs.map fp.D),.sl 1 (md.map (fun n=>dI n))]),(8,.d (AF v)),(9,.ow 27 ((R i).map uH)),(10,.ow 3 ((O i).map (fun n=>dI n))),(36,.d (aE js)),(37,.d (dI js.length)),(38,.d (dI i)),(11,.d (dI i)),(12,.bx [dS nm,dI kd,dI ja,dI jp,dI jb,dI jo,dI jt]),(14,.d (ak px)),(15,.d (ak py)),(16,.d (ak qx)),(17,.d (ak qy)),(18,.d (.v V1)),(24,.d (.v V2))]:St) rfl ?_;refine AZ.seq<|AZ.any aO<|fL.draw 7 (by kernel_rfl) fun B1 F1 w1=>?_;refine qP 3 rfl<|qQ rfl nH<|qP 2 rfl<|qQ rfl n6<|ai.nil ⟨rfl,?_⟩;refine aj.ed tok [0] rfl rfl rfl rfl rfl (by simp) rfl (u1 V1) (fun res R1 hP=>by rw[hP.2];exact ap _) fun res R1 hP=>?_;obtain⟨rfl,rfl⟩:=hP;refine aj.nil ?_;refine AZ.to [2,3,8,9,10,36,37,38,11,12,14,15,16,17,18,24] ([(2,.bx [dS ln,aI lb,aE js,aF lds]),(3,.bx [.sl 1 (v.map ak),.sl 4 (bs.map fp.D),.sl 1 (md.map (fun n=>dI n))]),(8,.d (AF v)),(9,.ow 27 ((R i).map uH)),(10,.ow 3 ((O i).map (fun n=>dI n))),(36,.d (aE js)),(37,.d (dI js.length)),(38,.d (dI i)),(11,.d (dI i)),(12,.bx [dS nm,dI kd,dI ja,dI jp,dI jb,dI jo,dI jt]),(14,.d (ak px)),(15,.d (ak py)),(16,.d (ak qx)),(17,.d (ak qy)),(18,.d (.v V1)),(24,.d (.v V2))]:St) rfl ?_;refine AZ.seq<|AZ.any aO<|fL.draw 7 (by kernel_rfl) fun B1 F1 w1=>?_;refine qP 4 rfl<|qQ rfl nH<|qQ rfl n8<|qP 1 rfl<|ai.nil ⟨rfl,?_⟩;refine aj.ed tok [0] rfl rfl rfl rfl rfl (by simp) rfl (u2 V1) (fun res R1 hP=>by rw[hP.2];exact ap _) fun res R1 hP=>?_;obtain⟨rfl,rfl⟩:=hP;refine aj.nil ?_;refine AZ.to [2,3,8,9,10,36,37,38,11,12,14,15,16,17,18,24] ([(2,.bx [dS ln,aI lb,aE js,aF lds]),(3,.bx [.sl 1 (v.map ak),.sl 4 (bs.map fp.D),.sl 1 (md.map (fun n=>dI n))]),(8,.d (AF v)),(9,.ow 27 ((R i).map uH)),(10,.ow 3 ((O i).map (fun n=>dI n))),(36,.d (aE js)),(37,.d (dI js.length)),(38,.d (dI i)),(11,.d (dI i)),(12,.bx [dS nm,dI kd,dI ja,dI jp,dI jb,dI jo,dI jt]),(14,.d (ak px)),(15,.d (ak py)),(16,.d (ak qx)),(17,.d (ak qy)),(18,.d (.v V1)),(24,.d (.v V2))]:St) rfl ?_;refine AZ.seq<|AZ.any aO<|fL.draw 5 (by kernel_rfl) fun B1 F1 w1=>?_;refine qP 3 rfl<|qQ rfl nH<|qP 1 rfl<|ai.nil ⟨rfl,?_⟩;refine aj.ed tok [1] rfl rfl rfl rfl rfl (by simp) rfl (u3 V2) (fun res R1 hP=>by rw[hP.2];exact ap _) fun res R1 hP=>?_;obtain⟨rfl,rfl⟩:=hP;refine aj.nil ?_;refine AZ.to [2,3,8,9,10,36,37,38,11,12,14,15,16,17,18,24] ([(2,.bx [dS ln,aI lb,aE js,aF lds]),(3,.bx [.sl 1 (v.map ak),.sl 4 (bs.map fp.D),.sl 1 (md.map (fun n=>dI n))]),(8,.d (AF v)),(9,.ow 27 ((R i).map uH)),(10,.ow 3 ((O i).map (fun n=>dI n))),(36,.d (aE js)),(37,.d (dI js.length)),(38,.d (dI i)),(11,.d (dI i)),(12,.bx [dS nm,dI kd,dI ja,dI jp,dI jb,dI jo,dI jt]),(14,.d (ak px)),(15,.d (ak py)),(16,.d (ak qx)),(17,.d (ak qy)),(18,.d (.v V1)),(24,.d (.v V2))]:St) rfl ?_;refine AZ.seq<|AZ.any aO<|fL.draw 9 (by kernel_rfl) fun B1 F1 w1=>?_;refine qP 4 rfl<|qQ rfl nH<|qQ rfl n8<|qP 2 rfl<|qQ rfl n7<|ai.nil ⟨rfl,?_⟩;refine aj.ed tok [1] rfl rfl rfl rfl rfl (by simp) rfl (u4 V2) (fun res R1 hP=>by rw[hP.2];exact ap _) fun res R1 hP=>?_;obtain⟨rfl,rfl⟩:=hP;refine aj.nil ?_;refine AZ.to [2,3,8,9,10,36,37,38,11,12,14,15,16,17,18,24] ([(2,.bx [dS ln,aI lb,aE js,aF lds]),(3,.bx [.sl 1 (v.map ak),.sl 4 (bs.map fp.D),.sl 1 (md.map (fun n=>dI n))]),(8,.d (AF v)),(9,.ow 27 ((R i).map uH)),(10,.ow 3 ((O i).map (fun n=>dI n))),(36,.d (aE js)),(37,.d (dI js.length)),(38,.d (dI i)),(11,.d (dI i)),(12,.bx [dS nm,dI kd,dI ja,dI jp,dI jb,dI jo,dI jt]),(14,.d (ak px)),(15,.d (ak py)),(16,.d (ak qx)),(17,.d (ak qy)),(18,.d (.v V1)),(24,.d (.v V2))]:St) rfl ?_;refine AZ.cO 18 0 rfl rfl rfl ?_;refine AZ.cO 24 1 rfl rfl rfl ?_;refine AZ.cL fun B1 F1 w1=>?_;refine ae.iu tok 18 rfl rfl ?_;refine ae.iu tok 24 rfl rfl ?_;refine qU 3 rfl<|ae.bs tok rfl rfl rfl rfl ?_;refine ae.jw tok rfl rfl rfl rfl rfl rfl (by rw[aa];show(_+2)*24≤_;omega) (by rw[aa];show _+2≤_;omega) ?_;refine qU 3 rfl<|ae.bs tok rfl rfl rfl rfl ?_;refine ae.jw tok rfl rfl rfl rfl rfl rfl (by rw[aa];show(_+2)*8≤_;omega) (by rw[aa];show _+2≤_;omega) ?_;refine qU 2 rfl<|ae.nil ⟨rfl,?_⟩;refine qT 1 rfl ?_;rw[aD (x:=(i:Int)+1) (by omega) (by omega)];refine qU 1 rfl<|ae.nil ?_;exact⟨i+1,by show _=([(2,.bx [dS ln,aI lb,aE js,aF lds]),(3,.bx [.sl 1 (v.map ak),.sl 4 (bs.map fp.D),.sl 1 (md.map (fun n=>dI n))]),(8,.d (AF v)),(9,.ow 27 ((R (i+1)).map uH)),(10,.ow 3 ((O (i+1)).map (fun n=>dI n))),(36,.d (aE js)),(37,.d (dI js.length)),(38,.d (dI (i+1:Nat)))]:St);rw[hRi,hOi,c9,c9];rfl,hii,by omega⟩
def ki(R:NQ→NQ)(S:NQ→Int)(N:NQ→NQ)(T:NQ→NQ→NQ)(s:NQ):NQ :=
 if s.length=1 then [1/s.getD 0 0]else
 if S (N s)=0 then R (aS (s.take (s.length/2)) (s.take (s.length/2)))else
 T (dK (s.take (s.length/2)) (aP (s.drop (s.length/2))) (s.length/2)) (R (N s))
def bN:Nat→List NQ→NQ→NQ
 |0,rt,a=>ki (fun _=>[]) (fun _=>0) (fun a=>a) (fun _ _=>[]) (aq a)
 |l+1,rt,a=>ki (bN l rt) (ec l rt) (e7 l rt) (aT (l+1) rt) (aq a)
def OK(O:NQ→Prop)(R:NQ→NQ)(S:NQ→Int)(Sk:NQ→Prop)(N:NQ→NQ)(Nk:NQ→Prop)(Tk:NQ→NQ→Prop)(s:NQ):Prop:=s.length≠0∧(s.length≠1 →
 Nk s∧Sk (N s)∧(S (N s)=0→O (aS (s.take (s.length/2)) (s.take (s.length/2)))) ∧
 (S (N s)≠0→O (N s)∧Tk (dK (s.take (s.length/2)) (aP (s.drop (s.length/2))) (s.length/2)) (R (N s))))
def Oh:Nat→List NQ→NQ→Prop
 |0,rt,a=>qo a∧(aq a).length≠0
 |l+1,rt,a=>qo a∧OK (Oh l rt) (bN l rt) (ec l rt) (Jn l rt) (e7 l rt) (Nu l rt) (Dm (l+1) rt) (aq a)
theorem mD{a:NQ}(ha:ay l a)(h:(aq a).length=1):(aq a).getD 0 0≠0:=(iF ha).one h
theorem GL{s:NQ}(hs:ay l s)(h0:s.length≠0)
  (hR: ∀l',l=l'+1→ ∀b,ay l' b→ay l' (R b)) (hN: ∀l',l=l'+1→ ∀j,j≤l'→s.length=2^(j+1)→ay l' (N s)) (hT: ∀b c,ay l b→ay l c→ay l (T b c)):ay l (ki R S N T s):=by
 unfold ki;split
 ·exact dZ _ _
 rename_i h1
 obtain⟨i,hi,hla2⟩: ∃i,i≤l∧s.length=2^i:=by
  rcases hs with e|e
  ·omega
  ·exact e
 have u9:i≠0:=fun e=>h1 (by rw[hla2,e]);obtain⟨j,rfl⟩: ∃j,i=j+1:=⟨i-1,by omega⟩;obtain⟨l',rfl⟩: ∃l',l=l'+1:=⟨l-1,by omega⟩;obtain⟨e1,e2,e3⟩:=bt hla2;have hx:ay l' (s.take (s.length/2)):=.inr ⟨j,by omega,e1⟩;have hN:=hN l' rfl j (by omega) hla2;split
 ·exact(hR l' rfl _ (hx.plus hx)).mono (by omega)
 ·exact hT _ _ (.inr ⟨j+1,by omega,by rw[dN,e3,cr];omega⟩) ((hR l' rfl _ hN).mono (by omega))
theorem fg: ∀(l:Nat) {rt:List NQ} {a:NQ},ay l a→cU rt→l≤rt.length→ay l (bN l rt a)
 |0,rt,a,ha,hrt,hl=>by
  have hs:=bC ha;show ay 0 (ki _ _ _ _ _);by_cases h0:(aq a).length=0
  ·rw[bi.1 h0];exact cE _
  ·exact GL hs h0 (fun l' h=>by omega) (fun l' h=>by omega) (fun _ _ _ _=>cE _)
 |l+1,rt,a,ha,hrt,hl=>by
  have hs:=bC ha;show ay (l+1) (ki _ _ _ _ _);by_cases h0:(aq a).length=0
  ·rw[bi.1 h0];unfold ki;rw[af (by decide)];split
   ·exact(fg l (cE _) hrt (by omega)).mono (by omega)
   ·exact fF (l+1) (cE _) ((fg l (by
     obtain⟨K,k1,_,k3⟩:=zO (e7 l rt []) [] rt;unfold e7
     have t0: ∀c,ay l (aT l rt c []):=fun c=>by
      cases l with
      |zero=>show ay 0 (lL _ c []);unfold lL;rw[af (show ¬c.length<([]:NQ).length from ew _)];unfold kD;rw[ah (by show(bH c||true)=true;rw[eN])];exact cE _
      |succ l=>show ay (l+1) (lL _ c []);unfold lL;rw[af (show ¬c.length<([]:NQ).length from ew _)];unfold kD;rw[ah (by show(bH c||true)=true;rw[eN])];exact cE _
     have e:rt.getD (gR ([]:NQ).length-1) []=rt.getD 0 []:=rfl;have hd:ay l (rt.getD 0 []):=.inr ⟨0,an _,hrt 0 (by omega)⟩
     exact(t0 []).plus (fF l (t0 []) hd hrt (by omega)).minus) hrt (by omega)).mono (by omega)) hrt hl
  ·exact GL hs h0 (fun l' e b hb=>by
    obtain rfl:l=l':=by omega
    exact fg l hb hrt (by omega)) (fun l' e j h1 h2=>by
    obtain rfl:l=l':=by omega
    exact wc h1 h2 hrt (by omega)) (fun b c hb hc=>fF (l+1) hb hc hrt hl)
theorem DN{O:NQ→Prop}{Sk:NQ→Prop}{Nk:NQ→Prop}{Tk:NQ→NQ→Prop}{rt:List NQ}{a:NQ}(ha:ay l a)(hl5:l≤5)(hl:l≤rt.length)(hl10:rt.length≤10)(sa:qo a)(h0:(aq a).length≠0)
  (hok:l≠0→OK O R S Sk N Nk Tk (aq a))
  (hR: ∀l',l=l'+1→ ∀b,ay l' b→O b→Pure Tryz.prog 175 [fm rt,ak b] (ak (R b)))
  (hRl: ∀l',l=l'+1→ ∀b,ay l' b→ay l' (R b))
  (hS: ∀l',l=l'+1→ ∀b,ay l' b→Sk b→Pure Tryz.prog 45 [fm rt,ak b] (dI (S b)))
  (hN: ∀l',l=l'+1→ ∀b j,j≤l'→b.length=2^(j+1)→Nk b→Pure Tryz.prog 87 [fm rt,ak b] (ak (N b))∧ay l' (N b))
  (hT: ∀b c,ay l b→ay l c→Tk b c→Pure Tryz.prog 128 [fm rt,ak b,ak c] (ak (T b c))):
  Pure Tryz.prog 175 [fm rt,ak a] (ak (ki R S N T (aq a))):=by
 refine qJ 57 Tryz.func175 rfl fun B F0 w0=>?_;have cs:=bO a ha hl5 sa (by omega);have hone:=mD ha;obtain⟨ha,sa⟩:=a6 ha sa;generalize aq a=b at cs ha sa hok hone h0 ⊢;have hlb:=ha.len (by omega);unfold ki;refine qX 2 rfl<|qK 1 rfl<|qM rfl cs<|qU 1 rfl<|qI<|qX 2 rfl ?_;rw[aa];refine qU 1 rfl<|ae.nil ?_;by_cases h1:b.length=1
 ·have g:=nK (r:=b) (i:=0) (by omega);have cq:=vO (Qr 1) (Qr (b.getD 0 0)) (gz 1 (by have:=fU;omega)) (gz _ (sa 0)) (by omega) (by rw[b5];exact hone h1);rw[b5,b5]at cq;rw[ah h1,beq_iff_eq.2 (show(b.length:Int)=1 by omega)];refine AW.aH rfl<|AW.seq<|AW.mU tok aO [(7,true),(1,false),(1,true)] 9 [5] (by kernel_rfl) ⟨rfl,?_⟩;refine qQ rfl (jh 1 (by decide) (by decide)) ?_;refine qP 1 rfl<|ai.idx tok (Qr (b.getD 0 0)).D rfl rfl rfl rfl rfl (d4 _) g ?_;refine qP 1 rfl<|qQ rfl cq<|qP 2 rfl<|ai.nil ⟨rfl,?_⟩;refine qP 1 rfl<|ai.nil ⟨rfl,?_⟩;refine qP 1 rfl<|ai.nil ⟨_,m8.cons (.bx rfl) (m8.nil),?_⟩;refine qU 1 rfl<|qK 1 rfl<|ae.ku tok rfl rfl rfl rfl rfl ?_;exact qU 1 rfl<|qN rfl
 rw[af h1,beq_eq_false_iff_ne.2 (show(b.length:Int)≠1 by omega)];refine AW.aC rfl<|AW.skip ?_
 obtain⟨i,hi,hla2⟩: ∃i,i≤l∧b.length=2^i:=by
  rcases ha with e|e
  ·omega
  ·exact e
 have u9:i≠0:=fun e=>h1 (by rw[hla2,e]);obtain⟨j,rfl⟩: ∃j,i=j+1:=⟨i-1,by omega⟩;obtain⟨l',rfl⟩: ∃l',l=l'+1:=⟨l-1,by omega⟩;have hj:j≤l':=by omega
 obtain⟨_,o1⟩:=hok (by omega);obtain⟨oN,oS,oz,oi⟩:=o1 h1;have hN:=hN l' rfl b j hj hla2 oN;have hS:=hS l' rfl _ hN.2 oS;obtain⟨e1,e2,e3⟩:=bt hla2;obtain⟨n,hn⟩: ∃n,n=b.length/2:=⟨_,rfl⟩;rw[←hn]at e1 e2 e3 oz oi ⊢
 have hn2:b.length=n+n:=by have:2^(j+1)=2^j*2:=cr ..;omega
 have hx:ay l' (b.take n):=.inr ⟨j,hj,e1⟩;have hy:ay l' (b.drop n):=.inr ⟨j,hj,e2⟩;refine qX 2 rfl ?_;rw[aa];refine ae.div tok rfl rfl rfl rfl (by decide) ?_;rw[iM _ (by omega),←hn];refine qU 1 rfl<|qK 2 rfl<|qM rfl hN.1 ?_;refine qU 1 rfl<|qI<|qX 2 rfl<|qM rfl hS<|qU 1 rfl<|ae.nil ?_;by_cases hz:S (N b)=0
 ·have ci:=hR l' rfl _ (hx.plus hx) (oz hz);have cp:=eT (b.take n) (b.take n) (sa.take n) (sa.take n) (by omega) (by rw[e1];omega) (by rw[e1];omega);rw[ah hz,beq_iff_eq.2 hz];refine AW.aH rfl<|AW.seq<|AW.draw aO 9 (by kernel_rfl) ?_;refine qP 3 rfl ?_;refine ai.gX tok (a:=b) (b.take n) rfl rfl rfl rfl rfl trivial (al n) (an _) (show n≤b.length by omega) rfl ?_;refine qP 2 rfl ?_;refine ai.gX tok (a:=b) (b.take n) rfl rfl rfl rfl rfl trivial (al n) (an _) (show n≤b.length by omega) rfl ?_;exact qQ rfl cp<|qQ rfl ci<|ai.nil<|qU 1 rfl<|qN rfl
 obtain⟨o2,o3⟩:=oi hz;have ci:=hR l' rfl _ hN.2 o2;have cm:=f' (b.drop n) (sa.drop n) (by omega) (by rw[e2];omega);have cj:=l9 (b.take n) (aP (b.drop n)) n (by omega);have ct:=hT _ _ (.inr ⟨j+1,by omega,by rw[dN,e3,cr];omega⟩) ((hRl l' rfl _ hN.2).mono (by omega)) o3;rw[af hz,beq_eq_false_iff_ne.2 hz];refine AW.aC rfl<|AW.skip<|AW.seq<|AW.draw aO 14 (by kernel_rfl) ?_;refine qP 3 rfl ?_;refine ai.gX tok (a:=b) (b.take n) rfl rfl rfl rfl rfl trivial (al n) (an _) (show n≤b.length by omega) rfl ?_;refine qP 2 rfl ?_;refine ai.gX tok (a:=b) (b.drop n) rfl rfl rfl rfl rfl (al n) trivial (show n≤b.length by omega) (ap _) (by show(b.take b.length).drop n=_;rw[c7]) ?_;exact qQ rfl cm<|qP 1 rfl<|qQ rfl cj<|qP 2 rfl<|qQ rfl ci<|qQ rfl ct<|ai.nil<|qU 1 rfl<|qN rfl
theorem lP: ∀(l:Nat) {rt:List NQ} {a:NQ},ay l a→l≤5→cU rt→l≤rt.length→rt.length≤10→Oh l rt a→Pure Tryz.prog 175 [fm rt,ak a] (ak (bN l rt a))
 |0,rt,a,ha,hl5,hrt,hl,hl10,hok=>DN (O:=fun _=>True) (Sk:=fun _=>True) (Nk:=fun _=>True) (Tk:=fun _ _=>False) ha hl5 hl hl10 hok.1 hok.2 (fun h=>aG rfl h) (fun l' h=>by omega) (fun l' h=>by omega) (fun l' h=>by omega) (fun l' h=>by omega) (fun _ _ _ _ h=>h.elim)
 |l+1,rt,a,ha,hl5,hrt,hl,hl10,hok=>DN (O:=Oh l rt) (Sk:=Jn l rt) (Nk:=Nu l rt) (Tk:=Dm (l+1) rt) ha hl5 hl hl10 hok.1 hok.2.1 (fun _=>hok.2) (fun l' e b h1 h2=>by
   obtain rfl:l=l':=by omega
   exact lP l h1 (by omega) hrt (by omega) hl10 h2) (fun l' e b h1=>by
   obtain rfl:l=l':=by omega
   exact fg l h1 hrt (by omega)) (fun l' e b h1 h2=>by
   obtain rfl:l=l':=by omega
   exact fZ l h1 (by omega) hrt (by omega) hl10 h2) (fun l' e b j h1 h2 h3=>by
   obtain rfl:l=l':=by omega
   exact⟨oD h1 h2 hrt (by omega) hl10 h3,wc h1 h2 hrt (by omega)⟩) (fun b c h1 h2 h3=>cK (l+1) h1 h2 hrt hl hl10 h3)
def qE(v:List NQ):Prop:= ∃m,fC m v
theorem fC.a(V:fC m v):qE v:=⟨m,V⟩
theorem qE.l5(V:qE v):v.length≤5:=V.elim fun _ V=>V.l5
theorem qE.ro(V:qE v):cU v:=V.elim fun _ V=>V.ro
def vP(v:List NQ)(a b:NQ):NQ:=aq (aT v.length v a (bN v.length v b))
def m7(v:List NQ)(a:NQ):Int:=ec v.length v a
def Dn(v:List NQ)(a b:NQ):Prop:=qo a∧qo b∧Dm v.length v a b∧qo (aT v.length v a b)
def Mv(a b:NQ):Prop:=qo a∧qo b∧qo (aS a (aP b))
def Jo(v:List NQ)(a b:NQ):Prop:=qo a∧qo b∧Jn v.length v b∧m7 v b≠0∧Oh v.length v b∧Dm v.length v a (bN v.length v b)∧qo (aT v.length v a (bN v.length v b))
def E0(v:List NQ)(a:NQ):Prop:=Jn v.length v a
theorem E0.sz{a:NQ}(h:E0 v a):qo a:=Jn.sz h
theorem G5(V:qE v)(l:List NQ)(hl:l.length≤1000000)(h: ∀i,i<l.length→ay v.length (l.getD i [])∧qo (l.getD i [])):Pure Tryz.prog 42 [fm v,.sl 1 (l.map ak)] bd:=by
 obtain⟨m,V⟩:=V;obtain⟨m0,t1,t2,tw,tk⟩:=V.raw.1.t;have l5:=V.l5
 have g: ∀i,(l.map fa).getD i []=fa (l.getD i []):=fun i=>by
  rw[am,ce,am];cases l[i]? with
  |none=>rfl
  |some x=>rfl
 have c:=ib (oo v) (l.map fa) (mn:=17300000000000) tw t1 V.raw.1.l V.raw.1.ll tk (fun i hi=>by
  rw[aa]at hi;rw[g];exact fun _=>qY (h i hi).2) (by rw[aa];exact hl) (fun i hi=>by
  rw[aa]at hi
  rw[g,iY];exact b3 ((h i hi).1.len (by omega)) (by decide)) (by omega)
 have e:kL (oo v) (l.map fa)=0:=by unfold kL;rw[af (by rw[V.raw.2];simp)];refine pk fun j hj=>?_;rw[aa]at hj;rw[gf,g];exact oO (h j (by omega)).1
 rw[e,lv,dT,show(bo ∘ fa)=ak from funext il]at c;exact c
theorem Ko{a:NQ}(V:qE v)(ha:ay v.length a)(sa:qo a):Pure Tryz.prog 42 [fm v,.sl 1 [ak a]] bd :=
 G5 V [a] (show 1≤1000000 by decide) (fun i hi=>by
  have:i<1:=hi;obtain rfl:i=0:=by omega
  exact⟨ha,sa⟩)
theorem yB{a:NQ}(V:qE v)(ha:ay v.length a)(sa:qo a)(hb:ay v.length b)(sb:qo b):Pure Tryz.prog 42 [fm v,.sl 1 [ak a,ak b]] bd :=
 G5 V [a,b] (show 2≤1000000 by decide) (fun i hi=>by
  have:i<2:=hi
  match i,this with
  |0,_=>exact⟨ha,sa⟩
  |1,_=>exact⟨hb,sb⟩)
theorem Ew{a:NQ}(V:qE v)(ha:ay v.length a)(hb:ay v.length b)(ok:Mv a b):Pure Tryz.prog 105 [fm v,ak a,ak b] (.tu [ak (fq a b),bd]):=by
 refine qJ 22 Tryz.func105 rfl fun B0 F0 w0=>?_;have hl5:=V.l5;have hro:=V.ro;obtain⟨sa,sb,sc⟩:=ok;have cc:=yB V ha sa hb sb;have c0:=f' b sb (by omega) (b3 (hb.len (by omega)) (by decide));have c1:=eT a (aP b) sa sb.minus (by omega) (b3 (ha.len (by omega)) (by decide)) (b3 (hb.minus.len (by omega)) (by decide));have c2:=bO (aS a (aP b)) (ha.plus hb.minus) hl5 sc (by omega);refine qX 3 rfl<|qI<|qX 3 rfl<|ae.ku tok rfl rfl rfl rfl rfl ?_;refine qM rfl cc<|qU 1 rfl<|qK 1 rfl<|qR rfl rfl<|ae.nil<|AW.aC rfl ?_
 ·exact AW.skip (qX 2 rfl (qM rfl c0 (qM rfl c1 (qM rfl c2 (qU 2 rfl (qN rfl))))))
theorem wS{a:NQ}(V:qE v)(ha:ay v.length a)(hb:ay v.length b)(ok:Dn v a b):Pure Tryz.prog 106 [fm v,ak a,ak b] (.tu [ak (et v a b),bd]):=by
 refine qJ 22 Tryz.func106 rfl fun B0 F0 w0=>?_;have hl5:=V.l5;have hro:=V.ro;obtain⟨sa,sb,st,sc⟩:=ok;have cc:=yB V ha sa hb sb;have c1:=cK v.length ha hb hro (ap _) (by omega) st;have c2:=bO _ (fF v.length ha hb hro (ap _)) hl5 sc (by omega);refine qX 3 rfl<|qI<|qX 3 rfl<|ae.ku tok rfl rfl rfl rfl rfl ?_;refine qM rfl cc<|qU 1 rfl<|qK 1 rfl<|qR rfl rfl<|ae.nil<|AW.aC rfl ?_
 ·exact AW.skip (qX 3 rfl (qM rfl c1 (qM rfl c2 (qU 2 rfl (qN rfl)))))
theorem Ex{a:NQ}(V:qE v)(ha:ay v.length a)(hb:ay v.length b)(ok:Jo v a b):Pure Tryz.prog 133 [fm v,ak a,ak b] (.tu [ak (vP v a b),bd]):=by
 refine qJ 29 Tryz.func133 rfl fun B0 F0 w0=>?_;have hl5:=V.l5;have hro:=V.ro;obtain⟨sa,sb,sg,s0,si,st,sc⟩:=ok;have cc:=yB V ha sa hb sb;have hi:=fg v.length hb hro (ap _);have c0:=fZ v.length hb hl5 hro (ap _) (by omega) sg;have c1:=lP v.length hb hl5 hro (ap _) (by omega) si;have c2:=cK v.length ha hi hro (ap _) (by omega) st;have c3:=bO _ (fF v.length ha hi hro (ap _)) hl5 sc (by omega);change ec v.length v b≠0 at s0;unfold vP;generalize ec v.length v b=z at c0 s0;refine qX 3 rfl<|qI<|qX 3 rfl<|ae.ku tok rfl rfl rfl rfl rfl ?_;refine qM rfl cc<|qU 1 rfl<|qK 1 rfl<|qR rfl rfl<|ae.nil<|AW.aC rfl ?_
 ·refine AW.skip (AW.seq (qX 2 rfl (qM rfl c0 (qU 1 rfl (ae.nil ?_)))));rw[beq_eq_false_iff_ne.2 s0];refine AW.aC rfl ?_
  ·refine AW.skip (AW.seq (AW.draw aO 7 (by kernel_rfl) ?_));exact qP 4 rfl<|qQ rfl c1<|qQ rfl c2<|qQ rfl c3<|ai.nil<|qU 2 rfl<|qN rfl
theorem CC{a:NQ}(V:qE v)(ha:ay v.length a)(ok:E0 v a):Pure Tryz.prog 22 [fm v,ak a] (.tu [dI (m7 v a),bd]):=by
 refine qJ 17 Tryz.func22 rfl fun B0 F0 w0=>?_;have hl5:=V.l5;have hro:=V.ro;have cc:=Ko V ha ok.sz;have c1:=fZ v.length ha hl5 hro (ap _) (by omega) ok;refine qX 3 rfl<|qI<|qX 2 rfl<|ae.ku tok rfl rfl rfl rfl rfl ?_;refine qM rfl cc<|qU 1 rfl<|qK 1 rfl<|qR rfl rfl<|ae.nil<|AW.aC rfl ?_
 ·exact AW.skip (qX 2 rfl (qM rfl c1 (qU 2 rfl (qN rfl))))
end Lift
namespace Lift
open Go
open Go.RowKit (Below)
variable {e t:TypeId}
section
variable {P:Program} {T:Ty} {B:Nat} {F0:Nat→Prop} {w0:dh} {n:Nat} {σ:St} {all:Array Oper} {rest:List Oper} {o:Oper} {d:Nat} {K:St→Prop}
def J6(T:Ty)(lk:Nat→Option AV):Op→Option (Nat×List D)
 | .binOp .eql t x (.const (.slice none 0 0)) _=>match T.get t,dO T (ex T lk 0 x)with
   |some ti,some (.sl s xs)=>match eb ti.kind 4 with
    |true=>some (s,xs)
    |false=>none
   |_,_=>none
 |_=>none
theorem Ft{w:World}(hi:P.underlying t=some (.slice e))(k:Nat)(b:Option Addr)(l c:Nat):(Op.equalIn (k+1) t (.slice b l c) (.slice none 0 0)).run P w= .ok b.isNone w:=by
 cases b<;>simp[Op.equalIn,run_underlying hi]
theorem J5{w:World}(hi:P.underlying t=some (.slice e))(b:Option Addr)(l c:Nat):(Op.equal t (.slice b l c) (.slice none 0 0)).run P w= .ok b.isNone w:=Ft hi 9999 b l c
theorem Kw{w:World}(hi:P.underlying t=some (.slice e))(b:Option Addr)(l c:Nat):(Go.binOp .eql t (.slice b l c) (.slice none 0 0)).run P w= .ok (.bool b.isNone) w:=by have:Go.binOp .eql t (.slice b l c) (.slice none 0 0)=(do pure (.bool (←Op.equal t (.slice b l c) (.slice none 0 0))):Sem Value):=rfl;rw[this];simp only[eX,J5 hi,eh,hW]
theorem ae.eqn(hT:bB P T){s:Nat}{xs:List D}(hd:o.dst=some d)(hdn:e4 (d+1) n=true)(hg:o.guard=none)(hx:J6 T σ.get o.op=some (s,xs))
  (h: ∀b:Bool,(xs≠[]→b=false)→ae P B F0 w0 n all rest K ((d,.d (.v (.bool b)))::σ)):ae P B F0 w0 n all (o::rest) K σ:=by
 intro a w hR Q hQ;unfold wpList;rw[ah (by simp[c8,hg])];refine .inl ?_;obtain⟨O,hOr,hO⟩:=hR.own;have hI:=hR.inv hOr hO (fun t=>.tmp t∈o.op.operands) d;obtain⟨dst,op,ty,pos,after,guard⟩:=o;simp only[]at hd hx hI;cases op<;>try (simp only[J6]at hx;cases hx;done)
 rename_i bop t x y ty2;cases bop<;>try (simp only[J6]at hx;cases hx;done)
 cases y<;>try (simp only[J6]at hx;cases hx;done)
 rename_i c;unfold J6 at hx;split at hx<;>try (cases hx;done)
 rename_i heq;simp only[Op.binOp.injEq,ii,true_and]at heq;obtain⟨rfl,rfl,rfl,rfl⟩:=heq;split at hx<;>try (cases hx;done)
 rename_i ti s' xs' hti hdx;split at hx<;>simp at hx;rename_i hk;obtain⟨rfl,rfl⟩:=hx;obtain⟨info,dd,z,hok⟩:=hT _ ti hti;have hrd:=eO hT hI (fun t ht=>by subst ht;simp[Op.operands]) hdx;obtain⟨ad,cap,hv,h1,h2,hne⟩:=Rd.CL hrd
 have hg2:(eqGuard .eql t x (.const (.slice none 0 0)) (a.eval x) (.slice none 0 0)).run P w= .ok () w:=by rw[hv];simp[eqGuard]
 refine bh (v:=.bool ad.isNone) (w':=w) ?_ ?_
 ·simp only[execOp,eval_const,eX,hg2,eh];rw[hv];rw[Kw (hok.kg hk).1];rfl
 ·rw[hd];refine h ad.isNone (fun hx=>?_) _ _ (hR.put hOr hO (cJ hdn) (dG.refl hI.lt) (show fo _ _ _ _ _ _ _ _ (.d (.v (.bool ad.isNone))) (.bool ad.isNone)from Rd.v rfl)) Q hQ;rcases hne with e|⟨b,off,cs,e,fz,hb,_⟩
  ·exact aG e hx
  ·rw[hb];rfl
end
end Lift
namespace Lift
open Go Go.Proofs
variable {rt:List (List RD)}{m:Nat}
abbrev yT(r:List (List RD)):D:=.sl 1 (r.map bo)
abbrev vp(a:List (List (List RD))):D:=.sl 1 (a.map yT)
abbrev jO(r:List NQ):D:=.sl 1 (r.map ak)
abbrev iT(a:List (List NQ)):D:=.sl 1 (a.map jO)
structure Mj (m:Nat) (rt:List (List RD)) (a:List (List (List RD))):Prop where
 n: ∀i k,kR m rt ((a.getD i []).getD k [])
 l:a.length≤1000000
 r: ∀i,(a.getD i []).length≤1000000
def bg{α:Type}(a:List (List α)):Nat:=(a.getD 0 []).length
def Eh(a:List (List (List RD)))(i:Nat):Nat:=if (a.getD i []).length≠bg a then 10 else 0
def om(rt:List (List RD))(r:List (List RD)):Nat:=fE (fun k=>kL rt [r.getD k []]) (r.length-0) 0
def E8(rt:List (List RD))(a:List (List (List RD))):Nat :=
 if a.length=0 then 0 else if 32<a.length∨32<bg a then 4 else
 if fE (Eh a) (a.length-0) 0≠0 then fE (Eh a) (a.length-0) 0 else fE (fun i=>om rt (a.getD i [])) (a.length-0) 0
def Am(rt:List (List RD))(a:List (List (List RD))):Nat:=if df rt≠0 then df rt else E8 rt a
structure Pr (m:Nat) (rt:List (List RD)):Prop where
 w: ∀i,i<rt.length→(rt.getD i []).length=2^i→wN m (rt.getD i [])
 m1:1≤m
 l:rt.length≤1000000
 ll: ∀i,i<rt.length→(rt.getD i []).length≤4398046511104
 ok:rt.length≤5→ou rt.length m
 m2:m≤1000000
theorem uf{x:List RD}(T:Pr m rt)(X:kR m rt x):Pure Tryz.prog 174 [uF rt,bo x] (tE (kL rt [x])):=by
 refine qJ 14 Tryz.func174 rfl fun B F0 w0=>?_;have hm:=T.m2;have c:=yY rt x T.w T.m1 T.l T.ll T.ok X.w X.l (by omega);unfold IH at c;refine qX 2 rfl<|qK 2 rfl ?_;by_cases h:kL rt [x]≠0
 ·rw[ah h]at c;exact qM rfl c<|qU 5 rfl<|qK 2 rfl<|qN rfl
 rw[af h]at c;have h:kL rt [x]=0:=by omega
 rw[h];exact qM rfl c<|qU 5 rfl<|qK 2 rfl<|qN rfl
theorem Mc(h:df rt=0)(x:List RD):kL rt [x]=bF rt.length x:=by
 unfold kL;rw[af (by rw[h];simp)];show(if bF rt.length x=0 then 0 else bF rt.length x)=_;split
 ·rename_i e;exact e.symm
 ·rfl
theorem xU{a:List (List (List RD))}(hal:a.length≤1000000)(har: ∀i,(a.getD i []).length≤1000000)(han: ∀i k,Pure Tryz.prog 174 [uF rt,bo ((a.getD i []).getD k [])] (tE (kL rt [(a.getD i []).getD k []]))):Pure Tryz.prog 130 [uF rt,vp a] (tE (E8 rt a)):=by
 refine qJ 61 Tryz.func130 rfl fun B F0 w0=>?_;unfold E8;obtain⟨E,hE⟩: ∃E,fE (Eh a) (a.length-0) 0=E:=⟨_,rfl⟩;obtain⟨G,hG⟩: ∃G,fE (fun i=>om rt (a.getD i [])) (a.length-0) 0=G:=⟨_,rfl⟩;rw[hE,hG];refine qX 2 rfl<|qI<|qX 2 rfl ?_;rw[aa];refine qU 1 rfl<|ae.nil ?_;by_cases h0:a.length=0
 ·rw[ah h0,h0];exact AW.aH rfl<|qX 1 rfl<|qN rfl
 rw[af h0,beq_eq_false_iff_ne.2 (show(a.length:Int)≠0 by omega)];have hc0:bg a=(a.getD 0 []).length:=rfl;have hcl:=har 0;have g0:=getM yT (l:=a) (i:=0) (by omega);refine AW.aC rfl ?_
 ·skip
  refine AW.skip<|AW.seq<|qX 2 rfl ?_;rw[aa];refine qU 1 rfl ?_;by_cases h1:32<a.length
  ·rw[aN (show(32:Int)<(a.length:Int) by omega),ah (.inl h1)];exact qU 7 rfl<|ae.nil<|AW.aH rfl<|qX 2 rfl<|qN rfl
  rw[a5 (show ¬(32:Int)<(a.length:Int) by omega)];refine qU 2 rfl<|ae.idx tok (yT (a.getD 0 [])) rfl rfl rfl rfl (d4 _) g0 ?_;refine qU 2 rfl ?_;rw[aa];refine qU 1 rfl ?_;by_cases h2:32<bg a
  ·rw[aN (show(32:Int)<((a.getD 0 []).length:Int) by omega),ah (.inr h2)];exact qU 1 rfl<|ae.nil<|AW.aH rfl<|qX 2 rfl<|qN rfl
  rw[a5 (show ¬(32:Int)<((a.getD 0 []).length:Int) by omega),af (fun h=>h.elim h1 h2)];refine qU 1 rfl<|ae.nil<|AW.aC rfl ?_
  ·refine AW.skip (AW.seq (qX 2 rfl ?_));rw[aa];refine qU 1 rfl<|ae.nil<|AW.block ?_;refine AW.aK [1,2,26,27,28] (fun i:Nat=>[(1,.d (vp a)),(2,.bx [.sl 1 (rt.map bo)]),(26,.d (vp a)),(27,.d (dI a.length)),(28,.d (dI i))]) (fun i=>i≤a.length∧fE (Eh a) (a.length-i) i=E) (fun i=>a.length-i) 0 rfl ⟨an _,hE⟩ fun i ⟨hi,hiE⟩=>?_
   ·show AW _ _ _ _ _ _ _ [(1,.d (vp a)),(2,.bx [.sl 1 (rt.map bo)]),(26,.d (vp a)),(27,.d (dI a.length)),(28,.d (dI i))];refine qX 1 rfl<|qI<|AW.cond rfl (fun h=>?_) fun h=>?_
    ·have hii:i<a.length:=by have:=ao h;omega
     have hg:=getM yT (l:=a) (i:=i) hii;have hri:=har i;have hmiss:=fun h0:Eh a i=0=>(cQ hii h0).symm.trans hiE;have hhit:=fun h0:Eh a i≠0=>(ez hii h0).symm.trans hiE;refine AW.skip<|AW.seq<|AW.block<|AW.seq<|AW.region<|ae.idx tok (yT (a.getD i [])) rfl rfl rfl rfl (al i) hg ?_;refine qU 2 rfl<|qK 2 rfl ?_;rw[aa];refine qU 1 rfl<|ae.idx tok (yT (a.getD 0 [])) rfl rfl rfl rfl (d4 _) g0 ?_;refine qU 2 rfl ?_;rw[aa];refine qU 1 rfl<|ae.nil<|AW.cond rfl (fun h=>?_) fun h=>?_
     ·have hne:(a.getD i []).length≠bg a:=by have:=bne_iff_ne.1 h;omega
      have e:Eh a i=10:=ah hne;have:=hhit (by rw[e];decide);rw[e]at this;subst this;rw[ah (by decide)];exact qX 2 rfl<|qN rfl
     ·have heq:(a.getD i []).length=bg a:=by have:=bne_eq_false_iff_eq.1 h;omega
      have e:Eh a i=0:=af (fun h=>h heq);refine AW.skip<|qT 1 rfl ?_;rw[aD (x:=(i:Int)+1) (by omega) (by omega)];refine qU 1 rfl<|ae.nil ?_;exact⟨i+1,rfl,⟨hii,hmiss e⟩,by omega⟩
    have hii: ¬i<a.length:=by have:=ar h;omega
    rw[eC hii]at hiE;subst hiE;rw[af (by decide)];refine AW.exit<|AW.seq<|qX 2 rfl ?_;rw[aa];refine qU 1 rfl<|ae.nil<|AW.block ?_;refine AW.aK [1,2,41,42,43] (fun i:Nat=>[(1,.d (vp a)),(2,.bx [.sl 1 (rt.map bo)]),(41,.d (vp a)),(42,.d (dI a.length)),(43,.d (dI i))]) (fun i=>i≤a.length∧fE (fun i=>om rt (a.getD i [])) (a.length-i) i=G) (fun i=>a.length-i) 0 rfl ⟨an _,hG⟩ fun i ⟨hi,hiG⟩=>?_
    ·show AW _ _ _ _ _ _ _ [(1,.d (vp a)),(2,.bx [.sl 1 (rt.map bo)]),(41,.d (vp a)),(42,.d (dI a.length)),(43,.d (dI i))];refine qX 1 rfl<|qI<|AW.cond rfl (fun h=>?_) fun h=>?_
     ·have hii:i<a.length:=by have:=ao h;omega
      have hg:=getM yT (l:=a) (i:=i) hii;have hri:=har i;have hni:=han i;have hmiss:=fun h0:om rt (a.getD i [])=0=>(cQ (f:=fun i=>om rt (a.getD i [])) hii h0).symm.trans hiG;have hhit:=fun h0:om rt (a.getD i [])≠0=>(ez (f:=fun i=>om rt (a.getD i [])) hii h0).symm.trans hiG;refine AW.skip<|AW.seq<|AW.block<|AW.seq<|AW.region<|ae.idx tok (yT (a.getD i [])) rfl rfl rfl rfl (al i) hg ?_;refine qU 2 rfl<|ae.nil ?_;generalize a.getD i []=r at hri hni hmiss hhit;obtain⟨H,hH⟩: ∃H,om rt r=H:=⟨_,rfl⟩;rw[hH]at hmiss hhit;refine qX 2 rfl ?_;rw[aa];refine qU 1 rfl<|ae.nil<|AW.block ?_;refine AW.aK [1,2,41,42,43,47,48,49] (fun k:Nat=>[(1,.d (vp a)),(2,.bx [.sl 1 (rt.map bo)]),(41,.d (vp a)),(42,.d (dI a.length)),(43,.d (dI i)),(47,.d (yT r)),(48,.d (dI r.length)),(49,.d (dI k))]) (fun k=>k≤r.length∧fE (fun k=>kL rt [r.getD k []]) (r.length-k) k=H) (fun k=>r.length-k) 0 rfl ⟨an _,hH⟩ fun k ⟨hk,hkH⟩=>?_
      ·show AW _ _ _ _ _ _ _ [(1,.d (vp a)),(2,.bx [.sl 1 (rt.map bo)]),(41,.d (vp a)),(42,.d (dI a.length)),(43,.d (dI i)),(47,.d (yT r)),(48,.d (dI r.length)),(49,.d (dI k))];refine qX 1 rfl<|qI<|AW.cond rfl (fun h=>?_) fun h=>?_
       ·have hkk:k<r.length:=by have:=ao h;omega
        have hg2:=getM bo (l:=r) (i:=k) hkk;have cn:=hni k;have km:=fun h0:kL rt [r.getD k []]=0=>(cQ (f:=fun k=>kL rt [r.getD k []]) hkk h0).symm.trans hkH;have kh:=fun h0:kL rt [r.getD k []]≠0=>(ez (f:=fun k=>kL rt [r.getD k []]) hkk h0).symm.trans hkH;refine AW.skip<|AW.seq<|AW.block<|AW.seq<|AW.region<|ae.idx tok (bo (r.getD k [])) rfl rfl rfl rfl (al k) hg2 ?_;refine qU 2 rfl<|qK 2 rfl<|qM rfl cn<|qU 1 rfl<|ae.nil ?_;generalize kL rt [r.getD k []]=e at cn km kh;rcases e with _|z
        rotate_left
        ·have:=kh (bn z);subst this;have:=hhit (bn z);subst this;exact qX 1 rfl<|qR rfl rfl<|ae.nil<|AW.aH rfl<|qX 2 rfl<|qN rfl
        refine qX 1 rfl<|qR rfl rfl<|ae.nil<|AW.aC rfl ?_
        ·skip
         refine AW.skip<|qT 1 rfl ?_;rw[aD (x:=(k:Int)+1) (by omega) (by omega)];refine qU 1 rfl<|ae.nil ?_;exact⟨k+1,rfl,⟨hkk,km rfl⟩,by omega⟩
       have hkk: ¬k<r.length:=by have:=ar h;omega
       rw[eC hkk]at hkH;subst hkH;refine AW.exit<|qT 1 rfl ?_;rw[aD (x:=(i:Int)+1) (by omega) (by omega)];refine qU 1 rfl<|ae.nil ?_;exact⟨i+1,rfl,⟨hii,hmiss rfl⟩,by omega⟩
     have hii: ¬i<a.length:=by have:=ar h;omega
     rw[eC hii]at hiG;subst hiG;exact AW.exit<|qX 1 rfl<|qN rfl
theorem ug{a:List (List (List RD))}(T:Pr m rt)(A:Mj m rt a):Pure Tryz.prog 130 [uF rt,vp a] (tE (E8 rt a)) :=
 xU A.l A.r (fun i k=>uf T (A.n i k))
theorem n0{a:List (List (List RD))}(T:Pr m rt)(A:Mj m rt a):Pure Tryz.prog 88 [uF rt,vp a] (tE (Am rt a)):=by
 refine qJ 14 Tryz.func88 rfl fun B F0 w0=>?_;have cc:=k9 rt T.w T.m1 T.l T.ll T.ok;have cm:=ug T A;unfold Am;refine qX 2 rfl<|qI<|qX 1 rfl<|qM rfl cc<|qU 1 rfl<|ae.nil ?_;generalize df rt=e at cc ⊢;rcases e with _|z
 rotate_left
 ·rw[ah (bn z)];exact qX 1 rfl<|qR rfl rfl<|ae.nil<|AW.aH rfl<|qX 2 rfl<|qN rfl
 rw[af (by simp)];refine qX 1 rfl<|qR rfl rfl<|ae.nil<|AW.aC rfl ?_
 ·skip
  exact AW.skip<|qX 2 rfl<|qM rfl cm<|qU 1 rfl<|qN rfl
theorem oZ{v:List NQ}{a:NQ}(V:qE v)(ha:ay v.length a)(ok:E0 v a):Pure Tryz.prog 132 [fm v,ak a] (dI (m7 v a)):=by refine qJ 14 Tryz.func132 rfl (fun B F0 w0=>?_);have c:=CC V ha ok;exact qX 2 rfl<|qK 2 rfl<|qM rfl c<|qU 5 rfl<|qK 2 rfl<|qN rfl
theorem l0(a:List (List NQ)):Pure Tryz.prog 90 [iT a] (dI (bg a)):=by
 refine qJ 10 Tryz.func90 rfl fun B F0 w0=>?_;refine qX 1 rfl<|qI<|qX 2 rfl ?_;rw[aa];refine qU 1 rfl<|ae.nil ?_;by_cases h0:a.length=0
 ·rw[bi.1 h0];exact AW.aH rfl<|qX 1 rfl<|qN rfl
 rw[beq_eq_false_iff_ne.2 (show(a.length:Int)≠0 by omega)];have g0:=getM jO (l:=a) (i:=0) (by omega);refine AW.aC rfl ?_
 ·refine AW.skip (qX 1 rfl (ae.idx tok (jO (a.getD 0 [])) rfl rfl rfl rfl (d4 _) g0 ?_));refine qU 2 rfl ?_;rw[aa];exact qU 1 rfl<|qN rfl
def Ji(r:List NQ)(res:D)(R':List LR):Prop:= ∃V,res= .v V∧R'=[(V,AV.ow 52 (r.map ak))]
theorem D3(r:List NQ)(hl:r.length≤1000000):fM Tryz.prog 131 [jO r] [] (Ji r):=by
 refine fM.intro (n:=8) tok Tryz.func131 rfl rfl rfl (cJ rfl) (by kernel_rfl) fun B F0 w0=>?_;refine AZ.seq<|AZ.cL fun B1 F1 w1=>?_;refine qU 1 rfl<|ae.nil ⟨rfl,?_⟩;refine AZ.seq<|AZ.seq ?_;refine AZ.cL fun B1 F1 w1=>?_;refine qU 1 rfl ?_;refine ae.eqn tok rfl rfl rfl rfl fun b hb=>?_;refine ae.nil ⟨rfl,?_⟩;refine AZ.cond rfl (fun h=>?_) fun h=>?_
 ·have hr:r=[]:=by refine ep fun hr=>?_;have:=hb (by simp[hr]);rw[this]at h;cases h
  subst hr;refine AZ.seq<|AZ.cL fun B1 F1 w1=>?_;refine qU 1 rfl<|ae.nil ⟨rfl,?_⟩;exact AZ.fS 2 rfl rfl rfl fun V=>AZ.ret ⟨.v V,rfl,V,rfl,rfl⟩
 ·skip
  refine AZ.skip<|AZ.seq ?_;refine AZ.cL fun B1 F1 w1=>?_;refine qU 2 rfl ?_;refine ae.Ch tok rfl rfl rfl rfl (by rw[aa];show r.length*24≤_;omega) ?_;refine qU 1 rfl<|ae.nil ⟨rfl,?_⟩;exact AZ.fS 2 rfl rfl rfl fun V=>AZ.ret ⟨.v V,rfl,V,rfl,rfl⟩
end Lift
namespace Lift
open Go
open Go.RowKit (Below)
variable {ops:Array Oper}{Q:Exit→List LR→St→Prop}{cs xs:List D}{R:List LR}{K:List LR→St→Prop}{B e eo i j k n:Nat}{F0:Nat→Prop}{o:Oper}{P:Program}{σ:St}{T:Ty}{V Vo:Value}{w0:dh}
section
variable {all:Array Oper} {l:List Oper} {x:Code} {a:Act} {w:World} {p:mY} 
theorem pj: ∀{cs:List D},(∀d,d∈cs→d.flat=[d])→flatAll cs=cs
 |[],h=>rfl
 |d::r,h=>by show d.flat++flatAll r=d::r;rw[h d (List.mem_cons_self ..),pj (fun x hx=>h x (List.mem_cons_of_mem _ hx))];rfl
theorem bT.L0(hR:bT P B F0 w0 n R σ a w)(hj:R[j]?=some (Vo,.ow eo cs))(hc1: ∀d,d∈cs→d.flat=[d])(hk:cs[k]?=some (.v V))(hi:R[i]?=some (V,.ow e xs))(hij:i≠j):
  bT P B F0 w0 n ((R.set i (V,.junk)).set j (Vo,.ow eo (cs.set k (.sl (P.cellsOf e) xs)))) σ a w:=by
 obtain⟨O,hOr,hO,hL⟩:=hR.own
 let O':Nat→Option Nat:=fun b=>if O b=some (n+i)then none else O b
 have h1: ∀b t,O' b=some t→O b=some t:=fun b t h=>by
  simp only[O']at h;split at h
  ·cases h
  ·exact h
 have h2: ∀b t,t≠n+i→O b=some t→O' b=some t:=fun b t ht h=>by simp only[O',h];rw[af (by simpa using ht)]
 have hF: ∀c,aQ O (FW B F0 w) c→aQ O' (FW B F0 w) c:=fun c hc=>⟨by simp only[O',hc.1];simp,hc.2⟩
 have hlt: ∀t av,σ.get t=some av→t<n:=fun t av h=>by obtain⟨v,hv,_⟩:=hO t av h;rw[←hR.size];exact(cI.1 hv).1
 have hil:=(ch.1 hi).1;have hjl:=(ch.1 hj).1;have hkl:=(ch.1 hk).1;refine⟨hR.below,hR.base,hR.f0,hR.defers,hR.size,O',fun b t hb=>hOr b t (h1 b t hb),fun j av hav=>?_,fun m r hr=>?_⟩
 ·obtain⟨v,hv,hr⟩:=hO j av hav;exact⟨v,hv,hr.move (fun c hc=>⟨hF c hc,rfl⟩) (fun _ c hc=>⟨h2 c j (by have:=hlt j av hav;omega) hc,rfl⟩) (fun k _ x _ hk=>⟨hk,rfl⟩)⟩
 ·by_cases hmj:m=j
  ·subst hmj;rw[bz (by simpa using hjl)]at hr;cases hr
   have hcs': ∀d,d∈cs.set k (.sl (P.cellsOf e) xs)→d.flat=[d]:=fun d hd=>by
    rcases eA hd with h|h
    ·exact hc1 d h
    ·subst h;rfl
   rcases hL m _ hj with h|⟨_,_,h⟩
   ·cases h
   refine .inr ⟨rfl,rfl,?_⟩;rcases h with⟨base,h3,h4⟩|⟨b',cap,cs',h3,h4,h5,h6,h7,h8,h9,h10⟩
   ·subst h4;simp at hk
   ·simp only at h3;subst h3;refine .inr ⟨b',cap,cs',by simp,h2 b' _ (by omega) h4,h5,by simpa using h6,h7,h8,fun d hd=>?_,fun q d hd=>?_⟩
    ·rcases eA hd with h|h
     ·exact h9 d h
     ·subst h;have:=h9 _ (List.mem_of_getElem? hk);exact this
    ·rw[pj hcs']at hd;rw[pj hc1]at h10;by_cases hq:q=k
     ·subst hq;rw[bz hkl]at hd;cases hd;obtain⟨_,u,hu,hru⟩:=h10 q _ hk;have:=(Rd.j5 hru).1;subst this;refine⟨rfl,_,hu,?_⟩;rcases hL i _ hi with h|⟨_,_,h⟩
      ·cases h
      ·rcases h with⟨base,h3,h4⟩|⟨b2,cap2,cs2,g3,g4,g5,g6,g7,g8,g9,g10⟩
       ·simp only at h3 h4;subst h3;subst h4;exact .nil<|an _
       ·simp only at g3;subst g3;refine Rd.nV (off:=0) ⟨by simp only[O',g4];simp,(hOr b2 _ g4).fw hR.f0⟩ g5 g6 g7 g9 fun m d hd=>?_;obtain⟨f1,u,f2,f3⟩:=g10 m d hd;exact⟨f1,u,by simpa using f2,f3.mono hF (fun _ _=>rfl)⟩
     ·rw[cw (ey hq)]at hd;obtain⟨f1,u,f2,f3⟩:=h10 q d hd;exact⟨f1,u,f2,f3.mono hF (fun _ _=>rfl)⟩
  ·have hr:=kX hmj hr;by_cases hmi:m=i
   ·subst hmi;rw[bz hil]at hr;cases hr;exact .inl rfl
   ·have:=kX hmi hr;rcases hL m r this with h|⟨g1,g2,g3⟩
    ·exact .inl h
    ·exact .inr ⟨g1,g2,g3.move (fun c hc=>⟨hF c hc,rfl⟩) (fun _ c hc=>⟨h2 c _ (by omega) hc,rfl⟩) (fun k _ x _ hk=>by cases hk)⟩
theorem AZ.L0(hT:bB P T)(i j k:Nat){te:TI}(hj:R[j]?=some (Vo,.ow eo cs))(hc1: ∀d,d∈cs→d.flat=[d])(hk:cs[k]?=some (.v V))(hi:R[i]?=some (V,.ow e xs))(hij:i≠j)(he:T.get e=some te)
  (h:AZ P B F0 w0 n x Q ((R.set i (V,.junk)).set j (Vo,.ow eo (cs.set k (.sl te.size xs)))) σ):AZ P B F0 w0 n x Q R σ:=by
 obtain⟨info,d,z,hok⟩:=hT e te he;intro a w hR;have:=hR.L0 hj hc1 hk hi hij;rw[hok.cellsOf]at this;exact h a w this
theorem aj.xW(t i:Nat){av:AV}(ht:σ.get t=some av)(hrow:av.row.isSome=true)(htag:av.tag=false)(hi:e4 (i+1) R.length=true)(h: ∀V:Value,aj P B F0 w0 n all l K p (R.set i (V,av)) ((t,.d (.v V))::σ.kill t)):aj P B F0 w0 n all l K p R σ:=by intro a w hR hpin Q hQ;obtain⟨O,_,hO,_⟩:=hR.own;obtain⟨V,hV,_⟩:=hO t _ ht;exact h V a w (hR.fS (i:=i) ht hrow htag hV (bz (cJ hi)) (fun j r hj hr=>kX hj hr)) hpin Q hQ
theorem fL.LB(i:Nat){oi:Oper}(hB:Fw ops i=true)(hoi:ops[i]?=some oi)(hm:xY oi.op=true)(hpan: ∀c R σ,Q (.panic c) R σ→False)(hout: ∀R σ,Q .outgrown R σ→False)(h:fL P B F0 w0 n (gK i ops) Q R σ):fL P B F0 w0 n ops Q R σ:=by
 intro a w hR;obtain⟨v,hv⟩:=xO hm a;have hA:=h a w hR;rw[B7]at hA;refine AG i hB (fun c a w hq=>?_) (fun hq=>?_) hoi hv hA
 ·obtain⟨R,σ,h,_⟩:=hq;exact hpan c R σ h
 ·obtain⟨a,w,R,σ,h,_⟩:=hq;exact hout R σ h
theorem dp(h: ∀B1 F1 w1,vn P B1 F1 w1 R→ae P B1 F1 w1 n ops [o] (fun σ'=>σ'.gN=true∧K R σ') σ):aj P B F0 w0 n ops [o] K [] R σ :=
 aj.Ca 1 rfl (fun B1 F1 w1 hS=>by
  have:=h B1 F1 w1 hS
  refine fun a w hR Q hQ=>this a w hR Q (fun a' w' σ' ⟨h1,h2⟩ hR'=>hQ a' w' σ' ⟨h1,aj.nil h2⟩ hR'))
end
section
variable {o1 o2 o3 o4:Oper} {β:fW} {fuel:Nat} {listed:Array Bool}
end
section
def ko(j k i:Nat)(o:Oper):Oper:=match eb i k with
 |true=>addEdge j i o
 |false=>o
def fe(ops:Array Oper)(x:Nat×Nat):Array Oper:=(ops.toList.zipIdx.map fun y=>ko x.1 x.2 y.2 y.1).toArray
theorem lW(ops:Array Oper)(j k i:Nat):(fe ops (j,k))[i]?=(ops[i]?).map (ko j k i):=by unfold fe;rw[List.getElem?_toArray,ce,List.getElem?_zipIdx];simp;cases ops[i]?<;>rfl
theorem sN(ops:Array Oper)(x:Nat×Nat):(fe ops x).size=ops.size:=by simp[fe]
theorem DY(j k i:Nat)(o:Oper):(ko j k i o).op=o.op∧(ko j k i o).dst=o.dst∧(ko j k i o).guard=o.guard:=by
 unfold ko;split
 ·exact rL j i o
 ·exact⟨rfl,rfl,rfl⟩
theorem yk(j k i:Nat)(o:Oper)(ρ:Operand→Value):execOp ρ (ko j k i o)=execOp ρ o:=by
 unfold ko;split
 ·exact nQ j i o ρ
 ·rfl
theorem J7(h:i≠k)(o:Oper):ko j k i o=o:=by
 unfold ko;cases hb:eb i k with
 |true=>exact aG (di hb) h
 |false=>rfl
theorem vf{e:Edge}:(e∈o.after→e∈(ko j k i o).after)∧(e∈(ko j k i o).after→e∈o.after∨e.on=j):=by
 unfold ko addEdge;split
 ·split
  ·exact⟨id,.inl⟩
  ·refine⟨fun h=>by simp[h],fun h=>?_⟩;simp at h;rcases h with h|rfl
   ·exact .inl h
   ·exact .inr rfl
 ·exact⟨id,.inl⟩
variable {Q:Exit→Act→World→Prop}
theorem rR(j k i:Nat){K:Act→World→Prop}{a:Act}{w:World}(h:wpOp P (fe ops (j,k)) Q i K a w):wpOp P ops Q i K a w:=by
 unfold wpOp at *;rw[lW]at h;cases ho:ops[i]? with
 |none=>rw[ho]at h;exact h
 |some o =>
  rw[ho]at h;simp only[f7]at h ⊢;obtain⟨e1,e2,e3⟩:=DY j k i o
  have hy: ∀g,yielded (fe ops (j,k)) a.tmps g=yielded ops a.tmps g:=fun g=>by
   unfold yielded;rw[lW];cases ops[g]? with
   |none=>rfl
   |some og=>simp only[f7,Option.bind_some,(DY j k g og).2.1]
  have hw:c8 (ko j k i o) (yielded (fe ops (j,k)) a.tmps)=c8 o (yielded ops a.tmps):=by
   unfold c8;rw[e3];split
   ·rfl
   ·rw[hy]
  rw[hw,e2]at h
  have hwp:(ko j k i o).wp P a w K Q→o.wp P a w K Q:=fun h=>by
   unfold Oper.wp at *;rw[yk]at h;generalize (execOp a.eval o).run P w=r at *;cases r with
   |ok n w'=>cases n<;>simp only[ea,e2]at h ⊢ <;>exact h
   |halt x w'=>cases x<;>simp only[ea]at h ⊢ <;>exact h
  have has:(ko j k i o).asks P a w→o.asks P a w:=fun h=>by unfold Oper.asks at *;rw[yk]at h;exact h
  split
  ·rename_i hc;rw[ah hc]at h;rcases h with h|⟨h1,h2⟩
   ·exact .inl (hwp h)
   ·exact .inr ⟨has h1,h2⟩
  ·rename_i hc;rw[af hc]at h;exact h
def AQ:Op→Bool
 | .move _=>true
 | .extract _ _=>true
 |_=>false
theorem Hv(hs:AQ o.op=true){a:Act}{w:World}{K:Act→World→Prop}(hpan: ∀c a w,Q (.panic c) a w→False)(h:o.wp P a w K Q): ∃v,(∀w',(execOp a.eval o).run P w'= .ok (.value v) w')∧K (a.put o.dst v) w:=by
 unfold Oper.wp at h;obtain⟨dst,op,ty,pos,after,guard⟩:=o;simp only[]at hs;cases op<;>simp only[AQ]at hs<;>try (cases hs;done)
 ·rename_i x;refine⟨a.eval x,fun w'=>by simp[execOp],?_⟩;simpa[execOp,ea]using h
 ·rename_i x ix;cases hx:a.eval x<;>try (exfalso;simp[execOp,ee,hx,ea]at h;done)
  rename_i vs;cases hv:vs[ix]? with
  |none=>exfalso;simp[execOp,ee,hx,hv,ea]at h
  |some v=>exact⟨v,fun w'=>by simp[execOp,ee,hx,hv],by simpa[execOp,ee,hx,hv,ea]using h⟩
def J8(ops:Array Oper)(j k:Nat):Bool:=match ops[j]?,ops[k]? with
 |some oj,some ok=>AQ oj.op&&oj.guard.isNone&&Gx ops&& !Nat.beq j k &&
   (oj.after.toList.all fun e=> !Region.binds .any e||ok.after.toList.any fun f=>eE .any f&&eb f.on e.on) &&
   ((f5 ops.size).all fun i=>eb i j||(oj.after.toList.any fun e=>eE .any e&&eb e.on i)||match ops[i]? with
     |some o=>(o.after.toList.any fun e=>eE .any e&&eb e.on j)||oj.apart ops o
     |none=>true)
 |_,_=>false
theorem En(hB:J8 ops j k=true)(hpan: ∀c a w,Q (.panic c) a w→False)(hout:LetsOut Q→False): ∀(f:Nat) (L:Array Bool) (a:Act) (w:World),L.size=ops.size →
  wpAny P .any (fe ops (j,k)) Q f L a w→wpAny P .any ops Q f L a w:=by
 unfold J8 at hB;split at hB;rotate_left
 ·cases hB
 rename_i oj ok hoj hok;simp only[d3,dn,Bool.not_eq_true']at hB;obtain⟨⟨⟨⟨⟨hst,hg⟩,hsel⟩,hjk⟩,haf⟩,hap⟩:=hB;have hjk:=Nat.ne_of_beq_eq_false hjk;have hgn:oj.guard=none:=by simpa using hg
 have hjl:j<ops.size:=(cI.1 hoj).1
 have hdich: ∀L:Array Bool,L.size=ops.size→L.getD j true=false∨L.getD j false=true:=fun L hL=>by simp only[Array.getD_eq_getD_getElem?];rw[Array.getElem?_eq_getElem (by omega)];simp only[f4];cases L[j]'(by omega)<;>simp
 have r1: ∀(L:Array Bool) i,i∈d5 .any (fe ops (j,k)) L→i∈d5 .any ops L:=fun L i hi=>by
  rw[mem_ready]at hi ⊢;obtain⟨h1,o,ho,h2⟩:=hi;rw[lW]at ho;cases hx:ops[i]? with
  |none=>rw[hx]at ho;cases ho
  |some o' =>
   rw[hx]at ho;simp at ho;subst ho;exact⟨h1,o',rfl,fun e he hb=>h2 e (vf.1 he) hb⟩
 have r2: ∀(L:Array Bool) i,i∈d5 .any ops L→(i≠k∨L.getD j false=true)→i∈d5 .any (fe ops (j,k)) L:=fun L i hi hc=>by
  rw[mem_ready]at hi ⊢;obtain⟨h1,o,ho,h2⟩:=hi;refine⟨h1,ko j k i o,by rw[lW,ho];rfl,fun e he hb=>?_⟩;rcases hc with hc|hc
  ·rw[J7 hc]at he;exact h2 e he hb
  ·rcases vf.2 he with h|h
   ·exact h2 e h hb
   ·rw[h];exact hc
 have rj: ∀L:Array Bool,k∈d5 .any ops L→L.getD j true=false→j∈d5 .any ops L:=fun L hk hj=>by rw[mem_ready]at hk ⊢;obtain⟨_,o,ho,h2⟩:=hk;rw[hok]at ho;cases ho;refine⟨hj,oj,hoj,fun e he hb=>?_⟩;have:=haf e (by simpa using he);rw[hb]at this;simp only[Bool.not_true,Bool.false_or]at this;obtain⟨f,hf,hfb⟩:=d0.1 this;simp only[d3]at hfb;rw[←di hfb.2];exact h2 f (by simpa using hf) hfb.1
 intro f
 induction f with
 |zero =>
  intro L a w hL h;refine⟨en.2 fun i hi=>?_,h.2⟩;rcases hdich L hL with hd|hd
  ·by_cases hik:i=k
   ·subst hik;have:=r2 L j (rj L hi hd) (.inl hjk);rw[h.1]at this;cases this
   ·have:=r2 L i hi (.inl hik);rw[h.1]at this;cases this
  ·have:=r2 L i hi (.inr hd);rw[h.1]at this;cases this
 |succ f ih =>
  intro L a w hL h;have hLs: ∀i,(L.setIfInBounds i true).size=ops.size:=fun i=>by simpa using hL
  refine⟨fun hn=>h.1 (en.2 fun i hi=>?_),fun i hi=>?_⟩
  ·have:=r1 L i hi;rw[hn]at this;cases this
  ·have easy:(i≠k∨L.getD j false=true)→wpOp P ops Q i (wpAny P .any ops Q f (L.setIfInBounds i true)) a w:=fun hc =>
    wpOp_mono (fun a' w' h'=>ih _ a' w' (hLs i) h') (rR j k i (h.2 i (r2 L i hi hc)))
   rcases hdich L hL with hd|hd
   rotate_left
   ·exact easy (.inr hd)
   by_cases hik:i=k;rotate_left
   ·exact easy (.inl hik)
   subst hik;have hjr:=rj L hi hd;have h1:=rR j i j (h.2 j (r2 L j hjr (.inl hjk)));have hwant:c8 oj (yielded ops a.tmps)=true:=by simp[c8,hgn]
   unfold wpOp at h1;simp only[hoj,hwant,if_true]at h1;rcases h1 with h1|⟨_,h1⟩
   rotate_left
   ·exact(hout h1).elim
   obtain⟨v,hv,hK⟩:=Hv hst hpan h1;have h3:=ih _ _ _ (hLs j) hK
   have h4:=wpAny_first (i:=j) (oi:=oj) (v:=v) hoj (fun i o cs b hi he=>by
    unfold Gx at hsel;have:=dn.1 hsel o (by simpa using Array.mem_of_getElem? hi);rw[he]at this
    cases this) (fun c a' w' hq=>(hpan _ _ _ hq).elim) f L a w (fun i oi hi hij hli hne=>by
     have:=hap i (d'.2 (cI.1 hi).1);rw[hi]at this;simp only[gt]at this;rcases this with (h|h)|h
     ·exact aG (di h) hij
     ·exfalso;obtain⟨e,he,hb⟩:=d0.1 h;simp only[d3]at hb;obtain⟨_,o,ho,h2⟩:=mem_ready.1 hjr;rw[hoj]at ho;cases ho;have h3:=h2 e (by simpa using he) hb.1;rw[di hb.2,getD_both hli]at h3;cases h3
     ·rcases h with h|h
      ·exfalso;obtain⟨e,he,hb⟩:=d0.1 h;simp only[d3]at hb;exact hne e (by simpa using he) hb.1<|di hb.2
      ·exact h) hjr (.inl ⟨hwant,fun w=>hv w⟩) h3
   exact h4.2 i hi
def B6:List (Nat×Nat)→Array Oper→Bool
 |[],_=>true
 |x::l,ops=>J8 ops x.1 x.2&&B6 l (fe ops x)
theorem uM(hpan: ∀c a w,Q (.panic c) a w→False)(hout:LetsOut Q→False){f:Nat}{L:Array Bool}{a:Act}{w:World}: ∀(l:List (Nat×Nat)) (ops:Array Oper),B6 l ops=true→L.size=ops.size→wpAny P .any (l.foldl fe ops) Q f L a w→wpAny P .any ops Q f L a w
 |[],_,_,_,h=>h
 |x::l,ops,hB,hL,h=>by rw[B6,d3]at hB;exact En hB.1 hpan hout f L a w hL<|uM hpan hout l (fe ops x) hB.2 (by rw[sN];exact hL) h
theorem yj: ∀(l:List (Nat×Nat)) (ops:Array Oper),(l.foldl fe ops).size=ops.size
 |[],_=>rfl
 |x::l,ops=>(yj l (fe ops x)).trans (sN ops x)
end
theorem fL.DX(l:List (Nat×Nat))(hB:B6 l ops=true)(hpan: ∀c R σ,Q (.panic c) R σ→False)(hout: ∀R σ,Q .outgrown R σ→False)(h:fL P B F0 w0 n (l.foldl fe ops) Q R σ):fL P B F0 w0 n ops Q R σ:=by
 intro a w hR;have hA:=h a w hR;rw[yj]at hA;refine uM (fun c a w hq=>?_) (fun hq=>?_) l ops hB (by simp) hA
 ·obtain⟨R,σ,h,_⟩:=hq;exact hpan c R σ h
 ·obtain⟨a,w,R,σ,h,_⟩:=hq;exact hout R σ h
end Lift
namespace Lift
open Go Go.Proofs
variable {v:List NQ}{b:NQ}{i k:Nat}
abbrev mw(r:List NQ):AV:=AV.ow 52 (r.map ak)
def kE{α:Type}(zs xs:List α)(i:Nat):List α:=zs.take i++xs.drop i
theorem sV{α:Type}{zs xs:List α}(h:zs.length=xs.length)(hi:i≤xs.length):(kE zs xs i).length=xs.length:=by unfold kE;rw[co,ax,gc,h];omega
theorem xR{α:Type}{zs xs:List α}(h:zs.length=xs.length)(hi:i<xs.length)(d:α):(kE zs xs i).getD i d=xs.getD i d:=by
 unfold kE;rw[am,dl (by rw[ax];omega),ax,h,dM,am]
 congr 2;omega
theorem xQ{α:Type}{zs xs:List α}(h:zs.length=xs.length)(hi:i<xs.length){d z:α}(hz:zs.getD i d=z):(kE zs xs i).set i z=kE zs xs (i+1):=by
 subst hz;refine d7 fun c=>?_;by_cases hc:c=i
 ·subst hc;rw[bz (by rw[sV h (by omega)];exact hi)];unfold kE;rw[d6 (by rw[ax];omega),ej,ah (by omega)];have h1:c<zs.length:=by omega
  simp[h1]
 ·rw[cw (ey hc)];unfold kE;rcases Nat.lt_or_ge c i with g|g
  ·rw[d6 (by rw[ax];omega),d6 (by rw[ax];omega),ej,ej,ah g,ah (by omega)]
  ·rw[dl (by rw[ax];omega),dl (by rw[ax];omega),dM,dM,ax,ax]
   congr 1;omega
theorem uc{α:Type}(zs xs:List α):kE zs xs 0=xs:=by unfold kE;simp
theorem xS{α:Type}{zs xs:List α}(h:zs.length=xs.length):kE zs xs xs.length=zs:=by unfold kE;rw[List.drop_length,eu,←h,c7]
section
variable {P:Program} {T:Ty} {B:Nat} {F0:Nat→Prop} {w0:dh} {n:Nat} {σ τ:St} {K:St→Prop} {all:Array Oper} {o:Oper} {d:Nat} {rest:List Oper}
theorem ae.tK(hT:bB P T){e:Nat}{r:List NQ}(q:NQ)(hd:o.dst=none)(hg:aJ all σ o=true)(hx:Gf T σ o.op=some (k,.ow e (r.map ak),r.map ak,i,0,ak q))(hi:i<r.length)
  (h:ae P B F0 w0 n all rest K ((k,.ow e ((r.set i q).map ak))::σ)):ae P B F0 w0 n all (o::rest) K σ:=by
 refine ae.lR hT (ak (r.getD i [])) hd hg hx (getM ak hi) rfl ?_;show ae P B F0 w0 n all rest K ((k,.ow e ((r.map ak).set i (ak q)))::σ);rw[show(r.map ak).set i (ak q)=(r.set i q).map ak from (hU ..).symm];exact h
end
def gW(v:List NQ)(xs ys:List NQ)(c:NQ):List NQ:=(f5 xs.length).map fun k=>fq (xs.getD k []) (et v c (ys.getD k []))
theorem mA(v:List NQ)(xs ys:List NQ)(c:NQ):(gW v xs ys c).length=xs.length:=by unfold gW;rw[aa,List.length_range]
theorem mB(v:List NQ)(xs ys:List NQ)(c:NQ)(h:k<xs.length):(gW v xs ys c).getD k []=fq (xs.getD k []) (et v c (ys.getD k [])):=by unfold gW;rw[am,ce,List.getElem?_range h];rfl
def Jj(v:List NQ)(xs ys:List NQ)(c:NQ):Prop:= ∀k,k<xs.length→Dn v c (ys.getD k [])∧Mv (xs.getD k []) (et v c (ys.getD k []))
def Is(V1 V2:Value)(zs ys:List NQ)(res:D)(R':List LR):Prop:=res=bd∧R'=[(V1,mw zs),(V2,mw ys)]
theorem jd(V:qE v){a:NQ}(ha:ay v.length a)(hb:ay v.length b):ay v.length (et v a b):=bC (fF v.length ha hb V.ro (ap _))
theorem r7{l:Nat}{a:NQ}(ha:ay l a)(hb:ay l b):ay l (fq a b):=bC (ha.plus hb.minus)
theorem L8(V:qE v){a:NQ}(ha:ay v.length a)(hb:ay v.length b):ay v.length (vP v a b):=bC (fF v.length ha (fg v.length hb V.ro (ap _)) V.ro (ap _))
theorem xT(V1 V2:Value)(V:qE v){xs ys:List NQ}{c:NQ}(hl:ys.length=xs.length)(hl0:0<xs.length)(hl1:xs.length≤1000000)(hx: ∀k,ay v.length (xs.getD k []))(hy: ∀k,ay v.length (ys.getD k []))(hc:ay v.length c)(ok:Jj v xs ys c):
  fM Tryz.prog 134 [fm v,.v V1,.v V2,ak c] [(V1,mw xs),(V2,mw ys)] (Is V1 V2 (gW v xs ys c) ys):=by
 refine fM.intro (n:=47) tok Tryz.func134 rfl rfl rfl (cJ rfl) (by kernel_rfl) fun B F0 w0=>?_;have hz:=mA v xs ys c;obtain⟨zs,hzs⟩: ∃zs,gW v xs ys c=zs:=⟨_,rfl⟩;rw[hzs]at hz ⊢;refine AZ.seq<|AZ.cL fun B1 F1 w1=>?_;refine qU 2 rfl<|ae.nil ⟨rfl,?_⟩;refine AZ.seq<|AZ.seq ?_;refine AZ.za fun B1 F1 w1 hS=>?_;refine qU 1 rfl ?_;refine ae.lens tok (hS.at (i:=0) rfl (by rw[aa];exact hl0)) rfl rfl rfl rfl ?_;refine qU 1 rfl ?_;rw[aa];refine ae.nil ⟨rfl,?_⟩;refine AZ.block ?_;refine AZ.aK [1,2,3,4,13,14] (fun i:Nat=>([(V1,mw (kE zs xs i)),(V2,mw ys)],[(1,.d (.v V1)),(2,.d (.v V2)),(3,.d (ak c)),(4,.bx [.sl 1 (v.map ak)]),(13,.d (dI xs.length)),(14,.d (dI i))])) (fun i=>i≤xs.length) (fun i=>xs.length-i) 0 (by rw[uc];rfl) (an _) fun i hi=>?_
 ·show AZ _ _ _ _ _ _ _ [(V1,mw (kE zs xs i)),(V2,mw ys)] [(1,.d (.v V1)),(2,.d (.v V2)),(3,.d (ak c)),(4,.bx [.sl 1 (v.map ak)]),(13,.d (dI xs.length)),(14,.d (dI i))];refine AZ.seq<|AZ.cL fun B1 F1 w1=>?_;refine qU 1 rfl<|ae.nil ⟨rfl,?_⟩;refine AZ.seq ?_;refine AZ.cond rfl (fun h=>?_) fun h=>?_
  ·have hin:i<xs.length:=by have:=ao h;omega
   have hpl:=sV hz (i:=i) (by omega);have hpg:=xR hz hin [];have hps:=xQ hz hin (d:=[]) (show zs.getD i []=fq (xs.getD i []) (et v c (ys.getD i [])) by rw[←hzs];exact mB v xs ys c hin);have hyi:i<ys.length:=by omega
   obtain⟨okm,oks⟩:=ok i hin;have cm:=wS V hc (hy i) okm;have cs:=Ew V (hx i) (jd V hc (hy i)) oks;generalize kE zs xs i=ps at *;generalize hX:xs.getD i []=X at *;generalize hY:ys.getD i []=Y at *;generalize et v c Y=M at *;generalize fq X M=S at *;refine AZ.skip<|AZ.seq<|AZ.block<|AZ.seq ?_;refine AZ.cL fun B1 F1 w1=>?_;refine qU 2 rfl<|ae.nil ⟨rfl,?_⟩;refine AZ.seq<|AZ.any aO<|fL.lG 11 (by kernel_rfl) fun B1 F1 w1 hS=>?_;have hS2:=hS.at (i:=1) rfl (by rw[aa];omega);refine qP 4 rfl ?_;refine ai.idxs tok hS2 rfl rfl rfl rfl rfl (al i) (by rw[aa];exact hyi) ?_;refine ai.bM tok (ak (ys.getD i [])) hS2 rfl rfl rfl rfl rfl rfl rfl (getM ak hyi) rfl ?_;rw[hY];refine qQ rfl cm<|qP 4 rfl<|ai.nil ⟨rfl,?_⟩;refine aj.cut 1 rfl fun B1 F1 w1=>?_;refine qU 1 rfl<|ae.nil ⟨rfl,?_⟩;refine aj.nil<|AZ.to [1,2,3,4,9,10,11,13,14] [(1,.d (.v V1)),(2,.d (.v V2)),(3,.d (ak c)),(4,.bx [.sl 1 (v.map ak)]),(9,.d (dI i)),(10,.d (ak M)),(11,.d bd),(13,.d (dI xs.length)),(14,.d (dI i))] rfl ?_;refine AZ.seq<|AZ.seq ?_;refine AZ.cL fun B1 F1 w1=>?_;refine qU 1 rfl<|qR rfl rfl<|ae.nil ⟨rfl,?_⟩;refine AZ.aC rfl ?_;refine AZ.skip<|AZ.seq ?_;refine AZ.any aO<|fL.DX [(11,12)] (by kernel_rfl) (fun _ _ _ h=>h) (fun _ _ h=>h)<|fL.lG 12 (by kernel_rfl) fun B1 F1 w1 hS=>?_;have hS0:=hS.at (i:=0) rfl (by rw[aa];omega);refine qP 5 rfl ?_;refine ai.idxs tok hS0 rfl rfl rfl rfl rfl (al i) (by rw[aa,hpl];exact hin) ?_;refine ai.bM tok (ak (ps.getD i [])) hS0 rfl rfl rfl rfl rfl rfl rfl (getM ak (by omega)) rfl ?_;rw[hpg];refine qP 1 rfl<|qQ rfl cs<|qP 3 rfl<|ai.nil ⟨rfl,?_⟩;refine aj.Ca 1 rfl fun B1 F1 w1 hS=>?_;refine ae.idxs tok (hS.at (i:=0) rfl (by rw[aa];omega)) rfl rfl rfl rfl (al i) (by rw[aa,hpl];exact hin) ?_;refine ae.nil ⟨rfl,?_⟩;refine aj.cO 31 0 rfl rfl rfl ?_;refine aj.el (k:=i) tok 31 42 rfl (cx _) rfl rfl rfl (by rw[aa,hpl];exact hin) rfl ?_;refine aj.cut 1 rfl fun B1 F1 w1=>?_;refine ae.tK tok S rfl rfl rfl (by omega) ?_;rw[hps];refine ae.nil ⟨rfl,?_⟩;refine aj.back 31 0 rfl rfl rfl (cx _) rfl ?_;refine aj.cut 1 rfl fun B1 F1 w1=>?_;refine qU 1 rfl<|ae.nil ⟨rfl,?_⟩;refine aj.nil<|AZ.to [1,2,3,4,11,13,14] [(1,.d (.v V1)),(2,.d (.v V2)),(3,.d (ak c)),(4,.bx [.sl 1 (v.map ak)]),(11,.d bd),(13,.d (dI xs.length)),(14,.d (dI i))] rfl ?_;refine AZ.seq<|AZ.cL fun B1 F1 w1=>?_;refine qU 1 rfl<|qR rfl rfl<|ae.nil ⟨rfl,?_⟩;refine AZ.aC rfl ?_;refine AZ.skip<|AZ.cL fun B1 F1 w1=>?_;refine qU 1 rfl ?_;rw[aD (x:=(i:Int)+1) (by omega) (by omega)];refine qU 1 rfl<|ae.nil ⟨rfl,?_⟩;exact⟨i+1,rfl,hin,by omega⟩
  have hin:i=xs.length:=by have:=ar h;omega
  subst hin;rw[xS hz];refine AZ.exit ?_;refine AZ.seq<|AZ.cL fun B1 F1 w1=>?_;refine qU 1 rfl<|ae.nil ⟨rfl,?_⟩;exact AZ.ret ⟨bd,rfl,rfl,rfl⟩
end Lift
namespace Lift
variable {r v:List NQ}{N c i k l m n:Nat}{g:Nat→Bool}
abbrev cF:=List (List NQ)
structure kq where
 rows:cF
 cols:List Nat
 sg:Int
 iN:NQ
def kG(g:Nat→Bool):Nat→Nat→Nat
 |0,i=>i
 |m+1,i=>if g i=true then i else kG g m (i+1)
theorem uv(h:i<n)(h0:g i=false):kG g (n-i) i=kG g (n-(i+1)) (i+1):=by rw[show n-i=(n-(i+1))+1 by omega,kG,af (by rw[h0];simp)]
theorem x7(h:i<n)(h0:g i=true):kG g (n-i) i=i:=by rw[show n-i=(n-(i+1))+1 by omega,kG,ah h0]
theorem x8(h: ¬i<n):kG g (n-i) i=i:=by rw[show n-i=0 by omega,kG]
theorem uw{g:Nat→Bool}: ∀{m i:Nat},i≤kG g m i∧kG g m i≤i+m∧(∀k,i≤k→k<kG g m i→g k=false)∧(kG g m i<i+m→g (kG g m i)=true)
 |0,i=>⟨ap _,ap _,fun k h1 h2=>by simp only[kG]at h2;omega,fun h=>by simp only[kG]at h;omega⟩
 |m+1,i=>by
  simp only[kG];split
  ·rename_i h;exact⟨ap _,by omega,fun k h1 h2=>by omega,fun _=>h⟩
  ·rename_i h;obtain⟨h1,h2,h3,h4⟩:=uw (g:=g) (m:=m) (i:=i+1);refine⟨by omega,by omega,fun k k1 k2=>?_,fun k=>h4 (by omega)⟩;by_cases e:k=i
   ·subst e;simpa using h
   ·exact h3 k (by omega) k2
def a7(a:cF)(i k:Nat):NQ:=(a.getD i []).getD k []
def Nx(v:List NQ)(a:cF)(c j:Nat):Bool:=decide (m7 v (a7 a j c)≠0)
def CF(b:cF)(r t:Nat):cF:=(b.set t (b.getD r [])).set r (b.getD t [])
def bS(v:List NQ)(e:cF)(r c:Nat):Nat→cF
 |0=>e
 |i+1=>if i≠r∧m7 v (a7 (bS v e r c i) i c)≠0 then(bS v e r c i).set i (gW v ((bS v e r c i).getD i []) ((bS v e r c i).getD r []) (a7 (bS v e r c i) i c))else bS v e r c i
def atR(v:List NQ)(s:kq)(c:Nat):Nat:=kG (Nx v s.rows c) (s.rows.length-s.cols.length) s.cols.length
def bR(v:List NQ)(s:kq)(c:Nat):cF:=if atR v s c=s.cols.length then s.rows else CF s.rows s.cols.length (atR v s c)
def pR(v:List NQ)(s:kq)(c:Nat):NQ:=a7 (bR v s c) s.cols.length c
def By(v:List NQ)(r:List NQ)(p:NQ):List NQ:=r.map (fun x=>vP v x p)
def eR(v:List NQ)(s:kq)(c:Nat):cF:=(bR v s c).set s.cols.length (By v ((bR v s c).getD s.cols.length []) (pR v s c))
def b7(v:List NQ)(s:kq)(c:Nat):kq :=
 if atR v s c<s.rows.length then⟨bS v (eR v s c) s.cols.length c (eR v s c).length,s.cols++[c],if atR v s c=s.cols.length then s.sg else -s.sg,et v s.iN (pR v s c)⟩else s
def aB(v:List NQ)(a:cF):Nat→kq
 |0=>⟨a,[],1,[1]⟩
 |c+1=>b7 v (aB v a c) c
structure lI (v:List NQ) (s:kq) (c:Nat):Prop where
 sg: ∀j,s.cols.length≤j→j<s.rows.length→E0 v (a7 s.rows j c)
 iN:atR v s c<s.rows.length→Dn v s.iN (pR v s c)
 div:atR v s c<s.rows.length→ ∀k,k<((bR v s c).getD s.cols.length []).length→Jo v (a7 (bR v s c) s.cols.length k) (pR v s c)
 sg2:atR v s c<s.rows.length→ ∀i,i<s.rows.length→i≠s.cols.length→E0 v (a7 (eR v s c) i c)
 take:atR v s c<s.rows.length→ ∀i,i<s.rows.length→i≠s.cols.length→m7 v (a7 (eR v s c) i c)≠0→Jj v ((eR v s c).getD i []) ((eR v s c).getD s.cols.length []) (a7 (eR v s c) i c)
def cX(N:Nat)(a:cF):Prop:= ∀j,j<a.length→(a.getD j []).length=N
def qH(l:Nat)(a:cF):Prop:= ∀j k,ay l (a7 a j k)
theorem dc(a:cF)(i j:Nat)(r:List NQ):(a.set i r).getD j []=if j=i∧i<a.length then r else a.getD j []:=by
 rw[am,List.getElem?_set,am];by_cases e:i=j
 ·subst e;by_cases h:i<a.length
  ·rw[ah rfl,ah h,ah ⟨rfl,h⟩];rfl
  ·rw[ah rfl,af h,af (fun e=>h e.2),c' (by omega)]
 ·rw[af e,af (fun h=>e h.1.symm)]
theorem jX{a:cF}(h:a.length≤i):a.getD i []=[]:=by rw[am,c' h];rfl
theorem s9(h:r.length≤i):r.getD i []=[]:=by rw[am,c' h];rfl
theorem cX.set{a:cF}(h:cX N a)(hr:r.length=N)(i:Nat):cX N (a.set i r):=fun j hj=>by
 rw[dc];split
 ·exact hr
 ·exact h j (by simpa using hj)
theorem qH.set{a:cF}(h:qH l a)(hr: ∀k,ay l (r.getD k []))(i:Nat):qH l (a.set i r):=fun j k=>by
 unfold a7;rw[dc];split
 ·exact hr k
 ·exact h j k
theorem K5(b:cF)(r t:Nat):(CF b r t).length=b.length:=by unfold CF;rw[cg,cg]
variable {b:cF}
theorem Iy(h:cX N b){r t:Nat}(hr:r<b.length)(ht:t<b.length):cX N (CF b r t):=(h.set (h r hr) t).set (h t ht) r
theorem Nc(h:qH l b)(r t:Nat):qH l (CF b r t):=(h.set (h r) t).set (h t) r
theorem v9(v:List NQ)(r:List NQ)(p:NQ):(By v r p).length=r.length:=aa ..
theorem sR(v:List NQ)(r:List NQ)(p:NQ)(h:k<r.length):(By v r p).getD k []=vP v (r.getD k []) p:=by unfold By;rw[am,ce,am,az h];rfl
theorem Nz(V:qE v){p:NQ}(hr: ∀k,ay v.length (r.getD k []))(hp:ay v.length p)(k:Nat):ay v.length ((By v r p).getD k []):=by
 by_cases h:k<r.length
 ·rw[sR v r p h];exact L8 V (hr k) hp
 ·rw[s9 (by rw[v9];omega)];exact cE _
theorem It(V:qE v){xs ys:List NQ}{c:NQ}(hx: ∀k,ay v.length (xs.getD k []))(hy: ∀k,ay v.length (ys.getD k []))(hc:ay v.length c)(k:Nat):ay v.length ((gW v xs ys c).getD k []):=by
 by_cases h:k<xs.length
 ·rw[mB v xs ys c h];exact r7 (hx k)<|jd V hc<|hy k
 ·rw[s9 (by rw[mA];omega)];exact cE _
theorem ji(v:List NQ)(e:cF)(r c:Nat): ∀i,(bS v e r c i).length=e.length
 |0=>rfl
 |i+1=>by
  unfold bS;split
  ·rw[cg];exact ji v e r c i
  ·exact ji v e r c i
theorem p8{N:Nat}{v:List NQ}{e:cF}{r c:Nat}(h:cX N e): ∀i,i≤e.length→cX N (bS v e r c i)
 |0,_=>h
 |i+1,hi=>by
  have ih:=p8 (v:=v) (r:=r) (c:=c) h i (by omega);unfold bS;split
  ·exact ih.set (by rw[mA];exact ih i (by rw[ji];omega)) i
  ·exact ih
theorem wm{v:List NQ}(V:qE v){e:cF}{r c:Nat}(h:qH v.length e): ∀i,qH v.length (bS v e r c i)
 |0=>h
 |i+1=>by
  have ih:=wm V (r:=r) (c:=c) h i;unfold bS;split
  ·exact ih.set (It V (ih i) (ih r) (ih i c)) i
  ·exact ih
theorem gu(v:List NQ)(e:cF)(r c:Nat): ∀i,(∀j,i≤j∨j=r→(bS v e r c i).getD j []=e.getD j [])
 |0,j,_=>rfl
 |i+1,j,hj=>by
  have ih:=gu v e r c i j (by omega);unfold bS;split
  ·rename_i h;rw[dc,af (fun g=>by rcases hj with hj|hj<;>omega)];exact ih
  ·exact ih
theorem wq(v:List NQ)(e:cF)(r c:Nat)(i:Nat)(k:Nat):a7 (bS v e r c i) i k=a7 e i k:=by unfold a7;rw[gu v e r c i i (.inl (ap _))]
structure qF (v:List NQ) (m N c:Nat) (s:kq):Prop where
 len:s.rows.length=m
 rect:cX N s.rows
 lt:qH v.length s.rows
 cl:s.cols.length≤c
 cm:s.cols.length≤m
 iN:ay v.length s.iN
 sg:s.sg=1∨s.sg= -1
theorem eQ(v:List NQ)(s:kq)(c:Nat)(h:s.cols.length≤s.rows.length):s.cols.length≤atR v s c∧atR v s c≤s.rows.length∧(∀k,s.cols.length≤k→k<atR v s c→m7 v (a7 s.rows k c)=0)∧(atR v s c<s.rows.length→m7 v (a7 s.rows (atR v s c) c)≠0):=by
 obtain⟨h1,h2,h3,h4⟩:=uw (g:=Nx v s.rows c) (m:=s.rows.length-s.cols.length) (i:=s.cols.length);refine⟨h1,by unfold atR;omega,fun k k1 k2=>?_,fun h=>?_⟩
 ·have:=h3 k k1 k2;unfold Nx at this;exact ep fun g=>by rw[aN g]at this;cases this
 ·exact ao (h4 (by unfold atR at h;omega))
theorem pw{s:kq}(R:qF v m N k s)(h:atR v s c<s.rows.length):(bR v s c).length=m∧cX N (bR v s c)∧qH v.length (bR v s c):=by
 have hl:=R.len;have:=(eQ v s c (by have:=R.cm;omega)).1;unfold bR;split
 ·exact⟨R.len,R.rect,R.lt⟩
 ·exact⟨by rw[K5];exact R.len,Iy R.rect (by omega) h,Nc R.lt _ _⟩
theorem yl(V:qE v){s:kq}(R:qF v m N k s)(h:atR v s c<s.rows.length):(eR v s c).length=m∧cX N (eR v s c)∧qH v.length (eR v s c):=by obtain⟨h1,h2,h3⟩:=pw (c:=c) R h;have hl:=R.len;have:=(eQ v s c (by have:=R.cm;omega)).1;unfold eR;exact⟨by rw[cg];exact h1,h2.set (by rw[v9];exact h2 _ (by omega)) _,h3.set (Nz V (h3 _) (h3 _ _)) _⟩
theorem Lb(V:qE v){s:kq}(R:qF v m N c s):qF v m N (c+1) (b7 v s c):=by
 have hl:=R.len;have hc:=R.cl;unfold b7;split
 ·rename_i h;obtain⟨e1,e2,e3⟩:=yl V (c:=c) R h;have ha:=(eQ v s c (by have:=R.cm;omega)).1;refine⟨by rw[ji];exact e1,p8 e2 _ (ap _),wm V e3 _,?_,?_,jd V R.iN ((pw R h).2.2 _ _),?_⟩
  ·show(s.cols++[c]).length≤c+1;rw[co];show s.cols.length+1≤_;omega
  ·show(s.cols++[c]).length≤m;rw[co];show s.cols.length+1≤_;omega
  ·rcases R.sg with h1|h1<;>(show(if _ then s.sg else -s.sg)=1∨_= -1;split<;>simp[h1])
 ·exact⟨R.len,R.rect,R.lt,by omega,R.cm,R.iN,R.sg⟩
theorem gS{v:List NQ}(V:qE v){a:cF}{N:Nat}(hr:cX N a)(hl:qH v.length a): ∀c,qF v a.length N c (aB v a c)
 |0=>⟨rfl,hr,hl,ap _,an _,dZ _ _,.inl rfl⟩
 |c+1=>Lb V (gS V hr hl c)
theorem su(v:List NQ): ∀c,aB v [] c=⟨[],[],1,[1]⟩
 |0=>rfl
 |c+1=>by show b7 v (aB v [] c) c=_;rw[su v c];unfold b7;exact af<|ew _
end Lift
namespace Lift
open Go Go.Proofs
variable {Vs:List Value}{i j r:Nat}
abbrev pC(Vs:List Value):List D:=Vs.map D.v
theorem dL(h:i<Vs.length):(pC Vs)[i]?=some (.v (Vs.getD i undef)):=by simp[h]
abbrev OA(Vs:List Value):AV:=AV.ow 27 (pC Vs)
abbrev CA(cols:List Nat):AV:=AV.ow 3 (cols.map (fun c:Nat=>dI c))
def dw(Vs:List Value)(a:cF):List LR:=List.zipWith (fun V r=>(V,mw r)) Vs a
theorem Ee{a:cF}(h:Vs.length=a.length)(V:Value)(r:List NQ):dw (Vs++[V]) (a++[r])=dw Vs a++[(V,mw r)]:=by unfold dw;rw[List.zipWith_append h];rfl
theorem dF{a:cF}(hV:j<Vs.length)(ha:j<a.length):(dw Vs a)[j]?=some (Vs.getD j undef,mw (a.getD j [])):=by unfold dw;simp[d9,hV,ha]
theorem tC{a:cF}(hV:j<Vs.length)(ha:j<a.length)(V:Value)(r:List NQ):(dw Vs a).set j (V,mw r)=dw (Vs.set j V) (a.set j r):=by
 unfold dw;refine d7 fun k=>?_;by_cases hk:k=j
 ·subst hk;rw[bz (by simp;omega)];simp[d9,hV,ha]
 ·rw[cw (ey hk)];simp[d9,cw (ey hk)]
theorem IQ(hV:j<Vs.length):Vs.set j (Vs.getD j undef)=Vs:=by
 refine d7 fun k=>?_;by_cases hk:k=j
 ·subst hk;rw[bz hV];simp[hV]
 ·rw[cw (ey hk)]
theorem oJ{a:cF}(ha:j<a.length):a.set j (a.getD j [])=a:=by
 refine d7 fun k=>?_;by_cases hk:k=j
 ·subst hk;rw[bz ha];simp[ha]
 ·rw[cw (ey hk)]
theorem wC{a:cF}(hV:j<Vs.length)(ha:j<a.length)(r:List NQ):(dw Vs a).set j (Vs.getD j undef,mw r)=dw Vs (a.set j r):=by rw[tC hV ha,IQ hV]
def F7(Vs:List Value)(r t:Nat):List Value:=(Vs.set t (Vs.getD r undef)).set r (Vs.getD t undef)
theorem F6(Vs:List Value)(r t:Nat):(F7 Vs r t).length=Vs.length:=by unfold F7;rw[cg,cg]
theorem Ed{a:cF}{t:Nat}(h:Vs.length=a.length)(hr:r<a.length)(ht:t<a.length):
  ((dw Vs a).set t (Vs.getD r undef,mw (a.getD r []))).set r (Vs.getD t undef,mw (a.getD t []))=dw (F7 Vs r t) (CF a r t):=by
 rw[tC (by omega) ht,tC (by simp;omega) (by simp;omega)];rfl
theorem KN{a:cF}(h:Vs.length=a.length)(hi:i<a.length)(hr:r<a.length)(hir:i≠r)(z:List NQ):
  ((dw Vs a).set i (Vs.getD i undef,mw z)).set r (Vs.getD r undef,mw (a.getD r []))=dw Vs (a.set i z):=by
 rw[wC (by omega) hi];have e:a.getD r []=(a.set i z).getD r []:=by rw[dc,af (fun g=>hir g.1.symm)]
 rw[e,wC (by omega) (by simpa using hr),oJ (by simpa using hr)]
section
variable {P:Program} {T:Ty} {B:Nat} {F0:Nat→Prop} {w0:dh} {n:Nat} {σ τ:St} {K:St→Prop} {all:Array Oper} {o:Oper} {d:Nat} {rest:List Oper} {R:List LR} {x:Code} {Q:Exit→List LR→St→Prop}
theorem ae.r8(hT:bB P T){k e:Nat}(V:Value)(hd:o.dst=none)(hg:aJ all σ o=true)(hx:Gf T σ o.op=some (k,.ow e (pC Vs),pC Vs,i,0,.v V))(hi:i<Vs.length)
  (h:ae P B F0 w0 n all rest K ((k,.ow e (pC (Vs.set i V)))::σ)):ae P B F0 w0 n all (o::rest) K σ:=by
 refine ae.lR hT (.v (Vs.getD i undef)) hd hg hx (dL hi) rfl ?_;show ae P B F0 w0 n all rest K ((k,.ow e ((pC Vs).set i (.v V)))::σ);rw[show(pC Vs).set i (.v V)=pC (Vs.set i V)from (hU ..).symm];exact h
theorem AZ.JT(hT:bB P T){e eo:Nat}{te:TI}(he:T.get e=some te)(h1:te.size=1){Vr:Value}{X:LR}{Vs:List Value}{a:cF}(hl:Vs.length=a.length)
  (h:AZ P B F0 w0 n x Q [(Vr,.ow eo (a.map jO)),X] σ): ∀(m k:Nat),m+k=a.length→ ∀L:List LR,(∀j,k≤j→j<a.length→L[j]?=some (Vs.getD j undef,.ow e ((a.getD j []).map ak))) →
  AZ P B F0 w0 n x Q ((Vr,.ow eo ((a.take k).map jO++(pC Vs).drop k))::X::L) σ
 |0,k,hk,L,hL=>by
  rw[List.take_of_length_le (by omega),List.drop_eq_nil_of_le (by rw[aa];omega),eu];refine AZ.tf _ (fun i r hr=>.inl ?_) h
  match i,hr with
  |0,hr=>exact hr
  |1,hr=>exact hr
 |m+1,k,hk,L,hL=>by
  have hka:k<a.length:=by omega
  have hll:k<L.length:=(ch.1 (hL k (ap _) hka)).1;have hft:((a.take k).map jO).length=k:=by rw[aa,ax];omega
  refine AZ.L0 hT (k+2) 0 k (cs:=(a.take k).map jO++(pC Vs).drop k) rfl (fun d hd=>?_) ?_ (hL k (ap _) hka) (by omega) he ?_
  ·rcases List.mem_append.1 hd with g|g
   ·obtain⟨r,_,rfl⟩:=hM.1 g;rfl
   ·obtain⟨V,_,rfl⟩:=hM.1 (List.mem_of_mem_drop g);rfl
  ·rw[dl (by omega),hft,ik,dM,Nat.add_zero];exact dL (by omega)
  ·have e1:((a.take k).map jO++(pC Vs).drop k).set k (.sl te.size ((a.getD k []).map ak))=(a.take (k+1)).map jO++(pC Vs).drop (k+1):=by
    rw[h1,List.set_append_right _ _ (by omega),hft,ik,ek hka,c9]
    have:(pC Vs).drop k= .v (Vs.getD k undef)::(pC Vs).drop (k+1):=by
     rw[eB (by rw[aa];omega)]
     congr 1
     have:=dL (Vs:=Vs) (i:=k) (by omega);rw[az (by rw[aa];omega)]at this;simpa using this
    rw[this,List.set_cons_zero,f8];have g:a[k]=a.getD k []:=by rw[am,az hka];rfl
    rw[g];rfl
   show AZ P B F0 w0 n x Q ((Vr,.ow eo (((a.take k).map jO++(pC Vs).drop k).set k (.sl te.size ((a.getD k []).map ak))))::X::L.set k (Vs.getD k undef,.junk)) σ;rw[e1]
   exact AZ.JT hT he h1 hl h m (k+1) (by omega) (L.set k (Vs.getD k undef,.junk)) (fun j hj hja=>by rw[cw (by omega)];exact hL j (by omega) hja)
end
abbrev Mi(s:kq):D:=.ag [iT s.rows,.sl 1 (s.cols.map (fun c:Nat=>dI c)),dI s.sg,ak s.iN]
theorem ue{v:List NQ}(V:qE v){a:cF}{N most:Nat}(ha0:0<a.length)(ha:a.length≤1000000)(hN:N≤1000000)(hmost:most≤N)(hr:cX N a)(hl:qH v.length a)(ok: ∀c,c<most→lI v (aB v a c) c):
  Pure Tryz.prog 89 [fm v,iT a,dI most] (.tu [Mi (aB v a most),bd]):=by
 refine qJ 205 Tryz.func89 rfl fun B F0 w0=>?_;have cone:=j6 (Qr ((1:Int):Rat)) (k:=1) (gz _ (by have:=fU;rw[show((1:Int):Rat)=1 from rfl];omega)) (by decide) (by decide) (Eb _);rw[b5,show nZ ((1:Int):Rat)=[1]from rfl]at cone;have htk:=fun {i:Nat} (hi:i<a.length)=>ek (l:=a) hi;refine AZ.aw ?_;refine AZ.seq<|AZ.cL fun B1 F1 w1=>?_;refine qU 3 rfl<|ae.nil ⟨rfl,?_⟩;refine AZ.seq<|AZ.cL fun B1 F1 w1=>?_;refine qM rfl (jh 1 (by decide) (by decide)) ?_;refine qM rfl cone<|ae.NY tok [.v ju,.v ju,dI 0,.sl 3 []] rfl rfl rfl rfl (by kernel_rfl) ?_;refine qU 2 rfl<|ae.nil ⟨rfl,?_⟩;refine AZ.BD 27 ?_;refine AZ.BD 3 ?_;refine AZ.seq<|AZ.seq ?_;refine AZ.cL fun B1 F1 w1=>?_;refine qU 2 rfl ?_;rw[aa];refine qU 1 rfl<|ae.nil ⟨rfl,?_⟩;refine AZ.block<|AZ.aK [2,3,6,7,8,22,23,24] (fun s:Nat×Value×List Value=>((s.2.1,OA s.2.2)::(ju,CA [])::dw s.2.2 (a.take s.1),[(2,.d (dI most)),(3,.bx [.sl 1 (v.map ak)]),(6,.bx [.sl 1 [],.sl 1 [],dI 0,.sl 3 []]),(7,.d bd),(8,.bx [.v s.2.1,.v ju,dI 1,ak [1]]),(22,.d (iT a)),(23,.d (dI a.length)),(24,.d (dI s.1))])) (fun s=>s.1≤a.length∧s.2.2.length=s.1) (fun s=>a.length-s.1) (0,ju,[]) rfl ⟨an _,rfl⟩ fun s hs=>?_;obtain⟨i,Vr,Vs⟩:=s;obtain⟨hi,hVs⟩:=hs
 dsimp only at hi hVs
 show AZ _ _ _ _ _ _ _ ((Vr,OA Vs)::(ju,CA [])::dw Vs (a.take i)) [(2,.d (dI most)),(3,.bx [.sl 1 (v.map ak)]),(6,.bx [.sl 1 [],.sl 1 [],dI 0,.sl 3 []]),(7,.d bd),(8,.bx [.v Vr,.v ju,dI 1,ak [1]]),(22,.d (iT a)),(23,.d (dI a.length)),(24,.d (dI i))];refine AZ.seq<|AZ.cL fun B1 F1 w1=>?_;refine qU 1 rfl<|ae.nil ⟨rfl,?_⟩;refine AZ.seq ?_;refine AZ.cond rfl (fun h=>?_) fun h=>?_
 ·have hii:i<a.length:=by have:=ao h;omega
  have hg:=getM jO (l:=a) (i:=i) hii;have hrl:(a.getD i []).length≤1000000:=by rw[hr i hii];exact hN
  have htk:=htk hii;have hge:a[i]=a.getD i []:=by rw[am,az hii];rfl
  rw[hge]at htk;generalize a.getD i []=row at hg hrl htk;refine AZ.skip<|AZ.seq<|AZ.block<|AZ.seq ?_;refine AZ.cL fun B1 F1 w1=>?_;refine ae.idx tok (jO row) rfl rfl rfl rfl (al i) hg ?_;refine qU 2 rfl<|ae.nil ⟨rfl,?_⟩;refine AZ.any aO (ZH.any (β:=[]) ?_);refine ZH.mv 2 rfl rfl (by kernel_rfl) (by kernel_rfl) (by kernel_rfl) rfl (fun _ _ _ h=>h) (fun _=>rfl) trivial fun B1 F1 w1=>?_;refine qU 1 rfl<|ae.nil ⟨rfl,?_⟩;refine ZH.fd tok 0 rfl rfl (by kernel_rfl) (by kernel_rfl) (by kernel_rfl) rfl (fun _ _ _ h=>h) (fun _=>rfl) trivial fun B1 F1 w1=>?_;refine qU 1 rfl<|ae.nil ⟨rfl,?_⟩;refine ZH.meet 3 (qB 8 31) (fun V=>(((Vr,OA Vs)::(ju,CA [])::dw Vs (a.take i))++[(V,mw row)])) (fun V=>[(2,.d (dI most)),(3,.bx [.sl 1 (v.map ak)]),(6,.bx [.sl 1 [],.sl 1 [],dI 0,.sl 3 []]),(7,.d bd),(8,.bx [.v Vr,.v ju,dI 1,ak [1]]),(22,.d (iT a)),(23,.d (dI a.length)),(24,.d (dI i)),(10,.d (jO row)),(30,.d (jO row)),(28,.pt 8 0),(29,.d (.v Vr)),(31,.d (.v V)),(32,.d (.sl 1 [.v V]))]) (fun V=>?_) fun N1_2=>?_
  ·refine ZH.all 5 (by kernel_rfl) rfl rfl (fun _=>rfl) trivial ?_;refine aj.cO 29 0 rfl rfl rfl ?_;refine aj.cut 1 rfl fun B1 F1 w1=>?_;refine ae.jw tok rfl rfl rfl rfl rfl rfl (by show((pC Vs).length+1)*24≤_;rw[aa];omega) (by show(pC Vs).length+1≤_;rw[aa];omega) ?_;refine ae.nil ⟨rfl,?_⟩;refine aj.xW 33 0 rfl rfl rfl rfl fun Vq=>?_
   refine aj.mV (R':=(Vq,OA (Vs++[V]))::(ju,CA [])::dw (Vs++[V]) (a.take (i+1))) (by
    show(Vq,AV.ow 27 (pC Vs++[.v V]))::(ju,CA [])::(dw Vs (a.take i)++[(V,mw row)])=_
    rw[htk,Ee (by rw[ax];omega),show pC Vs++[.v V]=pC (Vs++[V]) by simp]) ?_
   refine aj.nil<|ZH.to [2,3,6,7,8,22,23,24,10,30,28,32,33] [(2,.d (dI most)),(3,.bx [.sl 1 (v.map ak)]),(6,.bx [.sl 1 [],.sl 1 [],dI 0,.sl 3 []]),(7,.d bd),(8,.bx [.v Vr,.v ju,dI 1,ak [1]]),(22,.d (iT a)),(23,.d (dI a.length)),(24,.d (dI i)),(10,.d (jO row)),(30,.d (jO row)),(28,.pt 8 0),(32,.d (.sl 1 [.v V])),(33,.d (.v Vq))] rfl trivial ?_;refine ZH.all 6 (by kernel_rfl) rfl rfl (fun _=>rfl) trivial ?_;refine a8 fun B1 F1 w1=>?_;refine qU 1 rfl<|ae.nil ⟨rfl,?_⟩;refine ZH.all 7 (by kernel_rfl) rfl rfl (fun _=>rfl) trivial ?_;refine a8 fun B1 F1 w1=>?_;refine qU 1 rfl<|ae.nil ⟨rfl,?_⟩;refine ZH.done (by kernel_rfl) trivial ?_;refine AZ.to [2,3,6,7,8,22,23,24] [(2,.d (dI most)),(3,.bx [.sl 1 (v.map ak)]),(6,.bx [.sl 1 [],.sl 1 [],dI 0,.sl 3 []]),(7,.d bd),(8,.bx [.v Vq,.v ju,dI 1,ak [1]]),(22,.d (iT a)),(23,.d (dI a.length)),(24,.d (dI i))] rfl ?_;refine AZ.cL fun B1 F1 w1=>?_;refine qU 1 rfl ?_;rw[aD (x:=(i:Int)+1) (by omega) (by omega)];refine qU 1 rfl<|ae.nil ⟨rfl,?_⟩;exact⟨(i+1,Vq,Vs++[V]),rfl,⟨hii,by show(Vs++[V]).length=i+1;rw[co];show Vs.length+1=_;omega⟩,by show a.length-(i+1)<a.length-i;omega⟩
  refine ZH.meet 4 (qB 8 29) (fun V=>(((Vr,OA Vs)::(ju,CA [])::dw Vs (a.take i))++[(V,mw row)])) (fun V=>[(2,.d (dI most)),(3,.bx [.sl 1 (v.map ak)]),(6,.bx [.sl 1 [],.sl 1 [],dI 0,.sl 3 []]),(7,.d bd),(8,.bx [.v Vr,.v ju,dI 1,ak [1]]),(22,.d (iT a)),(23,.d (dI a.length)),(24,.d (dI i)),(10,.d (jO row)),(30,.d (jO row)),(28,.pt 8 0),(31,.d (.v V)),(32,.d (.sl 1 [.v V]))]) (fun V=>?_) fun N0_2=>?_
  ·refine ZH.all 1 (by kernel_rfl) rfl rfl (fun _=>rfl) trivial ?_;refine a8 fun B1 F1 w1=>?_;refine qU 1 rfl<|ae.nil ⟨rfl,?_⟩;exact qL (N1_2 V) (by kernel_rfl) rfl trivial
  refine ZH.meet 4 (qB 8 15) (fun V=>(((Vr,OA Vs)::(ju,CA [])::dw Vs (a.take i))++[(V,mw row)])) (fun V=>[(2,.d (dI most)),(3,.bx [.sl 1 (v.map ak)]),(6,.bx [.sl 1 [],.sl 1 [],dI 0,.sl 3 []]),(7,.d bd),(8,.bx [.v Vr,.v ju,dI 1,ak [1]]),(22,.d (iT a)),(23,.d (dI a.length)),(24,.d (dI i)),(10,.d (jO row)),(30,.d (jO row)),(28,.pt 8 0),(29,.d (.v Vr)),(31,.d (.v V))]) (fun V=>?_) fun N1_1=>?_
  ·refine ZH.all 4 (by kernel_rfl) rfl rfl (fun _=>rfl) trivial ?_;refine a8 fun B1 F1 w1=>?_;refine ae.ku tok rfl rfl rfl rfl rfl ?_;refine ae.nil ⟨rfl,?_⟩;exact qL (N1_2 V) (by kernel_rfl) rfl trivial
  refine ZH.meet 5 (qB 8 13) (fun V=>(((Vr,OA Vs)::(ju,CA [])::dw Vs (a.take i))++[(V,mw row)])) (fun V=>[(2,.d (dI most)),(3,.bx [.sl 1 (v.map ak)]),(6,.bx [.sl 1 [],.sl 1 [],dI 0,.sl 3 []]),(7,.d bd),(8,.bx [.v Vr,.v ju,dI 1,ak [1]]),(22,.d (iT a)),(23,.d (dI a.length)),(24,.d (dI i)),(10,.d (jO row)),(30,.d (jO row)),(28,.pt 8 0),(31,.d (.v V))]) (fun V=>?_) fun N0_1=>?_
  ·refine ZH.two 1 4 (by kernel_rfl) rfl rfl rfl rfl (fun _=>rfl) (fun _=>rfl) trivial ?_ ?_
   ·refine a8 (fun B1 F1 w1=>?_);refine qU 1 rfl<|ae.nil ⟨rfl,?_⟩;exact qL (N1_1 V) (by kernel_rfl) rfl trivial
   ·refine a8 (fun B1 F1 w1=>?_);refine ae.ku tok rfl rfl rfl rfl rfl ?_;refine ae.nil ⟨rfl,?_⟩;exact qL (N0_2 V) (by kernel_rfl) rfl trivial
  refine ZH.meet 5 (qB 8 7) (fun V=>((Vr,OA Vs)::(ju,CA [])::dw Vs (a.take i))) (fun V=>[(2,.d (dI most)),(3,.bx [.sl 1 (v.map ak)]),(6,.bx [.sl 1 [],.sl 1 [],dI 0,.sl 3 []]),(7,.d bd),(8,.bx [.v Vr,.v ju,dI 1,ak [1]]),(22,.d (iT a)),(23,.d (dI a.length)),(24,.d (dI i)),(10,.d (jO row)),(30,.d (jO row)),(28,.pt 8 0),(29,.d (.v Vr))]) (fun V=>?_) fun N1_0=>?_
  ·refine ZH.all 3 (by kernel_rfl) rfl rfl (fun _=>rfl) trivial ?_;refine aj.ed tok [] rfl rfl rfl rfl rfl gx rfl (D3 row hrl) (fun _ _ _=>an _) fun res R1 hP=>?_;obtain⟨V,rfl,rfl⟩:=hP;exact aj.nil<|qL (N1_1 V) (by kernel_rfl) rfl trivial
  refine ZH.meet 6 (qB 8 5) (fun V=>((Vr,OA Vs)::(ju,CA [])::dw Vs (a.take i))) (fun V=>[(2,.d (dI most)),(3,.bx [.sl 1 (v.map ak)]),(6,.bx [.sl 1 [],.sl 1 [],dI 0,.sl 3 []]),(7,.d bd),(8,.bx [.v Vr,.v ju,dI 1,ak [1]]),(22,.d (iT a)),(23,.d (dI a.length)),(24,.d (dI i)),(10,.d (jO row)),(30,.d (jO row)),(28,.pt 8 0)]) (fun V=>?_) fun N0_0=>?_
  ·refine ZH.two 1 3 (by kernel_rfl) rfl rfl rfl rfl (fun _=>rfl) (fun _=>rfl) trivial ?_ ?_
   ·refine a8 (fun B1 F1 w1=>?_);refine qU 1 rfl<|ae.nil ⟨rfl,?_⟩;exact qL (N1_0 V) (by kernel_rfl) rfl trivial
   ·refine aj.ed tok [] rfl rfl rfl rfl rfl gx rfl (D3 row hrl) (fun _ _ _=>an _) (fun res R1 hP=>?_);obtain⟨V,rfl,rfl⟩:=hP;exact aj.nil<|qL (N0_1 V) (by kernel_rfl) rfl trivial
  exact qL (N0_0 ju) (by kernel_rfl) rfl trivial
 have hii:i=a.length:=by have:=ar h;omega
 subst hii;rw[c7];refine AZ.exit ?_;refine AZ.seq<|AZ.seq ?_;refine AZ.cL fun B1 F1 w1=>?_;refine qU 2 rfl<|ae.nil ⟨rfl,?_⟩;refine AZ.block<|AZ.aK [3,6,7,8,36,37] (fun z:Nat×Value×Value×List Value=>((z.2.1,OA z.2.2.2)::(z.2.2.1,CA (aB v a z.1).cols)::dw z.2.2.2 (aB v a z.1).rows,[(3,.bx [.sl 1 (v.map ak)]),(6,.bx [.sl 1 [],.sl 1 [],dI 0,.sl 3 []]),(7,.d bd),(8,.bx [.v z.2.1,.v z.2.2.1,dI (aB v a z.1).sg,ak (aB v a z.1).iN]),(36,.d (dI most)),(37,.d (dI z.1))])) (fun z=>z.1≤most∧z.2.2.2.length=a.length) (fun z=>most-z.1) (0,Vr,ju,Vs) rfl ⟨an _,hVs⟩ fun z hz=>?_;clear hVs;clear Vr Vs;obtain⟨c,Vr,Vc,Vs⟩:=z;obtain⟨hc,hVs⟩:=hz
 dsimp only at hc hVs
 have hR:=gS V hr hl c;have hnext:aB v a (c+1)=b7 v (aB v a c) c:=rfl;have hok:=ok c;obtain⟨s,hs⟩: ∃s,aB v a c=s:=⟨_,rfl⟩;rw[hs]at hR hnext hok;show AZ _ _ _ _ _ _ _ ((Vr,OA Vs)::(Vc,CA (aB v a c).cols)::dw Vs (aB v a c).rows) [(3,.bx [.sl 1 (v.map ak)]),(6,.bx [.sl 1 [],.sl 1 [],dI 0,.sl 3 []]),(7,.d bd),(8,.bx [.v Vr,.v Vc,dI (aB v a c).sg,ak (aB v a c).iN]),(36,.d (dI most)),(37,.d (dI c))];rw[hs];refine AZ.seq<|AZ.cL fun B1 F1 w1=>?_;refine qU 1 rfl<|ae.nil ⟨rfl,?_⟩;refine AZ.seq<|AZ.cond rfl (fun h=>?_) fun h=>?_;rotate_left
 ·have hcm:c=most:=by have:=ar h;omega
  subst hcm;rw[hs];refine AZ.exit ?_;refine AZ.tf ((Vr,AV.ow 27 ((s.rows.take 0).map jO++(pC Vs).drop 0))::(Vc,CA s.cols)::dw Vs s.rows) (fun _ _ h=>.inl h) ?_;refine AZ.JT (te:=_) tok (e:=52) rfl rfl (by rw[hR.len];exact hVs) ?_ s.rows.length 0 (by omega) (dw Vs s.rows) fun j _ hj=>dF (by rw[hVs,←hR.len];exact hj) hj;refine AZ.L1 tok 8 0 0 rfl rfl rfl rfl ?_;refine AZ.L1 tok 8 1 1 rfl rfl rfl rfl ?_;refine AZ.seq<|AZ.cL fun B1 F1 w1=>?_;refine qU 3 rfl<|ae.nil ⟨rfl,?_⟩;exact AZ.ret rfl
 have hcm:c<most:=by have:=ao h;omega
 have hok:=hok hcm;have hm:=hR.len;have hcN:c<N:=by omega
 have hVm:Vs.length=s.rows.length:=by omega
 have hrm:=hR.cm;rw[←hm]at hrm;obtain⟨hat1,hat2,hat3,hat4⟩:=eQ v s c hrm;have hrow0:0<s.rows.length:=by omega
 have hm6:s.rows.length≤1000000:=by omega
 have hel: ∀{b:cF} {i:Nat},cX N b→i<b.length→ ∀k,k<N→((b.getD i []).map ak)[k]?=some (ak (a7 b i k)):=fun {b i} hb hi k hk=>getM ak (by rw[hb i hi];exact hk);refine AZ.skip<|AZ.seq<|AZ.block<|AZ.seq ?_;refine AZ.cL fun B1 F1 w1=>?_;refine qU 2 rfl<|ae.nil ⟨rfl,?_⟩;refine AZ.seq<|AZ.region ?_;refine aj.cut 2 rfl fun B1 F1 w1=>?_;refine qU 2 rfl<|ae.nil ⟨rfl,?_⟩;refine aj.cO 41 1 rfl rfl rfl ?_;refine aj.cut 1 rfl fun B1 F1 w1=>?_;refine qU 1 rfl ?_;rw[aa];refine ae.nil ⟨rfl,?_⟩;refine aj.back 41 1 rfl rfl rfl (cx _) rfl ?_;refine aj.cut 1 rfl fun B1 F1 w1=>?_;refine qU 1 rfl<|ae.nil ⟨rfl,?_⟩;refine aj.nil<|AZ.to [3,6,7,8,11,12,36,37] [(3,.bx [.sl 1 (v.map ak)]),(6,.bx [.sl 1 [],.sl 1 [],dI 0,.sl 3 []]),(7,.d bd),(8,.bx [.v Vr,.v Vc,dI s.sg,ak s.iN]),(11,.d (dI c)),(12,.d (dI s.cols.length)),(36,.d (dI most)),(37,.d (dI c))] rfl ?_;refine AZ.seq<|AZ.cL fun B1 F1 w1=>?_;refine qU 2 rfl<|ae.nil ⟨rfl,?_⟩;refine AZ.cut [3,6,7,8,11,12,13,36,37] (fun _:Unit=>(((Vr,OA Vs)::(Vc,CA s.cols)::dw Vs s.rows),[(3,.bx [.sl 1 (v.map ak)]),(6,.bx [.sl 1 [],.sl 1 [],dI 0,.sl 3 []]),(7,.d bd),(8,.bx [.v Vr,.v Vc,dI s.sg,ak s.iN]),(11,.d (dI c)),(12,.d (dI s.cols.length)),(13,.d (dI (atR v s c))),(36,.d (dI most)),(37,.d (dI c))])) (fun _=>True) ?_ fun _ _=>?_
 ·refine AZ.block (AZ.aK [3,6,7,8,11,12,13,36,37] (fun j:Nat=>(((Vr,OA Vs)::(Vc,CA s.cols)::dw Vs s.rows),[(3,.bx [.sl 1 (v.map ak)]),(6,.bx [.sl 1 [],.sl 1 [],dI 0,.sl 3 []]),(7,.d bd),(8,.bx [.v Vr,.v Vc,dI s.sg,ak s.iN]),(11,.d (dI c)),(12,.d (dI s.cols.length)),(13,.d (dI j)),(36,.d (dI most)),(37,.d (dI c))])) (fun j=>s.cols.length≤j∧j≤s.rows.length∧kG (Nx v s.rows c) (s.rows.length-j) j=atR v s c) (fun j=>s.rows.length-j) s.cols.length rfl ⟨ap _,hrm,rfl⟩ (fun j hj=>?_));show AZ _ _ _ _ _ _ _ ((Vr,OA Vs)::(Vc,CA s.cols)::dw Vs s.rows) [(3,.bx [.sl 1 (v.map ak)]),(6,.bx [.sl 1 [],.sl 1 [],dI 0,.sl 3 []]),(7,.d bd),(8,.bx [.v Vr,.v Vc,dI s.sg,ak s.iN]),(11,.d (dI c)),(12,.d (dI s.cols.length)),(13,.d (dI j)),(36,.d (dI most)),(37,.d (dI c))];obtain⟨j1,j2,j3⟩:=hj;refine AZ.seq<|AZ.seq ?_;refine AZ.any aO<|fL.lG 18 (by kernel_rfl) fun B1 F1 w1 hS=>?_;have hS0:=hS.at (i:=0) rfl (by rw[aa];omega);refine qP 3 rfl<|ai.lens tok hS0 rfl rfl rfl rfl rfl ?_;rw[aa];refine qP 1 rfl ?_;by_cases hjm:j<s.rows.length;rotate_left
  ·rw[x8 hjm]at j3;rw[a5 (show ¬(j:Int)<(Vs.length:Int) by omega)];refine qP 13 rfl<|ai.nil ⟨rfl,?_⟩;refine aj.nil<|AZ.aC rfl ?_;exact AZ.exit ⟨(),by rw[←j3];rfl,trivial⟩
  rw[aN (show(j:Int)<(Vs.length:Int) by omega)];have hj6:(s.rows.getD j []).length=N:=hR.rect j hjm;have hS1:=hS.at (i:=j+2) (dF (Vs:=Vs) (by omega) hjm) (by rw[aa];omega);have cs:=oZ V (hR.lt j c) (hok.sg j j1 hjm);have hnz:Nx v s.rows c j=decide (m7 v (a7 s.rows j c)≠0):=rfl;generalize m7 v (a7 s.rows j c)=g at cs hnz;refine qP 5 rfl ?_;refine ai.idxs tok hS0 rfl rfl rfl rfl rfl (al j) (by rw[aa];omega) ?_;refine ai.bM tok (.v (Vs.getD j undef)) hS0 rfl rfl rfl rfl rfl rfl rfl (dL (by omega)) rfl ?_;refine qP 1 rfl ?_;refine ai.idxs tok hS1 rfl rfl rfl rfl rfl (al c) (by rw[aa];omega) ?_;refine ai.bM tok (ak (a7 s.rows j c)) hS1 rfl rfl rfl rfl rfl rfl rfl (hel hR.rect hjm c hcN) rfl ?_;refine qQ rfl cs<|qP 2 rfl<|ai.nil ⟨rfl,?_⟩;refine aj.nil ?_;refine AZ.cond rfl (fun h=>?_) fun h=>?_
  ·have hg:g=0:=beq_iff_eq.1 h;refine AZ.skip<|AZ.block ?_;refine AZ.cL fun B1 F1 w1=>?_;refine qU 2 rfl ?_;rw[aD (x:=(j:Int)+1) (by omega) (by omega)];refine qU 1 rfl<|ae.nil ⟨rfl,?_⟩;exact⟨j+1,rfl,⟨by omega,hjm,by rw[←uv hjm (by rw[hnz,hg];rfl)];exact j3⟩,by omega⟩
  ·have hg:g≠0:=beq_eq_false_iff_ne.1 h;rw[x7 hjm (by rw[hnz,aN hg])]at j3;exact AZ.exit ⟨(),by rw[←j3];rfl,trivial⟩
 show AZ _ _ _ _ _ _ _ ((Vr,OA Vs)::(Vc,CA s.cols)::dw Vs s.rows) [(3,.bx [.sl 1 (v.map ak)]),(6,.bx [.sl 1 [],.sl 1 [],dI 0,.sl 3 []]),(7,.d bd),(8,.bx [.v Vr,.v Vc,dI s.sg,ak s.iN]),(11,.d (dI c)),(12,.d (dI s.cols.length)),(13,.d (dI (atR v s c))),(36,.d (dI most)),(37,.d (dI c))];refine AZ.seq<|AZ.seq ?_;refine AZ.za fun B1 F1 w1 hS=>?_;refine qU 3 rfl ?_;refine ae.lens tok (hS.at (i:=0) rfl (by rw[aa];omega)) rfl rfl rfl rfl ?_;rw[aa];refine qU 1 rfl<|ae.nil ⟨rfl,?_⟩;refine AZ.cond rfl (fun h=>?_) fun h=>?_
 ·have hat: ¬atR v s c<s.rows.length:=by have:=ao h;omega
  have hst:aB v a (c+1)=s:=by rw[hnext];unfold b7;rw[af hat]
  refine AZ.exit ?_;refine AZ.cL fun B1 F1 w1=>?_;refine qU 1 rfl ?_;rw[aD (x:=(c:Int)+1) (by omega) (by omega)];refine qU 1 rfl<|ae.nil ⟨rfl,?_⟩;exact⟨(c+1,Vr,Vc,Vs),by rw[hst];rfl,⟨hcm,hVs⟩,by show most-(c+1)<most-c;omega⟩
 have hat:atR v s c<s.rows.length:=by have:=ar h;omega
 have hst:aB v a (c+1)=⟨bS v (eR v s c) s.cols.length c (eR v s c).length,s.cols++[c],if atR v s c=s.cols.length then s.sg else -s.sg,et v s.iN (pR v s c)⟩:=by rw[hnext];unfold b7;rw[ah hat]
 obtain⟨hb1,hb2,hb3⟩:=pw (c:=c) hR hat;obtain⟨he1,he2,he3⟩:=yl V (c:=c) hR hat;have hbr:bR v s c=if atR v s c=s.cols.length then s.rows else CF s.rows s.cols.length (atR v s c):=rfl
 have hpr:pR v s c=a7 (bR v s c) s.cols.length c:=rfl;have hE:eR v s c=(bR v s c).set s.cols.length (By v ((bR v s c).getD s.cols.length []) (pR v s c)):=rfl;have okd:=hok.iN hat;have okv:=hok.div hat;have oks:=hok.sg2 hat;have okt:=hok.take hat;generalize bR v s c=b at *;generalize pR v s c=p at *;generalize eR v s c=e at *;generalize atR v s c=t at *;refine AZ.skip ?_;refine AZ.cut [3,6,7,8,11,12,36,37] (fun Ws:List Value=>(((Vr,OA Ws)::(Vc,CA s.cols)::dw Ws b),[(3,.bx [.sl 1 (v.map ak)]),(6,.bx [.sl 1 [],.sl 1 [],dI 0,.sl 3 []]),(7,.d bd),(8,.bx [.v Vr,.v Vc,dI (if t=s.cols.length then s.sg else -s.sg),ak s.iN]),(11,.d (dI c)),(12,.d (dI s.cols.length)),(36,.d (dI most)),(37,.d (dI c))])) (fun Ws=>Ws.length=b.length) ?_ fun Ws hWs=>?_
 ·refine AZ.seq (AZ.cL (fun B1 F1 w1=>?_));refine qU 3 rfl<|ae.nil ⟨rfl,?_⟩;by_cases htr:t=s.cols.length
  ·rw[ah htr]at hbr;rw[bne_eq_false_iff_eq.2 (show(t:Int)=(s.cols.length:Int) by omega)];refine AZ.aC rfl ?_;refine AZ.skip ?_;exact⟨Vs,by rw[ah htr,hbr];rfl,by omega⟩
  rw[af htr]at hbr;rw[bne_iff_ne.2 (show(t:Int)≠(s.cols.length:Int) by omega)];refine AZ.aH rfl ?_;refine AZ.seq (AZ.any aO (ZH.any (β:=[(8,[.v Vr,.v Vc,dI s.sg,ak s.iN])]) ?_));refine ZH.mv 2 rfl rfl (by kernel_rfl) (by kernel_rfl) (by kernel_rfl) rfl (fun _ _ _ h=>h) (fun _=>rfl) ⟨rfl,trivial⟩ fun B1 F1 w1=>?_;refine qU 1 rfl<|ae.nil ⟨rfl,?_⟩;refine ZH.mv 5 rfl rfl (by kernel_rfl) (by kernel_rfl) (by kernel_rfl) rfl (fun _ _ _ h=>h) (fun _=>rfl) ⟨rfl,trivial⟩ fun B1 F1 w1=>?_;refine qU 1 rfl<|ae.nil ⟨rfl,?_⟩;refine ZH.mv 8 rfl rfl (by kernel_rfl) (by kernel_rfl) (by kernel_rfl) rfl (fun _ _ _ h=>h) (fun _=>rfl) ⟨rfl,trivial⟩ fun B1 F1 w1=>?_;refine qU 1 rfl<|ae.nil ⟨rfl,?_⟩;refine ZH.mv 13 rfl rfl (by kernel_rfl) (by kernel_rfl) (by kernel_rfl) rfl (fun _ _ _ h=>h) (fun _=>rfl) ⟨rfl,trivial⟩ fun B1 F1 w1=>?_;refine qU 1 rfl<|ae.nil ⟨rfl,?_⟩;refine ZH.fd tok 0 rfl rfl (by kernel_rfl) (by kernel_rfl) (by kernel_rfl) rfl (fun _ _ _ h=>h) (fun _=>rfl) ⟨rfl,trivial⟩ fun B1 F1 w1=>?_;refine qU 1 rfl<|ae.nil ⟨rfl,?_⟩;refine ZH.fd tok 3 rfl rfl (by kernel_rfl) (by kernel_rfl) (by kernel_rfl) rfl (fun _ _ _ h=>h) (fun _=>rfl) ⟨rfl,trivial⟩ fun B1 F1 w1=>?_;refine qU 1 rfl<|ae.nil ⟨rfl,?_⟩;refine ZH.fd tok 6 rfl rfl (by kernel_rfl) (by kernel_rfl) (by kernel_rfl) rfl (fun _ _ _ h=>h) (fun _=>rfl) ⟨rfl,trivial⟩ fun B1 F1 w1=>?_;refine qU 1 rfl<|ae.nil ⟨rfl,?_⟩;refine ZH.fd tok 11 rfl rfl (by kernel_rfl) (by kernel_rfl) (by kernel_rfl) rfl (fun _ _ _ h=>h) (fun _=>rfl) ⟨rfl,trivial⟩ fun B1 F1 w1=>?_;refine qU 1 rfl<|ae.nil ⟨rfl,?_⟩;refine ZH.ld tok 1 rfl rfl (by kernel_rfl) (by kernel_rfl) (by kernel_rfl) rfl rfl (fun _ _ _ h=>h) (fun _=>rfl) ⟨rfl,trivial⟩ fun B1 F1 w1=>?_;refine qU 1 rfl<|ae.nil ⟨rfl,?_⟩;refine ZH.ld tok 4 rfl rfl (by kernel_rfl) (by kernel_rfl) (by kernel_rfl) rfl rfl (fun _ _ _ h=>h) (fun _=>rfl) ⟨rfl,trivial⟩ fun B1 F1 w1=>?_;refine qU 1 rfl<|ae.nil ⟨rfl,?_⟩;refine ZH.ld tok 7 rfl rfl (by kernel_rfl) (by kernel_rfl) (by kernel_rfl) rfl rfl (fun _ _ _ h=>h) (fun _=>rfl) ⟨rfl,trivial⟩ fun B1 F1 w1=>?_;refine qU 1 rfl<|ae.nil ⟨rfl,?_⟩;refine ZH.ld tok 12 rfl rfl (by kernel_rfl) (by kernel_rfl) (by kernel_rfl) rfl rfl (fun _ _ _ h=>h) (fun _=>rfl) ⟨rfl,trivial⟩ fun B1 F1 w1=>?_;refine qU 1 rfl<|ae.nil ⟨rfl,?_⟩;refine ZH.meet 4 (qB 20 65535) (fun V=>((Vr,OA Vs)::(Vc,CA s.cols)::dw Vs s.rows)) (fun V=>[(3,.bx [.sl 1 (v.map ak)]),(6,.bx [.sl 1 [],.sl 1 [],dI 0,.sl 3 []]),(7,.d bd),(8,.bx [.v Vr,.v Vc,dI s.sg,ak s.iN]),(11,.d (dI c)),(12,.d (dI s.cols.length)),(13,.d (dI t)),(36,.d (dI most)),(37,.d (dI c)),(73,.d (.v Vr)),(74,.d (dI t)),(76,.d (.v Vr)),(77,.d (dI s.cols.length)),(79,.d (.v Vr)),(80,.d (dI s.cols.length)),(84,.d (.v Vr)),(85,.d (dI t)),(82,.d (.v (Vs.getD s.cols.length undef))),(87,.d (.v (Vs.getD t undef)))]) (fun V=>?_) fun N2_2=>?_
  ·refine ZH.all 16 (by kernel_rfl) rfl rfl (fun _=>rfl) ⟨rfl,trivial⟩ ?_;refine dp fun B1 F1 w1 hS=>?_;refine ae.idxs tok (hS.at (i:=0) rfl (by rw[aa];omega)) rfl rfl rfl rfl (al _) (by show t<_;rw[aa];omega) ?_;refine ae.nil ⟨rfl,?_⟩;refine ZH.to [3,6,7,8,11,12,13,36,37,73,74,76,77,79,80,84,85,82,87,88] [(3,.bx [.sl 1 (v.map ak)]),(6,.bx [.sl 1 [],.sl 1 [],dI 0,.sl 3 []]),(7,.d bd),(8,.bx [.v Vr,.v Vc,dI s.sg,ak s.iN]),(11,.d (dI c)),(12,.d (dI s.cols.length)),(13,.d (dI t)),(36,.d (dI most)),(37,.d (dI c)),(73,.d (.v Vr)),(74,.d (dI t)),(76,.d (.v Vr)),(77,.d (dI s.cols.length)),(79,.d (.v Vr)),(80,.d (dI s.cols.length)),(84,.d (.v Vr)),(85,.d (dI t)),(82,.d (.v (Vs.getD s.cols.length undef))),(87,.d (.v (Vs.getD t undef))),(88,.d (.v (lM Vr (t*1))))] rfl ⟨rfl,trivial⟩ ?_;refine ZH.all 17 (by kernel_rfl) rfl rfl (fun _=>rfl) ⟨rfl,trivial⟩ ?_;refine aj.cO 73 0 rfl rfl rfl ?_;refine aj.el tok 73 88 rfl (cx _) rfl rfl rfl (by rw[aa];omega) rfl ?_;refine aj.cut 1 rfl fun B1 F1 w1=>?_;refine ae.r8 tok (Vs.getD s.cols.length undef) rfl rfl rfl (by omega) ?_;refine ae.nil ⟨rfl,?_⟩;refine aj.back 73 0 rfl rfl rfl (cx _) rfl ?_;refine aj.nil<|ZH.to [3,6,7,8,11,12,13,36,37,73,74,76,77,79,80,84,85,82,87] [(3,.bx [.sl 1 (v.map ak)]),(6,.bx [.sl 1 [],.sl 1 [],dI 0,.sl 3 []]),(7,.d bd),(8,.bx [.v Vr,.v Vc,dI s.sg,ak s.iN]),(11,.d (dI c)),(12,.d (dI s.cols.length)),(13,.d (dI t)),(36,.d (dI most)),(37,.d (dI c)),(73,.d (.v Vr)),(74,.d (dI t)),(76,.d (.v Vr)),(77,.d (dI s.cols.length)),(79,.d (.v Vr)),(80,.d (dI s.cols.length)),(84,.d (.v Vr)),(85,.d (dI t)),(82,.d (.v (Vs.getD s.cols.length undef))),(87,.d (.v (Vs.getD t undef)))] rfl ⟨rfl,trivial⟩ ?_;refine ZH.all 18 (by kernel_rfl) rfl rfl (fun _=>rfl) ⟨rfl,trivial⟩ ?_;refine dp fun B1 F1 w1 hS=>?_;refine ae.idxs tok (hS.at (i:=0) rfl (by rw[aa,cg];omega)) rfl rfl rfl rfl (al _) (by show s.cols.length<_;rw[aa,cg];omega) ?_;refine ae.nil ⟨rfl,?_⟩;refine ZH.to [3,6,7,8,11,12,13,36,37,73,74,76,77,79,80,84,85,82,87,89] [(3,.bx [.sl 1 (v.map ak)]),(6,.bx [.sl 1 [],.sl 1 [],dI 0,.sl 3 []]),(7,.d bd),(8,.bx [.v Vr,.v Vc,dI s.sg,ak s.iN]),(11,.d (dI c)),(12,.d (dI s.cols.length)),(13,.d (dI t)),(36,.d (dI most)),(37,.d (dI c)),(73,.d (.v Vr)),(74,.d (dI t)),(76,.d (.v Vr)),(77,.d (dI s.cols.length)),(79,.d (.v Vr)),(80,.d (dI s.cols.length)),(84,.d (.v Vr)),(85,.d (dI t)),(82,.d (.v (Vs.getD s.cols.length undef))),(87,.d (.v (Vs.getD t undef))),(89,.d (.v (lM Vr (s.cols.length*1))))] rfl ⟨rfl,trivial⟩ ?_;refine ZH.all 19 (by kernel_rfl) rfl rfl (fun _=>rfl) ⟨rfl,trivial⟩ ?_;refine aj.cO 76 0 rfl rfl rfl ?_;refine aj.el tok 76 89 rfl (cx _) rfl rfl rfl (by rw[aa,cg];omega) rfl ?_;refine aj.cut 1 rfl fun B1 F1 w1=>?_;refine ae.r8 tok (Vs.getD t undef) rfl rfl rfl (by rw[cg];omega) ?_;refine ae.nil ⟨rfl,?_⟩;refine aj.back 76 0 rfl rfl rfl (cx _) rfl ?_;refine aj.nil<|ZH.done (by kernel_rfl) ⟨rfl,trivial⟩ ?_;refine AZ.to [3,6,7,8,11,12,13,36,37] [(3,.bx [.sl 1 (v.map ak)]),(6,.bx [.sl 1 [],.sl 1 [],dI 0,.sl 3 []]),(7,.d bd),(8,.bx [.v Vr,.v Vc,dI s.sg,ak s.iN]),(11,.d (dI c)),(12,.d (dI s.cols.length)),(13,.d (dI t)),(36,.d (dI most)),(37,.d (dI c))] rfl ?_;refine AZ.CE (t+2) (s.cols.length+2) (dF (Vs:=Vs) (by omega) hat) (dF (Vs:=Vs) (by omega) (by omega)) ?_;show AZ _ _ _ _ _ _ _ ((Vr,OA (F7 Vs s.cols.length t))::(Vc,CA s.cols)::((dw Vs s.rows).set t (Vs.getD s.cols.length undef,mw (s.rows.getD s.cols.length []))).set s.cols.length (Vs.getD t undef,mw (s.rows.getD t []))) _;rw[Ed (by omega) (by omega) hat,←hbr];refine AZ.cL fun B1 F1 w1=>?_;refine qU 3 rfl ?_;rw[aD (x:=0-s.sg) (by have:=hR.sg;omega) (by have:=hR.sg;omega),Int.zero_sub];refine qU 2 rfl<|ae.nil ⟨rfl,?_⟩;exact⟨F7 Vs s.cols.length t,by rw[af htr];rfl,by show(F7 Vs s.cols.length t).length=_;rw[F6,hb1];omega⟩
  refine ZH.meet 5 (qB 20 64511) (fun V=>((Vr,OA Vs)::(Vc,CA s.cols)::dw Vs s.rows)) (fun V=>[(3,.bx [.sl 1 (v.map ak)]),(6,.bx [.sl 1 [],.sl 1 [],dI 0,.sl 3 []]),(7,.d bd),(8,.bx [.v Vr,.v Vc,dI s.sg,ak s.iN]),(11,.d (dI c)),(12,.d (dI s.cols.length)),(13,.d (dI t)),(36,.d (dI most)),(37,.d (dI c)),(73,.d (.v Vr)),(74,.d (dI t)),(76,.d (.v Vr)),(77,.d (dI s.cols.length)),(79,.d (.v Vr)),(80,.d (dI s.cols.length)),(84,.d (.v Vr)),(85,.d (dI t)),(81,.d (.v (lM Vr (s.cols.length*1)))),(87,.d (.v (Vs.getD t undef)))]) (fun V=>?_) fun N1_2=>?_
  ·refine ZH.all 10 (by kernel_rfl) rfl rfl (fun _=>rfl) ⟨rfl,trivial⟩ ?_;refine dp fun B1 F1 w1 hS=>?_;refine ae.bM tok (.v (Vs.getD s.cols.length undef)) (hS.at (i:=0) rfl (by rw[aa];omega)) rfl rfl rfl rfl rfl rfl (dL (by omega)) rfl ?_;refine ae.nil ⟨rfl,?_⟩;exact qL (N2_2 V) (by kernel_rfl) rfl ⟨rfl,trivial⟩
  refine ZH.meet 5 (qB 20 32767) (fun V=>((Vr,OA Vs)::(Vc,CA s.cols)::dw Vs s.rows)) (fun V=>[(3,.bx [.sl 1 (v.map ak)]),(6,.bx [.sl 1 [],.sl 1 [],dI 0,.sl 3 []]),(7,.d bd),(8,.bx [.v Vr,.v Vc,dI s.sg,ak s.iN]),(11,.d (dI c)),(12,.d (dI s.cols.length)),(13,.d (dI t)),(36,.d (dI most)),(37,.d (dI c)),(73,.d (.v Vr)),(74,.d (dI t)),(76,.d (.v Vr)),(77,.d (dI s.cols.length)),(79,.d (.v Vr)),(80,.d (dI s.cols.length)),(84,.d (.v Vr)),(85,.d (dI t)),(82,.d (.v (Vs.getD s.cols.length undef))),(86,.d (.v (lM Vr (t*1))))]) (fun V=>?_) fun N2_1=>?_
  ·refine ZH.all 15 (by kernel_rfl) rfl rfl (fun _=>rfl) ⟨rfl,trivial⟩ ?_;refine dp fun B1 F1 w1 hS=>?_;refine ae.bM tok (.v (Vs.getD t undef)) (hS.at (i:=0) rfl (by rw[aa];omega)) rfl rfl rfl rfl rfl rfl (dL (by omega)) rfl ?_;refine ae.nil ⟨rfl,?_⟩;exact qL (N2_2 V) (by kernel_rfl) rfl ⟨rfl,trivial⟩
  refine ZH.meet 6 (qB 20 63999) (fun V=>((Vr,OA Vs)::(Vc,CA s.cols)::dw Vs s.rows)) (fun V=>[(3,.bx [.sl 1 (v.map ak)]),(6,.bx [.sl 1 [],.sl 1 [],dI 0,.sl 3 []]),(7,.d bd),(8,.bx [.v Vr,.v Vc,dI s.sg,ak s.iN]),(11,.d (dI c)),(12,.d (dI s.cols.length)),(13,.d (dI t)),(36,.d (dI most)),(37,.d (dI c)),(73,.d (.v Vr)),(74,.d (dI t)),(76,.d (.v Vr)),(77,.d (dI s.cols.length)),(79,.d (.v Vr)),(80,.d (dI s.cols.length)),(84,.d (.v Vr)),(85,.d (dI t)),(87,.d (.v (Vs.getD t undef)))]) (fun V=>?_) fun N0_2=>?_
  ·refine ZH.all 9 (by kernel_rfl) rfl rfl (fun _=>rfl) ⟨rfl,trivial⟩ ?_;refine dp fun B1 F1 w1 hS=>?_;refine ae.idxs tok (hS.at (i:=0) rfl (by rw[aa];omega)) rfl rfl rfl rfl (al _) (by show s.cols.length<_;rw[aa];omega) ?_;refine ae.nil ⟨rfl,?_⟩;exact qL (N1_2 V) (by kernel_rfl) rfl ⟨rfl,trivial⟩
  refine ZH.meet 6 (qB 20 31743) (fun V=>((Vr,OA Vs)::(Vc,CA s.cols)::dw Vs s.rows)) (fun V=>[(3,.bx [.sl 1 (v.map ak)]),(6,.bx [.sl 1 [],.sl 1 [],dI 0,.sl 3 []]),(7,.d bd),(8,.bx [.v Vr,.v Vc,dI s.sg,ak s.iN]),(11,.d (dI c)),(12,.d (dI s.cols.length)),(13,.d (dI t)),(36,.d (dI most)),(37,.d (dI c)),(73,.d (.v Vr)),(74,.d (dI t)),(76,.d (.v Vr)),(77,.d (dI s.cols.length)),(79,.d (.v Vr)),(80,.d (dI s.cols.length)),(84,.d (.v Vr)),(85,.d (dI t)),(81,.d (.v (lM Vr (s.cols.length*1)))),(86,.d (.v (lM Vr (t*1))))]) (fun V=>?_) fun N1_1=>?_
  ·refine ZH.two 10 15 (by kernel_rfl) rfl rfl rfl rfl (fun _=>rfl) (fun _=>rfl) ⟨rfl,trivial⟩ ?_ ?_
   ·refine dp (fun B1 F1 w1 hS=>?_);refine ae.bM tok (.v (Vs.getD s.cols.length undef)) (hS.at (i:=0) rfl (by rw[aa];omega)) rfl rfl rfl rfl rfl rfl (dL (by omega)) rfl ?_;refine ae.nil ⟨rfl,?_⟩;exact qL (N2_1 V) (by kernel_rfl) rfl ⟨rfl,trivial⟩
   ·refine dp (fun B1 F1 w1 hS=>?_);refine ae.bM tok (.v (Vs.getD t undef)) (hS.at (i:=0) rfl (by rw[aa];omega)) rfl rfl rfl rfl rfl rfl (dL (by omega)) rfl ?_;refine ae.nil ⟨rfl,?_⟩;exact qL (N1_2 V) (by kernel_rfl) rfl ⟨rfl,trivial⟩
  refine ZH.meet 6 (qB 20 16383) (fun V=>((Vr,OA Vs)::(Vc,CA s.cols)::dw Vs s.rows)) (fun V=>[(3,.bx [.sl 1 (v.map ak)]),(6,.bx [.sl 1 [],.sl 1 [],dI 0,.sl 3 []]),(7,.d bd),(8,.bx [.v Vr,.v Vc,dI s.sg,ak s.iN]),(11,.d (dI c)),(12,.d (dI s.cols.length)),(13,.d (dI t)),(36,.d (dI most)),(37,.d (dI c)),(73,.d (.v Vr)),(74,.d (dI t)),(76,.d (.v Vr)),(77,.d (dI s.cols.length)),(79,.d (.v Vr)),(80,.d (dI s.cols.length)),(84,.d (.v Vr)),(85,.d (dI t)),(82,.d (.v (Vs.getD s.cols.length undef)))]) (fun V=>?_) fun N2_0=>?_
  ·refine ZH.all 14 (by kernel_rfl) rfl rfl (fun _=>rfl) ⟨rfl,trivial⟩ ?_;refine dp fun B1 F1 w1 hS=>?_;refine ae.idxs tok (hS.at (i:=0) rfl (by rw[aa];omega)) rfl rfl rfl rfl (al _) (by show t<_;rw[aa];omega) ?_;refine ae.nil ⟨rfl,?_⟩;exact qL (N2_1 V) (by kernel_rfl) rfl ⟨rfl,trivial⟩
  refine ZH.meet 7 (qB 20 31231) (fun V=>((Vr,OA Vs)::(Vc,CA s.cols)::dw Vs s.rows)) (fun V=>[(3,.bx [.sl 1 (v.map ak)]),(6,.bx [.sl 1 [],.sl 1 [],dI 0,.sl 3 []]),(7,.d bd),(8,.bx [.v Vr,.v Vc,dI s.sg,ak s.iN]),(11,.d (dI c)),(12,.d (dI s.cols.length)),(13,.d (dI t)),(36,.d (dI most)),(37,.d (dI c)),(73,.d (.v Vr)),(74,.d (dI t)),(76,.d (.v Vr)),(77,.d (dI s.cols.length)),(79,.d (.v Vr)),(80,.d (dI s.cols.length)),(84,.d (.v Vr)),(85,.d (dI t)),(86,.d (.v (lM Vr (t*1))))]) (fun V=>?_) fun N0_1=>?_
  ·refine ZH.two 9 15 (by kernel_rfl) rfl rfl rfl rfl (fun _=>rfl) (fun _=>rfl) ⟨rfl,trivial⟩ ?_ ?_
   ·refine dp (fun B1 F1 w1 hS=>?_);refine ae.idxs tok (hS.at (i:=0) rfl (by rw[aa];omega)) rfl rfl rfl rfl (al _) (by show s.cols.length<_;rw[aa];omega) ?_;refine ae.nil ⟨rfl,?_⟩;exact qL (N1_1 V) (by kernel_rfl) rfl ⟨rfl,trivial⟩
   ·refine dp (fun B1 F1 w1 hS=>?_);refine ae.bM tok (.v (Vs.getD t undef)) (hS.at (i:=0) rfl (by rw[aa];omega)) rfl rfl rfl rfl rfl rfl (dL (by omega)) rfl ?_;refine ae.nil ⟨rfl,?_⟩;exact qL (N0_2 V) (by kernel_rfl) rfl ⟨rfl,trivial⟩
  refine ZH.meet 7 (qB 20 15359) (fun V=>((Vr,OA Vs)::(Vc,CA s.cols)::dw Vs s.rows)) (fun V=>[(3,.bx [.sl 1 (v.map ak)]),(6,.bx [.sl 1 [],.sl 1 [],dI 0,.sl 3 []]),(7,.d bd),(8,.bx [.v Vr,.v Vc,dI s.sg,ak s.iN]),(11,.d (dI c)),(12,.d (dI s.cols.length)),(13,.d (dI t)),(36,.d (dI most)),(37,.d (dI c)),(73,.d (.v Vr)),(74,.d (dI t)),(76,.d (.v Vr)),(77,.d (dI s.cols.length)),(79,.d (.v Vr)),(80,.d (dI s.cols.length)),(84,.d (.v Vr)),(85,.d (dI t)),(81,.d (.v (lM Vr (s.cols.length*1))))]) (fun V=>?_) fun N1_0=>?_
  ·refine ZH.two 10 14 (by kernel_rfl) rfl rfl rfl rfl (fun _=>rfl) (fun _=>rfl) ⟨rfl,trivial⟩ ?_ ?_
   ·refine dp (fun B1 F1 w1 hS=>?_);refine ae.bM tok (.v (Vs.getD s.cols.length undef)) (hS.at (i:=0) rfl (by rw[aa];omega)) rfl rfl rfl rfl rfl rfl (dL (by omega)) rfl ?_;refine ae.nil ⟨rfl,?_⟩;exact qL (N2_0 V) (by kernel_rfl) rfl ⟨rfl,trivial⟩
   ·refine dp (fun B1 F1 w1 hS=>?_);refine ae.idxs tok (hS.at (i:=0) rfl (by rw[aa];omega)) rfl rfl rfl rfl (al _) (by show t<_;rw[aa];omega) ?_;refine ae.nil ⟨rfl,?_⟩;exact qL (N1_1 V) (by kernel_rfl) rfl ⟨rfl,trivial⟩
  refine ZH.meet 8 (qB 20 14847) (fun V=>((Vr,OA Vs)::(Vc,CA s.cols)::dw Vs s.rows)) (fun V=>[(3,.bx [.sl 1 (v.map ak)]),(6,.bx [.sl 1 [],.sl 1 [],dI 0,.sl 3 []]),(7,.d bd),(8,.bx [.v Vr,.v Vc,dI s.sg,ak s.iN]),(11,.d (dI c)),(12,.d (dI s.cols.length)),(13,.d (dI t)),(36,.d (dI most)),(37,.d (dI c)),(73,.d (.v Vr)),(74,.d (dI t)),(76,.d (.v Vr)),(77,.d (dI s.cols.length)),(79,.d (.v Vr)),(80,.d (dI s.cols.length)),(84,.d (.v Vr)),(85,.d (dI t))]) (fun V=>?_) fun N0_0=>?_
  ·refine ZH.two 9 14 (by kernel_rfl) rfl rfl rfl rfl (fun _=>rfl) (fun _=>rfl) ⟨rfl,trivial⟩ ?_ ?_
   ·refine dp (fun B1 F1 w1 hS=>?_);refine ae.idxs tok (hS.at (i:=0) rfl (by rw[aa];omega)) rfl rfl rfl rfl (al _) (by show s.cols.length<_;rw[aa];omega) ?_;refine ae.nil ⟨rfl,?_⟩;exact qL (N1_0 V) (by kernel_rfl) rfl ⟨rfl,trivial⟩
   ·refine dp (fun B1 F1 w1 hS=>?_);refine ae.idxs tok (hS.at (i:=0) rfl (by rw[aa];omega)) rfl rfl rfl rfl (al _) (by show t<_;rw[aa];omega) ?_;refine ae.nil ⟨rfl,?_⟩;exact qL (N0_1 V) (by kernel_rfl) rfl ⟨rfl,trivial⟩
  exact qL (N0_0 ju) (by kernel_rfl) rfl ⟨rfl,trivial⟩
 obtain⟨sg,hsg⟩: ∃sg,(if t=s.cols.length then s.sg else -s.sg)=sg:=⟨_,rfl⟩;obtain⟨r,hrr⟩: ∃r,s.cols.length=r:=⟨_,rfl⟩;have hrb:r<b.length:=by omega
 have hrN:(b.getD r []).length=N:=hb2 r hrb;have okc:=wS V hR.iN (by rw[hpr];exact hb3 _ _) okd;rw[hsg]at hst;rw[hrr]at hst hpr hE okv oks okt;show AZ _ _ _ _ _ _ _ ((Vr,OA Ws)::(Vc,CA s.cols)::dw Ws b) [(3,.bx [.sl 1 (v.map ak)]),(6,.bx [.sl 1 [],.sl 1 [],dI 0,.sl 3 []]),(7,.d bd),(8,.bx [.v Vr,.v Vc,dI (if t=s.cols.length then s.sg else -s.sg),ak s.iN]),(11,.d (dI c)),(12,.d (dI s.cols.length)),(36,.d (dI most)),(37,.d (dI c))];rw[hsg,hrr];refine AZ.seq<|AZ.za fun B1 F1 w1 hS=>?_;refine qU 3 rfl ?_;refine ae.idxs tok (hS.at (i:=0) rfl (by rw[aa];omega)) rfl rfl rfl rfl (al _) (by show r<_;rw[aa];omega) ?_;refine ae.bM tok (.v (Ws.getD r undef)) (hS.at (i:=0) rfl (by rw[aa];omega)) rfl rfl rfl rfl rfl rfl (dL (by omega)) rfl ?_;refine qU 1 rfl ?_;refine ae.idxs tok (hS.at (i:=r+2) (dF (Vs:=Ws) (by omega) hrb) (by rw[aa];omega)) rfl rfl rfl rfl (al c) (by rw[aa];omega) ?_;refine ae.bM tok (ak (a7 b r c)) (hS.at (i:=r+2) (dF (Vs:=Ws) (by omega) hrb) (by rw[aa];omega)) rfl rfl rfl rfl rfl rfl (hel hb2 hrb c hcN) rfl ?_;rw[←hpr];refine qU 1 rfl<|ae.nil ⟨rfl,?_⟩;refine AZ.seq<|AZ.cL fun B1 F1 w1=>?_;refine qU 1 rfl<|ae.nil ⟨rfl,?_⟩;refine AZ.seq<|AZ.seq ?_;refine AZ.cL fun B1 F1 w1=>?_;refine qU 4 rfl<|qM rfl okc<|qU 6 rfl<|ae.nil ⟨rfl,?_⟩;refine AZ.seq<|AZ.cL fun B1 F1 w1=>?_;refine qU 1 rfl<|qR rfl rfl<|ae.nil ⟨rfl,?_⟩;refine AZ.aC rfl ?_;refine AZ.skip ?_;generalize et v s.iN p=iN at *;obtain⟨row,hrow⟩: ∃row,b.getD r []=row:=⟨_,rfl⟩;have hz:=v9 v row p;have hsr: ∀k,a7 b r k=row.getD k []:=fun k=>by unfold a7;rw[hrow]
 have hb0:dw Ws b=dw Ws (b.set r row):=by rw[←hrow,oJ hrb]
 have hgr: ∀q:List NQ,(dw Ws (b.set r q))[r]?=some (Ws.getD r undef,mw q):=fun q=>by rw[dF (by omega) (by simpa using hrb),dc,ah ⟨rfl,hrb⟩]
 rw[hrow]at hE hrN okv;rw[hb0];refine AZ.seq<|AZ.seq ?_;refine AZ.za fun B1 F1 w1 hS=>?_;refine qU 3 rfl ?_;refine ae.idxs tok (hS.at (i:=0) rfl (by rw[aa];omega)) rfl rfl rfl rfl (al _) (by show r<_;rw[aa];omega) ?_;refine ae.bM tok (.v (Ws.getD r undef)) (hS.at (i:=0) rfl (by rw[aa];omega)) rfl rfl rfl rfl rfl rfl (dL (by omega)) rfl ?_;refine ae.lens tok (hS.at (i:=r+2) (hgr row) (by rw[aa];omega)) rfl rfl rfl rfl ?_;rw[aa,hrN];refine qU 1 rfl<|ae.nil ⟨rfl,?_⟩;refine AZ.block ?_;refine AZ.aK [3,6,7,8,11,12,14,36,37,120,121] (fun k:Nat=>(((Vr,OA Ws)::(Vc,CA s.cols)::dw Ws (b.set r (kE (By v row p) row k))),[(3,.bx [.sl 1 (v.map ak)]),(6,.bx [.sl 1 [],.sl 1 [],dI 0,.sl 3 []]),(7,.d bd),(8,.bx [.v Vr,.v Vc,dI sg,ak iN]),(11,.d (dI c)),(12,.d (dI r)),(14,.d (ak p)),(36,.d (dI most)),(37,.d (dI c)),(120,.d (dI N)),(121,.d (dI k))])) (fun k=>k≤N) (fun k=>N-k) 0 (by rw[uc];rfl) (an _) fun k hk=>?_;show AZ _ _ _ _ _ _ _ ((Vr,OA Ws)::(Vc,CA s.cols)::dw Ws (b.set r (kE (By v row p) row k))) [(3,.bx [.sl 1 (v.map ak)]),(6,.bx [.sl 1 [],.sl 1 [],dI 0,.sl 3 []]),(7,.d bd),(8,.bx [.v Vr,.v Vc,dI sg,ak iN]),(11,.d (dI c)),(12,.d (dI r)),(14,.d (ak p)),(36,.d (dI most)),(37,.d (dI c)),(120,.d (dI N)),(121,.d (dI k))];refine AZ.seq<|AZ.cL fun B1 F1 w1=>?_;refine qU 1 rfl<|ae.nil ⟨rfl,?_⟩;refine AZ.seq ?_;refine AZ.cond rfl (fun h=>?_) fun h=>?_
 ·have hkN:k<N:=by have:=ao h;omega
  have hpl:=sV hz (i:=k) (by omega);have hpg:=xR hz (show k<row.length by omega) [];have hps:=xQ hz (show k<row.length by omega) (d:=[]) (sR v row p (show k<row.length by omega));have cd:=Ex V (a:=row.getD k []) (b:=p) (by rw[←hrow];exact hb3 r k) (by rw[hpr];exact hb3 _ _) (by have:=okv k (by omega);rw[hsr]at this;exact this);generalize kE (By v row p) row k=q at *;generalize row.getD k []=X at *;generalize vP v X p=Y at *;refine AZ.skip<|AZ.seq<|AZ.block<|AZ.seq ?_;refine AZ.cL fun B1 F1 w1=>?_;refine qU 2 rfl<|ae.nil ⟨rfl,?_⟩;refine AZ.seq<|AZ.any aO<|fL.DX [(19,20)] (by kernel_rfl) (fun _ _ _ h=>h) (fun _ _ h=>h)<|fL.lG 20 (by kernel_rfl) fun B1 F1 w1 hS=>?_;have hS0:=hS.at (i:=0) rfl (by rw[aa];omega);have hS1:=hS.at (i:=r+2) (hgr q) (by rw[aa];omega);refine qP 3 rfl ?_;refine ai.idxs tok hS0 rfl rfl rfl rfl rfl (al r) (by rw[aa];omega) ?_;refine ai.bM tok (.v (Ws.getD r undef)) hS0 rfl rfl rfl rfl rfl rfl rfl (dL (by omega)) rfl ?_;refine qP 5 rfl ?_;refine ai.idxs tok hS0 rfl rfl rfl rfl rfl (al r) (by rw[aa];omega) ?_;refine ai.bM tok (.v (Ws.getD r undef)) hS0 rfl rfl rfl rfl rfl rfl rfl (dL (by omega)) rfl ?_;refine qP 1 rfl ?_;refine ai.idxs tok hS1 rfl rfl rfl rfl rfl (al k) (by rw[aa];omega) ?_;refine ai.bM tok (ak (q.getD k [])) hS1 rfl rfl rfl rfl rfl rfl rfl (getM ak (by omega)) rfl ?_;rw[hpg];refine qP 1 rfl<|qQ rfl cd<|qP 3 rfl<|ai.nil ⟨rfl,?_⟩;refine aj.to [129,130,142,143,3,6,7,8,11,12,14,36,37,120,121] [(129,.d (.v (Ws.getD r undef))),(130,.d (dI k)),(142,.d (ak Y)),(143,.d bd),(3,.bx [.sl 1 (v.map ak)]),(6,.bx [.sl 1 [],.sl 1 [],dI 0,.sl 3 []]),(7,.d bd),(8,.bx [.v Vr,.v Vc,dI sg,ak iN]),(11,.d (dI c)),(12,.d (dI r)),(14,.d (ak p)),(36,.d (dI most)),(37,.d (dI c)),(120,.d (dI N)),(121,.d (dI k))] rfl ?_;refine aj.Ca 1 rfl fun B1 F1 w1 hS=>?_;refine ae.idxs tok (hS.at (i:=r+2) (hgr q) (by rw[aa];omega)) rfl rfl rfl rfl (al k) (by rw[aa];omega) ?_;refine ae.nil ⟨rfl,?_⟩;refine aj.cO 129 (r+2) (hgr q) rfl rfl ?_;refine aj.el (k:=k) tok 129 144 rfl (cx _) rfl rfl rfl (by rw[aa];omega) rfl ?_;refine aj.cut 1 rfl fun B1 F1 w1=>?_;refine ae.tK tok Y rfl rfl rfl (by omega) ?_;rw[hps];refine ae.nil ⟨rfl,?_⟩;refine aj.back 129 (r+2) rfl rfl rfl (cx _) (bz (by have:=(ch.1 (hgr q)).1;simp only[List.length_cons];omega)) ?_
  refine aj.mV (R':=((Vr,OA Ws)::(Vc,CA s.cols)::dw Ws (b.set r (kE (By v row p) row (k+1))))) (by
   show(Vr,OA Ws)::(Vc,CA s.cols)::((dw Ws (b.set r q)).set r _).set r _=_
   rw[g',wC (by omega) (by simpa using hrb),g']) ?_
  refine aj.cut 1 rfl fun B1 F1 w1=>?_;refine qU 1 rfl<|ae.nil ⟨rfl,?_⟩;refine aj.nil<|AZ.to [3,6,7,8,11,12,14,36,37,15,120,121] [(3,.bx [.sl 1 (v.map ak)]),(6,.bx [.sl 1 [],.sl 1 [],dI 0,.sl 3 []]),(7,.d bd),(8,.bx [.v Vr,.v Vc,dI sg,ak iN]),(11,.d (dI c)),(12,.d (dI r)),(14,.d (ak p)),(36,.d (dI most)),(37,.d (dI c)),(15,.d bd),(120,.d (dI N)),(121,.d (dI k))] rfl ?_;refine AZ.seq<|AZ.cL fun B1 F1 w1=>?_;refine qU 1 rfl<|qR rfl rfl<|ae.nil ⟨rfl,?_⟩;refine AZ.aC rfl ?_;refine AZ.skip<|AZ.cL fun B1 F1 w1=>?_;refine qU 1 rfl ?_;rw[aD (x:=(k:Int)+1) (by omega) (by omega)];refine qU 1 rfl<|ae.nil ⟨rfl,?_⟩;exact⟨k+1,rfl,hkN,by omega⟩
 have hkN:k=N:=by have:=ar h;omega
 subst hkN;rw[show kE (By v row p) row k=By v row p by rw[←hrN];exact xS hz,←hE];refine AZ.exit ?_;have hWe:Ws.length=e.length:=by omega
 have hre:r<e.length:=by omega
 have he2c:e.length=s.rows.length:=by omega
 refine AZ.seq<|AZ.seq ?_;refine AZ.za fun B1 F1 w1 hS=>?_;refine qU 2 rfl ?_;refine ae.lens tok (hS.at (i:=0) rfl (by rw[aa];omega)) rfl rfl rfl rfl ?_;rw[aa,hWe];refine qU 1 rfl<|ae.nil ⟨rfl,?_⟩;refine AZ.block<|AZ.aK [3,6,7,8,11,12,36,37,152,153] (fun i:Nat=>(((Vr,OA Ws)::(Vc,CA s.cols)::dw Ws (bS v e r c i)),[(3,.bx [.sl 1 (v.map ak)]),(6,.bx [.sl 1 [],.sl 1 [],dI 0,.sl 3 []]),(7,.d bd),(8,.bx [.v Vr,.v Vc,dI sg,ak iN]),(11,.d (dI c)),(12,.d (dI r)),(36,.d (dI most)),(37,.d (dI c)),(152,.d (dI e.length)),(153,.d (dI i))])) (fun i=>i≤e.length) (fun i=>e.length-i) 0 rfl (an _) fun i hi=>?_;show AZ _ _ _ _ _ _ _ ((Vr,OA Ws)::(Vc,CA s.cols)::dw Ws (bS v e r c i)) [(3,.bx [.sl 1 (v.map ak)]),(6,.bx [.sl 1 [],.sl 1 [],dI 0,.sl 3 []]),(7,.d bd),(8,.bx [.v Vr,.v Vc,dI sg,ak iN]),(11,.d (dI c)),(12,.d (dI r)),(36,.d (dI most)),(37,.d (dI c)),(152,.d (dI e.length)),(153,.d (dI i))];refine AZ.seq<|AZ.cL fun B1 F1 w1=>?_;refine qU 1 rfl<|ae.nil ⟨rfl,?_⟩;refine AZ.seq ?_;refine AZ.cond rfl (fun h=>?_) fun h=>?_
 ·have hie:i<e.length:=by have:=ao h;omega
  have hm1:=ji v e r c i;have hm2:=p8 (v:=v) (r:=r) (c:=c) he2 i (by omega);have hm3:=wm V (r:=r) (c:=c) he3 i;have hmi:=gu v e r c i i (.inl (ap _));have hmr:=gu v e r c i r (.inr rfl);have hnx:bS v e r c (i+1)=if i≠r∧m7 v (a7 (bS v e r c i) i c)≠0 then(bS v e r c i).set i (gW v ((bS v e r c i).getD i []) ((bS v e r c i).getD r []) (a7 (bS v e r c i) i c))else bS v e r c i:=rfl
  have kt:a7 (bS v e r c i) i c=a7 e i c:=wq v e r c i c;generalize bS v e r c i=m at *;refine AZ.skip<|AZ.seq<|AZ.block<|AZ.seq ?_;refine AZ.cL fun B1 F1 w1=>?_;refine qU 2 rfl<|ae.nil ⟨rfl,?_⟩;refine AZ.seq<|AZ.any aO<|fL.lG 16 (by kernel_rfl) fun B1 F1 w1 hS=>?_;have hS0:=hS.at (i:=0) rfl (by rw[aa];omega);refine qP 3 rfl ?_;by_cases hir:i=r
  ·rw[af (fun g=>g.1 hir)]at hnx;rw[bne_eq_false_iff_eq.2 (show(i:Int)=(r:Int) by omega)];refine qP 13 rfl<|ai.nil ⟨rfl,?_⟩;refine aj.nil<|AZ.aC rfl ?_;refine AZ.skip<|AZ.cL fun B1 F1 w1=>?_;refine qU 1 rfl ?_;rw[aD (x:=(i:Int)+1) (by omega) (by omega)];refine qU 1 rfl<|ae.nil ⟨rfl,?_⟩;exact⟨i+1,Prod.ext (show((Vr,OA Ws)::(Vc,CA s.cols)::dw Ws m)=((Vr,OA Ws)::(Vc,CA s.cols)::dw Ws (bS v e r c (i+1))) by rw[hnx]) rfl,hie,by omega⟩
  have hmiN:(m.getD i []).length=k:=hm2 i (by omega);have hmrN:(m.getD r []).length=k:=hm2 r (by omega);have hgi:=dF (Vs:=Ws) (a:=m) (j:=i) (by omega) (by omega);have hgr2:=dF (Vs:=Ws) (a:=m) (j:=r) (by omega) (by omega);have hS1:=hS.at (i:=i+2) hgi (by rw[aa];omega);have cs:=oZ V (hm3 i c) (by rw[kt];exact oks i (by omega) (by omega));have okt2:=okt i (by omega) (by omega);rw[←kt,←hmi,←hmr]at okt2;rw[bne_iff_ne.2 (show(i:Int)≠(r:Int) by omega)];refine qP 5 rfl ?_;refine ai.idxs tok hS0 rfl rfl rfl rfl rfl (al i) (by rw[aa];omega) ?_;refine ai.bM tok (.v (Ws.getD i undef)) hS0 rfl rfl rfl rfl rfl rfl rfl (dL (by omega)) rfl ?_;refine qP 1 rfl ?_;refine ai.idxs tok hS1 rfl rfl rfl rfl rfl (al c) (by rw[aa];omega) ?_;refine ai.bM tok (ak (a7 m i c)) hS1 rfl rfl rfl rfl rfl rfl rfl (hel hm2 (by omega) c hcN) rfl ?_;refine qQ rfl cs<|qP 2 rfl<|ai.nil ⟨rfl,?_⟩;refine aj.nil ?_;refine AZ.cond rfl (fun h=>?_) fun h=>?_;rotate_left
  ·have hg:m7 v (a7 m i c)=0:=bne_eq_false_iff_eq.1 h;rw[af (fun g=>g.2 hg)]at hnx;refine AZ.skip<|AZ.cL fun B1 F1 w1=>?_;refine qU 1 rfl ?_;rw[aD (x:=(i:Int)+1) (by omega) (by omega)];refine qU 1 rfl<|ae.nil ⟨rfl,?_⟩;exact⟨i+1,Prod.ext (show((Vr,OA Ws)::(Vc,CA s.cols)::dw Ws m)=((Vr,OA Ws)::(Vc,CA s.cols)::dw Ws (bS v e r c (i+1))) by rw[hnx]) rfl,hie,by omega⟩
  have hg:m7 v (a7 m i c)≠0:=bne_iff_ne.1 h;rw[ah ⟨hir,hg⟩]at hnx;have ct:=xT (Ws.getD i undef) (Ws.getD r undef) V (xs:=m.getD i []) (ys:=m.getD r []) (c:=a7 m i c) (by omega) (by omega) (by omega) (hm3 i) (hm3 r) (hm3 i c) (okt2 (by rw[kt]at hg ⊢; exact hg));refine AZ.seq<|AZ.any aO<|fL.lG 19 (by kernel_rfl) fun B1 F1 w1 hS=>?_;have hS0:=hS.at (i:=0) rfl (by rw[aa];omega);have hS1:=hS.at (i:=i+2) hgi (by rw[aa];omega);refine qP 4 rfl ?_;refine ai.idxs tok hS0 rfl rfl rfl rfl rfl (al i) (by rw[aa];omega) ?_;refine ai.bM tok (.v (Ws.getD i undef)) hS0 rfl rfl rfl rfl rfl rfl rfl (dL (by omega)) rfl ?_;refine qP 3 rfl ?_;refine ai.idxs tok hS0 rfl rfl rfl rfl rfl (al r) (by rw[aa];omega) ?_;refine ai.bM tok (.v (Ws.getD r undef)) hS0 rfl rfl rfl rfl rfl rfl rfl (dL (by omega)) rfl ?_;refine qP 3 rfl ?_;refine ai.idxs tok hS0 rfl rfl rfl rfl rfl (al i) (by rw[aa];omega) ?_;refine ai.bM tok (.v (Ws.getD i undef)) hS0 rfl rfl rfl rfl rfl rfl rfl (dL (by omega)) rfl ?_;refine qP 1 rfl ?_;refine ai.idxs tok hS1 rfl rfl rfl rfl rfl (al c) (by rw[aa];omega) ?_;refine ai.bM tok (ak (a7 m i c)) hS1 rfl rfl rfl rfl rfl rfl rfl (hel hm2 (by omega) c hcN) rfl ?_;refine ai.nil ⟨rfl,?_⟩;refine aj.to [172,177,182,190,3,6,7,8,11,12,36,37,152,153] [(172,.d (fm v)),(177,.d (.v (Ws.getD i undef))),(182,.d (.v (Ws.getD r undef))),(190,.d (ak (a7 m i c))),(3,.bx [.sl 1 (v.map ak)]),(6,.bx [.sl 1 [],.sl 1 [],dI 0,.sl 3 []]),(7,.d bd),(8,.bx [.v Vr,.v Vc,dI sg,ak iN]),(11,.d (dI c)),(12,.d (dI r)),(36,.d (dI most)),(37,.d (dI c)),(152,.d (dI e.length)),(153,.d (dI i))] rfl ?_;refine aj.ed tok [i+2,r+2] rfl rfl rfl rfl (OB hgi hgr2) (by simp[hir]) rfl ct (fun res R1 hP=>by rw[hP.2];exact ap _) fun res R1 hP=>?_;obtain⟨rfl,rfl⟩:=hP
  refine aj.mV (R':=(Vr,OA Ws)::(Vc,CA s.cols)::dw Ws (bS v e r c (i+1))) (by
   show((Vr,OA Ws)::(Vc,CA s.cols)::((dw Ws m).set i _).set r _)++[]=_
   rw[eu,KN (by omega) (by omega) (by omega) hir,hnx]) ?_
  refine aj.cut 1 rfl fun B1 F1 w1=>?_;refine qU 1 rfl<|ae.nil ⟨rfl,?_⟩;refine aj.nil ?_;refine AZ.seq<|AZ.cL fun B1 F1 w1=>?_;refine qU 1 rfl<|qR rfl rfl<|ae.nil ⟨rfl,?_⟩;refine AZ.aC rfl ?_;refine AZ.skip<|AZ.cL fun B1 F1 w1=>?_;refine qU 1 rfl ?_;rw[aD (x:=(i:Int)+1) (by omega) (by omega)];refine qU 1 rfl<|ae.nil ⟨rfl,?_⟩;exact⟨i+1,rfl,hie,by omega⟩
 have hie:i=e.length:=by have:=ar h;omega
 subst hie;refine AZ.exit ?_;refine AZ.region ?_;refine aj.cut 4 rfl fun B1 F1 w1=>?_;refine qU 3 rfl<|ae.ku tok rfl rfl rfl rfl rfl ?_;refine ae.nil ⟨rfl,?_⟩;refine aj.cO 198 1 rfl rfl rfl ?_;refine aj.cut 1 rfl fun B1 F1 w1=>?_;refine ae.jw tok rfl rfl rfl rfl rfl rfl (by show((s.cols.map (fun c:Nat=>dI c)).length+1)*8≤_;rw[aa];omega) (by show(s.cols.map (fun c:Nat=>dI c)).length+1≤_;rw[aa];omega) ?_;refine ae.nil ⟨rfl,?_⟩;refine aj.xW 201 1 rfl rfl rfl rfl fun Vq=>?_
 refine aj.mV (R':=(Vr,OA Ws)::(Vq,CA (s.cols++[c]))::dw Ws (bS v e r c e.length)) (by
  show(Vr,OA Ws)::(Vq,AV.ow 3 (s.cols.map (fun c:Nat=>dI c)++[dI c]))::dw Ws (bS v e r c e.length)=_
  rw[show s.cols.map (fun c:Nat=>dI c)++[dI (c:Int)]=(s.cols++[c]).map (fun c:Nat=>dI c) by simp]) ?_
 refine aj.cut 2 rfl fun B1 F1 w1=>?_;refine qU 2 rfl<|ae.nil ⟨rfl,?_⟩;refine aj.nil ?_;refine AZ.cL fun B1 F1 w1=>?_;refine qU 1 rfl ?_;rw[aD (x:=(c:Int)+1) (by omega) (by omega)];refine qU 1 rfl<|ae.nil ⟨rfl,?_⟩;exact⟨(c+1,Vr,Vq,Ws),by rw[hst];rfl,⟨hcm,by show Ws.length=a.length;omega⟩,by show most-(c+1)<most-c;omega⟩
end Lift
