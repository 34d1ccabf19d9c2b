/- Parts of the proof, one behind the other: the logic, the contracts of the functions that the statement reaches. -/
import Derived.Test.YtebpenldlefgjaaGreatM6E
set_option linter.unusedVariables false
set_option linter.unusedSimpArgs false
set_option maxHeartbeats 4000000
open Bool renaming or_eq_false_iff→d'
open Int renaming natCast_nonneg→am,natAbs_natCast→en,natAbs_mul→ey
open List renaming length_map→aa,getD_eq_getElem?_getD→ad,getElem?_eq_getElem→ap,length_append→av,length_take→ax,replicate→a',getElem?_append_right→bi,getElem?_append_left→bv,map_append→ca,length_set→cb,getElem?_take→cd,getElem_mem→cg,mem_singleton→cj,not_mem_nil→co,mem_append→cv,length_replicate→cx,getElem?_eq_none→cA,range→cB,getElem?_map→cC,nodup_nil→c5,mem_cons→c6,mem_replicate→c7,filter_append→c8,getElem?_set→c',range_succ→dl,append_nil→dr,length_eq_zero_iff→d4,take_of_length_le→d5,contains_iff_mem→d9,getElem_of_mem→ee,length_range→ek,mem_range→eu
open List.Mem renaming head→dx
open Nat renaming le_refl→al,zero_le→an,le_trans→az,not_lt_zero→a0,lt_succ_self→cJ,le_of_ble_eq_true→cS,lt_succ_of_lt→dd,succ_ne_zero→di,lt_irrefl→dT,sub_self→d6,le_mul_of_pos_left→d7,pow_le_pow_right→eb,pos_of_ne_zero→eh,lt_of_lt_of_le→ej,le_max_left→ep
open Nat.Coprime renaming mul_right→dj
open Prod renaming ext→c9
open Rat renaming mul_inv_cancel→ef,mul_eq_zero→eo,mul_def'→eN,add_zero→e6
namespace Lift
variable {v:List NQ}{l:Lkg}{b:NQ}{N X Xe Y i k m:Nat}{Q:Nat→NQ→Prop}{e:Nat→QR.T}{E d d0 t x y σ:QR.T}{q:Rat}{A:Rg}
theorem O4{s:QR.T}(hd:s*s=d0)(q:(B1 d0).T):nr q=fs s q*fs (-s) q:=by subst hd;show q.1*q.1-q.2*q.2*(s*s)=(q.1+s*q.2)*(q.1+ -s*q.2);exact Rg.bJ [q.1,q.2,s] (X0*X0-X1*X1*(X2*X2)) ((X0+X2*X1)*(X0+ -X2*X1)) rfl
theorem O5{s:QR.T}(q:(B1 d0).T):fs s (br q)=fs (-s) q:=by show q.1+s* -q.2=q.1+ -s*q.2;exact Rg.bJ [q.1,q.2,s] (X0+X2* -X1) (X0+ -X2*X1) rfl
theorem NM{s:QR.T}(q:(B1 d0).T):fs (-s) (br q)=fs s q:=by show q.1+ -s* -q.2=q.1+s*q.2;exact Rg.bJ [q.1,q.2,s] (X0+ -X2* -X1) (X0+X2*X1) rfl
theorem NK{s:QR.T}(q:(B1 d0).T):q.1+q.1=fs s q+fs (-s) q:=by show q.1+q.1=(q.1+s*q.2)+(q.1+ -s*q.2);exact Rg.bJ [q.1,q.2,s] (X0+X0) ((X0+X2*X1)+(X0+ -X2*X1)) rfl
theorem xM{s:QR.T}(hd:s*s=d0): -s* -s=d0:=by rw[←hd];exact Rg.bJ [s] (-X0* -X0) (X0*X0) rfl
theorem Hg(h:x*y=0):x=0∨y=0:=eo.1 h
theorem Q1.fs{s:QR.T}(hd:s*s=d0){q k:(B1 d0).T}(h:Q1 q k)(hn:fs s q≠0):Lift.fs s q*Lift.fs s k=1∧(Lift.fs (-s) q*Lift.fs (-s) k=1∨Lift.fs s q*Lift.fs (-s) k=1):=by
 have e0:=O4 hd q;rcases h with⟨w,hw,rfl⟩|⟨e,w,hw,rfl⟩
 ·rw[e0]at hw;have f1:Lift.fs s (br q*em w)=Lift.fs (-s) q*w:=by rw[mg hd,O5,GS]
  have f2:Lift.fs (-s) (br q*em w)=Lift.fs s q*w:=by rw[mg (xM hd),NM,GS]
  rw[f1,f2];refine⟨by rw[←hw,Rg.mul_assoc],.inl ?_⟩;rw[←hw];exact Rg.bJ [Lift.fs s q,Lift.fs (-s) q,w] (X1*(X0*X2)) (X0*X1*X2) rfl
 ·rw[e0]at e
  have e':Lift.fs (-s) q=0:=by
   rcases Hg e with g|g
   ·exact aG g hn
   ·exact g
  rw[NK (s:=s),e',Rg.add_zero]at hw;rw[GS,GS];exact⟨hw,.inr hw⟩
section
variable (V:fC m v) (h2:v.length=2) {s:QR.T} (hs:(0:Rat)<s) (hd:s*s=dP v)
include V h2 hs hd
theorem Hw(hb:ay v.length b)(h0:m7 v b≠0)(σ:QR.T)(hσ:σ*σ=dP v)(hk: ∀q k:(B1 (dP v)).T,Q1 q k→fs s q≠0→fs σ q*fs σ k=1∨fs s q*fs σ k=1):
  Eg (hS v s ((Au V h2).φ b)) (hS v σ ((Au V h2).φ b)) (hS v σ ((Au V h2).φ (bN v.length v b))):=by
 have hsg:aW v v.length (cf b)≠0:=by rw[←cY v.length hb V.ro (al _)];exact h0
 rw[h2]at hb hsg;show Eg (hS v s (nX (dP v) (eg v) (cf b))) (hS v σ (nX (dP v) (eg v) (cf b))) (hS v σ (nX (dP v) (eg v) (cf (bN v.length v b))));rw[h2];have ne: ∀{q:(B1 (dP v)).T},Gd v q≠0→fs s q≠0:=fun {q} g e=>g ((zZ hs hd q).2 e);rcases BO V (by omega) hb hsg with⟨e1,e2,e3,e4⟩|⟨e3,k,e4,e5⟩|⟨_,e3,k,e4,e5⟩
 ·generalize nX (dP v) (eg v) (cf b)=P at *;generalize nX (dP v) (eg v) (cf (bN 2 v b))=J at *;obtain⟨p,p'⟩:=P;obtain⟨k,k'⟩:=J;change p'=0 at e1;change k'=0 at e2;subst e1 e2;have hJ:hS v σ ((k,0):(B2 (dP v) (eg v)).T)=em (fs σ k):=c9 rfl pZ;rcases hk p k e4 (ne e3)with g|g
  ·have hP:hS v σ ((p,0):(B2 (dP v) (eg v)).T)=em (fs σ p):=c9 rfl pZ;refine .inl (.inl ⟨fs σ k*fs σ k,?_,?_⟩)
   ·rw[hP];show(fs σ p*fs σ p-0*0*fs σ (eg v))*(fs σ k*fs σ k)=1;rw[show(fs σ p*fs σ p-0*0*fs σ (eg v))*(fs σ k*fs σ k)=fs σ p*fs σ k*(fs σ p*fs σ k)from Rg.bJ [fs σ p,fs σ k,fs σ (eg v)] ((X0*X0-0*0*X2)*(X1*X1)) (X0*X1*(X0*X1)) rfl,g,Rg.mul_one]
   ·rw[hP,hJ];refine c9 ?_ ?_
    ·show fs σ k=fs σ p*(fs σ k*fs σ k)+ -0*0*fs σ (eg v);rw[show fs σ p*(fs σ k*fs σ k)+ -0*0*fs σ (eg v)=fs σ p*fs σ k*fs σ k from Rg.bJ [fs σ p,fs σ k,fs σ (eg v)] (X0*(X1*X1)+ -0*0*X2) (X0*X1*X1) rfl,g,Rg.one_mul]
    ·show 0=fs σ p*0+ -0*(fs σ k*fs σ k);exact Rg.bJ [fs σ p,fs σ k] 0 (X0*0+ -0*(X1*X1)) rfl
  ·exact .inr (.inr (.inr ⟨fs σ k,g,hJ⟩))
 ·have hJ:hS v σ (nX (dP v) (eg v) (cf (bN 2 v b)))=br (hS v σ (nX (dP v) (eg v) (cf b)))*em (fs σ k):=by rw[e5,BR hσ,ME,GP]
  rcases hk _ k e4 (ne e3)with g|g
  ·exact .inl (.inl ⟨_,by rw[JM hσ];exact g,hJ⟩)
  ·exact .inr (.inl ⟨_,by rw[JM hd];exact g,hJ⟩)
 ·have hJ:hS v σ (nX (dP v) (eg v) (cf (bN 2 v b)))=em (fs σ k):=by rw[e5,GP]
  rcases hk _ k e4 (ne e3)with g|g
  ·refine .inl (.inr ⟨_,?_,hJ⟩);rw[pg]at g;exact g
  ·refine .inr (.inr (.inl ⟨_,?_,hJ⟩));rw[pg]at g;exact g
theorem JY:FH.Eg (MI hd V h2) (MI (xM hd) V h2):=fun b hb h0 =>
 Hw V h2 hs hd hb h0 (-s) (xM hd) (fun q k hq hn=>(Q1.fs hd hq hn).2)
theorem GU:(MI hd V h2).Inv:=fun b hb h0=>by
 have hsg:aW v v.length (cf b)≠0:=by rw[←cY v.length hb V.ro (al _)];exact h0
 rw[h2]at hb hsg;show Ef (hS v s (nX (dP v) (eg v) (cf b))) (hS v s (nX (dP v) (eg v) (cf (bN v.length v b))));rw[h2];have ne: ∀{q:(B1 (dP v)).T},Gd v q≠0→fs s q≠0:=fun {q} g e=>g ((zZ hs hd q).2 e);rcases BO V (by omega) hb hsg with⟨e1,e2,e3,e4⟩|⟨e3,k,e4,e5⟩|⟨_,e3,k,e4,e5⟩
 ·have g:=(Q1.fs hd e4 (ne e3)).1;generalize nX (dP v) (eg v) (cf b)=P at *;generalize nX (dP v) (eg v) (cf (bN 2 v b))=J at *;obtain⟨p,p'⟩:=P;obtain⟨k,k'⟩:=J;change p'=0 at e1;change k'=0 at e2;change fs s p*fs s k=1 at g;subst e1 e2;have hJ:hS v s ((k,0):(B2 (dP v) (eg v)).T)=em (fs s k):=c9 rfl pZ;have hP:hS v s ((p,0):(B2 (dP v) (eg v)).T)=em (fs s p):=c9 rfl pZ;refine .inl ⟨fs s k*fs s k,?_,?_⟩
  ·rw[hP];show(fs s p*fs s p-0*0*fs s (eg v))*(fs s k*fs s k)=1;rw[show(fs s p*fs s p-0*0*fs s (eg v))*(fs s k*fs s k)=fs s p*fs s k*(fs s p*fs s k)from Rg.bJ [fs s p,fs s k,fs s (eg v)] ((X0*X0-0*0*X2)*(X1*X1)) (X0*X1*(X0*X1)) rfl,g,Rg.mul_one]
  ·rw[hP,hJ];refine c9 ?_ ?_
   ·show fs s k=fs s p*(fs s k*fs s k)+ -0*0*fs s (eg v);rw[show fs s p*(fs s k*fs s k)+ -0*0*fs s (eg v)=fs s p*fs s k*fs s k from Rg.bJ [fs s p,fs s k,fs s (eg v)] (X0*(X1*X1)+ -0*0*X2) (X0*X1*X1) rfl,g,Rg.one_mul]
   ·show 0=fs s p*0+ -0*(fs s k*fs s k);exact Rg.bJ [fs s p,fs s k] 0 (X0*0+ -0*(X1*X1)) rfl
 ·exact .inl ⟨_,by rw[JM hd];exact(Q1.fs hd e4 (ne e3)).1,by rw[e5,BR hd,ME,GP]⟩
 ·refine .inr ⟨fs s k,?_,by rw[e5,GP]⟩;have g:=(Q1.fs hd e4 (ne e3)).1;rw[pg]at g;exact g
end
def IP.Ia(I:IR A){d ε e:A.T}(h1:ε*e=1){b:Nat}(hB:I.Z b (ε*ε*d)):IP d where
 a:=I
 p:=I.ext h1 hB
 of {X z} h:=⟨h,by show I.Z X (0*e);rw[Rg.zero_mul];exact I.zero X⟩
 fst h:=h.1
 br {X z} h:=⟨h.1,by show I.Z X (-z.2*e);rw[Rg.neg_mul];exact I.neg h.2⟩
 cc:=by show I.c≤I.c+I.c+b+1;omega
theorem xJ{d:A.T}(x y:(A.ext d).T):nr (x*y)=nr x*nr y:=by show(x.1*y.1+x.2*y.2*d)*(x.1*y.1+x.2*y.2*d) -(x.1*y.2+x.2*y.1)*(x.1*y.2+x.2*y.1)*d=(x.1*x.1-x.2*x.2*d)*(y.1*y.1-y.2*y.2*d);exact Rg.bJ [x.1,x.2,y.1,y.2,d] ((X0*X2+X1*X3*X4)*(X0*X2+X1*X3*X4) -(X0*X3+X1*X2)*(X0*X3+X1*X2)*X4) ((X0*X0-X1*X1*X4)*(X2*X2-X3*X3*X4)) rfl
theorem FZ{u:QR.T}(h:x*u=1):x≠0:=fun e=>by rw[e,Rg.zero_mul]at h;exact aG (show(0:Rat)=1 from h) (by decide)
theorem Zq.PC{q:QR.T}(h:cu.Z X (q*d))(hd:cu.Z X d)(h0:d≠0):LQ q≤X:=Zq.lq h hd h0
section
variable {ε e:QR.T} (h1:ε*e=1) {b:Nat} (hB:cu.Z b (ε*ε*d)) {bε:Nat} (hε:cu.Z bε ε)
include hε
theorem jm.PE{z:(QR.ext d).T}(h:jm (IP.Ia cu h1 hB) X z):LQ z.1≤X∧LQ z.2≤X+bε:=by obtain⟨D,⟨d1,u,hu⟩,z1,z2⟩:=h;have hD:=FZ hu;rw[gq]at z1;rw[mj]at z2;refine⟨Zq.PC z1 d1 hD,Zq.PC (d:=D) ?_ (cu.mono d1 (by omega)) hD⟩;have h3:=cu.mul z2 hε;rw[show z.2*D*e*ε=z.2*D*(ε*e)from Rg.bJ [z.2,D,e,ε] (X0*X1*X2*X3) (X0*X1*(X3*X2)) rfl,h1,Rg.mul_one]at h3;exact h3
variable {β ε' e':(QR.ext d).T} (h1':ε'*e'=1) {b':Nat} (hB':(cu.ext h1 hB).Z b' (ε'*ε'*β)) {bε':Nat} (hε':(cu.ext h1 hB).Z bε' ε')
include hε'
theorem jm.lq2{z:((QR.ext d).ext β).T}(h:jm (IP.Ia (cu.ext h1 hB) h1' hB') X z):LQ z.1.1≤X+X+(bε'+bε+(b+1)+(b+1))∧LQ z.1.2≤X+X+(bε'+bε+(b+1)+(b+1))∧LQ z.2.1≤X+X+(bε'+bε+(b+1)+(b+1))∧LQ z.2.2≤X+X+(bε'+bε+(b+1)+(b+1)):=by
 obtain⟨D,⟨d1,u,hu⟩,z1,z2⟩:=h
 have hn:nr D*nr u=1:=by rw[←xJ,hu];show(1*1-0*0*d:QR.T)=1;exact Rg.bJ [d] (1*1-0*0*X0) 1 rfl
 have hD:=FZ hn
 have hc:(cu.ext h1 hB).c=b+1:=by show 0+0+b+1=b+1;omega
 have dn:cu.Z (X+X+(b+1)) (nr D):=by have hb:(cu.ext h1 hB).Z X (br D):=⟨d1.1,by show cu.Z X (-D.2*e);rw[Rg.neg_mul];exact cu.neg d1.2⟩;have:=((cu.ext h1 hB).mul d1 hb).1;rw[←Ax,hc]at this;exact this
 have key: ∀(w:(QR.ext d).T) (Y:Nat),(cu.ext h1 hB).Z Y (w*D)→X≤Y→LQ w.1≤Y+X+(b+1)+bε∧LQ w.2≤Y+X+(b+1)+bε:=fun w Y hw hXY=>by have hb:(cu.ext h1 hB).Z X (br D):=⟨d1.1,by show cu.Z X (-D.2*e);rw[Rg.neg_mul];exact cu.neg d1.2⟩;have h3:=(cu.ext h1 hB).mul hw hb;rw[Rg.mul_assoc,←Ax,hc]at h3;obtain⟨h4,h5⟩:=h3;rw[gq]at h4;rw[mj]at h5;refine⟨az (Zq.PC h4 (cu.mono dn (by omega)) hD) (by omega),Zq.PC (d:=nr D) ?_ (cu.mono dn (by omega)) hD⟩;have h6:=cu.mul h5 hε;rw[show w.2*nr D*e*ε=w.2*nr D*(ε*e)from Rg.bJ [w.2,nr D,e,ε] (X0*X1*X2*X3) (X0*X1*(X3*X2)) rfl,h1,Rg.mul_one]at h6;exact h6
 rw[gq]at z1;rw[mj]at z2;have k1:=key z.1 X z1 (al _);have h7:=(cu.ext h1 hB).mul z2 hε';rw[show z.2*D*e'*ε'=z.2*D*(ε'*e')from Rg.bJ [z.2,D,e',ε'] (X0*X1*X2*X3) (X0*X1*(X3*X2)) rfl,h1',Rg.mul_one,hc]at h7;have k2:=key z.2 (X+bε'+(b+1)) h7 (by omega);exact⟨by omega,by omega,by omega,by omega⟩
end
theorem wk(q:Rat):((q.den:Int):Rat)≠0:=fun e=>q.den_nz (Int.ofNat_eq_zero.1 (Rat.intCast_inj.1 e))
theorem GC(q:Rat):q*((q.den:Int):Rat)=(q.num:Rat):=by
 have h:q=(q.num:Rat)/((q.den:Int):Rat):=by rw[←Rat.divInt_eq_div,Rat.num_divInt_den]
 have h2:=Rat.div_mul_cancel (a:=(q.num:Rat)) (wk q);rw[←h]at h2;exact h2
theorem Zq.den(h:LQ q≤X):Zq X ((q.den:Int):Rat)∧Zq X (q*((q.den:Int):Rat)):=by
 have h1:L q.num≤X:=by unfold LQ at h;omega
 have h2:(tw q.den).length≤X:=by unfold LQ at h;omega
 refine⟨⟨(q.den:Int),rfl,?_⟩,⟨q.num,GC q,?_⟩⟩
 ·rw[en];exact ej (fx _)<|eb (by decide) h2
 ·exact ej (Fa _) (eb (by decide) h1)
theorem Mn{s:Rat}:LQ s≤LQ (s*s):=by
 have hg:Nat.gcd (s.den*s.den) (s.num*s.num).natAbs=1:=by rw[ey];have:=s.reduced;have h1:Nat.Coprime s.den s.num.natAbs:=Nat.Coprime.symm this;exact Nat.Coprime.mul_left (dj h1 h1)<|dj h1 h1
 have hd0:s.den*s.den≠0:=Nat.mul_ne_zero s.den_nz s.den_nz
 have hn:(s*s).num=s.num*s.num:=by rw[eN,Rat.num_mkRat,af hd0,hg];exact Int.ediv_one _
 have hd:(s*s).den=s.den*s.den:=by rw[eN,Rat.den_mkRat,af hd0,hg];exact Nat.div_one _
 have a1:L s.num≤L (s*s).num:=by
  rw[hn];refine pG ?_;rw[ey];by_cases h:s.num.natAbs=0
  ·omega
  ·exact d7 _ (by omega)
 have a2:(tw s.den).length≤(tw (s*s).den).length:=by rw[hd];refine iE<|Nat.lt_of_le_of_lt ?_<|fx<|s.den*s.den;have:=s.den_nz;exact d7 _ (by omega)
 unfold LQ;omega
def ck(b:NQ)(k:Nat):QR.T:=cf b k
structure uJ (X Xe N:Nat) (e:Nat→QR.T) (a:cF):Prop where
 r: ∀i,i<a.length→ ∃D:QR.T,D≠0∧cu.Z X D∧ ∀j,j<N→ ∀k,cu.Z X (ck (a7 a i j) k*(D*e j))
 e: ∀j,j<N→cu.Z Xe (e j)∧e j≠0
def Mh(k:Nat)(a:cF):Prop:= ∀i j,au k (a7 a i j)
theorem Mh.of{b:cF}(hr:cX N b)(h1:1≤k)(h: ∀i j,i<b.length→j<N→au k (a7 b i j)):Mh k b:=fun i j=>by
 by_cases hi:i<b.length
 ·by_cases hj:j<N
  ·exact h i j hi hj
  ·unfold a7;rw[s9 (by rw[hr i hi];omega)];exact db h1
 ·unfold a7;rw[jX (by omega)];exact db h1
def uI(v:List NQ)(a:cF)(N:Nat)(Q:Nat→NQ→Prop):Prop:= ∀c,c≤N→(∀i j,i<(aB v a c).rows.length→j<N→Q (aB v a c).cols.length (a7 (aB v a c).rows i j))∧Q (aB v a c).cols.length (aB v a c).iN ∧
 (c<N→atR v (aB v a c) c<(aB v a c).rows.length→(∀i j,i<(aB v a c).rows.length→j<N→Q ((aB v a c).cols.length+1) (a7 (eR v (aB v a c) c) i j))∧Q ((aB v a c).cols.length+1) (bN v.length v (pR v (aB v a c) c)))
theorem uI.and{a:cF}{Q':Nat→NQ→Prop}(h:uI v a N Q)(h':uI v a N Q'):uI v a N (fun p b=>Q p b∧Q' p b):=fun c hc =>
 ⟨fun i j hi hj=>⟨(h c hc).1 i j hi hj,(h' c hc).1 i j hi hj⟩,⟨(h c hc).2.1,(h' c hc).2.1⟩,fun h1 h2=>⟨fun i j hi hj=>⟨((h c hc).2.2 h1 h2).1 i j hi hj,((h' c hc).2.2 h1 h2).1 i j hi hj⟩,((h c hc).2.2 h1 h2).2,((h' c hc).2.2 h1 h2).2⟩⟩
theorem uI.of{d:A.T}{I:IP d}{F:FH v d}{a:cF}{e:Nat→A.T}{f:Nat→Nat}(he: ∀j,j<N→I.a.U Xe (e j))
  (h: ∀c,c≤N→ov I F (f (aB v a c).cols.length) N e (aB v a c)∧(c<N→atR v (aB v a c) c<(aB v a c).rows.length→ov I F (f ((aB v a c).cols.length+1)) N e (b7 v (aB v a c) c)∧(∀i,i<(aB v a c).rows.length→iS I (f ((aB v a c).cols.length+1)) N e (fun j=>F.φ (a7 (eR v (aB v a c) c) i j)))∧jm I (f ((aB v a c).cols.length+1)) (F.φ (bN v.length v (pR v (aB v a c) c))))):
  uI v a N (fun p b=>jm I (f p+Xe+I.a.c) (F.φ b)):=fun c hc =>
 ⟨fun i j hi hj=>((h c hc).1.r i hi).Qd hj (he j hj),(h c hc).1.d.mono (by omega),fun h1 h2=>⟨fun i j hi hj=>(((h c hc).2 h1 h2).2.1 i hi).Qd hj (he j hj),((h c hc).2 h1 h2).2.2.mono (by omega)⟩⟩
def tA(v:List NQ)(a:cF)(N:Nat)(F:Nat→Nat):Prop:= ∀c,c≤N→Mh (F (aB v a c).cols.length) (aB v a c).rows∧au (F (aB v a c).cols.length) (aB v a c).iN ∧
 (c<N→atR v (aB v a c) c<(aB v a c).rows.length→Mh (F ((aB v a c).cols.length+1)) (eR v (aB v a c) c)∧au (F ((aB v a c).cols.length+1)) (bN v.length v (pR v (aB v a c) c)))
theorem uI.sz{a:cF}{F:Nat→Nat}(V:qE v)(hr:cX N a)(hl:qH v.length a)(hF: ∀p,1≤F p)(h:uI v a N Q)(hQ: ∀p b,ay v.length b→Q p b→au (F p) b):tA v a N F:=fun c hc=>by have R:=gS V hr hl c;obtain⟨h1,h2,h3⟩:=h c hc;refine⟨Mh.of R.rect (hF _) fun i j hi hj=>hQ _ _ (R.lt i j) (h1 i j hi hj),hQ _ _ R.iN h2,fun g1 g2=>?_⟩;obtain⟨h4,h5⟩:=h3 g1 g2;obtain⟨e1,e2,e3⟩:=yl V R g2;have hlen:=R.len;refine⟨Mh.of e2 (hF _) fun i j hi hj=>hQ _ _ (e3 i j) (h4 i j (by omega) hj),hQ _ _ (fg v.length ((pw R g2).2.2 _ c) V.ro (al _)) h5⟩
theorem BY{K K' X X':Nat}(hK:K≤K')(hX:X≤X'): ∀p,fP K X p≤fP K' X' p
 |0=>hX
 |p+1=>by have:=BY hK hX p;show 3*_+K≤3*_+K';omega
theorem GW(K X:Nat): ∀p,fP K X p≤gP K X p
 |0=>al _
 |p+1=>by have:=GW K X p;show 3*_+K≤3*_+2*_+K;omega
def Fz(X Xe p:Nat):Nat:=gP 168 (X+40) p+fP 168 (X+40) p+2*Xe+108
theorem mu(h:x≠0): ∃u,x*u=1:=by change Rat at x;exact⟨(x⁻¹ :Rat),ef x h⟩
theorem bA(hx:cu.Z X x)(hy:cu.Z Y y):cu.Z (X+Y) (x*y):=Zq.mul hx hy
theorem r6{l:Nat}{a:NQ}(ha:ay l a)(h1:1≤k)(h: ∀i,i<2^l→LQ (cf a i)≤k):au k a:=fun i=>by
 by_cases hi:i<2^l
 ·exact h i hi
 ·have:cf a i=0:=aV ha.le i (by omega);show LQ (cf a i)≤k;rw[this,jZ];exact h1
theorem uJ.iN{d:A.T}(I:IP d)(hX:1≤X):jm I X (1:(A.ext d).T):=⟨1,⟨I.a.mono I.a.one hX,1,Rg.mul_one 1⟩,by
 rw[mq,Rg.mul_one]
 exact I.p.mono I.p.one hX⟩
section
variable (V:fC m v) {a:cF} (hr:cX N a) (hl:qH v.length a) (hM:uJ X Xe N e a) (hX:1≤X) (hx:Xe≤X)
include V hr hl hM hX hx
theorem HE(h0:v.length=0):tA v a N (Fz X Xe):=by
 have h1:(1:QR.T)*1=1:=Rg.mul_one 1;have hB:cu.Z 0 ((1:QR.T)*1*0):=by rw[Rg.mul_zero];exact Zq.zero 0
 let I:IP (0:QR.T):=IP.Ia cu h1 hB
 have he: ∀j,j<N→I.a.U Xe (e j):=fun j hj=>⟨(hM.e j hj).1,mu (hM.e j hj).2⟩
 have hz:ov I (Qb V h0) X N e ⟨a,[],1,[1]⟩:=by
  refine⟨fun i hi=>?_,by rw[(Qb V h0).one];exact uJ.iN I hX⟩;obtain⟨D,d0,d1,d2⟩:=hM.r i hi;refine⟨D,⟨d1,mu d0⟩,fun j hj=>⟨?_,?_⟩⟩
  ·rw[gq];exact d2 j hj 0
  ·rw[mj];show cu.Z X ((0:QR.T)*(D*e j)*1);rw[Rg.zero_mul,Rg.zero_mul];exact Zq.zero X
 have hc:I.p.c=1:=rfl;refine(uI.of he (ov.red (K:=168) V.a (L4 V h0) hr hl he hx hz (by omega))).sz V.a hr hl (fun p=>by unfold Fz;omega) fun p b hb h=>r6 hb (by unfold Fz;omega) fun i hi=>?_;rw[h0]at hi;obtain rfl:i=0:=by have:i<1:=hi;omega
 have g:=(jm.PE h1 hB (bε:=1) Zq.one h).1;have h2:=BY (al 168) (show X≤X+40 by omega) p;have h3:=GW 168 (X+40) p;have hac:I.a.c=0:=rfl;refine az (show LQ (cf b 0)≤_ from g) ?_;rw[hac];unfold Fz;omega
theorem HD(h0:v.length=1)(hρ:dk 16 v):tA v a N (Fz X Xe):=by
 obtain⟨z1,z2⟩:=Zq.den (hρ 0 0);have zn:=wk ((v.getD 0 []).getD 0 0);obtain⟨δ,hδ⟩: ∃δ:QR.T,δ=((((v.getD 0 []).getD 0 0).den:Int):Rat):=⟨_,rfl⟩;rw[←hδ]at z1 z2 zn;obtain⟨e0,h1⟩:=mu zn
 have hB:cu.Z 32 (δ*δ*dP v):=by rw[show δ*δ*dP v=δ*(dP v*δ)from Rg.bJ [δ,dP v] (X0*X0*X1) (X0*(X1*X0)) rfl];exact bA (Y:=16) z1 z2
 let I:IP (dP v):=IP.Ia cu h1 hB
 have he: ∀j,j<N→I.a.U Xe (e j):=fun j hj=>⟨(hM.e j hj).1,mu (hM.e j hj).2⟩
 have hz:ov I (Qa V h0) (X+16) N e ⟨a,[],1,[1]⟩:=by
  refine⟨fun i hi=>?_,by rw[(Qa V h0).one];exact uJ.iN I (by omega)⟩;obtain⟨D,d0,d1,d2⟩:=hM.r i hi;refine⟨D*δ,⟨bA d1 z1,?_⟩,fun j hj=>⟨?_,?_⟩⟩
  ·obtain⟨u,hu⟩:=mu d0;exact⟨u*e0,by rw[show D*δ*(u*e0)=D*u*(δ*e0)from Rg.bJ [D,δ,u,e0] (X0*X1*(X2*X3)) (X0*X2*(X1*X3)) rfl,hu,h1,Rg.mul_one]⟩
  ·rw[gq];show cu.Z _ (ck (a7 a i j) 0*(D*δ*e j));rw[show ck (a7 a i j) 0*(D*δ*e j)=ck (a7 a i j) 0*(D*e j)*δ from Rg.bJ [ck (a7 a i j) 0,D,δ,e j] (X0*(X1*X2*X3)) (X0*(X1*X3)*X2) rfl];exact bA (d2 j hj 0) z1
  ·rw[mj];show cu.Z _ (ck (a7 a i j) 1*(D*δ*e j)*e0);rw[show ck (a7 a i j) 1*(D*δ*e j)*e0=ck (a7 a i j) 1*(D*e j)*(δ*e0)from Rg.bJ [ck (a7 a i j) 1,D,δ,e j,e0] (X0*(X1*X2*X3)*X4) (X0*(X1*X3)*(X2*X4)) rfl,h1,Rg.mul_one];exact cu.mono (d2 j hj 1) (by omega)
 have hc:I.p.c=33:=rfl;refine(uI.of he (ov.red (K:=168) V.a (L3 V h0) hr hl he (by omega) hz (by omega))).sz V.a hr hl (fun p=>by unfold Fz;omega) fun p b hb h=>r6 hb (by unfold Fz;omega) fun i hi=>?_;rw[h0]at hi;have hi:i<2:=hi;obtain⟨g1,g2⟩:=jm.PE h1 hB z1 h;have h2:=BY (al 168) (show X+16≤X+40 by omega) p;have h3:=GW 168 (X+40) p;have hac:I.a.c=0:=rfl;rw[hac]at g1 g2;rcases i with _|_|i
 ·refine az (show LQ (cf b 0)≤_ from g1) ?_;unfold Fz;omega
 ·refine az (show LQ (cf b 1)≤_ from g2) ?_;unfold Fz;omega
 ·omega
end
theorem uD{q:QR.T}(h:LQ q≤X): ∃δ e:QR.T,δ*e=1∧cu.Z X δ∧cu.Z X (q*δ):=by obtain⟨z1,z2⟩:=Zq.den h;obtain⟨e,he⟩:=mu (x:=((((show Rat from q).den:Int):Rat))) (wk q);exact⟨_,e,he,z1,z2⟩
theorem Em(hx:cu.Z X x)(hy:cu.Z X y):cu.Z (X+1) (x+y):=Zq.add hx hy
theorem cG(hx:cu.Z X x)(h:X≤Y):cu.Z Y x:=Zq.mono hx h
section
variable (V:fC m v) {a:cF} (hr:cX N a) (hl:qH v.length a) (hM:uJ X Xe N e a) (hX:1≤X) (hx:Xe≤X)
include V hr hl hM hX hx
theorem HC(h0:v.length=2)(hρ:dk 8 v)(hns: ¬ ∃s:QR.T,s≠0∧s*s=dP v):tA v a N (Fz X Xe):=by
 obtain⟨δ,e0,h1,z1,z2⟩:=uD (q:=dP v) (hρ 0 0);obtain⟨q0,f0,u0,y0,y0'⟩:=uD (q:=(eg v).1) (hρ 1 0);obtain⟨q1,f1,u1,y1,y1'⟩:=uD (q:=(eg v).2) (hρ 1 1)
 have hB:cu.Z 16 (δ*δ*dP v):=by rw[show δ*δ*dP v=δ*(dP v*δ)from Rg.bJ [δ,dP v] (X0*X0*X1) (X0*(X1*X0)) rfl];exact bA (Y:=8) z1 z2
 have hE:δ*q0*q1*(e0*f0*f1)=1:=by rw[show δ*q0*q1*(e0*f0*f1)=δ*e0*(q0*f0)*(q1*f1)from Rg.bJ [δ,q0,q1,e0,f0,f1] (X0*X1*X2*(X3*X4*X5)) (X0*X3*(X1*X4)*(X2*X5)) rfl,h1,u0,u1,Rg.mul_one,Rg.mul_one]
 have h1':em (d:=dP v) (δ*q0*q1)*em (e0*f0*f1)=1:=by rw[←aY,hE,mq]
 have zE:cu.Z 24 (δ*q0*q1):=bA (X:=16) (Y:=8) (bA (X:=8) (Y:=8) z1 y0) y1
 have hB':(cu.ext h1 hB).Z 48 (em (d:=dP v) (δ*q0*q1)*em (δ*q0*q1)*eg v):=by
  rw[←aY,Rg.mul_comm];constructor
  ·rw[gq,show(eg v).1*(δ*q0*q1*(δ*q0*q1))=(eg v).1*q0*q0*(q1*q1)*(δ*δ)from Rg.bJ [(eg v).1,δ,q0,q1] (X0*(X1*X2*X3*(X1*X2*X3))) (X0*X2*X2*(X3*X3)*(X1*X1)) rfl];exact bA (X:=32) (Y:=16) (bA (X:=16) (Y:=16) (bA (X:=8) (Y:=8) y0' y0) (bA (X:=8) (Y:=8) y1 y1)) (bA (X:=8) (Y:=8) z1 z1)
  ·rw[mj,show(eg v).2*(δ*q0*q1*(δ*q0*q1))*e0=(eg v).2*q1*q1*(q0*q0)*δ*(δ*e0)from Rg.bJ [(eg v).2,δ,q0,q1,e0] (X0*(X1*X2*X3*(X1*X2*X3))*X4) (X0*X3*X3*(X2*X2)*X1*(X1*X4)) rfl,h1,Rg.mul_one];exact cG (bA (X:=32) (Y:=8) (bA (X:=16) (Y:=16) (bA (X:=8) (Y:=8) y1' y1) (bA (X:=8) (Y:=8) y0 y0)) z1) (by decide)
 let I:IP (eg v):=IP.Ia (cu.ext h1 hB) h1' hB'
 have emZ: ∀{Y:Nat} {z:QR.T},cu.Z Y z→I.a.Z Y (em z):=fun {Y z} hz=>⟨hz,by
  show cu.Z Y ((0:QR.T)*e0)
  rw[Rg.zero_mul];exact Zq.zero Y⟩
 have emU: ∀{z:QR.T},z≠0→ ∃u,em (d:=dP v) z*u=1:=fun {z} hz=>by obtain⟨u,hu⟩:=mu hz;exact⟨em u,by rw[←aY,hu,mq]⟩
 have he: ∀j,j<N→I.a.U Xe (em (e j)):=fun j hj=>⟨emZ (hM.e j hj).1,emU (hM.e j hj).2⟩
 have hz:ov I (Au V h0) (X+40) N (fun j=>em (e j)) ⟨a,[],1,[1]⟩:=by
  refine⟨fun i hi=>?_,by rw[(Au V h0).one];exact uJ.iN I (by omega)⟩;obtain⟨D,d0,d1,d2⟩:=hM.r i hi;refine⟨em (D*(δ*q0*q1*δ)),⟨emZ (cG (bA d1 (bA (X:=24) (Y:=8) zE z1)) (by omega)),?_⟩,fun j hj=>?_⟩
  ·obtain⟨u,hu⟩:=mu d0;refine⟨em (u*(e0*f0*f1*e0)),?_⟩;rw[←aY,show D*(δ*q0*q1*δ)*(u*(e0*f0*f1*e0))=D*u*(δ*q0*q1*(e0*f0*f1))*(δ*e0)from Rg.bJ [D,δ,q0,q1,u,e0,f0,f1] (X0*(X1*X2*X3*X1)*(X4*(X5*X6*X7*X5))) (X0*X4*(X1*X2*X3*(X5*X6*X7))*(X1*X5)) rfl,hu,hE,h1,Rg.mul_one,Rg.mul_one,mq]
  ·have d2:=d2 j hj
   dsimp only
   rw[←aY];generalize hc:(Au V h0).φ (a7 a i j)=z;have c0:z.1.1=ck (a7 a i j) 0:=by rw[←hc];rfl
   have c1:z.1.2=ck (a7 a i j) 1:=by rw[←hc];rfl
   have c2:z.2.1=ck (a7 a i j) 2:=by rw[←hc];rfl
   have c3:z.2.2=ck (a7 a i j) 3:=by rw[←hc];rfl
   have g0:=d2 0;have g1:=d2 1;have g2:=d2 2;have g3:=d2 3;rw[←c0]at g0;rw[←c1]at g1;rw[←c2]at g2;rw[←c3]at g3;refine⟨⟨?_,?_⟩,?_⟩
   ·rw[gq,gq,show z.1.1*(D*(δ*q0*q1*δ)*e j)=z.1.1*(D*e j)*(δ*q0*q1*δ)from Rg.bJ [z.1.1,D,δ*q0*q1*δ,e j] (X0*(X1*X2*X3)) (X0*(X1*X3)*X2) rfl];exact cG (bA g0 (bA (X:=24) (Y:=8) zE z1)) (by omega)
   ·rw[gq,mj,show z.1.2*(D*(δ*q0*q1*δ)*e j)*e0=z.1.2*(D*e j)*(δ*q0*q1)*(δ*e0)from Rg.bJ [z.1.2,D,δ*q0*q1,e j,δ,e0] (X0*(X1*(X2*X4)*X3)*X5) (X0*(X1*X3)*X2*(X4*X5)) rfl,h1,Rg.mul_one];exact cG (bA g1 zE) (by omega)
   ·rw[mj,Rg.mul_assoc,←aY,show D*(δ*q0*q1*δ)*e j*(e0*f0*f1)=D*e j*δ*(δ*q0*q1*(e0*f0*f1))from Rg.bJ [D,δ*q0*q1,δ,e j,e0*f0*f1] (X0*(X1*X2)*X3*X4) (X0*X3*X2*(X1*X4)) rfl,hE,Rg.mul_one];constructor
    ·rw[gq,show z.2.1*(D*e j*δ)=z.2.1*(D*e j)*δ from (Rg.mul_assoc _ _ _).symm];exact cG (bA g2 z1) (by omega)
    ·rw[mj,show z.2.2*(D*e j*δ)*e0=z.2.2*(D*e j)*(δ*e0)from Rg.bJ [z.2.2,D*e j,δ,e0] (X0*(X1*X2)*X3) (X0*X1*(X2*X3)) rfl,h1,Rg.mul_one];exact cG g3 (by omega)
 have hc:I.p.c=83:=rfl;have hac:I.a.c=17:=rfl;refine(uI.of he (ov.red (K:=168) V.a (L2 V h0 hns) hr hl he (by omega) hz (by omega))).sz V.a hr hl (fun p=>by unfold Fz;omega) fun p b hb h=>r6 hb (by unfold Fz;omega) fun i hi=>?_;rw[h0]at hi;have hi:i<4:=hi;have zE':(cu.ext h1 hB).Z 24 (em (δ*q0*q1)):=emZ zE;obtain⟨g0,g1,g2,g3⟩:=jm.lq2 h1 hB z1 h1' hB' zE' h;have h3:=GW 168 (X+40) p;rw[hac]at g0 g1 g2 g3;rcases i with _|_|_|_|i
 ·refine az (show LQ (cf b 0)≤_ from g0) ?_;unfold Fz;omega
 ·refine az (show LQ (cf b 1)≤_ from g1) ?_;unfold Fz;omega
 ·refine az (show LQ (cf b 2)≤_ from g2) ?_;unfold Fz;omega
 ·refine az (show LQ (cf b 3)≤_ from g3) ?_;unfold Fz;omega
 ·omega
end
theorem GO{p S:Rat}(hs:0<S)(h1:LQ (p+S*q)≤k)(h2:LQ (p+ -S*q)≤m)(hS:LQ S≤8):LQ p≤k+m+12∧LQ q≤k+m+12:=by
 have two:LQ 2≤1:=by have h1:=MY 2;have h2:=FQ (z:=2) (k:=1) (by decide);exact az h1 (by omega)
 have hS0:S≠0:=fun e=>by rw[e]at hs;exact aG hs (by decide)
 have h2S:2*S≠0:=fun e=>by
  rcases eo.1 e with g|g
  ·exact aG g (by decide)
  ·exact hS0 g
 have a1:=Cn (q:=2) (k:=1) (by decide) two;have a2:LQ (1/(2*S))≤10:=Cn (k:=9) h2S (by have:=uK 2 S;omega);have b1:=yO (p+S*q) (p+ -S*q);have b2:=FR (p+S*q) (p+ -S*q);have e1:p=(p+S*q+(p+ -S*q))*(1/2):=by grind
 have e2:q=(p+S*q-(p+ -S*q))*(1/(2*S)):=by
  have:=ef (2*S) h2S;rw[Rat.div_def]
  grind
 have c1:=uK (p+S*q+(p+ -S*q)) (1/2);have c2:=uK (p+S*q-(p+ -S*q)) (1/(2*S));rw[←e1]at c1;rw[←e2]at c2;constructor<;>omega
theorem CI(hρ:dk 8 v)(hσ:LQ σ≤8): ∃(E G τ:QR.T) (hE:E*G=1) (hB:cu.Z 49 (E*E*fs σ (eg v))),cu.Z 24 E∧cu.Z 8 τ∧cu.Z 8 (σ*τ)∧ ∃t,τ*t=1:=by
 obtain⟨q0,f0,u0,y0,y0'⟩:=uD (q:=(eg v).1) (hρ 1 0);obtain⟨q1,f1,u1,y1,y1'⟩:=uD (q:=(eg v).2) (hρ 1 1);obtain⟨τ,t,ut,yt,yt'⟩:=uD (q:=σ) hσ
 have hE:q0*q1*τ*(f0*f1*t)=1:=by rw[show q0*q1*τ*(f0*f1*t)=q0*f0*(q1*f1)*(τ*t)from Rg.bJ [q0,q1,τ,f0,f1,t] (X0*X1*X2*(X3*X4*X5)) (X0*X3*(X1*X4)*(X2*X5)) rfl,u0,u1,ut,Rg.mul_one,Rg.mul_one]
 refine⟨q0*q1*τ,f0*f1*t,τ,hE,?_,bA (X:=16) (Y:=8) (bA (X:=8) (Y:=8) y0 y1) yt,yt,yt',t,ut⟩;show cu.Z 49 (q0*q1*τ*(q0*q1*τ)*((eg v).1+σ*(eg v).2));rw[show q0*q1*τ*(q0*q1*τ)*((eg v).1+σ*(eg v).2)=(eg v).1*q0*q0*(q1*q1)*(τ*τ)+(eg v).2*q1*q1*(q0*q0)*(τ*(σ*τ))from Rg.bJ [q0,q1,τ,(eg v).1,σ,(eg v).2] (X0*X1*X2*(X0*X1*X2)*(X3+X4*X5)) (X3*X0*X0*(X1*X1)*(X2*X2)+X5*X1*X1*(X0*X0)*(X2*(X4*X2))) rfl];refine Em (X:=48) ?_ ?_
 ·exact bA (X:=32) (Y:=16) (bA (X:=16) (Y:=16) (bA (X:=8) (Y:=8) y0' y0) (bA (X:=8) (Y:=8) y1 y1)) (bA (X:=8) (Y:=8) yt yt)
 ·exact bA (X:=32) (Y:=16) (bA (X:=16) (Y:=16) (bA (X:=8) (Y:=8) y1' y1) (bA (X:=8) (Y:=8) y0 y0)) (bA (X:=8) (Y:=8) yt yt')
section
variable (V:fC m v) {a:cF} (hM:uJ X Xe N e a) (hX:1≤X)
include hM hX
theorem CH(h0:v.length=2)(hd:σ*σ=dP v){G τ:QR.T}(hE:E*G=1)(hB:cu.Z 49 (E*E*fs σ (eg v)))(zE:cu.Z 24 E)(zt:cu.Z 8 τ)(zs:cu.Z 8 (σ*τ))(ht: ∃t,τ*t=1):
  ov (IP.Ia cu hE hB) (MI hd V h0) (X+40) N e ⟨a,[],1,[1]⟩:=by
 refine⟨fun i hi=>?_,by rw[(MI hd V h0).one];exact uJ.iN _ (by omega)⟩;obtain⟨D,d0,d1,d2⟩:=hM.r i hi;refine⟨D*(E*τ),⟨cG (bA d1 (bA (X:=24) (Y:=8) zE zt)) (by omega),?_⟩,fun j hj=>?_⟩
 ·obtain⟨u,hu⟩:=mu d0;obtain⟨t,ht⟩:=ht;exact⟨u*(G*t),by rw[show D*(E*τ)*(u*(G*t))=D*u*(E*G)*(τ*t)from Rg.bJ [D,E,τ,u,G,t] (X0*(X1*X2)*(X3*(X4*X5))) (X0*X3*(X1*X4)*(X2*X5)) rfl,hu,hE,ht,Rg.mul_one,Rg.mul_one]⟩
 ·have d2:=d2 j hj;have c0:((MI hd V h0).φ (a7 a i j)).1=ck (a7 a i j) 0+σ*ck (a7 a i j) 1:=rfl;have c1:((MI hd V h0).φ (a7 a i j)).2=ck (a7 a i j) 2+σ*ck (a7 a i j) 3:=rfl
  dsimp only
  generalize (MI hd V h0).φ (a7 a i j)=z at c0 c1;have g0:=d2 0;have g1:=d2 1;have g2:=d2 2;have g3:=d2 3;generalize ck (a7 a i j) 0=x0 at *;generalize ck (a7 a i j) 1=x1 at *;generalize ck (a7 a i j) 2=x2 at *;generalize ck (a7 a i j) 3=x3 at *;constructor
  ·rw[gq,c0,show(x0+σ*x1)*(D*(E*τ)*e j)=x0*(D*e j)*(E*τ)+x1*(D*e j)*(E*(σ*τ))from Rg.bJ [x0,σ,x1,D,E,τ,e j] ((X0+X1*X2)*(X3*(X4*X5)*X6)) (X0*(X3*X6)*(X4*X5)+X2*(X3*X6)*(X4*(X1*X5))) rfl];exact cG (Em (bA g0 (bA (X:=24) (Y:=8) zE zt)) (bA g1 (bA (X:=24) (Y:=8) zE zs))) (by omega)
  ·rw[mj,c1,show(x2+σ*x3)*(D*(E*τ)*e j)*G=(x2*(D*e j)*τ+x3*(D*e j)*(σ*τ))*(E*G)from Rg.bJ [x2,σ,x3,D*e j,E,τ,G] ((X0+X1*X2)*(X3*(X4*X5))*X6) ((X0*X3*X5+X2*X3*(X1*X5))*(X4*X6)) rfl |> (show(x2+σ*x3)*(D*(E*τ)*e j)*G=(x2+σ*x3)*(D*e j*(E*τ))*G from Rg.bJ [x2+σ*x3,D,E*τ,e j,G] (X0*(X1*X2*X3)*X4) (X0*(X1*X3*X2)*X4) rfl).trans,hE,Rg.mul_one];exact cG (Em (bA g2 zt) (bA g3 zs)) (by omega)
variable (hr:cX N a) (hl:qH v.length a) (hx:Xe≤X)
include V hr hl hx
theorem Ab(h0:v.length=2)(hρ:dk 8 v){s:QR.T}(hs:(0:Rat)<s)(hd:s*s=dP v):tA v a N (Fz X Xe):=by
 have ls:LQ s≤8:=by have h1:=Mn (s:=(s:Rat));have h2:LQ (dP v)≤8:=hρ 0 0;rw[←hd]at h2;exact az h1 h2
 have ls':LQ (-s)≤8:=by have h1:=Cm (s:Rat);have h1:LQ (-s)=LQ s:=h1;omega
 obtain⟨E,G,τ,hE,hB,zE,zt,zs,ht⟩:=CI hρ ls;obtain⟨E',G',τ',hE',hB',zE',zt',zs',ht'⟩:=CI hρ ls';have st:=CH V hM hX h0 hd hE hB zE zt zs ht;have st':=CH V hM hX h0 (xM hd) hE' hB' zE' zt' zs' ht';have he: ∀j,j<N→cu.U Xe (e j):=fun j hj=>⟨(hM.e j hj).1,mu (hM.e j hj).2⟩;have r1:=uI.of (I:=IP.Ia cu hE hB) he (ov.red (K:=168) V.a (GU V h0 hs hd) hr hl he (by omega) st (show 50+50+2≤168 by decide));have r2:=uI.of (I:=IP.Ia cu hE' hB') he (ov.PT (K:=168) (kk:=100) (I':=IP.Ia cu hE hB) (I:=IP.Ia cu hE' hB') V.a rfl (GU V h0 hs hd) (JY V h0 hs hd) hr hl he (by omega) st st' (show 50+50+2≤168 by decide) (show 50+0+0≤100 by decide) (show 50+50+0≤100 by decide) (show 100+50+2≤168 by decide));refine(r1.and r2).sz V.a hr hl (fun p=>by unfold Fz;omega) fun p b hb h=>r6 hb (by unfold Fz;omega) fun i hi=>?_;rw[h0]at hi;have hi:i<4:=hi;obtain⟨h1,h2⟩:=h;obtain⟨a1,a2⟩:=jm.PE hE hB zE h1;obtain⟨b1,b2⟩:=jm.PE hE' hB' zE' h2;obtain⟨S,hS⟩: ∃S:Rat,S=s:=⟨_,rfl⟩;have k1:=GO (p:=cf b 0) (q:=cf b 1) (S:=s) hs a1 b1 ls;have k2:=GO (p:=cf b 2) (q:=cf b 3) (S:=s) hs a2 b2 ls;have hac:(IP.Ia cu hE hB).a.c=0:=rfl;have hac':(IP.Ia cu hE' hB').a.c=0:=rfl;rw[hac,hac']at k1 k2;rcases i with _|_|_|_|i
 ·refine az k1.1 ?_;unfold Fz;omega
 ·refine az k1.2 ?_;unfold Fz;omega
 ·refine az k2.1 ?_;unfold Fz;omega
 ·refine az k2.2 ?_;unfold Fz;omega
 ·omega
theorem xa(l2:v.length≤2)(hρ:dk 16 v)(hρ2:v.length=2→dk 8 v):tA v a N (Fz X Xe):=by
 by_cases h0:v.length=0
 ·exact HE V hr hl hM hX hx h0
 by_cases h1:v.length=1
 ·exact HD V hr hl hM hX hx h1 hρ
 have h2:v.length=2:=by omega
 by_cases hs: ∃s:QR.T,s≠0∧s*s=dP v
 ·obtain⟨s,hs0,hd⟩:=hs;by_cases hp:(0:Rat)<s
  ·exact Ab V hM hX hr hl hx h2 (hρ2 h2) hp hd
  ·refine Ab V hM hX hr hl hx h2 (hρ2 h2) (s:= -s) ?_ (xM hd);change Rat at s;have hs0:s≠0:=hs0;show 0< -s
   grind
 ·exact HC V hr hl hM hX hx h2 (hρ2 h2) hs
end
def cq(x:Rat):QR.T:=x
def iP(X:Nat)(D:QR.T)(z:Cf):Prop:= ∀i,cu.Z X (cq (z i)*D)
theorem Cr(X:Nat):cu.Z X (0:QR.T):=Zq.zero X
theorem On(h:cu.Z X x):cu.Z X (-x):=Zq.neg h
theorem KT:cu.Z 1 (1:QR.T):=Zq.one
theorem dt(hx:x≠0)(hy:y≠0):x*y≠0:=fun e=>by
 rcases Hg e with g|g
 ·exact hx g
 ·exact hy g
theorem qb:(1:QR.T)≠0:=fun e=>aG (show(1:Rat)=0 from e) (by decide)
theorem iP.mono{D:QR.T}{z:Cf}(h:iP X D z)(hx:X≤Y):iP Y D z:=fun i=>cG (h i) hx
theorem iP.scale{D:QR.T}{z:Cf}(h:iP X D z)(ht:cu.Z Y t):iP (X+Y) (D*t) z:=fun i=>by rw[←Rg.mul_assoc];exact bA (h i) ht
theorem iP.Nn{D:QR.T}{z:Cf}(h:iP X D z)(ht:cu.Z Y t):iP (X+Y) (t*D) z:=by rw[Rg.mul_comm];exact h.scale ht
theorem iP.zero(X:Nat)(D:QR.T):iP X D zC:=fun i=>by show cu.Z X ((0:QR.T)*D);rw[Rg.zero_mul];exact Cr X
theorem iP.add{D:QR.T}{x y:Cf}(hx:iP X D x)(hy:iP X D y):iP (X+1) D (fun i=>x i+y i):=fun i=>by show cu.Z (X+1) ((cq (x i)+cq (y i))*D);rw[Rg.add_mul];exact Em (hx i)<|hy i
theorem iP.sub{D:QR.T}{x y:Cf}(hx:iP X D x)(hy:iP X D y):iP (X+1) D (fun i=>x i-y i):=fun i=>by show cu.Z (X+1) (cq (x i-y i)*D);rw[show cq (x i-y i)=cq (x i)+ -cq (y i)from Rat.sub_eq_add_neg ..,Rg.add_mul,Rg.neg_mul];exact Em (hx i)<|On<|hy i
theorem iP.neg{D:QR.T}{x:Cf}(hx:iP X D x):iP X D (fun i=> -x i):=fun i=>by show cu.Z X (-cq (x i)*D);rw[Rg.neg_mul];exact On<|hx i
theorem iP.hi{D:QR.T}{x:Cf}(l:Nat)(hx:iP X D x):iP X D (bG l x):=fun i=>hx _
def Rl(u:Nat):Nat→Nat
 |0=>1
 |l+1=>Rl u l+Rl u l+u+1
def Qn(u:Nat)(v:List NQ):Prop:= ∀j,j<v.length→ ∃B:QR.T,B≠0∧cu.Z u B∧iP u B (cf (v.getD j []))
theorem iP.mul{u:Nat}{v:List NQ}(hv:Qn u v): ∀l,l≤v.length→ ∃ρ:QR.T,ρ≠0∧cu.Z (Rl u l) ρ∧ ∀(X Y:Nat) (D E:QR.T) (x y:Cf),iP X D x→iP Y E y→iP (X+Y+Rl u l) (D*E*ρ) (mulC v l x y)
 |0,_=>⟨1,qb,KT,fun X Y D E x y hx hy i=>by
  rw[Rg.mul_one];show cu.Z (X+Y+1) (cq (if i=0 then x 0*y 0 else 0)*(D*E));split
  ·show cu.Z (X+Y+1) (cq (x 0)*cq (y 0)*(D*E));rw[show cq (x 0)*cq (y 0)*(D*E)=cq (x 0)*D*(cq (y 0)*E)from Rg.bJ [cq (x 0),cq (y 0),D,E] (X0*X1*(X2*X3)) (X0*X2*(X1*X3)) rfl];exact cG (bA (hx 0) (hy 0)) (by omega)
  ·show cu.Z (X+Y+1) ((0:QR.T)*(D*E))
   rw[Rg.zero_mul];exact Cr _⟩
 |l+1,hl=>by
  obtain⟨ρ,r0,rz,ih⟩:=iP.mul hv l (by omega);obtain⟨B,b0,bz,hB⟩:=hv l (by omega);have er:Rl u (l+1)=Rl u l+Rl u l+u+1:=rfl;refine⟨ρ*(ρ*B),dt r0 (dt r0 b0),cG (bA rz (bA rz bz)) (by omega),fun X Y D E x y hx hy i=>?_⟩;have h1:=ih X Y D E x y hx hy;have h2:=ih X Y D E _ _ (hx.hi l) (hy.hi l);have h3:=ih _ u _ B _ _ h2 hB;have h4:=ih X Y D E _ _ hx (hy.hi l);have h5:=ih X Y D E _ _ (hx.hi l) hy;have s:=bA rz bz;rw[show D*E*(ρ*(ρ*B))=D*E*ρ*(ρ*B)from (Rg.mul_assoc _ _ _).symm];show cu.Z _ (cq (if i<2^l then mulC v l x y i+mulC v l (mulC v l (bG l x) (bG l y)) (cf (v.getD l [])) i else mulC v l x (bG l y) (i-2^l)+mulC v l (bG l x) y (i-2^l))*(D*E*ρ*(ρ*B)));split
  ·have a1:=h1.scale s i;have a2:=h3 i;rw[show D*E*ρ*B*ρ=D*E*ρ*(ρ*B)from Rg.bJ [D*E*ρ,B,ρ] (X0*X1*X2) (X0*(X2*X1)) rfl]at a2;show cu.Z _ ((cq (mulC v l x y i)+cq (mulC v l (mulC v l (bG l x) (bG l y)) (cf (v.getD l [])) i))*_);rw[Rg.add_mul];exact cG (Em (cG a1 (show X+Y+Rl u l+(Rl u l+u)≤X+Y+Rl u l+u+Rl u l by omega)) a2) (by omega)
  ·have a1:=h4.scale s (i-2^l);have a2:=h5.scale s (i-2^l);show cu.Z _ ((cq (mulC v l x (bG l y) (i-2^l))+cq (mulC v l (bG l x) y (i-2^l)))*_);rw[Rg.add_mul];exact cG (Em a1 a2) (by omega)
theorem xN(v:List NQ)(q:Rat): ∀(l:Nat) (x:Cf),mulC v l x (sB q)=fun i=>if i<2^l then x i*q else 0
 |0,x=>funext fun i=>by
  show(if i=0 then x 0*q else 0)=if i<1 then x i*q else 0
  by_cases h:i=0
  ·rw[ah h,ah (by omega),h]
  ·rw[af h,af (by omega)]
 |l+1,x=>funext fun i=>by
  have hz:bG l (sB q)=zC:=funext fun k=>by have:0<2^l:=Nat.pow_pos (by decide);exact af (by omega)
  have z1:mulC v l (mulC v l (bG l x) (bG l (sB q))) (cf (v.getD l []))=zC:=by rw[hz,b6 v l (a:=bG l x) (b:=zC) (.inr fun _ _=>rfl),b6 v l (a:=zC) (.inl fun _ _=>rfl)]
  have z2:mulC v l x (bG l (sB q))=zC:=by rw[hz,b6 v l (a:=x) (b:=zC) (.inr fun _ _=>rfl)]
  show(if i<2^l then mulC v l x (sB q) i+mulC v l (mulC v l (bG l x) (bG l (sB q))) (cf (v.getD l [])) i else mulC v l x (bG l (sB q)) (i-2^l)+mulC v l (bG l x) (sB q) (i-2^l))=_;rw[z1,z2,xN v q l x,xN v q l (bG l x)];have e:2^(l+1)=2^l+2^l:=by rw[Nat.pow_succ];omega
  by_cases h:i<2^l
  ·rw[ah h,ah (by omega)]
   dsimp only
   rw[ah h];exact e6 _
  ·rw[af h];show(0:Rat)+(if i-2^l<2^l then x (2^l+(i-2^l))*q else 0)=_;rw[Rat.zero_add,show 2^l+(i-2^l)=i by omega];by_cases h2:i<2^(l+1)
   ·rw[ah h2,ah (by omega)]
   ·rw[af h2,af (by omega)]
theorem NW(q:Rat):cf (nZ q)=sB q:=by
 unfold nZ;split
 ·rename_i h;rw[h]
  exact funext fun i=>by
   show(0:Rat)=if i=0 then 0 else 0
   split<;>rfl
 ·exact FL q
def CZ(X:Nat)(D:QR.T)(a:NQ):Prop:=iP X D (cf a)
section
variable (V:fC m v) {D:QR.T} {a:NQ} (ha:ay v.length a)
include V ha
omit V in
theorem CZ.add(hb:ay v.length b)(h:CZ X D a)(g:CZ X D b):CZ (X+1) D (uE a b):=by unfold CZ uE;rw[bb (ha.plus hb),show cf (aS a b)=fun i=>cf a i+cf b i from funext fun i=>eP a b i];exact iP.add h g
omit V in
theorem CZ.sub(hb:ay v.length b)(h:CZ X D a)(g:CZ X D b):CZ (X+1) D (fq a b):=by unfold CZ;rw[G7 ha hb];exact iP.sub h g
omit V in
theorem CZ.neg(h:CZ X D a):CZ X D (gk a):=by unfold CZ gk;rw[bb ha.minus,show cf (aP a)=fun i=> -cf a i from funext fun i=>jl a i];exact iP.neg h
theorem CZ.LC(hq:cu.Z Y (cq q*t))(h:CZ X D a):CZ (X+Y) (D*t) (et v a (nZ q)):=by
 have hb:ay v.length (nZ q):=(kB v.length (al _)).1;unfold CZ;rw[Ce V ha hb,NW,xN];intro i
 dsimp only
 split
 ·show cu.Z (X+Y) (cq (cf a i)*cq q*(D*t));rw[show cq (cf a i)*cq q*(D*t)=cq (cf a i)*D*(cq q*t)from Rg.bJ [cq (cf a i),cq q,D,t] (X0*X1*(X2*X3)) (X0*X2*(X1*X3)) rfl];exact bA (h i) hq
 ·show cu.Z (X+Y) ((0:QR.T)*(D*t));rw[Rg.zero_mul];exact Cr _
end
theorem CZ.mul{u:Nat}(V:fC m v)(hv:Qn u v): ∃ρ:QR.T,ρ≠0∧cu.Z (Rl u v.length) ρ∧ ∀(X Y:Nat) (D E:QR.T) (a b:NQ),ay v.length a→ay v.length b→CZ X D a→CZ Y E b→CZ (X+Y+Rl u v.length) (D*E*ρ) (et v a b):=by obtain⟨ρ,h0,hz,h⟩:=iP.mul hv v.length (al _);refine⟨ρ,h0,hz,fun X Y D E a b ha hb ga gb=>?_⟩;unfold CZ;rw[Ce V ha hb];exact h X Y D E _ _ ga gb
theorem CZ.nil(X:Nat)(D:QR.T):CZ X D []:=iP.zero X D
theorem CZ.one{D:QR.T}(h:cu.Z X D):CZ X D [1]:=fun i=>by
 rw[FL];show cu.Z X (cq (if i=0 then 1 else 0)*D);split
 ·show cu.Z X ((1:QR.T)*D);rw[Rg.one_mul];exact h
 ·show cu.Z X ((0:QR.T)*D);rw[Rg.zero_mul];exact Cr X
def kN:List RD→Nat
 |[]=>0
 |x::r=>x.n.length+x.d.length+kN r
theorem F4: ∀{r:List RD} {n:Nat},H' r n<100→H' r n=n+kN r
 |[],n,_=>rfl
 |x::r,n,h=>by
  by_cases hn:n<100
  ·have e:H' (x::r) n=H' r (n+(x.n.length+x.d.length)):=ah hn;rw[e]at h ⊢;rw[F4 h];show _=n+(x.n.length+x.d.length+kN r);omega
  ·have e:H' (x::r) n=n:=af hn;rw[e]at h;exact aG h hn
theorem AI: ∀(r:List RD) (i:Nat),(r.getD i default).n.length+(r.getD i default).d.length≤kN r
 |[],i=>al _
 |x::r,0=>by show x.n.length+x.d.length≤x.n.length+x.d.length+kN r;omega
 |x::r,i+1=>by have:=AI r i;show(r.getD i default).n.length+(r.getD i default).d.length≤x.n.length+x.d.length+kN r;omega
theorem gY{r:List RD}(h:eU r<100):eU r=kN r:=by have:=F4 (r:=r) (n:=0) h;unfold eU;omega
theorem BI(f:Nat→Nat)(n:Nat): ∀k,n≤ua f n k
 |0=>al _
 |k+1=>az (BI f n k) (ep _ _)
theorem BG(f:Nat→Nat)(n:Nat): ∀{k j:Nat},j<k→f j≤ua f n k
 |k+1,j,h=>by
  show f j≤max (ua f n k) (f k);by_cases e:j=k
  ·rw[e];exact Nat.le_max_right _ _
  ·exact az (BG f n (show j<k by omega)) (ep _ _)
theorem D5(bs:List Body): ∀{i j:Nat},i≤j→tn bs i≤tn bs j
 |i,0,h=>by rw[show i=0 by omega];exact al _
 |i,j+1,h=>by
  by_cases e:i=j+1
  ·rw[e];exact al _
  ·exact az (D5 bs (show i≤j by omega)) (BI _ _ _)
theorem KA(bs:List Body)(hi:i<bs.length)(hk:k<(bs.getD i default).pts.length):BL ((bs.getD i default).pts.getD k default)≤tn bs bs.length :=
 az (BG (fun k=>BL ((bs.getD i default).pts.getD k default)) (tn bs i) hk) (D5 bs (show i+1≤bs.length by omega))
theorem sM(bs:List fp)(n:Nat): ∀k,n≤oT bs n k
 |0=>al _
 |k+1=>by have:=sM bs n k;show n≤max (max (max (max (oT bs n k) _) _) _) _;omega
theorem Bn(bs:List fp)(n:Nat): ∀{k j:Nat},j<k→eU (bs.getD j default).c≤oT bs n k∧eU (bs.getD j default).s≤oT bs n k∧eU (bs.getD j default).x≤oT bs n k∧eU (bs.getD j default).y≤oT bs n k
 |k+1,j,h=>by
  have e1:oT bs n (k+1)=max (max (max (max (oT bs n k) (eU (bs.getD k default).c)) (eU (bs.getD k default).s)) (eU (bs.getD k default).x)) (eU (bs.getD k default).y):=rfl;by_cases e:j=k
  ·subst e;rw[e1];omega
  ·obtain⟨h1,h2,h3,h4⟩:=Bn bs n (show j<k by omega);rw[e1];omega
structure Hf (l:Lkg) (a:Asm):Prop where
 r2:a.rt.length≤2
 nb:l.bodies.length≤40
 nb6:l.bodies.length≤6∨8<l.bodies.length
 nj8:l.joints.length≤8∨16<l.joints.length
 nj:l.joints.length≤40
 ab:a.bodies.length≤40
 n:KQ l a+4*a.rt.length≤16
theorem CJ{a:Asm}(h:rD l a=false):Hf l a:=by unfold rD at h;rw[d',d']at h;obtain⟨⟨h1,_⟩,h3⟩:=h;have h1: ¬_:=ar h1;have h3:=ar h3;refine⟨by omega,by omega,by omega,by omega,by omega,by omega,by omega⟩
theorem Hf.pt{a:Asm}(S:Hf l a)(hi:i<l.bodies.length)(hk:k<(l.bodies.getD i default).pts.length):BL ((l.bodies.getD i default).pts.getD k default)+4*a.rt.length≤16:=by have h1:=KA l.bodies hi hk;have h2:=BI (fun i=>eU (a.rt.getD i [])) (tn l.bodies l.bodies.length) a.rt.length;have h3:=sM a.bodies (ua (fun i=>eU (a.rt.getD i [])) (tn l.bodies l.bodies.length) a.rt.length) a.bodies.length;have h4:=S.n;unfold KQ at h4;omega
theorem Hf.root{a:Asm}(S:Hf l a)(hi:i<a.rt.length):kN (a.rt.getD i [])+4*a.rt.length≤16:=by
 have h2:=BG (fun i=>eU (a.rt.getD i [])) (tn l.bodies l.bodies.length) hi;have h3:=sM a.bodies (ua (fun i=>eU (a.rt.getD i [])) (tn l.bodies l.bodies.length) a.rt.length) a.bodies.length;have h4:=S.n;unfold KQ at h4;have h5:eU (a.rt.getD i [])+4*a.rt.length≤16:=by omega
 rw[gY (by omega)]at h5;exact h5
theorem Hf.pl{a:Asm}(S:Hf l a)(hi:i<a.bodies.length):kN (a.bodies.getD i default).c+4*a.rt.length≤16∧kN (a.bodies.getD i default).s+4*a.rt.length≤16∧kN (a.bodies.getD i default).x+4*a.rt.length≤16∧kN (a.bodies.getD i default).y+4*a.rt.length≤16:=by obtain⟨h1,h2,h3,h4⟩:=Bn a.bodies (ua (fun i=>eU (a.rt.getD i [])) (tn l.bodies l.bodies.length) a.rt.length) hi;have h5:=S.n;unfold KQ at h5;rw[←gY (r:=(a.bodies.getD i default).c) (by omega),←gY (r:=(a.bodies.getD i default).s) (by omega),←gY (r:=(a.bodies.getD i default).x) (by omega),←gY (r:=(a.bodies.getD i default).y) (by omega)];omega
theorem Cv{a:List RD}(ha:vR a)(h:kN a≤k):wN k a:=fun i _=>by have h1:=AI a i;obtain⟨w1,w2,_,_⟩:=ha.2 i;exact⟨w1,w2,by omega,by omega⟩
theorem Hf.lok{a:Asm}{K:Nat}(S:Hf l a)(hl:l.ok K):l.ok 16:=by
 refine⟨hl.nm,hl.nb,hl.nj,hl.nd,fun i=>⟨(hl.b i).1,(hl.b i).2.1,fun k=>?_⟩,hl.j,hl.d⟩;obtain⟨h1,h2,h3⟩:=(hl.b i).2.2 k;refine⟨h1,?_⟩
 have hw:BL ((l.bodies.getD i default).pts.getD k default)≤16:=by
  by_cases hi:i<l.bodies.length
  ·by_cases hk:k<(l.bodies.getD i default).pts.length
   ·have:=S.pt hi hk;omega
   ·rw[ad,cA (by omega)];exact an _
  ·rw[show l.bodies.getD i default=default by rw[ad,cA (by omega)];rfl];exact an _
 unfold BL at hw;exact⟨⟨h2.1,h2.2.1,by omega,by omega⟩,⟨h3.1,h3.2.1,by omega,by omega⟩⟩
theorem Hf.aok{a:Asm}(S:Hf l a)(ha:AsB a):a.ok 16:=by have hr:=S.r2;refine⟨⟨⟨16,by decide,al _,fun i hi _=>Cv (ha.r i) (by have:=S.root hi;omega),fun _=>Lt hr (by decide)⟩,by decide,by omega,fun i _=>(ha.r i).1⟩,fun i hi=>?_,by have:=S.ab;omega⟩;obtain⟨h1,h2,h3,h4⟩:=S.pl hi;exact⟨⟨fun _=>Cv (ha.c i) (by omega),(ha.c i).1⟩,⟨fun _=>Cv (ha.s i) (by omega),(ha.s i).1⟩,⟨fun _=>Cv (ha.x i) (by omega),(ha.x i).1⟩,⟨fun _=>Cv (ha.y i) (by omega),(ha.y i).1⟩⟩
end Lift
namespace Lift
open Go Go.Proofs
variable {X Y:Int→Int→NQ}{rt:List (List RD)}{md:List Int}{r v:List NQ}{l:Lkg}{b x y:NQ}{P:NQ→Prop}{K k m n:Nat}
theorem gF(i:Int)(n:Nat):Pure Tryz.prog 64 [dI i,dI n] (dB (kj i n)):=by
 refine qJ 12 Tryz.func64 rfl fun B F0 w0=>?_;refine qX 1 rfl<|qK 2 rfl ?_;refine ae.split (t:=6) rfl (fun h=>?_) fun h=>?_
 ·have h1:=ao h;refine qU 6 rfl<|ae.nil ?_;rw[show kj i n=decide (i<n) by unfold kj;rw[decide_eq_decide];omega];exact AW.ret rfl
 ·have h1:=ar h;refine qU 6 rfl<|ae.nil ?_;rw[show kj i n=false by unfold kj;rw[decide_eq_false_iff_not];omega];exact AW.ret rfl
theorem ze(b:Body)(hb:b.ok K)(hK:K≤50000000):Pure Tryz.prog 63 [b.D] (dI (tR b.pts:Nat)):=by
 refine qJ 50 Tryz.func63 rfl fun B F0 w0=>?_;obtain⟨bn,ps⟩:=b;obtain⟨_,hn,hm⟩:=hb;simp only[]at hn hm;unfold big at hn;show AW _ _ _ _ _ _ _ (fh 0 [D.ag [dS bn,rN ps]]);simp only[];refine qX 2 rfl<|qI<|qX 4 rfl ?_;rw[aa];refine ae.nil<|AW.cond rfl (fun h=>?_) fun h=>?_
 ·have h8:8<ps.length:=by have:=ao h;omega
  rw[tR,ah h8];exact qX 1 rfl<|qN rfl
 have h8: ¬8<ps.length:=by have:=ar h;omega
 rw[tR,af h8];refine AW.skip<|AW.seq<|qX 1 rfl<|ae.nil<|AW.block ?_
 refine AW.aK [1,3] (fun i:Nat=>[(1,.bx [dS bn,rN ps]),(3,.d (dI i))])
  (fun i=>i≤ps.length∧fE (v7 ps) ps.length 0=fE (v7 ps) (ps.length-i) i) (fun i=>ps.length-i) 0 rfl ⟨an _,rfl⟩ (fun i ⟨hi,hE⟩=>?_)
 refine AW.seq<|qX 5 rfl ?_;rw[aa];refine ae.nil<|AW.cond rfl (fun h=>?_) fun h=>?_
 ·have hin:i<ps.length:=by have:=ao h;omega
  obtain⟨mok1,mok2,mok3⟩:=hm i;have hbE:v7 ps i≠0→fE (v7 ps) ps.length 0=v7 ps i:=fun h0=>hE.trans (ez hin h0);have hbM:v7 ps i=0→fE (v7 ps) ps.length 0=fE (v7 ps) (ps.length-(i+1)) (i+1):=fun h0=>hE.trans (cQ hin h0);generalize fE (v7 ps) ps.length 0=E at *;obtain⟨m,hme⟩: ∃m,m=ps.getD i default:=⟨_,rfl⟩;rw[←hme]at mok1 mok2 mok3;unfold big at mok1;have hdup:Fy ps i=fT (fun k=>decide ((ps.getD k default).nm=m.nm)) i 0:=by rw[hme];rfl
  have hbd:v7 ps i=if dV m.nm=false then 5 else if Fy ps i=true then 6 else if m.x.okB=true∧m.y.okB=true then 0 else 3:=by rw[hme];rfl
  refine AW.skip<|AW.seq<|AW.block<|qX 3 rfl ?_;refine ae.idx tok m.D rfl rfl rfl rfl (am i) (by rw[hme];exact getM Mark.D hin) ?_;refine qU 3 rfl<|qI<|qX 2 rfl<|qM rfl (j8 m.nm mok1) ?_;refine qU 1 rfl<|ae.nil<|AW.cond rfl (fun h=>?_) fun h=>?_
  ·have hnm:dV m.nm=false:=lB h;have h5:v7 ps i=5:=by rw[hbd,hnm];rfl
   rw[show E=5 by rw[hbE (by omega),h5]];exact qX 1 rfl<|qN rfl
  have hnm:dV m.nm=true:=by simpa using h
  rw[hnm,af (by decide)]at hbd;refine AW.skip<|AW.seq<|qX 1 rfl<|ae.nil<|AW.block ?_
  refine AW.aK [1,3,4,5] (fun k:Nat=>[(1,.bx [dS bn,rN ps]),(3,.d (dI i)),(4,.bx [dS m.nm,dB m.x.g,Wd m.x.n,Wd m.x.d,dB m.y.g,Wd m.y.n,Wd m.y.d]),(5,.d (dI k))])
   (fun k=>k≤i∧Fy ps i=fT (fun k=>decide ((ps.getD k default).nm=m.nm)) (i-k) k) (fun k=>i-k) 0 rfl ⟨an _,hdup⟩ (fun k ⟨hk,hD⟩=>?_)
  refine AW.seq<|qX 3 rfl<|ae.nil<|AW.cond rfl (fun h=>?_) fun h=>?_
  ·have hki:k<i:=by have:=ao h;omega
   refine AW.skip<|AW.seq<|AW.block<|AW.seq<|AW.draw aO 9 (by kernel_rfl) ?_;refine qP 3 rfl<|ai.idx tok (ps.getD k default).D rfl rfl rfl rfl rfl (am k) (getM Mark.D (by omega)) ?_;refine qP 5 rfl ?_;rw[nk];refine ai.nil<|ae.nil<|AW.cond rfl (fun h=>?_) fun h=>?_
   ·have h6:v7 ps i=6:=by rw[hbd,hD.trans (gv hki h)];rfl
    rw[show E=6 by rw[hbE (by omega),h6]];exact qX 1 rfl<|qN rfl
   ·refine AW.skip (qT 3 rfl ?_);rw[aD (x:=(k:Int)+1) (by omega) (by omega)];refine ae.nil ?_;exact⟨k+1,rfl,⟨hki,hD.trans (fj hki h)⟩,by omega⟩
  ·have hki: ¬k<i:=by have:=ar h;omega
   rw[hD.trans (gw hki),af (by decide)]at hbd;refine AW.exit ?_;refine AW.cut [1,3,49] (fun _:Unit=>[(1,.bx [dS bn,rN ps]),(3,.d (dI i)),(49,.d (dB (!decide (m.x.okB=true∧m.y.okB=true))))]) (fun _=>True) ?_ fun _ _=>?_
   ·refine qT 2 rfl (qM rfl (kO m.x mok2 (by omega)) ?_);refine ae.split (t:=42) rfl (fun h=>?_) fun h=>?_
    ·refine qU 4 rfl (qM rfl (kO m.y mok3 (by omega)) ?_);refine qU 2 rfl<|ae.nil ?_;exact⟨(),by rw[show decide (m.x.okB=true∧m.y.okB=true)=m.y.okB by simp[h]];rfl,trivial⟩
    ·refine qU 7 rfl (ae.nil ?_);exact⟨(),by rw[show decide (m.x.okB=true∧m.y.okB=true)=false by simp[h]];rfl,trivial⟩
   refine AW.cond rfl (fun h=>?_) fun h=>?_
   ·have hno: ¬(m.x.okB=true∧m.y.okB=true):=fun e=>by rw[aN e]at h;cases h
    have h3:v7 ps i=3:=by rw[hbd,af hno]
    rw[show E=3 by rw[hbE (by omega),h3]];exact qX 1 rfl<|qN rfl
   ·have hyes:m.x.okB=true∧m.y.okB=true:=by simpa using h
    rw[ah hyes]at hbd;refine AW.skip<|qT 3 rfl ?_;rw[aD (x:=(i:Int)+1) (by omega) (by omega)];refine ae.nil ?_;exact⟨i+1,rfl,⟨hin,hbM hbd⟩,by omega⟩
 ·have hin: ¬i<ps.length:=by have:=ar h;omega
  rw[hE,eC hin];exact AW.exit<|qX 1 rfl<|qN rfl
theorem zg(l:Lkg)(hl:l.ok K)(hK:K≤50000000):Pure Tryz.prog 34 [l.D] (dI (bW l.bodies:Nat)):=by
 refine qJ 48 Tryz.func34 rfl fun B F0 w0=>?_;obtain⟨ln,bs,js,ds⟩:=l;have hb:=hl.b;have hn:=hl.nb;simp only[]at hb hn ⊢;unfold big at hn;show AW _ _ _ _ _ _ _ (fh 0 [D.ag [dS ln,aI bs,aE js,aF ds]]);refine qX 2 rfl<|qI<|qX 1 rfl<|ae.nil<|AW.block ?_
 refine AW.aK [1,3] (fun i:Nat=>[(1,.bx [dS ln,aI bs,aE js,aF ds]),(3,.d (dI i))])
  (fun i=>i≤bs.length∧bW bs=fE (gO bs) (bs.length-i) i) (fun i=>bs.length-i) 0 rfl ⟨an _,rfl⟩ (fun i ⟨hi,hE⟩=>?_)
 refine AW.seq<|qX 5 rfl ?_;rw[aa];refine ae.nil<|AW.cond rfl (fun h=>?_) fun h=>?_
 ·have hin:i<bs.length:=by have:=ao h;omega
  have hbi:=hb i;have hbE:gO bs i≠0→bW bs=gO bs i:=fun h0=>hE.trans (ez hin h0);have hbM:gO bs i=0→bW bs=fE (gO bs) (bs.length-(i+1)) (i+1):=fun h0=>hE.trans (cQ hin h0);generalize bW bs=E at *;obtain⟨b,hbe⟩: ∃b,b=bs.getD i default:=⟨_,rfl⟩;rw[←hbe]at hbi;have bok:=hbi.1;unfold big at bok;have hdup:FC bs i=fT (fun k=>decide ((bs.getD k default).nm=b.nm)) i 0:=by rw[hbe];rfl
  have hbd:gO bs i=if dV b.nm=false then 5 else if FC bs i=true then 6 else tR b.pts:=by rw[hbe];rfl
  refine AW.skip<|AW.seq<|AW.block<|AW.seq<|qX 3 rfl ?_;refine ae.idx tok b.D rfl rfl rfl rfl (am i) (by rw[hbe];exact getM Body.D hin) ?_;refine qU 2 rfl<|qM rfl (j8 b.nm bok) ?_;refine qU 1 rfl<|ae.nil<|AW.cond rfl (fun h=>?_) fun h=>?_
  ·have hnm:dV b.nm=false:=lB h;have h5:gO bs i=5:=by rw[hbd,hnm];rfl
   rw[show E=5 by rw[hbE (by omega),h5]];exact qX 1 rfl<|qN rfl
  have hnm:dV b.nm=true:=by simpa using h
  rw[hnm,af (by decide)]at hbd;refine AW.skip<|AW.seq<|qX 1 rfl<|ae.nil<|AW.block ?_
  refine AW.aK [1,3,4] (fun k:Nat=>[(1,.bx [dS ln,aI bs,aE js,aF ds]),(3,.d (dI i)),(4,.d (dI k))])
   (fun k=>k≤i∧FC bs i=fT (fun k=>decide ((bs.getD k default).nm=b.nm)) (i-k) k) (fun k=>i-k) 0 rfl ⟨an _,hdup⟩ (fun k ⟨hk,hD⟩=>?_)
  refine AW.seq<|qX 3 rfl<|ae.nil<|AW.cond rfl (fun h=>?_) fun h=>?_
  ·have hki:k<i:=by have:=ao h;omega
   refine AW.skip<|AW.seq<|AW.block<|AW.seq<|AW.draw aO 13 (by kernel_rfl) ?_;refine qP 3 rfl<|ai.idx tok (bs.getD k default).D rfl rfl rfl rfl rfl (am k) (getM Body.D (by omega)) ?_;refine qP 5 rfl ?_;refine ai.idx tok b.D rfl rfl rfl rfl rfl (am i) (by rw[hbe];exact getM Body.D hin) ?_;refine qP 3 rfl ?_;rw[nk];refine ai.nil<|ae.nil<|AW.cond rfl (fun h=>?_) fun h=>?_
   ·have h6:gO bs i=6:=by rw[hbd,hD.trans (gv hki h)];rfl
    rw[show E=6 by rw[hbE (by omega),h6]];exact qX 1 rfl<|qN rfl
   ·refine AW.skip (qT 3 rfl ?_);rw[aD (x:=(k:Int)+1) (by omega) (by omega)];refine ae.nil ?_;exact⟨k+1,rfl,⟨hki,hD.trans (fj hki h)⟩,by omega⟩
  ·have hki: ¬k<i:=by have:=ar h;omega
   rw[hD.trans (gw hki),af (by decide)]at hbd;refine AW.exit<|qX 3 rfl ?_;refine ae.idx tok b.D rfl rfl rfl rfl (am i) (by rw[hbe];exact getM Body.D hin) ?_;refine qU 1 rfl<|qM rfl (ze b hbi hK) ?_;refine qU 1 rfl<|qK 2 rfl<|ae.nil<|AW.cond rfl (fun h=>?_) fun h=>?_
   ·have h0:tR b.pts≠0:=by rintro e;rw[e]at h;cases h
    rw[show E=tR b.pts by rw[hbE (by rw[hbd];exact h0),hbd]];exact qX 2 rfl<|qN rfl
   ·have h0:tR b.pts=0:=by
     have:((tR b.pts:Nat):Int)=0:=by simpa using h
     omega
    refine AW.skip<|qT 3 rfl ?_;rw[aD (x:=(i:Int)+1) (by omega) (by omega)];refine ae.nil ?_;exact⟨i+1,rfl,⟨hin,hbM (by rw[hbd];exact h0)⟩,by omega⟩
 ·have hin: ¬i<bs.length:=by have:=ar h;omega
  rw[hE,eC hin];exact AW.exit<|qX 1 rfl<|qN rfl
theorem C3(p q:Mark)(hp:p.ok K)(hq:q.ok K)(hK:K≤5000000):Pure Tryz.prog 65 [p.D,q.D] (dB (mF p q)):=by
 refine qJ 19 Tryz.func65 rfl fun B F0 w0=>?_;refine qX 3 rfl<|qK 4 rfl<|qM rfl (xq p.x q.x hp.2.1 hq.2.1 (by omega)) ?_;refine qU 1 rfl ?_;rw[p7];refine ae.split (t:=10) rfl (fun h=>?_) fun h=>?_
 ·have h1:=ao h;refine qU 5 rfl<|qM rfl (xq p.y q.y hp.2.2 hq.2.2 (by omega)) ?_;refine qU 3 rfl ?_;rw[p7];refine ae.nil ?_;rw[show mF p q=decide (p.y.val=q.y.val) by unfold mF;simp[h1]];exact AW.ret rfl
 ·have h1:=ar h;refine qU 9 rfl<|ae.nil ?_;rw[show mF p q=false by unfold mF;simp[h1]];exact AW.ret rfl
theorem A9(l:Lkg)(i:Nat)(hl:l.ok K)(hK:K≤5000000)(hin:i<l.joints.length):Pure Tryz.prog 35 [l.D,dI i] (dI (fy l.bodies l.joints i:Nat)):=by
 refine qJ 112 Tryz.func35 rfl fun B F0 w0=>?_;obtain⟨ln,bs,js,ds⟩:=l;have hb:=hl.b;have jok:=hl.j i;have hn:=hl.nj;simp only[]at hb jok hn hin ⊢;unfold big at jok hn;show AW _ _ _ _ _ _ _ (fh 0 [D.ag [dS ln,aI bs,aE js,aF ds],dI i]);obtain⟨j,hje⟩: ∃j,j=js.getD i default:=⟨_,rfl⟩;rw[←hje]at jok;have hdup:FA js i=fT (fun k=>decide ((js.getD k default).nm=j.nm)) i 0:=by rw[hje];rfl
 have hbd:fy bs js i=if dV j.nm=false then 5 else if FA js i=true then 6 else jE bs j:=by rw[hje];rfl
 generalize fy bs js i=E at *;refine qX 2 rfl<|qK 3 rfl ?_;refine ae.idx tok j.D rfl rfl rfl rfl (am i) (by rw[hje];exact getM bp.D hin) ?_;refine qU 3 rfl<|ae.nil ?_;obtain⟨nm,kind,a,pt,b,on,to⟩:=j;simp only[]at jok hdup hbd
 have hj:jE bs ⟨nm,kind,a,pt,b,on,to⟩=if kind≠0∧kind≠1 then 7 else if (kj a bs.length&&kj b bs.length)=false then 9 else if a=b then 13 else
  if (kj pt (bs.getD a.toNat default).pts.length&&kj on (bs.getD b.toNat default).pts.length)=false then 9 else
  if kind=0 then(if to=0 then 0 else 2)else if kj to (bs.getD b.toNat default).pts.length=false then 9 else
  if mF ((bs.getD b.toNat default).pts.getD on.toNat default) ((bs.getD b.toNat default).pts.getD to.toNat default)=true then 8 else 0:=rfl
 generalize jE bs ⟨nm,kind,a,pt,b,on,to⟩=E2 at *;refine AW.seq<|qX 2 rfl<|qM rfl (j8 nm jok) ?_;refine qU 1 rfl<|ae.nil<|AW.cond rfl (fun h=>?_) fun h=>?_
 ·rw[ah (lB h)]at hbd;rw[hbd];exact qX 1 rfl<|qN rfl
 rw[af (by simpa using h)]at hbd;refine AW.skip<|AW.seq<|qX 1 rfl<|ae.nil<|AW.block ?_
 refine AW.aK [1,2,5,6] (fun k:Nat=>[(1,.d (dI i)),(2,.bx [dS ln,aI bs,aE js,aF ds]),(5,.bx [dS nm,dI kind,dI a,dI pt,dI b,dI on,dI to]),(6,.d (dI k))])
  (fun k=>k≤i∧FA js i=fT (fun k=>decide ((js.getD k default).nm=nm)) (i-k) k) (fun k=>i-k) 0 rfl ⟨an _,hdup⟩ (fun k ⟨hk,hD⟩=>?_)
 refine AW.seq<|qX 3 rfl<|ae.nil<|AW.cond rfl (fun h=>?_) fun h=>?_
 ·have hki:k<i:=by have:=ao h;omega
  refine AW.skip<|AW.seq<|AW.block<|AW.seq<|AW.draw aO 9 (by kernel_rfl) ?_;refine qP 3 rfl<|ai.idx tok (js.getD k default).D rfl rfl rfl rfl rfl (am k) (getM bp.D (by omega)) ?_;refine qP 5 rfl ?_;rw[nk];refine ai.nil<|ae.nil<|AW.cond rfl (fun h=>?_) fun h=>?_
  ·rw[hD.trans (gv hki h)]at hbd;rw[show E=6 from hbd];exact qX 1 rfl<|qN rfl
  ·refine AW.skip (qT 3 rfl ?_);rw[aD (x:=(k:Int)+1) (by omega) (by omega)];refine ae.nil ?_;exact⟨k+1,rfl,⟨hki,hD.trans (fj hki h)⟩,by omega⟩
 have hki: ¬k<i:=by have:=ar h;omega
 rw[hD.trans (gw hki),af (by decide)]at hbd;rw[hbd];clear hbd;refine AW.exit<|AW.seq ?_;refine AW.cut [2,5,39] (fun _:Unit=>[(2,.bx [dS ln,aI bs,aE js,aF ds]),(5,.bx [dS nm,dI kind,dI a,dI pt,dI b,dI on,dI to]),(39,.d (dB (decide (kind≠0∧kind≠1))))]) (fun _=>True) ?_ fun _ _=>?_
 ·refine qT 3 rfl ?_;refine ae.split (t:=34) rfl (fun h=>?_) fun h=>?_
  ·have h1:kind≠0:=by simpa using h
   refine qU 5 rfl<|ae.nil ?_;exact⟨(),by rw[show decide (kind≠0∧kind≠1)=(kind != 1) by rw[Bool.eq_iff_iff];simp[h1]];rfl,trivial⟩
  ·have h1:kind=0:=by simpa using h
   refine qU 5 rfl<|ae.nil ?_;exact⟨(),by rw[show decide (kind≠0∧kind≠1)=false by simp[h1]];rfl,trivial⟩
 refine AW.cond rfl (fun h=>?_) fun h=>?_
 ·rw[ah (ao h)]at hj;rw[hj];exact qX 1 rfl<|qN rfl
 rw[af (ar h)]at hj;refine AW.skip<|AW.seq ?_;refine AW.cut [2,5,55] (fun _:Unit=>[(2,.bx [dS ln,aI bs,aE js,aF ds]),(5,.bx [dS nm,dI kind,dI a,dI pt,dI b,dI on,dI to]),(55,.d (dB (!(kj a bs.length&&kj b bs.length))))]) (fun _=>True) ?_ fun _ _=>?_
 ·refine qT 5 rfl ?_;rw[aa];refine qM rfl (gF a bs.length) ?_;refine ae.split (t:=45) rfl (fun h=>?_) fun h=>?_
  ·refine qU 7 rfl ?_;rw[aa];refine qM rfl (gF b bs.length) ?_;refine qU 2 rfl<|ae.nil ?_;exact⟨(),by rw[h];rfl,trivial⟩
  ·refine qU 10 rfl (ae.nil ?_);exact⟨(),by rw[h];rfl,trivial⟩
 refine AW.cond rfl (fun h=>?_) fun h=>?_
 ·rw[ah (lB h)]at hj;rw[hj];exact qX 1 rfl<|qN rfl
 have hab:kj a bs.length=true∧kj b bs.length=true:=by simpa using h
 rw[af (by simp[hab])]at hj;obtain⟨ha0,ha1⟩:=u7 hab.1;obtain⟨hb0,hb1⟩:=u7 hab.2;obtain⟨Bb,hBb⟩: ∃x,x=bs.getD b.toNat default:=⟨_,rfl⟩;obtain⟨Ba,hBa⟩: ∃x,x=bs.getD a.toNat default:=⟨_,rfl⟩;have okb:=hb b.toNat;rw[←hBb]at hj okb;rw[←hBa]at hj;refine AW.skip<|AW.seq<|qX 5 rfl<|ae.nil<|AW.cond rfl (fun h=>?_) fun h=>?_
 ·rw[ah (by simpa using h)]at hj;rw[hj];exact qX 1 rfl<|qN rfl
 rw[af (by simpa using h)]at hj;refine AW.skip<|AW.seq<|AW.draw aO 15 (by kernel_rfl) ?_;refine qP 4 rfl ?_;refine ai.idx tok Ba.D rfl rfl rfl rfl rfl ha0 (by rw[hBa];exact getM Body.D ha1) ?_;refine qP 6 rfl ?_;refine ai.idx tok Bb.D rfl rfl rfl rfl rfl hb0 (by rw[hBb];exact getM Body.D hb1) ?_;refine qP 3 rfl<|ai.nil<|qU 1 rfl<|qI ?_;refine AW.cut [5,8,88] (fun _:Unit=>[(5,.bx [dS nm,dI kind,dI a,dI pt,dI b,dI on,dI to]),(8,.d (rN Bb.pts)),(88,.d (dB (!(kj pt Ba.pts.length&&kj on Bb.pts.length))))]) (fun _=>True) ?_ fun _ _=>?_
 ·refine qT 4 rfl ?_;rw[aa];refine qM rfl (gF pt Ba.pts.length) ?_;refine ae.split (t:=79) rfl (fun h=>?_) fun h=>?_
  ·refine qU 6 rfl ?_;rw[aa];refine qM rfl (gF on Bb.pts.length) ?_;refine qU 2 rfl<|ae.nil ?_;exact⟨(),by rw[h];rfl,trivial⟩
  ·refine qU 9 rfl (ae.nil ?_);exact⟨(),by rw[h];rfl,trivial⟩
 refine AW.cond rfl (fun h=>?_) fun h=>?_
 ·rw[ah (lB h)]at hj;rw[hj];exact qX 1 rfl<|qN rfl
 have hpo:kj pt Ba.pts.length=true∧kj on Bb.pts.length=true:=by simpa using h
 rw[af (by simp[hpo])]at hj;obtain⟨ho0,ho1⟩:=u7 hpo.2;refine AW.skip<|AW.seq<|qX 3 rfl<|ae.nil<|AW.cond rfl (fun h=>?_) fun h=>?_
 ·rw[ah (by simpa using h)]at hj;refine AW.seq<|qX 3 rfl<|ae.nil<|AW.cond rfl (fun h=>?_) fun h=>?_
  ·rw[af (by simpa using h)]at hj;rw[hj];exact qX 1 rfl<|qN rfl
  ·rw[ah (by simpa using h)]at hj;rw[hj];exact AW.skip<|qX 1 rfl<|qN rfl
 rw[af (by simpa using h)]at hj;refine AW.skip<|AW.seq<|qX 4 rfl ?_;rw[aa];refine qM rfl (gF to Bb.pts.length) ?_;refine qU 1 rfl<|ae.nil<|AW.cond rfl (fun h=>?_) fun h=>?_
 ·rw[ah (lB h)]at hj;rw[hj];exact qX 1 rfl<|qN rfl
 have hto:kj to Bb.pts.length=true:=by simpa using h
 rw[af (by simp[hto])]at hj;obtain⟨ht0,ht1⟩:=u7 hto;obtain⟨p,hp⟩: ∃x,x=Bb.pts.getD on.toNat default:=⟨_,rfl⟩;obtain⟨q,hq⟩: ∃x,x=Bb.pts.getD to.toNat default:=⟨_,rfl⟩;have okp:=okb.2.2 on.toNat;have okq:=okb.2.2 to.toNat;rw[←hp]at hj okp;rw[←hq]at hj okq;refine AW.skip<|AW.seq<|AW.seq<|AW.draw aO 11 (by kernel_rfl) ?_;refine qP 3 rfl ?_;refine ai.idx tok p.D rfl rfl rfl rfl rfl ho0 (by rw[hp];exact getM Mark.D ho1) ?_;refine qP 4 rfl ?_;refine ai.idx tok q.D rfl rfl rfl rfl rfl ht0 (by rw[hq];exact getM Mark.D ht1) ?_;refine qP 1 rfl<|qQ rfl (C3 p q okp okq hK) ?_;refine ai.nil<|ae.nil<|AW.cond rfl (fun h=>?_) fun h=>?_
 ·rw[ah h]at hj;rw[hj];exact qX 1 rfl<|qN rfl
 ·rw[af (by rw[h];decide)]at hj;rw[hj];exact AW.skip<|qX 1 rfl<|qN rfl
theorem zf(l:Lkg)(i:Nat)(hl:l.ok K)(hin:i<l.drivers.length):Pure Tryz.prog 36 [l.D,dI i] (dI (eM l.bodies.length l.drivers i:Nat)):=by
 refine qJ 55 Tryz.func36 rfl fun B F0 w0=>?_;obtain⟨ln,bs,js,ds⟩:=l;have dok:=hl.d i;have hn:=hl.nd;simp only[]at dok hn hin ⊢;unfold big at dok hn;show AW _ _ _ _ _ _ _ (fh 0 [D.ag [dS ln,aI bs,aE js,aF ds],dI i]);obtain⟨d,hde⟩: ∃d,d=ds.getD i default:=⟨_,rfl⟩;rw[←hde]at dok;have hdup:FB ds i=fT (fun k=>decide ((ds.getD k default).nm=d.nm)) i 0:=by rw[hde];rfl
 have hdup2:Fx ds i=fT (fun k=>decide ((ds.getD k default).body=d.body)) i 0:=by rw[hde];rfl
 have hbd:eM bs.length ds i=if dV d.nm=false then 5 else if FB ds i=true then 6 else if kj d.body bs.length=false then 9 else if d.body=0 then 7 else if Fx ds i=true then 6 else 0:=by rw[hde];rfl
 generalize eM bs.length ds i=E at *;refine qX 2 rfl<|qK 3 rfl ?_;refine ae.idx tok d.D rfl rfl rfl rfl (am i) (by rw[hde];exact getM Driver.D hin) ?_;refine qU 3 rfl<|qI<|qX 2 rfl<|qM rfl (j8 d.nm dok) ?_;refine qU 1 rfl<|ae.nil<|AW.cond rfl (fun h=>?_) fun h=>?_
 ·rw[ah (lB h)]at hbd;rw[hbd];exact qX 1 rfl<|qN rfl
 rw[af (by simpa using h)]at hbd;refine AW.skip<|AW.seq<|qX 1 rfl<|ae.nil<|AW.block ?_
 refine AW.aK [1,2,5,6] (fun k:Nat=>[(1,.d (dI i)),(2,.bx [dS ln,aI bs,aE js,aF ds]),(5,.bx [dS d.nm,dI d.body]),(6,.d (dI k))])
  (fun k=>k≤i∧FB ds i=fT (fun k=>decide ((ds.getD k default).nm=d.nm)) (i-k) k) (fun k=>i-k) 0 rfl ⟨an _,hdup⟩ (fun k ⟨hk,hD⟩=>?_)
 refine AW.seq<|qX 3 rfl<|ae.nil<|AW.cond rfl (fun h=>?_) fun h=>?_
 ·have hki:k<i:=by have:=ao h;omega
  refine AW.skip<|AW.seq<|AW.block<|AW.seq<|AW.draw aO 9 (by kernel_rfl) ?_;refine qP 3 rfl<|ai.idx tok (ds.getD k default).D rfl rfl rfl rfl rfl (am k) (getM Driver.D (by omega)) ?_;refine qP 5 rfl ?_;rw[nk];refine ai.nil<|ae.nil<|AW.cond rfl (fun h=>?_) fun h=>?_
  ·rw[hD.trans (gv hki h)]at hbd;rw[show E=6 from hbd];exact qX 1 rfl<|qN rfl
  ·refine AW.skip (qT 3 rfl ?_);rw[aD (x:=(k:Int)+1) (by omega) (by omega)];refine ae.nil ?_;exact⟨k+1,rfl,⟨hki,hD.trans (fj hki h)⟩,by omega⟩
 have hki: ¬k<i:=by have:=ar h;omega
 rw[hD.trans (gw hki),af (by decide)]at hbd;refine AW.exit<|AW.seq<|qX 5 rfl ?_;rw[aa];refine qM rfl (gF d.body bs.length) ?_;refine qU 1 rfl<|ae.nil<|AW.cond rfl (fun h=>?_) fun h=>?_
 ·rw[ah (lB h)]at hbd;rw[hbd];exact qX 1 rfl<|qN rfl
 have hinb:kj d.body bs.length=true:=by simpa using h
 rw[af (by simp[hinb])]at hbd;refine AW.skip<|AW.seq<|qX 3 rfl<|ae.nil<|AW.cond rfl (fun h=>?_) fun h=>?_
 ·rw[ah (by simpa using h)]at hbd;rw[hbd];exact qX 1 rfl<|qN rfl
 rw[af (by simpa using h)]at hbd;refine AW.skip<|AW.seq<|qX 1 rfl<|ae.nil<|AW.block ?_
 refine AW.aK [1,2,5,7] (fun k:Nat=>[(1,.d (dI i)),(2,.bx [dS ln,aI bs,aE js,aF ds]),(5,.bx [dS d.nm,dI d.body]),(7,.d (dI k))])
  (fun k=>k≤i∧Fx ds i=fT (fun k=>decide ((ds.getD k default).body=d.body)) (i-k) k) (fun k=>i-k) 0 rfl ⟨an _,hdup2⟩ (fun k ⟨hk,hD⟩=>?_)
 refine AW.seq<|qX 3 rfl<|ae.nil<|AW.cond rfl (fun h=>?_) fun h=>?_
 ·have hki:k<i:=by have:=ao h;omega
  refine AW.skip<|AW.seq<|AW.block<|AW.seq<|AW.draw aO 9 (by kernel_rfl) ?_;refine qP 3 rfl<|ai.idx tok (ds.getD k default).D rfl rfl rfl rfl rfl (am k) (getM Driver.D (by omega)) ?_;refine qP 5 rfl<|ai.nil<|ae.nil<|AW.cond rfl (fun h=>?_) fun h=>?_
  ·have h':decide ((ds.getD k default).body=d.body)=true:=by simpa using h
   rw[hD.trans (gv hki h')]at hbd;rw[show E=6 from hbd];exact qX 1 rfl<|qN rfl
  ·have h':decide ((ds.getD k default).body=d.body)=false:=by simpa using h
   refine AW.skip<|qT 3 rfl ?_;rw[aD (x:=(k:Int)+1) (by omega) (by omega)];refine ae.nil ?_;exact⟨k+1,rfl,⟨hki,hD.trans (fj hki h')⟩,by omega⟩
 have hki: ¬k<i:=by have:=ar h;omega
 rw[hD.trans (gw hki),af (by decide)]at hbd;rw[hbd];exact AW.exit<|qX 1 rfl<|qN rfl
theorem BE(h:(((n:Nat):Int) != 0)=true):n≠0:=by rintro rfl;cases h
theorem Fu(h:(((n:Nat):Int) != 0)=false):n=0:=by
 have:((n:Nat):Int)=0:=by simpa using h
 omega
theorem Bc(l:Lkg)(hl:l.ok K)(hK:K≤5000000):Pure Tryz.prog 15 [l.D] (dI (Cq l:Nat)):=by
 refine qJ 59 Tryz.func15 rfl fun B F0 w0=>?_;have c1:=zg l hl (by omega);have c2:=fun i=>A9 l i hl hK;have c3:=fun i=>zf l i hl
 have hcd:Cq l=if dV l.nm=false then 5 else if l.bodies=[]then 10 else if 8<l.bodies.length then 4 else
  if bW l.bodies≠0 then bW l.bodies else if eK l.bodies l.joints≠0 then eK l.bodies l.joints else kp l.bodies.length l.drivers:=rfl
 generalize Cq l=E at *;obtain⟨ln,bs,js,ds⟩:=l;have hnm:=hl.nm;have hnb:=hl.nb;have hnj:=hl.nj;have hnd:=hl.nd;simp only[]at hcd c1 c2 c3 hnm hnb hnj hnd ⊢;unfold big at hnm hnb hnj hnd;show AW _ _ _ _ _ _ _ (fh 0 [D.ag [dS ln,aI bs,aE js,aF ds]]);refine qX 2 rfl<|qI<|qX 2 rfl<|qM rfl (j8 ln hnm) ?_;refine qU 1 rfl<|ae.nil<|AW.cond rfl (fun h=>?_) fun h=>?_
 ·rw[ah (lB h)]at hcd;rw[hcd];exact qX 1 rfl<|qN rfl
 rw[af (by simpa using h)]at hcd;refine AW.skip<|AW.seq<|qX 4 rfl ?_;rw[aa];refine ae.nil<|AW.cond rfl (fun h=>?_) fun h=>?_
 ·have h0:bs=[]:=by
   have:(bs.length:Int)=0:=by simpa using h
   exact d4.1 (by omega)
  rw[ah h0]at hcd;rw[hcd];exact qX 1 rfl<|qN rfl
 have h0:bs≠[]:=by rintro rfl;simp at h
 rw[af h0]at hcd;refine AW.skip<|AW.seq<|qX 4 rfl ?_;rw[aa];refine ae.nil<|AW.cond rfl (fun h=>?_) fun h=>?_
 ·have h8:8<bs.length:=by have:=ao h;omega
  rw[ah h8]at hcd;rw[hcd];exact qX 1 rfl<|qN rfl
 have h8: ¬8<bs.length:=by have:=ar h;omega
 rw[af h8]at hcd;refine AW.skip<|AW.seq<|qX 1 rfl<|qM rfl c1<|qU 1 rfl<|qK 2 rfl<|ae.nil<|AW.cond rfl (fun h=>?_) fun h=>?_
 ·rw[ah (BE h)]at hcd;rw[hcd];exact qX 2 rfl<|qN rfl
 rw[af (fun e=>e (Fu h))]at hcd;refine AW.skip<|AW.seq<|qX 4 rfl ?_;rw[aa];refine ae.nil<|AW.cond rfl (fun h=>?_) fun h=>?_
 ·have h16:16<js.length:=by have:=ao h;omega
  have hje:eK bs js=4:=by rw[eK,ah h16]
  rw[hje,ah (by decide)]at hcd;rw[hcd];exact qX 1 rfl<|qN rfl
 have h16: ¬16<js.length:=by have:=ar h;omega
 have hje:eK bs js=fE (fy bs js) js.length 0:=by rw[eK,af h16]
 refine AW.skip<|AW.seq<|qX 1 rfl<|ae.nil<|AW.block ?_
 refine AW.aK [1,4] (fun i:Nat=>[(1,.bx [dS ln,aI bs,aE js,aF ds]),(4,.d (dI i))])
  (fun i=>i≤js.length∧eK bs js=fE (fy bs js) (js.length-i) i) (fun i=>js.length-i) 0 rfl ⟨an _,hje⟩ (fun i ⟨hi,hE⟩=>?_)
 refine AW.seq<|qX 5 rfl ?_;rw[aa];refine ae.nil<|AW.cond rfl (fun h=>?_) fun h=>?_
 ·have hin:i<js.length:=by have:=ao h;omega
  refine AW.skip<|AW.seq<|AW.block<|qX 2 rfl<|qM rfl (c2 i hin) ?_;refine qU 1 rfl<|qK 2 rfl<|ae.nil<|AW.cond rfl (fun h=>?_) fun h=>?_
  ·rw[hE.trans (ez hin (BE h)),ah (BE h)]at hcd;rw[hcd];exact qX 2 rfl<|qN rfl
  ·refine AW.skip (qT 3 rfl ?_);rw[aD (x:=(i:Int)+1) (by omega) (by omega)];refine ae.nil ?_;exact⟨i+1,rfl,⟨hin,hE.trans (cQ hin (Fu h))⟩,by omega⟩
 have hin: ¬i<js.length:=by have:=ar h;omega
 rw[hE.trans (eC hin),af (by decide)]at hcd;refine AW.exit<|AW.seq<|qX 4 rfl ?_;rw[aa];refine ae.nil<|AW.cond rfl (fun h=>?_) fun h=>?_
 ·have h2:2<ds.length:=by have:=ao h;omega
  rw[kp,ah h2]at hcd;rw[hcd];exact qX 1 rfl<|qN rfl
 have h2: ¬2<ds.length:=by have:=ar h;omega
 rw[kp,af h2]at hcd;refine AW.skip<|AW.seq<|qX 1 rfl<|ae.nil<|AW.block ?_
 refine AW.aK [1,6] (fun i:Nat=>[(1,.bx [dS ln,aI bs,aE js,aF ds]),(6,.d (dI i))])
  (fun i=>i≤ds.length∧E=fE (eM bs.length ds) (ds.length-i) i) (fun i=>ds.length-i) 0 rfl ⟨an _,hcd⟩ (fun i ⟨hi,hE⟩=>?_)
 refine AW.seq<|qX 5 rfl ?_;rw[aa];refine ae.nil<|AW.cond rfl (fun h=>?_) fun h=>?_
 ·have hin:i<ds.length:=by have:=ao h;omega
  refine AW.skip<|AW.seq<|AW.block<|qX 2 rfl<|qM rfl (c3 i hin) ?_;refine qU 1 rfl<|qK 2 rfl<|ae.nil<|AW.cond rfl (fun h=>?_) fun h=>?_
  ·rw[hE.trans (ez hin (BE h))];exact qX 2 rfl<|qN rfl
  ·refine AW.skip (qT 3 rfl ?_);rw[aD (x:=(i:Int)+1) (by omega) (by omega)];refine ae.nil ?_;exact⟨i+1,rfl,⟨hin,hE.trans (cQ hin (Fu h))⟩,by omega⟩
 have hin: ¬i<ds.length:=by have:=ar h;omega
 rw[hE.trans (eC hin)];exact AW.exit<|qX 1 rfl<|qN rfl
def Gi(rt:List (List RD))(a:List RD):D:=if kL rt [a]≠0 then .tu [ak [],dI (kL rt [a])]else .tu [ak (gk (aA a)),dI 0]
theorem xo{a:List RD}(T:qj m rt)(A:kR m rt a):Pure Tryz.prog 68 [uF rt,bo a] (Gi rt a):=by
 refine qJ 17 Tryz.func68 rfl fun B F0 w0=>?_;have ce:=C' T A;have hm:=T.m2;unfold Gi;refine qX 3 rfl<|qI<|qX 2 rfl<|ae.ku tok rfl rfl rfl rfl rfl ?_;refine qM rfl ce<|qU 1 rfl<|qK 2 rfl<|ae.nil ?_;by_cases e2:kL rt [a]=0;rotate_left
 ·rw[ah e2,bne_iff_ne.2 (show((kL rt [a]:Nat):Int)≠0 by omega)];exact AW.aH rfl<|qX 3 rfl<|qN rfl
 rw[af (fun h=>h e2),bne_eq_false_iff_eq.2 (show((kL rt [a]:Nat):Int)=0 by omega)];obtain⟨k1,k2⟩:=Cd e2;have h5:=(pq k1).1;obtain⟨n1,n2,n3⟩:=kC T.m1 A k2;have nl:=n1.len (by omega);have cl:=kc (aA a) n2 (by omega) (by omega);have cs:=b9 (aP (aA a)) n1.minus h5;rw[←n3]at cl;exact AW.aC rfl<|AW.skip<|qX 1 rfl<|qM rfl cl<|qM rfl cs<|qU 2 rfl<|qN rfl
theorem C6{a:NQ}(V:fC m v)(ha:ay v.length a)(sa:au m a):Pure Tryz.prog 68 [fm v,ak a] (.tu [ak (gk a),dI 0]):=by have:=xo V.raw.1 (jT V ha sa);unfold Gi at this;rw[Qi V ha,af (fun h=>h rfl),lv,il,iX]at this;exact this
theorem mI(r:RD)(hr:r.w k)(h1:1≤k)(hk:k≤1000000):Pure Tryz.prog 73 [r.D] (ak (nZ r.val)):=by
 refine qJ 10 Tryz.func73 rfl fun B F0 w0=>?_;have c1:=oP r hr (by omega);have c2:=q8 r (Qr 0) hr (gz _ (lK h1)) (by omega);rw[b5,show r.val+0=r.val from e6 _,gL]at c2;rw[AU]at c1;unfold nZ;refine qX 2 rfl<|qI<|qX 1 rfl<|qM rfl c1<|qU 1 rfl<|ae.nil ?_;by_cases h:r.val=0
 ·rw[ah h,beq_iff_eq.2 (cR.2 h)];exact AW.aH rfl<|qX 1 rfl<|qN rfl
 rw[af h,beq_eq_false_iff_ne.2 (fun e=>h (cR.1 e))];refine AW.aC rfl<|AW.skip<|qX 2 rfl<|qM rfl c2<|ae.ku tok rfl rfl rfl rfl rfl ?_;exact qU 1 rfl<|qN rfl
theorem Da{a:NQ}(V:fC m v)(ha:ay v.length a)(sa:au m a)(hb:ay v.length b)(sb:au m b):Pure Tryz.prog 160 [fm v,ak a,ak b] (.tu [ak (uE a b),dI 0]):=by refine qJ 21 Tryz.func160 rfl (fun B F0 w0=>?_);have ce:=nB V ha sa hb sb;have hm:=V.m2;have h5:=V.l5;have la:=ha.len (by omega);have lb:=hb.len (by omega);have cp:=gg a b sa sb (by omega) (by omega) (by omega);have cs:=b9 (aS a b) (ha.plus hb) h5;refine qX 3 rfl<|qI<|qX 3 rfl<|ae.ku tok rfl rfl rfl rfl rfl ?_;refine qM rfl ce<|qU 1 rfl<|qK 2 rfl<|ae.nil<|AW.aC rfl<|AW.skip<|qX 2 rfl<|qM rfl cp<|qM rfl cs ?_;exact qU 2 rfl<|qN rfl
theorem C5{a:NQ}(V:fC m v)(ha:ay v.length a)(sa:au m a)(hb:ay v.length b)(sb:au m b):Pure Tryz.prog 121 [fm v,ak a,ak b] (.tu [ak (fq a b),dI 0]):=by refine qJ 22 Tryz.func121 rfl (fun B F0 w0=>?_);have ce:=nB V ha sa hb sb;have hm:=V.m2;have h5:=V.l5;have la:=ha.len (by omega);have lb:=hb.len (by omega);have cl:=kc b sb (by omega) (by omega);have cp:=gg a (aP b) sa sb.minus (by omega) (by omega) (by rw[cV];omega);have cs:=b9 (aS a (aP b)) (ha.plus hb.minus) h5;refine qX 3 rfl<|qI<|qX 3 rfl<|ae.ku tok rfl rfl rfl rfl rfl ?_;refine qM rfl ce<|qU 1 rfl<|qK 2 rfl<|ae.nil<|AW.aC rfl<|AW.skip<|qX 2 rfl<|qM rfl cl<|qM rfl cp ?_;exact qM rfl cs<|qU 2 rfl<|qN rfl
theorem C7{a:NQ}(hsT:sT v.length m≤17300000000000)(V:fC m v)(ha:ay v.length a)(sa:au m a)(hb:ay v.length b)(sb:au m b):Pure Tryz.prog 122 [fm v,ak a,ak b] (.tu [ak (et v a b),dI 0]):=by refine qJ 22 Tryz.func122 rfl (fun B F0 w0=>?_);have ce:=nB V ha sa hb sb;have hm:=V.m2;have h5:=V.l5;have la:=ha.len (by omega);have lb:=hb.len (by omega);have hx: ∀j,j<v.length→(v.map ak)[j]?=some (ak (v.getD j [])):=fun j hj=>qC hj;have ct:=ft v.length (xs:=v.map ak) ha hb V.ro (al _) h5 hx sa sb V.sz hsT;have rt:=fN v.length ha hb V.ro (al _);have tt:=da v.length ha hb V.ro (al _);have cs:=b9 (eH v.length v a b) rt.1 h5;rw[lg rt.1 tt.1 (rt.2.trans tt.2.symm)]at cs;refine qX 3 rfl<|qI<|qX 3 rfl<|ae.ku tok rfl rfl rfl rfl rfl ?_;refine qM rfl ce<|qU 1 rfl<|qK 2 rfl<|ae.nil<|AW.aC rfl<|AW.skip<|qX 3 rfl<|qM rfl ct<|qM rfl cs ?_;exact qU 2 rfl<|qN rfl
theorem qZ{a:NQ}(V:fC m v)(ha:ay v.length a)(sa:au m a)(hb:ay v.length b)(sb:au m b):Pure Tryz.prog 120 [fm v,ak a,ak b] (ak (uE a b)):=by refine qJ 17 Tryz.func120 rfl (fun B F0 w0=>?_);have c1:=Da V ha sa hb sb;exact qX 2 rfl<|qK 3 rfl<|qM rfl c1<|qU 5 rfl<|qK 2 rfl<|qN rfl
theorem nu{a:NQ}(V:fC m v)(ha:ay v.length a)(sa:au m a)(hb:ay v.length b)(sb:au m b):Pure Tryz.prog 77 [fm v,ak a,ak b] (ak (fq a b)):=by refine qJ 17 Tryz.func77 rfl (fun B F0 w0=>?_);have c1:=C5 V ha sa hb sb;exact qX 2 rfl<|qK 3 rfl<|qM rfl c1<|qU 5 rfl<|qK 2 rfl<|qN rfl
theorem jH{a:NQ}(hsT:sT v.length m≤17300000000000)(V:fC m v)(ha:ay v.length a)(sa:au m a)(hb:ay v.length b)(sb:au m b):Pure Tryz.prog 78 [fm v,ak a,ak b] (ak (et v a b)):=by refine qJ 17 Tryz.func78 rfl (fun B F0 w0=>?_);have c1:=C7 hsT V ha sa hb sb;exact qX 2 rfl<|qK 3 rfl<|qM rfl c1<|qU 5 rfl<|qK 2 rfl<|qN rfl
theorem jG{a:NQ}(V:fC m v)(ha:ay v.length a)(sa:au m a):Pure Tryz.prog 76 [fm v,ak a] (ak (gk a)):=by refine qJ 14 Tryz.func76 rfl (fun B F0 w0=>?_);have c1:=C6 V ha sa;exact qX 2 rfl<|qK 2 rfl<|qM rfl c1<|qU 5 rfl<|qK 2 rfl<|qN rfl
theorem xf(p:fp)(T:qj m rt)(hp:p.ok m rt)(h0:df rt=0):Pure Tryz.prog 38 [uF rt,p.D] (dI (Ai rt p)):=by
 refine qJ 36 Tryz.func38 rfl fun B F0 w0=>?_
 have hq: ∀k,k<4→ ∃q,[bo p.c,bo p.s,bo p.x,bo p.y][k]?=some (bo q)∧HK rt p k=bF rt.length q∧kR m rt q:=fun k hk=>by
  rcases k with _|k
  ·exact⟨p.c,rfl,rfl,hp.c⟩
  rcases k with _|k
  ·exact⟨p.s,rfl,rfl,hp.s⟩
  rcases k with _|k
  ·exact⟨p.x,rfl,rfl,hp.x⟩
  rcases k with _|k
  ·exact⟨p.y,rfl,rfl,hp.y⟩
  omega
 unfold Ai;obtain⟨E,hE⟩: ∃E,fE (HK rt p) (4-0) 0=E:=⟨_,rfl⟩;rw[hE];refine qX 3 rfl<|qK 8 rfl<|ae.ku tok rfl rfl rfl rfl rfl ?_;refine qU 1 rfl<|qI<|qX 1 rfl<|ae.nil ?_;refine AW.block<|AW.aK [2,5,6] (fun i:Nat=>[(2,.bx [.sl 1 (rt.map bo)]),(5,.d (.sl 1 [bo p.c,bo p.s,bo p.x,bo p.y])),(6,.d (dI i))]) (fun i=>i≤4∧fE (HK rt p) (4-i) i=E) (fun i=>4-i) 0 rfl ⟨an _,hE⟩ fun i ⟨hi,hiE⟩=>?_;refine AW.seq<|qX 4 rfl<|ae.nil ?_;by_cases hii:i<4;rotate_left
 ·rw[eC hii]at hiE;subst hiE;have:i=4:=by omega
  subst this;exact AW.aC rfl<|AW.exit<|qX 1 rfl<|qN rfl
 obtain⟨q,hg,hgq,hqo⟩:=hq i hii;have cn:=xo T hqo;have hmiss:=fun h0:HK rt p i=0=>(cQ hii h0).symm.trans hiE;have hhit:=fun h0:HK rt p i≠0=>(ez hii h0).symm.trans hiE;unfold Gi at cn;rw[MS h0]at cn;rw[hgq]at hmiss hhit;rw[show decide ((i:Int)<(([bo p.c,bo p.s,bo p.x,bo p.y]:List D).length:Int))=true from aN (by show(i:Int)<((4:Nat):Int);omega)];refine AW.aH rfl<|AW.skip<|AW.seq<|AW.block<|AW.seq ?_;by_cases hz:bF rt.length q=0;rotate_left
 ·rw[ah hz]at cn;have:=hhit hz;subst this;refine AW.draw aO 10 (by kernel_rfl) ?_;refine qP 3 rfl<|ai.idx tok (bo q) rfl rfl rfl rfl rfl (am i) hg ?_;refine qP 1 rfl<|qQ rfl cn<|qP 4 rfl<|ai.nil<|qU 1 rfl<|qK 2 rfl ?_;rw[bne_iff_ne.2 (show((bF rt.length q:Nat):Int)≠0 by omega)];exact ae.nil<|AW.aH rfl<|qX 2 rfl<|qN rfl
 rw[af (fun h=>h hz)]at cn;refine AW.draw aO 10 (by kernel_rfl) ?_;refine qP 3 rfl<|ai.idx tok (bo q) rfl rfl rfl rfl rfl (am i) hg ?_;refine qP 1 rfl<|qQ rfl cn<|qP 4 rfl<|ai.nil<|qU 1 rfl<|qK 2 rfl<|ae.nil<|AW.aC rfl<|AW.skip<|qT 2 rfl ?_;rw[aD (x:=(i:Int)+1) (by omega) (by omega)];refine qU 1 rfl<|ae.nil ?_;exact⟨i+1,rfl,⟨hii,hmiss hz⟩,by omega⟩
theorem A8(l:Lkg)(a:Asm)(hl:l.ok K)(hK:K≤5000000)(ha:a.ok m):Pure Tryz.prog 16 [l.D,a.D] (dI (gl l a)):=by
 refine qJ 45 Tryz.func16 rfl fun B0 F0 w0=>?_;have cM:=Bc l hl hK;obtain⟨m0,t1,t2,tw,tk⟩:=ha.t.t;have cT:=nC a.rt tw t1 ha.t.l ha.t.ll tk;have hal:=ha.l;have haT:=ha.t;have hab:=ha.b;unfold gl;obtain⟨E,hE⟩: ∃E,fE (fun i=>Ai a.rt (a.bodies.getD i default)) (a.bodies.length-0) 0=E:=⟨_,rfl⟩;rw[hE];generalize Cq l=c1 at cM ⊢;obtain⟨ln,lb,js,lds⟩:=l;obtain⟨rt,bs,md⟩:=a;simp only[]at *;refine qX 3 rfl<|qI<|qX 1 rfl<|qM rfl cM<|qU 1 rfl<|qK 2 rfl<|ae.nil ?_;by_cases e1:c1=0;rotate_left
 ·rw[ah e1,bne_iff_ne.2 (show((c1:Nat):Int)≠0 by omega)];exact AW.aH rfl<|qX 2 rfl<|qN rfl
 rw[af (fun h=>h e1),bne_eq_false_iff_eq.2 (show((c1:Nat):Int)=0 by omega)];refine AW.aC rfl<|AW.skip<|AW.seq<|qX 2 rfl<|qM rfl cT<|qU 1 rfl<|qK 2 rfl<|ae.nil ?_;by_cases e2:df rt=0;rotate_left
 ·rw[ah e2,bne_iff_ne.2 (show((df rt:Nat):Int)≠0 by omega)];exact AW.aH rfl<|qX 2 rfl<|qN rfl
 rw[af (fun h=>h e2),bne_eq_false_iff_eq.2 (show((df rt:Nat):Int)=0 by omega)];refine AW.aC rfl<|AW.skip<|AW.seq<|qX 2 rfl<|qU 1 rfl ?_;rw[aa];refine qU 3 rfl ?_;rw[aa];refine qU 1 rfl<|ae.nil ?_;by_cases e3:bs.length=lb.length;rotate_left
 ·rw[ah e3,bne_iff_ne.2 (show((bs.length:Nat):Int)≠((lb.length:Nat):Int) by omega)];exact AW.aH rfl<|qX 1 rfl<|qN rfl
 rw[af (fun h=>h e3),bne_eq_false_iff_eq.2 (show((bs.length:Nat):Int)=((lb.length:Nat):Int) by omega)];refine AW.aC rfl<|AW.skip<|AW.seq<|qX 1 rfl<|ae.nil ?_;refine AW.block<|AW.aK [3,7] (fun i:Nat=>[(3,.bx [.sl 1 (rt.map bo),.sl 4 (bs.map fp.D),.sl 1 (md.map (fun n=>dI n))]),(7,.d (dI i))]) (fun i=>i≤bs.length∧fE (fun i=>Ai rt (bs.getD i default)) (bs.length-i) i=E) (fun i=>bs.length-i) 0 rfl ⟨an _,hE⟩ fun i ⟨hi,hiE⟩=>?_;refine AW.seq<|qX 4 rfl ?_;rw[aa];refine qU 1 rfl<|ae.nil<|AW.cond rfl (fun h=>?_) fun h=>?_;rotate_left
 ·have hii: ¬i<bs.length:=by have:=ar h;omega
  rw[eC hii]at hiE;subst hiE;exact AW.exit<|qX 1 rfl<|qN rfl
 have hii:i<bs.length:=by have:=ao h;omega
 have hg:=getM fp.D hii;have cn:=xf (bs.getD i default) haT (hab i hii) e2;have hmiss:=fun h0:Ai rt (bs.getD i default)=0=>(cQ (f:=fun i=>Ai rt (bs.getD i default)) hii h0).symm.trans hiE;have hhit:=fun h0:Ai rt (bs.getD i default)≠0=>(ez (f:=fun i=>Ai rt (bs.getD i default)) hii h0).symm.trans hiE;generalize Ai rt (bs.getD i default)=z at cn hmiss hhit;refine AW.skip<|AW.seq<|AW.block<|AW.seq<|AW.draw aO 8 (by kernel_rfl) ?_;refine qP 5 rfl<|ai.idx tok (bs.getD i default).D rfl rfl rfl rfl rfl (am i) hg ?_;refine qP 1 rfl<|qQ rfl cn<|ai.nil<|qU 1 rfl<|qK 2 rfl<|ae.nil ?_;by_cases hz:z=0;rotate_left
 ·have:=hhit hz;subst this;rw[bne_iff_ne.2 (show((z:Nat):Int)≠0 by omega)];exact AW.aH rfl<|qX 2 rfl<|qN rfl
 rw[bne_eq_false_iff_eq.2 (show((z:Nat):Int)=0 by omega)];refine AW.aC rfl<|AW.skip<|qT 2 rfl ?_;rw[aD (x:=(i:Int)+1) (by omega) (by omega)];refine qU 1 rfl<|ae.nil ?_;exact⟨i+1,rfl,⟨hii,hmiss hz⟩,by omega⟩
theorem A6{P:KM}(l:Lkg)(bs:List fp)(md:List Int)(b p:Int)(V:fC 16 v)(hl:v.length≤2)(hb0:0≤b)(hb1:b<l.bodies.length)(hp0:0≤p)(hp1:p<(l.bodies.getD b.toNat default).pts.length)
  (hP:(bs.map fp.D)[b.toNat]?=some P.D) (hPo:P.ok v.length 16) (wx:((l.bodies.getD b.toNat default).pts.getD p.toNat default).x.w 16) (wy:((l.bodies.getD b.toNat default).pts.getD p.toNat default).y.w 16):
  Pure Tryz.prog 72 [l.D,.ag [.sl 1 (v.map ak),.sl 4 (bs.map fp.D),.sl 1 (md.map (fun n=>dI n))],dI b,dI p] (.tu [ak (MW v P (nZ ((l.bodies.getD b.toNat default).pts.getD p.toNat default).x.val) (nZ ((l.bodies.getD b.toNat default).pts.getD p.toNat default).y.val)),ak (MV v P (nZ ((l.bodies.getD b.toNat default).pts.getD p.toNat default).x.val) (nZ ((l.bodies.getD b.toNat default).pts.getD p.toNat default).y.val))]):=by
 refine qJ 69 Tryz.func72 rfl fun B0 F0 w0=>?_;have gB:(l.bodies.map Body.D)[b.toNat]?=some (l.bodies.getD b.toNat default).D:=getM Body.D (by omega);have gM:((l.bodies.getD b.toNat default).pts.map Mark.D)[p.toNat]?=some ((l.bodies.getD b.toNat default).pts.getD p.toNat default).D:=getM Mark.D (by omega);have c1:=mI _ wx (by decide) (by decide);have c2:=mI _ wy (by decide) (by decide);have hx:=kB v.length (bU wx (by decide));have hy:=kB v.length (bU wy (by decide));obtain⟨ln,lb,js,lds⟩:=l;simp only[]at *;generalize lb.getD b.toNat default=Bd at *;generalize Bd.pts.getD p.toNat default=M at *;generalize nZ M.x.val=px at *;generalize nZ M.y.val=py at *;have s1:=pO (m:=16) hl;have V2:=V.mono (k:=1400) (by decide) (by decide);have m1:=jH (by omega) V hPo.c.1 hPo.c.2 hx.1 hx.2;have m2:=jH (by omega) V hPo.s.1 hPo.s.2 hy.1 hy.2;have m3:=jH (by omega) V hPo.s.1 hPo.s.2 hx.1 hx.2;have m4:=jH (by omega) V hPo.c.1 hPo.c.2 hy.1 hy.2;have p1:=dY V hPo.c.1 hPo.c.2 hx.1 hx.2;have p2:=dY V hPo.s.1 hPo.s.2 hy.1 hy.2;have p3:=dY V hPo.s.1 hPo.s.2 hx.1 hx.2;have p4:=dY V hPo.c.1 hPo.c.2 hy.1 hy.2;have q1:=ic p1.1 p1.2 p2.1 p2.2;have q2:=tv p3.1 p3.2 p4.1 p4.2;have n1:=nu V2 p1.1 (p1.2.mono (by omega)) p2.1 (p2.2.mono (by omega));have n2:=qZ V2 p3.1 (p3.2.mono (by omega)) p4.1 (p4.2.mono (by omega));have o1:=qZ V2 q1.1 (q1.2.mono (by omega)) hPo.x.1 (hPo.x.2.mono (by omega));have o2:=qZ V2 q2.1 (q2.2.mono (by omega)) hPo.y.1 (hPo.y.2.mono (by omega));unfold MW MV;refine qX 4 rfl<|qI<|AW.mU tok aO [(2,true),(14,false),(3,true)] 19 [10,11,12] (by kernel_rfl) ⟨rfl,?_⟩;refine qP 2 rfl<|ai.nil ⟨rfl,?_⟩;refine qP 3 rfl<|ai.idx tok P.D rfl rfl rfl rfl rfl hb0 hP ?_;refine qP 4 rfl<|ai.idx tok Bd.D rfl rfl rfl rfl rfl hb0 gB ?_;refine qP 3 rfl<|ai.idx tok M.D rfl rfl rfl rfl rfl hp0 gM ?_;refine qP 1 rfl<|ai.nil ⟨rfl,?_⟩;refine qP 3 rfl<|ai.nil ⟨_,m8.cons (.bx rfl) (m8.cons (.bx rfl) (m8.cons (.bx rfl) m8.nil)),ae.nil ?_⟩;refine AW.seq<|AW.draw aO 6 (by kernel_rfl) ?_;refine qP 2 rfl<|qQ rfl c1<|qP 2 rfl<|qQ rfl c2<|ai.nil<|qU 2 rfl<|qI<|AW.draw aO 32 (by kernel_rfl) ?_;refine qP 6 rfl<|qQ rfl m1<|qP 4 rfl<|qQ rfl m2<|qQ rfl n1<|qP 2 rfl<|qQ rfl o1<|qP 6 rfl<|qQ rfl m3 ?_;exact qP 4 rfl<|qQ rfl m4<|qQ rfl n2<|qP 2 rfl<|qQ rfl o2<|ai.nil<|qU 2 rfl<|qN rfl
theorem HB(k:Nat):(a' k ([]:NQ))++[[]]=a' (k+1) []:=(List.replicate_succ' ..).symm
theorem xe(l:Lkg)(h1:1≤l.bodies.length)(h2:l.bodies.length≤1000):fM Tryz.prog 75 [l.D] [] (Ji (lu l.bodies.length)):=by
 refine fM.intro (n:=20) tok Tryz.func75 rfl rfl rfl (cS rfl) (by kernel_rfl) fun B F0 w0=>?_;have c1:=mI (Qr 0) (k:=1) (gz _ (lK (by decide))) (by decide) (by decide);rw[b5,gL,show nZ 0=[]from rfl]at c1;obtain⟨n,hn⟩: ∃n,l.bodies.length=n:=⟨_,rfl⟩;rw[hn]at h1 h2;unfold lu;rw[hn];obtain⟨ln,lb,js,lds⟩:=l;simp only[]at hn;obtain⟨N,hN⟩: ∃N,3*(n-1)=N:=⟨_,rfl⟩;rw[hN];refine AZ.seq<|AZ.cL fun B1 F1 w1=>?_;refine qU 2 rfl<|ae.nil ⟨rfl,?_⟩;refine AZ.seq<|AZ.cL fun B1 F1 w1=>?_;refine qU 1 rfl<|ae.nil ⟨rfl,?_⟩;refine AZ.seq<|AZ.seq ?_;refine AZ.cL fun B1 F1 w1=>?_;refine qU 1 rfl<|ae.nil ⟨rfl,?_⟩;refine AZ.block ?_;refine AZ.aK [1,3,4] (fun k:Nat=>([],[(1,.bx [dS ln,aI lb,aE js,aF lds]),(3,.ow 52 (wA (a' k []))),(4,.d (dI k))])) (fun k=>k≤N) (fun k=>N-k) 0 rfl (an _) fun k hk=>?_
 ·show AZ _ _ _ _ _ _ _ [] [(1,.bx [dS ln,aI lb,aE js,aF lds]),(3,.ow 52 (wA (a' k []))),(4,.d (dI k))];refine AZ.seq<|AZ.seq ?_;refine AZ.cL fun B1 F1 w1=>?_;refine qU 4 rfl ?_;rw[aa,hn];refine qU 1 rfl ?_;rw[aD (x:=(n:Int) -1) (by omega) (by omega)];refine qU 1 rfl ?_;rw[aD (x:=3*((n:Int) -1)) (by omega) (by omega)];refine qU 1 rfl<|ae.nil ⟨rfl,?_⟩;refine AZ.cond rfl (fun h=>?_) fun h=>?_
  ·have hkN:k<N:=by have:=ao h;omega
   refine AZ.skip<|AZ.seq ?_;refine AZ.block<|AZ.cL fun B1 F1 w1=>?_;refine qU 2 rfl<|qM rfl c1<|ae.ku tok rfl rfl rfl rfl rfl ?_;refine ae.jw tok rfl rfl rfl rfl rfl rfl (by show((wA (a' k [])).length+1)*24≤_;rw[aa,cx];omega) (by show(wA (a' k [])).length+1≤_;rw[aa,cx];omega) ?_;refine qU 1 rfl<|ae.nil ⟨rfl,?_⟩;refine AZ.cL fun B1 F1 w1=>?_;refine qU 2 rfl ?_;rw[aD (x:=(k:Int)+1) (by omega) (by omega)];refine qU 1 rfl<|ae.nil ⟨rfl,?_⟩
   exact⟨k+1,by
    show([],[(1,AV.bx [dS ln,aI lb,aE js,aF lds]),(3,AV.ow 52 (wA (a' k [])++[ak []])),(4,AV.d (dI ((k:Int)+1)))])=_;rw[show wA (a' k [])++[ak []]=wA (a' (k+1) []) by rw[←HB];simp]
    rfl,hkN,by omega⟩
  have hkN:k=N:=by have:=ar h;omega
  subst hkN;refine AZ.exit ?_;refine AZ.seq<|AZ.cL fun B1 F1 w1=>?_;refine qU 2 rfl<|ae.nil ⟨rfl,?_⟩;exact AZ.fS 2 rfl rfl rfl fun V=>AZ.ret ⟨.v V,rfl,V,rfl,rfl⟩
def No(r:List NQ)(b:Nat)(x y w:NQ):List NQ:=((r.set (3*b-3) x).set (3*b-2) y).set (3*b-1) w
theorem put_eq{b:Int}(x y w:NQ)(hb:0<b)(h:3*b.toNat≤r.length):iR r b x y w=No r b.toNat x y w:=by
 unfold iR No;rw[ah hb];obtain⟨k,hk⟩: ∃k,b.toNat=k+1:=⟨b.toNat-1,by omega⟩;rw[hk]at h ⊢;refine List.ext_getElem? fun i=>?_
 have e1:(r.take (3*(k+1-1))++[x,y,w]).length=3*k+3:=by rw[av,ax];show min (3*(k+1-1)) r.length+3=_;omega
 rw[c',c',c',cb,cb];by_cases h1:i<3*k
 ·rw[af (by omega),af (by omega),af (by omega),bv (by omega),bv (by rw[ax];omega),cd,ah (by omega)]
 by_cases h2:i<3*k+3
 ·rw[bv (by omega),bi (by rw[ax];omega),ax];obtain⟨d,hd⟩: ∃d,i=3*k+d:=⟨i-3*k,by omega⟩;have h3:d=0∨d=1∨d=2:=by omega
  rcases h3 with rfl|rfl|rfl
  ·rw[af (by omega),af (by omega),ah (by omega),ah (by omega),show i-min (3*(k+1-1)) r.length=0 by omega];rfl
  ·rw[af (by omega),ah (by omega),ah (by omega),show i-min (3*(k+1-1)) r.length=1 by omega];rfl
  ·rw[ah (by omega),ah (by omega),show i-min (3*(k+1-1)) r.length=2 by omega];rfl
 ·rw[af (by omega),af (by omega),af (by omega),bi (by omega),e1,List.getElem?_drop]
  congr 1;omega
def IU(V:Value)(r:List NQ)(res:D)(R':List LR):Prop:=res= .v V∧R'=[(V,AV.ow 52 (wA r))]
theorem jF(V:Value)(r:List NQ)(b:Int)(x y w:NQ)(h1:0<b→3*b.toNat≤r.length)(hb:b≤1000000)(hb0: -1000000≤b):fM Tryz.prog 74 [.v V,dI b,ak x,ak y,ak w] [(V,AV.ow 52 (wA r))] (IU V (iR r b x y w)):=by
 refine fM.intro (n:=32) tok Tryz.func74 rfl rfl rfl (cS rfl) (by kernel_rfl) fun B F0 w0=>?_;refine AZ.seq<|AZ.cL fun B1 F1 w1=>?_;refine qU 1 rfl<|ae.nil ⟨rfl,?_⟩;refine AZ.seq<|AZ.seq ?_;refine AZ.cL fun B1 F1 w1=>?_;refine qU 2 rfl<|ae.nil ⟨rfl,?_⟩;refine AZ.cond rfl (fun h=>?_) fun h=>?_
 ·have hb1:0<b:=ao h;have h1:=h1 hb1;rw[put_eq x y w hb1 h1];unfold No;obtain⟨k,hk⟩: ∃k:Nat,b=k:=⟨b.toNat,by omega⟩;subst hk;have e:((k:Int)).toNat=k:=rfl;rw[e]at h1 ⊢;have u1:((3*(k:Int) -3)).toNat=3*k-3:=by omega
  have u2:((3*(k:Int) -2)).toNat=3*k-2:=by omega
  have u3:((3*(k:Int) -1)).toNat=3*k-1:=by omega
  refine AZ.region ?_;refine aj.cut 15 rfl fun B1 F1 w1=>?_;refine qU 3 rfl ?_;rw[aD (x:=3*(k:Int)) (by omega) (by omega)];refine qU 1 rfl ?_;rw[aD (x:=3*(k:Int) -3) (by omega) (by omega)];refine qU 3 rfl ?_;rw[aD (x:=3*(k:Int)) (by omega) (by omega)];refine qU 1 rfl ?_;rw[aD (x:=3*(k:Int) -2) (by omega) (by omega)];refine qU 3 rfl ?_;rw[aD (x:=3*(k:Int)) (by omega) (by omega)];refine qU 1 rfl ?_;rw[aD (x:=3*(k:Int) -1) (by omega) (by omega)];refine qU 3 rfl<|ae.nil ⟨rfl,?_⟩;refine aj.cO 13 0 rfl rfl rfl ?_;refine aj.cut 2 rfl fun B1 F1 w1=>?_;refine ae.gI tok rfl rfl rfl rfl (by omega) (by rw[aa];omega) ?_;rw[u1];refine ae.tK tok x rfl rfl rfl (by omega) ?_;refine ae.nil ⟨rfl,?_⟩;refine aj.back 13 0 rfl rfl rfl (dx _) rfl ?_;refine aj.cO 17 0 rfl rfl rfl ?_;refine aj.cut 2 rfl fun B1 F1 w1=>?_;refine ae.gI tok rfl rfl rfl rfl (by omega) (by rw[aa,cb];omega) ?_;rw[u2];refine ae.tK tok y rfl rfl rfl (by rw[cb];omega) ?_;refine ae.nil ⟨rfl,?_⟩;refine aj.back 17 0 rfl rfl rfl (dx _) rfl ?_;refine aj.cO 21 0 rfl rfl rfl ?_;refine aj.cut 2 rfl fun B1 F1 w1=>?_;refine ae.gI tok rfl rfl rfl rfl (by omega) (by rw[aa,cb,cb];omega) ?_;rw[u3];refine ae.tK tok w rfl rfl rfl (by rw[cb,cb];omega) ?_;refine ae.nil ⟨rfl,?_⟩;refine aj.back 21 0 rfl rfl rfl (dx _) rfl ?_;refine aj.nil ?_;refine AZ.seq<|AZ.cL fun B1 F1 w1=>?_;refine qU 2 rfl<|ae.nil ⟨rfl,?_⟩;exact AZ.ret ⟨.v V,rfl,rfl,rfl⟩
 ·have hb1: ¬0<b:=ar h;rw[show iR r b x y w=r from af hb1];refine AZ.skip<|AZ.seq ?_;refine AZ.cL fun B1 F1 w1=>?_;refine qU 2 rfl<|ae.nil ⟨rfl,?_⟩;exact AZ.ret ⟨.v V,rfl,rfl,rfl⟩
abbrev Hh(v:List NQ)(bs:List fp)(md:List Int):D:=.ag [.sl 1 (v.map ak),.sl 4 (bs.map fp.D),.sl 1 (md.map (fun n=>dI n))]
theorem Oa:Qr 1=⟨false,[1],[1]⟩:=by
 have e:tw 1=[1]:=by rw[tH (by decide),show 1/4294967296=0 from rfl,jQ]
 unfold Qr;rw[show(1:Rat).num=1 from rfl,show(1:Rat).den=1 from rfl,e,af (by decide),iw,show(1:Int).natAbs=1 from rfl,e];rfl
structure PM (l:Lkg) (v:List NQ) (bs:List fp) (md:List Int) (X Y:Int→Int→NQ):Prop where
 b1:0<l.bodies.length
 b8:l.bodies.length≤8
 V:fC 16 v
 l2:v.length≤2
 w: ∀b p:Int,0≤b→b<l.bodies.length→0≤p→p<(l.bodies.getD b.toNat default).pts.length→Pure Tryz.prog 72 [l.D,Hh v bs md,dI b,dI p] (.tu [ak (X b p),ak (Y b p)])
 s: ∀b p:Int,0≤b→b<l.bodies.length→0≤p→p<(l.bodies.getD b.toNat default).pts.length→(ay v.length (X b p)∧au 1400 (X b p))∧(ay v.length (Y b p)∧au 1400 (Y b p))
theorem tQ{b:Int}(x y w:NQ)(hr:r.length=3*(n-1))(h:b<n)(h0:0≤b)(hn:0<n):(iR r b x y w).length=3*(n-1):=by rw[sL x y w (fun _=>by omega)];exact hr
theorem ET{bs:List fp}(W:PM l v bs md X Y)(j:bp)(J:Om l.bodies j):Pure Tryz.prog 40 [l.D,Hh v bs md,j.D] (iT [Je (lu l.bodies.length) j.a j.b (Y j.a j.pt) (Y j.b j.on),Jd (lu l.bodies.length) j.a j.b (X j.a j.pt) (X j.b j.on)]):=by
 refine qJ 83 Tryz.func40 rfl fun B F0 w0=>?_;have b1:=W.b1;have b8:=W.b8;have c1:=W.w j.a j.pt J.a.1 J.a.2 J.pt.1 J.pt.2;have c2:=W.w j.b j.on J.b.1 J.b.2 J.on.1 J.on.2;obtain⟨⟨x1,x2⟩,⟨x3,x4⟩⟩:=W.s j.a j.pt J.a.1 J.a.2 J.pt.1 J.pt.2;obtain⟨⟨y1,y2⟩,⟨y3,y4⟩⟩:=W.s j.b j.on J.b.1 J.b.2 J.on.1 J.on.2;have hrow:=xe l b1 (by omega);have V:=W.V.mono (show 16≤1400 by decide) (by decide);have cone:=mI (Qr 1) (k:=1) (gz 1 fU) (by decide) (by decide);rw[b5,Oa,show nZ 1=[1]from rfl]at cone;have czero:=mI (Qr 0) (k:=1) (gz _ (lK (by decide))) (by decide) (by decide);rw[b5,gL,show nZ 0=[]from rfl]at czero;have n1:=jG V (a:=[1]) (dZ _ _) (gd (by have:=fU;omega));have n2:=jG V x3 x4;have n3:=jG V y1 y2;have ja0:=J.a;have jb0:=J.b;generalize X j.a j.pt=px at *;generalize Y j.a j.pt=py at *;generalize X j.b j.on=qx at *;generalize Y j.b j.on=qy at *;have hz:=sj l.bodies.length;generalize l.bodies.length=n at *;generalize lu n=zr at *;have hzl: ∀b:Int,0≤b→b<n→0<b→3*b.toNat≤zr.length:=fun b g1 g2 _=>by omega
 have hpl:=fun x y w=>tQ x y w hz ja0.2 ja0.1 b1;have hpz: ∀(x y w:NQ) (b:Int),0≤b→b<n→0<b→3*b.toNat≤(iR zr j.a x y w).length:=fun x y w b g1 g2 _=>by rw[hpl];omega
 clear J W V x1 x2 x3 x4 y1 y2 y3 y4;obtain⟨ln,lb,js,lds⟩:=l;obtain⟨jn,jk,ja,jp,jb,jo,jt⟩:=j;simp only[]at *;refine AZ.aw ?_;refine AZ.seq<|AZ.cL fun B1 F1 w1=>?_;refine qU 4 rfl<|ae.nil ⟨rfl,?_⟩;refine AZ.seq<|AZ.cL fun B1 F1 w1=>?_;refine qU 4 rfl<|ae.nil ⟨rfl,?_⟩;refine AZ.seq<|AZ.cL fun B1 F1 w1=>?_;refine qU 6 rfl<|qM rfl c1<|qU 5 rfl<|ae.nil ⟨rfl,?_⟩;refine AZ.seq<|AZ.cL fun B1 F1 w1=>?_;refine qU 6 rfl<|qM rfl c2<|qU 5 rfl<|ae.nil ⟨rfl,?_⟩;refine AZ.seq<|AZ.cL fun B1 F1 w1=>?_;refine ae.ku tok rfl rfl rfl rfl rfl ?_;refine ae.ku tok rfl rfl rfl rfl rfl ?_;refine qU 1 rfl<|qM rfl cone<|qU 1 rfl<|qM rfl czero<|qU 2 rfl<|ae.nil ⟨rfl,?_⟩;refine AZ.to [3,5,7,8,9,10,11,12,13] [(3,.bx [dS ln,aI lb,aE js,aF lds]),(5,.bx [dS jn,dI jk,dI ja,dI jp,dI jb,dI jo,dI jt]),(7,.bx [.sl 1 (v.map ak)]),(8,.d (ak px)),(9,.d (ak py)),(10,.d (ak qx)),(11,.d (ak qy)),(12,.d (ak [1])),(13,.d (ak []))] rfl ?_;refine AZ.Dk 7 rfl fun U=>?_;refine AZ.seq (AZ.any aO (ZH.any (β:=[(5,[dS jn,dI jk,dI ja,dI jp,dI jb,dI jo,dI jt]),(7,[.v U])]) ?_));refine ZH.ho tok 4 rfl (by kernel_rfl) (fun _ _ _ h=>h) ⟨rfl,rfl,trivial⟩ ?_;refine ZH.ho tok 5 rfl (by kernel_rfl) (fun _ _ _ h=>h) ⟨rfl,rfl,trivial⟩ ?_;refine ZH.ho tok 7 rfl (by kernel_rfl) (fun _ _ _ h=>h) ⟨rfl,rfl,trivial⟩ ?_;refine ZH.ho tok 13 rfl (by kernel_rfl) (fun _ _ _ h=>h) ⟨rfl,rfl,trivial⟩ ?_;refine ZH.ho tok 15 rfl (by kernel_rfl) (fun _ _ _ h=>h) ⟨rfl,rfl,trivial⟩ ?_;refine ZH.ho tok 16 rfl (by kernel_rfl) (fun _ _ _ h=>h) ⟨rfl,rfl,trivial⟩ ?_;refine ZH.ho tok 2 rfl (by kernel_rfl) (fun _ _ _ h=>h) ⟨rfl,rfl,trivial⟩ ?_;refine ZH.ho tok 10 rfl (by kernel_rfl) (fun _ _ _ h=>h) ⟨rfl,rfl,trivial⟩ ?_;refine ZH.ho tok 3 rfl (by kernel_rfl) (fun _ _ _ h=>h) ⟨rfl,rfl,trivial⟩ ?_;refine ZH.ho tok 11 rfl (by kernel_rfl) (fun _ _ _ h=>h) ⟨rfl,rfl,trivial⟩ ?_;refine ZH.ho tok 6 rfl (by kernel_rfl) (fun _ _ _ h=>h) ⟨rfl,rfl,trivial⟩ ?_;refine ZH.ho tok 12 rfl (by kernel_rfl) (fun _ _ _ h=>h) ⟨rfl,rfl,trivial⟩ ?_;refine ZH.all 0 (by kernel_rfl) rfl rfl (fun _=>rfl) ⟨rfl,rfl,trivial⟩<|a8 fun B1 F1 w1=>ae.run tok 1 _ _ _ _ rfl<|ae.nil ⟨rfl,?_⟩;refine ZH.all 1 (by kernel_rfl) rfl rfl (fun _=>rfl) ⟨rfl,rfl,trivial⟩ ?_;refine aj.ed tok [] rfl rfl rfl rfl rfl c5 rfl hrow (fun _ _ _=>an _) fun res R1 hP=>?_;obtain⟨V,rfl,rfl⟩:=hP;refine aj.nil (ZH.ph (s:=50) (i:=0) rfl rfl rfl ?_ ⟨rfl,rfl,trivial⟩);refine ZH.all 8 (by kernel_rfl) rfl rfl (fun _=>rfl) ⟨rfl,rfl,trivial⟩<|a8 fun B1 F1 w1=>qM rfl n2<|ae.nil ⟨rfl,?_⟩;refine ZH.all 9 (by kernel_rfl) rfl rfl (fun _=>rfl) ⟨rfl,rfl,trivial⟩ ?_;refine aj.ed tok [1] rfl rfl rfl rfl rfl (by simp) rfl (jF V zr ja [1] [] (gk py) (hzl _ ja0.1 ja0.2) (by omega) (by omega)) (fun res R1 hP=>by rw[hP.2];exact al _) fun res R1 hP=>?_;obtain⟨rfl,rfl⟩:=hP;refine aj.nil (ZH.ph (s:=56) (i:=0) rfl rfl rfl ?_ ⟨rfl,rfl,trivial⟩);refine ZH.all 14 (by kernel_rfl) rfl rfl (fun _=>rfl) ⟨rfl,rfl,trivial⟩<|a8 fun B1 F1 w1=>qM rfl n1<|ae.nil ⟨rfl,?_⟩;refine ZH.all 17 (by kernel_rfl) rfl rfl (fun _=>rfl) ⟨rfl,rfl,trivial⟩ ?_;refine aj.ed tok [1] rfl rfl rfl rfl rfl (by simp) rfl (jF V (iR zr ja [1] [] (gk py)) jb (gk [1]) [] qy (hpz _ _ _ _ jb0.1 jb0.2) (by omega) (by omega)) (fun res R1 hP=>by rw[hP.2];exact al _) fun res R1 hP=>?_;obtain⟨rfl,rfl⟩:=hP;refine aj.nil ?_;refine ZH.all 18 (by kernel_rfl) rfl rfl (fun _=>rfl) ⟨rfl,rfl,trivial⟩<|a8 fun B1 F1 w1=>ae.run tok 1 _ _ _ _ rfl<|ae.nil ⟨rfl,?_⟩;refine ZH.done (by kernel_rfl) ⟨rfl,rfl,trivial⟩ ?_;refine AZ.cO 14 1 rfl rfl rfl ?_;refine AZ.to [3,5,7,8,10,12,13,14] [(3,.bx [dS ln,aI lb,aE js,aF lds]),(5,.bx [dS jn,dI jk,dI ja,dI jp,dI jb,dI jo,dI jt]),(7,.bx [.v U]),(8,.d (ak px)),(10,.d (ak qx)),(12,.d (ak [1])),(13,.d (ak [])),(14,.ow 52 (wA (iR (iR zr ja [1] [] (gk py)) jb (gk [1]) [] qy)))] rfl ?_;refine AZ.seq (AZ.any aO (ZH.any (β:=[(5,[dS jn,dI jk,dI ja,dI jp,dI jb,dI jo,dI jt]),(7,[.v U])]) ?_));refine ZH.ho tok 4 rfl (by kernel_rfl) (fun _ _ _ h=>h) ⟨rfl,rfl,trivial⟩ ?_;refine ZH.ho tok 5 rfl (by kernel_rfl) (fun _ _ _ h=>h) ⟨rfl,rfl,trivial⟩ ?_;refine ZH.ho tok 6 rfl (by kernel_rfl) (fun _ _ _ h=>h) ⟨rfl,rfl,trivial⟩ ?_;refine ZH.ho tok 10 rfl (by kernel_rfl) (fun _ _ _ h=>h) ⟨rfl,rfl,trivial⟩ ?_;refine ZH.ho tok 12 rfl (by kernel_rfl) (fun _ _ _ h=>h) ⟨rfl,rfl,trivial⟩ ?_;refine ZH.ho tok 15 rfl (by kernel_rfl) (fun _ _ _ h=>h) ⟨rfl,rfl,trivial⟩ ?_;refine ZH.ho tok 2 rfl (by kernel_rfl) (fun _ _ _ h=>h) ⟨rfl,rfl,trivial⟩ ?_;refine ZH.ho tok 8 rfl (by kernel_rfl) (fun _ _ _ h=>h) ⟨rfl,rfl,trivial⟩ ?_;refine ZH.ho tok 3 rfl (by kernel_rfl) (fun _ _ _ h=>h) ⟨rfl,rfl,trivial⟩ ?_;refine ZH.ho tok 9 rfl (by kernel_rfl) (fun _ _ _ h=>h) ⟨rfl,rfl,trivial⟩ ?_;refine ZH.ho tok 11 rfl (by kernel_rfl) (fun _ _ _ h=>h) ⟨rfl,rfl,trivial⟩ ?_;refine ZH.ho tok 14 rfl (by kernel_rfl) (fun _ _ _ h=>h) ⟨rfl,rfl,trivial⟩ ?_;refine ZH.all 0 (by kernel_rfl) rfl rfl (fun _=>rfl) ⟨rfl,rfl,trivial⟩<|a8 fun B1 F1 w1=>ae.run tok 1 _ _ _ _ rfl<|ae.nil ⟨rfl,?_⟩;refine ZH.all 1 (by kernel_rfl) rfl rfl (fun _=>rfl) ⟨rfl,rfl,trivial⟩ ?_;refine aj.ed tok [] rfl rfl rfl rfl rfl c5 rfl hrow (fun _ _ _=>an _) fun res R1 hP=>?_;obtain⟨V,rfl,rfl⟩:=hP;refine aj.nil ?_;refine ZH.all 7 (by kernel_rfl) rfl rfl (fun _=>rfl) ⟨rfl,rfl,trivial⟩ ?_;refine aj.ed tok [2] rfl rfl rfl rfl rfl (by simp) rfl (jF V zr ja [] [1] px (hzl _ ja0.1 ja0.2) (by omega) (by omega)) (fun res R1 hP=>by rw[hP.2];exact al _) fun res R1 hP=>?_;obtain⟨rfl,rfl⟩:=hP;refine aj.nil (ZH.ph (s:=73) (i:=0) rfl rfl rfl ?_ ⟨rfl,rfl,trivial⟩);refine ZH.all 13 (by kernel_rfl) rfl rfl (fun _=>rfl) ⟨rfl,rfl,trivial⟩<|a8 fun B1 F1 w1=>qM rfl n1<|ae.nil ⟨rfl,?_⟩;refine ZH.ph (s:=76) (i:=0) rfl rfl rfl ?_ ⟨rfl,rfl,trivial⟩;refine ZH.all 16 (by kernel_rfl) rfl rfl (fun _=>rfl) ⟨rfl,rfl,trivial⟩<|a8 fun B1 F1 w1=>qM rfl n3<|ae.nil ⟨rfl,?_⟩;refine ZH.all 17 (by kernel_rfl) rfl rfl (fun _=>rfl) ⟨rfl,rfl,trivial⟩ ?_;refine aj.ed tok [2] rfl rfl rfl rfl rfl (by simp) rfl (jF V (iR zr ja [] [1] px) jb [] (gk [1]) (gk qx) (hpz _ _ _ _ jb0.1 jb0.2) (by omega) (by omega)) (fun res R1 hP=>by rw[hP.2];exact al _) fun res R1 hP=>?_;obtain⟨rfl,rfl⟩:=hP;refine aj.nil ?_;refine ZH.all 18 (by kernel_rfl) rfl rfl (fun _=>rfl) ⟨rfl,rfl,trivial⟩<|a8 fun B1 F1 w1=>ae.run tok 1 _ _ _ _ rfl<|ae.nil ⟨rfl,?_⟩;refine ZH.done (by kernel_rfl) ⟨rfl,rfl,trivial⟩ ?_;refine AZ.cO 15 2 rfl rfl rfl ?_;refine AZ.seq<|AZ.cL fun B1 F1 w1=>?_;refine ae.iu tok 14 rfl rfl ?_;refine ae.iu tok 15 rfl rfl ?_;refine qU 2 rfl<|ae.ku tok rfl rfl rfl rfl rfl ?_;refine qU 1 rfl<|ae.nil ⟨rfl,?_⟩;exact AZ.ret rfl
theorem A7{bs:List fp}(W:PM l v bs md X Y)(j:bp)(J:Om l.bodies j)(jk:j.kind≠0):fM Tryz.prog 41 [l.D,Hh v bs md,j.D] [] (Ji (Hx v (lu l.bodies.length) j.a j.b (X j.a j.pt) (Y j.a j.pt) (X j.b j.on) (Y j.b j.on) (X j.b j.to) (Y j.b j.to))):=by
 refine fM.intro (n:=87) tok Tryz.func41 rfl rfl rfl (cS rfl) (by kernel_rfl) fun B F0 w0=>?_;have b1:=W.b1;have b8:=W.b8;have l2:=W.l2;have c1:=W.w j.a j.pt J.a.1 J.a.2 J.pt.1 J.pt.2;have c2:=W.w j.b j.on J.b.1 J.b.2 J.on.1 J.on.2;have c3:=W.w j.b j.to J.b.1 J.b.2 (J.to jk).1 (J.to jk).2;obtain⟨⟨x1,x2⟩,⟨x3,x4⟩⟩:=W.s j.a j.pt J.a.1 J.a.2 J.pt.1 J.pt.2;obtain⟨⟨y1,y2⟩,⟨y3,y4⟩⟩:=W.s j.b j.on J.b.1 J.b.2 J.on.1 J.on.2;obtain⟨⟨z1,z2⟩,⟨z3,z4⟩⟩:=W.s j.b j.to J.b.1 J.b.2 (J.to jk).1 (J.to jk).2;have hrow:=xe l b1 (by omega);have V:=W.V.mono (show 16≤3000 by decide) (by decide);have V9:=W.V.mono (show 16≤500000 by decide) (by decide);have s1:=nu V y3 (y4.mono (by decide)) z3 (z4.mono (by decide));have s2:=nu V z1 (z2.mono (by decide)) y1 (y2.mono (by decide));have q1:=ic y3 y4 z3 z4;have q2:=ic z1 z2 y1 y2;have hT:sT v.length 3000≤126009:=az (pO l2) (by decide);have m1:=jH (by omega) V q2.1 (q2.2.mono (by decide)) x1 (x2.mono (by decide));have m2:=jH (by omega) V q1.1 (q1.2.mono (by decide)) x3 (x4.mono (by decide));have p1:=dY V q2.1 (q2.2.mono (by decide)) x1 (x2.mono (by decide));have p2:=dY V q1.1 (q1.2.mono (by decide)) x3 (x4.mono (by decide));have s3:=nu V9 p1.1 (p1.2.mono (by omega)) p2.1 (p2.2.mono (by omega));have q3:=ic p1.1 (p1.2.mono hT) p2.1 (p2.2.mono hT);have n1:=jG V9 q1.1 (q1.2.mono (by decide));have n2:=jG V9 q2.1 (q2.2.mono (by decide));have n3:=jG V9 q3.1 (q3.2.mono (by decide));have ja0:=J.a;have jb0:=J.b;unfold Hx;generalize X j.a j.pt=px at *;generalize Y j.a j.pt=py at *;generalize X j.b j.on=qx at *;generalize Y j.b j.on=qy at *;generalize X j.b j.to=rx at *;generalize Y j.b j.to=ry at *;generalize fq qy ry=nx at *;generalize fq rx qx=ny at *;generalize et v ny px=u1 at *;generalize et v nx py=u2 at *;generalize fq u1 u2=w at *;have hz:=sj l.bodies.length;generalize l.bodies.length=n at *;generalize lu n=zr at *;have hzl: ∀b:Int,0≤b→b<n→0<b→3*b.toNat≤zr.length:=fun b g1 g2 _=>by omega
 have hpl:=fun x y w=>tQ x y w hz ja0.2 ja0.1 b1;have hpz: ∀(x y w:NQ) (b:Int),0≤b→b<n→0<b→3*b.toNat≤(iR zr j.a x y w).length:=fun x y w b g1 g2 _=>by rw[hpl];omega
 clear J W V V9 x1 x2 x3 x4 y1 y2 y3 y4 z1 z2 z3 z4 q1 q2 q3 p1 p2 hT jk;obtain⟨ln,lb,js,lds⟩:=l;obtain⟨jn,jk,ja,jp,jb,jo,jt⟩:=j;simp only[]at *;refine AZ.seq<|AZ.cL fun B1 F1 w1=>?_;refine qU 4 rfl<|ae.nil ⟨rfl,?_⟩;refine AZ.seq<|AZ.cL fun B1 F1 w1=>?_;refine qU 4 rfl<|ae.nil ⟨rfl,?_⟩;refine AZ.seq<|AZ.cL fun B1 F1 w1=>?_;refine qU 6 rfl<|qM rfl c1<|qU 5 rfl<|ae.nil ⟨rfl,?_⟩;refine AZ.seq<|AZ.cL fun B1 F1 w1=>?_;refine qU 6 rfl<|qM rfl c2<|qU 5 rfl<|ae.nil ⟨rfl,?_⟩;refine AZ.seq<|AZ.cL fun B1 F1 w1=>?_;refine qU 6 rfl<|qM rfl c3<|qU 5 rfl<|ae.nil ⟨rfl,?_⟩;refine AZ.seq<|AZ.any aO<|fL.lG 8 (by kernel_rfl) fun B1 F1 w1 hS=>?_;refine qP 3 rfl<|qQ rfl s1<|qP 3 rfl<|qQ rfl s2<|ai.nil ⟨rfl,?_⟩;refine aj.cut 2 rfl fun B1 F1 w1=>?_;refine qU 2 rfl<|ae.nil ⟨rfl,?_⟩;refine aj.nil ?_;refine AZ.seq<|AZ.any aO<|fL.lG 10 (by kernel_rfl) fun B1 F1 w1 hS=>?_;refine qP 4 rfl<|qQ rfl m1<|qP 3 rfl<|qQ rfl m2<|qQ rfl s3<|ai.nil ⟨rfl,?_⟩;refine aj.cut 1 rfl fun B1 F1 w1=>?_;refine qU 1 rfl<|ae.nil ⟨rfl,?_⟩;refine aj.nil<|AZ.to [3,5,7,14,15,16] [(3,.bx [dS ln,aI lb,aE js,aF lds]),(5,.bx [dS jn,dI jk,dI ja,dI jp,dI jb,dI jo,dI jt]),(7,.bx [.sl 1 (v.map ak)]),(14,.d (ak nx)),(15,.d (ak ny)),(16,.d (ak w))] rfl ?_;refine AZ.Dk 7 rfl fun U=>?_;refine AZ.seq (AZ.any aO (ZH.any (β:=[(5,[dS jn,dI jk,dI ja,dI jp,dI jb,dI jo,dI jt]),(7,[.v U])]) ?_));refine ZH.ho tok 4 rfl (by kernel_rfl) (fun _ _ _ h=>h) ⟨rfl,rfl,trivial⟩ ?_;refine ZH.ho tok 5 rfl (by kernel_rfl) (fun _ _ _ h=>h) ⟨rfl,rfl,trivial⟩ ?_;refine ZH.ho tok 6 rfl (by kernel_rfl) (fun _ _ _ h=>h) ⟨rfl,rfl,trivial⟩ ?_;refine ZH.ho tok 11 rfl (by kernel_rfl) (fun _ _ _ h=>h) ⟨rfl,rfl,trivial⟩ ?_;refine ZH.ho tok 14 rfl (by kernel_rfl) (fun _ _ _ h=>h) ⟨rfl,rfl,trivial⟩ ?_;refine ZH.ho tok 17 rfl (by kernel_rfl) (fun _ _ _ h=>h) ⟨rfl,rfl,trivial⟩ ?_;refine ZH.ho tok 2 rfl (by kernel_rfl) (fun _ _ _ h=>h) ⟨rfl,rfl,trivial⟩ ?_;refine ZH.ho tok 8 rfl (by kernel_rfl) (fun _ _ _ h=>h) ⟨rfl,rfl,trivial⟩ ?_;refine ZH.ho tok 3 rfl (by kernel_rfl) (fun _ _ _ h=>h) ⟨rfl,rfl,trivial⟩ ?_;refine ZH.ho tok 9 rfl (by kernel_rfl) (fun _ _ _ h=>h) ⟨rfl,rfl,trivial⟩ ?_;refine ZH.ho tok 10 rfl (by kernel_rfl) (fun _ _ _ h=>h) ⟨rfl,rfl,trivial⟩ ?_;refine ZH.ho tok 13 rfl (by kernel_rfl) (fun _ _ _ h=>h) ⟨rfl,rfl,trivial⟩ ?_;refine ZH.ho tok 16 rfl (by kernel_rfl) (fun _ _ _ h=>h) ⟨rfl,rfl,trivial⟩ ?_;refine ZH.all 0 (by kernel_rfl) rfl rfl (fun _=>rfl) ⟨rfl,rfl,trivial⟩<|a8 fun B1 F1 w1=>ae.run tok 1 _ _ _ _ rfl<|ae.nil ⟨rfl,?_⟩;refine ZH.all 1 (by kernel_rfl) rfl rfl (fun _=>rfl) ⟨rfl,rfl,trivial⟩ ?_;refine aj.ed tok [] rfl rfl rfl rfl rfl c5 rfl hrow (fun _ _ _=>an _) fun res R1 hP=>?_;obtain⟨V,rfl,rfl⟩:=hP;refine aj.nil ?_;refine ZH.all 7 (by kernel_rfl) rfl rfl (fun _=>rfl) ⟨rfl,rfl,trivial⟩ ?_;refine aj.ed tok [1] rfl rfl rfl rfl rfl (by simp) rfl (jF V zr ja nx ny w (hzl _ ja0.1 ja0.2) (by omega) (by omega)) (fun res R1 hP=>by rw[hP.2];exact al _) fun res R1 hP=>?_;obtain⟨rfl,rfl⟩:=hP;refine aj.nil (ZH.ph (s:=77) (i:=0) rfl rfl rfl ?_ ⟨rfl,rfl,trivial⟩);refine ZH.all 12 (by kernel_rfl) rfl rfl (fun _=>rfl) ⟨rfl,rfl,trivial⟩<|a8 fun B1 F1 w1=>qM rfl n1<|ae.nil ⟨rfl,?_⟩;refine ZH.ph (s:=80) (i:=0) rfl rfl rfl ?_ ⟨rfl,rfl,trivial⟩;refine ZH.all 15 (by kernel_rfl) rfl rfl (fun _=>rfl) ⟨rfl,rfl,trivial⟩<|a8 fun B1 F1 w1=>qM rfl n2<|ae.nil ⟨rfl,?_⟩;refine ZH.ph (s:=83) (i:=0) rfl rfl rfl ?_ ⟨rfl,rfl,trivial⟩;refine ZH.all 18 (by kernel_rfl) rfl rfl (fun _=>rfl) ⟨rfl,rfl,trivial⟩<|a8 fun B1 F1 w1=>qM rfl n3<|ae.nil ⟨rfl,?_⟩;refine ZH.all 19 (by kernel_rfl) rfl rfl (fun _=>rfl) ⟨rfl,rfl,trivial⟩ ?_;refine aj.ed tok [1] rfl rfl rfl rfl rfl (by simp) rfl (jF V (iR zr ja nx ny w) jb (gk nx) (gk ny) (gk w) (hpz _ _ _ _ jb0.1 jb0.2) (by omega) (by omega)) (fun res R1 hP=>by rw[hP.2];exact al _) fun res R1 hP=>?_;obtain⟨rfl,rfl⟩:=hP;refine aj.nil ?_;refine ZH.all 20 (by kernel_rfl) rfl rfl (fun _=>rfl) ⟨rfl,rfl,trivial⟩<|a8 fun B1 F1 w1=>ae.run tok 1 _ _ _ _ rfl<|ae.nil ⟨rfl,?_⟩;refine ZH.done (by kernel_rfl) ⟨rfl,rfl,trivial⟩ ?_;refine AZ.cO 6 1 rfl rfl rfl ?_;refine AZ.tf [] (fun i r h=>by simp at h) ?_;refine AZ.fS 6 rfl rfl rfl fun V=>?_;exact AZ.ret ⟨.v V,rfl,V,rfl,rfl⟩
theorem zd{bs:List fp}{a:Asm}(W:PM l v bs md (qt v l a) (qs v l a))(hj:l.joints.length≤1000)(J: ∀i,i<l.joints.length→Om l.bodies (l.joints.getD i default)):Pure Tryz.prog 19 [l.D,Hh v bs md] (iT (jx v l a l.joints.length)):=by
 refine qJ 43 Tryz.func19 rfl fun B0 F0 w0=>?_;have hpin:=fun i hi=>ET W _ (J i hi);have hsld:=fun i hi=>A7 W _ (J i hi);have hk:=fun i hi=>(J i hi).k;have hRs: ∀i,jx v l a (i+1)=jx v l a i++HR v l a (l.joints.getD i default):=fun i=>rfl;have hR0:jx v l a 0=[]:=rfl;have hRl:=pP v l a;have hJ: ∀j,HR v l a j=if j.kind=1 then [Hx v (lu l.bodies.length) j.a j.b (qt v l a j.a j.pt) (qs v l a j.a j.pt) (qt v l a j.b j.on) (qs v l a j.b j.on) (qt v l a j.b j.to) (qs v l a j.b j.to)]else [Je (lu l.bodies.length) j.a j.b (qs v l a j.a j.pt) (qs v l a j.b j.on),Jd (lu l.bodies.length) j.a j.b (qt v l a j.a j.pt) (qt v l a j.b j.on)]:=fun j=>rfl
 generalize jx v l a=R at hRs hR0 hRl ⊢;generalize qt v l a=X at *;generalize qs v l a=Y at *;generalize HR v l a=jr at hRs hJ;clear J;obtain⟨ln,lb,js,lds⟩:=l;simp only[]at *;refine AZ.aw ?_;refine AZ.seq<|AZ.cL fun B1 F1 w1=>?_;refine qU 3 rfl<|ae.nil ⟨rfl,?_⟩;refine AZ.seq<|AZ.cL fun B1 F1 w1=>?_;refine qU 1 rfl<|ae.nil ⟨rfl,?_⟩;refine AZ.seq<|AZ.seq ?_;refine AZ.cL fun B1 F1 w1=>?_;refine qU 1 rfl<|ae.nil ⟨rfl,?_⟩;refine AZ.block ?_;refine AZ.aK [2,3,5,6] (fun i:Nat=>([],[(2,.bx [dS ln,aI lb,aE js,aF lds]),(3,.bx [.sl 1 (v.map ak),.sl 4 (bs.map fp.D),.sl 1 (md.map (fun n=>dI n))]),(5,.ow 27 ((R i).map jO)),(6,.d (dI i))])) (fun i=>i≤js.length) (fun i=>js.length-i) 0 (by rw[hR0];rfl) (an _) fun i hi=>?_
 ·show AZ _ _ _ _ _ _ _ [] [(2,.bx [dS ln,aI lb,aE js,aF lds]),(3,.bx [.sl 1 (v.map ak),.sl 4 (bs.map fp.D),.sl 1 (md.map (fun n=>dI n))]),(5,.ow 27 ((R i).map jO)),(6,.d (dI i))];refine AZ.seq<|AZ.seq ?_;refine AZ.cL fun B1 F1 w1=>?_;refine qU 4 rfl ?_;rw[aa];refine qU 1 rfl<|ae.nil ⟨rfl,?_⟩;refine AZ.cond rfl (fun h=>?_) fun h=>?_
  ·have hii:i<js.length:=by have:=ao h;omega
   have hg:(js.map bp.D)[i]?=some (js.getD i default).D:=by simp[hii]
   have hpin:=hpin i hii;have hsld:=hsld i hii;have hk:=hk i hii;have hRs:=hRs i;have hJ:=hJ (js.getD i default);have hRl:=hRl i;generalize js.getD i default=j at hg hpin hsld hk hRs hJ;obtain⟨jn,jk,ja,jp,jb,jo,jt⟩:=j;simp only[]at hpin hsld hJ;have hk:jk=0∨jk=1:=hk;refine AZ.skip<|AZ.seq<|AZ.block<|AZ.seq ?_;refine AZ.cL fun B1 F1 w1=>?_;refine qU 3 rfl<|ae.idx tok (bp.D ⟨jn,jk,ja,jp,jb,jo,jt⟩) rfl rfl rfl rfl (am i) hg ?_;refine qU 3 rfl<|ae.nil ⟨rfl,?_⟩;refine AZ.cond rfl (fun h=>?_) fun h=>?_
   ·have h0:jk=0:=beq_iff_eq.1 h;rw[af (by omega)]at hJ;refine AZ.any aO<|fL.lG 9 (by kernel_rfl) fun B1 F1 w1 hS=>?_;refine qP 6 rfl<|ai.idx tok (bp.D ⟨jn,jk,ja,jp,jb,jo,jt⟩) rfl rfl rfl rfl rfl (am i) hg ?_;refine qP 1 rfl<|qQ rfl hpin ?_;rw[←hJ];refine ai.nil ⟨rfl,?_⟩;refine aj.cut 2 rfl fun B1 F1 w1=>?_;have hjl:(jr ⟨jn,jk,ja,jp,jb,jo,jt⟩).length≤2:=by rw[hJ];exact al _
    refine ae.jw tok rfl rfl rfl rfl rfl rfl (by rw[aa,aa];show(_+_)*24≤_;omega) (by rw[aa,aa];omega) ?_;refine qU 1 rfl<|ae.nil ⟨rfl,?_⟩;refine aj.nil ?_;refine AZ.cL fun B1 F1 w1=>?_;refine qU 2 rfl ?_;rw[aD (x:=(i:Int)+1) (by omega) (by omega)];refine qU 1 rfl<|ae.nil ⟨rfl,?_⟩;exact⟨i+1,by rw[hRs,ca];rfl,hii,by omega⟩
   ·have h0:jk=1:=hk.resolve_left (beq_eq_false_iff_ne.1 h);rw[ah h0]at hJ;have hsld:=hsld (show jk≠0 by omega);refine AZ.any aO<|fL.LB 0 (by kernel_rfl) rfl rfl (fun _ _ _ h=>h) (fun _ _ h=>h)<|fL.lG 8 (by kernel_rfl) fun B1 F1 w1 hS=>?_;refine qP 6 rfl<|ai.idx tok (bp.D ⟨jn,jk,ja,jp,jb,jo,jt⟩) rfl rfl rfl rfl rfl (am i) hg ?_;refine qP 1 rfl<|ai.nil ⟨rfl,?_⟩;refine aj.ed tok [] rfl rfl rfl rfl rfl c5 rfl hsld (fun _ _ _=>an _) fun res R1 hP=>?_;obtain⟨V,rfl,rfl⟩:=hP;refine aj.cO 39 0 rfl rfl rfl ?_;refine aj.cut 3 rfl fun B1 F1 w1=>?_;refine ae.iu tok 39 rfl rfl ?_;refine ae.ku tok rfl rfl rfl rfl rfl ?_;refine ae.jw tok rfl rfl rfl rfl rfl rfl (by show(((R i).map jO).length+1)*24≤_;rw[aa];omega) (by show((R i).map jO).length+1≤_;rw[aa];omega) ?_;refine qU 1 rfl<|ae.nil ⟨rfl,?_⟩;refine aj.nil ?_;refine AZ.tf [] (fun i r h=>by simp at h) ?_;refine AZ.cL fun B1 F1 w1=>?_;refine qU 2 rfl ?_;rw[aD (x:=(i:Int)+1) (by omega) (by omega)];refine qU 1 rfl<|ae.nil ⟨rfl,?_⟩;exact⟨i+1,by rw[hRs,hJ,ca];rfl,hii,by omega⟩
  have hii:i=js.length:=by have:=ar h;omega
  subst hii;refine AZ.exit ?_;refine AZ.seq<|AZ.cL fun B1 F1 w1=>?_;refine qU 2 rfl<|ae.nil ⟨rfl,?_⟩;exact AZ.ret rfl
def vq(v:List NQ)(q:NQ):Prop:=ay v.length q∧au 300000 q
theorem tD(v:List NQ):vq v []:=⟨cE _,db (by decide)⟩
theorem Hd(h: ∀q∈r,P q)(h0:P [])(k:Nat):P (r.getD k []):=by
 by_cases hk:k<r.length
 ·rw[ad,ap hk];exact h _<|cg hk
 ·rw[s9 (by omega)];exact h0
theorem nE{b:Int}{w:NQ}(h: ∀q∈r,P q)(hx:P x)(hy:P y)(hw:P w): ∀q∈iR r b x y w,P q:=fun q hq=>by
 unfold iR at hq;split at hq
 ·rcases cv.1 hq with hq|hq
  ·rcases cv.1 hq with hq|hq
   ·exact h q (List.mem_of_mem_take hq)
   ·simp only[c6,co,or_false]at hq;rcases hq with rfl|rfl|rfl
    ·exact hx
    ·exact hy
    ·exact hw
  ·exact h q (List.mem_of_mem_drop hq)
 ·exact h q hq
theorem IW(v:List NQ)(n:Nat): ∀q∈lu n,vq v q:=fun q hq=>by rw[(c7.1 hq).2];exact tD v
def Ol(v:List NQ)(n:Nat)(r:List NQ):Prop:=r.length=3*(n-1)∧ ∀q∈r,vq v q
theorem mJ{b:Int}{w:NQ}(h:Ol v n r)(hb:0≤b∧b<n)(hn:0<n)(hx:vq v x)(hy:vq v y)(hw:vq v w):Ol v n (iR r b x y w) :=
 ⟨tQ x y w h.1 hb.2 hb.1 hn,nE h.2 hx hy hw⟩
structure Ej (l:Lkg) (a:Asm):Prop where
 G:Pt l a
 V:fC 16 (a.rt.map aA)
 l2:(a.rt.map aA).length≤2
 X: ∀b p:Int,0≤b→b<l.bodies.length→0≤p→p<(l.bodies.getD b.toNat default).pts.length→(ay (a.rt.map aA).length (qt (a.rt.map aA) l a b p)∧au 1400 (qt (a.rt.map aA) l a b p))∧(ay (a.rt.map aA).length (qs (a.rt.map aA) l a b p)∧au 1400 (qs (a.rt.map aA) l a b p))
 P: ∀b:Int,0≤b→b<l.bodies.length→(a.bodies.map fp.D)[b.toNat]?=some (zm (a.bodies.getD b.toNat default)).D∧(zm (a.bodies.getD b.toNat default)).ok (a.rt.map aA).length 16
 D:a.D=Hh (a.rt.map aA) a.bodies a.modes
theorem Mu{a:Asm}(hl:l.ok 16)(ha:a.ok 16)(h2:a.rt.length≤2)(h:gl l a=0):Ej l a:=by
 have G:=Bm h;have V:=fC.of ha.t G.tw;have W:=rV ha.t G.tw;have hvl:(a.rt.map aA).length≤2:=by rw[aa];exact h2
 have gP: ∀b:Int,0≤b→b<l.bodies.length→(a.bodies.map fp.D)[b.toNat]?=some (zm (a.bodies.getD b.toNat default)).D∧(zm (a.bodies.getD b.toNat default)).ok (a.rt.map aA).length 16:=fun b b0 b1=>by
  have hln:=G.ln;have hb:b.toNat<a.bodies.length:=by omega
  have h3:=Jc (by decide) (ha.b _ hb) (G.pl _ hb);rw[aa,←h3.2];exact⟨by simp[hb],h3.1⟩
 refine⟨G,V,hvl,fun b p b0 b1 p0 p1=>?_,gP,?_⟩
 ·have hm:=(hl.b b.toNat).2.2 p.toNat;exact MU V hvl (gP b b0 b1).2 (kB _ (bU hm.2.1 (by decide)))<|kB _<|bU hm.2.2 (by decide)
 ·have:=W.eq;show D.ag [.sl 1 (a.rt.map bo),_,_]=D.ag [.sl 1 ((a.rt.map aA).map ak),_,_];rw[show a.rt.map bo=(a.rt.map aA).map ak by simpa using this]
theorem Ej.wh{a:Asm}(O:Ej l a)(hl:l.ok 16):PM l (a.rt.map aA) a.bodies a.modes (qt (a.rt.map aA) l a) (qs (a.rt.map aA) l a) :=
 ⟨O.G.lk.b1,O.G.lk.b8,O.V,O.l2,fun b p b0 b1 p0 p1=>by
   have hm:=(hl.b b.toNat).2.2 p.toNat
   exact A6 l a.bodies a.modes b p O.V O.l2 b0 b1 p0 p1 (O.P b b0 b1).1 (O.P b b0 b1).2 hm.2.1 hm.2.2,O.X⟩
theorem vq.of{q:NQ}(h:ay v.length q∧au k q)(hk:k≤300000):vq v q:=⟨h.1,h.2.mono hk⟩
theorem Fe{a:Asm}(O:Ej l a){j:bp}(J:Om l.bodies j): ∀r∈HR (a.rt.map aA) l a j,Ol (a.rt.map aA) l.bodies.length r:=by
 have b1:=O.G.lk.b1;have l2:=O.l2;obtain⟨x1,x2⟩:=O.X j.a j.pt J.a.1 J.a.2 J.pt.1 J.pt.2;obtain⟨y1,y2⟩:=O.X j.b j.on J.b.1 J.b.2 J.on.1 J.on.2;have V:=O.V.mono (show 16≤3000 by decide) (by decide);have hz:Ol (a.rt.map aA) l.bodies.length (lu l.bodies.length):=⟨sj _,IW _ _⟩;have ja:=J.a;have jb:=J.b;have one:vq (a.rt.map aA) [1]:=⟨dZ _ _,gd (by have:=fU;omega)⟩;have neg: ∀{q:NQ},vq (a.rt.map aA) q→vq (a.rt.map aA) (gk q):=fun h=>LA h.1 h.2;have nil:=tD (a.rt.map aA);unfold HR;intro r hr;split at hr
 ·rename_i hk;obtain⟨z1,z2⟩:=O.X j.b j.to J.b.1 J.b.2 (J.to (by omega)).1 (J.to (by omega)).2;rw[cj]at hr;subst hr;have q1:=ic y2.1 y2.2 z2.1 z2.2;have q2:=ic z1.1 z1.2 y1.1 y1.2;have hT:sT (a.rt.map aA).length 3000≤126009:=az (pO l2) (by decide);have p1:=dY V q2.1 (q2.2.mono (by decide)) x1.1 (x1.2.mono (by decide));have p2:=dY V q1.1 (q1.2.mono (by decide)) x2.1 (x2.2.mono (by decide));have q3:=ic p1.1 (p1.2.mono hT) p2.1 (p2.2.mono hT);have e1:vq (a.rt.map aA) _:=vq.of q1 (by decide);have e2:vq (a.rt.map aA) _:=vq.of q2 (by decide);have e3:vq (a.rt.map aA) _:=vq.of q3 (by decide);exact mJ (mJ hz ja b1 e1 e2 e3) jb b1 (neg e1) (neg e2)<|neg e3
 ·have e1:vq (a.rt.map aA) _:=vq.of x1 (by decide);have e2:vq (a.rt.map aA) _:=vq.of x2 (by decide);have e3:vq (a.rt.map aA) _:=vq.of y1 (by decide);have e4:vq (a.rt.map aA) _:=vq.of y2 (by decide);simp only[c6,co,or_false]at hr;rcases hr with rfl|rfl
  ·exact mJ (mJ hz ja b1 one nil (neg e2)) jb b1 (neg one) nil e4
  ·exact mJ (mJ hz ja b1 nil one e1) jb b1 nil (neg one) (neg e3)
theorem z8{l:Lkg}{a:Asm}(O:Ej l a): ∀i,i≤l.joints.length→ ∀r∈jx (a.rt.map aA) l a i,Ol (a.rt.map aA) l.bodies.length r
 |0,_,r,hr=>by cases hr
 |i+1,hi,r,hr=>by
  rcases cv.1 hr with h|h
  ·exact z8 O i (by omega) r h
  ·exact Fe O (O.G.lk.j i (by omega)) r h
theorem E6{a:Asm}(O:Ej l a){i:Nat}(hi:i<(fb l a).length):Ol (a.rt.map aA) l.bodies.length ((fb l a).getD i []):=by rw[ad,ap hi];exact z8 O _ (al _) _<|cg hi
theorem DD{a:Asm}(O:Ej l a)(i k:Nat):vq (a.rt.map aA) (a7 (fb l a) i k):=by
 unfold a7;by_cases hi:i<(fb l a).length
 ·exact Hd (E6 O hi).2 (tD _) k
 ·rw[jX (by omega)];exact tD _
theorem NB{a:Asm}(O:Ej l a):(fb l a).length≤32:=by have h1:=pP (a.rt.map aA) l a l.joints.length;have h2:=O.G.lk.j16;unfold fb;omega
theorem pV{a:Asm}(O:Ej l a)(h:0<(fb l a).length):bg (fb l a)=3*(l.bodies.length-1):=(E6 O h).1
theorem jz{a:Asm}(O:Ej l a):H8 (a.rt.map aA) (fb l a):=by
 refine⟨NB O,fun j hj=>?_,?_,fun i k=>(DD O i k).1⟩
 ·rw[(E6 O hj).1,pV O (by omega)]
 ·by_cases h:0<(fb l a).length
  ·rw[pV O h];have:=O.G.lk.b8;omega
  ·unfold bg;rw[jX (by omega)];exact an _
end Lift
namespace Lift
variable {K:Fd}{v:List NQ}{cols:List Nat}{N c i j k l m m0 n r t:Nat}
def sm{K:Fd}(n:Nat)(f:Nat→K.T):K.T:=match n with
 |0=>0
 |n+1=>sm n f+f n
theorem fH{f g:Nat→K.T}(h: ∀k,k<n→f k=g k):sm n f=sm n g:=by
 induction n with
 |zero=>rfl
 |succ n ih =>
  show sm n f+f n=sm n g+g n;rw[ih (fun k hk=>h k (by omega)),h n (by omega)]
theorem r9{f:Nat→K.T}(h: ∀k,k<n→f k=0):sm n f=0:=by
 induction n with
 |zero=>rfl
 |succ n ih =>
  show sm n f+f n=0;rw[ih (fun k hk=>h k (by omega)),h n (by omega),Rg.add_zero]
theorem IE(n:Nat)(f g:Nat→K.T):sm n (fun k=>f k+g k)=sm n f+sm n g:=by
 induction n with
 |zero=>exact(Rg.add_zero _).symm
 |succ n ih =>
  show sm n _+(f n+g n)=sm n f+f n+(sm n g+g n);rw[ih];exact Rg.bJ [sm n f,sm n g,f n,g n] (X0+X1+(X2+X3)) (X0+X2+(X1+X3)) rfl
theorem wY(n:Nat)(c:K.T)(f:Nat→K.T):sm n (fun k=>c*f k)=c*sm n f:=by
 induction n with
 |zero=>exact(Rg.mul_zero _).symm
 |succ n ih =>
  show sm n _+c*f n=c*(sm n f+f n);rw[ih,Rg.mul_add]
theorem F8(n:Nat)(c:K.T)(f:Nat→K.T):sm n (fun k=>f k*c)=sm n f*c:=by rw[Rg.mul_comm,←wY];exact fH fun k _=>Rg.mul_comm _ _
theorem Nh(n:Nat)(f:Nat→K.T):sm n (fun k=> -f k)= -sm n f:=by
 induction n with
 |zero=>exact Rg.neg_zero.symm
 |succ n ih =>
  show sm n _+ -f n= -(sm n f+f n);rw[ih,Rg.neg_add]
theorem ED(n:Nat)(f g:Nat→K.T):sm n (fun k=>f k-g k)=sm n f-sm n g:=by rw[show(fun k=>f k-g k)=fun k=>f k+ -g k from rfl,IE,Nh];rfl
theorem AR{f:Nat→K.T}(hj:j<n)(h: ∀k,k<n→k≠j→f k=0):sm n f=f j:=by
 induction n with
 |zero=>omega
 |succ n ih =>
  show sm n f+f n=f j;by_cases e:j=n
  ·subst e;rw[r9 (fun k hk=>h k (by omega) (by omega)),Rg.zero_add]
  ·rw[ih (by omega) (fun k hk hk2=>h k (by omega) hk2),h n (by omega) (fun g=>e g.symm),Rg.add_zero]
theorem F9(m n:Nat)(f:Nat→Nat→K.T):sm m (fun i=>sm n (fun k=>f i k))=sm n (fun k=>sm m (fun i=>f i k)):=by
 induction m with
 |zero=>exact(r9 (fun k _=>rfl)).symm
 |succ m ih =>
  show sm m _+sm n (fun k=>f m k)=sm n (fun k=>sm m (fun i=>f i k)+f m k);rw[ih,IE]
def sk(j k:Nat):Nat:=if k<j then k else k+1
theorem Ow(j k:Nat):sk j k≠j:=by unfold sk;split<;>omega
theorem Ox(h:k<n):sk j k<n+1:=by unfold sk;split<;>omega
theorem Lc(f:Nat→K.T)(hj:j<n+1):sm (n+1) f=sm n (fun k=>f (sk j k))+f j:=by
 induction n with
 |zero =>
  obtain rfl:j=0:=by omega
  rfl
 |succ n ih =>
  show sm (n+1) f+f (n+1)=sm n (fun k=>f (sk j k))+f (sk j n)+f j;by_cases e:j=n+1
  ·subst e;have:sk (n+1) n=n:=by unfold sk;rw[ah (by omega)]
   rw[this];show sm n f+f n+f (n+1)=_
   rw[show sm n (fun k=>f (sk (n+1) k))=sm n f from fH fun k hk=>by
    show f (sk (n+1) k)=f k
    unfold sk;rw[ah (by omega)]]
  ·have:sk j n=n+1:=by unfold sk;rw[af (by omega)]
   rw[ih (by omega),this];exact Rg.bJ [sm n (fun k=>f (sk j k)),f j,f (n+1)] (X0+X1+X2) (X0+X2+X1) rfl
theorem EE: ∀(s r:Nat) (R:Nat→Nat→K.T),s<r→ ∃x:Nat→K.T,(∃k,k<r∧x k≠0)∧ ∀p,p<s→sm r (fun k=>R p k*x k)=0
 |0,r,R,h=>⟨fun _=>1,⟨0,h,Fd.EZ⟩,fun p hp=>by omega⟩
 |s+1,r,R,h=>by
  by_cases hz: ∀k,k<r→R s k=0
  ·obtain⟨x,h1,h2⟩:=EE s r R (by omega);refine⟨x,h1,fun p hp=>?_⟩;by_cases e:p=s
   ·subst e;exact r9 fun k hk=>by rw[hz k hk,Rg.zero_mul]
   ·exact h2 p (by omega)
  ·obtain⟨j,hj⟩:=Classical.not_forall.1 hz;obtain⟨hj,hne⟩:=Classical.not_imp.1 hj;obtain⟨n,rfl⟩: ∃n,r=n+1:=⟨r-1,by omega⟩;obtain⟨y,⟨k0,hk0,hy0⟩,hy⟩:=EE s n (fun p k=>R p (sk j k) -R p j*K.inv (R s j)*R s (sk j k)) (by omega)
   have back: ∀k,k≠j→sk j (if k<j then k else k-1)=k:=fun k hk=>by
    unfold sk;by_cases c:k<j
    ·rw[ah c,ah c]
    ·rw[af c,af (by omega)];omega
   let x:Nat→K.T:=fun k=>if k=j then -(K.inv (R s j)*sm n (fun k=>R s (sk j k)*y k))else y (if k<j then k else k-1)
   have xj:x j= -(K.inv (R s j)*sm n (fun k=>R s (sk j k)*y k)):=ah rfl
   have xs: ∀k,x (sk j k)=y k:=fun k=>by
    show(if sk j k=j then _ else _)=_;rw[af (Ow j k)];unfold sk;by_cases c:k<j
    ·rw[ah c,ah c]
    ·rw[af c,af (by omega)];rfl
   refine⟨x,⟨sk j k0,Ox hk0,by rw[xs];exact hy0⟩,fun p hp=>?_⟩;rw[Lc _ hj,xj,show sm n (fun k=>R p (sk j k)*x (sk j k))=sm n (fun k=>R p (sk j k)*y k)from fH fun k _=>by rw[xs]];by_cases e:p=s
   ·subst e;generalize sm n (fun k=>R p (sk j k)*y k)=S;have h1:=Fd.sU hne;rw[show S+R p j* -(K.inv (R p j)*S)=S-R p j*K.inv (R p j)*S from Rg.bJ [S,R p j,K.inv (R p j)] (X0+X1* -(X2*X0)) (X0-X1*X2*X0) rfl,h1,Rg.one_mul];exact Rg.sub_self S
   ·have h1:=hy p (by omega)
    rw[show(fun k=>(R p (sk j k) -R p j*K.inv (R s j)*R s (sk j k))*y k)=fun k=>R p (sk j k)*y k-R p j*K.inv (R s j)*(R s (sk j k)*y k)from funext fun k =>
     Rg.bJ [R p (sk j k),R p j,K.inv (R s j),R s (sk j k),y k] ((X0-X1*X2*X3)*X4) (X0*X4-X1*X2*(X3*X4)) rfl,ED,wY]at h1
    rw[←h1];exact Rg.bJ [sm n (fun k=>R p (sk j k)*y k),R p j,K.inv (R s j),sm n (fun k=>R s (sk j k)*y k)] (X0+X1* -(X2*X3)) (X0-X1*X2*X3) rfl
abbrev Mk(K:Fd):=Nat→Nat→K.T
def FT(m n s:Nat)(A:Mk K):Prop:= ∃(L R:Mk K),∀i k,i<m→k<n→A i k=sm s (fun p=>L i p*R p k)
theorem FT.Ot{s:Nat}{A:Mk K}(h:FT m n s A):FT n m s (fun i k=>A k i):=by
 obtain⟨L,R,h⟩:=h
 exact⟨fun i p=>R p i,fun p k=>L k p,fun i k hi hk=>by
  show A k i=_
  rw[h k i hk hi];exact fH fun p _=>Rg.mul_comm _ _⟩
theorem FT.congr{s:Nat}{A B:Mk K}(h:FT m n s A)(he: ∀i k,i<m→k<n→A i k=B i k):FT m n s B:=by obtain⟨L,R,h⟩:=h;exact⟨L,R,fun i k hi hk=>by rw[←he i k hi hk];exact h i k hi hk⟩
theorem Ld{s:Nat}(h:s≤t)(f:Nat→K.T):sm t (fun p=>if p<s then f p else 0)=sm s f:=by
 induction t with
 |zero =>
  obtain rfl:s=0:=by omega
  rfl
 |succ t ih =>
  show sm t _+(if t<s then f t else 0)=sm s f;by_cases e:s=t+1
  ·subst e;rw[ah (by omega)];show _=sm t f+f t;rw[show sm t (fun p=>if p<t+1 then f p else 0)=sm t f from fH fun p hp=>ah (by omega)]
  ·rw[af (by omega),Rg.add_zero,ih (by omega)]
theorem FT.more{s:Nat}{A:Mk K}(h:FT m n s A)(hs:s≤t):FT m n t A:=by
 obtain⟨L,R,h⟩:=h;refine⟨L,fun p k=>if p<s then R p k else 0,fun i k hi hk=>?_⟩;rw[h i k hi hk,←Ld hs]
 exact fH fun p _=>by
  show(if p<s then L i p*R p k else 0)=L i p*(if p<s then R p k else 0);split
  ·rfl
  ·exact(Rg.mul_zero _).symm
theorem FT.ge{s:Nat}{A:Mk K}(h:FT m n s A)(c:Nat→Nat)(hc: ∀p,p<r→c p<n)(hi: ∀x:Nat→K.T,(∀i,i<m→sm r (fun p=>A i (c p)*x p)=0)→ ∀p,p<r→x p=0):r≤s:=by
 by_cases hrs:r≤s
 ·exact hrs
 exfalso;obtain⟨L,R,h⟩:=h;obtain⟨x,⟨k,hk,hx⟩,h0⟩:=EE s r (fun p k=>R p (c k)) (by omega);refine hx<|hi x (fun i him=>?_) k hk
 rw[show sm r (fun p=>A i (c p)*x p)=sm r (fun p=>sm s (fun q=>L i q*(R q (c p)*x p)))from fH fun p hp=>by
  rw[h i (c p) him (hc p hp),←F8]
  exact fH fun q _=>Rg.mul_assoc _ _ _,F9]
 exact r9 fun q hq=>by rw[wY,h0 q hq,Rg.mul_zero]
structure RI (m N c:Nat) (A M:Mk K) (cols:List Nat):Prop where
 cN:c≤N
 eqv: ∀x:Nat→K.T,(∀i,i<m→sm N (fun k=>A i k*x k)=0)↔(∀i,i<m→sm N (fun k=>M i k*x k)=0)
 lt: ∀p,p<cols.length→cols.getD p 0<c
 rm:cols.length≤m
 Ls: ∀p q,p<cols.length→q<m→M q (cols.getD p 0)=if q=p then 1 else 0
 zr: ∀q k,cols.length≤q→q<m→k<c→M q k=0
 asc: ∀p q,p<q→q<cols.length→cols.getD p 0<cols.getD q 0
 left: ∀p k,p<cols.length→k<cols.getD p 0→M p k=0
def sw(r t i:Nat):Nat:=if i=r then t else if i=t then r else i
theorem Mp(r t i:Nat):sw r t (sw r t i)=i:=by
 unfold sw;by_cases h1:i=r
 ·subst h1;rw[ah rfl];by_cases h2:t=i
  ·rw[ah h2,h2]
  ·rw[af h2,ah rfl]
 ·rw[af h1];by_cases h2:i=t
  ·subst h2;rw[ah rfl,ah rfl]
  ·rw[af h2,af h1,af h2]
theorem Nb(r t:Nat):sw r t r=t:=ah rfl
theorem F5(hr:r<m)(ht:t<m)(hi:i<m):sw r t i<m:=by unfold sw;split;exact ht;split;exact hr;exact hi
theorem Mq(ht:r≤t)(hi:r≤i):r≤sw r t i:=by unfold sw;split;exact ht;split;exact al _;exact hi
theorem EA(ht:r≤t)(hi:i<r):sw r t i=i:=by unfold sw;rw[af (by omega),af (by omega)]
theorem wi(l:List Nat)(c:Nat):(l++[c]).getD l.length 0=c:=by rw[ad,bi (al _),d6];rfl
theorem ur{l:List Nat}{p:Nat}(c:Nat)(h:p<l.length):(l++[c]).getD p 0=l.getD p 0:=by rw[ad,bv h,ad]
theorem RI.start(m N:Nat)(A:Mk K):RI m N 0 A A [] :=
 ⟨an _,fun x=>Iff.rfl,fun p hp=>aG hp (a0 _),an _,fun p q hp=>aG hp (a0 _),fun q k _ _ hk=>aG hk (a0 _),fun p q _ hq=>aG hq (a0 _),fun p k hp=>aG hp (a0 _)⟩
theorem RI.P6{A M:Mk K}(I:RI m N c A M cols)(hc:c<N)(h: ∀q,cols.length≤q→q<m→M q c=0):RI m N (c+1) A M cols :=
 ⟨hc,I.eqv,fun p hp=>dd (I.lt p hp),I.rm,I.Ls,fun q k h1 h2 h3=>by
  by_cases e:k=c
  ·subst e;exact h q h1 h2
  ·exact I.zr q k h1 h2 (by omega),I.asc,I.left⟩
theorem RI.hit{A M M':Mk K}(I:RI m N c A M cols)(hc:c<N)(h1:cols.length≤t)(h2:t<m)(h3:M t c≠0)
  (h4: ∀i k,i<m→k<N→M' i k=if i=cols.length then M t k*K.inv (M t c)else M (sw cols.length t i) k-M (sw cols.length t i) c*(M t k*K.inv (M t c))):RI m N (c+1) A M' (cols++[c]):=by
 have hrm:cols.length<m:=by omega
 have hp1:=Fd.sU h3;have hinv:=Fd.ND h3;have hll:(cols++[c]).length=cols.length+1:=by rw[av];rfl
 have hBt: ∀k,k<c→M t k=0:=fun k hk=>I.zr t k h1 h2 hk;have hBl: ∀p,p<cols.length→M t (cols.getD p 0)=0:=fun p hp=>hBt _ (I.lt p hp)
 have hcc: ∀q,q<m→M' q c=if q=cols.length then 1 else 0:=fun q hq=>by
  rw[h4 q c hq hc];split
  ·exact hp1
  ·rw[hp1,Rg.mul_one];exact Rg.sub_self _
 have dot: ∀(x:Nat→K.T) i,i<m→sm N (fun k=>M' i k*x k)=if i=cols.length then sm N (fun k=>M t k*x k)*K.inv (M t c)else sm N (fun k=>M (sw cols.length t i) k*x k) -M (sw cols.length t i) c*K.inv (M t c)*sm N (fun k=>M t k*x k):=fun x i hi=>by
  by_cases e:i=cols.length
  ·rw[ah e,←F8]
   exact fH fun k hk=>by rw[h4 i k hi hk,ah e];exact Rg.bJ [M t k,K.inv (M t c),x k] (X0*X1*X2) (X0*X2*X1) rfl
  ·rw[af e,←wY,←ED]
   exact fH fun k hk=>by rw[h4 i k hi hk,af e];exact Rg.bJ [M (sw cols.length t i) k,M (sw cols.length t i) c,M t k,K.inv (M t c),x k] ((X0-X1*(X2*X3))*X4) (X0*X4-X1*X3*(X2*X4)) rfl
 refine⟨hc,fun x=>(I.eqv x).trans ⟨fun h i hi=>?_,fun h=>?_⟩,fun p hp=>?_,by omega,fun p q hp hq=>?_,fun q k k1 k2 k3=>?_,fun p q hpq hq=>?_,fun p k hp hk=>?_⟩
 ·rw[dot x i hi,h t h2,h _ (F5 hrm h2 hi)];split
  ·exact Rg.zero_mul _
  ·rw[Rg.mul_zero];exact Rg.sub_self _
 ·have ht:sm N (fun k=>M t k*x k)=0:=by
   have:=h cols.length hrm;rw[dot x _ hrm,ah rfl]at this;rcases Fd.OP this with e|e
   ·exact e
   ·exact aG e hinv
  intro i hi;have hs:=F5 hrm h2 hi;by_cases e:sw cols.length t i=cols.length
  ·have:i=t:=by rw[←Mp cols.length t i,e];exact Nb _ _
   rw[this];exact ht
  ·have:=h _ hs;rw[dot x _ hs,af e,Mp,ht,Rg.mul_zero]at this;rw[←this];exact Rg.bJ [sm N (fun k=>M i k*x k)] X0 (X0-0) rfl
 ·rw[hll]at hp;by_cases e:p=cols.length
  ·rw[e,wi];omega
  ·rw[ur c (by omega)];have:=I.lt p (by omega);omega
 ·rw[hll]at hp;by_cases e:p=cols.length
  ·rw[e,wi];exact hcc q hq
  ·have hp:p<cols.length:=by omega
   have hpc:=I.lt p hp;rw[ur c hp,h4 q _ hq (by omega),hBl p hp];by_cases eq:q=cols.length
   ·rw[ah eq,Rg.zero_mul,af (by omega)]
   ·rw[af eq,I.Ls p _ hp (F5 hrm h2 hq),Rg.zero_mul,Rg.mul_zero]
    have:(sw cols.length t q=p)↔(q=p):=by
     constructor
     ·intro h;by_cases g:q<cols.length
      ·rwa [EA h1 g]at h
      ·have:=Mq h1 (show cols.length≤q by omega);omega
     ·intro h;rw[h];exact EA h1 hp
    by_cases g:q=p
    ·rw[ah g,ah (this.2 g)];exact Rg.bJ [] (1-0) 1 rfl
    ·rw[af g,af (fun h=>g (this.1 h))];exact Rg.sub_self _
 ·rw[hll]at k1;by_cases e:k=c
  ·rw[e,hcc q k2,af (by omega)]
  ·rw[h4 q k k2 (by omega),af (by omega),hBt k (by omega),I.zr _ k (Mq h1 (by omega)) (F5 hrm h2 k2) (by omega),Rg.zero_mul,Rg.mul_zero];exact Rg.sub_self _
 ·rw[hll]at hq;by_cases e:q=cols.length
  ·rw[e,wi,ur c (by omega)];exact I.lt p (by omega)
  ·rw[ur c (by omega),ur c (by omega)];exact I.asc p q hpq (by omega)
 ·rw[hll]at hp;by_cases e:p=cols.length
  ·rw[e,wi]at hk;rw[e,h4 _ k hrm (by omega),ah rfl,hBt k hk,Rg.zero_mul]
  ·have hp:p<cols.length:=by omega
   have hpc:=I.lt p hp;rw[ur c hp]at hk;rw[h4 p k (by omega) (by omega),af e,EA h1 hp,I.left p k hp hk,hBt k (by omega),Rg.zero_mul,Rg.mul_zero];exact Rg.sub_self _
theorem RI.at{A M:Mk K}(I:RI m N c A M cols)(X y:Nat→K.T):sm N (fun j=>X j*sm cols.length (fun p=>if j=cols.getD p 0 then y p else 0))=sm cols.length (fun p=>X (cols.getD p 0)*y p):=by have hcN:=I.cN;rw[show sm N (fun j=>X j*sm cols.length (fun p=>if j=cols.getD p 0 then y p else 0))=sm N (fun j=>sm cols.length (fun p=>X j*(if j=cols.getD p 0 then y p else 0)))from fH fun j _=>(wY _ _ _).symm,F9];refine fH fun p hp=>?_;have:=I.lt p hp;rw[AR (j:=cols.getD p 0) (by omega) (fun k _ hk=>by rw[af hk,Rg.mul_zero]),ah rfl]
theorem RI.indep{A M:Mk K}(I:RI m N c A M cols)(x:Nat→K.T)(h: ∀i,i<m→sm cols.length (fun p=>A i (cols.getD p 0)*x p)=0): ∀p,p<cols.length→x p=0:=fun q hq=>by have h1:=(I.eqv (fun j=>sm cols.length (fun p=>if j=cols.getD p 0 then x p else 0))).1 (fun i hi=>by rw[I.at (A i) x];exact h i hi) q (by have:=I.rm;omega);rw[I.at (M q) x,AR (j:=q) hq (fun p hp hne=>by rw[I.Ls p q hp (by have:=I.rm;omega),af (fun e=>hne e.symm),Rg.zero_mul]),I.Ls q q hq (by have:=I.rm;omega),ah rfl,Rg.one_mul]at h1;exact h1
theorem RI.by{m N c:Nat}{A M:Mk K}{cols:List Nat}(I:RI m N c A M cols){k:Nat}(hk:k<c){i:Nat}(hi:i<m):A i k=sm cols.length (fun p=>A i (cols.getD p 0)*M p k):=by
 have hcN:=I.cN;have hrm:=I.rm
 have key: ∀X:Nat→K.T,sm N (fun j=>X j*((if j=k then 1 else 0) -sm cols.length (fun p=>if j=cols.getD p 0 then M p k else 0)))=X k-sm cols.length (fun p=>X (cols.getD p 0)*M p k):=fun X=>by
  rw[←I.at X (fun p=>M p k),show(fun j=>X j*((if j=k then 1 else 0) -sm cols.length (fun p=>if j=cols.getD p 0 then M p k else 0)))=fun j=>X j*(if j=k then 1 else 0) -X j*sm cols.length (fun p=>if j=cols.getD p 0 then M p k else 0)from funext fun j =>
   Rg.bJ [X j,(if j=k then 1 else 0),sm cols.length (fun p=>if j=cols.getD p 0 then M p k else 0)] (X0*(X1-X2)) (X0*X1-X0*X2) rfl,ED]
  congr 1
  rw[AR (j:=k) (by omega) (fun j _ hj=>by rw[af hj,Rg.mul_zero]),ah rfl,Rg.mul_one]
 have h:=(I.eqv (fun j=>(if j=k then 1 else 0) -sm cols.length (fun p=>if j=cols.getD p 0 then M p k else 0))).2 (fun q hq=>by
  rw[key (M q)];by_cases e:q<cols.length
  ·rw[AR (j:=q) e (fun p hp hne=>by rw[I.Ls p q hp hq,af (fun e=>hne e.symm),Rg.zero_mul]),I.Ls q q e hq,ah rfl,Rg.one_mul];exact Rg.sub_self _
  ·rw[I.zr q k (by omega) hq hk,r9 fun p hp=>by rw[I.Ls p q hp hq,af (by omega),Rg.zero_mul]]
   exact Rg.sub_self _) i hi
 rw[key (A i)]at h;exact Rg.Aw h
theorem RI.fac{s:Nat}{A M:Mk K}(I:RI m N c A M cols):FT m c s A↔cols.length≤s:=by
 constructor
 ·intro h;exact h.ge (fun p=>cols.getD p 0) I.lt I.indep
 ·intro h;exact FT.more ⟨fun i p=>A i (cols.getD p 0),M,fun i k hi hk=>I.by hk hi⟩ h
def vM(F:FV v)(a:cF):Mk F.K:=fun i k=>F.val (a7 a i k)
theorem AA(v:List NQ)(e:cF)(r c:Nat): ∀n i,i<n→n≤e.length→(bS v e r c n).getD i []=if i≠r∧m7 v (a7 e i c)≠0 then gW v (e.getD i []) (e.getD r []) (a7 e i c)else e.getD i []
 |0,i,hi,_=>aG hi (a0 i)
 |n+1,i,hi,hn=>by
  by_cases e1:i=n
  ·subst e1;unfold bS;rw[wq];split
   ·rw[dc,ah ⟨rfl,by rw[ji];omega⟩,gu v e r c i i (.inl (al _)),gu v e r c i r (.inr rfl)]
   ·exact gu v e r c i i (.inl (al _))
  ·have ih:=AA v e r c n i (by omega) (by omega);rw[←ih]
   conv=>lhs;unfold bS
   split
   ·rw[dc,af (fun h=>e1 h.1)]
   ·rfl
theorem FN{s:kq}(h1:s.cols.length≤atR v s c)(h:atR v s c<s.rows.length)(hi:i<s.rows.length):(bR v s c).getD i []=s.rows.getD (sw s.cols.length (atR v s c) i) []:=by
 unfold bR;split
 ·rename_i e;rw[e];unfold sw;by_cases g:i=s.cols.length
  ·rw[ah g,g]
  ·rw[af g,af g]
 ·unfold CF sw;rw[dc,dc];by_cases g:i=s.cols.length
  ·rw[ah ⟨g,by rw[cb];omega⟩,ah g]
  ·rw[af (fun h=>g h.1),af g];by_cases g2:i=atR v s c
   ·rw[ah ⟨g2,h⟩,ah g2]
   ·rw[af (fun h=>g2 h.1),af g2]
theorem ID(V:qE v)(F:FV v){s:kq}(R:qF v m N c s)(hc:c<N)(h:atR v s c<s.rows.length):
  vM F s.rows (atR v s c) c≠0∧ ∀i k,i<m→k<N→vM F (bS v (eR v s c) s.cols.length c (eR v s c).length) i k=if i=s.cols.length then vM F s.rows (atR v s c) k*F.K.inv (vM F s.rows (atR v s c) c)else vM F s.rows (sw s.cols.length (atR v s c) i) k-vM F s.rows (sw s.cols.length (atR v s c) i) c*(vM F s.rows (atR v s c) k*F.K.inv (vM F s.rows (atR v s c) c)):=by
 have hl:=R.len;obtain⟨a1,a2,a3,a4⟩:=eQ v s c (by have:=R.cm;omega);have hz:=a4 h;obtain⟨b1,b2,b3⟩:=pw (c:=c) R h;obtain⟨e1,e2,e3⟩:=yl V (c:=c) R h;have hrm:s.cols.length<m:=by omega
 have eB: ∀i k,i<m→a7 (bR v s c) i k=a7 s.rows (sw s.cols.length (atR v s c) i) k:=fun i k hi=>by unfold a7;rw[FN a1 h (by omega)]
 have hp:pR v s c=a7 s.rows (atR v s c) c:=by unfold pR;rw[eB _ _ hrm,Nb]
 have hpz:m7 v (pR v s c)≠0:=by rw[hp];exact hz
 have eE: ∀i k,i<m→k<N→a7 (eR v s c) i k=if i=s.cols.length then vP v (a7 s.rows (atR v s c) k) (a7 s.rows (atR v s c) c)else a7 s.rows (sw s.cols.length (atR v s c) i) k:=fun i k hi hk=>by
  unfold a7 eR;rw[dc];by_cases e:i=s.cols.length
  ·rw[ah ⟨e,by omega⟩,ah e,sR _ _ _ (by rw[b2 _ (by omega)];exact hk),hp,FN a1 h (by omega),Nb];rfl
  ·rw[af (fun h=>e h.1),af e,FN a1 h (by omega)]
 have ltR:=R.lt
 have vE: ∀i k,i<m→k<N→F.val (a7 (eR v s c) i k)=if i=s.cols.length then vM F s.rows (atR v s c) k*F.K.inv (vM F s.rows (atR v s c) c)else vM F s.rows (sw s.cols.length (atR v s c) i) k:=fun i k hi hk=>by
  rw[eE i k hi hk];by_cases e:i=s.cols.length
  ·rw[ah e,ah e,F.div (ltR _ _) (ltR _ _) hz];rfl
  ·rw[af e,af e];rfl
 refine⟨fun e=>hz ((F.sg (ltR _ _)).2 e),fun i k hi hk=>?_⟩;have hd:=AA v (eR v s c) s.cols.length c (eR v s c).length i (by omega) (al _);show F.val (((bS v (eR v s c) s.cols.length c (eR v s c).length).getD i []).getD k [])=_;rw[hd];by_cases e:i=s.cols.length
 ·rw[af (fun h=>h.1 e),ah e];have:=vE i k hi hk;rw[ah e]at this;exact this
 ·rw[af e];have v1:=vE i k hi hk;have v2:=vE i c hi hc;have v3:=vE s.cols.length k hrm hk;rw[af e]at v1 v2;rw[ah rfl]at v3;by_cases g:m7 v (a7 (eR v s c) i c)=0
  ·rw[af (fun h=>h.2 g)];have z:=(F.sg (e3 i c)).1 g;rw[v2]at z;rw[z,Rg.zero_mul];show F.val (a7 (eR v s c) i k)=_;rw[v1];exact(Rg.bJ [vM F s.rows (sw s.cols.length (atR v s c) i) k] (X0-0) X0 rfl).symm
  ·rw[ah ⟨e,g⟩,mB v _ _ _ (by rw[e2 i (by omega)];exact hk)];show F.val (fq (a7 (eR v s c) i k) (et v (a7 (eR v s c) i c) (a7 (eR v s c) s.cols.length k)))=_;rw[F.sub (e3 i k) (jd V (e3 i c) (e3 _ k)),F.mul (e3 i c) (e3 _ k)];show F.val (a7 (eR v s c) i k) -F.val (a7 (eR v s c) i c)*F.val (a7 (eR v s c) s.cols.length k)=_;rw[v1,v2,v3]
theorem EP{v:List NQ}(V:qE v)(F:FV v){a:cF}{N:Nat}(hr:cX N a)(hl:qH v.length a): ∀c,c≤N→RI a.length N c (vM F a) (vM F (aB v a c).rows) (aB v a c).cols
 |0,_=>RI.start a.length N (vM F a)
 |c+1,hc=>by
  have I:=EP V F hr hl c (by omega);have R:=gS V hr hl c;have hlen:=R.len;obtain⟨a1,a2,a3,a4⟩:=eQ v (aB v a c) c (by have:=R.cm;omega);show RI a.length N (c+1) (vM F a) (vM F (b7 v (aB v a c) c).rows) (b7 v (aB v a c) c).cols;unfold b7;by_cases h:atR v (aB v a c) c<(aB v a c).rows.length
  ·rw[ah h];obtain⟨h3,h4⟩:=ID V F R (by omega) h;exact I.hit (by omega) a1 (by omega) h3 h4
  ·rw[af h];exact I.P6 (by omega) fun q h1 h2=>(F.sg (R.lt q c)).1 (a3 q h1 (by omega))
theorem cX.take{a:cF}(h:cX N a)(n:Nat):cX N (a.take n):=fun j hj=>by rw[ax]at hj;rw[ad,cd,ah (by omega),←ad];exact h j (by omega)
theorem LZ{a:cF}(hj:j<n):(a.take n).getD j []=a.getD j []:=by rw[ad,cd,ah hj,←ad]
theorem yh{a:cF}(hj:j<n)(k:Nat):a7 (a.take n) j k=a7 a j k:=by unfold a7;rw[LZ hj]
theorem qH.take{a:cF}(h:qH l a)(n:Nat):qH l (a.take n):=fun j k=>by
 by_cases hj:j<n
 ·rw[yh hj];exact h j k
 ·unfold a7;rw[jX (by rw[ax];omega)];exact cE l
theorem HG(V:fC m0 v){a b:cF}(ha:cX N a)(la:qH v.length a)(hb:cX a.length b)(lb:qH v.length b)(hbN:b.length=N)(hab: ∀i k,i<a.length→k<N→a7 b k i=a7 a i k)(hn:n≤a.length):
  (aB v b n).cols.length=(aB v (a.take n) N).cols.length:=by
 obtain⟨F⟩:=O0 V;have I1:=EP V.a F hb lb n hn;have I2:=EP V.a F (ha.take n) (la.take n) N (al N);have hl:(a.take n).length=n:=by rw[ax];omega
 rw[hl]at I2;rw[hbN]at I1
 have key: ∀s,FT N n s (vM F b)↔FT n N s (vM F (a.take n)):=fun s=>by
  constructor
  ·intro h;refine h.Ot.congr fun i k hi hk=>?_;show F.val (a7 b k i)=F.val (a7 (a.take n) i k);rw[hab i k (by omega) hk,yh hi]
  ·intro h;refine h.Ot.congr fun k i hk hi=>?_;show F.val (a7 (a.take n) i k)=F.val (a7 b k i);rw[hab i k (by omega) hk,yh hi]
 have h1:=fun s=>(I1.fac (s:=s)).symm.trans ((key s).trans I2.fac);exact Nat.le_antisymm ((h1 _).2 (al _))<|(h1 _).1<|al _
def cH(a:cF):cF:=(cB (bg a)).map fun k=>a.map fun r=>r.getD k []
theorem gC(a:cF):(cH a).length=bg a:=by unfold cH;rw[aa,ek]
theorem pJ(a:cF)(h:k<bg a):(cH a).getD k []=a.map fun r=>r.getD k []:=by unfold cH;rw[ad,cC,List.getElem?_range h];rfl
theorem G1(a:cF)(k i:Nat):(a.map fun r=>r.getD k []).getD i []=a7 a i k:=by
 unfold a7;rw[ad,cC,ad (l:=a)];cases a[i]? with
 |none=>exact(s9 (an k)).symm
 |some r=>rfl
theorem wO(a:cF)(h:k<bg a):a7 (cH a) k i=a7 a i k:=by show((cH a).getD k []).getD i []=_;rw[pJ a h];exact G1 a k i
theorem jB(a:cF):cX a.length (cH a):=fun k hk=>by rw[gC]at hk;rw[pJ a hk,aa]
theorem Hq{p:NQ→Prop}(h0:p []){a:cF}(h: ∀i k,p (a7 a i k)): ∀i k,p (a7 (cH a) i k):=fun k i=>by
 by_cases hk:k<bg a
 ·rw[wO a hk];exact h i k
 ·unfold a7;rw[jX (by rw[gC];omega)];exact h0
theorem mz{a:cF}(h:qH l a):qH l (cH a):=Hq (p:=ay l) (cE l) h
theorem Ev{a:cF}(h:0<bg a):bg (cH a)=a.length:=by unfold bg;rw[pJ a h,aa]
def kK(v:List NQ)(a:cF)(c:Nat):List Nat:=(cB c).filter fun i=> !(aB v a c).cols.contains i
theorem CV(v:List NQ)(a:cF)(c:Nat):(aB v a (c+1)).cols=(aB v a c).cols++[c]∨(aB v a (c+1)).cols=(aB v a c).cols:=by
 show(b7 v (aB v a c) c).cols=(aB v a c).cols++[c]∨(b7 v (aB v a c) c).cols=(aB v a c).cols;unfold b7;split
 ·exact .inl rfl
 ·exact .inr rfl
theorem Gk(v:List NQ)(a:cF): ∀c,∀x∈(aB v a c).cols,x<c
 |0,x,h=>by cases h
 |c+1,x,h=>by
  have ih:=Gk v a c;rcases CV v a c with e|e
  ·rw[e]at h;rcases cv.1 h with h|h
   ·exact dd (ih x h)
   ·rw[cj.1 h];exact cJ c
  ·rw[e]at h;exact dd<|ih x h
theorem nM(v:List NQ)(a:cF)(c:Nat):((aB v a (c+1)).cols=(aB v a c).cols++[c]∧kK v a (c+1)=kK v a c)∨((aB v a (c+1)).cols=(aB v a c).cols∧kK v a (c+1)=kK v a c++[c]):=by
 have hlt:=Gk v a c;rcases CV v a c with e|e
 ·refine .inl ⟨e,?_⟩;unfold kK;rw[dl,c8,e];rw[show List.filter (fun i=> !((aB v a c).cols++[c]).contains i) [c]=[] by simp,dr];refine List.filter_congr fun i hi=>?_;have hi:=eu.1 hi;have:i≠c:=by omega
  simp[this]
 ·refine .inr ⟨e,?_⟩;unfold kK;rw[dl,c8,e]
  congr 1
  have:c ∉ (aB v a c).cols:=fun h=>aG (hlt c h) (dT c);simp[this]
theorem As(v:List NQ)(a:cF): ∀c,(kK v a c).length+(aB v a c).cols.length=c
 |0=>rfl
 |c+1=>by
  have ih:=As v a c;rcases nM v a c with⟨e1,e2⟩|⟨e1,e2⟩
  ·rw[e1,e2,av];show _+(_+1)=_;omega
  ·rw[e1,e2,av];show _+1+_=_;omega
theorem JV(v:List NQ)(a:cF)(c:Nat): ∀x∈kK v a c,x<c:=fun x h=>eu.1 (List.mem_filter.1 h).1
def nt(v:List NQ)(a:cF):List Nat:=kK v (cH a) a.length
theorem xc(V:fC m0 v){a:cF}(G:H8 v a)(hn:n≤a.length):(aB v (cH a) n).cols.length=(aB v (a.take n) (bg a)).cols.length :=
 HG V G.r G.lt (jB a) (mz G.lt) (gC a) (fun i k _ hk=>wO a hk) hn
theorem vZ(V:qE v){a:cF}(G:H8 v a):(qe v a).cols.length≤a.length∧(qe v a).cols.length≤bg a :=
 ⟨(gS V G.r G.lt (bg a)).cm,(gS V G.r G.lt (bg a)).cl⟩
theorem Ac(V:fC m0 v){a:cF}(G:H8 v a):(qe v (cH a)).cols.length=(qe v a).cols.length∧(aB v (cH a) a.length).cols.length=(qe v a).cols.length:=by
 have h:=xc V G (al a.length);rw[List.take_length]at h;refine⟨?_,h⟩;by_cases h0:0<bg a
 ·unfold qe at *;rw[Ev h0];exact h
 ·have e:cH a=[]:=d4.1 (by rw[gC];omega);have:=(vZ V.a G).2;unfold qe at *;rw[e,su];show 0=_;omega
theorem CW(V:fC m0 v){a:cF}(G:H8 v a):(nt v a).length=a.length-(qe v a).cols.length:=by have h1:=As v (cH a) a.length;have h2:=(Ac V G).2;have h3:=(vZ V.a G).1;unfold nt;omega
end Lift
namespace Lift
open Go Go.Proofs
variable {l:Lkg}{i:Nat}
theorem ru: ∀{r:List RD},(∀x∈r,bc x.n∧bc x.d)→ ∃D:QR.T,D≠0∧cu.Z (kN r+1) D∧CZ (kN r+1) D (aA r)
 |[],_=>⟨1,qb,KT,CZ.nil _ _⟩
 |x::r,h=>by
  obtain⟨D,d0,dz,hD⟩:=ru (r:=r) (fun y hy=>h y (List.mem_cons_of_mem _ hy));obtain⟨wn,wd⟩:=h x (List.mem_cons_self ..);have ew:kN (x::r)=x.n.length+x.d.length+kN r:=rfl
  have tail: ∀{t:QR.T},cu.Z x.d.length t→ ∀i,cu.Z (kN (x::r)+1) (cq (cf (aA r) i)*(D*t)):=fun {t} ht i=>by rw[←Rg.mul_assoc];exact cG (bA (hD i) ht) (by omega)
  by_cases hv:x.val=0
  ·refine⟨D,d0,cG dz (by omega),fun i=>?_⟩;cases i with
   |zero =>
    show cu.Z _ (cq x.val*D);rw[hv];show cu.Z _ ((0:QR.T)*D);rw[Rg.zero_mul];exact Cr _
   |succ i=>exact cG (hD i) (by omega)
  ·have hok:x.okB=true:=by
    cases hb:x.okB with
    |true=>rfl
    |false=>exact aG (RD.vU hb) hv
   have hn:x.n≠[]:=fun e=>hv (RD.pH e);obtain⟨p1,p2,_⟩:=RD.parts (k:=x.n.length+x.d.length) ⟨wn,wd,by omega,by omega⟩ hok hn
   have zt:cu.Z x.d.length (cq (((x.val.den:Int):Rat))):=⟨(x.val.den:Int),rfl,by rw[en,p2];exact dH wd⟩
   have zx:cu.Z x.n.length (cq x.val*cq (((x.val.den:Int):Rat))):=⟨x.val.num,GC x.val,by rw[p1,pL];exact dH wn⟩
   have t0:cq (((x.val.den:Int):Rat))≠0:=wk x.val;refine⟨D*cq (((x.val.den:Int):Rat)),dt d0 t0,cG (bA dz zt) (by omega),fun i=>?_⟩;cases i with
   |zero =>
    show cu.Z _ (cq x.val*(D*cq (((x.val.den:Int):Rat))));rw[show cq x.val*(D*cq (((x.val.den:Int):Rat)))=cq x.val*cq (((x.val.den:Int):Rat))*D from Rg.bJ [cq x.val,D,cq (((x.val.den:Int):Rat))] (X0*(X1*X2)) (X0*X2*X1) rfl];exact cG (bA zx dz) (by omega)
   |succ i=>exact tail zt i
structure KG (l:Lkg) (a:Asm):Prop where
 r2:a.rt.length≤2
 nb6:l.bodies.length≤6∨8<l.bodies.length
 n:KQ l a+4*a.rt.length≤16
theorem Hf.s{a:Asm}(S:Hf l a):KG l a:=⟨S.r2,S.nb6,S.n⟩
theorem KG.pt{a:Asm}(S:KG l a){k:Nat}(hi:i<l.bodies.length)(hk:k<(l.bodies.getD i default).pts.length):BL ((l.bodies.getD i default).pts.getD k default)+4*a.rt.length≤16:=by have h1:=KA l.bodies hi hk;have h2:=BI (fun i=>eU (a.rt.getD i [])) (tn l.bodies l.bodies.length) a.rt.length;have h3:=sM a.bodies (ua (fun i=>eU (a.rt.getD i [])) (tn l.bodies l.bodies.length) a.rt.length) a.bodies.length;have h4:=S.n;unfold KQ at h4;omega
theorem KG.root{a:Asm}(S:KG l a)(hi:i<a.rt.length):kN (a.rt.getD i [])+4*a.rt.length≤16:=by
 have h2:=BG (fun i=>eU (a.rt.getD i [])) (tn l.bodies l.bodies.length) hi;have h3:=sM a.bodies (ua (fun i=>eU (a.rt.getD i [])) (tn l.bodies l.bodies.length) a.rt.length) a.bodies.length;have h4:=S.n;unfold KQ at h4;have h5:eU (a.rt.getD i [])+4*a.rt.length≤16:=by omega
 rw[gY (by omega)]at h5;exact h5
theorem KG.pl{a:Asm}(S:KG l a)(hi:i<a.bodies.length):kN (a.bodies.getD i default).c+4*a.rt.length≤16∧kN (a.bodies.getD i default).s+4*a.rt.length≤16∧kN (a.bodies.getD i default).x+4*a.rt.length≤16∧kN (a.bodies.getD i default).y+4*a.rt.length≤16:=by obtain⟨h1,h2,h3,h4⟩:=Bn a.bodies (ua (fun i=>eU (a.rt.getD i [])) (tn l.bodies l.bodies.length) a.rt.length) hi;have h5:=S.n;unfold KQ at h5;rw[←gY (r:=(a.bodies.getD i default).c) (by omega),←gY (r:=(a.bodies.getD i default).s) (by omega),←gY (r:=(a.bodies.getD i default).x) (by omega),←gY (r:=(a.bodies.getD i default).y) (by omega)];omega
def N'(r:List NQ):Prop:= ∃D:QR.T,D≠0∧cu.Z 200 D∧ ∀q∈r,CZ 200 D q
theorem Jq{r:List RD}(h:vR r): ∀x∈r,bc x.n∧bc x.d:=fun x hx=>by obtain⟨i,hi,rfl⟩:=ee hx;have:=h.2 i;rw[ad,ap hi]at this;exact⟨this.1,this.2.1⟩
section
variable {a:Asm} (S:KG l a) (O:Ej l a) (hl:l.ok 16) (ha:AsB a)
include S O hl ha
omit O hl in
theorem OC:Qn (17-4*a.rt.length) (a.rt.map aA):=fun j hj=>by
 rw[aa]at hj;have h1:=S.root hj
 have hg:(a.rt.map aA).getD j []=aA (a.rt.getD j []):=by rw[ad,cC,ad,ap hj];rfl
 obtain⟨D,d0,dz,hD⟩:=ru (Jq (ha.r j));rw[hg];exact⟨D,d0,cG dz (by omega),hD.mono (by omega)⟩
theorem Hb(b:Int)(b0:0≤b)(b1:b<l.bodies.length): ∃DB:QR.T,DB≠0∧cu.Z (4*(17-4*a.rt.length)) DB∧ ∀p:Int,0≤p→p<(l.bodies.getD b.toNat default).pts.length→ ∃t:QR.T,t≠0∧cu.Z (17-4*a.rt.length) t ∧
  CZ (5*(17-4*a.rt.length)+2) (DB*t) (qt (a.rt.map aA) l a b p)∧CZ (5*(17-4*a.rt.length)+2) (DB*t) (qs (a.rt.map aA) l a b p):=by
 have hb:b.toNat<a.bodies.length:=by have:=O.G.ln;omega
 obtain⟨w1,w2,w3,w4⟩:=S.pl hb;have P:=(O.P b b0 b1).2;obtain⟨Dc,c0,cz,hc⟩:=ru (Jq (ha.c b.toNat));obtain⟨Ds,s0,sz,hs⟩:=ru (Jq (ha.s b.toNat));obtain⟨Dx,x0,xz,hx⟩:=ru (Jq (ha.x b.toNat));obtain⟨Dy,y0,yz,hy⟩:=ru (Jq (ha.y b.toNat));obtain⟨u,hu⟩: ∃u,u=17-4*a.rt.length:=⟨_,rfl⟩;rw[←hu];have cz:cu.Z u Dc:=cG cz (by omega);have sz:cu.Z u Ds:=cG sz (by omega);have xz:cu.Z u Dx:=cG xz (by omega);have yz:cu.Z u Dy:=cG yz (by omega);have hc:CZ u Dc (zm (a.bodies.getD b.toNat default)).c:=iP.mono hc (by omega);have hs:CZ u Ds (zm (a.bodies.getD b.toNat default)).s:=iP.mono hs (by omega);have hx:CZ u Dx (zm (a.bodies.getD b.toNat default)).x:=iP.mono hx (by omega);have hy:CZ u Dy (zm (a.bodies.getD b.toNat default)).y:=iP.mono hy (by omega);refine⟨Dc*Ds*(Dx*Dy),dt (dt c0 s0) (dt x0 y0),cG (bA (bA cz sz) (bA xz yz)) (by omega),fun p p0 p1=>?_⟩;have hbl:b.toNat<l.bodies.length:=by omega
 have hm:=(hl.b b.toNat).2.2 p.toNat;have hw:=S.pt hbl (show p.toNat<_ by omega);generalize hmk:(l.bodies.getD b.toNat default).pts.getD p.toNat default=mk at hm hw
 obtain⟨t,t0,tz,ht⟩:=ru (r:=[mk.x,mk.y]) (fun y hy=>by
  simp only[c6,co,or_false]at hy;rcases hy with rfl|rfl
  ·exact⟨hm.2.1.1,hm.2.1.2.1⟩
  ·exact⟨hm.2.2.1,hm.2.2.2.1⟩)
 have ew:kN [mk.x,mk.y]=BL mk:=by show mk.x.n.length+mk.x.d.length+(mk.y.n.length+mk.y.d.length+0)=mk.x.n.length+mk.x.d.length+mk.y.n.length+mk.y.d.length;omega
 rw[ew]at tz ht;have tz:cu.Z u t:=cG tz (by omega);have tx:cu.Z u (cq mk.x.val*t):=cG (ht 0) (by omega);have ty:cu.Z u (cq mk.y.val*t):=cG (ht 1) (by omega);refine⟨t,t0,tz,?_⟩;have V:=O.V
 have eX:qt (a.rt.map aA) l a b p=MW (a.rt.map aA) (zm (a.bodies.getD b.toNat default)) (nZ mk.x.val) (nZ mk.y.val):=by unfold qt;rw[hmk]
 have eY:qs (a.rt.map aA) l a b p=MV (a.rt.map aA) (zm (a.bodies.getD b.toNat default)) (nZ mk.x.val) (nZ mk.y.val):=by unfold qs;rw[hmk]
 rw[eX,eY];have lx:=(kB (a.rt.map aA).length (q:=mk.x.val) (al _)).1;have ly:=(kB (a.rt.map aA).length (q:=mk.y.val) (al _)).1;generalize zm (a.bodies.getD b.toNat default)=pl at *;have pc:=P.c.1;have ps:=P.s.1;have px:=P.x.1;have py:=P.y.1
 have e1: ∀{x:NQ},CZ (u+u) (Dc*t) x→CZ (5*u) (Dc*Ds*(Dx*Dy)*t) x:=fun {x} h=>by have:=iP.scale h (bA sz (bA xz yz));rw[show Dc*t*(Ds*(Dx*Dy))=Dc*Ds*(Dx*Dy)*t from Rg.bJ [Dc,t,Ds,Dx,Dy] (X0*X1*(X2*(X3*X4))) (X0*X2*(X3*X4)*X1) rfl]at this;exact iP.mono this (by omega)
 have e2: ∀{x:NQ},CZ (u+u) (Ds*t) x→CZ (5*u) (Dc*Ds*(Dx*Dy)*t) x:=fun {x} h=>by have:=iP.scale h (bA cz (bA xz yz));rw[show Ds*t*(Dc*(Dx*Dy))=Dc*Ds*(Dx*Dy)*t from Rg.bJ [Dc,t,Ds,Dx,Dy] (X2*X1*(X0*(X3*X4))) (X0*X2*(X3*X4)*X1) rfl]at this;exact iP.mono this (by omega)
 have e3:CZ (5*u) (Dc*Ds*(Dx*Dy)*t) pl.x:=by have:=iP.scale hx (bA (bA cz sz) (bA yz tz));rw[show Dx*(Dc*Ds*(Dy*t))=Dc*Ds*(Dx*Dy)*t from Rg.bJ [Dc,t,Ds,Dx,Dy] (X3*(X0*X2*(X4*X1))) (X0*X2*(X3*X4)*X1) rfl]at this;exact iP.mono this (by omega)
 have e4:CZ (5*u) (Dc*Ds*(Dx*Dy)*t) pl.y:=by have:=iP.scale hy (bA (bA cz sz) (bA xz tz));rw[show Dy*(Dc*Ds*(Dx*t))=Dc*Ds*(Dx*Dy)*t from Rg.bJ [Dc,t,Ds,Dx,Dy] (X4*(X0*X2*(X3*X1))) (X0*X2*(X3*X4)*X1) rfl]at this;exact iP.mono this (by omega)
 have m1:=e1 (CZ.LC V pc tx hc);have m2:=e2 (CZ.LC V ps ty hs);have m3:=e2 (CZ.LC V ps tx hs);have m4:=e1 (CZ.LC V pc ty hc);have n1:=jd V.a pc lx;have n2:=jd V.a ps ly;have n3:=jd V.a ps lx;have n4:=jd V.a pc ly;have addL: ∀{x y:NQ},ay (a.rt.map aA).length x→ay (a.rt.map aA).length y→ay (a.rt.map aA).length (uE x y):=fun hx hy=>bC (hx.plus hy);exact⟨CZ.add (r7 n1 n2) px (CZ.sub n1 n2 m1 m2) (iP.mono e3 (by omega)),CZ.add (addL n3 n4) py (CZ.add n3 n4 m3 m4) (iP.mono e4 (by omega))⟩
theorem JD{j:bp}(J:Om l.bodies j): ∀r∈HR (a.rt.map aA) l a j,N' r:=by
 have hr2:=S.r2;have V:=O.V;obtain⟨ρ,ρ0,ρz,hmul⟩:=CZ.mul V (OC S ha);obtain⟨DA,A0,Az,hA⟩:=Hb S O hl ha j.a J.a.1 J.a.2;obtain⟨DB,B0,Bz,hB⟩:=Hb S O hl ha j.b J.b.1 J.b.2;obtain⟨tp,p0,pz,px,py⟩:=hA j.pt J.pt.1 J.pt.2;obtain⟨tq,q0,qz,qx,qy⟩:=hB j.on J.on.1 J.on.2;obtain⟨x1,x2⟩:=O.X j.a j.pt J.a.1 J.a.2 J.pt.1 J.pt.2;obtain⟨y1,y2⟩:=O.X j.b j.on J.b.1 J.b.2 J.on.1 J.on.2;have hvl:(a.rt.map aA).length=a.rt.length:=aa ..;obtain⟨R,hR⟩: ∃R,R=Rl (17-4*a.rt.length) (a.rt.map aA).length:=⟨_,rfl⟩
 have hb:11*(17-4*a.rt.length)+6+R≤200:=by
  rw[hR,hvl];generalize a.rt.length=k at hr2
  match k,hr2 with
  |0,_=>decide
  |1,_=>decide
  |2,_=>decide
 rw[←hR]at ρz hmul;clear hR;generalize 17-4*a.rt.length=u at *;have z1: ∀{D:QR.T} {X:Nat},CZ X D []:=fun {D X}=>CZ.nil X D;unfold HR;intro r hr;split at hr
 ·rename_i hk;obtain⟨tr,r0,rz,rx,ry⟩:=hB j.to (J.to (by omega)).1 (J.to (by omega)).2;obtain⟨w1,w2⟩:=O.X j.b j.to J.b.1 J.b.2 (J.to (by omega)).1 (J.to (by omega)).2;rw[cj]at hr;subst hr;generalize qt (a.rt.map aA) l a j.a j.pt=PX at *;generalize qs (a.rt.map aA) l a j.a j.pt=PY at *;generalize qt (a.rt.map aA) l a j.b j.on=QX at *;generalize qs (a.rt.map aA) l a j.b j.on=QY at *;generalize qt (a.rt.map aA) l a j.b j.to=RX at *;generalize qs (a.rt.map aA) l a j.b j.to=RY at *;have up: ∀{x:NQ},CZ (5*u+2) (DB*tq) x→CZ (6*u+2) (DB*tq*tr) x:=fun h=>iP.mono (iP.scale h rz) (by omega)
  have up': ∀{x:NQ},CZ (5*u+2) (DB*tr) x→CZ (6*u+2) (DB*tq*tr) x:=fun {x} h=>by have:=iP.scale h qz;rw[show DB*tr*tq=DB*tq*tr from Rg.bJ [DB,tr,tq] (X0*X1*X2) (X0*X2*X1) rfl]at this;exact iP.mono this (by omega)
  have ny:=CZ.sub y2.1 w2.1 (up qy) (up' ry);have nx:=CZ.sub w1.1 y1.1 (up' rx) (up qx);have ly:=r7 (l:=(a.rt.map aA).length) y2.1 w2.1;have lx:=r7 (l:=(a.rt.map aA).length) w1.1 y1.1;have m1:=hmul _ _ _ _ _ _ lx x1.1 nx px;have m2:=hmul _ _ _ _ _ _ ly x2.1 ny py;have lm1:=jd V.a lx x1.1;have lm2:=jd V.a ly x2.1;have w:=CZ.sub lm1 lm2 m1 m2
  have sc: ∀{x:NQ},CZ (6*u+2+1) (DB*tq*tr) x→CZ 200 (DB*tq*tr*(DA*tp)*ρ) x:=fun {x} h=>by have:=iP.scale h (bA (bA Az pz) ρz);rw[show DB*tq*tr*(DA*tp*ρ)=DB*tq*tr*(DA*tp)*ρ from (Rg.mul_assoc _ _ _).symm]at this;exact iP.mono this (by omega)
  have c1:=sc ny;have c2:=sc nx;have c3:CZ 200 (DB*tq*tr*(DA*tp)*ρ) _:=iP.mono w (by omega);refine⟨DB*tq*tr*(DA*tp)*ρ,dt (dt (dt (dt B0 q0) r0) (dt A0 p0)) ρ0,cG (bA (bA (bA (bA Bz qz) rz) (bA Az pz)) ρz) (by omega),?_⟩;refine nE (nE (fun q hq=>?_) c1 c2 c3) (CZ.neg ly c1) (CZ.neg lx c2)<|CZ.neg (r7 lm1 lm2) c3;rw[(c7.1 hq).2];exact z1
 ·generalize qt (a.rt.map aA) l a j.a j.pt=PX at *;generalize qs (a.rt.map aA) l a j.a j.pt=PY at *;generalize qt (a.rt.map aA) l a j.b j.on=QX at *;generalize qs (a.rt.map aA) l a j.b j.on=QY at *;have zD:cu.Z (5*u+5*u) (DA*tp*(DB*tq)):=cG (bA (bA Az pz) (bA Bz qz)) (by omega);have zA:cu.Z (5*u) (DA*tp):=cG (bA Az pz) (by omega);have zB:cu.Z (5*u) (DB*tq):=cG (bA Bz qz) (by omega);have hD0:DA*tp*(DB*tq)≠0:=dt (dt A0 p0) (dt B0 q0);have sp: ∀{x:NQ},CZ (5*u+2) (DA*tp) x→CZ 200 (DA*tp*(DB*tq)) x:=fun h=>iP.mono (iP.scale h zB) (by omega);have sq: ∀{x:NQ},CZ (5*u+2) (DB*tq) x→CZ 200 (DA*tp*(DB*tq)) x:=fun h=>iP.mono (iP.Nn h zA) (by omega);have o1:CZ 200 (DA*tp*(DB*tq)) [1]:=CZ.one (cG zD (by omega))
  have zr: ∀q∈lu l.bodies.length,CZ 200 (DA*tp*(DB*tq)) q:=fun q hq=>by rw[(c7.1 hq).2];exact z1
  have lone:=dZ (a.rt.map aA).length 1;simp only[c6,co,or_false]at hr;rcases hr with rfl|rfl
  ·exact⟨_,hD0,cG zD (by omega),nE (nE zr o1 z1 (CZ.neg x2.1 (sp py))) (CZ.neg lone o1) z1 (sq qy)⟩
  ·exact⟨_,hD0,cG zD (by omega),nE (nE zr z1 o1 (sp px)) z1 (CZ.neg lone o1) (CZ.neg y1.1 (sq qx))⟩
theorem Gg: ∀i,i≤l.joints.length→ ∀r∈jx (a.rt.map aA) l a i,N' r
 |0,_,r,hr=>by cases hr
 |i+1,hi,r,hr=>by
  rcases cv.1 hr with h|h
  ·exact Gg i (by omega) r h
  ·exact JD S O hl ha (O.G.lk.j i (by omega)) r h
theorem DE(hi:i<(fb l a).length): ∃D:QR.T,D≠0∧cu.Z 200 D∧ ∀j,CZ 200 D (a7 (fb l a) i j):=by
 have h:N' ((fb l a).getD i []):=by rw[ad,ap hi];exact Gg S O hl ha _ (al _) _<|cg hi
 obtain⟨D,d0,dz,hD⟩:=h;exact⟨D,d0,dz,fun j=>Hd hD (CZ.nil _ _) j⟩
theorem GB(N:Nat):uJ 200 200 N (fun _=>1) (fb l a):=by refine⟨fun i hi=>?_,fun j _=>⟨cG KT (by decide),qb⟩⟩;obtain⟨D,d0,dz,hD⟩:=DE S O hl ha hi;exact⟨D,d0,dz,fun j _ k=>by rw[Rg.mul_one];exact hD j k⟩
theorem Ho: ∃e,uJ 200 200 (fb l a).length e (cH (fb l a)):=by
 refine⟨fun i=>if h:i<(fb l a).length then(DE S O hl ha h).choose else 1,fun k hk=>?_,fun i hi=>?_⟩
 ·rw[gC]at hk;refine⟨1,qb,cG KT (by decide),fun i hi c=>?_⟩;rw[wO _ hk,Rg.one_mul,dif_pos hi];exact(DE S O hl ha hi).choose_spec.2.2 k c
 ·rw[dif_pos hi];exact⟨(DE S O hl ha hi).choose_spec.2.1,(DE S O hl ha hi).choose_spec.1⟩
end
end Lift
namespace Lift
variable {v:List NQ}{N m:Nat}
theorem HL{m' c k k' r:Nat}{s:kq}(V:fC m v)(R:qF v m' N c s)(hs:Mh k s.rows)(hd:au k s.iN)(he:atR v s c<s.rows.length→Mh k' (eR v s c)∧au k' (bN v.length v (pR v s c)))(hk:k≤k')(hr:dk r v)(hrk:r≤k)(h1:ou v.length k)(h2:E1 r v.length k)(h3:sT v.length k'+k'+1≤17300000000000):lI v s c:=by
 have hl:=R.len;have hm:=R.cm;have hsT:=bP v.length k';have ro:=V.ro;have hrv:dk k' v:=hr.mono (by omega);have rv:dk k v:=hr.mono hrk;have sg: ∀{x:NQ},ay v.length x→au k x→E0 v x:=fun hx sx=>rq v.length hx ro (al _) sx rv h1
 have mul: ∀{x y:NQ},ay v.length x→au k' x→ay v.length y→au k' y→Dn v x y∧au (sT v.length k') (aT v.length v x y):=fun hx sx hy sy =>
  have t:=dy v.length hx hy ro (al _) sx sy hrv
  ⟨⟨sx.mono (by omega),sy.mono (by omega),rp v.length hx hy ro (al _) sx sy hrv (by omega),t.2.mono (by omega)⟩,t.2⟩
 by_cases h:atR v s c<s.rows.length
 ·obtain⟨b1,b2,b3⟩:=pw R h;obtain⟨e1,e2,e3⟩:=yl V.a R h;obtain⟨se,si⟩:=he h
  have sb:Mh k (bR v s c):=fun i j=>by
   unfold bR;split
   ·exact hs i j
   ·unfold CF a7;rw[dc];split
    ·exact hs _ j
    ·rw[dc];split
     ·exact hs _ j
     ·exact hs i j
  have hp:=Jf R h
  have hps:aW v v.length (cf (pR v s c))≠0:=by have:=cY v.length (b3 s.cols.length c) ro (al _);show aW v v.length (cf (a7 (bR v s c) s.cols.length c))≠0;rw[←this];exact hp
  have hpi:Oh v.length v (pR v s c):=Nv ro V.pos hr v.length (b3 s.cols.length c) (al _) (sb _ _) hrk hps h2;refine⟨fun j _ _=>sg (R.lt j c) (hs j c),fun _=>(mul R.iN (hd.mono hk) (b3 s.cols.length c) ((sb _ _).mono hk)).1,fun _ j _=>?_,fun _ i _ hne=>?_,fun _ i _ hne _ j _=>?_⟩
  ·have t:=mul (b3 s.cols.length j) ((sb _ _).mono hk) (fg v.length (b3 s.cols.length c) ro (al _)) si;exact⟨(sb _ _).mono (by omega),(sb _ _).mono (by omega),sg (b3 s.cols.length c) (sb _ _),hp,hpi,t.1.2.2.1,t.1.2.2.2⟩
  ·have g:a7 (eR v s c) i c=a7 (bR v s c) i c:=by unfold eR a7;rw[dc,af (fun g=>hne g.1)]
   rw[g];exact sg (b3 i c)<|sb i c
  ·obtain⟨q1,q2⟩:=mul (e3 i c) (se i c) (e3 s.cols.length j) (se s.cols.length j);have q3:au (sT v.length k') (et v (a7 (eR v s c) i c) (a7 (eR v s c) s.cols.length j)):=(a6 (fF v.length (e3 i c) (e3 s.cols.length j) ro (al _)) q2).2;exact⟨q1,(se i j).mono (by omega),q3.mono (by omega),((se i j).plus q3.minus).mono (by omega)⟩
 ·exact⟨fun j _ _=>sg (R.lt j c) (hs j c),fun g=>aG g h,fun g=>aG g h,fun g=>aG g h,fun g=>aG g h⟩
theorem OT:ou 2 (Fz 200 200 14):=⟨by decide,by decide,by show _≤_;decide⟩
theorem Mz: ∀l,l≤2→E1 16 l (Fz 200 200 14)
 |0,_=>by show _≤_;decide
 |1,_=>⟨by decide,by show _≤_;decide,by show _≤_;decide,by decide⟩
 |2,_=>⟨by decide,⟨by decide,by show _≤_;decide⟩,⟨by decide,by show _≤_;decide,by show _≤_;decide,by decide⟩,by decide⟩
theorem My: ∀l,l≤2→sT l (Fz 200 200 15)+Fz 200 200 15+1≤17300000000000
 |0,_=>by decide
 |1,_=>by decide
 |2,_=>by decide
theorem kU{p q:Nat}(h:p≤q):Fz 200 200 p≤Fz 200 200 q:=by unfold Fz;have:=MJ 168 (200+40) h;have:=MH 168 (200+40) h;omega
theorem xb(V:fC m v)(l2:v.length≤2)(hm:dk 16 v){a:cF}(hr:cX N a)(hl:qH v.length a)(h:tA v a N (Fz 200 200))(hmin:N≤15∨a.length≤15): ∀c,c<N→lI v (aB v a c) c:=fun c hc=>by
 have R:=gS V.a hr hl c;have h1:=R.cl;have h2:=R.cm;have h3:=R.len;by_cases hp:(aB v a c).cols.length<(aB v a c).rows.length
 ·obtain⟨g1,g2,g3⟩:=h c (by omega);have f1:=kU (show(aB v a c).cols.length≤14 by omega);have f2:=kU (show(aB v a c).cols.length+1≤15 by omega);exact HL V R (fun i j=>(g1 i j).mono f1) (g2.mono f1) (fun g=>⟨fun i j=>((g3 hc g).1 i j).mono f2,(g3 hc g).2.mono f2⟩) (kU (by decide)) hm (by decide) (tV OT l2) (Mz _ l2)<|My _ l2
 ·have ha:=(eQ v (aB v a c) c (by omega)).1;exact⟨fun j _ _=>by omega,fun g=>by omega,fun g=>by omega,fun g=>by omega,fun g=>by omega⟩
end Lift
namespace Lift
open Go Go.Proofs
theorem LJ:ou 2 (Fz 200 200 15):=⟨by decide,by decide,by show _≤_;decide⟩
theorem HI{m:Nat}{v:List NQ}(V:fC m v)(hmF:m≤Fz 200 200 14)(l2:v.length≤2)(hm:dk 16 v){a:cF}{N:Nat}(ha0:0<a.length)(ha:a.length≤1000000)(hN:N≤1000000)(hr:cX N a)(hl:qH v.length a)(h:tA v a N (Fz 200 200))(hmin:N≤15∨a.length≤15):
  Pure Tryz.prog 138 [fm v,iT a] (.tu [iT ((aB v a N).rows.take (aB v a N).cols.length),.sl 1 ((aB v a N).cols.map (fun c:Nat=>dI c))]):=by
 have hp: ∀c,c<N→atR v (aB v a c) c<(aB v a c).rows.length→(aB v a c).cols.length≤14:=fun c hc g=>by have R:=gS V.a hr hl c;have h1:=R.cl;have h2:=R.cm;have h3:=R.len;have:=(eQ v (aB v a c) c (by omega)).1;omega
 refine zh (Kz:=Fz 200 200 15) (Kp:=Fz 200 200 14) V ha0 ha hN hr hl (fun c hc j i=>?_) (fun c hc g j i=>?_) (fun c hc g=>?_) (az hmF (kU (by decide))) (tV LJ l2) (kU (by decide)) hmF (fun x hx sx g=>xm V.ro V.pos V.l5 hm _ hx (al _) sx (by decide) g (Mz _ l2)) (by have:=My _ l2;omega)
 ·have R:=gS V.a hr hl c;have h1:=R.cl;have h2:=R.cm;have h3:=R.len;exact((h c (by omega)).1 j i).mono (kU (by omega))
 ·have:=hp c hc g;exact(((h c (by omega)).2.2 hc g).1 j i).mono (kU (by omega))
 ·have:=hp c hc g;have R:=gS V.a hr hl c;refine⟨(a6 (fg v.length ?_ V.ro (al _)) (((h c (by omega)).2.2 hc g).2.mono (kU (by omega)))).2,OH fun i j=>((h c (by omega)).1 i j).mono (kU (by omega))⟩;exact(pw R g).2.2 _ _
end Lift
namespace Lift
variable {v:List NQ}
structure Lo (v:List NQ):Prop where
 V:fC 2 v
 l1:v.length≤1
section
variable (L:Lo v) {k m:Nat} {a b:NQ}
include L
end
abbrev SzM(k:Nat)(a:cF):Prop:= ∀i j,au k (a7 a i j)
def yA(a:cF)(k:Nat):List NQ:=a.map fun r=>r.getD k []
theorem Kh(a:cF)(k:Nat):(yA a k).length=a.length:=aa ..
theorem Ki(a:cF)(k i:Nat):(yA a k).getD i []=a7 a i k:=G1 a k i
section
variable {m0:Nat} (V:fC m0 v) {a:cF} (G:H8 v a) {b:List NQ} (hb: ∀i,ay v.length (b.getD i []))
include V G hb
end
end Lift
namespace Lift
open Go Go.Proofs
variable {rt:List (List RD)}{md:List Int}{v:List NQ}{l:Lkg}{K N i k m n r:Nat}
abbrev Ek(l:List Nat):D:=.sl 1 (l.map (fun c:Nat=>dI c))
theorem MG{l:List Nat}(h:i<l.length):(l.map (fun c:Nat=>dI c))[i]?=some (dI (l.getD i 0)):=by simp[h]
def KR(l:List Nat)(x:Nat)(i:Nat):Bool:=decide ((x:Int)=(l.getD i 0:Nat))
def PG(l:List Nat)(x:Nat):Int:=if kG (KR l x) (l.length-0) 0<l.length then(kG (KR l x) (l.length-0) 0:Nat)else -1
theorem LO(l:List Nat)(x:Nat):decide (0≤PG l x)=l.contains x:=by
 obtain⟨h1,h2,h3,h4⟩:=uw (g:=KR l x) (m:=l.length-0) (i:=0);unfold PG;by_cases h:kG (KR l x) (l.length-0) 0<l.length
 ·rw[ah h,aN (am _)];have:=h4 (by omega)
  have e:x=l.getD (kG (KR l x) (l.length-0) 0) 0:=by have:=ao this;omega
  rw[e,ad,ap h];exact(d9.2 (cg h)).symm
 ·rw[af h,a5 (by decide)];refine(Bool.eq_false_iff.2 fun hc=>?_).symm;have hm:=d9.1 hc;obtain⟨j,hj,e⟩:=ee hm;have:=h3 j (an _) (by omega);unfold KR at this;rw[ad,ap hj]at this;have:=ar this;exact this (by show(x:Int)=((l[j]:Nat):Int);rw[e])
theorem tL(bs:List Nat)(hl:bs.length≤1000000000000000)(x:Nat):Pure Tryz.prog 136 [Ek bs,dI x] (dI (PG bs x)):=by
 refine qJ 19 Tryz.func136 rfl fun B F0 w0=>?_;unfold PG;generalize hE:kG (KR bs x) (bs.length-0) 0=E;refine qX 1 rfl<|qI<|qX 3 rfl ?_;rw[aa];refine ae.nil ?_;refine AW.block<|AW.aK [0,1,7,8] (fun i:Nat=>[(0,.d (Ek bs)),(1,.d (dI x)),(7,.d (dI bs.length)),(8,.d (dI i))]) (fun i=>i≤bs.length∧kG (KR bs x) (bs.length-i) i=E) (fun i=>bs.length-i) 0 rfl ⟨an _,hE⟩ fun i hi=>?_;obtain⟨hi,hE⟩:=hi
 ·skip
  refine qX 1 rfl<|qI<|AW.cond rfl (fun h=>?_) fun h=>?_
  ·have hin:i<bs.length:=by have:=ao h;omega
   have hhit:=x7 (g:=KR bs x) hin;have hmiss:=uv (g:=KR bs x) hin;refine AW.skip<|AW.seq<|AW.block<|qX 2 rfl<|qK 3 rfl<|ae.idx tok (dI (bs.getD i 0)) rfl rfl rfl rfl (am i) (MG hin) ?_;refine qU 2 rfl<|ae.nil<|AW.cond rfl (fun h=>?_) fun h=>?_
   ·have e:E=i:=hE.symm.trans (hhit h);rw[e,ah hin];exact qX 2 rfl<|qN rfl
   ·skip
    refine AW.skip<|qT 1 rfl ?_;rw[aD (x:=(i:Int)+1) (by omega) (by omega)];refine qU 1 rfl<|ae.nil ?_;exact⟨i+1,rfl,⟨hin,by rw[←hmiss h];exact hE⟩,by omega⟩
  have hin: ¬i<bs.length:=by have:=ar h;omega
  have e:E=i:=by rw[←hE,x8 hin]
  rw[e,af hin];exact AW.exit<|qX 1 rfl<|qN rfl
theorem qd(bs:List Nat)(hl:bs.length≤1000000000000000)(x:Nat):Pure Tryz.prog 92 [Ek bs,dI x] (dB (bs.contains x)):=by refine qJ 9 Tryz.func92 rfl (fun B F0 w0=>?_);rw[←LO];refine qX 1 rfl<|qK 2 rfl<|qM rfl (tL bs hl x) ?_;exact qU 2 rfl<|qN rfl
theorem Iu{α:Type}{d:α}{l:List α}(h:i<l.length):l.take (i+1)=l.take i++[l.getD i d]:=by rw[List.take_succ_eq_append_getElem h,ad,ap h];rfl
theorem ui(a:cF)(k:Nat)(ha:a.length≤1000000)(hr: ∀i,i<a.length→k<(a.getD i []).length):Pure Tryz.prog 176 [iT a,dI k] (jO (yA a k)):=by
 refine qJ 23 Tryz.func176 rfl fun B F0 w0=>?_;have hc:=Kh a k
 have hts: ∀i,i<a.length→(yA a k).take (i+1)=(yA a k).take i++[(a.getD i []).getD k []]:=fun i hi=>by rw[Iu (d:=[]) (by omega),Ki];rfl
 have hta:(yA a k).take a.length=yA a k:=d5 (by omega);generalize yA a k=zs at *;refine qX 1 rfl<|qK 1 rfl<|qI<|qX 3 rfl ?_;rw[aa];refine ae.nil<|AW.block ?_;refine AW.aK [0,1,5,8,9,10] (fun i:Nat=>[(0,.d (iT a)),(1,.d (dI k)),(5,.ow 52 ((zs.take i).map ak)),(8,.d (iT a)),(9,.d (dI a.length)),(10,.d (dI i))]) (fun i=>i≤a.length) (fun i=>a.length-i) 0 rfl (an _) fun i hi=>?_
 ·show AW _ _ _ _ _ _ _ [(0,.d (iT a)),(1,.d (dI k)),(5,.ow 52 ((zs.take i).map ak)),(8,.d (iT a)),(9,.d (dI a.length)),(10,.d (dI i))];refine qX 1 rfl<|qI<|AW.cond rfl (fun h=>?_) fun h=>?_
  ·have hii:i<a.length:=by have:=ao h;omega
   have g1:=getM jO (l:=a) (i:=i) hii;have g2:=getM ak (l:=a.getD i []) (i:=k) (hr i hii);have hts:=hts i hii;generalize a.getD i []=r at g1 g2 hts;generalize r.getD k []=x at g2 hts;refine AW.skip<|AW.seq<|AW.block<|AW.seq<|AW.region<|ae.idx tok (jO r) rfl rfl rfl rfl (am i) g1 ?_;refine qU 2 rfl<|ae.nil<|qT 3 rfl<|ae.idx tok (ak x) rfl rfl rfl rfl (am k) g2 ?_;refine qU 1 rfl<|ae.ku tok rfl rfl rfl rfl rfl ?_;refine ae.jw tok rfl rfl rfl rfl rfl rfl (by rw[aa,ax];show(_+1)*24≤_;omega) (by rw[aa,ax];show _+1≤_;omega) ?_;refine qU 1 rfl<|ae.nil<|qT 1 rfl ?_;rw[aD (x:=(i:Int)+1) (by omega) (by omega)];refine qU 1 rfl<|ae.nil ?_;exact⟨i+1,by rw[hts,ca];rfl,hii,by omega⟩
  have hii:i=a.length:=by have:=ar h;omega
  subst hii;rw[hta];refine AW.exit<|AW.seq<|AW.region<|ae.iu tok 5 rfl rfl ?_;exact qU 2 rfl<|qN rfl
theorem Hp(a:cF)(h:k<bg a):(cH a).getD k []=yA a k:=pJ a h
theorem ud(a:cF)(ha:a.length≤1000000)(hc:bg a≤1000000)(hr:cX (bg a) a):Pure Tryz.prog 135 [iT a] (iT (cH a)):=by
 refine qJ 18 Tryz.func135 rfl fun B F0 w0=>?_;have hz:=gC a
 have hts: ∀k,k<bg a→(cH a).take (k+1)=(cH a).take k++[yA a k]:=fun k hk=>by rw[Iu (d:=[]) (by omega),Hp a hk]
 have hta:(cH a).take (bg a)=cH a:=d5 (by omega);have cc:=fun k (hk:k<bg a)=>ui a k ha (fun i hi=>by rw[hr i hi];exact hk);generalize cH a=zs at *;refine qX 1 rfl<|qK 1 rfl<|qI<|qX 1 rfl<|qM rfl (l0 a) ?_;refine qU 1 rfl<|ae.nil<|AW.block ?_;refine AW.aK [0,3,6,7] (fun i:Nat=>[(0,.d (iT a)),(3,.ow 27 ((zs.take i).map jO)),(6,.d (dI (bg a))),(7,.d (dI i))]) (fun i=>i≤bg a) (fun i=>bg a-i) 0 rfl (an _) fun i hi=>?_
 ·show AW _ _ _ _ _ _ _ [(0,.d (iT a)),(3,.ow 27 ((zs.take i).map jO)),(6,.d (dI (bg a))),(7,.d (dI i))];refine qX 1 rfl<|qI<|AW.cond rfl (fun h=>?_) fun h=>?_
  ·have hii:i<bg a:=by have:=ao h;omega
   have cc:=cc i hii;have hts:=hts i hii;generalize yA a i=z at cc hts;refine AW.skip<|AW.seq<|AW.block<|qX 2 rfl<|ae.nil<|qT 3 rfl<|qM rfl cc<|ae.ku tok rfl rfl rfl rfl rfl ?_;refine ae.jw tok rfl rfl rfl rfl rfl rfl (by rw[aa,ax];show(_+1)*24≤_;omega) (by rw[aa,ax];show _+1≤_;omega) ?_;refine qU 1 rfl<|ae.nil<|qT 1 rfl ?_;rw[aD (x:=(i:Int)+1) (by omega) (by omega)];refine qU 1 rfl<|ae.nil ?_;exact⟨i+1,by rw[hts,ca];rfl,hii,by omega⟩
  have hii:i=bg a:=by have:=ar h;omega
  subst hii;rw[hta];refine AW.exit<|AW.seq<|AW.region<|ae.iu tok 3 rfl rfl ?_;exact qU 2 rfl<|qN rfl
theorem oq{a:cF}(V:qE v)(G:H8 v a)(ok: ∀c,c<a.length→lI v (aB v (cH a) c) c):Pure Tryz.prog 91 [fm v,iT a] (.tu [Ek (aB v (cH a) a.length).cols,bd]):=by refine qJ 20 Tryz.func91 rfl (fun B F0 w0=>?_);have hGl:=G.l;have hGc:=G.c;have ct:=ud a (by omega) (by omega) G.r;have cr:=o6 V (most:=a.length) (by rw[gC];omega) (by omega) (al _) (jB a) (mz G.lt) ok;generalize aB v (cH a) a.length=s at *;generalize cH a=z at *;refine qX 3 rfl<|qI<|AW.mU tok aO [(8,true),(1,false),(1,true)] 10 [6] (by kernel_rfl) ⟨rfl,?_⟩;refine qP 2 rfl<|qQ rfl ct<|qP 2 rfl ?_;rw[aa];refine qQ rfl cr<|qP 2 rfl<|ai.nil ⟨rfl,?_⟩;refine qP 1 rfl<|ai.nil ⟨rfl,?_⟩;refine qP 1 rfl<|ai.nil ⟨_,m8.cons (.bx rfl) (m8.nil),?_⟩;exact qU 1 rfl<|qK 5 rfl<|qN rfl
theorem qg{a:cF}(V:fC m v)(hk:ou v.length m)(G:H8 v a)(hs: ∀i k,au m (a7 a i k))(ok: ∀c,c<a.length→lI v (aB v (cH a) c) c):Pure Tryz.prog 47 [fm v,iT a] (.tu [Ek (nt v a),bd]):=by
 refine qJ 41 Tryz.func47 rfl fun B F0 w0=>?_;obtain⟨r1,r2⟩:=G.raw V hs;have cc:=n0 (V.s hk) r1;rw[r2,lv,ER]at cc;have hGl:=G.l;have ci:=oq V.a G ok;have hcl:=(gS V.a (jB a) (mz G.lt) a.length).cl;unfold nt kK;generalize aB v (cH a) a.length=s at *
 have hf: ∀i,((cB (i+1)).filter fun i=> !s.cols.contains i)=((cB i).filter fun i=> !s.cols.contains i)++(if s.cols.contains i then []else [i]):=fun i=>by
  rw[dl,c8]
  congr 1
  by_cases h:s.cols.contains i=true
  ·rw[ah h,List.filter_cons_of_neg (by rw[h];simp)];rfl
  ·rw[af h,List.filter_cons_of_pos (by simp only[Bool.not_eq_true]at h;rw[h];rfl)];rfl
 have hfl: ∀i,((cB i).filter fun i=> !s.cols.contains i).length≤i:=fun i=>az (List.length_filter_le ..) (by rw[ek];exact al _);refine qX 3 rfl<|qI<|qX 2 rfl<|qM rfl cc<|qU 1 rfl<|qK 1 rfl<|qR rfl rfl<|ae.nil<|AW.aC rfl ?_
 ·skip
  refine AW.skip<|qX 2 rfl<|qM rfl ci<|qU 5 rfl<|qI<|qX 1 rfl<|qR rfl rfl<|ae.nil<|AW.aC rfl ?_
  ·skip
   refine AW.skip<|qX 1 rfl<|qI<|qX 2 rfl ?_;rw[aa];refine qU 1 rfl<|ae.nil<|AW.block ?_;refine AW.aK [7,9,27,28] (fun i:Nat=>[(7,.d (Ek s.cols)),(9,.ow 3 (((cB i).filter fun i=> !s.cols.contains i).map (fun c:Nat=>dI c))),(27,.d (dI a.length)),(28,.d (dI i))]) (fun i=>i≤a.length) (fun i=>a.length-i) 0 rfl (an _) fun i hi=>?_
   ·show AW _ _ _ _ _ _ _ [(7,.d (Ek s.cols)),(9,.ow 3 (((cB i).filter fun i=> !s.cols.contains i).map (fun c:Nat=>dI c))),(27,.d (dI a.length)),(28,.d (dI i))];refine qX 1 rfl<|qI<|AW.cond rfl (fun h=>?_) fun h=>?_
    ·have hii:i<a.length:=by have:=ao h;omega
     have hf:=hf i;have hfl:=hfl i;have ch:=qd s.cols (by omega) i;generalize s.cols.contains i=b at hf ch;refine AW.skip<|AW.seq<|AW.block<|qX 2 rfl<|qK 2 rfl<|qM rfl ch<|qU 1 rfl<|ae.nil<|AW.cond rfl (fun h=>?_) fun h=>?_
     ·rw[show b=false by cases b;rfl;cases h]at hf;refine qT 2 rfl<|ae.ku tok rfl rfl rfl rfl rfl ?_;refine ae.jw tok rfl rfl rfl rfl rfl rfl (by rw[aa];show(_+1)*8≤_;omega) (by rw[aa];show _+1≤_;omega) ?_;refine qU 1 rfl<|ae.nil<|qT 1 rfl ?_;rw[aD (x:=(i:Int)+1) (by omega) (by omega)];refine qU 1 rfl<|ae.nil ?_;exact⟨i+1,by rw[hf,af (by decide),ca];rfl,hii,by omega⟩
     ·rw[show b=true by cases b;cases h;rfl]at hf;refine AW.skip<|qT 1 rfl ?_;rw[aD (x:=(i:Int)+1) (by omega) (by omega)];refine qU 1 rfl<|ae.nil ?_;exact⟨i+1,by rw[hf,ah rfl,dr];rfl,hii,by omega⟩
    have hii:i=a.length:=by have:=ar h;omega
    subst hii;refine AW.exit<|AW.seq<|AW.region<|ae.iu tok 9 rfl rfl ?_;exact qU 3 rfl<|qN rfl
theorem Bg{a m:cF}{l:List Nat}(cc:Pure Tryz.prog 137 [fm v,iT a] (dI 0))(cr:Pure Tryz.prog 138 [fm v,iT a] (.tu [iT m,Ek l])):Pure Tryz.prog 93 [fm v,iT a] (.tu [dI l.length,dI 0]):=by
 refine qJ 23 Tryz.func93 rfl fun B F0 w0=>?_;refine qX 3 rfl<|qI<|qX 2 rfl<|qM rfl cc<|qU 1 rfl<|qK 2 rfl<|ae.nil<|AW.aC rfl ?_
 ·refine AW.skip (qX 2 rfl (qM rfl cr (qU 5 rfl (qK 2 rfl ?_))));rw[aa];exact qU 2 rfl<|qN rfl
def I0(l:Lkg)(n r:Nat):Nat:=if n=0∨l.bodies.length=1 then 0 else r
theorem C1{bs:List fp}{A:cF}(hn:n≤A.length)(hb:l.bodies.length≤1000)(cm:Pure Tryz.prog 19 [l.D,Hh v bs md] (iT A))
  (cr:n≠0→l.bodies.length≠1→Pure Tryz.prog 93 [fm v,iT (A.take n)] (.tu [dI r,dI 0])):Pure Tryz.prog 48 [l.D,Hh v bs md,dI n] (dI (I0 l n r)):=by
 refine qJ 29 Tryz.func48 rfl fun B F0 w0=>?_;refine qX 3 rfl<|qI<|qX 3 rfl ?_;refine ae.split (t:=11) rfl (fun h=>?_) fun h=>?_
 ·rw[show I0 l n r=0 from ah (.inl (by have:=beq_iff_eq.1 h;omega))];exact qU 5 rfl<|ae.nil<|AW.aH rfl<|qX 1 rfl<|qN rfl
 have hn0:n≠0:=fun e=>by subst e;cases h
 refine qU 5 rfl<|ae.nil ?_;refine AW.cond rfl (fun h2=>?_) fun h2=>?_
 ·rw[show I0 l n r=0 from ah (.inr (by have:=beq_iff_eq.1 h2;rw[aa]at this;omega))];exact qX 1 rfl<|qN rfl
 ·have hb1:l.bodies.length≠1:=fun e=>by have:=beq_eq_false_iff_ne.1 h2;rw[aa]at this;omega
  have cr:=cr hn0 hb1;rw[show I0 l n r=r from af (fun g=>g.elim hn0 hb1)];refine AW.skip<|AW.seq<|AW.draw aO 12 (by kernel_rfl) ?_;refine qP 4 rfl<|qQ rfl cm<|qP 1 rfl ?_;refine ai.CK tok rfl rfl rfl rfl rfl trivial (am n) (an _) (show n≤(A.map jO).length by rw[aa];exact hn) ?_;rw[show(D.sl 1 (((A.map jO).take (dm (A.map jO).length (some (n:Int)))).drop (gA none)))=iT (A.take n) by show D.sl 1 ((A.map jO).take n)=_;rw[←List.map_take]];exact qQ rfl cr<|qP 4 rfl<|ai.nil<|qU 1 rfl<|qK 2 rfl<|qN rfl
theorem C2{bs:List fp}{A:cF}(cm:Pure Tryz.prog 19 [l.D,Hh v bs md] (iT A))
  (cr:Pure Tryz.prog 48 [l.D,Hh v bs md,dI A.length] (dI r)):Pure Tryz.prog 25 [l.D,Hh v bs md] (dI r):=by
 refine qJ 12 Tryz.func25 rfl fun B F0 w0=>?_;refine qX 3 rfl<|qI<|AW.draw aO 7 (by kernel_rfl) ?_;refine qP 4 rfl<|qQ rfl cm<|qP 1 rfl ?_;rw[aa];exact qQ rfl cr<|ai.nil<|qU 1 rfl<|qN rfl
theorem xi{bs:List fp}{r:Int}(hr0:0≤r)(hr:r≤1000000)(hb:l.bodies.length≤1000)
  (cr:Pure Tryz.prog 25 [l.D,Hh v bs md] (dI r)):Pure Tryz.prog 26 [l.D,Hh v bs md] (dI (3*((l.bodies.length:Int) -1) -r)):=by
 refine qJ 14 Tryz.func26 rfl fun B F0 w0=>?_;refine qX 3 rfl<|qI<|AW.draw aO 9 (by kernel_rfl) ?_;refine qP 3 rfl ?_;rw[aa];refine qP 1 rfl ?_;rw[aD (x:=(l.bodies.length:Int) -1) (by omega) (by omega)];refine qP 1 rfl ?_;rw[aD (x:=3*((l.bodies.length:Int) -1)) (by omega) (by omega)];refine qP 2 rfl<|qQ rfl cr<|qP 1 rfl ?_;rw[aD (x:=3*((l.bodies.length:Int) -1) -r) (by omega) (by omega)];exact ai.nil<|qU 1 rfl<|qN rfl
def mf(js:List bp)(i:Nat):Nat:=if (js.getD i default).kind=0 then 2 else 1
def gT(js:List bp):Nat→Nat
 |0=>0
 |i+1=>gT js i+mf js i
def mH(js:List bp)(f:Nat→Nat):Nat→List Nat
 |0=>[]
 |i+1=>if f (i+1)<f i+mf js i then mH js f i++[i]else mH js f i
theorem GI(js:List bp)(i:Nat):mf js i≤2:=by unfold mf;split<;>omega
theorem GK(js:List bp): ∀i,gT js i≤2*i
 |0=>al _
 |i+1=>by have:=GK js i;have:=GI js i;unfold gT;omega
theorem CX(js:List bp)(f:Nat→Nat): ∀i,(mH js f i).length≤i
 |0=>al _
 |i+1=>by
  have:=CX js f i;unfold mH;split
  ·rw[av];show _+1≤_;omega
  ·omega
theorem tO{bs:List fp}{f:Nat→Nat}(f0:f 0=0)(hf: ∀i,f i≤1000000)(hJ:l.joints.length≤1000000)
  (cr: ∀i,i≤l.joints.length→Pure Tryz.prog 48 [l.D,Hh v bs md,dI (gT l.joints i:Nat)] (dI (f i))):Pure Tryz.prog 28 [l.D,Hh v bs md] (Ek (mH l.joints f l.joints.length)):=by
 refine qJ 43 Tryz.func28 rfl fun B F0 w0=>?_;obtain⟨ln,lb,js,lds⟩:=l;simp only[]at *;refine qX 3 rfl<|qK 1 rfl<|qK 2 rfl<|qI<|qX 1 rfl<|ae.nil<|AW.block ?_;refine AW.aK [2,3,5,6,7,8] (fun i:Nat=>[(2,.bx [dS ln,aI lb,aE js,aF lds]),(3,.bx [.sl 1 (v.map ak),.sl 4 (bs.map fp.D),.sl 1 (md.map (fun n=>dI n))]),(5,.ow 3 ((mH js f i).map (fun n:Nat=>dI n))),(6,.d (dI (gT js i:Nat))),(7,.d (dI (f i))),(8,.d (dI i))]) (fun i=>i≤js.length) (fun i=>js.length-i) 0 (by rw[f0];rfl) (an _) fun i hi=>?_
 ·show AW _ _ _ _ _ _ _ [(2,.bx [dS ln,aI lb,aE js,aF lds]),(3,.bx [.sl 1 (v.map ak),.sl 4 (bs.map fp.D),.sl 1 (md.map (fun n=>dI n))]),(5,.ow 3 ((mH js f i).map (fun n:Nat=>dI n))),(6,.d (dI (gT js i:Nat))),(7,.d (dI (f i))),(8,.d (dI i))];refine AW.seq<|qX 4 rfl ?_;rw[aa];refine qU 1 rfl<|ae.nil<|AW.cond rfl (fun h=>?_) fun h=>?_
  ·have hij:i<js.length:=by have:=ao h;omega
   have c1:=cr (i+1) hij;have hw:=GI js i;have hn:=GK js i;have hl:=CX js f i;have h1:=hf i;have h2:=hf (i+1);rw[show((gT js (i+1):Nat):Int)=(gT js i:Int)+(mf js i:Int)from Int.natCast_add _ _]at c1;refine AW.skip<|AW.seq<|AW.block<|qX 1 rfl<|ae.nil ?_;refine AW.cut [2,3,5,6,7,8,9] (fun _:Unit=>[(2,.bx [dS ln,aI lb,aE js,aF lds]),(3,.bx [.sl 1 (v.map ak),.sl 4 (bs.map fp.D),.sl 1 (md.map (fun n=>dI n))]),(5,.ow 3 ((mH js f i).map (fun n:Nat=>dI n))),(6,.d (dI (gT js i:Nat))),(7,.d (dI (f i))),(8,.d (dI i)),(9,.d (dI (mf js i)))]) (fun _=>True) ?_ fun _ _=>?_
   ·refine qX 3 rfl (ae.idx tok ((js.getD i default).D) rfl rfl rfl rfl (am i) (getM bp.D (l:=js) (i:=i) hij) ?_);refine qU 3 rfl<|ae.nil<|AW.cond rfl (fun h=>?_) fun h=>?_
    ·refine qT 1 rfl (ae.nil ?_);exact⟨(),by rw[show mf js i=2 from ah (beq_iff_eq.1 h)];rfl,trivial⟩
    ·refine AW.skip ?_;exact⟨(),by rw[show mf js i=1 from af (beq_eq_false_iff_ne.1 h)];rfl,trivial⟩
   refine qX 2 rfl<|qU 1 rfl ?_;rw[aD (x:=(gT js i:Int)+(mf js i:Int)) (by omega) (by omega)];refine qU 1 rfl<|qK 3 rfl<|qM rfl c1<|qU 1 rfl<|ae.nil ?_;refine AW.cut [2,3,5,6,8,10] (fun _:Unit=>[(2,.bx [dS ln,aI lb,aE js,aF lds]),(3,.bx [.sl 1 (v.map ak),.sl 4 (bs.map fp.D),.sl 1 (md.map (fun n=>dI n))]),(5,.ow 3 ((mH js f (i+1)).map (fun n:Nat=>dI n))),(6,.d (dI (gT js (i+1):Nat))),(8,.d (dI i)),(10,.d (dI (f (i+1))))]) (fun _=>True) ?_ fun _ _=>?_
   ·refine qX 4 rfl ?_;rw[aD (x:=(f i:Int)+(mf js i:Int)) (by omega) (by omega)];refine qU 1 rfl<|ae.nil<|AW.cond rfl (fun h=>?_) fun h=>?_
    ·refine qT 2 rfl (ae.bs tok rfl rfl rfl rfl ?_);refine ae.jw tok rfl rfl rfl rfl rfl rfl (by rw[aa];show(_+1)*8≤_;omega) (by rw[aa];show _+1≤_;omega) ?_;refine qU 1 rfl<|ae.nil ?_;exact⟨(),by rw[show mH js f (i+1)=mH js f i++[i]from ah (by have:=ao h;omega),ca];rfl,trivial⟩
    ·refine AW.skip ?_;exact⟨(),by rw[show mH js f (i+1)=mH js f i from af (by have:=ar h;omega)];rfl,trivial⟩
   refine qT 2 rfl<|ae.nil<|qT 2 rfl ?_;rw[aD (x:=(i:Int)+1) (by omega) (by omega)];refine qU 1 rfl<|ae.nil ?_;exact⟨i+1,rfl,hij,by omega⟩
  have hin:i=js.length:=by have:=ar h;omega
  subst hin;refine AW.exit<|AW.seq<|AW.region<|ae.iu tok 5 rfl rfl ?_;exact qU 2 rfl<|qN rfl
theorem o9(n:Int)(hn: -1000≤n∧n≤1000):Pure Tryz.prog 50 [dI n] (bo [Qr (n:Rat)]):=by refine qJ 6 Tryz.func50 rfl (fun B F0 w0=>?_);have c1:=tP n (by omega) (by omega);refine qX 1 rfl<|qK 1 rfl<|qM rfl c1<|ae.ku tok rfl rfl rfl rfl rfl ?_;exact qU 1 rfl<|qN rfl
abbrev Qc:List Mark:=[⟨⟨#[79]⟩,Qr 0,Qr 0⟩,⟨⟨#[65]⟩,Qr ((1:Int):Rat),Qr 0⟩]
abbrev Fs:Lkg:=⟨⟨#[109]⟩,[⟨⟨#[102,114,97,109,101]⟩,Qc⟩,⟨⟨#[99,114,97,110,107]⟩,Qc⟩],[⟨⟨#[106]⟩,0,1,0,0,0,0⟩],[]⟩
abbrev PH:fp:=⟨[Qr ((1:Int):Rat)],[Qr ((0:Int):Rat)],[Qr ((0:Int):Rat)],[Qr ((0:Int):Rat)]⟩
abbrev GY:Asm:=⟨[],[PH,PH],[]⟩
theorem uk:Pure Tryz.prog 29 [] (.tu [Fs.D,GY.D]):=by
 refine qJ 27 Tryz.func29 rfl fun B F0 w0=>?_;have c1:=tP 1 (by omega) (by omega);have w1:=o9 1 (by omega);have w0':=o9 0 (by omega)
 have e1:Mark.D ⟨⟨#[79]⟩,Qr 0,Qr 0⟩= .ag [dS ⟨#[79]⟩,dB false,.sl 1 [],.sl 1 [],dB false,.sl 1 [],.sl 1 []]:=by show D.ag [dS ⟨#[79]⟩,dB (Qr 0).g,Wd (Qr 0).n,Wd (Qr 0).d,dB (Qr 0).g,Wd (Qr 0).n,Wd (Qr 0).d]=_;rw[gL];rfl
 have e2: ∀r:RD,Mark.D ⟨⟨#[65]⟩,r,Qr 0⟩= .ag [dS ⟨#[65]⟩,dB r.g,Wd r.n,Wd r.d,dB false,.sl 1 [],.sl 1 []]:=fun r=>by show D.ag [dS ⟨#[65]⟩,dB r.g,Wd r.n,Wd r.d,dB (Qr 0).g,Wd (Qr 0).n,Wd (Qr 0).d]=_;rw[gL];rfl
 have eL:Fs.D= .ag [dS ⟨#[109]⟩,.sl 2 [.ag [dS ⟨#[102,114,97,109,101]⟩,.sl 7 [.ag [dS ⟨#[79]⟩,dB false,.sl 1 [],.sl 1 [],dB false,.sl 1 [],.sl 1 []],.ag [dS ⟨#[65]⟩,dB (Qr ((1:Int):Rat)).g,Wd (Qr ((1:Int):Rat)).n,Wd (Qr ((1:Int):Rat)).d,dB false,.sl 1 [],.sl 1 []]]],.ag [dS ⟨#[99,114,97,110,107]⟩,.sl 7 [.ag [dS ⟨#[79]⟩,dB false,.sl 1 [],.sl 1 [],dB false,.sl 1 [],.sl 1 []],.ag [dS ⟨#[65]⟩,dB (Qr ((1:Int):Rat)).g,Wd (Qr ((1:Int):Rat)).n,Wd (Qr ((1:Int):Rat)).d,dB false,.sl 1 [],.sl 1 []]]]],.sl 7 [.ag [dS ⟨#[106]⟩,dI 0,dI 1,dI 0,dI 0,dI 0,dI 0]],.sl 2 []]:=by rw[←e1,←e2];rfl
 have eA:GY.D= .ag [.sl 1 [],.sl 4 [.ag [bo [Qr ((1:Int):Rat)],bo [Qr ((0:Int):Rat)],bo [Qr ((0:Int):Rat)],bo [Qr ((0:Int):Rat)]],.ag [bo [Qr ((1:Int):Rat)],bo [Qr ((0:Int):Rat)],bo [Qr ((0:Int):Rat)],bo [Qr ((0:Int):Rat)]]],.sl 1 []]:=rfl;rw[eL,eA];clear eL eA e1 e2;generalize Qr ((1:Int):Rat)=q at *;generalize Qr ((0:Int):Rat)=z at *;refine qX 2 rfl<|qK 1 rfl<|qM rfl c1<|qU 1 rfl<|ae.ku tok rfl rfl rfl rfl rfl ?_;refine qU 1 rfl<|qK 4 rfl<|ae.ku tok rfl rfl rfl rfl rfl ?_;refine qU 1 rfl<|ae.ku tok rfl rfl rfl rfl rfl ?_;refine qU 3 rfl<|qI<|AW.region<|qM rfl w1<|qM rfl w0'<|qM rfl w0'<|qM rfl w0'<|qU 3 rfl<|qI<|AW.mU tok aO [(1,true),(4,false)] 5 [0,1] (by kernel_rfl) ⟨rfl,?_⟩;refine qP 1 rfl<|ai.nil ⟨rfl,?_⟩;refine qP 2 rfl<|ai.ku tok rfl rfl rfl rfl rfl rfl ?_;refine qP 1 rfl<|ai.nil ⟨_,m8.cons (.bx rfl) (m8.cons (.bx rfl) (m8.nil)),?_⟩;exact qN rfl
abbrev vd:cF:=[[[1],[],[]],[[],[1],[]]]
instance:DecidableEq kq:=fun a b=>if h:a.rows=b.rows∧a.cols=b.cols∧a.sg=b.sg∧a.iN=b.iN then isTrue (by
  cases a;cases b;obtain⟨h1,h2,h3,h4⟩:=h;simp only[]at h1 h2 h3 h4;subst h1;subst h2;subst h3;subst h4;rfl)else isFalse (fun e=>h (by subst e;exact⟨rfl,rfl,rfl,rfl⟩))
theorem Fp:gl Fs GY=0:=by decide +kernel
theorem L7:Cq Fs=0:=by decide +kernel
theorem MK:fb Fs GY=vd:=by decide +kernel
theorem Pa:aB [] vd 1=⟨vd,[0],1,[1]⟩:=by decide +kernel
theorem O9:aB [] vd 2=⟨vd,[0,1],1,[1]⟩:=by decide +kernel
theorem O8:aB [] vd 3=⟨vd,[0,1],1,[1]⟩:=by decide +kernel
theorem Fq(i k:Nat):au 1 (a7 vd i k)∧ay 0 (a7 vd i k):=by
 have h:a7 vd i k=[]∨a7 vd i k=[1]:=by
  match i,k with
  |0,0=>exact .inr rfl
  |0,1=>exact .inl rfl
  |0,2=>exact .inl rfl
  |0,_+3=>exact .inl rfl
  |1,0=>exact .inl rfl
  |1,1=>exact .inr rfl
  |1,2=>exact .inl rfl
  |1,_+3=>exact .inl rfl
  |_+2,_=>exact .inl rfl
 rcases h with h|h
 ·rw[h];exact⟨db (by decide),cE _⟩
 ·rw[h];exact⟨gd fU,dZ _ _⟩
theorem CD(h:1≤k):dk k []:=fun i=>by rw[show([]:List NQ).getD i []=[] by simp];exact db h
theorem Ea:cU []:=fun j hj=>aG hj (a0 _)
theorem Jm{a b:NQ}(ha:ay 0 a)(hb:ay 0 b)(sa:au 1 a)(sb:au 1 b):Dn [] a b :=
 ⟨sa.mono (by decide),sb.mono (by decide),rp 0 ha hb Ea (al _) sa sb (CD (al _)) (by decide),(dy 0 ha hb Ea (al _) sa sb (CD (al _))).2.mono (by decide)⟩
theorem J1:bN 0 [] [1]=[1]:=by decide +kernel
theorem Nw{a:NQ}(ha:ay 0 a)(sa:au 1 a):Jo [] a [1]:=by
 have h1:au 1 ([1]:NQ):=gd fU;have hb:ay 0 ([1]:NQ):=dZ _ _;have m:=Jm ha hb sa h1;refine⟨m.1,m.2.1,m.2.1,by decide +kernel,⟨m.2.1,by decide +kernel⟩,?_,?_⟩
 ·show Dm 0 [] a (bN 0 [] [1]);rw[J1];exact m.2.2.1
 ·show qo (aT 0 [] a (bN 0 [] [1]));rw[J1];exact m.2.2.2
theorem BZ{cols:List Nat}{c:Nat}{p:NQ}(h1:atR [] ⟨vd,cols,1,[1]⟩ c<2→bR [] ⟨vd,cols,1,[1]⟩ c=vd∧eR [] ⟨vd,cols,1,[1]⟩ c=vd∧pR [] ⟨vd,cols,1,[1]⟩ c=[1])
  (h2:atR [] ⟨vd,cols,1,[1]⟩ c<2→ ∀i,i<2→i≠cols.length→m7 [] (a7 vd i c)=0):lI [] ⟨vd,cols,1,[1]⟩ c:=by
 have k: ∀i k,qo (a7 vd i k):=fun i k=>(Fq i k).1.mono (by decide);refine⟨fun j _ _=>k j c,fun h=>?_,fun h j _=>?_,fun h i _ _=>?_,fun h i hi hn hs=>?_⟩
 ·rw[(h1 h).2.2];exact Jm (dZ _ _) (dZ _ _) (gd fU)<|gd fU
 ·rw[(h1 h).2.2,(h1 h).1];exact Nw (Fq _ _).2 (Fq _ _).1
 ·rw[(h1 h).2.1];exact k i c
 ·rw[(h1 h).2.1]at hs;exact aG (h2 h i hi hn) hs
theorem Pb: ∀c,c<3→lI [] (aB [] vd c) c
 |0,_=>BZ (p:=[]) (fun _=>⟨by decide +kernel,by decide +kernel,by decide +kernel⟩) (fun _ i hi hn=>by
   have h: ∀i:Fin 2,i.val≠0→m7 [] (a7 vd i.val 0)=0:=by decide +kernel
   exact h ⟨i,hi⟩ hn)
 |1,_=>by
  rw[Pa]
  exact BZ (p:=[]) (fun _=>⟨by decide +kernel,by decide +kernel,by decide +kernel⟩) (fun _ i hi hn=>by
   have h: ∀i:Fin 2,i.val≠1→m7 [] (a7 vd i.val 1)=0:=by decide +kernel
   exact h ⟨i,hi⟩ hn)
 |2,_=>by
  rw[O9];have h: ¬atR [] ⟨vd,[0,1],1,[1]⟩ 2<2:=by decide +kernel
  exact BZ (p:=[]) (fun g=>aG g h) fun g=>aG g h
theorem L6:Fs.ok 16:=by
 have q1:(Qr ((1:Int):Rat)).w 16:=gz _ (by have:=fU;rw[show((1:Int):Rat)=1 from rfl];omega);have q0:(Qr 0).w 16:=gz _ (lK (by decide));have d0:(default:RD).w 16:=⟨fun x h=>aG h (co (a:=x)),fun x h=>aG h (co (a:=x)),an _,an _⟩;have dM:(default:Mark).ok 16:=⟨by decide,d0,d0⟩
 have hp: ∀k,(Qc.getD k default).ok 16:=fun k=>by
  match k with
  |0=>exact⟨by decide,q0,q0⟩
  |1=>exact⟨by decide,q1,q0⟩
  |_+2=>exact dM
 refine⟨by decide,by decide,by decide,by decide,fun i=>?_,fun i=>?_,fun i=>by show(default:Driver).nm.size≤_;decide⟩
 ·match i with
  |0=>exact⟨by decide,by decide,hp⟩
  |1=>exact⟨by decide,by decide,hp⟩
  |_+2=>exact⟨by show(default:Body).nm.size≤_;decide,by show(default:Body).pts.length≤_;decide,fun k=>dM⟩
 ·match i with
  |0=>show(ByteArray.size ⟨#[106]⟩)≤_;decide
  |_+1=>show(default:bp).nm.size≤_;decide
theorem J0:Ej Fs GY:=by
 have d0: ∀a:List RD,(∀r∈a,r=Qr ((1:Int):Rat)∨r=Qr ((0:Int):Rat))→wN 16 a:=fun a h i hi=>by
  have h1:(Qr ((1:Int):Rat)).w 16:=gz _ (by have:=fU;rw[show((1:Int):Rat)=1 from rfl];omega);have h0:(Qr ((0:Int):Rat)).w 16:=gz _ (by have:=jZ;rw[show((0:Int):Rat)=0 from rfl];omega);rw[ad,ap hi];rcases h _ (cg hi)with e|e
  ·rw[show(some a[i]).getD default=a[i]from rfl,e];exact h1
  ·rw[show(some a[i]).getD default=a[i]from rfl,e];exact h0
 have w1:wN 16 [Qr ((1:Int):Rat)]:=d0 _ (fun r hr=>.inl (cj.1 hr));have w0:wN 16 [Qr ((0:Int):Rat)]:=d0 _ (fun r hr=>.inr (cj.1 hr));have hb:fp.ok 16 [] PH:=⟨⟨fun _=>w1,show 1≤4398046511104 by decide⟩,⟨fun _=>w0,show 1≤4398046511104 by decide⟩,⟨fun _=>w0,show 1≤4398046511104 by decide⟩,⟨fun _=>w0,show 1≤4398046511104 by decide⟩⟩;refine Mu L6 ⟨⟨⟨1,by decide,by decide,fun i hi=>aG hi (a0 _),fun _=>show 1≤17300000000000 by decide⟩,by decide,by decide,fun i hi=>aG hi (a0 _)⟩,fun i hi=>?_,by decide⟩ (by decide) Fp;have hi:i<2:=hi
 match i,hi with
 |0,_=>exact hb
 |1,_=>exact hb
theorem J2:GY.ok 16:=by
 have w1:wN 16 [Qr ((1:Int):Rat)]:=fun i hi=>by
  have hi:i<1:=hi;obtain rfl:i=0:=by omega
  exact gz _ (by have:=fU;rw[show((1:Int):Rat)=1 from rfl];omega)
 have w0:wN 16 [Qr ((0:Int):Rat)]:=fun i hi=>by
  have hi:i<1:=hi;obtain rfl:i=0:=by omega
  exact gz _ (by have:=jZ;rw[show((0:Int):Rat)=0 from rfl];omega)
 have hb:fp.ok 16 [] PH:=⟨⟨fun _=>w1,show 1≤4398046511104 by decide⟩,⟨fun _=>w0,show 1≤4398046511104 by decide⟩,⟨fun _=>w0,show 1≤4398046511104 by decide⟩,⟨fun _=>w0,show 1≤4398046511104 by decide⟩⟩;refine⟨⟨⟨1,by decide,by decide,fun i hi=>aG hi (a0 _),fun _=>show 1≤17300000000000 by decide⟩,by decide,by decide,fun i hi=>aG hi (a0 _)⟩,fun i hi=>?_,by decide⟩;have hi:i<2:=hi
 match i,hi with
 |0,_=>exact hb
 |1,_=>exact hb
theorem GX:Pure Tryz.prog 46 [fm (GY.rt.map aA),iT (fb Fs GY)] (.tu [dI (2:Nat),bd]):=by
 have V:fC 300000 (GY.rt.map aA):=J0.V.mono (by decide) (by decide)
 have h:=o7 V (show 300000≤17300000000000 by decide) (jz J0) (fun i k=>(DD J0 i k).2) (fun c hc=>by
  rw[MK]at hc ⊢
  exact Pb c hc)
 rw[show(qe (GY.rt.map aA) (fb Fs GY)).cols.length=2 by rw[MK];show(aB [] vd 3).cols.length=2;rw[O8];rfl]at h;exact h
theorem pa:Pure Tryz.prog 9 [] (dB true):=by refine qJ 52 Tryz.func9 rfl (fun B F0 w0=>?_);have ce:=uk;have c1:=vF Fs L6 (by decide);have c2:=lZ Fs GY L6 J2 (by decide) (by decide) (fun _=>GX);have c3:=lC Fs GY (r:=2) (by decide) L6 J2 (by decide) (by decide) (fun _=>GX);unfold NJ at c1;unfold Ae at c2;unfold DS at c3;rw[af (by rw[L7];decide),show NI Fs=1 by decide +kernel]at c1;rw[af (by rw[Fp];decide)]at c2;rw[af (by rw[Fp];decide),show(3*((Fs.bodies.length:Int) -1) -((2:Nat):Int))=1 by decide]at c3;have hL: ∃x:List D,Fs.D= .ag x∧x.length=4:=⟨_,rfl,rfl⟩;have hA: ∃x:List D,GY.D= .ag x∧x.length=3:=⟨_,rfl,rfl⟩;refine qX 1 rfl<|qI<|AW.region<|qM rfl ce<|qU 7 rfl<|qK 1 rfl<|qM rfl c1<|qU 5 rfl<|qK 2 rfl ?_;refine qM rfl c2<|qU 5 rfl<|qK 2 rfl<|qM rfl c3<|qU 5 rfl<|qK 1 rfl<|qR rfl rfl<|qU 2 rfl<|qR rfl rfl ?_;exact qU 3 rfl<|qR rfl rfl<|qU 14 rfl<|qN rfl
section
variable {a:Asm} (S:KG l a) (O:Ej l a) (hl:l.ok 16) (ha:AsB a)
include S O hl ha
omit O hl in
theorem EL(h2:(a.rt.map aA).length=2):dk 8 (a.rt.map aA):=fun j c=>by
 rw[aa]at h2;by_cases hj:j<a.rt.length
 ·have h1:=S.root hj
  have hg:(a.rt.map aA).getD j []=aA (a.rt.getD j []):=by rw[ad,cC,ad,ap hj];rfl
  rw[hg,Dq];split
  ·have w:=(ha.r j).2 c;have h3:=AI (a.rt.getD j []) c;exact bU ⟨w.1,w.2.1,by omega,by omega⟩ (by decide)
  ·rw[jZ];decide
 ·have hz:(a.rt.map aA).getD j []=[]:=by rw[ad,cA (by rw[aa];omega)];rfl
  rw[hz];show LQ 0≤8;rw[jZ];decide
theorem Jr(N:Nat)(hr:cX N (fb l a)):tA (a.rt.map aA) (fb l a) N (Fz 200 200) :=
 xa O.V (GB S O hl ha N) (by decide) hr (jz O).lt (al _) O.l2 O.V.sz (EL S ha)
theorem HP: ∀c,c<bg (fb l a)→lI (a.rt.map aA) (aB (a.rt.map aA) (fb l a) c) c:=by
 have G:=jz O;have hb:l.bodies.length≤6:=by have:=O.G.lk.b8;have:=S.nb6;omega
 by_cases h0:0<(fb l a).length
 ·have hc:=pV O h0;exact xb O.V O.l2 O.V.sz G.r G.lt (Jr S O hl ha _ G.r) (.inl (by omega))
 ·intro c hc;unfold bg at hc;rw[jX (by omega)]at hc;exact aG hc<|a0 c
theorem CB: ∀c,c<(fb l a).length→lI (a.rt.map aA) (aB (a.rt.map aA) (cH (fb l a)) c) c:=by
 have G:=jz O;have hb:l.bodies.length≤6:=by have:=O.G.lk.b8;have:=S.nb6;omega
 by_cases h0:0<(fb l a).length
 ·have hc:=pV O h0;obtain⟨e,hM⟩:=Ho S O hl ha;exact xb O.V O.l2 O.V.sz (jB _) (mz G.lt) (xa O.V hM (by decide) (jB _) (mz G.lt) (al _) O.l2 O.V.sz (EL S ha)) (.inr (by rw[gC];omega))
 ·intro c hc;exact aG hc (by omega)
omit S hl ha in
theorem P3:ou (a.rt.map aA).length 300000:=by refine tV (l:=2) ?_ O.l2;exact⟨by decide,by decide,by show _≤_;decide⟩
theorem GA:Pure Tryz.prog 46 [fm (a.rt.map aA),iT (fb l a)] (.tu [dI (qe (a.rt.map aA) (fb l a)).cols.length,bd]) :=
 o7 (O.V.mono (by decide) (by decide)) (P3 O) (jz O) (fun i k=>(DD O i k).2) (HP S O hl ha)
theorem BF:Pure Tryz.prog 47 [fm (a.rt.map aA),iT (fb l a)] (.tu [Ek (nt (a.rt.map aA) (fb l a)),bd]) :=
 qg (O.V.mono (by decide) (by decide)) (P3 O) (jz O) (fun i k=>(DD O i k).2) (CB S O hl ha)
end
theorem p6{a:cF}(h:i<n)(j:Nat):a7 (a.take n) i j=a7 a i j:=by
 have e:(a.take n).getD i []=a.getD i []:=by rw[ad,cd,ah h,ad]
 show((a.take n).getD i []).getD j []=(a.getD i []).getD j [];rw[e]
theorem uJ.take{X Xe:Nat}{e:Nat→QR.T}{a:cF}(h:uJ X Xe N e a)(n:Nat):uJ X Xe N e (a.take n):=⟨fun i hi=>by
 rw[ax]at hi;obtain⟨D,h1,h2,h3⟩:=h.r i (by omega)
 exact⟨D,h1,h2,fun j hj k=>by rw[p6 (by omega)];exact h3 j hj k⟩,h.e⟩
section
variable {a:Asm} (S:KG l a) (O:Ej l a) (hl:l.ok 16) (ha:AsB a)
include S O hl ha
theorem DC(h0:0<n)(hn:n≤(fb l a).length): ∃m:cF,Pure Tryz.prog 138 [fm (a.rt.map aA),iT ((fb l a).take n)] (.tu [iT m,Ek (aB (a.rt.map aA) ((fb l a).take n) (bg (fb l a))).cols]):=by
 have G:=jz O;have hb:l.bodies.length≤6:=by have:=O.G.lk.b8;have:=S.nb6;omega
 have hc:=pV O (show 0<(fb l a).length by omega)
 have hr:cX (bg (fb l a)) ((fb l a).take n):=fun i hi=>by
  rw[ax]at hi;have e:((fb l a).take n).getD i []=(fb l a).getD i []:=by rw[ad,cd,ah (by omega),ad]
  rw[e];exact G.r i (by omega)
 have hlt:qH (a.rt.map aA).length ((fb l a).take n):=fun i j=>by
  by_cases hi:i<n
  ·rw[p6 hi];exact G.lt i j
  ·have e:((fb l a).take n).getD i []=[]:=by rw[ad,cA (by rw[ax];omega)];rfl
   show ay _ ((((fb l a).take n).getD i []).getD j []);rw[e];exact .inl rfl
 have hlen:((fb l a).take n).length=n:=by rw[ax];omega
 have hG:=G.l;exact⟨_,HI O.V (by decide) O.l2 O.V.sz (by omega) (by omega) (by omega) hr hlt (xa O.V ((GB S O hl ha _).take n) (by decide) hr hlt (al _) O.l2 O.V.sz (EL S ha)) (.inl (by omega))⟩
end
theorem HH{m0:Nat}(V:fC m0 v){C:cF}(G:H8 v C)(hn:n≤C.length):(aB v (cH C) n).cols.length=(qe v (C.take n)).cols.length:=by
 rw[xc V G hn];unfold qe;by_cases h:n=0
 ·subst h;rw[List.take_zero,su,su]
 ·have e:bg (C.take n)=bg C:=by unfold bg;rw[ad,cd,ah (by omega),ad]
  rw[e]
theorem uS{a:Asm}(O:Ej l a)(hl:l.ok 16):Pure Tryz.prog 19 [l.D,a.D] (iT (fb l a)):=by have h:=zd (a:=a) (O.wh hl) (by have:=O.G.lk.j16;omega) O.G.lk.j;rw[←O.D]at h;exact h
structure H9 (l:Lkg) (a:Asm):Prop where
 hl:l.ok 16
 ha:a.ok 16
 hb:AsB a
 S:KG l a
 O:Ej l a
 m:gl l a=0
 nb:l.bodies.length≤1000000000000
theorem Pq{a:Asm}(hl:l.ok K)(ha:AsB a)(hL:(!rD l a&&decide (gl l a=0))=true):H9 l a∧Hf l a:=by
 obtain⟨h1,h2⟩:=(Bool.and_eq_true _ _).mp hL;have hlg:rD l a=false:=by simpa using h1
 have hm:gl l a=0:=ao h2;have S:=CJ hlg;have hl16:=S.lok hl;have ha16:=S.aok ha;have hnb:=S.nb;exact⟨⟨hl16,ha16,ha,S.s,Mu hl16 ha16 S.r2 hm,hm,by omega⟩,S⟩
def KP(l:Lkg)(a:Asm):Nat:=(qe (a.rt.map aA) (fb l a)).cols.length
theorem IZ{a:Asm}(A:H9 l a):KP l a≤32:=by have h:=(vZ A.O.V.a (jz A.O)).1;have:=(jz A.O).l;unfold KP;omega
theorem JU{a:Asm}(A:H9 l a):Pure Tryz.prog 11 [l.D,a.D] (.tu [dI (3*((l.bodies.length:Int) -1) -(KP l a:Nat)),bd]):=by have hr:=IZ A;have h:=lC l a (r:=KP l a) (by omega) A.hl A.ha A.S.r2 A.nb (fun _=>GA A.S A.O A.hl A.hb);unfold DS at h;rw[af (by rw[A.m];simp)]at h;exact h
def HF(of out:List Int)(row:Nat):List Int:=if out.length=0∨out.getD (out.length-1) 0≠of.getD row 0 then out++[of.getD row 0]else out
def Co(of:List Int)(r:List Nat):Nat→List Int
 |0=>[]
 |i+1=>HF of (Co of r i) (r.getD i 0)
theorem A5(of:List Int)(r:List Nat): ∀i,(Co of r i).length≤i
 |0=>al _
 |i+1=>by
  have:=A5 of r i;show(HF _ _ _).length≤_;unfold HF;split
  ·rw[av];show _+1≤_;omega
  ·omega
theorem JS{l:List Int}(h:i<l.length):(l.map (fun n=>dI n))[i]?=some (dI (l.getD i 0)):=by simp[h]
def Lk(l:Lkg)(a:Asm)(r:List Nat):D:=if gl l a≠0 then .tu [.sl 1 [],tE (gl l a)]else .tu [.sl 1 ((Co (qu l.joints l.joints.length) r r.length).map fun n=>dI n),bd]
theorem mO(l:Lkg)(a:Asm){r:List Nat}(hr:r.length≤1000000)(hri:gl l a=0→ ∀i,i<r.length→r.getD i 0<(qu l.joints l.joints.length).length)(hl:l.ok 16)(ha:a.ok 16)(h2:a.rt.length≤2)(hnb:l.bodies.length≤1000000000000)(hR:gl l a=0→Pure Tryz.prog 47 [fm (a.rt.map aA),iT (fb l a)] (.tu [Ek r,bd])):Pure Tryz.prog 24 [l.D,a.D] (Lk l a r):=by
 refine qJ 63 Tryz.func24 rfl fun B0 F0 w0=>?_;have c:=u5 l a hl ha h2 hnb;unfold Gh at c;unfold Lk;have hT:gl l a=0→uF a.rt=fm (a.rt.map aA):=fun h=>(rV ha.t (Bm h).tw).eq;unfold fb at hR;refine qX 4 rfl<|qK 2 rfl ?_;rcases e2:gl l a with _|z
 rotate_left
 ·rw[ah (by rw[e2];exact di z),e2]at c;rw[ah (di z)];exact qM rfl c<|qU 7 rfl<|qI<|qX 1 rfl<|qR rfl rfl<|ae.nil<|AW.aH rfl<|qX 3 rfl<|qN rfl
 rw[af (by rw[e2];simp)]at c;rw[af (by simp)];have hR2:=hR e2;have hri2:=hri e2;rw[←hT e2]at hR2;clear hR hri hT;refine qM rfl c<|qU 7 rfl<|qI<|qX 1 rfl<|qR rfl rfl<|ae.nil<|AW.aC rfl ?_
 ·skip
  refine AW.skip<|AW.seq<|AW.region ?_;obtain⟨rt,bs,md⟩:=a;generalize qu l.joints l.joints.length=of at *;refine qU 3 rfl<|qM rfl hR2<|qU 5 rfl<|qI<|qX 1 rfl<|qR rfl rfl<|ae.nil<|AW.aC rfl ?_
  ·skip
   refine AW.skip<|qX 1 rfl<|qI<|qX 2 rfl ?_;rw[aa];refine qU 1 rfl<|ae.nil<|AW.block ?_;refine AW.aK [7,10,34,35,36] (fun i:Nat=>[(7,.d (.sl 1 (of.map fun n=>dI n))),(10,.ow 3 ((Co of r i).map fun n=>dI n)),(34,.d (Ek r)),(35,.d (dI r.length)),(36,.d (dI i))]) (fun i=>i≤r.length) (fun i=>r.length-i) 0 rfl (an _) fun i hi=>?_
   ·show AW _ _ _ _ _ _ _ [(7,.d (.sl 1 (of.map fun n=>dI n))),(10,.ow 3 ((Co of r i).map fun n=>dI n)),(34,.d (Ek r)),(35,.d (dI r.length)),(36,.d (dI i))];refine qX 1 rfl<|qI<|AW.cond rfl (fun h=>?_) fun h=>?_
    ·have hii:i<r.length:=by have:=ao h;omega
     have g1:=MG (l:=r) (i:=i) hii;have hol:=A5 of r i;have hs:Co of r (i+1)=HF of (Co of r i) (r.getD i 0):=rfl;have g2:=JS (l:=of) (hri2 i hii);unfold HF at hs;generalize Co of r i=out at *;generalize of.getD (r.getD i 0) 0=x at *;generalize r.getD i 0=row at *;refine AW.skip<|AW.seq<|AW.block<|AW.seq<|AW.region<|ae.idx tok (dI row) rfl rfl rfl rfl (am i) g1 ?_;refine qU 2 rfl<|qK 2 rfl<|ae.idx tok (dI x) rfl rfl rfl rfl (am row) g2 ?_;refine qU 2 rfl<|ae.nil ?_;refine AW.cut [7,10,13,34,35,36,56] (fun b:Bool=>[(7,.d (.sl 1 (of.map fun n=>dI n))),(10,.ow 3 (out.map fun n=>dI n)),(13,.d (dI x)),(34,.d (Ek r)),(35,.d (dI r.length)),(36,.d (dI i)),(56,.d (dB b))]) (fun b=>b=decide (out.length=0∨out.getD (out.length-1) 0≠x)) ?_ fun b hb=>?_
     ·refine qT 2 rfl ?_;rw[aa];refine qU 1 rfl ?_;by_cases h0:out.length=0
      ·rw[beq_iff_eq.2 (show(out.length:Int)=0 by omega)];refine qU 10 rfl<|ae.nil ?_;exact⟨true,rfl,(aN (.inl h0)).symm⟩
      rw[beq_eq_false_iff_ne.2 (show(out.length:Int)≠0 by omega)];have g3:=JS (l:=out) (i:=out.length-1) (by omega);refine qU 4 rfl ?_;rw[aa];refine qU 1 rfl ?_;rw[aD (x:=(out.length:Int) -1) (by omega) (by omega)];refine ae.gI tok rfl rfl rfl rfl (show(0:Int)≤(out.length:Int) -1 by omega) (by rw[aa];omega) ?_;rw[show((out.length:Int) -1).toNat=out.length-1 by omega];refine ae.dE tok (dI (out.getD (out.length-1) 0)) rfl rfl rfl rfl g3 rfl ?_;refine qU 3 rfl<|ae.nil ?_;refine⟨out.getD (out.length-1) 0 != x,rfl,?_⟩;by_cases g:out.getD (out.length-1) 0=x
      ·rw[bne_eq_false_iff_eq.2 g,a5 (fun e=>e.elim h0 (fun e=>e g))]
      ·rw[bne_iff_ne.2 g,aN (.inr g)]
     ·show AW _ _ _ _ _ _ _ [(7,.d (.sl 1 (of.map fun n=>dI n))),(10,.ow 3 (out.map fun n=>dI n)),(13,.d (dI x)),(34,.d (Ek r)),(35,.d (dI r.length)),(36,.d (dI i)),(56,.d (dB b))];refine AW.cond rfl (fun h=>?_) fun h=>?_
      ·have hc:out.length=0∨out.getD (out.length-1) 0≠x:=by rw[show b=true from h]at hb;exact ao hb.symm
       refine qT 2 rfl<|ae.ku tok rfl rfl rfl rfl rfl ?_;refine ae.jw tok rfl rfl rfl rfl rfl rfl (by rw[aa];show(_+1)*8≤_;omega) (by rw[aa];show _+1≤_;omega) ?_;refine qU 1 rfl<|ae.nil<|qT 1 rfl ?_;rw[aD (x:=(i:Int)+1) (by omega) (by omega)];refine qU 1 rfl<|ae.nil ?_;exact⟨i+1,by rw[hs,ah hc,ca];rfl,hii,by omega⟩
      ·have hc: ¬(out.length=0∨out.getD (out.length-1) 0≠x):=by rw[show b=false from h]at hb;exact ar hb.symm
       refine AW.skip<|qT 1 rfl ?_;rw[aD (x:=(i:Int)+1) (by omega) (by omega)];refine qU 1 rfl<|ae.nil ?_;exact⟨i+1,by rw[hs,af hc];rfl,hii,by omega⟩
    have hii:i=r.length:=by have:=ar h;omega
    subst hii;refine AW.exit<|AW.seq<|AW.region<|ae.iu tok 10 rfl rfl ?_;exact qU 3 rfl<|qN rfl
theorem xE(v:List NQ)(l:Lkg)(a:Asm): ∀n,(qu l.joints n).length=(jx v l a n).length
 |0=>rfl
 |n+1=>by show(qu l.joints n++_).length=(jx v l a n++_).length;rw[av,av,xE v l a n,cx,GJ]
theorem DH{a:Asm}(A:H9 l a):Pure Tryz.prog 24 [l.D,a.D] (.tu [.sl 1 ((Co (qu l.joints l.joints.length) (nt (a.rt.map aA) (fb l a)) (nt (a.rt.map aA) (fb l a)).length).map fun n=>dI n),bd]):=by
 have G:=jz A.O;have hl:=CW A.O.V G;have hG:=G.l
 have hlt: ∀i,i<(nt (a.rt.map aA) (fb l a)).length→(nt (a.rt.map aA) (fb l a)).getD i 0<(fb l a).length:=fun i hi=>by rw[ad,ap hi];exact JV (a.rt.map aA) (cH (fb l a)) (fb l a).length _<|cg hi
 have h:=mO l a (r:=nt (a.rt.map aA) (fb l a)) (by omega) (fun _ i hi=>by
  rw[xE (a.rt.map aA) l a]
  exact hlt i hi) A.hl A.ha A.S.r2 A.nb (fun _=>BF A.S A.O A.hl A.hb)
 unfold Lk at h;rw[af (by rw[A.m];simp)]at h;exact h
theorem ES{a:Asm}(A:H9 l a):Pure Tryz.prog 23 [l.D,a.D] (.tu [dI (KP l a),bd]):=by have h:=lZ l a (r:=KP l a) A.hl A.ha A.S.r2 A.nb (fun _=>GA A.S A.O A.hl A.hb);unfold Ae at h;rw[af (by rw[A.m];simp)]at h;exact h
theorem C4{b:List (List RD)}(hbl:b.length≤1000000)(hbn: ∀i,Pure Tryz.prog 66 [dI rt.length,bo (b.getD i [])] (dI (bF rt.length (b.getD i [])))):
  Pure Tryz.prog 199 [uF rt,yT b] (dI (fE (fun i=>bF rt.length (b.getD i [])) (b.length-0) 0)):=by
 refine qJ 23 Tryz.func199 rfl fun B F0 w0=>?_;obtain⟨E,hE⟩: ∃E,fE (fun i=>bF rt.length (b.getD i [])) (b.length-0) 0=E:=⟨_,rfl⟩;rw[hE];refine qX 2 rfl<|qI<|qX 2 rfl ?_;rw[aa];refine qU 1 rfl<|ae.nil<|AW.block ?_;refine AW.aK [2,8,9,10] (fun i:Nat=>[(2,.bx [.sl 1 (rt.map bo)]),(8,.d (yT b)),(9,.d (dI b.length)),(10,.d (dI i))]) (fun i=>i≤b.length∧fE (fun i=>bF rt.length (b.getD i [])) (b.length-i) i=E) (fun i=>b.length-i) 0 rfl ⟨an _,hE⟩ fun i ⟨hi,hiE⟩=>?_
 ·show AW _ _ _ _ _ _ _ [(2,.bx [.sl 1 (rt.map bo)]),(8,.d (yT b)),(9,.d (dI b.length)),(10,.d (dI i))];refine qX 1 rfl<|qI<|AW.cond rfl (fun h=>?_) fun h=>?_
  ·have hii:i<b.length:=by have:=ao h;omega
   have g1:=getM bo (l:=b) (i:=i) hii;have cn:=hbn i;have hmiss:=fun h0:bF rt.length (b.getD i [])=0=>(cQ (f:=fun i=>bF rt.length (b.getD i [])) hii h0).symm.trans hiE;have hhit:=fun h0:bF rt.length (b.getD i [])≠0=>(ez (f:=fun i=>bF rt.length (b.getD i [])) hii h0).symm.trans hiE;refine AW.skip<|AW.seq<|AW.block<|AW.seq<|AW.region<|ae.idx tok (bo (b.getD i [])) rfl rfl rfl rfl (am i) g1 ?_;refine qU 2 rfl<|qK 3 rfl ?_;rw[aa];refine qU 1 rfl<|qM rfl cn<|qU 1 rfl<|qK 2 rfl<|ae.nil ?_;generalize bF rt.length (b.getD i [])=e at *;refine AW.cond rfl (fun h=>?_) fun h=>?_
   ·have he:e≠0:=by have:=bne_iff_ne.1 h;omega
    rw[←hhit he];exact qX 2 rfl<|qN rfl
   ·have he:e=0:=by have:=bne_eq_false_iff_eq.1 h;omega
    refine AW.skip<|qT 1 rfl ?_;rw[aD (x:=(i:Int)+1) (by omega) (by omega)];refine qU 1 rfl<|ae.nil ?_;exact⟨i+1,rfl,⟨hii,hmiss he⟩,by omega⟩
  have hii: ¬i<b.length:=by have:=ar h;omega
  rw[eC hii]at hiE;subst hiE;exact AW.exit<|qX 1 rfl<|qN rfl
theorem IX(h0:df rt=0)(r:List (List RD)):om rt r=fE (fun i=>bF rt.length (r.getD i [])) (r.length-0) 0:=by unfold om;rw[show(fun k=>kL rt [r.getD k []])=fun i=>bF rt.length (r.getD i [])from funext fun k=>Mc h0 _]
theorem Be{a:List (List (List RD))}(h0:df rt=0)(hal:a.length≤1000000)(har: ∀i,(a.getD i []).length≤1000000)(hbn: ∀i k,Pure Tryz.prog 66 [dI rt.length,bo ((a.getD i []).getD k [])] (dI (bF rt.length ((a.getD i []).getD k [])))):
  Pure Tryz.prog 177 [uF rt,vp a] (dI (E8 rt a)):=by
 refine qJ 52 Tryz.func177 rfl fun B F0 w0=>?_;unfold E8;obtain⟨E,hE⟩: ∃E,fE (Eh a) (a.length-0) 0=E:=⟨_,rfl⟩;obtain⟨G,hG⟩: ∃G,fE (fun i=>om rt (a.getD i [])) (a.length-0) 0=G:=⟨_,rfl⟩;rw[hE,hG];have hc0:bg a=(a.getD 0 []).length:=rfl;have hcl:=har 0;refine qX 2 rfl<|ae.nil ?_;refine AW.cut [1,2] (fun _:Unit=>[(1,.d (vp a)),(2,.bx [.sl 1 (rt.map bo)])]) (fun _=>(if a.length=0 then 0 else if 32<a.length∨32<bg a then 4 else if E≠0 then E else G)=if E≠0 then E else G) ?_ fun _ hr=>?_
 ·refine qX 2 rfl ?_;rw[aa];refine qU 1 rfl ?_;by_cases h1:32<a.length
  ·rw[aN (show(32:Int)<(a.length:Int) by omega),af (show ¬a.length=0 by omega),ah (.inl h1)];exact qU 12 rfl<|ae.nil<|AW.aH rfl<|qX 1 rfl<|qN rfl
  rw[a5 (show ¬(32:Int)<(a.length:Int) by omega)];refine qU 3 rfl ?_;rw[aa];refine qU 1 rfl ?_;by_cases h0:a.length=0
  ·rw[a5 (show ¬(0:Int)<(a.length:Int) by omega)];refine qU 8 rfl<|ae.nil<|AW.aC rfl<|AW.skip ?_;refine⟨(),rfl,?_⟩;have e1:E=0:=by rw[←hE,h0];rfl
   have e2:G=0:=by rw[←hG,h0];rfl
   rw[ah h0,e1,e2,af (by decide)]
  rw[aN (show(0:Int)<(a.length:Int) by omega)];have g0:=getM yT (l:=a) (i:=0) (by omega);refine qU 2 rfl<|ae.idx tok (yT (a.getD 0 [])) rfl rfl rfl rfl (Int.le_refl _) g0 ?_;refine qU 2 rfl ?_;rw[aa];refine qU 1 rfl ?_;by_cases h2:32<bg a
  ·rw[aN (show(32:Int)<((a.getD 0 []).length:Int) by omega),af h0,ah (.inr h2)];exact qU 2 rfl<|ae.nil<|AW.aH rfl<|qX 1 rfl<|qN rfl
  rw[a5 (show ¬(32:Int)<((a.getD 0 []).length:Int) by omega)];refine qU 2 rfl<|ae.nil<|AW.aC rfl<|AW.skip ?_;exact⟨(),rfl,by rw[af h0,af (fun g=>g.elim h1 h2)]⟩
 rw[hr]
 ·show AW _ _ _ _ _ _ _ [(1,.d (vp a)),(2,.bx [.sl 1 (rt.map bo)])];refine AW.seq<|qX 2 rfl ?_;rw[aa];refine qU 1 rfl<|ae.nil<|AW.block ?_;refine AW.aK [1,2,25,26,27] (fun i:Nat=>[(1,.d (vp a)),(2,.bx [.sl 1 (rt.map bo)]),(25,.d (vp a)),(26,.d (dI a.length)),(27,.d (dI i))]) (fun i=>i≤a.length∧fE (Eh a) (a.length-i) i=E) (fun i=>a.length-i) 0 rfl ⟨an _,hE⟩ fun i ⟨hi,hiE⟩=>?_
  ·show AW _ _ _ _ _ _ _ [(1,.d (vp a)),(2,.bx [.sl 1 (rt.map bo)]),(25,.d (vp a)),(26,.d (dI a.length)),(27,.d (dI i))];refine qX 1 rfl<|qI<|AW.cond rfl (fun h=>?_) fun h=>?_
   ·have hii:i<a.length:=by have:=ao h;omega
    have hg:=getM yT (l:=a) (i:=i) hii;have g0:=getM yT (l:=a) (i:=0) (by omega);have hri:=har i;have hmiss:=fun h0:Eh a i=0=>(cQ hii h0).symm.trans hiE;have hhit:=fun h0:Eh a i≠0=>(ez hii h0).symm.trans hiE;refine AW.skip<|AW.seq<|AW.block<|AW.seq<|AW.region<|ae.idx tok (yT (a.getD i [])) rfl rfl rfl rfl (am i) hg ?_;refine qU 2 rfl<|qK 2 rfl ?_;rw[aa];refine qU 1 rfl<|ae.idx tok (yT (a.getD 0 [])) rfl rfl rfl rfl (Int.le_refl _) g0 ?_;refine qU 2 rfl ?_;rw[aa];refine qU 1 rfl<|ae.nil<|AW.cond rfl (fun h=>?_) fun h=>?_
    ·have hne:(a.getD i []).length≠bg a:=by have:=bne_iff_ne.1 h;omega
     have e:Eh a i=10:=ah hne;have:=hhit (by rw[e];decide);rw[e]at this;subst this;rw[ah (by decide)];exact qX 1 rfl<|qN rfl
    ·have heq:(a.getD i []).length=bg a:=by have:=bne_eq_false_iff_eq.1 h;omega
     have e:Eh a i=0:=af (fun h=>h heq);refine AW.skip<|qT 1 rfl ?_;rw[aD (x:=(i:Int)+1) (by omega) (by omega)];refine qU 1 rfl<|ae.nil ?_;exact⟨i+1,rfl,⟨hii,hmiss e⟩,by omega⟩
   have hii: ¬i<a.length:=by have:=ar h;omega
   rw[eC hii]at hiE;subst hiE;rw[af (by decide)];refine AW.exit<|AW.seq<|qX 2 rfl ?_;rw[aa];refine qU 1 rfl<|ae.nil<|AW.block ?_;refine AW.aK [2,39,40,41] (fun i:Nat=>[(2,.bx [.sl 1 (rt.map bo)]),(39,.d (vp a)),(40,.d (dI a.length)),(41,.d (dI i))]) (fun i=>i≤a.length∧fE (fun i=>om rt (a.getD i [])) (a.length-i) i=G) (fun i=>a.length-i) 0 rfl ⟨an _,hG⟩ fun i ⟨hi,hiG⟩=>?_
   ·show AW _ _ _ _ _ _ _ [(2,.bx [.sl 1 (rt.map bo)]),(39,.d (vp a)),(40,.d (dI a.length)),(41,.d (dI i))];refine qX 1 rfl<|qI<|AW.cond rfl (fun h=>?_) fun h=>?_
    ·have hii:i<a.length:=by have:=ao h;omega
     have hg:=getM yT (l:=a) (i:=i) hii;have cl:=C4 (har i) (hbn i);rw[←IX h0]at cl;have hmiss:=fun h0:om rt (a.getD i [])=0=>(cQ (f:=fun i=>om rt (a.getD i [])) hii h0).symm.trans hiG;have hhit:=fun h0:om rt (a.getD i [])≠0=>(ez (f:=fun i=>om rt (a.getD i [])) hii h0).symm.trans hiG;refine AW.skip<|AW.seq<|AW.block<|AW.seq<|AW.region<|ae.idx tok (yT (a.getD i [])) rfl rfl rfl rfl (am i) hg ?_;refine qU 2 rfl<|qK 2 rfl<|qM rfl cl<|qU 1 rfl<|qK 2 rfl<|ae.nil ?_;generalize om rt (a.getD i [])=e at *;refine AW.cond rfl (fun h=>?_) fun h=>?_
     ·have he:e≠0:=by have:=bne_iff_ne.1 h;omega
      rw[←hhit he];exact qX 2 rfl<|qN rfl
     ·have he:e=0:=by have:=bne_eq_false_iff_eq.1 h;omega
      refine AW.skip<|qT 1 rfl ?_;rw[aD (x:=(i:Int)+1) (by omega) (by omega)];refine qU 1 rfl<|ae.nil ?_;exact⟨i+1,rfl,⟨hii,hmiss he⟩,by omega⟩
    have hii: ¬i<a.length:=by have:=ar h;omega
    rw[eC hii]at hiG;subst hiG;exact AW.exit<|qX 1 rfl<|qN rfl
theorem Bh{a:List (List (List RD))}(T:Pr m rt)(A:Mj m rt a):Pure Tryz.prog 137 [uF rt,vp a] (dI (Am rt a)):=by
 refine qJ 14 Tryz.func137 rfl fun B F0 w0=>?_;have hm:=T.m2;have cc:=nC rt T.w T.m1 T.l T.ll T.ok;have cw:=fun h0:df rt=0=>Be h0 A.l A.r (fun i k=>me rt.length ((a.getD i []).getD k []) (pq h0).1 (A.n i k).w (by omega) (A.n i k).l);unfold Am;refine qX 2 rfl<|qI<|qX 1 rfl<|qM rfl cc<|qU 1 rfl<|qK 2 rfl<|ae.nil ?_;generalize df rt=e at *;refine AW.cond rfl (fun h=>?_) fun h=>?_
 ·have he:e≠0:=by have:=bne_iff_ne.1 h;omega
  rw[ah he];exact qX 2 rfl<|qN rfl
 ·have he:e=0:=by have:=bne_eq_false_iff_eq.1 h;omega
  rw[af (fun g=>g he)];refine AW.skip<|qX 2 rfl<|qM rfl (cw he) ?_;exact qU 1 rfl<|qN rfl
theorem Gt(js:List bp)(i:Nat): ∀d,∃t,qu js (i+d)=qu js i++t
 |0=>⟨[],(dr _).symm⟩
 |d+1=>by
  obtain⟨t,h⟩:=Gt js i d
  exact⟨t++a' (Cp (js.getD (i+d) default)) ((i+d:Nat):Int),by
   show qu js (i+d)++_=_
   rw[h,List.append_assoc];rfl⟩
theorem Dp(js:List bp)(i:Nat):(qu js (i+1)).length=(qu js i).length+Cp (js.getD i default):=by show(qu js i++_).length=_;rw[av,cx]
theorem Gv(js:List bp){row:Nat}(h:i<N)(h1:(qu js i).length≤row)(h2:row<(qu js (i+1)).length):(qu js N).getD row 0=(i:Int):=by obtain⟨t,e⟩:=Gt js (i+1) (N-(i+1));rw[show i+1+(N-(i+1))=N by omega]at e;rw[e,ad,bv h2];rw[Dp]at h2;show((qu js i++a' _ (i:Int))[row]?).getD 0=_;rw[bi h1,List.getElem?_replicate,ah (by omega)];rfl
theorem I5(of:List Int){r s:List Nat}: ∀i,(∀k,k<i→r.getD k 0=s.getD k 0)→Co of r i=Co of s i
 |0,_=>rfl
 |i+1,h=>by show HF _ _ _=HF _ _ _;rw[I5 of i (fun k hk=>h k (by omega)),h i (by omega)]
theorem oM(of:List Int)(t:List Nat)(x:Nat):Co of (t++[x]) (t++[x]).length=HF of (Co of t t.length) x:=by rw[show(t++[x]).length=t.length+1 from av];show HF of (Co of (t++[x]) t.length) ((t++[x]).getD t.length 0)=_;rw[I5 of (s:=t) t.length (fun k hk=>by rw[ad,bv hk,ad])];rw[ad,bi (al _),d6];rfl
theorem v5{of out:List Int}{row:Nat}{i:Int}(h:of.getD row 0=i)(ho: ∀x∈out,x<i):HF of out row=out++[i]:=by
 unfold HF;rw[h];split
 ·rfl
 ·rename_i g;have g1:out.length≠0:=fun e=>g (.inl e);have g2:out.getD (out.length-1) 0=i:=Classical.byContradiction fun e=>g (.inr e);rw[ad,ap (by omega)]at g2;have:=ho _ (cg (show out.length-1<out.length by omega));have g2:out[out.length-1]'(by omega)=i:=g2;omega
theorem Ll{of out:List Int}{row:Nat}{i:Int}(h:of.getD row 0=i):HF of (out++[i]) row=out++[i]:=by unfold HF;rw[h,av];refine af fun g=>g.elim (di _) fun e=>e ?_;show(out++[i]).getD (out.length+1-1) 0=_;rw[Nat.add_sub_cancel,ad,bi (al _),d6];rfl
theorem Gl(js:List bp)(f:Nat→Nat): ∀i,∀x∈(mH js f i).map (fun n:Nat=>(n:Int)),x<i
 |i+1,x,h=>by
  have ih:=Gl js f i;unfold mH at h;split at h
  ·rw[ca]at h;rcases cv.1 h with h|h
   ·have:=ih x h;omega
   ·have:x=(i:Int):=cj.1 h;omega
  ·have:=ih x h;omega
theorem A4{v:List NQ}{T:cF}{js:List bp}(hk: ∀i,i<js.length→Cp (js.getD i default)=mf js i): ∀i,i≤js.length→gT js i=(qu js i).length ∧
  Co (qu js js.length) (kK v T (gT js i)) (kK v T (gT js i)).length=(mH js (fun i=>(aB v T (gT js i)).cols.length) i).map (fun n:Nat=>(n:Int))
 |0,_=>⟨rfl,rfl⟩
 |i+1,h=>by
  obtain⟨h1,h2⟩:=A4 (v:=v) (T:=T) hk i (by omega);have h3:=Dp js i;rw[hk i (by omega)]at h3;have hlt:=Gl js (fun i=>(aB v T (gT js i)).cols.length) i;have hs:mH js (fun i=>(aB v T (gT js i)).cols.length) (i+1)=if (aB v T (gT js (i+1))).cols.length<(aB v T (gT js i)).cols.length+mf js i then mH js (fun i=>(aB v T (gT js i)).cols.length) i++[i]else mH js (fun i=>(aB v T (gT js i)).cols.length) i:=rfl
  have hn:gT js (i+1)=gT js i+mf js i:=rfl;have g0:0<mf js i→(qu js js.length).getD (gT js i) 0=(i:Int):=fun _=>Gv js h (by omega) (by omega);have g1:1<mf js i→(qu js js.length).getD (gT js i+1) 0=(i:Int):=fun _=>Gv js h (by omega) (by omega);refine⟨by omega,?_⟩;rw[hs,hn];generalize mH js (fun i=>(aB v T (gT js i)).cols.length) i=rd at *;generalize gT js i=n at *;have ea:(rd++[i]).map (fun n:Nat=>(n:Int))=rd.map (fun n:Nat=>(n:Int))++[(i:Int)]:=ca;have hw:mf js i=1∨mf js i=2:=by unfold mf;split<;>simp
  rcases hw with w|w<;>rw[w]
  ·rcases nM v T n with⟨a,b⟩|⟨a,b⟩
   ·rw[a,b,af (by rw[av];exact dT _),h2]
   ·rw[a,b,ah (cJ _),oM,h2,v5 (g0 (by omega)) hlt,ea]
  ·rcases nM v T n with⟨a,b⟩|⟨a,b⟩<;>rcases nM v T (n+1)with⟨c,d⟩|⟨c,d⟩
   ·rw[show(aB v T (n+2)).cols=_ from c,show kK v T (n+2)=_ from d,a,b,af (by rw[av,av];exact dT _),h2]
   ·rw[show(aB v T (n+2)).cols=_ from c,show kK v T (n+2)=_ from d,a,b,ah (by rw[av];exact cJ _),oM,h2,v5 (g1 (by omega)) hlt,ea]
   ·rw[show(aB v T (n+2)).cols=_ from c,show kK v T (n+2)=_ from d,a,b,ah (by rw[av];exact cJ _),oM,h2,v5 (g0 (by omega)) hlt,ea]
   ·rw[show(aB v T (n+2)).cols=_ from c,show kK v T (n+2)=_ from d,a,b,ah (by show _<_+2;omega),oM,oM,h2,v5 (g0 (by omega)) hlt,Ll (g1 (by omega)),ea]
section
variable {a:Asm} (A:H9 l a)
include A
theorem Gz(h0:0<n)(hn:n≤(fb l a).length):H8 (a.rt.map aA) ((fb l a).take n)∧bg ((fb l a).take n)=bg (fb l a):=by
 have G:=jz A.O
 have hg: ∀i,i<n→((fb l a).take n).getD i []=(fb l a).getD i []:=fun i hi=>by rw[ad,cd,ah hi,ad]
 have hc:bg ((fb l a).take n)=bg (fb l a):=by unfold bg;rw[hg 0 h0]
 have hl:((fb l a).take n).length=n:=by rw[ax];omega
 have hG:=G.l;refine⟨⟨by omega,fun i hi=>?_,by rw[hc];exact G.c,fun i k=>?_⟩,hc⟩
 ·rw[hg i (by omega),hc];exact G.r i (by omega)
 ·by_cases hi:i<n
  ·rw[p6 hi];exact G.lt i k
  ·unfold a7;rw[jX (by omega)];exact cE _
theorem sC(hn:n≤(fb l a).length):Pure Tryz.prog 48 [l.D,a.D,dI n] (dI ((aB (a.rt.map aA) (cH (fb l a)) n).cols.length:Nat)):=by
 have G:=jz A.O;have hb:=A.O.G.lk.b8
 have h:=C1 (l:=l) (bs:=a.bodies) (md:=a.modes) hn (by omega) (by rw[←A.O.D];exact uS A.O A.hl) (r:=(aB (a.rt.map aA) (cH (fb l a)) n).cols.length) (fun h0 _=>by
  obtain⟨GT,hc⟩:=Gz A (eh h0) hn;have V:fC 300000 (a.rt.map aA):=A.O.V.mono (by decide) (by decide)
  obtain⟨r1,r2⟩:=GT.raw V (fun i k=>by
   by_cases hi:i<n
   ·rw[p6 hi];exact(DD A.O i k).2
   ·unfold a7
    rw[jX (by rw[ax];omega)];exact(tD (a.rt.map aA)).2)
  have cc:=Bh (V.s (P3 A.O)) r1;rw[r2,lv,ER]at cc;obtain⟨m,cr⟩:=DC A.S A.O A.hl A.hb (eh h0) hn;have h:=Bg cc cr;rw[←xc A.O.V G hn]at h
  exact h)
 rw[←A.O.D]at h;unfold I0 at h;split at h
 ·rename_i g
  have e:(aB (a.rt.map aA) (cH (fb l a)) n).cols.length=0:=by
   rcases g with g|g
   ·rw[g];rfl
   ·rcases Nat.eq_zero_or_pos n with h0|h0
    ·rw[h0];rfl
    obtain⟨GT,hc⟩:=Gz A h0 hn;rw[HH A.O.V G hn];have h1:=(vZ A.O.V.a GT).2;rw[hc,pV A.O (by omega)]at h1;omega
  rw[e];exact h
 ·exact h
theorem JE:(∀i,i<l.joints.length→Cp (l.joints.getD i default)=mf l.joints i)∧gT l.joints l.joints.length=(fb l a).length:=by
 have hk: ∀i,i<l.joints.length→Cp (l.joints.getD i default)=mf l.joints i:=fun i hi=>by
  unfold Cp mf;rcases (A.O.G.lk.j i hi).k with e|e
  ·rw[e,af (by decide),ah rfl]
  ·rw[e,ah rfl,af (by decide)]
 exact⟨hk,by rw[(A4 (v:=[]) (T:=[]) hk _ (al _)).1];exact xE (a.rt.map aA) l a _⟩
theorem OY(h:i≤l.joints.length):gT l.joints i≤(fb l a).length:=by
 rw[← (JE A).2]
 have key: ∀d,gT l.joints i≤gT l.joints (i+d):=fun d=>by
  induction d with
  |zero=>exact al _
  |succ d ih=>exact az ih (Nat.le_add_right _ _)
 have:=key (l.joints.length-i)
 rwa [show i+(l.joints.length-i)=l.joints.length by omega]at this
theorem sE:Pure Tryz.prog 25 [l.D,a.D] (dI (KP l a)):=by have h:=sC A (al _);rw[(Ac A.O.V (jz A.O)).2,A.O.D]at h;have h2:=C2 (by rw[←A.O.D];exact uS A.O A.hl) h;rw[A.O.D];exact h2
theorem vz:Pure Tryz.prog 26 [l.D,a.D] (dI (3*((l.bodies.length:Int) -1) -(KP l a:Nat))):=by have hr:=IZ A;have hb:=A.O.G.lk.b8;have h:=sE A;rw[A.O.D]at h ⊢;exact xi (by omega) (by omega) (by omega) h
theorem sD:Pure Tryz.prog 28 [l.D,a.D] (.sl 1 ((Co (qu l.joints l.joints.length) (nt (a.rt.map aA) (fb l a)) (nt (a.rt.map aA) (fb l a)).length).map fun n=>dI n)):=by
 obtain⟨hk,hn⟩:=JE A;have hG:=(jz A.O).l;have hj:=A.O.G.lk.j16;have h:=tO (l:=l) (bs:=a.bodies) (md:=a.modes) (v:=a.rt.map aA) (f:=fun i=>(aB (a.rt.map aA) (cH (fb l a)) (gT l.joints i)).cols.length) rfl (fun i=>?_) (by omega) (fun i hi=>by rw[←A.O.D];exact sC A (OY A hi))
 ·have h2:=(A4 (v:=a.rt.map aA) (T:=cH (fb l a)) hk _ (al _)).2;rw[hn]at h2;rw[A.O.D];unfold nt;rw[h2,List.map_map];exact h
 ·have h1:=(gS A.O.V.a (jB _) (mz (jz A.O).lt) (gT l.joints i)).cm;rw[gC]at h1;have h2:=(jz A.O).c;omega
end
theorem yJ(a:List Int)(ha:a.length≤1000000):Pure Tryz.prog 27 [.sl 1 (a.map fun n=>dI n),.sl 1 (a.map fun n=>dI n)] (dB true):=by
 refine qJ 26 Tryz.func27 rfl fun B F0 w0=>?_;refine qX 1 rfl<|qI<|qX 5 rfl ?_;rw[aa,bne_eq_false_iff_eq.2 rfl];refine ae.nil<|AW.aC rfl<|AW.skip<|AW.seq<|qX 1 rfl<|ae.nil ?_;refine AW.block<|AW.aK [0,1,5] (fun i:Nat=>[(0,.d (.sl 1 (a.map fun n=>dI n))),(1,.d (.sl 1 (a.map fun n=>dI n))),(5,.d (dI i))]) (fun i=>i≤a.length) (fun i=>a.length-i) 0 rfl (an _) fun i hi=>?_;refine AW.seq<|qX 4 rfl ?_;rw[aa];refine ae.nil<|AW.cond rfl (fun h=>?_) fun h=>?_
 ·have hin:i<a.length:=by have:=ao h;omega
  have g:=JS hin;refine AW.skip<|AW.seq<|AW.block<|AW.seq<|AW.draw aO 9 (by kernel_rfl) ?_;refine qP 2 rfl<|ai.idx tok (dI (a.getD i 0)) rfl rfl rfl rfl rfl (am i) g ?_;refine qP 3 rfl<|ai.idx tok (dI (a.getD i 0)) rfl rfl rfl rfl rfl (am i) g ?_;refine qP 2 rfl<|ai.nil ?_;rw[bne_eq_false_iff_eq.2 rfl];refine ae.nil<|AW.aC rfl<|AW.skip<|qT 2 rfl ?_;rw[aD (x:=(i:Int)+1) (by omega) (by omega)];refine qU 1 rfl<|ae.nil ?_;exact⟨i+1,rfl,hin,by omega⟩
 exact AW.exit<|qX 1 rfl<|qN rfl
theorem law24_Ranks_ok(l:Lkg)(a:Asm)(hl:l.ok K)(hK:K≤big)(ha:AsB a):Pure Tryz.prog 6 [l.D,a.D] (dB true):=by
 refine qJ 103 Tryz.func6 rfl fun B F0 w0=>?_;have cl:=xX l a hl hK ha;refine qX 3 rfl<|qI<|AW.seq<|AW.region<|qM rfl pa<|qU 4 rfl<|qM rfl cl<|qU 1 rfl<|ae.nil ?_;cases hL:rD l a with
 |true =>
  exact AW.aH rfl<|AW.seq<|AW.region<|qM rfl pa<|qU 1 rfl<|qN rfl
 |false =>
 refine AW.aC rfl ?_;have S:=CJ hL;have hl16:=S.lok hl;have ha16:=S.aok ha;have hnb:=S.nb;have c4:=A8 l a hl16 (by decide) ha16;by_cases hm:gl l a=0
 ·obtain⟨A, -⟩:=Pq hl ha (by rw[hL,hm];rfl);have c1:=ES A;have c2:=JU A;have c3:=DH A;have d1:=sE A;have d2:=vz A;have d3:=sD A;have hr:=CW A.O.V (jz A.O);have hx:=(jz A.O).l
  have cI:=yJ (Co (qu l.joints l.joints.length) (nt (a.rt.map aA) (fb l a)) (nt (a.rt.map aA) (fb l a)).length) (by
   have:=A5 (qu l.joints l.joints.length) (nt (a.rt.map aA) (fb l a)) (nt (a.rt.map aA) (fb l a)).length
   omega)
  rw[hm]at c4;generalize Co (qu l.joints l.joints.length) (nt (a.rt.map aA) (fb l a)) (nt (a.rt.map aA) (fb l a)).length=d at *;generalize (3*((l.bodies.length:Int) -1) -(KP l a:Nat))=f at *;generalize KP l a=r at *;clear A S cl hl ha hl16 ha16 hr hx hL hm hnb;obtain⟨ln,lb,js,lds⟩:=l;obtain⟨rt,bs,md⟩:=a;refine AW.skip<|qX 2 rfl<|qM rfl c1<|qU 5 rfl<|qK 2 rfl<|qM rfl c2<|qU 5 rfl<|qK 2 rfl<|qM rfl c3 ?_;refine qU 5 rfl<|qI<|qX 2 rfl<|qM rfl c4<|qU 1 rfl<|qK 2 rfl<|ae.nil<|AW.aC rfl<|AW.skip<|qX 1 rfl ?_;refine qR rfl rfl<|qU 2 rfl<|qR rfl rfl<|qU 3 rfl<|qR rfl rfl<|qU 5 rfl<|qM rfl d1<|qU 1 rfl ?_;rw[D8];refine qU 5 rfl<|qM rfl d2<|qU 1 rfl ?_;rw[D8];exact qU 5 rfl<|qM rfl d3<|qM rfl cI<|qU 2 rfl<|qN rfl
 ·have c1:=lZ l a (r:=0) hl16 ha16 S.r2 (by omega) (fun h=>aG h hm);have c2:=lC l a (r:=0) (by decide) hl16 ha16 S.r2 (by omega) (fun h=>aG h hm);have c3:=mO l a (r:=[]) (by decide) (fun h=>aG h hm) hl16 ha16 S.r2 (by omega) (fun h=>aG h hm);rw[show Ae l a 0= .tu [dI 0,tE (gl l a)]from ah hm]at c1;rw[show DS l a 0= .tu [dI 0,tE (gl l a)]from ah hm]at c2;rw[show Lk l a []= .tu [.sl 1 [],tE (gl l a)]from ah hm]at c3;have n1:=D6 (gl l a);generalize gl l a=z at *;clear S cl hl ha hl16 ha16 hL hnb;obtain⟨ln,lb,js,lds⟩:=l;obtain⟨rt,bs,md⟩:=a;refine AW.skip<|qX 2 rfl<|qM rfl c1<|qU 5 rfl<|qK 2 rfl<|qM rfl c2<|qU 5 rfl<|qK 2 rfl<|qM rfl c3 ?_;refine qU 5 rfl<|qI<|qX 2 rfl<|qM rfl c4<|qU 1 rfl<|qK 2 rfl ?_;rw[bne_iff_ne.2 (show(z:Int)≠0 by omega)];refine ae.nil<|AW.aH rfl<|qX 13 rfl<|qM rfl n1<|qU 2 rfl ?_;rw[D8];refine qU 3 rfl<|qM rfl n1<|qU 2 rfl ?_;rw[D8];refine qU 3 rfl<|qM rfl n1<|qU 2 rfl ?_;rw[D8];exact qU 2 rfl<|qN rfl
end Lift

