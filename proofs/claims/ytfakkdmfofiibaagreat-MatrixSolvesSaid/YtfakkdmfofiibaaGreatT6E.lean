/- Parts of the proof, one behind the other: the logic, the contracts of the functions that the statement reaches. -/
import Derived.Test.YtfakkdmfofiibaaGreatT6D
set_option linter.unusedVariables false
set_option linter.unusedSimpArgs false
namespace Lift
abbrev a9:=List (List NQ)
structure lM where
 rows:a9
 cols:List Nat
 sg:Int
 fj:NQ
def gf(g:Nat→Bool):Nat→Nat→Nat
 | 0,i=>i
 | m+1,i=>if g i=true then i else gf g m (i+1)
theorem lA{g:Nat→Bool}{n i:Nat}(h:i<n)(h0:g i=false):gf g (n-i) i=gf g (n-(i+1)) (i+1):=by
 rw[show n-i=(n-(i+1))+1 by omega,gf,if_neg (by rw[h0];simp)]
theorem np{g:Nat→Bool}{n i:Nat}(h:i<n)(h0:g i=true):gf g (n-i) i=i:=by
 rw[show n-i=(n-(i+1))+1 by omega,gf,if_pos h0]
theorem nq{g:Nat→Bool}{n i:Nat}(h: ¬i<n):gf g (n-i) i=i:=by rw[show n-i=0 by omega,gf]
theorem lC{g:Nat→Bool}: ∀{m i:Nat},i≤gf g m i∧gf g m i≤i+m∧(∀k,i≤k→k<gf g m i→g k=false)∧(gf g m i<i+m→g (gf g m i)=true)
 | 0,i=>⟨ao _,ao _,fun k h1 h2=>by simp only[gf] at h2;omega,fun h=>by simp only[gf] at h;omega⟩
 | m+1,i=>by
   simp only[gf];split
   · rename_i h;exact⟨ao _,by omega,fun k h1 h2=>by omega,fun _=>h⟩
   · rename_i h;obtain ⟨h1,h2,h3,h4⟩:=lC (g:=g) (m:=m) (i:=i+1);refine⟨by omega,by omega,fun k k1 k2=>?_,fun k=>h4 (by omega)⟩;by_cases e:k=i
     · subst e;simpa using h
     · exact h3 k (by omega) k2
def aW(a:a9)(i k:Nat):NQ:=(a.getD i []).getD k []
def yH(v:List NQ)(a:a9)(c j:Nat):Bool:=decide (jI v (aW a j c)≠0)
def yU(b:a9)(r t:Nat):a9:=(b.set t (b.getD r [])).set r (b.getD t [])
def cu(v:List NQ)(e:a9)(r c:Nat):Nat→a9
 | 0=>e
 | i+1=>if i≠r∧jI v (aW (cu v e r c i) i c)≠0 then (cu v e r c i).set i (eL v ((cu v e r c i).getD i []) ((cu v e r c i).getD r []) (aW (cu v e r c i) i c)) else cu v e r c i
def atR(v:List NQ)(s:lM)(c:Nat):Nat:=gf (yH v s.rows c) (s.rows.length-s.cols.length) s.cols.length
def bR(v:List NQ)(s:lM)(c:Nat):a9:=if atR v s c=s.cols.length then s.rows else yU s.rows s.cols.length (atR v s c)
def pR(v:List NQ)(s:lM)(c:Nat):NQ:=aW (bR v s c) s.cols.length c
def x5(v:List NQ)(r:List NQ)(p:NQ):List NQ:=r.map (fun x=>mG v x p)
def eR(v:List NQ)(s:lM)(c:Nat):a9:=(bR v s c).set s.cols.length (x5 v ((bR v s c).getD s.cols.length []) (pR v s c))
def dZ(v:List NQ)(s:lM)(c:Nat):lM :=
 if atR v s c<s.rows.length then ⟨cu v (eR v s c) s.cols.length c (eR v s c).length,s.cols++[c],if atR v s c=s.cols.length then s.sg else -s.sg,eg v s.fj (pR v s c)⟩ else s
def aJ(v:List NQ)(a:a9):Nat→lM
 | 0=>⟨a,[],1,[1]⟩
 | c+1=>dZ v (aJ v a c) c
structure mh (v:List NQ) (s:lM) (c:Nat):Prop where
 sg: ∀j,s.cols.length≤j→j<s.rows.length→uK v (aW s.rows j c)
 fj:atR v s c<s.rows.length→uM v s.fj (pR v s c)
 div:atR v s c<s.rows.length→ ∀k,k<((bR v s c).getD s.cols.length []).length→Ez v (aW (bR v s c) s.cols.length k) (pR v s c)
 sg2:atR v s c<s.rows.length→ ∀i,i<s.rows.length→i≠s.cols.length→uK v (aW (eR v s c) i c)
 take:atR v s c<s.rows.length→ ∀i,i<s.rows.length→i≠s.cols.length→jI v (aW (eR v s c) i c)≠0→Bf v ((eR v s c).getD i []) ((eR v s c).getD s.cols.length []) (aW (eR v s c) i c)
def bm(N:Nat)(a:a9):Prop:= ∀j,j<a.length→(a.getD j []).length=N
def kd(l:Nat)(a:a9):Prop:= ∀j k,aC l (aW a j k)
theorem eH(a:a9)(i j:Nat)(r:List NQ):(a.set i r).getD j []=if j=i∧i<a.length then r else a.getD j []:=by
 rw[aG,List.getElem?_set,aG];by_cases e:i=j
 · subst e;by_cases h:i<a.length
   · rw[if_pos rfl,if_pos h,if_pos ⟨rfl,h⟩];rfl
   · rw[if_pos rfl,if_neg h,if_neg (fun e=>h e.2),List.getElem?_eq_none (by omega)]
 · rw[if_neg e,if_neg (fun h=>e h.1.symm)]
theorem fg{a:a9}{i:Nat}(h:a.length≤i):a.getD i []=[]:=by rw[aG,List.getElem?_eq_none h];rfl
theorem kC{r:List NQ}{i:Nat}(h:r.length≤i):r.getD i []=[]:=by rw[aG,List.getElem?_eq_none h];rfl
theorem bm.set{N:Nat}{a:a9}(h:bm N a){r:List NQ}(hr:r.length=N)(i:Nat):bm N (a.set i r):=fun j hj=>by
 rw[eH];split
 · exact hr
 · exact h j (by simpa using hj)
theorem kd.set{l:Nat}{a:a9}(h:kd l a){r:List NQ}(hr: ∀k,aC l (r.getD k []))(i:Nat):kd l (a.set i r):=fun j k=>by
 unfold aW;rw[eH];split
 · exact hr k
 · exact h j k
theorem kd.row{l:Nat}{a:a9}(h:kd l a)(i:Nat): ∀k,aC l ((a.getD i []).getD k []):=h i
theorem BZ(b:a9)(r t:Nat):(yU b r t).length=b.length:=by unfold yU;rw[List.length_set,List.length_set]
theorem yT{N:Nat}{b:a9}(h:bm N b){r t:Nat}(hr:r<b.length)(ht:t<b.length):bm N (yU b r t):=(h.set (h r hr) t).set (h t ht) r
theorem DT{l:Nat}{b:a9}(h:kd l b)(r t:Nat):kd l (yU b r t):=(h.set (h r) t).set (h t) r
theorem qe(v:List NQ)(r:List NQ)(p:NQ):(x5 v r p).length=r.length:=ae ..
theorem qf(v:List NQ)(r:List NQ)(p:NQ){k:Nat}(h:k<r.length):(x5 v r p).getD k []=mG v (r.getD k []) p:=by
 unfold x5;rw[aG,List.getElem?_map,aG,bg h];rfl
theorem Ih{v:List NQ}(V:lL v){r:List NQ}{p:NQ}(hr: ∀k,aC v.length (r.getD k []))(hp:aC v.length p)(k:Nat):aC v.length ((x5 v r p).getD k []):=by
 by_cases h:k<r.length
 · rw[qf v r p h];exact tI V (hr k) hp
 · rw[kC (by rw[qe];omega)];exact bn _
theorem yS{v:List NQ}(V:lL v){xs ys:List NQ}{c:NQ}(hx: ∀k,aC v.length (xs.getD k []))(hy: ∀k,aC v.length (ys.getD k []))(hc:aC v.length c)(k:Nat):aC v.length ((eL v xs ys c).getD k []):=by
 by_cases h:k<xs.length
 · rw[iu v xs ys c h];exact Gc (hx k) (jy V hc (hy k))
 · rw[kC (by rw[gA];omega)];exact bn _
theorem j9(v:List NQ)(e:a9)(r c:Nat): ∀i,(cu v e r c i).length=e.length
 | 0=>rfl
 | i+1=>by
   unfold cu;split
   · rw[List.length_set];exact j9 v e r c i
   · exact j9 v e r c i
theorem nY{N:Nat}{v:List NQ}{e:a9}{r c:Nat}(h:bm N e): ∀i,i≤e.length→bm N (cu v e r c i)
 | 0,_=>h
 | i+1,hi=>by
   have ih:=nY (v:=v) (r:=r) (c:=c) h i (by omega);unfold cu;split
   · exact ih.set (by rw[gA];exact ih i (by rw[j9];omega)) i
   · exact ih
theorem tJ{v:List NQ}(V:lL v){e:a9}{r c:Nat}(h:kd v.length e): ∀i,kd v.length (cu v e r c i)
 | 0=>h
 | i+1=>by
   have ih:=tJ V (r:=r) (c:=c) h i;unfold cu;split
   · exact ih.set (yS V (ih i) (ih r) (ih i c)) i
   · exact ih
theorem fG(v:List NQ)(e:a9)(r c:Nat): ∀i,(∀j,i≤j∨j=r→(cu v e r c i).getD j []=e.getD j [])
 | 0,j,_=>rfl
 | i+1,j,hj=>by
   have ih:=fG v e r c i j (by omega);unfold cu;split
   · rename_i h;rw[eH,if_neg (fun g=>by rcases hj with hj | hj<;>omega)];exact ih
   · exact ih
theorem tK(v:List NQ)(e:a9)(r c:Nat)(i:Nat)(k:Nat):aW (cu v e r c i) i k=aW e i k:=by unfold aW;rw[fG v e r c i i (.inl (ao _))]
structure vT (v:List NQ) (m N c:Nat) (s:lM):Prop where
 len:s.rows.length=m
 rect:bm N s.rows
 lt:kd v.length s.rows
 cl:s.cols.length≤c
 cm:s.cols.length≤m
 fj:aC v.length s.fj
 sg:s.sg=1∨s.sg= -1
theorem jf(v:List NQ)(s:lM)(c:Nat)(h:s.cols.length≤s.rows.length):s.cols.length≤atR v s c∧atR v s c≤s.rows.length∧(∀k,s.cols.length≤k→k<atR v s c→jI v (aW s.rows k c)=0)∧(atR v s c<s.rows.length→jI v (aW s.rows (atR v s c) c)≠0):=by
 obtain ⟨h1,h2,h3,h4⟩:=lC (g:=yH v s.rows c) (m:=s.rows.length-s.cols.length) (i:=s.cols.length);refine⟨h1,by unfold atR;omega,fun k k1 k2=>?_,fun h=>?_⟩
 · have:=h3 k k1 k2;unfold yH at this;exact Classical.byContradiction fun g=>by rw[aV g] at this;cases this
 · exact ar (h4 (by unfold atR at h;omega))
theorem vQ{v:List NQ}{m N c k:Nat}{s:lM}(R:vT v m N k s)(h:atR v s c<s.rows.length):(bR v s c).length=m∧bm N (bR v s c)∧kd v.length (bR v s c):=by
 have hl:=R.len;have:=(jf v s c (by have:=R.cm;omega)).1;unfold bR;split
 · exact⟨R.len,R.rect,R.lt⟩
 · exact⟨by rw[BZ];exact R.len,yT R.rect (by omega) h,DT R.lt _ _⟩
theorem Ak{v:List NQ}(V:lL v){m N c k:Nat}{s:lM}(R:vT v m N k s)(h:atR v s c<s.rows.length):(eR v s c).length=m∧bm N (eR v s c)∧kd v.length (eR v s c):=by
 obtain ⟨h1,h2,h3⟩:=vQ (c:=c) R h;have hl:=R.len;have:=(jf v s c (by have:=R.cm;omega)).1;unfold eR;exact⟨by rw[List.length_set];exact h1,h2.set (by rw[qe];exact h2 _ (by omega)) _,h3.set (Ih V (h3 _) (h3 _ _)) _⟩
theorem Gf{v:List NQ}(V:lL v){m N c:Nat}{s:lM}(R:vT v m N c s):vT v m N (c+1) (dZ v s c):=by
 have hl:=R.len;have hc:=R.cl;unfold dZ;split
 · rename_i h;obtain ⟨e1,e2,e3⟩:=Ak V (c:=c) R h;have ha:=(jf v s c (by have:=R.cm;omega)).1;refine⟨by rw[j9];exact e1,nY e2 _ (ao _),tJ V e3 _,?_,?_,jy V R.fj ((vQ R h).2.2 _ _),?_⟩
   · show (s.cols++[c]).length≤c+1;rw[List.length_append];show s.cols.length+1≤_;omega
   · show (s.cols++[c]).length≤m;rw[List.length_append];show s.cols.length+1≤_;omega
   · rcases R.sg with h1 | h1<;>(show (if _ then s.sg else -s.sg)=1∨_= -1;split<;>simp[h1])
 · exact⟨R.len,R.rect,R.lt,by omega,R.cm,R.fj,R.sg⟩
theorem gR{v:List NQ}(V:lL v){a:a9}{N:Nat}(hr:bm N a)(hl:kd v.length a): ∀c,vT v a.length N c (aJ v a c)
 | 0=>⟨rfl,hr,hl,ao _,Nat.zero_le _,gl _ _,.inl rfl⟩
 | c+1=>Gf V (gR V hr hl c)
theorem xK(v:List NQ): ∀c,aJ v [] c=⟨[],[],1,[1]⟩
 | 0=>rfl
 | c+1=>by
   show dZ v (aJ v [] c) c=_;rw[xK v c];unfold dZ;exact if_neg (Nat.not_lt_zero _)
end Lift
namespace Lift
def vM{v:List NQ}(F:FV v)(a:a9):Mk F.K:=fun i k=>F.val (aW a i k)
theorem xl(v:List NQ)(e:a9)(r c:Nat): ∀n i,i<n→n≤e.length→(cu v e r c n).getD i []=if i≠r∧jI v (aW e i c)≠0 then eL v (e.getD i []) (e.getD r []) (aW e i c) else e.getD i []
 | 0,i,hi,_=>absurd hi (Nat.not_lt_zero i)
 | n+1,i,hi,hn=>by
   by_cases e1:i=n
   · subst e1;unfold cu;rw[tK];split
     · rw[eH,if_pos ⟨rfl,by rw[j9];omega⟩,fG v e r c i i (.inl (ao _)),fG v e r c i r (.inr rfl)]
     · exact fG v e r c i i (.inl (ao _))
   · have ih:=xl v e r c n i (by omega) (by omega);rw[← ih]
     conv=>lhs;unfold cu
     split
     · rw[eH,if_neg (fun h=>e1 h.1)]
     · rfl
theorem yw{v:List NQ}{s:lM}{c i:Nat}(h1:s.cols.length≤atR v s c)(h:atR v s c<s.rows.length)(hi:i<s.rows.length):(bR v s c).getD i []=s.rows.getD (sw s.cols.length (atR v s c) i) []:=by
 unfold bR;split
 · rename_i e;rw[e];unfold sw;by_cases g:i=s.cols.length
   · rw[if_pos g,g]
   · rw[if_neg g,if_neg g]
 · unfold yU sw;rw[eH,eH];by_cases g:i=s.cols.length
   · rw[if_pos ⟨g,by rw[List.length_set];omega⟩,if_pos g]
   · rw[if_neg (fun h=>g h.1),if_neg g];by_cases g2:i=atR v s c
     · rw[if_pos ⟨g2,h⟩,if_pos g2]
     · rw[if_neg (fun h=>g2 h.1),if_neg g2]
theorem DY{v:List NQ}(V:lL v)(F:FV v){m N c:Nat}{s:lM}(R:vT v m N c s)(hc:c<N)(h:atR v s c<s.rows.length):
  vM F s.rows (atR v s c) c≠0∧ ∀i k,i<m→k<N→vM F (cu v (eR v s c) s.cols.length c (eR v s c).length) i k=if i=s.cols.length then vM F s.rows (atR v s c) k*F.K.inv (vM F s.rows (atR v s c) c) else vM F s.rows (sw s.cols.length (atR v s c) i) k-vM F s.rows (sw s.cols.length (atR v s c) i) c*(vM F s.rows (atR v s c) k*F.K.inv (vM F s.rows (atR v s c) c)):=by
 have hl:=R.len;obtain ⟨a1,a2,a3,a4⟩:=jf v s c (by have:=R.cm;omega);have hz:=a4 h;obtain ⟨b1,b2,b3⟩:=vQ (c:=c) R h;obtain ⟨e1,e2,e3⟩:=Ak V (c:=c) R h;have hrm:s.cols.length<m:=by omega
 have eB: ∀i k,i<m→aW (bR v s c) i k=aW s.rows (sw s.cols.length (atR v s c) i) k:=fun i k hi=>by
  unfold aW;rw[yw a1 h (by omega)]
 have hp:pR v s c=aW s.rows (atR v s c) c:=by
  unfold pR;rw[eB _ _ hrm,DR]
 have hpz:jI v (pR v s c)≠0:=by rw[hp];exact hz
 have eE: ∀i k,i<m→k<N→aW (eR v s c) i k=if i=s.cols.length then mG v (aW s.rows (atR v s c) k) (aW s.rows (atR v s c) c) else aW s.rows (sw s.cols.length (atR v s c) i) k:=fun i k hi hk=>by
  unfold aW eR;rw[eH];by_cases e:i=s.cols.length
  · rw[if_pos ⟨e,by omega⟩,if_pos e,qf _ _ _ (by rw[b2 _ (by omega)];exact hk),hp,yw a1 h (by omega),DR];rfl
  · rw[if_neg (fun h=>e h.1),if_neg e,yw a1 h (by omega)]
 have ltR:=R.lt
 have vE: ∀i k,i<m→k<N→F.val (aW (eR v s c) i k)=if i=s.cols.length then vM F s.rows (atR v s c) k*F.K.inv (vM F s.rows (atR v s c) c) else vM F s.rows (sw s.cols.length (atR v s c) i) k:=fun i k hi hk=>by
  rw[eE i k hi hk];by_cases e:i=s.cols.length
  · rw[if_pos e,if_pos e,F.div (ltR _ _) (ltR _ _) hz];rfl
  · rw[if_neg e,if_neg e];rfl
 refine⟨fun e=>hz ((F.sg (ltR _ _)).2 e),fun i k hi hk=>?_⟩;have hd:=xl v (eR v s c) s.cols.length c (eR v s c).length i (by omega) (ao _);show F.val (((cu v (eR v s c) s.cols.length c (eR v s c).length).getD i []).getD k [])=_;rw[hd];by_cases e:i=s.cols.length
 · rw[if_neg (fun h=>h.1 e),if_pos e];have:=vE i k hi hk;rw[if_pos e] at this;exact this
 · rw[if_neg e];have v1:=vE i k hi hk;have v2:=vE i c hi hc;have v3:=vE s.cols.length k hrm hk;rw[if_neg e] at v1 v2;rw[if_pos rfl] at v3;by_cases g:jI v (aW (eR v s c) i c)=0
   · rw[if_neg (fun h=>h.2 g)];have z:=(F.sg (e3 i c)).1 g;rw[v2] at z;rw[z,Rg.zero_mul];show F.val (aW (eR v s c) i k)=_;rw[v1];exact(Rg.jn [vM F s.rows (sw s.cols.length (atR v s c) i) k] (X0-0) X0 rfl).symm
   · rw[if_pos ⟨e,g⟩,iu v _ _ _ (by rw[e2 i (by omega)];exact hk)];show F.val (n6 (aW (eR v s c) i k) (eg v (aW (eR v s c) i c) (aW (eR v s c) s.cols.length k)))=_;rw[F.sub (e3 i k) (jy V (e3 i c) (e3 _ k)),F.mul (e3 i c) (e3 _ k)];show F.val (aW (eR v s c) i k) -F.val (aW (eR v s c) i c)*F.val (aW (eR v s c) s.cols.length k)=_;rw[v1,v2,v3]
theorem bm.take{N:Nat}{a:a9}(h:bm N a)(n:Nat):bm N (a.take n):=fun j hj=>by
 rw[aQ] at hj;rw[aG,List.getElem?_take,if_pos (by omega),← aG];exact h j (by omega)
theorem Cv{a:a9}{n j:Nat}(hj:j<n):(a.take n).getD j []=a.getD j []:=by
 rw[aG,List.getElem?_take,if_pos hj,← aG]
theorem E9{a:a9}{n j:Nat}(hj:j<n)(k:Nat):aW (a.take n) j k=aW a j k:=by
 unfold aW;rw[Cv hj]
theorem kd.take{l:Nat}{a:a9}(h:kd l a)(n:Nat):kd l (a.take n):=fun j k=>by
 by_cases hj:j<n
 · rw[E9 hj];exact h j k
 · unfold aW;rw[fg (by rw[aQ];omega)];exact bn l
end Lift
namespace Lift
open Go
open Go.RowKit (Below)
section
variable {P:Program} {T:Ty} {B:Nat} {F0:Nat→Prop} {w0:cL} {n:Nat} {σ:St} {R:List LR} {ops:Array Oper}
def jb(j k i:Nat)(o:Oper):Oper:=match Nat.beq i k with
 | true=>addEdge j i o
 | false=>o
def dH(ops:Array Oper)(x:Nat×Nat):Array Oper:=(ops.toList.zipIdx.map fun y=>jb x.1 x.2 y.2 y.1).toArray
theorem kx(ops:Array Oper)(j k i:Nat):(dH ops (j,k))[i]?=(ops[i]?).map (jb j k i):=by
 unfold dH;rw[List.getElem?_toArray,List.getElem?_map,List.getElem?_zipIdx];simp;cases ops[i]?<;>rfl
theorem p9(ops:Array Oper)(x:Nat×Nat):(dH ops x).size=ops.size:=by simp[dH]
theorem Aj(j k i:Nat)(o:Oper):(jb j k i o).op=o.op∧(jb j k i o).dst=o.dst∧(jb j k i o).guard=o.guard:=by
 unfold jb;split
 · exact pv j i o
 · exact⟨rfl,rfl,rfl⟩
theorem vz(j k i:Nat)(o:Oper)(ρ:Operand→Value):execOp ρ (jb j k i o)=execOp ρ o:=by
 unfold jb;split
 · exact mg j i o ρ
 · rfl
theorem E'{j k i:Nat}(h:i≠k)(o:Oper):jb j k i o=o:=by
 unfold jb;cases hb:Nat.beq i k with
 | true=>exact absurd (Nat.eq_of_beq_eq_true hb) h
 | false=>rfl
theorem sK{j k i:Nat}{o:Oper}{e:Edge}:(e∈o.after→e∈(jb j k i o).after)∧(e∈(jb j k i o).after→e∈o.after∨e.on=j):=by
 unfold jb addEdge;split
 · split
   · exact⟨id,.inl⟩
   · refine⟨fun h=>by simp[h],fun h=>?_⟩;simp at h;rcases h with h | rfl
     · exact .inl h
     · exact .inr rfl
 · exact⟨id,.inl⟩
variable {Q:Exit→Act→World→Prop}
theorem pB(j k i:Nat){K:Act→World→Prop}{a:Act}{w:World}(h:wpOp P (dH ops (j,k)) Q i K a w):wpOp P ops Q i K a w:=by
 unfold wpOp at *;rw[kx] at h;cases ho:ops[i]? with
 | none=>rw[ho] at h;exact h
 | some o =>
   rw[ho] at h;simp only[Option.map_some] at h ⊢;obtain ⟨e1,e2,e3⟩:=Aj j k i o
   have hy: ∀g,yielded (dH ops (j,k)) a.tmps g=yielded ops a.tmps g:=fun g=>by
    unfold yielded;rw[kx];cases ops[g]? with
    | none=>rfl
    | some og=>simp only[Option.map_some,Option.bind_some,(Aj j k g og).2.1]
   have hw:Region.wanted (jb j k i o) (yielded (dH ops (j,k)) a.tmps)=Region.wanted o (yielded ops a.tmps):=by
    unfold Region.wanted;rw[e3];split
    · rfl
    · rw[hy]
   rw[hw,e2] at h
   have hwp:(jb j k i o).wp P a w K Q→o.wp P a w K Q:=fun h=>by
    unfold Oper.wp at *;rw[vz] at h;generalize (execOp a.eval o).run P w=r at *;cases r with
    | ok n w'=>cases n<;>simp only[Oper.upon,e2] at h ⊢ <;>exact h
    | halt x w'=>cases x<;>simp only[Oper.upon] at h ⊢ <;>exact h
   have has:(jb j k i o).asks P a w→o.asks P a w:=fun h=>by
    unfold Oper.asks at *;rw[vz] at h;exact h
   split
   · rename_i hc;rw[if_pos hc] at h;rcases h with h | ⟨h1,h2⟩
     · exact .inl (hwp h)
     · exact .inr ⟨has h1,h2⟩
   · rename_i hc;rw[if_neg hc] at h;exact h
def xD:Op→Bool
 | .move _=>true
 | .extract _ _=>true
 | _=>false
theorem CV{o:Oper}(hs:xD o.op=true){a:Act}{w:World}{K:Act→World→Prop}(hpan: ∀c a w,Q (.panic c) a w→False)(h:o.wp P a w K Q): ∃v,(∀w',(execOp a.eval o).run P w'= .ok (.value v) w')∧K (a.put o.dst v) w:=by
 unfold Oper.wp at h;obtain ⟨dst,op,ty,pos,after,guard⟩:=o;simp only[] at hs;cases op<;>simp only[xD] at hs<;>try (cases hs;done)
 · rename_i x;refine⟨a.eval x,fun w'=>by simp[execOp],?_⟩;simpa[execOp,Oper.upon] using h
 · rename_i x ix;cases hx:a.eval x<;>try (exfalso;simp[execOp,Instr.extract,hx,Oper.upon] at h;done)
   rename_i vs;cases hv:vs[ix]? with
   | none=>exfalso;simp[execOp,Instr.extract,hx,hv,Oper.upon] at h
   | some v=>exact⟨v,fun w'=>by simp[execOp,Instr.extract,hx,hv],by simpa[execOp,Instr.extract,hx,hv,Oper.upon] using h⟩
def Fa(ops:Array Oper)(j k:Nat):Bool:=match ops[j]?,ops[k]? with
 | some oj,some ok=>xD oj.op&&oj.guard.isNone&&xb ops&& !Nat.beq j k &&
   (oj.after.toList.all fun e=> !Region.binds .any e||ok.after.toList.any fun f=>Region.binds .any f&&Nat.beq f.on e.on) &&
   ((List.range ops.size).all fun i=>Nat.beq i j||(oj.after.toList.any fun e=>Region.binds .any e&&Nat.beq e.on i)||match ops[i]? with
     | some o=>(o.after.toList.any fun e=>Region.binds .any e&&Nat.beq e.on j)||oj.apart ops o
     | none=>true)
 | _,_=>false
theorem AD{j k:Nat}(hB:Fa ops j k=true)(hpan: ∀c a w,Q (.panic c) a w→False)(hout:LetsOut Q→False): ∀(f:Nat) (L:Array Bool) (a:Act) (w:World),L.size=ops.size →
  wpAny P .any (dH ops (j,k)) Q f L a w→wpAny P .any ops Q f L a w:=by
 unfold Fa at hB;split at hB;rotate_left
 · cases hB
 rename_i oj ok hoj hok;simp only[Bool.and_eq_true,List.all_eq_true,Bool.not_eq_true'] at hB;obtain ⟨⟨⟨⟨⟨hst,hg⟩,hsel⟩,hjk⟩,haf⟩,hap⟩:=hB;have hjk:=Nat.ne_of_beq_eq_false hjk;have hgn:oj.guard=none:=by simpa using hg
 have hjl:j<ops.size:=(Array.getElem?_eq_some_iff.1 hoj).1
 have hdich: ∀L:Array Bool,L.size=ops.size→L.getD j true=false∨L.getD j false=true:=fun L hL=>by
  simp only[Array.getD_eq_getD_getElem?];rw[Array.getElem?_eq_getElem (by omega)];simp only[Option.getD_some];cases L[j]'(by omega)<;>simp
 have r1: ∀(L:Array Bool) i,i∈Region.ready .any (dH ops (j,k)) L→i∈Region.ready .any ops L:=fun L i hi=>by
  rw[mem_ready] at hi ⊢;obtain ⟨h1,o,ho,h2⟩:=hi;rw[kx] at ho;cases hx:ops[i]? with
  | none=>rw[hx] at ho;cases ho
  | some o' =>
    rw[hx] at ho;simp at ho;subst ho;exact⟨h1,o',rfl,fun e he hb=>h2 e (sK.1 he) hb⟩
 have r2: ∀(L:Array Bool) i,i∈Region.ready .any ops L→(i≠k∨L.getD j false=true)→i∈Region.ready .any (dH ops (j,k)) L:=fun L i hi hc=>by
  rw[mem_ready] at hi ⊢;obtain ⟨h1,o,ho,h2⟩:=hi;refine⟨h1,jb j k i o,by rw[kx,ho];rfl,fun e he hb=>?_⟩;rcases hc with hc | hc
  · rw[E' hc] at he;exact h2 e he hb
  · rcases sK.2 he with h | h
    · exact h2 e h hb
    · rw[h];exact hc
 have rj: ∀L:Array Bool,k∈Region.ready .any ops L→L.getD j true=false→j∈Region.ready .any ops L:=fun L hk hj=>by
  rw[mem_ready] at hk ⊢;obtain ⟨_,o,ho,h2⟩:=hk;rw[hok] at ho;cases ho;refine⟨hj,oj,hoj,fun e he hb=>?_⟩;have:=haf e (by simpa using he);rw[hb] at this;simp only[Bool.not_true,Bool.false_or] at this;obtain ⟨f,hf,hfb⟩:=List.any_eq_true.1 this;simp only[Bool.and_eq_true] at hfb;rw[← Nat.eq_of_beq_eq_true hfb.2];exact h2 f (by simpa using hf) hfb.1
 intro f
 induction f with
 | zero =>
   intro L a w hL h;refine⟨List.eq_nil_iff_forall_not_mem.2 fun i hi=>?_,h.2⟩;rcases hdich L hL with hd | hd
   · by_cases hik:i=k
     · subst hik;have:=r2 L j (rj L hi hd) (.inl hjk);rw[h.1] at this;cases this
     · have:=r2 L i hi (.inl hik);rw[h.1] at this;cases this
   · have:=r2 L i hi (.inr hd);rw[h.1] at this;cases this
 | succ f ih =>
   intro L a w hL h;have hLs: ∀i,(L.setIfInBounds i true).size=ops.size:=fun i=>by simpa using hL
   refine⟨fun hn=>h.1 (List.eq_nil_iff_forall_not_mem.2 fun i hi=>?_),fun i hi=>?_⟩
   · have:=r1 L i hi;rw[hn] at this;cases this
   · have easy:(i≠k∨L.getD j false=true)→wpOp P ops Q i (wpAny P .any ops Q f (L.setIfInBounds i true)) a w:=fun hc =>
      wpOp_mono (fun a' w' h'=>ih _ a' w' (hLs i) h') (pB j k i (h.2 i (r2 L i hi hc)))
     rcases hdich L hL with hd | hd
     rotate_left
     · exact easy (.inr hd)
     by_cases hik:i=k;rotate_left
     · exact easy (.inl hik)
     subst hik;have hjr:=rj L hi hd;have h1:=pB j i j (h.2 j (r2 L j hjr (.inl hjk)));have hwant:Region.wanted oj (yielded ops a.tmps)=true:=by simp[Region.wanted,hgn]
     unfold wpOp at h1;simp only[hoj,hwant,if_true] at h1;rcases h1 with h1 | ⟨_,h1⟩
     rotate_left
     · exact(hout h1).elim
     obtain ⟨v,hv,hK⟩:=CV hst hpan h1;have h3:=ih _ _ _ (hLs j) hK
     have h4:=wpAny_first (i:=j) (oi:=oj) (v:=v) hoj (fun i o cs b hi he=>by
      unfold xb at hsel;have:=List.all_eq_true.1 hsel o (by simpa using Array.mem_of_getElem? hi);rw[he] at this
      cases this) (fun c a' w' hq=>(hpan _ _ _ hq).elim) f L a w (fun i oi hi hij hli hne=>by
       have:=hap i (List.mem_range.2 (Array.getElem?_eq_some_iff.1 hi).1);rw[hi] at this;simp only[Bool.or_eq_true] at this;rcases this with (h | h) | h
       · exact absurd (Nat.eq_of_beq_eq_true h) hij
       · exfalso;obtain ⟨e,he,hb⟩:=List.any_eq_true.1 h;simp only[Bool.and_eq_true] at hb;obtain ⟨_,o,ho,h2⟩:=mem_ready.1 hjr;rw[hoj] at ho;cases ho;have h3:=h2 e (by simpa using he) hb.1;rw[Nat.eq_of_beq_eq_true hb.2,getD_both hli] at h3;cases h3
       · rcases h with h | h
         · exfalso;obtain ⟨e,he,hb⟩:=List.any_eq_true.1 h;simp only[Bool.and_eq_true] at hb;exact hne e (by simpa using he) hb.1 (Nat.eq_of_beq_eq_true hb.2)
         · exact h) hjr (.inl ⟨hwant,fun w=>hv w⟩) h3
     exact h4.2 i hi
def vy:List (Nat×Nat)→Array Oper→Bool
 | [],_=>true
 | x::l,ops=>Fa ops x.1 x.2&&vy l (dH ops x)
theorem mH(hpan: ∀c a w,Q (.panic c) a w→False)(hout:LetsOut Q→False){f:Nat}{L:Array Bool}{a:Act}{w:World}: ∀(l:List (Nat×Nat)) (ops:Array Oper),vy l ops=true→L.size=ops.size→wpAny P .any (l.foldl dH ops) Q f L a w→wpAny P .any ops Q f L a w
 | [],_,_,_,h=>h
 | x::l,ops,hB,hL,h=>by
   rw[vy,Bool.and_eq_true] at hB;exact AD hB.1 hpan hout f L a w hL (mH hpan hout l (dH ops x) hB.2 (by rw[p9];exact hL) h)
theorem ph: ∀(l:List (Nat×Nat)) (ops:Array Oper),(l.foldl dH ops).size=ops.size
 | [],_=>rfl
 | x::l,ops=>(ph l (dH ops x)).trans (p9 ops x)
end
section
variable {P:Program} {T:Ty} {B:Nat} {F0:Nat→Prop} {w0:cL} {n:Nat} {σ:St} {R:List LR} {ops:Array Oper} {Q:Exit→List LR→St→Prop}
theorem fP.oG(l:List (Nat×Nat))(hB:vy l ops=true)(hpan: ∀c R σ,Q (.panic c) R σ→False)(hout: ∀R σ,Q .outgrown R σ→False)(h:fP P B F0 w0 n (l.foldl dH ops) Q R σ):fP P B F0 w0 n ops Q R σ:=by
 intro a w hR;have hA:=h a w hR;rw[ph] at hA;refine mH (fun c a w hq=>?_) (fun hq=>?_) l ops hB (by simp) hA
 · obtain ⟨R,σ,h,_⟩:=hq;exact hpan c R σ h
 · obtain ⟨a,w,R,σ,h,_⟩:=hq;exact hout R σ h
theorem kQ.oG{Q:Exit→St→Prop}(l:List (Nat×Nat))(hB:vy l ops=true)(hpan: ∀c σ,Q (.panic c) σ→False)(hout: ∀σ,Q .outgrown σ→False)(h:kQ P B F0 w0 n (l.foldl dH ops) Q σ):kQ P B F0 w0 n ops Q σ:=by
 intro a w hR;have hA:=h a w hR;rw[ph] at hA;refine mH (fun c a w hq=>?_) (fun hq=>?_) l ops hB (by simp) hA
 · obtain ⟨σ,h,_⟩:=hq;exact hpan c σ h
 · obtain ⟨a,w,σ,h,_⟩:=hq;exact hout σ h
end
end Lift
namespace Lift
open Go Go.Proofs
abbrev nA(Vs:List Value):List D:=Vs.map D.v
theorem bZ{Vs:List Value}{i:Nat}(h:i<Vs.length):(nA Vs)[i]?=some (.v (Vs.getD i undef)):=by simp[h]
abbrev OA(Vs:List Value):AV:=AV.ow 22 (nA Vs)
abbrev CA(cols:List Nat):AV:=AV.ow 3 (cols.map (fun c:Nat=>dI c))
def b9(Vs:List Value)(a:a9):List LR:=List.zipWith (fun V r=>(V,et r)) Vs a
theorem Ay{Vs:List Value}{a:a9}(h:Vs.length=a.length)(V:Value)(r:List NQ):b9 (Vs++[V]) (a++[r])=b9 Vs a++[(V,et r)]:=by
 unfold b9;rw[List.zipWith_append h];rfl
theorem bO{Vs:List Value}{a:a9}{j:Nat}(hV:j<Vs.length)(ha:j<a.length):(b9 Vs a)[j]?=some (Vs.getD j undef,et (a.getD j [])):=by
 unfold b9;simp[List.getElem?_zipWith,hV,ha]
theorem nE{Vs:List Value}{a:a9}{j:Nat}(hV:j<Vs.length)(ha:j<a.length)(V:Value)(r:List NQ):(b9 Vs a).set j (V,et r)=b9 (Vs.set j V) (a.set j r):=by
 unfold b9;refine List.ext_getElem? (fun k=>?_);by_cases hk:k=j
 · subst hk;rw[List.getElem?_set_self (by simp;omega)];simp[List.getElem?_zipWith,hV,ha]
 · rw[List.getElem?_set_ne (Ne.symm hk)];simp[List.getElem?_zipWith,List.getElem?_set_ne (Ne.symm hk)]
theorem D'{Vs:List Value}{j:Nat}(hV:j<Vs.length):Vs.set j (Vs.getD j undef)=Vs:=by
 refine List.ext_getElem? (fun k=>?_);by_cases hk:k=j
 · subst hk;rw[List.getElem?_set_self hV];simp[hV]
 · rw[List.getElem?_set_ne (Ne.symm hk)]
theorem mS{a:a9}{j:Nat}(ha:j<a.length):a.set j (a.getD j [])=a:=by
 refine List.ext_getElem? (fun k=>?_);by_cases hk:k=j
 · subst hk;rw[List.getElem?_set_self ha];simp[ha]
 · rw[List.getElem?_set_ne (Ne.symm hk)]
theorem tN{Vs:List Value}{a:a9}{j:Nat}(hV:j<Vs.length)(ha:j<a.length)(r:List NQ):(b9 Vs a).set j (Vs.getD j undef,et r)=b9 Vs (a.set j r):=by
 rw[nE hV ha,D' hV]
def yV(Vs:List Value)(r t:Nat):List Value:=(Vs.set t (Vs.getD r undef)).set r (Vs.getD t undef)
theorem xA(Vs:List Value)(r t:Nat):(yV Vs r t).length=Vs.length:=by unfold yV;rw[List.length_set,List.length_set]
theorem vV{Vs:List Value}{a:a9}{r t:Nat}(h:Vs.length=a.length)(hr:r<a.length)(ht:t<a.length):
  ((b9 Vs a).set t (Vs.getD r undef,et (a.getD r []))).set r (Vs.getD t undef,et (a.getD t []))=b9 (yV Vs r t) (yU a r t):=by
 rw[nE (by omega) ht,nE (by simp;omega) (by simp;omega)];rfl
theorem FT{Vs:List Value}{a:a9}{i r:Nat}(h:Vs.length=a.length)(hi:i<a.length)(hr:r<a.length)(hir:i≠r)(z:List NQ):
  ((b9 Vs a).set i (Vs.getD i undef,et z)).set r (Vs.getD r undef,et (a.getD r []))=b9 Vs (a.set i z):=by
 rw[tN (by omega) hi];have e:a.getD r []=(a.set i z).getD r []:=by rw[eH,if_neg (fun g=>hir g.1.symm)]
 rw[e,tN (by omega) (by simpa using hr),mS (by simpa using hr)]
section
variable {P:Program} {T:Ty} {B:Nat} {F0:Nat→Prop} {w0:cL} {n:Nat} {σ τ:St} {K:St→Prop} {all:Array Oper} {o:Oper} {d:Nat} {rest:List Oper} {R:List LR} {x:Code} {Q:Exit→List LR→St→Prop}
theorem ab.kr(hT:bw P T){k e i:Nat}{Vs:List Value}(V:Value)(hd:o.dst=none)(hg:aD all σ o=true)(hx:Ca T σ o.op=some (k,.ow e (nA Vs),nA Vs,i,0,.v V))(hi:i<Vs.length)
  (h:ab P B F0 w0 n all rest K ((k,.ow e (nA (Vs.set i V)))::σ)):ab P B F0 w0 n all (o::rest) K σ:=by
 refine ab.kp hT (.v (Vs.getD i undef)) hd hg hx (bZ hi) rfl ?_;show ab P B F0 w0 n all rest K ((k,.ow e ((nA Vs).set i (.v V)))::σ);rw[show (nA Vs).set i (.v V)=nA (Vs.set i V) from (List.map_set ..).symm];exact h
theorem AZ.EZ(hT:bw P T){e eo:Nat}{te:TI}(he:T.get e=some te)(h1:te.size=1){Vr:Value}{X:LR}{Vs:List Value}{a:a9}(hl:Vs.length=a.length)
  (h:AZ P B F0 w0 n x Q [(Vr,.ow eo (a.map a8)),X] σ): ∀(m k:Nat),m+k=a.length→ ∀L:List LR,(∀j,k≤j→j<a.length→L[j]?=some (Vs.getD j undef,.ow e ((a.getD j []).map ai))) →
  AZ P B F0 w0 n x Q ((Vr,.ow eo ((a.take k).map a8++(nA Vs).drop k))::X::L) σ
 | 0,k,hk,L,hL=>by
   rw[List.take_of_length_le (by omega),List.drop_eq_nil_of_le (by rw[ae];omega),List.append_nil];refine AZ.oH _ (fun i r hr=> .inl ?_) h
   match i,hr with
   | 0,hr=>exact hr
   | 1,hr=>exact hr
 | m+1,k,hk,L,hL=>by
   have hka:k<a.length:=by omega
   have hll:k<L.length:=(List.getElem?_eq_some_iff.1 (hL k (ao _) hka)).1;have hft:((a.take k).map a8).length=k:=by rw[ae,aQ];omega
   refine AZ.G5 hT (k+2) 0 k (cs:=(a.take k).map a8++(nA Vs).drop k) rfl (fun d hd=>?_) ?_ (hL k (ao _) hka) (by omega) he ?_
   · rcases List.mem_append.1 hd with g | g
     · obtain ⟨r,_,rfl⟩:=List.mem_map.1 g;rfl
     · obtain ⟨V,_,rfl⟩:=List.mem_map.1 (List.mem_of_mem_drop g);rfl
   · rw[List.getElem?_append_right (by omega),hft,Nat.sub_self,List.getElem?_drop,Nat.add_zero];exact bZ (by omega)
   · have e1:((a.take k).map a8++(nA Vs).drop k).set k (.sl te.size ((a.getD k []).map ai))=(a.take (k+1)).map a8++(nA Vs).drop (k+1):=by
      rw[h1,List.set_append_right _ _ (by omega),hft,Nat.sub_self,List.take_succ_eq_append_getElem hka,List.map_append]
      have:(nA Vs).drop k= .v (Vs.getD k undef)::(nA Vs).drop (k+1):=by
       rw[List.drop_eq_getElem_cons (by rw[ae];omega)]
       congr 1
       have:=bZ (Vs:=Vs) (i:=k) (by omega);rw[bg (by rw[ae];omega)] at this;simpa using this
      rw[this,List.set_cons_zero,List.append_assoc];have g:a[k]=a.getD k []:=by rw[aG,bg hka];rfl
      rw[g];rfl
     show AZ P B F0 w0 n x Q ((Vr,.ow eo (((a.take k).map a8++(nA Vs).drop k).set k (.sl te.size ((a.getD k []).map ai))))::X::L.set k (Vs.getD k undef,.junk)) σ;rw[e1]
     exact AZ.EZ hT he h1 hl h m (k+1) (by omega) (L.set k (Vs.getD k undef,.junk)) (fun j hj hja=>by
      rw[List.getElem?_set_ne (by omega)];exact hL j (by omega) hja)
end
abbrev FN(s:lM):D:= .ag [bh s.rows,.sl 1 (s.cols.map (fun c:Nat=>dI c)),dI s.sg,ai s.fj]
set_option maxHeartbeats 12800000 in
theorem rE{v:List NQ}(V:lL v){a:a9}{N most:Nat}(ha0:0<a.length)(ha:a.length≤1000000)(hN:N≤1000000)(hmost:most≤N)(hr:bm N a)(hl:kd v.length a)(ok: ∀c,c<most→mh v (aJ v a c) c):
  Pure Tryz.prog 46 [bA v,bh a,dI most] (.tu [FN (aJ v a most),aN]):=by
 refine qJ 205 Tryz.func46 rfl rfl rfl rfl (by kernel_rfl) (fun B F0 w0=>?_);have cone:=rZ (Qr ((1:Int):Rat)) (k:=1) (jt _ (by have:=nD;rw[show ((1:Int):Rat)=1 from rfl];omega)) (by decide) (by decide) (CN _);rw[cE,show Jj ((1:Int):Rat)=[1] from rfl] at cone;have htk:=fun {i:Nat} (hi:i<a.length)=>List.take_succ_eq_append_getElem (l:=a) hi;refine AZ.aw ?_;refine AZ.seq (AZ.cO (fun B1 F1 w1=>?_));refine qU 3 rfl ?_;refine ab.nil ⟨rfl,?_⟩;refine AZ.seq (AZ.cO (fun B1 F1 w1=>?_));refine ab.call tok rfl rfl rfl rfl (j5 1 (by decide) (by decide)) ?_;refine ab.call tok rfl rfl rfl rfl cone ?_;refine ab.Fz tok [.v gu,.v gu,dI 0,.sl 3 []] rfl rfl rfl rfl (by kernel_rfl) ?_;refine qU 2 rfl ?_;refine ab.nil ⟨rfl,?_⟩;refine AZ.x7 22 ?_;refine AZ.x7 3 ?_;refine AZ.seq (AZ.seq ?_);refine AZ.cO (fun B1 F1 w1=>?_);refine qU 2 rfl ?_;rw[ae];refine qU 1 rfl ?_;refine ab.nil ⟨rfl,?_⟩;refine AZ.block (AZ.aF [2,3,6,7,8,22,23,24] (fun s:Nat×Value×List Value=>((s.2.1,OA s.2.2)::(gu,CA [])::b9 s.2.2 (a.take s.1),[(2,.d (dI most)),(3,.bx [.sl 1 (v.map ai)]),(6,.bx [.sl 1 [],.sl 1 [],dI 0,.sl 3 []]),(7,.d aN),(8,.bx [.v s.2.1,.v gu,dI 1,ai [1]]),(22,.d (bh a)),(23,.d (dI a.length)),(24,.d (dI s.1))])) (fun s=>s.1≤a.length∧s.2.2.length=s.1) (fun s=>a.length-s.1) (0,gu,[]) rfl ⟨Nat.zero_le _,rfl⟩ (fun s hs=>?_));obtain ⟨i,Vr,Vs⟩:=s;obtain ⟨hi,hVs⟩:=hs
 dsimp only at hi hVs
 show AZ _ _ _ _ _ _ _ ((Vr,OA Vs)::(gu,CA [])::b9 Vs (a.take i)) [(2,.d (dI most)),(3,.bx [.sl 1 (v.map ai)]),(6,.bx [.sl 1 [],.sl 1 [],dI 0,.sl 3 []]),(7,.d aN),(8,.bx [.v Vr,.v gu,dI 1,ai [1]]),(22,.d (bh a)),(23,.d (dI a.length)),(24,.d (dI i))];refine AZ.seq (AZ.cO (fun B1 F1 w1=>?_));refine qU 1 rfl ?_;refine ab.nil ⟨rfl,?_⟩;refine AZ.seq ?_;refine AZ.cond rfl (fun h=>?_) (fun h=>?_)
 · have hii:i<a.length:=by have:=ar h;omega
   have hg:=getM a8 (l:=a) (i:=i) hii;have hrl:(a.getD i []).length≤1000000:=by rw[hr i hii];exact hN
   have htk:=htk hii;have hge:a[i]=a.getD i []:=by rw[aG,bg hii];rfl
   rw[hge] at htk;generalize a.getD i []=row at hg hrl htk;refine AZ.skip (AZ.seq ?_);refine AZ.block (AZ.seq ?_);refine AZ.cO (fun B1 F1 w1=>?_);refine ab.idx tok (a8 row) rfl rfl rfl rfl (aj i) hg ?_;refine qU 2 rfl ?_;refine ab.nil ⟨rfl,?_⟩;refine AZ.any aP (ZH.any (β:=[]) ?_);refine ZH.mv 2 rfl rfl (by kernel_rfl) (by kernel_rfl) (by kernel_rfl) rfl (fun _ _ _ h=>h) (fun _=>rfl) trivial (fun B1 F1 w1=>?_);refine qU 1 rfl ?_;refine ab.nil ⟨rfl,?_⟩;refine ZH.fd tok 0 rfl rfl (by kernel_rfl) (by kernel_rfl) (by kernel_rfl) rfl (fun _ _ _ h=>h) (fun _=>rfl) trivial (fun B1 F1 w1=>?_);refine qU 1 rfl ?_;refine ab.nil ⟨rfl,?_⟩;refine ZH.meet 3 (qB 8 31) (fun V=>(((Vr,OA Vs)::(gu,CA [])::b9 Vs (a.take i))++[(V,et row)])) (fun V=>[(2,.d (dI most)),(3,.bx [.sl 1 (v.map ai)]),(6,.bx [.sl 1 [],.sl 1 [],dI 0,.sl 3 []]),(7,.d aN),(8,.bx [.v Vr,.v gu,dI 1,ai [1]]),(22,.d (bh a)),(23,.d (dI a.length)),(24,.d (dI i)),(10,.d (a8 row)),(30,.d (a8 row)),(28,.pt 8 0),(29,.d (.v Vr)),(31,.d (.v V)),(32,.d (.sl 1 [.v V]))]) (fun V=>?_) (fun N1_2=>?_)
   · refine ZH.all 5 (by kernel_rfl) rfl rfl (fun _=>rfl) trivial ?_;refine ah.cT 29 0 rfl rfl rfl ?_;refine ah.cut 1 rfl (fun B1 F1 w1=>?_);refine ab.gg tok rfl rfl rfl rfl rfl rfl (by show ((nA Vs).length+1)*24≤_;rw[ae];omega) (by show (nA Vs).length+1≤_;rw[ae];omega) ?_;refine ab.nil ⟨rfl,?_⟩;refine ah.vg 33 0 rfl rfl rfl rfl (fun Vq=>?_)
     refine ah.jd (R':=(Vq,OA (Vs++[V]))::(gu,CA [])::b9 (Vs++[V]) (a.take (i+1))) (by
      show (Vq,AV.ow 22 (nA Vs++[.v V]))::(gu,CA [])::(b9 Vs (a.take i)++[(V,et row)])=_
      rw[htk,Ay (by rw[aQ];omega),show nA Vs++[.v V]=nA (Vs++[V]) by simp]) ?_
     refine ah.nil ?_;refine ZH.to [2,3,6,7,8,22,23,24,10,30,28,32,33] [(2,.d (dI most)),(3,.bx [.sl 1 (v.map ai)]),(6,.bx [.sl 1 [],.sl 1 [],dI 0,.sl 3 []]),(7,.d aN),(8,.bx [.v Vr,.v gu,dI 1,ai [1]]),(22,.d (bh a)),(23,.d (dI a.length)),(24,.d (dI i)),(10,.d (a8 row)),(30,.d (a8 row)),(28,.pt 8 0),(32,.d (.sl 1 [.v V])),(33,.d (.v Vq))] rfl trivial ?_;refine ZH.all 6 (by kernel_rfl) rfl rfl (fun _=>rfl) trivial ?_;refine ay (fun B1 F1 w1=>?_);refine qU 1 rfl ?_;refine ab.nil ⟨rfl,?_⟩;refine ZH.all 7 (by kernel_rfl) rfl rfl (fun _=>rfl) trivial ?_;refine ay (fun B1 F1 w1=>?_);refine qU 1 rfl ?_;refine ab.nil ⟨rfl,?_⟩;refine ZH.done (by kernel_rfl) trivial ?_;refine AZ.to [2,3,6,7,8,22,23,24] [(2,.d (dI most)),(3,.bx [.sl 1 (v.map ai)]),(6,.bx [.sl 1 [],.sl 1 [],dI 0,.sl 3 []]),(7,.d aN),(8,.bx [.v Vq,.v gu,dI 1,ai [1]]),(22,.d (bh a)),(23,.d (dI a.length)),(24,.d (dI i))] rfl ?_;refine AZ.cO (fun B1 F1 w1=>?_);refine qU 1 rfl ?_;rw[aH (x:=(i:Int)+1) (by omega) (by omega)];refine qU 1 rfl ?_;refine ab.nil ⟨rfl,?_⟩;exact⟨(i+1,Vq,Vs++[V]),rfl,⟨hii,by show (Vs++[V]).length=i+1;rw[List.length_append];show Vs.length+1=_;omega⟩,by show a.length-(i+1)<a.length-i;omega⟩
   refine ZH.meet 4 (qB 8 29) (fun V=>(((Vr,OA Vs)::(gu,CA [])::b9 Vs (a.take i))++[(V,et row)])) (fun V=>[(2,.d (dI most)),(3,.bx [.sl 1 (v.map ai)]),(6,.bx [.sl 1 [],.sl 1 [],dI 0,.sl 3 []]),(7,.d aN),(8,.bx [.v Vr,.v gu,dI 1,ai [1]]),(22,.d (bh a)),(23,.d (dI a.length)),(24,.d (dI i)),(10,.d (a8 row)),(30,.d (a8 row)),(28,.pt 8 0),(31,.d (.v V)),(32,.d (.sl 1 [.v V]))]) (fun V=>?_) (fun N0_2=>?_)
   · refine ZH.all 1 (by kernel_rfl) rfl rfl (fun _=>rfl) trivial ?_;refine ay (fun B1 F1 w1=>?_);refine qU 1 rfl ?_;refine ab.nil ⟨rfl,?_⟩;exact qL (N1_2 V) (by kernel_rfl) rfl trivial
   refine ZH.meet 4 (qB 8 15) (fun V=>(((Vr,OA Vs)::(gu,CA [])::b9 Vs (a.take i))++[(V,et row)])) (fun V=>[(2,.d (dI most)),(3,.bx [.sl 1 (v.map ai)]),(6,.bx [.sl 1 [],.sl 1 [],dI 0,.sl 3 []]),(7,.d aN),(8,.bx [.v Vr,.v gu,dI 1,ai [1]]),(22,.d (bh a)),(23,.d (dI a.length)),(24,.d (dI i)),(10,.d (a8 row)),(30,.d (a8 row)),(28,.pt 8 0),(29,.d (.v Vr)),(31,.d (.v V))]) (fun V=>?_) (fun N1_1=>?_)
   · refine ZH.all 4 (by kernel_rfl) rfl rfl (fun _=>rfl) trivial ?_;refine ay (fun B1 F1 w1=>?_);refine ab.e7 tok rfl rfl rfl rfl rfl ?_;refine ab.nil ⟨rfl,?_⟩;exact qL (N1_2 V) (by kernel_rfl) rfl trivial
   refine ZH.meet 5 (qB 8 13) (fun V=>(((Vr,OA Vs)::(gu,CA [])::b9 Vs (a.take i))++[(V,et row)])) (fun V=>[(2,.d (dI most)),(3,.bx [.sl 1 (v.map ai)]),(6,.bx [.sl 1 [],.sl 1 [],dI 0,.sl 3 []]),(7,.d aN),(8,.bx [.v Vr,.v gu,dI 1,ai [1]]),(22,.d (bh a)),(23,.d (dI a.length)),(24,.d (dI i)),(10,.d (a8 row)),(30,.d (a8 row)),(28,.pt 8 0),(31,.d (.v V))]) (fun V=>?_) (fun N0_1=>?_)
   · refine ZH.two 1 4 (by kernel_rfl) rfl rfl rfl rfl (fun _=>rfl) (fun _=>rfl) trivial ?_ ?_
     · refine ay (fun B1 F1 w1=>?_);refine qU 1 rfl ?_;refine ab.nil ⟨rfl,?_⟩;exact qL (N1_1 V) (by kernel_rfl) rfl trivial
     · refine ay (fun B1 F1 w1=>?_);refine ab.e7 tok rfl rfl rfl rfl rfl ?_;refine ab.nil ⟨rfl,?_⟩;exact qL (N0_2 V) (by kernel_rfl) rfl trivial
   refine ZH.meet 5 (qB 8 7) (fun V=>((Vr,OA Vs)::(gu,CA [])::b9 Vs (a.take i))) (fun V=>[(2,.d (dI most)),(3,.bx [.sl 1 (v.map ai)]),(6,.bx [.sl 1 [],.sl 1 [],dI 0,.sl 3 []]),(7,.d aN),(8,.bx [.v Vr,.v gu,dI 1,ai [1]]),(22,.d (bh a)),(23,.d (dI a.length)),(24,.d (dI i)),(10,.d (a8 row)),(30,.d (a8 row)),(28,.pt 8 0),(29,.d (.v Vr))]) (fun V=>?_) (fun N1_0=>?_)
   · refine ZH.all 3 (by kernel_rfl) rfl rfl (fun _=>rfl) trivial ?_;refine ah.fR tok [] rfl rfl rfl rfl rfl List.nodup_nil rfl (lH row hrl) (fun _ _ _=>Nat.zero_le _) (fun res R1 hP=>?_);obtain ⟨V,rfl,rfl⟩:=hP;refine ah.nil ?_;exact qL (N1_1 V) (by kernel_rfl) rfl trivial
   refine ZH.meet 6 (qB 8 5) (fun V=>((Vr,OA Vs)::(gu,CA [])::b9 Vs (a.take i))) (fun V=>[(2,.d (dI most)),(3,.bx [.sl 1 (v.map ai)]),(6,.bx [.sl 1 [],.sl 1 [],dI 0,.sl 3 []]),(7,.d aN),(8,.bx [.v Vr,.v gu,dI 1,ai [1]]),(22,.d (bh a)),(23,.d (dI a.length)),(24,.d (dI i)),(10,.d (a8 row)),(30,.d (a8 row)),(28,.pt 8 0)]) (fun V=>?_) (fun N0_0=>?_)
   · refine ZH.two 1 3 (by kernel_rfl) rfl rfl rfl rfl (fun _=>rfl) (fun _=>rfl) trivial ?_ ?_
     · refine ay (fun B1 F1 w1=>?_);refine qU 1 rfl ?_;refine ab.nil ⟨rfl,?_⟩;exact qL (N1_0 V) (by kernel_rfl) rfl trivial
     · refine ah.fR tok [] rfl rfl rfl rfl rfl List.nodup_nil rfl (lH row hrl) (fun _ _ _=>Nat.zero_le _) (fun res R1 hP=>?_);obtain ⟨V,rfl,rfl⟩:=hP;refine ah.nil ?_;exact qL (N0_1 V) (by kernel_rfl) rfl trivial
   exact qL (N0_0 gu) (by kernel_rfl) rfl trivial
 have hii:i=a.length:=by have:=aA h;omega
 subst hii;rw[List.take_length];refine AZ.exit ?_;refine AZ.seq (AZ.seq ?_);refine AZ.cO (fun B1 F1 w1=>?_);refine qU 2 rfl ?_;refine ab.nil ⟨rfl,?_⟩;refine AZ.block (AZ.aF [3,6,7,8,36,37] (fun z:Nat×Value×Value×List Value=>((z.2.1,OA z.2.2.2)::(z.2.2.1,CA (aJ v a z.1).cols)::b9 z.2.2.2 (aJ v a z.1).rows,[(3,.bx [.sl 1 (v.map ai)]),(6,.bx [.sl 1 [],.sl 1 [],dI 0,.sl 3 []]),(7,.d aN),(8,.bx [.v z.2.1,.v z.2.2.1,dI (aJ v a z.1).sg,ai (aJ v a z.1).fj]),(36,.d (dI most)),(37,.d (dI z.1))])) (fun z=>z.1≤most∧z.2.2.2.length=a.length) (fun z=>most-z.1) (0,Vr,gu,Vs) rfl ⟨Nat.zero_le _,hVs⟩ (fun z hz=>?_));clear hVs;clear Vr Vs;obtain ⟨c,Vr,Vc,Vs⟩:=z;obtain ⟨hc,hVs⟩:=hz
 dsimp only at hc hVs
 have hR:=gR V hr hl c;have hnext:aJ v a (c+1)=dZ v (aJ v a c) c:=rfl;have hok:=ok c;obtain ⟨s,hs⟩: ∃s,aJ v a c=s:=⟨_,rfl⟩;rw[hs] at hR hnext hok;show AZ _ _ _ _ _ _ _ ((Vr,OA Vs)::(Vc,CA (aJ v a c).cols)::b9 Vs (aJ v a c).rows) [(3,.bx [.sl 1 (v.map ai)]),(6,.bx [.sl 1 [],.sl 1 [],dI 0,.sl 3 []]),(7,.d aN),(8,.bx [.v Vr,.v Vc,dI (aJ v a c).sg,ai (aJ v a c).fj]),(36,.d (dI most)),(37,.d (dI c))];rw[hs];refine AZ.seq (AZ.cO (fun B1 F1 w1=>?_));refine qU 1 rfl ?_;refine ab.nil ⟨rfl,?_⟩;refine AZ.seq (AZ.cond rfl (fun h=>?_) (fun h=>?_));rotate_left
 · have hcm:c=most:=by have:=aA h;omega
   subst hcm;rw[hs];refine AZ.exit ?_;refine AZ.oH ((Vr,AV.ow 22 ((s.rows.take 0).map a8++(nA Vs).drop 0))::(Vc,CA s.cols)::b9 Vs s.rows) (fun _ _ h=> .inl h) ?_;refine AZ.EZ (te:=_) tok (e:=53) rfl rfl (by rw[hR.len];exact hVs) ?_ s.rows.length 0 (by omega) (b9 Vs s.rows) (fun j _ hj=>bO (by rw[hVs,← hR.len];exact hj) hj);refine AZ.Dg tok 8 0 0 rfl rfl rfl rfl ?_;refine AZ.Dg tok 8 1 1 rfl rfl rfl rfl ?_;refine AZ.seq (AZ.cO (fun B1 F1 w1=>?_));refine qU 3 rfl ?_;refine ab.nil ⟨rfl,?_⟩;exact AZ.ret rfl
 have hcm:c<most:=by have:=ar h;omega
 have hok:=hok hcm;have hm:=hR.len;have hcN:c<N:=by omega
 have hVm:Vs.length=s.rows.length:=by omega
 have hrm:=hR.cm;rw[← hm] at hrm;obtain ⟨hat1,hat2,hat3,hat4⟩:=jf v s c hrm;have hrow0:0<s.rows.length:=by omega
 have hm6:s.rows.length≤1000000:=by omega
 have hel: ∀{b:a9} {i:Nat},bm N b→i<b.length→ ∀k,k<N→((b.getD i []).map ai)[k]?=some (ai (aW b i k)):=fun {b i} hb hi k hk=>getM ai (by rw[hb i hi];exact hk);refine AZ.skip (AZ.seq ?_);refine AZ.block (AZ.seq ?_);refine AZ.cO (fun B1 F1 w1=>?_);refine qU 2 rfl ?_;refine ab.nil ⟨rfl,?_⟩;refine AZ.seq (AZ.region ?_);refine ah.cut 2 rfl (fun B1 F1 w1=>?_);refine qU 2 rfl ?_;refine ab.nil ⟨rfl,?_⟩;refine ah.cT 41 1 rfl rfl rfl ?_;refine ah.cut 1 rfl (fun B1 F1 w1=>?_);refine qU 1 rfl ?_;rw[ae];refine ab.nil ⟨rfl,?_⟩;refine ah.back 41 1 rfl rfl rfl (List.Mem.head _) rfl ?_;refine ah.cut 1 rfl (fun B1 F1 w1=>?_);refine qU 1 rfl ?_;refine ab.nil ⟨rfl,?_⟩;refine ah.nil ?_;refine AZ.to [3,6,7,8,11,12,36,37] [(3,.bx [.sl 1 (v.map ai)]),(6,.bx [.sl 1 [],.sl 1 [],dI 0,.sl 3 []]),(7,.d aN),(8,.bx [.v Vr,.v Vc,dI s.sg,ai s.fj]),(11,.d (dI c)),(12,.d (dI s.cols.length)),(36,.d (dI most)),(37,.d (dI c))] rfl ?_;refine AZ.seq (AZ.cO (fun B1 F1 w1=>?_));refine qU 2 rfl ?_;refine ab.nil ⟨rfl,?_⟩;refine AZ.cut [3,6,7,8,11,12,13,36,37] (fun _:Unit=>(((Vr,OA Vs)::(Vc,CA s.cols)::b9 Vs s.rows),[(3,.bx [.sl 1 (v.map ai)]),(6,.bx [.sl 1 [],.sl 1 [],dI 0,.sl 3 []]),(7,.d aN),(8,.bx [.v Vr,.v Vc,dI s.sg,ai s.fj]),(11,.d (dI c)),(12,.d (dI s.cols.length)),(13,.d (dI (atR v s c))),(36,.d (dI most)),(37,.d (dI c))])) (fun _=>True) ?_ (fun _ _=>?_)
 · refine AZ.block (AZ.aF [3,6,7,8,11,12,13,36,37] (fun j:Nat=>(((Vr,OA Vs)::(Vc,CA s.cols)::b9 Vs s.rows),[(3,.bx [.sl 1 (v.map ai)]),(6,.bx [.sl 1 [],.sl 1 [],dI 0,.sl 3 []]),(7,.d aN),(8,.bx [.v Vr,.v Vc,dI s.sg,ai s.fj]),(11,.d (dI c)),(12,.d (dI s.cols.length)),(13,.d (dI j)),(36,.d (dI most)),(37,.d (dI c))])) (fun j=>s.cols.length≤j∧j≤s.rows.length∧gf (yH v s.rows c) (s.rows.length-j) j=atR v s c) (fun j=>s.rows.length-j) s.cols.length rfl ⟨ao _,hrm,rfl⟩ (fun j hj=>?_));show AZ _ _ _ _ _ _ _ ((Vr,OA Vs)::(Vc,CA s.cols)::b9 Vs s.rows) [(3,.bx [.sl 1 (v.map ai)]),(6,.bx [.sl 1 [],.sl 1 [],dI 0,.sl 3 []]),(7,.d aN),(8,.bx [.v Vr,.v Vc,dI s.sg,ai s.fj]),(11,.d (dI c)),(12,.d (dI s.cols.length)),(13,.d (dI j)),(36,.d (dI most)),(37,.d (dI c))];obtain ⟨j1,j2,j3⟩:=hj;refine AZ.seq (AZ.seq ?_);refine AZ.any aP (fP.kE 18 (by kernel_rfl) (fun B1 F1 w1 hS=>?_));have hS0:=hS.at (i:=0) rfl (by rw[ae];omega);refine qP 3 rfl ?_;refine af.lens tok hS0 rfl rfl rfl rfl rfl ?_;rw[ae];refine qP 1 rfl ?_;by_cases hjm:j<s.rows.length;rotate_left
   · rw[nq hjm] at j3;rw[aT (show ¬(j:Int)<(Vs.length:Int) by omega)];refine qP 13 rfl ?_;refine af.nil ⟨rfl,?_⟩;refine ah.nil ?_;refine AZ.aB rfl ?_;exact AZ.exit ⟨(),by rw[← j3];rfl,trivial⟩
   rw[aV (show (j:Int)<(Vs.length:Int) by omega)];have hj6:(s.rows.getD j []).length=N:=hR.rect j hjm;have hS1:=hS.at (i:=j+2) (bO (Vs:=Vs) (by omega) hjm) (by rw[ae];omega);have cs:=jW V (hR.lt j c) (hok.sg j j1 hjm);have hnz:yH v s.rows c j=decide (jI v (aW s.rows j c)≠0):=rfl;generalize jI v (aW s.rows j c)=g at cs hnz;refine qP 5 rfl ?_;refine af.idxs tok hS0 rfl rfl rfl rfl rfl (aj j) (by rw[ae];omega) ?_;refine af.ba tok (.v (Vs.getD j undef)) hS0 rfl rfl rfl rfl rfl rfl rfl (bZ (by omega)) rfl ?_;refine qP 1 rfl ?_;refine af.idxs tok hS1 rfl rfl rfl rfl rfl (aj c) (by rw[ae];omega) ?_;refine af.ba tok (ai (aW s.rows j c)) hS1 rfl rfl rfl rfl rfl rfl rfl (hel hR.rect hjm c hcN) rfl ?_;refine af.call tok rfl rfl rfl rfl rfl cs ?_;refine qP 2 rfl ?_;refine af.nil ⟨rfl,?_⟩;refine ah.nil ?_;refine AZ.cond rfl (fun h=>?_) (fun h=>?_)
   · have hg:g=0:=beq_iff_eq.1 h;refine AZ.skip (AZ.block ?_);refine AZ.cO (fun B1 F1 w1=>?_);refine qU 2 rfl ?_;rw[aH (x:=(j:Int)+1) (by omega) (by omega)];refine qU 1 rfl ?_;refine ab.nil ⟨rfl,?_⟩;exact⟨j+1,rfl,⟨by omega,hjm,by rw[← lA hjm (by rw[hnz,hg];rfl)];exact j3⟩,by omega⟩
   · have hg:g≠0:=beq_eq_false_iff_ne.1 h;rw[np hjm (by rw[hnz,aV hg])] at j3;exact AZ.exit ⟨(),by rw[← j3];rfl,trivial⟩
 show AZ _ _ _ _ _ _ _ ((Vr,OA Vs)::(Vc,CA s.cols)::b9 Vs s.rows) [(3,.bx [.sl 1 (v.map ai)]),(6,.bx [.sl 1 [],.sl 1 [],dI 0,.sl 3 []]),(7,.d aN),(8,.bx [.v Vr,.v Vc,dI s.sg,ai s.fj]),(11,.d (dI c)),(12,.d (dI s.cols.length)),(13,.d (dI (atR v s c))),(36,.d (dI most)),(37,.d (dI c))];refine AZ.seq (AZ.seq ?_);refine AZ.rl (fun B1 F1 w1 hS=>?_);refine qU 3 rfl ?_;refine ab.lens tok (hS.at (i:=0) rfl (by rw[ae];omega)) rfl rfl rfl rfl ?_;rw[ae];refine qU 1 rfl ?_;refine ab.nil ⟨rfl,?_⟩;refine AZ.cond rfl (fun h=>?_) (fun h=>?_)
 · have hat: ¬atR v s c<s.rows.length:=by have:=ar h;omega
   have hst:aJ v a (c+1)=s:=by rw[hnext];unfold dZ;rw[if_neg hat]
   refine AZ.exit ?_;refine AZ.cO (fun B1 F1 w1=>?_);refine qU 1 rfl ?_;rw[aH (x:=(c:Int)+1) (by omega) (by omega)];refine qU 1 rfl ?_;refine ab.nil ⟨rfl,?_⟩;exact⟨(c+1,Vr,Vc,Vs),by rw[hst];rfl,⟨hcm,hVs⟩,by show most-(c+1)<most-c;omega⟩
 have hat:atR v s c<s.rows.length:=by have:=aA h;omega
 have hst:aJ v a (c+1)=⟨cu v (eR v s c) s.cols.length c (eR v s c).length,s.cols++[c],if atR v s c=s.cols.length then s.sg else -s.sg,eg v s.fj (pR v s c)⟩:=by rw[hnext];unfold dZ;rw[if_pos hat]
 obtain ⟨hb1,hb2,hb3⟩:=vQ (c:=c) hR hat;obtain ⟨he1,he2,he3⟩:=Ak V (c:=c) hR hat;have hbr:bR v s c=if atR v s c=s.cols.length then s.rows else yU s.rows s.cols.length (atR v s c):=rfl
 have hpr:pR v s c=aW (bR v s c) s.cols.length c:=rfl;have hE:eR v s c=(bR v s c).set s.cols.length (x5 v ((bR v s c).getD s.cols.length []) (pR v s c)):=rfl;have okd:=hok.fj hat;have okv:=hok.div hat;have oks:=hok.sg2 hat;have okt:=hok.take hat;generalize bR v s c=b at *;generalize pR v s c=p at *;generalize eR v s c=e at *;generalize atR v s c=t at *;refine AZ.skip ?_;refine AZ.cut [3,6,7,8,11,12,36,37] (fun Ws:List Value=>(((Vr,OA Ws)::(Vc,CA s.cols)::b9 Ws b),[(3,.bx [.sl 1 (v.map ai)]),(6,.bx [.sl 1 [],.sl 1 [],dI 0,.sl 3 []]),(7,.d aN),(8,.bx [.v Vr,.v Vc,dI (if t=s.cols.length then s.sg else -s.sg),ai s.fj]),(11,.d (dI c)),(12,.d (dI s.cols.length)),(36,.d (dI most)),(37,.d (dI c))])) (fun Ws=>Ws.length=b.length) ?_ (fun Ws hWs=>?_)
 · refine AZ.seq (AZ.cO (fun B1 F1 w1=>?_));refine qU 3 rfl ?_;refine ab.nil ⟨rfl,?_⟩;by_cases htr:t=s.cols.length
   · rw[if_pos htr] at hbr;rw[bne_eq_false_iff_eq.2 (show (t:Int)=(s.cols.length:Int) by omega)];refine AZ.aB rfl ?_;refine AZ.skip ?_;exact⟨Vs,by rw[if_pos htr,hbr];rfl,by omega⟩
   rw[if_neg htr] at hbr;rw[bne_iff_ne.2 (show (t:Int)≠(s.cols.length:Int) by omega)];refine AZ.aL rfl ?_;refine AZ.seq (AZ.any aP (ZH.any (β:=[(8,[.v Vr,.v Vc,dI s.sg,ai s.fj])]) ?_));refine ZH.mv 2 rfl rfl (by kernel_rfl) (by kernel_rfl) (by kernel_rfl) rfl (fun _ _ _ h=>h) (fun _=>rfl) ⟨rfl,trivial⟩ (fun B1 F1 w1=>?_);refine qU 1 rfl ?_;refine ab.nil ⟨rfl,?_⟩;refine ZH.mv 5 rfl rfl (by kernel_rfl) (by kernel_rfl) (by kernel_rfl) rfl (fun _ _ _ h=>h) (fun _=>rfl) ⟨rfl,trivial⟩ (fun B1 F1 w1=>?_);refine qU 1 rfl ?_;refine ab.nil ⟨rfl,?_⟩;refine ZH.mv 8 rfl rfl (by kernel_rfl) (by kernel_rfl) (by kernel_rfl) rfl (fun _ _ _ h=>h) (fun _=>rfl) ⟨rfl,trivial⟩ (fun B1 F1 w1=>?_);refine qU 1 rfl ?_;refine ab.nil ⟨rfl,?_⟩;refine ZH.mv 13 rfl rfl (by kernel_rfl) (by kernel_rfl) (by kernel_rfl) rfl (fun _ _ _ h=>h) (fun _=>rfl) ⟨rfl,trivial⟩ (fun B1 F1 w1=>?_);refine qU 1 rfl ?_;refine ab.nil ⟨rfl,?_⟩;refine ZH.fd tok 0 rfl rfl (by kernel_rfl) (by kernel_rfl) (by kernel_rfl) rfl (fun _ _ _ h=>h) (fun _=>rfl) ⟨rfl,trivial⟩ (fun B1 F1 w1=>?_);refine qU 1 rfl ?_;refine ab.nil ⟨rfl,?_⟩;refine ZH.fd tok 3 rfl rfl (by kernel_rfl) (by kernel_rfl) (by kernel_rfl) rfl (fun _ _ _ h=>h) (fun _=>rfl) ⟨rfl,trivial⟩ (fun B1 F1 w1=>?_);refine qU 1 rfl ?_;refine ab.nil ⟨rfl,?_⟩;refine ZH.fd tok 6 rfl rfl (by kernel_rfl) (by kernel_rfl) (by kernel_rfl) rfl (fun _ _ _ h=>h) (fun _=>rfl) ⟨rfl,trivial⟩ (fun B1 F1 w1=>?_);refine qU 1 rfl ?_;refine ab.nil ⟨rfl,?_⟩;refine ZH.fd tok 11 rfl rfl (by kernel_rfl) (by kernel_rfl) (by kernel_rfl) rfl (fun _ _ _ h=>h) (fun _=>rfl) ⟨rfl,trivial⟩ (fun B1 F1 w1=>?_);refine qU 1 rfl ?_;refine ab.nil ⟨rfl,?_⟩;refine ZH.ld tok 1 rfl rfl (by kernel_rfl) (by kernel_rfl) (by kernel_rfl) rfl rfl (fun _ _ _ h=>h) (fun _=>rfl) ⟨rfl,trivial⟩ (fun B1 F1 w1=>?_);refine qU 1 rfl ?_;refine ab.nil ⟨rfl,?_⟩;refine ZH.ld tok 4 rfl rfl (by kernel_rfl) (by kernel_rfl) (by kernel_rfl) rfl rfl (fun _ _ _ h=>h) (fun _=>rfl) ⟨rfl,trivial⟩ (fun B1 F1 w1=>?_);refine qU 1 rfl ?_;refine ab.nil ⟨rfl,?_⟩;refine ZH.ld tok 7 rfl rfl (by kernel_rfl) (by kernel_rfl) (by kernel_rfl) rfl rfl (fun _ _ _ h=>h) (fun _=>rfl) ⟨rfl,trivial⟩ (fun B1 F1 w1=>?_);refine qU 1 rfl ?_;refine ab.nil ⟨rfl,?_⟩;refine ZH.ld tok 12 rfl rfl (by kernel_rfl) (by kernel_rfl) (by kernel_rfl) rfl rfl (fun _ _ _ h=>h) (fun _=>rfl) ⟨rfl,trivial⟩ (fun B1 F1 w1=>?_);refine qU 1 rfl ?_;refine ab.nil ⟨rfl,?_⟩;refine ZH.meet 4 (qB 20 65535) (fun V=>((Vr,OA Vs)::(Vc,CA s.cols)::b9 Vs s.rows)) (fun V=>[(3,.bx [.sl 1 (v.map ai)]),(6,.bx [.sl 1 [],.sl 1 [],dI 0,.sl 3 []]),(7,.d aN),(8,.bx [.v Vr,.v Vc,dI s.sg,ai s.fj]),(11,.d (dI c)),(12,.d (dI s.cols.length)),(13,.d (dI t)),(36,.d (dI most)),(37,.d (dI c)),(73,.d (.v Vr)),(74,.d (dI t)),(76,.d (.v Vr)),(77,.d (dI s.cols.length)),(79,.d (.v Vr)),(80,.d (dI s.cols.length)),(84,.d (.v Vr)),(85,.d (dI t)),(82,.d (.v (Vs.getD s.cols.length undef))),(87,.d (.v (Vs.getD t undef)))]) (fun V=>?_) (fun N2_2=>?_)
   · refine ZH.all 16 (by kernel_rfl) rfl rfl (fun _=>rfl) ⟨rfl,trivial⟩ ?_;refine bF (fun B1 F1 w1 hS=>?_);refine ab.idxs tok (hS.at (i:=0) rfl (by rw[ae];omega)) rfl rfl rfl rfl (aj _) (by show t<_;rw[ae];omega) ?_;refine ab.nil ⟨rfl,?_⟩;refine ZH.to [3,6,7,8,11,12,13,36,37,73,74,76,77,79,80,84,85,82,87,88] [(3,.bx [.sl 1 (v.map ai)]),(6,.bx [.sl 1 [],.sl 1 [],dI 0,.sl 3 []]),(7,.d aN),(8,.bx [.v Vr,.v Vc,dI s.sg,ai s.fj]),(11,.d (dI c)),(12,.d (dI s.cols.length)),(13,.d (dI t)),(36,.d (dI most)),(37,.d (dI c)),(73,.d (.v Vr)),(74,.d (dI t)),(76,.d (.v Vr)),(77,.d (dI s.cols.length)),(79,.d (.v Vr)),(80,.d (dI s.cols.length)),(84,.d (.v Vr)),(85,.d (dI t)),(82,.d (.v (Vs.getD s.cols.length undef))),(87,.d (.v (Vs.getD t undef))),(88,.d (.v (eO Vr (t*1))))] rfl ⟨rfl,trivial⟩ ?_;refine ZH.all 17 (by kernel_rfl) rfl rfl (fun _=>rfl) ⟨rfl,trivial⟩ ?_;refine ah.cT 73 0 rfl rfl rfl ?_;refine ah.el tok 73 88 rfl (List.Mem.head _) rfl rfl rfl (by rw[ae];omega) rfl ?_;refine ah.cut 1 rfl (fun B1 F1 w1=>?_);refine ab.kr tok (Vs.getD s.cols.length undef) rfl rfl rfl (by omega) ?_;refine ab.nil ⟨rfl,?_⟩;refine ah.back 73 0 rfl rfl rfl (List.Mem.head _) rfl ?_;refine ah.nil ?_;refine ZH.to [3,6,7,8,11,12,13,36,37,73,74,76,77,79,80,84,85,82,87] [(3,.bx [.sl 1 (v.map ai)]),(6,.bx [.sl 1 [],.sl 1 [],dI 0,.sl 3 []]),(7,.d aN),(8,.bx [.v Vr,.v Vc,dI s.sg,ai s.fj]),(11,.d (dI c)),(12,.d (dI s.cols.length)),(13,.d (dI t)),(36,.d (dI most)),(37,.d (dI c)),(73,.d (.v Vr)),(74,.d (dI t)),(76,.d (.v Vr)),(77,.d (dI s.cols.length)),(79,.d (.v Vr)),(80,.d (dI s.cols.length)),(84,.d (.v Vr)),(85,.d (dI t)),(82,.d (.v (Vs.getD s.cols.length undef))),(87,.d (.v (Vs.getD t undef)))] rfl ⟨rfl,trivial⟩ ?_;refine ZH.all 18 (by kernel_rfl) rfl rfl (fun _=>rfl) ⟨rfl,trivial⟩ ?_;refine bF (fun B1 F1 w1 hS=>?_);refine ab.idxs tok (hS.at (i:=0) rfl (by rw[ae,List.length_set];omega)) rfl rfl rfl rfl (aj _) (by show s.cols.length<_;rw[ae,List.length_set];omega) ?_;refine ab.nil ⟨rfl,?_⟩;refine ZH.to [3,6,7,8,11,12,13,36,37,73,74,76,77,79,80,84,85,82,87,89] [(3,.bx [.sl 1 (v.map ai)]),(6,.bx [.sl 1 [],.sl 1 [],dI 0,.sl 3 []]),(7,.d aN),(8,.bx [.v Vr,.v Vc,dI s.sg,ai s.fj]),(11,.d (dI c)),(12,.d (dI s.cols.length)),(13,.d (dI t)),(36,.d (dI most)),(37,.d (dI c)),(73,.d (.v Vr)),(74,.d (dI t)),(76,.d (.v Vr)),(77,.d (dI s.cols.length)),(79,.d (.v Vr)),(80,.d (dI s.cols.length)),(84,.d (.v Vr)),(85,.d (dI t)),(82,.d (.v (Vs.getD s.cols.length undef))),(87,.d (.v (Vs.getD t undef))),(89,.d (.v (eO Vr (s.cols.length*1))))] rfl ⟨rfl,trivial⟩ ?_;refine ZH.all 19 (by kernel_rfl) rfl rfl (fun _=>rfl) ⟨rfl,trivial⟩ ?_;refine ah.cT 76 0 rfl rfl rfl ?_;refine ah.el tok 76 89 rfl (List.Mem.head _) rfl rfl rfl (by rw[ae,List.length_set];omega) rfl ?_;refine ah.cut 1 rfl (fun B1 F1 w1=>?_);refine ab.kr tok (Vs.getD t undef) rfl rfl rfl (by rw[List.length_set];omega) ?_;refine ab.nil ⟨rfl,?_⟩;refine ah.back 76 0 rfl rfl rfl (List.Mem.head _) rfl ?_;refine ah.nil ?_;refine ZH.done (by kernel_rfl) ⟨rfl,trivial⟩ ?_;refine AZ.to [3,6,7,8,11,12,13,36,37] [(3,.bx [.sl 1 (v.map ai)]),(6,.bx [.sl 1 [],.sl 1 [],dI 0,.sl 3 []]),(7,.d aN),(8,.bx [.v Vr,.v Vc,dI s.sg,ai s.fj]),(11,.d (dI c)),(12,.d (dI s.cols.length)),(13,.d (dI t)),(36,.d (dI most)),(37,.d (dI c))] rfl ?_;refine AZ.wR (t+2) (s.cols.length+2) (bO (Vs:=Vs) (by omega) hat) (bO (Vs:=Vs) (by omega) (by omega)) ?_;show AZ _ _ _ _ _ _ _ ((Vr,OA (yV Vs s.cols.length t))::(Vc,CA s.cols)::((b9 Vs s.rows).set t (Vs.getD s.cols.length undef,et (s.rows.getD s.cols.length []))).set s.cols.length (Vs.getD t undef,et (s.rows.getD t []))) _;rw[vV (by omega) (by omega) hat,← hbr];refine AZ.cO (fun B1 F1 w1=>?_);refine qU 3 rfl ?_;rw[aH (x:=0-s.sg) (by have:=hR.sg;omega) (by have:=hR.sg;omega),Int.zero_sub];refine qU 2 rfl ?_;refine ab.nil ⟨rfl,?_⟩;exact⟨yV Vs s.cols.length t,by rw[if_neg htr];rfl,by show (yV Vs s.cols.length t).length=_;rw[xA,hb1];omega⟩
   refine ZH.meet 5 (qB 20 64511) (fun V=>((Vr,OA Vs)::(Vc,CA s.cols)::b9 Vs s.rows)) (fun V=>[(3,.bx [.sl 1 (v.map ai)]),(6,.bx [.sl 1 [],.sl 1 [],dI 0,.sl 3 []]),(7,.d aN),(8,.bx [.v Vr,.v Vc,dI s.sg,ai s.fj]),(11,.d (dI c)),(12,.d (dI s.cols.length)),(13,.d (dI t)),(36,.d (dI most)),(37,.d (dI c)),(73,.d (.v Vr)),(74,.d (dI t)),(76,.d (.v Vr)),(77,.d (dI s.cols.length)),(79,.d (.v Vr)),(80,.d (dI s.cols.length)),(84,.d (.v Vr)),(85,.d (dI t)),(81,.d (.v (eO Vr (s.cols.length*1)))),(87,.d (.v (Vs.getD t undef)))]) (fun V=>?_) (fun N1_2=>?_)
   · refine ZH.all 10 (by kernel_rfl) rfl rfl (fun _=>rfl) ⟨rfl,trivial⟩ ?_;refine bF (fun B1 F1 w1 hS=>?_);refine ab.ba tok (.v (Vs.getD s.cols.length undef)) (hS.at (i:=0) rfl (by rw[ae];omega)) rfl rfl rfl rfl rfl rfl (bZ (by omega)) rfl ?_;refine ab.nil ⟨rfl,?_⟩;exact qL (N2_2 V) (by kernel_rfl) rfl ⟨rfl,trivial⟩
   refine ZH.meet 5 (qB 20 32767) (fun V=>((Vr,OA Vs)::(Vc,CA s.cols)::b9 Vs s.rows)) (fun V=>[(3,.bx [.sl 1 (v.map ai)]),(6,.bx [.sl 1 [],.sl 1 [],dI 0,.sl 3 []]),(7,.d aN),(8,.bx [.v Vr,.v Vc,dI s.sg,ai s.fj]),(11,.d (dI c)),(12,.d (dI s.cols.length)),(13,.d (dI t)),(36,.d (dI most)),(37,.d (dI c)),(73,.d (.v Vr)),(74,.d (dI t)),(76,.d (.v Vr)),(77,.d (dI s.cols.length)),(79,.d (.v Vr)),(80,.d (dI s.cols.length)),(84,.d (.v Vr)),(85,.d (dI t)),(82,.d (.v (Vs.getD s.cols.length undef))),(86,.d (.v (eO Vr (t*1))))]) (fun V=>?_) (fun N2_1=>?_)
   · refine ZH.all 15 (by kernel_rfl) rfl rfl (fun _=>rfl) ⟨rfl,trivial⟩ ?_;refine bF (fun B1 F1 w1 hS=>?_);refine ab.ba tok (.v (Vs.getD t undef)) (hS.at (i:=0) rfl (by rw[ae];omega)) rfl rfl rfl rfl rfl rfl (bZ (by omega)) rfl ?_;refine ab.nil ⟨rfl,?_⟩;exact qL (N2_2 V) (by kernel_rfl) rfl ⟨rfl,trivial⟩
   refine ZH.meet 6 (qB 20 63999) (fun V=>((Vr,OA Vs)::(Vc,CA s.cols)::b9 Vs s.rows)) (fun V=>[(3,.bx [.sl 1 (v.map ai)]),(6,.bx [.sl 1 [],.sl 1 [],dI 0,.sl 3 []]),(7,.d aN),(8,.bx [.v Vr,.v Vc,dI s.sg,ai s.fj]),(11,.d (dI c)),(12,.d (dI s.cols.length)),(13,.d (dI t)),(36,.d (dI most)),(37,.d (dI c)),(73,.d (.v Vr)),(74,.d (dI t)),(76,.d (.v Vr)),(77,.d (dI s.cols.length)),(79,.d (.v Vr)),(80,.d (dI s.cols.length)),(84,.d (.v Vr)),(85,.d (dI t)),(87,.d (.v (Vs.getD t undef)))]) (fun V=>?_) (fun N0_2=>?_)
   · refine ZH.all 9 (by kernel_rfl) rfl rfl (fun _=>rfl) ⟨rfl,trivial⟩ ?_;refine bF (fun B1 F1 w1 hS=>?_);refine ab.idxs tok (hS.at (i:=0) rfl (by rw[ae];omega)) rfl rfl rfl rfl (aj _) (by show s.cols.length<_;rw[ae];omega) ?_;refine ab.nil ⟨rfl,?_⟩;exact qL (N1_2 V) (by kernel_rfl) rfl ⟨rfl,trivial⟩
   refine ZH.meet 6 (qB 20 31743) (fun V=>((Vr,OA Vs)::(Vc,CA s.cols)::b9 Vs s.rows)) (fun V=>[(3,.bx [.sl 1 (v.map ai)]),(6,.bx [.sl 1 [],.sl 1 [],dI 0,.sl 3 []]),(7,.d aN),(8,.bx [.v Vr,.v Vc,dI s.sg,ai s.fj]),(11,.d (dI c)),(12,.d (dI s.cols.length)),(13,.d (dI t)),(36,.d (dI most)),(37,.d (dI c)),(73,.d (.v Vr)),(74,.d (dI t)),(76,.d (.v Vr)),(77,.d (dI s.cols.length)),(79,.d (.v Vr)),(80,.d (dI s.cols.length)),(84,.d (.v Vr)),(85,.d (dI t)),(81,.d (.v (eO Vr (s.cols.length*1)))),(86,.d (.v (eO Vr (t*1))))]) (fun V=>?_) (fun N1_1=>?_)
   · refine ZH.two 10 15 (by kernel_rfl) rfl rfl rfl rfl (fun _=>rfl) (fun _=>rfl) ⟨rfl,trivial⟩ ?_ ?_
     · refine bF (fun B1 F1 w1 hS=>?_);refine ab.ba tok (.v (Vs.getD s.cols.length undef)) (hS.at (i:=0) rfl (by rw[ae];omega)) rfl rfl rfl rfl rfl rfl (bZ (by omega)) rfl ?_;refine ab.nil ⟨rfl,?_⟩;exact qL (N2_1 V) (by kernel_rfl) rfl ⟨rfl,trivial⟩
     · refine bF (fun B1 F1 w1 hS=>?_);refine ab.ba tok (.v (Vs.getD t undef)) (hS.at (i:=0) rfl (by rw[ae];omega)) rfl rfl rfl rfl rfl rfl (bZ (by omega)) rfl ?_;refine ab.nil ⟨rfl,?_⟩;exact qL (N1_2 V) (by kernel_rfl) rfl ⟨rfl,trivial⟩
   refine ZH.meet 6 (qB 20 16383) (fun V=>((Vr,OA Vs)::(Vc,CA s.cols)::b9 Vs s.rows)) (fun V=>[(3,.bx [.sl 1 (v.map ai)]),(6,.bx [.sl 1 [],.sl 1 [],dI 0,.sl 3 []]),(7,.d aN),(8,.bx [.v Vr,.v Vc,dI s.sg,ai s.fj]),(11,.d (dI c)),(12,.d (dI s.cols.length)),(13,.d (dI t)),(36,.d (dI most)),(37,.d (dI c)),(73,.d (.v Vr)),(74,.d (dI t)),(76,.d (.v Vr)),(77,.d (dI s.cols.length)),(79,.d (.v Vr)),(80,.d (dI s.cols.length)),(84,.d (.v Vr)),(85,.d (dI t)),(82,.d (.v (Vs.getD s.cols.length undef)))]) (fun V=>?_) (fun N2_0=>?_)
   · refine ZH.all 14 (by kernel_rfl) rfl rfl (fun _=>rfl) ⟨rfl,trivial⟩ ?_;refine bF (fun B1 F1 w1 hS=>?_);refine ab.idxs tok (hS.at (i:=0) rfl (by rw[ae];omega)) rfl rfl rfl rfl (aj _) (by show t<_;rw[ae];omega) ?_;refine ab.nil ⟨rfl,?_⟩;exact qL (N2_1 V) (by kernel_rfl) rfl ⟨rfl,trivial⟩
   refine ZH.meet 7 (qB 20 31231) (fun V=>((Vr,OA Vs)::(Vc,CA s.cols)::b9 Vs s.rows)) (fun V=>[(3,.bx [.sl 1 (v.map ai)]),(6,.bx [.sl 1 [],.sl 1 [],dI 0,.sl 3 []]),(7,.d aN),(8,.bx [.v Vr,.v Vc,dI s.sg,ai s.fj]),(11,.d (dI c)),(12,.d (dI s.cols.length)),(13,.d (dI t)),(36,.d (dI most)),(37,.d (dI c)),(73,.d (.v Vr)),(74,.d (dI t)),(76,.d (.v Vr)),(77,.d (dI s.cols.length)),(79,.d (.v Vr)),(80,.d (dI s.cols.length)),(84,.d (.v Vr)),(85,.d (dI t)),(86,.d (.v (eO Vr (t*1))))]) (fun V=>?_) (fun N0_1=>?_)
   · refine ZH.two 9 15 (by kernel_rfl) rfl rfl rfl rfl (fun _=>rfl) (fun _=>rfl) ⟨rfl,trivial⟩ ?_ ?_
     · refine bF (fun B1 F1 w1 hS=>?_);refine ab.idxs tok (hS.at (i:=0) rfl (by rw[ae];omega)) rfl rfl rfl rfl (aj _) (by show s.cols.length<_;rw[ae];omega) ?_;refine ab.nil ⟨rfl,?_⟩;exact qL (N1_1 V) (by kernel_rfl) rfl ⟨rfl,trivial⟩
     · refine bF (fun B1 F1 w1 hS=>?_);refine ab.ba tok (.v (Vs.getD t undef)) (hS.at (i:=0) rfl (by rw[ae];omega)) rfl rfl rfl rfl rfl rfl (bZ (by omega)) rfl ?_;refine ab.nil ⟨rfl,?_⟩;exact qL (N0_2 V) (by kernel_rfl) rfl ⟨rfl,trivial⟩
   refine ZH.meet 7 (qB 20 15359) (fun V=>((Vr,OA Vs)::(Vc,CA s.cols)::b9 Vs s.rows)) (fun V=>[(3,.bx [.sl 1 (v.map ai)]),(6,.bx [.sl 1 [],.sl 1 [],dI 0,.sl 3 []]),(7,.d aN),(8,.bx [.v Vr,.v Vc,dI s.sg,ai s.fj]),(11,.d (dI c)),(12,.d (dI s.cols.length)),(13,.d (dI t)),(36,.d (dI most)),(37,.d (dI c)),(73,.d (.v Vr)),(74,.d (dI t)),(76,.d (.v Vr)),(77,.d (dI s.cols.length)),(79,.d (.v Vr)),(80,.d (dI s.cols.length)),(84,.d (.v Vr)),(85,.d (dI t)),(81,.d (.v (eO Vr (s.cols.length*1))))]) (fun V=>?_) (fun N1_0=>?_)
   · refine ZH.two 10 14 (by kernel_rfl) rfl rfl rfl rfl (fun _=>rfl) (fun _=>rfl) ⟨rfl,trivial⟩ ?_ ?_
     · refine bF (fun B1 F1 w1 hS=>?_);refine ab.ba tok (.v (Vs.getD s.cols.length undef)) (hS.at (i:=0) rfl (by rw[ae];omega)) rfl rfl rfl rfl rfl rfl (bZ (by omega)) rfl ?_;refine ab.nil ⟨rfl,?_⟩;exact qL (N2_0 V) (by kernel_rfl) rfl ⟨rfl,trivial⟩
     · refine bF (fun B1 F1 w1 hS=>?_);refine ab.idxs tok (hS.at (i:=0) rfl (by rw[ae];omega)) rfl rfl rfl rfl (aj _) (by show t<_;rw[ae];omega) ?_;refine ab.nil ⟨rfl,?_⟩;exact qL (N1_1 V) (by kernel_rfl) rfl ⟨rfl,trivial⟩
   refine ZH.meet 8 (qB 20 14847) (fun V=>((Vr,OA Vs)::(Vc,CA s.cols)::b9 Vs s.rows)) (fun V=>[(3,.bx [.sl 1 (v.map ai)]),(6,.bx [.sl 1 [],.sl 1 [],dI 0,.sl 3 []]),(7,.d aN),(8,.bx [.v Vr,.v Vc,dI s.sg,ai s.fj]),(11,.d (dI c)),(12,.d (dI s.cols.length)),(13,.d (dI t)),(36,.d (dI most)),(37,.d (dI c)),(73,.d (.v Vr)),(74,.d (dI t)),(76,.d (.v Vr)),(77,.d (dI s.cols.length)),(79,.d (.v Vr)),(80,.d (dI s.cols.length)),(84,.d (.v Vr)),(85,.d (dI t))]) (fun V=>?_) (fun N0_0=>?_)
   · refine ZH.two 9 14 (by kernel_rfl) rfl rfl rfl rfl (fun _=>rfl) (fun _=>rfl) ⟨rfl,trivial⟩ ?_ ?_
     · refine bF (fun B1 F1 w1 hS=>?_);refine ab.idxs tok (hS.at (i:=0) rfl (by rw[ae];omega)) rfl rfl rfl rfl (aj _) (by show s.cols.length<_;rw[ae];omega) ?_;refine ab.nil ⟨rfl,?_⟩;exact qL (N1_0 V) (by kernel_rfl) rfl ⟨rfl,trivial⟩
     · refine bF (fun B1 F1 w1 hS=>?_);refine ab.idxs tok (hS.at (i:=0) rfl (by rw[ae];omega)) rfl rfl rfl rfl (aj _) (by show t<_;rw[ae];omega) ?_;refine ab.nil ⟨rfl,?_⟩;exact qL (N0_1 V) (by kernel_rfl) rfl ⟨rfl,trivial⟩
   exact qL (N0_0 gu) (by kernel_rfl) rfl ⟨rfl,trivial⟩
 obtain ⟨sg,hsg⟩: ∃sg,(if t=s.cols.length then s.sg else -s.sg)=sg:=⟨_,rfl⟩;obtain ⟨r,hrr⟩: ∃r,s.cols.length=r:=⟨_,rfl⟩;have hrb:r<b.length:=by omega
 have hrN:(b.getD r []).length=N:=hb2 r hrb;have okc:=oP V hR.fj (by rw[hpr];exact hb3 _ _) okd;rw[hsg] at hst;rw[hrr] at hst hpr hE okv oks okt;show AZ _ _ _ _ _ _ _ ((Vr,OA Ws)::(Vc,CA s.cols)::b9 Ws b) [(3,.bx [.sl 1 (v.map ai)]),(6,.bx [.sl 1 [],.sl 1 [],dI 0,.sl 3 []]),(7,.d aN),(8,.bx [.v Vr,.v Vc,dI (if t=s.cols.length then s.sg else -s.sg),ai s.fj]),(11,.d (dI c)),(12,.d (dI s.cols.length)),(36,.d (dI most)),(37,.d (dI c))];rw[hsg,hrr];refine AZ.seq (AZ.rl (fun B1 F1 w1 hS=>?_));refine qU 3 rfl ?_;refine ab.idxs tok (hS.at (i:=0) rfl (by rw[ae];omega)) rfl rfl rfl rfl (aj _) (by show r<_;rw[ae];omega) ?_;refine ab.ba tok (.v (Ws.getD r undef)) (hS.at (i:=0) rfl (by rw[ae];omega)) rfl rfl rfl rfl rfl rfl (bZ (by omega)) rfl ?_;refine qU 1 rfl ?_;refine ab.idxs tok (hS.at (i:=r+2) (bO (Vs:=Ws) (by omega) hrb) (by rw[ae];omega)) rfl rfl rfl rfl (aj c) (by rw[ae];omega) ?_;refine ab.ba tok (ai (aW b r c)) (hS.at (i:=r+2) (bO (Vs:=Ws) (by omega) hrb) (by rw[ae];omega)) rfl rfl rfl rfl rfl rfl (hel hb2 hrb c hcN) rfl ?_;rw[← hpr];refine qU 1 rfl ?_;refine ab.nil ⟨rfl,?_⟩;refine AZ.seq (AZ.cO (fun B1 F1 w1=>?_));refine qU 1 rfl ?_;refine ab.nil ⟨rfl,?_⟩;refine AZ.seq (AZ.seq ?_);refine AZ.cO (fun B1 F1 w1=>?_);refine qU 4 rfl ?_;refine ab.call tok rfl rfl rfl rfl okc ?_;refine qU 6 rfl ?_;refine ab.nil ⟨rfl,?_⟩;refine AZ.seq (AZ.cO (fun B1 F1 w1=>?_));refine qU 1 rfl ?_;refine ab.err tok rfl rfl rfl rfl rfl ?_;refine ab.nil ⟨rfl,?_⟩;refine AZ.aB rfl ?_;refine AZ.skip ?_;generalize eg v s.fj p=fj at *;obtain ⟨row,hrow⟩: ∃row,b.getD r []=row:=⟨_,rfl⟩;have hz:=qe v row p;have hsr: ∀k,aW b r k=row.getD k []:=fun k=>by unfold aW;rw[hrow]
 have hb0:b9 Ws b=b9 Ws (b.set r row):=by rw[← hrow,mS hrb]
 have hgr: ∀q:List NQ,(b9 Ws (b.set r q))[r]?=some (Ws.getD r undef,et q):=fun q=>by
  rw[bO (by omega) (by simpa using hrb),eH,if_pos ⟨rfl,hrb⟩]
 rw[hrow] at hE hrN okv;rw[hb0];refine AZ.seq (AZ.seq ?_);refine AZ.rl (fun B1 F1 w1 hS=>?_);refine qU 3 rfl ?_;refine ab.idxs tok (hS.at (i:=0) rfl (by rw[ae];omega)) rfl rfl rfl rfl (aj _) (by show r<_;rw[ae];omega) ?_;refine ab.ba tok (.v (Ws.getD r undef)) (hS.at (i:=0) rfl (by rw[ae];omega)) rfl rfl rfl rfl rfl rfl (bZ (by omega)) rfl ?_;refine ab.lens tok (hS.at (i:=r+2) (hgr row) (by rw[ae];omega)) rfl rfl rfl rfl ?_;rw[ae,hrN];refine qU 1 rfl ?_;refine ab.nil ⟨rfl,?_⟩;refine AZ.block ?_;refine AZ.aF [3,6,7,8,11,12,14,36,37,120,121] (fun k:Nat=>(((Vr,OA Ws)::(Vc,CA s.cols)::b9 Ws (b.set r (ij (x5 v row p) row k))),[(3,.bx [.sl 1 (v.map ai)]),(6,.bx [.sl 1 [],.sl 1 [],dI 0,.sl 3 []]),(7,.d aN),(8,.bx [.v Vr,.v Vc,dI sg,ai fj]),(11,.d (dI c)),(12,.d (dI r)),(14,.d (ai p)),(36,.d (dI most)),(37,.d (dI c)),(120,.d (dI N)),(121,.d (dI k))])) (fun k=>k≤N) (fun k=>N-k) 0 (by rw[rC];rfl) (Nat.zero_le _) (fun k hk=>?_);show AZ _ _ _ _ _ _ _ ((Vr,OA Ws)::(Vc,CA s.cols)::b9 Ws (b.set r (ij (x5 v row p) row k))) [(3,.bx [.sl 1 (v.map ai)]),(6,.bx [.sl 1 [],.sl 1 [],dI 0,.sl 3 []]),(7,.d aN),(8,.bx [.v Vr,.v Vc,dI sg,ai fj]),(11,.d (dI c)),(12,.d (dI r)),(14,.d (ai p)),(36,.d (dI most)),(37,.d (dI c)),(120,.d (dI N)),(121,.d (dI k))];refine AZ.seq (AZ.cO (fun B1 F1 w1=>?_));refine qU 1 rfl ?_;refine ab.nil ⟨rfl,?_⟩;refine AZ.seq ?_;refine AZ.cond rfl (fun h=>?_) (fun h=>?_)
 · have hkN:k<N:=by have:=ar h;omega
   have hpl:=qi hz (i:=k) (by omega);have hpg:=uX hz (show k<row.length by omega) [];have hps:=uW hz (show k<row.length by omega) (d:=[]) (qf v row p (show k<row.length by omega));have cd:=AM V (a:=row.getD k []) (b:=p) (by rw[← hrow];exact hb3 r k) (by rw[hpr];exact hb3 _ _) (by have:=okv k (by omega);rw[hsr] at this;exact this);generalize ij (x5 v row p) row k=q at *;generalize row.getD k []=X at *;generalize mG v X p=Y at *;refine AZ.skip (AZ.seq ?_);refine AZ.block (AZ.seq ?_);refine AZ.cO (fun B1 F1 w1=>?_);refine qU 2 rfl ?_;refine ab.nil ⟨rfl,?_⟩;refine AZ.seq (AZ.any aP (fP.oG [(19,20)] (by kernel_rfl) (fun _ _ _ h=>h) (fun _ _ h=>h) (fP.kE 20 (by kernel_rfl) (fun B1 F1 w1 hS=>?_))));have hS0:=hS.at (i:=0) rfl (by rw[ae];omega);have hS1:=hS.at (i:=r+2) (hgr q) (by rw[ae];omega);refine qP 3 rfl ?_;refine af.idxs tok hS0 rfl rfl rfl rfl rfl (aj r) (by rw[ae];omega) ?_;refine af.ba tok (.v (Ws.getD r undef)) hS0 rfl rfl rfl rfl rfl rfl rfl (bZ (by omega)) rfl ?_;refine qP 5 rfl ?_;refine af.idxs tok hS0 rfl rfl rfl rfl rfl (aj r) (by rw[ae];omega) ?_;refine af.ba tok (.v (Ws.getD r undef)) hS0 rfl rfl rfl rfl rfl rfl rfl (bZ (by omega)) rfl ?_;refine qP 1 rfl ?_;refine af.idxs tok hS1 rfl rfl rfl rfl rfl (aj k) (by rw[ae];omega) ?_;refine af.ba tok (ai (q.getD k [])) hS1 rfl rfl rfl rfl rfl rfl rfl (getM ai (by omega)) rfl ?_;rw[hpg];refine qP 1 rfl ?_;refine af.call tok rfl rfl rfl rfl rfl cd ?_;refine qP 3 rfl ?_;refine af.nil ⟨rfl,?_⟩;refine ah.to [129,130,142,143,3,6,7,8,11,12,14,36,37,120,121] [(129,.d (.v (Ws.getD r undef))),(130,.d (dI k)),(142,.d (ai Y)),(143,.d aN),(3,.bx [.sl 1 (v.map ai)]),(6,.bx [.sl 1 [],.sl 1 [],dI 0,.sl 3 []]),(7,.d aN),(8,.bx [.v Vr,.v Vc,dI sg,ai fj]),(11,.d (dI c)),(12,.d (dI r)),(14,.d (ai p)),(36,.d (dI most)),(37,.d (dI c)),(120,.d (dI N)),(121,.d (dI k))] rfl ?_;refine ah.vH 1 rfl (fun B1 F1 w1 hS=>?_);refine ab.idxs tok (hS.at (i:=r+2) (hgr q) (by rw[ae];omega)) rfl rfl rfl rfl (aj k) (by rw[ae];omega) ?_;refine ab.nil ⟨rfl,?_⟩;refine ah.cT 129 (r+2) (hgr q) rfl rfl ?_;refine ah.el (k:=k) tok 129 144 rfl (List.Mem.head _) rfl rfl rfl (by rw[ae];omega) rfl ?_;refine ah.cut 1 rfl (fun B1 F1 w1=>?_);refine ab.uc tok Y rfl rfl rfl (by omega) ?_;rw[hps];refine ab.nil ⟨rfl,?_⟩;refine ah.back 129 (r+2) rfl rfl rfl (List.Mem.head _) (List.getElem?_set_self (by have:=(List.getElem?_eq_some_iff.1 (hgr q)).1;simp only[List.length_cons];omega)) ?_
   refine ah.jd (R':=((Vr,OA Ws)::(Vc,CA s.cols)::b9 Ws (b.set r (ij (x5 v row p) row (k+1))))) (by
    show (Vr,OA Ws)::(Vc,CA s.cols)::((b9 Ws (b.set r q)).set r _).set r _=_
    rw[List.set_set,tN (by omega) (by simpa using hrb),List.set_set]) ?_
   refine ah.cut 1 rfl (fun B1 F1 w1=>?_);refine qU 1 rfl ?_;refine ab.nil ⟨rfl,?_⟩;refine ah.nil ?_;refine AZ.to [3,6,7,8,11,12,14,36,37,15,120,121] [(3,.bx [.sl 1 (v.map ai)]),(6,.bx [.sl 1 [],.sl 1 [],dI 0,.sl 3 []]),(7,.d aN),(8,.bx [.v Vr,.v Vc,dI sg,ai fj]),(11,.d (dI c)),(12,.d (dI r)),(14,.d (ai p)),(36,.d (dI most)),(37,.d (dI c)),(15,.d aN),(120,.d (dI N)),(121,.d (dI k))] rfl ?_;refine AZ.seq (AZ.cO (fun B1 F1 w1=>?_));refine qU 1 rfl ?_;refine ab.err tok rfl rfl rfl rfl rfl ?_;refine ab.nil ⟨rfl,?_⟩;refine AZ.aB rfl ?_;refine AZ.skip (AZ.cO (fun B1 F1 w1=>?_));refine qU 1 rfl ?_;rw[aH (x:=(k:Int)+1) (by omega) (by omega)];refine qU 1 rfl ?_;refine ab.nil ⟨rfl,?_⟩;exact⟨k+1,rfl,hkN,by omega⟩
 have hkN:k=N:=by have:=aA h;omega
 subst hkN;rw[show ij (x5 v row p) row k=x5 v row p by rw[← hrN];exact uY hz,← hE];refine AZ.exit ?_;have hWe:Ws.length=e.length:=by omega
 have hre:r<e.length:=by omega
 have he2c:e.length=s.rows.length:=by omega
 refine AZ.seq (AZ.seq ?_);refine AZ.rl (fun B1 F1 w1 hS=>?_);refine qU 2 rfl ?_;refine ab.lens tok (hS.at (i:=0) rfl (by rw[ae];omega)) rfl rfl rfl rfl ?_;rw[ae,hWe];refine qU 1 rfl ?_;refine ab.nil ⟨rfl,?_⟩;refine AZ.block (AZ.aF [3,6,7,8,11,12,36,37,152,153] (fun i:Nat=>(((Vr,OA Ws)::(Vc,CA s.cols)::b9 Ws (cu v e r c i)),[(3,.bx [.sl 1 (v.map ai)]),(6,.bx [.sl 1 [],.sl 1 [],dI 0,.sl 3 []]),(7,.d aN),(8,.bx [.v Vr,.v Vc,dI sg,ai fj]),(11,.d (dI c)),(12,.d (dI r)),(36,.d (dI most)),(37,.d (dI c)),(152,.d (dI e.length)),(153,.d (dI i))])) (fun i=>i≤e.length) (fun i=>e.length-i) 0 rfl (Nat.zero_le _) (fun i hi=>?_));show AZ _ _ _ _ _ _ _ ((Vr,OA Ws)::(Vc,CA s.cols)::b9 Ws (cu v e r c i)) [(3,.bx [.sl 1 (v.map ai)]),(6,.bx [.sl 1 [],.sl 1 [],dI 0,.sl 3 []]),(7,.d aN),(8,.bx [.v Vr,.v Vc,dI sg,ai fj]),(11,.d (dI c)),(12,.d (dI r)),(36,.d (dI most)),(37,.d (dI c)),(152,.d (dI e.length)),(153,.d (dI i))];refine AZ.seq (AZ.cO (fun B1 F1 w1=>?_));refine qU 1 rfl ?_;refine ab.nil ⟨rfl,?_⟩;refine AZ.seq ?_;refine AZ.cond rfl (fun h=>?_) (fun h=>?_)
 · have hie:i<e.length:=by have:=ar h;omega
   have hm1:=j9 v e r c i;have hm2:=nY (v:=v) (r:=r) (c:=c) he2 i (by omega);have hm3:=tJ V (r:=r) (c:=c) he3 i;have hmi:=fG v e r c i i (.inl (ao _));have hmr:=fG v e r c i r (.inr rfl);have hnx:cu v e r c (i+1)=if i≠r∧jI v (aW (cu v e r c i) i c)≠0 then (cu v e r c i).set i (eL v ((cu v e r c i).getD i []) ((cu v e r c i).getD r []) (aW (cu v e r c i) i c)) else cu v e r c i:=rfl
   have iX:aW (cu v e r c i) i c=aW e i c:=tK v e r c i c;generalize cu v e r c i=m at *;refine AZ.skip (AZ.seq ?_);refine AZ.block (AZ.seq ?_);refine AZ.cO (fun B1 F1 w1=>?_);refine qU 2 rfl ?_;refine ab.nil ⟨rfl,?_⟩;refine AZ.seq (AZ.any aP (fP.kE 16 (by kernel_rfl) (fun B1 F1 w1 hS=>?_)));have hS0:=hS.at (i:=0) rfl (by rw[ae];omega);refine qP 3 rfl ?_;by_cases hir:i=r
   · rw[if_neg (fun g=>g.1 hir)] at hnx;rw[bne_eq_false_iff_eq.2 (show (i:Int)=(r:Int) by omega)];refine qP 13 rfl ?_;refine af.nil ⟨rfl,?_⟩;refine ah.nil ?_;refine AZ.aB rfl ?_;refine AZ.skip (AZ.cO (fun B1 F1 w1=>?_));refine qU 1 rfl ?_;rw[aH (x:=(i:Int)+1) (by omega) (by omega)];refine qU 1 rfl ?_;refine ab.nil ⟨rfl,?_⟩;exact⟨i+1,Prod.ext (show ((Vr,OA Ws)::(Vc,CA s.cols)::b9 Ws m)=((Vr,OA Ws)::(Vc,CA s.cols)::b9 Ws (cu v e r c (i+1))) by rw[hnx]) rfl,hie,by omega⟩
   have hmiN:(m.getD i []).length=k:=hm2 i (by omega);have hmrN:(m.getD r []).length=k:=hm2 r (by omega);have hgi:=bO (Vs:=Ws) (a:=m) (j:=i) (by omega) (by omega);have hgr2:=bO (Vs:=Ws) (a:=m) (j:=r) (by omega) (by omega);have hS1:=hS.at (i:=i+2) hgi (by rw[ae];omega);have cs:=jW V (hm3 i c) (by rw[iX];exact oks i (by omega) (by omega));have okt2:=okt i (by omega) (by omega);rw[← iX,← hmi,← hmr] at okt2;rw[bne_iff_ne.2 (show (i:Int)≠(r:Int) by omega)];refine qP 5 rfl ?_;refine af.idxs tok hS0 rfl rfl rfl rfl rfl (aj i) (by rw[ae];omega) ?_;refine af.ba tok (.v (Ws.getD i undef)) hS0 rfl rfl rfl rfl rfl rfl rfl (bZ (by omega)) rfl ?_;refine qP 1 rfl ?_;refine af.idxs tok hS1 rfl rfl rfl rfl rfl (aj c) (by rw[ae];omega) ?_;refine af.ba tok (ai (aW m i c)) hS1 rfl rfl rfl rfl rfl rfl rfl (hel hm2 (by omega) c hcN) rfl ?_;refine af.call tok rfl rfl rfl rfl rfl cs ?_;refine qP 2 rfl ?_;refine af.nil ⟨rfl,?_⟩;refine ah.nil ?_;refine AZ.cond rfl (fun h=>?_) (fun h=>?_);rotate_left
   · have hg:jI v (aW m i c)=0:=bne_eq_false_iff_eq.1 h;rw[if_neg (fun g=>g.2 hg)] at hnx;refine AZ.skip (AZ.cO (fun B1 F1 w1=>?_));refine qU 1 rfl ?_;rw[aH (x:=(i:Int)+1) (by omega) (by omega)];refine qU 1 rfl ?_;refine ab.nil ⟨rfl,?_⟩;exact⟨i+1,Prod.ext (show ((Vr,OA Ws)::(Vc,CA s.cols)::b9 Ws m)=((Vr,OA Ws)::(Vc,CA s.cols)::b9 Ws (cu v e r c (i+1))) by rw[hnx]) rfl,hie,by omega⟩
   have hg:jI v (aW m i c)≠0:=bne_iff_ne.1 h;rw[if_pos ⟨hir,hg⟩] at hnx;have ct:=uZ (Ws.getD i undef) (Ws.getD r undef) V (xs:=m.getD i []) (ys:=m.getD r []) (c:=aW m i c) (by omega) (by omega) (by omega) (hm3 i) (hm3 r) (hm3 i c) (okt2 (by rw[iX] at hg ⊢; exact hg));refine AZ.seq (AZ.any aP (fP.kE 19 (by kernel_rfl) (fun B1 F1 w1 hS=>?_)));have hS0:=hS.at (i:=0) rfl (by rw[ae];omega);have hS1:=hS.at (i:=i+2) hgi (by rw[ae];omega);refine qP 4 rfl ?_;refine af.idxs tok hS0 rfl rfl rfl rfl rfl (aj i) (by rw[ae];omega) ?_;refine af.ba tok (.v (Ws.getD i undef)) hS0 rfl rfl rfl rfl rfl rfl rfl (bZ (by omega)) rfl ?_;refine qP 3 rfl ?_;refine af.idxs tok hS0 rfl rfl rfl rfl rfl (aj r) (by rw[ae];omega) ?_;refine af.ba tok (.v (Ws.getD r undef)) hS0 rfl rfl rfl rfl rfl rfl rfl (bZ (by omega)) rfl ?_;refine qP 3 rfl ?_;refine af.idxs tok hS0 rfl rfl rfl rfl rfl (aj i) (by rw[ae];omega) ?_;refine af.ba tok (.v (Ws.getD i undef)) hS0 rfl rfl rfl rfl rfl rfl rfl (bZ (by omega)) rfl ?_;refine qP 1 rfl ?_;refine af.idxs tok hS1 rfl rfl rfl rfl rfl (aj c) (by rw[ae];omega) ?_;refine af.ba tok (ai (aW m i c)) hS1 rfl rfl rfl rfl rfl rfl rfl (hel hm2 (by omega) c hcN) rfl ?_;refine af.nil ⟨rfl,?_⟩;refine ah.to [172,177,182,190,3,6,7,8,11,12,36,37,152,153] [(172,.d (bA v)),(177,.d (.v (Ws.getD i undef))),(182,.d (.v (Ws.getD r undef))),(190,.d (ai (aW m i c))),(3,.bx [.sl 1 (v.map ai)]),(6,.bx [.sl 1 [],.sl 1 [],dI 0,.sl 3 []]),(7,.d aN),(8,.bx [.v Vr,.v Vc,dI sg,ai fj]),(11,.d (dI c)),(12,.d (dI r)),(36,.d (dI most)),(37,.d (dI c)),(152,.d (dI e.length)),(153,.d (dI i))] rfl ?_;refine ah.fR tok [i+2,r+2] rfl rfl rfl rfl (H7 hgi hgr2) (by simp[hir]) rfl ct (fun res R1 hP=>by rw[hP.2];exact ao _) (fun res R1 hP=>?_);obtain ⟨rfl,rfl⟩:=hP
   refine ah.jd (R':=(Vr,OA Ws)::(Vc,CA s.cols)::b9 Ws (cu v e r c (i+1))) (by
    show ((Vr,OA Ws)::(Vc,CA s.cols)::((b9 Ws m).set i _).set r _)++[]=_
    rw[List.append_nil,FT (by omega) (by omega) (by omega) hir,hnx]) ?_
   refine ah.cut 1 rfl (fun B1 F1 w1=>?_);refine qU 1 rfl ?_;refine ab.nil ⟨rfl,?_⟩;refine ah.nil ?_;refine AZ.seq (AZ.cO (fun B1 F1 w1=>?_));refine qU 1 rfl ?_;refine ab.err tok rfl rfl rfl rfl rfl ?_;refine ab.nil ⟨rfl,?_⟩;refine AZ.aB rfl ?_;refine AZ.skip (AZ.cO (fun B1 F1 w1=>?_));refine qU 1 rfl ?_;rw[aH (x:=(i:Int)+1) (by omega) (by omega)];refine qU 1 rfl ?_;refine ab.nil ⟨rfl,?_⟩;exact⟨i+1,rfl,hie,by omega⟩
 have hie:i=e.length:=by have:=aA h;omega
 subst hie;refine AZ.exit ?_;refine AZ.region ?_;refine ah.cut 4 rfl (fun B1 F1 w1=>?_);refine qU 3 rfl ?_;refine ab.e7 tok rfl rfl rfl rfl rfl ?_;refine ab.nil ⟨rfl,?_⟩;refine ah.cT 198 1 rfl rfl rfl ?_;refine ah.cut 1 rfl (fun B1 F1 w1=>?_);refine ab.gg tok rfl rfl rfl rfl rfl rfl (by show ((s.cols.map (fun c:Nat=>dI c)).length+1)*8≤_;rw[ae];omega) (by show (s.cols.map (fun c:Nat=>dI c)).length+1≤_;rw[ae];omega) ?_;refine ab.nil ⟨rfl,?_⟩;refine ah.vg 201 1 rfl rfl rfl rfl (fun Vq=>?_)
 refine ah.jd (R':=(Vr,OA Ws)::(Vq,CA (s.cols++[c]))::b9 Ws (cu v e r c e.length)) (by
  show (Vr,OA Ws)::(Vq,AV.ow 3 (s.cols.map (fun c:Nat=>dI c)++[dI c]))::b9 Ws (cu v e r c e.length)=_
  rw[show s.cols.map (fun c:Nat=>dI c)++[dI (c:Int)]=(s.cols++[c]).map (fun c:Nat=>dI c) by simp]) ?_
 refine ah.cut 2 rfl (fun B1 F1 w1=>?_);refine qU 2 rfl ?_;refine ab.nil ⟨rfl,?_⟩;refine ah.nil ?_;refine AZ.cO (fun B1 F1 w1=>?_);refine qU 1 rfl ?_;rw[aH (x:=(c:Int)+1) (by omega) (by omega)];refine qU 1 rfl ?_;refine ab.nil ⟨rfl,?_⟩;exact⟨(c+1,Vr,Vq,Ws),by rw[hst];rfl,⟨hcm,by show Ws.length=a.length;omega⟩,by show most-(c+1)<most-c;omega⟩
end Lift
namespace Lift
open Go Go.Proofs
theorem qj(v:List NQ)(most:Nat)(hm:most≤1000000):Pure Tryz.prog 46 [bA v,bh [],dI most] (.tu [FN ⟨[],[],1,[1]⟩,aN]):=by
 refine qJ 205 Tryz.func46 rfl rfl rfl rfl (by kernel_rfl) (fun B F0 w0=>?_);have cone:=rZ (Qr ((1:Int):Rat)) (k:=1) (jt _ (by have:=nD;rw[show ((1:Int):Rat)=1 from rfl];omega)) (by decide) (by decide) (CN _);rw[cE,show Jj ((1:Int):Rat)=[1] from rfl] at cone;refine qX 3 rfl ?_;refine qI (AW.region ?_);refine ab.call tok rfl rfl rfl rfl (j5 1 (by decide) (by decide)) ?_;refine ab.call tok rfl rfl rfl rfl cone ?_;refine qU 3 rfl ?_;refine qI (qX 3 rfl ?_);refine ab.nil ?_;refine AW.block (AW.aF [2,3,6,7,8,22,23,24] (fun _:Unit=>[(2,.d (dI most)),(3,.bx [.sl 1 (v.map ai)]),(6,.bx [.sl 1 [],.sl 1 [],dI 0,.sl 3 []]),(7,.d aN),(8,.bx [.sl 1 [],.sl 1 [],dI 1,ai [1]]),(22,.d (bh [])),(23,.d (dI 0)),(24,.d (dI 0))]) (fun _=>True) (fun _=>0) () rfl trivial (fun _ _=>?_));show AW _ _ _ _ _ _ _ [(2,.d (dI most)),(3,.bx [.sl 1 (v.map ai)]),(6,.bx [.sl 1 [],.sl 1 [],dI 0,.sl 3 []]),(7,.d aN),(8,.bx [.sl 1 [],.sl 1 [],dI 1,ai [1]]),(22,.d (bh [])),(23,.d (dI 0)),(24,.d (dI 0))];refine qX 1 rfl ?_;refine qI (AW.aB rfl ?_);refine AW.exit (AW.seq ?_);refine qX 2 rfl ?_;refine ab.nil ?_;refine AW.block (AW.aF [3,6,7,8,36,37] (fun c:Nat=>[(3,.bx [.sl 1 (v.map ai)]),(6,.bx [.sl 1 [],.sl 1 [],dI 0,.sl 3 []]),(7,.d aN),(8,.bx [.sl 1 [],.sl 1 [],dI 1,ai [1]]),(36,.d (dI most)),(37,.d (dI c))]) (fun c=>c≤most) (fun c=>most-c) 0 rfl (Nat.zero_le _) (fun c hc=>?_));show AW _ _ _ _ _ _ _ [(3,.bx [.sl 1 (v.map ai)]),(6,.bx [.sl 1 [],.sl 1 [],dI 0,.sl 3 []]),(7,.d aN),(8,.bx [.sl 1 [],.sl 1 [],dI 1,ai [1]]),(36,.d (dI most)),(37,.d (dI c))];refine qX 1 rfl ?_;refine qI (AW.cond rfl (fun h=>?_) (fun h=>?_));rotate_left
 · refine AW.exit ?_;refine qX 3 rfl ?_;exact qN rfl
 have hcm:c<most:=by have:=ar h;omega
 refine AW.skip (AW.seq (AW.block ?_));refine qX 2 rfl ?_;refine qK 4 rfl ?_;refine qK 2 rfl ?_;refine ab.nil ?_;refine AW.cut [3,6,7,8,12,13,36,37] (fun _:Unit=>[(3,.bx [.sl 1 (v.map ai)]),(6,.bx [.sl 1 [],.sl 1 [],dI 0,.sl 3 []]),(7,.d aN),(8,.bx [.sl 1 [],.sl 1 [],dI 1,ai [1]]),(12,.d (dI 0)),(13,.d (dI 0)),(36,.d (dI most)),(37,.d (dI c))]) (fun _=>True) ?_ (fun _ _=>?_)
 · refine AW.block (AW.aF [3,6,7,8,11,12,13,36,37] (fun _:Unit=>[(3,.bx [.sl 1 (v.map ai)]),(6,.bx [.sl 1 [],.sl 1 [],dI 0,.sl 3 []]),(7,.d aN),(8,.bx [.sl 1 [],.sl 1 [],dI 1,ai [1]]),(11,.d (dI c)),(12,.d (dI 0)),(13,.d (dI 0)),(36,.d (dI most)),(37,.d (dI c))]) (fun _=>True) (fun _=>0) () rfl trivial (fun _ _=>?_));show AW _ _ _ _ _ _ _ [(3,.bx [.sl 1 (v.map ai)]),(6,.bx [.sl 1 [],.sl 1 [],dI 0,.sl 3 []]),(7,.d aN),(8,.bx [.sl 1 [],.sl 1 [],dI 1,ai [1]]),(11,.d (dI c)),(12,.d (dI 0)),(13,.d (dI 0)),(36,.d (dI most)),(37,.d (dI c))];refine AW.seq (AW.seq ?_);refine AW.draw aP 18 (by kernel_rfl) ?_;refine qP 18 rfl ?_;refine af.nil ?_;refine ab.nil ?_;refine AW.aB rfl ?_;exact AW.exit ⟨(),rfl,trivial⟩
 show AW _ _ _ _ _ _ _ [(3,.bx [.sl 1 (v.map ai)]),(6,.bx [.sl 1 [],.sl 1 [],dI 0,.sl 3 []]),(7,.d aN),(8,.bx [.sl 1 [],.sl 1 [],dI 1,ai [1]]),(12,.d (dI 0)),(13,.d (dI 0)),(36,.d (dI most)),(37,.d (dI c))];refine AW.seq (qX 5 rfl ?_);refine ab.nil ?_;refine AW.aL rfl ?_;refine AW.exit ?_;refine qT 1 rfl ?_;rw[aH (x:=(c:Int)+1) (by omega) (by omega)];refine qU 1 rfl ?_;refine ab.nil ?_;exact⟨c+1,rfl,hcm,by omega⟩
def Ef(v:List NQ)(a:a9):lM:=aJ v a (ak a)
structure Aw (v:List NQ) (a:a9):Prop where
 l:a.length≤32
 r:bm (ak a) a
 c:ak a≤32
 lt:kd v.length a
theorem gX{v:List NQ}(V:lL v){a:a9}{N most:Nat}(ha:a.length≤1000000)(hN:N≤1000000)(hmost:most≤N)(hr:bm N a)(hl:kd v.length a)(ok: ∀c,c<most→mh v (aJ v a c) c):
  Pure Tryz.prog 46 [bA v,bh a,dI most] (.tu [FN (aJ v a most),aN]):=by
 by_cases h0:a.length=0
 · rw[List.length_eq_zero_iff.1 h0,xK];exact qj v most (by omega)
 · exact rE V (by omega) ha hN hmost hr hl ok
def rp(a:a9):List (List (List RD)):=a.map (fun r=>r.map dV)
theorem pS(a:a9):(rp a).length=a.length:=ae ..
theorem k0(a:a9)(i:Nat):(rp a).getD i []=(a.getD i []).map dV:=by
 unfold rp;rw[aG,List.getElem?_map,aG];cases a[i]? with
 | none=>rfl
 | some x=>rfl
theorem tz(a:a9)(i k:Nat):((rp a).getD i []).getD k []=dV (aW a i k):=by
 rw[k0];unfold aW;generalize a.getD i []=r;rw[aG,List.getElem?_map,aG];cases r[k]? with
 | none=>rfl
 | some x=>rfl
theorem xM(a:a9):MxR (rp a)=bh a:=by
 show D.sl 1 ((a.map _).map RwR)=D.sl 1 (a.map a8);rw[List.map_map]
 congr 1
 refine List.map_congr_left fun r _=>?_;show D.sl 1 ((r.map dV).map dn)=D.sl 1 (r.map ai);rw[List.map_map]
 congr 1
 exact List.map_congr_left fun x _=>oV x
theorem nM(a:a9):ak (rp a)=ak a:=by unfold ak;rw[k0,ae]
theorem kF.s{m:Nat}{v:List NQ}(V:kF m v)(hk:nS v.length m):IM m (kZ v):=by
 have hl5:=V.l5;have hm2:=V.m2;have T:=V.raw.1;exact⟨fun i hi _=>by rw[pQ];exact oU (V.sz i),V.m1,by rw[gT];omega,T.ll,fun _=>by rw[gT];exact hk,hm2⟩
theorem Aw.raw{m:Nat}{v:List NQ}{a:a9}(V:kF m v)(G:Aw v a)(hs: ∀i k,au m (aW a i k)):FO m (kZ v) (rp a)∧mA (kZ v) (rp a)=0:=by
 have hl:=G.l;have hc:=G.c
 have hrow: ∀i,((rp a).getD i []).length≤32:=fun i=>by
  rw[k0,ae];by_cases h:i<a.length
  · rw[G.r i h];exact hc
  · rw[fg (by omega)];exact Nat.zero_le _
 refine⟨⟨fun i k=>by rw[tz];exact Gy V (G.lt i k) (hs i k),by rw[pS];omega,fun i=>Nat.le_trans (hrow i) (by decide)⟩,?_⟩;unfold mA;rw[if_neg (by rw[V.raw.2];simp)];unfold sY;split
 · rfl
 rw[pS,nM,if_neg (by omega)]
 have e1:fE (wX (rp a)) (a.length-0) 0=0:=j8 fun j hj=>by
  unfold wX;rw[nM,k0,ae,G.r j (by omega)];exact if_neg (fun h=>h rfl)
 rw[e1,if_neg (by decide)];refine j8 fun j hj=>?_;unfold kK;refine j8 fun k hk=>?_;rw[tz];exact JX V (G.lt j k)
theorem u6{m:Nat}{v:List NQ}{a:a9}(V:kF m v)(hk:nS v.length m)(G:Aw v a)(hs: ∀i k,au m (aW a i k))(ok: ∀c,c<ak a→mh v (aJ v a c) c):Pure Tryz.prog 13 [bA v,bh a] (.tu [dI (Ef v a).cols.length,aN]):=by
 refine qJ 29 Tryz.func13 rfl rfl rfl rfl (by kernel_rfl) (fun B F0 w0=>?_);obtain ⟨r1,r2⟩:=G.raw V hs;have cc:=gj (V.s hk) r1;rw[r2,mV,xM] at cc;have hGl:=G.l;have hGc:=G.c;have cr:=gX V.a (most:=ak a) (by omega) (by omega) (ao _) G.r G.lt ok;have hcl:=(gR V.a G.r G.lt (ak a)).cl;change Pure _ _ _ (.tu [FN (Ef v a),aN]) at cr;generalize Ef v a=s at cr ⊢;obtain ⟨rows,cols,sg,fj⟩:=s;refine qX 3 rfl ?_;refine qI (qX 2 rfl ?_);refine ab.call tok rfl rfl rfl rfl cc ?_;refine qU 1 rfl ?_;refine qK 1 rfl ?_;refine ab.err tok rfl rfl rfl rfl rfl ?_;refine ab.nil ?_;refine AW.aB rfl ?_
 · refine AW.skip (AW.seq ?_);refine AW.oI tok aP [(7,true),(1,false),(1,true)] 9 [7] (by kernel_rfl) ⟨rfl,?_⟩;refine qP 3 rfl ?_;refine af.call tok rfl rfl rfl rfl rfl (bM a) ?_;refine af.call tok rfl rfl rfl rfl rfl cr ?_;refine qP 2 rfl ?_;refine af.nil ⟨rfl,?_⟩;refine qP 1 rfl ?_;refine af.nil ⟨rfl,?_⟩;refine qP 1 rfl ?_;refine af.nil ⟨_,py.cons (.bx rfl) (py.nil),?_⟩;refine qU 1 rfl ?_;refine qI (qX 1 rfl ?_);refine ab.err tok rfl rfl rfl rfl rfl ?_;refine ab.nil ?_;refine AW.aB rfl ?_
   · refine AW.skip (qX 2 rfl ?_);refine qU 1 rfl ?_;rw[ae];refine qU 2 rfl ?_;exact qN rfl
end Lift
namespace Lift
def fe(a:a9):a9:=(List.range (ak a)).map fun k=>a.map fun r=>r.getD k []
theorem nG(a:a9):(fe a).length=ak a:=by unfold fe;rw[ae,List.length_range]
theorem q9(a:a9){k:Nat}(h:k<ak a):(fe a).getD k []=a.map fun r=>r.getD k []:=by
 unfold fe;rw[aG,List.getElem?_map,List.getElem?_range h];rfl
theorem CC(a:a9)(k i:Nat):(a.map fun r=>r.getD k []).getD i []=aW a i k:=by
 unfold aW;rw[aG,List.getElem?_map,aG (l:=a)];cases a[i]? with
 | none=>exact(kC (Nat.zero_le k)).symm
 | some r=>rfl
theorem DJ(a:a9){i k:Nat}(h:k<ak a):aW (fe a) k i=aW a i k:=by
 show ((fe a).getD k []).getD i []=_;rw[q9 a h];exact CC a k i
theorem oO(a:a9):bm a.length (fe a):=fun k hk=>by
 rw[nG] at hk;rw[q9 a hk,ae]
theorem wK{p:NQ→Prop}(h0:p []){a:a9}(h: ∀i k,p (aW a i k)): ∀i k,p (aW (fe a) i k):=fun k i=>by
 by_cases hk:k<ak a
 · rw[DJ a hk];exact h i k
 · unfold aW;rw[fg (by rw[nG];omega)];exact h0
theorem tX{l:Nat}{a:a9}(h:kd l a):kd l (fe a):=wK (p:=aC l) (bn l) h
def sF(v:List NQ)(a:a9)(c:Nat):List Nat:=(List.range c).filter fun i=> !(aJ v a c).cols.contains i
theorem zo(v:List NQ)(a:a9)(c:Nat):(aJ v a (c+1)).cols=(aJ v a c).cols++[c]∨(aJ v a (c+1)).cols=(aJ v a c).cols:=by
 show (dZ v (aJ v a c) c).cols=(aJ v a c).cols++[c]∨(dZ v (aJ v a c) c).cols=(aJ v a c).cols;unfold dZ;split
 · exact .inl rfl
 · exact .inr rfl
theorem xL(v:List NQ)(a:a9): ∀c,∀x∈(aJ v a c).cols,x<c
 | 0,x,h=>by cases h
 | c+1,x,h=>by
   have ih:=xL v a c;rcases zo v a c with e | e
   · rw[e] at h;rcases List.mem_append.1 h with h | h
     · exact Nat.lt_succ_of_lt (ih x h)
     · rw[List.mem_singleton.1 h];exact Nat.lt_succ_self c
   · rw[e] at h;exact Nat.lt_succ_of_lt (ih x h)
theorem Bz(v:List NQ)(a:a9)(c:Nat):((aJ v a (c+1)).cols=(aJ v a c).cols++[c]∧sF v a (c+1)=sF v a c)∨((aJ v a (c+1)).cols=(aJ v a c).cols∧sF v a (c+1)=sF v a c++[c]):=by
 have hlt:=xL v a c;rcases zo v a c with e | e
 · refine .inl ⟨e,?_⟩;unfold sF;rw[List.range_succ,List.filter_append,e];rw[show List.filter (fun i=> !((aJ v a c).cols++[c]).contains i) [c]=[] by simp,List.append_nil];refine List.filter_congr fun i hi=>?_;have hi:=List.mem_range.1 hi;have:i≠c:=by omega
   simp[this]
 · refine .inr ⟨e,?_⟩;unfold sF;rw[List.range_succ,List.filter_append,e]
   congr 1
   have:c ∉ (aJ v a c).cols:=fun h=>absurd (hlt c h) (Nat.lt_irrefl c);simp[this]
def Gx(v:List NQ)(a:a9):List Nat:=sF v (fe a) a.length
end Lift
namespace Lift
open Go Go.Proofs
theorem pV(n:Nat)(r:D)(hn:n≤4611686018427387904)(h1: ∀i:Nat,i≤5→n=2^i→r= .tu [dI i,dB true])(h2:(∀i:Nat,i≤5→n≠2^i)→r= .tu [dI 0,dB false]):Pure Tryz.prog 76 [dI n] r:=by
 refine qJ 14 Tryz.func76 rfl rfl rfl rfl (by kernel_rfl) (fun B0 F0 w0=>?_);refine qX 2 rfl ?_;refine qI (qX 1 rfl ?_);refine ab.nil ?_;refine AW.block (AW.aF [0,5] (fun k:Nat=>[(0,.d (dI n)),(5,.d (dI k))]) (fun k=>k≤6∧ ∀j,j<k→n≠2^j) (fun k=>6-k) 0 rfl ⟨Nat.zero_le _,fun j hj=>by omega⟩ (fun k ⟨hk,hi⟩=>?_));refine qX 1 rfl ?_;refine qI (AW.cond rfl (fun h=>?_) (fun h=>?_));rotate_left
 · have hkk:k=6:=by have:=aA h;omega
   subst hkk;rw[h2 (fun i hi5=>hi i (by omega))];refine AW.exit ?_;refine qX 2 rfl ?_;exact qN rfl
 have hkk:k<6:=by have:=ar h;omega
 refine AW.skip (AW.seq (AW.block ?_));refine qX 2 rfl ?_;refine qK 3 rfl ?_;rw[y7 (by omega)];refine qU 1 rfl ?_;refine ab.nil ?_;by_cases hp:n=2^k
 · rw[h1 k (by omega) hp,beq_iff_eq.2 (show (n:Int)=((2^k:Nat):Int) by rw[hp])];refine AW.aL rfl ?_;refine qX 3 rfl ?_;exact qN rfl
 rw[beq_eq_false_iff_ne.2 (show (n:Int)≠((2^k:Nat):Int) by omega)];refine AW.aB rfl ?_;refine AW.skip (qT 1 rfl ?_);rw[aH (x:=(k:Int)+1) (by omega) (by omega)];refine qU 1 rfl ?_;refine ab.nil ?_
 exact⟨k+1,rfl,⟨hkk,fun j hj=>by
  by_cases e:j=k
  · rw[e];exact hp
  · exact hi j (by omega)⟩,by omega⟩
theorem fY{n i:Nat}(h:n=2^i)(hi:i≤5):Pure Tryz.prog 76 [dI n] (.tu [dI i,dB true]):=by
 have hp:2^i≤2^5:=Nat.pow_le_pow_right (by decide) hi;refine pV n _ (by omega) (fun j hj e=>?_) (fun hn=>absurd h (hn i hi));have h1:=jx (Nat.le_of_eq (h.symm.trans e));have h3:=jx (Nat.le_of_eq (e.symm.trans h));rw[show j=i by omega]
theorem ov{n:Nat}(h: ∀i:Nat,i≤5→n≠2^i)(hn:n≤4611686018427387904):Pure Tryz.prog 76 [dI n] (.tu [dI 0,dB false]) :=
 pV n _ hn (fun i hi e=>absurd e (h i hi)) (fun _=>rfl)
theorem fZ(m:Nat)(a:List RD){k:Nat}(hm5:m≤5)(hw:BO m a→wN k a)(hk:k≤17300000000000)(hl:a.length≤4398046511104):Pure Tryz.prog 37 [dI m,dn a] (dI (bL m a)):=by
 refine qJ 37 Tryz.func37 rfl rfl rfl rfl (by kernel_rfl) (fun B0 F0 w0=>?_);have hno:=fun i hi=>zS (l:=a) (i:=i) hi;have hyes:=w8 (l:=a);unfold bL;generalize kz a=E at hno hyes ⊢
 obtain ⟨x,ok,cp,hok⟩: ∃(x:Nat) (ok:Bool),Pure Tryz.prog 76 [dI a.length] (.tu [dI x,dB ok])∧((ok=false∨m<x)↔Bn m a.length=false):=by
  by_cases hp: ∃i,i≤5∧a.length=2^i
  · obtain ⟨i,hi,hp⟩:=hp;refine⟨i,true,fY hp hi,?_⟩;rw[hp,yb];constructor
    · rintro (h | h)
      · cases h
      · exact aT (by omega)
    · intro h;right;have:=aA h;omega
  · refine⟨0,false,ov (fun i hi e=>hp ⟨i,hi,e⟩) (by omega),?_⟩;constructor
    · intro _;cases hv:Bn m a.length
      · rfl
      · obtain ⟨i,h1,h2⟩:=EH hv;exact absurd ⟨i,by omega,h2⟩ hp
    · intro _;exact .inl rfl
 refine qX 1 rfl ?_;refine qK 2 rfl ?_;rw[ae];refine ab.call tok rfl rfl rfl rfl cp ?_;refine qU 5 rfl ?_;refine ab.nil ?_;refine AW.cut [1] (fun _:Unit=>[(1,.d (dn a))]) (fun _=> ¬(a.length≠0∧Bn m a.length=false)) ?_ (fun _ hs=>?_)
 · refine qX 2 rfl ?_;rw[ae];refine qU 1 rfl ?_;by_cases h0:a.length=0
   · rw[bne_eq_false_iff_eq.2 (show (a.length:Int)=0 by omega)];refine qU 9 rfl ?_;refine ab.nil ?_;refine AW.aB rfl ?_;refine AW.skip ?_;exact⟨(),rfl,fun h=>h.1 h0⟩
   rw[bne_iff_ne.2 (show (a.length:Int)≠0 by omega)];cases ok with
   | false =>
     have hb:=hok.1 (.inl rfl);rw[if_pos ⟨h0,hb⟩];refine qU 9 rfl ?_;refine ab.nil ?_;refine AW.aL rfl ?_;refine qX 1 rfl ?_;exact qN rfl
   | true =>
   refine qU 7 rfl ?_;by_cases hx:(m:Int)<(x:Int)
   · rw[aV hx,if_pos ⟨h0,hok.1 (.inr (by omega))⟩];refine qU 2 rfl ?_;refine ab.nil ?_;refine AW.aL rfl ?_;refine qX 1 rfl ?_;exact qN rfl
   · rw[aT hx];refine qU 2 rfl ?_;refine ab.nil ?_;refine AW.aB rfl ?_;refine AW.skip ?_
     exact⟨(),rfl,fun h=>by
      rcases hok.2 h.2 with e | e
      · cases e
      · omega⟩
 rw[if_neg hs];have hw:=hw hs;show AW _ _ _ _ _ _ _ [(1,.d (dn a))];refine AW.seq (qX 2 rfl ?_);rw[ae];refine qU 1 rfl ?_;refine ab.nil ?_;refine AW.block (AW.aF [27,28,29] (fun i:Nat=>[(27,.d (dn a)),(28,.d (dI a.length)),(29,.d (dI i))]) (fun i=>i≤a.length∧ ∀j,j<i→(a.getD j default).okB=true) (fun i=>a.length-i) 0 rfl ⟨Nat.zero_le _,fun j hj=>by omega⟩ (fun i ⟨hi,hall⟩=>?_));refine qX 1 rfl ?_;refine qI (AW.cond rfl (fun h=>?_) (fun h=>?_));rotate_left
 · have hii:i=a.length:=by have:=aA h;omega
   subst hii;rw[hyes hall,if_neg (by simp)];refine AW.exit ?_;refine qX 1 rfl ?_;exact qN rfl
 have hii:i<a.length:=by have:=ar h;omega
 have hg:=getM RD.D (l:=a) (i:=i) hii;have hno:=hno i hii;have cv:=p0 (a.getD i default) (hw i hii) (by omega);refine AW.skip (AW.seq (AW.block (AW.seq (AW.region ?_))));refine ab.idx tok (a.getD i default).D rfl rfl rfl rfl (aj i) hg ?_;refine qU 3 rfl ?_;refine qK 1 rfl ?_;refine ab.call tok rfl rfl rfl rfl cv ?_;refine qU 1 rfl ?_;cases hv:(a.getD i default).okB with
 | false =>
   rw[hno hv,if_pos rfl];refine ab.nil ?_;refine AW.aL rfl ?_;refine qX 1 rfl ?_;exact qN rfl
 | true =>
 refine ab.nil ?_;refine AW.aB rfl ?_;refine AW.skip (qT 1 rfl ?_);rw[aH (x:=(i:Int)+1) (by omega) (by omega)];refine qU 1 rfl ?_;refine ab.nil ?_
 exact⟨i+1,rfl,⟨hii,fun j hj=>by
  by_cases e:j=i
  · subst e;exact hv
  · exact hall j (by omega)⟩,by omega⟩
theorem pW(a:NQ)(hl:a.length≤1000000):Pure Tryz.prog 151 [ai a] (dB (bD a)):=by
 refine qJ 26 Tryz.func151 rfl rfl rfl rfl (by kernel_rfl) (fun B F0 w0=>?_);have hno:=fun i hi=>tQ (a:=a) (i:=i) hi;have hyes:=qY (a:=a);generalize bD a=E at hno hyes ⊢;refine qX 1 rfl ?_;refine qI (qX 2 rfl ?_);rw[ae];refine qU 1 rfl ?_;refine ab.nil ?_;refine AW.block ?_;refine AW.aF [5,6,7] (fun i:Nat=>[(5,.d (ai a)),(6,.d (dI a.length)),(7,.d (dI i))]) (fun i=> ∀j,j<i→j<a.length→a.getD j 0=0) (fun i=>a.length-i) 0 rfl (fun j h=>by omega) (fun i hi=>?_)
 · show AW _ _ _ _ _ _ _ [(5,.d (ai a)),(6,.d (dI a.length)),(7,.d (dI i))];refine qX 1 rfl ?_;refine qI ?_;refine AW.cond rfl (fun h=>?_) (fun h=>?_)
   · have hii:i<a.length:=by have:=ar h;omega
     have g:=kN hii;have hn:=hno i hii;have s0:=FP (a.getD i 0);generalize hq:a.getD i 0=q at g hn s0;generalize Qr q=y at g s0;obtain ⟨yg,yn,yd⟩:=y;simp only[] at s0;refine AW.skip (AW.seq (AW.block (AW.seq (AW.region ?_))));refine ab.idx tok (RD.mk yg yn yd).D rfl rfl rfl rfl (aj i) g ?_;refine qU 3 rfl ?_;refine qK 3 rfl ?_;cases yg with
     | true =>
       refine qU 11 rfl ?_;refine ab.nil ?_;refine AW.aL rfl ?_;rw[hn (fun e=>by have:=s0.2 e;cases this.1)];refine qX 1 rfl ?_;exact qN rfl
     | false =>
     refine qU 3 rfl ?_;rw[bb];refine qU 1 rfl ?_;by_cases h1:yn.length=0;rotate_left
     · rw[bne_iff_ne.2 (show (yn.length:Int)≠0 by omega)];refine qU 7 rfl ?_;refine ab.nil ?_;refine AW.aL rfl ?_;rw[hn (fun e=>by have:=(s0.2 e).2.1;omega)];refine qX 1 rfl ?_;exact qN rfl
     rw[bne_eq_false_iff_eq.2 (show (yn.length:Int)=0 by omega)];refine qU 5 rfl ?_;rw[bb];refine qU 1 rfl ?_;by_cases h2:yd.length=0;rotate_left
     · rw[bne_iff_ne.2 (show (yd.length:Int)≠0 by omega)];refine qU 1 rfl ?_;refine ab.nil ?_;refine AW.aL rfl ?_;rw[hn (fun e=>by have:=(s0.2 e).2.2;omega)];refine qX 1 rfl ?_;exact qN rfl
     rw[bne_eq_false_iff_eq.2 (show (yd.length:Int)=0 by omega)];refine qU 1 rfl ?_;refine ab.nil ?_;refine AW.aB rfl ?_;refine AW.skip (qT 1 rfl ?_);rw[aH (x:=(i:Int)+1) (by omega) (by omega)];refine qU 1 rfl ?_;refine ab.nil ?_;refine⟨i+1,rfl,fun j h1 h2=>?_,by omega⟩;by_cases e:j=i
     · rw[e,hq];exact s0.1 ⟨rfl,by omega,by omega⟩
     · exact hi j (by omega) h2
   have hii: ¬i<a.length:=by have:=aA h;omega
   rw[hyes (fun j h=>hi j (by omega) h)];refine AW.exit ?_;refine qX 1 rfl ?_;exact qN rfl
theorem iT(a:NQ){k:Nat}(hs:au k a)(hk:k≤17300000000000)(hl:a.length≤1000000):Pure Tryz.prog 112 [ai a] (ai (aK a)):=by
 refine qJ 19 Tryz.func112 rfl rfl rfl rfl (by kernel_rfl) (fun B0 F0 w0=>?_);refine qX 1 rfl ?_;refine qK 1 rfl ?_;refine qI (qX 2 rfl ?_);rw[ae];refine qU 1 rfl ?_;refine ab.nil ?_;refine AW.block (AW.aF [3,6,7,8] (fun i:Nat=>[(3,.ow 111 (eC (aK (a.take i)))),(6,.d (ai a)),(7,.d (dI a.length)),(8,.d (dI i))]) (fun i=>i≤a.length) (fun i=>a.length-i) 0 rfl (Nat.zero_le _) (fun i hi=>?_));refine qX 1 rfl ?_;refine qI (AW.cond rfl (fun h=>?_) (fun h=>?_));rotate_left
 · have hii:i=a.length:=by have:=aA h;have:i≤a.length:=hi;omega
   subst hii;rw[List.take_length];refine AW.exit ?_;refine qX 2 rfl ?_;exact qN rfl
 have hii:i<a.length:=by have:=ar h;omega
 have g:=kN hii;have cn:=Ba (Qr (a.getD i 0)) (jt _ (hs i)) hk;rw[cE] at cn;have htk:=tZ a 0 hii;have hol:(aK (a.take i)).length=i:=by rw[bz,aQ];omega
 have hms:aK (a.take (i+1))=aK (a.take i)++[-a.getD i 0]:=by
  rw[htk];unfold aK;rw[List.map_append];rfl
 generalize aK (a.take i)=M at hol hms ⊢;generalize a.getD i 0=q at g cn hms;refine AW.skip (AW.seq (AW.block (AW.seq (AW.region ?_))));refine ab.idx tok (Qr q).D rfl rfl rfl rfl (aj i) g ?_;refine qU 3 rfl ?_;refine ab.nil ?_;refine qT 2 rfl ?_;refine ab.call tok rfl rfl rfl rfl cn ?_;refine ab.bs tok rfl rfl rfl rfl ?_;refine ab.gg tok rfl rfl rfl rfl rfl rfl (by rw[ae,hol];show (_+1)*56≤_;omega) (by rw[ae,hol];show _+1≤_;omega) ?_;refine qU 1 rfl ?_;refine ab.nil ?_;refine qT 1 rfl ?_;rw[aH (x:=(i:Int)+1) (by omega) (by omega)];refine qU 1 rfl ?_;refine ab.nil ?_;exact⟨i+1,by show _=([(3,.ow 111 (eC (aK (a.take (i+1))))),(6,.d (ai a)),(7,.d (dI a.length)),(8,.d (dI (i+1:Nat)))]:St);rw[hms,eC,eC,List.map_append];rfl,hii,by omega⟩
end Lift
namespace Lift
open Go Go.Proofs
theorem cY(a:NQ){l:Nat}(ha:aC l a)(hl:l≤5):Pure Tryz.prog 121 [ai a] (ai (aq a)):=by
 refine qJ 43 Tryz.func121 rfl rfl rfl rfl (by kernel_rfl) (fun B0 F0 w0=>?_);have hl10:=ha.len (by omega);rcases ha with h0 | ⟨i,hi,hai⟩
 · obtain rfl:a=[]:=List.length_eq_zero_iff.1 h0;have cp:=ov (n:=0) (fun i _=>by have:=Nat.two_pow_pos i;omega) (by decide);refine qX 1 rfl ?_;refine qK 2 rfl ?_;refine ab.call tok rfl rfl rfl rfl cp ?_;refine qU 5 rfl ?_;refine qI (qX 2 rfl ?_);refine ab.nil ?_;refine AW.aL rfl ?_;refine qX 2 rfl ?_;refine ab.ny tok rfl rfl rfl rfl (by decide) ?_;refine qU 1 rfl ?_;exact qN rfl
 have cp:=fY hai (by omega);have hp:=Nat.two_pow_pos i;have hE:aq a=iy i a:=by unfold aq;rw[if_neg (by omega),hai,Nat.log2_two_pow]
 rw[hE];refine qX 1 rfl ?_;refine qK 2 rfl ?_;rw[ae];refine ab.call tok rfl rfl rfl rfl cp ?_;refine qU 5 rfl ?_;refine qI (qX 2 rfl ?_);refine ab.nil ?_;refine AW.aB rfl ?_;refine AW.skip (qX 2 rfl ?_);rw[ae,hai];refine qU 1 rfl ?_;refine qI (AW.block ?_);refine AW.aF [0,5] (fun j:Nat=>[(0,.d (ai a)),(5,.d (dI (2^j:Nat)))]) (fun j=>j≤i∧iy j a=iy i a) (fun j=>j) i rfl ⟨ao _,rfl⟩ (fun j hj=>?_);obtain ⟨hj,hjE⟩:=hj;show AW _ _ _ _ _ _ _ [(0,.d (ai a)),(5,.d (dI (2^j:Nat)))];have hpj:2^j≤2^i:=Nat.pow_le_pow_right (by decide) hj;have hpp:=Nat.two_pow_pos j;refine AW.seq (qX 2 rfl ?_);rcases j with _ | j
 · refine qU 8 rfl ?_;refine ab.nil ?_;refine AW.aB rfl ?_;refine AW.exit (AW.seq ?_);refine qX 4 rfl ?_;refine ab.fW tok (a:=a) (a.take 1) rfl rfl rfl rfl trivial (show (0:Int)≤1 by decide) (Nat.zero_le _) (show 1≤a.length by omega) rfl ?_;refine ab.call tok rfl rfl rfl rfl (pW (a.take 1) (by rw[aQ];omega)) ?_;refine qU 1 rfl ?_;refine ab.nil ?_;rw[← hjE];unfold iy;cases hz:bD (a.take 1) with
   | true =>
     rw[if_pos rfl];refine AW.aL rfl ?_;refine qX 1 rfl ?_;exact qN rfl
   | false =>
     rw[if_neg (by simp)];refine AW.aB rfl ?_;refine AW.skip (qX 3 rfl ?_);refine ab.fW tok (a:=a) (a.take 1) rfl rfl rfl rfl trivial (show (0:Int)≤1 by decide) (Nat.zero_le _) (show 1≤a.length by omega) rfl ?_;have hq:(a.take 1).length≤1024:=by rw[aQ];omega
     refine ab.ny tok rfl rfl rfl rfl (by rw[ae];show _*56≤_;omega) ?_;refine qU 1 rfl ?_;exact qN rfl
 have e2:2^(j+1)=2^j*2:=Nat.pow_succ ..;have eh:=k7 j;rw[aV (show (1:Int)<((2^(j+1):Nat):Int) by have:=Nat.two_pow_pos j;omega)];refine qU 3 rfl ?_;refine ab.div tok rfl rfl rfl rfl (by decide) ?_;rw[gL _ (by omega),eh];refine qU 1 rfl ?_;refine ab.fW tok (a:=a) ((a.take (2^(j+1))).drop (2^j)) rfl rfl rfl rfl (aj _) (aj _) (show 2^j≤2^(j+1) by omega) (show 2^(j+1)≤a.length by omega) rfl ?_;refine ab.call tok rfl rfl rfl rfl (pW _ (by rw[List.length_drop,aQ];omega)) ?_;refine qU 1 rfl ?_;refine ab.nil ?_;cases hz:bD ((a.take (2^(j+1))).drop (2^j)) with
 | true =>
   refine AW.aL rfl ?_;refine AW.skip (AW.block ?_);refine qT 1 rfl ?_;refine ab.div tok rfl rfl rfl rfl (by decide) ?_;rw[gL _ (by omega),eh];refine qU 1 rfl ?_;refine ab.nil ?_;exact⟨j,rfl,⟨by omega,by rw[← hjE];show _=if bD ((a.take (2^(j+1))).drop (2^j))=true then _ else _;rw[if_pos hz]⟩,by omega⟩
 | false =>
 refine AW.aB rfl ?_;refine AW.exit (AW.seq ?_);refine qX 2 rfl ?_;rw[beq_eq_false_iff_ne.2 (show ((2^(j+1):Nat):Int)≠1 by have:=Nat.two_pow_pos j;omega)];refine qU 5 rfl ?_;refine ab.nil ?_;refine AW.aB rfl ?_;refine AW.skip (qX 3 rfl ?_);refine ab.fW tok (a:=a) (a.take (2^(j+1))) rfl rfl rfl rfl trivial (aj _) (Nat.zero_le _) (show 2^(j+1)≤a.length by omega) rfl ?_;have hq:(a.take (2^(j+1))).length≤1024:=by rw[aQ];omega
 refine ab.ny tok rfl rfl rfl rfl (by rw[ae];show _*56≤_;omega) ?_;refine qU 1 rfl ?_;refine ab.nil ?_;rw[← hjE];unfold iy;rw[if_neg (by rw[hz];simp)];exact AW.ret rfl
theorem jR(a:NQ):bk a a.length=a:=by
 unfold bk;rw[List.take_length,Nat.sub_self];exact List.append_nil a
theorem tS{a:NQ}{i:Nat}(h:a.length≤i):bk a (i+1)=bk a i++[0]:=by
 unfold bk;rw[List.take_of_length_le h,List.take_of_length_le (by omega),Nat.succ_sub h,List.replicate_succ',List.append_assoc]
theorem kv(a:NQ)(n:Nat)(ha:a.length≤n)(hn:n≤1000000):jg Tryz.prog 142 [ai a,dI n] [] (Es (bk a n)):=by
 refine jg.intro (n:=18) tok Tryz.func142 rfl rfl rfl (Nat.le_of_ble_eq_true rfl) (by kernel_rfl) (fun B F0 w0=>?_);refine AZ.seq (AZ.cO (fun B1 F1 w1=>?_));refine qU 1 rfl ?_;refine ab.nil ⟨rfl,?_⟩;refine AZ.seq (AZ.cO (fun B1 F1 w1=>?_));refine qU 2 rfl ?_;refine ab.po tok rfl rfl rfl rfl (by rw[ae];show _*56≤_;omega) ?_;refine qU 1 rfl ?_;refine ab.nil ⟨rfl,?_⟩;refine AZ.seq (AZ.block ?_);refine AZ.aF [1,5] (fun i:Nat=>(([]:List LR),([(1,.d (dI n)),(5,.ow 111 (eC (bk a i)))]:St))) (fun i=>a.length≤i∧i≤n) (fun i=>n-i) a.length (by rw[jR];rfl) ⟨ao _,ha⟩ (fun i hi=>?_)
 · obtain ⟨hi,hin⟩:=hi;show AZ _ _ _ _ _ _ _ [] [(1,.d (dI n)),(5,.ow 111 (eC (bk a i)))];have wl:=bH a i;refine AZ.seq (AZ.seq ?_);refine AZ.cO (fun B1 F1 w1=>?_);refine qU 2 rfl ?_;rw[ae,wl];refine qU 2 rfl ?_;refine ab.nil ⟨rfl,?_⟩;refine AZ.cond rfl (fun h=>?_) (fun h=>?_)
   · have hii:i<n:=by have:=ar h;omega
     have hs:=tS hi;refine AZ.skip (AZ.block ?_);refine AZ.cO (fun B1 F1 w1=>?_);refine qU 2 rfl ?_;refine ab.bs tok rfl rfl rfl rfl ?_;refine ab.gg tok rfl rfl rfl rfl rfl rfl (by rw[ae,wl];show (_+1)*56≤_;omega) (by rw[ae,wl];show _+1≤_;omega) ?_;refine qU 1 rfl ?_;refine ab.nil ⟨rfl,?_⟩;refine⟨i+1,?_,⟨by omega,hii⟩,by omega⟩;rw[hs];show _=(([]:List LR),([(1,.d (dI n)),(5,.ow 111 ((bk a i++[0]).map (fun q=>(Qr q).D)))]:St));rw[List.map_append,List.map_cons,jC];rfl
   have hii:i=n:=by have:=aA h;omega
   subst hii;refine AZ.exit ?_;refine AZ.seq (AZ.cO (fun B1 F1 w1=>?_));refine qU 2 rfl ?_;refine ab.nil ⟨rfl,?_⟩;refine AZ.iD 4 rfl rfl rfl (fun V=>AZ.ret ⟨.v V,rfl,V,rfl,rfl⟩)
theorem lZ(a:NQ)(n:Nat)(ha:a.length≤n)(hn:n≤1000000):Pure Tryz.prog 142 [ai a,dI n] (ai (bk a n)):=by
 refine qJ 18 Tryz.func142 rfl rfl rfl rfl (by kernel_rfl) (fun B F0 w0=>?_);refine qX 1 rfl ?_;refine qK 2 rfl ?_;refine ab.po tok rfl rfl rfl rfl (by rw[ae];show _*56≤_;omega) ?_;refine qU 1 rfl ?_;refine qI (AW.block ?_);refine AW.aF [1,5] (fun i:Nat=>[(1,.d (dI n)),(5,.ow 111 (eC (bk a i)))]) (fun i=>a.length≤i∧i≤n) (fun i=>n-i) a.length (by rw[jR];rfl) ⟨ao _,ha⟩ (fun i hi=>?_)
 · obtain ⟨hi,hin⟩:=hi;show AW _ _ _ _ _ _ _ [(1,.d (dI n)),(5,.ow 111 (eC (bk a i)))];have wl:=bH a i;refine AW.seq (qX 2 rfl ?_);rw[ae,wl];refine qU 2 rfl ?_;refine ab.nil ?_;refine AW.cond rfl (fun h=>?_) (fun h=>?_)
   · have hii:i<n:=by have:=ar h;omega
     have hs:=tS hi;refine AW.skip (AW.block ?_);refine qT 2 rfl ?_;refine ab.bs tok rfl rfl rfl rfl ?_;refine ab.gg tok rfl rfl rfl rfl rfl rfl (by rw[ae,wl];show (_+1)*56≤_;omega) (by rw[ae,wl];show _+1≤_;omega) ?_;refine qU 1 rfl ?_;refine ab.nil ?_;refine⟨i+1,?_,⟨by omega,hii⟩,by omega⟩;rw[hs];show _=([(1,.d (dI n)),(5,.ow 111 ((bk a i++[0]).map (fun q=>(Qr q).D)))]:St);rw[List.map_append,List.map_cons,jC];rfl
   have hii:i=n:=by have:=aA h;omega
   subst hii;refine AW.exit ?_;refine qX 2 rfl ?_;exact qN rfl
theorem ft(a b:NQ){k:Nat}(ha:au k a)(hb:au k b)(hk:k≤17300000000000)(hl:a.length≤1000000)(hl2:b.length≤1000000):Pure Tryz.prog 111 [ai a,ai b] (ai (aS a b)):=by
 refine qJ 37 Tryz.func111 rfl rfl rfl rfl (by kernel_rfl) (fun B F0 w0=>?_);obtain ⟨n,hn⟩: ∃n,n=max a.length b.length:=⟨_,rfl⟩;have cw1:=kv a n (by omega) (by omega);have cw2:=kv b n (by omega) (by omega);have l1:=bH a n;have l2:=bH b n;have g1: ∀i,i<n→(bk a n).getD i 0=a.getD i 0:=fun i hi=>by rw[gz,if_pos hi]
 have g2: ∀i,i<n→(bk b n).getD i 0=b.getD i 0:=fun i hi=>by rw[gz,if_pos hi]
 have hpl:(aS a b).length=n:=by rw[jM,hn]
 generalize bk a n=wa at cw1 l1 g1;generalize bk b n=wb at cw2 l2 g2;refine qX 1 rfl ?_;refine qK 4 rfl ?_;rw[ae,ae];refine qU 2 rfl ?_;rw[Ik,← hn];refine qI (AZ.aw ?_);refine AZ.region ?_;refine ah.cut 2 rfl (fun B1 F1 w1=>?_);refine qU 2 rfl ?_;refine ab.nil ⟨rfl,?_⟩;refine ah.fR tok [] rfl rfl rfl rfl rfl List.nodup_nil rfl cw1 (fun _ _ _=>Nat.zero_le _) (fun res R1 hP=>?_);obtain ⟨V1,rfl,rfl⟩:=hP;refine ah.cut 2 rfl (fun B1 F1 w1=>?_);refine qU 2 rfl ?_;refine ab.nil ⟨rfl,?_⟩;refine ah.fR tok [] rfl rfl rfl rfl rfl List.nodup_nil rfl cw2 (fun _ _ _=>Nat.zero_le _) (fun res R1 hP=>?_);obtain ⟨V2,rfl,rfl⟩:=hP;refine ah.cut 2 rfl (fun B1 F1 w1=>?_);refine qU 2 rfl ?_;refine ab.nil ⟨rfl,?_⟩;refine ah.to [0,1] [(0,.d (.v V1)),(1,.d (.v V2))] rfl ?_;refine ah.cT 0 0 (V:=V1) (av:= .ow 111 (eC wa)) rfl rfl rfl ?_;refine ah.to [0,1] [(0,.ow 111 (eC wa)),(1,.d (.v V2))] rfl ?_;refine ah.cT 1 1 (V:=V2) (av:= .ow 111 (eC wb)) rfl rfl rfl ?_;refine ah.to [0,1] [(0,.ow 111 (eC wa)),(1,.ow 111 (eC wb))] rfl ?_;refine ah.nil ?_;refine AW.fQ tok 1 rfl rfl ?_;refine AW.seq (qX 2 rfl ?_);rw[ae,l1];refine qU 1 rfl ?_;refine ab.nil ?_;refine AW.block ?_;refine AW.aF [0,1,19,20] (fun s:Nat×NQ=>[(0,.ow 111 (eC s.2)),(1,.d (ai wb)),(19,.d (dI n)),(20,.d (dI s.1))]) (fun s=>s.2.length=n∧ ∀j,j<n→s.2.getD j 0=if j<s.1 then a.getD j 0+b.getD j 0 else a.getD j 0) (fun s=>n-s.1) (0,wa) rfl ⟨l1,fun j h=>by rw[if_neg (Nat.not_lt_zero _)];exact g1 j h⟩ (fun s hi=>?_)
 · obtain ⟨i,r⟩:=s;obtain ⟨hrl,hi⟩:=hi;simp only[] at hrl hi;show AW _ _ _ _ _ _ _ [(0,.ow 111 (eC r)),(1,.d (ai wb)),(19,.d (dI n)),(20,.d (dI i))];refine qX 1 rfl ?_;refine qI ?_;refine AW.cond rfl (fun h=>?_) (fun h=>?_)
   · have hii:i<n:=by have:=ar h;omega
     have e1:=kN (r:=r) (i:=i) (by omega);have e2:=kN (r:=wb) (i:=i) (by omega);rw[hi i hii,if_neg (Nat.lt_irrefl _)] at e1;rw[g2 i hii] at e2;have ca:=uA (Qr (a.getD i 0)) (Qr (b.getD i 0)) (jt _ (ha i)) (jt _ (hb i)) hk;rw[cE,cE] at ca;refine AW.skip (AW.seq (AW.block ?_));refine qX 2 rfl ?_;refine ab.nil ?_;refine AW.draw aP 12 (by kernel_rfl) ?_;refine qP 4 rfl ?_;refine af.ga tok rfl rfl rfl rfl rfl rfl (aj i) (by rw[ae];show i<_;omega) ?_;refine af.cZ tok (Qr (a.getD i 0)).D rfl rfl rfl rfl rfl e1 rfl ?_;refine qP 2 rfl ?_;refine af.idx tok (Qr (b.getD i 0)).D rfl rfl rfl rfl rfl (aj i) e2 ?_;refine qP 1 rfl ?_;refine af.call tok rfl rfl rfl rfl rfl ca ?_;refine af.ga tok rfl rfl rfl rfl rfl rfl (aj i) (by rw[ae];show i<_;omega) ?_;refine af.nil ?_;refine ab.AS tok (a.getD i 0+b.getD i 0) rfl rfl rfl (by show i<_;omega) ?_;refine ab.nil ?_;refine qT 1 rfl ?_;rw[aH (x:=(i:Int)+1) (by omega) (by omega)];refine qU 1 rfl ?_;refine ab.nil ?_;refine⟨(i+1,r.set i (a.getD i 0+b.getD i 0)),rfl,⟨by rw[List.length_set];exact hrl,fun j h1=>?_⟩,by show n-(i+1)<n-i;omega⟩;show (r.set i (a.getD i 0+b.getD i 0)).getD j 0=if j<i+1 then _ else _
     rw[By];by_cases e:j=i
     · rw[if_pos ⟨e,by omega⟩,e,if_pos (by omega)]
     · rw[if_neg (fun h=>e h.1),hi j h1];by_cases h2:j<i
       · rw[if_pos h2,if_pos (by omega)]
       · rw[if_neg h2,if_neg (by omega)]
   have hii: ¬i<n:=by have:=aA h;omega
   obtain rfl:r=aS a b:=Bk (by rw[hrl,hpl]) (fun j hj=>by rw[nQ,hi j (by omega),if_pos (by omega)]);refine AW.exit ?_;refine qX 2 rfl ?_;exact qN rfl
end Lift
namespace Lift
open Go Go.Proofs
theorem w5{R:NQ→NQ→NQ}{rt:List NQ}{a b:NQ}:(kt R rt a b).length≤max a.length b.length:=by
 unfold kt;split
 · exact Nat.zero_le _
 split
 · rename_i h;rw[h];exact ao _
 · rw[ei];omega
theorem zh{l k:Nat}{R:NQ→NQ→NQ}{rt:List NQ}{a b:NQ}(ha:aC l a)(hb:aC l b)(hrt:c7 rt)(hl:l≤rt.length)(sa:au k a)(sb:au k b)(sr:fp k rt)
  (hR: ∀l',l=l'+1→ ∀a' b' m,k≤m→aC l' a'→aC l' b'→au m a'→au m b'→aC l' (R a' b')∧au (sT l' m) (R a' b')):aC l (kt R rt a b)∧au (sT l k) (kt R rt a b):=by
 have hk:=sa.pos;have h2:=bQ l k;unfold kt;by_cases h0:a.length=0∨b.length=0
 · rw[if_pos h0];exact⟨bn _,aY (by omega)⟩
 rw[if_neg h0];by_cases h1:max a.length b.length=1
 · rw[if_pos h1];refine⟨gl _ _,iR ?_⟩;have:=BT (a.getD 0 0) (b.getD 0 0);have:=sa 0;have:=sb 0;omega
 rw[if_neg h1]
 obtain ⟨i,hi,hn⟩: ∃i,i≤l∧max a.length b.length=2^i:=by
  rcases ha with e | ⟨i,hi,e⟩
  · exact absurd (.inl e) h0
  rcases hb with e2 | ⟨k,hk,e2⟩
  · exact absurd (.inr e2) h0
  by_cases h:a.length≤b.length
  · exact⟨k,hk,by rw[Nat.max_eq_right h,e2]⟩
  · exact⟨i,hi,by rw[Nat.max_eq_left (by omega),e]⟩
 have vZ:i≠0:=fun e=>h1 (by rw[hn,e]);obtain ⟨j,rfl⟩: ∃j,i=j+1:=⟨i-1,by omega⟩;obtain ⟨l',rfl⟩: ∃l',l=l'+1:=⟨l-1,by omega⟩;have hj:j≤l':=by omega
 have hR:=fun a' b' m h1 h2 h3 h4 h5=>hR l' rfl a' b' m h1 h2 h3 h4 h5;have wa:=bH a (max a.length b.length);have wb:=bH b (max a.length b.length);have sa:=sa.wide (max a.length b.length);have sb:=sb.wide (max a.length b.length);generalize bk a (max a.length b.length)=A at *;generalize bk b (max a.length b.length)=B at *;generalize max a.length b.length=n at *;subst hn;have e0:=k7 j;have hlog:(2^(j+1)).log2-1=j:=by rw[Nat.log2_two_pow];omega
 rw[e0,hlog];obtain ⟨e1,e2,e3⟩:=bC wa;obtain ⟨f1,f2,f3⟩:=bC wb;rw[e3] at e1 e2;rw[f3] at f1 f2;have hx:aC l' (A.take (2^j)):= .inr ⟨j,hj,e1⟩;have hy:aC l' (A.drop (2^j)):= .inr ⟨j,hj,e2⟩;have hu:aC l' (B.take (2^j)):= .inr ⟨j,hj,f1⟩;have hv:aC l' (B.drop (2^j)):= .inr ⟨j,hj,f2⟩;have hd:aC l' (rt.getD j []):= .inr ⟨j,hj,hrt j (by omega)⟩;have hs0:=bQ l' k;have hs1:=bQ l' (sT l' k);have r1:=hR _ _ k (ao _) hx hu (sa.take _) (sb.take _);have r2:=hR _ _ k (ao _) hy hv (sa.drop _) (sb.drop _);have r3:=hR _ _ k (ao _) hx hv (sa.take _) (sb.drop _);have r4:=hR _ _ k (ao _) hy hu (sa.drop _) (sb.take _);have r5:=hR _ _ (sT l' k) (by omega) r2.1 hd r2.2 ((sr _).mono (by omega));refine⟨.inr ⟨j+1,by omega,by rw[ei,Nat.pow_succ];omega⟩,(((r1.2.plus r5.2).mono ?_).join ((r3.2.plus r4.2).mono ?_) _)⟩
 · show _≤sT l' (sT l' k)+sT l' k+1;omega
 · show _≤sT l' (sT l' k)+sT l' k+1;omega
theorem lW(a:NQ){l:Nat}(ha:aC l a):(aq a).length≤a.length:=by
 unfold aq;split
 · exact Nat.zero_le _
 have: ∀i,(iy i a).length≤a.length:=fun i=>by
  induction i with
  | zero =>
    unfold iy;split
    · exact Nat.zero_le _
    · rw[aQ];omega
  | succ i ih =>
    unfold iy;split
    · exact ih
    · rw[aQ];omega
 exact this _
theorem gD: ∀(l:Nat) {k:Nat} {rt:List NQ} {a b:NQ},aC l a→aC l b→c7 rt→l≤rt.length→au k a→au k b→fp k rt→aC l (ff l rt a b)∧au (sT l k) (ff l rt a b)
 | 0,k,rt,a,b,ha,hb,hrt,hl,sa,sb,sr=>zh (aX ha sa).1 (aX hb sb).1 hrt hl (aX ha sa).2 (aX hb sb).2 sr (fun l' h=>by omega)
 | l+1,k,rt,a,b,ha,hb,hrt,hl,sa,sb,sr=>zh (aX ha sa).1 (aX hb sb).1 hrt hl (aX ha sa).2 (aX hb sb).2 sr (fun l' e a' b' m hm h1 h2 h3 h4=>by
    obtain rfl:l=l':=by omega
    exact gD l h1 h2 hrt (by omega) h3 h4 (sr.mono hm))
theorem A6: ∀(l:Nat) {rt:List NQ} {a b:NQ},aC l a→aC l b→(ff l rt a b).length≤max a.length b.length
 | 0,rt,a,b,ha,hb=>by
   have h1:=lW a ha;have h2:=lW b hb;have h3:=w5 (R:=fun _ _=>[]) (rt:=rt) (a:=aq a) (b:=aq b);show (kt _ rt _ _).length≤_;omega
 | l+1,rt,a,b,ha,hb=>by
   have h1:=lW a ha;have h2:=lW b hb;have h3:=w5 (R:=ff l rt) (rt:=rt) (a:=aq a) (b:=aq b);show (kt _ rt _ _).length≤_;omega
set_option maxHeartbeats 1600000 in
theorem r7{l k:Nat}{R:NQ→NQ→NQ}{rt:List NQ}{xs:List D}{a b:NQ}(ha:aC l a)(hb:aC l b)(hrt:c7 rt)(hl:l≤rt.length)(hl5:l≤5)(hxs: ∀j,j<rt.length→xs[j]?=some (ai (rt.getD j [])))(sa:au k a)(sb:au k b)(sr:fp k rt)(hk:sT l k≤17300000000000)
  (hR: ∀l',l=l'+1→ ∀a' b' m,k≤m→aC l' a'→aC l' b'→au m a'→au m b'→sT l' m≤17300000000000→Pure Tryz.prog 122 [.ag [.sl 1 xs],ai a',ai b'] (ai (R a' b'))∧(R a' b').length≤max a'.length b'.length∧aC l' (R a' b')∧au (sT l' m) (R a' b')):
  Pure Tryz.prog 122 [.ag [.sl 1 xs],ai a,ai b] (ai (kt R rt (aq a) (aq b))):=by
 refine qJ 105 Tryz.func122 rfl rfl rfl rfl (by kernel_rfl) (fun B F0 w0=>?_);have hk1:=sa.pos;have h2:=bQ l k;have cs1:=cY a ha hl5;have cs2:=cY b hb hl5;obtain ⟨ha,sa⟩:=aX ha sa;obtain ⟨hb,sb⟩:=aX hb sb;generalize aq a=s at *;generalize aq b=t at *;have hla:=ha.len (by omega);have hlb:=hb.len (by omega);refine qX 2 rfl ?_;refine qK 1 rfl ?_;refine ab.call tok rfl rfl rfl rfl cs1 ?_;refine qU 1 rfl ?_;refine ab.call tok rfl rfl rfl rfl cs2 ?_;refine qU 2 rfl ?_;refine qK 4 rfl ?_;rw[ae,ae];refine qU 2 rfl ?_;rw[Ik];refine qI (qX 2 rfl ?_);rw[ae];refine qU 1 rfl ?_;unfold kt;by_cases h0:s.length=0
 · have h00:s.length=0∨t.length=0:= .inl h0;rw[beq_iff_eq.2 (show (s.length:Int)=0 by omega),if_pos h00];refine qU 5 rfl ?_;refine ab.nil ?_;refine AW.aL rfl ?_;refine qX 1 rfl ?_;exact qN rfl
 rw[beq_eq_false_iff_ne.2 (show (s.length:Int)≠0 by omega)];refine qU 3 rfl ?_;rw[ae];refine qU 1 rfl ?_;by_cases h01:t.length=0
 · have h00:s.length=0∨t.length=0:= .inr h01;rw[beq_iff_eq.2 (show (t.length:Int)=0 by omega),if_pos h00];refine qU 1 rfl ?_;refine ab.nil ?_;refine AW.aL rfl ?_;refine qX 1 rfl ?_;exact qN rfl
 have h00: ¬(s.length=0∨t.length=0):=fun h=>h.elim h0 h01;rw[beq_eq_false_iff_ne.2 (show (t.length:Int)≠0 by omega),if_neg h00];refine qU 1 rfl ?_;refine ab.nil ?_;refine AW.aB rfl ?_;refine AW.skip (AW.seq (AW.seq (AW.region ?_)));obtain ⟨n,hn⟩: ∃n,n=max s.length t.length:=⟨_,rfl⟩;rw[← hn];refine qU 2 rfl ?_;by_cases h1:n=1
 · rw[if_pos h1,beq_iff_eq.2 (show (n:Int)=1 by omega)];have g1:=kN (r:=s) (i:=0) (by omega);have g2:=kN (r:=t) (i:=0) (by omega);have cm:=Bb (Qr (s.getD 0 0)) (Qr (t.getD 0 0)) (k:=k) (jt _ (sa 0)) (jt _ (sb 0)) (by omega);rw[cE,cE] at cm;refine ab.nil ?_;refine AW.aL rfl ?_;refine AW.seq (AW.draw aP 8 (by kernel_rfl) ?_);refine qP 1 rfl ?_;refine af.idx tok (Qr (s.getD 0 0)).D rfl rfl rfl rfl rfl (Int.le_refl _) g1 ?_;refine qP 2 rfl ?_;refine af.idx tok (Qr (t.getD 0 0)).D rfl rfl rfl rfl rfl (Int.le_refl _) g2 ?_;refine qP 1 rfl ?_;refine af.call tok rfl rfl rfl rfl rfl cm ?_;refine af.e7 tok rfl rfl rfl rfl rfl rfl ?_;refine af.nil ?_;refine qU 1 rfl ?_;exact qN rfl
 rw[if_neg h1,beq_eq_false_iff_ne.2 (show (n:Int)≠1 by omega)];refine ab.nil ?_;refine AW.aB rfl ?_;refine AW.skip ?_
 obtain ⟨i,hi,hni⟩: ∃i,i≤l∧n=2^i:=by
  rcases ha with e | ⟨i,hi,e⟩
  · exact absurd e h0
  rcases hb with e2 | ⟨k,hk,e2⟩
  · exact absurd e2 h01
  by_cases h:s.length≤t.length
  · exact⟨k,hk,by rw[hn,Nat.max_eq_right h,e2]⟩
  · exact⟨i,hi,by rw[hn,Nat.max_eq_left (by omega),e]⟩
 have hsn:s.length≤n:=by omega
 have htn:t.length≤n:=by omega
 have hn9:n≤1024:=by omega
 clear hn;have vZ:i≠0:=fun e=>h1 (by rw[hni,e]);obtain ⟨j,rfl⟩: ∃j,i=j+1:=⟨i-1,by omega⟩;obtain ⟨l',rfl⟩: ∃l',l=l'+1:=⟨l-1,by omega⟩;have hj:j≤l':=by omega
 have hR:=fun a' b' m h1 h2 h3 h4 h5=>hR l' rfl a' b' m h1 h2 h3 h4 h5;have hs0:=bQ l' k;have hs1:=bQ l' (sT l' k);have hk:sT l' (sT l' k)+sT l' k+1≤17300000000000:=hk;have cw1:=lZ s n hsn (by omega);have cw2:=lZ t n htn (by omega);have cp:=fY hni (by omega);have wa:=bH s n;have wb:=bH t n;have sa:=sa.wide n;have sb:=sb.wide n;generalize bk s n=A at *;generalize bk t n=B at *;have e0:=k7 j;have hlog:n.log2-1=j:=by rw[hni,Nat.log2_two_pow];omega
 obtain ⟨e1,e2,e3⟩:=bC (wa.trans hni);obtain ⟨f1,f2,f3⟩:=bC (wb.trans hni);rw[hlog];obtain ⟨h,hh⟩: ∃h,h=n / 2:=⟨_,rfl⟩
 have hnh:n=h+h:=by
  have:2^(j+1)=2^j*2:=Nat.pow_succ ..;omega
 have hh2:h=2^j:=by rw[hh,hni,e0]
 rw[wa,← hh] at e1 e2;rw[wb,← hh] at f1 f2;rw[← hh];have hx:aC l' (A.take h):= .inr ⟨j,hj,e1⟩;have hy:aC l' (A.drop h):= .inr ⟨j,hj,e2⟩;have hu:aC l' (B.take h):= .inr ⟨j,hj,f1⟩;have hv:aC l' (B.drop h):= .inr ⟨j,hj,f2⟩;have hdl:=hrt j (by omega);have hd:aC l' (rt.getD j []):= .inr ⟨j,hj,hdl⟩;have r1:=hR _ _ k (ao _) hx hu (sa.take _) (sb.take _) (by omega);have r2:=hR _ _ k (ao _) hy hv (sa.drop _) (sb.drop _) (by omega);have r3:=hR _ _ k (ao _) hx hv (sa.take _) (sb.drop _) (by omega);have r4:=hR _ _ k (ao _) hy hu (sa.drop _) (sb.take _) (by omega);have r5:=hR _ _ (sT l' k) (by omega) r2.2.2.1 hd r2.2.2.2 ((sr _).mono (by omega)) (by omega);have n1:(R (A.take h) (B.take h)).length≤h:=Nat.le_trans r1.2.1 (Nat.max_le.2 ⟨by omega,by omega⟩);have n2:(R (A.drop h) (B.drop h)).length≤h:=Nat.le_trans r2.2.1 (Nat.max_le.2 ⟨by omega,by omega⟩);have n3:(R (A.take h) (B.drop h)).length≤h:=Nat.le_trans r3.2.1 (Nat.max_le.2 ⟨by omega,by omega⟩);have n4:(R (A.drop h) (B.take h)).length≤h:=Nat.le_trans r4.2.1 (Nat.max_le.2 ⟨by omega,by omega⟩);have n5:(R (R (A.drop h) (B.drop h)) (rt.getD j [])).length≤h:=Nat.le_trans r5.2.1 (Nat.max_le.2 ⟨n2,by omega⟩);have r1:=And.intro r1.1 r1.2.2;have r2:=And.intro r2.1 r2.2.2;have r3:=And.intro r3.1 r3.2.2;have r4:=And.intro r4.1 r4.2.2;have r5:=And.intro r5.1 r5.2.2;have p1:=ft (R (A.take h) (B.take h)) (R (R (A.drop h) (B.drop h)) (rt.getD j [])) (k:=sT l' (sT l' k)) (r1.2.2.mono (by omega)) r5.2.2 (by omega) (by omega) (by omega);have p2:=ft (R (A.take h) (B.drop h)) (R (A.drop h) (B.take h)) (k:=sT l' k) r3.2.2 r4.2.2 (by omega) (by omega) (by omega);have q1:(aS (R (A.take h) (B.take h)) (R (R (A.drop h) (B.drop h)) (rt.getD j []))).length≤h:=by rw[jM];exact Nat.max_le.2 ⟨n1,n5⟩
 have q2:(aS (R (A.take h) (B.drop h)) (R (A.drop h) (B.take h))).length≤h:=by rw[jM];exact Nat.max_le.2 ⟨n3,n4⟩
 have cw3:=kv (aS (R (A.take h) (B.take h)) (R (R (A.drop h) (B.drop h)) (rt.getD j []))) h q1 (by omega);have cw4:=kv (aS (R (A.take h) (B.drop h)) (R (A.drop h) (B.take h))) h q2 (by omega);unfold dJ;refine qX 2 rfl ?_;refine ab.call tok rfl rfl rfl rfl cw1 ?_;refine qU 2 rfl ?_;refine ab.call tok rfl rfl rfl rfl cw2 ?_;refine qU 2 rfl ?_;refine qK 1 rfl ?_;refine ab.call tok rfl rfl rfl rfl cp ?_;refine qU 5 rfl ?_;refine qI (AW.draw aP 19 (by kernel_rfl) ?_);refine qP 2 rfl ?_;refine af.div tok rfl rfl rfl rfl rfl (by decide) ?_;rw[gL _ (by omega),← hh];refine af.fW tok (a:=A) (A.take h) rfl rfl rfl rfl rfl trivial (aj h) (Nat.zero_le _) (show h≤A.length by omega) rfl ?_;refine qP 2 rfl ?_;refine af.div tok rfl rfl rfl rfl rfl (by decide) ?_;rw[gL _ (by omega),← hh];refine af.fW tok (a:=A) (A.drop h) rfl rfl rfl rfl rfl (aj h) trivial (show h≤A.length by omega) (ao _) (by show (A.take A.length).drop h=_;rw[List.take_length]) ?_;refine qP 2 rfl ?_;refine af.div tok rfl rfl rfl rfl rfl (by decide) ?_;rw[gL _ (by omega),← hh];refine af.fW tok (a:=B) (B.take h) rfl rfl rfl rfl rfl trivial (aj h) (Nat.zero_le _) (show h≤B.length by omega) rfl ?_;refine qP 2 rfl ?_;refine af.div tok rfl rfl rfl rfl rfl (by decide) ?_;rw[gL _ (by omega),← hh];refine af.fW tok (a:=B) (B.drop h) rfl rfl rfl rfl rfl (aj h) trivial (show h≤B.length by omega) (ao _) (by show (B.take B.length).drop h=_;rw[List.take_length]) ?_;refine qP 3 rfl ?_;refine af.nil ?_;refine qU 1 rfl ?_;refine ab.nil ?_;refine AW.bP [3,7,8,10,11,12,13] ?_;show AW _ _ _ _ _ _ _ [(3,.bx [.sl 1 xs]),(7,.d (dI n)),(8,.d (dI (j+1:Nat))),(10,.d (ai (A.take h))),(11,.d (ai (A.drop h))),(12,.d (ai (B.take h))),(13,.d (ai (B.drop h)))];refine AW.seq (AW.draw aP 17 (by kernel_rfl) ?_);refine qP 3 rfl ?_;refine af.call tok rfl rfl rfl rfl rfl r1.1 ?_;refine qP 4 rfl ?_;refine af.call tok rfl rfl rfl rfl rfl r2.1 ?_;refine qP 4 rfl ?_;rw[aH (x:=((j+1:Nat):Int) -1) (by omega) (by omega),show ((j+1:Nat):Int) -1=(j:Int) by omega];refine af.idx tok (ai (rt.getD j [])) rfl rfl rfl rfl rfl (aj j) (hxs j (by omega)) ?_;refine qP 1 rfl ?_;refine af.call tok rfl rfl rfl rfl rfl r5.1 ?_;refine af.call tok rfl rfl rfl rfl rfl p1 ?_;refine af.nil ?_;refine qU 1 rfl ?_;refine qI (AW.draw aP 9 (by kernel_rfl) ?_);refine qP 3 rfl ?_;refine af.call tok rfl rfl rfl rfl rfl r3.1 ?_;refine qP 3 rfl ?_;refine af.call tok rfl rfl rfl rfl rfl r4.1 ?_;refine af.call tok rfl rfl rfl rfl rfl p2 ?_;refine af.nil ?_;refine qU 1 rfl ?_;refine ab.nil ?_;have l1:=bH (aS (R (A.take h) (B.take h)) (R (R (A.drop h) (B.drop h)) (rt.getD j []))) h;have l2:=bH (aS (R (A.take h) (B.drop h)) (R (A.drop h) (B.take h))) h;generalize aS (R (A.take h) (B.take h)) (R (R (A.drop h) (B.drop h)) (rt.getD j []))=P1 at *;generalize aS (R (A.take h) (B.drop h)) (R (A.drop h) (B.take h))=P2 at *;refine AW.bP [7,14,15] ?_;show AW _ _ _ _ _ _ _ [(7,.d (dI n)),(14,.d (ai P1)),(15,.d (ai P2))];generalize bk P1 h=wa at *;generalize bk P2 h=wb at *;refine AW.seq (AZ.aw ?_);refine AZ.region ?_;refine ah.cut 3 rfl (fun B1 F1 w1=>?_);refine qU 2 rfl ?_;refine ab.div tok rfl rfl rfl rfl (by decide) ?_;rw[gL _ (by omega),← hh];refine ab.nil ⟨rfl,?_⟩;refine ah.fR tok [] rfl rfl rfl rfl rfl List.nodup_nil rfl cw3 (fun _ _ _=>Nat.zero_le _) (fun res R1 hP=>?_);obtain ⟨V1,rfl,rfl⟩:=hP;refine ah.cut 3 rfl (fun B1 F1 w1=>?_);refine qU 2 rfl ?_;refine ab.div tok rfl rfl rfl rfl (by decide) ?_;rw[gL _ (by omega),← hh];refine ab.nil ⟨rfl,?_⟩;refine ah.fR tok [] rfl rfl rfl rfl rfl List.nodup_nil rfl cw4 (fun _ _ _=>Nat.zero_le _) (fun res R1 hP=>?_);obtain ⟨V2,rfl,rfl⟩:=hP;refine ah.to [99,103] [(99,.d (.v V1)),(103,.d (.v V2))] rfl ?_;refine ah.cT 99 0 (V:=V1) (av:= .ow 111 (eC wa)) rfl rfl rfl ?_;refine ah.to [99,103] [(99,.ow 111 (eC wa)),(103,.d (.v V2))] rfl ?_;refine ah.cT 103 1 (V:=V2) (av:= .ow 111 (eC wb)) rfl rfl rfl ?_;refine ah.to [99,103] [(99,.ow 111 (eC wa)),(103,.ow 111 (eC wb))] rfl ?_;refine ah.cut 2 rfl (fun B1 F1 w1=>?_);refine ab.fQ tok 103 rfl rfl ?_;refine ab.gg tok rfl rfl rfl rfl rfl rfl (by rw[ae,ae,l1,l2];show (_+_)*56≤_;omega) (by rw[ae,ae,l1,l2];omega) ?_;refine qU 1 rfl ?_;refine ab.nil ⟨rfl,?_⟩;refine ah.nil ?_;rw[show eC wa++eC wb=eC (wa++wb) from List.map_append.symm];exact AW.ret rfl
theorem fI: ∀(l:Nat) {k:Nat} {rt:List NQ} {xs:List D} {a b:NQ},aC l a→aC l b→c7 rt→l≤rt.length→l≤5→(∀j,j<rt.length→xs[j]?=some (ai (rt.getD j [])))→au k a→au k b→fp k rt→sT l k≤17300000000000→Pure Tryz.prog 122 [.ag [.sl 1 xs],ai a,ai b] (ai (ff l rt a b))
 | 0,k,rt,xs,a,b,ha,hb,hrt,hl,hl5,hxs,sa,sb,sr,hk=>r7 ha hb hrt hl hl5 hxs sa sb sr hk (fun l' h=>by omega)
 | l+1,k,rt,xs,a,b,ha,hb,hrt,hl,hl5,hxs,sa,sb,sr,hk=>r7 ha hb hrt hl hl5 hxs sa sb sr hk (fun l' e a' b' m hm h1 h2 h3 h4 h5=>by
    obtain rfl:l=l':=by omega
    exact⟨fI l h1 h2 hrt (by omega) (by omega) hxs h3 h4 (sr.mono hm) h5,A6 l h1 h2,gD l h1 h2 hrt (by omega) h3 h4 (sr.mono hm)⟩)
end Lift
namespace Lift
open Go Go.Proofs
theorem zg{l k j:Nat}{rt:List NQ}{a:NQ}(hj:j≤l)(ha:a.length=2^(j+1))(hrt:c7 rt)(hl:l<rt.length)(sa:au k a)(sr:fp k rt):aC l (fq l rt a)∧au (sT (l+1) k) (fq l rt a):=by
 obtain ⟨e1,e2,e3⟩:=bC ha;have hx:aC l (a.take (a.length / 2)):= .inr ⟨j,hj,e1⟩;have hy:aC l (a.drop (a.length / 2)):= .inr ⟨j,hj,e2⟩;have hlog:a.length.log2-1=j:=by rw[ha,Nat.log2_two_pow];omega
 have hd:aC l (rt.getD j []):= .inr ⟨j,hj,hrt j (by omega)⟩;have h0:=bQ l k;have h1:=bQ l (sT l k);have r1:=gD l hx hx hrt (by omega) (sa.take _) (sa.take _) sr;have r2:=gD l hy hy hrt (by omega) (sa.drop _) (sa.drop _) sr;have r3:=gD l r2.1 hd hrt (by omega) r2.2 ((sr _).mono (by omega)) (sr.mono (by omega));unfold fq;rw[hlog];refine⟨r1.1.plus r3.1.minus,(r1.2.plus r3.2.minus).mono ?_⟩;show _≤sT l (sT l k)+sT l k+1;omega
theorem sh{l k j:Nat}{rt:List NQ}{xs:List D}{a:NQ}(hj:j≤l)(ha:a.length=2^(j+1))(hrt:c7 rt)(hl:l<rt.length)(hl5:l+1≤5)(hxs: ∀j,j<rt.length→xs[j]?=some (ai (rt.getD j [])))(sa:au k a)(sr:fp k rt)(hk:sT (l+1) k≤17300000000000):
  Pure Tryz.prog 138 [.ag [.sl 1 xs],ai a,dI a.length] (ai (fq l rt a)):=by
 refine qJ 45 Tryz.func138 rfl rfl rfl rfl (by kernel_rfl) (fun B F0 w0=>?_);obtain ⟨e1,e2,e3⟩:=bC ha;have hx:aC l (a.take (a.length / 2)):= .inr ⟨j,hj,e1⟩;have hy:aC l (a.drop (a.length / 2)):= .inr ⟨j,hj,e2⟩;have hlog:a.length.log2-1=j:=by rw[ha,Nat.log2_two_pow];omega
 have hd:aC l (rt.getD j []):= .inr ⟨j,hj,hrt j (by omega)⟩;have h0:=bQ l k;have h1:=bQ l (sT l k);have hk:sT l (sT l k)+sT l k+1≤17300000000000:=hk;have hp:2^(j+1)≤2^10:=Nat.pow_le_pow_right (by decide) (by omega);have r1:=gD l hx hx hrt (by omega) (sa.take _) (sa.take _) sr;have r2:=gD l hy hy hrt (by omega) (sa.drop _) (sa.drop _) sr;have r3:=gD l r2.1 hd hrt (by omega) r2.2 ((sr _).mono (by omega)) (sr.mono (by omega));have c1:=fI l hx hx hrt (by omega) (by omega) hxs (sa.take _) (sa.take _) sr (by omega);have c2:=fI l hy hy hrt (by omega) (by omega) hxs (sa.drop _) (sa.drop _) sr (by omega);have c3:=fI l r2.1 hd hrt (by omega) (by omega) hxs r2.2 ((sr j).mono (by omega)) (sr.mono (by omega)) (by omega);have n1:=r1.1.len (by omega);have n3:=r3.1.len (by omega);have c4:=iT _ r3.2 (by omega) (by omega);have c5:=ft _ _ (k:=sT l (sT l k)) (r1.2.mono (by omega)) r3.2.minus (by omega) (by omega) (by rw[bz];omega);have cw:=lZ a a.length (ao _) (by omega);rw[jR] at cw;have cp:=fY ha (by omega);unfold fq;rw[hlog];obtain ⟨n,hn⟩: ∃n,n=a.length / 2:=⟨_,rfl⟩;rw[← hn] at e1 e2 e3 hx hy c1 c2 c3 c4 c5 ⊢;refine qX 2 rfl ?_;refine qK 2 rfl ?_;refine ab.call tok rfl rfl rfl rfl cw ?_;refine qU 1 rfl ?_;refine qK 1 rfl ?_;refine ab.call tok rfl rfl rfl rfl cp ?_;refine qU 5 rfl ?_;refine qI (AW.draw aP 9 (by kernel_rfl) ?_);refine qP 2 rfl ?_;refine af.div tok rfl rfl rfl rfl rfl (by decide) ?_;rw[gL _ (by omega),← hn];refine af.fW tok (a:=a) (a.take n) rfl rfl rfl rfl rfl trivial (aj n) (Nat.zero_le _) (show n≤a.length by omega) rfl ?_;refine qP 2 rfl ?_;refine af.div tok rfl rfl rfl rfl rfl (by decide) ?_;rw[gL _ (by omega),← hn];refine af.fW tok (a:=a) (a.drop n) rfl rfl rfl rfl rfl (aj n) trivial (show n≤a.length by omega) (ao _) (by show (a.take a.length).drop n=_;rw[List.take_length]) ?_;refine qP 1 rfl ?_;refine af.nil ?_;refine qU 1 rfl ?_;refine qI (AW.draw aP 18 (by kernel_rfl) ?_);refine qP 3 rfl ?_;refine af.call tok rfl rfl rfl rfl rfl c1 ?_;refine qP 4 rfl ?_;refine af.call tok rfl rfl rfl rfl rfl c2 ?_;refine qP 4 rfl ?_;rw[aH (x:=((j+1:Nat):Int) -1) (by omega) (by omega),show ((j+1:Nat):Int) -1=(j:Int) by omega];refine af.idx tok (ai (rt.getD j [])) rfl rfl rfl rfl rfl (aj j) (hxs j (by omega)) ?_;refine qP 1 rfl ?_;refine af.call tok rfl rfl rfl rfl rfl c3 ?_;refine af.call tok rfl rfl rfl rfl rfl c4 ?_;refine af.call tok rfl rfl rfl rfl rfl c5 ?_;refine af.nil ?_;refine qU 1 rfl ?_;exact qN rfl
theorem wZ{R:NQ→Int}{N:NQ→NQ}{rt:List NQ}{a:NQ}(hR: ∀b,wL (R b)):wL (ou R N rt a):=by
 unfold ou;split
 · exact .inl rfl
 split
 · exact gC _
 split
 · exact hR _
 split
 · exact lT (hR _) (hR _)
 · exact lT (hR _) (hR _)
theorem uj: ∀(l:Nat) (rt:List NQ) (a:NQ),wL (mT l rt a)
 | 0,rt,a=>wZ (fun _=> .inl rfl)
 | l+1,rt,a=>wZ (fun b=>uj l rt b)
set_option maxHeartbeats 1600000 in
theorem ui{l k:Nat}{R:NQ→Int}{N:NQ→NQ}{rt:List NQ}{xs:List D}{a:NQ}(ha:aC l a)(hl5:l≤5)(hrt:c7 rt)(hl:l≤rt.length)(hxs: ∀j,j<rt.length→xs[j]?=some (ai (rt.getD j [])))(sa:au k a)(sr:fp k rt)(hok:nS l k)
  (hR: ∀l',l=l'+1→ ∀b m,aC l' b→au m b→k≤m→nS l' m→Pure Tryz.prog 100 [.ag [.sl 1 xs],ai b] (dI (R b))) (hT: ∀b,wL (R b))
  (hN: ∀l',l=l'+1→ ∀b j,j≤l'→b.length=2^(j+1)→au k b→Pure Tryz.prog 138 [.ag [.sl 1 xs],ai b,dI b.length] (ai (N b))∧aC l' (N b)∧au (sT l k) (N b)):
  Pure Tryz.prog 100 [.ag [.sl 1 xs],ai a] (dI (ou R N rt (aq a))):=by
 refine qJ 70 Tryz.func100 rfl rfl rfl rfl (by kernel_rfl) (fun B F0 w0=>?_);have hk:=o7 hok;have cs:=cY a ha hl5;obtain ⟨ha,sa⟩:=aX ha sa;generalize aq a=b at cs ha sa ⊢;have hlb:=ha.len (by omega);unfold ou;refine qX 2 rfl ?_;refine qK 1 rfl ?_;refine ab.call tok rfl rfl rfl rfl cs ?_;refine qU 1 rfl ?_;refine qI (qX 2 rfl ?_);rw[ae];refine qU 1 rfl ?_;refine ab.nil ?_;by_cases h0:b.length=0
 · rw[if_pos h0,h0];refine AW.aL rfl ?_;refine qX 1 rfl ?_;exact qN rfl
 rw[if_neg h0,beq_eq_false_iff_ne.2 (show (b.length:Int)≠0 by omega)];refine AW.aB rfl ?_;refine AW.skip (qX 2 rfl ?_);rw[ae];refine qU 1 rfl ?_;refine qI (qX 2 rfl ?_);refine ab.nil ?_;by_cases h1:b.length=1
 · have g:=kN (r:=b) (i:=0) (by omega);have cq:=sj (Qr (b.getD 0 0)) (jt _ (sa 0)) (by omega);rw[cE,xG] at cq;rw[if_pos h1,h1];refine AW.aL rfl ?_;refine qX 1 rfl ?_;refine ab.idx tok (Qr (b.getD 0 0)).D rfl rfl rfl rfl (Int.le_refl _) g ?_;refine qU 1 rfl ?_;refine ab.call tok rfl rfl rfl rfl cq ?_;refine qU 1 rfl ?_;exact qN rfl
 rw[if_neg h1,beq_eq_false_iff_ne.2 (show (b.length:Int)≠1 by omega)];refine AW.aB rfl ?_;refine AW.skip ?_
 obtain ⟨i,hi,hla2⟩: ∃i,i≤l∧b.length=2^i:=by
  rcases ha with e | e
  · omega
  · exact e
 have vZ:i≠0:=fun e=>h1 (by rw[hla2,e]);obtain ⟨j,rfl⟩: ∃j,i=j+1:=⟨i-1,by omega⟩;obtain ⟨l',rfl⟩: ∃l',l=l'+1:=⟨l-1,by omega⟩;have hj:j≤l':=by omega
 have hN:=hN l' rfl b j hj hla2 sa;have hR:=fun b m h1 h2 h3 h4=>hR l' rfl b m h1 h2 h3 h4;obtain ⟨e1,e2,e3⟩:=bC hla2;have hx:aC l' (b.take (b.length / 2)):= .inr ⟨j,hj,e1⟩;have hy:aC l' (b.drop (b.length / 2)):= .inr ⟨j,hj,e2⟩;have hlog:b.length.log2-1=j:=by rw[hla2,Nat.log2_two_pow];omega
 have hd:aC l' (rt.getD j []):= .inr ⟨j,hj,hrt j (by omega)⟩;have hk2:=bQ (l'+1) k;have r1:=hR _ k hx (sa.take _) (ao _) (jV hok);have r2:=hR _ k hy (sa.drop _) (ao _) (jV hok);have r3:=hR _ k hd (sr j) (ao _) (jV hok);have r4:=hR _ _ hN.2.1 hN.2.2 (by omega) hok.2;have t1:=hT (b.take (b.length / 2));have t2:=lT (hT (b.drop (b.length / 2))) (hT (rt.getD j []));have t4:=lT t1 (hT (N b));have cn:=hN.1;have cp:=fY hla2 (by omega);rw[hlog];obtain ⟨n,hn⟩: ∃n,n=b.length / 2:=⟨_,rfl⟩;rw[← hn] at e1 e2 e3 hx hy r1 r2 t1 t2 t4 ⊢;generalize R (b.take n)=x at r1 t1 t4 ⊢;generalize R (b.drop n)=y at r2 t2 ⊢;generalize R (rt.getD j [])=z at r3 t2 ⊢;generalize R (N b)=u at r4 t4 ⊢;refine qX 1 rfl ?_;refine ab.call tok rfl rfl rfl rfl cp ?_;refine qU 5 rfl ?_;refine qK 4 rfl ?_;rw[aH (x:=((j+1:Nat):Int) -1) (by omega) (by omega),show ((j+1:Nat):Int) -1=(j:Int) by omega];refine ab.idx tok (ai (rt.getD j [])) rfl rfl rfl rfl (aj j) (hxs j (by omega)) ?_;refine qU 2 rfl ?_;refine qI (AW.draw aP 17 (by kernel_rfl) ?_);refine qP 3 rfl ?_;refine af.div tok rfl rfl rfl rfl rfl (by decide) ?_;rw[gL _ (by omega),← hn];refine af.fW tok (a:=b) (b.take n) rfl rfl rfl rfl rfl trivial (aj n) (Nat.zero_le _) (show n≤b.length by omega) rfl ?_;refine af.call tok rfl rfl rfl rfl rfl r1 ?_;refine qP 3 rfl ?_;refine af.div tok rfl rfl rfl rfl rfl (by decide) ?_;rw[gL _ (by omega),← hn];refine af.fW tok (a:=b) (b.drop n) rfl rfl rfl rfl rfl (aj n) trivial (show n≤b.length by omega) (ao _) (by show (b.take b.length).drop n=_;rw[List.take_length]) ?_;refine af.call tok rfl rfl rfl rfl rfl r2 ?_;refine qP 2 rfl ?_;refine af.call tok rfl rfl rfl rfl rfl r3 ?_;refine qP 1 rfl ?_;rw[aH (x:=y*z) (by unfold wL at t2;omega) (by unfold wL at t2;omega)];refine qP 1 rfl ?_;refine af.nil ?_;refine qU 1 rfl ?_;refine ab.nil ?_;refine AW.bP [1,2,5,9,10] ?_;show AW _ _ _ _ _ _ _ [(1,.d (ai b)),(2,.bx [.sl 1 xs]),(5,.d (dI b.length)),(9,.d (.v (.int .i64 x))),(10,.d (.v (.int .i64 (y*z))))];generalize y*z=yz at t2 ⊢;refine AW.seq (qX 3 rfl ?_);by_cases hxy:x=yz
 · have hor:x=yz∨yz=0:= .inl hxy;rw[if_pos hor,beq_iff_eq.2 hxy];refine qU 4 rfl ?_;refine ab.nil ?_;refine AW.aL rfl ?_;refine qX 2 rfl ?_;exact qN rfl
 rw[beq_eq_false_iff_ne.2 hxy];refine qU 3 rfl ?_;by_cases hy0:yz=0
 · have hor:x=yz∨yz=0:= .inr hy0;rw[if_pos hor,beq_iff_eq.2 hy0];refine qU 1 rfl ?_;refine ab.nil ?_;refine AW.aL rfl ?_;refine qX 2 rfl ?_;exact qN rfl
 have hor: ¬(x=yz∨yz=0):=fun h=>h.elim hxy hy0;rw[if_neg hor,beq_eq_false_iff_ne.2 hy0];refine qU 1 rfl ?_;refine ab.nil ?_;refine AW.aB rfl ?_;refine AW.skip (AW.seq ?_);refine qX 2 rfl ?_;refine ab.nil ?_;by_cases hx0:x=0
 · rw[if_pos hx0,beq_iff_eq.2 hx0];refine AW.aL rfl ?_;refine qX 2 rfl ?_;exact qN rfl
 rw[if_neg hx0,beq_eq_false_iff_ne.2 hx0];refine AW.aB rfl ?_;refine AW.skip (AW.seq ?_);refine AW.draw aP 8 (by kernel_rfl) ?_;refine qP 5 rfl ?_;refine af.call tok rfl rfl rfl rfl rfl cn ?_;refine af.call tok rfl rfl rfl rfl rfl r4 ?_;refine qP 1 rfl ?_;rw[aH (x:=x*u) (by unfold wL at t4;omega) (by unfold wL at t4;omega)];refine af.nil ?_;refine qU 1 rfl ?_;exact qN rfl
theorem gF: ∀(l:Nat) {k:Nat} {rt:List NQ} {xs:List D} {a:NQ},aC l a→l≤5→c7 rt→l≤rt.length→(∀j,j<rt.length→xs[j]?=some (ai (rt.getD j [])))→au k a→fp k rt→nS l k→Pure Tryz.prog 100 [.ag [.sl 1 xs],ai a] (dI (mT l rt a))
 | 0,k,rt,xs,a,ha,hl5,hrt,hl,hxs,sa,sr,hok=>ui ha hl5 hrt hl hxs sa sr hok (fun l' h=>by omega) (fun _=> .inl rfl) (fun l' h=>by omega)
 | l+1,k,rt,xs,a,ha,hl5,hrt,hl,hxs,sa,sr,hok=>ui ha hl5 hrt hl hxs sa sr hok (fun l' e b m h1 h2 h3 h4=>by
    obtain rfl:l=l':=by omega
    exact gF l h1 (by omega) hrt (by omega) hxs h2 (sr.mono h3) h4) (uj l rt) (fun l' e b j h1 h2 h3=>by
    obtain rfl:l=l':=by omega
    exact⟨sh h1 h2 hrt (by omega) (by omega) hxs h3 sr hok.1,zg h1 h2 hrt (by omega) h3 sr⟩)
end Lift
namespace Lift
open Go Go.Proofs
theorem H9{v:List NQ}(ro:c7 v)(ps: ∀k,k<v.length→ ¬ec k (v.take k) (v.getD k [])<0):nB v:=fun j hj=>by
 have h:=ps j hj
 have e: ∀i,i<j→(v.take j).getD i []=v.getD i []:=fun i hi=>by
  rw[aG,List.getElem?_take_of_lt hi,aG]
 have ro2:c7 (v.take j):=fun i hi=>by
  rw[aQ] at hi;rw[e i (by omega)];exact ro i (by omega)
 have lt:aC j (v.getD j []):= .inr ⟨j,ao _,ro j hj⟩;rw[eD j lt ro2 (by rw[aQ];omega)] at h
 have key: ∀(l:Nat) (a:Cf),l≤j→bd (v.take j) l a=bd v l a∧ ∀b:Cf,mulC (v.take j) l a b=mulC v l a b:=by
  intro l
  induction l with
  | zero=>exact fun a _=>⟨rfl,fun b=>rfl⟩
  | succ l ih =>
    intro a hl;have hm: ∀x y:Cf,mulC (v.take j) l x y=mulC v l x y:=fun x y=>(ih x (by omega)).2 y;have hs: ∀x:Cf,bd (v.take j) l x=bd v l x:=fun x=>(ih x (by omega)).1;refine⟨?_,fun b=>?_⟩
    · unfold bd b7;simp only[hm,hs,e l (by omega)]
    · funext i;show (if i<2^l then mulC (v.take j) l a b i+mulC (v.take j) l (mulC (v.take j) l (ck l a) (ck l b)) (cf ((v.take j).getD l [])) i else mulC (v.take j) l a (ck l b) (i-2^l)+mulC (v.take j) l (ck l a) b (i-2^l))=_;simp only[hm,e l (by omega)];rfl
 rw[(key j _ (ao _)).1] at h;omega
theorem Ep{rt:List (List RD)}{i:Nat}(hi:i≤rt.length)(h: ∀j,j<i→vY rt j=0):nB ((rt.take i).map bS):=H9 (lS hi h) (fun k hk=>by
 rw[fU hi] at hk;have h1:=(iz (h k hk)).2.2;rw[pG hk,← List.map_take,List.take_take,Nat.min_eq_left (by omega)]
 exact h1)
theorem D3{rt:List (List RD)}{i:Nat}(hi:i≤rt.length)(h: ∀j,j<i→vY rt j=0){a:NQ}(ha:aC i a):mT i ((rt.take i).map bS) a=ec i ((rt.take i).map bS) a:=by
 rw[fX i ha (lS hi h) (Ep hi h) (by rw[fU hi];exact ao _),eD i ha (lS hi h) (by rw[fU hi];exact ao _)]
theorem Ed{rt:List (List RD)}{k m:Nat}(hw: ∀i,i<k→wN m (rt.getD i []))(hk:k≤rt.length)(h: ∀j,j<k→kz (rt.getD j [])=true): ∀j,j<((rt.take k).map bS).length→(rt.map dn)[j]?=some (ai (((rt.take k).map bS).getD j [])):=fun j hj=>by
 rw[fU hk] at hj;have hj2:j<rt.length:=by omega
 rw[pG hj,← k9 (hw j hj) (h j hj)];simp[hj2]
theorem pY(rt:List (List RD)){m:Nat}(hw: ∀i,i<rt.length→(rt.getD i []).length=2^i→wN m (rt.getD i []))(h1:1≤m)(hl:rt.length≤1000000)(hll: ∀i,i<rt.length→(rt.getD i []).length≤4398046511104)(hok:rt.length≤5→nS rt.length m):Pure Tryz.prog 56 [TrD rt] (dI (dm rt)):=by
 refine qJ 34 Tryz.func56 rfl rfl rfl rfl (by kernel_rfl) (fun B F0 w0=>?_);unfold dm;obtain ⟨E,hE⟩: ∃E,fE (vY rt) (rt.length-0) 0=E:=⟨_,rfl⟩;rw[hE];refine qX 2 rfl ?_;refine qI (qX 3 rfl ?_);rw[ae];refine qU 1 rfl ?_;refine ab.nil ?_;by_cases h5:5<rt.length
 · rw[if_pos h5,aV (show (5:Int)<(rt.length:Int) by omega)];refine AW.aL rfl ?_;refine qX 1 rfl ?_;exact qN rfl
 rw[if_neg h5,aT (show ¬(5:Int)<(rt.length:Int) by omega)];have hok:=hok (by omega);have hm7:=o7 hok;refine AW.aB rfl ?_;refine AW.skip (AW.seq ?_);refine qX 3 rfl ?_;rw[ae];refine qU 1 rfl ?_;refine ab.nil ?_;refine AW.block (AW.aF [1,11,12,13] (fun i:Nat=>[(1,.bx [.sl 1 (rt.map dn)]),(11,.d (.sl 1 (rt.map dn))),(12,.d (dI rt.length)),(13,.d (dI i))]) (fun i=>i≤rt.length∧fE (vY rt) (rt.length-i) i=E∧ ∀j,j<i→vY rt j=0) (fun i=>rt.length-i) 0 rfl ⟨Nat.zero_le _,hE,fun j hj=>by omega⟩ (fun i ⟨hi,hiE,hall⟩=>?_));refine qX 1 rfl ?_;refine qI (AW.cond rfl (fun h=>?_) (fun h=>?_));rotate_left
 · have hii: ¬i<rt.length:=by have:=aA h;omega
   rw[j7 hii] at hiE;subst hiE;refine AW.exit ?_;refine qX 1 rfl ?_;exact qN rfl
 have hii:i<rt.length:=by have:=ar h;omega
 have hg:(rt.map dn)[i]?=some (dn (rt.getD i [])):=by simp[hii]
 have hwi:=hw i hii;have hli:=hll i hii;have hmiss:=fun h0:vY rt i=0=>(ib hii h0).symm.trans hiE;have hhit:=fun h0:vY rt i≠0=>(j6 hii h0).symm.trans hiE;have hp:2^i≤2^5:=Nat.pow_le_pow_right (by decide) (by omega);have hrt:vY rt i=if (rt.getD i []).length≠2^i then 10 else if bL i (rt.getD i [])≠0 then bL i (rt.getD i []) else if ec i ((rt.take i).map bS) (bS (rt.getD i []))<0 then 3 else 0:=rfl
 refine AW.skip (AW.seq (AW.block ?_));refine qX 1 rfl ?_;refine ab.idx tok (dn (rt.getD i [])) rfl rfl rfl rfl (aj i) hg ?_;refine qU 3 rfl ?_;refine qI (qX 2 rfl ?_);rw[ae];refine qU 2 rfl ?_;rw[y7 (by omega)];refine qU 1 rfl ?_;refine ab.nil ?_;by_cases e1:(rt.getD i []).length=2^i;rotate_left
 · rw[if_pos e1] at hrt;rw[bne_iff_ne.2 (show (((rt.getD i []).length:Nat):Int)≠((2^i:Nat):Int) by omega)];have:=hhit (by rw[hrt];decide);rw[hrt] at this;subst this;refine AW.aL rfl ?_;refine qX 1 rfl ?_;exact qN rfl
 rw[if_neg (fun h=>h e1)] at hrt;have hwi:=hwi e1;have cn:=fZ i (rt.getD i []) (by omega) (fun _=>hwi) (by omega) hli;rw[e1,bne_eq_false_iff_eq.2 rfl];refine AW.aB rfl ?_;refine AW.skip (AW.seq ?_);refine qX 2 rfl ?_;refine ab.call tok rfl rfl rfl rfl cn ?_;refine qU 1 rfl ?_;refine qK 2 rfl ?_;refine ab.nil ?_;by_cases e2:bL i (rt.getD i [])=0;rotate_left
 · rw[if_pos e2] at hrt;have:=hhit (by rw[hrt];exact e2);rw[hrt] at this;subst this;rw[bne_iff_ne.2 (show ((bL i (rt.getD i []):Nat):Int)≠0 by omega)];refine AW.aL rfl ?_;refine qX 2 rfl ?_;exact qN rfl
 rw[if_neg (fun h=>h e2)] at hrt;rw[bne_eq_false_iff_eq.2 (show ((bL i (rt.getD i []):Nat):Int)=0 by omega)];obtain ⟨n1,n2⟩:=qd e2;have hwj:=fun j (hj:j<i)=>hw j (by omega) (iz (hall j hj)).1;have cs:=gF i (k:=m) (rt:=(rt.take i).map bS) (xs:=rt.map dn) n1 (by omega) (lS hi hall) (by rw[fU hi];exact ao _) (Ed hwj hi (fun j hj=>(iz (hall j hj)).2.1)) (mO hwi h1) (tj hwj h1 hi) (Eu hok hi);have tr:=nH i ((rt.take i).map bS) (bS (rt.getD i []));rw[D3 hi hall n1,← k9 hwi n2] at cs;generalize ec i ((rt.take i).map bS) (bS (rt.getD i []))=s at cs hrt tr;refine AW.aB rfl ?_;refine AW.skip (qX 2 rfl ?_);refine ab.call tok rfl rfl rfl rfl cs ?_;refine qU 1 rfl ?_;refine ab.nil ?_;by_cases e3:s<0
 · rw[if_pos e3] at hrt;rw[aV e3];have:=hhit (by rw[hrt];decide);rw[hrt] at this;subst this;refine AW.aL rfl ?_;refine qX 1 rfl ?_;exact qN rfl
 rw[if_neg e3] at hrt;rw[aT e3];refine AW.aB rfl ?_;refine AW.skip (qT 1 rfl ?_);rw[aH (x:=(i:Int)+1) (by omega) (by omega)];refine qU 1 rfl ?_;refine ab.nil ?_
 exact⟨i+1,rfl,⟨hii,hmiss hrt,fun j hj=>by
  by_cases e:j=i
  · rw[e];exact hrt
  · exact hall j (by omega)⟩,by omega⟩
theorem ox(rt l:List (List RD)){m mn:Nat}(hw: ∀i,i<rt.length→(rt.getD i []).length=2^i→wN m (rt.getD i []))(h1:1≤m)(hl:rt.length≤1000000)(hll: ∀i,i<rt.length→(rt.getD i []).length≤4398046511104)(hok:rt.length≤5→nS rt.length m)
  (hlw: ∀i,i<l.length→BO rt.length (l.getD i [])→wN mn (l.getD i [])) (hl2:l.length≤1000000) (hl3: ∀i,i<l.length→(l.getD i []).length≤4398046511104) (hm:mn≤17300000000000):Pure Tryz.prog 110 [TrD rt,.sl 1 (l.map dn)] (dI (qG rt l)):=by
 refine qJ 29 Tryz.func110 rfl rfl rfl rfl (by kernel_rfl) (fun B F0 w0=>?_);have cC:=pY rt hw h1 hl hll hok;unfold qG;obtain ⟨E,hE⟩: ∃E,fE (fun i=>bL rt.length (l.getD i [])) (l.length-0) 0=E:=⟨_,rfl⟩;rw[hE];refine qX 2 rfl ?_;refine qI (qX 1 rfl ?_);refine ab.call tok rfl rfl rfl rfl cC ?_;refine qU 1 rfl ?_;refine qK 2 rfl ?_;refine ab.nil ?_;by_cases e2:dm rt=0;rotate_left
 · rw[if_pos e2,bne_iff_ne.2 (show ((dm rt:Nat):Int)≠0 by omega)];refine AW.aL rfl ?_;refine qX 2 rfl ?_;exact qN rfl
 have h5:=(kc e2).1;rw[if_neg (fun h=>h e2),bne_eq_false_iff_eq.2 (show ((dm rt:Nat):Int)=0 by omega)];refine AW.aB rfl ?_;refine AW.skip (AW.seq ?_);refine qX 2 rfl ?_;rw[ae];refine qU 1 rfl ?_;refine ab.nil ?_;refine AW.block (AW.aF [2,14,15,16] (fun i:Nat=>[(2,.bx [.sl 1 (rt.map dn)]),(14,.d (.sl 1 (l.map dn))),(15,.d (dI l.length)),(16,.d (dI i))]) (fun i=>i≤l.length∧fE (fun i=>bL rt.length (l.getD i [])) (l.length-i) i=E) (fun i=>l.length-i) 0 rfl ⟨Nat.zero_le _,hE⟩ (fun i ⟨hi,hiE⟩=>?_));refine qX 1 rfl ?_;refine qI (AW.cond rfl (fun h=>?_) (fun h=>?_));rotate_left
 · have hii: ¬i<l.length:=by have:=aA h;omega
   rw[j7 hii] at hiE;subst hiE;refine AW.exit ?_;refine qX 1 rfl ?_;exact qN rfl
 have hii:i<l.length:=by have:=ar h;omega
 have hg:(l.map dn)[i]?=some (dn (l.getD i [])):=by simp[hii]
 have hmiss:=fun h0:bL rt.length (l.getD i [])=0=>(ib (f:=fun i=>bL rt.length (l.getD i [])) hii h0).symm.trans hiE;have hhit:=fun h0:bL rt.length (l.getD i [])≠0=>(j6 (f:=fun i=>bL rt.length (l.getD i [])) hii h0).symm.trans hiE;have cn:=fZ rt.length (l.getD i []) h5 (hlw i hii) hm (hl3 i hii);refine AW.skip (AW.seq (AW.block (AW.seq (AW.region ?_))));refine ab.idx tok (dn (l.getD i [])) rfl rfl rfl rfl (aj i) hg ?_;refine qU 2 rfl ?_;refine qK 3 rfl ?_;rw[ae];refine qU 1 rfl ?_;refine ab.call tok rfl rfl rfl rfl cn ?_;refine qU 1 rfl ?_;refine ab.nil ?_;generalize bL rt.length (l.getD i [])=v at hmiss hhit;refine qX 2 rfl ?_;refine ab.nil ?_;by_cases hv:v=0;rotate_left
 · have:=hhit hv;subst this;rw[bne_iff_ne.2 (show ((v:Nat):Int)≠0 by omega)];refine AW.aL rfl ?_;refine qX 2 rfl ?_;exact qN rfl
 rw[bne_eq_false_iff_eq.2 (show ((v:Nat):Int)=0 by omega)];refine AW.aB rfl ?_;refine AW.skip (qT 1 rfl ?_);rw[aH (x:=(i:Int)+1) (by omega) (by omega)];refine qU 1 rfl ?_;refine ab.nil ?_;exact⟨i+1,rfl,⟨hii,hmiss hv⟩,by omega⟩
end Lift
namespace Lift
open Go Go.Proofs
theorem Eo(r s:RD){k:Nat}(hr:r.w k)(hs:s.w k)(hk:k≤17300000000000)(h0:s.val≠0):Pure Tryz.prog 161 [r.D,s.D] (.tu [(Qr (r.val / s.val)).D,dI 0]):=by
 refine qJ 29 Tryz.func161 rfl rfl rfl rfl (by kernel_rfl) (fun B F0 w0=>?_);have hl:=fc (hr.mono (Nat.le_max_left k 1)) (Nat.le_max_right k 1);have hm:=fc (hs.mono (Nat.le_max_left k 1)) (Nat.le_max_right k 1);have:=jF r.val;have:=ki r.val;have:=jF s.val;have:=ki s.val;obtain ⟨d1,d2,d3⟩:=Fj hl hm h0;rw[← pj r.val s.val h0];refine qX 4 rfl ?_;refine qK 1 rfl ?_;refine ab.call tok rfl rfl rfl rfl (dF r hr (by omega)) ?_;refine qU 7 rfl ?_;refine qK 1 rfl ?_;refine ab.call tok rfl rfl rfl rfl (dF s hs (by omega)) ?_;refine qU 7 rfl ?_;refine qI (AW.draw aP 9 (by kernel_rfl) ?_);refine qP 2 rfl ?_;refine af.call tok rfl rfl rfl rfl rfl (gn r.val.num s.val.den (by omega) (by omega)) ?_;refine qP 2 rfl ?_;refine af.call tok rfl rfl rfl rfl rfl (gn r.val.den s.val.num (by omega) (by omega)) ?_;refine af.call tok rfl rfl rfl rfl rfl (zy (r.val.num*s.val.den) (r.val.den*s.val.num) (by omega) (by omega) d3) ?_;refine qP 2 rfl ?_;refine af.nil ?_;refine qU 2 rfl ?_;exact qN rfl
end Lift
namespace Lift
def tT(r:Nat):Nat→Nat→Nat
 | 0,s=>s
 | l+1,s=>tT r l s+tT r l (tT r l s+r)+1
theorem lU{r:Nat}: ∀{l s t:Nat},s≤t→tT r l s≤tT r l t
 | 0,_,_,h=>h
 | l+1,s,t,h=>by
   have h1:=lU (r:=r) (l:=l) h;have h2:=lU (r:=r) (l:=l) (Nat.add_le_add_right h1 r);show _+_+1≤_+_+1;omega
theorem r6(r:Nat): ∀(l s:Nat),s≤tT r l s
 | 0,s=>ao s
 | l+1,s=>by
   have h1:=r6 r l s;show s≤tT r l s+_+1;omega
theorem HT(r l s:Nat):2*s+1≤tT r (l+1) s:=by
 have h1:=r6 r l s;have h2:=r6 r l (tT r l s+r);show _≤tT r l s+tT r l (tT r l s+r)+1;omega
theorem DP(r s:Nat):tT r 1 s=2*s+r+1:=by
 show s+(s+r)+1=_;omega
theorem jz{v:List NQ}{r:Nat}(hr:fp r v): ∀(l:Nat) {a b:Cf} {k m:Nat},(∀i,LQ (a i)≤k)→(∀i,LQ (b i)≤m)→ ∀i,LQ (mulC v l a b i)≤tT r l (k+m)
 | 0,a,b,k,m,ha,hb,i=>by
   show LQ (if i=0 then a 0*b 0 else 0)≤k+m;split
   · have:=BT (a 0) (b 0);have:=ha 0;have:=hb 0;omega
   · have:=qV;have:=ha 0;have:=BS (a 0);omega
 | l+1,a,b,k,m,ha,hb,i=>by
   have h1:=jz hr l ha hb;have h2:=jz hr l (a:=ck l a) (b:=ck l b) (fun i=>ha _) (fun i=>hb _);have h3:=jz hr l (a:=a) (b:=ck l b) ha (fun i=>hb _);have h4:=jz hr l (a:=ck l a) (b:=b) (fun i=>ha _) hb;have h5:=jz hr l (a:=mulC v l (ck l a) (ck l b)) (b:=cf (v.getD l [])) h2 (fun i=>hr l i);have h6:=r6 r l (tT r l (k+m)+r);show LQ (if i<2^l then _ else _)≤tT r l (k+m)+tT r l (tT r l (k+m)+r)+1;split
   · have:=yE (mulC v l a b i) (mulC v l (mulC v l (ck l a) (ck l b)) (cf (v.getD l [])) i);have:=h1 i;have:=h5 i;omega
   · have:=yE (mulC v l a (ck l b) (i-2^l)) (mulC v l (ck l a) b (i-2^l));have:=h3 (i-2^l);have:=h4 (i-2^l);omega
theorem BX{a b:NQ}{k:Nat}(h:cf a=cf b)(hb:au k b):au k a:=fun i=>by
 have:cf a i=cf b i:=by rw[h]
 show LQ (cf a i)≤k;rw[this];exact hb i
theorem yR{v:List NQ}{r l k m:Nat}{a b:NQ}(hrt:c7 v)(hr:fp r v)(hl:l≤v.length)(ha:aC l a)(sa:au k a)(hb:aC l b)(sb:au m b):au (tT r l (k+m)) (bc l v a b):=fun i=>by
 show LQ (cf (bc l v a b) i)≤_;rw[(eK l ha hb hrt hl).2];exact jz hr l sa sb i
theorem GJ{v:List NQ}{r l j k:Nat}{a:NQ}(hrt:c7 v)(hr:fp r v)(hj:j≤l)(hl:l<v.length)(ha:a.length=2^(j+1))(sa:au k a):au (tT r (l+1) (k+k)) (eS l v a):=fun i=>by
 show LQ (cf (eS l v a) i)≤_;have h2:=kA hj ha hrt hl
 have lowN:c8 j (b7 v j (cf a)):=fun i hi=>by
  unfold b7;rw[bf v j _ _ i hi,bf v j _ _ i hi];exact Rat.sub_self
 obtain ⟨e1,e2,e3⟩:=bC ha;rw[h2.2];have h3:=jz hr j (a:=cf a) (b:=cf a) sa sa i;have h4:=jz hr j (a:=ck j (cf a)) (b:=ck j (cf a)) (fun i=>sa _) (fun i=>sa _);have h5:=jz hr j (a:=mulC v j (ck j (cf a)) (ck j (cf a))) (b:=cf (v.getD j [])) h4 (fun i=>hr j i) i
 have h6:LQ (b7 v j (cf a) i)≤tT r (j+1) (k+k):=by
  have:=IU (mulC v j (cf a) (cf a) i) (mulC v j (mulC v j (ck j (cf a)) (ck j (cf a))) (cf (v.getD j [])) i);show LQ (_-_)≤tT r j (k+k)+tT r j (tT r j (k+k)+r)+1;omega
 refine Nat.le_trans h6 ?_
 have up: ∀d s,tT r j s≤tT r (j+d) s:=fun d s=>by
  induction d with
  | zero=>exact ao _
  | succ d ih =>
    refine Nat.le_trans ih ?_;show tT r (j+d) s≤tT r (j+d) s+_+1;omega
 obtain ⟨d,rfl⟩: ∃d,l=j+d:=⟨l-j,by omega⟩;have u1:=up d (k+k);have u2:=up d (tT r j (k+k)+r);have u3:=lU (r:=r) (l:=j+d) (Nat.add_le_add_right u1 r);show tT r j (k+k)+tT r j (tT r j (k+k)+r)+1≤tT r (j+d) (k+k)+tT r (j+d) (tT r (j+d) (k+k)+r)+1;omega
def iQ(r:Nat):Nat→Nat→Nat
 | 0,k=>k+1
 | l+1,k=>tT r (l+1) (k+iQ r l (tT r (l+1) (k+k)))
theorem qq{r:Nat}: ∀{l s t:Nat},s≤t→iQ r l s≤iQ r l t
 | 0,_,_,h=>Nat.succ_le_succ h
 | l+1,s,t,h=>by
   have h1:=qq (r:=r) (l:=l) (lU (r:=r) (l:=l+1) (Nat.add_le_add h h));exact lU (by omega)
theorem pK{r q:Nat}(h:r≤q): ∀{l s:Nat},tT r l s≤tT q l s
 | 0,s=>ao s
 | l+1,s=>by
   have h1:=pK h (l:=l) (s:=s);have h2:=pK h (l:=l) (s:=tT r l s+r);have h3:=lU (r:=q) (l:=l) (Nat.add_le_add h1 h);show tT r l s+tT r l (tT r l s+r)+1≤tT q l s+tT q l (tT q l s+q)+1;omega
theorem Aa{r q:Nat}(h:r≤q): ∀{l s:Nat},iQ r l s≤iQ q l s
 | 0,s=>ao _
 | l+1,s=>by
   have h1:=pK h (l:=l+1) (s:=s+s);have h2:=Aa h (l:=l) (s:=tT r (l+1) (s+s));have h3:=qq (r:=q) (l:=l) h1;have h4:=pK h (l:=l+1) (s:=s+iQ r l (tT r (l+1) (s+s)));exact Nat.le_trans h4 (lU (by omega))
theorem DQ{k:Nat}{a b:NQ}(ha:au k a)(hb:au k b):au k (a++b):=fun c=>by
 rw[rN];split
 · exact ha c
 · exact hb _
theorem Cq(r:Nat): ∀(l k:Nat),k<iQ r l k
 | 0,k=>Nat.lt_succ_self k
 | l+1,k=>by
   have h1:=Cq r l (tT r (l+1) (k+k));have h2:=r6 r (l+1) (k+iQ r l (tT r (l+1) (k+k)));show k<tT r (l+1) _;omega
theorem Hn{q:Rat}{k:Nat}(h0:q≠0)(h:LQ q≤k):LQ (1 / q)≤k+1:=by
 have h1:=IV (r:=1) h0;have h2:=nD;omega
theorem wM(l:Nat)(v:List NQ)(b:NQ):bc l v [] b=[]:=by
 have key: ∀R:NQ→NQ→NQ,kf (jl R v) [] b=[]:=fun R=>by
  unfold kf jl;split
  · rw[if_pos (by simp[bD])]
  · rw[if_pos (by simp[bD])]
 cases l with
 | zero=>exact key _
 | succ l=>exact key _
theorem Br{v:List NQ}{r:Nat}(hrt:c7 v)(hr:fp r v): ∀(l:Nat) {k:Nat} {a:NQ},aC l a→l≤v.length→au k a→au (iQ r l k) (gZ l v a):=by
 have one: ∀{s:NQ} {l k:Nat},aC l s→vS s→s.length=1→au k s→au (k+1) [1 / s.getD 0 0]:=fun {s l k} hs ht h1 sa i=>by
  cases i with
  | zero=>exact Hn (ht.one h1) (sa 0)
  | succ i=>exact mj (Nat.le_add_left _ _)
 intro l
 induction l with
 | zero =>
   intro k a ha hl sa;have hs:=aX ha sa;have ht:=iP ha;show au (k+1) (kM _ _ _ _ (aq a));generalize aq a=s at *;unfold kM;split
   · rename_i h1;exact one hs.1 ht h1 hs.2
   · split
     · exact aY (Nat.le_add_left _ _)
     · exact aY (Nat.le_add_left _ _)
 | succ l ih =>
   intro k a ha hl sa;obtain ⟨hs,sa⟩:=aX ha sa;have ht:=iP ha;show au (iQ r (l+1) k) (kM (gZ l v) (ec l v) (eS l v) (bc (l+1) v) (aq a));generalize aq a=s at *;have hk:=Cq r (l+1) k;unfold kM;by_cases h1:s.length=1
   · rw[if_pos h1];exact(one hs ht h1 sa).mono hk
   rw[if_neg h1];by_cases h0:s.length=0
   · rw[List.length_eq_zero_iff.1 h0]
     have en:eS l v []=[]:=by
      show aS (bc l v [] []) (aK (bc l v (bc l v [] []) (v.getD ((0:Nat).log2-1) [])))=[];rw[wM,wM];rfl
     have es:ec l v []=0:=by cases l<;>rfl
     rw[en,if_pos es];have h3:=ih (bn l) (by omega) (aY (k:=1) (ao _));refine h3.mono ?_;have hk1:=sa.pos;have h5:iQ r l 1≤iQ r l (tT r (l+1) (k+k)):=qq (by have:=r6 r (l+1) (k+k);omega);have h6:=r6 r (l+1) (k+iQ r l (tT r (l+1) (k+k)));show iQ r l 1≤tT r (l+1) _;omega
   obtain ⟨j,hj,hsl⟩: ∃j,j≤l∧s.length=2^(j+1):=by
    rcases hs with e | ⟨i,hi,e⟩
    · exact absurd e h0
    · rcases i with _ | j
      · exact absurd e h1
      · exact⟨j,by omega,e⟩
   obtain ⟨e1,e2,e3⟩:=bC hsl;have hx:aC l (s.take (s.length / 2)):= .inr ⟨j,hj,e1⟩;have hn:=tD hj hsl hrt (show l<v.length by omega);have sn:=GJ hrt hr hj (show l<v.length by omega) hsl sa;split
   · have h3:=ih (hx.plus hx) (by omega) ((sa.take _).plus (sa.take _));refine h3.mono ?_;have h4:=HT r l (k+k);have h5:iQ r l (k+k+1)≤iQ r l (tT r (l+1) (k+k)):=qq (by omega);have h6:=r6 r (l+1) (k+iQ r l (tT r (l+1) (k+k)));show iQ r l (k+k+1)≤tT r (l+1) _;omega
   · have h3:=ih hn (by omega) sn
     have hjl:aC (l+1) (dJ (s.take (s.length / 2)) (aK (s.drop (s.length / 2))) (s.length / 2)):= .inr ⟨j+1,by omega,by
      rw[ei]
      omega⟩
     exact yR hrt hr hl hjl (((sa.take _).join (sa.drop _).minus _)) ((fS l hn hrt (by omega)).mono (Nat.le_succ l)) h3
end Lift
namespace Lift
open Go Go.Proofs
abbrev RQ(q:Rat):D:=(Qr q).D
set_option maxHeartbeats 3200000 in
theorem w6{l:Nat}{v:List NQ}{a Z:NQ}(ha:aC l a)(hl5:l≤5)(sa:my a)(h0:(aq a).length≠0)
  (h1:(aq a).length=1→Z=[1 / (aq a).getD 0 0])
  (h2: ∀l' j,l=l'+1→j≤l'→(aq a).length=2^(j+1)→ ∃(N:NQ) (S:Int),Pure Tryz.prog 138 [bA v,ai (aq a),dI (aq a).length] (ai N)∧Pure Tryz.prog 100 [bA v,ai N] (dI S) ∧
   (S=0→Pure Tryz.prog 133 [bA v,ai (aS ((aq a).take ((aq a).length / 2)) ((aq a).take ((aq a).length / 2)))] (ai Z)) ∧
   (S≠0→ ∃I,Pure Tryz.prog 133 [bA v,ai N] (ai I)∧Pure Tryz.prog 122 [bA v,ai ((aq a).take ((aq a).length / 2)++aK ((aq a).drop ((aq a).length / 2))),ai I] (ai Z))):
  Pure Tryz.prog 133 [bA v,ai a] (ai Z):=by
 refine qJ 59 Tryz.func133 rfl rfl rfl rfl (by kernel_rfl) (fun B F0 w0=>?_);have cs:=cY a ha hl5;have hone:=nI ha;obtain ⟨hs,ss⟩:=aX ha sa;generalize aq a=b at *;have hlb:=hs.len (by omega);refine qX 2 rfl ?_;refine qK 1 rfl ?_;refine ab.call tok rfl rfl rfl rfl cs ?_;refine qU 1 rfl ?_;refine qK 1 rfl ?_;refine qU 1 rfl ?_;rw[ae];refine qU 1 rfl ?_;refine qI (qX 2 rfl ?_);refine ab.nil ?_;by_cases e1:b.length=1
 · have g:=kN (r:=b) (i:=0) (by omega);have cq:=Eo (Qr ((1:Int):Rat)) (Qr (b.getD 0 0)) (jt _ (by have:=nD;rw[show ((1:Int):Rat)=1 from rfl];omega)) (jt _ (ss 0)) (by decide) (by rw[cE];exact hone e1);rw[cE,cE,show ((1:Int):Rat)=1 from rfl] at cq;have hZ:=h1 e1;subst hZ;rw[beq_iff_eq.2 (show (b.length:Int)=1 by omega)];refine AW.aL rfl ?_;refine AW.seq (AW.oI tok aP [(7,true),(1,false),(1,true)] 9 [6] (by kernel_rfl) ⟨rfl,?_⟩);refine af.call tok rfl rfl rfl rfl rfl (nO 1 (by decide) (by decide)) ?_;refine qP 1 rfl ?_;refine af.idx tok (Qr (b.getD 0 0)).D rfl rfl rfl rfl rfl (Int.le_refl _) g ?_;refine qP 1 rfl ?_;refine af.call tok rfl rfl rfl rfl rfl cq ?_;refine qP 2 rfl ?_;refine af.nil ⟨rfl,?_⟩;refine qP 1 rfl ?_;refine af.nil ⟨rfl,?_⟩;refine qP 1 rfl ?_;refine af.nil ⟨_,py.cons (.bx rfl) (py.nil),?_⟩;refine qU 1 rfl ?_;refine qK 1 rfl ?_;refine ab.e7 tok rfl rfl rfl rfl rfl ?_;refine qU 1 rfl ?_;exact qN rfl
 rw[beq_eq_false_iff_ne.2 (show (b.length:Int)≠1 by omega)]
 obtain ⟨i,hi,hla2⟩: ∃i,i≤l∧b.length=2^i:=by
  rcases hs with e | e
  · exact absurd e h0
  · exact e
 have vZ:i≠0:=fun e=>e1 (by rw[hla2,e]);obtain ⟨j,rfl⟩: ∃j,i=j+1:=⟨i-1,by omega⟩;obtain ⟨l',rfl⟩: ∃l',l=l'+1:=⟨l-1,by omega⟩;obtain ⟨N,S,cN,cS,hz,hi2⟩:=h2 l' j rfl (by omega) hla2;obtain ⟨g1,g2,g3⟩:=bC hla2;obtain ⟨n,hn⟩: ∃n,n=b.length / 2:=⟨_,rfl⟩;rw[← hn] at g1 g2 g3 hz hi2;refine AW.aB rfl ?_;refine AW.skip (AW.seq ?_);refine AW.draw aP 9 (by kernel_rfl) ?_;refine qP 2 rfl ?_;refine af.div tok rfl rfl rfl rfl rfl (by decide) ?_;rw[gL _ (by omega),← hn];refine af.fW tok (a:=b) (b.take n) rfl rfl rfl rfl rfl trivial (aj n) (Nat.zero_le _) (show n≤b.length by omega) rfl ?_;refine qP 2 rfl ?_;refine af.div tok rfl rfl rfl rfl rfl (by decide) ?_;rw[gL _ (by omega),← hn];refine af.fW tok (a:=b) (b.drop n) rfl rfl rfl rfl rfl (aj n) trivial (show n≤b.length by omega) (ao _) (by show (b.take b.length).drop n=_;rw[List.take_length]) ?_;refine qP 1 rfl ?_;refine af.nil ?_;refine qU 1 rfl ?_;refine qK 3 rfl ?_;refine ab.call tok rfl rfl rfl rfl cN ?_;refine qU 1 rfl ?_;refine qI (qX 2 rfl ?_);refine ab.call tok rfl rfl rfl rfl cS ?_;refine qU 1 rfl ?_;refine ab.nil ?_;by_cases e2:S=0
 · have ci:=hz e2;have cp:=ft (b.take n) (b.take n) (ss.take n) (ss.take n) (by decide) (by rw[g1];omega) (by rw[g1];omega);rw[beq_iff_eq.2 e2];refine AW.aL rfl ?_;refine AW.seq (AW.draw aP 5 (by kernel_rfl) ?_);refine qP 3 rfl ?_;refine af.call tok rfl rfl rfl rfl rfl cp ?_;refine af.call tok rfl rfl rfl rfl rfl ci ?_;refine af.nil ?_;refine qU 1 rfl ?_;exact qN rfl
 obtain ⟨I,ci,ct⟩:=hi2 e2;have cm:=iT (b.drop n) (ss.drop n) (by decide) (by rw[g2];omega);rw[beq_eq_false_iff_ne.2 e2];refine AW.aB rfl ?_;refine AW.skip ?_;have lx:(b.take n).length≤1024:=by rw[aQ];omega
 have ly:(b.drop n).length≤1024:=by rw[List.length_drop];omega
 generalize b.take n=x at *;generalize b.drop n=y at *;refine AZ.aw ?_;refine AZ.seq (AZ.to [2,8,9,10] [(2,.bx [.sl 1 (v.map ai)]),(8,.d (ai x)),(9,.d (ai y)),(10,.d (ai N))] rfl ?_);refine AZ.any aP (ZH.any (β:=[(2,[.sl 1 (v.map ai)])]) ?_);refine ZH.mv 2 rfl rfl (by kernel_rfl) (by kernel_rfl) (by kernel_rfl) rfl (fun _ _ _ h=>h) (fun _=>rfl) ⟨rfl,trivial⟩ (fun B1 F1 w1=>?_);refine qU 1 rfl ?_;refine ab.nil ⟨rfl,?_⟩;refine ZH.mv 4 rfl rfl (by kernel_rfl) (by kernel_rfl) (by kernel_rfl) rfl (fun _ _ _ h=>h) (fun _=>rfl) ⟨rfl,trivial⟩ (fun B1 F1 w1=>?_);refine qU 1 rfl ?_;refine ab.nil ⟨rfl,?_⟩;refine ZH.mv 8 rfl rfl (by kernel_rfl) (by kernel_rfl) (by kernel_rfl) rfl (fun _ _ _ h=>h) (fun _=>rfl) ⟨rfl,trivial⟩ (fun B1 F1 w1=>?_);refine qU 1 rfl ?_;refine ab.nil ⟨rfl,?_⟩;refine ZH.meet 0 (qB 12 4095) (fun V=>[]) (fun V=>[(2,.bx [.sl 1 (v.map ai)]),(50,.d (ai x)),(52,.d (ai y)),(56,.d (ai N)),(48,.d (bA v)),(55,.d (bA v)),(4,.d (ai Z))]) (fun V=>?_) (fun N7_1_1=>?_)
 · refine ZH.done (by kernel_rfl) ⟨rfl,trivial⟩ ?_;refine AZ.to [4] [(4,.d (ai Z))] rfl ?_;exact AZ.ret rfl
 refine ZH.meet 1 (qB 12 2047) (fun V=>[]) (fun V=>[(2,.bx [.sl 1 (v.map ai)]),(50,.d (ai x)),(52,.d (ai y)),(56,.d (ai N)),(48,.d (bA v)),(55,.d (bA v)),(58,.d (ai Z))]) (fun V=>?_) (fun N6_1_1=>?_)
 · refine ZH.all 11 (by kernel_rfl) rfl rfl (fun _=>rfl) ⟨rfl,trivial⟩ ?_;refine ay (fun B1 F1 w1=>?_);refine qU 1 rfl ?_;refine ab.nil ⟨rfl,?_⟩;exact qL (N7_1_1 V) (by kernel_rfl) rfl ⟨rfl,trivial⟩
 refine ZH.meet 2 (qB 12 1023) (fun V=>[]) (fun V=>[(2,.bx [.sl 1 (v.map ai)]),(50,.d (ai x)),(52,.d (ai y)),(56,.d (ai N)),(54,.ow 111 ((x++aK y).map RQ)),(57,.d (ai I)),(48,.d (bA v)),(55,.d (bA v))]) (fun V=>?_) (fun N5_1_1=>?_)
 · refine ZH.all 10 (by kernel_rfl) rfl rfl (fun _=>rfl) ⟨rfl,trivial⟩ ?_;refine ay (fun B1 F1 w1=>?_);refine ab.fQ tok 54 rfl rfl ?_;refine ab.call tok rfl rfl rfl rfl ct ?_;refine ab.nil ⟨rfl,?_⟩;exact qL (N6_1_1 V) (by kernel_rfl) rfl ⟨rfl,trivial⟩
 refine ZH.meet 3 (qB 12 511) (fun V=>[]) (fun V=>[(2,.bx [.sl 1 (v.map ai)]),(50,.d (ai x)),(52,.d (ai y)),(56,.d (ai N)),(54,.ow 111 ((x++aK y).map RQ)),(48,.d (bA v)),(55,.d (bA v))]) (fun V=>?_) (fun N4_1_1=>?_)
 · refine ZH.all 9 (by kernel_rfl) rfl rfl (fun _=>rfl) ⟨rfl,trivial⟩ ?_;refine ay (fun B1 F1 w1=>?_);refine ab.call tok rfl rfl rfl rfl ci ?_;refine ab.nil ⟨rfl,?_⟩;exact qL (N5_1_1 V) (by kernel_rfl) rfl ⟨rfl,trivial⟩
 refine ZH.meet 3 (qB 12 1022) (fun V=>[]) (fun V=>[(2,.bx [.sl 1 (v.map ai)]),(50,.d (ai x)),(52,.d (ai y)),(56,.d (ai N)),(54,.ow 111 ((x++aK y).map RQ)),(57,.d (ai I)),(55,.d (bA v))]) (fun V=>?_) (fun N5_0_1=>?_)
 · refine ZH.all 0 (by kernel_rfl) rfl rfl (fun _=>rfl) ⟨rfl,trivial⟩ ?_;refine ay (fun B1 F1 w1=>?_);refine qU 1 rfl ?_;refine ab.nil ⟨rfl,?_⟩;exact qL (N5_1_1 V) (by kernel_rfl) rfl ⟨rfl,trivial⟩
 refine ZH.meet 4 (qB 12 447) (fun V=>[]) (fun V=>[(2,.bx [.sl 1 (v.map ai)]),(50,.d (ai x)),(52,.d (ai y)),(56,.d (ai N)),(51,.ow 111 (x.map RQ)),(53,.d (ai (aK y))),(48,.d (bA v)),(55,.d (bA v))]) (fun V=>?_) (fun N3_1_1=>?_)
 · refine ZH.all 6 (by kernel_rfl) rfl rfl (fun _=>rfl) ⟨rfl,trivial⟩ ?_;refine ay (fun B1 F1 w1=>?_);refine ab.gg tok rfl rfl rfl rfl rfl rfl (by rw[ae,ae,bz];show (_+_)*56≤_;omega) (by rw[ae,ae,bz];omega) ?_;rw[← List.map_append];refine ab.nil ⟨rfl,?_⟩;exact qL (N4_1_1 V) (by kernel_rfl) rfl ⟨rfl,trivial⟩
 refine ZH.meet 4 (qB 12 510) (fun V=>[]) (fun V=>[(2,.bx [.sl 1 (v.map ai)]),(50,.d (ai x)),(52,.d (ai y)),(56,.d (ai N)),(54,.ow 111 ((x++aK y).map RQ)),(55,.d (bA v))]) (fun V=>?_) (fun N4_0_1=>?_)
 · refine ZH.two 0 9 (by kernel_rfl) rfl rfl rfl rfl (fun _=>rfl) (fun _=>rfl) ⟨rfl,trivial⟩ ?_ ?_
   · refine ay (fun B1 F1 w1=>?_);refine qU 1 rfl ?_;refine ab.nil ⟨rfl,?_⟩;exact qL (N4_1_1 V) (by kernel_rfl) rfl ⟨rfl,trivial⟩
   · refine ay (fun B1 F1 w1=>?_);refine ab.call tok rfl rfl rfl rfl ci ?_;refine ab.nil ⟨rfl,?_⟩;exact qL (N5_0_1 V) (by kernel_rfl) rfl ⟨rfl,trivial⟩
 refine ZH.meet 4 (qB 12 383) (fun V=>[]) (fun V=>[(2,.bx [.sl 1 (v.map ai)]),(50,.d (ai x)),(52,.d (ai y)),(56,.d (ai N)),(54,.ow 111 ((x++aK y).map RQ)),(48,.d (bA v))]) (fun V=>?_) (fun N4_1_0=>?_)
 · refine ZH.all 7 (by kernel_rfl) rfl rfl (fun _=>rfl) ⟨rfl,trivial⟩ ?_;refine ay (fun B1 F1 w1=>?_);refine qU 1 rfl ?_;refine ab.nil ⟨rfl,?_⟩;exact qL (N4_1_1 V) (by kernel_rfl) rfl ⟨rfl,trivial⟩
 refine ZH.meet 5 (qB 12 415) (fun V=>[]) (fun V=>[(2,.bx [.sl 1 (v.map ai)]),(50,.d (ai x)),(52,.d (ai y)),(56,.d (ai N)),(51,.ow 111 (x.map RQ)),(48,.d (bA v)),(55,.d (bA v))]) (fun V=>?_) (fun N2_1_1=>?_)
 · refine ZH.all 5 (by kernel_rfl) rfl rfl (fun _=>rfl) ⟨rfl,trivial⟩ ?_;refine ay (fun B1 F1 w1=>?_);refine ab.call tok rfl rfl rfl rfl cm ?_;refine ab.nil ⟨rfl,?_⟩;exact qL (N3_1_1 V) (by kernel_rfl) rfl ⟨rfl,trivial⟩
 refine ZH.meet 5 (qB 12 446) (fun V=>[]) (fun V=>[(2,.bx [.sl 1 (v.map ai)]),(50,.d (ai x)),(52,.d (ai y)),(56,.d (ai N)),(51,.ow 111 (x.map RQ)),(53,.d (ai (aK y))),(55,.d (bA v))]) (fun V=>?_) (fun N3_0_1=>?_)
 · refine ZH.two 0 6 (by kernel_rfl) rfl rfl rfl rfl (fun _=>rfl) (fun _=>rfl) ⟨rfl,trivial⟩ ?_ ?_
   · refine ay (fun B1 F1 w1=>?_);refine qU 1 rfl ?_;refine ab.nil ⟨rfl,?_⟩;exact qL (N3_1_1 V) (by kernel_rfl) rfl ⟨rfl,trivial⟩
   · refine ay (fun B1 F1 w1=>?_);refine ab.gg tok rfl rfl rfl rfl rfl rfl (by rw[ae,ae,bz];show (_+_)*56≤_;omega) (by rw[ae,ae,bz];omega) ?_;rw[← List.map_append];refine ab.nil ⟨rfl,?_⟩;exact qL (N4_0_1 V) (by kernel_rfl) rfl ⟨rfl,trivial⟩
 refine ZH.meet 5 (qB 12 319) (fun V=>[]) (fun V=>[(2,.bx [.sl 1 (v.map ai)]),(50,.d (ai x)),(52,.d (ai y)),(56,.d (ai N)),(51,.ow 111 (x.map RQ)),(53,.d (ai (aK y))),(48,.d (bA v))]) (fun V=>?_) (fun N3_1_0=>?_)
 · refine ZH.two 6 7 (by kernel_rfl) rfl rfl rfl rfl (fun _=>rfl) (fun _=>rfl) ⟨rfl,trivial⟩ ?_ ?_
   · refine ay (fun B1 F1 w1=>?_);refine ab.gg tok rfl rfl rfl rfl rfl rfl (by rw[ae,ae,bz];show (_+_)*56≤_;omega) (by rw[ae,ae,bz];omega) ?_;rw[← List.map_append];refine ab.nil ⟨rfl,?_⟩;exact qL (N4_1_0 V) (by kernel_rfl) rfl ⟨rfl,trivial⟩
   · refine ay (fun B1 F1 w1=>?_);refine qU 1 rfl ?_;refine ab.nil ⟨rfl,?_⟩;exact qL (N3_1_1 V) (by kernel_rfl) rfl ⟨rfl,trivial⟩
 refine ZH.meet 5 (qB 12 382) (fun V=>[]) (fun V=>[(2,.bx [.sl 1 (v.map ai)]),(50,.d (ai x)),(52,.d (ai y)),(56,.d (ai N)),(54,.ow 111 ((x++aK y).map RQ))]) (fun V=>?_) (fun N4_0_0=>?_)
 · refine ZH.two 0 7 (by kernel_rfl) rfl rfl rfl rfl (fun _=>rfl) (fun _=>rfl) ⟨rfl,trivial⟩ ?_ ?_
   · refine ay (fun B1 F1 w1=>?_);refine qU 1 rfl ?_;refine ab.nil ⟨rfl,?_⟩;exact qL (N4_1_0 V) (by kernel_rfl) rfl ⟨rfl,trivial⟩
   · refine ay (fun B1 F1 w1=>?_);refine qU 1 rfl ?_;refine ab.nil ⟨rfl,?_⟩;exact qL (N4_0_1 V) (by kernel_rfl) rfl ⟨rfl,trivial⟩
 refine ZH.meet 6 (qB 12 407) (fun V=>[]) (fun V=>[(2,.bx [.sl 1 (v.map ai)]),(50,.d (ai x)),(52,.d (ai y)),(56,.d (ai N)),(49,.e0 111),(48,.d (bA v)),(55,.d (bA v))]) (fun V=>?_) (fun N1_1_1=>?_)
 · refine ZH.all 3 (by kernel_rfl) rfl rfl (fun _=>rfl) ⟨rfl,trivial⟩ ?_;refine ay (fun B1 F1 w1=>?_);refine ab.po tok rfl rfl rfl rfl (by show (x.map RQ).length*56≤_;rw[ae];omega) ?_;refine ab.nil ⟨rfl,?_⟩;exact qL (N2_1_1 V) (by kernel_rfl) rfl ⟨rfl,trivial⟩
 refine ZH.meet 6 (qB 12 414) (fun V=>[]) (fun V=>[(2,.bx [.sl 1 (v.map ai)]),(50,.d (ai x)),(52,.d (ai y)),(56,.d (ai N)),(51,.ow 111 (x.map RQ)),(55,.d (bA v))]) (fun V=>?_) (fun N2_0_1=>?_)
 · refine ZH.two 0 5 (by kernel_rfl) rfl rfl rfl rfl (fun _=>rfl) (fun _=>rfl) ⟨rfl,trivial⟩ ?_ ?_
   · refine ay (fun B1 F1 w1=>?_);refine qU 1 rfl ?_;refine ab.nil ⟨rfl,?_⟩;exact qL (N2_1_1 V) (by kernel_rfl) rfl ⟨rfl,trivial⟩
   · refine ay (fun B1 F1 w1=>?_);refine ab.call tok rfl rfl rfl rfl cm ?_;refine ab.nil ⟨rfl,?_⟩;exact qL (N3_0_1 V) (by kernel_rfl) rfl ⟨rfl,trivial⟩
 refine ZH.meet 6 (qB 12 287) (fun V=>[]) (fun V=>[(2,.bx [.sl 1 (v.map ai)]),(50,.d (ai x)),(52,.d (ai y)),(56,.d (ai N)),(51,.ow 111 (x.map RQ)),(48,.d (bA v))]) (fun V=>?_) (fun N2_1_0=>?_)
 · refine ZH.two 5 7 (by kernel_rfl) rfl rfl rfl rfl (fun _=>rfl) (fun _=>rfl) ⟨rfl,trivial⟩ ?_ ?_
   · refine ay (fun B1 F1 w1=>?_);refine ab.call tok rfl rfl rfl rfl cm ?_;refine ab.nil ⟨rfl,?_⟩;exact qL (N3_1_0 V) (by kernel_rfl) rfl ⟨rfl,trivial⟩
   · refine ay (fun B1 F1 w1=>?_);refine qU 1 rfl ?_;refine ab.nil ⟨rfl,?_⟩;exact qL (N2_1_1 V) (by kernel_rfl) rfl ⟨rfl,trivial⟩
 refine ZH.meet 6 (qB 12 318) (fun V=>[]) (fun V=>[(2,.bx [.sl 1 (v.map ai)]),(50,.d (ai x)),(52,.d (ai y)),(56,.d (ai N)),(51,.ow 111 (x.map RQ)),(53,.d (ai (aK y)))]) (fun V=>?_) (fun N3_0_0=>?_)
 · refine ZH.three 0 6 7 (by kernel_rfl) rfl rfl rfl rfl rfl rfl (fun _=>rfl) (fun _=>rfl) (fun _=>rfl) ⟨rfl,trivial⟩ ?_ ?_ ?_
   · refine ay (fun B1 F1 w1=>?_);refine qU 1 rfl ?_;refine ab.nil ⟨rfl,?_⟩;exact qL (N3_1_0 V) (by kernel_rfl) rfl ⟨rfl,trivial⟩
   · refine ay (fun B1 F1 w1=>?_);refine ab.gg tok rfl rfl rfl rfl rfl rfl (by rw[ae,ae,bz];show (_+_)*56≤_;omega) (by rw[ae,ae,bz];omega) ?_;rw[← List.map_append];refine ab.nil ⟨rfl,?_⟩;exact qL (N4_0_0 V) (by kernel_rfl) rfl ⟨rfl,trivial⟩
   · refine ay (fun B1 F1 w1=>?_);refine qU 1 rfl ?_;refine ab.nil ⟨rfl,?_⟩;exact qL (N3_0_1 V) (by kernel_rfl) rfl ⟨rfl,trivial⟩
 refine ZH.meet 7 (qB 12 405) (fun V=>[]) (fun V=>[(2,.bx [.sl 1 (v.map ai)]),(50,.d (ai x)),(52,.d (ai y)),(56,.d (ai N)),(48,.d (bA v)),(55,.d (bA v))]) (fun V=>?_) (fun N0_1_1=>?_)
 · refine ZH.all 1 (by kernel_rfl) rfl rfl (fun _=>rfl) ⟨rfl,trivial⟩ ?_;refine ay (fun B1 F1 w1=>?_);refine qU 1 rfl ?_;refine ab.nil ⟨rfl,?_⟩;exact qL (N1_1_1 V) (by kernel_rfl) rfl ⟨rfl,trivial⟩
 refine ZH.meet 7 (qB 12 406) (fun V=>[]) (fun V=>[(2,.bx [.sl 1 (v.map ai)]),(50,.d (ai x)),(52,.d (ai y)),(56,.d (ai N)),(49,.e0 111),(55,.d (bA v))]) (fun V=>?_) (fun N1_0_1=>?_)
 · refine ZH.two 0 3 (by kernel_rfl) rfl rfl rfl rfl (fun _=>rfl) (fun _=>rfl) ⟨rfl,trivial⟩ ?_ ?_
   · refine ay (fun B1 F1 w1=>?_);refine qU 1 rfl ?_;refine ab.nil ⟨rfl,?_⟩;exact qL (N1_1_1 V) (by kernel_rfl) rfl ⟨rfl,trivial⟩
   · refine ay (fun B1 F1 w1=>?_);refine ab.po tok rfl rfl rfl rfl (by show (x.map RQ).length*56≤_;rw[ae];omega) ?_;refine ab.nil ⟨rfl,?_⟩;exact qL (N2_0_1 V) (by kernel_rfl) rfl ⟨rfl,trivial⟩
 refine ZH.meet 7 (qB 12 279) (fun V=>[]) (fun V=>[(2,.bx [.sl 1 (v.map ai)]),(50,.d (ai x)),(52,.d (ai y)),(56,.d (ai N)),(49,.e0 111),(48,.d (bA v))]) (fun V=>?_) (fun N1_1_0=>?_)
 · refine ZH.two 3 7 (by kernel_rfl) rfl rfl rfl rfl (fun _=>rfl) (fun _=>rfl) ⟨rfl,trivial⟩ ?_ ?_
   · refine ay (fun B1 F1 w1=>?_);refine ab.po tok rfl rfl rfl rfl (by show (x.map RQ).length*56≤_;rw[ae];omega) ?_;refine ab.nil ⟨rfl,?_⟩;exact qL (N2_1_0 V) (by kernel_rfl) rfl ⟨rfl,trivial⟩
   · refine ay (fun B1 F1 w1=>?_);refine qU 1 rfl ?_;refine ab.nil ⟨rfl,?_⟩;exact qL (N1_1_1 V) (by kernel_rfl) rfl ⟨rfl,trivial⟩
 refine ZH.meet 7 (qB 12 286) (fun V=>[]) (fun V=>[(2,.bx [.sl 1 (v.map ai)]),(50,.d (ai x)),(52,.d (ai y)),(56,.d (ai N)),(51,.ow 111 (x.map RQ))]) (fun V=>?_) (fun N2_0_0=>?_)
 · refine ZH.three 0 5 7 (by kernel_rfl) rfl rfl rfl rfl rfl rfl (fun _=>rfl) (fun _=>rfl) (fun _=>rfl) ⟨rfl,trivial⟩ ?_ ?_ ?_
   · refine ay (fun B1 F1 w1=>?_);refine qU 1 rfl ?_;refine ab.nil ⟨rfl,?_⟩;exact qL (N2_1_0 V) (by kernel_rfl) rfl ⟨rfl,trivial⟩
   · refine ay (fun B1 F1 w1=>?_);refine ab.call tok rfl rfl rfl rfl cm ?_;refine ab.nil ⟨rfl,?_⟩;exact qL (N3_0_0 V) (by kernel_rfl) rfl ⟨rfl,trivial⟩
   · refine ay (fun B1 F1 w1=>?_);refine qU 1 rfl ?_;refine ab.nil ⟨rfl,?_⟩;exact qL (N2_0_1 V) (by kernel_rfl) rfl ⟨rfl,trivial⟩
 refine ZH.meet 8 (qB 12 404) (fun V=>[]) (fun V=>[(2,.bx [.sl 1 (v.map ai)]),(50,.d (ai x)),(52,.d (ai y)),(56,.d (ai N)),(55,.d (bA v))]) (fun V=>?_) (fun N0_0_1=>?_)
 · refine ZH.two 0 1 (by kernel_rfl) rfl rfl rfl rfl (fun _=>rfl) (fun _=>rfl) ⟨rfl,trivial⟩ ?_ ?_
   · refine ay (fun B1 F1 w1=>?_);refine qU 1 rfl ?_;refine ab.nil ⟨rfl,?_⟩;exact qL (N0_1_1 V) (by kernel_rfl) rfl ⟨rfl,trivial⟩
   · refine ay (fun B1 F1 w1=>?_);refine qU 1 rfl ?_;refine ab.nil ⟨rfl,?_⟩;exact qL (N1_0_1 V) (by kernel_rfl) rfl ⟨rfl,trivial⟩
 refine ZH.meet 8 (qB 12 277) (fun V=>[]) (fun V=>[(2,.bx [.sl 1 (v.map ai)]),(50,.d (ai x)),(52,.d (ai y)),(56,.d (ai N)),(48,.d (bA v))]) (fun V=>?_) (fun N0_1_0=>?_)
 · refine ZH.two 1 7 (by kernel_rfl) rfl rfl rfl rfl (fun _=>rfl) (fun _=>rfl) ⟨rfl,trivial⟩ ?_ ?_
   · refine ay (fun B1 F1 w1=>?_);refine qU 1 rfl ?_;refine ab.nil ⟨rfl,?_⟩;exact qL (N1_1_0 V) (by kernel_rfl) rfl ⟨rfl,trivial⟩
   · refine ay (fun B1 F1 w1=>?_);refine qU 1 rfl ?_;refine ab.nil ⟨rfl,?_⟩;exact qL (N0_1_1 V) (by kernel_rfl) rfl ⟨rfl,trivial⟩
 refine ZH.meet 8 (qB 12 278) (fun V=>[]) (fun V=>[(2,.bx [.sl 1 (v.map ai)]),(50,.d (ai x)),(52,.d (ai y)),(56,.d (ai N)),(49,.e0 111)]) (fun V=>?_) (fun N1_0_0=>?_)
 · refine ZH.three 0 3 7 (by kernel_rfl) rfl rfl rfl rfl rfl rfl (fun _=>rfl) (fun _=>rfl) (fun _=>rfl) ⟨rfl,trivial⟩ ?_ ?_ ?_
   · refine ay (fun B1 F1 w1=>?_);refine qU 1 rfl ?_;refine ab.nil ⟨rfl,?_⟩;exact qL (N1_1_0 V) (by kernel_rfl) rfl ⟨rfl,trivial⟩
   · refine ay (fun B1 F1 w1=>?_);refine ab.po tok rfl rfl rfl rfl (by show (x.map RQ).length*56≤_;rw[ae];omega) ?_;refine ab.nil ⟨rfl,?_⟩;exact qL (N2_0_0 V) (by kernel_rfl) rfl ⟨rfl,trivial⟩
   · refine ay (fun B1 F1 w1=>?_);refine qU 1 rfl ?_;refine ab.nil ⟨rfl,?_⟩;exact qL (N1_0_1 V) (by kernel_rfl) rfl ⟨rfl,trivial⟩
 refine ZH.meet 9 (qB 12 276) (fun V=>[]) (fun V=>[(2,.bx [.sl 1 (v.map ai)]),(50,.d (ai x)),(52,.d (ai y)),(56,.d (ai N))]) (fun V=>?_) (fun N0_0_0=>?_)
 · refine ZH.three 0 1 7 (by kernel_rfl) rfl rfl rfl rfl rfl rfl (fun _=>rfl) (fun _=>rfl) (fun _=>rfl) ⟨rfl,trivial⟩ ?_ ?_ ?_
   · refine ay (fun B1 F1 w1=>?_);refine qU 1 rfl ?_;refine ab.nil ⟨rfl,?_⟩;exact qL (N0_1_0 V) (by kernel_rfl) rfl ⟨rfl,trivial⟩
   · refine ay (fun B1 F1 w1=>?_);refine qU 1 rfl ?_;refine ab.nil ⟨rfl,?_⟩;exact qL (N1_0_0 V) (by kernel_rfl) rfl ⟨rfl,trivial⟩
   · refine ay (fun B1 F1 w1=>?_);refine qU 1 rfl ?_;refine ab.nil ⟨rfl,?_⟩;exact qL (N0_0_1 V) (by kernel_rfl) rfl ⟨rfl,trivial⟩
 exact qL (N0_0_0 gu) (by kernel_rfl) rfl ⟨rfl,trivial⟩
end Lift
namespace Lift
open Go Go.Proofs
theorem vF{v:List NQ}(hrt:c7 v)(hp:nB v){l j:Nat}{s:NQ}(hj:j≤l)(hl:l<v.length)(hsl:s.length=2^(j+1))(h:bd v (l+1) (cf s)≠0)(hN:bd v j (b7 v j (cf s))=0):bd v l (cf (aS (s.take (s.length / 2)) (s.take (s.length / 2))))≠0:=by
 obtain ⟨e1,e2,e3⟩:=bC hsl;have ex:kj j (cf (s.take (s.length / 2))) (cf s):=fh _ e3;have ls:c8 (j+1) (cf s):=aZ (by omega);have lx:c8 j (cf (s.take (s.length / 2))):=aZ (by omega);obtain ⟨Tj⟩:=IW hp j (by omega);have hdj:=hp j (by omega)
 let T:=HS Tj hdj
 rw[bY v ls (by omega)] at h
 have hT:Tj.R.sgn (OR.nr (Tj.of (cf (v.getD j []))) (T.of (cf s)))=bd v j (b7 v j (cf s)):=by
  rw[← Tj.sgn]
  congr 1
  show Tj.of (cf s)*Tj.of (cf s) -Tj.of (ck j (cf s))*Tj.of (ck j (cf s))*Tj.of (cf (v.getD j []))=Tj.of (b7 v j (cf s));rw[← Tj.mul,← Tj.mul,← Tj.mul,← Tj.sub];rfl
 have cxx:cf (aS (s.take (s.length / 2)) (s.take (s.length / 2)))=fun i=>cf (s.take (s.length / 2)) i+cf (s.take (s.length / 2)) i:=funext fun i=>fO _ _ i
 have lxx:c8 j (cf (aS (s.take (s.length / 2)) (s.take (s.length / 2)))):=by
  rw[cxx];exact fun i hi=>by
   show _+_=(0:Rat);rw[lx i hi];exact Rat.add_zero 0
 have hes:T.R.sgn (T.of (cf s))≠0:=by rw[T.sgn];exact h
 have F:=OR.Fm (R:=Tj.R) (d:=Tj.of (cf (v.getD j []))) (by rw[Tj.sgn];exact hdj) hes (by
  have h5:=hT;rw[hN] at h5;exact h5)
 rw[bY v lxx hj,← Tj.sgn,cxx,Tj.add,Tj.cong _ _ ex];exact F.2
def um:Nat→List NQ→NQ→NQ
 | 0,_,a=>[1 / (aq a).getD 0 0]
 | l+1,v,a=>if (aq a).length=1 then [1 / (aq a).getD 0 0] else
   if mT l v (fq l v (aq a))=0 then um l v (aS ((aq a).take ((aq a).length / 2)) ((aq a).take ((aq a).length / 2))) else
    ff (l+1) v ((aq a).take ((aq a).length / 2)++aK ((aq a).drop ((aq a).length / 2))) (um l v (fq l v (aq a)))
theorem jH{v:List NQ}{l:Nat}{a:NQ}(ha:aC l a)(h:bd v l (cf a)≠0):(aq a).length≠0:=fun e=>by
 have:=bJ ha;rw[List.length_eq_zero_iff.1 e] at this;rw[← this] at h;exact h (gB v l)
theorem Cc{v:List NQ}(hrt:c7 v)(hp:nB v): ∀(l:Nat) {a b:NQ},aC l a→aC l b→cf a=cf b→l≤v.length→bd v l (cf a)≠0→aC l (um l v a)∧cf (um l v a)=cf (gZ l v b):=by
 intro l
 induction l with
 | zero =>
   intro a b ha hb hab hl h;have e:=mR ha hb hab;have hs:=bp hb;have h0:=jH ha h;rw[e] at h0;show aC 0 [1 / (aq a).getD 0 0]∧cf [1 / (aq a).getD 0 0]=cf (kM _ _ _ _ (aq b));rw[e];refine⟨gl _ _,?_⟩;unfold kM;rw[if_pos];rcases hs with e | ⟨i,hi,e⟩
   · exact absurd e h0
   · obtain rfl:i=0:=by omega
     exact e
 | succ l ih =>
   intro a b ha hb hab hl h;have e:=mR ha hb hab;have hs:=bp hb;have h0:=jH ha h;have hc:=bJ hb;rw[hab,← hc] at h;rw[e] at h0;show aC (l+1) (if (aq a).length=1 then _ else _)∧cf (if (aq a).length=1 then _ else _)=cf (kM (gZ l v) (ec l v) (eS l v) (bc (l+1) v) (aq b));rw[e];generalize aq b=s at *;unfold kM;by_cases h1:s.length=1
   · rw[if_pos h1,if_pos h1];exact⟨gl _ _,rfl⟩
   rw[if_neg h1,if_neg h1]
   obtain ⟨j,hj,hsl⟩: ∃j,j≤l∧s.length=2^(j+1):=by
    rcases hs with e | ⟨i,hi,e⟩
    · exact absurd e h0
    · rcases i with _ | j
      · exact absurd e h1
      · exact⟨j,by omega,e⟩
   obtain ⟨e1,e2,e3⟩:=bC hsl;have hx:aC l (s.take (s.length / 2)):= .inr ⟨j,hj,e1⟩;have hn:=kA hj hsl hrt (show l<v.length by omega);have hr:=uk hj hsl hrt (show l<v.length by omega);have hcn:cf (fq l v s)=cf (eS l v s):=hr.2.trans hn.2.symm
   have lowN:c8 j (b7 v j (cf s)):=fun i hi=>by
    unfold b7;rw[bf v j _ _ i hi,bf v j _ _ i hi];exact Rat.sub_self
   have s1:=fX l hr.1 hrt hp (by omega);have s2:=eD l hn.1 hrt (by omega);rw[s1,s2,hcn];by_cases hz:bd v l (cf (eS l v s))=0
   · rw[if_pos hz,if_pos hz];have hd:=vF hrt hp hj (by omega) hsl h (by rw[hn.2,bY v lowN hj] at hz;exact hz);have:=ih (hx.plus hx) (hx.plus hx) rfl (by omega) hd;exact⟨this.1.mono (Nat.le_succ l),this.2⟩
   · rw[if_neg hz,if_neg hz];have h3:=ih hr.1 hn.1 hcn (by omega) (by rw[hcn];exact hz)
     have e4:s.take (s.length / 2)++aK (s.drop (s.length / 2))=dJ (s.take (s.length / 2)) (aK (s.drop (s.length / 2))) (s.length / 2):=by
      unfold dJ
      have w1:bk (s.take (s.length / 2)) (s.length / 2)=s.take (s.length / 2):=by
       have:=jR (s.take (s.length / 2))
       rwa [show (s.take (s.length / 2)).length=s.length / 2 by omega] at this
      have w2:bk (aK (s.drop (s.length / 2))) (s.length / 2)=aK (s.drop (s.length / 2)):=by
       have:=jR (aK (s.drop (s.length / 2)))
       rwa [show (aK (s.drop (s.length / 2))).length=s.length / 2 by rw[bz];omega] at this
      rw[w1,w2]
     have hjl:aC (l+1) (dJ (s.take (s.length / 2)) (aK (s.drop (s.length / 2))) (s.length / 2)):= .inr ⟨j+1,by omega,by
      rw[ei]
      omega⟩
     rw[e4];have t1:=jL (l+1) hjl (h3.1.mono (Nat.le_succ l)) hrt hl;have t2:=eK (l+1) hjl ((fS l hn.1 hrt (by omega)).mono (Nat.le_succ l)) hrt hl;exact⟨t1.1,by rw[t1.2,t2.2,h3.2]⟩
def Dy:Nat→Nat→Prop
 | 0,k=>k≤17300000000000
 | l+1,k=>nS l (sT (l+1) k)∧Dy l (sT (l+1) k)∧sT (l+1) k≤17300000000000∧sT (l+1) (iQ k l (sT (l+1) k))≤17300000000000
theorem Dy.le: ∀{l k:Nat},Dy l k→k≤17300000000000
 | 0,k,h=>h
 | l+1,k,h=>by have:=bQ (l+1) k;have:=h.2.2.1;omega
theorem Dy.mono: ∀{l k m:Nat},Dy l k→m≤k→Dy l m
 | 0,k,m,h,hm=>Nat.le_trans hm h
 | l+1,k,m,h,hm=>by
   have h1:=nK (l:=l+1) hm;refine⟨uL h.1 h1,h.2.1.mono h1,Nat.le_trans h1 h.2.2.1,Nat.le_trans (nK ?_) h.2.2.2⟩;exact Nat.le_trans (Aa hm) (qq h1)
theorem uz{v:List NQ}(hrt:c7 v)(hp:nB v)(hv5:v.length≤5): ∀(l:Nat) {k:Nat} {a:NQ},aC l a→l≤v.length→au k a→fp k v→bd v l (cf a)≠0→Dy l k→Pure Tryz.prog 133 [bA v,ai a] (ai (um l v a)):=by
 intro l
 induction l with
 | zero =>
   intro k a ha hl sa sr h hk;exact w6 ha (by omega) (sa.mono hk.le) (jH ha h) (fun _=>rfl) (fun l' j e=>by omega)
 | succ l ih =>
   intro k a ha hl sa sr h hk;obtain ⟨k1,k2,k3,k4⟩:=hk;have h2:=bQ (l+1) k
   have h5:2*k+1≤sT (l+1) k:=by
    have:=bQ l k;show _≤sT l (sT l k)+sT l k+1;omega
   have h0:=jH ha h;have hc:=bJ ha;refine w6 ha (by omega) (sa.mono (by omega)) h0 (fun e=>if_pos e) (fun l' j e hj hsl=>?_);obtain rfl:l=l':=by omega
   rw[← hc] at h;have ss:=(aX ha sa).2
   have hne:(aq a).length≠1:=by
    have:0<2^j:=Nat.pow_pos (by decide);rw[hsl,Nat.pow_succ];omega
   show ∃(N:NQ) (S:Int),_∧_∧(S=0→Pure _ _ _ (ai (if (aq a).length=1 then _ else _)))∧(S≠0→ ∃I,_∧Pure _ _ _ (ai (if (aq a).length=1 then _ else _)));rw[if_neg hne];generalize aq a=s at *;obtain ⟨e1,e2,e3⟩:=bC hsl;have hx:aC l (s.take (s.length / 2)):= .inr ⟨j,hj,e1⟩;have hr:=uk hj hsl hrt (show l<v.length by omega);have hrs:=(zg hj hsl hrt (show l<v.length by omega) ss sr).2;have cN:=sh hj hsl hrt (show l<v.length by omega) (by omega) (xs:=v.map ai) (fun j hj=>oE hj) ss sr k3;have cS:=gF l hr.1 (by omega) hrt (by omega) (xs:=v.map ai) (fun j hj=>oE hj) hrs (sr.mono (by omega)) k1;have s1:=fX l hr.1 hrt hp (by omega)
   have lowN:c8 j (b7 v j (cf s)):=fun i hi=>by
    unfold b7;rw[bf v j _ _ i hi,bf v j _ _ i hi];exact Rat.sub_self
   refine⟨fq l v s,mT l v (fq l v s),cN,cS,fun hz=>?_,fun hz=>?_⟩
   · rw[if_pos hz];have hd:=vF hrt hp hj (by omega) hsl h (by rw[s1,hr.2,bY v lowN hj] at hz;exact hz);exact ih (hx.plus hx) (by omega) (((ss.take _).plus (ss.take _)).mono (by omega)) (sr.mono (by omega)) hd k2
   · rw[if_neg hz];rw[s1] at hz;have ci:=ih hr.1 (by omega) hrs (sr.mono (by omega)) hz k2;refine⟨um l v (fq l v s),ci,?_⟩;have h3:=Cc hrt hp l hr.1 (kA hj hsl hrt (show l<v.length by omega)).1 (hr.2.trans (kA hj hsl hrt (show l<v.length by omega)).2.symm) (by omega) hz;have hnl:=(kA hj hsl hrt (show l<v.length by omega));have s3:au (iQ k l (sT (l+1) k)) (um l v (fq l v s)):=BX h3.2 (Br hrt sr l hnl.1 (by omega) (BX (hnl.2.trans hr.2.symm) hrs));have hge:=Cq k l (sT (l+1) k);exact fI (l+1) (.inr ⟨j+1,by omega,by rw[List.length_append,bz,e1,e2,Nat.pow_succ];omega⟩) (h3.1.mono (Nat.le_succ l)) hrt hl (by omega) (xs:=v.map ai) (fun j hj=>oE hj) ((DQ (ss.take _) (ss.drop _).minus).mono (by omega)) s3 (sr.mono (by omega)) k4
end Lift
namespace Lift
theorem Ic{v:List NQ}(hrt:c7 v)(hp:nB v): ∀(l:Nat) {k:Nat} {a:NQ},aC l a→l≤v.length→au k a→fp k v→bd v l (cf a)≠0→Dy l k→GF l v a:=by
 intro l
 induction l with
 | zero =>
   intro k a ha hl sa sr h hk;exact⟨sa.mono hk.le,jH ha h⟩
 | succ l ih =>
   intro k a ha hl sa sr h hk;obtain ⟨k1,k2,k3,k4⟩:=hk;have h2:=bQ (l+1) k
   have h5:2*k+1≤sT (l+1) k:=by
    have:=bQ l k;show _≤sT l (sT l k)+sT l k+1;omega
   have h0:=jH ha h;have hc:=bJ ha;refine⟨sa.mono (by omega),h0,fun hne=>?_⟩;rw[← hc] at h;obtain ⟨hs,ss⟩:=aX ha sa;generalize aq a=s at *
   obtain ⟨j,hj,hsl⟩: ∃j,j≤l∧s.length=2^(j+1):=by
    rcases hs with e | ⟨i,hi,e⟩
    · exact absurd e h0
    · rcases i with _ | j
      · exact absurd e hne
      · exact⟨j,by omega,e⟩
   obtain ⟨e1,e2,e3⟩:=bC hsl;have hx:aC l (s.take (s.length / 2)):= .inr ⟨j,hj,e1⟩;have hn:=kA hj hsl hrt (show l<v.length by omega);have sn:=(tC hj hsl hrt (show l<v.length by omega) ss sr).2;have s1:=eD l hn.1 hrt (by omega)
   have lowN:c8 j (b7 v j (cf s)):=fun i hi=>by
    unfold b7;rw[bf v j _ _ i hi,bf v j _ _ i hi];exact Rat.sub_self
   refine⟨Ew hj hsl hrt (by omega) ss sr k3,o8 l hn.1 hrt (by omega) sn (sr.mono (by omega)) k1,fun hz=>?_,fun hz=>⟨?_,?_⟩⟩
   · rw[s1,hn.2,bY v lowN hj] at hz;have hd:=vF hrt hp hj (by omega) hsl h hz;exact ih (hx.plus hx) (by omega) (((ss.take _).plus (ss.take _)).mono (by omega)) (sr.mono (by omega)) hd k2
   · rw[s1] at hz;exact ih hn.1 (by omega) sn (sr.mono (by omega)) hz k2
   · have hjl:aC (l+1) (dJ (s.take (s.length / 2)) (aK (s.drop (s.length / 2))) (s.length / 2)):= .inr ⟨j+1,by omega,by
      rw[ei]
      omega⟩
     have hge:=Cq k l (sT (l+1) k);exact ry (l+1) hjl ((fS l hn.1 hrt (by omega)).mono (Nat.le_succ l)) hrt hl (((ss.take _).join (ss.drop _).minus _).mono (by omega)) (Br hrt sr l hn.1 (by omega) sn) (sr.mono (by omega)) k4
end Lift
namespace Lift
structure Lo (v:List NQ):Prop where
 V:kF 2 v
 l1:v.length≤1
theorem ug{l:Nat}(h:l≤1)(k:Nat):sT l k≤6*k+1:=by
 rcases l with _ | _ | l
 · show 2*k≤_;omega
 · show 2*(2*k)+2*k+1≤_;omega
 · omega
theorem o6{l k:Nat}(h:l≤1)(hk:k≤400000000000):nS l k:=by
 rcases l with _ | _ | l
 · show k≤_;omega
 · have h1:sT 1 k≤6*k+1:=ug (ao 1) k;have h2:sT 1 k≤17300000000000:=by omega
   exact⟨h2,h2⟩
 · omega
theorem I4{l:Nat}(h:l≤1)(s:Nat):tT 2 l s≤2*s+3:=by
 rcases l with _ | _ | l
 · show s≤_;omega
 · rw[DP];omega
 · omega
theorem Js{l r k:Nat}(h:l≤1):iQ r l k≤10*k+3*r+5:=by
 rcases l with _ | _ | l
 · show k+1≤_;omega
 · show tT r 1 (k+(tT r 1 (k+k)+1))≤_;rw[DP,DP];omega
 · omega
theorem Bg{l k:Nat}(h:l≤1)(hk:k≤400000000000):Dy l k:=by
 rcases l with _ | _ | l
 · show k≤_;omega
 · have h1:sT 1 k≤6*k+1:=ug (ao 1) k;have h2:sT 1 k≤17300000000000:=by omega
   have h3:sT 1 (sT 1 k+1)≤6*(sT 1 k+1)+1:=ug (ao 1) _;have h4:sT 1 (sT 1 k+1)≤17300000000000:=by omega
   exact⟨h2,h2,h2,h4⟩
 · omega
theorem Lo.add{v:List NQ}(_:Lo v){k m:Nat}{a b:NQ}(ha:aC v.length a)(sa:au k a)(hb:aC v.length b)(sb:au m b)(hk:k+m≤400000000000):zP a b∧aC v.length (qO a b)∧au (k+m+1) (qO a b) :=
 ⟨⟨sa.mono (by omega),sb.mono (by omega),(sa.plus sb).mono (by omega)⟩,Hj ha sa hb sb⟩
theorem Lo.sub{v:List NQ}(_:Lo v){k m:Nat}{a b:NQ}(ha:aC v.length a)(sa:au k a)(hb:aC v.length b)(sb:au m b)(hk:k+m≤400000000000):Et a b∧aC v.length (n6 a b)∧au (k+m+1) (n6 a b) :=
 ⟨⟨sa.mono (by omega),sb.mono (by omega),(sa.plus sb.minus).mono (by omega)⟩,Gb ha sa hb sb⟩
section
variable {v:List NQ} (L:Lo v) {k m:Nat} {a b:NQ}
include L
theorem Lo.mul(ha:aC v.length a)(sa:au k a)(hb:aC v.length b)(sb:au m b)(hk:k+m≤400000000000):uM v a b∧aC v.length (eg v a b)∧au (2*(k+m)+3) (eg v a b):=by
 have h1:=ug L.l1 (k+m);have h2:=I4 L.l1 (k+m);have hm:=sa.pos;have hm':=sb.pos;have st:=(yR (m:=m) L.V.ro L.V.sz (ao _) ha sa hb sb).mono h2;have lt:=fo v.length ha hb L.V.ro (ao _);exact⟨⟨sa.mono (by omega),sb.mono (by omega),ry v.length ha hb L.V.ro (ao _) (sa.mono (Nat.le_add_right k m)) (sb.mono (Nat.le_add_left m k)) (L.V.sz.mono (by omega)) (by omega),st.mono (by omega)⟩,aX lt st⟩
theorem Lo.sg(ha:aC v.length a)(sa:au k a)(hk:k≤200000000000):uK v a:=by
 have:=sa.pos;exact o8 v.length ha L.V.ro (ao _) (sa.mono (Nat.le_succ k)) (L.V.sz.mono (by omega)) (o6 L.l1 (by omega))
theorem Lo.inv(hb:aC v.length b)(sb:au m b):aC v.length (gZ v.length v b)∧au (10*m+11) (gZ v.length v b) :=
 ⟨fS v.length hb L.V.ro (ao _),(Br L.V.ro L.V.sz v.length hb (ao _) sb).mono (Js L.l1)⟩
theorem Lo.div(ha:aC v.length a)(sa:au k a)(hb:aC v.length b)(sb:au m b)(h0:jI v b≠0)(hk:k+10*m≤200000000000):Ez v a b∧aC v.length (mG v a b)∧au (2*k+20*m+25) (mG v a b):=by
 have hm:=sb.pos;have hm':=sa.pos;obtain ⟨li,si⟩:=L.inv hb sb;obtain ⟨⟨k1,k2,k3,k4⟩,k5,k6⟩:=L.mul ha sa li si (by omega);have hs:bd v v.length (cf b)≠0:=by rw[← eD v.length hb L.V.ro (ao _)];exact h0
 exact⟨⟨k1,sb.mono (by omega),L.sg hb sb (by omega),h0,Ic L.V.ro L.V.pos v.length hb (ao _) (sb.mono (Nat.le_succ m)) (L.V.sz.mono (by omega)) hs (Bg L.l1 (by omega)),k3,k4⟩,k5,k6.mono (by omega)⟩
end
def gS(k:Nat):Nat:=110*k+129
def gI(k:Nat):Nat→Nat
 | 0=>k
 | c+1=>gS (gI k c)
theorem fN{k:Nat}: ∀{c d:Nat},c≤d→gI k c≤gI k d:=fun {c d} h=>by
 induction h with
 | refl=>exact ao _
 | step _ ih=>exact Nat.le_trans ih (by show _≤110*_+129;omega)
abbrev kG(k:Nat)(a:a9):Prop:= ∀i j,au k (aW a i j)
theorem kG.mono{k m:Nat}{a:a9}(h:kG k a)(hk:k≤m):kG m a:=fun i j=>(h i j).mono hk
theorem kG.pos{k:Nat}{a:a9}(h:kG k a):1≤k:=(h 0 0).pos
theorem kG.set{k:Nat}{a:a9}(h:kG k a){r:List NQ}(hr: ∀j,au k (r.getD j []))(i:Nat):kG k (a.set i r):=fun j c=>by
 unfold aW;rw[eH];split
 · exact hr c
 · exact h j c
theorem kG.bR{v:List NQ}{s:lM}{c k:Nat}(h:kG k s.rows):kG k (bR v s c):=by
 unfold Lift.bR;split
 · exact h
 · exact(h.set (h _) _).set (h _) _
theorem Lo.step{v:List NQ}(L:Lo v){m N c k:Nat}{s:lM}(R:vT v m N c s)(hs:kG k s.rows)(hd:au k s.fj)(hk:gS k≤100000000000):
  mh v s c∧kG (gS k) (dZ v s c).rows∧au (gS k) (dZ v s c).fj∧(atR v s c<s.rows.length→kG (gS k) (eR v s c)∧au (gS k) (aq (gZ v.length v (pR v s c)))):=by
 have hg:gS k=110*k+129:=rfl;have hk1:=hs.pos;have hl:=R.len;obtain ⟨a1,a2,a3,a4⟩:=jf v s c (by have:=R.cm;omega);by_cases h:atR v s c<s.rows.length
 · obtain ⟨b1,b2,b3⟩:=vQ R h;obtain ⟨e1,e2,e3⟩:=Ak L.V.a R h;have sb:kG k (bR v s c):=hs.bR
   have hp:jI v (pR v s c)≠0:=by
    have h4:=a4 h
    have:aW (bR v s c) s.cols.length c=aW s.rows (atR v s c) c:=by
     unfold bR aW;split
     · rename_i e;rw[e]
     · unfold yU;rw[eH,if_pos ⟨rfl,by rw[List.length_set];omega⟩]
    rw[pR,this];exact h4
   have se:kG (22*k+25) (eR v s c):=by
    unfold eR;refine(sb.mono (by omega)).set (fun j=>?_) _;by_cases hj:j<((bR v s c).getD s.cols.length []).length
    · rw[qf v _ _ hj];exact(L.div (b3 _ j) (sb _ j) (b3 _ _) (sb _ _) hp (by omega)).2.2.mono (by omega)
    · rw[kC (by rw[qe];omega)];exact aY (by omega)
   have okt: ∀i,Bf v ((eR v s c).getD i []) ((eR v s c).getD s.cols.length []) (aW (eR v s c) i c):=fun i j _=>by
    obtain ⟨q1,q2,q3⟩:=L.mul (e3 i c) (se i c) (e3 s.cols.length j) (se s.cols.length j) (by omega);exact⟨q1,(L.sub (e3 i j) (se i j) q2 q3 (by omega)).1⟩
   have sc: ∀i,kG (gS k) (cu v (eR v s c) s.cols.length c i):=fun i=>by
    induction i with
    | zero=>exact se.mono (by omega)
    | succ i ih =>
      unfold cu;split
      · refine ih.set (fun j=>?_) i;rw[fG v _ _ _ i i (.inl (ao _)),fG v _ _ _ i _ (.inr rfl),tK];by_cases hj:j<((eR v s c).getD i []).length
        · rw[iu v _ _ _ hj];obtain ⟨q1,q2,q3⟩:=L.mul (e3 i c) (se i c) (e3 s.cols.length j) (se s.cols.length j) (by omega);exact(L.sub (e3 i j) (se i j) q2 q3 (by omega)).2.2.mono (by omega)
        · rw[kC (by rw[gA];omega)];exact aY (by omega)
      · exact ih
   obtain ⟨d1,d2,d3⟩:=L.mul R.fj hd (b3 s.cols.length c) (sb _ _) (by omega);refine⟨⟨fun j _ _=>L.sg (R.lt j c) (hs j c) (by omega),fun _=>d1,fun _ j hj=>(L.div (b3 _ j) (sb _ j) (b3 _ _) (sb _ _) hp (by omega)).1,fun _ i _ _=>L.sg (e3 i c) (se i c) (by omega),fun _ i _ _ _=>okt i⟩,?_,?_,fun _=>⟨se.mono (by omega),?_⟩⟩
   · unfold dZ;rw[if_pos h];exact sc _
   · unfold dZ;rw[if_pos h];exact d3.mono (by omega)
   · obtain ⟨i1,i2⟩:=L.inv (b3 s.cols.length c) (sb _ _);exact(aX i1 i2).2.mono (by omega)
 · refine⟨⟨fun j _ _=>L.sg (R.lt j c) (hs j c) (by omega),fun g=>absurd g h,fun g=>absurd g h,fun g=>absurd g h,fun g=>absurd g h⟩,?_,?_,fun g=>absurd g h⟩
   · unfold dZ;rw[if_neg h];exact hs.mono (by omega)
   · unfold dZ;rw[if_neg h];exact hd.mono (by omega)
theorem Lo.Ee{v:List NQ}(L:Lo v){a:a9}{N k:Nat}(hr:bm N a)(hl:kd v.length a)(hs:kG k a): ∀{c:Nat},gI k c≤100000000000→kG (gI k c) (aJ v a c).rows∧au (gI k c) (aJ v a c).fj
 | 0,_=>⟨hs,iR (Nat.le_trans nD hs.pos)⟩
 | c+1,h=>by
   have h0:=Nat.le_trans (fN (Nat.le_succ c)) h;obtain ⟨h1,h2⟩:=L.Ee hr hl hs h0;obtain ⟨_,h3,h4,_⟩:=L.step (gR L.V.a hr hl c) h1 h2 h;exact⟨h3,h4⟩
theorem Lo.red{v:List NQ}(L:Lo v){a:a9}{N k n:Nat}(hr:bm N a)(hl:kd v.length a)(hs:kG k a)(hN:gI k n≤100000000000):
  (∀c,c<n→mh v (aJ v a c) c)∧(∀c,c≤n→kG (gI k n) (aJ v a c).rows)∧(∀c,c≤n→au (gI k n) (aJ v a c).fj) ∧
  (∀c,c<n→atR v (aJ v a c) c<(aJ v a c).rows.length→kG (gI k n) (eR v (aJ v a c) c))∧(∀c,c<n→atR v (aJ v a c) c<(aJ v a c).rows.length→au (gI k n) (aq (gZ v.length v (pR v (aJ v a c) c)))):=by
 have g:=fun c (hc:c≤n)=>L.Ee hr hl hs (Nat.le_trans (fN hc) hN);have s:=fun c (hc:c<n)=>L.step (gR L.V.a hr hl c) (g c (by omega)).1 (g c (by omega)).2 (Nat.le_trans (fN (show c+1≤n from hc)) hN);exact⟨fun c hc=>(s c hc).1,fun c hc=>(g c hc).1.mono (fN hc),fun c hc=>(g c hc).2.mono (fN hc),fun c hc h=>((s c hc).2.2.2 h).1.mono (fN (show c+1≤n from hc)),fun c hc h=>((s c hc).2.2.2 h).2.mono (fN (show c+1≤n from hc))⟩
end Lift
namespace Lift
def fa(v:List NQ)(xs ys:List NQ):Nat→NQ
 | 0=>[]
 | i+1=>qO (fa v xs ys i) (eg v (xs.getD i []) (ys.getD i []))
theorem qE{v:List NQ}(V:lL v){xs ys:List NQ}(hx: ∀i,aC v.length (xs.getD i []))(hy: ∀i,aC v.length (ys.getD i [])): ∀n,aC v.length (fa v xs ys n)
 | 0=>bn _
 | n+1=>bp ((qE V hx hy n).plus (jy V (hx n) (hy n)))
def Ey(v:List NQ)(xs ys:List NQ)(n:Nat):Prop:= ∀i,i<n→uM v (xs.getD i []) (ys.getD i [])∧zP (fa v xs ys i) (eg v (xs.getD i []) (ys.getD i []))
theorem Lo.dot{v:List NQ}(L:Lo v){xs ys:List NQ}{k m:Nat}(hx: ∀i,aC v.length (xs.getD i []))(hy: ∀i,aC v.length (ys.getD i []))(sx: ∀i,au k (xs.getD i []))(sy: ∀i,au m (ys.getD i [])){n:Nat}(hn:n≤32)(hk:k+m≤1000000000):
  Ey v xs ys n∧au (n*(2*(k+m)+4)+1) (fa v xs ys n):=by
 obtain ⟨X,hX⟩: ∃X,X=2*(k+m)+4:=⟨_,rfl⟩;rw[← hX]
 have ind: ∀i,i≤n→au (i*X+1) (fa v xs ys i)∧(i<n→uM v (xs.getD i []) (ys.getD i [])∧zP (fa v xs ys i) (eg v (xs.getD i []) (ys.getD i []))):=by
  have st: ∀i,i<n→au (i*X+1) (fa v xs ys i)→(uM v (xs.getD i []) (ys.getD i [])∧zP (fa v xs ys i) (eg v (xs.getD i []) (ys.getD i [])))∧au ((i+1)*X+1) (fa v xs ys (i+1)):=fun i hi h=>by
   obtain ⟨a1,a2,a3⟩:=L.mul (hx i) (sx i) (hy i) (sy i) (by omega);have hb:i*X≤32*X:=Nat.mul_le_mul_right _ (by omega);have e:(i+1)*X=i*X+X:=Nat.succ_mul i X;obtain ⟨b1,b2,b3⟩:=L.add (qE L.V.a hx hy i) h a2 a3 (by omega);exact⟨⟨a1,b1⟩,b3.mono (by omega)⟩
  intro i hi
  induction i with
  | zero =>
    have s0:au (0*X+1) (fa v xs ys 0):=aY (Nat.le_add_left _ _);exact⟨s0,fun h=>(st 0 h s0).1⟩
  | succ i ih =>
    have s1:=(st i (by omega) (ih (by omega)).1).2;exact⟨s1,fun h=>(st (i+1) h s1).1⟩
 exact⟨fun i hi=>(ind i (by omega)).2 hi,(ind n (ao n)).1⟩
def eY(a:a9)(k:Nat):List NQ:=a.map fun r=>r.getD k []
theorem Ap(a:a9)(k:Nat):(eY a k).length=a.length:=ae ..
theorem ic(a:a9)(k i:Nat):(eY a k).getD i []=aW a i k:=CC a k i
def eP(v:List NQ)(a b:a9):a9:=a.map fun r=>(List.range (ak b)).map fun k=>fa v r (eY b k) r.length
theorem iA(v:List NQ)(a b:a9):(eP v a b).length=a.length:=ae ..
theorem nP(v:List NQ)(a b:a9){i:Nat}(h:i<a.length):(eP v a b).getD i []=(List.range (ak b)).map fun k=>fa v (a.getD i []) (eY b k) (a.getD i []).length:=by
 unfold eP;rw[aG,List.getElem?_map,aG,bg h];rfl
theorem zH(v:List NQ)(a b:a9){i k:Nat}(h:i<a.length)(hk:k<ak b):aW (eP v a b) i k=fa v (a.getD i []) (eY b k) (a.getD i []).length:=by
 unfold aW;rw[nP v a b h,aG,List.getElem?_map,List.getElem?_range hk];rfl
theorem uG(v:List NQ)(a b:a9):bm (ak b) (eP v a b):=fun i hi=>by
 rw[iA] at hi;rw[nP v a b hi,ae,List.length_range]
theorem C4{p:NQ→Prop}(h0:p []){v:List NQ}{a b:a9}(h: ∀i k,i<a.length→k<ak b→p (fa v (a.getD i []) (eY b k) (a.getD i []).length)): ∀i k,p (aW (eP v a b) i k):=fun i k=>by
 by_cases hi:i<a.length
 · by_cases hk:k<ak b
   · rw[zH v a b hi hk];exact h i k hi hk
   · unfold aW;rw[kC (by rw[uG v a b i (by rw[iA];exact hi)];omega)];exact h0
 · unfold aW;rw[fg (by rw[iA];omega)];exact h0
def cG(a:a9)(b:List NQ)(n:Nat):a9:=(List.range n).map fun i=>a.getD i []++[b.getD i []]
theorem iq(a:a9)(b:List NQ)(n:Nat):(cG a b n).length=n:=by unfold cG;rw[ae,List.length_range]
theorem wH(a:a9)(b:List NQ){n i:Nat}(h:i<n):(cG a b n).getD i []=a.getD i []++[b.getD i []]:=by
 unfold cG;rw[aG,List.getElem?_map,List.getElem?_range h];rfl
theorem tR(a:a9)(b:List NQ)(n:Nat):cG a b (n+1)=cG a b n++[a.getD n []++[b.getD n []]]:=by
 unfold cG;rw[List.range_succ,List.map_append];rfl
theorem im{a:a9}{N:Nat}(h:bm N a)(b:List NQ):bm (N+1) (cG a b a.length):=fun i hi=>by
 rw[iq] at hi;rw[wH a b hi,List.length_append,h i hi];rfl
theorem DD{a:a9}{N:Nat}(h:bm N a)(b:List NQ){i k:Nat}(hi:i<a.length):aW (cG a b a.length) i k=if k<N then aW a i k else if k=N then b.getD i [] else []:=by
 have hl:=h i hi;unfold aW;rw[wH a b hi,aG,List.getElem?_append];by_cases h1:k<N
 · rw[if_pos (by omega),if_pos h1,aG (l:=a.getD i [])]
 · rw[if_neg (by omega),if_neg h1,hl];by_cases h2:k=N
   · rw[if_pos h2,h2,Nat.sub_self];rfl
   · rw[if_neg h2];obtain ⟨j,hj⟩: ∃j,k-N=j+1:=⟨k-N-1,by omega⟩;rw[hj];rfl
theorem wI{p:NQ→Prop}(h0:p []){a:a9}{N:Nat}(h:bm N a){b:List NQ}(ha: ∀i k,p (aW a i k))(hb: ∀i,p (b.getD i [])): ∀i k,p (aW (cG a b a.length) i k):=fun i k=>by
 by_cases hi:i<a.length
 · rw[DD h b hi];split
   · exact ha i k
   · split
     · exact hb i
     · exact h0
 · unfold aW;rw[fg (by rw[iq];omega)];exact h0
def cX(v:List NQ)(a:a9)(b:List NQ):lM:=aJ v (cG a b a.length) (ak a)
def jw(v:List NQ)(a:a9)(b:List NQ):List NQ:=(List.range (ak a)).map fun i=>aW (cX v a b).rows i (ak a)
theorem mQ(v:List NQ)(a:a9)(b:List NQ):(jw v a b).length=ak a:=by unfold jw;rw[ae,List.length_range]
theorem y4(v:List NQ)(a:a9)(b:List NQ){i:Nat}(h:i<ak a):(jw v a b).getD i []=aW (cX v a b).rows i (ak a):=by
 unfold jw;rw[aG,List.getElem?_map,List.getElem?_range h];rfl
theorem DZ{p:NQ→Prop}(h0:p []){v:List NQ}{a:a9}{b:List NQ}(h: ∀i,p (aW (cX v a b).rows i (ak a))): ∀i,p ((jw v a b).getD i []):=fun i=>by
 by_cases hi:i<ak a
 · rw[y4 v a b hi];exact h i
 · rw[kC (by rw[mQ];omega)];exact h0
section
variable {m0:Nat} {v:List NQ} (V:kF m0 v) {a:a9} (G:Aw v a) {b:List NQ} (hb: ∀i,aC v.length (b.getD i []))
include V G hb
end
end Lift
namespace Lift
open Go Go.Proofs
abbrev tf(l:List Nat):D:= .sl 1 (l.map (fun c:Nat=>dI c))
theorem Cu{l:List Nat}{i:Nat}(h:i<l.length):(l.map (fun c:Nat=>dI c))[i]?=some (dI (l.getD i 0)):=by simp[h]
def FY(l:List Nat)(x:Nat)(i:Nat):Bool:=decide ((x:Int)=(l.getD i 0:Nat))
def JU(l:List Nat)(x:Nat):Int:=if gf (FY l x) (l.length-0) 0<l.length then (gf (FY l x) (l.length-0) 0:Nat) else -1
theorem GX(l:List Nat)(x:Nat):decide (0≤JU l x)=l.contains x:=by
 obtain ⟨h1,h2,h3,h4⟩:=lC (g:=FY l x) (m:=l.length-0) (i:=0);unfold JU;by_cases h:gf (FY l x) (l.length-0) 0<l.length
 · rw[if_pos h,aV (aj _)];have:=h4 (by omega)
   have e:x=l.getD (gf (FY l x) (l.length-0) 0) 0:=by
    have:=ar this;omega
   rw[e,aG,bg h];exact(List.contains_iff_mem.2 (List.getElem_mem h)).symm
 · rw[if_neg h,aT (by decide)];refine(Bool.eq_false_iff.2 fun hc=>?_).symm;have hm:=List.contains_iff_mem.1 hc;obtain ⟨j,hj,e⟩:=List.getElem_of_mem hm;have:=h3 j (Nat.zero_le _) (by omega);unfold FY at this;rw[aG,bg hj] at this;have:=aA this;exact this (by show (x:Int)=((l[j]:Nat):Int);rw[e])
theorem rh(bs:List Nat)(hl:bs.length≤1000000000000000)(x:Nat):Pure Tryz.prog 93 [tf bs,dI x] (dI (JU bs x)):=by
 refine qJ 19 Tryz.func93 rfl rfl rfl rfl (by kernel_rfl) (fun B F0 w0=>?_);unfold JU;generalize hE:gf (FY bs x) (bs.length-0) 0=E;refine qX 1 rfl ?_;refine qI (qX 3 rfl ?_);rw[ae];refine ab.nil ?_;refine AW.block (AW.aF [0,1,7,8] (fun i:Nat=>[(0,.d (tf bs)),(1,.d (dI x)),(7,.d (dI bs.length)),(8,.d (dI i))]) (fun i=>i≤bs.length∧gf (FY bs x) (bs.length-i) i=E) (fun i=>bs.length-i) 0 rfl ⟨Nat.zero_le _,hE⟩ (fun i hi=>?_));obtain ⟨hi,hE⟩:=hi
 · skip
   refine qX 1 rfl ?_;refine qI ?_;refine AW.cond rfl (fun h=>?_) (fun h=>?_)
   · have hin:i<bs.length:=by have:=ar h;omega
     have hhit:=np (g:=FY bs x) hin;have hmiss:=lA (g:=FY bs x) hin;refine AW.skip (AW.seq (AW.block ?_));refine qX 2 rfl ?_;refine qK 3 rfl ?_;refine ab.idx tok (dI (bs.getD i 0)) rfl rfl rfl rfl (aj i) (Cu hin) ?_;refine qU 2 rfl ?_;refine ab.nil ?_;refine AW.cond rfl (fun h=>?_) (fun h=>?_)
     · have e:E=i:=hE.symm.trans (hhit h);rw[e,if_pos hin];refine qX 2 rfl ?_;exact qN rfl
     · skip
       refine AW.skip (qT 1 rfl ?_);rw[aH (x:=(i:Int)+1) (by omega) (by omega)];refine qU 1 rfl ?_;refine ab.nil ?_;exact⟨i+1,rfl,⟨hin,by rw[← hmiss h];exact hE⟩,by omega⟩
   have hin: ¬i<bs.length:=by have:=aA h;omega
   have e:E=i:=by rw[← hE,nq hin]
   rw[e,if_neg hin];refine AW.exit ?_;refine qX 1 rfl ?_;exact qN rfl
theorem n8(bs:List Nat)(hl:bs.length≤1000000000000000)(x:Nat):Pure Tryz.prog 50 [tf bs,dI x] (dB (bs.contains x)):=by
 refine qJ 9 Tryz.func50 rfl rfl rfl rfl (by kernel_rfl) (fun B F0 w0=>?_);rw[← GX];refine qX 1 rfl ?_;refine qK 2 rfl ?_;refine ab.call tok rfl rfl rfl rfl (rh bs hl x) ?_;refine qU 2 rfl ?_;exact qN rfl
theorem mM{α:Type}{d:α}{l:List α}{i:Nat}(h:i<l.length):l.take (i+1)=l.take i++[l.getD i d]:=by
 rw[List.take_succ_eq_append_getElem h,aG,bg h];rfl
theorem lj(a:a9)(k:Nat)(ha:a.length≤1000000)(hr: ∀i,i<a.length→k<(a.getD i []).length):Pure Tryz.prog 59 [bh a,dI k] (a8 (eY a k)):=by
 refine qJ 23 Tryz.func59 rfl rfl rfl rfl (by kernel_rfl) (fun B F0 w0=>?_);have hc:=Ap a k
 have hts: ∀i,i<a.length→(eY a k).take (i+1)=(eY a k).take i++[(a.getD i []).getD k []]:=fun i hi=>by
  rw[mM (d:=[]) (by omega),ic];rfl
 have hta:(eY a k).take a.length=eY a k:=List.take_of_length_le (by omega);generalize eY a k=zs at *;refine qX 1 rfl ?_;refine qK 1 rfl ?_;refine qI (qX 3 rfl ?_);rw[ae];refine ab.nil ?_;refine AW.block ?_;refine AW.aF [0,1,5,8,9,10] (fun i:Nat=>[(0,.d (bh a)),(1,.d (dI k)),(5,.ow 53 ((zs.take i).map ai)),(8,.d (bh a)),(9,.d (dI a.length)),(10,.d (dI i))]) (fun i=>i≤a.length) (fun i=>a.length-i) 0 rfl (Nat.zero_le _) (fun i hi=>?_)
 · show AW _ _ _ _ _ _ _ [(0,.d (bh a)),(1,.d (dI k)),(5,.ow 53 ((zs.take i).map ai)),(8,.d (bh a)),(9,.d (dI a.length)),(10,.d (dI i))];refine qX 1 rfl ?_;refine qI ?_;refine AW.cond rfl (fun h=>?_) (fun h=>?_)
   · have hii:i<a.length:=by have:=ar h;omega
     have g1:=getM a8 (l:=a) (i:=i) hii;have g2:=getM ai (l:=a.getD i []) (i:=k) (hr i hii);have hts:=hts i hii;generalize a.getD i []=r at g1 g2 hts;generalize r.getD k []=x at g2 hts;refine AW.skip (AW.seq (AW.block (AW.seq (AW.region ?_))));refine ab.idx tok (a8 r) rfl rfl rfl rfl (aj i) g1 ?_;refine qU 2 rfl ?_;refine ab.nil ?_;refine qT 3 rfl ?_;refine ab.idx tok (ai x) rfl rfl rfl rfl (aj k) g2 ?_;refine qU 1 rfl ?_;refine ab.e7 tok rfl rfl rfl rfl rfl ?_;refine ab.gg tok rfl rfl rfl rfl rfl rfl (by rw[ae,aQ];show (_+1)*24≤_;omega) (by rw[ae,aQ];show _+1≤_;omega) ?_;refine qU 1 rfl ?_;refine ab.nil ?_;refine qT 1 rfl ?_;rw[aH (x:=(i:Int)+1) (by omega) (by omega)];refine qU 1 rfl ?_;refine ab.nil ?_;exact⟨i+1,by rw[hts,List.map_append];rfl,hii,by omega⟩
   have hii:i=a.length:=by have:=aA h;omega
   subst hii;rw[hta];refine AW.exit (AW.seq (AW.region ?_));refine ab.fQ tok 5 rfl rfl ?_;refine qU 2 rfl ?_;exact qN rfl
theorem CR(a:a9){k:Nat}(h:k<ak a):(fe a).getD k []=eY a k:=q9 a h
theorem rD(a:a9)(ha:a.length≤1000000)(hc:ak a≤1000000)(hr:bm (ak a) a):Pure Tryz.prog 92 [bh a] (bh (fe a)):=by
 refine qJ 18 Tryz.func92 rfl rfl rfl rfl (by kernel_rfl) (fun B F0 w0=>?_);have hz:=nG a
 have hts: ∀k,k<ak a→(fe a).take (k+1)=(fe a).take k++[eY a k]:=fun k hk=>by
  rw[mM (d:=[]) (by omega),CR a hk]
 have hta:(fe a).take (ak a)=fe a:=List.take_of_length_le (by omega);have cc:=fun k (hk:k<ak a)=>lj a k ha (fun i hi=>by rw[hr i hi];exact hk);generalize fe a=zs at *;refine qX 1 rfl ?_;refine qK 1 rfl ?_;refine qI (qX 1 rfl ?_);refine ab.call tok rfl rfl rfl rfl (bM a) ?_;refine qU 1 rfl ?_;refine ab.nil ?_;refine AW.block ?_;refine AW.aF [0,3,6,7] (fun i:Nat=>[(0,.d (bh a)),(3,.ow 22 ((zs.take i).map a8)),(6,.d (dI (ak a))),(7,.d (dI i))]) (fun i=>i≤ak a) (fun i=>ak a-i) 0 rfl (Nat.zero_le _) (fun i hi=>?_)
 · show AW _ _ _ _ _ _ _ [(0,.d (bh a)),(3,.ow 22 ((zs.take i).map a8)),(6,.d (dI (ak a))),(7,.d (dI i))];refine qX 1 rfl ?_;refine qI ?_;refine AW.cond rfl (fun h=>?_) (fun h=>?_)
   · have hii:i<ak a:=by have:=ar h;omega
     have cc:=cc i hii;have hts:=hts i hii;generalize eY a i=z at cc hts;refine AW.skip (AW.seq (AW.block ?_));refine qX 2 rfl ?_;refine ab.nil ?_;refine qT 3 rfl ?_;refine ab.call tok rfl rfl rfl rfl cc ?_;refine ab.e7 tok rfl rfl rfl rfl rfl ?_;refine ab.gg tok rfl rfl rfl rfl rfl rfl (by rw[ae,aQ];show (_+1)*24≤_;omega) (by rw[ae,aQ];show _+1≤_;omega) ?_;refine qU 1 rfl ?_;refine ab.nil ?_;refine qT 1 rfl ?_;rw[aH (x:=(i:Int)+1) (by omega) (by omega)];refine qU 1 rfl ?_;refine ab.nil ?_;exact⟨i+1,by rw[hts,List.map_append];rfl,hii,by omega⟩
   have hii:i=ak a:=by have:=aA h;omega
   subst hii;rw[hta];refine AW.exit (AW.seq (AW.region ?_));refine ab.fQ tok 3 rfl rfl ?_;refine qU 2 rfl ?_;exact qN rfl
theorem mE{v:List NQ}{a:a9}(V:lL v)(G:Aw v a)(ok: ∀c,c<a.length→mh v (aJ v (fe a) c) c):Pure Tryz.prog 49 [bA v,bh a] (.tu [tf (aJ v (fe a) a.length).cols,aN]):=by
 refine qJ 20 Tryz.func49 rfl rfl rfl rfl (by kernel_rfl) (fun B F0 w0=>?_);have hGl:=G.l;have hGc:=G.c;have ct:=rD a (by omega) (by omega) G.r;have cr:=gX V (most:=a.length) (by rw[nG];omega) (by omega) (ao _) (oO a) (tX G.lt) ok;generalize aJ v (fe a) a.length=s at *;generalize fe a=z at *;refine qX 3 rfl ?_;refine qI (AW.oI tok aP [(8,true),(1,false),(1,true)] 10 [6] (by kernel_rfl) ⟨rfl,?_⟩);refine qP 2 rfl ?_;refine af.call tok rfl rfl rfl rfl rfl ct ?_;refine qP 2 rfl ?_;rw[ae];refine af.call tok rfl rfl rfl rfl rfl cr ?_;refine qP 2 rfl ?_;refine af.nil ⟨rfl,?_⟩;refine qP 1 rfl ?_;refine af.nil ⟨rfl,?_⟩;refine qP 1 rfl ?_;refine af.nil ⟨_,py.cons (.bx rfl) (py.nil),?_⟩;refine qU 1 rfl ?_;refine qK 5 rfl ?_;exact qN rfl
theorem od{m:Nat}{v:List NQ}{a:a9}(V:kF m v)(hk:nS v.length m)(G:Aw v a)(hs: ∀i k,au m (aW a i k))(ok: ∀c,c<a.length→mh v (aJ v (fe a) c) c):Pure Tryz.prog 15 [bA v,bh a] (.tu [tf (Gx v a),aN]):=by
 refine qJ 41 Tryz.func15 rfl rfl rfl rfl (by kernel_rfl) (fun B F0 w0=>?_);obtain ⟨r1,r2⟩:=G.raw V hs;have cc:=gj (V.s hk) r1;rw[r2,mV,xM] at cc;have hGl:=G.l;have ci:=mE V.a G ok;have hcl:=(gR V.a (oO a) (tX G.lt) a.length).cl;unfold Gx sF;generalize aJ v (fe a) a.length=s at *
 have hf: ∀i,((List.range (i+1)).filter fun i=> !s.cols.contains i)=((List.range i).filter fun i=> !s.cols.contains i)++(if s.cols.contains i then [] else [i]):=fun i=>by
  rw[List.range_succ,List.filter_append]
  congr 1
  by_cases h:s.cols.contains i=true
  · rw[if_pos h,List.filter_cons_of_neg (by rw[h];simp)];rfl
  · rw[if_neg h,List.filter_cons_of_pos (by simp only[Bool.not_eq_true] at h;rw[h];rfl)];rfl
 have hfl: ∀i,((List.range i).filter fun i=> !s.cols.contains i).length≤i:=fun i=>Nat.le_trans (List.length_filter_le ..) (by rw[List.length_range];exact ao _);refine qX 3 rfl ?_;refine qI (qX 2 rfl ?_);refine ab.call tok rfl rfl rfl rfl cc ?_;refine qU 1 rfl ?_;refine qK 1 rfl ?_;refine ab.err tok rfl rfl rfl rfl rfl ?_;refine ab.nil ?_;refine AW.aB rfl ?_
 · skip
   refine AW.skip (qX 2 rfl ?_);refine ab.call tok rfl rfl rfl rfl ci ?_;refine qU 5 rfl ?_;refine qI (qX 1 rfl ?_);refine ab.err tok rfl rfl rfl rfl rfl ?_;refine ab.nil ?_;refine AW.aB rfl ?_
   · skip
     refine AW.skip (qX 1 rfl ?_);refine qI (qX 2 rfl ?_);rw[ae];refine qU 1 rfl ?_;refine ab.nil ?_;refine AW.block ?_;refine AW.aF [7,9,27,28] (fun i:Nat=>[(7,.d (tf s.cols)),(9,.ow 3 (((List.range i).filter fun i=> !s.cols.contains i).map (fun c:Nat=>dI c))),(27,.d (dI a.length)),(28,.d (dI i))]) (fun i=>i≤a.length) (fun i=>a.length-i) 0 rfl (Nat.zero_le _) (fun i hi=>?_)
     · show AW _ _ _ _ _ _ _ [(7,.d (tf s.cols)),(9,.ow 3 (((List.range i).filter fun i=> !s.cols.contains i).map (fun c:Nat=>dI c))),(27,.d (dI a.length)),(28,.d (dI i))];refine qX 1 rfl ?_;refine qI ?_;refine AW.cond rfl (fun h=>?_) (fun h=>?_)
       · have hii:i<a.length:=by have:=ar h;omega
         have hf:=hf i;have hfl:=hfl i;have ch:=n8 s.cols (by omega) i;generalize s.cols.contains i=b at hf ch;refine AW.skip (AW.seq (AW.block ?_));refine qX 2 rfl ?_;refine qK 2 rfl ?_;refine ab.call tok rfl rfl rfl rfl ch ?_;refine qU 1 rfl ?_;refine ab.nil ?_;refine AW.cond rfl (fun h=>?_) (fun h=>?_)
         · rw[show b=false by cases b;rfl;cases h] at hf;refine qT 2 rfl ?_;refine ab.e7 tok rfl rfl rfl rfl rfl ?_;refine ab.gg tok rfl rfl rfl rfl rfl rfl (by rw[ae];show (_+1)*8≤_;omega) (by rw[ae];show _+1≤_;omega) ?_;refine qU 1 rfl ?_;refine ab.nil ?_;refine qT 1 rfl ?_;rw[aH (x:=(i:Int)+1) (by omega) (by omega)];refine qU 1 rfl ?_;refine ab.nil ?_;exact⟨i+1,by rw[hf,if_neg (by decide),List.map_append];rfl,hii,by omega⟩
         · rw[show b=true by cases b;cases h;rfl] at hf;refine AW.skip (qT 1 rfl ?_);rw[aH (x:=(i:Int)+1) (by omega) (by omega)];refine qU 1 rfl ?_;refine ab.nil ?_;exact⟨i+1,by rw[hf,if_pos rfl,List.append_nil];rfl,hii,by omega⟩
       have hii:i=a.length:=by have:=aA h;omega
       subst hii;refine AW.exit (AW.seq (AW.region ?_));refine ab.fQ tok 9 rfl rfl ?_;refine qU 3 rfl ?_;exact qN rfl
end Lift
namespace Lift
open Go Go.Proofs
section
variable {P:Program} {T:Ty} {B:Nat} {F0:Nat→Prop} {w0:cL} {n:Nat} {σ:St} {all:Array Oper} {rest:List Oper} {o:Oper} {d:Nat} {K:St→Prop}
theorem ab.Il(hT:bw P T)(z:Nat){e:Nat}{te:TI}{m:Int}(hd:o.dst=some d)(hdn:Nat.ble (d+1) n=true)(hg:aD all σ o=true)(hx:Ij T σ.get o.op=some (e,te,m))(hz:kH te=true)(hzd:rW te= .sl 3 [])(hb:te.bytes=24)(hm:m=(z:Int))(h1:z≤1000000)
  (h:ab P B F0 w0 n all rest K ((d,.ow e ((List.replicate z ([]:NQ)).map ai))::σ.kill d)):ab P B F0 w0 n all (o::rest) K σ:=by
 subst hm;refine ab.make hT hd hdn hg hx hz (by omega) (by rw[hb];omega) (by omega) ?_;rw[hzd,show List.replicate ((z:Int)).toNat (D.sl 3 [])=(List.replicate z ([]:NQ)).map ai by rw[List.map_replicate];rfl];exact h
end
end Lift
namespace Lift
open Go Go.Proofs
def qF(v:List NQ)(a:a9):NQ:=if (aJ v a a.length).cols.length<a.length then [] else if (aJ v a a.length).sg<0 then qh (aJ v a a.length).fj else (aJ v a a.length).fj
theorem wv{v:List NQ}{a:a9}(V:lL v)(ha:a.length≤1000000)(hr:bm a.length a)(hl:kd v.length a)(ok: ∀c,c<a.length→mh v (aJ v a c) c)(hd:my (aJ v a a.length).fj):Pure Tryz.prog 60 [bA v,bh a] (.tu [ai (qF v a),aN]):=by
 refine qJ 38 Tryz.func60 rfl rfl rfl rfl (by kernel_rfl) (fun B F0 w0=>?_);have cr:=gX V (most:=a.length) ha ha (ao _) hr hl ok;have R:=gR V hr hl a.length;have cn:=AL V R.fj hd;have hcm:=R.cm;unfold qF;generalize aJ v a a.length=s at *;obtain ⟨rows,cols,sg,fj⟩:=s;clear R
 dsimp only at hcm cn ⊢
 change Pure _ _ _ (.tu [.ag [bh rows,tf cols,dI sg,ai fj],aN]) at cr;refine qX 3 rfl ?_;refine qK 4 rfl ?_;rw[ae];refine ab.call tok rfl rfl rfl rfl cr ?_;refine qU 6 rfl ?_;refine qI (qX 1 rfl ?_);refine ab.err tok rfl rfl rfl rfl rfl ?_;refine qU 3 rfl ?_;refine qU 1 rfl ?_;rw[ae];refine qU 2 rfl ?_;rw[ae];refine qU 2 rfl ?_;refine ab.nil ?_;refine AW.cond rfl (fun h=>?_) (fun h=>?_)
 · have hc:cols.length<a.length:=by have:=ar h;omega
   rw[if_pos hc];refine qX 3 rfl ?_;exact qN rfl
 · have hc: ¬cols.length<a.length:=by have:=aA h;omega
   rw[if_neg hc];refine AW.skip (AW.seq ?_);refine qX 3 rfl ?_;refine ab.nil ?_;refine AW.cond rfl (fun h=>?_) (fun h=>?_)
   · have hs:sg<0:=ar h;rw[if_pos hs];refine qX 3 rfl ?_;refine ab.call tok rfl rfl rfl rfl cn ?_;refine qU 4 rfl ?_;exact qN rfl
   · have hs: ¬sg<0:=aA h;rw[if_neg hs];refine AW.skip (qX 4 rfl ?_);exact qN rfl
theorem oA{v:List NQ}{a:a9}(cc:Pure Tryz.prog 20 [bA v,bh a] aN)(hsq:ak a=a.length)(cd:Pure Tryz.prog 60 [bA v,bh a] (.tu [ai (qF v a),aN])):Pure Tryz.prog 27 [bA v,bh a] (.tu [ai (qF v a),aN]):=by
 refine qJ 24 Tryz.func27 rfl rfl rfl rfl (by kernel_rfl) (fun B F0 w0=>?_);generalize qF v a=d at *;refine qX 3 rfl ?_;refine qI (qX 2 rfl ?_);refine ab.call tok rfl rfl rfl rfl cc ?_;refine qU 1 rfl ?_;refine qK 1 rfl ?_;refine ab.err tok rfl rfl rfl rfl rfl ?_;refine ab.nil ?_;refine AW.aB rfl ?_
 · skip
   refine AW.skip (AW.seq ?_);refine qX 1 rfl ?_;refine ab.call tok rfl rfl rfl rfl (bM a) ?_;refine qU 2 rfl ?_;rw[ae];refine qU 1 rfl ?_;rw[hsq,bne_eq_false_iff_eq.2 rfl];refine ab.nil ?_;refine AW.aB rfl ?_
   · skip
     refine AW.skip (qX 2 rfl ?_);refine ab.call tok rfl rfl rfl rfl cd ?_;refine qU 4 rfl ?_;exact qN rfl
theorem vd{v:List NQ}{a:a9}(cc:Pure Tryz.prog 20 [bA v,bh a] aN)(hsq:ak a≠a.length):Pure Tryz.prog 27 [bA v,bh a] (.tu [ai [],er 10]):=by
 refine qJ 24 Tryz.func27 rfl rfl rfl rfl (by kernel_rfl) (fun B F0 w0=>?_);refine qX 3 rfl ?_;refine qI (qX 2 rfl ?_);refine ab.call tok rfl rfl rfl rfl cc ?_;refine qU 1 rfl ?_;refine qK 1 rfl ?_;refine ab.err tok rfl rfl rfl rfl rfl ?_;refine ab.nil ?_;refine AW.aB rfl ?_
 · skip
   refine AW.skip (AW.seq ?_);refine qX 1 rfl ?_;refine ab.call tok rfl rfl rfl rfl (bM a) ?_;refine qU 2 rfl ?_;rw[ae];refine qU 1 rfl ?_;rw[bne_iff_ne.2 (show (ak a:Int)≠(a.length:Int) by omega)];refine ab.nil ?_;refine AW.aL rfl ?_
   · skip
     refine qX 3 rfl ?_;exact qN rfl
theorem wu{v:List NQ}{xs ys:List NQ}(V:lL v)(hx: ∀i,aC v.length (xs.getD i []))(hy: ∀i,aC v.length (ys.getD i []))(hl:xs.length≤ys.length)(hl1:xs.length≤1000000)(ok:Ey v xs ys xs.length):Pure Tryz.prog 58 [bA v,a8 xs,a8 ys] (.tu [ai (fa v xs ys xs.length),aN]):=by
 refine qJ 45 Tryz.func58 rfl rfl rfl rfl (by kernel_rfl) (fun B F0 w0=>?_);have h0:fa v xs ys 0=[]:=rfl;have hs: ∀i,fa v xs ys (i+1)=qO (fa v xs ys i) (eg v (xs.getD i []) (ys.getD i [])):=fun i=>rfl;have cm:=fun i (hi:i<xs.length)=>oP V (hx i) (hy i) (ok i hi).1;have ca:=fun i (hi:i<xs.length)=>AO V (qE V hx hy i) (jy V (hx i) (hy i)) (ok i hi).2;clear ok;generalize fa v xs ys=f at *;refine qX 3 rfl ?_;refine qK 1 rfl ?_;refine qI (AW.seq (AW.region ?_));refine ab.fQ tok 8 rfl rfl ?_;refine qU 2 rfl ?_;rw[ae];refine qU 1 rfl ?_;refine ab.nil ?_;refine AW.block ?_;refine AW.aF [1,2,3,8,13,14] (fun i:Nat=>[(1,.d (a8 xs)),(2,.d (a8 ys)),(3,.bx [.sl 1 (v.map ai)]),(8,.d (ai (f i))),(13,.d (dI xs.length)),(14,.d (dI i))]) (fun i=>i≤xs.length) (fun i=>xs.length-i) 0 (by rw[h0];rfl) (Nat.zero_le _) (fun i hi=>?_)
 · show AW _ _ _ _ _ _ _ [(1,.d (a8 xs)),(2,.d (a8 ys)),(3,.bx [.sl 1 (v.map ai)]),(8,.d (ai (f i))),(13,.d (dI xs.length)),(14,.d (dI i))];refine qX 1 rfl ?_;refine qI ?_;refine AW.cond rfl (fun h=>?_) (fun h=>?_)
   · have hii:i<xs.length:=by have:=ar h;omega
     have gx:=getM ai (l:=xs) (i:=i) hii;have gy:=getM ai (l:=ys) (i:=i) (by omega);have cm:=cm i hii;have ca:=ca i hii;have hs:=hs i;generalize xs.getD i []=x at gx cm ca hs;generalize ys.getD i []=y at gy cm ca hs;generalize eg v x y=p at *;refine AW.skip (AW.seq (AW.block ?_));refine qX 2 rfl ?_;refine qI (AW.draw aP 14 (by kernel_rfl) ?_);refine qP 3 rfl ?_;refine af.idx tok (ai x) rfl rfl rfl rfl rfl (aj i) gx ?_;refine qP 3 rfl ?_;refine af.idx tok (ai y) rfl rfl rfl rfl rfl (aj i) gy ?_;refine qP 1 rfl ?_;refine af.call tok rfl rfl rfl rfl rfl cm ?_;refine qP 4 rfl ?_;refine af.nil ?_;refine qU 1 rfl ?_;refine qI (qX 1 rfl ?_);refine ab.err tok rfl rfl rfl rfl rfl ?_;refine ab.nil ?_;refine AW.aB rfl ?_
     · skip
       refine AW.skip (qX 3 rfl ?_);refine ab.call tok rfl rfl rfl rfl ca ?_;refine qU 5 rfl ?_;refine qK 1 rfl ?_;refine ab.err tok rfl rfl rfl rfl rfl ?_;refine ab.nil ?_;refine AW.aB rfl ?_
       · skip
         refine AW.skip (qT 1 rfl ?_);rw[aH (x:=(i:Int)+1) (by omega) (by omega)];refine qU 1 rfl ?_;refine ab.nil ?_;exact⟨i+1,by rw[hs];rfl,hii,by omega⟩
   have hii:i=xs.length:=by have:=aA h;omega
   subst hii;refine AW.exit ?_;refine qX 3 rfl ?_;exact qN rfl
theorem wx{v:List NQ}{a b:a9}(V:lL v)(cc:Pure Tryz.prog 20 [bA v,bh a] aN)(cb:Pure Tryz.prog 55 [bA v,bh b] aN)(ha:a.length≤1000000)(hra:bm (ak a) a)(hla:kd v.length a)(hc:ak a≤1000000)(hb:b.length=ak a)(hrb:bm (ak b) b)(hcb:ak b≤1000000)(hlb:kd v.length b)
  (ok: ∀i k,i<a.length→k<ak b→Ey v (a.getD i []) (eY b k) (ak a)):Pure Tryz.prog 26 [bA v,bh a,bh b] (.tu [bh (eP v a b),aN]):=by
 refine qJ 69 Tryz.func26 rfl rfl rfl rfl (by kernel_rfl) (fun B F0 w0=>?_);have hz:=iA v a b;have hzr:=uG v a b;have cd:=fun i k (hi:i<a.length) (hk:k<ak b)=>wu V (hla i) (fun j=>by rw[ic];exact hlb j k) (by rw[hra i hi,Ap];omega) (by rw[hra i hi];exact hc) (by rw[hra i hi];exact ok i k hi hk);have cl:=fun k (hk:k<ak b)=>lj b k (by omega) (fun j hj=>by rw[hrb j hj];exact hk);have hts: ∀i,i<a.length→(eP v a b).take (i+1)=(eP v a b).take i++[(eP v a b).getD i []]:=fun i hi=>mM (by omega)
 have htr: ∀i k,i<a.length→k<ak b→((eP v a b).getD i []).take (k+1)=((eP v a b).getD i []).take k++[fa v (a.getD i []) (eY b k) (a.getD i []).length]:=fun i k hi hk=>by
  rw[mM (d:=[]) (by rw[hzr i (by omega)];exact hk),← zH v a b hi hk];rfl
 have hta:(eP v a b).take a.length=eP v a b:=List.take_of_length_le (by omega);have hra': ∀i,i<a.length→((eP v a b).getD i []).take (ak b)=(eP v a b).getD i []:=fun i hi=>List.take_of_length_le (by rw[hzr i (by omega)];exact ao _);have hrl: ∀i,i<a.length→((eP v a b).getD i []).length=ak b:=fun i hi=>hzr i (by omega);clear hzr ok;generalize eP v a b=zs at *;refine qX 3 rfl ?_;refine qI (qX 2 rfl ?_);refine ab.call tok rfl rfl rfl rfl cc ?_;refine qU 1 rfl ?_;refine qK 1 rfl ?_;refine ab.err tok rfl rfl rfl rfl rfl ?_;refine ab.nil ?_;refine AW.aB rfl ?_
 · skip
   refine AW.skip (AW.seq ?_);refine qX 2 rfl ?_;refine ab.call tok rfl rfl rfl rfl cb ?_;refine qU 1 rfl ?_;refine qK 1 rfl ?_;refine ab.err tok rfl rfl rfl rfl rfl ?_;refine ab.nil ?_;refine AW.aB rfl ?_
   · skip
     refine AW.skip (AW.seq ?_);refine qX 1 rfl ?_;refine ab.call tok rfl rfl rfl rfl (bM a) ?_;refine qU 2 rfl ?_;rw[ae];refine qU 1 rfl ?_;rw[hb,bne_eq_false_iff_eq.2 rfl];refine ab.nil ?_;refine AW.aB rfl ?_
     · skip
       refine AW.skip (qX 1 rfl ?_);refine qI (qX 2 rfl ?_);rw[ae];refine qU 1 rfl ?_;refine ab.nil ?_;refine AW.block ?_;refine AW.aF [2,3,10,35,36,37] (fun i:Nat=>[(2,.d (bh b)),(3,.bx [.sl 1 (v.map ai)]),(10,.ow 22 ((zs.take i).map a8)),(35,.d (bh a)),(36,.d (dI a.length)),(37,.d (dI i))]) (fun i=>i≤a.length) (fun i=>a.length-i) 0 rfl (Nat.zero_le _) (fun i hi=>?_)
       · show AW _ _ _ _ _ _ _ [(2,.d (bh b)),(3,.bx [.sl 1 (v.map ai)]),(10,.ow 22 ((zs.take i).map a8)),(35,.d (bh a)),(36,.d (dI a.length)),(37,.d (dI i))];refine qX 1 rfl ?_;refine qI ?_;refine AW.cond rfl (fun h=>?_) (fun h=>?_)
         · have hii:i<a.length:=by have:=ar h;omega
           have g1:=getM a8 (l:=a) (i:=i) hii;have cd:=fun k=>cd i k hii;have hts:=hts i hii;have htr:=fun k=>htr i k hii;have hra':=hra' i hii;have hrl:=hrl i hii;generalize a.getD i []=r at g1 cd htr;generalize zs.getD i []=z at *;refine AW.skip (AW.seq (AW.block (AW.seq (AW.region ?_))));refine ab.idx tok (a8 r) rfl rfl rfl rfl (aj i) g1 ?_;refine qU 2 rfl ?_;refine qK 1 rfl ?_;refine qI (qX 1 rfl ?_);refine ab.call tok rfl rfl rfl rfl (bM b) ?_;refine qU 1 rfl ?_;refine ab.nil ?_;refine AW.block ?_;refine AW.aF [2,3,10,12,13,35,36,37,42,43] (fun k:Nat=>[(2,.d (bh b)),(3,.bx [.sl 1 (v.map ai)]),(10,.ow 22 ((zs.take i).map a8)),(12,.d (a8 r)),(13,.ow 53 ((z.take k).map ai)),(35,.d (bh a)),(36,.d (dI a.length)),(37,.d (dI i)),(42,.d (dI (ak b))),(43,.d (dI k))]) (fun k=>k≤ak b) (fun k=>ak b-k) 0 rfl (Nat.zero_le _) (fun k hk=>?_)
           · show AW _ _ _ _ _ _ _ [(2,.d (bh b)),(3,.bx [.sl 1 (v.map ai)]),(10,.ow 22 ((zs.take i).map a8)),(12,.d (a8 r)),(13,.ow 53 ((z.take k).map ai)),(35,.d (bh a)),(36,.d (dI a.length)),(37,.d (dI i)),(42,.d (dI (ak b))),(43,.d (dI k))];refine qX 1 rfl ?_;refine qI ?_;refine AW.cond rfl (fun h=>?_) (fun h=>?_)
             · have hkk:k<ak b:=by have:=ar h;omega
               have cd:=cd k hkk;have cl:=cl k hkk;have htr:=htr k hkk;generalize fa v r (eY b k) r.length=x at cd htr;generalize eY b k=cb' at cd cl;refine AW.skip (AW.seq (AW.block ?_));refine qX 2 rfl ?_;refine qI (AW.draw aP 10 (by kernel_rfl) ?_);refine qP 4 rfl ?_;refine af.call tok rfl rfl rfl rfl rfl cl ?_;refine af.call tok rfl rfl rfl rfl rfl cd ?_;refine qP 4 rfl ?_;refine af.nil ?_;refine qU 1 rfl ?_;refine qI (qX 1 rfl ?_);refine ab.err tok rfl rfl rfl rfl rfl ?_;refine ab.nil ?_;refine AW.aB rfl ?_
               · skip
                 refine AW.skip (qT 2 rfl ?_);refine ab.e7 tok rfl rfl rfl rfl rfl ?_;refine ab.gg tok rfl rfl rfl rfl rfl rfl (by rw[ae,aQ];show (_+1)*24≤_;omega) (by rw[ae,aQ];show _+1≤_;omega) ?_;refine qU 1 rfl ?_;refine ab.nil ?_;refine qT 1 rfl ?_;rw[aH (x:=(k:Int)+1) (by omega) (by omega)];refine qU 1 rfl ?_;refine ab.nil ?_;exact⟨k+1,by rw[htr,List.map_append];rfl,hkk,by omega⟩
             have hkk:k=ak b:=by have:=aA h;omega
             subst hkk;rw[hra'];refine AW.exit (AW.region ?_);refine ab.fQ tok 13 rfl rfl ?_;refine qU 2 rfl ?_;refine ab.e7 tok rfl rfl rfl rfl rfl ?_;refine ab.gg tok rfl rfl rfl rfl rfl rfl (by rw[ae,aQ];show (_+1)*24≤_;omega) (by rw[ae,aQ];show _+1≤_;omega) ?_;refine qU 1 rfl ?_;refine ab.nil ?_;refine qT 1 rfl ?_;rw[aH (x:=(i:Int)+1) (by omega) (by omega)];refine qU 1 rfl ?_;refine ab.nil ?_;exact⟨i+1,by rw[hts,List.map_append];rfl,hii,by omega⟩
         have hii:i=a.length:=by have:=aA h;omega
         subst hii;rw[hta];refine AW.exit (AW.seq (AW.region ?_));refine ab.fQ tok 10 rfl rfl ?_;refine qU 3 rfl ?_;exact qN rfl
def Gg(v:List NQ)(a:a9)(e bl:Nat)(b:List NQ):D :=
 if e≠0 then .tu [.sl 1 [],sJ e] else if bl≠a.length then .tu [.sl 1 [],er 10] else
 if atR v (cX v a b) (ak a)<(cX v a b).rows.length then .tu [.sl 1 [],er 16] else if (cX v a b).cols.length<ak a then .tu [.sl 1 [],er 15] else .tu [a8 (jw v a b),aN]
def bE(l:Nat)(b:List (List RD)):Nat:=fE (fun i=>bL l (b.getD i [])) (b.length-0) 0
set_option maxHeartbeats 3200000 in
theorem s4{v:List NQ}{a:a9}{b:List (List RD)}{bq:List NQ}(V:lL v)(cc:Pure Tryz.prog 20 [bA v,bh a] aN)(G:Aw v a)(hbl:b.length≤1000000)(hbn: ∀i,Pure Tryz.prog 67 [bA v,dn (b.getD i [])] (sJ (bL v.length (b.getD i []))))
  (hbq:bE v.length b=0→RwR b=a8 bq) (hlq:bq.length=b.length) (lw:b.length=a.length→kd v.length (cG a bq a.length)) (ok:b.length=a.length→ ∀c,c<ak a→mh v (aJ v (cG a bq a.length) c) c) (oks:b.length=a.length→ ∀i,uK v (aW (cX v a bq).rows i (ak a))):
  Pure Tryz.prog 32 [bA v,bh a,RwR b] (Gg v a (bE v.length b) b.length bq):=by
 refine qJ 122 Tryz.func32 rfl rfl rfl rfl (by kernel_rfl) (fun B F0 w0=>?_);have hGl:=G.l;have hGc:=G.c;obtain ⟨E,hE⟩: ∃E,bE v.length b=E:=⟨_,rfl⟩;rw[hE] at hbq ⊢;unfold bE at hE;unfold Gg;refine qX 3 rfl ?_;refine qI (qX 2 rfl ?_);refine ab.call tok rfl rfl rfl rfl cc ?_;refine qU 1 rfl ?_;refine qK 1 rfl ?_;refine ab.err tok rfl rfl rfl rfl rfl ?_;refine ab.nil ?_;refine AW.aB rfl ?_
 · skip
   refine AW.skip (AW.seq ?_);refine qX 2 rfl ?_;rw[ae];refine qU 1 rfl ?_;refine ab.nil ?_;refine AW.block ?_;refine AW.aF [1,2,3,27,28,29] (fun i:Nat=>[(1,.d (bh a)),(2,.d (RwR b)),(3,.bx [.sl 1 (v.map ai)]),(27,.d (RwR b)),(28,.d (dI b.length)),(29,.d (dI i))]) (fun i=>i≤b.length∧fE (fun i=>bL v.length (b.getD i [])) (b.length-i) i=E) (fun i=>b.length-i) 0 rfl ⟨Nat.zero_le _,hE⟩ (fun i ⟨hi,hiE⟩=>?_)
   · show AW _ _ _ _ _ _ _ [(1,.d (bh a)),(2,.d (RwR b)),(3,.bx [.sl 1 (v.map ai)]),(27,.d (RwR b)),(28,.d (dI b.length)),(29,.d (dI i))];refine qX 1 rfl ?_;refine qI ?_;refine AW.cond rfl (fun h=>?_) (fun h=>?_)
     · have hii:i<b.length:=by have:=ar h;omega
       have g1:=getM dn (l:=b) (i:=i) hii;have cn:=hbn i;have hmiss:=fun h0:bL v.length (b.getD i [])=0=>(ib (f:=fun i=>bL v.length (b.getD i [])) hii h0).symm.trans hiE;have hhit:=fun h0:bL v.length (b.getD i [])≠0=>(j6 (f:=fun i=>bL v.length (b.getD i [])) hii h0).symm.trans hiE;refine AW.skip (AW.seq (AW.block (AW.seq (AW.region ?_))));refine ab.idx tok (dn (b.getD i [])) rfl rfl rfl rfl (aj i) g1 ?_;refine qU 2 rfl ?_;refine qK 2 rfl ?_;refine ab.call tok rfl rfl rfl rfl cn ?_;refine qU 1 rfl ?_;refine ab.nil ?_;generalize bL v.length (b.getD i [])=e at cn hmiss hhit;rcases e with _ | z
       rotate_left
       · have:=hhit (Nat.succ_ne_zero z);subst this;rw[if_pos (Nat.succ_ne_zero z)];refine qX 1 rfl ?_;refine ab.err tok rfl rfl rfl rfl rfl ?_;refine ab.nil ?_;refine AW.aL rfl ?_;refine qX 3 rfl ?_;exact qN rfl
       refine qX 1 rfl ?_;refine ab.err tok rfl rfl rfl rfl rfl ?_;refine ab.nil ?_;refine AW.aB rfl ?_
       · skip
         refine AW.skip (qT 1 rfl ?_);rw[aH (x:=(i:Int)+1) (by omega) (by omega)];refine qU 1 rfl ?_;refine ab.nil ?_;exact⟨i+1,rfl,⟨hii,hmiss rfl⟩,by omega⟩
     have hii: ¬i<b.length:=by have:=aA h;omega
     rw[j7 hii] at hiE;subst hiE;rw[if_neg (by decide)];rw[hbq rfl];refine AW.exit (AW.seq ?_);refine qX 2 rfl ?_;rw[ae];refine qU 2 rfl ?_;rw[ae,hlq];refine qU 1 rfl ?_;refine ab.nil ?_;refine AW.cond rfl (fun h=>?_) (fun h=>?_)
     · rw[if_pos (by have:=bne_iff_ne.1 h;omega)];refine qX 3 rfl ?_;exact qN rfl
     · have hba:b.length=a.length:=by have:=bne_eq_false_iff_eq.1 h;omega
       rw[if_neg (fun g=>g hba)];have lw:=lw hba;have oks:=oks hba;have cr:=gX V (a:=cG a bq a.length) (N:=ak a+1) (most:=ak a) (by rw[iq];omega) (by omega) (by omega) (im G.r bq) lw (ok hba);have R:=gR V (im G.r bq) lw (ak a);have hws:=tR a bq;have hwl:=iq a bq;have hw0:cG a bq 0=[]:=rfl;have hR1:=R.rect;have hR2:=R.lt;have hR3:=R.len;have hR4:=R.cm;have hR5:=R.cl;clear R ok hbn lw;change Pure _ _ _ (.tu [FN (cX v a bq),aN]) at cr;change bm (ak a+1) (cX v a bq).rows at hR1;change kd v.length (cX v a bq).rows at hR2;change (cX v a bq).rows.length=_ at hR3;change (cX v a bq).cols.length≤_ at hR4;change (cX v a bq).cols.length≤_ at hR5;rw[iq] at hR3 hR4;refine AW.skip (qX 1 rfl ?_);refine ab.call tok rfl rfl rfl rfl (bM a) ?_;refine qU 1 rfl ?_;refine qK 1 rfl ?_;refine qI (qX 2 rfl ?_);rw[ae];refine qU 1 rfl ?_;refine ab.nil ?_;refine AW.block ?_;refine AW.aF [2,3,12,13,48,49,50] (fun i:Nat=>[(2,.d (a8 bq)),(3,.bx [.sl 1 (v.map ai)]),(12,.d (dI (ak a))),(13,.ow 22 ((cG a bq i).map a8)),(48,.d (bh a)),(49,.d (dI a.length)),(50,.d (dI i))]) (fun i=>i≤a.length) (fun i=>a.length-i) 0 rfl (Nat.zero_le _) (fun i hi=>?_)
       · show AW _ _ _ _ _ _ _ [(2,.d (a8 bq)),(3,.bx [.sl 1 (v.map ai)]),(12,.d (dI (ak a))),(13,.ow 22 ((cG a bq i).map a8)),(48,.d (bh a)),(49,.d (dI a.length)),(50,.d (dI i))];refine qX 1 rfl ?_;refine qI ?_;refine AW.cond rfl (fun h=>?_) (fun h=>?_)
         · have hii:i<a.length:=by have:=ar h;omega
           have g1:=getM a8 (l:=a) (i:=i) hii;have g2:=getM ai (l:=bq) (i:=i) (by omega);have hrl:(a.getD i []).length≤1000000:=by rw[G.r i hii];omega
           have hws:=hws i;have hwl:=hwl i;generalize a.getD i []=row at g1 hrl hws;generalize bq.getD i []=x at g2 hws;generalize cG a bq i=W at hws hwl ⊢;refine AW.skip (AW.seq (AW.block ?_));refine qX 1 rfl ?_;refine ab.idx tok (a8 row) rfl rfl rfl rfl (aj i) g1 ?_;refine qU 3 rfl ?_;refine ab.nil ?_;refine AZ.aw ?_;refine AZ.any aP (ZH.any (β:=[]) ?_);refine ZH.mv 0 rfl rfl (by kernel_rfl) (by kernel_rfl) (by kernel_rfl) rfl (fun _ _ _ h=>h) (fun _=>rfl) trivial (fun B1 F1 w1=>?_);refine qU 1 rfl ?_;refine ab.nil ⟨rfl,?_⟩;refine ZH.mv 1 rfl rfl (by kernel_rfl) (by kernel_rfl) (by kernel_rfl) rfl (fun _ _ _ h=>h) (fun _=>rfl) trivial (fun B1 F1 w1=>?_);refine qU 1 rfl ?_;refine ab.nil ⟨rfl,?_⟩;refine ZH.mv 3 rfl rfl (by kernel_rfl) (by kernel_rfl) (by kernel_rfl) rfl (fun _ _ _ h=>h) (fun _=>rfl) trivial (fun B1 F1 w1=>?_);refine qU 1 rfl ?_;refine ab.nil ⟨rfl,?_⟩;refine ZH.mv 4 rfl rfl (by kernel_rfl) (by kernel_rfl) (by kernel_rfl) rfl (fun _ _ _ h=>h) (fun _=>rfl) trivial (fun B1 F1 w1=>?_);refine qU 1 rfl ?_;refine ab.nil ⟨rfl,?_⟩;refine ZH.meet 4 (qB 12 255) (fun V=>[(V,et row)]) (fun V=>[(2,.d (a8 bq)),(3,.bx [.sl 1 (v.map ai)]),(12,.d (dI (ak a))),(13,.ow 22 (W.map a8)),(48,.d (bh a)),(49,.d (dI a.length)),(50,.d (dI i)),(55,.al 13),(56,.d (a8 row)),(57,.d (.v V)),(62,.d (.sl 1 [ai x]))]) (fun V=>?_) (fun N1_3=>?_)
           · refine ZH.all 8 (by kernel_rfl) rfl rfl (fun _=>rfl) trivial ?_;refine ah.cT 57 0 rfl rfl rfl ?_;refine ah.to [2,3,12,13,48,49,50,55,57,62] [(2,.d (a8 bq)),(3,.bx [.sl 1 (v.map ai)]),(12,.d (dI (ak a))),(13,.ow 22 (W.map a8)),(48,.d (bh a)),(49,.d (dI a.length)),(50,.d (dI i)),(55,.al 13),(57,.ow 53 (row.map ai)),(62,.d (.sl 1 [ai x]))] rfl ?_;refine ah.cut 1 rfl (fun B1 F1 w1=>?_);refine ab.gg tok rfl rfl rfl rfl rfl rfl (by rw[ae];show (_+1)*24≤_;omega) (by rw[ae];show _+1≤_;omega) ?_;rw[show row.map ai++[ai x]=(row++[x]).map ai by rw[List.map_append];rfl];refine ab.fQ tok 63 rfl rfl ?_;refine ab.nil ⟨rfl,?_⟩;refine ah.nil ?_;refine ZH.to [2,3,12,13,48,49,50,55,63] [(2,.d (a8 bq)),(3,.bx [.sl 1 (v.map ai)]),(12,.d (dI (ak a))),(13,.ow 22 (W.map a8)),(48,.d (bh a)),(49,.d (dI a.length)),(50,.d (dI i)),(55,.al 13),(63,.d (a8 (row++[x])))] rfl trivial ?_;refine ZH.all 9 (by kernel_rfl) rfl rfl (fun _=>rfl) trivial ?_;refine ay (fun B1 F1 w1=>?_);refine ab.e7 tok rfl rfl rfl rfl rfl ?_;refine ab.nil ⟨rfl,?_⟩;refine ZH.to [2,3,12,13,48,49,50,55,64] [(2,.d (a8 bq)),(3,.bx [.sl 1 (v.map ai)]),(12,.d (dI (ak a))),(13,.ow 22 (W.map a8)),(48,.d (bh a)),(49,.d (dI a.length)),(50,.d (dI i)),(55,.al 13),(64,.d (.sl 1 [a8 (row++[x])]))] rfl trivial ?_;refine ZH.all 10 (by kernel_rfl) rfl rfl (fun _=>rfl) trivial ?_;refine ay (fun B1 F1 w1=>?_);refine ab.gg tok rfl rfl rfl rfl rfl rfl (by rw[ae];show (_+1)*24≤_;omega) (by rw[ae];show _+1≤_;omega) ?_;refine ab.nil ⟨rfl,?_⟩;refine ZH.all 11 (by kernel_rfl) rfl rfl (fun _=>rfl) trivial ?_;refine ay (fun B1 F1 w1=>?_);refine qU 1 rfl ?_;refine ab.nil ⟨rfl,?_⟩;refine ZH.done (by kernel_rfl) trivial ?_;show AW _ _ _ _ _ _ _ _;refine AW.bP [2,3,12,48,49,50,13] ?_;show AW _ _ _ _ _ _ _ [(2,.d (a8 bq)),(3,.bx [.sl 1 (v.map ai)]),(12,.d (dI (ak a))),(48,.d (bh a)),(49,.d (dI a.length)),(50,.d (dI i)),(13,.ow 22 (W.map a8++[a8 (row++[x])]))];refine qT 1 rfl ?_;rw[aH (x:=(i:Int)+1) (by omega) (by omega)];refine qU 1 rfl ?_;refine ab.nil ?_;exact⟨i+1,by rw[hws,List.map_append];rfl,hii,by omega⟩
           refine ZH.meet 5 (qB 12 251) (fun V=>[]) (fun V=>[(2,.d (a8 bq)),(3,.bx [.sl 1 (v.map ai)]),(12,.d (dI (ak a))),(13,.ow 22 (W.map a8)),(48,.d (bh a)),(49,.d (dI a.length)),(50,.d (dI i)),(55,.al 13),(56,.d (a8 row)),(62,.d (.sl 1 [ai x]))]) (fun V=>?_) (fun N0_3=>?_)
           · refine ZH.all 2 (by kernel_rfl) rfl rfl (fun _=>rfl) trivial ?_;refine ah.fR tok [] rfl rfl rfl rfl rfl List.nodup_nil rfl (lH row hrl) (fun _ _ _=>Nat.zero_le _) (fun res R1 hP=>?_);obtain ⟨V,rfl,rfl⟩:=hP;refine ah.nil ?_;exact qL (N1_3 V) (by kernel_rfl) rfl trivial
           refine ZH.meet 5 (qB 12 127) (fun V=>[(V,et row)]) (fun V=>[(2,.d (a8 bq)),(3,.bx [.sl 1 (v.map ai)]),(12,.d (dI (ak a))),(13,.ow 22 (W.map a8)),(48,.d (bh a)),(49,.d (dI a.length)),(50,.d (dI i)),(55,.al 13),(56,.d (a8 row)),(57,.d (.v V)),(61,.d (ai x))]) (fun V=>?_) (fun N1_2=>?_)
           · refine ZH.all 7 (by kernel_rfl) rfl rfl (fun _=>rfl) trivial ?_;refine ay (fun B1 F1 w1=>?_);refine ab.e7 tok rfl rfl rfl rfl rfl ?_;refine ab.nil ⟨rfl,?_⟩;exact qL (N1_3 V) (by kernel_rfl) rfl trivial
           refine ZH.meet 6 (qB 12 123) (fun V=>[]) (fun V=>[(2,.d (a8 bq)),(3,.bx [.sl 1 (v.map ai)]),(12,.d (dI (ak a))),(13,.ow 22 (W.map a8)),(48,.d (bh a)),(49,.d (dI a.length)),(50,.d (dI i)),(55,.al 13),(56,.d (a8 row)),(61,.d (ai x))]) (fun V=>?_) (fun N0_2=>?_)
           · refine ZH.two 2 7 (by kernel_rfl) rfl rfl rfl rfl (fun _=>rfl) (fun _=>rfl) trivial ?_ ?_
             · refine ah.fR tok [] rfl rfl rfl rfl rfl List.nodup_nil rfl (lH row hrl) (fun _ _ _=>Nat.zero_le _) (fun res R1 hP=>?_);obtain ⟨V,rfl,rfl⟩:=hP;refine ah.nil ?_;exact qL (N1_2 V) (by kernel_rfl) rfl trivial
             · refine ay (fun B1 F1 w1=>?_);refine ab.e7 tok rfl rfl rfl rfl rfl ?_;refine ab.nil ⟨rfl,?_⟩;exact qL (N0_3 V) (by kernel_rfl) rfl trivial
           refine ZH.meet 6 (qB 12 63) (fun V=>[(V,et row)]) (fun V=>[(2,.d (a8 bq)),(3,.bx [.sl 1 (v.map ai)]),(12,.d (dI (ak a))),(13,.ow 22 (W.map a8)),(48,.d (bh a)),(49,.d (dI a.length)),(50,.d (dI i)),(55,.al 13),(56,.d (a8 row)),(57,.d (.v V)),(60,.rf [ai x])]) (fun V=>?_) (fun N1_1=>?_)
           · refine ZH.all 6 (by kernel_rfl) rfl rfl (fun _=>rfl) trivial ?_;refine ay (fun B1 F1 w1=>?_);refine qU 1 rfl ?_;refine ab.nil ⟨rfl,?_⟩;exact qL (N1_2 V) (by kernel_rfl) rfl trivial
           refine ZH.meet 7 (qB 12 59) (fun V=>[]) (fun V=>[(2,.d (a8 bq)),(3,.bx [.sl 1 (v.map ai)]),(12,.d (dI (ak a))),(13,.ow 22 (W.map a8)),(48,.d (bh a)),(49,.d (dI a.length)),(50,.d (dI i)),(55,.al 13),(56,.d (a8 row)),(60,.rf [ai x])]) (fun V=>?_) (fun N0_1=>?_)
           · refine ZH.two 2 6 (by kernel_rfl) rfl rfl rfl rfl (fun _=>rfl) (fun _=>rfl) trivial ?_ ?_
             · refine ah.fR tok [] rfl rfl rfl rfl rfl List.nodup_nil rfl (lH row hrl) (fun _ _ _=>Nat.zero_le _) (fun res R1 hP=>?_);obtain ⟨V,rfl,rfl⟩:=hP;refine ah.nil ?_;exact qL (N1_1 V) (by kernel_rfl) rfl trivial
             · refine ay (fun B1 F1 w1=>?_);refine qU 1 rfl ?_;refine ab.nil ⟨rfl,?_⟩;exact qL (N0_2 V) (by kernel_rfl) rfl trivial
           refine ZH.meet 7 (qB 12 31) (fun V=>[(V,et row)]) (fun V=>[(2,.d (a8 bq)),(3,.bx [.sl 1 (v.map ai)]),(12,.d (dI (ak a))),(13,.ow 22 (W.map a8)),(48,.d (bh a)),(49,.d (dI a.length)),(50,.d (dI i)),(55,.al 13),(56,.d (a8 row)),(57,.d (.v V)),(58,.d (a8 bq)),(59,.d (dI i))]) (fun V=>?_) (fun N1_0=>?_)
           · refine ZH.all 5 (by kernel_rfl) rfl rfl (fun _=>rfl) trivial ?_;refine ay (fun B1 F1 w1=>?_);refine ab.idx tok (ai x) rfl rfl rfl rfl (aj i) g2 ?_;refine ab.nil ⟨rfl,?_⟩;exact qL (N1_1 V) (by kernel_rfl) rfl trivial
           refine ZH.meet 8 (qB 12 27) (fun V=>[]) (fun V=>[(2,.d (a8 bq)),(3,.bx [.sl 1 (v.map ai)]),(12,.d (dI (ak a))),(13,.ow 22 (W.map a8)),(48,.d (bh a)),(49,.d (dI a.length)),(50,.d (dI i)),(55,.al 13),(56,.d (a8 row)),(58,.d (a8 bq)),(59,.d (dI i))]) (fun V=>?_) (fun N0_0=>?_)
           · refine ZH.two 2 5 (by kernel_rfl) rfl rfl rfl rfl (fun _=>rfl) (fun _=>rfl) trivial ?_ ?_
             · refine ah.fR tok [] rfl rfl rfl rfl rfl List.nodup_nil rfl (lH row hrl) (fun _ _ _=>Nat.zero_le _) (fun res R1 hP=>?_);obtain ⟨V,rfl,rfl⟩:=hP;refine ah.nil ?_;exact qL (N1_0 V) (by kernel_rfl) rfl trivial
             · refine ay (fun B1 F1 w1=>?_);refine ab.idx tok (ai x) rfl rfl rfl rfl (aj i) g2 ?_;refine ab.nil ⟨rfl,?_⟩;exact qL (N0_1 V) (by kernel_rfl) rfl trivial
           exact qL (N0_0 gu) (by kernel_rfl) rfl trivial
         have hii:i=a.length:=by have:=aA h;omega
         subst hii;refine AW.exit (AW.seq (AW.region ?_));refine ab.fQ tok 13 rfl rfl ?_;refine qU 3 rfl ?_;refine ab.call tok rfl rfl rfl rfl cr ?_;refine qU 6 rfl ?_;clear hws hwl hw0 hbq;have hX:=mQ v a bq
         have hXt: ∀k,k<ak a→(jw v a bq).take (k+1)=(jw v a bq).take k++[aW (cX v a bq).rows k (ak a)]:=fun k hk=>by
          rw[mM (d:=[]) (by omega),y4 v a bq hk]
         have hXa:(jw v a bq).take (ak a)=jw v a bq:=List.take_of_length_le (by omega);unfold atR;generalize jw v a bq=X at *;generalize cX v a bq=s at *;obtain ⟨rows,cols,sg,fj⟩:=s
         dsimp only at *
         obtain ⟨A,hA⟩: ∃A,gf (yH v rows (ak a)) (rows.length-cols.length) cols.length=A:=⟨_,rfl⟩;rw[hA];refine qI (qX 1 rfl ?_);refine ab.err tok rfl rfl rfl rfl rfl ?_;refine ab.nil ?_;refine AW.aB rfl ?_
         · skip
           refine AW.skip (AW.seq ?_);refine qX 3 rfl ?_;rw[ae];refine qU 1 rfl ?_;refine ab.nil ?_;refine AW.block ?_;refine AW.aF [3,12,16,18] (fun i:Nat=>[(3,.bx [.sl 1 (v.map ai)]),(12,.d (dI (ak a))),(16,.bx [bh rows,tf cols,dI sg,ai fj]),(18,.d (dI i))]) (fun i=>i≤rows.length∧gf (yH v rows (ak a)) (rows.length-i) i=A) (fun i=>rows.length-i) cols.length rfl ⟨by omega,hA⟩ (fun i ⟨hi,hiA⟩=>?_)
           · show AW _ _ _ _ _ _ _ [(3,.bx [.sl 1 (v.map ai)]),(12,.d (dI (ak a))),(16,.bx [bh rows,tf cols,dI sg,ai fj]),(18,.d (dI i))];refine AW.seq (qX 4 rfl ?_);rw[ae];refine qU 1 rfl ?_;refine ab.nil ?_;refine AW.cond rfl (fun h=>?_) (fun h=>?_)
             · have hii:i<rows.length:=by have:=ar h;omega
               have g1:=getM a8 (l:=rows) (i:=i) hii;have g2:=getM ai (l:=rows.getD i []) (i:=ak a) (by rw[hR1 i hii];omega);have cs:=jW V (hR2 i (ak a)) (oks i);have hhit:=np (g:=yH v rows (ak a)) hii;have hmiss:=lA (g:=yH v rows (ak a)) hii;have hnz:yH v rows (ak a) i=decide (jI v (aW rows i (ak a))≠0):=rfl;rw[hnz] at hhit hmiss;unfold aW at cs hhit hmiss;generalize rows.getD i []=row at g1 g2 cs hhit hmiss;generalize row.getD (ak a) []=x at g2 cs hhit hmiss;generalize jI v x=z at cs hhit hmiss;refine AW.skip (AW.seq (AW.block (AW.seq ?_)));refine AW.draw aP 11 (by kernel_rfl) ?_;refine qP 4 rfl ?_;refine af.idx tok (a8 row) rfl rfl rfl rfl rfl (aj i) g1 ?_;refine qP 2 rfl ?_;refine af.idx tok (ai x) rfl rfl rfl rfl rfl (aj _) g2 ?_;refine qP 1 rfl ?_;refine af.call tok rfl rfl rfl rfl rfl cs ?_;refine qP 1 rfl ?_;refine af.nil ?_;refine ab.nil ?_;refine AW.cond rfl (fun h=>?_) (fun h=>?_)
               · have hz:z≠0:=by have:=bne_iff_ne.1 h;exact this
                 have hAi:A=i:=by rw[← hiA];exact hhit (aV hz)
                 rw[if_pos (by omega)];refine qX 3 rfl ?_;exact qN rfl
               · have hz:z=0:=by have:=bne_eq_false_iff_eq.1 h;exact this
                 refine AW.skip (qT 2 rfl ?_);rw[aH (x:=(i:Int)+1) (by omega) (by omega)];refine qU 1 rfl ?_;refine ab.nil ?_;exact⟨i+1,rfl,⟨hii,by rw[← hmiss (aT (fun g=>g hz))];exact hiA⟩,by omega⟩
             have hii: ¬i<rows.length:=by have:=aA h;omega
             have hAi:A=i:=by rw[← hiA,nq hii]
             rw[if_neg (by omega)];refine AW.exit (AW.seq ?_);refine qX 3 rfl ?_;rw[ae];refine qU 2 rfl ?_;refine ab.nil ?_;refine AW.cond rfl (fun h=>?_) (fun h=>?_)
             · rw[if_pos (by have:=ar h;omega)];refine qX 3 rfl ?_;exact qN rfl
             · have hcn: ¬cols.length<ak a:=by have:=aA h;omega
               rw[if_neg hcn];refine AW.skip (qX 1 rfl ?_);refine qI (qX 2 rfl ?_);refine ab.nil ?_;refine AW.block ?_;refine AW.aF [12,16,19,105,106] (fun k:Nat=>[(12,.d (dI (ak a))),(16,.bx [bh rows,tf cols,dI sg,ai fj]),(19,.ow 53 ((X.take k).map ai)),(105,.d (dI (ak a))),(106,.d (dI k))]) (fun k=>k≤ak a) (fun k=>ak a-k) 0 rfl (Nat.zero_le _) (fun k hk=>?_)
               · show AW _ _ _ _ _ _ _ [(12,.d (dI (ak a))),(16,.bx [bh rows,tf cols,dI sg,ai fj]),(19,.ow 53 ((X.take k).map ai)),(105,.d (dI (ak a))),(106,.d (dI k))];refine qX 1 rfl ?_;refine qI ?_;refine AW.cond rfl (fun h=>?_) (fun h=>?_)
                 · have hkk:k<ak a:=by have:=ar h;omega
                   have g1:=getM a8 (l:=rows) (i:=k) (by omega);have g2:=getM ai (l:=rows.getD k []) (i:=ak a) (by rw[hR1 k (by omega)];omega);have hXt:=hXt k hkk;unfold aW at hXt;generalize rows.getD k []=row at g1 g2 hXt;generalize row.getD (ak a) []=x at g2 hXt;refine AW.skip (AW.seq (AW.block ?_));refine qX 2 rfl ?_;refine ab.nil ?_;refine qT 4 rfl ?_;refine ab.idx tok (a8 row) rfl rfl rfl rfl (aj k) g1 ?_;refine qU 2 rfl ?_;refine ab.idx tok (ai x) rfl rfl rfl rfl (aj _) g2 ?_;refine qU 1 rfl ?_;refine ab.e7 tok rfl rfl rfl rfl rfl ?_;refine ab.gg tok rfl rfl rfl rfl rfl rfl (by rw[ae,aQ];show (_+1)*24≤_;omega) (by rw[ae,aQ];show _+1≤_;omega) ?_;refine qU 1 rfl ?_;refine ab.nil ?_;refine qT 1 rfl ?_;rw[aH (x:=(k:Int)+1) (by omega) (by omega)];refine qU 1 rfl ?_;refine ab.nil ?_;exact⟨k+1,by rw[hXt,List.map_append];rfl,hkk,by omega⟩
                 have hkk:k=ak a:=by have:=aA h;omega
                 subst hkk;rw[hXa];refine AW.exit (AW.seq (AW.region ?_));refine ab.fQ tok 19 rfl rfl ?_;refine qU 3 rfl ?_;exact qN rfl
end Lift
namespace Lift
open Go Go.Proofs
theorem sf{rt b:List (List RD)}(hbl:b.length≤1000000)(hbn: ∀i,Pure Tryz.prog 37 [dI rt.length,dn (b.getD i [])] (dI (bL rt.length (b.getD i [])))):
  Pure Tryz.prog 70 [TrD rt,RwR b] (dI (fE (fun i=>bL rt.length (b.getD i [])) (b.length-0) 0)):=by
 refine qJ 23 Tryz.func70 rfl rfl rfl rfl (by kernel_rfl) (fun B F0 w0=>?_);obtain ⟨E,hE⟩: ∃E,fE (fun i=>bL rt.length (b.getD i [])) (b.length-0) 0=E:=⟨_,rfl⟩;rw[hE];refine qX 2 rfl ?_;refine qI (qX 2 rfl ?_);rw[ae];refine qU 1 rfl ?_;refine ab.nil ?_;refine AW.block ?_;refine AW.aF [2,8,9,10] (fun i:Nat=>[(2,.bx [.sl 1 (rt.map dn)]),(8,.d (RwR b)),(9,.d (dI b.length)),(10,.d (dI i))]) (fun i=>i≤b.length∧fE (fun i=>bL rt.length (b.getD i [])) (b.length-i) i=E) (fun i=>b.length-i) 0 rfl ⟨Nat.zero_le _,hE⟩ (fun i ⟨hi,hiE⟩=>?_)
 · show AW _ _ _ _ _ _ _ [(2,.bx [.sl 1 (rt.map dn)]),(8,.d (RwR b)),(9,.d (dI b.length)),(10,.d (dI i))];refine qX 1 rfl ?_;refine qI ?_;refine AW.cond rfl (fun h=>?_) (fun h=>?_)
   · have hii:i<b.length:=by have:=ar h;omega
     have g1:=getM dn (l:=b) (i:=i) hii;have cn:=hbn i;have hmiss:=fun h0:bL rt.length (b.getD i [])=0=>(ib (f:=fun i=>bL rt.length (b.getD i [])) hii h0).symm.trans hiE;have hhit:=fun h0:bL rt.length (b.getD i [])≠0=>(j6 (f:=fun i=>bL rt.length (b.getD i [])) hii h0).symm.trans hiE;refine AW.skip (AW.seq (AW.block (AW.seq (AW.region ?_))));refine ab.idx tok (dn (b.getD i [])) rfl rfl rfl rfl (aj i) g1 ?_;refine qU 2 rfl ?_;refine qK 3 rfl ?_;rw[ae];refine qU 1 rfl ?_;refine ab.call tok rfl rfl rfl rfl cn ?_;refine qU 1 rfl ?_;refine qK 2 rfl ?_;refine ab.nil ?_;generalize bL rt.length (b.getD i [])=e at *;refine AW.cond rfl (fun h=>?_) (fun h=>?_)
     · have he:e≠0:=by have:=bne_iff_ne.1 h;omega
       rw[← hhit he];refine qX 2 rfl ?_;exact qN rfl
     · have he:e=0:=by have:=bne_eq_false_iff_eq.1 h;omega
       refine AW.skip (qT 1 rfl ?_);rw[aH (x:=(i:Int)+1) (by omega) (by omega)];refine qU 1 rfl ?_;refine ab.nil ?_;exact⟨i+1,rfl,⟨hii,hmiss he⟩,by omega⟩
   have hii: ¬i<b.length:=by have:=aA h;omega
   rw[j7 hii] at hiE;subst hiE;refine AW.exit ?_;refine qX 1 rfl ?_;exact qN rfl
theorem zf{rt:List (List RD)}(h0:dm rt=0)(r:List (List RD)):kK rt r=fE (fun i=>bL rt.length (r.getD i [])) (r.length-0) 0:=by
 unfold kK;rw[show (fun k=>qG rt [r.getD k []])=fun i=>bL rt.length (r.getD i []) from funext fun k=>CG h0 _]
theorem pT{rt:List (List RD)}{a:List (List (List RD))}(h0:dm rt=0)(hal:a.length≤1000000)(har: ∀i,(a.getD i []).length≤1000000)(hbn: ∀i k,Pure Tryz.prog 37 [dI rt.length,dn ((a.getD i []).getD k [])] (dI (bL rt.length ((a.getD i []).getD k [])))):
  Pure Tryz.prog 57 [TrD rt,MxR a] (dI (sY rt a)):=by
 refine qJ 52 Tryz.func57 rfl rfl rfl rfl (by kernel_rfl) (fun B F0 w0=>?_);unfold sY;obtain ⟨E,hE⟩: ∃E,fE (wX a) (a.length-0) 0=E:=⟨_,rfl⟩;obtain ⟨G,hG⟩: ∃G,fE (fun i=>kK rt (a.getD i [])) (a.length-0) 0=G:=⟨_,rfl⟩;rw[hE,hG];have hc0:ak a=(a.getD 0 []).length:=rfl;have hcl:=har 0;refine qX 2 rfl ?_;refine ab.nil ?_;refine AW.cut [1,2] (fun _:Unit=>[(1,.d (MxR a)),(2,.bx [.sl 1 (rt.map dn)])]) (fun _=>(if a.length=0 then 0 else if 32<a.length∨32<ak a then 4 else if E≠0 then E else G)=if E≠0 then E else G) ?_ (fun _ hr=>?_)
 · refine qX 2 rfl ?_;rw[ae];refine qU 1 rfl ?_;by_cases h1:32<a.length
   · rw[aV (show (32:Int)<(a.length:Int) by omega),if_neg (show ¬a.length=0 by omega),if_pos (.inl h1)];refine qU 12 rfl ?_;refine ab.nil ?_;refine AW.aL rfl ?_;refine qX 1 rfl ?_;exact qN rfl
   rw[aT (show ¬(32:Int)<(a.length:Int) by omega)];refine qU 3 rfl ?_;rw[ae];refine qU 1 rfl ?_;by_cases h0:a.length=0
   · rw[aT (show ¬(0:Int)<(a.length:Int) by omega)];refine qU 8 rfl ?_;refine ab.nil ?_;refine AW.aB rfl ?_;refine AW.skip ?_;refine⟨(),rfl,?_⟩;have e1:E=0:=by rw[← hE,h0];rfl
     have e2:G=0:=by rw[← hG,h0];rfl
     rw[if_pos h0,e1,e2,if_neg (by decide)]
   rw[aV (show (0:Int)<(a.length:Int) by omega)];have g0:=getM RwR (l:=a) (i:=0) (by omega);refine qU 2 rfl ?_;refine ab.idx tok (RwR (a.getD 0 [])) rfl rfl rfl rfl (Int.le_refl _) g0 ?_;refine qU 2 rfl ?_;rw[ae];refine qU 1 rfl ?_;by_cases h2:32<ak a
   · rw[aV (show (32:Int)<((a.getD 0 []).length:Int) by omega),if_neg h0,if_pos (.inr h2)];refine qU 2 rfl ?_;refine ab.nil ?_;refine AW.aL rfl ?_;refine qX 1 rfl ?_;exact qN rfl
   rw[aT (show ¬(32:Int)<((a.getD 0 []).length:Int) by omega)];refine qU 2 rfl ?_;refine ab.nil ?_;refine AW.aB rfl ?_;refine AW.skip ?_;exact⟨(),rfl,by rw[if_neg h0,if_neg (fun g=>g.elim h1 h2)]⟩
 rw[hr]
 · show AW _ _ _ _ _ _ _ [(1,.d (MxR a)),(2,.bx [.sl 1 (rt.map dn)])];refine AW.seq (qX 2 rfl ?_);rw[ae];refine qU 1 rfl ?_;refine ab.nil ?_;refine AW.block ?_;refine AW.aF [1,2,25,26,27] (fun i:Nat=>[(1,.d (MxR a)),(2,.bx [.sl 1 (rt.map dn)]),(25,.d (MxR a)),(26,.d (dI a.length)),(27,.d (dI i))]) (fun i=>i≤a.length∧fE (wX a) (a.length-i) i=E) (fun i=>a.length-i) 0 rfl ⟨Nat.zero_le _,hE⟩ (fun i ⟨hi,hiE⟩=>?_)
   · show AW _ _ _ _ _ _ _ [(1,.d (MxR a)),(2,.bx [.sl 1 (rt.map dn)]),(25,.d (MxR a)),(26,.d (dI a.length)),(27,.d (dI i))];refine qX 1 rfl ?_;refine qI ?_;refine AW.cond rfl (fun h=>?_) (fun h=>?_)
     · have hii:i<a.length:=by have:=ar h;omega
       have hg:=getM RwR (l:=a) (i:=i) hii;have g0:=getM RwR (l:=a) (i:=0) (by omega);have hri:=har i;have hmiss:=fun h0:wX a i=0=>(ib hii h0).symm.trans hiE;have hhit:=fun h0:wX a i≠0=>(j6 hii h0).symm.trans hiE;refine AW.skip (AW.seq (AW.block (AW.seq (AW.region ?_))));refine ab.idx tok (RwR (a.getD i [])) rfl rfl rfl rfl (aj i) hg ?_;refine qU 2 rfl ?_;refine qK 2 rfl ?_;rw[ae];refine qU 1 rfl ?_;refine ab.idx tok (RwR (a.getD 0 [])) rfl rfl rfl rfl (Int.le_refl _) g0 ?_;refine qU 2 rfl ?_;rw[ae];refine qU 1 rfl ?_;refine ab.nil ?_;refine AW.cond rfl (fun h=>?_) (fun h=>?_)
       · have hne:(a.getD i []).length≠ak a:=by have:=bne_iff_ne.1 h;omega
         have e:wX a i=10:=if_pos hne;have:=hhit (by rw[e];decide);rw[e] at this;subst this;rw[if_pos (by decide)];refine qX 1 rfl ?_;exact qN rfl
       · have heq:(a.getD i []).length=ak a:=by have:=bne_eq_false_iff_eq.1 h;omega
         have e:wX a i=0:=if_neg (fun h=>h heq);refine AW.skip (qT 1 rfl ?_);rw[aH (x:=(i:Int)+1) (by omega) (by omega)];refine qU 1 rfl ?_;refine ab.nil ?_;exact⟨i+1,rfl,⟨hii,hmiss e⟩,by omega⟩
     have hii: ¬i<a.length:=by have:=aA h;omega
     rw[j7 hii] at hiE;subst hiE;rw[if_neg (by decide)];refine AW.exit (AW.seq ?_);refine qX 2 rfl ?_;rw[ae];refine qU 1 rfl ?_;refine ab.nil ?_;refine AW.block ?_;refine AW.aF [2,39,40,41] (fun i:Nat=>[(2,.bx [.sl 1 (rt.map dn)]),(39,.d (MxR a)),(40,.d (dI a.length)),(41,.d (dI i))]) (fun i=>i≤a.length∧fE (fun i=>kK rt (a.getD i [])) (a.length-i) i=G) (fun i=>a.length-i) 0 rfl ⟨Nat.zero_le _,hG⟩ (fun i ⟨hi,hiG⟩=>?_)
     · show AW _ _ _ _ _ _ _ [(2,.bx [.sl 1 (rt.map dn)]),(39,.d (MxR a)),(40,.d (dI a.length)),(41,.d (dI i))];refine qX 1 rfl ?_;refine qI ?_;refine AW.cond rfl (fun h=>?_) (fun h=>?_)
       · have hii:i<a.length:=by have:=ar h;omega
         have hg:=getM RwR (l:=a) (i:=i) hii;have cl:=sf (har i) (hbn i);rw[← zf h0] at cl;have hmiss:=fun h0:kK rt (a.getD i [])=0=>(ib (f:=fun i=>kK rt (a.getD i [])) hii h0).symm.trans hiG;have hhit:=fun h0:kK rt (a.getD i [])≠0=>(j6 (f:=fun i=>kK rt (a.getD i [])) hii h0).symm.trans hiG;refine AW.skip (AW.seq (AW.block (AW.seq (AW.region ?_))));refine ab.idx tok (RwR (a.getD i [])) rfl rfl rfl rfl (aj i) hg ?_;refine qU 2 rfl ?_;refine qK 2 rfl ?_;refine ab.call tok rfl rfl rfl rfl cl ?_;refine qU 1 rfl ?_;refine qK 2 rfl ?_;refine ab.nil ?_;generalize kK rt (a.getD i [])=e at *;refine AW.cond rfl (fun h=>?_) (fun h=>?_)
         · have he:e≠0:=by have:=bne_iff_ne.1 h;omega
           rw[← hhit he];refine qX 2 rfl ?_;exact qN rfl
         · have he:e=0:=by have:=bne_eq_false_iff_eq.1 h;omega
           refine AW.skip (qT 1 rfl ?_);rw[aH (x:=(i:Int)+1) (by omega) (by omega)];refine qU 1 rfl ?_;refine ab.nil ?_;exact⟨i+1,rfl,⟨hii,hmiss he⟩,by omega⟩
       have hii: ¬i<a.length:=by have:=aA h;omega
       rw[j7 hii] at hiG;subst hiG;refine AW.exit ?_;refine qX 1 rfl ?_;exact qN rfl
theorem xP{m:Nat}{rt:List (List RD)}{a:List (List (List RD))}(T:IM m rt)(A:FO m rt a):Pure Tryz.prog 21 [TrD rt,MxR a] (dI (mA rt a)):=by
 refine qJ 14 Tryz.func21 rfl rfl rfl rfl (by kernel_rfl) (fun B F0 w0=>?_);have hm:=T.m2;have cc:=pY rt T.w T.m1 T.l T.ll T.ok;have cw:=fun h0:dm rt=0=>pT h0 A.l A.r (fun i k=>fZ rt.length ((a.getD i []).getD k []) (kc h0).1 (A.n i k).w (by omega) (A.n i k).l);unfold mA;refine qX 2 rfl ?_;refine qI (qX 1 rfl ?_);refine ab.call tok rfl rfl rfl rfl cc ?_;refine qU 1 rfl ?_;refine qK 2 rfl ?_;refine ab.nil ?_;generalize dm rt=e at *;refine AW.cond rfl (fun h=>?_) (fun h=>?_)
 · have he:e≠0:=by have:=bne_iff_ne.1 h;omega
   rw[if_pos he];refine qX 2 rfl ?_;exact qN rfl
 · have he:e=0:=by have:=bne_eq_false_iff_eq.1 h;omega
   rw[if_neg (fun g=>g he)];refine AW.skip (qX 2 rfl ?_);refine ab.call tok rfl rfl rfl rfl (cw he) ?_;refine qU 1 rfl ?_;exact qN rfl
end Lift
namespace Lift
open Go Go.Proofs
theorem Dh{a b:List Nat}(h:a.length=b.length)(hk: ∀k,k<a.length→a.getD k 0=b.getD k 0):a=b:=by
 refine List.ext_getElem h fun i h1 h2=>?_;have:=hk i h1
 rwa [aG,bg h1,aG,bg h2] at this
theorem wF(a b:List Nat)(ha:a.length≤1000000):Pure Tryz.prog 23 [tf a,tf b] (dB (decide (a=b))):=by
 refine qJ 26 Tryz.func23 rfl rfl rfl rfl (by kernel_rfl) (fun B F0 w0=>?_);refine qX 1 rfl ?_;refine qI (qX 5 rfl ?_);rw[ae,ae];refine ab.nil ?_;refine AW.cond rfl (fun h=>?_) (fun h=>?_)
 · have hne:a≠b:=by rintro rfl;simp at h
   rw[aT hne];refine qX 1 rfl ?_;exact qN rfl
 · have hlen:a.length=b.length:=by
    have:(a.length:Int)=b.length:=by simpa using h
    omega
   refine AW.skip (AW.seq ?_);refine qX 1 rfl ?_;refine ab.nil ?_;refine AW.block ?_;refine AW.aF [0,1,5] (fun i:Nat=>[(0,.d (tf a)),(1,.d (tf b)),(5,.d (dI i))]) (fun i=>i≤a.length∧ ∀k,k<i→a.getD k 0=b.getD k 0) (fun i=>a.length-i) 0 rfl ⟨Nat.zero_le _,fun k hk=>by omega⟩ (fun i ⟨hi,hI⟩=>?_)
   · show AW _ _ _ _ _ _ _ [(0,.d (tf a)),(1,.d (tf b)),(5,.d (dI i))];refine AW.seq (qX 3 rfl ?_);rw[ae];refine qU 1 rfl ?_;refine ab.nil ?_;refine AW.cond rfl (fun h=>?_) (fun h=>?_)
     · have hin:i<a.length:=by have:=ar h;omega
       refine AW.skip (AW.seq (AW.block (AW.seq ?_)));refine AW.draw aP 9 (by kernel_rfl) ?_;refine qP 2 rfl ?_;refine af.idx tok (dI (a.getD i 0)) rfl rfl rfl rfl rfl (aj i) (Cu hin) ?_;refine qP 3 rfl ?_;refine af.idx tok (dI (b.getD i 0)) rfl rfl rfl rfl rfl (aj i) (Cu (by omega)) ?_;refine qP 2 rfl ?_;refine af.nil ?_;refine ab.nil ?_;refine AW.cond rfl (fun h=>?_) (fun h=>?_)
       · have hne:a≠b:=by rintro rfl;simp at h
         rw[aT hne];refine qX 1 rfl ?_;exact qN rfl
       · have he:a.getD i 0=b.getD i 0:=by have:((a.getD i 0:Nat):Int)=(b.getD i 0:Nat):=bne_eq_false_iff_eq.1 h;omega
         refine AW.skip (qT 2 rfl ?_);rw[aH (x:=(i:Int)+1) (by omega) (by omega)];refine qU 1 rfl ?_;refine ab.nil ?_;refine⟨i+1,rfl,⟨hin,fun k hk=>?_⟩,by omega⟩;rcases Nat.lt_or_ge k i with e | e
         · exact hI k e
         · rw[show k=i by omega];exact he
     have hin: ¬i<a.length:=by have:=aA h;omega
     have hab:a=b:=Dh hlen (fun k hk=>hI k (by omega));rw[aV hab];refine AW.exit ?_;refine qX 1 rfl ?_;exact qN rfl
theorem AN{v:List NQ}{a b:NQ}(V:lL v)(ha:aC v.length a)(hb:aC v.length b)(sa:my a)(sb:my b)(ok:uK v (aS a (aK b))):Pure Tryz.prog 45 [bA v,ai a,ai b] (.tu [dI (jI v (aS a (aK b))),aN]):=by
 refine qJ 23 Tryz.func45 rfl rfl rfl rfl (by kernel_rfl) (fun B0 F0 w0=>?_);have hl5:=V.l5;have hro:=V.ro;have cc:=nu V ha sa hb sb;have c0:=fm b sb (by omega) (Nat.le_trans (hb.len (by omega)) (by decide));have c1:=dL a (aK b) sa sb.minus (by omega) (Nat.le_trans (ha.len (by omega)) (by decide)) (Nat.le_trans (hb.minus.len (by omega)) (by decide));have c2:=dY v.length (ha.plus hb.minus) hl5 hro (ao _) (by omega) ok;refine qX 3 rfl ?_;refine qI (qX 3 rfl ?_);refine ab.e7 tok rfl rfl rfl rfl rfl ?_;refine ab.call tok rfl rfl rfl rfl cc ?_;refine qU 1 rfl ?_;refine qK 1 rfl ?_;refine ab.err tok rfl rfl rfl rfl rfl ?_;refine ab.nil ?_;refine AW.aB rfl ?_
 · skip
   refine AW.skip (AW.seq ?_);refine AW.draw aP 6 (by kernel_rfl) ?_;refine qP 3 rfl ?_;refine af.call tok rfl rfl rfl rfl rfl c0 ?_;refine af.call tok rfl rfl rfl rfl rfl c1 ?_;refine af.call tok rfl rfl rfl rfl rfl c2 ?_;refine af.nil ?_;refine qU 2 rfl ?_;exact qN rfl
theorem u5{v:List NQ}{a:NQ}(V:lL v)(ha:aC v.length a)(ok:uK v a):Pure Tryz.prog 67 [bA v,ai a] aN:=by
 refine qJ 14 Tryz.func67 rfl rfl rfl rfl (by kernel_rfl) (fun B0 F0 w0=>?_);have c:=rY V ha ok;refine qX 2 rfl ?_;refine qK 2 rfl ?_;refine ab.call tok rfl rfl rfl rfl c ?_;refine qU 5 rfl ?_;refine qK 2 rfl ?_;exact qN rfl
theorem sC(l:List Int)(hl:l.length≤1000)(hb: ∀i, -1000≤l.getD i 0∧l.getD i 0≤1000):Pure Tryz.prog 44 [.sl 1 (l.map (fun n=>dI n))] (ai (l.map (fun n:Int=>(n:Rat)))):=by
 refine qJ 19 Tryz.func44 rfl rfl rfl rfl (by kernel_rfl) (fun B0 F0 w0=>?_);have hg: ∀i,i<l.length→(l.map (fun n:Int=>dI n))[i]?=some (dI (l.getD i 0)):=fun i hi=>by simp[hi]
 have hts: ∀i,i<l.length→(l.map (fun n:Int=>(n:Rat))).take (i+1)=(l.map (fun n:Int=>(n:Rat))).take i++[((l.getD i 0:Int):Rat)]:=fun i hi=>by
  rw[mM (d:=0) (by rw[ae];exact hi)]
  congr 2
  rw[aG,List.getElem?_map,aG,bg hi];rfl
 have hta:(l.map (fun n:Int=>(n:Rat))).take l.length=l.map (fun n:Int=>(n:Rat)):=List.take_of_length_le (by rw[ae];exact ao _);generalize l.map (fun n:Int=>(n:Rat))=zs at *;refine qX 1 rfl ?_;refine qK 1 rfl ?_;refine qI (qX 2 rfl ?_);rw[ae];refine qU 1 rfl ?_;refine ab.nil ?_;refine AW.block ?_;refine AW.aF [3,6,7,8] (fun i:Nat=>[(3,.ow 111 (eC (zs.take i))),(6,.d (.sl 1 (l.map (fun n=>dI n)))),(7,.d (dI l.length)),(8,.d (dI i))]) (fun i=>i≤l.length) (fun i=>l.length-i) 0 rfl (Nat.zero_le _) (fun i hi=>?_)
 · show AW _ _ _ _ _ _ _ [(3,.ow 111 (eC (zs.take i))),(6,.d (.sl 1 (l.map (fun n=>dI n)))),(7,.d (dI l.length)),(8,.d (dI i))];refine qX 1 rfl ?_;refine qI ?_;refine AW.cond rfl (fun h=>?_) (fun h=>?_)
   · have hii:i<l.length:=by have:=ar h;omega
     have g1:=hg i hii;have hts:=hts i hii;have hb:=hb i;have c:=nO (l.getD i 0) (by omega) (by omega);generalize l.getD i 0=x at *;refine AW.skip (AW.seq (AW.block (AW.seq (AW.region ?_))));refine ab.idx tok (dI x) rfl rfl rfl rfl (aj i) g1 ?_;refine qU 2 rfl ?_;refine ab.nil ?_;refine qT 2 rfl ?_;refine ab.call tok rfl rfl rfl rfl c ?_;refine ab.e7 tok rfl rfl rfl rfl rfl ?_;refine ab.gg tok rfl rfl rfl rfl rfl rfl (by rw[ae,aQ];show (_+1)*56≤_;omega) (by rw[ae,aQ];show _+1≤_;omega) ?_;refine qU 1 rfl ?_;refine ab.nil ?_;refine qT 1 rfl ?_;rw[aH (x:=(i:Int)+1) (by omega) (by omega)];refine qU 1 rfl ?_;refine ab.nil ?_;exact⟨i+1,by rw[hts,show eC (zs.take i++[(x:Rat)])=eC (zs.take i)++[(Qr (x:Rat)).D] from List.map_append ..];rfl,hii,by omega⟩
   have hii:i=l.length:=by have:=aA h;omega
   subst hii;rw[hta];refine AW.exit (AW.seq (AW.region ?_));refine ab.fQ tok 3 rfl rfl ?_;refine qU 2 rfl ?_;exact qN rfl
def kT(r:RD):Bool:=match r.n,r.d with
 | [],[]=>true
 | [x],[]=>decide (x≤1000)
 | [],[y]=>decide (y≤12)
 | [x],[y]=>decide (x≤1000)&&decide (y≤12)
 | _,_=>false
theorem DN{r:RD}(h:kT r=true):r.n.length≤1∧r.d.length≤1:=by
 obtain ⟨g,n,d⟩:=r;unfold kT at h;rcases n with _ | ⟨x,_ | ⟨x2,n⟩⟩<;>rcases d with _ | ⟨y,_ | ⟨y2,d⟩⟩<;>first | (simp at h;done) | (refine⟨?_,?_⟩<;>simp)
theorem wz(r:RD){k:Nat}(hw:r.w k)(hk:k≤1000000000000000):Pure Tryz.prog 66 [r.D,.v (.int .u32 1000),.v (.int .u32 12)] (dB (kT r)):=by
 refine qJ 45 Tryz.func66 rfl rfl rfl rfl (by kernel_rfl) (fun B0 F0 w0=>?_);obtain ⟨w1,w2,w3,w4⟩:=hw;obtain ⟨g,n,d⟩:=r;unfold kT
 dsimp only at w3 w4 ⊢
 refine qX 2 rfl ?_;refine qK 3 rfl ?_;rw[ae];refine qU 1 rfl ?_;by_cases h1:n.length<2;rotate_left
 · rw[aT (show ¬(n.length:Int)<2 by omega)];refine qU 35 rfl ?_;refine ab.nil ?_;rcases n with _ | ⟨x,_ | ⟨x2,n⟩⟩
   · exact absurd (show 0<2 by decide) h1
   · exact absurd (show 1<2 by decide) h1
   · exact AW.ret rfl
 rw[aV (show (n.length:Int)<2 by omega)];refine qU 4 rfl ?_;rw[ae];refine qU 1 rfl ?_;by_cases h2:d.length<2;rotate_left
 · rw[aT (show ¬(d.length:Int)<2 by omega)];refine qU 30 rfl ?_;refine ab.nil ?_;rcases d with _ | ⟨x,_ | ⟨x2,d⟩⟩
   · exact absurd (show 0<2 by decide) h2
   · exact absurd (show 1<2 by decide) h2
   · rcases n with _ | ⟨x,_ | ⟨x2,n⟩⟩
     · exact AW.ret rfl
     · exact AW.ret rfl
     · exact AW.ret rfl
 rw[aV (show (d.length:Int)<2 by omega)];rcases n with _ | ⟨x,_ | ⟨x2,n⟩⟩
 · refine qU 16 rfl ?_;rcases d with _ | ⟨y,_ | ⟨y2,d⟩⟩
   · refine qU 14 rfl ?_;exact qN rfl
   · dsimp only
     refine qU 7 rfl ?_;refine ab.idx tok (wd y) rfl rfl rfl rfl (Int.le_refl _) rfl ?_;refine qU 6 rfl ?_;refine ab.nil ?_;rw[show decide (y≤12)=decide ((y:Int)≤12) from decide_eq_decide.2 (by omega)];exact AW.ret rfl
   · exact absurd h2 (by simp)
 · refine qU 9 rfl ?_;refine ab.idx tok (wd x) rfl rfl rfl rfl (Int.le_refl _) rfl ?_;refine qU 6 rfl ?_;rw[show decide ((x:Int)≤1000)=decide (x≤1000) from decide_eq_decide.2 (by omega)];rcases d with _ | ⟨y,_ | ⟨y2,d⟩⟩
   · dsimp only
     generalize decide (x≤1000)=b;cases b
     · refine qU 14 rfl ?_;exact qN rfl
     · refine qU 14 rfl ?_;exact qN rfl
   · dsimp only
     generalize decide (x≤1000)=b;cases b
     · refine qU 14 rfl ?_;exact qN rfl
     · refine qU 7 rfl ?_;refine ab.idx tok (wd y) rfl rfl rfl rfl (Int.le_refl _) rfl ?_;refine qU 6 rfl ?_;refine ab.nil ?_;rw[show decide (y≤12)=decide ((y:Int)≤12) from decide_eq_decide.2 (by omega)];exact AW.ret rfl
   · exact absurd h2 (by simp)
 · exact absurd h1 (by simp)
end Lift
namespace Lift
open Go Go.Proofs
def JF(a:List RD):Prop:=a.length≤4398046511104∧ ∀i,(a.getD i default).w BL
def Nb2(b:List (List RD)):Prop:=b.length≤140737488355328∧ ∀i,JF (b.getD i [])
def Nb3(a:List (List (List RD))):Prop:=a.length≤140737488355328∧ ∀i,Nb2 (a.getD i [])
theorem vu{f:Nat→Nat}: ∀{m i:Nat},fE f m i=0→ ∀k,i≤k→k<i+m→f k=0
 | 0,i,_,k,h1,h2=>by omega
 | m+1,i,h,k,h1,h2=>by
   rw[fE] at h;split at h
   · rename_i h0;by_cases e:k=i
     · subst e;exact h0
     · exact vu h k (by omega) (by omega)
   · rename_i h0;exact absurd h h0
theorem BN{α:Type}(g:α→Bool){d:α}{l:List α}{i:Nat}(h:i<l.length):(l.drop i).all g=(g (l.getD i d)&&(l.drop (i+1)).all g):=by
 rw[List.drop_eq_getElem_cons h,List.all_cons,aG,bg h];rfl
theorem yA{α:Type}(g:α→Bool){l:List α}{i:Nat}(h: ¬i<l.length):(l.drop i).all g=true:=by
 rw[List.drop_eq_nil_of_le (by omega)];rfl
theorem yx{α:Type}{g:α→Bool}{l:List α}(h:l.all g=true){d:α}{i:Nat}(hi:i<l.length):g (l.getD i d)=true:=by
 rw[aG,bg hi];exact List.all_eq_true.1 h _ (List.getElem_mem hi)
def Dx(x:List RD):Bool:=decide (x.length≤4)&&x.all kT
def gQ(l:List (List RD)):Bool:=l.all Dx
theorem jZ(l:List (List RD))(hl:Nb2 l):Pure Tryz.prog 31 [RwR l] (dB (gQ l)):=by
 refine qJ 27 Tryz.func31 rfl rfl rfl rfl (by kernel_rfl) (fun B0 F0 w0=>?_);obtain ⟨hl1,hl2⟩:=hl;obtain ⟨E,hE⟩: ∃E,(l.drop 0).all Dx=E:=⟨_,rfl⟩;rw[show gQ l=E from hE];refine qX 1 rfl ?_;refine qI (qX 2 rfl ?_);rw[ae];refine qU 1 rfl ?_;refine ab.nil ?_;refine AW.block ?_;refine AW.aF [7,8,9] (fun i:Nat=>[(7,.d (RwR l)),(8,.d (dI l.length)),(9,.d (dI i))]) (fun i=>i≤l.length∧(l.drop i).all Dx=E) (fun i=>l.length-i) 0 rfl ⟨Nat.zero_le _,hE⟩ (fun i ⟨hi,hiE⟩=>?_)
 · show AW _ _ _ _ _ _ _ [(7,.d (RwR l)),(8,.d (dI l.length)),(9,.d (dI i))];refine qX 1 rfl ?_;refine qI ?_;refine AW.cond rfl (fun h=>?_) (fun h=>?_)
   · have hii:i<l.length:=by have:=ar h;omega
     have g1:=getM dn (l:=l) (i:=i) hii;have hx:=hl2 i;have hat:=(BN Dx (d:=[]) hii).symm.trans hiE;change (Dx (l.getD i default)&&_)=E at hat;generalize l.getD i default=x at g1 hx hat;obtain ⟨hx1,hx2⟩:=hx;refine AW.skip (AW.seq (AW.block (AW.seq (AW.region ?_))));refine ab.idx tok (dn x) rfl rfl rfl rfl (aj i) g1 ?_;refine qU 2 rfl ?_;refine qI (qX 2 rfl ?_);rw[ae];refine qU 1 rfl ?_;refine ab.nil ?_;refine AW.cond rfl (fun h=>?_) (fun h=>?_)
     · have h4: ¬x.length≤4:=by have:=ar h;omega
       have hs:Dx x=false:=by unfold Dx;rw[aT h4];rfl
       rw[hs] at hat;rw[← hat];refine qX 1 rfl ?_;exact qN rfl
     · have h4:x.length≤4:=by have:=aA h;omega
       obtain ⟨X,hX⟩: ∃X,(x.drop 0).all kT=X:=⟨_,rfl⟩;have hs:Dx x=X:=by unfold Dx;rw[aV h4];exact hX
       rw[hs] at hat;refine AW.skip (qX 2 rfl ?_);rw[ae];refine qU 1 rfl ?_;refine ab.nil ?_;refine AW.block ?_;refine AW.aF [7,8,9,16,17,18] (fun k:Nat=>[(7,.d (RwR l)),(8,.d (dI l.length)),(9,.d (dI i)),(16,.d (dn x)),(17,.d (dI x.length)),(18,.d (dI k))]) (fun k=>k≤x.length∧(x.drop k).all kT=X) (fun k=>x.length-k) 0 rfl ⟨Nat.zero_le _,hX⟩ (fun k ⟨hk,hkX⟩=>?_)
       · show AW _ _ _ _ _ _ _ [(7,.d (RwR l)),(8,.d (dI l.length)),(9,.d (dI i)),(16,.d (dn x)),(17,.d (dI x.length)),(18,.d (dI k))];refine qX 1 rfl ?_;refine qI ?_;refine AW.cond rfl (fun h=>?_) (fun h=>?_)
         · have hkk:k<x.length:=by have:=ar h;omega
           have g2:=getM RD.D (l:=x) (i:=k) hkk;have ct:=wz (x.getD k default) (hx2 k) (by unfold BL;omega);have hatk:=(BN kT (d:=default) hkk).symm.trans hkX;generalize x.getD k default=r at g2 ct hatk;refine AW.skip (AW.seq (AW.block (AW.seq (AW.region ?_))));refine ab.idx tok r.D rfl rfl rfl rfl (aj k) g2 ?_;refine qU 3 rfl ?_;refine qK 1 rfl ?_;refine ab.call tok rfl rfl rfl rfl ct ?_;refine qU 1 rfl ?_;refine ab.nil ?_;refine AW.cond rfl (fun h=>?_) (fun h=>?_)
           · have ht:kT r=false:=by cases g:kT r;rfl;rw[g] at h;cases h
             rw[ht] at hatk;rw[← hatk] at hat;rw[← hat];refine qX 1 rfl ?_;exact qN rfl
           · have ht:kT r=true:=by cases g:kT r;rw[g] at h;cases h;rfl
             rw[ht] at hatk;refine AW.skip (qT 1 rfl ?_);rw[aH (x:=(k:Int)+1) (by omega) (by omega)];refine qU 1 rfl ?_;refine ab.nil ?_;exact⟨k+1,rfl,⟨hkk,hatk⟩,by omega⟩
         have hkk: ¬k<x.length:=by have:=aA h;omega
         rw[yA kT hkk] at hkX;rw[← hkX] at hat;refine AW.exit ?_;refine qT 1 rfl ?_;rw[aH (x:=(i:Int)+1) (by omega) (by omega)];refine qU 1 rfl ?_;refine ab.nil ?_;exact⟨i+1,rfl,⟨hii,hat⟩,by omega⟩
   have hii: ¬i<l.length:=by have:=aA h;omega
   rw[yA Dx hii] at hiE;rw[← hiE];refine AW.exit ?_;refine qX 1 rfl ?_;exact qN rfl
def jj(n:Nat):Bool:=(decide (4<n)&&decide (n≤32))||decide (40<n)
def yG(r:List (List RD)):Bool:= !(jj r.length|| !gQ r)
def re(a:List (List (List RD))):Bool:= !jj a.length&&a.all yG
theorem vi(a:List (List (List RD)))(ha:Nb3 a):Pure Tryz.prog 11 [MxR a] (dB (re a)):=by
 refine qJ 43 Tryz.func11 rfl rfl rfl rfl (by kernel_rfl) (fun B0 F0 w0=>?_);obtain ⟨ha1,ha2⟩:=ha;obtain ⟨E,hE⟩: ∃E,(a.drop 0).all yG=E:=⟨_,rfl⟩;unfold re;rw[show a.all yG=E from hE];refine qX 1 rfl ?_;refine ab.nil ?_;refine AW.cut [0] (fun _:Unit=>[(0,.d (MxR a))]) (fun _=>jj a.length=false) ?_ (fun _ hs=>?_)
 · refine qX 2 rfl ?_;rw[ae];refine qU 1 rfl ?_;by_cases hp:4<a.length
   · rw[aV (show (4:Int)<(a.length:Int) by omega)];refine qU 3 rfl ?_;rw[ae];refine qU 1 rfl ?_;by_cases hq:a.length≤32
     · rw[aV (show (a.length:Int)≤32 by omega)];have hz:jj a.length=true:=by unfold jj;rw[aV hp,aV hq];rfl
       refine qU 6 rfl ?_;rw[hz];refine ab.nil ?_;refine AW.aL rfl ?_;refine qX 1 rfl ?_;exact qN rfl
     · rw[aT (show ¬(a.length:Int)≤32 by omega)];refine qU 4 rfl ?_;rw[ae];refine qU 1 rfl ?_;by_cases hr:40<a.length
       · rw[aV (show (40:Int)<(a.length:Int) by omega)];have hz:jj a.length=true:=by unfold jj;rw[aV hp,aT hq,aV hr];rfl
         refine qU 1 rfl ?_;rw[hz];refine ab.nil ?_;refine AW.aL rfl ?_;refine qX 1 rfl ?_;exact qN rfl
       · rw[aT (show ¬(40:Int)<(a.length:Int) by omega)];have hz:jj a.length=false:=by unfold jj;rw[aV hp,aT hq,aT hr];rfl
         refine qU 1 rfl ?_;refine ab.nil ?_;refine AW.aB rfl ?_;refine AW.skip ?_;exact⟨(),rfl,hz⟩
   · rw[aT (show ¬(4:Int)<(a.length:Int) by omega)];refine qU 7 rfl ?_;refine qU 1 rfl ?_;rw[ae];refine qU 1 rfl ?_;by_cases hr:40<a.length
     · rw[aV (show (40:Int)<(a.length:Int) by omega)];have hz:jj a.length=true:=by unfold jj;rw[aT hp,aV hr];rfl
       refine qU 1 rfl ?_;rw[hz];refine ab.nil ?_;refine AW.aL rfl ?_;refine qX 1 rfl ?_;exact qN rfl
     · rw[aT (show ¬(40:Int)<(a.length:Int) by omega)];have hz:jj a.length=false:=by unfold jj;rw[aT hp,aT hr];rfl
       refine qU 1 rfl ?_;refine ab.nil ?_;refine AW.aB rfl ?_;refine AW.skip ?_;exact⟨(),rfl,hz⟩
 rw[hs,show (!false&&E)=E from rfl]
 · show AW _ _ _ _ _ _ _ [(0,.d (MxR a))];refine AW.seq (qX 2 rfl ?_);rw[ae];refine qU 1 rfl ?_;refine ab.nil ?_;refine AW.block ?_;refine AW.aF [18,19,20] (fun i:Nat=>[(18,.d (MxR a)),(19,.d (dI a.length)),(20,.d (dI i))]) (fun i=>i≤a.length∧(a.drop i).all yG=E) (fun i=>a.length-i) 0 rfl ⟨Nat.zero_le _,hE⟩ (fun i ⟨hi,hiE⟩=>?_)
   · show AW _ _ _ _ _ _ _ [(18,.d (MxR a)),(19,.d (dI a.length)),(20,.d (dI i))];refine qX 1 rfl ?_;refine qI ?_;refine AW.cond rfl (fun h=>?_) (fun h=>?_)
     · have hii:i<a.length:=by have:=ar h;omega
       have g1:=getM RwR (l:=a) (i:=i) hii;have cs:=jZ (a.getD i []) (ha2 i);have hr1:=(ha2 i).1;have hat:=(BN yG (d:=[]) hii).symm.trans hiE;change (yG (a.getD i default)&&_)=E at hat;change Pure _ _ [RwR (a.getD i default)] (dB (gQ (a.getD i default))) at cs;change (a.getD i default).length≤_ at hr1;generalize a.getD i default=r at g1 hat cs hr1;refine AW.skip (AW.seq (AW.block (AW.seq (AW.region ?_))));refine ab.idx tok (RwR r) rfl rfl rfl rfl (aj i) g1 ?_;refine qU 2 rfl ?_;refine qK 2 rfl ?_;rw[ae];refine qU 1 rfl ?_;by_cases hp:4<r.length
       · rw[aV (show (4:Int)<(r.length:Int) by omega)];refine qU 3 rfl ?_;rw[ae];refine qU 1 rfl ?_;by_cases hq:r.length≤32
         · rw[aV (show (r.length:Int)≤32 by omega)];have hz:jj r.length=true:=by unfold jj;rw[aV hp,aV hq];rfl
           refine qU 11 rfl ?_;have hm:yG r=false:=by unfold yG;rw[hz];rfl
           rw[hm] at hat;rw[← hat];refine ab.nil ?_;refine AW.aL rfl ?_;refine qX 1 rfl ?_;exact qN rfl
         · rw[aT (show ¬(r.length:Int)≤32 by omega)];refine qU 4 rfl ?_;rw[ae];refine qU 1 rfl ?_;by_cases hr:40<r.length
           · rw[aV (show (40:Int)<(r.length:Int) by omega)];have hz:jj r.length=true:=by unfold jj;rw[aV hp,aT hq,aV hr];rfl
             refine qU 6 rfl ?_;have hm:yG r=false:=by unfold yG;rw[hz];rfl
             rw[hm] at hat;rw[← hat];refine ab.nil ?_;refine AW.aL rfl ?_;refine qX 1 rfl ?_;exact qN rfl
           · rw[aT (show ¬(40:Int)<(r.length:Int) by omega)];have hz:jj r.length=false:=by unfold jj;rw[aV hp,aT hq,aT hr];rfl
             refine qU 3 rfl ?_;refine ab.call tok rfl rfl rfl rfl cs ?_;refine qU 2 rfl ?_;refine ab.nil ?_;have hm:yG r=gQ r:=by unfold yG;rw[hz];cases gQ r<;>rfl
             rw[hm] at hat;generalize gQ r=s at *;cases s with
             | false =>
               rw[← hat];refine AW.aL rfl ?_;refine qX 1 rfl ?_;exact qN rfl
             | true =>
               refine AW.aB rfl ?_;refine AW.skip (qT 1 rfl ?_);rw[aH (x:=(i:Int)+1) (by omega) (by omega)];refine qU 1 rfl ?_;refine ab.nil ?_;exact⟨i+1,rfl,⟨hii,hat⟩,by omega⟩
       · rw[aT (show ¬(4:Int)<(r.length:Int) by omega)];refine qU 7 rfl ?_;refine qU 1 rfl ?_;rw[ae];refine qU 1 rfl ?_;by_cases hr:40<r.length
         · rw[aV (show (40:Int)<(r.length:Int) by omega)];have hz:jj r.length=true:=by unfold jj;rw[aT hp,aV hr];rfl
           refine qU 6 rfl ?_;have hm:yG r=false:=by unfold yG;rw[hz];rfl
           rw[hm] at hat;rw[← hat];refine ab.nil ?_;refine AW.aL rfl ?_;refine qX 1 rfl ?_;exact qN rfl
         · rw[aT (show ¬(40:Int)<(r.length:Int) by omega)];have hz:jj r.length=false:=by unfold jj;rw[aT hp,aT hr];rfl
           refine qU 3 rfl ?_;refine ab.call tok rfl rfl rfl rfl cs ?_;refine qU 2 rfl ?_;refine ab.nil ?_;have hm:yG r=gQ r:=by unfold yG;rw[hz];cases gQ r<;>rfl
           rw[hm] at hat;generalize gQ r=s at *;cases s with
           | false =>
             rw[← hat];refine AW.aL rfl ?_;refine qX 1 rfl ?_;exact qN rfl
           | true =>
             refine AW.aB rfl ?_;refine AW.skip (qT 1 rfl ?_);rw[aH (x:=(i:Int)+1) (by omega) (by omega)];refine qU 1 rfl ?_;refine ab.nil ?_;exact⟨i+1,rfl,⟨hii,hat⟩,by omega⟩
     have hii: ¬i<a.length:=by have:=aA h;omega
     rw[yA yG hii] at hiE;rw[← hiE];refine AW.exit ?_;refine qX 1 rfl ?_;exact qN rfl
def z6(rt:List (List RD)):Bool:=(decide (rt.length≤1)||(decide (5<rt.length)&&decide (rt.length<9)))&&gQ rt
theorem ye(rt:List (List RD))(hr:Nb2 rt):Pure Tryz.prog 10 [TrD rt] (dB (z6 rt)):=by
 refine qJ 24 Tryz.func10 rfl rfl rfl rfl (by kernel_rfl) (fun B0 F0 w0=>?_);have cs:=jZ rt hr;have hr1:=hr.1;unfold z6;generalize gQ rt=s at cs ⊢;refine qX 2 rfl ?_;refine qK 3 rfl ?_;rw[ae];refine qU 1 rfl ?_;by_cases h1:rt.length≤1
 · rw[aV (show (rt.length:Int)≤1 by omega),aV h1];refine qU 15 rfl ?_;refine ab.call tok rfl rfl rfl rfl cs ?_;refine qU 2 rfl ?_;exact qN rfl
 rw[aT (show ¬(rt.length:Int)≤1 by omega),aT h1];refine qU 4 rfl ?_;rw[ae];refine qU 1 rfl ?_;by_cases h2:5<rt.length;rotate_left
 · rw[aT (show ¬(5:Int)<(rt.length:Int) by omega),aT h2];refine qU 13 rfl ?_;exact qN rfl
 rw[aV (show (5:Int)<(rt.length:Int) by omega),aV h2];refine qU 4 rfl ?_;rw[ae];refine qU 1 rfl ?_;by_cases h3:rt.length<9;rotate_left
 · rw[aT (show ¬(rt.length:Int)<9 by omega),aT h3];refine qU 8 rfl ?_;exact qN rfl
 rw[aV (show (rt.length:Int)<9 by omega),aV h3];refine qU 5 rfl ?_;refine ab.call tok rfl rfl rfl rfl cs ?_;refine qU 2 rfl ?_;exact qN rfl
theorem H4{x:List RD}(h:Dx x=true)(nb:JF x):x.length≤4∧wN 2 x:=by
 unfold Dx at h;rw[Bool.and_eq_true] at h;refine⟨ar h.1,fun i hi=>?_⟩;obtain ⟨t1,t2⟩:=DN (yx h.2 (d:=default) hi);obtain ⟨w1,w2,w3,w4⟩:=nb.2 i;exact⟨w1,w2,by omega,by omega⟩
theorem EC:JF []:=⟨Nat.zero_le _,fun _=>⟨fun _ h=>(by cases h),fun _ h=>(by cases h),Nat.zero_le _,Nat.zero_le _⟩⟩
theorem DF(k:Nat):wN k []:=fun i hi=>absurd hi (Nat.not_lt_zero i)
theorem nJ{l:List (List RD)}(h:gQ l=true)(nb:Nb2 l)(i:Nat):(l.getD i []).length≤4∧wN 2 (l.getD i []):=by
 by_cases hi:i<l.length
 · exact H4 (yx h (d:=[]) hi) (nb.2 i)
 · rw[aG,List.getElem?_eq_none (by omega)];exact⟨Nat.zero_le _,DF 2⟩
theorem Cj{rt:List (List RD)}(h:z6 rt=true)(nb:Nb2 rt):IM 2 rt∧(rt.length≤5→rt.length≤1):=by
 unfold z6 at h;rw[Bool.and_eq_true,Bool.or_eq_true,Bool.and_eq_true] at h;obtain ⟨h1,h2⟩:=h
 have hl:rt.length<9∧(rt.length≤5→rt.length≤1):=by
  rcases h1 with h1 | ⟨h1,h3⟩
  · have:=ar h1;omega
  · have:=ar h1;have:=ar h3;omega
 refine⟨⟨fun i _ _=>(nJ h2 nb i).2,by decide,by omega,fun i _=>by have:=(nJ h2 nb i).1;omega,fun h5=>o6 (hl.2 h5) (by decide),by decide⟩,hl.2⟩
theorem EK{rt:List (List RD)}(h:z6 rt=true)(nb:Nb2 rt)(h0:dm rt=0):Dv 2 rt∧rt.length≤1:=by
 obtain ⟨T,h1⟩:=Cj h nb;have h5:=(kc h0).1;exact⟨⟨⟨2,by decide,ao _,T.w,T.ok⟩,by decide,T.l,T.ll⟩,h1 h5⟩
theorem ue{rt:List (List RD)}{a:List (List (List RD))}(h:re a=true)(nb:Nb3 a):FO 2 rt a∧(a.length≤32→a.length≤4)∧(∀i,(a.getD i []).length≤32→(a.getD i []).length≤4):=by
 unfold re at h;rw[Bool.and_eq_true] at h
 have sz: ∀n,(!jj n)=true→n≤40∧(n≤32→n≤4):=fun n hn=>by
  unfold jj at hn;simp at hn;omega
 have hr: ∀i,(a.getD i []).length≤40∧((a.getD i []).length≤32→(a.getD i []).length≤4)∧ ∀k,((a.getD i []).getD k []).length≤4∧wN 2 ((a.getD i []).getD k []):=fun i=>by
  by_cases hi:i<a.length
  · have g:=yx h.2 (d:=[]) hi;unfold yG at g;rw[Bool.not_or,Bool.not_not,Bool.and_eq_true] at g;have s1:=sz _ g.1;exact⟨s1.1,s1.2,fun k=>nJ g.2 (nb.2 i) k⟩
  · rw[aG,List.getElem?_eq_none (by omega)];exact⟨Nat.zero_le _,fun _=>Nat.zero_le _,fun k=>⟨Nat.zero_le _,DF 2⟩⟩
 have s0:=sz _ h.1;exact⟨⟨fun i k=>⟨fun _=>((hr i).2.2 k).2,by have:=((hr i).2.2 k).1;omega⟩,by omega,fun i=>by have:=(hr i).1;omega⟩,s0.2,fun i=>(hr i).2.1⟩
def x9(a:List (List (List RD))):a9:=a.map fun r=>r.map bS
theorem m6(a:List (List (List RD))):(x9 a).length=a.length:=ae ..
theorem uU(a:List (List (List RD)))(i:Nat):(x9 a).getD i []=(a.getD i []).map bS:=by
 unfold x9;rw[aG,List.getElem?_map,aG];cases a[i]? with
 | none=>rfl
 | some r=>rfl
theorem ze(r:List (List RD))(k:Nat):(r.map bS).getD k []=bS (r.getD k []):=by
 rw[aG,List.getElem?_map,aG];cases r[k]? with
 | none=>rfl
 | some x=>rfl
theorem nT(a:List (List (List RD))):ak (x9 a)=ak a:=by unfold ak;rw[uU,ae]
structure Acc (rt:List (List RD)) (a:List (List (List RD))) (v:List NQ) (q:a9):Prop where
 L:Lo v
 G:Aw v q
 s:kG 2 q
 l4:q.length≤4
 c4:ak q≤4
 t:TrD rt=bA v
 m:MxR a=bh q
 vl:v.length=rt.length
 al:q.length=a.length
 ac:ak q=ak a
theorem Gw{rt:List (List RD)}{r:List (List RD)}(h0:dm rt=0)(h:kK rt r=0){k:Nat}(hk:k<r.length):bL rt.length (r.getD k [])=0:=by
 rw[zf h0] at h;exact vu h k (Nat.zero_le _) (by omega)
theorem Hk{rt:List (List RD)}(h1:z6 rt=true)(n1:Nb2 rt)(h0:dm rt=0):Lo (rt.map bS)∧TrD rt=bA (rt.map bS):=by
 obtain ⟨T,l1⟩:=EK h1 n1 h0;exact⟨⟨kF.of T h0,by rw[ae];exact l1⟩,(Hr T h0).eq⟩
theorem Cb{rt:List (List RD)}{r:List (List RD)}(hn: ∀k,BP 2 rt (r.getD k []))(h: ∀k,k<r.length→bL rt.length (r.getD k [])=0):RwR r=a8 (r.map bS)∧(∀k,aC rt.length ((r.map bS).getD k []))∧(∀k,au 2 ((r.map bS).getD k [])):=by
 have g:=fun k (hk:k<r.length)=>Ig (by decide) (hn k) (h k hk);refine⟨?_,fun k=>?_,fun k=>?_⟩
 · show D.sl 1 (r.map dn)=D.sl 1 ((r.map bS).map ai);rw[List.map_map]
   congr 1
   refine List.map_congr_left fun x hx=>?_;obtain ⟨k,hk,e⟩:=List.getElem_of_mem hx;have:=(g k hk).2.2;rw[aG,bg hk] at this;rw[← e];exact this
 · rw[ze];by_cases hk:k<r.length
   · exact(g k hk).1
   · rw[aG,List.getElem?_eq_none (by omega)];exact bn _
 · rw[ze];by_cases hk:k<r.length
   · exact(g k hk).2.1
   · rw[aG,List.getElem?_eq_none (by omega)];exact aY (by decide)
theorem IJ{rt:List (List RD)}{a:List (List (List RD))}(h1:z6 rt=true)(n1:Nb2 rt)(h2:re a=true)(n2:Nb3 a)(h:mA rt a=0):Acc rt a (rt.map bS) (x9 a):=by
 have h0:dm rt=0:=by
  unfold mA at h;split at h
  · rename_i g;exact absurd h g
  · omega
 have hm:sY rt a=0:=by
  unfold mA at h;rw[if_neg (by rw[h0];simp)] at h;exact h
 obtain ⟨L,ht⟩:=Hk h1 n1 h0;obtain ⟨M,l4,r4⟩:=ue (rt:=rt) h2 n2
 have key:a.length≤4∧ak a≤4∧(∀j,j<a.length→(a.getD j []).length=ak a)∧(∀j,j<a.length→kK rt (a.getD j [])=0):=by
  unfold sY at hm;by_cases e0:a.length=0
  · refine⟨by omega,?_,fun j hj=>by omega,fun j hj=>by omega⟩;unfold ak;rw[aG,List.getElem?_eq_none (by omega)];exact Nat.zero_le _
  · rw[if_neg e0] at hm;by_cases e1:32<a.length∨32<ak a
    · rw[if_pos e1] at hm;cases hm
    · rw[if_neg e1] at hm;have e2:fE (wX a) (a.length-0) 0=0:=Classical.byContradiction fun g=>by rw[if_pos g] at hm;exact g hm
      rw[if_neg (by rw[e2];simp)] at hm;refine⟨l4 (by omega),r4 0 (show ak a≤32 by omega),fun j hj=>?_,fun j hj=>vu hm j (Nat.zero_le _) (by omega)⟩;have:=vu e2 j (Nat.zero_le _) (by omega);unfold wX at this;exact Classical.byContradiction fun g=>by rw[if_pos g] at this;cases this
 obtain ⟨k1,k2,k3,k4⟩:=key;have rw1:=fun i (hi:i<a.length)=>Cb (M.n i) (fun k hk=>Gw h0 (k4 i hi) hk);have hvl:(rt.map bS).length=rt.length:=ae ..
 have el: ∀i k,aC rt.length (aW (x9 a) i k)∧au 2 (aW (x9 a) i k):=fun i k=>by
  by_cases hi:i<a.length
  · have:=rw1 i hi;unfold aW;rw[uU];exact⟨this.2.1 k,this.2.2 k⟩
  · unfold aW;rw[fg (by rw[m6];omega)];exact⟨bn _,aY (by decide)⟩
 refine⟨L,⟨by rw[m6];omega,fun j hj=>?_,by rw[nT];omega,fun i k=>by rw[hvl];exact(el i k).1⟩,fun i k=>(el i k).2,by rw[m6];exact k1,by rw[nT];exact k2,ht,?_,hvl,m6 a,nT a⟩
 · rw[m6] at hj;rw[uU,ae,nT];exact k3 j hj
 · show D.sl 1 (a.map RwR)=D.sl 1 ((x9 a).map a8);unfold x9;rw[List.map_map]
   congr 1
   refine List.map_congr_left fun r hr=>?_;obtain ⟨k,hk,e⟩:=List.getElem_of_mem hr;have:=(rw1 k hk).1;rw[aG,bg hk] at this;rw[← e];exact this
end Lift
