/- Parts of the proof, one behind the other: the logic, the contracts of the functions that the statement reaches. -/
import Derived.Test.YtebpenldlefgjaaGreatM6D
set_option linter.unusedVariables false
set_option linter.unusedSimpArgs false
set_option maxHeartbeats 4000000
open And renaming intro→fn
open Bool renaming and_eq_true→d7,false_or→ip
open Classical renaming choose→d4,byContradiction→fl,choose_spec→f7
open Go.Value.pointer renaming injEq→i1
open Int renaming natCast_nonneg→ad,mul_one→cI,mul_zero→eA,le_refl→eY,zero_mul→e9,one_mul→f5,mul_eq_zero→ii
open List renaming length_map→ab,getD_eq_getElem?_getD→ax,length_take→bi,length_eq_zero_iff→bv,length_set→cb,map_append→cj,take_length→co,getElem?_eq_some_iff→cx,getElem?_eq_getElem→cA,take_succ_eq_append_getElem→di,take_of_length_le→dj,nodup_nil→dz,getElem?_append_right→dM,getElem?_append_left→d6,drop_eq_nil_of_le→ej,getElem?_set_ne→eL,length_append→e6,append_nil→f4,drop_eq_getElem_cons→f8,map_take→f9,getElem?_set_self→go,map_congr_left→g7,length_pos_iff→g8,getElem?_map→hF,append_assoc→hH,mem_nil_iff→hM,length_drop→hQ,drop_zero→ie,mem_cons→ik,map_cons→io,set_set→it,mem_map→ix,map_map→i0
open List.Mem renaming head→cz
open Nat renaming le_refl→al,zero_le→am,le_trans→bn,pow_le_pow_right→bz,le_of_ble_eq_true→b0,le_succ→ch,log2_two_pow→cB,pow_succ→dl,two_pow_pos→dx,max_le→dT,succ_ne_zero→d9,sub_self→ew,le_add_left→eE,pow_pos→eX,lt_irrefl→ga,add_sub_cancel_left→gc,eq_of_beq_eq_true→gs,add_le_add_right→g6,max_eq_right→hU,le_max_right→hV,max_eq_left→hY,le_max_left→h9,le_of_eq→i2,beq→i3,add_comm→i4
open Option renaming map_some→hA
open Option.some renaming injEq→dr
open Prod renaming ext→ap
open Quotient renaming sound→cT,inductionOn₃→d5,inductionOn→ee,exists_rep→eB,inductionOn₂→f6,liftOn₂→gb,exact→g9
open Rat renaming sub_eq_add_neg→a0,mul_inv_cancel→b8,sub_self→cM,div_def→dn,add_zero→eu,one_mul→gt,mul_pos→g5,add_neg_cancel→g',mul_eq_zero→hW
namespace Lift
open Go Go.Proofs
variable {xs:List D}{rt v:List NQ}{b:NQ}{N:NQ→NQ}{R:NQ→NQ→NQ}{i j k l m n r:Nat}
theorem sW(v:List NQ)(most:Nat)(hm:most≤1000000):Pure Tryz.prog 89 [fm v,iT [],dI most] (.tu [Mi ⟨[],[],1,[1]⟩,bd]):=by
 refine qJ 205 Tryz.func89 rfl fun B F0 w0=>?_;have cone:=j6 (Qr ((1:Int):Rat)) (k:=1) (gz _ (by have:=fU;rw[show((1:Int):Rat)=1 from rfl];omega)) (by decide) (by decide) (Eb _);rw[b5,show nZ ((1:Int):Rat)=[1]from rfl]at cone;refine qX 3 rfl<|qI<|AW.region<|qM rfl (jh 1 (by decide) (by decide)) ?_;refine qM rfl cone<|qU 3 rfl<|qI<|qX 3 rfl<|ae.nil ?_;refine AW.block<|AW.aK [2,3,6,7,8,22,23,24] (fun _:Unit=>[(2,.d (dI most)),(3,.bx [.sl 1 (v.map ak)]),(6,.bx [.sl 1 [],.sl 1 [],dI 0,.sl 3 []]),(7,.d bd),(8,.bx [.sl 1 [],.sl 1 [],dI 1,ak [1]]),(22,.d (iT [])),(23,.d (dI 0)),(24,.d (dI 0))]) (fun _=>True) (fun _=>0) () rfl trivial fun _ _=>?_;show AW _ _ _ _ _ _ _ [(2,.d (dI most)),(3,.bx [.sl 1 (v.map ak)]),(6,.bx [.sl 1 [],.sl 1 [],dI 0,.sl 3 []]),(7,.d bd),(8,.bx [.sl 1 [],.sl 1 [],dI 1,ak [1]]),(22,.d (iT [])),(23,.d (dI 0)),(24,.d (dI 0))];refine qX 1 rfl<|qI<|AW.aC rfl<|AW.exit<|AW.seq<|qX 2 rfl<|ae.nil ?_;refine AW.block<|AW.aK [3,6,7,8,36,37] (fun c:Nat=>[(3,.bx [.sl 1 (v.map ak)]),(6,.bx [.sl 1 [],.sl 1 [],dI 0,.sl 3 []]),(7,.d bd),(8,.bx [.sl 1 [],.sl 1 [],dI 1,ak [1]]),(36,.d (dI most)),(37,.d (dI c))]) (fun c=>c≤most) (fun c=>most-c) 0 rfl (am _) fun c hc=>?_;show AW _ _ _ _ _ _ _ [(3,.bx [.sl 1 (v.map ak)]),(6,.bx [.sl 1 [],.sl 1 [],dI 0,.sl 3 []]),(7,.d bd),(8,.bx [.sl 1 [],.sl 1 [],dI 1,ak [1]]),(36,.d (dI most)),(37,.d (dI c))];refine qX 1 rfl ?_;refine qI<|AW.cond rfl (fun h=>?_) fun h=>?_;rotate_left
 ·exact AW.exit (qX 3 rfl (qN rfl))
 have hcm:c<most:=by have:=ao h;omega
 refine AW.skip<|AW.seq<|AW.block<|qX 2 rfl<|qK 4 rfl<|qK 2 rfl<|ae.nil ?_;refine AW.cut [3,6,7,8,12,13,36,37] (fun _:Unit=>[(3,.bx [.sl 1 (v.map ak)]),(6,.bx [.sl 1 [],.sl 1 [],dI 0,.sl 3 []]),(7,.d bd),(8,.bx [.sl 1 [],.sl 1 [],dI 1,ak [1]]),(12,.d (dI 0)),(13,.d (dI 0)),(36,.d (dI most)),(37,.d (dI c))]) (fun _=>True) ?_ fun _ _=>?_
 ·refine AW.block (AW.aK [3,6,7,8,11,12,13,36,37] (fun _:Unit=>[(3,.bx [.sl 1 (v.map ak)]),(6,.bx [.sl 1 [],.sl 1 [],dI 0,.sl 3 []]),(7,.d bd),(8,.bx [.sl 1 [],.sl 1 [],dI 1,ak [1]]),(11,.d (dI c)),(12,.d (dI 0)),(13,.d (dI 0)),(36,.d (dI most)),(37,.d (dI c))]) (fun _=>True) (fun _=>0) () rfl trivial (fun _ _=>?_));show AW _ _ _ _ _ _ _ [(3,.bx [.sl 1 (v.map ak)]),(6,.bx [.sl 1 [],.sl 1 [],dI 0,.sl 3 []]),(7,.d bd),(8,.bx [.sl 1 [],.sl 1 [],dI 1,ak [1]]),(11,.d (dI c)),(12,.d (dI 0)),(13,.d (dI 0)),(36,.d (dI most)),(37,.d (dI c))];refine AW.seq<|AW.seq<|AW.draw aO 18 (by kernel_rfl) ?_;exact qP 18 rfl<|ai.nil<|ae.nil<|AW.aC rfl<|AW.exit ⟨(),rfl,trivial⟩
 show AW _ _ _ _ _ _ _ [(3,.bx [.sl 1 (v.map ak)]),(6,.bx [.sl 1 [],.sl 1 [],dI 0,.sl 3 []]),(7,.d bd),(8,.bx [.sl 1 [],.sl 1 [],dI 1,ak [1]]),(12,.d (dI 0)),(13,.d (dI 0)),(36,.d (dI most)),(37,.d (dI c))];refine AW.seq<|qX 5 rfl<|ae.nil<|AW.aH rfl<|AW.exit<|qT 1 rfl ?_;rw[aD (x:=(c:Int)+1) (by omega) (by omega)];refine qU 1 rfl<|ae.nil ?_;exact⟨c+1,rfl,hcm,by omega⟩
def qe(v:List NQ)(a:cF):kq:=aB v a (bg a)
structure H8 (v:List NQ) (a:cF):Prop where
 l:a.length≤32
 r:cX (bg a) a
 c:bg a≤32
 lt:qH v.length a
theorem o6(V:qE v){a:cF}{N most:Nat}(ha:a.length≤1000000)(hN:N≤1000000)(hmost:most≤N)(hr:cX N a)(hl:qH v.length a)(ok: ∀c,c<most→lI v (aB v a c) c):
  Pure Tryz.prog 89 [fm v,iT a,dI most] (.tu [Mi (aB v a most),bd]):=by
 by_cases h0:a.length=0
 ·rw[bv.1 h0,su];exact sW v most (by omega)
 ·exact ue V (by omega) ha hN hmost hr hl ok
def zb(a:cF):List (List (List RD)):=a.map (fun r=>r.map fa)
theorem C0(a:cF):(zb a).length=a.length:=ab ..
theorem sA(a:cF)(i:Nat):(zb a).getD i []=(a.getD i []).map fa:=by
 unfold zb;rw[ax,hF,ax];cases a[i]? with
 |none=>rfl
 |some x=>rfl
theorem Gm(a:cF)(i k:Nat):((zb a).getD i []).getD k []=fa (a7 a i k):=by
 rw[sA];unfold a7;generalize a.getD i []=r;rw[ax,hF,ax];cases r[k]? with
 |none=>rfl
 |some x=>rfl
theorem ER(a:cF):vp (zb a)=iT a:=by
 show D.sl 1 ((a.map _).map yT)=D.sl 1 (a.map jO);rw[i0]
 congr 1
 refine g7 fun r _=>?_;show D.sl 1 ((r.map fa).map bo)=D.sl 1 (r.map ak);rw[i0]
 congr 1
 exact g7 fun x _=>il x
theorem Ad(a:cF):bg (zb a)=bg a:=by unfold bg;rw[sA,ab]
theorem fC.s(V:fC m v)(hk:ou v.length m):Pr m (oo v):=by have hl5:=V.l5;have hm2:=V.m2;have T:=V.raw.1;exact⟨fun i hi _=>by rw[sv];exact qY (V.sz i),V.m1,by rw[gf];omega,T.ll,fun _=>by rw[gf];exact hk,hm2⟩
theorem H8.raw{a:cF}(V:fC m v)(G:H8 v a)(hs: ∀i k,au m (a7 a i k)):Mj m (oo v) (zb a)∧Am (oo v) (zb a)=0:=by
 have hl:=G.l;have hc:=G.c
 have hrow: ∀i,((zb a).getD i []).length≤32:=fun i=>by
  rw[sA,ab];by_cases h:i<a.length
  ·rw[G.r i h];exact hc
  ·rw[jX (by omega)];exact am _
 refine⟨⟨fun i k=>by rw[Gm];exact jT V (G.lt i k) (hs i k),by rw[C0];omega,fun i=>bn (hrow i) (by decide)⟩,?_⟩;unfold Am;rw[af (by rw[V.raw.2];simp)];unfold E8;split
 ·rfl
 rw[C0,Ad,af (by omega)]
 have e1:fE (Eh (zb a)) (a.length-0) 0=0:=pk fun j hj=>by unfold Eh;rw[Ad,sA,ab,G.r j (by omega)];exact af fun h=>h rfl
 rw[e1,af (by decide)];refine pk fun j hj=>?_;unfold om;refine pk fun k hk=>?_;rw[Gm];exact Qi V<|G.lt j k
theorem o7{a:cF}(V:fC m v)(hk:ou v.length m)(G:H8 v a)(hs: ∀i k,au m (a7 a i k))(ok: ∀c,c<bg a→lI v (aB v a c) c):Pure Tryz.prog 46 [fm v,iT a] (.tu [dI (qe v a).cols.length,bd]):=by
 refine qJ 29 Tryz.func46 rfl fun B F0 w0=>?_;obtain⟨r1,r2⟩:=G.raw V hs;have cc:=n0 (V.s hk) r1;rw[r2,lv,ER]at cc;have hGl:=G.l;have hGc:=G.c;have cr:=o6 V.a (most:=bg a) (by omega) (by omega) (al _) G.r G.lt ok;have hcl:=(gS V.a G.r G.lt (bg a)).cl;change Pure _ _ _ (.tu [Mi (qe v a),bd])at cr;generalize qe v a=s at cr ⊢;obtain⟨rows,cols,sg,iN⟩:=s;refine qX 3 rfl<|qI<|qX 2 rfl<|qM rfl cc<|qU 1 rfl<|qK 1 rfl<|qR rfl rfl<|ae.nil<|AW.aC rfl ?_
 ·refine AW.skip (AW.seq (AW.mU tok aO [(7,true),(1,false),(1,true)] 9 [7] (by kernel_rfl) ⟨rfl,?_⟩));refine qP 3 rfl<|qQ rfl (l0 a) ?_;refine qQ rfl cr<|qP 2 rfl<|ai.nil ⟨rfl,?_⟩;refine qP 1 rfl<|ai.nil ⟨rfl,?_⟩;refine qP 1 rfl<|ai.nil ⟨_,m8.cons (.bx rfl) (m8.nil),?_⟩;refine qU 1 rfl<|qI<|qX 1 rfl<|qR rfl rfl<|ae.nil<|AW.aC rfl ?_
  ·refine AW.skip (qX 2 rfl (qU 1 rfl ?_));rw[ab];exact qU 2 rfl<|qN rfl
def fb(l:Lkg)(a:Asm):cF:=jx (a.rt.map aA) l a l.joints.length
def Ae(l:Lkg)(a:Asm)(r:Nat):D:=if gl l a≠0 then .tu [dI 0,tE (gl l a)]else .tu [dI r,bd]
theorem lZ(l:Lkg)(a:Asm)(hl:l.ok 16)(ha:a.ok 16)(h2:a.rt.length≤2)(hnb:l.bodies.length≤1000000000000)(hR:gl l a=0→Pure Tryz.prog 46 [fm (a.rt.map aA),iT (fb l a)] (.tu [dI r,bd])):Pure Tryz.prog 23 [l.D,a.D] (Ae l a r):=by
 refine qJ 25 Tryz.func23 rfl fun B0 F0 w0=>?_;have c:=u5 l a hl ha h2 hnb;unfold Gh at c;unfold Ae;have hT:gl l a=0→uF a.rt=fm (a.rt.map aA):=fun h=>(rV ha.t (Bm h).tw).eq;unfold fb at hR;refine qX 4 rfl<|qK 2 rfl ?_;rcases e2:gl l a with _|z
 rotate_left
 ·rw[ah (by rw[e2];exact d9 z),e2]at c;rw[ah (d9 z)];exact qM rfl c<|qU 7 rfl<|qI<|qX 1 rfl<|qR rfl rfl<|ae.nil<|AW.aH rfl<|qX 3 rfl<|qN rfl
 rw[af (by rw[e2];simp)]at c;rw[af (by simp)];have hR:=hR e2;rw[←hT e2]at hR;refine qM rfl c<|qU 7 rfl<|qI<|qX 1 rfl<|qR rfl rfl<|ae.nil<|AW.aC rfl ?_
 ·refine AW.skip (AW.seq (AW.region ?_));obtain⟨rt,bs,md⟩:=a;exact qU 3 rfl<|qM rfl hR<|qU 4 rfl<|qN rfl
def DS(l:Lkg)(a:Asm)(r:Nat):D:=if gl l a≠0 then .tu [dI 0,tE (gl l a)]else .tu [dI (3*((l.bodies.length:Int) -1) -r),bd]
theorem lC(l:Lkg)(a:Asm)(hr:r≤1000000)(hl:l.ok 16)(ha:a.ok 16)(h2:a.rt.length≤2)(hnb:l.bodies.length≤1000000000000)(hR:gl l a=0→Pure Tryz.prog 46 [fm (a.rt.map aA),iT (fb l a)] (.tu [dI r,bd])):Pure Tryz.prog 11 [l.D,a.D] (DS l a r):=by
 refine qJ 24 Tryz.func11 rfl fun B0 F0 w0=>?_;have c:=lZ l a hl ha h2 hnb hR;unfold Ae at c;unfold DS;refine qX 4 rfl<|qK 2 rfl ?_;rcases e2:gl l a with _|z
 rotate_left
 ·rw[ah (by rw[e2];exact d9 z),e2]at c;rw[ah (d9 z)];exact qM rfl c<|qU 5 rfl<|qI<|qX 1 rfl<|qR rfl rfl<|ae.nil<|AW.aH rfl<|qX 3 rfl<|qN rfl
 rw[af (by rw[e2];simp)]at c;rw[af (by simp)];clear hR e2;obtain⟨ln,lb,js,lds⟩:=l;simp only[]at *;refine qM rfl c<|qU 5 rfl<|qI<|qX 1 rfl<|qR rfl rfl<|ae.nil<|AW.aC rfl ?_
 ·refine AW.skip (qX 3 rfl ?_);rw[ab];refine qU 1 rfl ?_;rw[aD (x:=(lb.length:Int) -1) (by omega) (by omega)];refine qU 1 rfl ?_;rw[aD (x:=3*((lb.length:Int) -1)) (by omega) (by omega)];refine qU 2 rfl ?_;rw[aD (x:=3*((lb.length:Int) -1) -(r:Int)) (by omega) (by omega)];exact qU 2 rfl<|qN rfl
def H':List RD→Nat→Nat
 |[],n=>n
 |x::r,n=>if n<100 then H' r (n+(x.n.length+x.d.length))else n
def eU(a:List RD):Nat:=H' a 0
def vR(a:List RD):Prop:=a.length≤4398046511104∧ ∀i,(a.getD i default).w big
theorem Iw{r:List RD}(h: ¬n<100):H' r n=n:=by
 cases r with
 |nil=>rfl
 |cons x r=>exact af h
theorem DZ{a:List RD}(h:i<a.length):a.drop i=a.getD i default::a.drop (i+1):=by
 rw[f8 h]
 congr 1
 rw[ax,cA h];rfl
theorem hC(a:List RD)(ha:vR a):Pure Tryz.prog 30 [bo a] (dI (eU a)):=by
 refine qJ 31 Tryz.func30 rfl fun B F0 w0=>?_;obtain⟨hl,hw⟩:=ha;unfold big at hw;obtain⟨E,hE⟩: ∃E,eU a=E:=⟨_,rfl⟩;rw[hE];refine qX 1 rfl<|qK 1 rfl<|qI<|qX 1 rfl<|ae.nil<|AW.block ?_;refine AW.aK [0,3,4] (fun s:Nat×Nat=>[(0,.d (bo a)),(3,.d (dI s.2)),(4,.d (dI s.1))]) (fun s=>s.1≤a.length∧s.2≤100+2000000000000000∧H' (a.drop s.1) s.2=E) (fun s=>a.length-s.1) (0,0) rfl ⟨am _,am _,hE⟩ fun s hs=>?_
 ·obtain⟨i,n⟩:=s;obtain⟨hi,hn,hsz⟩:=hs;simp only[]at hi hn hsz;show AW _ _ _ _ _ _ _ [(0,.d (bo a)),(3,.d (dI n)),(4,.d (dI i))];refine AW.seq<|qX 2 rfl<|qU 1 rfl ?_;rw[ab];refine qU 2 rfl ?_;by_cases hia:i<a.length;rotate_left
  ·rw[a5 (show ¬(i:Int)<(a.length:Int) by omega)];refine qU 3 rfl<|ae.nil ?_;have hii:i=a.length:=by omega
   subst hii;rw[List.drop_length]at hsz;subst hsz;exact AW.aC rfl<|AW.exit<|qX 2 rfl<|qN rfl
  rw[aN (show(i:Int)<(a.length:Int) by omega)];refine qU 3 rfl<|ae.nil<|AW.cond rfl (fun h=>?_) fun h=>?_
  ·have hn1:n<100:=by have:=ao h;omega
   have hg:=getM RD.D (l:=a) (i:=i) hia;have w1:=(hw i).2.2.1;have w2:=(hw i).2.2.2;rw[DZ hia]at hsz;have hsz:H' (a.drop (i+1)) (n+((a.getD i default).n.length+(a.getD i default).d.length))=E:=by rw[←hsz];exact(ah hn1).symm
   generalize a.getD i default=x at hg w1 w2 hsz;obtain⟨xg,xn,xd⟩:=x;simp only[]at w1 w2 hsz;refine AW.skip<|AW.seq<|AW.block<|AW.draw aO 15 (by kernel_rfl) ?_;refine qP 3 rfl<|ai.idx tok (RD.D ⟨xg,xn,xd⟩) rfl rfl rfl rfl rfl (ad i) hg ?_;refine qP 3 rfl ?_;rw[bf];refine qP 2 rfl<|ai.idx tok (RD.D ⟨xg,xn,xd⟩) rfl rfl rfl rfl rfl (ad i) hg ?_;refine qP 3 rfl ?_;rw[bf];refine qP 1 rfl ?_;rw[aD (x:=(xn.length:Int)+(xd.length:Int)) (by omega) (by omega)];refine qP 1 rfl ?_;rw[aD (x:=(n:Int)+((xn.length:Int)+(xd.length:Int))) (by omega) (by omega)];refine ai.nil<|qU 1 rfl<|ae.nil<|qT 2 rfl ?_;rw[aD (x:=(i:Int)+1) (by omega) (by omega)];refine qU 1 rfl<|ae.nil ?_;exact⟨(i+1,n+(xn.length+xd.length)),rfl,⟨hia,by show n+(xn.length+xd.length)≤_;omega,hsz⟩,by show a.length-(i+1)<a.length-i;omega⟩
  have hn1: ¬n<100:=by have:=ar h;omega
  rw[Iw hn1]at hsz;subst hsz;exact AW.exit<|qX 2 rfl<|qN rfl
def BL(p:Mark):Nat:=p.x.n.length+p.x.d.length+p.y.n.length+p.y.d.length
def ua(f:Nat→Nat)(n:Nat):Nat→Nat
 |0=>n
 |k+1=>max (ua f n k) (f k)
def tn(bs:List Body):Nat→Nat
 |0=>0
 |i+1=>ua (fun k=>BL ((bs.getD i default).pts.getD k default)) (tn bs i) (bs.getD i default).pts.length
def plW(p:fp)(n:Nat):Nat:=max (max (max (max n (eU p.c)) (eU p.s)) (eU p.x)) (eU p.y)
def oT(bs:List fp)(n:Nat):Nat→Nat
 |0=>n
 |i+1=>plW (bs.getD i default) (oT bs n i)
def KQ(l:Lkg)(a:Asm):Nat:=oT a.bodies (ua (fun i=>eU (a.rt.getD i [])) (tn l.bodies l.bodies.length) a.rt.length) a.bodies.length
def Pk(l:Lkg)(a:Asm):Bool:=decide (6<l.bodies.length∧l.bodies.length≤8∨8<l.joints.length∧l.joints.length≤16∨40<l.bodies.length∨40<l.joints.length∨40<l.drivers.length∨40<a.bodies.length∨2<a.rt.length)
def Np(bs:List Body)(i:Nat):Bool:=decide (40<(bs.getD i default).pts.length)
def rD(l:Lkg)(a:Asm):Bool:=Pk l a||fT (Np l.bodies) (l.bodies.length-0) 0||decide (((16:Int) -4*(a.rt.length:Int))<(KQ l a:Int))
structure AsB (a:Asm):Prop where
 rl:a.rt.length≤big
 r: ∀i,vR (a.rt.getD i [])
 bl:a.bodies.length≤big
 c: ∀i,vR (a.bodies.getD i default).c
 s: ∀i,vR (a.bodies.getD i default).s
 x: ∀i,vR (a.bodies.getD i default).x
 y: ∀i,vR (a.bodies.getD i default).y
theorem Na{a:List RD}(ha:vR a): ∀(i n:Nat),n≤4000000000000000→H' (a.drop i) n≤4000000000000000:=by
 intro i;obtain⟨hl,hw⟩:=ha;unfold big at hw
 suffices h: ∀(k i n:Nat),a.length-i≤k→n≤4000000000000000→H' (a.drop i) n≤4000000000000000 from fun n hn=>h (a.length-i) i n (al _) hn
 intro k
 induction k with
 |zero =>
  intro i n hi hn;rw[ej (by omega)];exact hn
 |succ k ih =>
  intro i n hi hn;by_cases hia:i<a.length
  ·rw[DZ hia];show(if n<100 then _ else n)≤_;split
   ·have w1:=(hw i).2.2.1;have w2:=(hw i).2.2.2;exact ih (i+1) _ (by omega) (by omega)
   ·exact hn
  ·rw[ej (by omega)];exact hn
theorem sd{a:List RD}(ha:vR a):eU a≤4000000000000000:=Na ha 0 0 (by decide)
theorem BH{f:Nat→Nat}{n M:Nat}(hn:n≤M)(hf: ∀k,f k≤M): ∀k,ua f n k≤M
 |0=>hn
 |k+1=>by have:=BH hn hf k;have:=hf k;show max (ua f n k) (f k)≤M;omega
theorem An(a b:Nat):(if (b:Int)>(a:Int)then(b:Int)else(a:Int))=((max a b:Nat):Int):=LF a b
theorem xX(l:Lkg)(a:Asm){K:Nat}(hl:l.ok K)(hK:K≤big)(ha:AsB a):Pure Tryz.prog 12 [l.D,a.D] (dB (rD l a)):=by
 refine qJ 172 Tryz.func12 rfl fun B F0 w0=>?_;have hnb:=hl.nb;have hnj:=hl.nj;have hnd:=hl.nd;have hlb:=hl.b;obtain⟨hrl,har,hbl,hc,hs,hx,hy⟩:=ha;have zr:=fun i=>hC _ (har i);have zc:=fun i=>hC _ (hc i);have zs:=fun i=>hC _ (hs i);have zx:=fun i=>hC _ (hx i);have zy:=fun i=>hC _ (hy i);have yr:=fun i=>sd (har i);have yc:=fun i=>sd (hc i);have ys:=fun i=>sd (hs i);have yx:=fun i=>sd (hx i);have yy:=fun i=>sd (hy i);clear har hc hs hx hy hl;unfold rD KQ Pk;obtain⟨ln,lb,js,lds⟩:=l;obtain⟨rt,bs,md⟩:=a;simp only[]at *;unfold big at hnb hnj hnd hrl hbl hK;show AW _ _ _ _ _ _ _ (fh 0 [D.ag [dS ln,aI lb,aE js,aF lds],D.ag [.sl 1 (rt.map bo),.sl 4 (bs.map fp.D),.sl 1 (md.map (fun n=>dI n))]]);obtain⟨E,hE⟩: ∃E,(decide (6<lb.length∧lb.length≤8∨8<js.length∧js.length≤16∨40<lb.length∨40<js.length∨40<lds.length∨40<bs.length∨2<rt.length)||fT (Np lb) (lb.length-0) 0||decide (((16:Int) -4*(rt.length:Int))<((oT bs (ua (fun i=>eU (rt.getD i [])) (tn lb lb.length) rt.length) bs.length:Nat):Int)))=E:=⟨_,rfl⟩;rw[hE]
 have wB: ∀i,tn lb i≤4000000000000000:=fun i=>by
  induction i with
  |zero=>exact am _
  |succ i ih =>
   refine BH ih (fun k=>?_) _;obtain⟨_,h1,h2⟩:=(hlb i).2.2 k;have a1:=h1.2.2.1;have a2:=h1.2.2.2;have a3:=h2.2.2.1;have a4:=h2.2.2.2;unfold BL;omega
 have wM: ∀i k,ua (fun k=>BL ((lb.getD i default).pts.getD k default)) (tn lb i) k≤4000000000000000:=fun i k=>BH (wB i) (fun k=>by
   obtain⟨_,h1,h2⟩:=(hlb i).2.2 k;have a1:=h1.2.2.1;have a2:=h1.2.2.2;have a3:=h2.2.2.1;have a4:=h2.2.2.2;unfold BL
   omega) k
 refine qX 3 rfl<|ae.nil ?_;refine AW.cut [2,3] (fun _:Unit=>[(2,.bx [dS ln,aI lb,aE js,aF lds]),(3,.bx [.sl 1 (rt.map bo),.sl 4 (bs.map fp.D),.sl 1 (md.map (fun n=>dI n))])]) (fun _=> ¬(6<lb.length∧lb.length≤8∨8<js.length∧js.length≤16∨40<lb.length∨40<js.length∨40<lds.length∨40<bs.length∨2<rt.length)) ?_ fun _ hc=>?_
 ·refine qX 3 rfl ?_;rw[ab];refine qU 1 rfl ?_;by_cases c1:6<lb.length
  ·rw[aN (show(6:Int)<(lb.length:Int) by omega)];refine qU 4 rfl ?_;rw[ab];refine qU 1 rfl ?_;by_cases c2:lb.length≤8
   ·rw[aN (show(lb.length:Int)≤(8:Int) by omega)];refine qU 44 rfl<|ae.nil ?_;have hEt:E=true:=by rw[←hE,aN (by omega)];rfl
    subst hEt;exact AW.aH rfl<|qX 1 rfl<|qN rfl
   rw[a5 (show ¬(lb.length:Int)≤(8:Int) by omega)];refine qU 2 rfl<|qU 3 rfl ?_;rw[ab];refine qU 1 rfl ?_;by_cases c3:8<js.length
   ·rw[aN (show(8:Int)<(js.length:Int) by omega)];refine qU 4 rfl ?_;rw[ab];refine qU 1 rfl ?_;by_cases c4:js.length≤16
    ·rw[aN (show(js.length:Int)≤(16:Int) by omega)];refine qU 33 rfl<|ae.nil ?_;have hEt:E=true:=by rw[←hE,aN (by omega)];rfl
     subst hEt;exact AW.aH rfl<|qX 1 rfl<|qN rfl
    rw[a5 (show ¬(js.length:Int)≤(16:Int) by omega)];refine qU 3 rfl<|qU 3 rfl ?_;rw[ab];refine qU 1 rfl ?_;by_cases c5:40<lb.length
    ·rw[aN (show(40:Int)<(lb.length:Int) by omega)];refine qU 26 rfl<|ae.nil ?_;have hEt:E=true:=by rw[←hE,aN (by omega)];rfl
     subst hEt;exact AW.aH rfl<|qX 1 rfl<|qN rfl
    rw[a5 (show ¬(40:Int)<(lb.length:Int) by omega)];refine qU 2 rfl<|qU 3 rfl ?_;rw[ab];refine qU 1 rfl ?_;by_cases c6:40<js.length
    ·rw[aN (show(40:Int)<(js.length:Int) by omega)];refine qU 20 rfl<|ae.nil ?_;have hEt:E=true:=by rw[←hE,aN (by omega)];rfl
     subst hEt;exact AW.aH rfl<|qX 1 rfl<|qN rfl
    rw[a5 (show ¬(40:Int)<(js.length:Int) by omega)];refine qU 2 rfl<|qU 3 rfl ?_;rw[ab];refine qU 1 rfl ?_;by_cases c7:40<lds.length
    ·rw[aN (show(40:Int)<(lds.length:Int) by omega)];refine qU 14 rfl<|ae.nil ?_;have hEt:E=true:=by rw[←hE,aN (by omega)];rfl
     subst hEt;exact AW.aH rfl<|qX 1 rfl<|qN rfl
    rw[a5 (show ¬(40:Int)<(lds.length:Int) by omega)];refine qU 2 rfl<|qU 3 rfl ?_;rw[ab];refine qU 1 rfl ?_;by_cases c8:40<bs.length
    ·rw[aN (show(40:Int)<(bs.length:Int) by omega)];refine qU 8 rfl<|ae.nil ?_;have hEt:E=true:=by rw[←hE,aN (by omega)];rfl
     subst hEt;exact AW.aH rfl<|qX 1 rfl<|qN rfl
    rw[a5 (show ¬(40:Int)<(bs.length:Int) by omega)];refine qU 2 rfl<|qU 4 rfl ?_;rw[ab];refine qU 1 rfl ?_;by_cases c9:2<rt.length
    ·rw[aN (show(2:Int)<(rt.length:Int) by omega)];refine qU 1 rfl<|ae.nil ?_;have hEt:E=true:=by rw[←hE,aN (by omega)];rfl
     subst hEt;exact AW.aH rfl<|qX 1 rfl<|qN rfl
    rw[a5 (show ¬(2:Int)<(rt.length:Int) by omega)];refine qU 1 rfl<|ae.nil<|AW.aC rfl<|AW.skip ?_;exact⟨(),rfl,by omega⟩
   rw[a5 (show ¬(8:Int)<(js.length:Int) by omega)];refine qU 8 rfl<|qU 3 rfl ?_;rw[ab];refine qU 1 rfl ?_;by_cases c5:40<lb.length
   ·rw[aN (show(40:Int)<(lb.length:Int) by omega)];refine qU 26 rfl<|ae.nil ?_;have hEt:E=true:=by rw[←hE,aN (by omega)];rfl
    subst hEt;exact AW.aH rfl<|qX 1 rfl<|qN rfl
   rw[a5 (show ¬(40:Int)<(lb.length:Int) by omega)];refine qU 2 rfl<|qU 3 rfl ?_;rw[ab];refine qU 1 rfl ?_;by_cases c6:40<js.length
   ·rw[aN (show(40:Int)<(js.length:Int) by omega)];refine qU 20 rfl<|ae.nil ?_;have hEt:E=true:=by rw[←hE,aN (by omega)];rfl
    subst hEt;exact AW.aH rfl<|qX 1 rfl<|qN rfl
   rw[a5 (show ¬(40:Int)<(js.length:Int) by omega)];refine qU 2 rfl<|qU 3 rfl ?_;rw[ab];refine qU 1 rfl ?_;by_cases c7:40<lds.length
   ·rw[aN (show(40:Int)<(lds.length:Int) by omega)];refine qU 14 rfl<|ae.nil ?_;have hEt:E=true:=by rw[←hE,aN (by omega)];rfl
    subst hEt;exact AW.aH rfl<|qX 1 rfl<|qN rfl
   rw[a5 (show ¬(40:Int)<(lds.length:Int) by omega)];refine qU 2 rfl<|qU 3 rfl ?_;rw[ab];refine qU 1 rfl ?_;by_cases c8:40<bs.length
   ·rw[aN (show(40:Int)<(bs.length:Int) by omega)];refine qU 8 rfl<|ae.nil ?_;have hEt:E=true:=by rw[←hE,aN (by omega)];rfl
    subst hEt;exact AW.aH rfl<|qX 1 rfl<|qN rfl
   rw[a5 (show ¬(40:Int)<(bs.length:Int) by omega)];refine qU 2 rfl<|qU 4 rfl ?_;rw[ab];refine qU 1 rfl ?_;by_cases c9:2<rt.length
   ·rw[aN (show(2:Int)<(rt.length:Int) by omega)];refine qU 1 rfl<|ae.nil ?_;have hEt:E=true:=by rw[←hE,aN (by omega)];rfl
    subst hEt;exact AW.aH rfl<|qX 1 rfl<|qN rfl
   rw[a5 (show ¬(2:Int)<(rt.length:Int) by omega)];refine qU 1 rfl<|ae.nil<|AW.aC rfl<|AW.skip ?_;exact⟨(),rfl,by omega⟩
  rw[a5 (show ¬(6:Int)<(lb.length:Int) by omega)];refine qU 7 rfl<|qU 3 rfl ?_;rw[ab];refine qU 1 rfl ?_;by_cases c3:8<js.length
  ·rw[aN (show(8:Int)<(js.length:Int) by omega)];refine qU 4 rfl ?_;rw[ab];refine qU 1 rfl ?_;by_cases c4:js.length≤16
   ·rw[aN (show(js.length:Int)≤(16:Int) by omega)];refine qU 33 rfl<|ae.nil ?_;have hEt:E=true:=by rw[←hE,aN (by omega)];rfl
    subst hEt;exact AW.aH rfl<|qX 1 rfl<|qN rfl
   rw[a5 (show ¬(js.length:Int)≤(16:Int) by omega)];refine qU 3 rfl<|qU 3 rfl ?_;rw[ab];refine qU 1 rfl ?_;by_cases c5:40<lb.length
   ·rw[aN (show(40:Int)<(lb.length:Int) by omega)];refine qU 26 rfl<|ae.nil ?_;have hEt:E=true:=by rw[←hE,aN (by omega)];rfl
    subst hEt;exact AW.aH rfl<|qX 1 rfl<|qN rfl
   rw[a5 (show ¬(40:Int)<(lb.length:Int) by omega)];refine qU 2 rfl<|qU 3 rfl ?_;rw[ab];refine qU 1 rfl ?_;by_cases c6:40<js.length
   ·rw[aN (show(40:Int)<(js.length:Int) by omega)];refine qU 20 rfl<|ae.nil ?_;have hEt:E=true:=by rw[←hE,aN (by omega)];rfl
    subst hEt;exact AW.aH rfl<|qX 1 rfl<|qN rfl
   rw[a5 (show ¬(40:Int)<(js.length:Int) by omega)];refine qU 2 rfl<|qU 3 rfl ?_;rw[ab];refine qU 1 rfl ?_;by_cases c7:40<lds.length
   ·rw[aN (show(40:Int)<(lds.length:Int) by omega)];refine qU 14 rfl<|ae.nil ?_;have hEt:E=true:=by rw[←hE,aN (by omega)];rfl
    subst hEt;exact AW.aH rfl<|qX 1 rfl<|qN rfl
   rw[a5 (show ¬(40:Int)<(lds.length:Int) by omega)];refine qU 2 rfl<|qU 3 rfl ?_;rw[ab];refine qU 1 rfl ?_;by_cases c8:40<bs.length
   ·rw[aN (show(40:Int)<(bs.length:Int) by omega)];refine qU 8 rfl<|ae.nil ?_;have hEt:E=true:=by rw[←hE,aN (by omega)];rfl
    subst hEt;exact AW.aH rfl<|qX 1 rfl<|qN rfl
   rw[a5 (show ¬(40:Int)<(bs.length:Int) by omega)];refine qU 2 rfl<|qU 4 rfl ?_;rw[ab];refine qU 1 rfl ?_;by_cases c9:2<rt.length
   ·rw[aN (show(2:Int)<(rt.length:Int) by omega)];refine qU 1 rfl<|ae.nil ?_;have hEt:E=true:=by rw[←hE,aN (by omega)];rfl
    subst hEt;exact AW.aH rfl<|qX 1 rfl<|qN rfl
   rw[a5 (show ¬(2:Int)<(rt.length:Int) by omega)];refine qU 1 rfl<|ae.nil<|AW.aC rfl<|AW.skip ?_;exact⟨(),rfl,by omega⟩
  rw[a5 (show ¬(8:Int)<(js.length:Int) by omega)];refine qU 8 rfl<|qU 3 rfl ?_;rw[ab];refine qU 1 rfl ?_;by_cases c5:40<lb.length
  ·rw[aN (show(40:Int)<(lb.length:Int) by omega)];refine qU 26 rfl<|ae.nil ?_;have hEt:E=true:=by rw[←hE,aN (by omega)];rfl
   subst hEt;exact AW.aH rfl<|qX 1 rfl<|qN rfl
  rw[a5 (show ¬(40:Int)<(lb.length:Int) by omega)];refine qU 2 rfl<|qU 3 rfl ?_;rw[ab];refine qU 1 rfl ?_;by_cases c6:40<js.length
  ·rw[aN (show(40:Int)<(js.length:Int) by omega)];refine qU 20 rfl<|ae.nil ?_;have hEt:E=true:=by rw[←hE,aN (by omega)];rfl
   subst hEt;exact AW.aH rfl<|qX 1 rfl<|qN rfl
  rw[a5 (show ¬(40:Int)<(js.length:Int) by omega)];refine qU 2 rfl<|qU 3 rfl ?_;rw[ab];refine qU 1 rfl ?_;by_cases c7:40<lds.length
  ·rw[aN (show(40:Int)<(lds.length:Int) by omega)];refine qU 14 rfl<|ae.nil ?_;have hEt:E=true:=by rw[←hE,aN (by omega)];rfl
   subst hEt;exact AW.aH rfl<|qX 1 rfl<|qN rfl
  rw[a5 (show ¬(40:Int)<(lds.length:Int) by omega)];refine qU 2 rfl<|qU 3 rfl ?_;rw[ab];refine qU 1 rfl ?_;by_cases c8:40<bs.length
  ·rw[aN (show(40:Int)<(bs.length:Int) by omega)];refine qU 8 rfl<|ae.nil ?_;have hEt:E=true:=by rw[←hE,aN (by omega)];rfl
   subst hEt;exact AW.aH rfl<|qX 1 rfl<|qN rfl
  rw[a5 (show ¬(40:Int)<(bs.length:Int) by omega)];refine qU 2 rfl<|qU 4 rfl ?_;rw[ab];refine qU 1 rfl ?_;by_cases c9:2<rt.length
  ·rw[aN (show(2:Int)<(rt.length:Int) by omega)];refine qU 1 rfl<|ae.nil ?_;have hEt:E=true:=by rw[←hE,aN (by omega)];rfl
   subst hEt;exact AW.aH rfl<|qX 1 rfl<|qN rfl
  rw[a5 (show ¬(2:Int)<(rt.length:Int) by omega)];refine qU 1 rfl<|ae.nil<|AW.aC rfl<|AW.skip ?_;exact⟨(),rfl,by omega⟩
 ·rw[a5 hc,ip]at hE;obtain⟨G,hG⟩: ∃G,fT (Np lb) (lb.length-0) 0=G:=⟨_,rfl⟩;rw[hG]at hE;show AW _ _ _ _ _ _ _ [(2,.bx [dS ln,aI lb,aE js,aF lds]),(3,.bx [.sl 1 (rt.map bo),.sl 4 (bs.map fp.D),.sl 1 (md.map (fun n=>dI n))])];refine qX 1 rfl<|qI<|qX 1 rfl<|ae.nil<|AW.block ?_;refine AW.aK [2,3,5,6] (fun i:Nat=>[(2,.bx [dS ln,aI lb,aE js,aF lds]),(3,.bx [.sl 1 (rt.map bo),.sl 4 (bs.map fp.D),.sl 1 (md.map (fun n=>dI n))]),(5,.d (dI (tn lb i))),(6,.d (dI i))]) (fun i=>i≤lb.length∧fT (Np lb) (lb.length-i) i=G) (fun i=>lb.length-i) 0 rfl ⟨am _,hG⟩ fun i ⟨hi,hiG⟩=>?_
  ·show AW _ _ _ _ _ _ _ [(2,.bx [dS ln,aI lb,aE js,aF lds]),(3,.bx [.sl 1 (rt.map bo),.sl 4 (bs.map fp.D),.sl 1 (md.map (fun n=>dI n))]),(5,.d (dI (tn lb i))),(6,.d (dI i))];refine AW.seq<|qX 4 rfl ?_;rw[ab];refine qU 1 rfl<|ae.nil<|AW.cond rfl (fun h=>?_) fun h=>?_
   ·have hin:i<lb.length:=by have:=ao h;omega
    have gB:=getM Body.D hin;have hpl:=(hlb i).2.1;have hmk:=fun k=>(hlb i).2.2 k;have wMi:=wM i;have hhit:=fun h0:Np lb i=true=>(gv hin h0).symm.trans hiG;have hmiss:=fun h0:Np lb i=false=>(fj hin h0).symm.trans hiG;have hpb:Np lb i=decide (40<(lb.getD i default).pts.length):=rfl;have hnx:tn lb (i+1)=ua (fun k=>BL ((lb.getD i default).pts.getD k default)) (tn lb i) (lb.getD i default).pts.length:=rfl;generalize lb.getD i default=Bd at *;unfold big at hpl;refine AW.skip<|AW.seq<|AW.block<|AW.seq<|qX 3 rfl<|ae.idx tok Bd.D rfl rfl rfl rfl (ad i) gB ?_;refine qU 3 rfl ?_;rw[ab];refine qU 1 rfl<|ae.nil<|AW.cond rfl (fun h=>?_) fun h=>?_
    ·have h40:40<Bd.pts.length:=by have:=ao h;omega
     rw[aN h40]at hpb;have:=hhit hpb;subst this;have hEt:E=true:=by rw[←hE];rfl
     subst hEt;exact qX 1 rfl<|qN rfl
    ·have h40: ¬40<Bd.pts.length:=by have:=ar h;omega
     rw[a5 h40]at hpb;refine AW.skip<|qX 1 rfl<|ae.nil<|AW.block ?_;refine AW.aK [2,3,5,6,7] (fun k:Nat=>[(2,.bx [dS ln,aI lb,aE js,aF lds]),(3,.bx [.sl 1 (rt.map bo),.sl 4 (bs.map fp.D),.sl 1 (md.map (fun n=>dI n))]),(5,.d (dI (ua (fun k=>BL (Bd.pts.getD k default)) (tn lb i) k))),(6,.d (dI i)),(7,.d (dI k))]) (fun k=>k≤Bd.pts.length) (fun k=>Bd.pts.length-k) 0 rfl (am _) fun k hk=>?_
     ·show AW _ _ _ _ _ _ _ [(2,.bx [dS ln,aI lb,aE js,aF lds]),(3,.bx [.sl 1 (rt.map bo),.sl 4 (bs.map fp.D),.sl 1 (md.map (fun n=>dI n))]),(5,.d (dI (ua (fun k=>BL (Bd.pts.getD k default)) (tn lb i) k))),(6,.d (dI i)),(7,.d (dI k))];refine AW.seq<|qX 4 rfl<|ae.idx tok Bd.D rfl rfl rfl rfl (ad i) gB ?_;refine qU 3 rfl ?_;rw[ab];refine qU 1 rfl<|ae.nil<|AW.cond rfl (fun h=>?_) fun h=>?_
      ·have hkn:k<Bd.pts.length:=by have:=ao h;omega
       have gM:=getM Mark.D hkn;have hmk:=hmk k;have wMi:=wMi k;have hms:ua (fun k=>BL (Bd.pts.getD k default)) (tn lb i) (k+1)=max (ua (fun k=>BL (Bd.pts.getD k default)) (tn lb i) k) (BL (Bd.pts.getD k default)):=rfl;generalize ua (fun k=>BL (Bd.pts.getD k default)) (tn lb i) k=n at *;generalize Bd.pts.getD k default=p at gM hms hmk;obtain⟨pn,⟨xg,xn,xd⟩,⟨yg,yn,yd⟩⟩:=p;obtain⟨_,h1,h2⟩:=hmk;have a1:xn.length≤K:=h1.2.2.1;have a2:xd.length≤K:=h1.2.2.2;have a3:yn.length≤K:=h2.2.2.1;have a4:yd.length≤K:=h2.2.2.2;have hmw:BL ⟨pn,⟨xg,xn,xd⟩,⟨yg,yn,yd⟩⟩=xn.length+xd.length+yn.length+yd.length:=rfl;rw[hmw]at hms;refine AW.skip<|AW.seq<|AW.block<|qX 3 rfl<|ae.idx tok Bd.D rfl rfl rfl rfl (ad i) gB ?_;refine qU 3 rfl<|ae.idx tok (Mark.D ⟨pn,⟨xg,xn,xd⟩,⟨yg,yn,yd⟩⟩) rfl rfl rfl rfl (ad k) gM ?_;refine qU 3 rfl<|ae.nil<|qT 5 rfl ?_;rw[bf];refine qU 4 rfl ?_;rw[bf];refine qU 1 rfl ?_;rw[aD (x:=(xn.length:Int)+(xd.length:Int)) (by omega) (by omega)];refine qU 4 rfl ?_;rw[bf];refine qU 1 rfl ?_;rw[aD (x:=(xn.length:Int)+(xd.length:Int)+(yn.length:Int)) (by omega) (by omega)];refine qU 4 rfl ?_;rw[bf];refine qU 1 rfl ?_;rw[aD (x:=(xn.length:Int)+(xd.length:Int)+(yn.length:Int)+(yd.length:Int)) (by omega) (by omega),show(xn.length:Int)+(xd.length:Int)+(yn.length:Int)+(yd.length:Int)=((xn.length+xd.length+yn.length+yd.length:Nat):Int) by omega];refine qU 1 rfl ?_;rw[An,←hms];refine qU 1 rfl<|ae.nil<|qT 2 rfl ?_;rw[aD (x:=(k:Int)+1) (by omega) (by omega)];refine qU 1 rfl<|ae.nil ?_;exact⟨k+1,rfl,hkn,by omega⟩
      have hkn:k=Bd.pts.length:=by have:=ar h;omega
      subst hkn;rw[←hnx];refine AW.exit<|qT 2 rfl ?_;rw[aD (x:=(i:Int)+1) (by omega) (by omega)];refine qU 1 rfl<|ae.nil ?_;exact⟨i+1,rfl,⟨hin,hmiss hpb⟩,by omega⟩
   have hin:i=lb.length:=by have:=ar h;omega
   subst hin;rw[gw (ga _)]at hiG;subst hiG;rw[ip]at hE;have wB:=wB lb.length;generalize tn lb lb.length=N1 at *;have wR:=fun k=>BH (f:=fun i=>eU (rt.getD i [])) wB (fun i=>yr i) k;refine AW.exit<|AW.seq<|qX 1 rfl<|ae.nil<|AW.block ?_;refine AW.aK [2,3,5,9] (fun i:Nat=>[(2,.bx [dS ln,aI lb,aE js,aF lds]),(3,.bx [.sl 1 (rt.map bo),.sl 4 (bs.map fp.D),.sl 1 (md.map (fun n=>dI n))]),(5,.d (dI (ua (fun i=>eU (rt.getD i [])) N1 i))),(9,.d (dI i))]) (fun i=>i≤rt.length) (fun i=>rt.length-i) 0 rfl (am _) fun i hi=>?_
   ·show AW _ _ _ _ _ _ _ [(2,.bx [dS ln,aI lb,aE js,aF lds]),(3,.bx [.sl 1 (rt.map bo),.sl 4 (bs.map fp.D),.sl 1 (md.map (fun n=>dI n))]),(5,.d (dI (ua (fun i=>eU (rt.getD i [])) N1 i))),(9,.d (dI i))];refine AW.seq<|qX 5 rfl ?_;rw[ab];refine qU 1 rfl<|ae.nil<|AW.cond rfl (fun h=>?_) fun h=>?_
    ·have hin:i<rt.length:=by have:=ao h;omega
     have gR:=getM bo hin;have zri:=zr i;have hms:ua (fun i=>eU (rt.getD i [])) N1 (i+1)=max (ua (fun i=>eU (rt.getD i [])) N1 i) (eU (rt.getD i [])):=rfl;refine AW.skip<|AW.seq<|AW.block<|qT 5 rfl<|ae.idx tok (bo (rt.getD i [])) rfl rfl rfl rfl (ad i) gR ?_;refine qU 1 rfl<|qM rfl zri<|qU 1 rfl ?_;rw[An,←hms];refine qU 1 rfl<|ae.nil<|qT 2 rfl ?_;rw[aD (x:=(i:Int)+1) (by omega) (by omega)];refine qU 1 rfl<|ae.nil ?_;exact⟨i+1,rfl,hin,by omega⟩
    have hin:i=rt.length:=by have:=ar h;omega
    subst hin;have wR:=wR rt.length;generalize ua (fun i=>eU (rt.getD i [])) N1 rt.length=N2 at *
    have wP: ∀i,oT bs N2 i≤4000000000000000:=fun i=>by
     induction i with
     |zero=>exact wR
     |succ i ih =>
      have h1:=yc i;have h2:=ys i;have h3:=yx i;have h4:=yy i;show max (max (max (max (oT bs N2 i) _) _) _) _≤_;omega
    refine AW.exit<|AW.seq<|qX 1 rfl<|ae.nil<|AW.block ?_;refine AW.aK [2,3,5,10] (fun i:Nat=>[(2,.bx [dS ln,aI lb,aE js,aF lds]),(3,.bx [.sl 1 (rt.map bo),.sl 4 (bs.map fp.D),.sl 1 (md.map (fun n=>dI n))]),(5,.d (dI (oT bs N2 i))),(10,.d (dI i))]) (fun i=>i≤bs.length) (fun i=>bs.length-i) 0 rfl (am _) fun i hi=>?_
    ·show AW _ _ _ _ _ _ _ [(2,.bx [dS ln,aI lb,aE js,aF lds]),(3,.bx [.sl 1 (rt.map bo),.sl 4 (bs.map fp.D),.sl 1 (md.map (fun n=>dI n))]),(5,.d (dI (oT bs N2 i))),(10,.d (dI i))];refine AW.seq<|qX 4 rfl ?_;rw[ab];refine qU 1 rfl<|ae.nil<|AW.cond rfl (fun h=>?_) fun h=>?_
     ·have hin:i<bs.length:=by have:=ao h;omega
      have gP:=getM fp.D hin;have zc:=zc i;have zs:=zs i;have zx:=zx i;have zy:=zy i;have hms:oT bs N2 (i+1)=max (max (max (max (oT bs N2 i) (eU (bs.getD i default).c)) (eU (bs.getD i default).s)) (eU (bs.getD i default).x)) (eU (bs.getD i default).y):=rfl;generalize bs.getD i default=p at *;obtain⟨pc,ps,px,py⟩:=p;simp only[]at zc zs zx zy hms;refine AW.skip<|AW.seq<|AW.block<|qX 3 rfl<|ae.idx tok (fp.D ⟨pc,ps,px,py⟩) rfl rfl rfl rfl (ad i) gP ?_;refine qU 3 rfl<|ae.nil<|AW.draw aO 14 (by kernel_rfl) ?_;refine qP 3 rfl<|qQ rfl zc<|qP 2 rfl<|qQ rfl zs<|qP 2 rfl<|qQ rfl zx<|qP 2 rfl<|qQ rfl zy<|qP 1 rfl ?_;rw[An,An,An,An,←hms];refine ai.nil<|qU 1 rfl<|ae.nil<|qT 2 rfl ?_;rw[aD (x:=(i:Int)+1) (by omega) (by omega)];refine qU 1 rfl<|ae.nil ?_;exact⟨i+1,rfl,hin,by omega⟩
     have hin:i=bs.length:=by have:=ar h;omega
     subst hin;refine AW.exit<|qX 5 rfl ?_;rw[ab];refine qU 1 rfl ?_;rw[aD (x:=4*(rt.length:Int)) (by omega) (by omega)];refine qU 1 rfl ?_;rw[aD (x:=16-4*(rt.length:Int)) (by omega) (by omega)];refine qU 1 rfl ?_;rw[hE];exact qU 1 rfl<|qN rfl
theorem Cx:RT Tryz.prog 52 (List RD) (fun l=>[bo l]) (fun l=>vR l) :=
 (RT.sliceB 32 (el:=RD.D) (s:=3) Tryz.underlying52 (by kernel_rfl) (by kernel_rfl) (by decide) (b0 (by kernel_rfl)) Ih (fun v=>rfl)).map id (fun l h=>rfl) (fun l h=>⟨by have:=h.1;unfold reachBytes at this;show l.length≤_;omega,l4 (fun v hv=>(h.2 v hv).mono (by decide)) ⟨fun _ h=>(by cases h),fun _ h=>(by cases h),am _,am _⟩⟩) (fun v=>⟨by kernel_rfl,fun d hd=>by simp at hd;subst hd;rfl⟩)
theorem M4:RT Tryz.prog 27 (List (List RD)) (fun l=>[.sl 1 (l.map bo)]) (fun l=>l.length≤reachBytes∧ ∀v∈l,vR v) :=
 RT.slice (el:=bo) (s:=1) (by kernel_rfl) (by kernel_rfl) (by kernel_rfl) (by decide) (b0 (by kernel_rfl)) Cx (fun v=>rfl)
theorem KY:RT Tryz.prog 29 (List (List RD)) (fun l=>[.sl 1 (l.map bo)]) (fun l=>l.length≤reachBytes∧ ∀v∈l,vR v):=by have h:=RT.struct (P:=Tryz.prog) (t:=29) (m:=1) Tryz.underlying29 (by kernel_rfl) (l7.cons (by kernel_rfl) M4 l7.nil) (fun v=>rfl);exact h.map (fun v=>v.1) (fun v h=>rfl) (fun v h=>h.1) fun v=>⟨by kernel_rfl,fun d hd=>by simp at hd;subst hd;rfl⟩
def fp.nb(p:fp):Prop:=vR p.c∧vR p.s∧vR p.x∧vR p.y
theorem Ii:RT Tryz.prog 73 fp (fun p=>p.D.flat) (fun p=>p.nb):=by
 have h:=RT.struct (P:=Tryz.prog) (t:=73) (m:=4) Tryz.underlying73 (by kernel_rfl) (l7.cons (by kernel_rfl) Cx (l7.cons (by kernel_rfl) Cx (l7.cons (by kernel_rfl) Cx (l7.cons (by kernel_rfl) Cx l7.nil)))) (fun v=>rfl)
 exact h.map (fun v=>⟨v.1,v.2.1,v.2.2.1,v.2.2.2.1⟩) (fun v h=>rfl) (fun v h=>⟨h.1,h.2.1,h.2.2.1,h.2.2.2.1⟩) (fun v=>⟨by kernel_rfl,fun d hd=>by
  simp only[D.flat,ik,hM,or_false]at hd
  rcases hd with rfl|rfl|rfl|rfl<;>rfl⟩)
theorem Hl:RT Tryz.prog 30 (List fp) (fun l=>[.sl 4 (l.map fp.D)]) (fun l=>l.length≤reachBytes∧ ∀v∈l,v.nb) :=
 RT.slice (el:=fp.D) (s:=4) (by kernel_rfl) (by kernel_rfl) (by kernel_rfl) (by decide) (b0 (by kernel_rfl)) Ii (fun v=>rfl)
theorem K3:RT Tryz.prog 31 (List Int) (fun l=>[.sl 1 (l.map (fun n=>dI n))]) (fun _=>True) :=
 (RT.slice (el:=fun n:Int=>dI n) (s:=1) (by kernel_rfl) (by kernel_rfl) (by kernel_rfl) (by decide) (b0 (by kernel_rfl)) uN (fun v=>rfl)).map id (fun l h=>rfl) (fun l h=>trivial) (fun v=>⟨by kernel_rfl,fun d hd=>by simp at hd;subst hd;rfl⟩)
theorem vR.nil:vR []:=⟨am _,fun i=>⟨fun _ h=>(by cases h),fun _ h=>(by cases h),am _,am _⟩⟩
theorem u_assembly:RT Tryz.prog 33 Asm (fun a=>a.D.flat) (fun a=>AsB a):=by
 have h:=RT.struct (P:=Tryz.prog) (t:=33) (m:=3) Tryz.underlying33 (by kernel_rfl) (l7.cons (by kernel_rfl) KY (l7.cons (by kernel_rfl) Hl (l7.cons (by kernel_rfl) K3 l7.nil))) (fun v=>rfl)
 refine h.map (fun v=>⟨v.1,v.2.1,v.2.2.1⟩) (fun v h=>rfl) (fun v h=>?_) (fun v=>⟨by kernel_rfl,fun d hd=>by
  simp only[D.flat,ik,hM,or_false]at hd
  rcases hd with rfl|rfl|rfl<;>rfl⟩)
 have hp:=fun i=>l4 h.2.1.2 ⟨vR.nil,vR.nil,vR.nil,vR.nil⟩ i;refine⟨bn h.1.1 (by decide),fun i=>?_,bn h.2.1.1 (by decide),fun i=>(hp i).1,fun i=>(hp i).2.1,fun i=>(hp i).2.2.1,fun i=>(hp i).2.2.2⟩;exact l4 (p:=vR) (l:=v.1) h.1.2 vR.nil i
theorem sF(n:Nat)(r:D)(hn:n≤4611686018427387904)(h1: ∀i:Nat,i≤5→n=2^i→r= .tu [dI i,dB true])(h2:(∀i:Nat,i≤5→n≠2^i)→r= .tu [dI 0,dB false]):Pure Tryz.prog 113 [dI n] r:=by
 refine qJ 14 Tryz.func113 rfl fun B0 F0 w0=>?_;refine qX 2 rfl<|qI<|qX 1 rfl<|ae.nil ?_;refine AW.block<|AW.aK [0,5] (fun k:Nat=>[(0,.d (dI n)),(5,.d (dI k))]) (fun k=>k≤6∧ ∀j,j<k→n≠2^j) (fun k=>6-k) 0 rfl ⟨am _,fun j hj=>by omega⟩ fun k ⟨hk,hi⟩=>?_;refine qX 1 rfl ?_;refine qI<|AW.cond rfl (fun h=>?_) fun h=>?_;rotate_left
 ·have hkk:k=6:=by have:=ar h;omega
  subst hkk;rw[h2 (fun i hi5=>hi i (by omega))];exact AW.exit<|qX 2 rfl<|qN rfl
 have hkk:k<6:=by have:=ao h;omega
 refine AW.skip<|AW.seq<|AW.block<|qX 2 rfl<|qK 3 rfl ?_;rw[CM (by omega)];refine qU 1 rfl<|ae.nil ?_;by_cases hp:n=2^k
 ·rw[h1 k (by omega) hp,beq_iff_eq.2 (show(n:Int)=((2^k:Nat):Int) by rw[hp])];exact AW.aH rfl<|qX 3 rfl<|qN rfl
 rw[beq_eq_false_iff_ne.2 (show(n:Int)≠((2^k:Nat):Int) by omega)];refine AW.aC rfl<|AW.skip<|qT 1 rfl ?_;rw[aD (x:=(k:Int)+1) (by omega) (by omega)];refine qU 1 rfl<|ae.nil ?_
 exact⟨k+1,rfl,⟨hkk,fun j hj=>by
  by_cases e:j=k
  ·rw[e];exact hp
  ·exact hi j (by omega)⟩,by omega⟩
theorem gZ(h:n=2^i)(hi:i≤5):Pure Tryz.prog 113 [dI n] (.tu [dI i,dB true]):=by have hp:2^i≤2^5:=bz (by decide) hi;refine sF n _ (by omega) (fun j hj e=>?_) fun hn=>aG h<|hn i hi;have h1:=iZ (i2 (h.symm.trans e));have h3:=iZ (i2 (e.symm.trans h));rw[show j=i by omega]
theorem qq(h: ∀i:Nat,i≤5→n≠2^i)(hn:n≤4611686018427387904):Pure Tryz.prog 113 [dI n] (.tu [dI 0,dB false]) :=
 sF n _ hn (fun i hi e=>aG e (h i hi)) (fun _=>rfl)
theorem me(m:Nat)(a:List RD)(hm5:m≤5)(hw:FO m a→wN k a)(hk:k≤17300000000000)(hl:a.length≤4398046511104):Pure Tryz.prog 66 [dI m,bo a] (dI (bF m a)):=by
 refine qJ 37 Tryz.func66 rfl fun B0 F0 w0=>?_;have hno:=fun i hi=>Dt (l:=a) (i:=i) hi;have hyes:=Aj (l:=a);unfold bF;generalize lY a=E at hno hyes ⊢
 obtain⟨x,ok,cp,hok⟩: ∃(x:Nat) (ok:Bool),Pure Tryz.prog 113 [dI a.length] (.tu [dI x,dB ok])∧((ok=false∨m<x)↔E9 m a.length=false):=by
  by_cases hp: ∃i,i≤5∧a.length=2^i
  ·obtain⟨i,hi,hp⟩:=hp;refine⟨i,true,gZ hp hi,?_⟩;rw[hp,BM];constructor
   ·rintro (h|h)
    ·cases h
    ·exact a5 (by omega)
   ·intro h;right;have:=ar h;omega
  ·refine⟨0,false,qq (fun i hi e=>hp ⟨i,hi,e⟩) (by omega),?_⟩;constructor
   ·intro _;cases hv:E9 m a.length
    ·rfl
    ·obtain⟨i,h1,h2⟩:=Jv hv;exact aG ⟨i,by omega,h2⟩ hp
   ·intro _;exact .inl rfl
 refine qX 1 rfl<|qK 2 rfl ?_;rw[ab];refine qM rfl cp<|qU 5 rfl<|ae.nil ?_;refine AW.cut [1] (fun _:Unit=>[(1,.d (bo a))]) (fun _=> ¬(a.length≠0∧E9 m a.length=false)) ?_ fun _ hs=>?_
 ·refine qX 2 rfl ?_;rw[ab];refine qU 1 rfl ?_;by_cases h0:a.length=0
  ·rw[bne_eq_false_iff_eq.2 (show(a.length:Int)=0 by omega)];refine qU 9 rfl<|ae.nil<|AW.aC rfl<|AW.skip ?_;exact⟨(),rfl,fun h=>h.1 h0⟩
  rw[bne_iff_ne.2 (show(a.length:Int)≠0 by omega)];cases ok with
  |false =>
   have hb:=hok.1 (.inl rfl);rw[ah ⟨h0,hb⟩];exact qU 9 rfl<|ae.nil<|AW.aH rfl<|qX 1 rfl<|qN rfl
  |true =>
  refine qU 7 rfl ?_;by_cases hx:(m:Int)<(x:Int)
  ·rw[aN hx,ah ⟨h0,hok.1 (.inr (by omega))⟩];exact qU 2 rfl<|ae.nil<|AW.aH rfl<|qX 1 rfl<|qN rfl
  ·rw[a5 hx];refine qU 2 rfl<|ae.nil<|AW.aC rfl<|AW.skip ?_
   exact⟨(),rfl,fun h=>by
    rcases hok.2 h.2 with e|e
    ·cases e
    ·omega⟩
 rw[af hs];have hw:=hw hs;show AW _ _ _ _ _ _ _ [(1,.d (bo a))];refine AW.seq<|qX 2 rfl ?_;rw[ab];refine qU 1 rfl<|ae.nil ?_;refine AW.block<|AW.aK [27,28,29] (fun i:Nat=>[(27,.d (bo a)),(28,.d (dI a.length)),(29,.d (dI i))]) (fun i=>i≤a.length∧ ∀j,j<i→(a.getD j default).okB=true) (fun i=>a.length-i) 0 rfl ⟨am _,fun j hj=>by omega⟩ fun i ⟨hi,hall⟩=>?_;refine qX 1 rfl ?_;refine qI<|AW.cond rfl (fun h=>?_) fun h=>?_;rotate_left
 ·have hii:i=a.length:=by have:=ar h;omega
  subst hii;rw[hyes hall,af (by simp)];exact AW.exit<|qX 1 rfl<|qN rfl
 have hii:i<a.length:=by have:=ao h;omega
 have hg:=getM RD.D (l:=a) (i:=i) hii;have hno:=hno i hii;have cv:=kO (a.getD i default) (hw i hii) (by omega);refine AW.skip<|AW.seq<|AW.block<|AW.seq<|AW.region<|ae.idx tok (a.getD i default).D rfl rfl rfl rfl (ad i) hg ?_;refine qU 3 rfl<|qK 1 rfl<|qM rfl cv<|qU 1 rfl ?_;cases hv:(a.getD i default).okB with
 |false =>
  rw[hno hv,ah rfl];exact ae.nil<|AW.aH rfl<|qX 1 rfl<|qN rfl
 |true =>
 refine ae.nil<|AW.aC rfl<|AW.skip<|qT 1 rfl ?_;rw[aD (x:=(i:Int)+1) (by omega) (by omega)];refine qU 1 rfl<|ae.nil ?_
 exact⟨i+1,rfl,⟨hii,fun j hj=>by
  by_cases e:j=i
  ·subst e;exact hv
  ·exact hall j (by omega)⟩,by omega⟩
theorem sG(a:NQ)(hl:a.length≤1000000):Pure Tryz.prog 155 [ak a] (dB (bH a)):=by
 refine qJ 26 Tryz.func155 rfl fun B F0 w0=>?_;have hno:=fun i hi=>wF (a:=a) (i:=i) hi;have hyes:=tF (a:=a);generalize bH a=E at hno hyes ⊢;refine qX 1 rfl<|qI<|qX 2 rfl ?_;rw[ab];refine qU 1 rfl<|ae.nil<|AW.block ?_;refine AW.aK [5,6,7] (fun i:Nat=>[(5,.d (ak a)),(6,.d (dI a.length)),(7,.d (dI i))]) (fun i=> ∀j,j<i→j<a.length→a.getD j 0=0) (fun i=>a.length-i) 0 rfl (fun j h=>by omega) fun i hi=>?_
 ·show AW _ _ _ _ _ _ _ [(5,.d (ak a)),(6,.d (dI a.length)),(7,.d (dI i))];refine qX 1 rfl<|qI<|AW.cond rfl (fun h=>?_) fun h=>?_
  ·have hii:i<a.length:=by have:=ao h;omega
   have g:=nK hii;have hn:=hno i hii;have s0:=KL (a.getD i 0);generalize hq:a.getD i 0=q at g hn s0;generalize Qr q=y at g s0;obtain⟨yg,yn,yd⟩:=y;simp only[]at s0;refine AW.skip<|AW.seq<|AW.block<|AW.seq<|AW.region<|ae.idx tok (RD.mk yg yn yd).D rfl rfl rfl rfl (ad i) g ?_;refine qU 3 rfl<|qK 3 rfl ?_;cases yg with
   |true =>
    refine qU 11 rfl<|ae.nil<|AW.aH rfl ?_;rw[hn (fun e=>by have:=s0.2 e;cases this.1)];exact qX 1 rfl<|qN rfl
   |false =>
   refine qU 3 rfl ?_;rw[bf];refine qU 1 rfl ?_;by_cases h1:yn.length=0;rotate_left
   ·rw[bne_iff_ne.2 (show(yn.length:Int)≠0 by omega)];refine qU 7 rfl<|ae.nil<|AW.aH rfl ?_;rw[hn (fun e=>by have:=(s0.2 e).2.1;omega)];exact qX 1 rfl<|qN rfl
   rw[bne_eq_false_iff_eq.2 (show(yn.length:Int)=0 by omega)];refine qU 5 rfl ?_;rw[bf];refine qU 1 rfl ?_;by_cases h2:yd.length=0;rotate_left
   ·rw[bne_iff_ne.2 (show(yd.length:Int)≠0 by omega)];refine qU 1 rfl<|ae.nil<|AW.aH rfl ?_;rw[hn (fun e=>by have:=(s0.2 e).2.2;omega)];exact qX 1 rfl<|qN rfl
   rw[bne_eq_false_iff_eq.2 (show(yd.length:Int)=0 by omega)];refine qU 1 rfl<|ae.nil<|AW.aC rfl<|AW.skip<|qT 1 rfl ?_;rw[aD (x:=(i:Int)+1) (by omega) (by omega)];refine qU 1 rfl<|ae.nil ?_;refine⟨i+1,rfl,fun j h1 h2=>?_,by omega⟩;by_cases e:j=i
   ·rw[e,hq];exact s0.1 ⟨rfl,by omega,by omega⟩
   ·exact hi j (by omega) h2
  have hii: ¬i<a.length:=by have:=ar h;omega
  rw[hyes (fun j h=>hi j (by omega) h)];exact AW.exit<|qX 1 rfl<|qN rfl
theorem kc(a:NQ)(hs:au k a)(hk:k≤17300000000000)(hl:a.length≤1000000):Pure Tryz.prog 71 [ak a] (ak (aP a)):=by
 refine qJ 19 Tryz.func71 rfl fun B0 F0 w0=>?_;refine qX 1 rfl<|qK 1 rfl<|qI<|qX 2 rfl ?_;rw[ab];refine qU 1 rfl<|ae.nil ?_;refine AW.block<|AW.aK [3,6,7,8] (fun i:Nat=>[(3,.ow 68 (fX (aP (a.take i)))),(6,.d (ak a)),(7,.d (dI a.length)),(8,.d (dI i))]) (fun i=>i≤a.length) (fun i=>a.length-i) 0 rfl (am _) fun i hi=>?_;refine qX 1 rfl ?_;refine qI<|AW.cond rfl (fun h=>?_) fun h=>?_;rotate_left
 ·have hii:i=a.length:=by have:=ar h;have:i≤a.length:=hi;omega
  subst hii;rw[co];exact AW.exit<|qX 2 rfl<|qN rfl
 have hii:i<a.length:=by have:=ao h;omega
 have g:=nK hii;have cn:=xp (Qr (a.getD i 0)) (gz _ (hs i)) hk;rw[b5]at cn;have htk:=wW a 0 hii;have hol:(aP (a.take i)).length=i:=by rw[cV,bi];omega
 have hms:aP (a.take (i+1))=aP (a.take i)++[-a.getD i 0]:=by rw[htk];unfold aP;rw[cj];rfl
 generalize aP (a.take i)=M at hol hms ⊢;generalize a.getD i 0=q at g cn hms;refine AW.skip<|AW.seq<|AW.block<|AW.seq<|AW.region<|ae.idx tok (Qr q).D rfl rfl rfl rfl (ad i) g ?_;refine qU 3 rfl<|ae.nil<|qT 2 rfl<|qM rfl cn<|ae.bs tok rfl rfl rfl rfl ?_;refine ae.jw tok rfl rfl rfl rfl rfl rfl (by rw[ab,hol];show(_+1)*56≤_;omega) (by rw[ab,hol];show _+1≤_;omega) ?_;refine qU 1 rfl<|ae.nil<|qT 1 rfl ?_;rw[aD (x:=(i:Int)+1) (by omega) (by omega)];refine qU 1 rfl<|ae.nil ?_;exact⟨i+1,by show _=([(3,.ow 68 (fX (aP (a.take (i+1))))),(6,.d (ak a)),(7,.d (dI a.length)),(8,.d (dI (i+1:Nat)))]:St);rw[hms,fX,fX,cj];rfl,hii,by omega⟩
theorem b9(a:NQ)(ha:ay l a)(hl:l≤5):Pure Tryz.prog 114 [ak a] (ak (aq a)):=by
 refine qJ 43 Tryz.func114 rfl fun B0 F0 w0=>?_;have hl10:=ha.len (by omega);rcases ha with h0|⟨i,hi,hai⟩
 ·obtain rfl:a=[]:=bv.1 h0;have cp:=qq (n:=0) (fun i _=>by have:=dx i;omega) (by decide);refine qX 1 rfl<|qK 2 rfl<|qM rfl cp<|qU 5 rfl<|qI<|qX 2 rfl<|ae.nil<|AW.aH rfl<|qX 2 rfl ?_;refine ae.pB tok rfl rfl rfl rfl (by decide) ?_;exact qU 1 rfl<|qN rfl
 have cp:=gZ hai (by omega);have hp:=dx i;have hE:aq a=jC i a:=by unfold aq;rw[af (by omega),hai,cB]
 rw[hE];refine qX 1 rfl<|qK 2 rfl ?_;rw[ab];refine qM rfl cp<|qU 5 rfl<|qI<|qX 2 rfl<|ae.nil<|AW.aC rfl<|AW.skip<|qX 2 rfl ?_;rw[ab,hai];refine qU 1 rfl<|qI<|AW.block ?_;refine AW.aK [0,5] (fun j:Nat=>[(0,.d (ak a)),(5,.d (dI (2^j:Nat)))]) (fun j=>j≤i∧jC j a=jC i a) (fun j=>j) i rfl ⟨al _,rfl⟩ fun j hj=>?_;obtain⟨hj,hjE⟩:=hj;show AW _ _ _ _ _ _ _ [(0,.d (ak a)),(5,.d (dI (2^j:Nat)))];have hpj:2^j≤2^i:=bz (by decide) hj;have hpp:=dx j;refine AW.seq<|qX 2 rfl ?_;rcases j with _|j
 ·refine qU 8 rfl (ae.nil (AW.aC rfl (AW.exit (AW.seq (qX 4 rfl ?_)))));refine ae.gX tok (a:=a) (a.take 1) rfl rfl rfl rfl trivial (show(0:Int)≤1 by decide) (am _) (show 1≤a.length by omega) rfl ?_;refine qM rfl (sG (a.take 1) (by rw[bi];omega)) ?_;refine qU 1 rfl<|ae.nil ?_;rw[←hjE];unfold jC;cases hz:bH (a.take 1)with
  |true =>
   rw[ah rfl];exact AW.aH rfl<|qX 1 rfl<|qN rfl
  |false =>
   rw[af (by simp)];refine AW.aC rfl<|AW.skip<|qX 3 rfl ?_;refine ae.gX tok (a:=a) (a.take 1) rfl rfl rfl rfl trivial (show(0:Int)≤1 by decide) (am _) (show 1≤a.length by omega) rfl ?_;have hq:(a.take 1).length≤1024:=by rw[bi];omega
   refine ae.pB tok rfl rfl rfl rfl (by rw[ab];show _*56≤_;omega) ?_;exact qU 1 rfl<|qN rfl
 have e2:2^(j+1)=2^j*2:=dl ..;have eh:=mK j;rw[aN (show(1:Int)<((2^(j+1):Nat):Int) by have:=dx j;omega)];refine qU 3 rfl<|ae.div tok rfl rfl rfl rfl (by decide) ?_;rw[iM _ (by omega),eh];refine qU 1 rfl ?_;refine ae.gX tok (a:=a) ((a.take (2^(j+1))).drop (2^j)) rfl rfl rfl rfl (ad _) (ad _) (show 2^j≤2^(j+1) by omega) (show 2^(j+1)≤a.length by omega) rfl ?_;refine qM rfl (sG _ (by rw[hQ,bi];omega)) ?_;refine qU 1 rfl<|ae.nil ?_;cases hz:bH ((a.take (2^(j+1))).drop (2^j))with
 |true =>
  refine AW.aH rfl<|AW.skip<|AW.block<|qT 1 rfl<|ae.div tok rfl rfl rfl rfl (by decide) ?_;rw[iM _ (by omega),eh];refine qU 1 rfl<|ae.nil ?_;exact⟨j,rfl,⟨by omega,by rw[←hjE];show _=if bH ((a.take (2^(j+1))).drop (2^j))=true then _ else _;rw[ah hz]⟩,by omega⟩
 |false =>
 refine AW.aC rfl<|AW.exit<|AW.seq<|qX 2 rfl ?_;rw[beq_eq_false_iff_ne.2 (show((2^(j+1):Nat):Int)≠1 by have:=dx j;omega)];refine qU 5 rfl<|ae.nil<|AW.aC rfl<|AW.skip<|qX 3 rfl ?_;refine ae.gX tok (a:=a) (a.take (2^(j+1))) rfl rfl rfl rfl trivial (ad _) (am _) (show 2^(j+1)≤a.length by omega) rfl ?_;have hq:(a.take (2^(j+1))).length≤1024:=by rw[bi];omega
 refine ae.pB tok rfl rfl rfl rfl (by rw[ab];show _*56≤_;omega) ?_;refine qU 1 rfl<|ae.nil ?_;rw[←hjE];unfold jC;rw[af (by rw[hz];simp)];exact AW.ret rfl
theorem k7(a:NQ):bk a a.length=a:=by unfold bk;rw[co,ew];exact f4 a
theorem wJ{a:NQ}(h:a.length≤i):bk a (i+1)=bk a i++[0]:=by unfold bk;rw[dj h,dj (by omega),Nat.succ_sub h,List.replicate_succ',hH]
theorem lV(a:NQ)(n:Nat)(ha:a.length≤n)(hn:n≤1000000):fM Tryz.prog 117 [ak a,dI n] [] (Jh (bk a n)):=by
 refine fM.intro (n:=18) tok Tryz.func117 rfl rfl rfl (b0 rfl) (by kernel_rfl) fun B F0 w0=>?_;refine AZ.seq<|AZ.cL fun B1 F1 w1=>?_;refine qU 1 rfl<|ae.nil ⟨rfl,?_⟩;refine AZ.seq<|AZ.cL fun B1 F1 w1=>?_;refine qU 2 rfl ?_;refine ae.Ch tok rfl rfl rfl rfl (by rw[ab];show _*56≤_;omega) ?_;refine qU 1 rfl<|ae.nil ⟨rfl,?_⟩;refine AZ.seq<|AZ.block ?_;refine AZ.aK [1,5] (fun i:Nat=>(([]:List LR),([(1,.d (dI n)),(5,.ow 68 (fX (bk a i)))]:St))) (fun i=>a.length≤i∧i≤n) (fun i=>n-i) a.length (by rw[k7];rfl) ⟨al _,ha⟩ fun i hi=>?_
 ·obtain⟨hi,hin⟩:=hi;show AZ _ _ _ _ _ _ _ [] [(1,.d (dI n)),(5,.ow 68 (fX (bk a i)))];have wl:=bL a i;refine AZ.seq<|AZ.seq ?_;refine AZ.cL fun B1 F1 w1=>?_;refine qU 2 rfl ?_;rw[ab,wl];refine qU 2 rfl<|ae.nil ⟨rfl,?_⟩;refine AZ.cond rfl (fun h=>?_) fun h=>?_
  ·have hii:i<n:=by have:=ao h;omega
   have hs:=wJ hi;refine AZ.skip<|AZ.block ?_;refine AZ.cL fun B1 F1 w1=>?_;refine qU 2 rfl<|ae.bs tok rfl rfl rfl rfl ?_;refine ae.jw tok rfl rfl rfl rfl rfl rfl (by rw[ab,wl];show(_+1)*56≤_;omega) (by rw[ab,wl];show _+1≤_;omega) ?_;refine qU 1 rfl<|ae.nil ⟨rfl,?_⟩;refine⟨i+1,?_,⟨by omega,hii⟩,by omega⟩;rw[hs];show _=(([]:List LR),([(1,.d (dI n)),(5,.ow 68 ((bk a i++[0]).map (fun q=>(Qr q).D)))]:St));rw[cj,io,gL];rfl
  have hii:i=n:=by have:=ar h;omega
  subst hii;refine AZ.exit ?_;refine AZ.seq<|AZ.cL fun B1 F1 w1=>?_;refine qU 2 rfl<|ae.nil ⟨rfl,?_⟩;refine AZ.fS 4 rfl rfl rfl fun V=>AZ.ret ⟨.v V,rfl,V,rfl,rfl⟩
theorem nw(a:NQ)(n:Nat)(ha:a.length≤n)(hn:n≤1000000):Pure Tryz.prog 117 [ak a,dI n] (ak (bk a n)):=by
 refine qJ 18 Tryz.func117 rfl fun B F0 w0=>?_;refine qX 1 rfl<|qK 2 rfl ?_;refine ae.Ch tok rfl rfl rfl rfl (by rw[ab];show _*56≤_;omega) ?_;refine qU 1 rfl<|qI<|AW.block ?_;refine AW.aK [1,5] (fun i:Nat=>[(1,.d (dI n)),(5,.ow 68 (fX (bk a i)))]) (fun i=>a.length≤i∧i≤n) (fun i=>n-i) a.length (by rw[k7];rfl) ⟨al _,ha⟩ fun i hi=>?_
 ·obtain⟨hi,hin⟩:=hi;show AW _ _ _ _ _ _ _ [(1,.d (dI n)),(5,.ow 68 (fX (bk a i)))];have wl:=bL a i;refine AW.seq<|qX 2 rfl ?_;rw[ab,wl];refine qU 2 rfl<|ae.nil<|AW.cond rfl (fun h=>?_) fun h=>?_
  ·have hii:i<n:=by have:=ao h;omega
   have hs:=wJ hi;refine AW.skip<|AW.block<|qT 2 rfl<|ae.bs tok rfl rfl rfl rfl ?_;refine ae.jw tok rfl rfl rfl rfl rfl rfl (by rw[ab,wl];show(_+1)*56≤_;omega) (by rw[ab,wl];show _+1≤_;omega) ?_;refine qU 1 rfl<|ae.nil ?_;refine⟨i+1,?_,⟨by omega,hii⟩,by omega⟩;rw[hs];show _=([(1,.d (dI n)),(5,.ow 68 ((bk a i++[0]).map (fun q=>(Qr q).D)))]:St);rw[cj,io,gL];rfl
  have hii:i=n:=by have:=ar h;omega
  subst hii;exact AW.exit<|qX 2 rfl<|qN rfl
theorem gg(a b:NQ)(ha:au k a)(hb:au k b)(hk:k≤17300000000000)(hl:a.length≤1000000)(hl2:b.length≤1000000):Pure Tryz.prog 70 [ak a,ak b] (ak (aS a b)):=by
 refine qJ 37 Tryz.func70 rfl fun B F0 w0=>?_;obtain⟨n,hn⟩: ∃n,n=max a.length b.length:=⟨_,rfl⟩;have cw1:=lV a n (by omega) (by omega);have cw2:=lV b n (by omega) (by omega);have l1:=bL a n;have l2:=bL b n;have g1: ∀i,i<n→(bk a n).getD i 0=a.getD i 0:=fun i hi=>by rw[iD,ah hi]
 have g2: ∀i,i<n→(bk b n).getD i 0=b.getD i 0:=fun i hi=>by rw[iD,ah hi]
 have hpl:(aS a b).length=n:=by rw[kY,hn]
 generalize bk a n=wa at cw1 l1 g1;generalize bk b n=wb at cw2 l2 g2;refine qX 1 rfl<|qK 4 rfl ?_;rw[ab,ab];refine qU 2 rfl ?_;rw[LF,←hn];refine qI<|AZ.aw ?_;refine AZ.region ?_;refine aj.cut 2 rfl fun B1 F1 w1=>?_;refine qU 2 rfl<|ae.nil ⟨rfl,?_⟩;refine aj.ed tok [] rfl rfl rfl rfl rfl dz rfl cw1 (fun _ _ _=>am _) fun res R1 hP=>?_;obtain⟨V1,rfl,rfl⟩:=hP;refine aj.cut 2 rfl fun B1 F1 w1=>?_;refine qU 2 rfl<|ae.nil ⟨rfl,?_⟩;refine aj.ed tok [] rfl rfl rfl rfl rfl dz rfl cw2 (fun _ _ _=>am _) fun res R1 hP=>?_;obtain⟨V2,rfl,rfl⟩:=hP;refine aj.cut 2 rfl fun B1 F1 w1=>?_;refine qU 2 rfl<|ae.nil ⟨rfl,?_⟩;refine aj.to [0,1] [(0,.d (.v V1)),(1,.d (.v V2))] rfl ?_;refine aj.cO 0 0 (V:=V1) (av:=.ow 68 (fX wa)) rfl rfl rfl ?_;refine aj.to [0,1] [(0,.ow 68 (fX wa)),(1,.d (.v V2))] rfl ?_;refine aj.cO 1 1 (V:=V2) (av:=.ow 68 (fX wb)) rfl rfl rfl ?_;refine aj.to [0,1] [(0,.ow 68 (fX wa)),(1,.ow 68 (fX wb))] rfl ?_;refine aj.nil<|AW.iu tok 1 rfl rfl ?_;refine AW.seq<|qX 2 rfl ?_;rw[ab,l1];refine qU 1 rfl<|ae.nil<|AW.block ?_;refine AW.aK [0,1,19,20] (fun s:Nat×NQ=>[(0,.ow 68 (fX s.2)),(1,.d (ak wb)),(19,.d (dI n)),(20,.d (dI s.1))]) (fun s=>s.2.length=n∧ ∀j,j<n→s.2.getD j 0=if j<s.1 then a.getD j 0+b.getD j 0 else a.getD j 0) (fun s=>n-s.1) (0,wa) rfl ⟨l1,fun j h=>by rw[af (Nat.not_lt_zero _)];exact g1 j h⟩ fun s hi=>?_
 ·obtain⟨i,r⟩:=s;obtain⟨hrl,hi⟩:=hi;simp only[]at hrl hi;show AW _ _ _ _ _ _ _ [(0,.ow 68 (fX r)),(1,.d (ak wb)),(19,.d (dI n)),(20,.d (dI i))];refine qX 1 rfl<|qI<|AW.cond rfl (fun h=>?_) fun h=>?_
  ·have hii:i<n:=by have:=ao h;omega
   have e1:=nK (r:=r) (i:=i) (by omega);have e2:=nK (r:=wb) (i:=i) (by omega);rw[hi i hii,af (ga _)]at e1;rw[g2 i hii]at e2;have ca:=q8 (Qr (a.getD i 0)) (Qr (b.getD i 0)) (gz _ (ha i)) (gz _ (hb i)) hk;rw[b5,b5]at ca;refine AW.skip<|AW.seq<|AW.block<|qX 2 rfl<|ae.nil<|AW.draw aO 12 (by kernel_rfl) ?_;refine qP 4 rfl ?_;refine ai.gI tok rfl rfl rfl rfl rfl rfl (ad i) (by rw[ab];show i<_;omega) ?_;refine ai.dE tok (Qr (a.getD i 0)).D rfl rfl rfl rfl rfl e1 rfl ?_;refine qP 2 rfl<|ai.idx tok (Qr (b.getD i 0)).D rfl rfl rfl rfl rfl (ad i) e2 ?_;refine qP 1 rfl<|qQ rfl ca ?_;refine ai.gI tok rfl rfl rfl rfl rfl rfl (ad i) (by rw[ab];show i<_;omega) ?_;refine ai.nil ?_;refine ae.EC tok (a.getD i 0+b.getD i 0) rfl rfl rfl (by show i<_;omega) ?_;refine ae.nil<|qT 1 rfl ?_;rw[aD (x:=(i:Int)+1) (by omega) (by omega)];refine qU 1 rfl<|ae.nil ?_;refine⟨(i+1,r.set i (a.getD i 0+b.getD i 0)),rfl,⟨by rw[cb];exact hrl,fun j h1=>?_⟩,by show n-(i+1)<n-i;omega⟩;show(r.set i (a.getD i 0+b.getD i 0)).getD j 0=if j<i+1 then _ else _
   rw[Fm];by_cases e:j=i
   ·rw[ah ⟨e,by omega⟩,e,ah (by omega)]
   ·rw[af (fun h=>e h.1),hi j h1];by_cases h2:j<i
    ·rw[ah h2,ah (by omega)]
    ·rw[af h2,af (by omega)]
  have hii: ¬i<n:=by have:=ar h;omega
  obtain rfl:r=aS a b:=E4 (by rw[hrl,hpl]) (fun j hj=>by rw[pT,hi j (by omega),ah (by omega)]);exact AW.exit<|qX 2 rfl<|qN rfl
theorem z9{a:NQ}:(lT R rt a b).length≤max a.length b.length:=by
 unfold lT;split
 ·exact am _
 split
 ·rename_i h;rw[h];exact al _
 ·rw[dN];omega
theorem CS{a:NQ}(ha:ay l a)(hb:ay l b)(hrt:cU rt)(hl:l≤rt.length)(sa:au k a)(sb:au k b)(sr:dk k rt)
  (hR: ∀l',l=l'+1→ ∀a' b' m,k≤m→ay l' a'→ay l' b'→au m a'→au m b'→ay l' (R a' b')∧au (sT l' m) (R a' b')):ay l (lT R rt a b)∧au (sT l k) (lT R rt a b):=by
 have hk:=sa.pos;have h2:=bP l k;unfold lT;by_cases h0:a.length=0∨b.length=0
 ·rw[ah h0];exact⟨cE _,db (by omega)⟩
 rw[af h0];by_cases h1:max a.length b.length=1
 ·rw[ah h1];refine⟨dZ _ _,gd ?_⟩;have:=uK (a.getD 0 0) (b.getD 0 0);have:=sa 0;have:=sb 0;omega
 rw[af h1]
 obtain⟨i,hi,hn⟩: ∃i,i≤l∧max a.length b.length=2^i:=by
  rcases ha with e|⟨i,hi,e⟩
  ·exact aG (.inl e) h0
  rcases hb with e2|⟨k,hk,e2⟩
  ·exact aG (.inr e2) h0
  by_cases h:a.length≤b.length
  ·exact⟨k,hk,by rw[hU h,e2]⟩
  ·exact⟨i,hi,by rw[hY (by omega),e]⟩
 have u9:i≠0:=fun e=>h1 (by rw[hn,e]);obtain⟨j,rfl⟩: ∃j,i=j+1:=⟨i-1,by omega⟩;obtain⟨l',rfl⟩: ∃l',l=l'+1:=⟨l-1,by omega⟩;have hj:j≤l':=by omega
 have hR:=fun a' b' m h1 h2 h3 h4 h5=>hR l' rfl a' b' m h1 h2 h3 h4 h5;have wa:=bL a (max a.length b.length);have wb:=bL b (max a.length b.length);have sa:=sa.wide (max a.length b.length);have sb:=sb.wide (max a.length b.length);generalize bk a (max a.length b.length)=A at *;generalize bk b (max a.length b.length)=B at *;generalize max a.length b.length=n at *;subst hn;have e0:=mK j;have hlog:(2^(j+1)).log2-1=j:=by rw[cB];omega
 rw[e0,hlog];obtain⟨e1,e2,e3⟩:=bt wa;obtain⟨f1,f2,f3⟩:=bt wb;rw[e3]at e1 e2;rw[f3]at f1 f2;have hx:ay l' (A.take (2^j)):=.inr ⟨j,hj,e1⟩;have hy:ay l' (A.drop (2^j)):=.inr ⟨j,hj,e2⟩;have hu:ay l' (B.take (2^j)):=.inr ⟨j,hj,f1⟩;have hv:ay l' (B.drop (2^j)):=.inr ⟨j,hj,f2⟩;have hd:ay l' (rt.getD j []):=.inr ⟨j,hj,hrt j (by omega)⟩;have hs0:=bP l' k;have hs1:=bP l' (sT l' k);have r1:=hR _ _ k (al _) hx hu (sa.take _) (sb.take _);have r2:=hR _ _ k (al _) hy hv (sa.drop _) (sb.drop _);have r3:=hR _ _ k (al _) hx hv (sa.take _) (sb.drop _);have r4:=hR _ _ k (al _) hy hu (sa.drop _) (sb.take _);have r5:=hR _ _ (sT l' k) (by omega) r2.1 hd r2.2 ((sr _).mono (by omega));refine⟨.inr ⟨j+1,by omega,by rw[dN,dl];omega⟩,(((r1.2.plus r5.2).mono ?_).join ((r3.2.plus r4.2).mono ?_) _)⟩
 ·show _≤sT l' (sT l' k)+sT l' k+1;omega
 ·show _≤sT l' (sT l' k)+sT l' k+1;omega
theorem nq(a:NQ)(ha:ay l a):(aq a).length≤a.length:=by
 unfold aq;split
 ·exact am _
 have: ∀i,(jC i a).length≤a.length:=fun i=>by
  induction i with
  |zero =>
   unfold jC;split
   ·exact am _
   ·rw[bi];omega
  |succ i ih =>
   unfold jC;split
   ·exact ih
   ·rw[bi];omega
 exact this _
theorem gE: ∀(l:Nat) {k:Nat} {rt:List NQ} {a b:NQ},ay l a→ay l b→cU rt→l≤rt.length→au k a→au k b→dk k rt→ay l (eH l rt a b)∧au (sT l k) (eH l rt a b)
 |0,k,rt,a,b,ha,hb,hrt,hl,sa,sb,sr=>CS (a6 ha sa).1 (a6 hb sb).1 hrt hl (a6 ha sa).2 (a6 hb sb).2 sr (fun l' h=>by omega)
 |l+1,k,rt,a,b,ha,hb,hrt,hl,sa,sb,sr=>CS (a6 ha sa).1 (a6 hb sb).1 hrt hl (a6 ha sa).2 (a6 hb sb).2 sr (fun l' e a' b' m hm h1 h2 h3 h4=>by
   obtain rfl:l=l':=by omega
   exact gE l h1 h2 hrt (by omega) h3 h4 (sr.mono hm))
theorem ns: ∀(l:Nat) {rt:List NQ} {a b:NQ},ay l a→ay l b→(eH l rt a b).length≤max a.length b.length
 |0,rt,a,b,ha,hb=>by have h1:=nq a ha;have h2:=nq b hb;have h3:=z9 (R:=fun _ _=>[]) (rt:=rt) (a:=aq a) (b:=aq b);show(lT _ rt _ _).length≤_;omega
 |l+1,rt,a,b,ha,hb=>by have h1:=nq a ha;have h2:=nq b hb;have h3:=z9 (R:=eH l rt) (rt:=rt) (a:=aq a) (b:=aq b);show(lT _ rt _ _).length≤_;omega
theorem lS{K1 K2:Nat}{a:NQ}(ha:ay l a)(hb:ay l b)(hrt:cU rt)(hl:l≤rt.length)(hl5:l≤5)(hxs: ∀j,j<rt.length→xs[j]?=some (ak (rt.getD j [])))(sa:au k a)(sb:au m b)(sr:dk r rt)(hk:k+m≤17300000000000)(h12:K1≤K2)(hK:K1+K2+1≤17300000000000)
  (hR: ∀l',l=l'+1→(∀a' b',ay l' a'→ay l' b'→(au k a'∧au m b')→Pure Tryz.prog 157 [.ag [.sl 1 xs],ak a',ak b'] (ak (R a' b'))∧(R a' b').length≤max a'.length b'.length∧ay l' (R a' b')∧au K1 (R a' b'))∧ ∀a' b',ay l' a'→ay l' b'→au K1 a'→au r b'→Pure Tryz.prog 157 [.ag [.sl 1 xs],ak a',ak b'] (ak (R a' b'))∧(R a' b').length≤max a'.length b'.length∧ay l' (R a' b')∧au K2 (R a' b')):
  Pure Tryz.prog 157 [.ag [.sl 1 xs],ak a,ak b] (ak (lT R rt (aq a) (aq b))):=by
 refine qJ 105 Tryz.func157 rfl fun B F0 w0=>?_;have hk1:=sa.pos;have cs1:=b9 a ha hl5;have cs2:=b9 b hb hl5;obtain⟨ha,sa⟩:=a6 ha sa;obtain⟨hb,sb⟩:=a6 hb sb;generalize aq a=s at *;generalize aq b=t at *;have hla:=ha.len (by omega);have hlb:=hb.len (by omega);refine qX 2 rfl<|qK 1 rfl<|qM rfl cs1<|qU 1 rfl<|qM rfl cs2<|qU 2 rfl<|qK 4 rfl ?_;rw[ab,ab];refine qU 2 rfl ?_;rw[LF];refine qI<|qX 2 rfl ?_;rw[ab];refine qU 1 rfl ?_;unfold lT;by_cases h0:s.length=0
 ·have h00:s.length=0∨t.length=0:=.inl h0;rw[beq_iff_eq.2 (show(s.length:Int)=0 by omega),ah h00];exact qU 5 rfl<|ae.nil<|AW.aH rfl<|qX 1 rfl<|qN rfl
 rw[beq_eq_false_iff_ne.2 (show(s.length:Int)≠0 by omega)];refine qU 3 rfl ?_;rw[ab];refine qU 1 rfl ?_;by_cases h01:t.length=0
 ·have h00:s.length=0∨t.length=0:=.inr h01;rw[beq_iff_eq.2 (show(t.length:Int)=0 by omega),ah h00];exact qU 1 rfl<|ae.nil<|AW.aH rfl<|qX 1 rfl<|qN rfl
 have h00: ¬(s.length=0∨t.length=0):=fun h=>h.elim h0 h01;rw[beq_eq_false_iff_ne.2 (show(t.length:Int)≠0 by omega),af h00];refine qU 1 rfl<|ae.nil<|AW.aC rfl<|AW.skip<|AW.seq<|AW.seq<|AW.region ?_;obtain⟨n,hn⟩: ∃n,n=max s.length t.length:=⟨_,rfl⟩;rw[←hn];refine qU 2 rfl ?_;by_cases h1:n=1
 ·rw[ah h1,beq_iff_eq.2 (show(n:Int)=1 by omega)];have g1:=nK (r:=s) (i:=0) (by omega);have g2:=nK (r:=t) (i:=0) (by omega);have cm:=EV (Qr (s.getD 0 0)) (Qr (t.getD 0 0)) (k:=k+m) (gz _ (bn (sa 0) (Nat.le_add_right _ _))) (gz _ (bn (sb 0) (eE _ _))) (by omega);rw[b5,b5]at cm;refine ae.nil<|AW.aH rfl<|AW.seq<|AW.draw aO 8 (by kernel_rfl) ?_;refine qP 1 rfl<|ai.idx tok (Qr (s.getD 0 0)).D rfl rfl rfl rfl rfl (eY _) g1 ?_;refine qP 2 rfl<|ai.idx tok (Qr (t.getD 0 0)).D rfl rfl rfl rfl rfl (eY _) g2 ?_;refine qP 1 rfl<|qQ rfl cm<|ai.ku tok rfl rfl rfl rfl rfl rfl ?_;exact ai.nil<|qU 1 rfl<|qN rfl
 rw[af h1,beq_eq_false_iff_ne.2 (show(n:Int)≠1 by omega)];refine ae.nil<|AW.aC rfl<|AW.skip ?_
 obtain⟨i,hi,hni⟩: ∃i,i≤l∧n=2^i:=by
  rcases ha with e|⟨i,hi,e⟩
  ·exact aG e h0
  rcases hb with e2|⟨k,hk,e2⟩
  ·exact aG e2 h01
  by_cases h:s.length≤t.length
  ·exact⟨k,hk,by rw[hn,hU h,e2]⟩
  ·exact⟨i,hi,by rw[hn,hY (by omega),e]⟩
 have hsn:s.length≤n:=by omega
 have htn:t.length≤n:=by omega
 have hn9:n≤1024:=by omega
 clear hn;have u9:i≠0:=fun e=>h1 (by rw[hni,e]);obtain⟨j,rfl⟩: ∃j,i=j+1:=⟨i-1,by omega⟩;obtain⟨l',rfl⟩: ∃l',l=l'+1:=⟨l-1,by omega⟩;have hj:j≤l':=by omega
 obtain⟨hR,hR2⟩:=hR l' rfl;have cw1:=nw s n hsn (by omega);have cw2:=nw t n htn (by omega);have cp:=gZ hni (by omega);have wa:=bL s n;have wb:=bL t n;have sa:=sa.wide n;have sb:=sb.wide n;generalize bk s n=A at *;generalize bk t n=B at *;have e0:=mK j;have hlog:n.log2-1=j:=by rw[hni,cB];omega
 obtain⟨e1,e2,e3⟩:=bt (wa.trans hni);obtain⟨f1,f2,f3⟩:=bt (wb.trans hni);rw[hlog];obtain⟨h,hh⟩: ∃h,h=n/2:=⟨_,rfl⟩
 have hnh:n=h+h:=by have:2^(j+1)=2^j*2:=dl ..;omega
 have hh2:h=2^j:=by rw[hh,hni,e0]
 rw[wa,←hh]at e1 e2;rw[wb,←hh]at f1 f2;rw[←hh];have hx:ay l' (A.take h):=.inr ⟨j,hj,e1⟩;have hy:ay l' (A.drop h):=.inr ⟨j,hj,e2⟩;have hu:ay l' (B.take h):=.inr ⟨j,hj,f1⟩;have hv:ay l' (B.drop h):=.inr ⟨j,hj,f2⟩;have hdl:=hrt j (by omega);have hd:ay l' (rt.getD j []):=.inr ⟨j,hj,hdl⟩;have r1:=hR _ _ hx hu ⟨(sa.take _),(sb.take _)⟩;have r2:=hR _ _ hy hv ⟨(sa.drop _),(sb.drop _)⟩;have r3:=hR _ _ hx hv ⟨(sa.take _),(sb.drop _)⟩;have r4:=hR _ _ hy hu ⟨(sa.drop _),(sb.take _)⟩;have r5:=hR2 _ _ r2.2.2.1 hd r2.2.2.2 (sr _);have n1:(R (A.take h) (B.take h)).length≤h:=bn r1.2.1 (dT.2 ⟨by omega,by omega⟩);have n2:(R (A.drop h) (B.drop h)).length≤h:=bn r2.2.1 (dT.2 ⟨by omega,by omega⟩);have n3:(R (A.take h) (B.drop h)).length≤h:=bn r3.2.1 (dT.2 ⟨by omega,by omega⟩);have n4:(R (A.drop h) (B.take h)).length≤h:=bn r4.2.1 (dT.2 ⟨by omega,by omega⟩);have n5:(R (R (A.drop h) (B.drop h)) (rt.getD j [])).length≤h:=bn r5.2.1 (dT.2 ⟨n2,by omega⟩);have r1:=fn r1.1 r1.2.2;have r2:=fn r2.1 r2.2.2;have r3:=fn r3.1 r3.2.2;have r4:=fn r4.1 r4.2.2;have r5:=fn r5.1 r5.2.2;have p1:=gg (R (A.take h) (B.take h)) (R (R (A.drop h) (B.drop h)) (rt.getD j [])) (k:=K2) (r1.2.2.mono (by omega)) r5.2.2 (by omega) (by omega) (by omega);have p2:=gg (R (A.take h) (B.drop h)) (R (A.drop h) (B.take h)) (k:=K1) r3.2.2 r4.2.2 (by omega) (by omega) (by omega);have q1:(aS (R (A.take h) (B.take h)) (R (R (A.drop h) (B.drop h)) (rt.getD j []))).length≤h:=by rw[kY];exact dT.2 ⟨n1,n5⟩
 have q2:(aS (R (A.take h) (B.drop h)) (R (A.drop h) (B.take h))).length≤h:=by rw[kY];exact dT.2 ⟨n3,n4⟩
 have cw3:=lV (aS (R (A.take h) (B.take h)) (R (R (A.drop h) (B.drop h)) (rt.getD j []))) h q1 (by omega);have cw4:=lV (aS (R (A.take h) (B.drop h)) (R (A.drop h) (B.take h))) h q2 (by omega);unfold dK;refine qX 2 rfl<|qM rfl cw1<|qU 2 rfl<|qM rfl cw2<|qU 2 rfl<|qK 1 rfl<|qM rfl cp<|qU 5 rfl<|qI<|AW.draw aO 19 (by kernel_rfl) ?_;refine qP 2 rfl<|ai.div tok rfl rfl rfl rfl rfl (by decide) ?_;rw[iM _ (by omega),←hh];refine ai.gX tok (a:=A) (A.take h) rfl rfl rfl rfl rfl trivial (ad h) (am _) (show h≤A.length by omega) rfl ?_;refine qP 2 rfl<|ai.div tok rfl rfl rfl rfl rfl (by decide) ?_;rw[iM _ (by omega),←hh];refine ai.gX tok (a:=A) (A.drop h) rfl rfl rfl rfl rfl (ad h) trivial (show h≤A.length by omega) (al _) (by show(A.take A.length).drop h=_;rw[co]) ?_;refine qP 2 rfl<|ai.div tok rfl rfl rfl rfl rfl (by decide) ?_;rw[iM _ (by omega),←hh];refine ai.gX tok (a:=B) (B.take h) rfl rfl rfl rfl rfl trivial (ad h) (am _) (show h≤B.length by omega) rfl ?_;refine qP 2 rfl<|ai.div tok rfl rfl rfl rfl rfl (by decide) ?_;rw[iM _ (by omega),←hh];refine ai.gX tok (a:=B) (B.drop h) rfl rfl rfl rfl rfl (ad h) trivial (show h≤B.length by omega) (al _) (by show(B.take B.length).drop h=_;rw[co]) ?_;refine qP 3 rfl<|ai.nil<|qU 1 rfl<|ae.nil<|AW.fc [3,7,8,10,11,12,13] ?_;show AW _ _ _ _ _ _ _ [(3,.bx [.sl 1 xs]),(7,.d (dI n)),(8,.d (dI (j+1:Nat))),(10,.d (ak (A.take h))),(11,.d (ak (A.drop h))),(12,.d (ak (B.take h))),(13,.d (ak (B.drop h)))];refine AW.seq<|AW.draw aO 17 (by kernel_rfl) ?_;refine qP 3 rfl<|qQ rfl r1.1 ?_;refine qP 4 rfl<|qQ rfl r2.1 ?_;refine qP 4 rfl ?_;rw[aD (x:=((j+1:Nat):Int) -1) (by omega) (by omega),show((j+1:Nat):Int) -1=(j:Int) by omega];refine ai.idx tok (ak (rt.getD j [])) rfl rfl rfl rfl rfl (ad j) (hxs j (by omega)) ?_;refine qP 1 rfl<|qQ rfl r5.1 ?_;refine qQ rfl p1<|ai.nil<|qU 1 rfl<|qI<|AW.draw aO 9 (by kernel_rfl) ?_;refine qP 3 rfl<|qQ rfl r3.1 ?_;refine qP 3 rfl<|qQ rfl r4.1 ?_;refine qQ rfl p2<|ai.nil<|qU 1 rfl<|ae.nil ?_;have l1:=bL (aS (R (A.take h) (B.take h)) (R (R (A.drop h) (B.drop h)) (rt.getD j []))) h;have l2:=bL (aS (R (A.take h) (B.drop h)) (R (A.drop h) (B.take h))) h;generalize aS (R (A.take h) (B.take h)) (R (R (A.drop h) (B.drop h)) (rt.getD j []))=P1 at *;generalize aS (R (A.take h) (B.drop h)) (R (A.drop h) (B.take h))=P2 at *;refine AW.fc [7,14,15] ?_;show AW _ _ _ _ _ _ _ [(7,.d (dI n)),(14,.d (ak P1)),(15,.d (ak P2))];generalize bk P1 h=wa at *;generalize bk P2 h=wb at *;refine AW.seq<|AZ.aw ?_;refine AZ.region ?_;refine aj.cut 3 rfl fun B1 F1 w1=>?_;refine qU 2 rfl<|ae.div tok rfl rfl rfl rfl (by decide) ?_;rw[iM _ (by omega),←hh];refine ae.nil ⟨rfl,?_⟩;refine aj.ed tok [] rfl rfl rfl rfl rfl dz rfl cw3 (fun _ _ _=>am _) fun res R1 hP=>?_;obtain⟨V1,rfl,rfl⟩:=hP;refine aj.cut 3 rfl fun B1 F1 w1=>?_;refine qU 2 rfl<|ae.div tok rfl rfl rfl rfl (by decide) ?_;rw[iM _ (by omega),←hh];refine ae.nil ⟨rfl,?_⟩;refine aj.ed tok [] rfl rfl rfl rfl rfl dz rfl cw4 (fun _ _ _=>am _) fun res R1 hP=>?_;obtain⟨V2,rfl,rfl⟩:=hP;refine aj.to [99,103] [(99,.d (.v V1)),(103,.d (.v V2))] rfl ?_;refine aj.cO 99 0 (V:=V1) (av:=.ow 68 (fX wa)) rfl rfl rfl ?_;refine aj.to [99,103] [(99,.ow 68 (fX wa)),(103,.d (.v V2))] rfl ?_;refine aj.cO 103 1 (V:=V2) (av:=.ow 68 (fX wb)) rfl rfl rfl ?_;refine aj.to [99,103] [(99,.ow 68 (fX wa)),(103,.ow 68 (fX wb))] rfl ?_;refine aj.cut 2 rfl fun B1 F1 w1=>?_;refine ae.iu tok 103 rfl rfl ?_;refine ae.jw tok rfl rfl rfl rfl rfl rfl (by rw[ab,ab,l1,l2];show(_+_)*56≤_;omega) (by rw[ab,ab,l1,l2];omega) ?_;refine qU 1 rfl<|ae.nil ⟨rfl,?_⟩;refine aj.nil ?_;rw[show fX wa++fX wb=fX (wa++wb)from cj.symm];exact AW.ret rfl
theorem ft: ∀(l:Nat) {k:Nat} {rt:List NQ} {xs:List D} {a b:NQ},ay l a→ay l b→cU rt→l≤rt.length→l≤5→(∀j,j<rt.length→xs[j]?=some (ak (rt.getD j [])))→au k a→au k b→dk k rt→sT l k≤17300000000000→Pure Tryz.prog 157 [.ag [.sl 1 xs],ak a,ak b] (ak (eH l rt a b))
 |0,k,rt,xs,a,b,ha,hb,hrt,hl,hl5,hxs,sa,sb,sr,hk=>lS (K1:=0) (K2:=0) ha hb hrt hl hl5 hxs sa sb sr (by have:=bP 0 k;omega) (al _) (by decide) (fun l' h=>by omega)
 |l+1,k,rt,xs,a,b,ha,hb,hrt,hl,hl5,hxs,sa,sb,sr,hk=>by
  have h2:=bP (l+1) k;have h3:=bP l k;have h4:=bP l (sT l k);have hk':sT l (sT l k)+sT l k+1≤17300000000000:=hk;refine lS (K1:=sT l k) (K2:=sT l (sT l k)) ha hb hrt hl hl5 hxs sa sb sr (by omega) (by omega) (by omega) fun l' e=>?_;obtain rfl:l=l':=by omega
  exact⟨fun a' b' h1 h2 h3=>⟨ft l h1 h2 hrt (by omega) (by omega) hxs h3.1 h3.2 sr (by omega),ns l h1 h2,gE l h1 h2 hrt (by omega) h3.1 h3.2 sr⟩,
   fun a' b' h1 h2 h3 h4=>⟨ft l h1 h2 hrt (by omega) (by omega) hxs h3 (h4.mono (by omega)) (sr.mono (by omega)) (by omega),ns l h1 h2,gE l h1 h2 hrt (by omega) h3 (h4.mono (by omega)) (sr.mono (by omega))⟩⟩
theorem IY{a:NQ}(hj:j≤l)(ha:a.length=2^(j+1))(hrt:cU rt)(hl:l<rt.length)(sa:au k a)(sr:dk k rt):ay l (fR l rt a)∧au (sT (l+1) k) (fR l rt a):=by
 obtain⟨e1,e2,e3⟩:=bt ha;have hx:ay l (a.take (a.length/2)):=.inr ⟨j,hj,e1⟩;have hy:ay l (a.drop (a.length/2)):=.inr ⟨j,hj,e2⟩;have hlog:a.length.log2-1=j:=by rw[ha,cB];omega
 have hd:ay l (rt.getD j []):=.inr ⟨j,hj,hrt j (by omega)⟩;have h0:=bP l k;have h1:=bP l (sT l k);have r1:=gE l hx hx hrt (by omega) (sa.take _) (sa.take _) sr;have r2:=gE l hy hy hrt (by omega) (sa.drop _) (sa.drop _) sr;have r3:=gE l r2.1 hd hrt (by omega) r2.2 ((sr _).mono (by omega)) (sr.mono (by omega));unfold fR;rw[hlog];refine⟨r1.1.plus r3.1.minus,(r1.2.plus r3.2.minus).mono ?_⟩;show _≤sT l (sT l k)+sT l k+1;omega
theorem uU{a:NQ}(hj:j≤l)(ha:a.length=2^(j+1))(hrt:cU rt)(hl:l<rt.length)(hl5:l+1≤5)(hxs: ∀j,j<rt.length→xs[j]?=some (ak (rt.getD j [])))(sa:au k a)(sr:dk k rt)(hk:sT (l+1) k≤17300000000000):
  Pure Tryz.prog 116 [.ag [.sl 1 xs],ak a,dI a.length] (ak (fR l rt a)):=by
 refine qJ 45 Tryz.func116 rfl fun B F0 w0=>?_;obtain⟨e1,e2,e3⟩:=bt ha;have hx:ay l (a.take (a.length/2)):=.inr ⟨j,hj,e1⟩;have hy:ay l (a.drop (a.length/2)):=.inr ⟨j,hj,e2⟩;have hlog:a.length.log2-1=j:=by rw[ha,cB];omega
 have hd:ay l (rt.getD j []):=.inr ⟨j,hj,hrt j (by omega)⟩;have h0:=bP l k;have h1:=bP l (sT l k);have hk:sT l (sT l k)+sT l k+1≤17300000000000:=hk;have hp:2^(j+1)≤2^10:=bz (by decide) (by omega);have r1:=gE l hx hx hrt (by omega) (sa.take _) (sa.take _) sr;have r2:=gE l hy hy hrt (by omega) (sa.drop _) (sa.drop _) sr;have r3:=gE l r2.1 hd hrt (by omega) r2.2 ((sr _).mono (by omega)) (sr.mono (by omega));have c1:=ft l hx hx hrt (by omega) (by omega) hxs (sa.take _) (sa.take _) sr (by omega);have c2:=ft l hy hy hrt (by omega) (by omega) hxs (sa.drop _) (sa.drop _) sr (by omega);have c3:=ft l r2.1 hd hrt (by omega) (by omega) hxs r2.2 ((sr j).mono (by omega)) (sr.mono (by omega)) (by omega);have n1:=r1.1.len (by omega);have n3:=r3.1.len (by omega);have c4:=kc _ r3.2 (by omega) (by omega);have c5:=gg _ _ (k:=sT l (sT l k)) (r1.2.mono (by omega)) r3.2.minus (by omega) (by omega) (by rw[cV];omega);have cw:=nw a a.length (al _) (by omega);rw[k7]at cw;have cp:=gZ ha (by omega);unfold fR;rw[hlog];obtain⟨n,hn⟩: ∃n,n=a.length/2:=⟨_,rfl⟩;rw[←hn]at e1 e2 e3 hx hy c1 c2 c3 c4 c5 ⊢;refine qX 2 rfl<|qK 2 rfl<|qM rfl cw<|qU 1 rfl<|qK 1 rfl<|qM rfl cp<|qU 5 rfl<|qI<|AW.draw aO 9 (by kernel_rfl) ?_;refine qP 2 rfl<|ai.div tok rfl rfl rfl rfl rfl (by decide) ?_;rw[iM _ (by omega),←hn];refine ai.gX tok (a:=a) (a.take n) rfl rfl rfl rfl rfl trivial (ad n) (am _) (show n≤a.length by omega) rfl ?_;refine qP 2 rfl<|ai.div tok rfl rfl rfl rfl rfl (by decide) ?_;rw[iM _ (by omega),←hn];refine ai.gX tok (a:=a) (a.drop n) rfl rfl rfl rfl rfl (ad n) trivial (show n≤a.length by omega) (al _) (by show(a.take a.length).drop n=_;rw[co]) ?_;refine qP 1 rfl<|ai.nil<|qU 1 rfl<|qI<|AW.draw aO 18 (by kernel_rfl) ?_;refine qP 3 rfl<|qQ rfl c1<|qP 4 rfl<|qQ rfl c2<|qP 4 rfl ?_;rw[aD (x:=((j+1:Nat):Int) -1) (by omega) (by omega),show((j+1:Nat):Int) -1=(j:Int) by omega];refine ai.idx tok (ak (rt.getD j [])) rfl rfl rfl rfl rfl (ad j) (hxs j (by omega)) ?_;exact qP 1 rfl<|qQ rfl c3<|qQ rfl c4<|qQ rfl c5<|ai.nil<|qU 1 rfl<|qN rfl
theorem z7{R:NQ→Int}{a:NQ}(hR: ∀b,zJ (R b)):zJ (qp R N rt a):=by
 unfold qp;split
 ·exact .inl rfl
 split
 ·exact iG _
 split
 ·exact hR _
 split
 ·exact ni (hR _) (hR _)
 ·exact ni (hR _) (hR _)
theorem w7: ∀(l:Nat) (rt:List NQ) (a:NQ),zJ (oK l rt a)
 |0,rt,a=>z7 (fun _=>.inl rfl)
 |l+1,rt,a=>z7 (fun b=>w7 l rt b)
theorem w6{R:NQ→Int}{a:NQ}(ha:ay l a)(hl5:l≤5)(hrt:cU rt)(hl:l≤rt.length)(hxs: ∀j,j<rt.length→xs[j]?=some (ak (rt.getD j [])))(sa:au k a)(sr:dk k rt)(hok:ou l k)
  (hR: ∀l',l=l'+1→ ∀b m,ay l' b→au m b→k≤m→ou l' m→Pure Tryz.prog 67 [.ag [.sl 1 xs],ak b] (dI (R b))) (hT: ∀b,zJ (R b))
  (hN: ∀l',l=l'+1→ ∀b j,j≤l'→b.length=2^(j+1)→au k b→Pure Tryz.prog 116 [.ag [.sl 1 xs],ak b,dI b.length] (ak (N b))∧ay l' (N b)∧au (sT l k) (N b)):
  Pure Tryz.prog 67 [.ag [.sl 1 xs],ak a] (dI (qp R N rt (aq a))):=by
 refine qJ 70 Tryz.func67 rfl fun B F0 w0=>?_;have hk:=tW hok;have cs:=b9 a ha hl5;obtain⟨ha,sa⟩:=a6 ha sa;generalize aq a=b at cs ha sa ⊢;have hlb:=ha.len (by omega);unfold qp;refine qX 2 rfl<|qK 1 rfl<|qM rfl cs<|qU 1 rfl<|qI<|qX 2 rfl ?_;rw[ab];refine qU 1 rfl<|ae.nil ?_;by_cases h0:b.length=0
 ·rw[ah h0,h0];exact AW.aH rfl<|qX 1 rfl<|qN rfl
 rw[af h0,beq_eq_false_iff_ne.2 (show(b.length:Int)≠0 by omega)];refine AW.aC rfl<|AW.skip<|qX 2 rfl ?_;rw[ab];refine qU 1 rfl<|qI<|qX 2 rfl<|ae.nil ?_;by_cases h1:b.length=1
 ·have g:=nK (r:=b) (i:=0) (by omega);have cq:=oP (Qr (b.getD 0 0)) (gz _ (sa 0)) (by omega);rw[b5,AU]at cq;rw[ah h1,h1];refine AW.aH rfl<|qX 1 rfl<|ae.idx tok (Qr (b.getD 0 0)).D rfl rfl rfl rfl (eY _) g ?_;exact qU 1 rfl<|qM rfl cq<|qU 1 rfl<|qN rfl
 rw[af h1,beq_eq_false_iff_ne.2 (show(b.length:Int)≠1 by omega)];refine AW.aC rfl<|AW.skip ?_
 obtain⟨i,hi,hla2⟩: ∃i,i≤l∧b.length=2^i:=by
  rcases ha with e|e
  ·omega
  ·exact e
 have u9:i≠0:=fun e=>h1 (by rw[hla2,e]);obtain⟨j,rfl⟩: ∃j,i=j+1:=⟨i-1,by omega⟩;obtain⟨l',rfl⟩: ∃l',l=l'+1:=⟨l-1,by omega⟩;have hj:j≤l':=by omega
 have hN:=hN l' rfl b j hj hla2 sa;have hR:=fun b m h1 h2 h3 h4=>hR l' rfl b m h1 h2 h3 h4;obtain⟨e1,e2,e3⟩:=bt hla2;have hx:ay l' (b.take (b.length/2)):=.inr ⟨j,hj,e1⟩;have hy:ay l' (b.drop (b.length/2)):=.inr ⟨j,hj,e2⟩;have hlog:b.length.log2-1=j:=by rw[hla2,cB];omega
 have hd:ay l' (rt.getD j []):=.inr ⟨j,hj,hrt j (by omega)⟩;have hk2:=bP (l'+1) k;have r1:=hR _ k hx (sa.take _) (al _) (lA hok);have r2:=hR _ k hy (sa.drop _) (al _) (lA hok);have r3:=hR _ k hd (sr j) (al _) (lA hok);have r4:=hR _ _ hN.2.1 hN.2.2 (by omega) hok.2;have t1:=hT (b.take (b.length/2));have t2:=ni (hT (b.drop (b.length/2))) (hT (rt.getD j []));have t4:=ni t1 (hT (N b));have cn:=hN.1;have cp:=gZ hla2 (by omega);rw[hlog];obtain⟨n,hn⟩: ∃n,n=b.length/2:=⟨_,rfl⟩;rw[←hn]at e1 e2 e3 hx hy r1 r2 t1 t2 t4 ⊢;generalize R (b.take n)=x at r1 t1 t4 ⊢;generalize R (b.drop n)=y at r2 t2 ⊢;generalize R (rt.getD j [])=z at r3 t2 ⊢;generalize R (N b)=u at r4 t4 ⊢;refine qX 1 rfl<|qM rfl cp<|qU 5 rfl<|qK 4 rfl ?_;rw[aD (x:=((j+1:Nat):Int) -1) (by omega) (by omega),show((j+1:Nat):Int) -1=(j:Int) by omega];refine ae.idx tok (ak (rt.getD j [])) rfl rfl rfl rfl (ad j) (hxs j (by omega)) ?_;refine qU 2 rfl<|qI<|AW.draw aO 17 (by kernel_rfl) ?_;refine qP 3 rfl<|ai.div tok rfl rfl rfl rfl rfl (by decide) ?_;rw[iM _ (by omega),←hn];refine ai.gX tok (a:=b) (b.take n) rfl rfl rfl rfl rfl trivial (ad n) (am _) (show n≤b.length by omega) rfl ?_;refine qQ rfl r1<|qP 3 rfl<|ai.div tok rfl rfl rfl rfl rfl (by decide) ?_;rw[iM _ (by omega),←hn];refine ai.gX tok (a:=b) (b.drop n) rfl rfl rfl rfl rfl (ad n) trivial (show n≤b.length by omega) (al _) (by show(b.take b.length).drop n=_;rw[co]) ?_;refine qQ rfl r2<|qP 2 rfl<|qQ rfl r3<|qP 1 rfl ?_;rw[aD (x:=y*z) (by unfold zJ at t2;omega) (by unfold zJ at t2;omega)];refine qP 1 rfl<|ai.nil<|qU 1 rfl<|ae.nil<|AW.fc [1,2,5,9,10] ?_;show AW _ _ _ _ _ _ _ [(1,.d (ak b)),(2,.bx [.sl 1 xs]),(5,.d (dI b.length)),(9,.d (.v (.int .i64 x))),(10,.d (.v (.int .i64 (y*z))))];generalize y*z=yz at t2 ⊢;refine AW.seq<|qX 3 rfl ?_;by_cases hxy:x=yz
 ·have hor:x=yz∨yz=0:=.inl hxy;rw[ah hor,beq_iff_eq.2 hxy];exact qU 4 rfl<|ae.nil<|AW.aH rfl<|qX 2 rfl<|qN rfl
 rw[beq_eq_false_iff_ne.2 hxy];refine qU 3 rfl ?_;by_cases hy0:yz=0
 ·have hor:x=yz∨yz=0:=.inr hy0;rw[ah hor,beq_iff_eq.2 hy0];exact qU 1 rfl<|ae.nil<|AW.aH rfl<|qX 2 rfl<|qN rfl
 have hor: ¬(x=yz∨yz=0):=fun h=>h.elim hxy hy0;rw[af hor,beq_eq_false_iff_ne.2 hy0];refine qU 1 rfl<|ae.nil<|AW.aC rfl<|AW.skip<|AW.seq<|qX 2 rfl<|ae.nil ?_;by_cases hx0:x=0
 ·rw[ah hx0,beq_iff_eq.2 hx0];exact AW.aH rfl<|qX 2 rfl<|qN rfl
 rw[af hx0,beq_eq_false_iff_ne.2 hx0];refine AW.aC rfl<|AW.skip<|AW.seq<|AW.draw aO 8 (by kernel_rfl) ?_;refine qP 5 rfl<|qQ rfl cn<|qQ rfl r4<|qP 1 rfl ?_;rw[aD (x:=x*u) (by unfold zJ at t4;omega) (by unfold zJ at t4;omega)];exact ai.nil<|qU 1 rfl<|qN rfl
theorem j9: ∀(l:Nat) {k:Nat} {rt:List NQ} {xs:List D} {a:NQ},ay l a→l≤5→cU rt→l≤rt.length→(∀j,j<rt.length→xs[j]?=some (ak (rt.getD j [])))→au k a→dk k rt→ou l k→Pure Tryz.prog 67 [.ag [.sl 1 xs],ak a] (dI (oK l rt a))
 |0,k,rt,xs,a,ha,hl5,hrt,hl,hxs,sa,sr,hok=>w6 ha hl5 hrt hl hxs sa sr hok (fun l' h=>by omega) (fun _=>.inl rfl) (fun l' h=>by omega)
 |l+1,k,rt,xs,a,ha,hl5,hrt,hl,hxs,sa,sr,hok=>w6 ha hl5 hrt hl hxs sa sr hok (fun l' e b m h1 h2 h3 h4=>by
   obtain rfl:l=l':=by omega
   exact j9 l h1 (by omega) hrt (by omega) hxs h2 (sr.mono h3) h4) (w7 l rt) (fun l' e b j h1 h2 h3=>by
   obtain rfl:l=l':=by omega
   exact⟨uU h1 h2 hrt (by omega) (by omega) hxs h3 sr hok.1,IY h1 h2 hrt (by omega) h3 sr⟩)
theorem Ns(ro:cU v)(ps: ∀k,k<v.length→ ¬ec k (v.take k) (v.getD k [])<0):oh v:=fun j hj=>by
 have h:=ps j hj
 have e: ∀i,i<j→(v.take j).getD i []=v.getD i []:=fun i hi=>by rw[ax,List.getElem?_take_of_lt hi,ax]
 have ro2:cU (v.take j):=fun i hi=>by rw[bi]at hi;rw[e i (by omega)];exact ro i (by omega)
 have lt:ay j (v.getD j []):=.inr ⟨j,al _,ro j hj⟩;rw[cY j lt ro2 (by rw[bi];omega)]at h
 have key: ∀(l:Nat) (a:Cf),l≤j→aW (v.take j) l a=aW v l a∧ ∀b:Cf,mulC (v.take j) l a b=mulC v l a b:=by
  intro l
  induction l with
  |zero=>exact fun a _=>⟨rfl,fun b=>rfl⟩
  |succ l ih =>
   intro a hl;have hm: ∀x y:Cf,mulC (v.take j) l x y=mulC v l x y:=fun x y=>(ih x (by omega)).2 y;have hs: ∀x:Cf,aW (v.take j) l x=aW v l x:=fun x=>(ih x (by omega)).1;refine⟨?_,fun b=>?_⟩
   ·unfold aW bj;simp only[hm,hs,e l (by omega)]
   ·funext i;show(if i<2^l then mulC (v.take j) l a b i+mulC (v.take j) l (mulC (v.take j) l (bG l a) (bG l b)) (cf ((v.take j).getD l [])) i else mulC (v.take j) l a (bG l b) (i-2^l)+mulC (v.take j) l (bG l a) b (i-2^l))=_;simp only[hm,e l (by omega)];rfl
 rw[(key j _ (al _)).1]at h;omega
theorem Jb{rt:List (List RD)}(hi:i≤rt.length)(h: ∀j,j<i→yS rt j=0):oh ((rt.take i).map aA):=Ns (nh hi h) (fun k hk=>by
 rw[gU hi]at hk;have h1:=(jD (h k hk)).2.2;rw[rU hk,←f9,List.take_take,Nat.min_eq_left (by omega)]
 exact h1)
theorem IG{rt:List (List RD)}(hi:i≤rt.length)(h: ∀j,j<i→yS rt j=0){a:NQ}(ha:ay i a):oK i ((rt.take i).map aA) a=ec i ((rt.take i).map aA) a:=by rw[iW i ha (nh hi h) (Jb hi h) (by rw[gU hi];exact al _),cY i ha (nh hi h) (by rw[gU hi];exact al _)]
theorem IV{rt:List (List RD)}(hw: ∀i,i<k→wN m (rt.getD i []))(hk:k≤rt.length)(h: ∀j,j<k→lY (rt.getD j [])=true): ∀j,j<((rt.take k).map aA).length→(rt.map bo)[j]?=some (ak (((rt.take k).map aA).getD j [])):=fun j hj=>by
 rw[gU hk]at hj;have hj2:j<rt.length:=by omega
 rw[rU hj,←mM (hw j hj) (h j hj)];simp[hj2]
theorem nC(rt:List (List RD))(hw: ∀i,i<rt.length→(rt.getD i []).length=2^i→wN m (rt.getD i []))(h1:1≤m)(hl:rt.length≤1000000)(hll: ∀i,i<rt.length→(rt.getD i []).length≤4398046511104)(hok:rt.length≤5→ou rt.length m):Pure Tryz.prog 37 [uF rt] (dI (df rt)):=by
 refine qJ 34 Tryz.func37 rfl fun B F0 w0=>?_;unfold df;obtain⟨E,hE⟩: ∃E,fE (yS rt) (rt.length-0) 0=E:=⟨_,rfl⟩;rw[hE];refine qX 2 rfl<|qI<|qX 3 rfl ?_;rw[ab];refine qU 1 rfl<|ae.nil ?_;by_cases h5:5<rt.length
 ·rw[ah h5,aN (show(5:Int)<(rt.length:Int) by omega)];exact AW.aH rfl<|qX 1 rfl<|qN rfl
 rw[af h5,a5 (show ¬(5:Int)<(rt.length:Int) by omega)];have hok:=hok (by omega);have hm7:=tW hok;refine AW.aC rfl<|AW.skip<|AW.seq<|qX 3 rfl ?_;rw[ab];refine qU 1 rfl<|ae.nil ?_;refine AW.block<|AW.aK [1,11,12,13] (fun i:Nat=>[(1,.bx [.sl 1 (rt.map bo)]),(11,.d (.sl 1 (rt.map bo))),(12,.d (dI rt.length)),(13,.d (dI i))]) (fun i=>i≤rt.length∧fE (yS rt) (rt.length-i) i=E∧ ∀j,j<i→yS rt j=0) (fun i=>rt.length-i) 0 rfl ⟨am _,hE,fun j hj=>by omega⟩ fun i ⟨hi,hiE,hall⟩=>?_;refine qX 1 rfl ?_;refine qI<|AW.cond rfl (fun h=>?_) fun h=>?_;rotate_left
 ·have hii: ¬i<rt.length:=by have:=ar h;omega
  rw[eC hii]at hiE;subst hiE;exact AW.exit<|qX 1 rfl<|qN rfl
 have hii:i<rt.length:=by have:=ao h;omega
 have hg:(rt.map bo)[i]?=some (bo (rt.getD i [])):=by simp[hii]
 have hwi:=hw i hii;have hli:=hll i hii;have hmiss:=fun h0:yS rt i=0=>(cQ hii h0).symm.trans hiE;have hhit:=fun h0:yS rt i≠0=>(ez hii h0).symm.trans hiE;have hp:2^i≤2^5:=bz (by decide) (by omega);have hrt:yS rt i=if (rt.getD i []).length≠2^i then 10 else if bF i (rt.getD i [])≠0 then bF i (rt.getD i [])else if ec i ((rt.take i).map aA) (aA (rt.getD i []))<0 then 3 else 0:=rfl
 refine AW.skip<|AW.seq<|AW.block<|qX 1 rfl<|ae.idx tok (bo (rt.getD i [])) rfl rfl rfl rfl (ad i) hg ?_;refine qU 3 rfl<|qI<|qX 2 rfl ?_;rw[ab];refine qU 2 rfl ?_;rw[CM (by omega)];refine qU 1 rfl<|ae.nil ?_;by_cases e1:(rt.getD i []).length=2^i;rotate_left
 ·rw[ah e1]at hrt;rw[bne_iff_ne.2 (show(((rt.getD i []).length:Nat):Int)≠((2^i:Nat):Int) by omega)];have:=hhit (by rw[hrt];decide);rw[hrt]at this;subst this;exact AW.aH rfl<|qX 1 rfl<|qN rfl
 rw[af (fun h=>h e1)]at hrt;have hwi:=hwi e1;have cn:=me i (rt.getD i []) (by omega) (fun _=>hwi) (by omega) hli;rw[e1,bne_eq_false_iff_eq.2 rfl];refine AW.aC rfl<|AW.skip<|AW.seq<|qX 2 rfl<|qM rfl cn<|qU 1 rfl<|qK 2 rfl<|ae.nil ?_;by_cases e2:bF i (rt.getD i [])=0;rotate_left
 ·rw[ah e2]at hrt;have:=hhit (by rw[hrt];exact e2);rw[hrt]at this;subst this;rw[bne_iff_ne.2 (show((bF i (rt.getD i []):Nat):Int)≠0 by omega)];exact AW.aH rfl<|qX 2 rfl<|qN rfl
 rw[af (fun h=>h e2)]at hrt;rw[bne_eq_false_iff_eq.2 (show((bF i (rt.getD i []):Nat):Int)=0 by omega)];obtain⟨n1,n2⟩:=sQ e2;have hwj:=fun j (hj:j<i)=>hw j (by omega) (jD (hall j hj)).1;have cs:=j9 i (k:=m) (rt:=(rt.take i).map aA) (xs:=rt.map bo) n1 (by omega) (nh hi hall) (by rw[gU hi];exact al _) (IV hwj hi (fun j hj=>(jD (hall j hj)).2.1)) (oH hwi h1) (vT hwj h1 hi) (tV hok hi);have tr:=pK i ((rt.take i).map aA) (aA (rt.getD i []));rw[IG hi hall n1,←mM hwi n2]at cs;generalize ec i ((rt.take i).map aA) (aA (rt.getD i []))=s at cs hrt tr;refine AW.aC rfl<|AW.skip<|qX 2 rfl<|qM rfl cs<|qU 1 rfl<|ae.nil ?_;by_cases e3:s<0
 ·rw[ah e3]at hrt;rw[aN e3];have:=hhit (by rw[hrt];decide);rw[hrt]at this;subst this;exact AW.aH rfl<|qX 1 rfl<|qN rfl
 rw[af e3]at hrt;rw[a5 e3];refine AW.aC rfl<|AW.skip<|qT 1 rfl ?_;rw[aD (x:=(i:Int)+1) (by omega) (by omega)];refine qU 1 rfl<|ae.nil ?_
 exact⟨i+1,rfl,⟨hii,hmiss hrt,fun j hj=>by
  by_cases e:j=i
  ·rw[e];exact hrt
  ·exact hall j (by omega)⟩,by omega⟩
theorem jU(rt l:List (List RD)){mn:Nat}(hw: ∀i,i<rt.length→(rt.getD i []).length=2^i→wN m (rt.getD i []))(h1:1≤m)(hl:rt.length≤1000000)(hll: ∀i,i<rt.length→(rt.getD i []).length≤4398046511104)(hok:rt.length≤5→ou rt.length m)
  (hlw: ∀i,i<l.length→FO rt.length (l.getD i [])→wN mn (l.getD i [])) (hl2:l.length≤1000000) (hl3: ∀i,i<l.length→(l.getD i []).length≤4398046511104) (hm:mn≤17300000000000):Pure Tryz.prog 69 [uF rt,.sl 1 (l.map bo)] (dI (kL rt l)):=by
 refine qJ 29 Tryz.func69 rfl fun B F0 w0=>?_;have cC:=nC rt hw h1 hl hll hok;unfold kL;obtain⟨E,hE⟩: ∃E,fE (fun i=>bF rt.length (l.getD i [])) (l.length-0) 0=E:=⟨_,rfl⟩;rw[hE];refine qX 2 rfl<|qI<|qX 1 rfl<|qM rfl cC<|qU 1 rfl<|qK 2 rfl<|ae.nil ?_;by_cases e2:df rt=0;rotate_left
 ·rw[ah e2,bne_iff_ne.2 (show((df rt:Nat):Int)≠0 by omega)];exact AW.aH rfl<|qX 2 rfl<|qN rfl
 have h5:=(pq e2).1;rw[af (fun h=>h e2),bne_eq_false_iff_eq.2 (show((df rt:Nat):Int)=0 by omega)];refine AW.aC rfl<|AW.skip<|AW.seq<|qX 2 rfl ?_;rw[ab];refine qU 1 rfl<|ae.nil ?_;refine AW.block<|AW.aK [2,14,15,16] (fun i:Nat=>[(2,.bx [.sl 1 (rt.map bo)]),(14,.d (.sl 1 (l.map bo))),(15,.d (dI l.length)),(16,.d (dI i))]) (fun i=>i≤l.length∧fE (fun i=>bF rt.length (l.getD i [])) (l.length-i) i=E) (fun i=>l.length-i) 0 rfl ⟨am _,hE⟩ fun i ⟨hi,hiE⟩=>?_;refine qX 1 rfl ?_;refine qI<|AW.cond rfl (fun h=>?_) fun h=>?_;rotate_left
 ·have hii: ¬i<l.length:=by have:=ar h;omega
  rw[eC hii]at hiE;subst hiE;exact AW.exit<|qX 1 rfl<|qN rfl
 have hii:i<l.length:=by have:=ao h;omega
 have hg:(l.map bo)[i]?=some (bo (l.getD i [])):=by simp[hii]
 have hmiss:=fun h0:bF rt.length (l.getD i [])=0=>(cQ (f:=fun i=>bF rt.length (l.getD i [])) hii h0).symm.trans hiE;have hhit:=fun h0:bF rt.length (l.getD i [])≠0=>(ez (f:=fun i=>bF rt.length (l.getD i [])) hii h0).symm.trans hiE;have cn:=me rt.length (l.getD i []) h5 (hlw i hii) hm (hl3 i hii);refine AW.skip<|AW.seq<|AW.block<|AW.seq<|AW.region<|ae.idx tok (bo (l.getD i [])) rfl rfl rfl rfl (ad i) hg ?_;refine qU 2 rfl<|qK 3 rfl ?_;rw[ab];refine qU 1 rfl<|qM rfl cn<|qU 1 rfl<|ae.nil ?_;generalize bF rt.length (l.getD i [])=v at hmiss hhit;refine qX 2 rfl<|ae.nil ?_;by_cases hv:v=0;rotate_left
 ·have:=hhit hv;subst this;rw[bne_iff_ne.2 (show((v:Nat):Int)≠0 by omega)];exact AW.aH rfl<|qX 2 rfl<|qN rfl
 rw[bne_eq_false_iff_eq.2 (show((v:Nat):Int)=0 by omega)];refine AW.aC rfl<|AW.skip<|qT 1 rfl ?_;rw[aD (x:=(i:Int)+1) (by omega) (by omega)];refine qU 1 rfl<|ae.nil ?_;exact⟨i+1,rfl,⟨hii,hmiss hv⟩,by omega⟩
theorem C'{rt:List (List RD)}{a:List RD}(T:qj m rt)(A:kR m rt a):Pure Tryz.prog 69 [uF rt,.sl 1 [bo a]] (dI (kL rt [a])):=by
 have hm:=T.m2
 have h0: ∀i,i<[a].length→i=0:=fun i hi=>by have:i<1:=hi;omega
 obtain⟨m0,t1,t2,tw,tk⟩:=T.t;exact jU rt [a] tw t1 T.l T.ll tk (fun i hi=>by rw[h0 i hi];exact A.w) (show 1≤1000000 by decide) (fun i hi=>by rw[h0 i hi];exact A.l) (by omega)
theorem C9{rt:List (List RD)}{a b:List RD}(T:qj m rt)(A:kR m rt a)(B:kR m rt b):Pure Tryz.prog 69 [uF rt,.sl 1 [bo a,bo b]] (dI (kL rt [a,b])):=by
 have hm:=T.m2
 have h0: ∀i,i<[a,b].length→i=0∨i=1:=fun i hi=>by have:i<2:=hi;omega
 obtain⟨m0,t1,t2,tw,tk⟩:=T.t;exact jU rt [a,b] tw t1 T.l T.ll tk (fun i hi=>by rcases h0 i hi with rfl|rfl;exact A.w;exact B.w) (show 2≤1000000 by decide) (fun i hi=>by rcases h0 i hi with rfl|rfl;exact A.l;exact B.l) (by omega)
theorem nB{a:NQ}(V:fC m v)(ha:ay v.length a)(sa:au m a)(hb:ay v.length b)(sb:au m b):Pure Tryz.prog 69 [fm v,.sl 1 [ak a,ak b]] (dI 0):=by have:=C9 V.raw.1 (jT V ha sa) (jT V hb sb);rw[Pj V ha hb,lv,il,il]at this;exact this
theorem I9(r s:RD)(hr:r.w k)(hs:s.w k)(hk:k≤17300000000000)(h0:s.val≠0):Pure Tryz.prog 215 [r.D,s.D] (.tu [(Qr (r.val/s.val)).D,dI 0]):=by refine qJ 29 Tryz.func215 rfl (fun B F0 w0=>?_);have hl:=bU (hr.mono (h9 k 1)) (hV k 1);have hm:=bU (hs.mono (h9 k 1)) (hV k 1);have:=kr r.val;have:=kT r.val;have:=kr s.val;have:=kT s.val;obtain⟨d1,d2,d3⟩:=J' hl hm h0;rw[←rH r.val s.val h0];refine qX 4 rfl<|qK 1 rfl<|qM rfl (eJ r hr (by omega)) ?_;refine qU 7 rfl<|qK 1 rfl<|qM rfl (eJ s hs (by omega)) ?_;refine qU 7 rfl<|qI<|AW.draw aO 9 (by kernel_rfl) ?_;refine qP 2 rfl<|qQ rfl (im r.val.num s.val.den (by omega) (by omega)) ?_;refine qP 2 rfl<|qQ rfl (im r.val.den s.val.num (by omega) (by omega)) ?_;refine qQ rfl (Db (r.val.num*s.val.den) (r.val.den*s.val.num) (by omega) (by omega) d3) ?_;exact qP 2 rfl<|ai.nil<|qU 2 rfl<|qN rfl
end Lift
namespace Lift
variable {v:List NQ}{b:NQ}{k l m r:Nat}
structure Rg where
 T:Type
 add:T→T→T
 mul:T→T→T
 neg:T→T
 z:T
 o:T
 ac: ∀x y,add x y=add y x
 aa: ∀x y w,add (add x y) w=add x (add y w)
 az: ∀x,add x z=x
 an: ∀x,add x (neg x)=z
 mc: ∀x y,mul x y=mul y x
 ma: ∀x y w,mul (mul x y) w=mul x (mul y w)
 mo: ∀x,mul x o=x
 md: ∀x y w,mul x (add y w)=add (mul x y) (mul x w)
instance (R:Rg):Add R.T:=⟨R.add⟩
instance (R:Rg):Mul R.T:=⟨R.mul⟩
instance (R:Rg):Neg R.T:=⟨R.neg⟩
instance (R:Rg):Sub R.T:=⟨fun x y=>R.add x (R.neg y)⟩
instance (R:Rg):OfNat R.T 0:=⟨R.z⟩
instance (R:Rg):OfNat R.T 1:=⟨R.o⟩
section
variable {R:Rg}
theorem Rg.sub_def(x y:R.T):x-y=x+ -y:=rfl
theorem Rg.add_comm(x y:R.T):x+y=y+x:=R.ac x y
theorem Rg.add_assoc(x y w:R.T):x+y+w=x+(y+w):=R.aa x y w
theorem Rg.add_zero(x:R.T):x+0=x:=R.az x
theorem Rg.zero_add(x:R.T):0+x=x:=by rw[Rg.add_comm,Rg.add_zero]
theorem Rg.add_neg(x:R.T):x+ -x=0:=R.an x
theorem Rg.mul_comm(x y:R.T):x*y=y*x:=R.mc x y
theorem Rg.mul_assoc(x y w:R.T):x*y*w=x*(y*w):=R.ma x y w
theorem Rg.mul_one(x:R.T):x*1=x:=R.mo x
theorem Rg.one_mul(x:R.T):1*x=x:=by rw[Rg.mul_comm,Rg.mul_one]
theorem Rg.mul_add(x y w:R.T):x*(y+w)=x*y+x*w:=R.md x y w
theorem Rg.add_mul(x y w:R.T):(y+w)*x=y*x+w*x:=by rw[Rg.mul_comm,Rg.mul_add,Rg.mul_comm x y,Rg.mul_comm x w]
theorem Rg.D'{x y w:R.T}(h:x+y=x+w):y=w:=by
 have: -x+(x+y)= -x+(x+w):=by rw[h]
 rw[←Rg.add_assoc,←Rg.add_assoc,Rg.add_comm (-x),Rg.add_neg,Rg.zero_add,Rg.zero_add]at this;exact this
theorem Rg.neg_eq{x y:R.T}(h:x+y=0): -x=y:=Rg.D' (x:=x) (by rw[Rg.add_neg,h])
theorem Rg.neg_neg(x:R.T): - -x=x:=Rg.neg_eq (by rw[Rg.add_comm,Rg.add_neg])
theorem Rg.neg_zero: -(0:R.T)=0:=Rg.neg_eq (Rg.add_zero 0)
theorem Rg.mul_zero(x:R.T):x*0=0:=Rg.D' (x:=x*0) (by rw[←Rg.mul_add,Rg.add_zero,Rg.add_zero])
theorem Rg.zero_mul(x:R.T):0*x=0:=by rw[Rg.mul_comm,Rg.mul_zero]
theorem Rg.mul_neg(x y:R.T):x* -y= -(x*y):=(Rg.neg_eq (by rw[←Rg.mul_add,Rg.add_neg,Rg.mul_zero])).symm
theorem Rg.neg_mul(x y:R.T): -x*y= -(x*y):=by rw[Rg.mul_comm,Rg.mul_neg,Rg.mul_comm]
theorem Rg.neg_add(x y:R.T): -(x+y)= -x+ -y:=Rg.neg_eq (by rw[Rg.add_assoc,←Rg.add_assoc y,Rg.add_comm y,Rg.add_assoc,Rg.add_neg,Rg.add_zero,Rg.add_neg])
theorem Rg.sub_self(x:R.T):x-x=0:=Rg.add_neg x
theorem Rg.Aw{x y:R.T}(h:x-y=0):x=y:=by
 have:x+ -y+y=0+y:=by rw[←Rg.sub_def,h]
 rwa [Rg.add_assoc,Rg.add_comm (-y),Rg.add_neg,Rg.add_zero,Rg.zero_add]at this
end
inductive Px where
 |v (i:Nat)
 |z
 |o
 |add (p q:Px)
 |mul (p q:Px)
 |neg (p:Px)
 |sub (p q:Px)
instance:Add Px:=⟨.add⟩
instance:Mul Px:=⟨.mul⟩
instance:Neg Px:=⟨.neg⟩
instance:Sub Px:=⟨.sub⟩
instance:OfNat Px 0:=⟨.z⟩
instance:OfNat Px 1:=⟨.o⟩
def Px.ev{R:Rg}(ρ:List R.T):Px→R.T
 | .v i=>ρ.getD i 0
 | .z=>0
 | .o=>1
 | .add p q=>p.ev ρ+q.ev ρ
 | .mul p q=>p.ev ρ*q.ev ρ
 | .neg p=> -p.ev ρ
 | .sub p q=>p.ev ρ-q.ev ρ
def HS(i:Nat):List Nat→List Nat
 |[]=>[i]
 |j::r=>if i≤j then i::j::r else j::HS i r
def OQ:List Nat→List Nat→List Nat
 |[],l=>l
 |i::r,l=>HS i (OQ r l)
abbrev Pl:=List (Bool×List Nat)
def Pl.flip(p:Pl):Pl:=p.map fun m=>(!m.1,m.2)
def Pl.PL(m:Bool×List Nat)(p:Pl):Pl:=p.map fun n=>(m.1==n.1,OQ m.2 n.2)
def Pl.mul:Pl→Pl→Pl
 |[],_=>[]
 |m::r,q=>Pl.PL m q++Pl.mul r q
def Px.nf:Px→Pl
 | .v i=>[(true,[i])]
 | .z=>[]
 | .o=>[(true,[])]
 | .add p q=>p.nf++q.nf
 | .mul p q=>Pl.mul p.nf q.nf
 | .neg p=>Pl.flip p.nf
 | .sub p q=>p.nf++Pl.flip q.nf
def Pl.rem(m:Bool×List Nat):Pl→Option Pl
 |[]=>none
 |n::r=>if (m.1 != n.1)&&(m.2==n.2)then some r else match Pl.rem m r with
  |some r'=>some (n::r')
  |none=>none
def Pl.Lz:Nat→Pl→Bool
 |_,[]=>true
 |0,_::_=>false
 |f+1,m::r=>match Pl.rem m r with
  |some r'=>Pl.Lz f r'
  |none=>false
def Px.Cq(p q:Px):Bool:=let l:=(Px.sub p q).nf;Pl.Lz l.length l
section
variable {R:Rg}
def mN(ρ:List R.T):List Nat→R.T
 |[]=>1
 |i::r=>ρ.getD i 0*mN ρ r
def yR(b:Bool)(x:R.T):R.T:=if b then x else -x
def qf(ρ:List R.T):Pl→R.T
 |[]=>0
 |m::r=>yR m.1 (mN ρ m.2)+qf ρ r
theorem Ju(ρ:List R.T)(i:Nat): ∀l,mN ρ (HS i l)=ρ.getD i 0*mN ρ l
 |[]=>rfl
 |j::r=>by
  unfold HS;split
  ·rfl
  ·show ρ.getD j 0*mN ρ (HS i r)=ρ.getD i 0*(ρ.getD j 0*mN ρ r);rw[Ju ρ i r,←Rg.mul_assoc,Rg.mul_comm (ρ.getD j 0),Rg.mul_assoc]
theorem Mx(ρ:List R.T): ∀l m,mN ρ (OQ l m)=mN ρ l*mN ρ m
 |[],m=>(Rg.one_mul _).symm
 |i::r,m=>by show mN ρ (HS i (OQ r m))=ρ.getD i 0*mN ρ r*mN ρ m;rw[Ju,Mx ρ r m,Rg.mul_assoc]
theorem v8(ρ:List R.T): ∀p q,qf ρ (p++q)=qf ρ p+qf ρ q
 |[],q=>(Rg.zero_add _).symm
 |m::r,q=>by show yR m.1 (mN ρ m.2)+qf ρ (r++q)=yR m.1 (mN ρ m.2)+qf ρ r+qf ρ q;rw[v8 ρ r q,Rg.add_assoc]
theorem Gc(b:Bool)(x:R.T):yR (!b) x= -yR b x:=by
 cases b
 ·exact(Rg.neg_neg x).symm
 ·rfl
theorem Lh(a b:Bool)(x y:R.T):yR (a==b) (x*y)=yR a x*yR b y:=by
 cases a<;>cases b
 ·show x*y= -x* -y;rw[Rg.neg_mul,Rg.mul_neg,Rg.neg_neg]
 ·show -(x*y)= -x*y;rw[Rg.neg_mul]
 ·show -(x*y)=x* -y;rw[Rg.mul_neg]
 ·rfl
theorem xB(ρ:List R.T): ∀p:Pl,qf ρ (Pl.flip p)= -qf ρ p
 |[]=>Rg.neg_zero.symm
 |m::r=>by show yR (!m.1) (mN ρ m.2)+qf ρ (Pl.flip r)= -(yR m.1 (mN ρ m.2)+qf ρ r);rw[xB ρ r,Gc,Rg.neg_add]
theorem Gs(ρ:List R.T)(m:Bool×List Nat): ∀p:Pl,qf ρ (Pl.PL m p)=yR m.1 (mN ρ m.2)*qf ρ p
 |[]=>(Rg.mul_zero _).symm
 |n::r=>by show yR (m.1==n.1) (mN ρ (OQ m.2 n.2))+qf ρ (Pl.PL m r)=yR m.1 (mN ρ m.2)*(yR n.1 (mN ρ n.2)+qf ρ r);rw[Gs ρ m r,Mx,Lh,Rg.mul_add]
theorem Gr(ρ:List R.T): ∀p q:Pl,qf ρ (Pl.mul p q)=qf ρ p*qf ρ q
 |[],q=>(Rg.zero_mul _).symm
 |m::r,q=>by show qf ρ (Pl.PL m q++Pl.mul r q)=(yR m.1 (mN ρ m.2)+qf ρ r)*qf ρ q;rw[v8,Gs,Gr ρ r q,Rg.add_mul]
theorem Px.ve(ρ:List R.T): ∀p:Px,qf ρ p.nf=p.ev ρ
 | .v i=>by show ρ.getD i 0*1+0=_;rw[Rg.mul_one,Rg.add_zero];rfl
 | .z=>rfl
 | .o=>Rg.add_zero _
 | .add p q=>by show qf ρ (p.nf++q.nf)=p.ev ρ+q.ev ρ;rw[v8,Px.ve ρ p,Px.ve ρ q]
 | .mul p q=>by show qf ρ (Pl.mul p.nf q.nf)=p.ev ρ*q.ev ρ;rw[Gr,Px.ve ρ p,Px.ve ρ q]
 | .neg p=>by show qf ρ (Pl.flip p.nf)= -p.ev ρ;rw[xB,Px.ve ρ p]
 | .sub p q=>by show qf ρ (p.nf++Pl.flip q.nf)=p.ev ρ-q.ev ρ;rw[v8,xB,Px.ve ρ p,Px.ve ρ q];rfl
theorem Gq(ρ:List R.T)(m:Bool×List Nat): ∀{p p':Pl},Pl.rem m p=some p'→yR m.1 (mN ρ m.2)+qf ρ p=qf ρ p'
 |[],p',h=>by cases h
 |n::r,p',h=>by
  unfold Pl.rem at h;split at h
  ·rename_i hc;cases h;rw[d7]at hc
   have e1:n.1= !m.1:=by
    have h1:=hc.1
    revert h1
    cases m.1<;>cases n.1<;>simp
   have e2:m.2=n.2:=beq_iff_eq.1 hc.2;show yR m.1 (mN ρ m.2)+(yR n.1 (mN ρ n.2)+qf ρ r)=qf ρ r;rw[e1,←e2,Gc,←Rg.add_assoc,Rg.add_neg,Rg.zero_add]
  ·split at h
   ·rename_i r' hr;cases h;have ih:=Gq ρ m hr;show yR m.1 (mN ρ m.2)+(yR n.1 (mN ρ n.2)+qf ρ r)=yR n.1 (mN ρ n.2)+qf ρ r';rw[←ih,←Rg.add_assoc,Rg.add_comm (yR m.1 _),Rg.add_assoc]
   ·cases h
theorem Di(ρ:List R.T): ∀(f:Nat) {p:Pl},Pl.Lz f p=true→qf ρ p=0
 |_,[],_=>rfl
 |0,_::_,h=>by cases h
 |f+1,m::r,h=>by
  have h:(match Pl.rem m r with
   |some r'=>Pl.Lz f r'
   |none=>false)=true:=h
  split at h
  ·rename_i r' hr;exact(Gq ρ m hr).trans (Di ρ f h)
  ·cases h
theorem Rg.bJ(ρ:List R.T)(p q:Px)(h:Px.Cq p q=true):p.ev ρ=q.ev ρ:=by have h1:=Di ρ _ h;rw[Px.ve]at h1;exact Rg.Aw h1
end
abbrev X0:Px:=.v 0
abbrev X1:Px:=.v 1
abbrev X2:Px:=.v 2
abbrev X3:Px:=.v 3
abbrev X4:Px:=.v 4
abbrev X5:Px:=.v 5
abbrev X6:Px:=.v 6
abbrev X7:Px:=.v 7
example (R:Rg) (a b c:R.T):(a+b)*(a-b)+c*b=a*a+b*(c-b):=Rg.bJ [a,b,c] ((X0+X1)*(X0-X1)+X2*X1) (X0*X0+X1*(X2-X1)) rfl
structure OR extends Rg where
 sgn:T→Int
 s3: ∀x,sgn x=1∨sgn x=0∨sgn x= -1
 sn: ∀x,sgn (neg x)= -sgn x
 sm: ∀x y,sgn (mul x y)=sgn x*sgn y
 sp: ∀x y,sgn x=1→sgn y=1→sgn (add x y)=1
 s0: ∀x y,sgn x=0→sgn (add x y)=sgn y
 s1:sgn o=1
variable {R:OR}
theorem OR.ng(x:R.T):R.sgn (-x)= -R.sgn x:=R.sn x
theorem OR.ml(x y:R.T):R.sgn (x*y)=R.sgn x*R.sgn y:=R.sm x y
theorem OR.null(x y:R.T)(h:R.sgn x=0):R.sgn (x+y)=R.sgn y:=R.s0 x y h
theorem OR.Ak(x y:R.T)(h:R.sgn y=0):R.sgn (x+y)=R.sgn x:=by rw[Rg.add_comm];exact R.s0 y x h
theorem OR.zero:R.sgn (0:R.T)=0:=by have h:=OR.ng (R:=R) 0;rw[Rg.neg_zero]at h;omega
theorem OR.one:R.sgn (1:R.T)=1:=R.s1
theorem OR.pp{x y:R.T}(h1:R.sgn x=1)(h2:0≤R.sgn y):R.sgn (x+y)=1:=by
 rcases R.s3 y with h|h|h
 ·exact R.sp x y h1 h
 ·rw[OR.Ak x y h];exact h1
 ·omega
theorem OR.nn{x y:R.T}(h1:R.sgn x= -1)(h2:R.sgn y≤0):R.sgn (x+y)= -1:=by have h:=OR.pp (x:= -x) (y:= -y) (by rw[OR.ng];omega) (by rw[OR.ng];omega);rw[←Rg.neg_add,OR.ng]at h;omega
theorem OR.lN{x:R.T}(y:R.T)(h:R.sgn x=0):R.sgn (x*y)=0:=by rw[OR.ml,h,e9]
theorem OR.DG{x:R.T}(y:R.T)(h:R.sgn x=0):R.sgn (y*x)=0:=by rw[OR.ml,h,eA]
theorem OR.sq(x:R.T):0≤R.sgn (x*x):=by rw[OR.ml];rcases R.s3 x with h|h|h<;>rw[h]<;>decide
theorem OR.PN{x:R.T}(h:R.sgn (x*x)=0):R.sgn x=0:=by rw[OR.ml]at h;rcases R.s3 x with e|e|e<;>rw[e]at h ⊢ <;>revert h<;>decide
theorem OR.PB{x:R.T}(h:R.sgn x≠0):R.sgn (x*x)=1:=by
 rw[OR.ml];rcases R.s3 x with e|e|e
 ·rw[e];rfl
 ·exact aG e h
 ·rw[e];rfl
theorem OR.more{x y:R.T}(h:R.sgn (x*x-y*y)=1):R.sgn (x+y)=R.sgn x:=by
 have hx:R.sgn x≠0:=fun e=>by have h1:=OR.null (x*x) (-(y*y)) (OR.lN x e);have h2:=OR.sq y;rw[OR.ng]at h1;have h1:R.sgn (x*x-y*y)= -R.sgn (y*y):=h1;omega
 have key: ∀{x y:R.T},R.sgn (x*x-y*y)=1→R.sgn x=1→R.sgn (x+y)=1:=fun {x y} h hx=>by
  rcases R.s3 y with e|e|e
  ·exact OR.pp hx (by omega)
  ·exact OR.pp hx (by omega)
  ·have h1:R.sgn (x-y)=1:=OR.pp (y:= -y) hx (by rw[OR.ng];omega);have e:x*x-y*y=(x-y)*(x+y):=Rg.bJ [x,y] (X0*X0-X1*X1) ((X0-X1)*(X0+X1)) rfl;rw[e,OR.ml,h1]at h;omega
 rcases R.s3 x with e|e|e
 ·rw[e];exact key h e
 ·exact aG e hx
 ·have h1:=key (x:= -x) (y:= -y) (by
   rw[←h];congr 1
   exact Rg.bJ [x,y] (-X0* -X0- -X1* -X1) (X0*X0-X1*X1) rfl) (by rw[OR.ng];omega)
  rw[←Rg.neg_add,OR.ng]at h1;omega
def Rg.ext(R:Rg)(d:R.T):Rg where
 T:=R.T×R.T
 add x y:=(x.1+y.1,x.2+y.2)
 mul x y:=(x.1*y.1+x.2*y.2*d,x.1*y.2+x.2*y.1)
 neg x:=(-x.1, -x.2)
 z:=(0,0)
 o:=(1,0)
 ac x y:=ap (Rg.add_comm _ _) (Rg.add_comm _ _)
 aa x y w:=ap (Rg.add_assoc _ _ _) (Rg.add_assoc _ _ _)
 az x:=ap (Rg.add_zero _) (Rg.add_zero _)
 an x:=ap (Rg.add_neg _) (Rg.add_neg _)
 mc x y:=ap (Rg.bJ [x.1,x.2,y.1,y.2,d] (X0*X2+X1*X3*X4) (X2*X0+X3*X1*X4) rfl) (Rg.bJ [x.1,x.2,y.1,y.2] (X0*X3+X1*X2) (X2*X1+X3*X0) rfl)
 ma x y w:=ap
  (Rg.bJ [x.1,x.2,y.1,y.2,w.1,w.2,d] ((X0*X2+X1*X3*X6)*X4+(X0*X3+X1*X2)*X5*X6) (X0*(X2*X4+X3*X5*X6)+X1*(X2*X5+X3*X4)*X6) rfl)
  (Rg.bJ [x.1,x.2,y.1,y.2,w.1,w.2,d] ((X0*X2+X1*X3*X6)*X5+(X0*X3+X1*X2)*X4) (X0*(X2*X5+X3*X4)+X1*(X2*X4+X3*X5*X6)) rfl)
 mo x:=ap (Rg.bJ [x.1,x.2,d] (X0*1+X1*0*X2) X0 rfl) (Rg.bJ [x.1,x.2] (X0*0+X1*1) X1 rfl)
 md x y w:=ap
  (Rg.bJ [x.1,x.2,y.1,y.2,w.1,w.2,d] (X0*(X2+X4)+X1*(X3+X5)*X6) (X0*X2+X1*X3*X6+(X0*X4+X1*X5*X6)) rfl)
  (Rg.bJ [x.1,x.2,y.1,y.2,w.1,w.2] (X0*(X3+X5)+X1*(X2+X4)) (X0*X3+X1*X2+(X0*X5+X1*X4)) rfl)
def OR.es(R:OR)(d:R.T)(x:R.T×R.T):Int :=
 if R.sgn d=0 then R.sgn x.1 else if R.sgn x.1=R.sgn x.2∨R.sgn x.2=0 then R.sgn x.1 else
  if R.sgn x.1=0 then R.sgn x.2 else R.sgn x.1*R.sgn (x.1*x.1-x.2*x.2*d)
section
variable {d:R.T}
def OR.nr(d:R.T)(x:R.T×R.T):R.T:=x.1*x.1-x.2*x.2*d
theorem OR.KB(hd:R.sgn d=1)(b:R.T):R.sgn (b*b*d)=R.sgn (b*b):=by rw[OR.ml (b*b) d,hd,cI]
theorem OR.Hr(x y:R.T)(h:R.sgn x=0):R.sgn (x-y)= -R.sgn y:=(OR.null x (-y) h).trans (OR.ng y)
theorem OR.zQ(x y:R.T)(h:R.sgn y=0):R.sgn (x-y)=R.sgn x:=OR.Ak x (-y) (by rw[OR.ng,h];rfl)
theorem OR.kI(hd:R.sgn d=1){x:R.T×R.T}(h:R.sgn (OR.nr d x)=1):R.es d x=R.sgn x.1:=by
 obtain⟨a,b⟩:=x;unfold OR.es OR.nr at *;simp only[]at *;rw[af (by omega)];by_cases c1:R.sgn a=R.sgn b∨R.sgn b=0
 ·rw[ah c1]
 rw[af c1];by_cases c2:R.sgn a=0
 ·have h1:=OR.Hr (a*a) (b*b*d) (OR.lN a c2);rw[OR.KB hd]at h1;have:=OR.sq b;omega
 ·rw[af c2,h,cI]
theorem OR.mh(hd:R.sgn d=1){x:R.T×R.T}(h:R.sgn (OR.nr d x)= -1):R.es d x=R.sgn x.2:=by
 obtain⟨a,b⟩:=x;unfold OR.es OR.nr at *;simp only[]at *;rw[af (by omega)];by_cases c0:R.sgn b=0
 ·have h1:=OR.zQ (a*a) (b*b*d) (by rw[OR.KB hd];exact OR.lN b c0);have:=OR.sq a;omega
 by_cases c1:R.sgn a=R.sgn b
 ·rw[ah (.inl c1),c1]
 rw[af (by simp[c0,c1])];by_cases c2:R.sgn a=0
 ·rw[ah c2]
 rw[af c2,h];rcases R.s3 a with e|e|e<;>rcases R.s3 b with g|g|g<;>omega
theorem OR.nO(hd:R.sgn d=1){x:R.T×R.T}(h1:R.sgn x.1=0)(h2:R.sgn x.2=0):R.es d x=0:=by unfold OR.es;rw[af (by omega),ah (.inr h2),h1]
theorem OR.xJ(x y:R.T×R.T):OR.nr d (x.1*y.1+x.2*y.2*d,x.1*y.2+x.2*y.1)=OR.nr d x*OR.nr d y :=
 Rg.bJ [x.1,x.2,y.1,y.2,d] ((X0*X2+X1*X3*X4)*(X0*X2+X1*X3*X4) -(X0*X3+X1*X2)*(X0*X3+X1*X2)*X4) ((X0*X0-X1*X1*X4)*(X2*X2-X3*X3*X4)) rfl
theorem OR.NA(x:R.T×R.T):OR.nr d (-x.1, -x.2)=OR.nr d x :=
 Rg.bJ [x.1,x.2,d] (-X0* -X0- -X1* -X1*X2) (X0*X0-X1*X1*X2) rfl
theorem OR.NR{p q:R.T}(hd:R.sgn d=1)(hp:R.sgn p=1)(hq:R.sgn q=1)(h:R.sgn (p*p-q*q*d)=0)(x:R.T×R.T):R.es d x=R.sgn (x.1*q+x.2*p):=by
 obtain⟨a,b⟩:=x;unfold OR.es;simp only[];rw[af (by omega)];have ea:R.sgn (a*q)=R.sgn a:=by rw[OR.ml,hq,cI]
 have eb:R.sgn (b*p)=R.sgn b:=by rw[OR.ml,hp,cI]
 by_cases c0:R.sgn b=0
 ·rw[ah (.inr c0),OR.Ak _ _ (by rw[eb,c0]),ea]
 by_cases c1:R.sgn a=R.sgn b
 ·rw[ah (.inl c1)];rcases R.s3 a with e|e|e
  ·rw[OR.pp (by rw[ea,e]) (by rw[eb];omega),e]
  ·omega
  ·rw[OR.nn (by rw[ea,e]) (by rw[eb];omega),e]
 rw[af (by simp[c0,c1])];by_cases c2:R.sgn a=0
 ·rw[ah c2,OR.null _ _ (by rw[ea,c2]),eb]
 rw[af c2]
 have e1:q*q*(a*a-b*b*d)=(a*q-b*p)*(a*q+b*p)+b*b*(p*p-q*q*d) :=
  Rg.bJ [a,b,p,q,d] (X3*X3*(X0*X0-X1*X1*X4)) ((X0*X3-X1*X2)*(X0*X3+X1*X2)+X1*X1*(X2*X2-X3*X3*X4)) rfl
 have e2:R.sgn (a*a-b*b*d)=R.sgn (a*q-b*p)*R.sgn (a*q+b*p):=by
  have h1:R.sgn (q*q*(a*a-b*b*d))=R.sgn (a*a-b*b*d):=by rw[OR.ml,OR.ml,hq];omega
  rw[←h1,e1,OR.Ak _ _ (OR.DG _ h),OR.ml]
 have e3:R.sgn (a*q-b*p)=R.sgn a:=by
  show R.sgn (a*q+ -(b*p))=_;rcases R.s3 a with e|e|e
  ·rw[e];exact OR.pp (by rw[ea,e]) (by rw[OR.ng,eb];rcases R.s3 b with g|g|g<;>omega)
  ·exact aG e c2
  ·rw[e];exact OR.nn (by rw[ea,e]) (by rw[OR.ng,eb];rcases R.s3 b with g|g|g<;>omega)
 rw[e2,e3,←Int.mul_assoc];rcases R.s3 a with e|e|e
 ·rw[e];omega
 ·exact aG e c2
 ·rw[e];omega
theorem OR.P4(hd:R.sgn d=1)(hns: ∀p q:R.T,R.sgn p=1→R.sgn q=1→R.sgn (p*p-q*q*d)≠0){x:R.T×R.T}(h:R.sgn (OR.nr d x)=0):R.sgn x.1=0∧R.sgn x.2=0:=by
 obtain⟨a,b⟩:=x;unfold OR.nr at h;simp only[]at *
 have hb:R.sgn b=0:=by
  by_cases hb:R.sgn b=0
  ·exact hb
  exfalso
  have ha:R.sgn a≠0:=fun ha=>by have h1:=OR.Hr (a*a) (b*b*d) (OR.lN a ha);rw[OR.KB hd,OR.PB hb]at h1;omega
  obtain⟨p,hp,ep⟩: ∃p:R.T,R.sgn p=1∧p*p=a*a:=by
   rcases R.s3 a with e|e|e
   ·exact⟨a,e,rfl⟩
   ·exact aG e ha
   ·exact⟨-a,by rw[OR.ng];omega,Rg.bJ [a] (-X0* -X0) (X0*X0) rfl⟩
  obtain⟨q,hq,eq⟩: ∃q:R.T,R.sgn q=1∧q*q=b*b:=by
   rcases R.s3 b with e|e|e
   ·exact⟨b,e,rfl⟩
   ·exact aG e hb
   ·exact⟨-b,by rw[OR.ng];omega,Rg.bJ [b] (-X0* -X0) (X0*X0) rfl⟩
  exact hns p q hp hq (by rw[ep,eq];exact h)
 refine⟨?_,hb⟩;rw[OR.zQ _ _ (by rw[OR.KB hd];exact OR.lN b hb)]at h;exact OR.PN h
end
section
variable {d:R.T}
def pM(d:R.T)(x y:R.T×R.T):R.T×R.T:=(x.1*y.1+x.2*y.2*d,x.1*y.2+x.2*y.1)
def pA(x y:R.T×R.T):R.T×R.T:=(x.1+y.1,x.2+y.2)
def pN(x:R.T×R.T):R.T×R.T:=(-x.1, -x.2)
structure KH (R:OR) (d:R.T):Prop where
 s3: ∀x,R.es d x=1∨R.es d x=0∨R.es d x= -1
 sn: ∀x,R.es d (pN x)= -R.es d x
 sm: ∀x y,R.es d (pM d x y)=R.es d x*R.es d y
 sp: ∀x y,R.es d x=1→R.es d y=1→R.es d (pA x y)=1
 s0: ∀x y,R.es d x=0→R.es d (pA x y)=R.es d y
 s1:R.es d (1,0)=1
theorem J3(f:R.T×R.T→R.T)(q:R.T)(hq:R.sgn q=1)(h: ∀x,R.es d x=R.sgn (f x))(hn: ∀x,f (pN x)= -f x)(ha: ∀x y,f (pA x y)=f x+f y)(hm: ∀x y,R.sgn (q*f (pM d x y))=R.sgn (f x*f y))(h1:f (1,0)=q):KH R d where
 s3 x:=by rw[h];exact R.s3 _
 sn x:=by rw[h,h,hn,OR.ng]
 sm x y:=by rw[h,h,h,←OR.ml,←hm,OR.ml,hq,f5]
 sp x y hx hy:=by rw[h]at *;rw[ha];exact R.sp _ _ hx hy
 s0 x y hx:=by rw[h]at *;rw[h,ha];exact R.s0 _ _ hx
 s1:=by rw[h,h1];exact hq
theorem NN(hd:R.sgn d=0):KH R d:=by
 refine J3 (fun x=>x.1) 1 OR.one (fun x=>?_) (fun x=>rfl) (fun x y=>rfl) (fun x y=>?_) rfl
 ·unfold OR.es;rw[ah hd]
 ·show R.sgn (1*(x.1*y.1+x.2*y.2*d))=_;rw[Rg.one_mul];exact OR.Ak _ _<|OR.DG _ hd
theorem NO{p q:R.T}(hd:R.sgn d=1)(hp:R.sgn p=1)(hq:R.sgn q=1)(h:R.sgn (p*p-q*q*d)=0):KH R d:=by
 refine J3 (fun x=>x.1*q+x.2*p) q hq (fun x=>OR.NR hd hp hq h x) (fun x=>?_) (fun x y=>?_) (fun x y=>?_) ?_
 ·exact Rg.bJ [x.1,x.2,p,q] (-X0*X3+ -X1*X2) (-(X0*X3+X1*X2)) rfl
 ·exact Rg.bJ [x.1,x.2,y.1,y.2,p,q] ((X0+X2)*X5+(X1+X3)*X4) (X0*X5+X1*X4+(X2*X5+X3*X4)) rfl
 ·have e:(x.1*q+x.2*p)*(y.1*q+y.2*p)=q*((x.1*y.1+x.2*y.2*d)*q+(x.1*y.2+x.2*y.1)*p)+x.2*y.2*(p*p-q*q*d) :=
   Rg.bJ [x.1,x.2,y.1,y.2,p,q,d] ((X0*X5+X1*X4)*(X2*X5+X3*X4)) (X5*((X0*X2+X1*X3*X6)*X5+(X0*X3+X1*X2)*X4)+X1*X3*(X4*X4-X5*X5*X6)) rfl
  show R.sgn (q*((x.1*y.1+x.2*y.2*d)*q+(x.1*y.2+x.2*y.1)*p))=R.sgn ((x.1*q+x.2*p)*(y.1*q+y.2*p));rw[e,OR.Ak _ _ (OR.DG _ h)]
 ·exact Rg.bJ [p,q] (1*X1+0*X0) X1 rfl
theorem Pc(hd:R.sgn d=1)(x:R.T×R.T)(hx:R.sgn (OR.nr d x)=1∨R.sgn (OR.nr d x)= -1∨(R.sgn x.1=0∧R.sgn x.2=0)):R.es d (pN x)= -R.es d x:=by
 have e:OR.nr d (pN x)=OR.nr d x:=OR.NA x;rcases hx with h|h|⟨h1,h2⟩
 ·rw[OR.kI hd h,OR.kI hd (by rw[e];exact h)];exact OR.ng _
 ·rw[OR.mh hd h,OR.mh hd (by rw[e];exact h)];exact OR.ng _
 ·rw[OR.nO hd h1 h2,OR.nO hd (by show R.sgn (-x.1)=0;rw[OR.ng];omega) (by show R.sgn (-x.2)=0;rw[OR.ng];omega)];rfl
theorem Bo(x y:R.T×R.T):pM d x y=pM d y x:=(R.toRg.ext d).mc x y
theorem Pe(hd:R.sgn d=1){x y:R.T×R.T}(hx:R.sgn (OR.nr d x)=1)(hy:R.sgn (OR.nr d y)=1):R.es d (pM d x y)=R.es d x*R.es d y:=by
 have hn:R.sgn (OR.nr d (pM d x y))=1:=by rw[show OR.nr d (pM d x y)=_ from OR.xJ x y,OR.ml,hx,hy];rfl
 rw[OR.kI hd hx,OR.kI hd hy,OR.kI hd hn,←OR.ml];show R.sgn (x.1*y.1+x.2*y.2*d)=_;refine OR.more ?_
 have e:x.1*y.1*(x.1*y.1) -x.2*y.2*d*(x.2*y.2*d)=x.1*x.1*(y.1*y.1-y.2*y.2*d)+y.2*y.2*d*(x.1*x.1-x.2*x.2*d) :=
  Rg.bJ [x.1,x.2,y.1,y.2,d] (X0*X2*(X0*X2) -X1*X3*X4*(X1*X3*X4)) (X0*X0*(X2*X2-X3*X3*X4)+X3*X3*X4*(X0*X0-X1*X1*X4)) rfl
 rw[e]
 have h1:R.sgn x.1≠0:=fun h0=>by have:=OR.Hr (x.1*x.1) (x.2*x.2*d) (OR.lN _ h0);rw[OR.KB hd]at this;have h2:=OR.sq x.2;unfold OR.nr at hx;omega
 refine OR.pp (by rw[OR.ml,OR.PB h1];unfold OR.nr at hy;rw[hy];rfl) ?_;rw[OR.ml,OR.KB hd];unfold OR.nr at hx;rw[hx,cI];exact OR.sq _
theorem ML(hd:R.sgn d=1){x y:R.T×R.T}(hx:R.sgn (OR.nr d x)=1)(hy:R.sgn (OR.nr d y)= -1):R.es d (pM d x y)=R.es d x*R.es d y:=by
 have hn:R.sgn (OR.nr d (pM d x y))= -1:=by rw[show OR.nr d (pM d x y)=_ from OR.xJ x y,OR.ml,hx,hy];rfl
 rw[OR.kI hd hx,OR.mh hd hy,OR.mh hd hn,←OR.ml];show R.sgn (x.1*y.2+x.2*y.1)=_;refine OR.more ?_;unfold OR.nr at hx hy
 have e:(x.1*y.2*(x.1*y.2) -x.2*y.1*(x.2*y.1))*d=x.1*x.1* -(y.1*y.1-y.2*y.2*d)+y.1*y.1*(x.1*x.1-x.2*x.2*d) :=
  Rg.bJ [x.1,x.2,y.1,y.2,d] ((X0*X3*(X0*X3) -X1*X2*(X1*X2))*X4) (X0*X0* -(X2*X2-X3*X3*X4)+X2*X2*(X0*X0-X1*X1*X4)) rfl
 have h1:R.sgn x.1≠0:=fun h0=>by have:=OR.Hr (x.1*x.1) (x.2*x.2*d) (OR.lN _ h0);rw[OR.KB hd]at this;have h2:=OR.sq x.2;omega
 have h2:R.sgn ((x.1*y.2*(x.1*y.2) -x.2*y.1*(x.2*y.1))*d)=1:=by rw[e];refine OR.pp (by rw[OR.ml,OR.PB h1,OR.ng,hy];rfl) ?_;rw[OR.ml,hx,cI];exact OR.sq _
 rw[OR.ml,hd,cI]at h2;exact h2
theorem Pd(hd:R.sgn d=1){x y:R.T×R.T}(hx:R.sgn (OR.nr d x)= -1)(hy:R.sgn (OR.nr d y)= -1):R.es d (pM d x y)=R.es d x*R.es d y:=by
 have hn:R.sgn (OR.nr d (pM d x y))=1:=by rw[show OR.nr d (pM d x y)=_ from OR.xJ x y,OR.ml,hx,hy];rfl
 rw[OR.mh hd hx,OR.mh hd hy,OR.kI hd hn,←OR.ml];show R.sgn (x.1*y.1+x.2*y.2*d)=_;have e0:R.sgn (x.2*y.2*d)=R.sgn (x.2*y.2):=by rw[OR.ml _ d,hd,cI]
 rw[Rg.add_comm,←e0];refine OR.more ?_;unfold OR.nr at hx hy
 have e:x.2*y.2*d*(x.2*y.2*d) -x.1*y.1*(x.1*y.1)=x.2*x.2*d* -(y.1*y.1-y.2*y.2*d)+y.1*y.1* -(x.1*x.1-x.2*x.2*d) :=
  Rg.bJ [x.1,x.2,y.1,y.2,d] (X1*X3*X4*(X1*X3*X4) -X0*X2*(X0*X2)) (X1*X1*X4* -(X2*X2-X3*X3*X4)+X2*X2* -(X0*X0-X1*X1*X4)) rfl
 have h1:R.sgn x.2≠0:=fun h0=>by have:=OR.zQ (x.1*x.1) (x.2*x.2*d) (by rw[OR.KB hd];exact OR.lN _ h0);have h2:=OR.sq x.1;omega
 rw[e];refine OR.pp (by rw[OR.ml,OR.KB hd,OR.PB h1,OR.ng,hy];rfl) ?_;rw[OR.ml,OR.ng,hx];have:=OR.sq y.1;omega
theorem J4(hd:R.sgn d=1)(hns: ∀p q:R.T,R.sgn p=1→R.sgn q=1→R.sgn (p*p-q*q*d)≠0){c:R.T}{x:R.T×R.T}(hc:R.sgn c=1)(hx:R.es d x=1):R.es d (c+x.1,x.2)=1:=by
 have e:OR.nr d (c+x.1,x.2)=c*(c+(x.1+x.1))+OR.nr d x :=
  Rg.bJ [x.1,x.2,c,d] ((X2+X0)*(X2+X0) -X1*X1*X3) (X2*(X2+(X0+X0))+(X0*X0-X1*X1*X3)) rfl
 rcases R.s3 (OR.nr d x)with h|h|h
 ·rw[OR.kI hd h]at hx;have h1:R.sgn (c+x.1)=1:=R.sp _ _ hc hx
  have h2:R.sgn (OR.nr d (c+x.1,x.2))=1:=by rw[e];refine OR.pp ?_ (by rw[h];decide);rw[OR.ml,hc,OR.pp hc (by rw[OR.pp hx (by rw[hx];decide)];decide)];rfl
  rw[OR.kI hd h2];exact h1
 ·have:=OR.P4 hd hns h;rw[OR.nO hd this.1 this.2]at hx;omega
 ·rw[OR.mh hd h]at hx;rcases R.s3 (OR.nr d (c+x.1,x.2))with g|g|g
  ·rw[OR.kI hd g];show R.sgn (c+x.1)=1
   have h1:R.sgn (c*(c+(x.1+x.1)))=1:=by
    have e2:c*(c+(x.1+x.1))=OR.nr d (c+x.1,x.2)+ -OR.nr d x:=by rw[e];exact Rg.bJ [c*(c+(x.1+x.1)),OR.nr d x] X0 (X0+X1+ -X1) rfl
    rw[e2];exact OR.pp g (by rw[OR.ng,h];decide)
   rw[OR.ml,hc,f5]at h1
   have h2:R.sgn (c+x.1+(c+x.1))=1:=by rw[show c+x.1+(c+x.1)=c+(c+(x.1+x.1))from Rg.bJ [c,x.1] (X0+X1+(X0+X1)) (X0+(X0+(X1+X1))) rfl];exact OR.pp hc (by rw[h1];decide)
   rcases R.s3 (c+x.1)with k|k|k
   ·exact k
   ·rw[OR.null _ _ k,k]at h2;omega
   ·rw[OR.nn k (by rw[k];decide)]at h2;omega
  ·have:=(OR.P4 hd hns g).2;have:R.sgn x.2=0:=this;omega
  ·rw[OR.mh hd g];exact hx
theorem NP(hd:R.sgn d=1)(hns: ∀p q:R.T,R.sgn p=1→R.sgn q=1→R.sgn (p*p-q*q*d)≠0):KH R d:=by
 have hN: ∀x:R.T×R.T,R.sgn (OR.nr d x)=1∨R.sgn (OR.nr d x)= -1∨(R.sgn x.1=0∧R.sgn x.2=0):=fun x=>by
  rcases R.s3 (OR.nr d x)with h|h|h
  ·exact .inl h
  ·exact .inr (.inr (OR.P4 hd hns h))
  ·exact .inr (.inl h)
 have s3: ∀x,R.es d x=1∨R.es d x=0∨R.es d x= -1:=fun x=>by
  rcases hN x with h|h|⟨h1,h2⟩
  ·rw[OR.kI hd h];exact R.s3 _
  ·rw[OR.mh hd h];exact R.s3 _
  ·rw[OR.nO hd h1 h2];exact .inr (.inl rfl)
 have sn: ∀x,R.es d (pN x)= -R.es d x:=fun x=>Pc hd x (hN x)
 have nil: ∀{x y:R.T×R.T},R.sgn x.1=0→R.sgn x.2=0→R.es d (pM d x y)=0:=fun {x y} h1 h2 =>
  OR.nO hd (by
    show R.sgn (x.1*y.1+x.2*y.2*d)=0;rw[OR.null _ _ (OR.lN _ h1)];exact OR.lN _ (OR.lN _ h2)) (by
    show R.sgn (x.1*y.2+x.2*y.1)=0
    rw[OR.null _ _ (OR.lN _ h1)];exact OR.lN _ h2)
 have sm: ∀x y,R.es d (pM d x y)=R.es d x*R.es d y:=fun x y=>by
  rcases hN x with h|h|⟨h1,h2⟩
  ·rcases hN y with g|g|⟨g1,g2⟩
   ·exact Pe hd h g
   ·exact ML hd h g
   ·rw[Bo,nil g1 g2,OR.nO hd g1 g2,eA]
  ·rcases hN y with g|g|⟨g1,g2⟩
   ·rw[Bo,ML hd g h,Int.mul_comm]
   ·exact Pd hd h g
   ·rw[Bo,nil g1 g2,OR.nO hd g1 g2,eA]
  ·rw[nil h1 h2,OR.nO hd h1 h2,e9]
 have nz: ∀x,R.es d x=0→R.sgn x.1=0∧R.sgn x.2=0:=fun x hx=>by
  rcases hN x with h|h|h
  ·rw[OR.kI hd h]at hx;exfalso;have:=OR.Hr (x.1*x.1) (x.2*x.2*d) (OR.lN _ hx);rw[OR.KB hd]at this;have h2:=OR.sq x.2;unfold OR.nr at h;omega
  ·rw[OR.mh hd h]at hx;exfalso;have:=OR.zQ (x.1*x.1) (x.2*x.2*d) (by rw[OR.KB hd];exact OR.lN _ hx);have h2:=OR.sq x.1;unfold OR.nr at h;omega
  ·exact h
 have s0: ∀x y,R.es d x=0→R.es d (pA x y)=R.es d y:=fun x y hx=>by
  obtain⟨h1,h2⟩:=nz x hx;have e1:R.sgn (pA x y).1=R.sgn y.1:=OR.null _ _ h1;have e2:R.sgn (pA x y).2=R.sgn y.2:=OR.null _ _ h2
  have e3:R.sgn (OR.nr d (pA x y))=R.sgn (OR.nr d y):=by
   have e:OR.nr d (pA x y)=x.1*(x.1+(y.1+y.1))+(x.2* -((x.2+(y.2+y.2))*d)+OR.nr d y) :=
    Rg.bJ [x.1,x.2,y.1,y.2,d] ((X0+X2)*(X0+X2) -(X1+X3)*(X1+X3)*X4) (X0*(X0+(X2+X2))+(X1* -((X1+(X3+X3))*X4)+(X2*X2-X3*X3*X4))) rfl
   rw[e,OR.null _ _ (OR.lN _ h1),OR.null _ _ (OR.lN _ h2)]
  unfold OR.es;unfold OR.nr at e3;rw[e1,e2,e3]
 refine⟨s3,sn,sm,fun x y hx hy=>?_,s0,?_⟩
 ·have hc:R.es d (OR.nr d x,0)=R.es d (x.1, -x.2)*R.es d x:=by
   rw[←sm]
   congr 1
   exact ap (Rg.bJ [x.1,x.2,d] (X0*X0-X1*X1*X2) (X0*X0+ -X1*X1*X2) rfl)<|Rg.bJ [x.1,x.2] 0 (X0*X1+ -X1*X0) rfl
  have hs:R.es d (OR.nr d x,0)=R.sgn (OR.nr d x):=by unfold OR.es;rw[af (by omega),ah (.inr OR.zero)]
  have hw:=sm (x.1, -x.2) y;have ht:=sm (x.1, -x.2) (pA x y)
  have e:pM d (x.1, -x.2) (pA x y)=(OR.nr d x+(pM d (x.1, -x.2) y).1,(pM d (x.1, -x.2) y).2):=ap
   (Rg.bJ [x.1,x.2,y.1,y.2,d] (X0*(X0+X2)+ -X1*(X1+X3)*X4) (X0*X0-X1*X1*X4+(X0*X2+ -X1*X3*X4)) rfl)
   (Rg.bJ [x.1,x.2,y.1,y.2,d] (X0*(X1+X3)+ -X1*(X0+X2)) (X0*X3+ -X1*X2) rfl)
  rw[hx,cI]at hc;rw[hy,cI]at hw;rw[hs]at hc;rcases hN x with h|h|⟨h1,h2⟩
  ·rw[h]at hc;rw[←hc]at hw ht;have h3:=J4 hd hns h hw;rw[e,h3]at ht;omega
  ·rw[h]at hc;rw[←hc]at hw ht;have hw2:=sn (pM d (x.1, -x.2) y);rw[hw]at hw2;have h3:=J4 hd hns (c:= -OR.nr d x) (by rw[OR.ng,h];rfl) hw2;have h4:=sn (pM d (x.1, -x.2) (pA x y));rw[e]at h4;rw[show pN (OR.nr d x+(pM d (x.1, -x.2) y).1,(pM d (x.1, -x.2) y).2)=(-OR.nr d x+(pN (pM d (x.1, -x.2) y)).1,(pN (pM d (x.1, -x.2) y)).2)from ap (Rg.neg_add _ _) rfl,h3]at h4;rw[e]at ht;omega
  ·rw[OR.nO hd h1 h2]at hx;omega
 ·unfold OR.es;rw[af (by omega),ah (.inr OR.zero)];exact OR.one
theorem ya(hd:0≤R.sgn d):KH R d:=by
 rcases R.s3 d with h|h|h
 ·by_cases hns: ∃p q:R.T,R.sgn p=1∧R.sgn q=1∧R.sgn (p*p-q*q*d)=0
  ·obtain⟨p,q,hp,hq,e⟩:=hns;exact NO h hp hq e
  ·exact NP h (fun p q hp hq e=>hns ⟨p,q,hp,hq,e⟩)
 ·exact NN h
 ·omega
end
def OR.ext(R:OR)(d:R.T)(hd:0≤R.sgn d):OR where
 toRg:=R.toRg.ext d
 sgn:=R.es d
 s3:=(ya hd).s3
 sn:=(ya hd).sn
 sm:=(ya hd).sm
 sp:=(ya hd).sp
 s0:=(ya hd).s0
 s1:=(ya hd).s1
structure Fd extends Rg where
 inv:T→T
 mi: ∀x,x≠z→mul x (inv x)=o
 ne:o≠z
def OR.Inv(R:OR):Prop:= ∀x:R.T,R.sgn x≠0→ ∃y:R.T,R.sgn (x*y-1)=0
section
variable {d:R.T}
theorem OR.Ht(x:R.T):R.sgn (x-x)=0:=by rw[Rg.sub_self];exact OR.zero
theorem OR.Hs{x y:R.T}(h:R.sgn (x-y)=0):R.sgn (y-x)=0:=by have e:y-x= -(x-y):=Rg.bJ [x,y] (X1-X0) (-(X0-X1)) rfl;rw[e,OR.ng,h];rfl
theorem OR.EB{x y w:R.T}(h1:R.sgn (x-y)=0)(h2:R.sgn (y-w)=0):R.sgn (x-w)=0:=by have e:x-w=(x-y)+(y-w):=Rg.bJ [x,y,w] (X0-X2) (X0-X1+(X1-X2)) rfl;rw[e,OR.null _ _ h1];exact h2
theorem OR.Ql{x y x' y':R.T}(h1:R.sgn (x-x')=0)(h2:R.sgn (y-y')=0):R.sgn (x+y-(x'+y'))=0:=by have e:x+y-(x'+y')=(x-x')+(y-y'):=Rg.bJ [x,y,x',y'] (X0+X1-(X2+X3)) (X0-X2+(X1-X3)) rfl;rw[e,OR.null _ _ h1];exact h2
theorem OR.OO{x y x' y':R.T}(h1:R.sgn (x-x')=0)(h2:R.sgn (y-y')=0):R.sgn (x*y-x'*y')=0:=by have e:x*y-x'*y'=(x-x')*y+x'*(y-y'):=Rg.bJ [x,y,x',y'] (X0*X1-X2*X3) ((X0-X2)*X1+X2*(X1-X3)) rfl;rw[e,OR.null _ _ (OR.lN _ h1)];exact OR.DG _ h2
theorem OR.P5{x x':R.T}(h1:R.sgn (x-x')=0):R.sgn (-x- -x')=0:=by have e: -x- -x'= -(x-x'):=Rg.bJ [x,x'] (-X0- -X1) (-(X0-X1)) rfl;rw[e,OR.ng,h1];rfl
theorem OR.sub_zero(x:R.T):x-0=x:=Rg.bJ [x] (X0-0) X0 rfl
theorem OR.GZ(hd:0≤R.sgn d){a b:R.T}(hx:R.es d (a,b)≠0)(hn:R.sgn (OR.nr d (a,b))=0):R.es d (-a,b)=0∧R.sgn (a+a)≠0:=by
 have hnn:R.sgn (-a* -a-b*b*d)=0:=by rw[show -a* -a-b*b*d=OR.nr d (a,b)from Rg.bJ [a,b,d] (-X0* -X0-X1*X1*X2) (X0*X0-X1*X1*X2) rfl];exact hn
 have dbl:R.sgn a≠0→R.sgn (a+a)≠0:=fun h e=>by
  rcases R.s3 a with g|g|g
  ·rw[OR.pp g (by omega)]at e;omega
  ·exact h g
  ·rw[OR.nn g (by omega)]at e;omega
 unfold OR.es at hx ⊢;simp only[]at hx ⊢;by_cases c0:R.sgn d=0
 ·exfalso;rw[ah c0]at hx;unfold OR.nr at hn;simp only[]at hn;rw[OR.zQ _ _ (OR.DG _ c0)]at hn;exact hx<|OR.PN hn
 rw[af c0]at hx ⊢;by_cases c1:R.sgn a=R.sgn b∨R.sgn b=0
 ·rw[ah c1]at hx
  have c2:R.sgn a=R.sgn b:=by
   rcases c1 with c1|c1
   ·exact c1
   ·exfalso;unfold OR.nr at hn;simp only[]at hn;rw[OR.zQ _ _ (OR.lN _ (OR.lN _ c1))]at hn;exact hx<|OR.PN hn
  refine⟨?_,dbl hx⟩;rw[OR.ng,af (by rcases R.s3 a with g|g|g<;>omega),af (by omega),hnn,eA]
 ·exfalso;rw[af c1]at hx;by_cases c2:R.sgn a=0
  ·rw[ah c2]at hx;unfold OR.nr at hn;simp only[]at hn;rw[OR.Hr _ _ (OR.lN _ c2),OR.ml,OR.ml]at hn;have:=R.s3 d;rcases R.s3 b with g|g|g
   ·rw[g]at hn;omega
   ·exact hx g
   ·rw[g]at hn;omega
  ·rw[af c2,show R.sgn (a*a-b*b*d)=0 from hn,eA]at hx;exact hx rfl
theorem OR.L5(hR:R.Inv)(hd:0≤R.sgn d):(R.ext d hd).Inv:=fun x hx=>by
 obtain⟨a,b⟩:=x;have hx:R.es d (a,b)≠0:=hx;have S:=ya hd
 have lift: ∀w:R.T,R.sgn w=0→R.es d (w,0)=0:=fun w hw=>by
  unfold OR.es;split
  ·exact hw
  ·rw[ah (.inr OR.zero)];exact hw
 by_cases hn:R.sgn (OR.nr d (a,b))=0
 ·
  have h2:=OR.GZ hd hx hn;obtain⟨r,hr⟩:=hR (a+a) h2.2;refine⟨(r,0),?_⟩;show R.es d (pA (pM d (a,b) (r,0)) (pN (1,0)))=0
  have e:pA (pM d (a,b) (r,0)) (pN (1,0))=pA (pM d (-a,b) (r,0)) ((a+a)*r-1,0):=ap
   (Rg.bJ [a,b,r,d] (X0*X2+X1*0*X3+ -1) (-X0*X2+X1*0*X3+((X0+X0)*X2-1)) rfl)
   (Rg.bJ [a,b,r] (X0*0+X1*X2+ -0) (-X0*0+X1*X2+0) rfl)
  rw[e,S.s0 _ _ (by rw[S.sm,h2.1,e9])];exact lift _ hr
 ·obtain⟨r,hr⟩:=hR _ hn;refine⟨(a*r, -b*r),?_⟩;show R.es d (pA (pM d (a,b) (a*r, -b*r)) (pN (1,0)))=0
  have e:pA (pM d (a,b) (a*r, -b*r)) (pN (1,0))=(OR.nr d (a,b)*r-1,0):=ap
   (Rg.bJ [a,b,r,d] (X0*(X0*X2)+X1*(-X1*X2)*X3+ -1) ((X0*X0-X1*X1*X3)*X2-1) rfl)
   (Rg.bJ [a,b,r] (X0*(-X1*X2)+X1*(X0*X2)+ -0) 0 rfl)
  rw[e];exact lift _ hr
end
def OR.eqv(R:OR):Setoid R.T:=⟨fun x y=>R.sgn (x-y)=0,⟨fun x=>OR.Ht x,OR.Hs,OR.EB⟩⟩
theorem OR.pick(hR:R.Inv)(x:R.T): ∃y:R.T,R.sgn x≠0→R.sgn (x*y-1)=0:=by
 by_cases h:R.sgn x=0
 ·exact⟨x,fun g=>aG h g⟩
 ·obtain⟨y,hy⟩:=hR x h;exact⟨y,fun _=>hy⟩
noncomputable def OR.fd (R:OR) (hR:R.Inv):Fd where
 T:=Quotient R.eqv
 add x y:=gb x y (fun a b=>Quotient.mk R.eqv (a+b)) (fun _ _ _ _ h1 h2=>cT (OR.Ql h1 h2))
 mul x y:=gb x y (fun a b=>Quotient.mk R.eqv (a*b)) (fun _ _ _ _ h1 h2=>cT (OR.OO h1 h2))
 neg x:=Quotient.liftOn x (fun a=>Quotient.mk R.eqv (-a)) (fun _ _ h1=>cT (OR.P5 h1))
 z:=Quotient.mk R.eqv 0
 o:=Quotient.mk R.eqv 1
 ac x y:=f6 x y fun a b=>congrArg (Quotient.mk R.eqv) (Rg.add_comm a b)
 aa x y w:=d5 x y w fun a b c=>congrArg (Quotient.mk R.eqv) (Rg.add_assoc a b c)
 az x:=ee x fun a=>congrArg (Quotient.mk R.eqv) (Rg.add_zero a)
 an x:=ee x fun a=>congrArg (Quotient.mk R.eqv) (Rg.add_neg a)
 mc x y:=f6 x y fun a b=>congrArg (Quotient.mk R.eqv) (Rg.mul_comm a b)
 ma x y w:=d5 x y w fun a b c=>congrArg (Quotient.mk R.eqv) (Rg.mul_assoc a b c)
 mo x:=ee x fun a=>congrArg (Quotient.mk R.eqv) (Rg.mul_one a)
 md x y w:=d5 x y w fun a b c=>congrArg (Quotient.mk R.eqv) (Rg.mul_add a b c)
 inv x:=Quotient.mk R.eqv (d4 (OR.pick hR (d4 (eB x))))
 mi x hx:=by
  obtain⟨a,ha⟩: ∃a,a=d4 (eB x):=⟨_,rfl⟩;have h1:Quotient.mk R.eqv a=x:=by rw[ha];exact f7<|eB x
  rw[←ha];have h2:=f7 (OR.pick hR a)
  have h3:R.sgn a≠0:=fun h0=>hx (by
   rw[←h1]
   exact cT (show R.sgn (a-0)=0 by rw[OR.sub_zero];exact h0))
  have h4:=h2 h3;generalize d4 (OR.pick hR a)=b at h4;rw[←h1];exact cT (show R.sgn (a*b-1)=0 from h4)
 ne h:=by have h1:R.sgn ((1:R.T) -0)=0:=g9 h;rw[OR.sub_zero,OR.one]at h1;exact aG h1 (by decide)
def OR.cl(hR:R.Inv)(x:R.T):(R.fd hR).T:=Quotient.mk R.eqv x
section
variable {hR:R.Inv}
theorem OR.Kn{x y:R.T}:OR.cl hR x=OR.cl hR y↔R.sgn (x-y)=0:=⟨fun h=>g9 h,fun h=>cT h⟩
theorem OR.Km(x y:R.T):OR.cl hR (x*y)=OR.cl hR x*OR.cl hR y:=rfl
theorem OR.Mb:OR.cl hR (0:R.T)=0:=rfl
theorem OR.NV:OR.cl hR (1:R.T)=1:=rfl
theorem OR.Qh{x:R.T}:OR.cl hR x=0↔R.sgn x=0:=by rw[←OR.Mb,OR.Kn,OR.sub_zero]
end
section
variable {K:Fd}
theorem Fd.sU{x:K.T}(h:x≠0):x*K.inv x=1:=K.mi x h
theorem Fd.EZ:(1:K.T)≠0:=K.ne
theorem Fd.inv_eq{x y:K.T}(h:x*y=1):y=K.inv x:=by
 have hx:x≠0:=fun e=>Fd.EZ (by rw[←h,e,Rg.zero_mul]);have h1:=Fd.sU hx;have:K.inv x*(x*y)=K.inv x*1:=by rw[h]
 rw[←Rg.mul_assoc,Rg.mul_comm (K.inv x),h1,Rg.one_mul,Rg.mul_one]at this;exact this
theorem Fd.OP{x y:K.T}(h:x*y=0):x=0∨y=0:=by
 by_cases hx:x=0
 ·exact .inl hx
 ·refine .inr ?_;have:K.inv x*(x*y)=K.inv x*0:=by rw[h]
  rw[←Rg.mul_assoc,Rg.mul_comm (K.inv x),Fd.sU hx,Rg.one_mul,Rg.mul_zero]at this;exact this
theorem Fd.ND{x:K.T}(h:x≠0):K.inv x≠0:=fun e=>Fd.EZ (by rw[←Fd.sU h,e,Rg.mul_zero])
end
theorem w5(x:Rat)(h:0<x):j7 x=1:=by have:=sf.2 h;rcases iG x with e|e|e<;>omega
theorem Nl(x:Rat)(h:x<0):j7 x= -1:=by have:=AT.2 h;rcases iG x with e|e|e<;>omega
theorem tM(x y:Rat):j7 (x*y)=j7 x*j7 y:=by
 have key: ∀{x y:Rat},0<x→j7 (x*y)=j7 y:=fun {x y} hx=>by
  rcases iG y with e|e|e
  ·rw[cR.1 e,Rat.mul_zero]
  ·have h:=g5 hx (sf.1 (show 0<j7 y by omega));rw[e,w5 _ h]
  ·have h:=g5 hx (show 0< -y from by have:=AT.1 (show j7 y<0 by omega);grind);rw[e,Nl]
   grind
 rcases iG x with e|e|e
 ·rw[cR.1 e,Rat.zero_mul,cR.2 rfl,e9]
 ·rw[e,f5];exact key<|sf.1 (by omega)
 ·have hx:0< -x:=by have:=AT.1 (show j7 x<0 by omega);grind
  have h:=key (y:=y) hx;have h2:=qV (x*y);rw[show -(x*y)= -x*y by grind,h]at h2;rw[e];omega
def rn:Cf:=fun i=>if i=0 then 1 else 0
def Lm:OR where
 T:=Rat
 add:=(·+ ·)
 mul:=(·* ·)
 neg:=(- ·)
 z:=0
 o:=1
 ac:=Rat.add_comm
 aa:=Rat.add_assoc
 az:=eu
 an:=g'
 mc:=Rat.mul_comm
 ma:=Rat.mul_assoc
 mo:=Rat.mul_one
 md:=Rat.mul_add
 sgn:=j7
 s3 x:=by rcases iG x with h|h|h<;>omega
 sn:=qV
 sm:=tM
 sp x y hx hy:=by have h1:=sf.1 (show 0<j7 x by omega);have h2:=sf.1 (show 0<j7 y by omega);exact w5 _ (by grind)
 s0 x y hx:=by rw[cR.1 hx];show j7 (0+y)=j7 y;rw[Rat.zero_add]
 s1:=w5 1 (by decide)
theorem I6(x:Rat)(h:x≠0):j7 (x*x⁻¹ + -1)=0:=by rw[b8 _ h];exact cR.2<|g' 1
theorem I7:Lm.Inv:=fun x hx=>⟨_,I6 x (fun e=>hx (cR.2 e))⟩
structure Oj (v:List NQ) (l:Nat) where
 R:OR
 of:Cf→R.T
 inv:R.Inv
 add: ∀a b:Cf,of (fun i=>a i+b i)=of a+of b
 neg: ∀a:Cf,of (fun i=> -a i)= -of a
 mul: ∀a b:Cf,of (mulC v l a b)=of a*of b
 one:of rn=1
 zero:of zC=0
 sgn: ∀a:Cf,R.sgn (of a)=aW v l a
 inj: ∀a b:Cf,of a=of b→kM l a b
 cong: ∀a b:Cf,kM l a b→of a=of b
theorem Oj.sub(T:Oj v l)(a b:Cf):T.of (fun i=>a i-b i)=T.of a-T.of b:=by
 rw[Rg.sub_def,←T.neg,←T.add]
 congr 1
 funext i;exact a0 ..
def Cy(v:List NQ):Oj v 0 where
 R:=Lm
 of a:=a 0
 inv:=I7
 add _ _:=rfl
 neg _:=rfl
 mul a b:=by show(if (0:Nat)=0 then a 0*b 0 else 0)=_;rw[ah rfl];rfl
 one:=rfl
 zero:=rfl
 sgn _:=rfl
 inj a b h i hi:=by
  obtain rfl:i=0:=by have:i<1:=hi;omega
  exact h
 cong a b h:=h 0 (by decide)
theorem JL(l:Nat):bG l zC=zC:=rfl
theorem LV(l:Nat):bG l rn=zC:=funext fun i=>by have hp:0<2^l:=eX (by decide);show(if 2^l+i=0 then(1:Rat)else 0)=0;rw[af (by omega)]
def vv(T:Oj v l)(hd:0≤aW v l (cf (v.getD l []))):Oj v (l+1) where
 R:=T.R.ext (T.of (cf (v.getD l []))) (by rw[T.sgn];exact hd)
 of a:=(T.of a,T.of (bG l a))
 inv:=OR.L5 T.inv _
 add a b:=ap (T.add a b) (T.add (bG l a) (bG l b))
 neg a:=ap (T.neg a) (T.neg (bG l a))
 mul a b:=by
  refine ap ?_ ?_
  ·show T.of (mulC v (l+1) a b)=T.of a*T.of b+T.of (bG l a)*T.of (bG l b)*T.of (cf (v.getD l []));rw[←T.mul,←T.mul,←T.mul,←T.add];refine T.cong _ _ fun i hi=>?_;show(if i<2^l then _ else _)=_;rw[ah hi]
  ·show T.of (bG l (mulC v (l+1) a b))=T.of a*T.of (bG l b)+T.of (bG l a)*T.of b;rw[←T.mul,←T.mul,←T.add];refine T.cong _ _ fun i hi=>?_;show(if 2^l+i<2^l then _ else _)=_;rw[af (by omega),gc]
 one:=ap T.one (by show T.of (bG l rn)=0;rw[LV,T.zero])
 zero:=ap T.zero (by show T.of (bG l zC)=0;rw[JL,T.zero])
 sgn a:=by show OR.es T.R (T.of (cf (v.getD l []))) (T.of a,T.of (bG l a))=aW v (l+1) a;unfold OR.es aW;simp only[];rw[T.sgn,T.sgn,T.sgn,←T.mul,←T.mul,←T.mul,←T.sub,T.sgn];rfl
 inj a b h i hi:=by
  have h1:=T.inj _ _ (congrArg Prod.fst h);have h2:=T.inj _ _ (congrArg Prod.snd h);by_cases c:i<2^l
  ·exact h1 i c
  ·rw[dl]at hi;have:=h2 (i-2^l) (by omega);have:a (2^l+(i-2^l))=b (2^l+(i-2^l)):=this
   rwa [show 2^l+(i-2^l)=i by omega]at this
 cong a b h:=ap (T.cong _ _ h.down) (T.cong _ _ h.hi)
theorem M8{v:List NQ}(hp:oh v): ∀l,l≤v.length→Nonempty (Oj v l)
 |0,_=>⟨Cy v⟩
 |l+1,hl=>by obtain⟨T⟩:=M8 hp l (by omega);exact⟨vv T (hp l (by omega))⟩
theorem Dl(l:Nat):bK l rn:=fun i hi=>by have hp:0<2^l:=eX (by decide);exact af (by omega)
def qc(a b:Cf):Cf:=fun i=>a i-b i
theorem bK.sub{a b:Cf}(ha:bK l a)(hb:bK l b):bK l (qc a b):=fun i hi=>by show a i-b i=0;rw[ha i hi,hb i hi];exact cM
theorem NC(hrt:cU v)(hp:oh v): ∀(l:Nat) {a:NQ},ay l a→l≤v.length→aW v l (cf a)≠0→aW v l (qc (mulC v l (cf a) (cf (bN l v a))) rn)=0:=by
 have one: ∀(l:Nat) (s:NQ),l≤v.length→s.length=1→s.getD 0 0≠0→aW v l (qc (mulC v l (cf s) (cf [1/s.getD 0 0])) rn)=0:=fun l s hl h1 h0=>by
  have e:mulC v l (cf s) (cf [1/s.getD 0 0])=rn:=by
   rw[dD v (aV (a:=s) (l:=0) (by rw[h1];exact al _)) (aV (a:=[1/s.getD 0 0]) (l:=0) (by exact al _)) (am l)];funext i;show(if i=0 then s.getD 0 0*(1/s.getD 0 0)else 0)=if i=0 then 1 else 0
   split
   ·rw[dn,gt,b8 _ h0]
   ·rfl
  rw[e,show qc rn rn=zC from funext fun i=>cM];exact eD v l
 intro l
 induction l with
 |zero =>
  intro a ha hl h;have hs:=bC ha;have hc:=bb ha;have ho:=mD ha;show aW v 0 (qc (mulC v 0 (cf a) (cf (ki _ _ _ _ (aq a)))) rn)=0;rw[←hc]at h ⊢;generalize aq a=s at *;rcases hs with e|⟨i,hi,e⟩
  ·rw[bv.1 e]at h;exact aG (eD v 0) h
  ·obtain rfl:i=0:=by omega
   unfold ki;rw[ah e];exact one 0 s (am _) e<|ho e
 |succ l ih =>
  intro a ha hl h;have hs:=bC ha;have hc:=bb ha;have ho:=mD ha;show aW v (l+1) (qc (mulC v (l+1) (cf a) (cf (ki (bN l v) (ec l v) (e7 l v) (aT (l+1) v) (aq a)))) rn)=0;rw[←hc]at h ⊢;generalize aq a=s at *;by_cases h0:s.length=0
  ·rw[bv.1 h0]at h;exact aG (eD v (l+1)) h
  unfold ki;by_cases h1:s.length=1
  ·rw[ah h1];exact one (l+1) s hl h1<|ho h1
  rw[af h1]
  obtain⟨j,hj,hsl⟩: ∃j,j≤l∧s.length=2^(j+1):=by
   rcases hs with e|⟨i,hi,e⟩
   ·exact aG e h0
   ·rcases i with _|j
    ·exact aG e h1
    ·exact⟨j,by omega,e⟩
  obtain⟨e1,e2,e3⟩:=bt hsl;have hx:ay l (s.take (s.length/2)):=.inr ⟨j,hj,e1⟩;have hy:ay l (s.drop (s.length/2)):=.inr ⟨j,hj,e2⟩;have hn:=nG hj hsl hrt (by omega);have ex:kM j (cf (s.take (s.length/2))) (cf s):=fB _ e3;have ey:cf (s.drop (s.length/2))=bG j (cf s):=jY _ e3
  have lowN:bK j (bj v j (cf s)):=fun i hi=>by unfold bj;rw[a9 v j _ _ i hi,a9 v j _ _ i hi];exact cM
  have ls:bK (j+1) (cf s):=aV (by omega);have lx:bK j (cf (s.take (s.length/2))):=aV (by omega);obtain⟨Tj⟩:=M8 hp j (by omega);have hdj:=hp j (by omega)
  let T:=vv Tj hdj
  obtain⟨Tl⟩:=M8 hp l (by omega);obtain⟨TL⟩:=M8 hp (l+1) hl;rw[cY l hn.1 hrt (by omega),hn.2,bD v lowN hj];rw[bD v ls (by omega)]at h
  have hT:Tj.R.sgn (OR.nr (Tj.of (cf (v.getD j []))) (T.of (cf s)))=aW v j (bj v j (cf s)):=by
   rw[←Tj.sgn]
   congr 1
   show Tj.of (cf s)*Tj.of (cf s) -Tj.of (bG j (cf s))*Tj.of (bG j (cf s))*Tj.of (cf (v.getD j []))=Tj.of (bj v j (cf s));rw[←Tj.mul,←Tj.mul,←Tj.mul,←Tj.sub];rfl
  by_cases hN:aW v j (bj v j (cf s))=0
  ·rw[ah hN];have hxx:ay l (aS (s.take (s.length/2)) (s.take (s.length/2))):=hx.plus hx;have cxx:cf (aS (s.take (s.length/2)) (s.take (s.length/2)))=fun i=>cf (s.take (s.length/2)) i+cf (s.take (s.length/2)) i:=funext fun i=>eP _ _ i
   have lxx:bK j (cf (aS (s.take (s.length/2)) (s.take (s.length/2)))):=by rw[cxx];exact fun i hi=>by show _+_=(0:Rat);rw[lx i hi];exact eu 0
   have F:T.R.sgn (-Tj.of (cf s),Tj.of (bG j (cf s)))=0∧Tj.R.sgn (Tj.of (cf s)+Tj.of (cf s))≠0:=by
    have hes:T.R.sgn (T.of (cf s))≠0:=by rw[T.sgn];exact h
    exact OR.GZ (R:=Tj.R) (d:=Tj.of (cf (v.getD j []))) (by rw[Tj.sgn];exact hdj) hes (by have h5:=hT;rw[hN]at h5;exact h5)
   have hr:=ih hxx (by omega) (by
    rw[bD v lxx hj,←Tj.sgn,cxx,Tj.add,Tj.cong _ _ ex]
    exact F.2)
   obtain⟨r,hrr⟩: ∃r,bN l v (aS (s.take (s.length/2)) (s.take (s.length/2)))=r:=⟨_,rfl⟩;have hrl:ay l r:=by rw[←hrr];exact fg l hxx hrt (by omega)
   rw[hrr]at hr ⊢
   have g1:aW v (l+1) (qc (cf s) (cf (aS (s.take (s.length/2)) (s.take (s.length/2)))))=0:=by
    rw[bD v (ls.sub (lxx.mono (by omega))) (by omega),←T.sgn]
    have:T.of (qc (cf s) (cf (aS (s.take (s.length/2)) (s.take (s.length/2)))))=(-Tj.of (cf s),Tj.of (bG j (cf s))):=by
     refine ap ?_ ?_
     ·show Tj.of (qc (cf s) (cf (aS (s.take (s.length/2)) (s.take (s.length/2)))))= -Tj.of (cf s);rw[show Tj.of (qc (cf s) (cf (aS (s.take (s.length/2)) (s.take (s.length/2)))))=Tj.of (cf s) -Tj.of (cf (aS (s.take (s.length/2)) (s.take (s.length/2))))from Tj.sub _ _,cxx,Tj.add,Tj.cong _ _ ex];exact Rg.bJ [Tj.of (cf s)] (X0-(X0+X0)) (-X0) rfl
     ·show Tj.of (bG j (qc (cf s) (cf (aS (s.take (s.length/2)) (s.take (s.length/2))))))=Tj.of (bG j (cf s));refine Tj.cong _ _ fun i hi=>?_;show cf s (2^j+i) -cf (aS (s.take (s.length/2)) (s.take (s.length/2))) (2^j+i)=cf s (2^j+i);rw[lxx _ (by omega)];exact a0 .. |>.trans (by rw[Rat.neg_zero,eu])
    rw[this];exact F.1
   have g2:aW v (l+1) (qc (mulC v (l+1) (cf (aS (s.take (s.length/2)) (s.take (s.length/2)))) (cf r)) rn)=0:=by rw[dD v (aV hxx.le) (aV hrl.le) (ch l),bD v ((a9 v l _ _).sub (Dl l)) (ch l)];exact hr
   rw[←TL.sgn]at g1 g2 ⊢;rw[show TL.of (qc _ _)=_ from TL.sub _ _,TL.mul,TL.one]at g2 ⊢;rw[show TL.of (qc _ _)=_ from TL.sub _ _]at g1
   have e:TL.of (cf s)*TL.of (cf r) -1=(TL.of (cf s) -TL.of (cf (aS (s.take (s.length/2)) (s.take (s.length/2)))))*TL.of (cf r)+(TL.of (cf (aS (s.take (s.length/2)) (s.take (s.length/2))))*TL.of (cf r) -1) :=
    Rg.bJ [TL.of (cf s),TL.of (cf r),TL.of (cf (aS (s.take (s.length/2)) (s.take (s.length/2))))] (X0*X1-1) ((X0-X2)*X1+(X2*X1-1)) rfl
   rw[e,OR.null _ _ (OR.lN _ g1)];exact g2
  ·rw[af hN];have hr:=ih hn.1 (by omega) (by rw[hn.2,bD v lowN hj];exact hN);obtain⟨r,hrr⟩: ∃r,bN l v (e7 l v s)=r:=⟨_,rfl⟩;have hrl:ay l r:=by rw[←hrr];exact fg l hn.1 hrt (by omega)
   rw[hrr]at hr ⊢;rw[hn.2]at hr
   have hjl:ay (l+1) (dK (s.take (s.length/2)) (aP (s.drop (s.length/2))) (s.length/2)):=.inr ⟨j+1,by omega,by
    rw[dN]
    omega⟩
   have cJ: ∀i,cf (dK (s.take (s.length/2)) (aP (s.drop (s.length/2))) (s.length/2)) i=if i<2^j then cf (s.take (s.length/2)) i else cf (aP (s.drop (s.length/2))) (i-2^j):=fun i=>G9 _ e3 (by rw[cV];omega) i
   have lJ:bK (j+1) (cf (dK (s.take (s.length/2)) (aP (s.drop (s.length/2))) (s.length/2))):=aV (by rw[dN];omega);have ht:=da (l+1) hjl (hrl.mono (ch l)) hrt hl;rw[ht.2];generalize dK (s.take (s.length/2)) (aP (s.drop (s.length/2))) (s.length/2)=J at cJ lJ hjl ht
   have eN:mulC v (l+1) (cf s) (cf J)=bj v j (cf s):=by
    rw[dD v ls lJ (by omega)];refine kM.full (T.inj _ _ ?_) (a9 v (j+1) _ _)<|lowN.mono<|ch j;rw[T.mul];have o1:Tj.of (cf J)=Tj.of (cf s):=Tj.cong _ _ fun i hi=>by rw[cJ i,ah hi];exact ex i hi
    have o2:Tj.of (bG j (cf J))= -Tj.of (bG j (cf s)):=by rw[←Tj.neg];refine Tj.cong _ _ fun i hi=>?_;show cf J (2^j+i)= -cf s (2^j+i);rw[cJ,af (by omega),jl,gc,ey];rfl
    have o3:Tj.of (bG j (bj v j (cf s)))=0:=by rw[lowN.u9,Tj.zero]
    have o4:Tj.of (bj v j (cf s))=Tj.of (cf s)*Tj.of (cf s) -Tj.of (bG j (cf s))*Tj.of (bG j (cf s))*Tj.of (cf (v.getD j [])):=by rw[←Tj.mul,←Tj.mul,←Tj.mul,←Tj.sub];rfl
    refine ap ?_ ?_
    ·show Tj.of (cf s)*Tj.of (cf J)+Tj.of (bG j (cf s))*Tj.of (bG j (cf J))*Tj.of (cf (v.getD j []))=Tj.of (bj v j (cf s));rw[o1,o2,o4];exact Rg.bJ [Tj.of (cf s),Tj.of (bG j (cf s)),Tj.of (cf (v.getD j []))] (X0*X0+X1* -X1*X2) (X0*X0-X1*X1*X2) rfl
    ·show Tj.of (cf s)*Tj.of (bG j (cf J))+Tj.of (bG j (cf s))*Tj.of (cf J)=Tj.of (bG j (bj v j (cf s)));rw[o1,o2,o3];exact Rg.bJ [Tj.of (cf s),Tj.of (bG j (cf s))] (X0* -X1+X1*X0) 0 rfl
   have g2:aW v (l+1) (qc (mulC v (l+1) (bj v j (cf s)) (cf r)) rn)=0:=by rw[dD v (lowN.mono hj) (aV hrl.le) (ch l),bD v ((a9 v l _ _).sub (Dl l)) (ch l)];exact hr
   rw[←eN]at g2;rw[←TL.sgn]at g2 ⊢;rw[show TL.of (qc _ _)=_ from TL.sub _ _,TL.mul,TL.mul,TL.one]at g2 ⊢;rw[←Rg.mul_assoc];exact g2
structure FV (v:List NQ) where
 K:Fd
 val:NQ→K.T
 add: ∀{a b:NQ},ay v.length a→ay v.length b→val (uE a b)=val a+val b
 sub: ∀{a b:NQ},ay v.length a→ay v.length b→val (fq a b)=val a-val b
 neg: ∀{a:NQ},ay v.length a→val (gk a)= -val a
 mul: ∀{a b:NQ},ay v.length a→ay v.length b→val (et v a b)=val a*val b
 div: ∀{a b:NQ},ay v.length a→ay v.length b→m7 v b≠0→val (vP v a b)=val a*K.inv (val b)
 nil:val []=0
 one:val [1]=1
 sg: ∀{a:NQ},ay v.length a→(m7 v a=0↔val a=0)
 eq: ∀{a b:NQ},aW v v.length (cf (aS a (aP b)))=0↔val a=val b
 inv: ∀{b:NQ},ay v.length b→m7 v b≠0→val (bN v.length v b)=K.inv (val b)
theorem Md:cf []=zC:=rfl
theorem G8:cf [1]=rn:=funext fun i=>by
 cases i with
 |zero=>rfl
 |succ i=>rfl
theorem O0(V:fC m v):Nonempty (FV v):=by
 obtain⟨T⟩:=M8 V.pos v.length (al _);have hs: ∀{a:NQ},ay v.length a→m7 v a=aW v v.length (cf a):=fun h=>cY v.length h V.ro (al _)
 have iv: ∀{b:NQ},ay v.length b→m7 v b≠0→OR.cl T.inv (T.of (cf (bN v.length v b)))=(T.R.fd T.inv).inv (OR.cl T.inv (T.of (cf b))):=fun {b} hb h0=>by rw[hs hb]at h0;have h:=NC V.ro V.pos v.length hb (al _) h0;refine Fd.inv_eq ?_;rw[←OR.Km,←T.mul,←OR.NV,OR.Kn,←T.one,←T.sub,T.sgn];exact h
 refine⟨⟨T.R.fd T.inv,fun a=>OR.cl T.inv (T.of (cf a)),fun {a b} ha hb=>?_,fun {a b} ha hb=>?_,fun {a} ha=>?_,fun {a b} ha hb=>?_,fun {a b} ha hb h0=>?_,?_,?_,fun {a} ha=>?_,fun {a b}=>?_,iv⟩⟩
 ·show OR.cl T.inv (T.of (cf (aq (aS a b))))=_;rw[bb (ha.plus hb),show cf (aS a b)=fun i=>cf a i+cf b i from funext fun i=>eP a b i,T.add];rfl
 ·show OR.cl T.inv (T.of (cf (aq (aS a (aP b)))))=_;rw[bb (ha.plus hb.minus),show cf (aS a (aP b))=fun i=>cf a i-cf b i from funext fun i=>by rw[eP,jl];exact(a0 ..).symm,T.sub];rfl
 ·show OR.cl T.inv (T.of (cf (aq (aP a))))=_;rw[bb ha.minus,show cf (aP a)=fun i=> -cf a i from funext fun i=>jl a i,T.neg];rfl
 ·have ht:=da v.length ha hb V.ro (al _);show OR.cl T.inv (T.of (cf (aq (aT v.length v a b))))=_;rw[bb ht.1,ht.2,T.mul];rfl
 ·have ht:=da v.length ha (fg v.length hb V.ro (al _)) V.ro (al _);show OR.cl T.inv (T.of (cf (aq (aT v.length v a (bN v.length v b)))))=_;rw[bb ht.1,ht.2,T.mul,OR.Km,iv hb h0]
 ·show OR.cl T.inv (T.of (cf []))=0;rw[Md,T.zero];rfl
 ·show OR.cl T.inv (T.of (cf [1]))=1;rw[G8,T.one];rfl
 ·rw[OR.Qh,T.sgn,hs ha]
 ·rw[OR.Kn,←T.sub,T.sgn,show cf (aS a (aP b))=fun i=>cf a i-cf b i from funext fun i=>by rw[eP,jl];exact(a0 ..).symm]
def tT(r:Nat):Nat→Nat→Nat
 |0,s=>s
 |l+1,s=>tT r l s+tT r l (tT r l s+r)+1
theorem rZ{r:Nat}: ∀{l s t:Nat},s≤t→tT r l s≤tT r l t
 |0,_,_,h=>h
 |l+1,s,t,h=>by have h1:=rZ (r:=r) (l:=l) h;have h2:=rZ (r:=r) (l:=l) (g6 h1 r);show _+_+1≤_+_+1;omega
theorem oG(r:Nat): ∀(l s:Nat),s≤tT r l s
 |0,s=>al s
 |l+1,s=>by have h1:=oG r l s;show s≤tT r l s+_+1;omega
theorem Ez(r l s:Nat):2*s+1≤tT r (l+1) s:=by have h1:=oG r l s;have h2:=oG r l (tT r l s+r);show _≤tT r l s+tT r l (tT r l s+r)+1;omega
theorem kP{v:List NQ}{r:Nat}(hr:dk r v): ∀(l:Nat) {a b:Cf} {k m:Nat},(∀i,LQ (a i)≤k)→(∀i,LQ (b i)≤m)→ ∀i,LQ (mulC v l a b i)≤tT r l (k+m)
 |0,a,b,k,m,ha,hb,i=>by
  show LQ (if i=0 then a 0*b 0 else 0)≤k+m;split
  ·have:=uK (a 0) (b 0);have:=ha 0;have:=hb 0;omega
  ·have:=jZ;have:=ha 0;have:=Cl (a 0);omega
 |l+1,a,b,k,m,ha,hb,i=>by
  have h1:=kP hr l ha hb;have h2:=kP hr l (a:=bG l a) (b:=bG l b) (fun i=>ha _) (fun i=>hb _);have h3:=kP hr l (a:=a) (b:=bG l b) ha (fun i=>hb _);have h4:=kP hr l (a:=bG l a) (b:=b) (fun i=>ha _) hb;have h5:=kP hr l (a:=mulC v l (bG l a) (bG l b)) (b:=cf (v.getD l [])) h2 (fun i=>hr l i);have h6:=oG r l (tT r l (k+m)+r);show LQ (if i<2^l then _ else _)≤tT r l (k+m)+tT r l (tT r l (k+m)+r)+1;split
  ·have:=yO (mulC v l a b i) (mulC v l (mulC v l (bG l a) (bG l b)) (cf (v.getD l [])) i);have:=h1 i;have:=h5 i;omega
  ·have:=yO (mulC v l a (bG l b) (i-2^l)) (mulC v l (bG l a) b (i-2^l));have:=h3 (i-2^l);have:=h4 (i-2^l);omega
theorem vW{a:NQ}(h:cf a=cf b)(hb:au k b):au k a:=fun i=>by
 have:cf a i=cf b i:=by rw[h]
 show LQ (cf a i)≤k;rw[this];exact hb i
theorem wV{a:NQ}(hrt:cU v)(hr:dk r v)(hl:l≤v.length)(ha:ay l a)(sa:au k a)(hb:ay l b)(sb:au m b):au (tT r l (k+m)) (aT l v a b):=fun i=>by show LQ (cf (aT l v a b) i)≤_;rw[(da l ha hb hrt hl).2];exact kP hr l sa sb i
theorem BA{j:Nat}{a:NQ}(hrt:cU v)(hr:dk r v)(hj:j≤l)(hl:l<v.length)(ha:a.length=2^(j+1))(sa:au k a):au (tT r (l+1) (k+k)) (e7 l v a):=fun i=>by
 show LQ (cf (e7 l v a) i)≤_;have h2:=nG hj ha hrt hl
 have lowN:bK j (bj v j (cf a)):=fun i hi=>by unfold bj;rw[a9 v j _ _ i hi,a9 v j _ _ i hi];exact cM
 obtain⟨e1,e2,e3⟩:=bt ha;rw[h2.2];have h3:=kP hr j (a:=cf a) (b:=cf a) sa sa i;have h4:=kP hr j (a:=bG j (cf a)) (b:=bG j (cf a)) (fun i=>sa _) (fun i=>sa _);have h5:=kP hr j (a:=mulC v j (bG j (cf a)) (bG j (cf a))) (b:=cf (v.getD j [])) h4 (fun i=>hr j i) i
 have h6:LQ (bj v j (cf a) i)≤tT r (j+1) (k+k):=by have:=FR (mulC v j (cf a) (cf a) i) (mulC v j (mulC v j (bG j (cf a)) (bG j (cf a))) (cf (v.getD j [])) i);show LQ (_-_)≤tT r j (k+k)+tT r j (tT r j (k+k)+r)+1;omega
 refine bn h6 ?_
 have up: ∀d s,tT r j s≤tT r (j+d) s:=fun d s=>by
  induction d with
  |zero=>exact al _
  |succ d ih =>
   refine bn ih ?_;show tT r (j+d) s≤tT r (j+d) s+_+1;omega
 obtain⟨d,rfl⟩: ∃d,l=j+d:=⟨l-j,by omega⟩;have u1:=up d (k+k);have u2:=up d (tT r j (k+k)+r);have u3:=rZ (r:=r) (l:=j+d) (g6 u1 r);show tT r j (k+k)+tT r j (tT r j (k+k)+r)+1≤tT r (j+d) (k+k)+tT r (j+d) (tT r (j+d) (k+k)+r)+1;omega
def iQ(r:Nat):Nat→Nat→Nat
 |0,k=>k+1
 |l+1,k=>tT r (l+1) (k+iQ r l (tT r (l+1) (k+k)))
theorem BQ{r:Nat}: ∀{l s t:Nat},s≤t→iQ r l s≤iQ r l t
 |0,_,_,h=>Nat.succ_le_succ h
 |l+1,s,t,h=>by have h1:=BQ (r:=r) (l:=l) (rZ (r:=r) (l:=l+1) (Nat.add_le_add h h));exact rZ (by omega)
theorem Iv{a:NQ}(ha:au k a)(hb:au k b):au k (a++b):=fun c=>by
 rw[uu];split
 ·exact ha c
 ·exact hb _
theorem MD(r:Nat): ∀(l k:Nat),k<iQ r l k
 |0,k=>Nat.lt_succ_self k
 |l+1,k=>by have h1:=MD r l (tT r (l+1) (k+k));have h2:=oG r (l+1) (k+iQ r l (tT r (l+1) (k+k)));show k<tT r (l+1) _;omega
theorem Cn{q:Rat}(h0:q≠0)(h:LQ q≤k):LQ (1/q)≤k+1:=by have h1:=Of (r:=1) h0;have h2:=fU;omega
theorem zK(l:Nat)(v:List NQ)(b:NQ):aT l v [] b=[]:=by
 have key: ∀R:NQ→NQ→NQ,lL (kD R v) [] b=[]:=fun R=>by
  unfold lL kD;split
  ·rw[ah (by simp[bH])]
  ·rw[ah (by simp[bH])]
 cases l with
 |zero=>exact key _
 |succ l=>exact key _
theorem JF(hrt:cU v)(hr:dk r v): ∀(l:Nat) {k:Nat} {a:NQ},ay l a→l≤v.length→au k a→au (iQ r l k) (bN l v a):=by
 have one: ∀{s:NQ} {l k:Nat},ay l s→yM s→s.length=1→au k s→au (k+1) [1/s.getD 0 0]:=fun {s l k} hs ht h1 sa i=>by
  cases i with
  |zero=>exact Cn (ht.one h1) (sa 0)
  |succ i=>exact lK (eE _ _)
 intro l
 induction l with
 |zero =>
  intro k a ha hl sa;have hs:=a6 ha sa;have ht:=iF ha;show au (k+1) (ki _ _ _ _ (aq a));generalize aq a=s at *;unfold ki;split
  ·rename_i h1;exact one hs.1 ht h1 hs.2
  ·split
   ·exact db (eE _ _)
   ·exact db (eE _ _)
 |succ l ih =>
  intro k a ha hl sa;obtain⟨hs,sa⟩:=a6 ha sa;have ht:=iF ha;show au (iQ r (l+1) k) (ki (bN l v) (ec l v) (e7 l v) (aT (l+1) v) (aq a));generalize aq a=s at *;have hk:=MD r (l+1) k;unfold ki;by_cases h1:s.length=1
  ·rw[ah h1];exact(one hs ht h1 sa).mono hk
  rw[af h1];by_cases h0:s.length=0
  ·rw[bv.1 h0]
   have en:e7 l v []=[]:=by show aS (aT l v [] []) (aP (aT l v (aT l v [] []) (v.getD ((0:Nat).log2-1) [])))=[];rw[zK,zK];rfl
   have es:ec l v []=0:=by cases l<;>rfl
   rw[en,ah es];have h3:=ih (cE l) (by omega) (db (k:=1) (al _));refine h3.mono ?_;have hk1:=sa.pos;have h5:iQ r l 1≤iQ r l (tT r (l+1) (k+k)):=BQ (by have:=oG r (l+1) (k+k);omega);have h6:=oG r (l+1) (k+iQ r l (tT r (l+1) (k+k)));show iQ r l 1≤tT r (l+1) _;omega
  obtain⟨j,hj,hsl⟩: ∃j,j≤l∧s.length=2^(j+1):=by
   rcases hs with e|⟨i,hi,e⟩
   ·exact aG e h0
   ·rcases i with _|j
    ·exact aG e h1
    ·exact⟨j,by omega,e⟩
  obtain⟨e1,e2,e3⟩:=bt hsl;have hx:ay l (s.take (s.length/2)):=.inr ⟨j,hj,e1⟩;have hn:=wc hj hsl hrt (show l<v.length by omega);have sn:=BA hrt hr hj (show l<v.length by omega) hsl sa;split
  ·have h3:=ih (hx.plus hx) (by omega) ((sa.take _).plus (sa.take _));refine h3.mono ?_;have h4:=Ez r l (k+k);have h5:iQ r l (k+k+1)≤iQ r l (tT r (l+1) (k+k)):=BQ (by omega);have h6:=oG r (l+1) (k+iQ r l (tT r (l+1) (k+k)));show iQ r l (k+k+1)≤tT r (l+1) _;omega
  ·have h3:=ih hn (by omega) sn
   have hjl:ay (l+1) (dK (s.take (s.length/2)) (aP (s.drop (s.length/2))) (s.length/2)):=.inr ⟨j+1,by omega,by
    rw[dN]
    omega⟩
   exact wV hrt hr hl hjl (((sa.take _).join (sa.drop _).minus _)) ((fg l hn hrt (by omega)).mono (ch l)) h3
end Lift
namespace Lift
open Go
open Go.RowKit (Below)
variable {d:D}{Q:Exit→List LR→St→Prop}{l:List D}{i:Nat}{V:Value}
section
variable {P:Program} {T:Ty} {B:Nat} {F0:Nat→Prop} {w0:dh} {n:Nat} {σ:St} {R:List LR} {a:Act} {w:World} {x:Code} {ops:Array Oper} {o:Oper}
theorem bT.say{s:Nat}{y:D}(hR:bT P B F0 w0 n R σ a w)(hs: ∀O,(∀i r,R[i]?=some r→l8 P w O (FW B F0 w) (n+i) r)→ ∃z,σ.get s=some (.d z)∧ ∀v,Rd w (aQ O (FW B F0 w)) z v→Rd w (aQ O (FW B F0 w)) y v):bT P B F0 w0 n R ((s,.d y)::σ) a w:=by
 obtain⟨O,hOr,hO,hL⟩:=hR.own;refine⟨hR.below,hR.base,hR.f0,hR.defers,hR.size,O,hOr,fun k z hk=>?_,hL⟩;rw[St.aL]at hk;split at hk
 ·rename_i e;subst e;cases hk;obtain⟨z,hz,hz2⟩:=hs O hL;obtain⟨v,hv,hr⟩:=hO _ _ hz;exact⟨v,hv,hz2 v hr⟩
 ·obtain⟨v,hv,hr⟩:=hO k z hk;refine⟨v,hv,hr.move (fun c hc=>⟨hc,rfl⟩) (fun _ c hc=>⟨hc,rfl⟩) (fun j _ y' hy hg=>?_)⟩;rw[St.aL]at hg;split at hg
  ·cases hg;cases hy
  ·exact⟨hg,rfl⟩
theorem bT.ph{s:Nat}(hR:bT P B F0 w0 n R σ a w)(hi:R[i]?=some (V,.d d))(hs:σ.get s=some (.d (.ag [.v V])))(hc:d.ba=true):bT P B F0 w0 n R ((s,.d (.ag [d]))::σ) a w:=by
 refine hR.say fun O hL=>⟨_,hs,fun v hv=>?_⟩;rcases hL i _ hi with h|⟨_,_,h⟩
 ·cases h
 cases hv with
 |ag hl hk hr =>
  rename_i vs;refine .ag (by simpa using hl) (fun y hy=>by simp at hy;subst hy;exact hc) fun j y u h1 h2=>?_;cases j with
  |zero =>
   simp at h1;subst h1;have:=hr 0 _ u rfl h2;rw[(Rd.j5 this).1];exact h
  |succ j=>simp at h1
theorem bT.Dk{t s:Nat}(hR:bT P B F0 w0 n R σ a w)(ht:σ.get t=some (.bx [.sl s l])): ∃u,bT P B F0 w0 n (R++[(u,.d (.sl s l))]) ((t,.bx [.v u])::σ.kill t) a w:=by
 obtain⟨O,hOr,hO,hL⟩:=hR.own;obtain⟨v,hv,b,cs,e,e1,e2,e3,e4⟩:=hO t _ ht;have hl:=e4.1;cases hcs:cs.toList with
 |nil=>rw[hcs]at hl;cases hl
 |cons u vs =>
  rw[hcs]at hl e4;obtain⟨_,hu⟩:=e4.2 0 _ u rfl rfl;have hpl:ei u=true:=by cases hu<;>rfl
  refine⟨u,hR.below,hR.base,hR.f0,hR.defers,hR.size,O,hOr,fun k y hk=>?_,fun i r hr=>?_⟩
  ·rw[St.aL]at hk;split at hk
   ·rename_i e;subst e;cases hk;refine⟨v,hv,b,cs,_,e1,e2,e3,?_⟩;rw[hcs];refine⟨by simpa using hl,fun i d' u' h1 h2=>?_⟩;cases i with
    |zero=>simp at h1 h2;subst h1;subst h2;exact⟨rfl,.v hpl⟩
    |succ i=>simp at h1
   ·rename_i hkt;rw[St.dA]at hk;cases hg:σ.get k with
    |none=>simp[hg]at hk
    |some z =>
     simp only[hg,hA,dr]at hk;subst hk;obtain⟨z',hz,hzr⟩:=hO k z hg;refine⟨z',hz,?_⟩;rcases AV.jW t z with⟨h1,h2⟩|h1
     ·rw[h1];refine hzr.move (fun c hc=>⟨hc,rfl⟩) (fun _ c hc=>⟨hc,rfl⟩) fun j hj y hy hg=>?_;rw[St.aL]at hg;split at hg
      ·rename_i e;subst e;exact aG hj h2
      ·rw[St.dA]at hg;cases hq:σ.get j with
       |none=>simp[hq]at hg
       |some q =>
        simp only[hq,hA,dr]at hg;rcases AV.jW t q with⟨g1,_⟩|g1
        ·rw[g1]at hg;subst hg;exact⟨rfl,rfl⟩
        ·rw[g1]at hg;subst hg;cases hy
     ·rw[h1];trivial
  ·rcases Nat.lt_or_ge i R.length with h|h
   ·rw[d6 h]at hr;exact hL i r hr
   ·rw[dM h]at hr
    have:i-R.length=0:=by
     rcases Nat.eq_zero_or_pos (i-R.length)with e|e
     ·exact e
     ·rw[List.getElem?_eq_none (by simp;omega)]at hr;cases hr
    rw[this]at hr;cases hr;exact .inr ⟨rfl,rfl,hu⟩
theorem AZ.Dk(t:Nat){s:Nat}(ht:σ.get t=some (.bx [.sl s l]))(h: ∀u:Value,AZ P B F0 w0 n x Q (R++[(u,.d (.sl s l))]) ((t,.bx [.v u])::σ.kill t)):AZ P B F0 w0 n x Q R σ:=fun a w hR =>
 let ⟨u,h2⟩:=hR.Dk ht;h u a w h2
variable {β:fW} {fuel:Nat} {listed:Array Bool}
theorem ZH.ph{s:Nat}(hi:R[i]?=some (V,.d d))(hs:σ.get s=some (.d (.ag [.v V])))(hc:d.ba=true)(h:ZH P B F0 w0 n ops Q β fuel listed R ((s,.d (.ag [d]))::σ))(hσ:m6 σ β):ZH P B F0 w0 n ops Q β fuel listed R σ :=
 ⟨hσ,fun bl a w hR hp=>h.2 bl a w (hR.ph hi hs hc) hp⟩
def PF(T:Ty)(β:fW):Op→Option (TI×Nat×Value)
 | .load t (.tmp s)=>match T.get t,β.find? (fun x=>i3 x.1 s)with
   |some i,some (_,[.v u])=>some (i,s,u)
   |_,_=>none
 |_=>none
theorem LL(hT:bB P T){bl:Nat→Nat}{i:TI}{h:Nat}{u:Value}(hR:bT P B F0 w0 n R σ a w)(hσ:m6 σ β)(hp:lH (fv β bl) a)(hx:PF T β o.op=some (i,h,u))(hl:jA i [.v u]=some (.d (.ag [.v u]))):
  ∃v,∀w',SB β bl w'→(execOp a.eval o).run P w'= .ok (.value v) w':=by
 obtain⟨dst,op,ty,pos,after,guard⟩:=o;simp only[]at hx;cases op<;>simp only[PF]at hx<;>try (cases hx;done)
 rename_i t x;cases x<;>simp only[PF]at hx<;>try (cases hx;done)
 rename_i s;split at hx<;>try (cases hx;done)
 rename_i i' t' u' hi hfind;simp only[dr,Prod.mk.injEq]at hx;obtain⟨rfl,rfl,rfl⟩:=hx;have hm:=List.mem_of_find?_eq_some hfind;have he:t'=s:=gs (@List.find?_some _ (fun x=>i3 x.1 s) (t',[.v u']) β hfind);subst he;obtain⟨info,dd,z,hok⟩:=hT t i' hi;obtain⟨O,hOr,hO,_⟩:=hR.own;obtain⟨v,hv,b,_,_,rfl,_,_,g3⟩:=hO t' _ (hσ.get t' _ hm)
 have hpl:ei u'=true:=by obtain⟨_,u2,_,hr2⟩:=g3.get (i:=0) rfl;exact(Rd.j5 hr2).2
 have hev:a.eval (.tmp t')= .pointer (some ⟨b,0,none⟩):=gp hv;rw[rh hp hm]at hv;simp only[dr,i1,Addr.mk.injEq]at hv;obtain⟨rfl,_,_⟩:=hv;refine⟨.agg #[u'],fun w' hS=>?_⟩;obtain⟨cs,e,fz,h1,h2⟩:=hS t' _ hm 0 u' rfl
 obtain⟨x,v,hx,hrun,hrd⟩:=lD (w:=w') hok h1 (off:=0) (F:=fun _=>True) (ds:=[.v u']) (fun j z hj=>by
  cases j with
  |zero=>simp at hj;subst hj;exact⟨rfl,u',h2,.v hpl⟩
  |succ j=>simp at hj) hl
 cases hx;cases hrd with
 |ag hl hk hr =>
  rename_i vs;cases vs with
  |nil=>cases hl
  |cons y vs =>
   cases vs with
   |cons _ _=>simp at hl
   |nil =>
    have:=(Rd.j5 (hr 0 _ y rfl rfl)).1;subst this;simp[execOp,Instr.loadAt,Instr.sureAddr,hev,hrun]
def hoK(T:Ty)(σ:St)(β:fW)(op:Op):Bool:=xY op||JZ T σ op||(match OU T σ β op with
 |some (ti,_)=> !ti.agg
 |none=>false)||match PF T β op with
  |some (ti,_)=>ti.agg&&i3 ti.size 1
  |none=>false
theorem Dj{bl:Nat→Nat}: ∀{β:fW},β.all (fun x=>vg x.1 [o])=true→kf (fv β bl) [o]=true
 |[],_=>rfl
 |(t,_)::r,h=>by
  simp only[List.all_cons,d7]at h
  show(match vg t [o]with
   |true=>kf (fv r bl) [o]
   |false=>false)=true
  rw[h.1];exact Dj h.2
theorem ZH.ho(hT:bB P T)(i:Nat){τ:St}(h1:(ops[i]?,y8 T n ops 1 [o] σ)=(some o,some (τ,[])))
  (h2:(o.guard.isNone&&Region.noSelect ops&&Region.free .any ops listed i&&(Region.ready .any ops listed).contains i&&hoK T σ β o.op&&τ.gN&&β.all (fun x=>vg x.1 [o]))=true)
  (hpan: ∀c R σ,Q (.panic c) R σ→False) (hσ:m6 σ β) (h:ZH P B F0 w0 n ops Q β fuel (listed.setIfInBounds i true) R τ):ZH P B F0 w0 n ops Q β (fuel+1) listed R σ:=by
 injection h1 with ho hrun
 simp only[d7]at h2;obtain⟨⟨⟨⟨⟨⟨hg,hs⟩,hf⟩,hr⟩,hk⟩,hn⟩,hb⟩:=h2;refine ZH.first i ho (by simpa using hg) hs hf hr hpan (fun bl=>Dj hb) hσ (fun bl a w hR hp=>?_)<|a8 fun B1 F1 w1=>ae.run hT 1 _ _ _ _ hrun<|ae.nil ⟨hn,h⟩;unfold hoK at hk;simp only[Bool.or_eq_true]at hk;rcases hk with ((hk|hk)|hk)|hk
 ·obtain⟨v,h⟩:=xO (P:=P) hk a;exact⟨v,fun w' _=>h w'⟩
 ·obtain⟨v,h⟩:=GV hT hR.rel hk;exact⟨v,fun w' _=>h w'⟩
 ·split at hk
  ·rename_i ti y hx;obtain⟨t,off,ds,u⟩:=y;exact JB hT hR hσ hp hx (by unfold jA;rw[show ti.agg=false by simpa using hk])
  ·cases hk
 ·split at hk
  ·rename_i ti y hx;obtain⟨t,u⟩:=y;rw[d7]at hk;exact LL hT hR hσ hp hx (by unfold jA;rw[hk.1,gs hk.2];rfl)
  ·cases hk
end
end Lift
namespace Lift
open Go Go.Proofs
variable {x y:LR}{R:List LR}{v:List NQ}{b:NQ}{i k l m r:Nat}
abbrev RQ(q:Rat):D:=(Qr q).D
theorem Aa{a Z:NQ}(ha:ay l a)(hl5:l≤5)(sa:qo a)(h0:(aq a).length≠0)
  (h1:(aq a).length=1→Z=[1/(aq a).getD 0 0])
  (h2: ∀l' j,l=l'+1→j≤l'→(aq a).length=2^(j+1)→ ∃(N:NQ) (S:Int),Pure Tryz.prog 116 [fm v,ak (aq a),dI (aq a).length] (ak N)∧Pure Tryz.prog 67 [fm v,ak N] (dI S) ∧
   (S=0→Pure Tryz.prog 201 [fm v,ak (aS ((aq a).take ((aq a).length/2)) ((aq a).take ((aq a).length/2)))] (ak Z)) ∧
   (S≠0→ ∃I,Pure Tryz.prog 201 [fm v,ak N] (ak I)∧Pure Tryz.prog 157 [fm v,ak ((aq a).take ((aq a).length/2)++aP ((aq a).drop ((aq a).length/2))),ak I] (ak Z))):
  Pure Tryz.prog 201 [fm v,ak a] (ak Z):=by
 refine qJ 59 Tryz.func201 rfl fun B F0 w0=>?_;have cs:=b9 a ha hl5;have hone:=mD ha;obtain⟨hs,ss⟩:=a6 ha sa;generalize aq a=b at *;have hlb:=hs.len (by omega);refine qX 2 rfl<|qK 1 rfl<|qM rfl cs<|qU 1 rfl<|qK 1 rfl<|qU 1 rfl ?_;rw[ab];refine qU 1 rfl<|qI<|qX 2 rfl<|ae.nil ?_;by_cases e1:b.length=1
 ·have g:=nK (r:=b) (i:=0) (by omega);have cq:=I9 (Qr ((1:Int):Rat)) (Qr (b.getD 0 0)) (gz _ (by have:=fU;rw[show((1:Int):Rat)=1 from rfl];omega)) (gz _ (ss 0)) (by decide) (by rw[b5];exact hone e1);rw[b5,b5,show((1:Int):Rat)=1 from rfl]at cq;have hZ:=h1 e1;subst hZ;rw[beq_iff_eq.2 (show(b.length:Int)=1 by omega)];refine AW.aH rfl<|AW.seq<|AW.mU tok aO [(7,true),(1,false),(1,true)] 9 [6] (by kernel_rfl) ⟨rfl,?_⟩;refine qQ rfl (tP 1 (by decide) (by decide)) ?_;refine qP 1 rfl<|ai.idx tok (Qr (b.getD 0 0)).D rfl rfl rfl rfl rfl (eY _) g ?_;refine qP 1 rfl<|qQ rfl cq<|qP 2 rfl<|ai.nil ⟨rfl,?_⟩;refine qP 1 rfl<|ai.nil ⟨rfl,?_⟩;refine qP 1 rfl<|ai.nil ⟨_,m8.cons (.bx rfl) (m8.nil),?_⟩;refine qU 1 rfl<|qK 1 rfl<|ae.ku tok rfl rfl rfl rfl rfl ?_;exact qU 1 rfl<|qN rfl
 rw[beq_eq_false_iff_ne.2 (show(b.length:Int)≠1 by omega)]
 obtain⟨i,hi,hla2⟩: ∃i,i≤l∧b.length=2^i:=by
  rcases hs with e|e
  ·exact aG e h0
  ·exact e
 have u9:i≠0:=fun e=>e1 (by rw[hla2,e]);obtain⟨j,rfl⟩: ∃j,i=j+1:=⟨i-1,by omega⟩;obtain⟨l',rfl⟩: ∃l',l=l'+1:=⟨l-1,by omega⟩;obtain⟨N,S,cN,cS,hz,hi2⟩:=h2 l' j rfl (by omega) hla2;obtain⟨g1,g2,g3⟩:=bt hla2;obtain⟨n,hn⟩: ∃n,n=b.length/2:=⟨_,rfl⟩;rw[←hn]at g1 g2 g3 hz hi2;refine AW.aC rfl<|AW.skip<|AW.seq<|AW.draw aO 9 (by kernel_rfl) ?_;refine qP 2 rfl<|ai.div tok rfl rfl rfl rfl rfl (by decide) ?_;rw[iM _ (by omega),←hn];refine ai.gX tok (a:=b) (b.take n) rfl rfl rfl rfl rfl trivial (ad n) (am _) (show n≤b.length by omega) rfl ?_;refine qP 2 rfl<|ai.div tok rfl rfl rfl rfl rfl (by decide) ?_;rw[iM _ (by omega),←hn];refine ai.gX tok (a:=b) (b.drop n) rfl rfl rfl rfl rfl (ad n) trivial (show n≤b.length by omega) (al _) (by show(b.take b.length).drop n=_;rw[co]) ?_;refine qP 1 rfl<|ai.nil<|qU 1 rfl<|qK 3 rfl<|qM rfl cN<|qU 1 rfl<|qI<|qX 2 rfl<|qM rfl cS ?_;refine qU 1 rfl<|ae.nil ?_;by_cases e2:S=0
 ·have ci:=hz e2;have cp:=gg (b.take n) (b.take n) (ss.take n) (ss.take n) (by decide) (by rw[g1];omega) (by rw[g1];omega);rw[beq_iff_eq.2 e2];refine AW.aH rfl<|AW.seq<|AW.draw aO 5 (by kernel_rfl) ?_;exact qP 3 rfl<|qQ rfl cp<|qQ rfl ci<|ai.nil<|qU 1 rfl<|qN rfl
 obtain⟨I,ci,ct⟩:=hi2 e2;have cm:=kc (b.drop n) (ss.drop n) (by decide) (by rw[g2];omega);rw[beq_eq_false_iff_ne.2 e2];refine AW.aC rfl<|AW.skip ?_;have lx:(b.take n).length≤1024:=by rw[bi];omega
 have ly:(b.drop n).length≤1024:=by rw[hQ];omega
 generalize b.take n=x at *;generalize b.drop n=y at *;refine AZ.aw ?_;refine AZ.to [2,8,9,10] [(2,.bx [.sl 1 (v.map ak)]),(8,.d (ak x)),(9,.d (ak y)),(10,.d (ak N))] rfl ?_;refine AZ.Dk 2 rfl fun U=>?_;refine AZ.seq (AZ.any aO (ZH.any (β:=[(2,[.v U])]) ?_));refine ZH.ho tok 2 rfl (by kernel_rfl) (fun _ _ _ h=>h) ⟨rfl,trivial⟩ ?_;refine ZH.ho tok 4 rfl (by kernel_rfl) (fun _ _ _ h=>h) ⟨rfl,trivial⟩ ?_;refine ZH.ho tok 8 rfl (by kernel_rfl) (fun _ _ _ h=>h) ⟨rfl,trivial⟩ ?_;refine ZH.ho tok 0 rfl (by kernel_rfl) (fun _ _ _ h=>h) ⟨rfl,trivial⟩ ?_;refine ZH.ho tok 7 rfl (by kernel_rfl) (fun _ _ _ h=>h) ⟨rfl,trivial⟩ ?_;refine ZH.ph (s:=48) (i:=0) rfl rfl rfl ?_ ⟨rfl,trivial⟩;refine ZH.ph (s:=55) (i:=0) rfl rfl rfl ?_ ⟨rfl,trivial⟩;refine ZH.all 1 (by kernel_rfl) rfl rfl (fun _=>rfl) ⟨rfl,trivial⟩<|a8 fun B1 F1 w1=>?_;refine ae.run tok 1 _ _ _ _ rfl<|ae.nil ⟨rfl,?_⟩;refine ZH.all 3 (by kernel_rfl) rfl rfl (fun _=>rfl) ⟨rfl,trivial⟩<|a8 fun B1 F1 w1=>?_;refine ae.Ch tok rfl rfl rfl rfl (by show(x.map RQ).length*56≤_;rw[ab];omega) ?_;refine ae.nil ⟨rfl,?_⟩;refine ZH.all 5 (by kernel_rfl) rfl rfl (fun _=>rfl) ⟨rfl,trivial⟩<|a8 fun B1 F1 w1=>?_;refine qM rfl cm<|ae.nil ⟨rfl,?_⟩;refine ZH.all 6 (by kernel_rfl) rfl rfl (fun _=>rfl) ⟨rfl,trivial⟩<|a8 fun B1 F1 w1=>?_;refine ae.jw tok rfl rfl rfl rfl rfl rfl (by rw[ab,ab,cV];show(_+_)*56≤_;omega) (by rw[ab,ab,cV];omega) ?_;rw[←cj];refine ae.nil ⟨rfl,?_⟩;refine ZH.all 9 (by kernel_rfl) rfl rfl (fun _=>rfl) ⟨rfl,trivial⟩<|a8 fun B1 F1 w1=>?_;refine qM rfl ci<|ae.nil ⟨rfl,?_⟩;refine ZH.all 10 (by kernel_rfl) rfl rfl (fun _=>rfl) ⟨rfl,trivial⟩<|a8 fun B1 F1 w1=>?_;refine ae.iu tok 54 rfl rfl ?_;refine qM rfl ct<|ae.nil ⟨rfl,?_⟩;refine ZH.all 11 (by kernel_rfl) rfl rfl (fun _=>rfl) ⟨rfl,trivial⟩<|a8 fun B1 F1 w1=>?_;refine ae.run tok 1 _ _ _ _ rfl<|ae.nil ⟨rfl,?_⟩;refine ZH.done (by kernel_rfl) ⟨rfl,trivial⟩ ?_;exact AZ.ret rfl
theorem yu(hrt:cU v)(hp:oh v){j:Nat}{s:NQ}(hj:j≤l)(hl:l<v.length)(hsl:s.length=2^(j+1))(h:aW v (l+1) (cf s)≠0)(hN:aW v j (bj v j (cf s))=0):aW v l (cf (aS (s.take (s.length/2)) (s.take (s.length/2))))≠0:=by
 obtain⟨e1,e2,e3⟩:=bt hsl;have ex:kM j (cf (s.take (s.length/2))) (cf s):=fB _ e3;have ls:bK (j+1) (cf s):=aV (by omega);have lx:bK j (cf (s.take (s.length/2))):=aV (by omega);obtain⟨Tj⟩:=M8 hp j (by omega);have hdj:=hp j (by omega)
 let T:=vv Tj hdj
 rw[bD v ls (by omega)]at h
 have hT:Tj.R.sgn (OR.nr (Tj.of (cf (v.getD j []))) (T.of (cf s)))=aW v j (bj v j (cf s)):=by
  rw[←Tj.sgn]
  congr 1
  show Tj.of (cf s)*Tj.of (cf s) -Tj.of (bG j (cf s))*Tj.of (bG j (cf s))*Tj.of (cf (v.getD j []))=Tj.of (bj v j (cf s));rw[←Tj.mul,←Tj.mul,←Tj.mul,←Tj.sub];rfl
 have cxx:cf (aS (s.take (s.length/2)) (s.take (s.length/2)))=fun i=>cf (s.take (s.length/2)) i+cf (s.take (s.length/2)) i:=funext fun i=>eP _ _ i
 have lxx:bK j (cf (aS (s.take (s.length/2)) (s.take (s.length/2)))):=by rw[cxx];exact fun i hi=>by show _+_=(0:Rat);rw[lx i hi];exact eu 0
 have hes:T.R.sgn (T.of (cf s))≠0:=by rw[T.sgn];exact h
 have F:=OR.GZ (R:=Tj.R) (d:=Tj.of (cf (v.getD j []))) (by rw[Tj.sgn];exact hdj) hes (by have h5:=hT;rw[hN]at h5;exact h5)
 rw[bD v lxx hj,←Tj.sgn,cxx,Tj.add,Tj.cong _ _ ex];exact F.2
def uP:Nat→List NQ→NQ→NQ
 |0,_,a=>[1/(aq a).getD 0 0]
 |l+1,v,a=>if (aq a).length=1 then [1/(aq a).getD 0 0]else
  if oK l v (fR l v (aq a))=0 then uP l v (aS ((aq a).take ((aq a).length/2)) ((aq a).take ((aq a).length/2)))else
   eH (l+1) v ((aq a).take ((aq a).length/2)++aP ((aq a).drop ((aq a).length/2))) (uP l v (fR l v (aq a)))
theorem kW{a:NQ}(ha:ay l a)(h:aW v l (cf a)≠0):(aq a).length≠0:=fun e=>by have:=bb ha;rw[bv.1 e]at this;rw[←this]at h;exact h<|eD v l
theorem Gj(hrt:cU v)(hp:oh v): ∀(l:Nat) {a b:NQ},ay l a→ay l b→cf a=cf b→l≤v.length→aW v l (cf a)≠0→ay l (uP l v a)∧cf (uP l v a)=cf (bN l v b):=by
 intro l
 induction l with
 |zero =>
  intro a b ha hb hab hl h;have e:=lg ha hb hab;have hs:=bC hb;have h0:=kW ha h;rw[e]at h0;show ay 0 [1/(aq a).getD 0 0]∧cf [1/(aq a).getD 0 0]=cf (ki _ _ _ _ (aq b));rw[e];refine⟨dZ _ _,?_⟩;unfold ki;rw[ah];rcases hs with e|⟨i,hi,e⟩
  ·exact aG e h0
  ·obtain rfl:i=0:=by omega
   exact e
 |succ l ih =>
  intro a b ha hb hab hl h;have e:=lg ha hb hab;have hs:=bC hb;have h0:=kW ha h;have hc:=bb hb;rw[hab,←hc]at h;rw[e]at h0;show ay (l+1) (if (aq a).length=1 then _ else _)∧cf (if (aq a).length=1 then _ else _)=cf (ki (bN l v) (ec l v) (e7 l v) (aT (l+1) v) (aq b));rw[e];generalize aq b=s at *;unfold ki;by_cases h1:s.length=1
  ·rw[ah h1,ah h1];exact⟨dZ _ _,rfl⟩
  rw[af h1,af h1]
  obtain⟨j,hj,hsl⟩: ∃j,j≤l∧s.length=2^(j+1):=by
   rcases hs with e|⟨i,hi,e⟩
   ·exact aG e h0
   ·rcases i with _|j
    ·exact aG e h1
    ·exact⟨j,by omega,e⟩
  obtain⟨e1,e2,e3⟩:=bt hsl;have hx:ay l (s.take (s.length/2)):=.inr ⟨j,hj,e1⟩;have hn:=nG hj hsl hrt (show l<v.length by omega);have hr:=w8 hj hsl hrt (show l<v.length by omega);have hcn:cf (fR l v s)=cf (e7 l v s):=hr.2.trans hn.2.symm
  have lowN:bK j (bj v j (cf s)):=fun i hi=>by unfold bj;rw[a9 v j _ _ i hi,a9 v j _ _ i hi];exact cM
  have s1:=iW l hr.1 hrt hp (by omega);have s2:=cY l hn.1 hrt (by omega);rw[s1,s2,hcn];by_cases hz:aW v l (cf (e7 l v s))=0
  ·rw[ah hz,ah hz];have hd:=yu hrt hp hj (by omega) hsl h (by rw[hn.2,bD v lowN hj]at hz;exact hz);have:=ih (hx.plus hx) (hx.plus hx) rfl (by omega) hd;exact⟨this.1.mono (ch l),this.2⟩
  ·rw[af hz,af hz];have h3:=ih hr.1 hn.1 hcn (by omega) (by rw[hcn];exact hz)
   have e4:s.take (s.length/2)++aP (s.drop (s.length/2))=dK (s.take (s.length/2)) (aP (s.drop (s.length/2))) (s.length/2):=by
    unfold dK
    have w1:bk (s.take (s.length/2)) (s.length/2)=s.take (s.length/2):=by
     have:=k7 (s.take (s.length/2))
     rwa [show(s.take (s.length/2)).length=s.length/2 by omega]at this
    have w2:bk (aP (s.drop (s.length/2))) (s.length/2)=aP (s.drop (s.length/2)):=by
     have:=k7 (aP (s.drop (s.length/2)))
     rwa [show(aP (s.drop (s.length/2))).length=s.length/2 by rw[cV];omega]at this
    rw[w1,w2]
   have hjl:ay (l+1) (dK (s.take (s.length/2)) (aP (s.drop (s.length/2))) (s.length/2)):=.inr ⟨j+1,by omega,by
    rw[dN]
    omega⟩
   rw[e4];have t1:=fN (l+1) hjl (h3.1.mono (ch l)) hrt hl;have t2:=da (l+1) hjl ((fg l hn.1 hrt (by omega)).mono (ch l)) hrt hl;exact⟨t1.1,by rw[t1.2,t2.2,h3.2]⟩
theorem Ag{a:NQ}(V:fC m v)(ha:ay v.length a)(sa:au k a)(hk:k≤17300000000000):Pure Tryz.prog 69 [fm v,.sl 1 [ak a]] (dI 0):=by
 have T:=V.raw.1;obtain⟨m0,t1,t2,tw,tk⟩:=T.t
 have h0: ∀i,i<[fa a].length→i=0:=fun i hi=>by have:i<1:=hi;omega
 have hl:=ha.len (by have:=V.l5;omega);have h:=jU (oo v) [fa a] tw t1 T.l T.ll tk (fun i hi _=>by rw[h0 i hi];exact qY sa) (show 1≤1000000 by decide) (fun i hi=>by rw[h0 i hi];show(fa a).length≤_;rw[iY];omega) hk;rw[Qi V ha,lv]at h;have e:[fa a].map bo=[ak a]:=by show [bo (fa a)]=_;rw[il]
 rw[e]at h;exact h
theorem Af{a:NQ}(V:fC m v)(ha:ay v.length a)(sa:au k a)(hb:ay v.length b)(sb:au k b)(hk:k≤17300000000000):Pure Tryz.prog 69 [fm v,.sl 1 [ak a,ak b]] (dI 0):=by
 have T:=V.raw.1;obtain⟨m0,t1,t2,tw,tk⟩:=T.t
 have h0: ∀i,i<[fa a,fa b].length→i=0∨i=1:=fun i hi=>by have:i<2:=hi;omega
 have hl:=ha.len (by have:=V.l5;omega);have hl2:=hb.len (by have:=V.l5;omega)
 have h:=jU (oo v) [fa a,fa b] tw t1 T.l T.ll tk (fun i hi _=>by rcases h0 i hi with rfl|rfl;exact qY sa;exact qY sb) (show 2≤1000000 by decide) (fun i hi=>by
  rcases h0 i hi with rfl|rfl
  ·show(fa a).length≤_;rw[iY];omega
  ·show(fa b).length≤_;rw[iY];omega) hk
 rw[Pj V ha hb,lv]at h;have e:[fa a,fa b].map bo=[ak a,ak b]:=by show [bo (fa a),bo (fa b)]=_;rw[il,il]
 rw[e]at h;exact h
theorem I8{a:NQ}(V:fC m v)(ha:ay v.length a)(sa:au k a)(hb:ay v.length b)(sb:au k b)(hk:k≤17300000000000):Pure Tryz.prog 121 [fm v,ak a,ak b] (.tu [ak (fq a b),dI 0]):=by refine qJ 22 Tryz.func121 rfl (fun B F0 w0=>?_);have ce:=Af V ha sa hb sb (by omega);have h5:=V.l5;have la:=ha.len (by omega);have lb:=hb.len (by omega);have cl:=kc b sb hk (by omega);have cp:=gg a (aP b) sa sb.minus hk (by omega) (by rw[cV];omega);have cs:=b9 (aS a (aP b)) (ha.plus hb.minus) h5;refine qX 3 rfl<|qI<|qX 3 rfl<|ae.ku tok rfl rfl rfl rfl rfl ?_;refine qM rfl ce<|qU 1 rfl<|qK 2 rfl<|ae.nil<|AW.aC rfl<|AW.skip<|qX 2 rfl<|qM rfl cl<|qM rfl cp ?_;exact qM rfl cs<|qU 2 rfl<|qN rfl
theorem C8{a:NQ}(V:fC m v)(ha:ay v.length a)(sa:au k a)(hb:ay v.length b)(sb:au k b)(hm:m≤k)(hk:sT v.length k≤17300000000000):Pure Tryz.prog 122 [fm v,ak a,ak b] (.tu [ak (et v a b),dI 0]):=by refine qJ 22 Tryz.func122 rfl (fun B F0 w0=>?_);have hk2:=bP v.length k;have ce:=Af V ha sa hb sb (by omega);have h5:=V.l5;have la:=ha.len (by omega);have lb:=hb.len (by omega);have hx: ∀j,j<v.length→(v.map ak)[j]?=some (ak (v.getD j [])):=fun j hj=>qC hj;have ct:=ft v.length (xs:=v.map ak) ha hb V.ro (al _) h5 hx sa sb (V.sz.mono hm) hk;have rt:=fN v.length ha hb V.ro (al _);have tt:=da v.length ha hb V.ro (al _);have cs:=b9 (eH v.length v a b) rt.1 h5;rw[lg rt.1 tt.1 (rt.2.trans tt.2.symm)]at cs;refine qX 3 rfl<|qI<|qX 3 rfl<|ae.ku tok rfl rfl rfl rfl rfl ?_;refine qM rfl ce<|qU 1 rfl<|qK 2 rfl<|ae.nil<|AW.aC rfl<|AW.skip<|qX 3 rfl<|qM rfl ct<|qM rfl cs ?_;exact qU 2 rfl<|qN rfl
theorem HJ{a:NQ}(V:fC m v)(ha:ay v.length a)(sa:au k a)(hm:m≤k)(hk:ou v.length k):Pure Tryz.prog 200 [fm v,ak a] (.tu [dI (m7 v a),dI 0]):=by refine qJ 17 Tryz.func200 rfl (fun B F0 w0=>?_);have hk2:=tW hk;have ce:=Ag V ha sa (by omega);have h5:=V.l5;have la:=ha.len (by omega);have cg:=j9 v.length (xs:=v.map ak) ha (by omega) V.ro (al _) (fun j hj=>qC hj) sa (V.sz.mono hm) hk;rw[iW v.length ha V.ro V.pos (al _),←cY v.length ha V.ro (al _)]at cg;refine qX 3 rfl<|qI<|qX 2 rfl<|ae.ku tok rfl rfl rfl rfl rfl ?_;refine qM rfl ce<|qU 1 rfl<|qK 2 rfl<|ae.nil<|AW.aC rfl<|AW.skip<|qX 2 rfl<|qM rfl cg<|qU 2 rfl ?_;exact qN rfl
def Pw(v:List NQ)(k:Nat):Prop:= ∀x:NQ,ay v.length x→au k x→aW v v.length (cf x)≠0→Pure Tryz.prog 201 [fm v,ak x] (ak (uP v.length v x))
theorem Bi{a:NQ}(V:fC m v)(ha:ay v.length a)(sa:au k a)(hm:m≤k)(hk:ou v.length k)(hj:Pw v k)(h0:m7 v a≠0):Pure Tryz.prog 181 [fm v,ak a] (.tu [ak (aq (bN v.length v a)),dI 0]):=by
 refine qJ 22 Tryz.func181 rfl fun B F0 w0=>?_;have hk2:=tW hk;have ce:=Ag V ha sa hk2;have h5:=V.l5;have cg:=j9 v.length (xs:=v.map ak) ha (by omega) V.ro (al _) (fun j hj=>qC hj) sa (V.sz.mono hm) hk;rw[iW v.length ha V.ro V.pos (al _),←cY v.length ha V.ro (al _)]at cg;have hs:aW v v.length (cf a)≠0:=by rw[←cY v.length ha V.ro (al _)];exact h0
 have h0:ec v.length v a≠0:=h0;have ci:=hj a ha sa hs;have hr:=Gj V.ro V.pos v.length ha ha rfl (al _) hs;have cs:=b9 _ hr.1 h5;rw[lg hr.1 (fg v.length ha V.ro (al _)) hr.2]at cs;refine qX 3 rfl<|qI<|qX 2 rfl<|ae.ku tok rfl rfl rfl rfl rfl ?_;refine qM rfl ce<|qU 1 rfl<|qK 2 rfl<|ae.nil<|AW.aC rfl<|AW.skip<|AW.seq<|qX 2 rfl<|qM rfl cg ?_;refine qU 1 rfl ?_;rw[beq_eq_false_iff_ne.2 h0];exact ae.nil<|AW.aC rfl<|AW.skip<|qX 2 rfl<|qM rfl ci<|qM rfl cs<|qU 2 rfl<|qN rfl
theorem DF{a:NQ}(V:fC m v)(ha:ay v.length a)(sa:au k a)(hb:ay v.length b)(sb:au k b)(hm:m≤k):ay v.length (et v a b)∧au (sT v.length k) (et v a b):=by have h:=dy v.length ha hb V.ro (al _) sa sb (V.sz.mono hm);exact a6 h.1 h.2
theorem uT{a:NQ}(V:fC m v)(ha:ay v.length a)(sa:au k a)(hm:m≤k)(hk:ou v.length k):Pure Tryz.prog 180 [fm v,ak a] (dB (decide (m7 v a=0))):=by refine qJ 15 Tryz.func180 rfl (fun B F0 w0=>?_);have c:=HJ V ha sa hm hk;rw[show decide (m7 v a=0)=(m7 v a==0) by by_cases h:m7 v a=0<;>simp[h]];exact qX 2 rfl<|qK 2 rfl<|qM rfl c<|qU 5 rfl<|qK 3 rfl<|qN rfl
theorem Ey(v:List NQ)(xs ys:List NQ)(c:NQ)(hi:i<xs.length):(gW v xs ys c).take (i+1)=(gW v xs ys c).take i++[fq (xs.getD i []) (et v c (ys.getD i []))]:=by
 have hl:i<(gW v xs ys c).length:=by rw[mA];exact hi
 rw[di hl]
 congr 2
 have:=mB v xs ys c hi;rw[ax,cA hl]at this;exact this
def FI(a:cF)(res:D)(R':List LR):Prop:= ∃(Vr:Value) (Vs:List Value),Vs.length=a.length∧res= .v Vr∧R'=(Vr,OA Vs)::dw Vs a
theorem zj{a:cF}(ha:a.length≤1000000)(hN: ∀i,(a.getD i []).length≤1000000):fM Tryz.prog 178 [iT a] [] (FI a):=by
 refine fM.intro (n:=20) tok Tryz.func178 rfl rfl rfl (b0 rfl) (by kernel_rfl) fun B F0 w0=>?_;have htk:=fun {i:Nat} (hi:i<a.length)=>di (l:=a) hi;refine AZ.seq<|AZ.cL fun B1 F1 w1=>?_;refine qU 1 rfl<|ae.nil ⟨rfl,?_⟩;refine AZ.seq<|AZ.cL fun B1 F1 w1=>?_;refine qU 1 rfl<|ae.nil ⟨rfl,?_⟩;refine AZ.to [0,3] [(0,.d (iT a)),(3,.ow 27 [])] rfl ?_;refine AZ.fS 3 rfl rfl rfl fun V0=>?_;refine AZ.seq<|AZ.seq ?_;refine AZ.cL fun B1 F1 w1=>?_;refine qU 2 rfl ?_;rw[ab];refine qU 1 rfl<|ae.nil ⟨rfl,?_⟩;refine AZ.block<|AZ.aK [3,6,7,8] (fun s:Nat×Value×List Value=>((s.2.1,OA s.2.2)::dw s.2.2 (a.take s.1),[(3,.d (.v s.2.1)),(6,.d (iT a)),(7,.d (dI a.length)),(8,.d (dI s.1))])) (fun s=>s.1≤a.length∧s.2.2.length=s.1) (fun s=>a.length-s.1) (0,V0,[]) rfl ⟨am _,rfl⟩ fun s hs=>?_;obtain⟨i,Vr,Vs⟩:=s;obtain⟨hi,hVs⟩:=hs
 dsimp only at hi hVs
 show AZ _ _ _ _ _ _ _ ((Vr,OA Vs)::dw Vs (a.take i)) [(3,.d (.v Vr)),(6,.d (iT a)),(7,.d (dI a.length)),(8,.d (dI i))];refine AZ.seq<|AZ.cL fun B1 F1 w1=>?_;refine qU 1 rfl<|ae.nil ⟨rfl,?_⟩;refine AZ.seq<|AZ.cond rfl (fun h=>?_) fun h=>?_;rotate_left
 ·have hii:i=a.length:=by have:=ar h;omega
  subst hii;rw[co];refine AZ.exit ?_;refine AZ.seq<|AZ.cL fun B1 F1 w1=>?_;refine qU 2 rfl<|ae.nil ⟨rfl,?_⟩;exact AZ.ret ⟨.v Vr,rfl,Vr,Vs,hVs,rfl,rfl⟩
 have hii:i<a.length:=by have:=ao h;omega
 have hg:=getM jO (l:=a) (i:=i) hii;have hrl:=hN i;have htk:=htk hii;have hge:a[i]=a.getD i []:=by rw[ax,cA hii];rfl
 rw[hge]at htk;generalize a.getD i []=row at hg hrl htk;refine AZ.skip<|AZ.seq<|AZ.block<|AZ.seq ?_;refine AZ.cL fun B1 F1 w1=>?_;refine ae.idx tok (jO row) rfl rfl rfl rfl (ad i) hg ?_;refine qU 2 rfl<|ae.nil ⟨rfl,?_⟩;refine AZ.region ?_;refine aj.cut 4 rfl fun B1 F1 w1=>?_;refine qU 3 rfl ?_;refine ae.Ch tok rfl rfl rfl rfl (by rw[ab];show row.length*24≤_;omega) ?_;refine ae.nil ⟨rfl,?_⟩;refine aj.fS 15 rfl rfl rfl fun V=>?_;refine aj.cut 1 rfl fun B1 F1 w1=>?_;refine ae.ku tok rfl rfl rfl rfl rfl ?_;refine ae.nil ⟨rfl,?_⟩;refine aj.cO 12 0 rfl rfl rfl ?_;refine aj.cut 1 rfl fun B1 F1 w1=>?_;refine ae.jw tok rfl rfl rfl rfl rfl rfl (by show((pC Vs).length+1)*24≤_;rw[ab];omega) (by show(pC Vs).length+1≤_;rw[ab];omega) ?_;refine ae.nil ⟨rfl,?_⟩;refine aj.xW 17 0 rfl rfl rfl rfl fun Vq=>?_
 refine aj.mV (R':=(Vq,OA (Vs++[V]))::dw (Vs++[V]) (a.take (i+1))) (by
  show(Vq,AV.ow 27 (pC Vs++[.v V]))::(dw Vs (a.take i)++[(V,mw row)])=_
  rw[htk,Ee (by rw[bi];omega),show pC Vs++[.v V]=pC (Vs++[V]) by simp]) ?_
 refine aj.cut 1 rfl fun B1 F1 w1=>?_;refine qU 1 rfl<|ae.nil ⟨rfl,?_⟩;refine aj.nil ?_;refine AZ.cL fun B1 F1 w1=>?_;refine qU 1 rfl ?_;rw[aD (x:=(i:Int)+1) (by omega) (by omega)];refine qU 1 rfl<|ae.nil ⟨rfl,?_⟩;exact⟨(i+1,Vq,Vs++[V]),rfl,⟨hii,by show(Vs++[V]).length=i+1;rw[e6];show Vs.length+1=_;omega⟩,by show a.length-(i+1)<a.length-i;omega⟩
theorem vA(Vr:Value)(Vs:List Value)(row:List NQ)(h0:0<Vs.length):fM Tryz.prog 179 [.v Vr] [(Vr,OA Vs),(Vs.getD 0 undef,mw row)] (fun res R'=>res=dI row.length∧R'=[(Vr,OA Vs),(Vs.getD 0 undef,mw row)]):=by refine fM.intro (n:=10) tok Tryz.func179 rfl rfl rfl (b0 rfl) (by kernel_rfl) (fun B F0 w0=>?_);refine AZ.seq<|AZ.cL fun B1 F1 w1=>?_;refine qU 1 rfl<|ae.nil ⟨rfl,?_⟩;refine AZ.seq<|AZ.seq ?_;refine AZ.za fun B1 F1 w1 hS=>?_;refine qU 1 rfl ?_;refine ae.lens tok (hS.at (i:=0) rfl (by rw[ab];exact h0)) rfl rfl rfl rfl ?_;rw[ab];refine qU 1 rfl ?_;rw[beq_eq_false_iff_ne.2 (show(Vs.length:Int)≠0 by omega)];refine ae.nil ⟨rfl,?_⟩;refine AZ.aC rfl ?_;refine AZ.skip<|AZ.seq<|AZ.region ?_;refine aj.Ca 3 rfl fun B1 F1 w1 hS=>?_;refine qU 1 rfl ?_;refine ae.idxs tok (hS.at (i:=0) rfl (by rw[ab];exact h0)) rfl rfl rfl rfl (eY _) (by rw[ab];exact h0) ?_;refine ae.bM tok (.v (Vs.getD 0 undef)) (i:=0) (hS.at (i:=0) rfl (by rw[ab];exact h0)) rfl rfl rfl rfl rfl rfl (dL h0) rfl ?_;refine ae.nil ⟨rfl,?_⟩;refine aj.cO 8 1 rfl rfl rfl ?_;refine aj.cut 1 rfl fun B1 F1 w1=>?_;refine qU 1 rfl ?_;rw[ab];refine ae.nil ⟨rfl,?_⟩;refine aj.back 8 1 rfl rfl rfl (cz _) rfl ?_;refine aj.cut 1 rfl fun B1 F1 w1=>?_;refine qU 1 rfl<|ae.nil ⟨rfl,?_⟩;exact aj.nil<|AZ.ret ⟨_,rfl,rfl,rfl⟩
def Jz(V1 V2:Value)(xs ys zs:List NQ)(res:D)(R':List LR):Prop:= ∃V:Value,res= .v V∧R'=[(V1,mw xs),(V2,mw ys),(V,mw zs)]
theorem Bf(V1 V2:Value){xs ys:List NQ}{c:NQ}(V:fC m v)(hx: ∀i,ay v.length (xs.getD i []))(hy: ∀i,ay v.length (ys.getD i []))(hc:ay v.length c)(sx: ∀i,au k (xs.getD i []))(sy: ∀i,au k (ys.getD i []))(sc:au k c)(hm:m≤k)(hk:sT v.length k≤17300000000000)(hl:ys.length=xs.length)(hl0:0<xs.length)(hl1:xs.length≤1000000):
  fM Tryz.prog 182 [fm v,.v V1,.v V2,ak c] [(V1,mw xs),(V2,mw ys)] (Jz V1 V2 xs ys (gW v xs ys c)):=by
 refine fM.intro (n:=46) tok Tryz.func182 rfl rfl rfl (b0 rfl) (by kernel_rfl) fun B F0 w0=>?_;have hk2:=bP v.length k;have hz:=mA v xs ys c;have hts:=fun i (hi:i<xs.length)=>Ey v xs ys c hi;have hta:(gW v xs ys c).take xs.length=gW v xs ys c:=dj (by omega);have cm:=fun i=>C8 V hc sc (hy i) (sy i) hm hk;have cs:=fun i=>I8 V (hx i) ((sx i).mono (by omega:k≤sT v.length k)) (DF V hc sc (hy i) (sy i) hm).1 (DF V hc sc (hy i) (sy i) hm).2 (by omega);generalize gW v xs ys c=zs at *;refine AZ.seq<|AZ.cL fun B1 F1 w1=>?_;refine qU 2 rfl<|ae.nil ⟨rfl,?_⟩;refine AZ.seq<|AZ.cL fun B1 F1 w1=>?_;refine qU 1 rfl<|ae.nil ⟨rfl,?_⟩;refine AZ.to [1,2,3,4,9] [(1,.d (.v V1)),(2,.d (.v V2)),(3,.d (ak c)),(4,.bx [.sl 1 (v.map ak)]),(9,.ow 52 [])] rfl ?_;refine AZ.seq<|AZ.seq ?_;refine AZ.za fun B1 F1 w1 hS=>?_;refine qU 1 rfl ?_;refine ae.lens tok (hS.at (i:=0) rfl (by rw[ab];exact hl0)) rfl rfl rfl rfl ?_;rw[ab];refine qU 1 rfl<|ae.nil ⟨rfl,?_⟩;refine AZ.block<|AZ.aK [1,2,3,4,9,16,17] (fun i:Nat=>([(V1,mw xs),(V2,mw ys)],[(1,.d (.v V1)),(2,.d (.v V2)),(3,.d (ak c)),(4,.bx [.sl 1 (v.map ak)]),(9,.ow 52 ((zs.take i).map ak)),(16,.d (dI xs.length)),(17,.d (dI i))])) (fun i=>i≤xs.length) (fun i=>xs.length-i) 0 rfl (am _) fun i hi=>?_;show AZ _ _ _ _ _ _ _ [(V1,mw xs),(V2,mw ys)] [(1,.d (.v V1)),(2,.d (.v V2)),(3,.d (ak c)),(4,.bx [.sl 1 (v.map ak)]),(9,.ow 52 ((zs.take i).map ak)),(16,.d (dI xs.length)),(17,.d (dI i))];refine AZ.seq<|AZ.cL fun B1 F1 w1=>?_;refine qU 1 rfl<|ae.nil ⟨rfl,?_⟩;refine AZ.seq<|AZ.cond rfl (fun h=>?_) fun h=>?_;rotate_left
 ·have hii:i=xs.length:=by have:=ar h;omega
  subst hii;rw[hta];refine AZ.exit ?_;refine AZ.seq<|AZ.cL fun B1 F1 w1=>?_;refine qU 2 rfl<|ae.nil ⟨rfl,?_⟩;exact AZ.fS 8 rfl rfl rfl fun V=>AZ.ret ⟨.v V,rfl,V,rfl,rfl⟩
 have hii:i<xs.length:=by have:=ao h;omega
 have gx:=getM ak (l:=xs) (i:=i) hii;have gy:=getM ak (l:=ys) (i:=i) (by omega);have hts:=hts i hii;have cm:=cm i;have cs:=cs i;generalize xs.getD i []=x at *;generalize ys.getD i []=y at *;generalize et v c y=p at *;generalize fq x p=q at *;refine AZ.skip<|AZ.seq<|AZ.block<|AZ.seq ?_;refine AZ.cL fun B1 F1 w1=>?_;refine qU 2 rfl<|ae.nil ⟨rfl,?_⟩;refine AZ.seq<|AZ.NT aO 11 (by kernel_rfl) fun B1 F1 w1 hS=>?_;have hS2:=hS.at (i:=1) rfl (by rw[ab];omega);refine qP 4 rfl ?_;refine ai.idxs tok hS2 rfl rfl rfl rfl rfl (ad i) (by rw[ab];show i<ys.length;omega) ?_;refine ai.bM tok (ak y) hS2 rfl rfl rfl rfl rfl rfl rfl gy rfl ?_;refine qQ rfl cm<|qP 4 rfl<|ai.nil<|qU 1 rfl<|ae.nil ⟨rfl,?_⟩;refine AZ.seq<|AZ.NT aO 11 (by kernel_rfl) fun B1 F1 w1 hS=>?_;have hS1:=hS.at (i:=0) rfl (by rw[ab];omega);refine qP 3 rfl ?_;refine ai.idxs tok hS1 rfl rfl rfl rfl rfl (ad i) (by rw[ab];exact hii) ?_;refine ai.bM tok (ak x) hS1 rfl rfl rfl rfl rfl rfl rfl gx rfl ?_;refine qP 1 rfl<|qQ rfl cs<|qP 4 rfl<|ai.nil<|qU 1 rfl<|ae.nil ⟨rfl,?_⟩;refine AZ.cL fun B1 F1 w1=>?_;refine qU 2 rfl<|ae.ku tok rfl rfl rfl rfl rfl ?_;refine ae.jw tok rfl rfl rfl rfl rfl rfl (by rw[ab,bi];show(_+1)*24≤_;omega) (by rw[ab,bi];show _+1≤_;omega) ?_;refine qU 1 rfl<|ae.nil ⟨rfl,?_⟩;refine AZ.cL fun B1 F1 w1=>?_;refine qU 1 rfl ?_;rw[aD (x:=(i:Int)+1) (by omega) (by omega)];refine qU 1 rfl<|ae.nil ⟨rfl,?_⟩;exact⟨i+1,by rw[hts,cj];rfl,hii,by omega⟩
theorem CU{v:List NQ}{a:cF}{c:Nat}(h:(aB v a c).cols.length=(aB v a c).rows.length): ∀d,aB v a (c+d)=aB v a c
 |0=>rfl
 |d+1=>by have ih:=CU h d;show b7 v (aB v a (c+d)) (c+d)=aB v a c;rw[ih];unfold b7;rw[af];unfold atR;rw[h,ew];exact ga _
theorem Oy(h0:R[0]?=some x)(h1:R[1]?=some y):vw R [0,1]=some [x,y]:=by unfold vw vw;rw[h0,h1];rfl
theorem sh(h:R[i]?=some x):R.set i x=R:=by
 refine List.ext_getElem? fun k=>?_;by_cases hk:k=i
 ·subst hk;rw[go (cx.1 h).1,h]
 ·rw[eL (Ne.symm hk)]
theorem Oq(h0:R[0]?=some x)(h1:R[1]?=some y):Hj R [0,1] [x,y]=R:=by show(R.set 0 x).set 1 y++[]=R;rw[f4,sh h0,sh h1]
theorem E7(V:fC m v){x p:NQ}(hx:ay v.length x)(hp:ay v.length p):et v x (aq (bN v.length v p))=vP v x p:=by have hi:=fg v.length hp V.ro (al _);have h1:=da v.length hx (bC hi) V.ro (al _);have h2:=da v.length hx hi V.ro (al _);exact lg h1.1 h2.1 (by rw[h1.2,h2.2,bb hi])
theorem Ix{b:cF}(h:r<b.length):CF b r r=b:=by unfold CF;rw[oJ h,oJ h]
theorem K6{Vs:List Value}{t:Nat}:(Vs.set r (Vs.getD t undef)).set t (Vs.getD r undef)=F7 Vs r t:=by
 unfold F7;by_cases h:r=t
 ·subst h;rfl
 ·exact List.set_comm _ _ h
section
variable {P:Program} {T:Ty} {B:Nat} {F0:Nat→Prop} {w0:dh} {n:Nat} {σ:St} {x:Code} {Q:Exit→List LR→St→Prop}
theorem AZ.I4{R:LR}{L:List LR}{a b:LR}(hi:L[i]?=some a)(h:AZ P B F0 w0 n x Q (R::L.set i b) σ):AZ P B F0 w0 n x Q (R::L++[b]) σ:=by
 have hl:i<L.length:=(cx.1 hi).1;refine AZ.CE (ri:=a) (rj:=b) (i+1) (L.length+1) ?_ ?_<|AZ.tf (R::L.set i b) (fun k r hk=>.inl ?_) h
 ·show(L++[b])[i]?=_;rw[d6 hl,hi]
 ·show(L++[b])[L.length]?=_;rw[dM (al _),ew];rfl
 ·match k,hk with
  |0,hk=>exact hk
  |k+1,hk =>
   have hk:(L.set i b)[k]?=some r:=hk;have hkl:k<(L.set i b).length:=(cx.1 hk).1;rw[cb]at hkl;show(((L++[b]).set i b).set L.length a)[k]?=some r;rw[eL (by omega),List.set_append_left _ _ hl,d6 (by rw[cb];exact hkl)];exact hk
theorem AZ.BW(hT:bB P T){e eo:Nat}{te:TI}(he:T.get e=some te)(h1:te.size=1){Vr:Value}{Vs:List Value}{a:cF}(hl:Vs.length=a.length)
  (h:AZ P B F0 w0 n x Q [(Vr,.ow eo (a.map jO))] σ): ∀(m k:Nat),m+k=a.length→ ∀L:List LR,(∀j,k≤j→j<a.length→L[j]?=some (Vs.getD j undef,.ow e ((a.getD j []).map ak))) →
  AZ P B F0 w0 n x Q ((Vr,.ow eo ((a.take k).map jO++(pC Vs).drop k))::L) σ
 |0,k,hk,L,hL=>by
  rw[dj (by omega),ej (by rw[ab];omega),f4];refine AZ.tf _ (fun i r hr=>.inl ?_) h
  match i,hr with
  |0,hr=>exact hr
 |m+1,k,hk,L,hL=>by
  have hka:k<a.length:=by omega
  have hll:k<L.length:=(cx.1 (hL k (al _) hka)).1;have hft:((a.take k).map jO).length=k:=by rw[ab,bi];omega
  refine AZ.L0 hT (k+1) 0 k (cs:=(a.take k).map jO++(pC Vs).drop k) rfl (fun d hd=>?_) ?_ (hL k (al _) hka) (by omega) he ?_
  ·rcases List.mem_append.1 hd with g|g
   ·obtain⟨r,_,rfl⟩:=ix.1 g;rfl
   ·obtain⟨V,_,rfl⟩:=ix.1 (List.mem_of_mem_drop g);rfl
  ·rw[dM (by omega),hft,ew,List.getElem?_drop,Nat.add_zero];exact dL (by omega)
  ·have e1:((a.take k).map jO++(pC Vs).drop k).set k (.sl te.size ((a.getD k []).map ak))=(a.take (k+1)).map jO++(pC Vs).drop (k+1):=by
    rw[h1,List.set_append_right _ _ (by omega),hft,ew,di hka,cj]
    have:(pC Vs).drop k= .v (Vs.getD k undef)::(pC Vs).drop (k+1):=by
     rw[f8 (by rw[ab];omega)]
     congr 1
     have:=dL (Vs:=Vs) (i:=k) (by omega);rw[cA (by rw[ab];omega)]at this;simpa using this
    rw[this,List.set_cons_zero,hH];have g:a[k]=a.getD k []:=by rw[ax,cA hka];rfl
    rw[g];rfl
   show AZ P B F0 w0 n x Q ((Vr,.ow eo (((a.take k).map jO++(pC Vs).drop k).set k (.sl te.size ((a.getD k []).map ak))))::L.set k (Vs.getD k undef,.junk)) σ;rw[e1]
   exact AZ.BW hT he h1 hl h m (k+1) (by omega) (L.set k (Vs.getD k undef,.junk)) (fun j hj hja=>by rw[eL (by omega)];exact hL j (by omega) hja)
end
theorem OH{s:kq}{c:Nat}(hs: ∀i j,au k (a7 s.rows i j)):au k (pR v s c):=by
 show au k (a7 (bR v s c) s.cols.length c);unfold bR;split
 ·exact hs _ _
 ·unfold CF a7;rw[dc];split
  ·exact hs _ c
  ·rw[dc];split
   ·exact hs _ c
   ·exact hs _ c
theorem zh{Kz Kp:Nat}(V:fC m v){a:cF}{N:Nat}(ha0:0<a.length)(ha:a.length≤1000000)(hN:N≤1000000)(hr:cX N a)(hl:qH v.length a)
  (sz: ∀c,c≤N→ ∀j i,au Kz (a7 (aB v a c).rows j i)) (szE: ∀c,c<N→atR v (aB v a c) c<(aB v a c).rows.length→ ∀j i,au Kz (a7 (eR v (aB v a c) c) j i)) (szI: ∀c,c<N→atR v (aB v a c) c<(aB v a c).rows.length→au Kz (aq (bN v.length v (pR v (aB v a c) c)))∧au Kp (pR v (aB v a c) c))
  (hmK:m≤Kz) (k1:ou v.length Kz) (hKp:Kp≤Kz) (hmP:m≤Kp) (k2:Pw v Kp) (k3:sT v.length Kz≤17300000000000):
  Pure Tryz.prog 138 [fm v,iT a] (.tu [iT ((aB v a N).rows.take (aB v a N).cols.length),.sl 1 ((aB v a N).cols.map (fun c:Nat=>dI c))]):=by
 refine qJ 157 Tryz.func138 rfl fun B F0 w0=>?_;refine AZ.aw ?_;refine AZ.seq<|AZ.cL fun B1 F1 w1=>?_;refine qU 3 rfl<|ae.nil ⟨rfl,?_⟩;refine AZ.seq<|AZ.region ?_;refine aj.cut 1 rfl fun B1 F1 w1=>?_;refine qU 1 rfl<|ae.nil ⟨rfl,?_⟩
 refine aj.ed tok [] rfl rfl rfl rfl rfl dz rfl (zj (a:=a) ha (fun i=>by
  by_cases hi:i<a.length
  ·rw[hr i hi];exact hN
  ·rw[jX (by omega)];exact am _)) (fun _ _ _=>am _) (fun res R1 hP=>?_)
 obtain⟨V0,Vs0,hV0,rfl,rfl⟩:=hP;refine aj.cut 1 rfl fun B1 F1 w1=>?_;refine qU 1 rfl<|ae.nil ⟨rfl,?_⟩;refine aj.nil ?_;refine AZ.seq<|AZ.cL fun B1 F1 w1=>?_;refine qU 1 rfl<|ae.nil ⟨rfl,?_⟩;refine AZ.seq<|AZ.seq ?_;refine AZ.cL fun B1 F1 w1=>?_;refine qU 1 rfl<|ae.nil ⟨rfl,?_⟩;refine AZ.block<|AZ.aK [1,2,6,7] (fun z:Nat×Value×List Value=>((z.2.1,OA z.2.2)::dw z.2.2 (aB v a z.1).rows,[(1,.d (.v z.2.1)),(2,.bx [.sl 1 (v.map ak)]),(6,.ow 3 ((aB v a z.1).cols.map (fun c:Nat=>dI c))),(7,.d (dI z.1))])) (fun z=>z.1≤N∧z.2.2.length=a.length) (fun z=>N-z.1) (0,V0,Vs0) rfl ⟨am _,hV0⟩ fun z hz=>?_;clear hV0;clear V0 Vs0;obtain⟨c,Vr,Vs⟩:=z;obtain⟨hc,hVs⟩:=hz
 dsimp only at hc hVs
 have hR:=gS V.a hr hl c;have hnext:aB v a (c+1)=b7 v (aB v a c) c:=rfl;have zR:=sz c hc;have zE:=szE c;have zI:=szI c;have zN:=sz (c+1);have hfull:=fun h=>CU (v:=v) (a:=a) (c:=c) h (N-c);rw[show c+(N-c)=N by omega]at hfull;obtain⟨s,hs⟩: ∃s,aB v a c=s:=⟨_,rfl⟩;rw[hs]at hR hnext zR zE zI hfull;show AZ _ _ _ _ _ _ _ ((Vr,OA Vs)::dw Vs (aB v a c).rows) [(1,.d (.v Vr)),(2,.bx [.sl 1 (v.map ak)]),(6,.ow 3 ((aB v a c).cols.map (fun c:Nat=>dI c))),(7,.d (dI c))];rw[hs];have hm':=hR.len;have hrm:=hR.cm;rw[←hm']at hrm;have hVm:Vs.length=s.rows.length:=by omega
 have hrow0:0<s.rows.length:=by omega
 have hr0:(s.rows.getD 0 []).length=N:=hR.rect 0 hrow0;have hg0:((Vr,OA Vs)::dw Vs s.rows)[1]?=some (Vs.getD 0 undef,mw (s.rows.getD 0 [])):=dF (Vs:=Vs) (j:=0) (by omega) hrow0;refine AZ.seq<|AZ.seq<|AZ.region ?_;refine aj.cut 2 rfl fun B1 F1 w1=>?_;refine qU 2 rfl<|ae.nil ⟨rfl,?_⟩;refine aj.ed tok [0,1] rfl rfl rfl rfl (Oy rfl hg0) (by simp) rfl (vA Vr Vs (s.rows.getD 0 []) (by omega)) (fun res R1 hP=>by rw[hP.2];exact al _) fun res R1 hP=>?_;obtain⟨rfl,rfl⟩:=hP;rw[hr0];refine aj.mV (R':=(Vr,OA Vs)::dw Vs s.rows) (Oq rfl hg0) ?_;by_cases hcN:c<N;rotate_left
 ·have hcc:c=N:=by omega
  subst hcc;rw[hs];refine aj.cut 9 rfl fun B1 F1 w1=>?_;refine qU 1 rfl ?_;rw[a5 (show ¬(c:Int)<(c:Int) by omega)];refine qU 8 rfl<|ae.nil ⟨rfl,?_⟩;refine aj.nil<|AZ.aC rfl ?_;refine AZ.exit ?_;refine AZ.to [1,6] [(1,.d (.v Vr)),(6,CA s.cols)] rfl ?_;refine AZ.tf ((Vr,AV.ow 27 ((s.rows.take 0).map jO++(pC Vs).drop 0))::dw Vs s.rows) (fun _ _ h=>.inl h) ?_;refine AZ.BW (te:=_) tok (e:=52) rfl rfl (by omega) ?_ s.rows.length 0 (by omega) (dw Vs s.rows) fun j _ hj=>dF (by omega) hj;refine AZ.cO 1 0 rfl rfl rfl ?_;refine AZ.seq<|AZ.cL fun B1 F1 w1=>?_;refine ae.iu tok 1 rfl rfl ?_;refine ae.iu tok 6 rfl rfl ?_;refine qU 2 rfl<|qU 1 rfl ?_;rw[ab];refine ae.CK tok rfl rfl rfl rfl trivial (ad _) (am _) (by show s.cols.length≤_;rw[ab];omega) ?_;refine qU 3 rfl<|ae.nil ⟨rfl,?_⟩;refine AZ.ret ?_;show _=some (D.tu [iT (s.rows.take s.cols.length),_]);rw[show iT (s.rows.take s.cols.length)=D.sl 1 (((s.rows.map jO).take s.cols.length).drop 0) by rw[ie,←f9]];rfl
 have hfN:=fun h=>hfull h;refine aj.Ca 8 rfl fun B1 F1 w1 hS=>?_;refine qU 1 rfl ?_;rw[aN (show(c:Int)<(N:Int) by omega)];refine qU 3 rfl ?_;rw[ab];refine qU 1 rfl ?_;refine ae.lens tok (hS.at (i:=0) rfl (by rw[ab];omega)) rfl rfl rfl rfl ?_;rw[ab];refine qU 2 rfl<|ae.nil ⟨rfl,?_⟩;refine aj.nil ?_;refine AZ.cond rfl (fun h=>?_) fun h=>?_;rotate_left
 ·have hlc:s.cols.length=s.rows.length:=by have:=ar h;omega
  rw[hfN hlc];refine AZ.exit ?_;refine AZ.to [1,6] [(1,.d (.v Vr)),(6,CA s.cols)] rfl ?_;refine AZ.tf ((Vr,AV.ow 27 ((s.rows.take 0).map jO++(pC Vs).drop 0))::dw Vs s.rows) (fun _ _ h=>.inl h) ?_;refine AZ.BW (te:=_) tok (e:=52) rfl rfl (by omega) ?_ s.rows.length 0 (by omega) (dw Vs s.rows) fun j _ hj=>dF (by omega) hj;refine AZ.cO 1 0 rfl rfl rfl ?_;refine AZ.seq<|AZ.cL fun B1 F1 w1=>?_;refine ae.iu tok 1 rfl rfl ?_;refine ae.iu tok 6 rfl rfl ?_;refine qU 2 rfl<|qU 1 rfl ?_;rw[ab];refine ae.CK tok rfl rfl rfl rfl trivial (ad _) (am _) (by show s.cols.length≤_;rw[ab];omega) ?_;refine qU 3 rfl<|ae.nil ⟨rfl,?_⟩;refine AZ.ret ?_;show _=some (D.tu [iT (s.rows.take s.cols.length),_]);rw[show iT (s.rows.take s.cols.length)=D.sl 1 (((s.rows.map jO).take s.cols.length).drop 0) by rw[ie,←f9]];rfl
 have hlt:s.cols.length<s.rows.length:=by have:=ao h;omega
 obtain⟨hat1,hat2,hat3,hat4⟩:=eQ v s c hrm;have hm6:s.rows.length≤1000000:=by omega
 have hel: ∀{b:cF} {i:Nat},cX N b→i<b.length→ ∀k,k<N→((b.getD i []).map ak)[k]?=some (ak (a7 b i k)):=fun {b i} hb hi k hk=>getM ak (by rw[hb i hi];exact hk);refine AZ.skip<|AZ.seq<|AZ.block<|AZ.seq ?_;refine AZ.cL fun B1 F1 w1=>?_;refine qU 2 rfl ?_;rw[ab];refine qU 1 rfl<|ae.nil ⟨rfl,?_⟩;refine AZ.seq<|AZ.cL fun B1 F1 w1=>?_;refine qU 2 rfl<|ae.nil ⟨rfl,?_⟩;refine AZ.cut [1,2,6,7,8,9] (fun _:Unit=>(((Vr,OA Vs)::dw Vs s.rows),[(1,.d (.v Vr)),(2,.bx [.sl 1 (v.map ak)]),(6,CA s.cols),(7,.d (dI c)),(8,.d (dI s.cols.length)),(9,.d (dI (atR v s c)))])) (fun _=>True) ?_ fun _ _=>?_
 ·refine AZ.block (AZ.aK [1,2,6,7,8,9] (fun j:Nat=>(((Vr,OA Vs)::dw Vs s.rows),[(1,.d (.v Vr)),(2,.bx [.sl 1 (v.map ak)]),(6,CA s.cols),(7,.d (dI c)),(8,.d (dI s.cols.length)),(9,.d (dI j))])) (fun j=>s.cols.length≤j∧j≤s.rows.length∧kG (Nx v s.rows c) (s.rows.length-j) j=atR v s c) (fun j=>s.rows.length-j) s.cols.length rfl ⟨al _,hrm,rfl⟩ (fun j hj=>?_));show AZ _ _ _ _ _ _ _ ((Vr,OA Vs)::dw Vs s.rows) [(1,.d (.v Vr)),(2,.bx [.sl 1 (v.map ak)]),(6,CA s.cols),(7,.d (dI c)),(8,.d (dI s.cols.length)),(9,.d (dI j))];obtain⟨j1,j2,j3⟩:=hj;refine AZ.seq<|AZ.seq ?_;refine AZ.any aO<|fL.lG 15 (by kernel_rfl) fun B1 F1 w1 hS=>?_;have hS0:=hS.at (i:=0) rfl (by rw[ab];omega);refine qP 2 rfl<|ai.lens tok hS0 rfl rfl rfl rfl rfl ?_;rw[ab];refine qP 1 rfl ?_;by_cases hjm:j<s.rows.length;rotate_left
  ·rw[x8 hjm]at j3;rw[a5 (show ¬(j:Int)<(Vs.length:Int) by omega)];refine qP 11 rfl<|ai.nil ⟨rfl,?_⟩;refine aj.nil<|AZ.aC rfl ?_;exact AZ.exit ⟨(),by rw[←j3];rfl,trivial⟩
  rw[aN (show(j:Int)<(Vs.length:Int) by omega)];have hj6:(s.rows.getD j []).length=N:=hR.rect j hjm;have hS1:=hS.at (i:=j+1) (dF (Vs:=Vs) (by omega) hjm) (by rw[ab];omega);have cs:=uT V (hR.lt j c) (zR j c) hmK k1;have hnz:Nx v s.rows c j=decide (m7 v (a7 s.rows j c)≠0):=rfl;generalize m7 v (a7 s.rows j c)=g at cs hnz;refine qP 4 rfl ?_;refine ai.idxs tok hS0 rfl rfl rfl rfl rfl (ad j) (by rw[ab];omega) ?_;refine ai.bM tok (.v (Vs.getD j undef)) hS0 rfl rfl rfl rfl rfl rfl rfl (dL (by omega)) rfl ?_;refine qP 1 rfl ?_;refine ai.idxs tok hS1 rfl rfl rfl rfl rfl (ad c) (by rw[ab];omega) ?_;refine ai.bM tok (ak (a7 s.rows j c)) hS1 rfl rfl rfl rfl rfl rfl rfl (hel hR.rect hjm c hcN) rfl ?_;refine qQ rfl cs<|qP 1 rfl<|ai.nil ⟨rfl,?_⟩;refine aj.nil ?_;refine AZ.cond rfl (fun h=>?_) fun h=>?_
  ·have hg:g=0:=ao h;refine AZ.skip<|AZ.block ?_;refine AZ.cL fun B1 F1 w1=>?_;refine qU 2 rfl ?_;rw[aD (x:=(j:Int)+1) (by omega) (by omega)];refine qU 1 rfl<|ae.nil ⟨rfl,?_⟩;exact⟨j+1,rfl,⟨by omega,hjm,by rw[←uv hjm (by rw[hnz,hg];rfl)];exact j3⟩,by omega⟩
  ·have hg:g≠0:=ar h;rw[x7 hjm (by rw[hnz,aN hg])]at j3;exact AZ.exit ⟨(),by rw[←j3];rfl,trivial⟩
 show AZ _ _ _ _ _ _ _ ((Vr,OA Vs)::dw Vs s.rows) [(1,.d (.v Vr)),(2,.bx [.sl 1 (v.map ak)]),(6,CA s.cols),(7,.d (dI c)),(8,.d (dI s.cols.length)),(9,.d (dI (atR v s c)))];refine AZ.seq<|AZ.seq ?_;refine AZ.za fun B1 F1 w1 hS=>?_;refine qU 2 rfl ?_;refine ae.lens tok (hS.at (i:=0) rfl (by rw[ab];omega)) rfl rfl rfl rfl ?_;rw[ab];refine qU 1 rfl<|ae.nil ⟨rfl,?_⟩;refine AZ.cond rfl (fun h=>?_) fun h=>?_
 ·have hat: ¬atR v s c<s.rows.length:=by have:=beq_iff_eq.1 h;omega
  have hst:aB v a (c+1)=s:=by rw[hnext];unfold b7;rw[af hat]
  refine AZ.exit ?_;refine AZ.cL fun B1 F1 w1=>?_;refine qU 2 rfl ?_;rw[aD (x:=(c:Int)+1) (by omega) (by omega)];refine qU 1 rfl<|ae.nil ⟨rfl,?_⟩;exact⟨(c+1,Vr,Vs),by rw[hst];rfl,⟨hcN,hVs⟩,by show N-(c+1)<N-c;omega⟩
 have hat:atR v s c<s.rows.length:=by have:=beq_eq_false_iff_ne.1 h;omega
 have hst:aB v a (c+1)=⟨bS v (eR v s c) s.cols.length c (eR v s c).length,s.cols++[c],if atR v s c=s.cols.length then s.sg else -s.sg,et v s.iN (pR v s c)⟩:=by rw[hnext];unfold b7;rw[ah hat]
 obtain⟨hb1,hb2,hb3⟩:=pw (c:=c) hR hat;obtain⟨he1,he2,he3⟩:=yl V.a (c:=c) hR hat
 have hbr:bR v s c=CF s.rows s.cols.length (atR v s c):=by
  unfold bR;split
  ·rename_i e;rw[e,Ix hlt]
  ·rfl
 have hpr:pR v s c=a7 (bR v s c) s.cols.length c:=rfl;have hE:eR v s c=(bR v s c).set s.cols.length (By v ((bR v s c).getD s.cols.length []) (pR v s c)):=rfl
 have hpz:m7 v (pR v s c)≠0:=by rw[hpr,hbr];unfold a7 CF;rw[dc,ah ⟨rfl,by rw[cb];exact hlt⟩];exact hat4 hat
 have zE2:=zE hcN hat;obtain⟨zI2,zP⟩:=zI hcN hat;have zN2:=zN hcN;rw[hst]at zN2;clear zE zI zN
 have zB: ∀j i,au Kz (a7 (bR v s c) j i):=fun j i=>by
  rw[hbr];unfold a7 CF;rw[dc];split
  ·exact zR _ _
  ·rw[dc];split
   ·exact zR _ _
   ·exact zR _ _
 generalize bR v s c=b at *;generalize pR v s c=p at *;generalize eR v s c=e at *;generalize atR v s c=t at *;refine AZ.skip ?_;refine AZ.cut [1,2,6,7,8] (fun _:Unit=>((Vr,OA (F7 Vs s.cols.length t))::dw Vs s.rows,[(1,.d (.v Vr)),(2,.bx [.sl 1 (v.map ak)]),(6,CA s.cols),(7,.d (dI c)),(8,.d (dI s.cols.length))])) (fun _=>True) ?_ fun _ _=>?_
 ·refine AZ.any aO (fL.DX [(2,12),(3,12)] (by kernel_rfl) (fun _ _ _ h=>h) (fun _ _ h=>h) (fL.lG 12 (by kernel_rfl) (fun B1 F1 w1 hS=>?_)));have hS0:=hS.at (i:=0) rfl (by rw[ab];omega);refine qP 6 rfl ?_;refine ai.idxs tok hS0 rfl rfl rfl rfl rfl (ad t) (by rw[ab];omega) ?_;refine ai.bM tok (.v (Vs.getD t undef)) hS0 rfl rfl rfl rfl rfl rfl rfl (dL (by omega)) rfl ?_;refine qP 2 rfl ?_;refine ai.idxs tok hS0 rfl rfl rfl rfl rfl (ad s.cols.length) (by rw[ab];omega) ?_;refine ai.bM tok (.v (Vs.getD s.cols.length undef)) hS0 rfl rfl rfl rfl rfl rfl rfl (dL (by omega)) rfl ?_;refine ai.nil ⟨rfl,?_⟩;refine aj.to [1,2,6,7,8,9,53,54,55,56,60,64] [(1,.d (.v Vr)),(2,.bx [.sl 1 (v.map ak)]),(6,CA s.cols),(7,.d (dI c)),(8,.d (dI s.cols.length)),(9,.d (dI t)),(53,.d (.v Vr)),(54,.d (dI s.cols.length)),(55,.d (.v Vr)),(56,.d (dI t)),(60,.d (.v (Vs.getD t undef))),(64,.d (.v (Vs.getD s.cols.length undef)))] rfl ?_;refine aj.Ca 1 rfl fun B1 F1 w1 hS=>?_;refine ae.idxs tok (hS.at (i:=0) rfl (by rw[ab];omega)) rfl rfl rfl rfl (ad s.cols.length) (by rw[ab];omega) ?_;refine ae.nil ⟨rfl,?_⟩;refine aj.cO 53 0 rfl rfl rfl ?_;refine aj.el (k:=s.cols.length) tok 53 65 rfl (cz _) rfl rfl rfl (by rw[ab];omega) rfl ?_;refine aj.cut 1 rfl fun B1 F1 w1=>?_;refine ae.r8 tok (Vs.getD t undef) rfl rfl rfl (by omega) ?_;refine ae.nil ⟨rfl,?_⟩;refine aj.back 53 0 rfl rfl rfl (cz _) rfl ?_;refine aj.mV (R':=((Vr,OA (Vs.set s.cols.length (Vs.getD t undef)))::dw Vs s.rows)) rfl ?_;refine aj.to [1,2,6,7,8,9,55,56,64] [(1,.d (.v Vr)),(2,.bx [.sl 1 (v.map ak)]),(6,CA s.cols),(7,.d (dI c)),(8,.d (dI s.cols.length)),(9,.d (dI t)),(55,.d (.v Vr)),(56,.d (dI t)),(64,.d (.v (Vs.getD s.cols.length undef)))] rfl ?_;refine aj.Ca 1 rfl fun B1 F1 w1 hS=>?_;refine ae.idxs tok (hS.at (i:=0) rfl (by rw[ab,cb];omega)) rfl rfl rfl rfl (ad t) (by rw[ab,cb];omega) ?_;refine ae.nil ⟨rfl,?_⟩;refine aj.cO 55 0 rfl rfl rfl ?_;refine aj.el (k:=t) tok 55 66 rfl (cz _) rfl rfl rfl (by rw[ab,cb];omega) rfl ?_;refine aj.cut 1 rfl fun B1 F1 w1=>?_;refine ae.r8 tok (Vs.getD s.cols.length undef) rfl rfl rfl (by rw[cb];omega) ?_;refine ae.nil ⟨rfl,?_⟩;refine aj.back 55 0 rfl rfl rfl (cz _) rfl ?_
  refine aj.mV (R':=((Vr,OA (F7 Vs s.cols.length t))::dw Vs s.rows)) (by
   show(Vr,OA ((Vs.set s.cols.length (Vs.getD t undef)).set t (Vs.getD s.cols.length undef)))::dw Vs s.rows=_
   rw[K6]) ?_
  refine aj.nil ?_;exact⟨(),rfl,trivial⟩
 show AZ _ _ _ _ _ _ _ ((Vr,OA (F7 Vs s.cols.length t))::dw Vs s.rows) [(1,.d (.v Vr)),(2,.bx [.sl 1 (v.map ak)]),(6,CA s.cols),(7,.d (dI c)),(8,.d (dI s.cols.length))];refine AZ.CE (t+1) (s.cols.length+1) (dF (Vs:=Vs) (by omega) hat) (dF (Vs:=Vs) (by omega) hlt) ?_;refine AZ.tf ((Vr,OA (F7 Vs s.cols.length t))::((dw Vs s.rows).set t (Vs.getD s.cols.length undef,mw (s.rows.getD s.cols.length []))).set s.cols.length (Vs.getD t undef,mw (s.rows.getD t []))) (fun _ _ h=>.inl h) ?_;rw[Ed (by omega) hlt hat,←hbr];have hWs:(F7 Vs s.cols.length t).length=b.length:=by rw[F6,hb1];omega
 generalize F7 Vs s.cols.length t=Ws at *;obtain⟨r,hrr⟩: ∃r,s.cols.length=r:=⟨_,rfl⟩;have hrb:r<b.length:=by omega
 have hrN:(b.getD r []).length=N:=hb2 r hrb;rw[hrr]at hst hpr hE;rw[hrr]at hlt;have cinv:=Bi V (by rw[hpr];exact hb3 r c) zP hmP (xD k1 hKp) k2 hpz;show AZ _ _ _ _ _ _ _ ((Vr,OA Ws)::dw Ws b) [(1,.d (.v Vr)),(2,.bx [.sl 1 (v.map ak)]),(6,CA s.cols),(7,.d (dI c)),(8,.d (dI s.cols.length))];rw[hrr];refine AZ.seq<|AZ.NT aO 13 (by kernel_rfl) fun B1 F1 w1 hS=>?_;have hS0:=hS.at (i:=0) rfl (by rw[ab];omega);have hS1:=hS.at (i:=r+1) (dF (Vs:=Ws) (by omega) hrb) (by rw[ab];omega);refine qP 3 rfl ?_;refine ai.idxs tok hS0 rfl rfl rfl rfl rfl (ad r) (by rw[ab];show r<Ws.length;omega) ?_;refine ai.bM tok (.v (Ws.getD r undef)) hS0 rfl rfl rfl rfl rfl rfl rfl (dL (by omega)) rfl ?_;refine qP 1 rfl ?_;refine ai.idxs tok hS1 rfl rfl rfl rfl rfl (ad c) (by rw[ab];omega) ?_;refine ai.bM tok (ak (a7 b r c)) hS1 rfl rfl rfl rfl rfl rfl rfl (hel hb2 hrb c hcN) rfl ?_;rw[←hpr];refine qQ rfl cinv<|qP 4 rfl<|ai.nil<|qU 1 rfl<|ae.nil ⟨rfl,?_⟩;obtain⟨f,hf⟩: ∃f,aq (bN v.length v p)=f:=⟨_,rfl⟩;have hfl:ay v.length f:=by rw[←hf];exact bC<|fg v.length (by rw[hpr];exact hb3 r c) V.ro<|al _
 have hmul:=fun {x:NQ} (hx:ay v.length x)=>E7 V hx (p:=p) (by rw[hpr];exact hb3 r c);rw[hf]at zI2 hmul ⊢;refine AZ.to [1,2,6,7,8,10] [(1,.d (.v Vr)),(2,.bx [.sl 1 (v.map ak)]),(6,CA s.cols),(7,.d (dI c)),(8,.d (dI r)),(10,.d (ak f))] rfl ?_;obtain⟨row,hrow⟩: ∃row,b.getD r []=row:=⟨_,rfl⟩;have hz:=v9 v row p;have hsr: ∀k,a7 b r k=row.getD k []:=fun k=>by unfold a7;rw[hrow]
 have hb0:dw Ws b=dw Ws (b.set r row):=by rw[←hrow,oJ hrb]
 have hgr: ∀q:List NQ,(dw Ws (b.set r q))[r]?=some (Ws.getD r undef,mw q):=fun q=>by rw[dF (by omega) (by simpa using hrb),dc,ah ⟨rfl,hrb⟩]
 rw[hrow]at hE hrN;rw[hb0];refine AZ.seq<|AZ.seq ?_;refine AZ.za fun B1 F1 w1 hS=>?_;refine qU 2 rfl ?_;refine ae.idxs tok (hS.at (i:=0) rfl (by rw[ab];omega)) rfl rfl rfl rfl (ad _) (by show r<_;rw[ab];omega) ?_;refine ae.bM tok (.v (Ws.getD r undef)) (hS.at (i:=0) rfl (by rw[ab];omega)) rfl rfl rfl rfl rfl rfl (dL (by omega)) rfl ?_;refine ae.lens tok (hS.at (i:=r+1) (hgr row) (by rw[ab];omega)) rfl rfl rfl rfl ?_;rw[ab,hrN];refine qU 1 rfl<|ae.nil ⟨rfl,?_⟩;refine AZ.block ?_;refine AZ.aK [1,2,6,7,8,10,83,84] (fun k:Nat=>(((Vr,OA Ws)::dw Ws (b.set r (kE (By v row p) row k))),[(1,.d (.v Vr)),(2,.bx [.sl 1 (v.map ak)]),(6,CA s.cols),(7,.d (dI c)),(8,.d (dI r)),(10,.d (ak f)),(83,.d (dI N)),(84,.d (dI k))])) (fun k=>k≤N) (fun k=>N-k) 0 (by rw[uc];rfl) (am _) fun k hk=>?_;show AZ _ _ _ _ _ _ _ ((Vr,OA Ws)::dw Ws (b.set r (kE (By v row p) row k))) [(1,.d (.v Vr)),(2,.bx [.sl 1 (v.map ak)]),(6,CA s.cols),(7,.d (dI c)),(8,.d (dI r)),(10,.d (ak f)),(83,.d (dI N)),(84,.d (dI k))];refine AZ.seq<|AZ.cL fun B1 F1 w1=>?_;refine qU 1 rfl<|ae.nil ⟨rfl,?_⟩;refine AZ.seq ?_;refine AZ.cond rfl (fun h=>?_) fun h=>?_
 ·have hkN:k<N:=by have:=ao h;omega
  have hpl:=sV hz (i:=k) (by omega);have hpg:=xR hz (show k<row.length by omega) [];have hps:=xQ hz (show k<row.length by omega) (d:=[]) (sR v row p (show k<row.length by omega));have cd:=C8 V (a:=row.getD k []) (b:=f) (by rw[←hsr];exact hb3 r k) (by rw[←hsr];exact zB r k) hfl zI2 hmK k3;rw[hmul (by rw[←hsr];exact hb3 r k)]at cd;generalize kE (By v row p) row k=q at *;generalize row.getD k []=X at *;generalize vP v X p=Y at *;refine AZ.skip<|AZ.seq<|AZ.block<|AZ.seq ?_;refine AZ.cL fun B1 F1 w1=>?_;refine qU 2 rfl<|ae.nil ⟨rfl,?_⟩;refine AZ.any aO<|fL.DX [(17,18)] (by kernel_rfl) (fun _ _ _ h=>h) (fun _ _ h=>h)<|fL.lG 18 (by kernel_rfl) fun B1 F1 w1 hS=>?_;have hS0:=hS.at (i:=0) rfl (by rw[ab];omega);have hS1:=hS.at (i:=r+1) (hgr q) (by rw[ab];omega);refine qP 2 rfl ?_;refine ai.idxs tok hS0 rfl rfl rfl rfl rfl (ad r) (by rw[ab];omega) ?_;refine ai.bM tok (.v (Ws.getD r undef)) hS0 rfl rfl rfl rfl rfl rfl rfl (dL (by omega)) rfl ?_;refine qP 4 rfl ?_;refine ai.idxs tok hS0 rfl rfl rfl rfl rfl (ad r) (by rw[ab];omega) ?_;refine ai.bM tok (.v (Ws.getD r undef)) hS0 rfl rfl rfl rfl rfl rfl rfl (dL (by omega)) rfl ?_;refine qP 1 rfl ?_;refine ai.idxs tok hS1 rfl rfl rfl rfl rfl (ad k) (by rw[ab];omega) ?_;refine ai.bM tok (ak (q.getD k [])) hS1 rfl rfl rfl rfl rfl rfl rfl (getM ak (by omega)) rfl ?_;rw[hpg];refine qP 1 rfl<|qQ rfl cd<|qP 3 rfl<|ai.nil ⟨rfl,?_⟩;refine aj.to [91,92,103,1,2,6,7,8,10,83,84] [(91,.d (.v (Ws.getD r undef))),(92,.d (dI k)),(103,.d (ak Y)),(1,.d (.v Vr)),(2,.bx [.sl 1 (v.map ak)]),(6,CA s.cols),(7,.d (dI c)),(8,.d (dI r)),(10,.d (ak f)),(83,.d (dI N)),(84,.d (dI k))] rfl ?_;refine aj.Ca 1 rfl fun B1 F1 w1 hS=>?_;refine ae.idxs tok (hS.at (i:=r+1) (hgr q) (by rw[ab];omega)) rfl rfl rfl rfl (ad k) (by rw[ab];omega) ?_;refine ae.nil ⟨rfl,?_⟩;refine aj.cO 91 (r+1) (hgr q) rfl rfl ?_;refine aj.el (k:=k) tok 91 105 rfl (cz _) rfl rfl rfl (by rw[ab];omega) rfl ?_;refine aj.cut 1 rfl fun B1 F1 w1=>?_;refine ae.tK tok Y rfl rfl rfl (by omega) ?_;rw[hps];refine ae.nil ⟨rfl,?_⟩;refine aj.back 91 (r+1) rfl rfl rfl (cz _) (go (by have:=(cx.1 (hgr q)).1;simp only[List.length_cons];omega)) ?_
  refine aj.mV (R':=((Vr,OA Ws)::dw Ws (b.set r (kE (By v row p) row (k+1))))) (by
   show(Vr,OA Ws)::((dw Ws (b.set r q)).set r _).set r _=_
   rw[it,wC (by omega) (by simpa using hrb),it]) ?_
  refine aj.nil<|AZ.to [1,2,6,7,8,10,83,84] [(1,.d (.v Vr)),(2,.bx [.sl 1 (v.map ak)]),(6,CA s.cols),(7,.d (dI c)),(8,.d (dI r)),(10,.d (ak f)),(83,.d (dI N)),(84,.d (dI k))] rfl ?_;refine AZ.cL fun B1 F1 w1=>?_;refine qU 1 rfl ?_;rw[aD (x:=(k:Int)+1) (by omega) (by omega)];refine qU 1 rfl<|ae.nil ⟨rfl,?_⟩;exact⟨k+1,rfl,hkN,by omega⟩
 have hkN:k=N:=by have:=ar h;omega
 subst hkN;rw[show kE (By v row p) row k=By v row p by rw[←hrN];exact xS hz,←hE];refine AZ.exit ?_;have hWe:Ws.length=e.length:=by omega
 have hre:r<e.length:=by omega
 have he2c:e.length=s.rows.length:=by omega
 clear hb0 hgr;refine AZ.to [1,2,6,7,8] [(1,.d (.v Vr)),(2,.bx [.sl 1 (v.map ak)]),(6,CA s.cols),(7,.d (dI c)),(8,.d (dI r))] rfl ?_;refine AZ.seq<|AZ.seq ?_;refine AZ.za fun B1 F1 w1 hS=>?_;refine qU 1 rfl ?_;refine ae.lens tok (hS.at (i:=0) rfl (by rw[ab];omega)) rfl rfl rfl rfl ?_;rw[ab,hWe];refine qU 1 rfl<|ae.nil ⟨rfl,?_⟩;refine AZ.block<|AZ.aK [1,2,6,7,8,108,109] (fun z:Nat×List Value=>((Vr,OA z.2)::dw z.2 (bS v e r c z.1),[(1,.d (.v Vr)),(2,.bx [.sl 1 (v.map ak)]),(6,CA s.cols),(7,.d (dI c)),(8,.d (dI r)),(108,.d (dI e.length)),(109,.d (dI z.1))])) (fun z=>z.1≤e.length∧z.2.length=e.length) (fun z=>e.length-z.1) (0,Ws) rfl ⟨am _,hWe⟩ fun z hz2=>?_;obtain⟨i,Ws⟩:=z;obtain⟨hi,hWe⟩:=hz2
 dsimp only at hi hWe
 show AZ _ _ _ _ _ _ _ ((Vr,OA Ws)::dw Ws (bS v e r c i)) [(1,.d (.v Vr)),(2,.bx [.sl 1 (v.map ak)]),(6,CA s.cols),(7,.d (dI c)),(8,.d (dI r)),(108,.d (dI e.length)),(109,.d (dI i))];refine AZ.seq<|AZ.cL fun B1 F1 w1=>?_;refine qU 1 rfl<|ae.nil ⟨rfl,?_⟩;refine AZ.seq ?_;refine AZ.cond rfl (fun h=>?_) fun h=>?_
 ·have hie:i<e.length:=by have:=ao h;omega
  have hm1:=ji v e r c i;have hm2:=p8 (v:=v) (r:=r) (c:=c) he2 i (by omega);have hm3:=wm V.a (r:=r) (c:=c) he3 i;have hmi:=gu v e r c i i (.inl (al _));have hmr:=gu v e r c i r (.inr rfl);have hnx:bS v e r c (i+1)=if i≠r∧m7 v (a7 (bS v e r c i) i c)≠0 then(bS v e r c i).set i (gW v ((bS v e r c i).getD i []) ((bS v e r c i).getD r []) (a7 (bS v e r c i) i c))else bS v e r c i:=rfl
  have kt:a7 (bS v e r c i) i c=a7 e i c:=wq v e r c i c;have zi: ∀q,au Kz (((bS v e r c i).getD i []).getD q []):=fun q=>by rw[hmi];exact zE2 i q
  have zr: ∀q,au Kz (((bS v e r c i).getD r []).getD q []):=fun q=>by rw[hmr];exact zE2 r q
  have zc:au Kz (a7 (bS v e r c i) i c):=zi c;generalize bS v e r c i=m at *;refine AZ.skip<|AZ.seq<|AZ.block<|AZ.seq ?_;refine AZ.cL fun B1 F1 w1=>?_;refine qU 2 rfl<|ae.nil ⟨rfl,?_⟩;refine AZ.seq<|AZ.any aO<|fL.lG 15 (by kernel_rfl) fun B1 F1 w1 hS=>?_;have hS0:=hS.at (i:=0) rfl (by rw[ab];omega);refine qP 3 rfl ?_;by_cases hir:i=r
  ·rw[af (fun g=>g.1 hir)]at hnx;rw[bne_eq_false_iff_eq.2 (show(i:Int)=(r:Int) by omega)];refine qP 12 rfl<|ai.nil ⟨rfl,?_⟩;refine aj.nil<|AZ.aC rfl ?_;refine AZ.skip<|AZ.cL fun B1 F1 w1=>?_;refine qU 1 rfl ?_;rw[aD (x:=(i:Int)+1) (by omega) (by omega)];refine qU 1 rfl<|ae.nil ⟨rfl,?_⟩;exact⟨(i+1,Ws),ap (show((Vr,OA Ws)::dw Ws m)=((Vr,OA Ws)::dw Ws (bS v e r c (i+1))) by rw[hnx]) rfl,⟨hie,hWe⟩,by show e.length-(i+1)<e.length-i;omega⟩
  have hmiN:(m.getD i []).length=k:=hm2 i (by omega);have hmrN:(m.getD r []).length=k:=hm2 r (by omega);have hgi:=dF (Vs:=Ws) (a:=m) (j:=i) (by omega) (by omega);have hgr2:=dF (Vs:=Ws) (a:=m) (j:=r) (by omega) (by omega);have hS1:=hS.at (i:=i+1) hgi (by rw[ab];omega);have cs:=uT V (hm3 i c) zc hmK k1;rw[bne_iff_ne.2 (show(i:Int)≠(r:Int) by omega)];refine qP 4 rfl ?_;refine ai.idxs tok hS0 rfl rfl rfl rfl rfl (ad i) (by rw[ab];omega) ?_;refine ai.bM tok (.v (Ws.getD i undef)) hS0 rfl rfl rfl rfl rfl rfl rfl (dL (by omega)) rfl ?_;refine qP 1 rfl ?_;refine ai.idxs tok hS1 rfl rfl rfl rfl rfl (ad c) (by rw[ab];omega) ?_;refine ai.bM tok (ak (a7 m i c)) hS1 rfl rfl rfl rfl rfl rfl rfl (hel hm2 (by omega) c hcN) rfl ?_;refine qQ rfl cs<|qP 2 rfl<|ai.nil ⟨rfl,?_⟩;refine aj.nil ?_;refine AZ.cond rfl (fun h=>?_) fun h=>?_;rotate_left
  ·have hg:m7 v (a7 m i c)=0:=by simpa using h
   rw[af (fun g=>g.2 hg)]at hnx;refine AZ.skip<|AZ.cL fun B1 F1 w1=>?_;refine qU 1 rfl ?_;rw[aD (x:=(i:Int)+1) (by omega) (by omega)];refine qU 1 rfl<|ae.nil ⟨rfl,?_⟩;exact⟨(i+1,Ws),ap (show((Vr,OA Ws)::dw Ws m)=((Vr,OA Ws)::dw Ws (bS v e r c (i+1))) by rw[hnx]) rfl,⟨hie,hWe⟩,by show e.length-(i+1)<e.length-i;omega⟩
  have hg:m7 v (a7 m i c)≠0:=by simpa using h
  rw[ah ⟨hir,hg⟩]at hnx;have ct:=Bf (Ws.getD i undef) (Ws.getD r undef) V (xs:=m.getD i []) (ys:=m.getD r []) (c:=a7 m i c) (hm3 i) (hm3 r) (hm3 i c) zi zr zc hmK k3 (by omega) (by omega) (by omega);refine AZ.any aO<|fL.DX [(0,18),(1,18)] (by kernel_rfl) (fun _ _ _ h=>h) (fun _ _ h=>h)<|fL.lG 18 (by kernel_rfl) fun B1 F1 w1 hS=>?_;have hS0:=hS.at (i:=0) rfl (by rw[ab];omega);have hS1:=hS.at (i:=i+1) hgi (by rw[ab];omega);refine qP 5 rfl ?_;refine ai.idxs tok hS0 rfl rfl rfl rfl rfl (ad i) (by rw[ab];omega) ?_;refine ai.bM tok (.v (Ws.getD i undef)) hS0 rfl rfl rfl rfl rfl rfl rfl (dL (by omega)) rfl ?_;refine qP 2 rfl ?_;refine ai.idxs tok hS0 rfl rfl rfl rfl rfl (ad r) (by rw[ab];omega) ?_;refine ai.bM tok (.v (Ws.getD r undef)) hS0 rfl rfl rfl rfl rfl rfl rfl (dL (by omega)) rfl ?_;refine qP 2 rfl ?_;refine ai.idxs tok hS0 rfl rfl rfl rfl rfl (ad i) (by rw[ab];omega) ?_;refine ai.bM tok (.v (Ws.getD i undef)) hS0 rfl rfl rfl rfl rfl rfl rfl (dL (by omega)) rfl ?_;refine qP 1 rfl ?_;refine ai.idxs tok hS1 rfl rfl rfl rfl rfl (ad c) (by rw[ab];omega) ?_;refine ai.bM tok (ak (a7 m i c)) hS1 rfl rfl rfl rfl rfl rfl rfl (hel hm2 (by omega) c hcN) rfl ?_;refine ai.nil ⟨rfl,?_⟩;refine aj.to [127,128,129,133,137,144,1,2,6,7,8,108,109] [(127,.d (.v Vr)),(128,.d (dI i)),(129,.d (fm v)),(133,.d (.v (Ws.getD i undef))),(137,.d (.v (Ws.getD r undef))),(144,.d (ak (a7 m i c))),(1,.d (.v Vr)),(2,.bx [.sl 1 (v.map ak)]),(6,CA s.cols),(7,.d (dI c)),(8,.d (dI r)),(108,.d (dI e.length)),(109,.d (dI i))] rfl ?_;refine aj.ed tok [i+1,r+1] rfl rfl rfl rfl (OB hgi hgr2) (by simp[hir]) rfl ct (fun res R1 hP=>by obtain⟨_,_,rfl⟩:=hP;exact ch 2) fun res R1 hP=>?_;obtain⟨V,rfl,rfl⟩:=hP
  refine aj.mV (R':=((Vr,OA Ws)::dw Ws m++[(V,mw (gW v (m.getD i []) (m.getD r []) (a7 m i c)))])) (by
   show((Vr,OA Ws)::((dw Ws m).set i _).set r _)++[_]=_
   rw[sh hgi,sh hgr2]) ?_
  refine aj.Ca 1 rfl fun B1 F1 w1 hS=>?_;refine ae.idxs tok (hS.at (i:=0) rfl (by rw[ab];omega)) rfl rfl rfl rfl (ad i) (by rw[ab];omega) ?_;refine ae.nil ⟨rfl,?_⟩;refine aj.cO 127 0 rfl rfl rfl ?_;refine aj.el (k:=i) tok 127 146 rfl (cz _) rfl rfl rfl (by rw[ab];omega) rfl ?_;refine aj.cut 1 rfl fun B1 F1 w1=>?_;refine ae.r8 tok V rfl rfl rfl (by omega) ?_;refine ae.nil ⟨rfl,?_⟩;refine aj.back 127 0 rfl rfl rfl (cz _) rfl ?_;refine aj.mV (R':=((Vr,OA (Ws.set i V))::dw Ws m++[(V,mw (gW v (m.getD i []) (m.getD r []) (a7 m i c)))])) rfl ?_;refine aj.nil<|AZ.to [1,2,6,7,8,108,109] [(1,.d (.v Vr)),(2,.bx [.sl 1 (v.map ak)]),(6,CA s.cols),(7,.d (dI c)),(8,.d (dI r)),(108,.d (dI e.length)),(109,.d (dI i))] rfl ?_;refine AZ.I4 (i:=i) hgi ?_;rw[tC (by omega) (by omega),←hnx];refine AZ.cL fun B1 F1 w1=>?_;refine qU 1 rfl ?_;rw[aD (x:=(i:Int)+1) (by omega) (by omega)];refine qU 1 rfl<|ae.nil ⟨rfl,?_⟩;exact⟨(i+1,Ws.set i V),rfl,⟨hie,by show(Ws.set i V).length=_;rw[cb];exact hWe⟩,by show e.length-(i+1)<e.length-i;omega⟩
 have hie:i=e.length:=by have:=ar h;omega
 subst hie;refine AZ.exit ?_;refine AZ.cL fun B1 F1 w1=>?_;refine qU 2 rfl<|ae.ku tok rfl rfl rfl rfl rfl ?_;refine ae.jw tok rfl rfl rfl rfl rfl rfl (by show((s.cols.map (fun c:Nat=>dI c)).length+1)*8≤_;rw[ab];omega) (by show(s.cols.map (fun c:Nat=>dI c)).length+1≤_;rw[ab];omega) ?_;refine qU 1 rfl<|ae.nil ⟨rfl,?_⟩;refine AZ.cL fun B1 F1 w1=>?_;refine qU 2 rfl ?_;rw[aD (x:=(c:Int)+1) (by omega) (by omega)];refine qU 1 rfl<|ae.nil ⟨rfl,?_⟩;exact⟨(c+1,Vr,Ws),by rw[hst];show _=((Vr,OA Ws)::dw Ws (bS v e r c e.length),([(1,.d (.v Vr)),(2,.bx [.sl 1 (v.map ak)]),(6,.ow 3 ((s.cols++[c]).map (fun c:Nat=>dI c))),(7,.d (dI (c+1:Nat)))]:St));rw[cj];rfl,⟨hcN,by show Ws.length=a.length;omega⟩,by show k-(c+1)<k-c;omega⟩
end Lift
namespace Lift
variable {r:Nat}
theorem Bt{l k m:Nat}{R:NQ→NQ→NQ}{O:NQ→NQ→Prop}{rt:List NQ}{a b:NQ}(ha:ay l a)(hb:ay l b)(hab:b.length≤a.length)(hrt:cU rt)(hl:l≤rt.length)(sa:au k a)(sb:au m b)(sr:dk r rt)(hk:tT r l (k+m)≤17300000000000)
  (hR: ∀l',l=l'+1→ ∀a' b' k' m',ay l' a'→ay l' b'→au k' a'→au m' b'→tT r l' (k'+m')≤17300000000000→O a' b'∧ay l' (R a' b')∧au (tT r l' (k'+m')) (R a' b')):OJ R O rt a b:=by
 have h2:=oG r l (k+m);refine⟨sa.mono (by omega),sb.mono (by omega),fun h1 hza hzb=>?_⟩;have hb0:0<b.length:=g8.2 (kV hzb);have ha0:0<a.length:=g8.2 (kV hza)
 obtain⟨i,hi,hla⟩: ∃i,i≤l∧a.length=2^i:=by
  rcases ha with e|e
  ·omega
  ·exact e
 have u9:i≠0:=fun e=>h1 (by rw[hla,e]);obtain⟨j,rfl⟩: ∃j,i=j+1:=⟨i-1,by omega⟩;obtain⟨l',rfl⟩: ∃l',l=l'+1:=⟨l-1,by omega⟩;have hj:j≤l':=by omega
 have hR:=fun a' b' k' m' h1 h2 h3 h4 h5=>hR l' rfl a' b' k' m' h1 h2 h3 h4 h5;obtain⟨e1,e2,e3⟩:=bt hla;have hx:ay l' (a.take (a.length/2)):=.inr ⟨j,hj,e1⟩;have hy:ay l' (a.drop (a.length/2)):=.inr ⟨j,hj,e2⟩;have hk:tT r l' (k+m)+tT r l' (tT r l' (k+m)+r)+1≤17300000000000:=hk;refine⟨fun h3=>?_,fun h3=>?_⟩
 ·have hb':ay l' b:=by
   rcases hb with e|⟨i',_,e⟩
   ·exact .inl e
   ·refine .inr ⟨i',?_,e⟩;rw[e3,e]at h3;have:=iZ h3;omega
  exact⟨(hR _ _ k m hx hb' (sa.take _) sb (by omega)).1,(hR _ _ k m hy hb' (sa.drop _) sb (by omega)).1⟩
 have hlb:b.length=2^(j+1):=by
  rcases hb with e|⟨i',_,e⟩
  ·omega
  ·rw[e]at h3 hab ⊢;rw[hla]at hab;rw[e3]at h3;have h4:=iZ hab;have h5: ¬i'≤j:=fun h=>h3 (bz (by decide) h);rw[show i'=j+1 by omega]
 obtain⟨f1,f2,f3⟩:=bt hlb;rw[show b.length/2=a.length/2 by rw[f3,e3]]at f1 f2;have hu:ay l' (b.take (a.length/2)):=.inr ⟨j,hj,f1⟩;have hv:ay l' (b.drop (a.length/2)):=.inr ⟨j,hj,f2⟩;have r1:=hR _ _ k m hx hu (sa.take _) (sb.take _) (by omega);have r2:=hR _ _ k m hy hv (sa.drop _) (sb.drop _) (by omega);have r3:=hR _ _ k m hx hv (sa.take _) (sb.drop _) (by omega);have r4:=hR _ _ k m hy hu (sa.drop _) (sb.take _) (by omega);have hlog:a.length.log2-1=j:=by rw[hla,cB];omega
 rw[hlog];have hd:ay l' (rt.getD j []):=.inr ⟨j,hj,hrt j (by omega)⟩;have r5:=hR _ _ (tT r l' (k+m)) r r2.2.1 hd r2.2.2 (sr j) (by omega);exact⟨⟨r1.1,r2.1,r5.1,r3.1,r4.1⟩,r1.2.2.mono (by omega),r5.2.2.mono (by omega),r3.2.2.mono (by omega),r4.2.2.mono (by omega)⟩
theorem Jk: ∀(l:Nat) {k m r:Nat} {rt:List NQ} {a b:NQ},ay l a→ay l b→cU rt→l≤rt.length→au k a→au m b→dk r rt→tT r l (k+m)≤17300000000000→Dm l rt a b
 |0,k,m,r,rt,a,b,ha,hb,hrt,hl,sa,sb,sr,hk=>by
  show vB _ _ rt a b;unfold vB;split
  ·exact Bt hb ha (by omega) hrt hl sb sa sr (by rw[i4 m k];exact hk) (fun l' h=>by omega)
  ·exact Bt ha hb (by omega) hrt hl sa sb sr hk (fun l' h=>by omega)
 |l+1,k,m,r,rt,a,b,ha,hb,hrt,hl,sa,sb,sr,hk=>by
  show vB (aT l rt) (Dm l rt) rt a b;unfold vB
  have ih: ∀l',l+1=l'+1→ ∀a' b' k' m',ay l' a'→ay l' b'→au k' a'→au m' b'→tT r l' (k'+m')≤17300000000000→Dm l rt a' b'∧ay l' (aT l rt a' b')∧au (tT r l' (k'+m')) (aT l rt a' b'):=fun l' e a' b' k' m' h1 h2 h3 h4 h5=>by
   obtain rfl:l=l':=by omega
   exact⟨Jk l h1 h2 hrt (by omega) h3 h4 sr h5,fF l h1 h2 hrt (by omega),wV hrt sr (by omega) h1 h3 h2 h4⟩
  split
  ·exact Bt hb ha (by omega) hrt hl sb sa sr (by rw[i4 m k];exact hk) ih
  ·exact Bt ha hb (by omega) hrt hl sa sb sr hk ih
def E1(r:Nat):Nat→Nat→Prop
 |0,k=>k≤17300000000000
 |l+1,k=>sT (l+1) k≤17300000000000∧ou l (tT r (l+1) (k+k))∧E1 r l (tT r (l+1) (k+k))∧iQ r (l+1) k≤17300000000000
theorem E1.le: ∀{l k:Nat},E1 r l k→k≤17300000000000
 |0,k,h=>h
 |l+1,k,h=>by have:=bP (l+1) k;have:=h.1;omega
theorem Nv{v:List NQ}(hrt:cU v)(hp:oh v)(sr:dk r v): ∀(l:Nat) {k:Nat} {a:NQ},ay l a→l≤v.length→au k a→r≤k→aW v l (cf a)≠0→E1 r l k→Oh l v a:=by
 intro l
 induction l with
 |zero =>
  intro k a ha hl sa hrk h hk;exact⟨sa.mono hk.le,kW ha h⟩
 |succ l ih =>
  intro k a ha hl sa hrk h hk;obtain⟨k1,k2,k3,k4⟩:=hk;have h2:=bP (l+1) k;have h5:=Ez r l (k+k);have h0:=kW ha h;have hc:=bb ha;refine⟨sa.mono (by omega),h0,fun hne=>?_⟩;rw[←hc]at h;obtain⟨hs,ss⟩:=a6 ha sa;generalize aq a=s at *
  obtain⟨j,hj,hsl⟩: ∃j,j≤l∧s.length=2^(j+1):=by
   rcases hs with e|⟨i,hi,e⟩
   ·exact aG e h0
   ·rcases i with _|j
    ·exact aG e hne
    ·exact⟨j,by omega,e⟩
  obtain⟨e1,e2,e3⟩:=bt hsl;have hx:ay l (s.take (s.length/2)):=.inr ⟨j,hj,e1⟩;have hn:=nG hj hsl hrt (show l<v.length by omega);have sn:=BA hrt sr hj (show l<v.length by omega) hsl ss;have s1:=cY l hn.1 hrt (by omega)
  have lowN:bK j (bj v j (cf s)):=fun i hi=>by unfold bj;rw[a9 v j _ _ i hi,a9 v j _ _ i hi];exact cM
  refine⟨Jl hj hsl hrt (by omega) ss (sr.mono hrk) k1,rq l hn.1 hrt (by omega) sn (sr.mono (by omega)) k2,fun hz=>?_,fun hz=>⟨?_,?_⟩⟩
  ·rw[s1,hn.2,bD v lowN hj]at hz;have hd:=yu hrt hp hj (by omega) hsl h hz;exact ih (hx.plus hx) (by omega) (((ss.take _).plus (ss.take _)).mono (by omega)) (by omega) hd k3
  ·rw[s1]at hz;exact ih hn.1 (by omega) sn (by omega) hz k3
  ·have hjl:ay (l+1) (dK (s.take (s.length/2)) (aP (s.drop (s.length/2))) (s.length/2)):=.inr ⟨j+1,by omega,by
    rw[dN]
    omega⟩
   exact Jk (l+1) hjl ((fg l hn.1 hrt (by omega)).mono (ch l)) hrt hl ((ss.take _).join (ss.drop _).minus _) (JF hrt sr l hn.1 (by omega) sn) sr k4
end Lift
namespace Lift
open Go Go.Proofs
variable {v:List NQ}{r:Nat}
theorem z6{l k m:Nat}{a b:NQ}(hrt:cU v)(hr:dk r v)(hl:l≤v.length)(ha:ay l a)(sa:au k a)(hb:ay l b)(sb:au m b):au (tT r l (k+m)) (eH l v a b) :=
 vW ((fN l ha hb hrt hl).2.trans (da l ha hb hrt hl).2.symm) (wV hrt hr hl ha sa hb sb)
theorem nA{r:Nat}{rt:List NQ}{xs:List D}(hrt:cU rt)(hxs: ∀j,j<rt.length→xs[j]?=some (ak (rt.getD j [])))(sr:dk r rt): ∀(l:Nat) {k m:Nat} {a b:NQ},ay l a→ay l b→l≤rt.length→l≤5→au k a→au m b→tT r l (k+m)≤17300000000000→Pure Tryz.prog 157 [.ag [.sl 1 xs],ak a,ak b] (ak (eH l rt a b))
 |0,k,m,a,b,ha,hb,hl,hl5,sa,sb,hk=>lS (K1:=0) (K2:=0) ha hb hrt hl hl5 hxs sa sb sr hk (al _) (by decide) (fun l' h=>by omega)
 |l+1,k,m,a,b,ha,hb,hl,hl5,sa,sb,hk=>by
  have h1:=oG r l (k+m);have h2:=oG r l (tT r l (k+m)+r);have hk':tT r l (k+m)+tT r l (tT r l (k+m)+r)+1≤17300000000000:=hk;refine lS (K1:=tT r l (k+m)) (K2:=tT r l (tT r l (k+m)+r)) ha hb hrt hl hl5 hxs sa sb sr (by omega) (by omega) (by omega) fun l' e=>?_;obtain rfl:l=l':=by omega
  exact⟨fun a' b' g1 g2 g3=>⟨nA hrt hxs sr l g1 g2 (by omega) (by omega) g3.1 g3.2 (by omega),ns l g1 g2,(fN l g1 g2 hrt (by omega)).1,z6 hrt sr (by omega) g1 g3.1 g2 g3.2⟩,
   fun a' b' g1 g2 g3 g4=>⟨nA hrt hxs sr l g1 g2 (by omega) (by omega) g3 g4 (by omega),ns l g1 g2,(fN l g1 g2 hrt (by omega)).1,z6 hrt sr (by omega) g1 g3 g2 g4⟩⟩
theorem xm(hrt:cU v)(hp:oh v)(hv5:v.length≤5)(sr:dk r v): ∀(l:Nat) {k:Nat} {a:NQ},ay l a→l≤v.length→au k a→r≤k→aW v l (cf a)≠0→E1 r l k→Pure Tryz.prog 201 [fm v,ak a] (ak (uP l v a)):=by
 intro l
 induction l with
 |zero =>
  intro k a ha hl sa hrk h hk;exact Aa ha (by omega) (sa.mono hk.le) (kW ha h) (fun _=>rfl) (fun l' j e=>by omega)
 |succ l ih =>
  intro k a ha hl sa hrk h hk;obtain⟨k1,k2,k3,k4⟩:=hk;have h2:=bP (l+1) k;have h5:=Ez r l (k+k);have h0:=kW ha h;have hc:=bb ha;refine Aa ha (by omega) (sa.mono (by omega)) h0 (fun e=>ah e) fun l' j e hj hsl=>?_;obtain rfl:l=l':=by omega
  rw[←hc]at h;have ss:=(a6 ha sa).2
  have hne:(aq a).length≠1:=by have:0<2^j:=eX (by decide);rw[hsl,dl];omega
  show ∃(N:NQ) (S:Int),_∧_∧(S=0→Pure _ _ _ (ak (if (aq a).length=1 then _ else _)))∧(S≠0→ ∃I,_∧Pure _ _ _ (ak (if (aq a).length=1 then _ else _)));rw[af hne];generalize aq a=s at *;obtain⟨e1,e2,e3⟩:=bt hsl;have hx:ay l (s.take (s.length/2)):=.inr ⟨j,hj,e1⟩;have hr:=w8 hj hsl hrt (show l<v.length by omega);have hnl:=nG hj hsl hrt (show l<v.length by omega);have hrs:au (tT r (l+1) (k+k)) (fR l v s):=vW (hr.2.trans hnl.2.symm) (BA hrt sr hj (show l<v.length by omega) hsl ss);have cN:=uU hj hsl hrt (show l<v.length by omega) (by omega) (xs:=v.map ak) (fun j hj=>qC hj) ss (sr.mono hrk) k1;have cS:=j9 l hr.1 (by omega) hrt (by omega) (xs:=v.map ak) (fun j hj=>qC hj) hrs (sr.mono (by omega)) k2;have s1:=iW l hr.1 hrt hp (by omega)
  have lowN:bK j (bj v j (cf s)):=fun i hi=>by unfold bj;rw[a9 v j _ _ i hi,a9 v j _ _ i hi];exact cM
  refine⟨fR l v s,oK l v (fR l v s),cN,cS,fun hz=>?_,fun hz=>?_⟩
  ·rw[ah hz];have hd:=yu hrt hp hj (by omega) hsl h (by rw[s1,hr.2,bD v lowN hj]at hz;exact hz);exact ih (hx.plus hx) (by omega) (((ss.take _).plus (ss.take _)).mono (by omega)) (by omega) hd k3
  ·rw[af hz];rw[s1]at hz;have ci:=ih hr.1 (by omega) hrs (by omega) hz k3;refine⟨uP l v (fR l v s),ci,?_⟩;have h3:=Gj hrt hp l hr.1 hnl.1 (hr.2.trans hnl.2.symm) (by omega) hz;have s3:au (iQ r l (tT r (l+1) (k+k))) (uP l v (fR l v s)):=vW h3.2 (JF hrt sr l hnl.1 (by omega) (vW (hnl.2.trans hr.2.symm) hrs));exact nA hrt (xs:=v.map ak) (fun j hj=>qC hj) sr (l+1) (.inr ⟨j+1,by omega,by rw[e6,cV,e1,e2,dl];omega⟩) (h3.1.mono (ch l)) hl (by omega) (Iv (ss.take _) (ss.drop _).minus) s3 k4
end Lift
namespace Lift
variable {v:List NQ}{b:NQ}{K N X X' Xe Y c c' j k kk m:Nat}{p q:Rat}{A R:Rg}
def Zq(X:Nat)(q:Rat):Prop:= ∃n:Int,q=(n:Rat)∧n.natAbs<4294967296^X
theorem N8(X:Nat):0<4294967296^X:=eX (by decide)
theorem Zq.mono(h:Zq X q)(hx:X≤Y):Zq Y q:=by obtain⟨n,e,hn⟩:=h;exact⟨n,e,Nat.lt_of_lt_of_le hn (bz (by decide) hx)⟩
theorem Zq.zero(X:Nat):Zq X 0:=⟨0,rfl,N8 X⟩
theorem Zq.one:Zq 1 1:=⟨1,rfl,by decide⟩
theorem Zq.neg(h:Zq X q):Zq X (-q):=by obtain⟨n,e,hn⟩:=h;exact⟨-n,by rw[e,Rat.intCast_neg],by rw[Int.natAbs_neg];exact hn⟩
theorem Zq.add(hp:Zq X p)(hq:Zq X q):Zq (X+1) (p+q):=by obtain⟨m,e,hm⟩:=hp;obtain⟨n,f,hn⟩:=hq;refine⟨m+n,by rw[e,f,Rat.intCast_add],?_⟩;have:=Int.natAbs_add_le m n;rw[dl];have:=N8 X;omega
theorem Zq.mul(hp:Zq X p)(hq:Zq Y q):Zq (X+Y) (p*q):=by obtain⟨m,e,hm⟩:=hp;obtain⟨n,f,hn⟩:=hq;refine⟨m*n,by rw[e,f,Rat.intCast_mul],?_⟩;rw[Int.natAbs_mul,Nat.pow_add];exact Nat.lt_of_le_of_lt (Nat.mul_le_mul (Nat.le_of_lt hm) (al _))<|Nat.mul_lt_mul_of_pos_left hn<|N8 X
theorem Zq.lq{d:Rat}(h:Zq X (q*d))(hd:Zq X d)(h0:d≠0):LQ q≤X:=by
 obtain⟨m,e,hm⟩:=h;obtain⟨n,f,hn⟩:=hd;have hn0:n≠0:=fun g=>h0 (by rw[f,g];rfl)
 have hq:q=Rat.divInt m n:=by rw[Rat.divInt_eq_div,←e,←f,Rat.mul_div_cancel h0]
 rw[hq];have h1:=mZ m n hn0;have h2:=FQ hm;have h3:=FQ hn;omega
structure IR (R:Rg) where
 Z:Nat→R.T→Prop
 c:Nat
 mono: ∀{X Y:Nat} {a:R.T},Z X a→X≤Y→Z Y a
 zero: ∀X,Z X 0
 one:Z 1 1
 neg: ∀{X:Nat} {a:R.T},Z X a→Z X (-a)
 add: ∀{X:Nat} {a b:R.T},Z X a→Z X b→Z (X+1) (a+b)
 mul: ∀{X Y:Nat} {a b:R.T},Z X a→Z Y b→Z (X+Y+c) (a*b)
def cu:IR Lm.toRg where
 Z:=Zq
 c:=0
 mono:=Zq.mono
 zero:=Zq.zero
 one:=Zq.one
 neg:=Zq.neg
 add:=Zq.add
 mul:=Zq.mul
section
variable (I:IR R) {d ε e:R.T} (h1:ε*e=1) {b:Nat} (hB:I.Z b (ε*ε*d))
def IR.ext:IR (R.ext d) where
 Z X p:=I.Z X p.1∧I.Z X (p.2*e)
 c:=I.c+I.c+b+1
 mono h hx:=⟨I.mono h.1 hx,I.mono h.2 hx⟩
 zero X:=⟨I.zero X,by show I.Z X (0*e);rw[Rg.zero_mul];exact I.zero X⟩
 one:=⟨I.one,by show I.Z 1 (0*e);rw[Rg.zero_mul];exact I.zero 1⟩
 neg {X a} h:=⟨I.neg h.1,by show I.Z X (-a.2*e);rw[Rg.neg_mul];exact I.neg h.2⟩
 add {X a b} ha hb:=⟨I.add ha.1 hb.1,by show I.Z (X+1) ((a.2+b.2)*e);rw[Rg.add_mul];exact I.add ha.2 hb.2⟩
 mul {X Y x y} hx hy:=by
  refine⟨?_,?_⟩
  ·show I.Z _ (x.1*y.1+x.2*y.2*d)
   have h2:x.2*y.2*d=x.2*e*(y.2*e)*(ε*ε*d):=by rw[show x.2*e*(y.2*e)*(ε*ε*d)=x.2*y.2*d*(ε*e)*(ε*e)from Rg.bJ [x.2,y.2,d,ε,e] (X0*X4*(X1*X4)*(X3*X3*X2)) (X0*X1*X2*(X3*X4)*(X3*X4)) rfl,h1,Rg.mul_one,Rg.mul_one]
   rw[h2];have h3:=I.mul hx.1 hy.1;have h4:=I.mul (I.mul hx.2 hy.2) hB;exact I.mono (I.add (I.mono h3 (show X+Y+I.c≤X+Y+I.c+b+I.c by omega)) h4) (by omega)
  ·show I.Z _ ((x.1*y.2+x.2*y.1)*e);rw[show(x.1*y.2+x.2*y.1)*e=x.1*(y.2*e)+x.2*e*y.1 from Rg.bJ [x.1,x.2,y.1,y.2,e] ((X0*X3+X1*X2)*X4) (X0*(X3*X4)+X1*X4*X2) rfl];exact I.mono (I.add (I.mul hx.1 hy.2) (I.mul hx.2 hy.1)) (by omega)
end
section
variable {d:A.T}
def em(z:A.T):(A.ext d).T:=(z,0)
def br(p:(A.ext d).T):(A.ext d).T:=(p.1, -p.2)
def nr(p:(A.ext d).T):A.T:=p.1*p.1-p.2*p.2*d
theorem aY(x y:A.T):em (d:=d) (x*y)=em x*em y:=ap (by
 show x*y=x*y+0*0*d;rw[Rg.zero_mul,Rg.zero_mul,Rg.add_zero]) (by
 show(0:A.T)=x*0+0*y
 rw[Rg.mul_zero,Rg.zero_mul,Rg.add_zero])
theorem mq:em (d:=d) (1:A.T)=1:=rfl
theorem Ax(p:(A.ext d).T):em (nr p)=p*br p:=ap (by
 show p.1*p.1-p.2*p.2*d=p.1*p.1+p.2* -p.2*d;exact Rg.bJ [p.1,p.2,d] (X0*X0-X1*X1*X2) (X0*X0+X1* -X1*X2) rfl) (by
 show(0:A.T)=p.1* -p.2+p.2*p.1
 exact Rg.bJ [p.1,p.2] 0 (X0* -X1+X1*X0) rfl)
theorem uX(p:(A.ext d).T)(z:A.T):nr (p*em z)=nr p*(z*z):=by show(p.1*z+p.2*0*d)*(p.1*z+p.2*0*d) -(p.1*0+p.2*z)*(p.1*0+p.2*z)*d=(p.1*p.1-p.2*p.2*d)*(z*z);exact Rg.bJ [p.1,p.2,d,z] ((X0*X3+X1*0*X2)*(X0*X3+X1*0*X2) -(X0*0+X1*X3)*(X0*0+X1*X3)*X2) ((X0*X0-X1*X1*X2)*(X3*X3)) rfl
theorem Ha(p:(A.ext d).T)(z:A.T):br (p*em z)=br p*em z:=ap (by
 show p.1*z+p.2*0*d=p.1*z+ -p.2*0*d;exact Rg.bJ [p.1,p.2,d,z] (X0*X3+X1*0*X2) (X0*X3+ -X1*0*X2) rfl) (by
 show -(p.1*0+p.2*z)=p.1*0+ -p.2*z
 exact Rg.bJ [p.1,p.2,z] (-(X0*0+X1*X2)) (X0*0+ -X1*X2) rfl)
theorem gq(p:(A.ext d).T)(z:A.T):(p*em z).1=p.1*z:=by show p.1*z+p.2*0*d=p.1*z;exact Rg.bJ [p.1,p.2,d,z] (X0*X3+X1*0*X2) (X0*X3) rfl
theorem mj(p:(A.ext d).T)(z:A.T):(p*em z).2=p.2*z:=by show p.1*0+p.2*z=p.2*z;exact Rg.bJ [p.1,p.2,z] (X0*0+X1*X2) (X1*X2) rfl
structure IP (d:A.T) where
 a:IR A
 p:IR (A.ext d)
 of: ∀{X:Nat} {z:A.T},a.Z X z→p.Z X (em z)
 fst: ∀{X:Nat} {z:(A.ext d).T},p.Z X z→a.Z X z.1
 br: ∀{X:Nat} {z:(A.ext d).T},p.Z X z→p.Z X (br z)
 cc:a.c≤p.c
def IR.U(I:IR R)(X:Nat)(z:R.T):Prop:=I.Z X z∧ ∃u,z*u=1
theorem IR.U.mul{I:IR R}{x y:R.T}(hx:I.U X x)(hy:I.U Y y):I.U (X+Y+I.c) (x*y):=by obtain⟨h1,u,hu⟩:=hx;obtain⟨h2,w,hw⟩:=hy;exact⟨I.mul h1 h2,u*w,by rw[show x*y*(u*w)=x*u*(y*w)from Rg.bJ [x,y,u,w] (X0*X1*(X2*X3)) (X0*X2*(X1*X3)) rfl,hu,hw,Rg.mul_one]⟩
theorem IR.U.mono{I:IR R}{x:R.T}(hx:I.U X x)(h:X≤Y):I.U Y x:=⟨I.mono hx.1 h,hx.2⟩
variable (I:IP d)
def iS(X N:Nat)(e:Nat→A.T)(m:Nat→(A.ext d).T):Prop:= ∃D,I.a.U X D∧ ∀j,j<N→I.p.Z X (m j*em (D*e j))
def jm(X:Nat)(z:(A.ext d).T):Prop:= ∃D,I.a.U X D∧I.p.Z X (z*em D)
def pD(X N k:Nat)(e:Nat→A.T)(m:Nat→(A.ext d).T):Prop:= ∃D,I.a.U X D∧ ∀j,j<N→ ∃w,I.p.Z X w∧m j*em (D*e j)=em (e k)*w
def Ef(P J:(A.ext d).T):Prop:=(∃w,nr P*w=1∧J=br P*em w)∨ ∃w,(P.1+P.1)*w=1∧J=em w
variable {I}
theorem iS.mono{e:Nat→A.T}{m:Nat→(A.ext d).T}(h:iS I X N e m)(hx:X≤Y):iS I Y N e m:=by obtain⟨D,h1,h2⟩:=h;exact⟨D,h1.mono hx,fun j hj=>I.p.mono (h2 j hj) hx⟩
theorem jm.mono{z:(A.ext d).T}(h:jm I X z)(hx:X≤Y):jm I Y z:=by obtain⟨D,h1,h2⟩:=h;exact⟨D,h1.mono hx,I.p.mono h2 hx⟩
theorem pD.mono{e:Nat→A.T}{m:Nat→(A.ext d).T}(h:pD I X N k e m)(hx:X≤Y):pD I Y N k e m:=by
 obtain⟨D,h1,h2⟩:=h
 exact⟨D,h1.mono hx,fun j hj=>by
  obtain⟨w,h3,h4⟩:=h2 j hj
  exact⟨w,I.p.mono h3 hx,h4⟩⟩
theorem jm.mul{x y:(A.ext d).T}(hx:jm I X x)(hy:jm I Y y):jm I (X+Y+I.p.c) (x*y):=by obtain⟨D,h1,h2⟩:=hx;obtain⟨E,h3,h4⟩:=hy;have:=I.cc;refine⟨D*E,(h1.mul h3).mono (by omega),?_⟩;rw[aY,show x*y*(em D*em E)=x*em D*(y*em E)from Rg.bJ [x,y,em D,em E] (X0*X1*(X2*X3)) (X0*X2*(X1*X3)) rfl];exact I.p.mul h2 h4
theorem iS.Qd{e:Nat→A.T}{m:Nat→(A.ext d).T}(h:iS I X N e m)(hj:j<N)(he:I.a.U Xe (e j)):jm I (X+Xe+I.a.c) (m j):=by obtain⟨D,h1,h2⟩:=h;exact⟨D*e j,h1.mul he,I.p.mono (h2 j hj) (by omega)⟩
theorem iS.norm{e:Nat→A.T}{m:Nat→(A.ext d).T}(h:iS I X N e m)(hk:k<N)(he: ∃u,e k*u=1){J:(A.ext d).T}(hJ:Ef (m k) J):pD I (X+X+I.p.c+1) N k e (fun j=>m j*J):=by
 obtain⟨D,⟨h1,u,hu⟩,h2⟩:=h;obtain⟨f,hf⟩:=he;have hp:=h2 k hk;have hc:=I.cc;rcases hJ with⟨w,hw,rfl⟩|⟨w,hw,rfl⟩
 ·have hn:I.a.Z (X+X+I.p.c) (nr (m k*em (D*e k))):=by
   have:=I.fst (I.p.mul hp (I.br hp))
   rwa [←Ax]at this
  refine⟨nr (m k*em (D*e k)),⟨I.a.mono hn (by omega),w*(u*f*(u*f)),?_⟩,fun j hj=>⟨m j*em (D*e j)*br (m k*em (D*e k)),I.p.mono (I.p.mul (h2 j hj) (I.br hp)) (by omega),?_⟩⟩
  ·rw[uX,show nr (m k)*(D*e k*(D*e k))*(w*(u*f*(u*f)))=nr (m k)*w*(D*u*(D*u))*(e k*f*(e k*f))from Rg.bJ [nr (m k),D,e k,w,u,f] (X0*(X1*X2*(X1*X2))*(X3*(X4*X5*(X4*X5)))) (X0*X3*(X1*X4*(X1*X4))*(X2*X5*(X2*X5))) rfl,hw,hu,hf,Rg.mul_one,Rg.mul_one,Rg.mul_one]
  ·rw[uX,Ha,aY (nr (m k)*_),aY (nr (m k)),aY (D*e k),aY D,aY D];have hw':em (d:=d) (nr (m k))*em w=1:=by rw[←aY,hw,mq]
   rw[show m j*(br (m k)*em w)*(em (nr (m k))*(em D*em (e k)*(em D*em (e k)))*em (e j))=m j*br (m k)*(em (nr (m k))*em w)*(em D*em (e k)*(em D*em (e k)))*em (e j)from Rg.bJ [m j,br (m k),em w,em (nr (m k)),em D,em (e k),em (e j)] (X0*(X1*X2)*(X3*(X4*X5*(X4*X5))*X6)) (X0*X1*(X3*X2)*(X4*X5*(X4*X5))*X6) rfl,hw',Rg.mul_one];exact Rg.bJ [m j,br (m k),em D,em (e k),em (e j)] (X0*X1*(X2*X3*(X2*X3))*X4) (X3*(X0*(X2*X4)*(X1*(X2*X3)))) rfl
 ·have e1:(m k*em (D*e k)).1+(m k*em (D*e k)).1=((m k).1+(m k).1)*(D*e k):=by rw[gq,Rg.add_mul]
  refine⟨(m k*em (D*e k)).1+(m k*em (D*e k)).1,⟨I.a.mono (I.a.add (I.fst hp) (I.fst hp)) (by omega),w*(u*f),?_⟩,fun j hj=>⟨m j*em (D*e j),I.p.mono (h2 j hj) (by omega),?_⟩⟩
  ·rw[e1,show((m k).1+(m k).1)*(D*e k)*(w*(u*f))=((m k).1+(m k).1)*w*(D*u)*(e k*f)from Rg.bJ [(m k).1+(m k).1,D,e k,w,u,f] (X0*(X1*X2)*(X3*(X4*X5))) (X0*X3*(X1*X4)*(X2*X5)) rfl,hw,hu,hf,Rg.mul_one,Rg.mul_one]
  ·rw[e1,aY (((m k).1+(m k).1)*_),aY ((m k).1+(m k).1),aY D,aY D];have hw':em (d:=d) ((m k).1+(m k).1)*em w=1:=by rw[←aY,hw,mq]
   rw[show m j*em w*(em ((m k).1+(m k).1)*(em D*em (e k))*em (e j))=m j*(em ((m k).1+(m k).1)*em w)*(em D*em (e k))*em (e j)from Rg.bJ [m j,em w,em ((m k).1+(m k).1),em D,em (e k),em (e j)] (X0*X1*(X2*(X3*X4)*X5)) (X0*(X2*X1)*(X3*X4)*X5) rfl,hw',Rg.mul_one];exact Rg.bJ [m j,em D,em (e k),em (e j)] (X0*(X1*X2)*X3) (X2*(X0*(X1*X3))) rfl
theorem iS.inv{e:Nat→A.T}{m:Nat→(A.ext d).T}(h:iS I X N e m)(hk:k<N)(he:I.a.U Xe (e k)){J:(A.ext d).T}(hJ:Ef (m k) J):jm I (X+X+Xe+I.p.c+I.p.c+1) J:=by
 obtain⟨D,⟨h1,u,hu⟩,h2⟩:=h;obtain⟨g1,f,hf⟩:=he;have hp:=h2 k hk;have hc:=I.cc;rcases hJ with⟨w,hw,rfl⟩|⟨w,hw,rfl⟩
 ·have hn:I.a.Z (X+X+I.p.c) (nr (m k*em (D*e k))):=by
   have:=I.fst (I.p.mul hp (I.br hp))
   rwa [←Ax]at this
  refine⟨nr (m k*em (D*e k)),⟨I.a.mono hn (by omega),w*(u*f*(u*f)),?_⟩,?_⟩
  ·rw[uX,show nr (m k)*(D*e k*(D*e k))*(w*(u*f*(u*f)))=nr (m k)*w*(D*u*(D*u))*(e k*f*(e k*f))from Rg.bJ [nr (m k),D,e k,w,u,f] (X0*(X1*X2*(X1*X2))*(X3*(X4*X5*(X4*X5)))) (X0*X3*(X1*X4*(X1*X4))*(X2*X5*(X2*X5))) rfl,hw,hu,hf,Rg.mul_one,Rg.mul_one,Rg.mul_one]
  ·have hw':em (d:=d) (nr (m k))*em w=1:=by rw[←aY,hw,mq]
   have e2:br (m k)*em w*em (nr (m k*em (D*e k)))=br (m k*em (D*e k))*em (D*e k):=by rw[uX,Ha,aY (nr (m k)),aY (D*e k),show br (m k)*em w*(em (nr (m k))*(em (D*e k)*em (D*e k)))=em (nr (m k))*em w*(br (m k)*em (D*e k)*em (D*e k))from Rg.bJ [br (m k),em w,em (nr (m k)),em (D*e k)] (X0*X1*(X2*(X3*X3))) (X2*X1*(X0*X3*X3)) rfl,hw',Rg.one_mul]
   rw[e2];exact I.p.mono (I.p.mul (I.br hp) (I.of (I.a.mul h1 g1))) (by omega)
 ·have e1:(m k*em (D*e k)).1+(m k*em (D*e k)).1=((m k).1+(m k).1)*(D*e k):=by rw[gq,Rg.add_mul]
  refine⟨(m k*em (D*e k)).1+(m k*em (D*e k)).1,⟨I.a.mono (I.a.add (I.fst hp) (I.fst hp)) (by omega),w*(u*f),?_⟩,?_⟩
  ·rw[e1,show((m k).1+(m k).1)*(D*e k)*(w*(u*f))=((m k).1+(m k).1)*w*(D*u)*(e k*f)from Rg.bJ [(m k).1+(m k).1,D,e k,w,u,f] (X0*(X1*X2)*(X3*(X4*X5))) (X0*X3*(X1*X4)*(X2*X5)) rfl,hw,hu,hf,Rg.mul_one,Rg.mul_one]
  ·rw[e1,←aY,show w*(((m k).1+(m k).1)*(D*e k))=((m k).1+(m k).1)*w*(D*e k)from Rg.bJ [(m k).1+(m k).1,D,e k,w] (X3*(X0*(X1*X2))) (X0*X3*(X1*X2)) rfl,hw,Rg.one_mul];exact I.p.mono (I.of (I.a.mul h1 g1)) (by omega)
theorem pD.row{e:Nat→A.T}{m:Nat→(A.ext d).T}(h:pD I X N k e m)(he:I.a.U Xe (e k)):iS I (X+Xe+I.p.c) N e m:=by obtain⟨D,h1,h2⟩:=h;refine⟨D,h1.mono (by omega),fun j hj=>?_⟩;obtain⟨w,h3,h4⟩:=h2 j hj;rw[h4];exact I.p.mono (I.p.mul (I.of he.1) h3) (by omega)
theorem iS.take{e:Nat→A.T}{m n:Nat→(A.ext d).T}(h:iS I X N e m)(hk:k<N)(hn:pD I Y N k e n):iS I (X+Y+I.p.c+1) N e (fun j=>m j-m k*n j):=by obtain⟨D,h1,h2⟩:=h;obtain⟨E,h3,h4⟩:=hn;have hc:=I.cc;refine⟨D*E,(h1.mul h3).mono (by omega),fun j hj=>?_⟩;obtain⟨w,h5,h6⟩:=h4 j hj;have h7:=h2 k hk;rw[aY]at h6 h7;have h8:=h2 j hj;rw[aY]at h8;rw[aY (D*E),aY D,show(m j-m k*n j)*(em D*em E*em (e j))=m j*(em D*em (e j))*em E+ -(m k*em D*(n j*(em E*em (e j))))from Rg.bJ [m j,m k,n j,em D,em E,em (e j)] ((X0-X1*X2)*(X3*X4*X5)) (X0*(X3*X5)*X4+ -(X1*X3*(X2*(X4*X5)))) rfl,h6,show m k*em D*(em (e k)*w)=m k*(em D*em (e k))*w from Rg.bJ [m k,em D,em (e k),w] (X0*X1*(X2*X3)) (X0*(X1*X2)*X3) rfl];exact I.p.add (I.p.mul h8 (I.of h3.1))<|I.p.neg<|I.p.mul h7 h5
end
section
variable {d d':A.T} {I:IP d} {I':IP d'}
def Mm(a:IR A)(c X:Nat)(ek:A.T)(P:(A.ext d').T):Prop:= ∃D,a.U X D∧a.Z (X+X+c) (nr (P*em (D*ek)))∧a.Z X (P*em (D*ek)).1
theorem iS.Ls{e:Nat→A.T}{m:Nat→(A.ext d').T}(h:iS I' X N e m)(hk:k<N):Mm I'.a I'.p.c X (e k) (m k):=by obtain⟨D,h1,h2⟩:=h;have hp:=h2 k hk;have:=I'.fst (I'.p.mul hp (I'.br hp));rw[←Ax]at this;exact⟨D,h1,this,I'.fst hp⟩
def Eg(P':(A.ext d').T)(P J:(A.ext d).T):Prop:=Ef P J∨(∃w,nr P'*w=1∧J=br P*em w)∨(∃w,(P'.1+P'.1)*w=1∧J=em w)∨ ∃w,P'.1*w=1∧J=em w
theorem iS.OM{e:Nat→A.T}{m:Nat→(A.ext d).T}{P':(A.ext d').T}(h:iS I X N e m)(hk:k<N)(he: ∃u,e k*u=1)(h':Mm I.a c' X' (e k) P'){J:(A.ext d).T}(hJ:Eg P' (m k) J)(hk1:c'+I.a.c+I.a.c≤kk)(hk2:I.p.c+I.p.c+I.a.c≤kk):pD I (X+X+X'+X'+kk+1) N k e (fun j=>m j*J):=by
 rcases hJ with hJ|hJ
 ·exact(h.norm hk he hJ).mono (by omega)
 obtain⟨D,⟨h1,u,hu⟩,h2⟩:=h;obtain⟨E,⟨h3,v,hv⟩,h4,h5⟩:=h';obtain⟨f,hf⟩:=he;have hp:=h2 k hk;have hc:=I.cc
 have lin: ∀(q w:A.T),q*w=1→I.a.Z (X'+1) (q*(E*e k))→J=em w→pD I (X+X+X'+X'+kk+1) N k e (fun j=>m j*J):=fun q w hw hz hJ=>by
  subst hJ;refine⟨D*(q*(E*e k)),⟨I.a.mono (I.a.mul h1 hz) (by omega),u*(w*(v*f)),?_⟩,fun j hj=>⟨m j*em (D*e j)*em E,I.p.mono (I.p.mul (h2 j hj) (I.of h3)) (by omega),?_⟩⟩
  ·rw[show D*(q*(E*e k))*(u*(w*(v*f)))=q*w*(D*u)*(E*v)*(e k*f)from Rg.bJ [D,q,E,e k,u,w,v,f] (X0*(X1*(X2*X3))*(X4*(X5*(X6*X7)))) (X1*X5*(X0*X4)*(X2*X6)*(X3*X7)) rfl,hw,hu,hv,hf,Rg.mul_one,Rg.mul_one,Rg.mul_one]
  ·have hw':em (d:=d) q*em w=1:=by rw[←aY,hw,mq]
   rw[aY (D*_),aY D,aY q,aY E,aY D,show m j*em w*(em D*(em q*(em E*em (e k)))*em (e j))=em q*em w*(m j*em D*em E*em (e k)*em (e j))from Rg.bJ [m j,em w,em D,em q,em E,em (e k),em (e j)] (X0*X1*(X2*(X3*(X4*X5))*X6)) (X3*X1*(X0*X2*X4*X5*X6)) rfl,hw',Rg.one_mul];exact Rg.bJ [m j,em D,em E,em (e k),em (e j)] (X0*X1*X2*X3*X4) (X3*(X0*(X1*X4)*X2)) rfl
 rcases hJ with⟨w,hw,rfl⟩|⟨w,hw,hJ⟩|⟨w,hw,hJ⟩
 ·refine⟨D*D*nr (P'*em (E*e k)),⟨I.a.mono (I.a.mul (I.a.mul h1 h1) h4) (by omega),u*u*(w*(v*f*(v*f))),?_⟩,fun j hj=>⟨m j*em (D*e j)*br (m k*em (D*e k))*em (E*E),I.p.mono (I.p.mul (I.p.mul (h2 j hj) (I.br hp)) (I.of (I.a.mul h3 h3))) (by omega),?_⟩⟩
  ·rw[uX,show D*D*(nr P'*(E*e k*(E*e k)))*(u*u*(w*(v*f*(v*f))))=nr P'*w*(D*u*(D*u))*(E*v*(E*v))*(e k*f*(e k*f))from Rg.bJ [D,nr P',E,e k,u,w,v,f] (X0*X0*(X1*(X2*X3*(X2*X3)))*(X4*X4*(X5*(X6*X7*(X6*X7))))) (X1*X5*(X0*X4*(X0*X4))*(X2*X6*(X2*X6))*(X3*X7*(X3*X7))) rfl,hw,hu,hv,hf];simp only[Rg.mul_one]
  ·have hw':em (d:=d) (nr P')*em w=1:=by rw[←aY,hw,mq]
   rw[uX,Ha,aY (D*D*_),aY (D*D),aY D D,aY (nr P'),aY (E*e k),aY E (e k),aY D,aY D,aY E E,show m j*(br (m k)*em w)*(em D*em D*(em (nr P')*(em E*em (e k)*(em E*em (e k))))*em (e j))=em (nr P')*em w*(m j*br (m k)*em D*em D*em E*em E*em (e k)*em (e k)*em (e j))from Rg.bJ [m j,br (m k),em w,em D,em (nr P'),em E,em (e k),em (e j)] (X0*(X1*X2)*(X3*X3*(X4*(X5*X6*(X5*X6)))*X7)) (X4*X2*(X0*X1*X3*X3*X5*X5*X6*X6*X7)) rfl,hw',Rg.one_mul];exact Rg.bJ [m j,br (m k),em D,em E,em (e k),em (e j)] (X0*X1*X2*X2*X3*X3*X4*X4*X5) (X4*(X0*(X2*X5)*(X1*(X2*X4))*(X3*X3))) rfl
 ·refine lin (P'.1+P'.1) w hw ?_ hJ;rw[show(P'.1+P'.1)*(E*e k)=(P'*em (E*e k)).1+(P'*em (E*e k)).1 by rw[gq,Rg.add_mul]];exact I.a.add h5 h5
 ·refine lin P'.1 w hw ?_ hJ;rw[←gq];exact I.a.mono h5 (by omega)
theorem iS.P7{e:Nat→A.T}{m:Nat→(A.ext d).T}{P':(A.ext d').T}(h:iS I X N e m)(hk:k<N)(he:I.a.U Xe (e k))(h':Mm I.a c' X' (e k) P'){J:(A.ext d).T}(hJ:Eg P' (m k) J)(hk1:c'+I.a.c+I.a.c≤kk)(hk2:I.p.c+I.p.c+I.a.c≤kk):jm I (X+X+X'+X'+Xe+kk+I.p.c+1) J:=by
 rcases hJ with hJ|hJ
 ·exact(h.inv hk he hJ).mono (by omega)
 obtain⟨D,⟨h1,u,hu⟩,h2⟩:=h;obtain⟨E,⟨h3,v,hv⟩,h4,h5⟩:=h';obtain⟨g1,f,hf⟩:=he;have hp:=h2 k hk;have hc:=I.cc
 have lin: ∀(q w:A.T),q*w=1→I.a.Z (X'+1) (q*(E*e k))→J=em w→jm I (X+X+X'+X'+Xe+kk+I.p.c+1) J:=fun q w hw hz hJ=>by
  subst hJ;refine⟨q*(E*e k),⟨I.a.mono hz (by omega),w*(v*f),?_⟩,?_⟩
  ·rw[show q*(E*e k)*(w*(v*f))=q*w*(E*v)*(e k*f)from Rg.bJ [q,E,e k,w,v,f] (X0*(X1*X2)*(X3*(X4*X5))) (X0*X3*(X1*X4)*(X2*X5)) rfl,hw,hv,hf,Rg.mul_one,Rg.mul_one]
  ·rw[←aY,show w*(q*(E*e k))=q*w*(E*e k)from Rg.bJ [q,E,e k,w] (X3*(X0*(X1*X2))) (X0*X3*(X1*X2)) rfl,hw,Rg.one_mul];exact I.p.mono (I.of (I.a.mul h3 g1)) (by omega)
 rcases hJ with⟨w,hw,rfl⟩|⟨w,hw,hJ⟩|⟨w,hw,hJ⟩
 ·refine⟨D*nr (P'*em (E*e k)),⟨I.a.mono (I.a.mul h1 h4) (by omega),u*(w*(v*f*(v*f))),?_⟩,?_⟩
  ·rw[uX,show D*(nr P'*(E*e k*(E*e k)))*(u*(w*(v*f*(v*f))))=nr P'*w*(D*u)*(E*v*(E*v))*(e k*f*(e k*f))from Rg.bJ [D,nr P',E,e k,u,w,v,f] (X0*(X1*(X2*X3*(X2*X3)))*(X4*(X5*(X6*X7*(X6*X7))))) (X1*X5*(X0*X4)*(X2*X6*(X2*X6))*(X3*X7*(X3*X7))) rfl,hw,hu,hv,hf];simp only[Rg.mul_one]
  ·have hw':em (d:=d) (nr P')*em w=1:=by rw[←aY,hw,mq]
   have e2:br (m k)*em w*em (D*nr (P'*em (E*e k)))=br (m k*em (D*e k))*em (E*E*e k):=by rw[uX,Ha,aY D,aY D,aY (nr P'),aY (E*e k),aY E (e k),aY (E*E),aY E E,show br (m k)*em w*(em D*(em (nr P')*(em E*em (e k)*(em E*em (e k)))))=em (nr P')*em w*(br (m k)*em D*em E*em E*em (e k)*em (e k))from Rg.bJ [br (m k),em w,em D,em (nr P'),em E,em (e k)] (X0*X1*(X2*(X3*(X4*X5*(X4*X5))))) (X3*X1*(X0*X2*X4*X4*X5*X5)) rfl,hw',Rg.one_mul];exact Rg.bJ [br (m k),em D,em E,em (e k)] (X0*X1*X2*X2*X3*X3) (X0*(X1*X3)*(X2*X2*X3)) rfl
   rw[e2];exact I.p.mono (I.p.mul (I.br hp) (I.of (I.a.mul (I.a.mul h3 h3) g1))) (by omega)
 ·refine lin (P'.1+P'.1) w hw ?_ hJ;rw[show(P'.1+P'.1)*(E*e k)=(P'*em (E*e k)).1+(P'*em (E*e k)).1 by rw[gq,Rg.add_mul]];exact I.a.add h5 h5
 ·refine lin P'.1 w hw ?_ hJ;rw[←gq];exact I.a.mono h5 (by omega)
end
structure FH (v:List NQ) {A:Rg} (d:A.T) where
 φ:NQ→(A.ext d).T
 sub: ∀{a b:NQ},ay v.length a→ay v.length b→φ (fq a b)=φ a-φ b
 mul: ∀{a b:NQ},ay v.length a→ay v.length b→φ (et v a b)=φ a*φ b
 div: ∀{a b:NQ},ay v.length a→ay v.length b→φ (vP v a b)=φ a*φ (bN v.length v b)
 one:φ [1]=1
section
variable {d:A.T} (I:IP d) (F:FH v d)
structure ov (X N:Nat) (e:Nat→A.T) (s:kq):Prop where
 r: ∀i,i<s.rows.length→iS I X N e (fun j=>F.φ (a7 s.rows i j))
 d:jm I X (F.φ s.iN)
variable {I F}
theorem ov.bR{X m N c k:Nat}{e:Nat→A.T}{s:kq}(R:qF v m N k s)(hs:ov I F X N e s)(h:atR v s c<s.rows.length): ∀i,i<s.rows.length→iS I X N e (fun j=>F.φ (a7 (bR v s c) i j)):=fun i hi=>by
 have hl:=R.len;have h1:=(eQ v s c (by have:=R.cm;omega)).1
 have key: ∃i',i'<s.rows.length∧(Lift.bR v s c).getD i []=s.rows.getD i' []:=by
  unfold Lift.bR;split
  ·exact⟨i,hi,rfl⟩
  ·unfold CF;rw[dc];split
   ·exact⟨_,h,rfl⟩
   ·rw[dc];split
    ·exact⟨s.cols.length,by omega,rfl⟩
    ·exact⟨i,hi,rfl⟩
 obtain⟨i',hi',e'⟩:=key;have:=hs.r i' hi';unfold a7 at this ⊢;rw[e'];exact this
theorem ov.step{e:Nat→A.T}{s:kq}(V:qE v)(R:qF v m N c s)(hs:ov I F X N e s)(hc:c<N)(he:I.a.U Xe (e c))(h:atR v s c<s.rows.length)
  (hN:pD I Y N c e (fun j=>F.φ (a7 (Lift.bR v s c) s.cols.length j)*F.φ (bN v.length v (pR v s c)))) (h1:X+Y+I.p.c+1≤X') (h2:Y+Xe+I.p.c≤X') (h3:X+X+Xe+I.a.c+I.p.c≤X'):
  ov I F X' N e (b7 v s c)∧ ∀i,i<s.rows.length→iS I X' N e (fun j=>F.φ (a7 (eR v s c) i j)):=by
 have hl:=R.len;have hm:=R.cm;have ha:=(eQ v s c (by omega)).1;obtain⟨b1,b2,b3⟩:=pw R h;obtain⟨e1,e2,e3⟩:=yl V R h;have hb:=hs.bR R h;have hr:s.cols.length<s.rows.length:=by omega
 have hnr: ∀j,j<N→F.φ (a7 (eR v s c) s.cols.length j)=F.φ (a7 (Lift.bR v s c) s.cols.length j)*F.φ (bN v.length v (pR v s c)):=fun j hj=>by unfold eR a7;rw[dc,ah ⟨rfl,by omega⟩,sR v _ _ (by rw[b2 _ (by omega)];exact hj)];exact F.div (b3 s.cols.length j)<|b3 s.cols.length c
 have hNe:pD I Y N c e (fun j=>F.φ (a7 (eR v s c) s.cols.length j)):=by obtain⟨D,d1,d2⟩:=hN;exact⟨D,d1,fun j hj=>by dsimp only;rw[hnr j hj];exact d2 j hj⟩
 have heR: ∀i,i<s.rows.length→i≠s.cols.length→iS I X N e (fun j=>F.φ (a7 (eR v s c) i j)):=fun i hi hne=>by
  have:=hb i hi
  have g:(eR v s c).getD i []=(Lift.bR v s c).getD i []:=by unfold eR;rw[dc,af (fun g=>hne g.1)]
  unfold a7 at this ⊢;rw[g];exact this
 have heA: ∀i,i<s.rows.length→iS I X' N e (fun j=>F.φ (a7 (eR v s c) i j)):=fun i hi=>by
  by_cases hne:i=s.cols.length
  ·rw[hne];exact(hNe.row he).mono h2
  ·exact(heR i hi hne).mono (by omega)
 refine⟨⟨fun i hi=>?_,?_⟩,heA⟩
 ·have hlr:(b7 v s c).rows.length=s.rows.length:=by unfold b7;rw[ah h];show(bS _ _ _ _ _).length=_;rw[ji,e1,hl]
  rw[hlr]at hi
  have hrows:(b7 v s c).rows=bS v (eR v s c) s.cols.length c (eR v s c).length:=by unfold b7;rw[ah h]
  rw[hrows]
  have key: ∀n,n≤(eR v s c).length→ ∀i,i<s.rows.length→iS I X' N e (fun j=>F.φ (a7 (bS v (eR v s c) s.cols.length c n) i j)):=fun n=>by
   induction n with
   |zero=>intro _;exact heA
   |succ n ih =>
    intro hn i hi;have ih:=ih (by omega);unfold bS;split
    ·rename_i hcnd;by_cases hin:i=n
     ·subst hin
      have g0: ∀j,j<N→F.φ (a7 ((bS v (eR v s c) s.cols.length c i).set i (gW v ((bS v (eR v s c) s.cols.length c i).getD i []) ((bS v (eR v s c) s.cols.length c i).getD s.cols.length []) (a7 (bS v (eR v s c) s.cols.length c i) i c))) i j)=F.φ (a7 (eR v s c) i j) -F.φ (a7 (eR v s c) i c)*F.φ (a7 (eR v s c) s.cols.length j):=fun j hj=>by rw[gu v _ _ _ i i (.inl (al _)),gu v _ _ _ i _ (.inr rfl),wq];show F.φ ((((bS v (eR v s c) s.cols.length c i).set i _).getD i []).getD j [])=_;rw[dc,ah ⟨rfl,by rw[ji];omega⟩,mB v _ _ _ (by rw[e2 i (by omega)];exact hj)];show F.φ (fq (a7 (eR v s c) i j) (et v (a7 (eR v s c) i c) (a7 (eR v s c) s.cols.length j)))=_;rw[F.sub (e3 i j) (jd V (e3 i c) (e3 _ j)),F.mul (e3 i c) (e3 _ j)]
      have ht:=(heR i hi hcnd.1).take hc hNe;obtain⟨D,d1,d2⟩:=ht.mono h1;exact⟨D,d1,fun j hj=>by dsimp only;rw[g0 j hj];exact d2 j hj⟩
     ·have:=ih i hi;unfold a7 at this ⊢;rw[dc,af (fun g=>hin g.1)];exact this
    ·exact ih i hi
  exact key _ (al _) i hi
 ·have hdet:(b7 v s c).iN=et v s.iN (pR v s c):=by unfold b7;rw[ah h]
  rw[hdet];show jm I X' (F.φ (et v s.iN (a7 (Lift.bR v s c) s.cols.length c)));rw[F.mul R.iN (b3 _ c)];exact(hs.d.mul ((hb s.cols.length hr).Qd hc he)).mono (by omega)
def fP(K X:Nat):Nat→Nat
 |0=>X
 |p+1=>3*fP K X p+K
theorem MJ(K X:Nat): ∀{p q:Nat},p≤q→fP K X p≤fP K X q:=fun {p q} h=>by
 induction h with
 |refl=>exact al _
 |step _ ih=>exact bn ih (by show _≤3*_+K;omega)
def gP(K X:Nat):Nat→Nat
 |0=>X
 |p+1=>3*gP K X p+2*fP K X p+K
theorem MH(K X:Nat): ∀{p q:Nat},p≤q→gP K X p≤gP K X q:=fun {p q} h=>by
 induction h with
 |refl=>exact al _
 |step _ ih=>exact bn ih (by show _≤3*_+2*_+K;omega)
def FH.Inv(F:FH v d):Prop:= ∀b,ay v.length b→m7 v b≠0→Ef (F.φ b) (F.φ (bN v.length v b))
theorem Jf{s:kq}(R:qF v m N k s)(h:atR v s c<s.rows.length):m7 v (pR v s c)≠0:=by
 have hl:=R.len;have hm:=R.cm;obtain⟨h1,h2,h3,h4⟩:=eQ v s c (by omega);have h5:=h4 h
 have:a7 (Lift.bR v s c) s.cols.length c=a7 s.rows (atR v s c) c:=by
  unfold Lift.bR a7;split
  ·rename_i e;rw[e]
  ·unfold CF;rw[dc,ah ⟨rfl,by rw[cb];omega⟩]
 rw[pR,this];exact h5
theorem zV{s:kq}(h: ¬atR v s c<s.rows.length):b7 v s c=s:=by unfold b7;rw[af h]
theorem zW{s:kq}(h:atR v s c<s.rows.length):(b7 v s c).cols.length=s.cols.length+1:=by unfold b7;rw[ah h];exact e6
theorem ov.red{e:Nat→A.T}{a:cF}(V:qE v)(hI:F.Inv)(hr:cX N a)(hl:qH v.length a)(he: ∀j,j<N→I.a.U Xe (e j))(hx:Xe≤X)(h0:ov I F X N e ⟨a,[],1,[1]⟩)(hK:I.p.c+I.p.c+2≤K): ∀c,c≤N→ov I F (fP K X (aB v a c).cols.length) N e (aB v a c) ∧
  (c<N→atR v (aB v a c) c<(aB v a c).rows.length→ov I F (fP K X ((aB v a c).cols.length+1)) N e (b7 v (aB v a c) c)∧(∀i,i<(aB v a c).rows.length→iS I (fP K X ((aB v a c).cols.length+1)) N e (fun j=>F.φ (a7 (eR v (aB v a c) c) i j)))∧jm I (fP K X ((aB v a c).cols.length+1)) (F.φ (bN v.length v (pR v (aB v a c) c)))):=by
 have hcc:=I.cc
 have st: ∀c,ov I F (fP K X (aB v a c).cols.length) N e (aB v a c)→c<N→atR v (aB v a c) c<(aB v a c).rows.length→ov I F (fP K X ((aB v a c).cols.length+1)) N e (b7 v (aB v a c) c)∧(∀i,i<(aB v a c).rows.length→iS I (fP K X ((aB v a c).cols.length+1)) N e (fun j=>F.φ (a7 (eR v (aB v a c) c) i j)))∧jm I (fP K X ((aB v a c).cols.length+1)) (F.φ (bN v.length v (pR v (aB v a c) c))):=fun c hs hc h=>by have R:=gS V hr hl c;have hlen:=R.len;have hm:=R.cm;have ha:=(eQ v (aB v a c) c (by omega)).1;obtain⟨b1,b2,b3⟩:=pw R h;have hb:=hs.bR R h (aB v a c).cols.length (by omega);have hJ:=hI _ (b3 _ c) (Jf R h);have hX:X≤fP K X (aB v a c).cols.length:=MJ K X (am _);have hn:=hb.norm hc (he c hc).2 hJ;have hi:=hb.inv hc (he c hc) hJ;have ef:fP K X ((aB v a c).cols.length+1)=3*fP K X (aB v a c).cols.length+K:=rfl;generalize fP K X ((aB v a c).cols.length+1)=Z at *;generalize fP K X (aB v a c).cols.length=Y at *;obtain⟨s1,s2⟩:=ov.step V R hs hc (he c hc) h hn (X':=Z) (by omega) (by omega) (by omega);exact⟨s1,s2,hi.mono (by omega)⟩
 have main: ∀c,c≤N→ov I F (fP K X (aB v a c).cols.length) N e (aB v a c):=fun c=>by
  induction c with
  |zero=>intro _;exact h0
  |succ c ih =>
   intro hc;have ih:=ih (by omega);show ov I F (fP K X (b7 v (aB v a c) c).cols.length) N e (b7 v (aB v a c) c);by_cases h:atR v (aB v a c) c<(aB v a c).rows.length
   ·rw[zW h];exact(st c ih (by omega) h).1
   ·rw[zV h];exact ih
 exact fun c hc=>⟨main c hc,fun h1 h2=>st c (main c hc) h1 h2⟩
end
section
variable {d d':A.T} {I:IP d} {I':IP d'} {F:FH v d} {F':FH v d'}
def FH.Eg(F':FH v d')(F:FH v d):Prop:= ∀b,ay v.length b→m7 v b≠0→Lift.Eg (F'.φ b) (F.φ b) (F.φ (bN v.length v b))
theorem ov.PT{e:Nat→A.T}{a:cF}(V:qE v)(ha':I'.a=I.a)(hI':F'.Inv)(hI:FH.Eg F' F)(hr:cX N a)(hl:qH v.length a)(he: ∀j,j<N→I.a.U Xe (e j))(hx:Xe≤X)(h0':ov I' F' X N e ⟨a,[],1,[1]⟩)(h0:ov I F X N e ⟨a,[],1,[1]⟩)(hK':I'.p.c+I'.p.c+2≤K)(hk1:I'.p.c+I.a.c+I.a.c≤kk)(hk2:I.p.c+I.p.c+I.a.c≤kk)(hK:kk+I.p.c+2≤K): ∀c,c≤N→ov I F (gP K X (aB v a c).cols.length) N e (aB v a c) ∧
  (c<N→atR v (aB v a c) c<(aB v a c).rows.length→ov I F (gP K X ((aB v a c).cols.length+1)) N e (b7 v (aB v a c) c)∧(∀i,i<(aB v a c).rows.length→iS I (gP K X ((aB v a c).cols.length+1)) N e (fun j=>F.φ (a7 (eR v (aB v a c) c) i j)))∧jm I (gP K X ((aB v a c).cols.length+1)) (F.φ (bN v.length v (pR v (aB v a c) c)))):=by
 have hcc:=I.cc;have plus:=ov.red (K:=K) V hI' hr hl (fun j hj=>by rw[ha'];exact he j hj) hx h0' hK'
 have st: ∀c,ov I F (gP K X (aB v a c).cols.length) N e (aB v a c)→c<N→atR v (aB v a c) c<(aB v a c).rows.length→ov I F (gP K X ((aB v a c).cols.length+1)) N e (b7 v (aB v a c) c)∧(∀i,i<(aB v a c).rows.length→iS I (gP K X ((aB v a c).cols.length+1)) N e (fun j=>F.φ (a7 (eR v (aB v a c) c) i j)))∧jm I (gP K X ((aB v a c).cols.length+1)) (F.φ (bN v.length v (pR v (aB v a c) c))):=fun c hs hc h=>by
  have R:=gS V hr hl c;have hlen:=R.len;have hm:=R.cm;have ha:=(eQ v (aB v a c) c (by omega)).1;obtain⟨b1,b2,b3⟩:=pw R h;have hb:=hs.bR R h (aB v a c).cols.length (by omega);have hb':=(plus c (by omega)).1.bR R h (aB v a c).cols.length (by omega);have hJ:=hI _ (b3 _ c) (Jf R h);have hX:X≤gP K X (aB v a c).cols.length:=MH K X (am _)
  have hp:Mm I.a I'.p.c (fP K X (aB v a c).cols.length) (e c) (F'.φ (a7 (Lift.bR v (aB v a c) c) (aB v a c).cols.length c)):=by rw[←ha'];exact hb'.Ls hc
  have hn:=hb.OM hc (he c hc).2 hp hJ hk1 hk2;have hi:=hb.P7 hc (he c hc) hp hJ hk1 hk2;have ef:gP K X ((aB v a c).cols.length+1)=3*gP K X (aB v a c).cols.length+2*fP K X (aB v a c).cols.length+K:=rfl;generalize gP K X ((aB v a c).cols.length+1)=Z at *;generalize gP K X (aB v a c).cols.length=Y at *;generalize fP K X (aB v a c).cols.length=Y' at *;obtain⟨s1,s2⟩:=ov.step V R hs hc (he c hc) h hn (X':=Z) (by omega) (by omega) (by omega);exact⟨s1,s2,hi.mono (by omega)⟩
 have main: ∀c,c≤N→ov I F (gP K X (aB v a c).cols.length) N e (aB v a c):=fun c=>by
  induction c with
  |zero=>intro _;exact h0
  |succ c ih =>
   intro hc;have ih:=ih (by omega);show ov I F (gP K X (b7 v (aB v a c) c).cols.length) N e (b7 v (aB v a c) c);by_cases h:atR v (aB v a c) c<(aB v a c).rows.length
   ·rw[zW h];exact(st c ih (by omega) h).1
   ·rw[zV h];exact ih
 exact fun c hc=>⟨main c hc,fun h1 h2=>st c (main c hc) h1 h2⟩
end
def Kg(j:Nat)(z:Cf):Cf:=fun i=>if i<2^j then z i else -z i
def sB(q:Rat):Cf:=fun i=>if i=0 then q else 0
theorem FL(q:Rat):cf [q]=sB q:=funext fun i=>by
 cases i with
 |zero=>rfl
 |succ i=>rfl
theorem zY{l:Nat}{a:NQ}(ha:ay l a)(h:bK j (cf a)):(aq a).length=0∨ ∃i,i≤j∧(aq a).length=2^i:=by
 have hs:=bC ha;have t:=iF ha;rcases hs with e|⟨i,hi,e⟩
 ·exact .inl e
 ·refine .inr ⟨i,?_,e⟩;rcases i with _|i
  ·exact am _
  ·refine fl fun g=>t.two i e fun k hk=>?_;rw[bb ha];exact h k<|bn (bz (by decide) (by omega)) hk
theorem Jx{a:NQ}(h:bK 0 (cf a))(h0:cf a 0=0):cf a=zC:=funext fun i=>by
 by_cases e:i=0
 ·rw[e];exact h0
 ·exact h i (by show 1≤i;omega)
theorem BP(v:List NQ)(l:Nat){a:NQ}(ha:ay l a)(h:bK 0 (cf a))(h0:cf a 0≠0):cf (bN l v a)=sB (1/cf a 0):=by
 have hs:(aq a).length=1:=by
  rcases zY ha h with e|⟨i,hi,e⟩
  ·refine aG ?_ h0;rw[←bb ha,bv.1 e];rfl
  ·obtain rfl:i=0:=by omega
   exact e
 have key: ∀R S N T,cf (ki R S N T (aq a))=sB (1/cf a 0):=fun R S N T=>by
  unfold ki;rw[ah hs,FL]
  congr 2
  rw[←bb ha];rfl
 cases l with
 |zero=>exact key _ _ _ _
 |succ l=>exact key _ _ _ _
theorem DO(hrt:cU v)(hp:oh v)(l:Nat){a:NQ}(ha:ay (l+1) a)(hl:l+1≤v.length)(h:aW v (l+1) (cf a)≠0):
  (bK 0 (cf a)∧cf a 0≠0)∨ ∃j b,j≤l∧(aq a).length=2^(j+1)∧bK (j+1) (cf a)∧ay l b∧aW v l (cf b)≠0∧bK j (cf b) ∧
   ((aW v j (bj v j (cf a))=0∧kM j (cf b) (fun i=>cf a i+cf a i)∧cf (bN (l+1) v a)=cf (bN l v b)) ∨
    (aW v j (bj v j (cf a))≠0∧cf b=bj v j (cf a)∧ ∃J,kM (j+1) J (Kg j (cf a))∧bK (j+1) J∧cf (bN (l+1) v a)=mulC v (l+1) J (cf (bN l v b)))):=by
 have hs:=bC ha;have hc:=bb ha;have ho:=mD ha
 show(bK 0 (cf a)∧cf a 0≠0)∨ ∃j b,j≤l∧(aq a).length=2^(j+1)∧bK (j+1) (cf a)∧ay l b∧aW v l (cf b)≠0∧bK j (cf b) ∧
   ((aW v j (bj v j (cf a))=0∧kM j (cf b) (fun i=>cf a i+cf a i)∧cf (ki (bN l v) (ec l v) (e7 l v) (aT (l+1) v) (aq a))=cf (bN l v b)) ∨
    (aW v j (bj v j (cf a))≠0∧cf b=bj v j (cf a)∧ ∃J,kM (j+1) J (Kg j (cf a))∧bK (j+1) J∧cf (ki (bN l v) (ec l v) (e7 l v) (aT (l+1) v) (aq a))=mulC v (l+1) J (cf (bN l v b))))
 rw[←hc]at h ⊢;generalize aq a=s at *;by_cases h0:s.length=0
 ·rw[bv.1 h0]at h;exact aG (eD v (l+1)) h
 by_cases h1:s.length=1
 ·exact .inl ⟨aV (by rw[h1];exact al _),ho h1⟩
 obtain⟨j,hj,hsl⟩: ∃j,j≤l∧s.length=2^(j+1):=by
  rcases hs with e|⟨i,hi,e⟩
  ·exact aG e h0
  ·rcases i with _|j
   ·exact aG e h1
   ·exact⟨j,by omega,e⟩
 obtain⟨e1,e2,e3⟩:=bt hsl;have hx:ay l (s.take (s.length/2)):=.inr ⟨j,hj,e1⟩;have hn:=nG hj hsl hrt (by omega);have ex:kM j (cf (s.take (s.length/2))) (cf s):=fB _ e3;have ey:cf (s.drop (s.length/2))=bG j (cf s):=jY _ e3
 have lowN:bK j (bj v j (cf s)):=fun i hi=>by unfold bj;rw[a9 v j _ _ i hi,a9 v j _ _ i hi];exact cM
 have ls:bK (j+1) (cf s):=aV (by omega);have lx:bK j (cf (s.take (s.length/2))):=aV (by omega);obtain⟨Tj⟩:=M8 hp j (by omega);have hdj:=hp j (by omega)
 let T:=vv Tj hdj
 rw[bD v ls (by omega)]at h
 have hT:Tj.R.sgn (OR.nr (Tj.of (cf (v.getD j []))) (T.of (cf s)))=aW v j (bj v j (cf s)):=by
  rw[←Tj.sgn]
  congr 1
  show Tj.of (cf s)*Tj.of (cf s) -Tj.of (bG j (cf s))*Tj.of (bG j (cf s))*Tj.of (cf (v.getD j []))=Tj.of (bj v j (cf s));rw[←Tj.mul,←Tj.mul,←Tj.mul,←Tj.sub];rfl
 unfold ki;rw[af h1,cY l hn.1 hrt (by omega),hn.2,bD v lowN hj];by_cases hN:aW v j (bj v j (cf s))=0
 ·rw[ah hN];have hxx:ay l (aS (s.take (s.length/2)) (s.take (s.length/2))):=hx.plus hx;have cxx:cf (aS (s.take (s.length/2)) (s.take (s.length/2)))=fun i=>cf (s.take (s.length/2)) i+cf (s.take (s.length/2)) i:=funext fun i=>eP _ _ i
  have lxx:bK j (cf (aS (s.take (s.length/2)) (s.take (s.length/2)))):=by rw[cxx];exact fun i hi=>by show _+_=(0:Rat);rw[lx i hi];exact eu 0
  have F:Tj.R.sgn (Tj.of (cf s)+Tj.of (cf s))≠0:=by
   have hes:T.R.sgn (T.of (cf s))≠0:=by rw[T.sgn];exact h
   exact(OR.GZ (R:=Tj.R) (d:=Tj.of (cf (v.getD j []))) (by rw[Tj.sgn];exact hdj) hes (by have h5:=hT;rw[hN]at h5;exact h5)).2
  refine .inr ⟨j,_,hj,hsl,ls,hxx,?_,lxx,.inl ⟨hN,fun i hi=>?_,rfl⟩⟩
  ·rw[bD v lxx hj,←Tj.sgn,cxx,Tj.add,Tj.cong _ _ ex];exact F
  ·rw[cxx];show _+_=_;rw[ex i hi]
 ·rw[af hN]
  have hjl:ay (l+1) (dK (s.take (s.length/2)) (aP (s.drop (s.length/2))) (s.length/2)):=.inr ⟨j+1,by omega,by
   rw[dN]
   omega⟩
  have hrl:ay l (bN l v (e7 l v s)):=fg l hn.1 hrt (by omega);have cJ: ∀i,cf (dK (s.take (s.length/2)) (aP (s.drop (s.length/2))) (s.length/2)) i=if i<2^j then cf (s.take (s.length/2)) i else cf (aP (s.drop (s.length/2))) (i-2^j):=fun i=>G9 _ e3 (by rw[cV];omega) i
  have lJ:bK (j+1) (cf (dK (s.take (s.length/2)) (aP (s.drop (s.length/2))) (s.length/2))):=aV (by rw[dN];omega);have ht:=da (l+1) hjl (hrl.mono (ch l)) hrt hl;refine .inr ⟨j,_,hj,hsl,ls,hn.1,?_,by rw[hn.2];exact lowN,.inr ⟨hN,hn.2,_,fun i _=>?_,lJ,ht.2⟩⟩
  ·rw[hn.2,bD v lowN hj];exact hN
  ·rw[cJ];unfold Kg;split
   ·rename_i g;exact ex i g
   ·rename_i g;rw[jl,ey];show -(cf s (2^j+(i-2^j)))=_;rw[show 2^j+(i-2^j)=i by omega]
abbrev QR:Rg:=Lm.toRg
abbrev B1(d0:QR.T):Rg:=QR.ext d0
def Dh(d0:QR.T)(z:Cf):(B1 d0).T:=(z 0,z 1)
def dP(v:List NQ):QR.T:=(v.getD 0 []).getD 0 0
variable {d0 σ:QR.T}
def Q1(q k:(B1 d0).T):Prop:=(∃w,nr q*w=1∧k=br q*em w)∨(nr q=0∧ ∃w,(q.1+q.1)*w=1∧k=em w)
theorem inv_one(hrt:cU v)(hp:oh v)(l:Nat){a:NQ}(ha:ay (l+1) a)(hl:l+1≤v.length)(hlo:bK 1 (cf a))(h:aW v (l+1) (cf a)≠0):Q1 (Dh (dP v) (cf a)) (Dh (dP v) (cf (bN (l+1) v a)))∧bK 1 (cf (bN (l+1) v a)):=by
 have lowr: ∀q,bK 1 (sB q):=fun q i hi=>by have hi:2≤i:=hi;exact af (by omega)
 rcases DO hrt hp l ha hl h with⟨g1,g2⟩|⟨j,b,hj,hsl,ls,hb,hbs,hbl,hcs⟩
 ·rw[BP v (l+1) ha g1 g2];refine⟨.inl ⟨(1/cf a 0*(1/cf a 0):Rat),?_,?_⟩,lowr _⟩
  ·show(cf a 0*cf a 0+ -(cf a 1*cf a 1*(v.getD 0 []).getD 0 0))*(1/cf a 0*(1/cf a 0))=1;rw[g1 1 (by decide)];generalize cf a 0=x at g2;generalize (v.getD 0 []).getD 0 0=y;rw[dn];have:=b8 x g2
   grind
  ·refine ap ?_ ?_
   ·show(1/cf a 0:Rat)=cf a 0*(1/cf a 0*(1/cf a 0))+ -(cf a 1)*0*(v.getD 0 []).getD 0 0;rw[g1 1 (by decide)];generalize cf a 0=x at g2;generalize (v.getD 0 []).getD 0 0=y;rw[dn];have:=b8 x g2
    grind
   ·show(0:Rat)=cf a 0*0+ -(cf a 1)*(1/cf a 0*(1/cf a 0));rw[g1 1 (by decide)]
    grind
 ·obtain rfl:j=0:=by
   rcases zY ha hlo with e|⟨i,hi,e⟩
   ·rw[e]at hsl;exact aG hsl<|Nat.ne_of_lt<|eX (by decide)
   ·rw[e]at hsl;refine fl fun g=>?_;have h1:2^2≤2^(j+1):=bz (by decide) (by omega);have h2:2^i≤2^1:=bz (by decide) hi;omega
  have hb0:cf b 0≠0:=fun g=>hbs (by rw[Jx hbl g];exact eD v l);have hi:=BP v l hb hbl hb0
  have hnr:bj v 0 (cf a) 0=cf a 0*cf a 0-cf a 1*cf a 1*(v.getD 0 []).getD 0 0:=by show(if (0:Nat)=0 then cf a 0*cf a 0 else 0) -(if (0:Nat)=0 then(if (0:Nat)=0 then bG 0 (cf a) 0*bG 0 (cf a) 0 else 0)*cf (v.getD 0 []) 0 else 0)=_;rw[ah rfl,ah rfl,ah rfl];rfl
  have hnq:nr (Dh (dP v) (cf a))=(bj v 0 (cf a) 0:Rat):=by rw[hnr];exact(a0 ..).symm
  rcases hcs with⟨c1,c2,c3⟩|⟨c1,c2,J,c3,c4,c5⟩
  ·rw[c3,hi];have e0:=c2 0 (by decide);refine⟨.inr ⟨by rw[hnq];exact cR.1 c1,(1/cf b 0:Rat),?_,?_⟩,lowr _⟩
   ·show(cf a 0+cf a 0)*_=(1:Rat);rw[←show cf b 0=cf a 0+cf a 0 from e0];rw[dn,gt,b8 _ hb0]
   ·rfl
  ·have hm:cf (bN (l+1) v a)=mulC v 1 J (sB (1/cf b 0)):=by rw[c5,hi,dD v c4 (lowr _) (by omega)]
   refine⟨.inl ⟨(1/cf b 0:Rat),?_,?_⟩,by rw[hm];exact a9 v 1 _ _⟩
   ·rw[hnq,←c2];show(cf b 0*(1/cf b 0):Rat)=1;rw[dn,gt,b8 _ hb0]
   ·rw[hm];have j0:J 0=cf a 0:=c3 0 (by decide);have j1:J 1= -cf a 1:=c3 1 (by decide);refine ap ?_ ?_
    ·show(J 0*(1/cf b 0)+(J 1*0)*(cf (v.getD 0 [])) 0:Rat)=cf a 0*(1/cf b 0)+ -(cf a 1)*0*(v.getD 0 []).getD 0 0;rw[j0,j1];rfl
    ·show(J 0*0+J 1*(1/cf b 0):Rat)=cf a 0*0+ -(cf a 1)*(1/cf b 0);rw[j0,j1]
abbrev B2(d0:QR.T)(β:(B1 d0).T):Rg:=(B1 d0).ext β
def nX(d0:QR.T)(β:(B1 d0).T)(z:Cf):(B2 d0 β).T:=(Dh d0 z,Dh d0 (bG 1 z))
def eg(v:List NQ):(B1 (dP v)).T:=Dh (dP v) (cf (v.getD 1 []))
def fs(s:QR.T)(q:(B1 d0).T):QR.T:=q.1+s*q.2
def Gd(v:List NQ)(q:(B1 (dP v)).T):Int:=aW v 1 (fun i=>if i=0 then q.1 else if i=1 then q.2 else 0)
theorem AX(v:List NQ)(z:Cf):Gd v (Dh (dP v) z)=aW v 1 z:=lp v 1 fun i hi=>by
 have hi:i<2:=hi;rcases i with _|_|i
 ·rfl
 ·rfl
 ·omega
section
variable (V:fC m v)
include V
theorem Gp(h2:2≤v.length)(x y:Cf):nX (dP v) (eg v) (mulC v 2 x y)=nX (dP v) (eg v) x*nX (dP v) (eg v) y :=
 (vv (vv (Cy v) (V.pos 0 (by omega))) (V.pos 1 (by omega))).mul x y
theorem Lq(h1:1≤v.length)(x y:Cf):Dh (dP v) (mulC v 1 x y)=Dh (dP v) x*Dh (dP v) y :=
 (vv (Cy v) (V.pos 0 (by omega))).mul x y
theorem Dg(h2:2≤v.length)(z:Cf):Dh (dP v) (bj v 1 z)=nr (nX (dP v) (eg v) z):=by have T:=vv (Cy v) (V.pos 0 (by omega));have h:=(vv (Cy v) (V.pos 0 (by omega))).sub (mulC v 1 z z) (mulC v 1 (mulC v 1 (bG 1 z) (bG 1 z)) (cf (v.getD 1 [])));rw[(vv (Cy v) (V.pos 0 (by omega))).mul,(vv (Cy v) (V.pos 0 (by omega))).mul,(vv (Cy v) (V.pos 0 (by omega))).mul]at h;exact h
theorem BO(h2:2≤v.length){a:NQ}(ha:ay 2 a)(h:aW v 2 (cf a)≠0):
  ((nX (dP v) (eg v) (cf a)).2=0∧(nX (dP v) (eg v) (cf (bN 2 v a))).2=0∧Gd v (nX (dP v) (eg v) (cf a)).1≠0∧Q1 (nX (dP v) (eg v) (cf a)).1 (nX (dP v) (eg v) (cf (bN 2 v a))).1) ∨
  (Gd v (nr (nX (dP v) (eg v) (cf a)))≠0∧ ∃k,Q1 (nr (nX (dP v) (eg v) (cf a))) k∧nX (dP v) (eg v) (cf (bN 2 v a))=br (nX (dP v) (eg v) (cf a))*em k) ∨
  (Gd v (nr (nX (dP v) (eg v) (cf a)))=0∧Gd v ((nX (dP v) (eg v) (cf a)).1+(nX (dP v) (eg v) (cf a)).1)≠0∧ ∃k,Q1 ((nX (dP v) (eg v) (cf a)).1+(nX (dP v) (eg v) (cf a)).1) k∧nX (dP v) (eg v) (cf (bN 2 v a))=em k):=by
 have u9: ∀{z:Cf},bK 1 z→Dh (dP v) (bG 1 z)=0:=fun {z} hz=>ap (hz 2 (by decide)) (hz 3 (by decide));by_cases hlo:bK 1 (cf a)
 ·obtain⟨g1,g2⟩:=inv_one V.ro V.pos 1 ha h2 hlo h;refine .inl ⟨u9 hlo,u9 g2,?_,g1⟩;show Gd v (Dh (dP v) (cf a))≠0;rw[AX,←bD v hlo (show 1≤2 by omega)];exact h
 ·rcases DO V.ro V.pos 1 ha h2 h with⟨g1,g2⟩|⟨j,b,hj,hsl,ls,hb,hbs,hbl,hcs⟩
  ·exact aG (fun i hi=>g1 i (bn (by decide) hi)) hlo
  obtain rfl:j=1:=by
   rcases j with _|j
   ·exact aG ls hlo
   ·omega
  obtain⟨q1,q2⟩:=inv_one V.ro V.pos 0 (a:=b) hb (by omega) (aV hb.le) hbs;rcases hcs with⟨c1,c2,c3⟩|⟨c1,c2,J,c3,c4,c5⟩
  ·refine .inr (.inr ⟨?_,?_⟩)
   ·rw[←Dg V h2,AX];exact c1
   ·have e:Dh (dP v) (cf b)=(nX (dP v) (eg v) (cf a)).1+(nX (dP v) (eg v) (cf a)).1:=ap (c2 0 (by decide)) (c2 1 (by decide));rw[←e,AX];refine⟨hbs,_,q1,?_⟩;rw[c3];exact ap rfl<|u9 q2
  ·refine .inr (.inl ?_);rw[←Dg V h2,AX,←c2];refine⟨hbs,_,q1,?_⟩;rw[c5,Gp V h2]
   congr 1
   ·refine ap (ap (c3 0 (by decide)) (c3 1 (by decide))) (ap (c3 2 (by decide)) (c3 3 (by decide)))
   ·exact ap rfl (u9 q2)
end
theorem EH(hns: ¬ ∃s:QR.T,s≠0∧s*s=dP v){q:(B1 (dP v)).T}(h:Gd v q≠0):nr q≠0:=fun e=>by
 obtain⟨x,y⟩:=q;change Rat at x y;obtain⟨D,hD⟩: ∃D:Rat,D=(v.getD 0 []).getD 0 0:=⟨_,rfl⟩;have e:x*x+ -(y*y*D)=0:=by rw[hD];exact e
 have hz: ∀{x:Rat},x*x=0→x=0:=fun {x} g=>by rcases hW.1 g with g|g<;>exact g
 by_cases hy:(y:Rat)=0
 ·have hx:(x:Rat)=0:=hz (by rw[hy]at e;grind);refine h ?_;unfold Gd
  rw[show(fun i=>if i=0 then x else if i=1 then y else 0)=zC from funext fun i=>by
   split
   ·exact hx
   ·split
    ·exact hy
    ·rfl]
  exact eD v 1
 ·have hq:(x*y⁻¹)*(x*y⁻¹)=D:=by
   have:=b8 y hy
   grind
  by_cases hx:(x:Rat)=0
  ·refine h ?_;unfold Gd aW;have h0:(v.getD 0 []).getD 0 0=0:=by rw[←hD,←hq,hx];grind
   have h0':aW v 0 (cf (v.getD 0 []))=0:=cR.2 h0;rw[ah h0'];exact cR.2 hx
  ·refine hns ⟨(x*y⁻¹ :Rat),fun g=>?_,hq.trans hD⟩;rcases hW.1 g with g|g
   ·exact hx g
   ·have:=b8 y hy;rw[g]at this
    grind
theorem zZ{s:QR.T}(hs:(0:Rat)<s)(hd:s*s=dP v)(q:(B1 (dP v)).T):Gd v q=0↔fs s q=0:=by
 obtain⟨x,y⟩:=q;change Rat at x y s;show Gd v (x,y)=0↔x+s*y=0;have hd:s*s=(v.getD 0 []).getD 0 0:=hd;have hd0:0<(v.getD 0 []).getD 0 0:=by rw[←hd];exact g5 hs hs
 have h0': ¬aW v 0 (cf (v.getD 0 []))=0:=by show ¬j7 ((v.getD 0 []).getD 0 0)=0;rw[w5 _ hd0];decide
 have hsy:j7 (s*y)=j7 y:=by rw[tM,w5 _ hs,f5]
 have hn:(bj v 0 (fun i=>if i=0 then x else if i=1 then y else 0)) 0=(x+s*y)*(x-s*y):=by
  show(if (0:Nat)=0 then x*x else 0) -(if (0:Nat)=0 then(if (0:Nat)=0 then y*y else 0)*(v.getD 0 []).getD 0 0 else 0)=_;rw[ah rfl,ah rfl,ah rfl,←hd]
  grind
 unfold Gd aW;rw[af h0'];have e1:aW v 0 (fun i=>if i=0 then x else if i=1 then y else 0)=j7 x:=rfl;have e2:aW v 0 (bG 0 (fun i=>if i=0 then x else if i=1 then y else 0))=j7 y:=rfl
 have e3:aW v 0 (bj v 0 (fun i=>if i=0 then x else if i=1 then y else 0))=j7 ((x+s*y)*(x-s*y)):=by show j7 _=_;rw[hn]
 rw[e1,e2,e3,tM]
 have key:x+s*y=0→j7 x= -j7 y:=fun g=>by
  rw[←hsy,←qV]
  congr 1
  grind
 have key2:x-s*y=0→j7 x=j7 y:=fun g=>by
  rw[←hsy]
  congr 1
  grind
 constructor
 ·intro g;split at g
  ·rename_i c;have hx:=cR.1 g
   have hy:y=0:=by
    rcases c with c|c
    ·exact cR.1 (by omega)
    ·exact cR.1 c
   rw[hx,hy];grind
  ·rename_i c;split at g
   ·exact aG (.inr g) c
   ·rename_i c2;rcases ii.1 g with g|g
    ·exact aG g c2
    ·rcases ii.1 g with g|g
     ·exact cR.1 g
     ·exact aG (.inl (key2 (cR.1 g))) c
 ·intro g;have k:=key g;split
  ·rename_i c;omega
  ·rename_i c;split
   ·omega
   ·rw[cR.2 g];simp
theorem Q1.inv{q k:(B1 d0).T}(h:Q1 q k):Ef q k:=by
 rcases h with h|⟨_,h⟩
 ·exact .inl h
 ·exact .inr h
theorem Q1.exact{d0:QR.T}{q k:(B1 d0).T}(h:Q1 q k)(hn:nr q≠0):q*k=1:=by
 rcases h with⟨w,hw,rfl⟩|⟨e,_⟩
 ·refine(Rg.mul_assoc _ _ _).symm.trans ?_;refine(congrArg (·*em w) (Ax q).symm).trans ?_;exact(aY (nr q) w).symm.trans (congrArg em hw)
 ·exact aG e hn
section
variable (V:fC m v)
theorem G7{a:NQ}(ha:ay v.length a)(hb:ay v.length b):cf (fq a b)=fun i=>cf a i-cf b i:=by show cf (aq (aS a (aP b)))=_;rw[bb (ha.plus hb.minus)];exact funext fun i=>by rw[eP,jl];exact(a0 ..).symm
include V
theorem Ce{a:NQ}(ha:ay v.length a)(hb:ay v.length b):cf (et v a b)=mulC v v.length (cf a) (cf b):=by have ht:=da v.length ha hb V.ro (al _);show cf (aq (aT v.length v a b))=_;rw[bb ht.1,ht.2]
theorem Me{a:NQ}(ha:ay v.length a)(hb:ay v.length b):cf (vP v a b)=mulC v v.length (cf a) (cf (bN v.length v b)):=by have ht:=da v.length ha (fg v.length hb V.ro (al _)) V.ro (al _);show cf (aq (aT v.length v a (bN v.length v b)))=_;rw[bb ht.1,ht.2]
def FH.of{d:A.T}(ψ:Cf→(A.ext d).T)(hs: ∀x y:Cf,ψ (fun i=>x i-y i)=ψ x-ψ y)(hm: ∀x y:Cf,ψ (mulC v v.length x y)=ψ x*ψ y)(h1:ψ rn=1):FH v d where
 φ a:=ψ (cf a)
 sub ha hb:=by rw[G7 ha hb,hs]
 mul ha hb:=by rw[Ce V ha hb,hm]
 div ha hb:=by rw[Me V ha hb,hm]
 one:=by rw[G8,h1]
def pr0(z:Cf):(QR.ext (0:QR.T)).T:=(z 0,(0:Rat))
def Qb(h:v.length=0):FH v (A:=QR) 0:=FH.of V pr0 (fun x y=>ap (a0 ..) (by show(0:Rat)=0+ -0;grind)) (fun x y=>by
 rw[h];refine ap ?_ ?_
 ·show(if (0:Nat)=0 then x 0*y 0 else 0)=x 0*y 0+0*0*(0:Rat);rw[ah rfl];grind
 ·show(0:Rat)=x 0*0+0*y 0
  grind) rfl
theorem L4(h:v.length=0):(Qb V h).Inv:=fun b hb h0=>by
 have hl:bK 0 (cf b):=aV (by rw[←h];exact hb.le)
 have hb0:cf b 0≠0:=fun g=>h0 (by
  show ec v.length v b=0;rw[cY v.length hb V.ro (al _),Jx hl g]
  exact eD v _)
 have hi:=BP v v.length hb hl hb0;have hx:=b8 (cf b 0) hb0;refine .inl ⟨(1/cf b 0*(1/cf b 0):Rat),?_,?_⟩
 ·show(cf b 0*cf b 0+ -(0*0*0))*(1/cf b 0*(1/cf b 0))=(1:Rat);rw[dn];grind
 ·show pr0 (cf (bN v.length v b))=_;rw[hi];refine ap ?_ ?_
  ·show 1/cf b 0=cf b 0*(1/cf b 0*(1/cf b 0))+ -0*0*(0:Rat);rw[dn];grind
  ·show(0:Rat)=cf b 0*0+ -0*(1/cf b 0*(1/cf b 0))
   grind
def Qa(h:v.length=1):FH v (A:=QR) (dP v):=FH.of V (Dh (dP v)) (fun x y=>ap (a0 ..) (a0 ..)) (fun x y=>by rw[h];exact Lq V (by omega) x y) rfl
theorem L3(h:v.length=1):(Qa V h).Inv:=fun b hb h0=>by
 have hs:aW v v.length (cf b)≠0:=by rw[←cY v.length hb V.ro (al _)];exact h0
 rw[h]at hb hs;have g:=(inv_one V.ro V.pos 0 hb (by omega) (aV hb.le) hs).1;show Ef (Dh (dP v) (cf b)) (Dh (dP v) (cf (bN v.length v b)));rw[h];exact Q1.inv g
def Au(h:v.length=2):FH v (A:=B1 (dP v)) (eg v):=FH.of V (nX (dP v) (eg v)) (fun x y=>ap (ap (a0 ..) (a0 ..)) (ap (a0 ..) (a0 ..))) (fun x y=>by rw[h];exact Gp V (by omega) x y) rfl
theorem L2(h:v.length=2)(hns: ¬ ∃s:QR.T,s≠0∧s*s=dP v):(Au V h).Inv:=fun b hb h0=>by
 have hs:aW v v.length (cf b)≠0:=by rw[←cY v.length hb V.ro (al _)];exact h0
 rw[h]at hb hs;show Ef (nX (dP v) (eg v) (cf b)) (nX (dP v) (eg v) (cf (bN v.length v b)));rw[h];rcases BO V (by omega) hb hs with⟨e1,e2,e3,e4⟩|⟨e3,k,e4,e5⟩|⟨_,e3,k,e4,e5⟩
 ·have hk:=Q1.exact e4 (EH hns e3);generalize nX (dP v) (eg v) (cf b)=P at *;generalize nX (dP v) (eg v) (cf (bN 2 v b))=J at *;obtain⟨p,p'⟩:=P;obtain⟨k,k'⟩:=J;change p'=0 at e1;change k'=0 at e2;change p*k=1 at hk;subst e1 e2;refine .inl ⟨k*k,?_,?_⟩
  ·show(p*p-0*0*_)*(k*k)=1;rw[show(p*p-0*0*eg v)*(k*k)=p*k*(p*k)from Rg.bJ [p,k,eg v] ((X0*X0-0*0*X2)*(X1*X1)) (X0*X1*(X0*X1)) rfl,hk,Rg.mul_one]
  ·refine ap ?_ ?_
   ·show k=p*(k*k)+ -0*0*_;rw[show p*(k*k)+ -0*0*eg v=p*k*k from Rg.bJ [p,k,eg v] (X0*(X1*X1)+ -0*0*X2) (X0*X1*X1) rfl,hk,Rg.one_mul]
   ·show(0:(B1 (dP v)).T)=p*0+ -0*(k*k);exact Rg.bJ [p,k] 0 (X0*0+ -0*(X1*X1)) rfl
 ·exact .inl ⟨k,Q1.exact e4 (EH hns e3),e5⟩
 ·exact .inr ⟨k,Q1.exact e4 (EH hns e3),e5⟩
end
theorem mg(hd:σ*σ=d0)(x y:(B1 d0).T):fs σ (x*y)=fs σ x*fs σ y:=by subst hd;show x.1*y.1+x.2*y.2*(σ*σ)+σ*(x.1*y.2+x.2*y.1)=(x.1+σ*x.2)*(y.1+σ*y.2);exact Rg.bJ [x.1,x.2,y.1,y.2,σ] (X0*X2+X1*X3*(X4*X4)+X4*(X0*X3+X1*X2)) ((X0+X4*X1)*(X2+X4*X3)) rfl
theorem pg(x y:(B1 d0).T):fs σ (x+y)=fs σ x+fs σ y:=by show x.1+y.1+σ*(x.2+y.2)=(x.1+σ*x.2)+(y.1+σ*y.2);exact Rg.bJ [x.1,x.2,y.1,y.2,σ] (X0+X2+X4*(X1+X3)) ((X0+X4*X1)+(X2+X4*X3)) rfl
theorem BV(x:(B1 d0).T):fs σ (-x)= -fs σ x:=by show -x.1+σ* -x.2= -(x.1+σ*x.2);exact Rg.bJ [x.1,x.2,σ] (-X0+X2* -X1) (-(X0+X2*X1)) rfl
theorem NL:fs σ (1:(B1 d0).T)=1:=by show 1+σ*0=(1:QR.T);rw[Rg.mul_zero,Rg.add_zero]
theorem pZ:fs σ (0:(B1 d0).T)=0:=by show 0+σ*0=(0:QR.T);rw[Rg.mul_zero,Rg.add_zero]
theorem GS{d0 s:QR.T}(w:QR.T):fs s (em (d:=d0) w)=w:=by show w+s*0=w;rw[Rg.mul_zero,Rg.add_zero]
abbrev BS(v:List NQ)(σ:QR.T):Rg:=QR.ext (fs σ (eg v))
def hS(v:List NQ)(σ:QR.T)(p:(B2 (dP v) (eg v)).T):(BS v σ).T:=(fs σ p.1,fs σ p.2)
section
variable (hd:σ*σ=dP v)
include hd
theorem BR(x y:(B2 (dP v) (eg v)).T):hS v σ (x*y)=hS v σ x*hS v σ y:=by
 refine ap ?_ ?_
 ·show fs σ (x.1*y.1+x.2*y.2*eg v)=fs σ x.1*fs σ y.1+fs σ x.2*fs σ y.2*fs σ (eg v);rw[pg,mg hd,mg hd,mg hd]
 ·show fs σ (x.1*y.2+x.2*y.1)=fs σ x.1*fs σ y.2+fs σ x.2*fs σ y.1;rw[pg,mg hd,mg hd]
theorem JM(x:(B2 (dP v) (eg v)).T):nr (hS v σ x)=fs σ (nr x):=by show fs σ x.1*fs σ x.1+ -(fs σ x.2*fs σ x.2*fs σ (eg v))=fs σ (x.1*x.1+ -(x.2*x.2*eg v));rw[pg,BV,mg hd,mg hd,mg hd]
omit hd in
theorem ME(x:(B2 (dP v) (eg v)).T):hS v σ (br x)=br (hS v σ x):=ap rfl (BV x.2)
omit hd in
theorem GP(k:(B1 (dP v)).T):hS v σ (em k)=em (fs σ k):=ap rfl pZ
def MI(V:fC m v)(h:v.length=2):FH v (A:=QR) (fs σ (eg v)) where
 φ a:=hS v σ ((Au V h).φ a)
 sub {a b} ha hb:=by
  rw[(Au V h).sub ha hb];refine ap ?_ ?_
  ·show fs σ (((Au V h).φ a).1+ -((Au V h).φ b).1)=fs σ ((Au V h).φ a).1+ -fs σ ((Au V h).φ b).1;rw[pg,BV]
  ·show fs σ (((Au V h).φ a).2+ -((Au V h).φ b).2)=fs σ ((Au V h).φ a).2+ -fs σ ((Au V h).φ b).2;rw[pg,BV]
 mul ha hb:=by rw[(Au V h).mul ha hb,BR hd]
 div ha hb:=by rw[(Au V h).div ha hb,BR hd]
 one:=by rw[(Au V h).one];exact ap NL pZ
end
end Lift
