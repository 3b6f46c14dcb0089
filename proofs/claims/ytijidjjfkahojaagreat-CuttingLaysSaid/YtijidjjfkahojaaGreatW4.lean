/- A symbolic walk over the model, and what it shows of functions of the program: parts of the proof that the text of the row joins. -/
import Derived.Test.YtijidjjfkahojaaGreatW3
import Derived.Test.YtijidjjfkahojaaGreatE5
import Derived.KernelRfl
import Derived.Test.YtijidjjfkahojaaGreatW2
import Derived.Test.YtijidjjfkahojaaGreatW1
open List renaming getD_eq_getElem?_getD->AS,getElem?_eq_getElem->oE,mem_filter->Afh,all_eq_true->Afj,mem_cons->Afk,mem_range->Afl,range->Afm,mem_singleton->Afr,mem_append->Afz,getElem_mem->Af3,length_append->AfK,append_assoc->AfS,pairwise_cons->Agd,findSome?_eq_none_iff->Agg,length_range->Agw,find?_eq_none->Agy,map_append->Ag4,range_succ->Ag8,map_congr_left->AgE,perm_append_comm->AgL,pairwise_singleton->AgW
open Nat renaming not_lt_zero->Rc,zero_le->Afg,le_refl->Afo,lt_of_lt_of_le->Afp,lt_succ_iff_lt_or_eq->Aft,le_trans->AfI,eq_zero_or_pos->AgB,lt_trichotomy->AgM
open Bool renaming and_eq_true->nT,not_eq_true'->AfA,or_true->AgH,true_and->AgY
open Int renaming eq_ofNat_of_zero_le->Afw,toNat->Af1,le_refl->Af4,natCast_nonneg->Af7,le_of_lt->Af8,toNat_of_nonneg->Ags,le_trans->Ag0
open Option renaming none->Af5,getD_some->AfJ,map_some->AfX,map_eq_none_iff->Agp
open Option.some renaming injEq->Agf
namespace Go.Proofs.YtijidjjfkahojaaGreat
open Go.SE Go.RowKit
set_option maxRecDepth 100000
set_option maxHeartbeats 4000000
set_option linter.unusedVariables false
attribute [local irreducible] vc
def DA (w:L.Sq Ab):Nat:=(Cn w-1) / 2
def Bd (w:L.Sq Ab) (gr:Int) (r:Bx) (k:Nat) (up:Bool):Int:=EU (Ae w gr (2*(k:Int)+1)) (Ae w gr (Az w.n-(2*(k:Int)+1))) (r.b.x-r.a.x) (r.b.y-r.a.y) up
def LJ (w:L.Sq Ab) (gr:Int) (r:Bx) (k:Nat):Option (Nat×Bool):=bif !decide (Bd w gr r k true=0)then some (k,true)else bif !decide (Bd w gr r k false=0)then some (k,false)else none
def Ed (w:L.Sq Ab) (gr:Int) (r:Bx):Nat->Option (Nat×Bool)
 |0=>none
 |n+1=>match Ed w gr r n with
   |some x=>some x
   |none=>LJ w gr r n
def Hy (w:L.Sq Ab) (k:Nat):L.Sq Ab:=B5 w (2*(k:Int)+1)
def GW (w:L.Sq Ab) (k:Nat):L.Sq Ab:=B5 w (Az w.n-(2*(k:Int)+1))
def NF (id:Int) (r:Bx) (up:Bool) (p:Int):AY:=EA id (Dl r up p).a (Du r up p).b
def DI (sh:Aj):Nat->L.Sq Ab->Bx->List AZ×List AY
 |0,_,_=>([],[])
 |n+1,w,r=>if w.n=0 then([],[])else if w.n=1 then([F3 (w.g 0) sh r],Ec (w.g 0) sh r)else match Ed w sh.grain r (DA w)with
   |none=>([],[])
   |some (k,up)=>((DI sh n (Hy w k) (Du r up (Bd w sh.grain r k up))).1++(DI sh n (GW w k) (Dl r up (Bd w sh.grain r k up))).1,
     NF sh.id r up (Bd w sh.grain r k up)::((DI sh n (Hy w k) (Du r up (Bd w sh.grain r k up))).2++(DI sh n (GW w k) (Dl r up (Bd w sh.grain r k up))).2))
def CH (sh:Aj) (w:L.Sq Ab) (r:Bx):List AZ:=(DI sh 5 w r).1
def Cg (sh:Aj) (w:L.Sq Ab) (r:Bx):List AY:=(DI sh 5 w r).2
theorem LK {w:L.Sq Ab} {gr:Int} {r:Bx}:∀{n k:Nat} {up:Bool},Ed w gr r n=some (k,up)->k<n/\Bd w gr r k up≠0/\(up=false->Bd w gr r k true=0)/\∀i,i<k->Bd w gr r i true=0/\Bd w gr r i false=0
 |0,k,up,h=>by cases h
 |n+1,k,up,h=>by
   rw[Ed]at h;cases hn:Ed w gr r n with
   |some x =>
     rw[hn]at h;cases h;obtain⟨a,b⟩:=LK hn;exact⟨by omega,b⟩
   |none =>
     rw[hn]at h;have hz:=rdF_none hn;unfold LJ at h;simp only at h
     by_cases e1:Bd w gr r n true=0
     ·rw[decide_eq_true e1,Bool.not_true,cond_false]at h
      by_cases e2:Bd w gr r n false=0
      ·rw[decide_eq_true e2]at h;cases h
      ·rw[decide_eq_false e2]at h;cases h;exact⟨by omega,e2,fun _=>e1,hz⟩
     ·rw[decide_eq_false e1]at h;cases h;exact⟨by omega,e1,(fun h=>by cases h),hz⟩
where rdF_none {w:L.Sq Ab} {gr:Int} {r:Bx}:∀{n:Nat},Ed w gr r n=none->∀i,i<n->Bd w gr r i true=0/\Bd w gr r i false=0
 |0,_,i,hi=>absurd hi (Rc _)
 |n+1,h,i,hi=>by
   rw[Ed]at h;cases hn:Ed w gr r n with
   |some x=>rw[hn]at h;cases h
   |none =>
     rw[hn]at h
     by_cases e:i=n
     ·subst e;unfold LJ at h;simp only at h
      by_cases e1:Bd w gr r i true=0
      ·rw[decide_eq_true e1,Bool.not_true,cond_false]at h
       by_cases e2:Bd w gr r i false=0
       ·exact⟨e1,e2⟩
       ·rw[decide_eq_false e2]at h;cases h
      ·rw[decide_eq_false e1]at h;cases h
     ·exact rdF_none hn i (by omega)
theorem QI {w:L.Sq Ab} {gr:Int} {r:Bx}:∀{n:Nat},(∀i,i<n->Bd w gr r i true=0/\Bd w gr r i false=0)->Ed w gr r n=none
 |0,_=>rfl
 |n+1,h=>by
   rw[Ed,QI (fun i hi=>h i (by omega))];simp only;unfold LJ;rw[decide_eq_true (h n (by omega)).1,decide_eq_true (h n (by omega)).2];rfl
theorem cV {w:L.Sq Ab} {gr:Int} {r:Bx} {k:Nat} {up:Bool} (h1:Bd w gr r k up≠0) (h2:up=false->Bd w gr r k true=0) (h3:∀i,i<k->Bd w gr r i true=0/\Bd w gr r i false=0):∀{n:Nat},k<n->Ed w gr r n=some (k,up)
 |0,h=>absurd h (Rc _)
 |n+1,h=>by
   rw[Ed]
   by_cases e:k=n
   ·have hn:Ed w gr r n=none:=QI (fun i hi=>h3 i (by omega));rw[hn,<- e];simp only;unfold LJ;cases up with
    |true=>rw[decide_eq_false h1];rfl
    |false=>rw[decide_eq_true (h2 rfl),decide_eq_false h1];rfl
   ·rw[cV h1 h2 h3 (show k<n by omega)]
def cW (n k:Nat):Bool:=let a:Int:=BJ 1 n-1;if k<((BJ 1 n).toNat-1) / 2 then decide ((BY (2*(k:Int)+1) n).length<n)&&decide ((BY (a-(2*(k:Int)+1)) n).length<n)&&decide (0<=a-(2*(k:Int)+1))&&decide (a-(2*(k:Int)+1)<=15)else true
theorem Ac4:((Afm 5).all fun n=>(Afm 8).all (cW n))=true:=by kernel_rfl
def Ac5 (n:Nat):Bool:=decide ((BJ 1 n).toNat<=16)
theorem Ac6:((Afm 5).all Ac5)=true:=by kernel_rfl
theorem NG {w:L.Sq Ab} (h:w.n<=4) {k:Nat} (hk:k<DA w):(Hy w k).n<w.n/\(GW w k).n<w.n/\0<=Az w.n-(2*(k:Int)+1)/\Az w.n-(2*(k:Int)+1)<=15:=by
 have h2:=of_decide_eq_true (Afj.1 Ac6 w.n (Afl.2 (by omega)));have hk2:k<((BJ 1 w.n).toNat-1) / 2:=hk;have h1:=Afj.1 (Afj.1 Ac4 w.n (Afl.2 (by omega))) k (Afl.2 (by omega));unfold cW at h1;simp only at h1;rw[if_pos hk2]at h1;simp only[nT,decide_eq_true_eq]at h1;exact⟨h1.1.1.1,h1.1.1.2,h1.1.2,h1.2⟩
theorem cX {b:Int} {n i:Nat} (h:i<(BY b n).length):(BY b n).getD i 0<n:=by
 rw[AS,oE h,AfJ];have:=Af3 h;unfold BY at this;exact Afl.1 (Afh.1 this).1
theorem Ac7 (b:Int) (n:Nat):(BY b n).length<=n:=by
 unfold BY;exact AfI (List.length_filter_le _ _) (by rw[Agw];exact Afo _)
theorem cY {w:L.Sq Ab} (h:B7 w) (b:Int):B7 (B5 w b):=⟨AfI (Ac7 b w.n) h.1,fun i hi=>h.2 _ (cX hi)⟩
theorem NH (sh:Aj):∀(n m:Nat) (w:L.Sq Ab) (r:Bx),w.n<=4->w.n<n->w.n<m->DI sh n w r=DI sh m w r
 |0,_,w,r,_,h,_=>by omega
 |n+1,0,w,r,_,_,h=>by omega
 |n+1,m+1,w,r,h4,h,h'=>by
   rw[DI,DI]
   by_cases e:w.n=0
   ·rw[if_pos e,if_pos e]
   ·rw[if_neg e,if_neg e]
    by_cases e1:w.n=1
    ·rw[if_pos e1,if_pos e1]
    ·rw[if_neg e1,if_neg e1];cases hd:Ed w sh.grain r (DA w)with
     |none=>rfl
     |some x =>
       obtain⟨k,up⟩:=x;obtain⟨a,b,_⟩:=NG h4 (LK hd).1;simp only;rw[NH sh n m (Hy w k) _ (by omega) (by omega) (by omega),NH sh n m (GW w k) _ (by omega) (by omega) (by omega)]
theorem cZ {sh:Aj} {w:L.Sq Ab} {r:Bx} (h:w.n=0):CH sh w r = []/\Cg sh w r = []:=by
 unfold CH Cg;rw[DI,if_pos h];exact⟨rfl,rfl⟩
theorem dA {sh:Aj} {w:L.Sq Ab} {r:Bx} (h:w.n=1):CH sh w r = [F3 (w.g 0) sh r]/\Cg sh w r=Ec (w.g 0) sh r:=by
 unfold CH Cg;rw[DI,if_neg (by omega),if_pos h];exact⟨rfl,rfl⟩
theorem Ac8 {sh:Aj} {w:L.Sq Ab} {r:Bx} (h:2<=w.n) (hd:Ed w sh.grain r (DA w)=none):CH sh w r = []/\Cg sh w r = []:=by
 unfold CH Cg;rw[DI,if_neg (by omega),if_neg (by omega),hd];exact⟨rfl,rfl⟩
theorem dB {sh:Aj} {w:L.Sq Ab} {r:Bx} (h:2<=w.n) (h4:w.n<=4) {k:Nat} {up:Bool} (hd:Ed w sh.grain r (DA w)=some (k,up)) {p:Int} (hp:Bd w sh.grain r k up=p) :
  CH sh w r=CH sh (Hy w k) (Du r up p)++CH sh (GW w k) (Dl r up p)/\Cg sh w r=NF sh.id r up p::(Cg sh (Hy w k) (Du r up p)++Cg sh (GW w k) (Dl r up p)):=by
 obtain⟨a,b,_⟩:=NG h4 (LK hd).1;subst hp;unfold CH Cg;have e:DI sh 5 w r=DI sh (4+1) w r:=rfl;rw[e,DI,if_neg (by omega),if_neg (by omega),hd];simp only;rw[NH sh 4 5 (Hy w k) _ (by omega) (by omega) (by omega),NH sh 4 5 (GW w k) _ (by omega) (by omega) (by omega)];exact⟨rfl,rfl⟩
theorem Ac9 (w:Ab) (s:Aj) (r:Bx):(Ec w s r).length<=2:=by
 unfold Ec Et B9;cases decide (Fi w s.grain r<r.b.x)<;>cases decide (G3 w s.grain r<r.b.y)<;>simp
theorem QJ (sh:Aj):∀(n:Nat) (w:L.Sq Ab) (r:Bx),(DI sh n w r).1.length+1<=4*2 ^ n/\(DI sh n w r).2.length+1<=4*2 ^ n
 |0,w,r=>by simp[DI]
 |n+1,w,r=>by
   have p:1<=2 ^ n:=Nat.one_le_two_pow;rw[DI,Nat.pow_succ]
   by_cases e:w.n=0
   ·rw[if_pos e];simp;omega
   ·rw[if_neg e]
    by_cases e1:w.n=1
    ·rw[if_pos e1];have:=Ac9 (w.g 0) sh r;simp;omega
    ·rw[if_neg e1];cases hd:Ed w sh.grain r (DA w)with
     |none=>simp;omega
     |some x =>
       obtain⟨k,up⟩:=x;simp only;have a:=QJ sh n (Hy w k) (Du r up (Bd w sh.grain r k up));have b:=QJ sh n (GW w k) (Dl r up (Bd w sh.grain r k up));rw[AfK,List.length_cons,AfK];omega
theorem NI (sh:Aj) (w:L.Sq Ab) (r:Bx):(CH sh w r).length<=127/\(Cg sh w r).length<=127:=by
 have:=QJ sh 5 w r;unfold CH Cg;omega
theorem dC {a b:L.Sq Ac} {w h:Int} {up:Bool}:∀{k:Nat},EC a b w h up k≠0->∃i,i<k/\EB a b w h up i=true/\EC a b w h up k=DG a up i
 |0,h=>absurd rfl h
 |k+1,hk=>by
   rw[EC]at hk ⊢;cases e:(EB a b w h up k&&(decide (EC a b w h up k=0)||decide (DG a up k<EC a b w h up k)))with
   |true =>
     rw[nT]at e;exact⟨k,by omega,e.1,rfl⟩
   |false =>
     rw[e,cond_false]at hk;obtain⟨i,hi,h1,h2⟩:=dC hk;exact⟨i,by omega,h1,h2⟩
theorem QK (w:L.Sq Ab) (gr:Int) {g:Int} (h:0<=g) (h':g<=15) {i:Nat} (hi:i<(Ae w gr g).n):0<=((Ae w gr g).g i).w/\((Ae w gr g).g i).w<=61440/\0<=((Ae w gr g).g i).h/\((Ae w gr g).g i).h<=61440:=by
 have:=(Jk w gr h h').bd _ (Is hi);omega
theorem AcA {w:L.Sq Ab} {gr:Int} {r:Bx} {k:Nat} {up:Bool} (h4:w.n<=4) (hT:Eb r) (hk:k<DA w) (h:Bd w gr r k up≠0):0<=Bd w gr r k up/\Bd w gr r k up<=4096/\Eb (Du r up (Bd w gr r k up))/\Eb (Dl r up (Bd w gr r k up)):=by
 obtain⟨_,_,c1,c2⟩:=NG h4 hk;have k15:(2*(k:Int)+1)<=15:=by have:=(G0 h4).2.1;omega
 have hr:Bd w gr r k up=EC (Ae w gr (2*(k:Int)+1)) (Ae w gr (Az w.n-(2*(k:Int)+1))) (r.b.x-r.a.x) (r.b.y-r.a.y) up (Ae w gr (2*(k:Int)+1)).n:=rfl;rw[hr]at h;obtain⟨i,hi,ho,e⟩:=dC h;rw[<- hr]at e;rw[e];obtain⟨b1,b2,b3,b4⟩:=QK w gr (by omega) k15 hi;obtain⟨t1,t2,t3,t4,t5,t6⟩:=hT;have rm:∀{x y:Int},ES (Ae w gr (Az w.n-(2*(k:Int)+1))) x y=true->0<=x/\0<=y:=fun {x y} hr=>by
  unfold ES at hr;obtain⟨j,hj,hf⟩:=Fc.1 hr;obtain⟨d1,_,d3,_⟩:=QK w gr c1 c2 hj;unfold DZ at hf;rw[GR,nT,decide_eq_true_eq,decide_eq_true_eq]at hf;exact⟨Ag0 d1 hf.1,Ag0 d3 hf.2⟩
 cases up with
 |true =>
   unfold EB at ho;rw[cond_true,nT]at ho;have:=rm ho.2;unfold DG Du Dl Eb;simp only[cond_true];omega
 |false =>
   unfold EB at ho;rw[cond_false,nT]at ho;have:=rm ho.2;unfold DG Du Dl Eb;simp only[cond_false];omega
theorem dD {α:Type} (X Y:List α) (d:α) (i:Nat):(X++Y).getD i d=if i<X.length then X.getD i d else Y.getD (i-X.length) d:=by
 by_cases h:i<X.length
 ·rw[if_pos h,AS,AS,List.getElem?_append_left h]
 ·rw[if_neg h,AS,AS,List.getElem?_append_right (by omega)]
theorem AcB {X Y Z:List AZ} (e:Z=X++Y):(Bj X).n+(Bj Y).n=(Bj Z).n/\∀i,i<(Bj X).n+(Bj Y).n->AU (Bj X).n (fun k=>Co ((Bj X).g k)) (fun k=>Co ((Bj Y).g k)) i=Co ((Bj Z).g i):=by
 subst e;refine⟨by simp[Bj],fun i hi=>?_⟩;show(if i<X.length then _ else _)=Co ((X++Y).getD i _);rw[dD]
 by_cases h:i<X.length
 ·rw[if_pos h,if_pos h];rfl
 ·rw[if_neg h,if_neg h];rfl
theorem AcC {c:AY} {X Y Z:List AY} {q:Nat->List SV} (hq:q 0=AL c) (e:Z=c::(X++Y)):1+(AA X).n+(AA Y).n=(AA Z).n/\∀i,i<1+(AA X).n+(AA Y).n->AU (1+(AA X).n) (AU 1 q (fun k=>AL ((AA X).g k))) (fun k=>AL ((AA Y).g k)) i=AL ((AA Z).g i):=by
 subst e;refine⟨by simp[AA];omega,fun i hi=>?_⟩;show(if i<1+X.length then(if i<1 then _ else _)else _)=AL ((c::(X++Y)).getD i _);cases i with
 |zero=>rw[if_pos (by omega),if_pos (by omega),hq];rfl
 |succ i =>
   rw[List.getD_cons_succ,dD,if_neg (show ¬ i+1<1 by omega)]
   by_cases h:i<X.length
   ·rw[if_pos h,if_pos (by omega)];rfl
   ·rw[if_neg h,if_neg (by omega),show i+1-(1+(AA X).n)=i-X.length by show i+1-(1+X.length)=_;omega];rfl
section
attribute [local irreducible] EQ AW CH Cg Bd Ed EU B5
abbrev Iv:Mk:={ T:=(L.Sq Ab)×(Aj)×(Bx),U:=Nat,args:=fun t=>(fun w s r=>[.p (.sl 4 w.n (fun i=>[.int .i64 ((w.g i).id),.int .i64 ((w.g i).colour),.int .i64 ((w.g i).grain),.sl 2 (w.g i).ol.n (fun i1=>[.int .i64 (((w.g i).ol.g i1).x),.int .i64 (((w.g i).ol.g i1).y)])])),.p (.agg [.int .i64 s.id,.int .i64 s.colour,.int .i64 s.w,.int .i64 s.h,.int .i64 s.grain]),.p (.agg [.int .i64 r.sheet,.int .i64 r.a.x,.int .i64 r.a.y,.int .i64 r.b.x,.int .i64 r.b.y,.int .i64 r.beg])]) t.1 t.2.1 t.2.2,lkeys:=[],keys:=[38,60],lent:=fun t=>(fun w s r=>[]) t.1 t.2.1 t.2.2,pre:=fun t=>(fun w s r=>B7 w/\Eb r) t.1 t.2.1 t.2.2,post:=fun t u=>(fun w s r=>fun uu=>True) t.1 t.2.1 t.2.2 u,lent':=fun t u=>(fun w s r=>fun uu=>[]) t.1 t.2.1 t.2.2 u,own:=fun t u=>(fun w s r=>fun uu=>[(38,.row 76 5 (Bj (CH s w r)).n (fun k=>Co ((Bj (CH s w r)).g k))),(60,.row 101 4 (AA (Cg s w r)).n (fun k=>AL ((AA (Cg s w r)).g k)))]) t.1 t.2.1 t.2.2 u,res:=fun t u=>(fun w s r=>fun uu=>.ag true [.row 38,.row 60]) t.1 t.2.1 t.2.2 u,nilr:=[(6,38,76,5),(7,60,101,4)] }
abbrev dE:Iv.T->Nat:=fun t=>(fun w s r=>w.n) t.1 t.2.1 t.2.2
theorem AcD (rn:Nat) (w:L.Sq Ab) (s:Aj) (r:Bx) (hp:Iv.pre (w,s,r)) (hmu:w.n<rn+1):vc Tryz.prog ({ muts:=[8,14,15,16,38,132],frz:=B2 [],specs:=AB [(40,ND),(88,cJ),(89,cF),(90,QH),(78,Q1)],loops:=AV [(8,{ T:=Nat,keep:=[0,4,5,10],keepO:=[],chg:=fun k=>[(11,.p (.int .i64 (2*(k:Int)+1)))],own:=fun _=>[],inv:=fun k=>k<=DA w/\∀i,i<k->Bd w s.grain r i true=0/\Bd w s.grain r i false=0,mu:=fun k=>DA w-k }),(11,{ T:=Nat×Nat,keep:=[0,4,5,10,11],keepO:=[],chg:=fun t=>[(12,.p (.int .i64 (t.1:Int)))],own:=fun _=>[],inv:=fun t=>t.1<=2/\(1<=t.1->Bd w s.grain r t.2 true=0)/\(2<=t.1->Bd w s.grain r t.2 false=0),mu:=fun t=>2-t.1,tie:=fun t=>[(11,.int .i64 (2*(t.2:Int)+1))] })],iters:=Bw [],rfs:=AT [],nils:=B3 [],mks:=El [(87,Ky),(45,Mk.lt Iv dE rn)],ren:=fun k=>if k=82 then 60 else k,anys:=[1004,1013,1017,1018],rek:=KJ [(18,[(38,39),(60,61)]),(21,[(60,62),(132,60),(38,63),(39,38)])] }) (Ah Tryz.f45) (D7 Tryz.f45 (Iv.args (w,s,r)) (Iv.lent (w,s,r))) (Fx Tryz.prog Tryz.f45 Iv (w,s,r)):=
  @Eq.mpr _ (let I:=SV.int .i64;let T:=Af1;let A61:=(4096:Int);let A60:=(0:Nat);let A53:=(↑w.n:Int);let A52:=(140737488355328:Nat);let A48:=(1000000:Nat);let A45:=(nat_lit 0);let A40:=(r.b.y-r.a.y);let A39:=(r.b.x-r.a.x);let A28:=(2:Nat);let A24:=(2:Int);let A23:=(↑(Cn w):Int);let A19:=(1:Int);let A18:=(AA (Cg s w
 r));let A38:=(A60=A18.n/\∀(i:Nat),i<A60 -> []=AL (A18.g i));let A17:=(Bj (CH s w r));let A37:=(A60=A17.n/\∀(i:Nat),i<A60 -> []=Co (A17.g i));let A15:=(0:Int);let A47:=(w.g (T A15));let A41:=(A15<=A15/\A15<A53);let A13:=(∀(i:Nat),i<w.n->∀(i_1:Nat),let A49:=((w.g i).ol.g i_1);i_1<(w.g i).ol.n -> [I A49.x,I A49.y]= [I A49.x,
 I A49.y]);let A57:=(A13/\w.n<=(1000:Nat));let A12:=[I r.sheet,I r.a.x,I r.a.y,I r.b.x,I r.b.y,I r.beg];let A11:=(w.n=w.n/\∀(i:Nat),let A21:=[I (w.g i).id,I (w.g i).colour,I (w.g i).grain,SV.sl A28 (w.g i).ol.n fun(i1:Nat)=>[I ((w.g i).ol.g i1).x,I ((w.g i).ol.g i1).y]];i<w.n->A21=A21);let A10:=[I s.id,I s.colour,I s.w,I s.h,I s.grain];let A8
:=[I A47.id,I A47.colour,I A47.grain,SV.sl (nat_lit 2) A47.ol.n fun(i1:Nat)=>[I (A47.ol.g i1).x,I (A47.ol.g i1).y]];let A3:=(A41/\∃(t:Ab×Aj×Bx),let A42:=(AA (Ec t.1 t.2.1 t.2.2));let A31:=(F3 t.1 t.2.1 t.2.2);SV.agg A8=SV.agg [I t.1.id,I t.1.colour,I t.1.grain,SV.sl A28 t.1.ol.n fun(i:Nat)=>[I (t.1.ol.g i).x,I
 (t.1.ol.g i).y]]/\SV.agg A10=SV.agg [I t.2.1.id,I t.2.1.colour,I t.2.1.w,I t.2.1.h,I t.2.1.grain]/\SV.agg A12=SV.agg [I t.2.2.sheet,I t.2.2.a.x,I t.2.2.a.y,I t.2.2.b.x,I t.2.2.b.y,I t.2.2.beg]/\(t.1.ol.n<=A48/\Eb t.2.2)/\∀(u:Nat),True->∃(u:Nat),(nat_lit 1=A17.n/\∀(i:Nat),i<nat_lit 1->BX [I A31.want,I A31.sheet,I A31.turn,
 I A31.at_.x,I A31.at_.y] (nat_lit 5) i=Co (A17.g i))/\(A42.n=A18.n/\∀(i:Nat),i<A42.n->AL (A42.g i)=AL (A18.g i))/\True);let A1:=(∃(t:Ab×Aj×Bx),let A43:=(AA (Ec t.1 t.2.1 t.2.2));let A32:=(F3 t.1 t.2.1 t.2.2);SV.agg A8=SV.agg [I t.1.id,I t.1.colour,I t.1.grain,SV.sl A28 t.1.ol.n fun(i:Nat)=>[I (t.1.ol.g i).x,
 I (t.1.ol.g i).y]]/\SV.agg A10=SV.agg [I t.2.1.id,I t.2.1.colour,I t.2.1.w,I t.2.1.h,I t.2.1.grain]/\SV.agg A12=SV.agg [I t.2.2.sheet,I t.2.2.a.x,I t.2.2.a.y,I t.2.2.b.x,I t.2.2.b.y,I t.2.2.beg]/\(t.1.ol.n<=A48/\Eb t.2.2)/\∀(u:Nat),True->∃(u:Nat),(nat_lit 1=A17.n/\∀(i:Nat),i<nat_lit 1->BX [I A32.want,I A32.sheet,I
 A32.turn,I A32.at_.x,I A32.at_.y] (nat_lit 5) i=Co (A17.g i))/\(A43.n=A18.n/\∀(i:Nat),i<A43.n->AL (A43.g i)=AL (A18.g i))/\True);(decide (A53=A15)=true->∃(u:Nat),A37/\A38/\True)/\(decide (A53=A15)=false->(decide (A53=A19)=true->A41/\A1/\A1/\A1/\A1/\A1/\A1/\A1/\A1/\A1/\A3/\A3/\A3/\A41/\∃(t
:Ab×Aj×Bx),let A44:=(AA (Ec t.1 t.2.1 t.2.2));let A33:=(F3 t.1 t.2.1 t.2.2);SV.agg A8=SV.agg [I t.1.id,I t.1.colour,I t.1.grain,SV.sl A28 t.1.ol.n fun(i:Nat)=>[I (t.1.ol.g i).x,I (t.1.ol.g i).y]]/\SV.agg A10=SV.agg [I t.2.1.id,I t.2.1.colour,I t.2.1.w,I t.2.1.h,I t.2.1.grain]/\SV.agg A12=SV.agg [I
 t.2.2.sheet,I t.2.2.a.x,I t.2.2.a.y,I t.2.2.b.x,I t.2.2.b.y,I t.2.2.beg]/\(t.1.ol.n<=A48/\Eb t.2.2)/\∀(u:Nat),True->∃(u:Nat),(nat_lit 1=A17.n/\∀(i:Nat),i<nat_lit 1->BX [I A33.want,I A33.sheet,I A33.turn,I A33.at_.x,I A33.at_.y] (nat_lit 5) i=Co (A17.g i))/\(A44.n=A18.n/\∀(i:Nat),i<A44.n->AL (A44.g i)=AL (A18.g i))/\True) /\
 (decide (A53=A19)=false->(A13/\B7 w)/\(∃(g:Nat),A19=A24*(↑g:Int)+A19/\g<=DA w/\∀(i:Nat),i<g->Bd w s.grain r i true=A15/\Bd w s.grain r i false=A15)/\∀(g:Nat),let A34:=(↑g:Int);let A9:=(Cn w=Cn w/\∀(i:Nat),let A46:=(Ae w s.grain (↑i:Int));let A20:=[SV.sl A28 A46.n fun(i_1:Nat)=>[I
 (A46.g i_1).w,I (A46.g i_1).h]];i<Cn w->A20=A20);let A4:=(A24*A34+A19);let A58:=(B5 w A4);let A7:=(Ae w s.grain (↑(T A4):Int));let A6:=(A23-A19-A4);let A59:=(B5 w A6);let A14:=(Ae w s.grain (↑(T A6):Int));(g<=DA w/\∀(i:Nat),i<g->Bd w s.grain r i true=A15/\Bd w s.grain r i false=A15)->Ad .i64
 (A23-A19)/\(decide (A24*A34+A19<A23-A19)=true->(∃(g_1:Nat×Nat),A15=(↑g_1.1:Int)/\A24*A34+A19=A24*(↑g_1.2:Int)+A19/\g_1.1<=A28/\((1:Nat)<=g_1.1->Bd w s.grain r g_1.2 true=A15)/\(A28<=g_1.1->Bd w s.grain r g_1.2 false=A15))/\∀(g_1:Nat×Nat),let A50:=(↑g_1.1:Int);let A5:=(decide (A50=A15));let
 A2:=(EU A7 A14 A39 A40 A5);let A36:=(Du r A5 A2);let A35:=(Dl r A5 A2);let A16:=(EA s.id A35.a A36.b);A24*A34+A19=A24*(↑g_1.2:Int)+A19/\g_1.1<=A28/\((1:Nat)<=g_1.1->Bd w s.grain r g_1.2 true=A15)/\(A28<=g_1.1->Bd w s.grain r g_1.2 false=A15)->(decide (A50<A24)=true->(A15<=A24*A34+A19/\A24*A34+A19 <
 A23)/\Ad .i64 (A23-A19)/\Ad .i64 A6/\(A15<=A23-A19-A4/\A23-A19-A4<A23)/\Ad .i64 A39/\Ad .i64 A40/\((∀(i:Nat),let A56:=[I (A7.g i).w,I (A7.g i).h];i<A7.n->A56=A56)/\(∀(i:Nat),let A55:=[I (A14.g i).w,I (A14.g i).h];i<A14.n->A55=A55)/\A7.n<=A48/\A14.n<=A48/\A15<=r.b.x-r.a.x /\
 r.b.x-r.a.x<=A61/\A15<=r.b.y-r.a.y/\r.b.y-r.a.y<=A61/\∀(i:Nat),i<A7.n->A15<=(A7.g i).w/\(A7.g i).w<=(61440:Int)/\A15<=(A7.g i).h/\(A7.g i).h<=(61440:Int))/\(decide (EU A7 A14 A39 A40 A5=A15)=true->Ad .i64 (A50+A19)/\∃(g':Nat×Nat),A50+A19=(↑g'.1:Int)/\A24*A34+A19=A24*A34+A19/\A9/\SV.ref A12 A45
 = SV.ref A12 A45/\SV.ref A10 A45=SV.ref A10 A45/\A11/\(A24*A34+A19=A24*(↑g'.2:Int)+A19/\g'.1<=A28/\((1:Nat)<=g'.1->Bd w s.grain r g'.2 true=A15)/\(A28<=g'.1->Bd w s.grain r g'.2 false=A15))/\A28-g'.1<A28-g_1.1)/\(decide (EU A7 A14 A39 A40 A5=A15)=false->(Eb r/\A15<=EU A7 A14 A39 A40 A5/\EU
 A7 A14 A39 A40 A5<=A61)/\True/\A57/\∃(t:L.Sq Ab×Aj×Bx),let A25:=(Bj (CH t.2.1 t.1 t.2.2));let A22:=(AA (Cg t.2.1 t.1 t.2.2));(A58.n=t.1.n/\∀(i:Nat),let A54:=(t.1.g i);let A29:=(A58.g i);i<A58.n -> [I A29.id,I A29.colour,I A29.grain,SV.sl A28 A29.ol.n fun(i_1:Nat)=>[I (A29.ol.g i_1).x,I (A29.ol.g i_1).y]]= [I A54.id,I
 A54.colour,I A54.grain,SV.sl A28 A54.ol.n fun(i1:Nat)=>[I (A54.ol.g i1).x,I (A54.ol.g i1).y]])/\SV.agg A10=SV.agg [I t.2.1.id,I t.2.1.colour,I t.2.1.w,I t.2.1.h,I t.2.1.grain]/\SV.agg [I A36.sheet,I A36.a.x,I A36.a.y,I A36.b.x,I A36.b.y,I A36.beg]=SV.agg [I t.2.2.sheet,I t.2.2.a.x,I t.2.2.a.y,I t.2.2.b.x,I t.2.2.b.y,I t.2.2.beg]/\((B7
 t.1/\Eb t.2.2)/\t.1.n<rn)/\∀(u:Nat),True->Ad .i64 (A23-A19)/\Ad .i64 A6/\A57/\∃(t_1:L.Sq Ab×Aj×Bx),let A27:=(AA (Cg t_1.2.1 t_1.1 t_1.2.2));let A26:=(Bj (CH t_1.2.1 t_1.1 t_1.2.2));(A59.n=t_1.1.n/\∀(i:Nat),let A51:=(t_1.1.g i);let A30:=(A59.g i);i<A59.n -> [I A30.id,I A30.colour,I A30.grain,
 SV.sl A28 A30.ol.n fun(i_1:Nat)=>[I (A30.ol.g i_1).x,I (A30.ol.g i_1).y]]= [I A51.id,I A51.colour,I A51.grain,SV.sl A28 A51.ol.n fun(i1:Nat)=>[I (A51.ol.g i1).x,I (A51.ol.g i1).y]])/\SV.agg A10=SV.agg [I t_1.2.1.id,I t_1.2.1.colour,I t_1.2.1.w,I t_1.2.1.h,I t_1.2.1.grain]/\SV.agg [I A35.sheet,I A35.a.x,I A35.a.y,I A35.b.x,I A35.b.y,I
 A35.beg]=SV.agg [I t_1.2.2.sheet,I t_1.2.2.a.x,I t_1.2.2.a.y,I t_1.2.2.b.x,I t_1.2.2.b.y,I t_1.2.2.beg]/\((B7 t_1.1/\Eb t_1.2.2)/\t_1.1.n<rn)/\∀(u:Nat),True->(A25.n+A26.n)*nat_lit 40<=A52/\(nat_lit 1+A22.n)*nat_lit 48<=A52/\(nat_lit 1+A22.n+A27.n)*nat_lit 48<=A52/\∃(u:Nat),(A25.n+A26.n=A17.n/\∀(i:Nat),i<A25.n+A26.n->AU
 A25.n (fun(k:Nat)=>Co (A25.g k)) (fun(k:Nat)=>Co (A26.g k)) i=Co (A17.g i))/\(nat_lit 1+A22.n+A27.n=A18.n/\∀(i:Nat),i<nat_lit 1+A22.n+A27.n->AU (nat_lit 1+A22.n) (AU (nat_lit 1) (BX [I A16.sheet,I A16.kind,I A16.want,SV.sl (nat_lit 2) A16.pts.n fun(i:Nat)=>[I (A16.pts.g i).x,I (A16.pts.g i).y]] (nat_lit 4)) fun(k
:Nat)=>AL (A22.g k)) (fun(k:Nat)=>AL (A27.g k)) i=AL (A18.g i))/\True))/\(decide (A50<A24)=false->Ad .i64 (A24*A34+A19+A24)/\∃(g':Nat),A24*A34+A19+A24=A24*(↑g':Int)+A19/\A9/\SV.ref A12 A45=SV.ref A12 A45/\SV.ref A10 A45=SV.ref A10 A45/\A11/\(g'<=DA w/\∀(i:Nat),i<g'->Bd w
 s.grain r i true=A15/\Bd w s.grain r i false=A15)/\DA w-g'<DA w-g))/\(decide (A24*A34+A19<A23-A19)=false->∃(u:Nat),A37/\A38/\True)))) (by kernel_rfl) (by
  conv=>zeta
  obtain⟨hok,hT⟩:=(show B7 w/\Eb r from hp);have hmu:w.n<rn+1:=hmu;obtain⟨t1,t2,t3,t4,t5,t6⟩:=(show Eb r from hT);obtain⟨a1,a2,a3,a4⟩:=G0 hok.1;have nE:(Cn w:Int)=BJ 1 w.n:=Ags a3;have aE:Az w.n=BJ 1 w.n-1:=rfl;have eA:(Cn w:Int)-1=Az w.n:=by omega
  have rE:DA w=(Cn w-1) / 2:=rfl;rw[show(0:Int).toNat=0 from rfl];refine⟨fun h0=>?_,fun h0=>⟨fun h1=>?_,fun h1=>?_⟩⟩
  ·have h0:(w.n:Int)=0:=of_decide_eq_true h0;obtain⟨e1,e2⟩:=cZ (sh:=s) (r:=r) (show w.n=0 by omega);rw[e1,e2];exact⟨(0:Nat),(by(try dsimp only);(repeat' with_reducible apply And.intro)<;>first|with_reducible rfl|with_reducible exact fun _=>rfl|with_reducible exact fun _ _=>rfl|with_reducible exact trivial|exact rfl|(intro _;exact rfl)|(intro _ _;exact rfl)|exact trivial|(intro _ h_;exact absurd h_ (Rc _)))⟩
  ·have h1:(w.n:Int)=1:=of_decide_eq_true h1;obtain⟨e1,e2⟩:=dA (sh:=s) (r:=r) (show w.n=1 by omega);rw[e1,e2];have c1:0<(w.n:Int):=by omega
   have ol:(w.g 0).ol.n<=1000000:=hok.2 0 (by omega);have pl:∀q:Nat->List SV,q 0=Co (F3 (w.g 0) s r)->∀i,i<1->q i=Co ((Bj [F3 (w.g 0) s r]).g i):=fun q hq i hi=>by
    obtain rfl:i=0:=by omega
    exact hq
   repeat' with_reducible apply And.intro
   all_goals first|exact Af4 _|exact c1|exact⟨(w.g 0,s,r),(by(try dsimp only);(repeat' with_reducible apply And.intro)<;>first|with_reducible rfl|with_reducible assumption|with_reducible exact fun _=>rfl|with_reducible exact fun _ _=>rfl|with_reducible exact trivial|(intro u _;exact⟨u,(by(try dsimp only);(repeat' with_reducible apply And.intro)<;>first|with_reducible rfl|with_reducible exact(pl _ rfl)|with_reducible exact fun _=>rfl|with_reducible exact fun _ _=>rfl|with_reducible exact trivial|exact rfl|(intro _;exact rfl)|(intro _ _;exact rfl)|exact(pl _ rfl)|exact trivial|(intro _ h_;exact absurd h_ (Rc _)))⟩)|exact rfl|(intro _;exact rfl)|(intro _ _;exact rfl)|exact ol|exact hT|exact trivial|(intro _ h_;exact absurd h_ (Rc _)))⟩
  have h0:¬ (w.n:Int)=0:=of_decide_eq_false h0;have h1:¬ (w.n:Int)=1:=of_decide_eq_false h1;have n2:2<=w.n:=by omega
  have kN:Ad .i64 ((Cn w:Int)-1):=E9;have z0:∀i,i<0->Bd w s.grain r i true=0/\Bd w s.grain r i false=0:=fun i hi=>absurd hi (Rc _);refine⟨⟨fun _ _ _ _=>rfl,hok⟩,⟨0,rfl,Afg _,z0⟩,fun k hk=>⟨kN,fun hc=>?_,fun hc=>?_⟩⟩;rotate_left
  ·have hc:¬ 2*(k:Int)+1<(Cn w:Int)-1:=of_decide_eq_false hc;obtain rfl:k=DA w:=by omega
   obtain⟨e1,e2⟩:=Ac8 (sh:=s) (r:=r) n2 (QI hk.2);rw[e1,e2];exact⟨(0:Nat),(by(try dsimp only);(repeat' with_reducible apply And.intro)<;>first|with_reducible rfl|with_reducible exact fun _=>rfl|with_reducible exact fun _ _=>rfl|with_reducible exact trivial|exact rfl|(intro _;exact rfl)|(intro _ _;exact rfl)|exact trivial|(intro _ h_;exact absurd h_ (Rc _)))⟩
  have hc:2*(k:Int)+1<(Cn w:Int)-1:=of_decide_eq_true hc;have kr:k<DA w:=by omega
  obtain⟨l1,l2,c1,c2⟩:=NG hok.1 kr;have e7:((2*(k:Int)+1).toNat:Int)=2*(k:Int)+1:=Ags (by omega);have e8:((Az w.n-(2*(k:Int)+1)).toNat:Int)=Az w.n-(2*(k:Int)+1):=Ags c1;refine⟨⟨(0,k),(by(try dsimp only);(repeat' with_reducible apply And.intro)<;>first|with_reducible rfl|with_reducible exact Afg _|with_reducible exact fun _=>rfl|with_reducible exact fun _ _=>rfl|with_reducible exact trivial|(intro h;exact absurd h (by decide))|exact rfl|(intro _;exact rfl)|(intro _ _;exact rfl)|exact Afg _|exact trivial|(intro _ h_;exact absurd h_ (Rc _)))⟩,fun t ht=>⟨fun hd=>?_,fun hd=>?_⟩⟩;rotate_left
  ·obtain⟨d,k2⟩:=t;obtain⟨tk,d2,i1,i2⟩:=ht;have tk:2*(k:Int)+1=2*(k2:Int)+1:=tk;obtain rfl:k=k2:=by omega
   have hd:¬ (d:Int)<2:=of_decide_eq_false hd;have d2:d<=2:=d2;have i1:=i1 (show 1<=d by omega);have i2:=i2 (show 2<=d by omega);have cn:2*(k:Int)+1+2=2*((k+1:Nat):Int)+1:=by omega
   have g1:k+1<=DA w:=by omega
   have g2:DA w-(k+1)<DA w-k:=by omega
   have zs:∀i,i<k+1->Bd w s.grain r i true=0/\Bd w s.grain r i false=0:=fun i hi=>by
    by_cases e:i=k
    ·rw[e];exact⟨i1,i2⟩
    ·exact hk.2 i (by omega)
   exact⟨E9,k+1,(by(try dsimp only);(repeat' with_reducible apply And.intro)<;>first|with_reducible rfl|with_reducible assumption|with_reducible exact fun _=>rfl|with_reducible exact fun _ _=>rfl|with_reducible exact trivial|exact rfl|(intro _;exact rfl)|(intro _ _;exact rfl)|exact cn|exact g1|exact g2|exact zs|exact trivial|(intro _ h_;exact absurd h_ (Rc _)))⟩
  obtain⟨d,k2⟩:=t;obtain⟨tk,d2,i1,i2⟩:=ht;have tk:2*(k:Int)+1=2*(k2:Int)+1:=tk;obtain rfl:k=k2:=by omega
  have hd:(d:Int)<2:=of_decide_eq_true hd;dsimp only at i1 i2 d2 ⊢;rw[eA,e7,e8];obtain⟨up,hu⟩:∃up,decide ((d:Int)=0)=up:=⟨_,rfl⟩;have u1:up=true->d=0:=fun h=>by rw[h]at hu;have:=of_decide_eq_true hu;omega
  have u0:up=false->d=1:=fun h=>by rw[h]at hu;have:=of_decide_eq_false hu;omega
  rw[hu];have hF:EU (Ae w s.grain (2*(k:Int)+1)) (Ae w s.grain (Az w.n-(2*(k:Int)+1))) (r.b.x-r.a.x) (r.b.y-r.a.y) up=Bd w s.grain r k up:=by unfold Bd;rfl
  rw[hF];have lA:(Ae w s.grain (2*(k:Int)+1)).n<=1000000:=AfI (Hv w s.grain (by omega) (by omega)) (by decide);have lB:(Ae w s.grain (Az w.n-(2*(k:Int)+1))).n<=1000000:=AfI (Hv w s.grain c1 c2) (by decide);have bA:∀i,i<(Ae w s.grain (2*(k:Int)+1)).n->0<=((Ae w s.grain (2*(k:Int)+1)).g i).w/\((Ae w s.grain (2*(k:Int)+1)).g i).w<=61440/\0<=((Ae w s.grain (2*(k:Int)+1)).g i).h/\((Ae w s.grain (2*(k:Int)+1)).g i).h<=61440:=fun i hi=>QK w s.grain (by omega) (by omega) hi;have b1:0<=2*(k:Int)+1:=by omega
  have b2:2*(k:Int)+1<(Cn w:Int):=by omega
  have b3:Az w.n-(2*(k:Int)+1)<(Cn w:Int):=by omega
  have x1:0<=r.b.x-r.a.x:=by omega
  have x2:r.b.x-r.a.x<=4096:=by omega
  have x3:0<=r.b.y-r.a.y:=by omega
  have x4:r.b.y-r.a.y<=4096:=by omega
  have q1:Ad .i64 (Az w.n):=E9;have q2:Ad .i64 (Az w.n-(2*(k:Int)+1)):=E9;have q3:Ad .i64 (r.b.x-r.a.x):=E9;have q4:Ad .i64 (r.b.y-r.a.y):=E9;refine⟨⟨b1,b2⟩,q1,q2,⟨c1,b3⟩,q3,q4,⟨fun _ _=>rfl,fun _ _=>rfl,lA,lB,x1,x2,x3,x4,bA⟩,fun hz=>?_,fun hz=>?_⟩
  ·have hz:Bd w s.grain r k up=0:=of_decide_eq_true hz;have cn:(d:Int)+1=((d+1:Nat):Int):=by omega
   have g1:d+1<=2:=by omega
   have g2:2-(d+1)<2-d:=by omega
   have j1:1<=d+1->Bd w s.grain r k true=0:=fun _=>by
    cases up with
    |true=>exact hz
    |false=>exact i1 (by rw[u0 rfl];exact Afo _)
   have j2:2<=d+1->Bd w s.grain r k false=0:=fun h=>by
    cases up with
    |true=>have:=u1 rfl;omega
    |false=>exact hz
   exact⟨E9,(d+1,k),(by(try dsimp only);(repeat' with_reducible apply And.intro)<;>first|with_reducible rfl|with_reducible assumption|with_reducible exact fun _=>rfl|with_reducible exact fun _ _=>rfl|with_reducible exact trivial|exact rfl|(intro _;exact rfl)|(intro _ _;exact rfl)|exact cn|exact g1|exact g2|exact j1|exact j2|exact trivial|(intro _ h_;exact absurd h_ (Rc _)))⟩
  have hz:¬ Bd w s.grain r k up=0:=of_decide_eq_false hz;obtain⟨p1,p2,tA,tB⟩:=AcA hok.1 hT kr hz;have hrd:=cV hz (fun h=>i1 (by rw[u0 h];exact Afo _)) hk.2 kr;obtain⟨e1,e2⟩:=dB (sh:=s) n2 hok.1 hrd rfl;generalize Bd w s.grain r k up=p at *;have oA:=cY hok (2*(k:Int)+1);have oB:=cY hok (Az w.n-(2*(k:Int)+1));have m1:(B5 w (2*(k:Int)+1)).n<rn:=Afp l1 (Nat.lt_succ_iff.1 hmu);have m2:(B5 w (Az w.n-(2*(k:Int)+1))).n<rn:=Afp l2 (Nat.lt_succ_iff.1 hmu);have w4:w.n<=1000:=AfI hok.1 (by decide);unfold Hy GW at e1 e2;obtain⟨y1,y2⟩:=AcB e1;have y34:=fun(q:Nat->List SV) (hq:q 0=AL (NF s.id r up p))=>AcC hq e2;have n1:=NI s (B5 w (2*(k:Int)+1)) (Du r up p);have n3:=NI s (B5 w (Az w.n-(2*(k:Int)+1))) (Dl r up p);have f1:(Bj (CH s (B5 w (2*(k:Int)+1)) (Du r up p))).n<=127:=n1.1;have f2:(AA (Cg s (B5 w (2*(k:Int)+1)) (Du r up p))).n<=127:=n1.2;have f3:(Bj (CH s (B5 w (Az w.n-(2*(k:Int)+1))) (Dl r up p))).n<=127:=n3.1;have f4:(AA (Cg s (B5 w (Az w.n-(2*(k:Int)+1))) (Dl r up p))).n<=127:=n3.2;have s1:((Bj (CH s (B5 w (2*(k:Int)+1)) (Du r up p))).n+(Bj (CH s (B5 w (Az w.n-(2*(k:Int)+1))) (Dl r up p))).n)*40<=140737488355328:=by omega
  have s2:(1+(AA (Cg s (B5 w (2*(k:Int)+1)) (Du r up p))).n)*48<=140737488355328:=by omega
  have s3:(1+(AA (Cg s (B5 w (2*(k:Int)+1)) (Du r up p))).n+(AA (Cg s (B5 w (Az w.n-(2*(k:Int)+1))) (Dl r up p))).n)*48<=140737488355328:=by omega
  refine⟨⟨hT,p1,p2⟩,trivial,⟨fun _ _ _ _=>rfl,w4⟩,(B5 w (2*(k:Int)+1),s,Du r up p),?_⟩;refine⟨⟨rfl,fun _ _=>rfl⟩,rfl,rfl,⟨⟨oA,tA⟩,m1⟩,fun u _=>⟨q1,q2,⟨fun _ _ _ _=>rfl,w4⟩,(B5 w (Az w.n-(2*(k:Int)+1)),s,Dl r up p),?_⟩⟩;refine⟨⟨rfl,fun _ _=>rfl⟩,rfl,rfl,⟨⟨oB,tB⟩,m2⟩,fun u2 _=>⟨s1,s2,s3,u,⟨y1,y2⟩,y34 _ rfl,trivial⟩⟩)
theorem dF:Ao Tryz.prog 45:=fun args w=>by kernel_rfl
theorem AcE:Dq Tryz.prog 45 Iv:=Lu dE ⟨fun t=>rfl,fun t u=>rfl,fun t u=>rfl,fun t u=>⟨rfl,rfl,rfl⟩,.inl rfl,fun k h=>(by cases h)⟩ (fun rn ih=>FE (n:=3) Tryz.func45 (c:=Ah Tryz.f45) (by kernel_rfl) mixed ⟨fun t=>rfl,fun t=>rfl,fun t u=>rfl,fun t u=>rfl,fun t u=>rfl,fun t u=>⟨rfl,rfl⟩,by kernel_rfl,by kernel_rfl⟩ (fun⟨w,s,r⟩ hp=>⟨_,AcD rn w s r hp.1 hp.2,⟨show Aa Tryz.prog _ from(Aa.cons Q8 Q9 (Aa.cons Aco Acp (Aa.cons Ack Acl (Aa.cons bV bW (Aa.cons Z9 ZA Aa.nil))))),rfl,⟨show Ag Tryz.prog _ from Ag.nil,⟨Aw.no1 (fun _=>rfl),⟨show Bm Tryz.prog _ from(Bm.cons Acs Acr (Bm.cons ih dF Bm.nil)),FamsOk.none (fun _=>rfl)⟩⟩⟩⟩⟩))
end
def Ch (w:L.Sq Ab) (gr g:Int) (r:AE) (k j:Nat):Bool:=bif Cd w gr (Al g k) (Bc r (AN r j) (AH r j)).size then Cd w gr (AO g k) (Bi r (AN r j) (AH r j)).size else false
def NJ (w:L.Sq Ab) (gr g:Int) (r:AE) (p:Int) (up:Bool) (by_:Int):Bool:=bif Cd w gr p (Bc r up by_).size then Cd w gr (Dv g p) (Bi r up by_).size else false
def DO (w:L.Sq Ab) (gr g:Int) (r:AE):Option (Nat×Nat):=(Afm (AD g)).findSome? fun k=>((Afm (Bo r)).find? (Ch w gr g r k)).map fun j=>(k,j)
def ED (w:L.Sq Ab) (sh:Aj):Nat->Int->AE->FL->FL
 |0,_,_,s=>s
 |n+1,g,r,s=>if g=0 then s else if Bs g=true then⟨D9 w sh (AI g) r s.pl,E8 w sh (AI g) r s.sc⟩else match DO w sh.grain g r with
   |none=>s
   |some (k,j)=>ED w sh n (AO g k) (Bi r (AN r j) (AH r j)) (ED w sh n (Al g k) (Bc r (AN r j) (AH r j)) ⟨s.pl,B9 s.sc (BC r sh.id (AN r j) (AH r j))⟩)
def CN (w:L.Sq Ab) (sh:Aj) (g:Int) (r:AE) (s:FL):FL:=ED w sh 16 g r s
def D3 (w:L.Sq Ab) (sh:Aj) (g:Int) (r:AE) (P:Nat->AZ) (S:List AY):Nat->AZ:=(CN w sh g r ⟨P,S⟩).pl
def Ee (w:L.Sq Ab) (sh:Aj) (g:Int) (r:AE) (P:Nat->AZ) (S:List AY):List AY:=(CN w sh g r ⟨P,S⟩).sc
theorem LL {w:L.Sq Ab} {gr g:Int} {r:AE} {k j:Nat} (h:DO w gr g r=some (k,j)):k<AD g/\j<Bo r/\Ch w gr g r k j=true:=by
 unfold DO at h;obtain⟨k',h1,h2⟩:=List.exists_of_findSome?_eq_some h;cases h3:(Afm (Bo r)).find? (Ch w gr g r k')with
 |none=>rw[h3]at h2;cases h2
 |some j' =>
   rw[h3]at h2;simp only[AfX,Agf,Prod.mk.injEq]at h2;obtain⟨rfl,rfl⟩:=h2;exact⟨Afl.1 h1,Afl.1 (List.mem_of_find?_eq_some h3),List.find?_some h3⟩
theorem dG {w:L.Sq Ab} {gr g:Int} {r:AE} {k j:Nat} (hk:k<AD g) (hj:j<Bo r) (h:Ch w gr g r k j=true) (h1:∀k',k'<k->∀j',j'<Bo r->Ch w gr g r k' j'=false) (h2:∀j',j'<j->Ch w gr g r k j'=false):DO w gr g r=some (k,j):=by
 cases hf:DO w gr g r with
 |none =>
   unfold DO at hf;have:=Agg.1 hf k (Afl.2 hk);rw[Agp,Agy]at this;exact absurd h (this j (Afl.2 hj))
 |some x =>
   obtain⟨k',j'⟩:=x
   -- the first one
   have hfirst:∀n,(Afm n).findSome? (fun k=>((Afm (Bo r)).find? (Ch w gr g r k)).map fun j=>(k,j))=some (k',j')->k<n->k'=k/\j'=j:=fun n=>by
    induction n with
    |zero=>intro _ h;omega
    |succ n ih =>
      intro hh hlt;rw[Ag8,List.findSome?_append]at hh
      by_cases hkn:k<n
      ·have e : ((Afm n).findSome? (fun k =>((Afm (Bo r)).find? (Ch w gr g r k)).map fun j =>(k, j)))≠none :=fun e =>by
        have:=Agg.1 e k (Afl.2 hkn);rw[Agp,Agy]at this;exact absurd h (this j (Afl.2 hj))
       obtain⟨y,hy⟩:=Option.ne_none_iff_exists'.1 e;rw[hy]at hh;simp only[Option.some_or,Agf]at hh;rw[hh]at hy;exact ih hy hkn
      ·obtain rfl:k=n:=by omega
       have e:((Afm k).findSome? (fun k=>((Afm (Bo r)).find? (Ch w gr g r k)).map fun j=>(k,j)))=none:=Agg.2 fun k2 hk2=>by
        rw[Agp,Agy];intro j2 hj2;rw[h1 k2 (Afl.1 hk2) j2 (Afl.1 hj2)];decide
       rw[e]at hh;simp only[Option.none_or,List.findSome?_cons,List.findSome?_nil]at hh;cases h3:(Afm (Bo r)).find? (Ch w gr g r k)with
       |none=>rw[h3]at hh;cases hh
       |some j2 =>
         rw[h3]at hh;simp only[AfX,Agf,Prod.mk.injEq]at hh;obtain⟨rfl,rfl⟩:=hh;refine⟨rfl,?_⟩;have h5:=List.find?_some h3;rw[List.find?_range_eq_some]at h3;obtain⟨_,_,h4⟩:=h3;rcases AgM j2 j with h6|h6|h6
         ·rw[h2 j2 h6]at h5;cases h5
         ·exact h6
         ·have:=h4 j h6;rw[h]at this;cases this
   obtain⟨rfl,rfl⟩:=hfirst (AD g) hf hk;rfl
theorem AcF {w:L.Sq Ab} {gr g:Int} {r:AE} (h1:∀k,k<AD g->∀j,j<Bo r->Ch w gr g r k j=false):DO w gr g r=none:=Agg.2 fun k hk=>by
 rw[Agp,Agy];intro j hj;rw[h1 k (Afl.1 hk) j (Afl.1 hj)];decide
theorem dH {r:AE} (h:Db r) {j:Nat} (hj:j<Bo r):1<=AH r j/\AH r j<4096/\(AN r j=true->AH r j<r.size.w)/\(AN r j=false->AH r j<r.size.h):=by
 obtain⟨h1,h2,h3,h4,h5,h6⟩:=h;have eW:BD r=(r.size.w-1).toNat:=rfl;have eN:Bo r=(r.size.w-1).toNat+(r.size.h-1).toNat:=rfl
 by_cases hl:j<BD r
 ·have e:AN r j=true:=decide_eq_true hl;unfold AH;rw[e,cond_true];refine⟨by omega,by omega,fun _=>by omega,(fun h=>by cases h)⟩
 ·have e:AN r j=false:=decide_eq_false hl;unfold AH;rw[e,cond_false];refine⟨by omega,by omega,(fun h=>by cases h),fun _=>by omega⟩
theorem AcG {r:AE} (h:Db r) {j:Nat} (hj:j<Bo r):Db (Bc r (AN r j) (AH r j))/\Db (Bi r (AN r j) (AH r j)):=by
 obtain⟨b1,b2,b3,b4⟩:=dH h hj;obtain⟨h1,h2,h3,h4,h5,h6⟩:=h;cases e:AN r j with
 |true =>
   have:=b3 e;unfold Bc Bi Db;simp only[cond_true];refine⟨⟨h1,h2,?_,h4,?_,h6⟩,?_,h2,?_,h4,?_,h6⟩<;>omega
 |false =>
   have:=b4 e;unfold Bc Bi Db;simp only[cond_false];refine⟨⟨h1,h2,h3,?_,h5,?_⟩,h1,?_,h3,?_,h5,?_⟩<;>omega
theorem NK (w:L.Sq Ab) (sh:Aj):∀(n m:Nat) (g:Int) (r:AE) (s:FL),0<=g->g<=15->g<n->g<m->ED w sh n g r s=ED w sh m g r s
 |0,_,g,r,s,h0,h15,h,_=>by omega
 |n+1,0,g,r,s,h0,h15,_,h=>by omega
 |n+1,m+1,g,r,s,h0,h15,h,h'=>by
   rw[ED,ED]
   by_cases e:g=0
   ·rw[if_pos e,if_pos e]
   ·rw[if_neg e,if_neg e];cases h1:Bs g with
    |true=>rfl
    |false =>
      rw[if_neg (by decide),if_neg (by decide)];cases hd:DO w sh.grain g r with
      |none=>rfl
      |some x =>
        obtain⟨k,j⟩:=x;obtain⟨p1,p2,p3,p4,_⟩:=(FK (show 1<=g by omega) h15 h1).2 k (LL hd).1;simp only;rw[NK w sh n m (Al g k) _ _ (by omega) (by omega) (by omega) (by omega),NK w sh n m (AO g k) _ _ (by omega) (by omega) (by omega) (by omega)]
theorem dI (w:L.Sq Ab) (sh:Aj) (r:AE) (s:FL):CN w sh 0 r s=s:=by unfold CN;rw[ED,if_pos rfl]
theorem QL (w:L.Sq Ab) (sh:Aj) {g:Int} (r:AE) (s:FL) (h:1<=g) (h1:Bs g=true):CN w sh g r s=⟨D9 w sh (AI g) r s.pl,E8 w sh (AI g) r s.sc⟩:=by
 unfold CN;rw[ED,if_neg (by omega),if_pos h1]
theorem AcH (w:L.Sq Ab) (sh:Aj) {g:Int} {r:AE} (s:FL) (h:1<=g) (h1:Bs g=false) (hd:DO w sh.grain g r=none):CN w sh g r s=s:=by
 unfold CN;rw[ED,if_neg (by omega),if_neg (by rw[h1];decide),hd]
theorem QM (w:L.Sq Ab) (sh:Aj) {g:Int} {r:AE} (s:FL) (h:1<=g) (h15:g<=15) (h1:Bs g=false) {k j:Nat} (hd:DO w sh.grain g r=some (k,j)) :
  CN w sh g r s=CN w sh (AO g k) (Bi r (AN r j) (AH r j)) (CN w sh (Al g k) (Bc r (AN r j) (AH r j)) ⟨s.pl,B9 s.sc (BC r sh.id (AN r j) (AH r j))⟩):=by
 obtain⟨p1,p2,p3,p4,_⟩:=(FK h h15 h1).2 k (LL hd).1;have e:CN w sh g r s=ED w sh (15+1) g r s:=rfl;rw[e,ED,if_neg (by omega),if_neg (by rw[h1];decide),hd];simp only;rw[NK w sh 15 16 (Al g k) _ _ (by omega) (by omega) (by omega) (by omega),NK w sh 15 16 (AO g k) _ _ (by omega) (by omega) (by omega) (by omega)];rfl
theorem AcI (w:L.Sq Ab) (sh:Aj) (i:Nat) (r:AE) (S:List AY):(E8 w sh i r S).length<=S.length+2:=by
 unfold E8 E7;cases decide ((BS w sh i r).w<r.size.w)<;>cases decide ((BS w sh i r).h<(ET w sh i r).size.h)<;>simp[LH]
theorem QN (w:L.Sq Ab) (sh:Aj):∀(n:Nat) (g:Int) (r:AE) (s:FL),0<=g->g<=15->g<n->(ED w sh n g r s).sc.length<=s.sc.length+(3*g-1).toNat
 |0,g,r,s,h0,h15,h=>by omega
 |n+1,g,r,s,h0,h15,h=>by
   rw[ED]
   by_cases e:g=0
   ·rw[if_pos e];omega
   ·rw[if_neg e];cases h1:Bs g with
    |true =>
      rw[if_pos rfl];have:=AcI w sh (AI g) r s.sc;simp only;omega
    |false =>
      rw[if_neg (by decide)];cases hd:DO w sh.grain g r with
      |none=>simp only;omega
      |some x =>
        obtain⟨k,j⟩:=x;obtain⟨p1,p2,p3,p4,p5⟩:=(FK (show 1<=g by omega) h15 h1).2 k (LL hd).1;simp only;have b1:=QN w sh n (Al g k) (Bc r (AN r j) (AH r j)) ⟨s.pl,B9 s.sc (BC r sh.id (AN r j) (AH r j))⟩ (by omega) (by omega) (by omega);have b2:=QN w sh n (AO g k) (Bi r (AN r j) (AH r j)) (ED w sh n (Al g k) (Bc r (AN r j) (AH r j)) ⟨s.pl,B9 s.sc (BC r sh.id (AN r j) (AH r j))⟩) (by omega) (by omega) (by omega);simp only[LH]at b1;omega
theorem AcJ (w:L.Sq Ab) (sh:Aj) (g:Int) (r:AE) (s:FL) (h0:0<=g) (h15:g<=15):(CN w sh g r s).sc.length<=s.sc.length+(3*g-1).toNat:=QN w sh 16 g r s h0 h15 (by omega)
theorem AcK (w:L.Sq Ab) (sh:Aj) (r:AE) (P:Nat->AZ) (S:List AY):D3 w sh 0 r P S=P/\Ee w sh 0 r P S=S:=by unfold D3 Ee;rw[dI];exact⟨rfl,rfl⟩
theorem AcL (w:L.Sq Ab) (sh:Aj) {g:Int} (r:AE) (P:Nat->AZ) (S:List AY) (h:1<=g) (h1:Bs g=true):D3 w sh g r P S=D9 w sh (AI g) r P/\Ee w sh g r P S=E8 w sh (AI g) r S:=by
 unfold D3 Ee;rw[QL w sh r _ h h1];exact⟨rfl,rfl⟩
theorem AcM (w:L.Sq Ab) (sh:Aj) {g:Int} {r:AE} (P:Nat->AZ) (S:List AY) (h:1<=g) (h1:Bs g=false) (hd:DO w sh.grain g r=none):D3 w sh g r P S=P/\Ee w sh g r P S=S:=by
 unfold D3 Ee;rw[AcH w sh _ h h1 hd];exact⟨rfl,rfl⟩
theorem AcN (w:L.Sq Ab) (sh:Aj) {g:Int} {r:AE} (P:Nat->AZ) (S:List AY) (h:1<=g) (h15:g<=15) (h1:Bs g=false) {k j:Nat} (hd:DO w sh.grain g r=some (k,j)) :
  D3 w sh g r P S=D3 w sh (AO g k) (Bi r (AN r j) (AH r j)) (D3 w sh (Al g k) (Bc r (AN r j) (AH r j)) P (B9 S (BC r sh.id (AN r j) (AH r j)))) (Ee w sh (Al g k) (Bc r (AN r j) (AH r j)) P (B9 S (BC r sh.id (AN r j) (AH r j)))) /\
  Ee w sh g r P S=Ee w sh (AO g k) (Bi r (AN r j) (AH r j)) (D3 w sh (Al g k) (Bc r (AN r j) (AH r j)) P (B9 S (BC r sh.id (AN r j) (AH r j)))) (Ee w sh (Al g k) (Bc r (AN r j) (AH r j)) P (B9 S (BC r sh.id (AN r j) (AH r j)))):=by
 unfold D3 Ee;rw[QM w sh _ h h15 h1 hd];dsimp only;generalize CN w sh (Al g k) (Bc r (AN r j) (AH r j)) _=X;cases X;exact⟨rfl,rfl⟩
theorem AcO (w:L.Sq Ab) (sh:Aj) (g:Int) (r:AE) (P:Nat->AZ) (S:List AY) (h0:0<=g) (h15:g<=15):(Ee w sh g r P S).length<=S.length+(3*g-1).toNat:=AcJ w sh g r ⟨P,S⟩ h0 h15
section
attribute [local irreducible] Al Dv D6 Gl Az ED CN Cd Ae AW D9 E8 AI AD DO
abbrev Iw:Mk:={ T:=(L.Sq Ab)×(Aj)×(Int->Bool)×(Nat->AZ)×(List AY)×(Int)×(AE),U:=Int->Bool,args:=fun t=>(fun w sh dom P S g r=>[.loc 1002 0,.p (.int .i64 g),.p ((.agg [.int .i64 r.at_.x,.int .i64 r.at_.y,.int .i64 r.size.w,.int .i64 r.size.h]))]) t.1 t.2.1 t.2.2.1 t.2.2.2.1 t.2.2.2.2.1 t.2.2.2.2.2.1 t.2.2.2.2.2.2,lkeys:=[1000,1001,1002,1003,1004],keys:=[],lent:=fun t=>(fun w sh dom P S g r=>[(1000,.blk 130 [.p ((.sl 4 w.n (fun i=>[.int .i64 ((w.g i).id),.int .i64 ((w.g i).colour),.int .i64 ((w.g i).grain),.sl 2 (w.g i).ol.n (fun i1=>[.int .i64 (((w.g i).ol.g i1).x),.int .i64 (((w.g i).ol.g i1).y)])]))),.p (.int .i64 sh.grain),.mapv 1001]),(1001,.mq 3 27 dom (Ai (Ae w sh.grain))),(1002,.blk 93 [.loc 1000 0,.p (.int .i64 sh.id),.p (.int .i64 sh.colour),.p (.int .i64 sh.w),.p (.int .i64 sh.h),.p (.int .i64 sh.grain),.row 1003,.row 1004]),(1003,.row 76 5 w.n (fun k=>[.int .i64 ((P k).want),.int .i64 ((P k).sheet),.int .i64 ((P k).turn),.int .i64 ((P k).at_.x),.int .i64 ((P k).at_.y)])),(1004,.row 101 4 (AA (S)).n (fun k=>AL ((AA (S)).g k)))]) t.1 t.2.1 t.2.2.1 t.2.2.2.1 t.2.2.2.2.1 t.2.2.2.2.2.1 t.2.2.2.2.2.2,pre:=fun t=>(fun w sh dom P S g r=>B7 w/\0<=g/\g<=Az w.n/\Db r/\(AA S).n+3*g.toNat<=1000) t.1 t.2.1 t.2.2.1 t.2.2.2.1 t.2.2.2.2.1 t.2.2.2.2.2.1 t.2.2.2.2.2.2,post:=fun t u=>(fun w sh dom P S g r=>fun u=>True) t.1 t.2.1 t.2.2.1 t.2.2.2.1 t.2.2.2.2.1 t.2.2.2.2.2.1 t.2.2.2.2.2.2 u,lent':=fun t u=>(fun w sh dom P S g r=>fun u=>[(1000,.blk 130 [.p ((.sl 4 w.n (fun i=>[.int .i64 ((w.g i).id),.int .i64 ((w.g i).colour),.int .i64 ((w.g i).grain),.sl 2 (w.g i).ol.n (fun i1=>[.int .i64 (((w.g i).ol.g i1).x),.int .i64 (((w.g i).ol.g i1).y)])]))),.p (.int .i64 sh.grain),.mapv 1001]),(1001,.mq 3 27 u (Ai (Ae w sh.grain))),(1002,.blk 93 [.loc 1000 0,.p (.int .i64 sh.id),.p (.int .i64 sh.colour),.p (.int .i64 sh.w),.p (.int .i64 sh.h),.p (.int .i64 sh.grain),.row 1003,.row 1004]),(1003,.row 76 5 w.n (fun k=>[.int .i64 (((D3 w sh g r P S) k).want),.int .i64 (((D3 w sh g r P S) k).sheet),.int .i64 (((D3 w sh g r P S) k).turn),.int .i64 (((D3 w sh g r P S) k).at_.x),.int .i64 (((D3 w sh g r P S) k).at_.y)])),(1004,.row 101 4 (AA (Ee w sh g r P S)).n (fun k=>AL ((AA (Ee w sh g r P S)).g k)))]) t.1 t.2.1 t.2.2.1 t.2.2.2.1 t.2.2.2.2.1 t.2.2.2.2.2.1 t.2.2.2.2.2.2 u,own:=fun t u=>(fun w sh dom P S g r=>fun u=>[]) t.1 t.2.1 t.2.2.1 t.2.2.2.1 t.2.2.2.2.1 t.2.2.2.2.2.1 t.2.2.2.2.2.2 u,res:=fun t u=>(fun w sh dom P S g r=>fun u=>.p (.tup [])) t.1 t.2.1 t.2.2.1 t.2.2.2.1 t.2.2.2.2.1 t.2.2.2.2.2.1 t.2.2.2.2.2.2 u,mv:=some (1004,80) }
abbrev dJ:Iw.T->Nat:=fun t=>(fun w sh dom P S g r=>g.toNat) t.1 t.2.1 t.2.2.1 t.2.2.2.1 t.2.2.2.2.1 t.2.2.2.2.2.1 t.2.2.2.2.2.2
theorem AcP (rn:Nat) (w:L.Sq Ab) (sh:Aj) (dom:Int->Bool) (P:Nat->AZ) (S:List AY) (g:Int) (r:AE) (hp:Iw.pre (w,sh,dom,P,S,g,r)) (hmu:g.toNat<rn+1):vc Tryz.prog ({ muts:=[3],frz:=B2 [],specs:=AB [(75,Qa),(126,bI),(127,QE),(128,QG)],loops:=AV [(4,{ T:=Nat,keep:=[3,4,5],keepO:=[3,80,1000,1001,1002,1003],chg:=fun i=>[(6,.p (.int .i64 (i:Int)))],own:=fun _=>[],inv:=fun i=>i<=AI g,mu:=fun i=>AI g-i })],iters:=Bw [(119,PZ),(152,bM)],rfs:=AT [(8,{ T:=Int->Bool,keep:=[3,4,5],keepO:=[3,80,1000,1002,1003],own:=fun _ d=>[(1001,.mq 3 27 d (Ai (Ae w sh.grain)))],inv:=fun k _=>k<=AD g/\∀k1,k1<k->∀j,j<Bo r->Ch w sh.grain g r k1 j=false }),(10,{ T:=(Int->Bool)×Nat,keep:=[3,4,5,7,31],keepO:=[3,7,80,1000,1002,1003],own:=fun _ t=>[(1001,.mq 3 27 t.1 (Ai (Ae w sh.grain)))],inv:=fun j t=>j<=Bo r/\t.2<AD g/\∀j1,j1<j->Ch w sh.grain g r t.2 j1=false,tie:=fun t=>[(31,.int .i64 (Al g t.2))] })],nils:=B3 [],mks:=El [(41,Jm),(125,Kx),(86,Mk.lt Iw dJ rn)],ren:=fun k=>if k=1004 then 80 else k,joins:=AV [(14,{ T:=(Int->Bool)×Bool×Int×Bool×Int,keep:=[3,4,5,7,8,9,10,11,31],keepO:=[3,7,10,11,80,1000,1002,1003],chg:=fun t=>[(62,.p (.bool t.2.1))],own:=fun t=>[(1001,.mq 3 27 t.1 (Ai (Ae w sh.grain)))],inv:=fun t=>t.2.1=NJ w sh.grain g r t.2.2.1 t.2.2.2.1 t.2.2.2.2,mu:=fun _=>0,tie:=fun t=>[(8,.bool t.2.2.2.1),(9,.int .i64 t.2.2.2.2),(31,.int .i64 t.2.2.1)] }),(15,{ T:=Bool×Int,keep:=[3,4,5,7,8,9,10,11,31],keepO:=[3,7,10,11,1000,1001,1002,1003],chg:=fun _=>[],own:=fun t=>[(80,.row 101 4 (AA ((B9 S (BC r sh.id t.1 t.2)))).n (fun k=>AL ((AA ((B9 S (BC r sh.id t.1 t.2)))).g k)))],inv:=fun _=>True,mu:=fun _=>0,tie:=fun t=>[(8,.bool t.1),(9,.int .i64 t.2)] })],anys:=[1013,1014],rek:=KJ [(1,[(1004,80)])] }) (Ah Tryz.f86) (D7 Tryz.f86 (Iw.args (w,sh,dom,P,S,g,r)) (Iw.lent (w,sh,dom,P,S,g,r))) (Fx Tryz.prog Tryz.f86 Iw (w,sh,dom,P,S,g,r)):=
 @Eq.mpr _ (let I:=SV.int .i64;let T:=Af1;let A68:=(1:Nat);let A67:=(1000:Nat);let A65:=(140737488355328:Nat);let A54:=(1:Int);let A34:=(0:Int);let A29:=(nat_lit 7);let A27:=(0:Nat);let A26:=(nat_lit 31);let A25:=(2:Nat);let A22:=(AA S);let A19:=(AA (Ee w sh g r P S));let A33:=(A22.n=A19.n/\∀(i:Nat),i<A22.n->AL (A22.g i)=AL (A19.g i));let A16:=(w.n=w.n/\∀(i:Nat),let A30:=(D3 w sh g r P S i);i<w.n -> [I (P i).want,I (P i).sheet,I (P i).turn,I (P i).at_.x,I (P i).at_.y]= [I A30.want,I A30.sheet,I A30.turn,I A30.at_.x,I A30.at_.y]);let A15:=(nat_lit 0);let A13:=(nat_lit 3);let A12:=(nat_lit 4);let A11:=(nat_lit 5);let A9:=(Ae w sh.grain);let A24:=(∀(x:Int),dom x=true->Ai A9 x=Ai A9 x);let A6:=(A22.n=A22.n/\∀(i:Nat),i<A22.n->AL (A22.g i)=AL (A22.g i));let A5:=[I r.at_.x,I r.at_.y,I r.size.w,I r.size.h];let A2:=(w.n=w.n/\∀(i:Nat),let A35:=[I (P i).want,I (P i).sheet,I (P i).turn,I (P i).at_.x,I (P i).at_.y];i<w.n->A35=A35);let A1:=(w.n=w.n/\∀(i:Nat),let A21:=[I (w.g i).id,I (w.g i).colour,I (w.g i).grain,SV.sl A25 (w.g i).ol.n fun(i1:Nat)=>[I ((w.g i).ol.g i1).x,I ((w.g i).ol.g i1).y]];i<w.n->A21=A21);(decide (g=A34)=true->∃(u:Int->Bool),A1/\sh.grain=sh.grain/\(∀(x:Int),dom x=u x)/\A24/\nat_lit 0=A27/\sh.id=sh.id/\sh.colour=sh.colour/\sh.w=sh.w/\sh.h=sh.h/\sh.grain=sh.grain/\A16/\A33/\True)/\(decide (g=A34)=false->Ad .i64 (g-A54)/\(decide (D6 g (g-A54)=A34)=true->(∃(g_1:Nat),A34=(↑g_1:Int)/\g_1<=AI g)/\∀(g_1:Nat),let A41:=(↑g_1:Int);g_1<=AI g->A34<=A41/\(decide (A54<Fo g A41)=true->Ad .i64 (A41+A54)/\∃(g':Nat),A41+A54=(↑g':Int)/\SV.ref A5 A15=SV.ref A5 A15/\SV.ref [I g] A15=SV.ref [I g] A15/\nat_lit 0=nat_lit 0/\nat_lit 0=nat_lit 0/\A1/\sh.grain=sh.grain/\(∀(x:Int),dom x=dom x)/\A24/\nat_lit 0=nat_lit 0/\sh.id=sh.id/\sh.colour=sh.colour/\sh.w=sh.w/\sh.h=sh.h/\sh.grain=sh.grain/\A2/\A6/\g'<=AI g/\AI g-g'<AI g-g_1)/\(decide (A54<Fo g A41)=false->∃(t:L.Sq Ab×Aj×(Int->Bool)×(Nat->AZ)×List AY×Nat×AE),let A61:=(Ae t.1 t.2.1.grain);let A44:=(AA t.snd.snd.snd.2.1);let A20:=(AA (E8 t.1 t.2.1 t.snd.snd.snd.snd.2.1 t.snd.snd.snd.snd.2.2 t.snd.snd.snd.2.1));nat_lit 0=A27/\A41=(↑t.snd.snd.snd.snd.2.1:Int)/\SV.agg A5=SV.agg [I t.snd.snd.snd.snd.2.2.at_.x,I t.snd.snd.snd.snd.2.2.at_.y,I t.snd.snd.snd.snd.2.2.size.w,I t.snd.snd.snd.snd.2.2.size.h]/\(w.n=t.1.n/\∀(i:Nat),let A55:=(t.1.g i);i<w.n -> [I (w.g i).id,I (w.g i).colour,I (w.g i).grain,SV.sl A25 (w.g i).ol.n fun(i1:Nat)=>[I ((w.g i).ol.g i1).x,I ((w.g i).ol.g i1).y]]= [I A55.id,I A55.colour,I A55.grain,SV.sl A25 A55.ol.n fun(i1:Nat)=>[I (A55.ol.g i1).x,I (A55.ol.g i1).y]])/\sh.grain=t.2.1.grain/\(∀(x:Int),dom x=t.snd.2.1 x)/\(∀(x:Int),dom x=true->Ai A9 x=Ai A61 x)/\nat_lit 0=A27/\sh.id=t.2.1.id/\sh.colour=t.2.1.colour/\sh.w=t.2.1.w/\sh.h=t.2.1.h/\sh.grain=t.2.1.grain/\(w.n=t.1.n/\∀(i:Nat),let A37:=(t.snd.snd.2.1 i);i<w.n -> [I (P i).want,I (P i).sheet,I (P i).turn,I (P i).at_.x,I (P i).at_.y]= [I A37.want,I A37.sheet,I A37.turn,I A37.at_.x,I A37.at_.y])/\(A22.n=A44.n/\∀(i:Nat),i<A22.n->AL (A22.g i)=AL (A44.g i))/\(t.snd.snd.snd.snd.2.1<t.1.n/\t.1.n<=(4:Nat)/\(t.1.g t.snd.snd.snd.snd.2.1).ol.n<=(1000000:Nat)/\Db t.snd.snd.snd.snd.2.2/\A44.n<=A67)/\∀(u:Nat),True->∃(u:Int->Bool),(t.1.n=w.n/\∀(i:Nat),let A56:=(t.1.g i);i<t.1.n -> [I A56.id,I A56.colour,I A56.grain,SV.sl A25 A56.ol.n fun(i1:Nat)=>[I (A56.ol.g i1).x,I (A56.ol.g i1).y]]= [I (w.g i).id,I (w.g i).colour,I (w.g i).grain,SV.sl A25 (w.g i).ol.n fun(i1:Nat)=>[I ((w.g i).ol.g i1).x,I ((w.g i).ol.g i1).y]])/\t.2.1.grain=sh.grain/\(∀(x:Int),t.snd.2.1 x=u x)/\(∀(x:Int),t.snd.2.1 x=true->Ai A61 x=Ai A9 x)/\nat_lit 0=A27/\t.2.1.id=sh.id/\t.2.1.colour=sh.colour/\t.2.1.w=sh.w/\t.2.1.h=sh.h/\t.2.1.grain=sh.grain/\(t.1.n=w.n/\∀(i:Nat),let A31:=(D3 w sh g r P S i);let A14:=(D9 t.1 t.2.1 t.snd.snd.snd.snd.2.1 t.snd.snd.snd.snd.2.2 t.snd.snd.2.1 i);i<t.1.n -> [I A14.want,I A14.sheet,I A14.turn,I A14.at_.x,I A14.at_.y]= [I A31.want,I A31.sheet,I A31.turn,I A31.at_.x,I A31.at_.y])/\(A20.n=A19.n/\∀(i:Nat),i<A20.n->AL (A20.g i)=AL (A19.g i))/\True))/\(decide (D6 g (g-A54)=A34)=false->True/\((A34<=g/\g<=(15:Int))/\∃(t:Int->Bool),(∀(x:Int),dom x=t x)/\A24/\nat_lit 0=nat_lit 0/\A1/\sh.grain=sh.grain/\nat_lit 0=nat_lit 0/\sh.id=sh.id/\sh.colour=sh.colour/\sh.w=sh.w/\sh.h=sh.h/\sh.grain=sh.grain/\A2/\A6/\A27<=AD g/\∀(k1:Nat),k1<A27->∀(j:Nat),j<Bo r->Ch w sh.grain g r k1 j=false)/\(∀(k:Nat) (t:Int->Bool) (vk:Nat->Go.Value),k<AD g->(k<=AD g/\∀(k1:Nat),k1<k->∀(j:Nat),j<Bo r->Ch w sh.grain g r k1 j=false)->True/\(Db r/\∃(t_1:(Int->Bool)×Nat),(∀(x:Int),t x=t_1.1 x)/\(∀(x:Int),t x=true->Ai A9 x=Ai A9 x)/\Al g k=Al g k/\nat_lit 0=nat_lit 0/\A1/\sh.grain=sh.grain/\nat_lit 0=nat_lit 0/\sh.id=sh.id/\sh.colour=sh.colour/\sh.w=sh.w/\sh.h=sh.h/\sh.grain=sh.grain/\A2/\A6/\Al g k=Al g t_1.2/\A27<=Bo r/\t_1.2<AD g/\∀(j1:Nat),j1<A27->Ch w sh.grain g r t_1.2 j1=false)/\(∀(k_1:Nat) (t_1:(Int->Bool)×Nat) (vk_1:Nat->Go.Value),let A64:=(AH r k_1);let A63:=(AN r k_1);let A39:=(Db r/\A34<=AH r k_1/\AH r k_1<=(4096:Int));let A7:=(BC r sh.id A63 A64);let A4:=(Bi r A63 A64);let A3:=(Bc r A63 A64);k_1<Bo r->(Al g k=Al g t_1.2/\k_1<=Bo r/\t_1.2<AD g/\∀(j1:Nat),j1<k_1->Ch w sh.grain g r t_1.2 j1=false)->A39/\(∃(t_2:L.Sq Ab×Int×(Int->Bool)×Int×Ac),let A53:=(Ae t_2.1 t_2.2.1);nat_lit 0=A27/\Al g k=t_2.snd.snd.2.1/\SV.agg [I A3.size.w,I A3.size.h]=SV.agg [I t_2.snd.snd.2.2.w,I t_2.snd.snd.2.2.h]/\(w.n=t_2.1.n/\∀(i:Nat),let A46:=(t_2.1.g i);i<w.n -> [I (w.g i).id,I (w.g i).colour,I (w.g i).grain,SV.sl A25 (w.g i).ol.n fun(i1:Nat)=>[I ((w.g i).ol.g i1).x,I ((w.g i).ol.g i1).y]]= [I A46.id,I A46.colour,I A46.grain,SV.sl A25 A46.ol.n fun(i1:Nat)=>[I (A46.ol.g i1).x,I (A46.ol.g i1).y]])/\sh.grain=t_2.2.1/\(∀(x:Int),t_1.1 x=t_2.snd.2.1 x)/\(∀(x:Int),t_1.1 x=true->Ai A9 x=Ai A53 x)/\(B7 t_2.1/\A34<=t_2.snd.snd.2.1/\t_2.snd.snd.2.1<=Az t_2.1.n)/\∀(u:Int->Bool),True->(Cd t_2.1 t_2.2.1 t_2.snd.snd.2.1 t_2.snd.snd.2.2=true->∃(t_3:L.Sq Ab×Int×(Int->Bool)×Int×Ac),let A66:=(Ae t_3.1 t_3.2.1);nat_lit 0=A27/\Dv g (Al g k)=t_3.snd.snd.2.1/\SV.agg [I A4.size.w,I A4.size.h]=SV.agg [I t_3.snd.snd.2.2.w,I t_3.snd.snd.2.2.h]/\(t_2.1.n=t_3.1.n/\∀(i:Nat),let A48:=(t_3.1.g i);let A47:=(t_2.1.g i);i<t_2.1.n -> [I A47.id,I A47.colour,I A47.grain,SV.sl A25 A47.ol.n fun(i1:Nat)=>[I (A47.ol.g i1).x,I (A47.ol.g i1).y]]= [I A48.id,I A48.colour,I A48.grain,SV.sl A25 A48.ol.n fun(i1:Nat)=>[I (A48.ol.g i1).x,I (A48.ol.g i1).y]])/\t_2.2.1=t_3.2.1/\(∀(x:Int),u x=t_3.snd.2.1 x)/\(∀(x:Int),u x=true->Ai A53 x=Ai A66 x)/\(B7 t_3.1/\A34<=t_3.snd.snd.2.1/\t_3.snd.snd.2.1<=Az t_3.1.n)/\∀(u:Int->Bool),True->∃(g_1:(Int->Bool)×Bool×Int×Bool×Int),(bif Cd t_2.1 t_2.2.1 t_2.snd.snd.2.1 t_2.snd.snd.2.2 then Cd t_3.1 t_3.2.1 t_3.snd.snd.2.1 t_3.snd.snd.2.2 else false)=g_1.2.1/\nat_lit 0=nat_lit 0/\nat_lit 0=nat_lit 0/\AH r k_1=AH r k_1/\AN r k_1=AN r k_1/\nat_lit 0=nat_lit 0/\Al g k=Al g k/\SV.ref A5 A15=SV.ref A5 A15/\SV.ref [I g] A15=SV.ref [I g] A15/\nat_lit 0=nat_lit 0/\vk A11=vk A11/\vk A12=vk A12/\vk A13=vk A13/\vk_1 A29=vk_1 A29/\vk_1 A26=vk_1 A26/\vk_1 A11=vk_1 A11/\vk_1 A12=vk_1 A12/\vk_1 A13=vk_1 A13/\vk_1 A11=vk_1 A11/\vk_1 A12=vk_1 A12/\vk_1 A13=vk_1 A13/\(∀(x:Int),u x=g_1.1 x)/\(∀(x:Int),u x=true->Ai A66 x=Ai A9 x)/\A4.at_.x=A4.at_.x/\A4.at_.y=A4.at_.y/\A4.size.w=A4.size.w/\A4.size.h=A4.size.h/\A3.at_.x=A3.at_.x/\A3.at_.y=A3.at_.y/\A3.size.w=A3.size.w/\A3.size.h=A3.size.h/\Al g k=Al g k/\nat_lit 0=nat_lit 0/\(t_3.1.n=w.n/\∀(i:Nat),let A49:=(t_3.1.g i);i<t_3.1.n -> [I A49.id,I A49.colour,I A49.grain,SV.sl A25 A49.ol.n fun(i1:Nat)=>[I (A49.ol.g i1).x,I (A49.ol.g i1).y]]= [I (w.g i).id,I (w.g i).colour,I (w.g i).grain,SV.sl A25 (w.g i).ol.n fun(i1:Nat)=>[I ((w.g i).ol.g i1).x,I ((w.g i).ol.g i1).y]])/\t_3.2.1=sh.grain/\nat_lit 0=nat_lit 0/\sh.id=sh.id/\sh.colour=sh.colour/\sh.w=sh.w/\sh.h=sh.h/\sh.grain=sh.grain/\A2/\A6/\AN r k_1=g_1.snd.snd.2.1/\AH r k_1=g_1.snd.snd.2.2/\Al g k=g_1.snd.2.1/\g_1.2.1=NJ w sh.grain g r g_1.snd.2.1 g_1.snd.snd.2.1 g_1.snd.snd.2.2)/\(Cd t_2.1 t_2.2.1 t_2.snd.snd.2.1 t_2.snd.snd.2.2=false->∃(g_1:(Int->Bool)×Bool×Int×Bool×Int),(bif Cd t_2.1 t_2.2.1 t_2.snd.snd.2.1 t_2.snd.snd.2.2 then false else false)=g_1.2.1/\nat_lit 0=nat_lit 0/\nat_lit 0=nat_lit 0/\AH r k_1=AH r k_1/\AN r k_1=AN r k_1/\nat_lit 0=nat_lit 0/\Al g k=Al g k/\SV.ref A5 A15=SV.ref A5 A15/\SV.ref [I g] A15=SV.ref [I g] A15/\nat_lit 0=nat_lit 0/\vk A11=vk A11/\vk A12=vk A12/\vk A13=vk A13/\vk_1 A29=vk_1 A29/\vk_1 A26=vk_1 A26/\vk_1 A11=vk_1 A11/\vk_1 A12=vk_1 A12/\vk_1 A13=vk_1 A13/\vk_1 A11=vk_1 A11/\vk_1 A12=vk_1 A12/\vk_1 A13=vk_1 A13/\(∀(x:Int),u x=g_1.1 x)/\(∀(x:Int),u x=true->Ai A53 x=Ai A9 x)/\A4.at_.x=A4.at_.x/\A4.at_.y=A4.at_.y/\A4.size.w=A4.size.w/\A4.size.h=A4.size.h/\A3.at_.x=A3.at_.x/\A3.at_.y=A3.at_.y/\A3.size.w=A3.size.w/\A3.size.h=A3.size.h/\Al g k=Al g k/\nat_lit 0=nat_lit 0/\(t_2.1.n=w.n/\∀(i:Nat),let A50:=(t_2.1.g i);i<t_2.1.n -> [I A50.id,I A50.colour,I A50.grain,SV.sl A25 A50.ol.n fun(i1:Nat)=>[I (A50.ol.g i1).x,I (A50.ol.g i1).y]]= [I (w.g i).id,I (w.g i).colour,I (w.g i).grain,SV.sl A25 (w.g i).ol.n fun(i1:Nat)=>[I ((w.g i).ol.g i1).x,I ((w.g i).ol.g i1).y]])/\t_2.2.1=sh.grain/\nat_lit 0=nat_lit 0/\sh.id=sh.id/\sh.colour=sh.colour/\sh.w=sh.w/\sh.h=sh.h/\sh.grain=sh.grain/\A2/\A6/\AN r k_1=g_1.snd.snd.2.1/\AH r k_1=g_1.snd.snd.2.2/\Al g k=g_1.snd.2.1/\g_1.2.1=NJ w sh.grain g r g_1.snd.2.1 g_1.snd.snd.2.1 g_1.snd.snd.2.2))/\∀(g_1:(Int->Bool)×Bool×Int×Bool×Int),let A59:=(∀(x:Int),g_1.1 x=g_1.1 x);let A23:=(∀(x:Int),g_1.1 x=true->Ai A9 x=Ai A9 x);AN r k_1=g_1.snd.snd.2.1/\AH r k_1=g_1.snd.snd.2.2/\Al g k=g_1.snd.2.1/\g_1.2.1=NJ w sh.grain g r g_1.snd.2.1 g_1.snd.snd.2.1 g_1.snd.snd.2.2->(g_1.2.1=true->(A39/\((A22.n+nat_lit 1)*nat_lit 48<=A65/\∃(g_2:Bool×Int),let A42:=(AA (B9 S (BC r sh.id g_2.1 g_2.2)));nat_lit 0=nat_lit 0/\nat_lit 0=nat_lit 0/\AH r k_1=AH r k_1/\AN r k_1=AN r k_1/\nat_lit 0=nat_lit 0/\Al g k=Al g k/\SV.ref A5 A15=SV.ref A5 A15/\SV.ref [I g] A15=SV.ref [I g] A15/\nat_lit 0=nat_lit 0/\vk A11=vk A11/\vk A12=vk A12/\vk A13=vk A13/\vk_1 A29=vk_1 A29/\vk_1 A26=vk_1 A26/\vk_1 A11=vk_1 A11/\vk_1 A12=vk_1 A12/\vk_1 A13=vk_1 A13/\vk_1 A11=vk_1 A11/\vk_1 A12=vk_1 A12/\vk_1 A13=vk_1 A13/\(A22.n+nat_lit 1=A42.n/\∀(i:Nat),i<A22.n+nat_lit 1->AU A22.n (fun(k:Nat)=>AL (A22.g k)) (fun(x:Nat)=>[I A7.sheet,I A7.kind,I A7.want,SV.sl (nat_lit 2) A7.pts.n fun(i:Nat)=>[I (A7.pts.g i).x,I (A7.pts.g i).y]]) i=AL (A42.g i))/\A59/\A23/\A4.at_.x=A4.at_.x/\A4.at_.y=A4.at_.y/\A4.size.w=A4.size.w/\A4.size.h=A4.size.h/\A3.at_.x=A3.at_.x/\A3.at_.y=A3.at_.y/\A3.size.w=A3.size.w/\A3.size.h=A3.size.h/\Al g k=Al g k/\nat_lit 0=nat_lit 0/\A1/\sh.grain=sh.grain/\nat_lit 0=nat_lit 0/\sh.id=sh.id/\sh.colour=sh.colour/\sh.w=sh.w/\sh.h=sh.h/\sh.grain=sh.grain/\A2/\AN r k_1=g_2.1/\AH r k_1=g_2.2/\True)/\(A22.n+nat_lit 1)*nat_lit 48<=A65/\∃(g_2:Bool×Int),let A43:=(AA (B9 S (BC r sh.id g_2.1 g_2.2)));nat_lit 0=nat_lit 0/\nat_lit 0=nat_lit 0/\AH r k_1=AH r k_1/\AN r k_1=AN r k_1/\nat_lit 0=nat_lit 0/\Al g k=Al g k/\SV.ref A5 A15=SV.ref A5 A15/\SV.ref [I g] A15=SV.ref [I g] A15/\nat_lit 0=nat_lit 0/\vk A11=vk A11/\vk A12=vk A12/\vk A13=vk A13/\vk_1 A29=vk_1 A29/\vk_1 A26=vk_1 A26/\vk_1 A11=vk_1 A11/\vk_1 A12=vk_1 A12/\vk_1 A13=vk_1 A13/\vk_1 A11=vk_1 A11/\vk_1 A12=vk_1 A12/\vk_1 A13=vk_1 A13/\(A22.n+nat_lit 1=A43.n/\∀(i:Nat),i<A22.n+nat_lit 1->AU A22.n (fun(k:Nat)=>AL (A22.g k)) (fun(x:Nat)=>[I A7.sheet,I A7.kind,I A7.want,SV.sl (nat_lit 2) A7.pts.n fun(i:Nat)=>[I (A7.pts.g i).x,I (A7.pts.g i).y]]) i=AL (A43.g i))/\A59/\A23/\A4.at_.x=A4.at_.x/\A4.at_.y=A4.at_.y/\A4.size.w=A4.size.w/\A4.size.h=A4.size.h/\A3.at_.x=A3.at_.x/\A3.at_.y=A3.at_.y/\A3.size.w=A3.size.w/\A3.size.h=A3.size.h/\Al g k=Al g k/\nat_lit 0=nat_lit 0/\A1/\sh.grain=sh.grain/\nat_lit 0=nat_lit 0/\sh.id=sh.id/\sh.colour=sh.colour/\sh.w=sh.w/\sh.h=sh.h/\sh.grain=sh.grain/\A2/\AN r k_1=g_2.1/\AH r k_1=g_2.2/\True)/\∀(g_2:Bool×Int),let A28:=(AA (B9 S (BC r sh.id g_2.1 g_2.2)));AN r k_1=g_2.1/\AH r k_1=g_2.2/\True->∃(t:L.Sq Ab×Aj×(Int->Bool)×(Nat->AZ)×List AY×Int×AE),let A62:=(Ae t.1 t.2.1.grain);let A45:=(AA t.snd.snd.snd.2.1);let A18:=(AA (Ee t.1 t.2.1 t.snd.snd.snd.snd.2.1 t.snd.snd.snd.snd.2.2 t.snd.snd.2.1 t.snd.snd.snd.2.1));nat_lit 0=A27/\Al g k=t.snd.snd.snd.snd.2.1/\SV.agg [I A3.at_.x,I A3.at_.y,I A3.size.w,I A3.size.h]=SV.agg [I t.snd.snd.snd.snd.2.2.at_.x,I t.snd.snd.snd.snd.2.2.at_.y,I t.snd.snd.snd.snd.2.2.size.w,I t.snd.snd.snd.snd.2.2.size.h]/\(w.n=t.1.n/\∀(i:Nat),let A57:=(t.1.g i);i<w.n -> [I (w.g i).id,I (w.g i).colour,I (w.g i).grain,SV.sl A25 (w.g i).ol.n fun(i1:Nat)=>[I ((w.g i).ol.g i1).x,I ((w.g i).ol.g i1).y]]= [I A57.id,I A57.colour,I A57.grain,SV.sl A25 A57.ol.n fun(i1:Nat)=>[I (A57.ol.g i1).x,I (A57.ol.g i1).y]])/\sh.grain=t.2.1.grain/\(∀(x:Int),g_1.1 x=t.snd.2.1 x)/\(∀(x:Int),g_1.1 x=true->Ai A9 x=Ai A62 x)/\nat_lit 0=A27/\sh.id=t.2.1.id/\sh.colour=t.2.1.colour/\sh.w=t.2.1.w/\sh.h=t.2.1.h/\sh.grain=t.2.1.grain/\(w.n=t.1.n/\∀(i:Nat),let A38:=(t.snd.snd.2.1 i);i<w.n -> [I (P i).want,I (P i).sheet,I (P i).turn,I (P i).at_.x,I (P i).at_.y]= [I A38.want,I A38.sheet,I A38.turn,I A38.at_.x,I A38.at_.y])/\(A28.n=A45.n/\∀(i:Nat),i<A28.n->AL (A28.g i)=AL (A45.g i))/\((B7 t.1/\A34<=t.snd.snd.snd.snd.2.1/\t.snd.snd.snd.snd.2.1<=Az t.1.n/\Db t.snd.snd.snd.snd.2.2/\A45.n+(3:Nat)*T t.snd.snd.snd.snd.2.1<=A67)/\T t.snd.snd.snd.snd.2.1<rn)/\∀(u:Int->Bool),True->∃(t_2:L.Sq Ab×Aj×(Int->Bool)×(Nat->AZ)×List AY×Int×AE),let A60:=(Ae t_2.1 t_2.2.1.grain);let A40:=(AA t_2.snd.snd.snd.2.1);let A17:=(AA (Ee t_2.1 t_2.2.1 t_2.snd.snd.snd.snd.2.1 t_2.snd.snd.snd.snd.2.2 t_2.snd.snd.2.1 t_2.snd.snd.snd.2.1));nat_lit 0=A27/\Dv g (Al g k)=t_2.snd.snd.snd.snd.2.1/\SV.agg [I A4.at_.x,I A4.at_.y,I A4.size.w,I A4.size.h]=SV.agg [I t_2.snd.snd.snd.snd.2.2.at_.x,I t_2.snd.snd.snd.snd.2.2.at_.y,I t_2.snd.snd.snd.snd.2.2.size.w,I t_2.snd.snd.snd.snd.2.2.size.h]/\(t.1.n=t_2.1.n/\∀(i:Nat),let A58:=(t.1.g i);let A51:=(t_2.1.g i);i<t.1.n -> [I A58.id,I A58.colour,I A58.grain,SV.sl A25 A58.ol.n fun(i1:Nat)=>[I (A58.ol.g i1).x,I (A58.ol.g i1).y]]= [I A51.id,I A51.colour,I A51.grain,SV.sl A25 A51.ol.n fun(i1:Nat)=>[I (A51.ol.g i1).x,I (A51.ol.g i1).y]])/\t.2.1.grain=t_2.2.1.grain/\(∀(x:Int),u x=t_2.snd.2.1 x)/\(∀(x:Int),u x=true->Ai A62 x=Ai A60 x)/\nat_lit 0=A27/\t.2.1.id=t_2.2.1.id/\t.2.1.colour=t_2.2.1.colour/\t.2.1.w=t_2.2.1.w/\t.2.1.h=t_2.2.1.h/\t.2.1.grain=t_2.2.1.grain/\(t.1.n=t_2.1.n/\∀(i:Nat),let A36:=(t_2.snd.snd.2.1 i);let A10:=(D3 t.1 t.2.1 t.snd.snd.snd.snd.2.1 t.snd.snd.snd.snd.2.2 t.snd.snd.2.1 t.snd.snd.snd.2.1 i);i<t.1.n -> [I A10.want,I A10.sheet,I A10.turn,I A10.at_.x,I A10.at_.y]= [I A36.want,I A36.sheet,I A36.turn,I A36.at_.x,I A36.at_.y])/\(A18.n=A40.n/\∀(i:Nat),i<A18.n->AL (A18.g i)=AL (A40.g i))/\((B7 t_2.1/\A34<=t_2.snd.snd.snd.snd.2.1/\t_2.snd.snd.snd.snd.2.1<=Az t_2.1.n/\Db t_2.snd.snd.snd.snd.2.2/\A40.n+(3:Nat)*T t_2.snd.snd.snd.snd.2.1<=A67)/\T t_2.snd.snd.snd.snd.2.1<rn)/\∀(u:Int->Bool),True->nat_lit 0=nat_lit 0/\Al g k=Al g k/\SV.ref A5 A15=SV.ref A5 A15/\SV.ref [I g] A15=SV.ref [I g] A15/\nat_lit 0=nat_lit 0/\vk A11=vk A11/\vk A12=vk A12/\vk A13=vk A13/\vk_1 A29=vk_1 A29/\vk_1 A26=vk_1 A26/\vk_1 A11=vk_1 A11/\vk_1 A12=vk_1 A12/\vk_1 A13=vk_1 A13/\vk_1 A11=vk_1 A11/\vk_1 A12=vk_1 A12/\vk_1 A13=vk_1 A13/\SV.ref A5 A15=SV.ref A5 A15/\SV.ref [I g] A15=SV.ref [I g] A15/\nat_lit 0=nat_lit 0/\vk A11=vk A11/\vk A12=vk A12/\vk A13=vk A13/\∃(u_1:Int->Bool),(t_2.1.n=w.n/\∀(i:Nat),let A52:=(t_2.1.g i);i<t_2.1.n -> [I A52.id,I A52.colour,I A52.grain,SV.sl A25 A52.ol.n fun(i1:Nat)=>[I (A52.ol.g i1).x,I (A52.ol.g i1).y]]= [I (w.g i).id,I (w.g i).colour,I (w.g i).grain,SV.sl A25 (w.g i).ol.n fun(i1:Nat)=>[I ((w.g i).ol.g i1).x,I ((w.g i).ol.g i1).y]])/\t_2.2.1.grain=sh.grain/\(∀(x:Int),u x=u_1 x)/\(∀(x:Int),u x=true->Ai A60 x=Ai A9 x)/\nat_lit 0=A27/\t_2.2.1.id=sh.id/\t_2.2.1.colour=sh.colour/\t_2.2.1.w=sh.w/\t_2.2.1.h=sh.h/\t_2.2.1.grain=sh.grain/\(t_2.1.n=w.n/\∀(i:Nat),let A32:=(D3 w sh g r P S i);let A8:=(D3 t_2.1 t_2.2.1 t_2.snd.snd.snd.snd.2.1 t_2.snd.snd.snd.snd.2.2 t_2.snd.snd.2.1 t_2.snd.snd.snd.2.1 i);i<t_2.1.n -> [I A8.want,I A8.sheet,I A8.turn,I A8.at_.x,I A8.at_.y]= [I A32.want,I A32.sheet,I A32.turn,I A32.at_.x,I A32.at_.y])/\(A17.n=A19.n/\∀(i:Nat),i<A17.n->AL (A17.g i)=AL (A19.g i))/\True)/\(g_1.2.1=false->∃(t':(Int->Bool)×Nat),nat_lit 0=nat_lit 0/\Al g k=Al g k/\SV.ref A5 A15=SV.ref A5 A15/\SV.ref [I g] A15=SV.ref [I g] A15/\nat_lit 0=nat_lit 0/\vk A11=vk A11/\vk A12=vk A12/\vk A13=vk A13/\vk_1 A29=vk_1 A29/\vk_1 A26=vk_1 A26/\vk_1 A11=vk_1 A11/\vk_1 A12=vk_1 A12/\vk_1 A13=vk_1 A13/\vk_1 A11=vk_1 A11/\vk_1 A12=vk_1 A12/\vk_1 A13=vk_1 A13/\(∀(x:Int),g_1.1 x=t'.1 x)/\A23/\Al g k=Al g k/\nat_lit 0=nat_lit 0/\A1/\sh.grain=sh.grain/\nat_lit 0=nat_lit 0/\sh.id=sh.id/\sh.colour=sh.colour/\sh.w=sh.w/\sh.h=sh.h/\sh.grain=sh.grain/\A2/\A6/\Al g k=Al g t'.2/\k_1+A68<=Bo r/\t'.2<AD g/\∀(j1:Nat),j1<k_1+A68->Ch w sh.grain g r t'.2 j1=false))/\∀(t:(Int->Bool)×Nat),(Al g k=Al g t.2/\Bo r<=Bo r/\t.2<AD g/\∀(j1:Nat),j1<Bo r->Ch w sh.grain g r t.2 j1=false)->∃(t':Int->Bool),SV.ref A5 A15=SV.ref A5 A15/\SV.ref [I g] A15=SV.ref [I g] A15/\nat_lit 0=nat_lit 0/\vk A11=vk A11/\vk A12=vk A12/\vk A13=vk A13/\(∀(x:Int),t.1 x=t' x)/\(∀(x:Int),t.1 x=true->Ai A9 x=Ai A9 x)/\nat_lit 0=nat_lit 0/\A1/\sh.grain=sh.grain/\nat_lit 0=nat_lit 0/\sh.id=sh.id/\sh.colour=sh.colour/\sh.w=sh.w/\sh.h=sh.h/\sh.grain=sh.grain/\A2/\A6/\k+A68<=AD g/\∀(k1:Nat),k1<k+A68->∀(j:Nat),j<Bo r->Ch w sh.grain g r k1 j=false)/\∀(t:Int->Bool),(AD g<=AD g/\∀(k1:Nat),k1<AD g->∀(j:Nat),j<Bo r->Ch w sh.grain g r k1 j=false)->∃(u:Int->Bool),A1/\sh.grain=sh.grain/\(∀(x:Int),t x=u x)/\(∀(x:Int),t x=true->Ai A9 x=Ai A9 x)/\nat_lit 0=A27/\sh.id=sh.id/\sh.colour=sh.colour/\sh.w=sh.w/\sh.h=sh.h/\sh.grain=sh.grain/\A16/\A33/\True))) (by kernel_rfl) (by
 conv=>zeta
 have hp:B7 w/\0<=g/\g<=Az w.n/\Db r/\S.length+3*g.toNat<=1000:=hp;have hmu:g.toNat<rn+1:=hmu;obtain⟨hok,hg0,hga,hA,hS⟩:=hp;have hg15:g<=15:=Ag0 hga (N5 hok.1);have no0:∀{p:Nat->Prop} (k:Nat),k<0->p k:=fun k h=>absurd h (Rc _);have f0:=AcK w sh;have f1:=fun(h:1<=g) (h1:Bs g=true)=>AcL w sh r P S h h1;have fn:=fun(h:1<=g) (h1:Bs g=false) (hd:DO w sh.grain g r=none)=>AcM w sh P S h h1 hd;have fs:=fun(h:1<=g) (h15:g<=15) (h1:Bs g=false) {k j:Nat} (hd:DO w sh.grain g r=some (k,j))=>AcN w sh P S h h15 h1 hd;have fl:=AcO w sh;generalize D3=lP at *;generalize Ee=lS at *;refine⟨fun h0=>?_,fun h0=>⟨E9,fun h1=>?_,fun h1=>?_⟩⟩
 ·have h0:g=0:=of_decide_eq_true h0;subst h0;obtain⟨eP,eS⟩:=f0 r P S;rw[eP,eS];exact⟨dom,(by(try dsimp only);(repeat' with_reducible apply And.intro)<;>first|with_reducible rfl|with_reducible exact fun _=>rfl|with_reducible exact fun _ _=>rfl|with_reducible exact trivial|exact rfl|(intro _;exact rfl)|(intro _ _;exact rfl)|exact trivial|(intro _ h_;exact absurd h_ (Rc _)))⟩
 ·have h0:¬ g=0:=of_decide_eq_false h0;have hg1:1<=g:=by omega
  have h1:Bs g=true:=h1;obtain⟨ge,gi⟩:=LA hg1 hg15 h1;have gn:=Y2 hok.1 hg1 hga h1;obtain⟨eP,eS⟩:=f1 hg1 h1;rw[eP,eS];refine⟨⟨0,rfl,Afg _⟩,fun k hk=>⟨Af7 _,fun hc=>?_,fun hc=>?_⟩⟩
  ·have hc:1<Fo g k:=of_decide_eq_true hc;have hlt:k<AI g:=by rw[ge]at hc;exact(N6 gi hk).1 hc
   exact⟨E9,k+1,(by(try dsimp only);(repeat' with_reducible apply And.intro)<;>first|with_reducible rfl|with_reducible assumption|with_reducible exact fun _=>rfl|with_reducible exact fun _ _=>rfl|with_reducible exact trivial|exact hlt|exact rfl|(intro _;exact rfl)|(intro _ _;exact rfl)|exact(by omega)|exact trivial|(intro _ h_;exact absurd h_ (Rc _)))⟩
  ·have hc:¬ 1<Fo g k:=of_decide_eq_false hc;have hke:k=AI g:=by
    rcases Nat.lt_or_ge k (AI g)with h|h
    ·exact absurd (by rw[ge];exact(N6 gi hk).2 h) hc
    ·omega
   subst hke;have hS1:(AA S).n<=1000:=by show S.length<=1000;omega
   exact⟨(w,sh,dom,P,S,AI g,r),(by(try dsimp only);(repeat' with_reducible apply And.intro)<;>first|with_reducible rfl|with_reducible assumption|with_reducible exact hok.1|with_reducible exact(hok.2 _ gn)|with_reducible exact fun _=>rfl|with_reducible exact fun _ _=>rfl|with_reducible exact trivial|(intro _ _;exact⟨dom,(by(try dsimp only);(repeat' with_reducible apply And.intro)<;>first|with_reducible rfl|with_reducible exact fun _=>rfl|with_reducible exact fun _ _=>rfl|with_reducible exact trivial|exact rfl|(intro _;exact rfl)|(intro _ _;exact rfl)|exact trivial|(intro _ h_;exact absurd h_ (Rc _)))⟩)|exact gn|exact hok.1|exact(hok.2 _ gn)|exact hA|exact hS1|exact rfl|(intro _;exact rfl)|(intro _ _;exact rfl)|exact trivial|(intro _ h_;exact absurd h_ (Rc _)))⟩
 ·have h0:¬ g=0:=of_decide_eq_false h0;have hg1:1<=g:=by omega
  have h1:Bs g=false:=h1;obtain⟨hp0,hpt⟩:=FK hg1 hg15 h1;refine⟨trivial,⟨⟨hg0,hg15⟩,dom,(by(try dsimp only);(repeat' with_reducible apply And.intro)<;>first|with_reducible rfl|with_reducible exact Afg _|with_reducible exact fun _=>rfl|with_reducible exact fun _ _=>rfl|with_reducible exact trivial|(intro k1 h;exact absurd h (Rc _))|exact Afg _|exact rfl|(intro _;exact rfl)|(intro _ _;exact rfl)|exact trivial|(intro _ h_;exact absurd h_ (Rc _)))⟩,fun k d vk hk hinv=>?_,fun d hinv=>?_⟩
  ·obtain⟨hk1,hno⟩:=hinv;obtain⟨p1,p2,p3,p4,p5⟩:=hpt k hk;refine⟨trivial,⟨hA,(d,k),(by(try dsimp only);(repeat' with_reducible apply And.intro)<;>first|with_reducible rfl|with_reducible assumption|with_reducible exact Afg _|with_reducible exact fun _=>rfl|with_reducible exact fun _ _=>rfl|with_reducible exact trivial|(intro k1 h;exact absurd h (Rc _))|exact Afg _|exact hk|exact rfl|(intro _;exact rfl)|(intro _ _;exact rfl)|exact trivial|(intro _ h_;exact absurd h_ (Rc _)))⟩,fun j t vk1 hj ht=>?_,fun t ht=>?_⟩
   ·obtain⟨d1,k'⟩:=t;obtain⟨hkk,hj1,hk2,hno1⟩:=ht;obtain rfl:=N4 hg1 hg15 h1 hk hk2 hkk;obtain⟨b1,b2,b3,b4⟩:=dH hA hj;obtain⟨oA,oB⟩:=AcG hA hj;have c1:0<=AH r j:=by omega
    have c2:AH r j<=4096:=by omega
    have g1:Al g k<=Az w.n:=by omega
    have g2:AO g k<=Az w.n:=by omega
    refine⟨⟨hA,c1,c2⟩,⟨(w,sh.grain,d1,Al g k,(Bc r (AN r j) (AH r j)).size),(by(try dsimp only);(repeat' with_reducible apply And.intro)<;>first|with_reducible rfl|with_reducible assumption|with_reducible exact Af8 p1|with_reducible exact fun _=>rfl|with_reducible exact fun _ _=>rfl|with_reducible exact trivial|(intro u _;exact⟨fun hr1=>⟨(w,sh.grain,u,AO g k,(Bi r (AN r j) (AH r j)).size),(by(try dsimp only);(repeat' with_reducible apply And.intro)<;>first|with_reducible rfl|with_reducible assumption|with_reducible exact Af8 p3|with_reducible exact fun _=>rfl|with_reducible exact fun _ _=>rfl|with_reducible exact trivial|(intro u2 _;exact⟨(u2,Ch w sh.grain g r k j,Al g k,AN r j,AH r j),(by(try dsimp only);(repeat' with_reducible apply And.intro)<;>first|with_reducible rfl|with_reducible exact fun _=>rfl|with_reducible exact fun _ _=>rfl|with_reducible exact trivial|exact rfl|(intro _;exact rfl)|(intro _ _;exact rfl)|exact trivial|(intro _ h_;exact absurd h_ (Rc _)))⟩)|exact hok|exact Af8 p3|exact g2|exact rfl|(intro _;exact rfl)|(intro _ _;exact rfl)|exact trivial|(intro _ h_;exact absurd h_ (Rc _)))⟩,fun hr1=>⟨(u,false,Al g k,AN r j,AH r j),(by(try dsimp only);(repeat' with_reducible apply And.intro)<;>first|with_reducible rfl|with_reducible exact fun _=>rfl|with_reducible exact fun _ _=>rfl|with_reducible exact trivial|exact rfl|(intro _;exact rfl)|(intro _ _;exact rfl)|exact(by rw[hr1];rfl)|exact(by show false=Ch w sh.grain g r k j;unfold Ch;rw[hr1];rfl)|exact trivial|(intro _ h_;exact absurd h_ (Rc _)))⟩⟩)|exact hok|exact Af8 p1|exact g1|exact rfl|(intro _;exact rfl)|(intro _ _;exact rfl)|exact trivial|(intro _ h_;exact absurd h_ (Rc _)))⟩,fun x hx=>?_⟩;obtain⟨d2,b,p,up,by_⟩:=x;obtain⟨e1,e2,e3,e4⟩:=hx;subst e1 e2 e3;have e4:b=Ch w sh.grain g r k j:=e4;refine⟨fun hb=>⟨?_,fun x2 hx2=>?_⟩,fun hb=>⟨(d2,k),?_⟩⟩
    ·have sz:((AA S).n+1)*48<=140737488355328:=by show(S.length+1)*48<=_;omega
     have sq1:=LI (S:=S) (x:=BC r sh.id (AN r j) (AH r j)) rfl (r:=fun _=>AL (BC r sh.id (AN r j) (AH r j))) rfl
     repeat' with_reducible apply And.intro
     all_goals first|exact hA|exact c1|exact c2|exact sz|exact⟨(AN r j,AH r j),(by(try dsimp only);(repeat' with_reducible apply And.intro)<;>first|with_reducible rfl|with_reducible exact sq1.1|with_reducible exact sq1.2|with_reducible exact fun _=>rfl|with_reducible exact fun _ _=>rfl|with_reducible exact trivial|exact sq1.1|exact sq1.2|exact rfl|(intro _;exact rfl)|(intro _ _;exact rfl)|exact trivial|(intro _ h_;exact absurd h_ (Rc _)))⟩
    ·obtain⟨up2,by2⟩:=x2;obtain⟨e5,e6,_⟩:=hx2;subst e5 e6;have e4:true=Ch w sh.grain g r k j:=hb ▸ e4;have hd:=dG hk hj e4.symm hno hno1;obtain⟨eP,eS⟩:=fs hg1 hg15 h1 hd;have n1:(B9 S (BC r sh.id (AN r j) (AH r j))).length=S.length+1:=LH _ _;have l1:(AA (B9 S (BC r sh.id (AN r j) (AH r j)))).n+3*(Al g k).toNat<=1000:=by
      show(B9 S _).length+_<=_;omega
     have l2:(AA (lS w sh (Al g k) (Bc r (AN r j) (AH r j)) P (B9 S (BC r sh.id (AN r j) (AH r j))))).n+3*(AO g k).toNat<=1000:=by
      have:=fl (Al g k) (Bc r (AN r j) (AH r j)) P (B9 S (BC r sh.id (AN r j) (AH r j))) (by omega) (by omega);show(lS w sh (Al g k) (Bc r (AN r j) (AH r j)) P (B9 S (BC r sh.id (AN r j) (AH r j)))).length+_<=_;omega
     have m1:(Al g k).toNat<rn:=by omega
     have m2:(AO g k).toNat<rn:=by omega
     rw[eP,eS];exact⟨(w,sh,d2,P,B9 S (BC r sh.id (AN r j) (AH r j)),Al g k,Bc r (AN r j) (AH r j)),(by(try dsimp only);(repeat' with_reducible apply And.intro)<;>first|with_reducible rfl|with_reducible assumption|with_reducible exact Af8 p1|with_reducible exact fun _=>rfl|with_reducible exact fun _ _=>rfl|with_reducible exact trivial|(intro u _;exact⟨(w,sh,u,lP w sh (Al g k) (Bc r (AN r j) (AH r j)) P (B9 S (BC r sh.id (AN r j) (AH r j))),lS w sh (Al g k) (Bc r (AN r j) (AH r j)) P (B9 S (BC r sh.id (AN r j) (AH r j))),AO g k,Bi r (AN r j) (AH r j)),(by(try dsimp only);(repeat' with_reducible apply And.intro)<;>first|with_reducible rfl|with_reducible assumption|with_reducible exact Af8 p3|with_reducible exact fun _=>rfl|with_reducible exact fun _ _=>rfl|with_reducible exact trivial|(intro u2 _;exact(by(try dsimp only);(repeat' with_reducible apply And.intro)<;>first|with_reducible rfl|with_reducible exact fun _=>rfl|with_reducible exact fun _ _=>rfl|with_reducible exact trivial|exact⟨u2,(by(try dsimp only);(repeat' with_reducible apply And.intro)<;>first|with_reducible rfl|with_reducible exact fun _=>rfl|with_reducible exact fun _ _=>rfl|with_reducible exact trivial|exact rfl|(intro _;exact rfl)|(intro _ _;exact rfl)|exact trivial|(intro _ h_;exact absurd h_ (Rc _)))⟩|exact rfl|(intro _;exact rfl)|(intro _ _;exact rfl)|exact trivial|(intro _ h_;exact absurd h_ (Rc _))))|exact hok|exact Af8 p3|exact g2|exact oB|exact l2|exact m2|exact rfl|(intro _;exact rfl)|(intro _ _;exact rfl)|exact trivial|(intro _ h_;exact absurd h_ (Rc _)))⟩)|exact hok|exact Af8 p1|exact g1|exact oA|exact l1|exact m1|exact rfl|(intro _;exact rfl)|(intro _ _;exact rfl)|exact trivial|(intro _ h_;exact absurd h_ (Rc _)))⟩
    ·have e4:Ch w sh.grain g r k j=false:=hb ▸ e4.symm;have nx:∀j1,j1<j+1->Ch w sh.grain g r k j1=false:=fun j1 h=>by
      rcases Aft.1 h with h|rfl
      ·exact hno1 j1 h
      ·exact e4
     exact(by(try dsimp only);(repeat' with_reducible apply And.intro)<;>first|with_reducible rfl|with_reducible assumption|with_reducible exact fun _=>rfl|with_reducible exact fun _ _=>rfl|with_reducible exact trivial|exact hj|exact hk|exact nx|exact rfl|(intro _;exact rfl)|(intro _ _;exact rfl)|exact trivial|(intro _ h_;exact absurd h_ (Rc _)))
   ·obtain⟨d1,k'⟩:=t;obtain⟨hkk,hj1,hk2,hno1⟩:=ht;obtain rfl:=N4 hg1 hg15 h1 hk hk2 hkk;have nx:∀k1,k1<k+1->∀j,j<Bo r->Ch w sh.grain g r k1 j=false:=fun k1 h=>by
     rcases Aft.1 h with h|rfl
     ·exact hno k1 h
     ·exact hno1
    exact⟨d1,(by(try dsimp only);(repeat' with_reducible apply And.intro)<;>first|with_reducible rfl|with_reducible assumption|with_reducible exact fun _=>rfl|with_reducible exact fun _ _=>rfl|with_reducible exact trivial|exact hk|exact nx|exact rfl|(intro _;exact rfl)|(intro _ _;exact rfl)|exact trivial|(intro _ h_;exact absurd h_ (Rc _)))⟩
  ·have hd:DO w sh.grain g r=none:=AcF hinv.2;obtain⟨eP,eS⟩:=fn hg1 h1 hd;rw[eP,eS];exact⟨d,(by(try dsimp only);(repeat' with_reducible apply And.intro)<;>first|with_reducible rfl|with_reducible exact fun _=>rfl|with_reducible exact fun _ _=>rfl|with_reducible exact trivial|exact rfl|(intro _;exact rfl)|(intro _ _;exact rfl)|exact trivial|(intro _ h_;exact absurd h_ (Rc _)))⟩)
theorem dK:Ao Tryz.prog 86:=fun args w=>by kernel_rfl
theorem AcQ:Dq Tryz.prog 86 Iw:=Lu dJ ⟨fun t=>rfl,fun t u=>rfl,fun t u=>rfl,fun t u=>⟨rfl,rfl,rfl⟩,.inr rfl,fun k h=>by have h:=Afr.1 h;subst h;decide⟩ (fun rn ih=>FE (n:=3) Tryz.func86 (c:=Ah Tryz.f86) (by kernel_rfl) mixed ⟨fun t=>rfl,fun t=>rfl,fun t u=>rfl,fun t u=>rfl,fun t u=>rfl,fun t u=>⟨rfl,rfl⟩,by kernel_rfl,by kernel_rfl⟩ (fun⟨w,sh,dom,P,S,g,r⟩ hp=>⟨_,AcP rn w sh dom P S g r hp.1 hp.2,⟨show Aa Tryz.prog _ from(Aa.cons Ym Yn (Aa.cons AbN AbO (Aa.cons bC bD (Aa.cons bQ bR Aa.nil)))),rfl,⟨show Ag Tryz.prog _ from(Ag.cons Yf Yg (Ag.cons AbR AbS Ag.nil)),⟨Aw.no1 (fun _=>rfl),⟨show Bm Tryz.prog _ from(Bm.cons Qs Qr (Bm.cons Aca AbZ (Bm.cons ih dK Bm.nil))),FamsOk.none (fun _=>rfl)⟩⟩⟩⟩⟩))
end
structure BZ where
 a:L.Pt
 b:L.Pt
def Bu (r:AE):BZ:=⟨r.at_,⟨r.at_.x+r.size.w,r.at_.y+r.size.h⟩⟩
def Jo (r:BZ):Prop:=r.a.x<r.b.x/\r.a.y<r.b.y
def FM (r s:BZ):Prop:=r.b.x<=s.a.x\/s.b.x<=r.a.x\/r.b.y<=s.a.y\/s.b.y<=r.a.y
def EX (r s:BZ):Prop:=s.a.x<=r.a.x/\s.a.y<=r.a.y/\r.b.x<=s.b.x/\r.b.y<=s.b.y
def Jp (r:BZ):Int:=(r.b.x-r.a.x)*(r.b.y-r.a.y)
def Ix:List BZ->Int
 |[]=>0
 |r::l=>Jp r+Ix l
theorem dL {r s:BZ} (h:FM r s):FM s r:=by unfold FM at *;omega
theorem AcR (r:BZ):EX r r:=⟨Af4 _,Af4 _,Af4 _,Af4 _⟩
theorem dM {r s t:BZ} (h:EX r s) (k:EX s t):EX r t:=by unfold EX at *;omega
theorem AcS {r s t:BZ} (h:EX r s) (k:FM s t):FM r t:=by unfold FM EX at *;omega
structure Gd (l:List BZ):Prop where
 ne:∀x,x∈l->Jo x
 ap:l.Pairwise FM
theorem Gd.perm {l m:List BZ} (h:Gd l) (p:l.Perm m):Gd m:=⟨fun x hx=>h.ne x (p.mem_iff.2 hx),(p.pairwise_iff (fun {_ _} h=>dL h)).1 h.ap⟩
theorem AcT (l m:List BZ):Ix (l++m)=Ix l+Ix m:=by
 induction l with
 |nil=>simp[Ix]
 |cons x l ih=>simp only[List.cons_append,Ix,ih];omega
theorem Gd.repl {r:BZ} {l n:List BZ} (h:Gd (r::l)) (hn:Gd n) (hi:∀x,x∈n->EX x r):Gd (n++l):=by
 obtain⟨h1,h2⟩:=Agd.1 h.ap;refine⟨fun x hx=>?_,List.pairwise_append.2 ⟨hn.ap,h2,fun x hx y hy=>AcS (hi x hx) (h1 y hy)⟩⟩;rcases Afz.1 hx with hx|hx
 ·exact hn.ne x hx
 ·exact h.ne x (List.mem_cons_of_mem _ hx)
def dN (r:BZ) (p q:L.Pt):Bool:=decide (p.x=q.x)&&(decide (r.a.x<p.x)&&(decide (p.x<r.b.x)&&(decide (p.y=r.a.y)&&decide (q.y=r.b.y))))
def dO (r:BZ) (p q:L.Pt):Bool:=decide (p.y=q.y)&&(decide (r.a.y<p.y)&&(decide (p.y<r.b.y)&&(decide (p.x=r.a.x)&&decide (q.x=r.b.x))))
def Iy (r:BZ) (p q:L.Pt):Bool:=dN r p q||dO r p q
def QO (l:List BZ) (p q:L.Pt):Option (List BZ):=match l.findIdx? (fun r=>Iy r p q)with
 |none=>none
 |some k=>some (l.set k ⟨(l.getD k ⟨⟨0,0⟩,⟨0,0⟩⟩).a,q⟩ ++ [⟨p,(l.getD k ⟨⟨0,0⟩,⟨0,0⟩⟩).b⟩])
def NL (id:Int) (l:List BZ) (x:AY):Option (List BZ):=if x.kind=1/\x.sheet=id/\x.pts.n=2 then QO l (x.pts.g 0) (x.pts.g 1)else none
def Iz (id:Int) (l:List BZ):List AY->Option (List BZ)
 |[]=>some l
 |x::S=>match NL id l x with
   |none=>none
   |some m=>Iz id m S
theorem dP (id:Int):∀(S T:List AY) (l m:List BZ),Iz id l S=some m->Iz id l (S++T)=Iz id m T
 |[],T,l,m,h=>by cases h;rfl
 |x::S,T,l,m,h=>by
   rw[List.cons_append,Iz];rw[Iz]at h;cases hx:NL id l x with
   |none=>rw[hx]at h;cases h
   |some m'=>rw[hx]at h;exact dP id S T m' m h
theorem QP {r:BZ} {p q:L.Pt}:Iy r p q=true↔(p.x=q.x/\r.a.x<p.x/\p.x<r.b.x/\p.y=r.a.y/\q.y=r.b.y)\/(p.y=q.y/\r.a.y<p.y/\p.y<r.b.y/\p.x=r.a.x/\q.x=r.b.x):=by
 unfold Iy dN dO;simp only[Bool.or_eq_true,nT,decide_eq_true_eq]
theorem dQ {l:List BZ} {k:Nat} (h:k<l.length) (y:BZ):(l.set k y).Perm (y::l.eraseIdx k):=by
 induction l generalizing k with
 |nil=>simp at h
 |cons x l ih =>
   cases k with
   |zero=>simp
   |succ k =>
     simp only[List.set_cons_succ,List.eraseIdx_cons_succ];exact((ih (by simpa using h)).cons x).trans (List.Perm.swap _ _ _)
theorem AcU {l rest:List BZ} {r:BZ} {p q:L.Pt} (hp:l.Perm (r::rest)) (hg:Gd l) (hs:Iy r p q=true):∃l',QO l p q=some l'/\l'.Perm (⟨r.a,q⟩::⟨p,r.b⟩::rest):=by
 have hr:r∈l:=hp.mem_iff.2 (List.mem_cons_self ..);unfold QO;cases hf:l.findIdx? (fun r=>Iy r p q)with
 |none =>
   rw[List.findIdx?_eq_none_iff]at hf;have:=hf r hr;rw[hs]at this;cases this
 |some k =>
   rw[List.findIdx?_eq_some_iff_getElem]at hf;obtain⟨hk,h1,_⟩:=hf;have e:l[k]=r:=by
    have hk2:l[k]∈l:=Af3 hk;have hq:l[k]=r\/FM l[k] r:=by
     rcases Afk.1 (hp.mem_iff.1 hk2)with h|h
     ·exact .inl h
     ·exact .inr (dL ((Agd.1 (hg.perm hp).ap).1 _ h))
    rcases hq with h|h
    ·exact h
    ·have n1:=hg.ne _ hk2;have n2:=hg.ne _ hr;rw[QP]at h1 hs;unfold FM at h;unfold Jo at n1 n2;exfalso;omega
   have e2:l.getD k ⟨⟨0,0⟩,⟨0,0⟩⟩=r:=by rw[AS,oE hk];exact e
   refine⟨_,rfl,?_⟩;rw[e2];have h2:(l.eraseIdx k).Perm rest:=by
    have:l.Perm (l[k]::l.eraseIdx k):=by
     have:=dQ hk l[k];rwa[List.set_getElem_self]at this
    rw[e]at this;exact(this.symm.trans hp).cons_inv
   refine((dQ hk _).append_right _).trans ?_;simp only[List.cons_append];refine List.Perm.cons _ ?_;exact(AgL (l₁:=l.eraseIdx k)).trans (h2.cons _)
theorem AcV {r:AE} {b:Int} (hb:1<=b) (h:b<r.size.w):Iy (Bu r) (LF r true b) (LG r true b)=true:=by
 rw[QP];exact .inl ⟨rfl,by show r.at_.x<r.at_.x+b;omega,by show r.at_.x+b<r.at_.x+r.size.w;omega,rfl,rfl⟩
theorem AcW {r:AE} {b:Int} (hb:1<=b) (h:b<r.size.h):Iy (Bu r) (LF r false b) (LG r false b)=true:=by
 rw[QP];exact .inr ⟨rfl,by show r.at_.y<r.at_.y+b;omega,by show r.at_.y+b<r.at_.y+r.size.h;omega,rfl,rfl⟩
theorem AcX {l rest:List BZ} {r:AE} {id:Int} {up:Bool} {b:Int} (hp:l.Perm (Bu r::rest)) (hg:Gd l) (hb:1<=b) (hb':up=true->b<r.size.w) (hb2:up=false->b<r.size.h) :
  ∃l',NL id l (BC r id up b)=some l'/\l'.Perm (Bu (Bc r up b)::Bu (Bi r up b)::rest):=by
 have hs:Iy (Bu r) (LF r up b) (LG r up b)=true:=by
  cases up with
  |true=>exact AcV hb (hb' rfl)
  |false=>exact AcW hb (hb2 rfl)
 obtain⟨l',h1,h2⟩:=AcU hp hg hs;refine⟨l',?_,?_⟩
 ·unfold NL;rw[if_pos ⟨rfl,rfl,rfl⟩];exact h1
 ·have e1 : (⟨(Bu r).a, LG r up b⟩: BZ)= Bu (Bc r up b):=by
   cases up<;>rfl
  have e2:(⟨LF r up b,(Bu r).b⟩:BZ)=Bu (Bi r up b):=by
   cases up
   ·show(⟨⟨r.at_.x,r.at_.y+b⟩,⟨r.at_.x+r.size.w,r.at_.y+r.size.h⟩⟩:BZ)=⟨⟨r.at_.x,r.at_.y+b⟩,⟨r.at_.x+r.size.w,r.at_.y+b+(r.size.h-b)⟩⟩;rw[show r.at_.y+b+(r.size.h-b)=r.at_.y+r.size.h by omega]
   ·show(⟨⟨r.at_.x+b,r.at_.y⟩,⟨r.at_.x+r.size.w,r.at_.y+r.size.h⟩⟩:BZ)=⟨⟨r.at_.x+b,r.at_.y⟩,⟨r.at_.x+b+(r.size.w-b),r.at_.y+r.size.h⟩⟩;rw[show r.at_.x+b+(r.size.w-b)=r.at_.x+r.size.w by omega]
  rw[e1,e2]at h2;exact h2
structure Fj (id:Int) (r:AE) (X:List AY) (N:List BZ):Prop where
 run:∀l rest:List BZ,l.Perm (Bu r::rest)->Gd l->∃l',Iz id l X=some l'/\l'.Perm (N++rest)
 gd:Gd N
 ins:∀x,x∈N->EX x (Bu r)
 ar:Ix N=Jp (Bu r)
theorem Fj.none (id:Int) {r:AE} (hw:1<=r.size.w) (hh:1<=r.size.h):Fj id r [] [Bu r]:=
 ⟨fun l rest hp _=>⟨l,rfl,hp⟩,⟨fun x hx=>by rw[Afr.1 hx];unfold Jo Bu;simp only;omega,AgW _ _⟩,fun x hx=>by rw[Afr.1 hx];exact AcR _,by simp[Ix]⟩
theorem AcY {r:AE} {up:Bool} {b:Int}:Jp (Bu (Bc r up b))+Jp (Bu (Bi r up b))=Jp (Bu r):=by
 cases up
 ·simp only[Jp,Bu,Bc,Bi,cond_false];have e1:r.at_.x+r.size.w-r.at_.x=r.size.w:=by omega
  have e2:r.at_.y+b-r.at_.y=b:=by omega
  have e3:r.at_.y+b+(r.size.h-b)-(r.at_.y+b)=r.size.h-b:=by omega
  have e4:r.at_.y+r.size.h-r.at_.y=r.size.h:=by omega
  rw[e1,e2,e3,e4,<- Int.mul_add];congr 1;omega
 ·simp only[Jp,Bu,Bc,Bi,cond_true];have e1:r.at_.x+b-r.at_.x=b:=by omega
  have e2:r.at_.y+r.size.h-r.at_.y=r.size.h:=by omega
  have e3:r.at_.x+b+(r.size.w-b)-(r.at_.x+b)=r.size.w-b:=by omega
  have e4:r.at_.x+r.size.w-r.at_.x=r.size.w:=by omega
  rw[e1,e2,e3,e4,<- Int.add_mul];congr 1;omega
theorem AcZ {r:AE} {b:Int} (hb:1<=b) (h0:0<=r.size.w) (h1:0<=r.size.h) (h:b<r.size.w):EX (Bu (Bc r true b)) (Bu r)/\EX (Bu (Bi r true b)) (Bu r)/\FM (Bu (Bc r true b)) (Bu (Bi r true b)):=by
 simp only[EX,FM,Bu,Bc,Bi,cond_true];omega
theorem Ada {r:AE} {b:Int} (hb:1<=b) (h0:0<=r.size.w) (h1:0<=r.size.h) (h:b<r.size.h):EX (Bu (Bc r false b)) (Bu r)/\EX (Bu (Bi r false b)) (Bu r)/\FM (Bu (Bc r false b)) (Bu (Bi r false b)):=by
 simp only[EX,FM,Bu,Bc,Bi,cond_false];omega
theorem Adb {r:AE} {up:Bool} {b:Int} (hb:1<=b) (h0:0<=r.size.w) (h1:0<=r.size.h) (hb':up=true->b<r.size.w) (hb2:up=false->b<r.size.h):EX (Bu (Bc r up b)) (Bu r)/\EX (Bu (Bi r up b)) (Bu r)/\FM (Bu (Bc r up b)) (Bu (Bi r up b)):=by
 cases up with
 |true=>exact AcZ hb h0 h1 (hb' rfl)
 |false=>exact Ada hb h0 h1 (hb2 rfl)
theorem Fj.split {id:Int} {r:AE} {up:Bool} {b:Int} {X Y:List AY} {N M:List BZ} (hw:1<=r.size.w) (hh:1<=r.size.h) (hb:1<=b) (hb':up=true->b<r.size.w) (hb2:up=false->b<r.size.h)
  (h1:Fj id (Bc r up b) X N) (h2:Fj id (Bi r up b) Y M):Fj id r (BC r id up b::(X++Y)) (N++M):=by
 obtain⟨i1,i2,i3⟩:=Adb hb (by omega) (by omega) hb' hb2;have gAB:Gd [Bu (Bc r up b),Bu (Bi r up b)]:=by
  refine⟨fun x hx=>?_,Agd.2 ⟨fun y hy=>by rw[Afr.1 hy];exact i3,AgW _ _⟩⟩;rcases Afk.1 hx with rfl|hx
  ·cases up with
   |true=>have:=hb' rfl;unfold Jo Bu Bc;simp only[cond_true];omega
   |false=>have:=hb2 rfl;unfold Jo Bu Bc;simp only[cond_false];omega
  ·rw[Afr.1 hx];cases up with
   |true=>have:=hb' rfl;unfold Jo Bu Bi;simp only[cond_true];omega
   |false=>have:=hb2 rfl;unfold Jo Bu Bi;simp only[cond_false];omega
 refine⟨fun l rest hp hg=>?_,?_,fun x hx=>?_,?_⟩
 ·obtain⟨l1,r1,p1⟩:=AcX (id:=id) hp hg hb hb' hb2;have g1:Gd l1:=by
   have:=(hg.perm hp).repl gAB (fun x hx=>by
    rcases Afk.1 hx with rfl|hx
    ·exact i1
    ·rw[Afr.1 hx];exact i2)
   exact this.perm p1.symm
  obtain⟨l2,r2,p2⟩:=h1.run l1 (Bu (Bi r up b)::rest) p1 g1;have g2:Gd l2:=((g1.perm p1).repl h1.gd h1.ins).perm p2.symm;have p2':l2.Perm (Bu (Bi r up b)::(N++rest)):=p2.trans List.perm_middle;obtain⟨l3,r3,p3⟩:=h2.run l2 (N++rest) p2' g2;refine⟨l3,?_,?_⟩
  ·rw[Iz,r1];simp only;rw[dP id X Y l1 l2 r2,r3]
  ·refine p3.trans ?_;rw[<- AfS];exact List.perm_append_comm.append_right _
 ·have:=(Gd.repl (r:=Bu (Bc r up b)) (l:=[Bu (Bi r up b)]) gAB h1.gd h1.ins);have:=(this.perm (AgL (l₁:=N) (l₂:=[Bu (Bi r up b)])));have:=Gd.repl (r:=Bu (Bi r up b)) (l:=N) this h2.gd h2.ins;exact this.perm AgL
 ·rcases Afz.1 hx with hx|hx
  ·exact dM (h1.ins x hx) i1
  ·exact dM (h2.ins x hx) i2
 ·rw[AcT,h1.ar,h2.ar,AcY]
theorem dR {l:L.Sq L.Pt} (hv:AP l=true) (t:Int):1<=(Bv l t).w/\1<=(Bv l t).h:=by
 obtain⟨n3,_,_,_⟩:=Gy hv;have hc:=(Wp hv).2 1 (by omega);have e1:FG l.n 1=0:=by
  unfold FG;rw[show((1:Nat):Int)+(l.n:Int)-1=(l.n:Int)by omega,Int.tmod_self];rfl
 have l0:=Kk (l:=l) l.n 0 (by omega);have l1:=Kk (l:=l) l.n 1 (by omega);have h0:=Kl (l:=l) l.n 0 (by omega);have h1:=Kl (l:=l) l.n 1 (by omega);have hn:Cf l.n 1<l.n:=In (by omega);have l2:=Kk (l:=l) l.n _ hn;have h2:=Kl (l:=l) l.n _ hn;rw[e1]at hc;generalize l.g (Cf l.n 1)=c at *;have eL:BL l=CF l l.n:=by unfold BL;rw[hv];rfl
 have eH:BM l=CG l l.n:=by unfold BM;rw[hv];rfl
 have hx:(BL l).x<(BM l).x:=by
  rw[eL,eH];refine Int.not_le.1 fun hle=>hc ?_;have q1:(l.g 1).x=(l.g 0).x:=by omega
  have q2:c.x=(l.g 0).x:=by omega
  unfold B4;rw[q1,q2];simp
 have hy:(BL l).y<(BM l).y:=by
  rw[eL,eH];refine Int.not_le.1 fun hle=>hc ?_;have q1:(l.g 1).y=(l.g 0).y:=by omega
  have q2:c.y=(l.g 0).y:=by omega
  unfold B4;rw[q1,q2];simp
 unfold Bv;cases decide (t=1)<;>simp only[cond_true,cond_false]<;>omega
def dS (n k:Nat):Bool:=let p:=Al n k;let c:=AO n k;(BI n).isPerm (BI p++BI c)&&(Afm 4).all fun i=>(CB n i == (CB p i||CB c i)) && !(CB p i&&CB c i)
def QQ (n:Nat):Bool:=if n=0 then true else if Bs n=true then decide (BI n = [AI n])&&CB n (AI n)&&(Afm 4).all fun i=>CB n i == decide (i=AI n)else(Afm (AD n)).all (dS n)
theorem dT:((Afm 16).all QQ)=true:=by kernel_rfl
theorem QR {n:Nat} (h:1<=n) (h15:n<=15) (h1:Bs n=true):BI n = [AI n]/\∀i,i<4->CB n i=decide (i=AI n):=by
 have:=Afj.1 dT n (Afl.2 (by omega));unfold QQ at this;rw[if_neg (by omega),if_pos h1]at this;simp only[nT,decide_eq_true_eq,Afj,beq_iff_eq]at this;exact⟨this.1.1,fun i hi=>this.2 i (Afl.2 hi)⟩
theorem LM {n:Nat} (h:1<=n) (h15:n<=15) (h1:Bs n=false) {k:Nat} (hk:k<AD n):(BI n).Perm (BI (Al n k)++BI (AO n k))/\∀i,i<4->CB n i=(CB (Al n k) i||CB (AO n k) i)/\(CB (Al n k) i&&CB (AO n k) i)=false:=by
 have:=Afj.1 dT n (Afl.2 (by omega));unfold QQ at this;rw[if_neg (by omega),if_neg (by rw[h1];decide)]at this;have:=Afj.1 this k (Afl.2 hk);unfold dS at this;simp only[nT,Afj,beq_iff_eq,AfA]at this;exact⟨List.isPerm_iff.1 this.1,fun i hi=>this.2 i (Afl.2 hi)⟩
theorem QS {m:Int} {i:Nat}:i∈BI m↔i<4/\CB m i=true:=by
 unfold BI;rw[Afh,Afl]
def Jq (w:L.Sq Ab) (P:Nat->AZ) (i:Nat):BZ:=⟨(P i).at_,⟨(P i).at_.x+(Bv (w.g i).ol (P i).turn).w,(P i).at_.y+(Bv (w.g i).ol (P i).turn).h⟩⟩
def QT (w:L.Sq Ab) (sh:Aj) (P:Nat->AZ) (i:Nat):Prop:=(P i).want=(w.g i).id/\(P i).sheet=sh.id/\((P i).turn=0\/(P i).turn=1)/\Cz (w.g i).grain sh.grain (P i).turn=true
theorem dU {w:L.Sq Ab} {gr:Int} {i:Nat} {r:AE} {t:Int}:GU w gr i r t=true↔Cz (w.g i).grain gr t=true/\Cu.le (Bv (w.g i).ol t) r.size:=by
 unfold GU Cu.le;cases h1:Cz (w.g i).grain gr t
 ·simp
 ·by_cases h2:(Bv (w.g i).ol t).w<=r.size.w<;>by_cases h3:(Bv (w.g i).ol t).h<=r.size.h<;>simp[h2,h3]
theorem dV {w:L.Sq Ab} {gr g:Int} {r:AE} (h:1<=g) (h15:g<=15) (h1:Bs g=true) (hf:Da w gr g r.size):(E6 w gr (AI g) r=0\/E6 w gr (AI g) r=1)/\Cz (w.g (AI g)).grain gr (E6 w gr (AI g) r)=true/\Cu.le (Bv (w.g (AI g)).ol (E6 w gr (AI g) r)) r.size:=by
 obtain⟨t,ht,h2,h3⟩:=(Z2 h h15 h1).1 hf;unfold E6;cases h0:GU w gr (AI g) r 0 with
 |true=>exact⟨.inl rfl,dU.1 h0⟩
 |false =>
   rcases ht with rfl|rfl
   ·rw[dU.2 ⟨h2,h3⟩]at h0;cases h0
   ·exact⟨.inr rfl,h2,h3⟩
theorem dW (id:Int) {r:AE} {h:Int} (hw:1<=r.size.w) (h1:1<=h) (hh:h<=r.size.h):∃M,Fj id r (bif decide (h<r.size.h)then [BC r id false h]else []) (Bu ⟨r.at_,⟨r.size.w,h⟩⟩::M):=by
 by_cases e:h<r.size.h
 ·rw[decide_eq_true e];exact⟨[_],Fj.split hw (by omega) h1 (fun h=>by cases h) (fun _=>e) (Fj.none id (r:=Bc r false h) hw h1) (Fj.none id (r:=Bi r false h) hw (by show 1<=r.size.h-h;omega))⟩
 ·rw[decide_eq_false e];have:h=r.size.h:=by omega
  subst this;exact⟨[],Fj.none id hw h1⟩
theorem Adc (w:L.Sq Ab) (sh:Aj) (i:Nat) (r:AE) (S:List AY) (hw:1<=(BS w sh i r).w) (hh:1<=(BS w sh i r).h) (h1:(BS w sh i r).w<=r.size.w) (h2:(BS w sh i r).h<=r.size.h) :
  ∃X M,E8 w sh i r S=S++X/\Fj sh.id r X (Bu ⟨r.at_,BS w sh i r⟩::M):=by
 unfold E8 E7 ET
 by_cases e:(BS w sh i r).w<r.size.w
 ·rw[decide_eq_true e];simp only[cond_true];obtain⟨M,hM⟩:=dW sh.id (r:=Bc r true (BS w sh i r).w) hw hh h2;refine⟨_,_,?_,Fj.split (by omega) (by omega) hw (fun _=>e) (fun h=>by cases h) hM (Fj.none sh.id (r:=Bi r true (BS w sh i r).w) (by show 1<=r.size.w-_;omega) (by show 1<=r.size.h;omega))⟩;cases decide ((BS w sh i r).h<(Bc r true (BS w sh i r).w).size.h)<;>simp[B9]
 ·rw[decide_eq_false e];simp only[cond_false];have e1:(BS w sh i r).w=r.size.w:=by omega
  obtain⟨M,hM⟩:=dW sh.id (r:=r) (by omega) hh h2;rw[<- e1]at hM;refine⟨_,M,?_,hM⟩;cases decide ((BS w sh i r).h<r.size.h)<;>simp[B9]
theorem NM {w:L.Sq Ab} {gr:Int}:∀(n:Nat),1<=n->n<=15->(∀i,i<4->CB n i=true->AP (w.g i).ol=true)->∀s:Ac,Da w gr n s->1<=s.w/\1<=s.h:=fun n=>by
 induction n using Nat.strongRecOn with
 |_ n ih =>
   intro h h15 hv s hf;cases h1:Bs n with
   |true =>
     obtain⟨t,_,_,h2,h3⟩:=(Z2 (by omega) (by omega) h1).1 hf;have hi:=(LA (show 1<=(n:Int)by omega) (by omega) h1).2;have:=dR (hv _ hi (by rw[(QR h h15 h1).2 _ hi];exact decide_eq_true rfl)) t;omega
   |false =>
     obtain⟨k,hk,hj⟩:=(Z3 (by omega) (by omega) h1).1 hf;obtain⟨p1,p2,p3,p4,_⟩:=(FK (show 1<=(n:Int)by omega) (by omega) h1).2 k hk;have hb:=(LM h h15 h1 hk).2;obtain⟨x,hx⟩:=Afw (Af8 p1);obtain⟨y,hy⟩:=Afw (Af8 p3);rw[hx,hy]at hj hb;have ix:=ih x (by omega) (by omega) (by omega) (fun i hi hbi=>hv i hi (by rw[(hb i hi).1,hbi];rfl));have iy:=ih y (by omega) (by omega) (by omega) (fun i hi hbi=>hv i hi (by rw[(hb i hi).1,hbi,AgH]));rcases hj with ⟨a,b,h,q1,q2⟩|⟨a,b,h,q1,q2⟩
     ·have:=ix _ q1;have:=iy _ q2;simp only at *;omega
     ·have:=ix _ q1;have:=iy _ q2;simp only at *;omega
theorem dX {w:L.Sq Ab} {gr:Int} {n:Nat} (h:1<=n) (h15:n<=15) (h1:Bs n=false) (hv:∀i,i<4->CB n i=true->AP (w.g i).ol=true) {r:AE} (hf:Da w gr n r.size):∃k j,DO w gr n r=some (k,j):=by
 obtain⟨k,hk,hj⟩:=(Z3 (by omega) (by omega) h1).1 hf;obtain⟨p1,p2,p3,p4,_⟩:=(FK (show 1<=(n:Int)by omega) (by omega) h1).2 k hk;have hb:=(LM h h15 h1 hk).2;have px:∀s,Da w gr (Al n k) s->1<=s.w/\1<=s.h:=fun s hs=>by
  obtain⟨x,hx⟩:=Afw (Af8 p1);rw[hx]at hs hb;exact NM x (by omega) (by omega) (fun i hi hbi=>hv i hi (by rw[(hb i hi).1,hbi];rfl)) s hs
 have py:∀s,Da w gr (AO n k) s->1<=s.w/\1<=s.h:=fun s hs=>by
  obtain⟨x,hx⟩:=Afw (Af8 p3);rw[hx]at hs hb;exact NM x (by omega) (by omega) (fun i hi hbi=>hv i hi (by rw[(hb i hi).1,hbi,AgH])) s hs
 have key:∃j,j<Bo r/\Ch w gr n r k j=true:=by
  have eW:BD r=(r.size.w-1).toNat:=rfl;have eN:Bo r=(r.size.w-1).toNat+(r.size.h-1).toNat:=rfl;rcases hj with ⟨a,b,h,q1,q2⟩|⟨a,b,h,q1,q2⟩
  ·have a1:=(px _ q1).1;have b1:=(py _ q2).1;simp only at a1 b1;obtain⟨j,rfl⟩:∃j:Nat,a=(j:Int)+1:=⟨(a-1).toNat,by omega⟩;have eU:AN r j=true:=decide_eq_true (by omega);have eI:AH r j=(j:Int)+1:=by unfold AH;rw[eU];rfl
   refine⟨j,by omega,?_⟩;unfold Ch;rw[eU,eI];have r1:Cd w gr (Al n k) (Bc r true ((j:Int)+1)).size=true:=Gg.2 q1;have r2:Cd w gr (AO n k) (Bi r true ((j:Int)+1)).size=true:=Gg.2 (Kt q2 ⟨by show b<=r.size.w-_;omega,Af4 _⟩);rw[r1,r2];rfl
  ·have a1:=(px _ q1).2;have b1:=(py _ q2).2;simp only at a1 b1;obtain⟨j,rfl⟩:∃j:Nat,a=(j:Int)+1:=⟨(a-1).toNat,by omega⟩;have eU:AN r (BD r+j)=false:=decide_eq_false (by omega);have eI:AH r (BD r+j)=(j:Int)+1:=by unfold AH;rw[eU,Nat.add_sub_cancel_left];rfl
   refine⟨BD r+j,by omega,?_⟩;unfold Ch;rw[eU,eI];have r1:Cd w gr (Al n k) (Bc r false ((j:Int)+1)).size=true:=Gg.2 q1;have r2:Cd w gr (AO n k) (Bi r false ((j:Int)+1)).size=true:=Gg.2 (Kt q2 ⟨Af4 _,by show b<=r.size.h-_;omega⟩);rw[r1,r2];rfl
 obtain⟨j,hj1,hj2⟩:=key;cases hd:DO w gr n r with
 |some x=>exact⟨x.1,x.2,rfl⟩
 |none =>
   unfold DO at hd;have:=Agg.1 hd k (Afl.2 hk);rw[Agp,Agy]at this;exact absurd hj2 (this j (Afl.2 hj1))
theorem dY (w:L.Sq Ab) (sh:Aj):∀(n:Nat),1<=n->n<=15->(∀i,i<4->CB n i=true->AP (w.g i).ol=true)->∀(r:AE) (s:FL),1<=r.size.w->1<=r.size.h->Da w sh.grain n r.size ->
  ∃X N M,(CN w sh n r s).sc=s.sc++X/\Fj sh.id r X N/\N.Perm ((BI n).map (Jq w (CN w sh n r s).pl)++M)/\(∀i,i<4->CB n i=false->(CN w sh n r s).pl i=s.pl i)/\∀i,i<4->CB n i=true->QT w sh (CN w sh n r s).pl i:=fun n=>by
 induction n using Nat.strongRecOn with
 |_ n ih =>
   intro h h15 hv r s hw hh hf;cases h1:Bs n with
   |true =>
     obtain⟨q1,q2⟩:=QR h h15 h1;have hi:=(LA (show 1<=(n:Int)by omega) (by omega) h1).2;rw[QL w sh r s (by omega) h1];obtain⟨t1,t2,t3,t4⟩:=dV (by omega) (by omega) h1 hf;have hb:=dR (hv _ hi (by rw[q2 _ hi];exact decide_eq_true rfl)) (E6 w sh.grain (AI n) r);obtain⟨X,M,e1,e2⟩:=Adc w sh (AI n) r s.sc hb.1 hb.2 t3 t4;refine⟨X,_,M,e1,e2,?_,fun i hi' hb'=>?_,fun i hi' hb'=>?_⟩
     ·rw[q1];have:Jq w (D9 w sh (AI n) r s.pl) (AI n)=Bu ⟨r.at_,BS w sh (AI n) r⟩:=by
       unfold Jq D9 Kv;simp only[if_true];rfl
      simp only[List.map_cons,List.map_nil,this];exact List.Perm.refl _
     ·rw[q2 i hi',decide_eq_false_iff_not]at hb';dsimp only;unfold D9 Kv;rw[if_neg hb']
     ·rw[q2 i hi',decide_eq_true_eq]at hb';subst hb';dsimp only;unfold QT D9 Kv;simp only[if_true];exact⟨trivial,trivial,t1,t2⟩
   |false =>
     obtain⟨k,j,hd⟩:=dX h h15 h1 hv hf;obtain⟨hk,hj,hok⟩:=LL hd;obtain⟨p1,p2,p3,p4,_⟩:=(FK (show 1<=(n:Int)by omega) (by omega) h1).2 k hk;obtain⟨hpm,hb⟩:=LM h h15 h1 hk;have hok2:Da w sh.grain (Al n k) (Bc r (AN r j) (AH r j)).size/\Da w sh.grain (AO n k) (Bi r (AN r j) (AH r j)).size:=by
      unfold Ch at hok;cases e1:Cd w sh.grain (Al n k) (Bc r (AN r j) (AH r j)).size with
      |false=>rw[e1]at hok;cases hok
      |true =>
        rw[e1,cond_true]at hok;exact⟨Gg.1 e1,Gg.1 hok⟩
     have bd:1<=AH r j/\(AN r j=true->AH r j<r.size.w)/\(AN r j=false->AH r j<r.size.h):=by
      have eW:BD r=(r.size.w-1).toNat:=rfl;have eN:Bo r=(r.size.w-1).toNat+(r.size.h-1).toNat:=rfl
      by_cases hl:j<BD r
      ·have e:AN r j=true:=decide_eq_true hl;unfold AH;rw[e,cond_true];exact⟨by omega,fun _=>by omega,(fun h=>by cases h)⟩
      ·have e:AN r j=false:=decide_eq_false hl;unfold AH;rw[e,cond_false];exact⟨by omega,(fun h=>by cases h),fun _=>by omega⟩
     rw[QM w sh s (by omega) (by omega) h1 hd];generalize hup:AN r j=up at *;generalize hby:AH r j=by_ at *;obtain⟨b1,b2,b3⟩:=bd;obtain⟨f1,f2⟩:=hok2;have sA:1<=(Bc r up by_).size.w/\1<=(Bc r up by_).size.h:=by
      cases up with
      |true=>have:=b2 rfl;unfold Bc;simp only[cond_true];omega
      |false=>have:=b3 rfl;unfold Bc;simp only[cond_false];omega
     have sB:1<=(Bi r up by_).size.w/\1<=(Bi r up by_).size.h:=by
      cases up with
      |true=>have:=b2 rfl;unfold Bi;simp only[cond_true];omega
      |false=>have:=b3 rfl;unfold Bi;simp only[cond_false];omega
     obtain⟨x,hx⟩:=Afw (Af8 p1);obtain⟨y,hy⟩:=Afw (Af8 p3);rw[hx]at f1 hb hpm p1 p2 ⊢;rw[hy]at f2 hb hpm p3 p4 ⊢;obtain⟨X,N,M,e1,e2,e3,e4,e5⟩:=ih x (by omega) (by omega) (by omega) (fun i hi hbi=>hv i hi (by rw[(hb i hi).1,hbi];rfl)) (Bc r up by_) ⟨s.pl,B9 s.sc (BC r sh.id up by_)⟩ sA.1 sA.2 f1;generalize CN w sh x (Bc r up by_) ⟨s.pl,B9 s.sc (BC r sh.id up by_)⟩=s1 at *;obtain⟨Y,N2,M2,g1,g2,g3,g4,g5⟩:=ih y (by omega) (by omega) (by omega) (fun i hi hbi=>hv i hi (by rw[(hb i hi).1,hbi,AgH])) (Bi r up by_) s1 sB.1 sB.2 f2;generalize CN w sh y (Bi r up by_) s1=s2 at *;refine⟨BC r sh.id up by_::(X++Y),N++N2,M++M2,?_,Fj.split hw hh b1 b2 b3 e2 g2,?_,fun i hi hbi=>?_,fun i hi hbi=>?_⟩
     ·rw[g1,e1];simp[B9]
     ·have hm : (BI x).map (Jq w s1.pl)= (BI x).map (Jq w s2.pl):=AgE fun i hi =>by
       obtain⟨h4,hbx⟩:=QS.1 hi;have:=(hb i h4).2;rw[hbx,AgY]at this;unfold Jq;rw[g4 i h4 this]
      rw[hm]at e3;refine(e3.append g3).trans ?_;refine List.Perm.trans ?_ ((hpm.map (Jq w s2.pl)).symm.append_right _);rw[Ag4];simp only[AfS];refine List.Perm.append_left _ ?_;rw[<- AfS,<- AfS];exact List.perm_append_comm.append_right _
     ·rw[(hb i hi).1,Bool.or_eq_false_iff]at hbi;rw[g4 i hi hbi.2,e4 i hi hbi.1]
     ·cases hbx:CB x i with
      |true =>
        have:=(hb i hi).2;rw[hbx,AgY]at this;have h5:=e5 i hi hbx;unfold QT at h5 ⊢;rw[g4 i hi this];exact h5
      |false =>
        rw[(hb i hi).1,hbx,Bool.false_or]at hbi;exact g5 i hi hbi
section
set_option maxHeartbeats 40000000
def GX (sh:Aj):AE:=⟨⟨0,0⟩,⟨sh.w,sh.h⟩⟩
def FN:Nat->AZ:=fun _=>⟨0,0,0,⟨0,0⟩⟩
def Jr (w:L.Sq Ab) (sh:Aj):FL:=CN w sh (Az w.n) (GX sh) ⟨FN,[]⟩
def CR (w:L.Sq Ab) (sh:Aj):Nat->AZ:=(Jr w sh).pl
def G4 (w:L.Sq Ab) (sh:Aj):List AY:=(Jr w sh).sc
def Ci (w:L.Sq Ab) (sh:Aj):Int:=bif !decide (BO w sh=0)then BO w sh else bif !CZ w sh then 52 else 0
def Ef (w:L.Sq Ab) (sh:Aj):Nat:=bif decide (Ci w sh=0)then w.n else 0
def Eg (w:L.Sq Ab) (sh:Aj):L.Sq AY:=AA (bif decide (Ci w sh=0)then G4 w sh else [])
theorem QU {s:Aj} (h:BH s=true):1<=s.w/\s.w<=4096/\1<=s.h/\s.h<=4096/\0<=s.grain/\s.grain<=2/\1<=s.id/\s.id<=65535:=by
 unfold BH at h;cases h1:Ay s.id 1 65535
 ·rw[h1]at h;cases h
 cases h2:Ay s.colour 1 16
 ·rw[h1,h2]at h;cases h
 cases h3:Ay s.w 1 4096
 ·rw[h1,h2,h3]at h;cases h
 cases h4:Ay s.h 1 4096
 ·rw[h1,h2,h3,h4]at h;cases h
 rw[h1,h2,h3,h4]at h;have h:Ay s.grain 0 2=true:=h;unfold Ay at h h1 h3 h4;rw[nT,decide_eq_true_eq,decide_eq_true_eq]at h h1 h3 h4;omega
theorem Ade {s:L.Sq Aj} (h:G1 s=true) {i:Nat} (hi:i<s.n):BH (s.g i)=true:=by
 have:=CQ.1 h i hi;simp only[AfA]at this;unfold CX at this;cases h1:BH (s.g i)
 ·simp only[h1]at this;cases this
 ·rfl
theorem Adf {sh:Aj} (h:BH sh=true):Db (GX sh):=by
 obtain⟨h1,h2,h3,h4,_⟩:=QU h;exact⟨Af4 _,Af4 _,by show 0<=sh.w;omega,by show 0<=sh.h;omega,by show 0+sh.w<=4096;omega,by show 0+sh.h<=4096;omega⟩
theorem NN {w:L.Sq Ab} {s:Aj} (h:BO w s=0):Dj w=true/\BH s=true/\w.n<=7:=by
 obtain⟨h1,h2,-,h4,-⟩:=Kp h;exact⟨h1,Ade (s:=N8 s) (i:=0) h2 (show 0<1 by decide),h4⟩
section
attribute [local irreducible] Al Dv D6 Gl Az ED CN Cd Ae AW
abbrev Kz:Mk:={ T:=(L.Sq Ab)×(Aj),U:=Int->Bool,args:=fun t=>(fun w sh=>[.p ((.sl 4 w.n (fun i=>[.int .i64 ((w.g i).id),.int .i64 ((w.g i).colour),.int .i64 ((w.g i).grain),.sl 2 (w.g i).ol.n (fun i1=>[.int .i64 (((w.g i).ol.g i1).x),.int .i64 (((w.g i).ol.g i1).y)])]))),.p ((.agg [.int .i64 sh.id,.int .i64 sh.colour,.int .i64 sh.w,.int .i64 sh.h,.int .i64 sh.grain]))]) t.1 t.2,lkeys:=[],keys:=[9,7,15,13,20],lent:=fun t=>(fun w sh=>[]) t.1 t.2,pre:=fun t=>(fun w sh=>B7 w/\BH sh=true) t.1 t.2,post:=fun t u=>(fun w sh=>fun u=>True) t.1 t.2 u,lent':=fun t u=>(fun w sh=>fun u=>[]) t.1 t.2 u,own:=fun t u=>(fun w sh=>fun u=>[(9,.blk 130 [.p ((.sl 4 w.n (fun i=>[.int .i64 ((w.g i).id),.int .i64 ((w.g i).colour),.int .i64 ((w.g i).grain),.sl 2 (w.g i).ol.n (fun i1=>[.int .i64 (((w.g i).ol.g i1).x),.int .i64 (((w.g i).ol.g i1).y)])]))),.p (.int .i64 sh.grain),.mapv 7]),(7,.mq 3 27 u (Ai (Ae w sh.grain))),(15,.blk 93 [.loc 9 0,.p (.int .i64 sh.id),.p (.int .i64 sh.colour),.p (.int .i64 sh.w),.p (.int .i64 sh.h),.p (.int .i64 sh.grain),.row 13,.row 20]),(13,.row 76 5 w.n (fun k=>[.int .i64 ((CR w sh k).want),.int .i64 ((CR w sh k).sheet),.int .i64 ((CR w sh k).turn),.int .i64 ((CR w sh k).at_.x),.int .i64 ((CR w sh k).at_.y)])),(20,.row 101 4 (AA (G4 w sh)).n (fun k=>AL ((AA (G4 w sh)).g k)))]) t.1 t.2 u,res:=fun t u=>(fun w sh=>fun u=>.loc 15 0) t.1 t.2 u }
theorem Adg (w:L.Sq Ab) (sh:Aj) (hp:Kz.pre (w,sh)):vc Tryz.prog ({ cC with muts:=[15],nils:=B3 [(2,[(15,20,101,4)])],mks:=El [(34,HK),(37,Iq),(86,Iw)],ren:=fun k=>if k=1000 then 9 else if k=1001 then 7 else if k=1002 then 15 else if k=1003 then 13 else if k=1004 then 20 else k,joins:=AV [(2,{ T:=Nat,keep:=[0,3],keepO:=[],chg:=fun _=>[(5,.loc 15 0)],own:=fun _=>[(9,.blk 130 [.p ((.sl 4 w.n (fun i=>[.int .i64 ((w.g i).id),.int .i64 ((w.g i).colour),.int .i64 ((w.g i).grain),.sl 2 (w.g i).ol.n (fun i1=>[.int .i64 (((w.g i).ol.g i1).x),.int .i64 (((w.g i).ol.g i1).y)])]))),.p (.int .i64 sh.grain),.mapv 7]),(7,.mq 3 27 (fun _=>false) (Ai (Ae w sh.grain))),(15,.blk 93 [.loc 9 0,.p (.int .i64 sh.id),.p (.int .i64 sh.colour),.p (.int .i64 sh.w),.p (.int .i64 sh.h),.p (.int .i64 sh.grain),.row 13,.p (.raw (.slice none 0 0))]),(13,.row 76 5 w.n (fun k=>[.int .i64 ((FN k).want),.int .i64 ((FN k).sheet),.int .i64 ((FN k).turn),.int .i64 ((FN k).at_.x),.int .i64 ((FN k).at_.y)]))],inv:=fun _=>True,mu:=fun _=>0 }),(3,{ T:=Int->Bool,keep:=[5],keepO:=[9],chg:=fun _=>[],own:=fun u=>[(7,.mq 3 27 u (Ai (Ae w sh.grain))),(15,.blk 93 [.loc 9 0,.p (.int .i64 sh.id),.p (.int .i64 sh.colour),.p (.int .i64 sh.w),.p (.int .i64 sh.h),.p (.int .i64 sh.grain),.row 13,.row 20]),(13,.row 76 5 w.n (fun k=>[.int .i64 ((CR w sh k).want),.int .i64 ((CR w sh k).sheet),.int .i64 ((CR w sh k).turn),.int .i64 ((CR w sh k).at_.x),.int .i64 ((CR w sh k).at_.y)])),(20,.row 101 4 (AA (G4 w sh)).n (fun k=>AL ((AA (G4 w sh)).g k)))],inv:=fun _=>True,mu:=fun _=>0 })],anys:=[1001,1002] }) (Ah Tryz.f44) (D7 Tryz.f44 (Kz.args (w,sh)) (Kz.lent (w,sh))) (Fx Tryz.prog Tryz.f44 Kz (w,sh)):=
  @Eq.mpr _ (let I:=SV.int .i64;let T:=Af1;let A34:=(↑w.n:Int);let A24:=(0:Int);let A57:=[I A24,I A24,I sh.w,I sh.h];let A22:=(nat_lit 0);let A20:=(AA (G4 w sh));let A17:=(Ae w sh.grain);let A16:=(2:Nat);let A15:=(∀(x:Int),false=false);let A12:=(0:Nat);let A9:=[I sh.id,I sh.colour,I sh.w,I sh.h,I sh.grain];let
 A8:=(A24<=A34/\A34<=A34/\A34*(↑(nat_lit 40):Int)<=(140737488355328:Int));let A5:=(T A34=w.n/\∀(i:Nat),let A60:=(FN i);i<T A34 -> [I A24,I A24,I A24,I A24,I A24]= [I A60.want,I A60.sheet,I A60.turn,I A60.at_.x,I A60.at_.y]);let A2:=(w.n=w.n/\∀(i:Nat),let A21:=[I (w.g i).id,I (w.g i).colour,I (w.g i).grain,SV.sl A16 (w.g i).ol.n fun(i1 :
 Nat)=>[I ((w.g i).ol.g i1).x,I ((w.g i).ol.g i1).y]];i<w.n->A21=A21);let A7:=(∃(t:L.Sq Ab×Int×(Int->L.Sq Ac)),(w.n=t.1.n/\∀(i:Nat),let A39:=(t.1.g i);i<w.n -> [I (w.g i).id,I (w.g i).colour,I (w.g i).grain,SV.sl A16 (w.g i).ol.n fun(i1:Nat)=>[I ((w.g i).ol.g i1).x,I ((w.g i).ol.g i1).y]]= [I A39.id,I A39.colour,I A39.grain,SV.sl A16
 A39.ol.n fun(i1:Nat)=>[I (A39.ol.g i1).x,I (A39.ol.g i1).y]])/\sh.grain=t.2.1/\True/\∀(u:Nat),True->∃(g:Nat),nat_lit 0=A12/\SV.ref A9 A22=SV.ref A9 A22/\A2/\(t.1.n=w.n/\∀(i:Nat),let A40:=(t.1.g i);i<t.1.n -> [I A40.id,I A40.colour,I A40.grain,SV.sl A16 A40.ol.n fun(i1:Nat)=>[I (A40.ol.g i1).x,I (A40.ol.g i1).y]]= [I (w.g i).id,I (w.g
 i).colour,I (w.g i).grain,SV.sl A16 (w.g i).ol.n fun(i1:Nat)=>[I ((w.g i).ol.g i1).x,I ((w.g i).ol.g i1).y]])/\t.2.1=sh.grain/\A15/\(∀(x:Int),false=true->Ai t.2.2 x=Ai A17 x)/\nat_lit 0=A12/\sh.id=sh.id/\sh.colour=sh.colour/\sh.w=sh.w/\sh.h=sh.h/\sh.grain=sh.grain/\Value.slice Af5 A12 A12=Value.slice Af5 A12
 A12/\A5/\True);let A6:=(∃(t:L.Sq Ab×Int×(Int->L.Sq Ac)),(w.n=t.1.n/\∀(i:Nat),let A41:=(t.1.g i);i<w.n -> [I (w.g i).id,I (w.g i).colour,I (w.g i).grain,SV.sl A16 (w.g i).ol.n fun(i1:Nat)=>[I ((w.g i).ol.g i1).x,I ((w.g i).ol.g i1).y]]= [I A41.id,I A41.colour,I A41.grain,SV.sl A16 A41.ol.n fun(i1:Nat)=>[I (A41.ol.g i1).x,I (A41.ol.g
 i1).y]])/\sh.grain=t.2.1/\True/\∀(u:Nat),True->A8/\∃(g:Nat),nat_lit 0=A12/\SV.ref A9 A22=SV.ref A9 A22/\A2/\(t.1.n=w.n/\∀(i:Nat),let A42:=(t.1.g i);i<t.1.n -> [I A42.id,I A42.colour,I A42.grain,SV.sl A16 A42.ol.n fun(i1:Nat)=>[I (A42.ol.g i1).x,I (A42.ol.g i1).y]]= [I (w.g i).id,I (w.g i).colour,I (w.g i).grain,SV.sl A16 (w.g
 i).ol.n fun(i1:Nat)=>[I ((w.g i).ol.g i1).x,I ((w.g i).ol.g i1).y]])/\t.2.1=sh.grain/\A15/\(∀(x:Int),false=true->Ai t.2.2 x=Ai A17 x)/\nat_lit 0=A12/\sh.id=sh.id/\sh.colour=sh.colour/\sh.w=sh.w/\sh.h=sh.h/\sh.grain=sh.grain/\Value.slice Af5 A12 A12=Value.slice Af5 A12 A12/\A5/\True);let A4:=(A8/\A7/\∃(t:L.Sq
 Ab×Int×(Int->L.Sq Ac)),(w.n=t.1.n/\∀(i:Nat),let A43:=(t.1.g i);i<w.n -> [I (w.g i).id,I (w.g i).colour,I (w.g i).grain,SV.sl A16 (w.g i).ol.n fun(i1:Nat)=>[I ((w.g i).ol.g i1).x,I ((w.g i).ol.g i1).y]]= [I A43.id,I A43.colour,I A43.grain,SV.sl A16 A43.ol.n fun(i1:Nat)=>[I (A43.ol.g i1).x,I (A43.ol.g i1).y]])/\sh.grain=t.2.1/\True/\∀(u :
 Nat),True->∃(g:Nat),nat_lit 0=A12/\SV.ref A9 A22=SV.ref A9 A22/\A2/\(t.1.n=w.n/\∀(i:Nat),let A44:=(t.1.g i);i<t.1.n -> [I A44.id,I A44.colour,I A44.grain,SV.sl A16 A44.ol.n fun(i1:Nat)=>[I (A44.ol.g i1).x,I (A44.ol.g i1).y]]= [I (w.g i).id,I (w.g i).colour,I (w.g i).grain,SV.sl A16 (w.g i).ol.n fun(i1:Nat)=>[I ((w.g i).ol.g i1).x,I
 ((w.g i).ol.g i1).y]])/\t.2.1=sh.grain/\A15/\(∀(x:Int),false=true->Ai t.2.2 x=Ai A17 x)/\nat_lit 0=A12/\sh.id=sh.id/\sh.colour=sh.colour/\sh.w=sh.w/\sh.h=sh.h/\sh.grain=sh.grain/\Value.slice Af5 A12 A12=Value.slice Af5 A12 A12/\A5/\True);let A3:=(A8/\∃(t:L.Sq Ab×Int×(Int->L.Sq Ac)),(w.n=t.1.n/\∀(i
:Nat),let A45:=(t.1.g i);i<w.n -> [I (w.g i).id,I (w.g i).colour,I (w.g i).grain,SV.sl A16 (w.g i).ol.n fun(i1:Nat)=>[I ((w.g i).ol.g i1).x,I ((w.g i).ol.g i1).y]]= [I A45.id,I A45.colour,I A45.grain,SV.sl A16 A45.ol.n fun(i1:Nat)=>[I (A45.ol.g i1).x,I (A45.ol.g i1).y]])/\sh.grain=t.2.1/\True/\∀(u:Nat),True->∃(g:Nat),nat_lit 0=A12/\SV.ref
 A9 A22=SV.ref A9 A22/\A2/\(t.1.n=w.n/\∀(i:Nat),let A46:=(t.1.g i);i<t.1.n -> [I A46.id,I A46.colour,I A46.grain,SV.sl A16 A46.ol.n fun(i1:Nat)=>[I (A46.ol.g i1).x,I (A46.ol.g i1).y]]= [I (w.g i).id,I (w.g i).colour,I (w.g i).grain,SV.sl A16 (w.g i).ol.n fun(i1:Nat)=>[I ((w.g i).ol.g i1).x,I ((w.g i).ol.g i1).y]])/\t.2.1=sh.grain/\A15/\(∀(x :
 Int),false=true->Ai t.2.2 x=Ai A17 x)/\nat_lit 0=A12/\sh.id=sh.id/\sh.colour=sh.colour/\sh.w=sh.w/\sh.h=sh.h/\sh.grain=sh.grain/\Value.slice Af5 A12 A12=Value.slice Af5 A12 A12/\A5/\True);((A6/\A6/\(∃(t:L.Sq Ab×Int×(Int->L.Sq Ac)),let A25:=(∀(x:Int),false=true->Ai t.2.2 x=Ai A17
 x);let A13:=(t.1.n=w.n/\∀(i:Nat),let A47:=(t.1.g i);i<t.1.n -> [I A47.id,I A47.colour,I A47.grain,SV.sl A16 A47.ol.n fun(i1:Nat)=>[I (A47.ol.g i1).x,I (A47.ol.g i1).y]]= [I (w.g i).id,I (w.g i).colour,I (w.g i).grain,SV.sl A16 (w.g i).ol.n fun(i1:Nat)=>[I ((w.g i).ol.g i1).x,I ((w.g i).ol.g i1).y]]);(w.n=t.1.n/\∀(i:Nat),let A48:=(t.1.g i);i <
 w.n -> [I (w.g i).id,I (w.g i).colour,I (w.g i).grain,SV.sl A16 (w.g i).ol.n fun(i1:Nat)=>[I ((w.g i).ol.g i1).x,I ((w.g i).ol.g i1).y]]= [I A48.id,I A48.colour,I A48.grain,SV.sl A16 A48.ol.n fun(i1:Nat)=>[I (A48.ol.g i1).x,I (A48.ol.g i1).y]])/\sh.grain=t.2.1/\True/\∀(u:Nat),True->(A8/\∃(g:Nat),nat_lit 0=A12/\SV.ref A9 A22=SV.ref A9 A22
 /\ A2/\A13/\t.2.1=sh.grain/\A15/\A25/\nat_lit 0=A12/\sh.id=sh.id/\sh.colour=sh.colour/\sh.w=sh.w/\sh.h=sh.h/\sh.grain=sh.grain/\Value.slice Af5 A12 A12=Value.slice Af5 A12 A12/\A5/\True)/\A8/\∃(g:Nat),nat_lit 0=A12/\SV.ref A9 A22=SV.ref A9 A22/\A2/\A13/\t.2.1=sh.grain/\A15/\A25/\nat_lit 0=A12/\sh.id=sh.id /\
 sh.colour=sh.colour/\sh.w=sh.w/\sh.h=sh.h/\sh.grain=sh.grain/\Value.slice Af5 A12 A12=Value.slice Af5 A12 A12/\A5/\True)/\∃(t:L.Sq Ab×Int×(Int->L.Sq Ac)),let A26:=(∀(x:Int),false=true->Ai t.2.2 x=Ai A17 x);let A14:=(t.1.n=w.n/\∀(i:Nat),let A49:=(t.1.g i);i<t.1.n -> [I A49.id,I A49.colour,I
 A49.grain,SV.sl A16 A49.ol.n fun(i1:Nat)=>[I (A49.ol.g i1).x,I (A49.ol.g i1).y]]= [I (w.g i).id,I (w.g i).colour,I (w.g i).grain,SV.sl A16 (w.g i).ol.n fun(i1:Nat)=>[I ((w.g i).ol.g i1).x,I ((w.g i).ol.g i1).y]]);(w.n=t.1.n/\∀(i:Nat),let A50:=(t.1.g i);i<w.n -> [I (w.g i).id,I (w.g i).colour,I (w.g i).grain,SV.sl A16 (w.g i).ol.n fun(i1:Nat)=>[I
 ((w.g i).ol.g i1).x,I ((w.g i).ol.g i1).y]]= [I A50.id,I A50.colour,I A50.grain,SV.sl A16 A50.ol.n fun(i1:Nat)=>[I (A50.ol.g i1).x,I (A50.ol.g i1).y]])/\sh.grain=t.2.1/\True/\∀(u:Nat),True->(A8/\∃(g:Nat),nat_lit 0=A12/\SV.ref A9 A22=SV.ref A9 A22/\A2/\A14/\t.2.1=sh.grain/\A15/\A26/\nat_lit 0=A12/\sh.id=sh.id/\sh.colour=sh.colour /\
 sh.w=sh.w/\sh.h=sh.h/\sh.grain=sh.grain/\Value.slice Af5 A12 A12=Value.slice Af5 A12 A12/\A5/\True)/\A8/\∃(g:Nat),nat_lit 0=A12/\SV.ref A9 A22=SV.ref A9 A22/\A2/\A14/\t.2.1=sh.grain/\A15/\A26/\nat_lit 0=A12/\sh.id=sh.id/\sh.colour=sh.colour/\sh.w=sh.w/\sh.h=sh.h/\sh.grain=sh.grain/\Value.slice Af5 A12
 A12=Value.slice Af5 A12 A12/\A5/\True)/\A3/\A4/\A3/\A4/\A3/\A8/\A7/\∃(t:L.Sq Ab×Int×(Int->L.Sq Ac)),(w.n=t.1.n/\∀(i:Nat),let A51:=(t.1.g i);i<w.n -> [I (w.g i).id,I (w.g i).colour,I (w.g i).grain,SV.sl A16 (w.g i).ol.n fun(i1:Nat)=>[I ((w.g i).ol.g i1).x,I ((w.g i).ol.g i1).y]]= [I A51.id,I A51.colour,I A51.grain,SV.sl A16
 A51.ol.n fun(i1:Nat)=>[I (A51.ol.g i1).x,I (A51.ol.g i1).y]])/\sh.grain=t.2.1/\True/\∀(u:Nat),True->∃(g:Nat),nat_lit 0=A12/\SV.ref A9 A22=SV.ref A9 A22/\A2/\(t.1.n=w.n/\∀(i:Nat),let A52:=(t.1.g i);i<t.1.n -> [I A52.id,I A52.colour,I A52.grain,SV.sl A16 A52.ol.n fun(i1:Nat)=>[I (A52.ol.g i1).x,I (A52.ol.g i1).y]]= [I (w.g i).id,I (w.g
 i).colour,I (w.g i).grain,SV.sl A16 (w.g i).ol.n fun(i1:Nat)=>[I ((w.g i).ol.g i1).x,I ((w.g i).ol.g i1).y]])/\t.2.1=sh.grain/\A15/\(∀(x:Int),false=true->Ai t.2.2 x=Ai A17 x)/\nat_lit 0=A12/\sh.id=sh.id/\sh.colour=sh.colour/\sh.w=sh.w/\sh.h=sh.h/\sh.grain=sh.grain/\Value.slice Af5 A12 A12=Value.slice Af5 A12
 A12/\A5/\True)/\∀(g:Nat),let A1:=(∃(t:L.Sq Ab×Int×(Int->L.Sq Ac)×(Int->Bool)),nat_lit 0=A12/\(w.n=t.1.n/\∀(i:Nat),let A53:=(t.1.g i);i<w.n -> [I (w.g i).id,I (w.g i).colour,I (w.g i).grain,SV.sl A16 (w.g i).ol.n fun(i1:Nat)=>[I ((w.g i).ol.g i1).x,I ((w.g i).ol.g i1).y]]= [I A53.id,I A53.colour,I A53.grain,SV.sl A16 A53.ol.n fun
 (i1:Nat)=>[I (A53.ol.g i1).x,I (A53.ol.g i1).y]])/\sh.grain=t.2.1/\(∀(x:Int),false=t.snd.2.2 x)/\(∀(x:Int),false=true->Ai A17 x=Ai t.snd.2.1 x)/\t.1.n<=(4:Nat)/\∀(u:Nat),True->∃(t_1:L.Sq Ab×Aj×(Int->Bool)×(Nat->AZ)×List AY×Int×AE),let A58:=(Ae t_1.1 t_1.2.1.grain);let A32:=(AA
 t_1.snd.snd.snd.2.1);let A18:=(AA (Ee t_1.1 t_1.2.1 t_1.snd.snd.snd.snd.2.1 t_1.snd.snd.snd.snd.2.2 t_1.snd.snd.2.1 t_1.snd.snd.snd.2.1));nat_lit 0=A12/\Az t.1.n=t_1.snd.snd.snd.snd.2.1/\SV.agg A57=SV.agg [I t_1.snd.snd.snd.snd.2.2.at_.x,I t_1.snd.snd.snd.snd.2.2.at_.y,I t_1.snd.snd.snd.snd.2.2.size.w,I t_1.snd.snd.snd.snd.2.2.size.h]/\(t.1.n=t_1.1.n/\∀(i
:Nat),let A54:=(t.1.g i);let A35:=(t_1.1.g i);i<t.1.n -> [I A54.id,I A54.colour,I A54.grain,SV.sl A16 A54.ol.n fun(i1:Nat)=>[I (A54.ol.g i1).x,I (A54.ol.g i1).y]]= [I A35.id,I A35.colour,I A35.grain,SV.sl A16 A35.ol.n fun(i1:Nat)=>[I (A35.ol.g i1).x,I (A35.ol.g i1).y]])/\t.2.1=t_1.2.1.grain/\(∀(x:Int),t.snd.2.2 x=t_1.snd.2.1 x)/\(∀(x:Int),
 t.snd.2.2 x=true->Ai t.snd.2.1 x=Ai A58 x)/\nat_lit 0=A12/\sh.id=t_1.2.1.id/\sh.colour=t_1.2.1.colour/\sh.w=t_1.2.1.w/\sh.h=t_1.2.1.h/\sh.grain=t_1.2.1.grain/\(w.n=t_1.1.n/\∀(i:Nat),let A61:=(FN i);let A27:=(t_1.snd.snd.2.1 i);i<w.n -> [I A61.want,I A61.sheet,I A61.turn,I A61.at_.x,I A61.at_.y]= [I A27.want,I A27.sheet,I A27.turn,I
 A27.at_.x,I A27.at_.y])/\(nat_lit 0=A32.n/\∀(i:Nat),i<nat_lit 0 -> []=AL (A32.g i))/\(B7 t_1.1/\A24<=t_1.snd.snd.snd.snd.2.1/\t_1.snd.snd.snd.snd.2.1<=Az t_1.1.n/\Db t_1.snd.snd.snd.snd.2.2/\A32.n+(3:Nat)*T t_1.snd.snd.snd.snd.2.1<=(1000:Nat))/\∀(u:Int->Bool),True->∃(g:Int->Bool),nat_lit 0=nat_lit 0/\(∀(x:Int),u x=g x)/\(∀(x:Int),u
 x=true->Ai A58 x=Ai A17 x)/\nat_lit 0=A12/\t_1.2.1.id=sh.id/\t_1.2.1.colour=sh.colour/\t_1.2.1.w=sh.w/\t_1.2.1.h=sh.h/\t_1.2.1.grain=sh.grain/\(t_1.1.n=w.n/\∀(i:Nat),let A29:=(CR w sh i);let A10:=(D3 t_1.1 t_1.2.1 t_1.snd.snd.snd.snd.2.1 t_1.snd.snd.snd.snd.2.2 t_1.snd.snd.2.1 t_1.snd.snd.snd.2.1 i);i<t_1.1.n -> [I A10.want,I A10.sheet,
 I A10.turn,I A10.at_.x,I A10.at_.y]= [I A29.want,I A29.sheet,I A29.turn,I A29.at_.x,I A29.at_.y])/\(A18.n=A20.n/\∀(i:Nat),i<A18.n->AL (A18.g i)=AL (A20.g i))/\(t_1.1.n=w.n/\∀(i:Nat),let A36:=(t_1.1.g i);i<t_1.1.n -> [I A36.id,I A36.colour,I A36.grain,SV.sl A16 A36.ol.n fun(i1:Nat)=>[I (A36.ol.g i1).x,I (A36.ol.g i1).y]]= [I (w.g i).id,I (w.g
 i).colour,I (w.g i).grain,SV.sl A16 (w.g i).ol.n fun(i1:Nat)=>[I ((w.g i).ol.g i1).x,I ((w.g i).ol.g i1).y]])/\t_1.2.1.grain=sh.grain/\True);True->(A1/\A1/\A1/\A1/\A1/\A1/\A1/\A1/\A1/\A1/\∃(t:L.Sq Ab×Int×(Int->L.Sq Ac)×(Int->Bool)),nat_lit 0=A12/\(w.n=t.1.n/\∀(i:Nat),let A55:=(t.1.g i);i<w.n -> [I (w.g i).id,I (w.g i).colour,I (w.g
 i).grain,SV.sl A16 (w.g i).ol.n fun(i1:Nat)=>[I ((w.g i).ol.g i1).x,I ((w.g i).ol.g i1).y]]= [I A55.id,I A55.colour,I A55.grain,SV.sl A16 A55.ol.n fun(i1:Nat)=>[I (A55.ol.g i1).x,I (A55.ol.g i1).y]])/\sh.grain=t.2.1/\(∀(x:Int),false=t.snd.2.2 x)/\(∀(x:Int),false=true->Ai A17 x=Ai t.snd.2.1 x)/\t.1.n<=(4:Nat)/\∀(u:Nat),
 True->∃(t_1:L.Sq Ab×Aj×(Int->Bool)×(Nat->AZ)×List AY×Int×AE),let A59:=(Ae t_1.1 t_1.2.1.grain);let A33:=(AA t_1.snd.snd.snd.2.1);let A19:=(AA (Ee t_1.1 t_1.2.1 t_1.snd.snd.snd.snd.2.1 t_1.snd.snd.snd.snd.2.2 t_1.snd.snd.2.1 t_1.snd.snd.snd.2.1));nat_lit 0=A12/\Az t.1.n=t_1.snd.snd.snd.snd.2.1/\SV.agg A57 =
 SV.agg [I t_1.snd.snd.snd.snd.2.2.at_.x,I t_1.snd.snd.snd.snd.2.2.at_.y,I t_1.snd.snd.snd.snd.2.2.size.w,I t_1.snd.snd.snd.snd.2.2.size.h]/\(t.1.n=t_1.1.n/\∀(i:Nat),let A56:=(t.1.g i);let A37:=(t_1.1.g i);i<t.1.n -> [I A56.id,I A56.colour,I A56.grain,SV.sl A16 A56.ol.n fun(i1:Nat)=>[I (A56.ol.g i1).x,I (A56.ol.g i1).y]]= [I A37.id,I A37.colour,I A37.grain,
 SV.sl A16 A37.ol.n fun(i1:Nat)=>[I (A37.ol.g i1).x,I (A37.ol.g i1).y]])/\t.2.1=t_1.2.1.grain/\(∀(x:Int),t.snd.2.2 x=t_1.snd.2.1 x)/\(∀(x:Int),t.snd.2.2 x=true->Ai t.snd.2.1 x=Ai A59 x)/\nat_lit 0=A12/\sh.id=t_1.2.1.id/\sh.colour=t_1.2.1.colour/\sh.w=t_1.2.1.w/\sh.h=t_1.2.1.h/\sh.grain=t_1.2.1.grain/\(w.n=t_1.1.n/\∀(i:Nat),let
 A62:=(FN i);let A28:=(t_1.snd.snd.2.1 i);i<w.n -> [I A62.want,I A62.sheet,I A62.turn,I A62.at_.x,I A62.at_.y]= [I A28.want,I A28.sheet,I A28.turn,I A28.at_.x,I A28.at_.y])/\(nat_lit 0=A33.n/\∀(i:Nat),i<nat_lit 0 -> []=AL (A33.g i))/\(B7 t_1.1/\A24<=t_1.snd.snd.snd.snd.2.1/\t_1.snd.snd.snd.snd.2.1<=Az t_1.1.n/\Db t_1.snd.snd.snd.snd.2.2/\A33.n+(3 :
 Nat)*T t_1.snd.snd.snd.snd.2.1<=(1000:Nat))/\∀(u:Int->Bool),True->∃(g:Int->Bool),nat_lit 0=nat_lit 0/\(∀(x:Int),u x=g x)/\(∀(x:Int),u x=true->Ai A59 x=Ai A17 x)/\nat_lit 0=A12/\t_1.2.1.id=sh.id/\t_1.2.1.colour=sh.colour/\t_1.2.1.w=sh.w/\t_1.2.1.h=sh.h/\t_1.2.1.grain=sh.grain/\(t_1.1.n=w.n/\∀(i:Nat),let A30:=(CR w sh
 i);let A11:=(D3 t_1.1 t_1.2.1 t_1.snd.snd.snd.snd.2.1 t_1.snd.snd.snd.snd.2.2 t_1.snd.snd.2.1 t_1.snd.snd.snd.2.1 i);i<t_1.1.n -> [I A11.want,I A11.sheet,I A11.turn,I A11.at_.x,I A11.at_.y]= [I A30.want,I A30.sheet,I A30.turn,I A30.at_.x,I A30.at_.y])/\(A19.n=A20.n/\∀(i:Nat),i<A19.n->AL (A19.g i)=AL (A20.g i))/\(t_1.1.n=w.n/\∀(i:Nat),let A38:=(t_1.1.g
 i);i<t_1.1.n -> [I A38.id,I A38.colour,I A38.grain,SV.sl A16 A38.ol.n fun(i1:Nat)=>[I (A38.ol.g i1).x,I (A38.ol.g i1).y]]= [I (w.g i).id,I (w.g i).colour,I (w.g i).grain,SV.sl A16 (w.g i).ol.n fun(i1:Nat)=>[I ((w.g i).ol.g i1).x,I ((w.g i).ol.g i1).y]])/\t_1.2.1.grain=sh.grain/\True)/\∀(g:Int->Bool),True->∃(u:Int->Bool),nat_lit 0=A12/\A2/\sh.grain
 = sh.grain/\(∀(x:Int),g x=u x)/\(∀(x:Int),g x=true->Ai A17 x=Ai A17 x)/\nat_lit 0=A12/\sh.id=sh.id/\sh.colour=sh.colour/\sh.w=sh.w/\sh.h=sh.h/\sh.grain=sh.grain/\(w.n=w.n/\∀(i:Nat),let A31:=(CR w sh i);let A23:=[I A31.want,I A31.sheet,I A31.turn,I A31.at_.x,I A31.at_.y];i<w.n->A23=A23)/\(A20.n=A20.n/\∀(i:Nat),i <
 A20.n->AL (A20.g i)=AL (A20.g i))/\True) (by kernel_rfl) (by
  conv=>zeta
  have hp:B7 w/\BH sh=true:=hp;obtain⟨hok,hsv⟩:=hp;obtain⟨a1,a2,_,_⟩:=G0 hok.1;have oA:=Adf hsv;have b1:0<=(w.n:Int):=Af7 _;have hw4:=hok.1;have b2:(w.n:Int)*40<=140737488355328:=by omega
  have l1:(AA []).n+3*(Az w.n).toNat<=1000:=by show 0+_<=_;omega
  refine⟨(by(try dsimp only);(repeat' with_reducible apply And.intro)<;>first|with_reducible rfl|with_reducible assumption|with_reducible exact Af4 _|with_reducible exact fun _=>rfl|with_reducible exact fun _ _=>rfl|with_reducible exact trivial|exact⟨(0:Nat),(by(try dsimp only);(repeat' with_reducible apply And.intro)<;>first|with_reducible rfl|with_reducible exact fun _=>rfl|with_reducible exact fun _ _=>rfl|with_reducible exact trivial|exact rfl|(intro _;exact rfl)|(intro _ _;exact rfl)|exact trivial|(intro _ h_;exact absurd h_ (Rc _)))⟩|exact⟨(w,sh.grain,Ae w sh.grain),(by(try dsimp only);(repeat' with_reducible apply And.intro)<;>first|with_reducible rfl|with_reducible exact fun _=>rfl|with_reducible exact fun _ _=>rfl|with_reducible exact trivial|(intro u _;exact(by(try dsimp only);(repeat' with_reducible apply And.intro)<;>first|with_reducible rfl|with_reducible assumption|with_reducible exact Af4 _|with_reducible exact fun _=>rfl|with_reducible exact fun _ _=>rfl|with_reducible exact trivial|exact⟨(0:Nat),(by(try dsimp only);(repeat' with_reducible apply And.intro)<;>first|with_reducible rfl|with_reducible exact fun _=>rfl|with_reducible exact fun _ _=>rfl|with_reducible exact trivial|exact rfl|(intro _;exact rfl)|(intro _ _;exact rfl)|exact trivial|(intro _ h_;exact absurd h_ (Rc _)))⟩|exact rfl|(intro _;exact rfl)|(intro _ _;exact rfl)|exact b1|exact b2|exact Af4 _|exact trivial|(intro _ h_;exact absurd h_ (Rc _))))|exact rfl|(intro _;exact rfl)|(intro _ _;exact rfl)|exact trivial|(intro _ h_;exact absurd h_ (Rc _)))⟩|exact rfl|(intro _;exact rfl)|(intro _ _;exact rfl)|exact b1|exact b2|exact Af4 _|exact trivial|(intro _ h_;exact absurd h_ (Rc _))),fun _ _=>⟨(by(try dsimp only);(repeat' with_reducible apply And.intro)<;>first|with_reducible rfl|with_reducible exact fun _=>rfl|with_reducible exact fun _ _=>rfl|with_reducible exact trivial|exact⟨(w,sh.grain,Ae w sh.grain,fun _=>false),(by(try dsimp only);(repeat' with_reducible apply And.intro)<;>first|with_reducible rfl|with_reducible exact hok.1|with_reducible exact fun _=>rfl|with_reducible exact fun _ _=>rfl|with_reducible exact trivial|(intro u _;exact⟨(w,sh,fun _=>false,FN,[],Az w.n,GX sh),(by(try dsimp only);(repeat' with_reducible apply And.intro)<;>first|with_reducible rfl|with_reducible assumption|with_reducible exact Af4 _|with_reducible exact fun _=>rfl|with_reducible exact fun _ _=>rfl|with_reducible exact trivial|(intro u _;exact⟨u,(by(try dsimp only);(repeat' with_reducible apply And.intro)<;>first|with_reducible rfl|with_reducible exact fun _=>rfl|with_reducible exact fun _ _=>rfl|with_reducible exact trivial|exact rfl|(intro _;exact rfl)|(intro _ _;exact rfl)|exact trivial|(intro _ h_;exact absurd h_ (Rc _)))⟩)|exact rfl|(intro _;exact rfl)|(intro _ _;exact rfl)|exact hok|exact a1|exact Af4 _|exact oA|exact l1|exact trivial|(intro _ h_;exact absurd h_ (Rc _)))⟩)|exact rfl|(intro _;exact rfl)|(intro _ _;exact rfl)|exact hok.1|exact trivial|(intro _ h_;exact absurd h_ (Rc _)))⟩|exact rfl|(intro _;exact rfl)|(intro _ _;exact rfl)|exact trivial|(intro _ h_;exact absurd h_ (Rc _))),fun u _=>(by(try dsimp only);(repeat' with_reducible apply And.intro)<;>first|with_reducible rfl|with_reducible exact fun _=>rfl|with_reducible exact fun _ _=>rfl|with_reducible exact trivial|exact⟨u,(by(try dsimp only);(repeat' with_reducible apply And.intro)<;>first|with_reducible rfl|with_reducible exact fun _=>rfl|with_reducible exact fun _ _=>rfl|with_reducible exact trivial|exact rfl|(intro _;exact rfl)|(intro _ _;exact rfl)|exact trivial|(intro _ h_;exact absurd h_ (Rc _)))⟩|exact rfl|(intro _;exact rfl)|(intro _ _;exact rfl)|exact trivial|(intro _ h_;exact absurd h_ (Rc _)))⟩⟩)
theorem Adh:Ao Tryz.prog 44:=fun args w=>by kernel_rfl
theorem Adi:Dq Tryz.prog 44 Kz:=FE (n:=2) Tryz.func44 (c:=Ah Tryz.f44) (by kernel_rfl) mixed ⟨fun t=>rfl,fun t=>rfl,fun t u=>rfl,fun t u=>rfl,fun t u=>rfl,fun t u=>⟨rfl,rfl⟩,by kernel_rfl,by kernel_rfl⟩ (fun⟨w,sh⟩ hp=>⟨_,Adg w sh hp,⟨show Aa Tryz.prog _ from Aa.nil,rfl,⟨show Ag Tryz.prog _ from Ag.nil,⟨Aw.no1 (fun _=>rfl),⟨show Bm Tryz.prog _ from(Bm.cons N0 Nz (Bm.cons Qd Qc (Bm.cons AcQ dK Bm.nil))),FamsOk.none (fun _=>rfl)⟩⟩⟩⟩⟩)
def dZ (w:(L.Sq Ab)) (sh:Aj):Prop:=Dz w
def eE (w:(L.Sq Ab)) (sh:Aj):SV:=.tup [.sl 5 (Ef w sh) (fun k=>[.int .i64 ((CR w sh k).want),.int .i64 ((CR w sh k).sheet),.int .i64 ((CR w sh k).turn),.int .i64 ((CR w sh k).at_.x),.int .i64 ((CR w sh k).at_.y)]),.sl 4 (Eg w sh).n (fun k=>AL ((Eg w sh).g k)),.int .i64 (Ci w sh)]
def eG:List EV->Option (Prop×SV)
 |[.p (.sl 4 w_n w_g),.p (.agg [.int .i64 sh_id,.int .i64 sh_colour,.int .i64 sh_w,.int .i64 sh_h,.int .i64 sh_grain])]=>some ((∀i,i<w_n->DD (w_g i))/\dZ (⟨w_n,fun i=>B6 (w_g i)⟩:(L.Sq Ab)) (⟨sh_id,sh_colour,sh_w,sh_h,sh_grain⟩:Aj),eE (⟨w_n,fun i=>B6 (w_g i)⟩:(L.Sq Ab)) (⟨sh_id,sh_colour,sh_w,sh_h,sh_grain⟩:Aj))
 |_=>none
abbrev QV:SE.Spec:=(AK eG)
def Adj:Ak:={ cC with frz:=B2 [(7,[7,13,20,9,15])],specs:=AB [(10,Qu)],mks:=El [(44,Kz)],ren:=fun k=>k }
theorem Adk (w:(L.Sq Ab)) (sh:Aj) (hp:dZ w sh):vc Tryz.prog (Adj) (Ah Tryz.f13) (Ap Tryz.f13 [.p (.sl 4 w.n (fun i=>[.int .i64 ((w.g i).id),.int .i64 ((w.g i).colour),.int .i64 ((w.g i).grain),.sl 2 (w.g i).ol.n (fun i1=>[.int .i64 (((w.g i).ol.g i1).x),.int .i64 (((w.g i).ol.g i1).y)])])),.p (.agg [.int .i64 sh.id,.int .i64 sh.colour,.int .i64 sh.w,.int .i64 sh.h,.int .i64 sh.grain])]) (AJ Tryz.prog Tryz.f13 (eE w sh)):=
 @Eq.mpr _ (let I:=SV.int .i64;let A9:=(0:Nat);let A8:=(Eg w sh);let A1:=(L.Sq.mk w.n fun(i:Nat)=>Ab.mk (w.g i).id (w.g i).colour (w.g i).grain (L.Sq.mk (w.g i).ol.n fun(i_1:Nat)=>(w.g i).ol.g i_1));let A6:=(!decide (BO A1 sh=(0:Int)));((∀(i:Nat),i<w.n->∀(i_1:Nat),let A4:=((w.g i).ol.g i_1);i_1<(w.g i).ol.n -> [I A4.x,I A4.y]= [I A4.x,I A4.y])/\Dz A1)/\(A6=true->Ef w sh=A9/\A8.n=A9/\BO A1 sh=Ci w sh)/\(A6=false->((!CZ A1 sh)=true->Ef w sh=A9/\A8.n=A9/\(52:Int)=Ci w sh)/\((!CZ A1 sh)=false->∃(t:L.Sq Ab×Aj),let A5:=(AA (G4 t.1 t.2));(w.n=t.1.n/\∀(i:Nat),let A7:=(t.1.g i);i<w.n -> [I (w.g i).id,I (w.g i).colour,I (w.g i).grain,SV.sl (2:Nat) (w.g i).ol.n fun(i1:Nat)=>[I ((w.g i).ol.g i1).x,I ((w.g i).ol.g i1).y]]= [I A7.id,I A7.colour,I A7.grain,SV.sl (2:Nat) A7.ol.n fun(i1:Nat)=>[I (A7.ol.g i1).x,I (A7.ol.g i1).y]])/\SV.agg [I sh.id,I sh.colour,I sh.w,I sh.h,I sh.grain]=SV.agg [I t.2.id,I t.2.colour,I t.2.w,I t.2.h,I t.2.grain]/\(B7 t.1/\BH t.2=true)/\∀(u:Int->Bool),True->(t.1.n=Ef w sh/\∀(i:Nat),let A3:=(CR w sh i);let A2:=(CR t.1 t.2 i);i<t.1.n -> [I A2.want,I A2.sheet,I A2.turn,I A2.at_.x,I A2.at_.y]= [I A3.want,I A3.sheet,I A3.turn,I A3.at_.x,I A3.at_.y])/\(A5.n=A8.n/\∀(i:Nat),i<A5.n->AL (A5.g i)=AL (A8.g i))/\(0:Int)=Ci w sh))) (by kernel_rfl) (by
 conv=>zeta
 have hp:Dz w:=hp;refine⟨⟨fun _ _ _ _=>rfl,hp⟩,fun h=>?_,fun h=>⟨fun h2=>?_,fun h2=>?_⟩⟩
 ·have h:(!decide (BO w sh=0))=true:=h;have e1:Ci w sh=BO w sh:=by unfold Ci;rw[h];rfl
  have h0:¬ BO w sh=0:=of_decide_eq_false (Cx h);have e2:Ef w sh=0:=by unfold Ef;rw[e1,decide_eq_false h0];rfl
  have e3:(Eg w sh).n=0:=by unfold Eg;rw[e1,decide_eq_false h0];rfl
  exact⟨e2,e3,e1.symm⟩
 ·have h:(!decide (BO w sh=0))=false:=h;have h2:(!CZ w sh)=true:=h2;have e1:Ci w sh=52:=by unfold Ci;rw[h,h2];rfl
  have e2:Ef w sh=0:=by unfold Ef;rw[e1];rfl
  have e3:(Eg w sh).n=0:=by unfold Eg;rw[e1];rfl
  exact⟨e2,e3,e1.symm⟩
 ·have h:(!decide (BO w sh=0))=false:=h;have h2:(!CZ w sh)=false:=h2;have e1:Ci w sh=0:=by unfold Ci;rw[h,h2];rfl
  have e2:Ef w sh=w.n:=by unfold Ef;rw[e1];rfl
  have e3:Eg w sh=AA (G4 w sh):=by unfold Eg;rw[e1];rfl
  obtain⟨_,v2,v3⟩:=NN (of_decide_eq_true (Ca h));have ok:=Hw hp v3;rw[e1,e2,e3];exact⟨(w,sh),(by(try dsimp only);(repeat' with_reducible apply And.intro)<;>first|with_reducible rfl|with_reducible assumption|with_reducible exact fun _=>rfl|with_reducible exact fun _ _=>rfl|with_reducible exact trivial|(intro u _;exact(by(try dsimp only);(repeat' with_reducible apply And.intro)<;>first|with_reducible rfl|with_reducible exact fun _=>rfl|with_reducible exact fun _ _=>rfl|with_reducible exact trivial|exact rfl|(intro _;exact rfl)|(intro _ _;exact rfl)|exact trivial|(intro _ h_;exact absurd h_ (Rc _))))|exact rfl|(intro _;exact rfl)|(intro _ _;exact rfl)|exact ok|exact v2|exact trivial|(intro _ h_;exact absurd h_ (Rc _)))⟩)
theorem eJ:Av Tryz.prog 13 QV:=AM Tryz.func13 (c:=Ah Tryz.f13) (by kernel_rfl) mixed (fun args p r hs hp=>by
 unfold eG at hs;split at hs
 ·cases hs;exact⟨_,_,Adk _ _ hp.2,(.p (EP hp.1) (.same _ .nil)),⟨show Aa Tryz.prog _ from(Aa.cons Zi Zj Aa.nil),rfl,⟨show Ag Tryz.prog _ from Ag.nil,⟨Aw.no1 (fun _=>rfl),⟨show Bm Tryz.prog _ from(Bm.cons Adi Adh Bm.nil),FamsOk.none (fun _=>rfl)⟩⟩⟩⟩⟩
 ·cases hs)
theorem eK:Ao Tryz.prog 13:=fun args w=>by kernel_rfl
end
end
theorem Adl {w:Ab} (h:Di w=true):AP w.ol=true:=by
 unfold Di at h;cases h1:Ay w.id 1 65535
 ·rw[h1]at h;cases h
 cases h2:Ay w.colour 1 16
 ·rw[h1,h2]at h;cases h
 cases h3:Ay w.grain 0 2
 ·rw[h1,h2,h3]at h;cases h
 rw[h1,h2,h3]at h;exact h
section
theorem eM {a b:L.Sq Ac} {w h:Int} {up:Bool} (hp:∀i,i<a.n->1<=DG a up i):∀k,k<=a.n->(EC a b w h up k=0/\∀i,i<k->EB a b w h up i=false)\/(1<=EC a b w h up k/\(∃i,i<k/\EB a b w h up i=true/\EC a b w h up k=DG a up i)/\∀i,i<k->EB a b w h up i=true->EC a b w h up k<=DG a up i)
 |0,_=>.inl ⟨rfl,fun i hi=>absurd hi (Rc _)⟩
 |k+1,hk=>by
   have ih:=eM hp (b:=b) (w:=w) (h:=h) k (by omega);have h1:=hp k (by omega);rw[EC];generalize EC a b w h up k=v at *;cases ho:EB a b w h up k with
   |false =>
     rw[Bool.false_and,cond_false];rcases ih with ⟨e,f⟩|⟨p,⟨i,q1,q2,q3⟩,f⟩
     ·refine .inl ⟨e,fun i hi=>?_⟩
      by_cases e:i=k
      ·rw[e];exact ho
      ·exact f i (by omega)
     ·refine .inr ⟨p,⟨i,by omega,q2,q3⟩,fun j hj hjo=>?_⟩
      by_cases e:j=k
      ·rw[e,ho]at hjo;cases hjo
      ·exact f j (by omega) hjo
   |true =>
     rw[AgY];rcases ih with ⟨e,f⟩|⟨p,⟨i,q1,q2,q3⟩,f⟩
     ·rw[decide_eq_true e,Bool.true_or,cond_true];refine .inr ⟨h1,⟨k,by omega,ho,rfl⟩,fun j hj hjo=>?_⟩
      by_cases e:j=k
      ·rw[e];exact Af4 _
      ·rw[f j (by omega)]at hjo;cases hjo
     ·rw[decide_eq_false (show ¬ v=0 by omega),Bool.false_or]
      by_cases hv:DG a up k<v
      ·rw[decide_eq_true hv,cond_true];refine .inr ⟨h1,⟨k,by omega,ho,rfl⟩,fun j hj hjo=>?_⟩
       by_cases e:j=k
       ·rw[e];exact Af4 _
       ·have:=f j (by omega) hjo;omega
      ·rw[decide_eq_false hv,cond_false];refine .inr ⟨p,⟨i,by omega,q2,q3⟩,fun j hj hjo=>?_⟩
       by_cases e:j=k
       ·rw[e];omega
       ·exact f j (by omega) hjo
def GY (w:L.Sq Ab) (gr p c:Int) (s:Ac) (up:Bool) (v:Int):Prop:=Da w gr p (bif up then⟨v,s.h⟩else⟨s.w,v⟩)/\Da w gr c (bif up then⟨s.w-v,s.h⟩else⟨s.w,s.h-v⟩)
theorem Adm {l:List Ac} {x:Ac} (h:x∈l):∃i,i<(AC l).n/\(AC l).g i=x:=by
 obtain⟨i,hi,e⟩:=List.getElem_of_mem h;refine⟨i,hi,?_⟩;show l.getD i _=x;rw[AS,oE hi,e];rfl
theorem eO {w:L.Sq Ab} {gr p c:Int} {s:Ac} {up:Bool} (hp:∀t,Da w gr p t->1<=t.w/\1<=t.h) :
  (EU (Ae w gr p) (Ae w gr c) s.w s.h up=0/\∀v,¬ GY w gr p c s up v)\/(1<=EU (Ae w gr p) (Ae w gr c) s.w s.h up/\GY w gr p c s up (EU (Ae w gr p) (Ae w gr c) s.w s.h up)/\∀v,GY w gr p c s up v->EU (Ae w gr p) (Ae w gr c) s.w s.h up<=v):=by
 have hx:∀i,i<(Ae w gr p).n->Da w gr p ((Ae w gr p).g i):=fun i hi=>⟨_,Is hi,Cu.le_refl _⟩;have h1:∀i,i<(Ae w gr p).n->1<=DG (Ae w gr p) up i:=fun i hi=>by
  have:=hp _ (hx i hi);unfold DG;cases up
  ·exact this.2
  ·exact this.1
 have hto:∀i,i<(Ae w gr p).n->EB (Ae w gr p) (Ae w gr c) s.w s.h up i=true->GY w gr p c s up (DG (Ae w gr p) up i):=fun i hi ho=>by
  unfold EB at ho;unfold GY DG;cases up with
  |true =>
    simp only[cond_true,nT,decide_eq_true_eq]at ho ⊢;exact⟨Kt (hx i hi) ⟨Af4 _,ho.1⟩,Gg.1 ho.2⟩
  |false =>
    simp only[cond_false,nT,decide_eq_true_eq]at ho ⊢;exact⟨Kt (hx i hi) ⟨ho.1,Af4 _⟩,Gg.1 ho.2⟩
 have hfrom:∀v,GY w gr p c s up v->∃i,i<(Ae w gr p).n/\EB (Ae w gr p) (Ae w gr c) s.w s.h up i=true/\DG (Ae w gr p) up i<=v:=fun v hv=>by
  obtain⟨⟨x,hm,l1,l2⟩,hc⟩:=hv;obtain⟨i,hi,e⟩:=Adm hm;have e:(Ae w gr p).g i=x:=e;refine⟨i,hi,?_⟩;unfold EB DG;cases up with
  |true =>
    simp only[cond_true]at l1 l2 hc ⊢;rw[e,nT,decide_eq_true_eq];exact⟨⟨l2,Gg.2 (Kt hc ⟨by show s.w-v<=s.w-x.w;omega,Af4 _⟩)⟩,l1⟩
  |false =>
    simp only[cond_false]at l1 l2 hc ⊢;rw[e,nT,decide_eq_true_eq];exact⟨⟨l1,Gg.2 (Kt hc ⟨Af4 _,by show s.h-v<=s.h-x.h;omega⟩)⟩,l2⟩
 unfold EU;rcases eM (b:=Ae w gr c) (w:=s.w) (h:=s.h) h1 _ (Afo _)with ⟨e,f⟩|⟨e,⟨i,q1,q2,q3⟩,f⟩
 ·refine .inl ⟨e,fun v hv=>?_⟩;obtain⟨i,hi,ho,_⟩:=hfrom v hv;rw[f i hi]at ho;cases ho
 ·refine .inr ⟨e,?_,fun v hv=>?_⟩
  ·rw[q3];exact hto i q1 q2
  ·obtain⟨j,hj,ho,hl⟩:=hfrom v hv;exact Ag0 (f j hj ho) hl
theorem LN {w:L.Sq Ab} {gr g:Int} {r:AE} {k j:Nat}:Ch w gr g r k j=true↔GY w gr (Al g k) (AO g k) r.size (AN r j) (AH r j):=by
 unfold Ch GY;generalize AN r j=up;generalize AH r j=v;have e1:(Bc r up v).size=bif up then⟨v,r.size.h⟩else⟨r.size.w,v⟩:=by cases up<;>rfl
 have e2:(Bi r up v).size=bif up then⟨r.size.w-v,r.size.h⟩else⟨r.size.w,r.size.h-v⟩:=by cases up<;>rfl
 rw[e1,e2,<- Gg,<- Gg];cases Cd w gr (Al g k) (bif up then⟨v,r.size.h⟩else⟨r.size.w,v⟩)<;>simp
def NO (g k:Nat):Bool:=let n:=(BI g).length;let b:Int:=2*(k:Int)+1;let c:Int:=Az n-b
 decide (Eo g b=Al g k)&&decide (Eo g c=AO g k)&&decide (0<=c)&&decide (b<2 ^ n)&&decide (c<2 ^ n)&&decide ((BY b n).map (fun i=>(BI g).getD i 0)=BI (Al g k))&&decide ((BY c n).map (fun i=>(BI g).getD i 0)=BI (AO g k))
def eQ (g:Nat):Bool:=if g=0 then true else if Bs g=true then decide ((BI g).length=1)else decide (2<=(BI g).length)&&decide (((BJ 1 (BI g).length).toNat-1) / 2=AD g)&&(Afm (AD g)).all (NO g)
theorem Adn:((Afm 16).all eQ)=true:=by kernel_rfl
theorem Ado {g:Nat} (h:1<=g) (h15:g<=15) (h1:Bs g=false):2<=(BI g).length/\((BJ 1 (BI g).length).toNat-1) / 2=AD g/\∀k,k<AD g->NO g k=true:=by
 have:=Afj.1 Adn g (Afl.2 (by omega));unfold eQ at this;rw[if_neg (by omega),if_neg (by rw[h1];decide)]at this;simp only[nT,decide_eq_true_eq,Afj]at this;exact⟨this.1.1,this.1.2,fun k hk=>this.2 k (Afl.2 hk)⟩
attribute [local irreducible] AW Eo Al AO AD Bs AI BI CN CH Cg EU
def K0 (w:L.Sq Ab) (g:Int) (w':L.Sq Ab):Prop:=w'.n=(BI g).length/\∀i,i<(BI g).length->w'.g i=w.g ((BI g).getD i 0)
theorem eR {w w':L.Sq Ab} {g b p:Int} (h:K0 w g w') (hb:(BY b (BI g).length).map (fun i=>(BI g).getD i 0)=BI p):K0 w p (B5 w' b):=by
 obtain⟨h1,h2⟩:=h;have el:(BY b w'.n).length=(BI p).length:=by rw[<- hb,h1,List.length_map]
 refine⟨el,fun i hi=>?_⟩;rw[<- el]at hi;show w'.g ((BY b w'.n).getD i 0)=_;have hlt:=cX hi;rw[h1]at hlt hi;rw[h1,h2 _ hlt,<- hb];congr 1;simp only[AS,List.getElem?_map,oE hi,AfX,AfJ]
def CI (id:Int) (r:AE):Bx:=⟨id,r.at_,⟨r.at_.x+r.size.w,r.at_.y+r.size.h⟩,0⟩
theorem Adp {id:Int} {r:AE} {up:Bool} {v:Int}:Du (CI id r) up v=CI id (Bc r up v):=by cases up<;>rfl
theorem Adq {id:Int} {r:AE} {up:Bool} {v:Int}:Dl (CI id r) up v=CI id (Bi r up v):=by
 cases up
 ·unfold Dl CI Bi;simp only[cond_false];rw[show r.at_.y+v+(r.size.h-v)=r.at_.y+r.size.h by omega]
 ·unfold Dl CI Bi;simp only[cond_true];rw[show r.at_.x+v+(r.size.w-v)=r.at_.x+r.size.w by omega]
theorem Adr {id i:Int} {r:AE} {up:Bool} {v:Int}:NF id (CI i r) up v=BC r id up v:=by cases up<;>rfl
theorem Ads {w:L.Sq Ab} {sh:Aj} {i:Nat} {w1:Ab} {r:AE} {S:List AY} (hw:w1=w.g i) (hf:Cu.le (BS w sh i r) r.size):F3 w1 sh (CI sh.id r)=⟨(w.g i).id,sh.id,E6 w sh.grain i r,r.at_⟩/\E8 w sh i r S=S++Ec w1 sh (CI sh.id r):=by
 subst hw;obtain⟨l1,l2⟩:=hf;have et:D2 (w.g i) sh.grain (CI sh.id r)=E6 w sh.grain i r:=by
  unfold D2 E6;have:HM (w.g i) sh.grain (CI sh.id r)=GU w sh.grain i r 0:=by
   unfold HM GU CI;simp only;rw[show r.at_.x+r.size.w-r.at_.x=r.size.w by omega,show r.at_.y+r.size.h-r.at_.y=r.size.h by omega,GR,GR]
  rw[this]
 have eb:NE (w.g i) sh.grain (CI sh.id r)=BS w sh i r:=by unfold NE BS;rw[et]
 refine⟨by unfold F3;rw[et];rfl,?_⟩;unfold Ec Et Fi G3;rw[eb];unfold E8 E7 ET;generalize BS w sh i r=b at *;have d1:decide ((CI sh.id r).a.x+b.w<(CI sh.id r).b.x)=decide (b.w<r.size.w):=by
  show decide (r.at_.x+b.w<r.at_.x+r.size.w)=_
  by_cases h:b.w<r.size.w
  ·rw[decide_eq_true h,decide_eq_true (by omega)]
  ·rw[decide_eq_false h,decide_eq_false (by omega)]
 have d2:decide ((CI sh.id r).a.y+b.h<(CI sh.id r).b.y)=decide (b.h<r.size.h):=by
  show decide (r.at_.y+b.h<r.at_.y+r.size.h)=_
  by_cases h:b.h<r.size.h
  ·rw[decide_eq_true h,decide_eq_true (by omega)]
  ·rw[decide_eq_false h,decide_eq_false (by omega)]
 rw[d1,d2]
 by_cases h:b.w<r.size.w
 ·rw[decide_eq_true h];simp only[cond_true];show(bif decide (b.h<r.size.h)then _ else _)=_;cases decide (b.h<r.size.h)<;>simp[B9]<;>first|rfl|exact⟨rfl,rfl⟩
 ·rw[decide_eq_false h];simp only[cond_false];have e:b.w=r.size.w:=by omega
  cases decide (b.h<r.size.h)with
  |false=>simp
  |true =>
    simp only[cond_true,B9];rw[e];rfl
theorem Adt (w:L.Sq Ab) (sh:Aj):∀(n:Nat),1<=n->n<=15->(∀i,i<4->CB n i=true->AP (w.g i).ol=true)->∀w',K0 w n w'->∀(r:AE) (s:FL),1<=r.size.w->1<=r.size.h->Da w sh.grain n r.size ->
  ∃l:List Nat,l.Perm (BI n)/\(CN w sh n r s).sc=s.sc++Cg sh w' (CI sh.id r)/\CH sh w' (CI sh.id r)=l.map (CN w sh n r s).pl:=fun n=>by
 induction n using Nat.strongRecOn with
 |_ n ih =>
   intro h h15 hv w' hw' r s hw hh hf;have h4:=Zz (n:Int);cases h1:Bs n with
   |true =>
     obtain⟨q1,q2⟩:=QR h h15 h1;have e1:w'.n=1:=by rw[hw'.1,q1];rfl
     have e2:w'.g 0=w.g (AI n):=by rw[hw'.2 0 (by rw[q1];exact Nat.one_pos),q1];rfl
     rw[QL w sh r s (by omega) h1];obtain⟨t1,t2,t3⟩:=dV (by omega) (by omega) h1 hf;obtain⟨f1,f2⟩:=Ads (S:=s.sc) e2 (show Cu.le (BS w sh (AI n) r) r.size from t3);obtain⟨g1,g2⟩:=dA (sh:=sh) (r:=CI sh.id r) e1;refine⟨[AI n],by rw[q1],by rw[g2];exact f2,?_⟩;rw[g1,f1];simp[D9,Kv]
   |false =>
     obtain⟨c1,c2,c3⟩:=Ado h h15 h1;have n2:2<=w'.n:=by rw[hw'.1];exact c1
     have n4:w'.n<=4:=by rw[hw'.1];exact h4
     have eN:DA w'=AD n:=by rw[<- c2,<- hw'.1];rfl
     -- the parts' facts
     have pos:∀k,k<AD n->(∀t,Da w sh.grain (Al n k) t->1<=t.w/\1<=t.h)/\∀t,Da w sh.grain (AO n k) t->1<=t.w/\1<=t.h:=fun k hk=>by
      obtain⟨p1,p2,p3,p4,_⟩:=(FK (show 1<=(n:Int)by omega) (by omega) h1).2 k hk;have hb:=(LM h h15 h1 hk).2;obtain⟨x,hx⟩:=Afw (Af8 p1);obtain⟨y,hy⟩:=Afw (Af8 p3);rw[hx,hy]at hb ⊢;exact⟨NM x (by omega) (by omega) (fun i hi hbi=>hv i hi (by rw[(hb i hi).1,hbi];rfl)),NM y (by omega) (by omega) (fun i hi hbi=>hv i hi (by rw[(hb i hi).1,hbi,AgH]))⟩
     have fs:∀k,k<AD n->∀up,Bd w' sh.grain (CI sh.id r) k up=EU (Ae w sh.grain (Al n k)) (Ae w sh.grain (AO n k)) r.size.w r.size.h up:=fun k hk up=>by
      have hc:=c3 k hk;unfold NO at hc;simp only[nT,decide_eq_true_eq]at hc;obtain⟨⟨⟨⟨⟨⟨x1,x2⟩,x3⟩,x4⟩,x5⟩,_⟩,_⟩:=hc;unfold Bd Ae;obtain⟨c,hcc⟩:=Afw x3;have t1:=Z1 (gr:=sh.grain) (show 0<=(n:Int)by omega) (by omega) hw'.2 (2*k+1) (by simpa using x4);have t2:=Z1 (gr:=sh.grain) (show 0<=(n:Int)by omega) (by omega) hw'.2 c (by rw[<- hcc];exact x5);rw[show((2*k+1:Nat):Int)=2*(k:Int)+1 by omega,x1]at t1;rw[<- hcc,x2]at t2;rw[t1,hw'.1,t2];unfold CI;simp only;rw[show r.at_.x+r.size.w-r.at_.x=r.size.w by omega,show r.at_.y+r.size.h-r.at_.y=r.size.h by omega]
     have no:∀k,k<AD n->∀up,Bd w' sh.grain (CI sh.id r) k up=0->∀v,¬ GY w sh.grain (Al n k) (AO n k) r.size up v:=fun k hk up h0=>by
      rw[fs k hk]at h0;rcases eO (c:=AO n k) (s:=r.size) (up:=up) (pos k hk).1 with ⟨_,f⟩|⟨e,_⟩
      ·exact f
      ·omega
     have yes:∀k,k<AD n->∀up,Bd w' sh.grain (CI sh.id r) k up≠0->1<=Bd w' sh.grain (CI sh.id r) k up/\GY w sh.grain (Al n k) (AO n k) r.size up (Bd w' sh.grain (CI sh.id r) k up)/\∀v,GY w sh.grain (Al n k) (AO n k) r.size up v->Bd w' sh.grain (CI sh.id r) k up<=v:=fun k hk up h0=>by
      rw[fs k hk]at h0 ⊢;rcases eO (c:=AO n k) (s:=r.size) (up:=up) (pos k hk).1 with ⟨e,_⟩|e
      ·exact absurd e h0
      ·exact e
     have eW:BD r=(r.size.w-1).toNat:=rfl;have eD:Bo r=(r.size.w-1).toNat+(r.size.h-1).toNat:=rfl
     -- the first division
     cases hd:Ed w' sh.grain (CI sh.id r) (DA w')with
     |none =>
       exfalso;have hz:=LK.rdF_none hd;obtain⟨k,j,hkj⟩:=dX h h15 h1 hv hf;obtain⟨hk,hj,hok⟩:=LL hkj;have:=hz k (by rw[eN];exact hk);cases hu:AN r j with
       |true=>exact no k hk true this.1 _ (by rw[<- hu];exact LN.1 hok)
       |false=>exact no k hk false this.2 _ (by rw[<- hu];exact LN.1 hok)
     |some x =>
       obtain⟨k,up⟩:=x;obtain⟨hk,hne,hup,hb4⟩:=LK hd;rw[eN]at hk;obtain⟨v1,v2,v3⟩:=yes k hk up hne;obtain⟨v,hvE⟩:∃v,Bd w' sh.grain (CI sh.id r) k up=v:=⟨_,rfl⟩;rw[hvE]at v1 v2 v3;have cb:=(pos k hk).2 _ v2.2;have bd:(up=true->v<r.size.w)/\(up=false->v<r.size.h):=by
        cases up with
        |true=>exact⟨fun _=>by have:=cb.1;simp only[cond_true]at this;omega,fun h=>by cases h⟩
        |false=>exact⟨fun h=>(by cases h),fun _=>by have:=cb.2;simp only[cond_false]at this;omega⟩
       obtain⟨j,hj,eU,eI,hlt⟩:∃j,j<Bo r/\AN r j=up/\AH r j=v/\∀j',j'<j->(AN r j'=up/\AH r j'<v)\/(up=false/\AN r j'=true):=by
        cases up with
        |true =>
          have:=bd.1 rfl;refine⟨(v-1).toNat,by omega,decide_eq_true (by omega),?_,fun j' hj'=>.inl ?_⟩
          ·unfold AH AN;rw[decide_eq_true (by omega),cond_true];omega
          ·have hu:AN r j'=true:=decide_eq_true (by omega);refine⟨hu,?_⟩;unfold AH;rw[hu,cond_true];omega
        |false =>
          have:=bd.2 rfl;refine⟨BD r+(v-1).toNat,by omega,decide_eq_false (by omega),?_,fun j' hj'=>?_⟩
          ·unfold AH AN;rw[decide_eq_false (by omega),cond_false];omega
          ·by_cases hl:j'<BD r
           ·exact .inr ⟨rfl,decide_eq_true hl⟩
           ·have hu:AN r j'=false:=decide_eq_false hl;refine .inl ⟨hu,?_⟩;unfold AH;rw[hu,cond_false];omega
       have hdv:DO w sh.grain n r=some (k,j):=by
        refine dG hk hj (LN.2 (by rw[eU,eI];exact v2)) (fun k' hk' j' hj'=>?_) (fun j' hj'=>?_)
        ·cases hh2:Ch w sh.grain n r k' j' with
         |false=>rfl
         |true =>
           have hc:=LN.1 hh2;have z:=hb4 k' hk';cases hu:AN r j' with
           |true=>rw[hu]at hc;exact absurd hc (no k' (by omega) true z.1 _)
           |false=>rw[hu]at hc;exact absurd hc (no k' (by omega) false z.2 _)
        ·cases hh2:Ch w sh.grain n r k j' with
         |false=>rfl
         |true =>
           have hc:=LN.1 hh2;rcases hlt j' hj' with ⟨a,b⟩|⟨a,b⟩
           ·rw[a]at hc;have:=v3 _ hc;omega
           ·rw[b]at hc;exact absurd hc (no k hk true (hup a) _)
       obtain⟨p1,p2,p3,p4,_⟩:=(FK (show 1<=(n:Int)by omega) (by omega) h1).2 k hk;obtain⟨hpm,hb⟩:=LM h h15 h1 hk;have hc:=c3 k hk;unfold NO at hc;simp only[nT,decide_eq_true_eq]at hc;obtain⟨⟨_,y1⟩,y2⟩:=hc;have sA':K0 w (Al n k) (Hy w' k):=eR hw' y1;have sB':K0 w (AO n k) (GW w' k):=by
        have:=eR hw' y2;unfold GW;rw[hw'.1];exact this
       obtain⟨g1,g2⟩:=dB (sh:=sh) n2 n4 hd hvE;rw[Adp,Adq]at g1 g2;rw[Adr]at g2;rw[QM w sh s (by omega) (by omega) h1 hdv,eU,eI,g1,g2];obtain⟨f1,f2⟩:=v2;have sA:1<=(Bc r up v).size.w/\1<=(Bc r up v).size.h:=by
        cases up with
        |true=>have:=bd.1 rfl;unfold Bc;simp only[cond_true];omega
        |false=>have:=bd.2 rfl;unfold Bc;simp only[cond_false];omega
       have sB:1<=(Bi r up v).size.w/\1<=(Bi r up v).size.h:=by
        cases up with
        |true=>have:=bd.1 rfl;unfold Bi;simp only[cond_true];omega
        |false=>have:=bd.2 rfl;unfold Bi;simp only[cond_false];omega
       have f1:Da w sh.grain (Al n k) (Bc r up v).size:=by cases up<;>exact f1
       have f2:Da w sh.grain (AO n k) (Bi r up v).size:=by cases up<;>exact f2
       obtain⟨x,hx⟩:=Afw (Af8 p1);obtain⟨y,hy⟩:=Afw (Af8 p3);rw[hx]at f1 hb hpm p1 p2 sA' ⊢;rw[hy]at f2 hb hpm p3 p4 sB' ⊢;have vx:∀i,i<4->CB x i=true->AP (w.g i).ol=true:=fun i hi hbi=>hv i hi (by rw[(hb i hi).1,hbi];rfl);have vy:∀i,i<4->CB y i=true->AP (w.g i).ol=true:=fun i hi hbi=>hv i hi (by rw[(hb i hi).1,hbi,AgH]);obtain⟨l1,e1,e2,e3⟩:=ih x (by omega) (by omega) (by omega) vx _ sA' (Bc r up v) ⟨s.pl,B9 s.sc (BC r sh.id up v)⟩ sA.1 sA.2 f1;generalize CN w sh x (Bc r up v) ⟨s.pl,B9 s.sc (BC r sh.id up v)⟩=s1 at *;obtain⟨l2,g1,g2,g3⟩:=ih y (by omega) (by omega) (by omega) vy _ sB' (Bi r up v) s1 sB.1 sB.2 f2;obtain⟨_,_,_,_,_,_,g4,_⟩:=dY w sh y (by omega) (by omega) vy (Bi r up v) s1 sB.1 sB.2 f2;generalize CN w sh y (Bi r up v) s1=s2 at *;refine⟨l1++l2,(e1.append g1).trans hpm.symm,?_,?_⟩
       ·rw[g2,e2];simp[B9]
       ·rw[Ag4,e3,g3];congr 1;refine AgE fun i hi=>?_;obtain⟨h4,hbx⟩:=QS.1 (e1.mem_iff.1 hi);have:=(hb i h4).2;rw[hbx,AgY]at this;rw[g4 i h4 this]
theorem JB {α:Type} (l:List α) (d:α):(Afm l.length).map (fun i=>l.getD i d)=l:=by
 refine List.ext_getElem (by simp) fun i h1 h2=>?_;simp[AS,h2]
theorem Adu (w:L.Sq Ab) (l:List AZ) (i:Nat):F4 w (Bj l) i (Bj l).n=l.filter fun x=>decide (x.want=(w.g i).id):=by
 unfold F4;have:=List.filter_map (f:=(Bj l).g) (p:=fun x=>decide (x.want=(w.g i).id)) (l:=Afm l.length);rw[show(Afm l.length).map (Bj l).g=l from JB l _]at this;rw[this];rfl
theorem Adv {w:L.Sq Ab} {pl:Nat->AZ} {l:List Nat} (hl:l.Perm (Afm w.n)) (hi:∀i j,i<w.n->j<w.n->(w.g i).id=(w.g j).id->i=j) (hp:∀i,i<w.n->(pl i).want=(w.g i).id):DH w (Bj (l.map pl)) w.n=(Afm w.n).map pl:=by
 have h1:∀i,i<w.n->F4 w (Bj (l.map pl)) i (Bj (l.map pl)).n = [pl i]:=fun i hin=>by
  rw[Adu,List.filter_map];have:l.filter ((fun x:AZ=>decide (x.want=(w.g i).id)) ∘ pl)=l.filter (fun j=>j == i):=List.filter_congr fun j hj=>by
   have hjn:=Afl.1 (hl.mem_iff.1 hj);show decide ((pl j).want=(w.g i).id)=_;rw[hp j hjn]
   by_cases e:j=i
   ·rw[e,decide_eq_true rfl,beq_self_eq_true]
   ·rw[decide_eq_false (fun h=>e (hi j i hjn hin h))];exact(beq_eq_false_iff_ne.2 e).symm
  rw[this,List.filter_beq,hl.count_eq,List.nodup_range.count,if_pos (Afl.2 hin)];rfl
 unfold DH;have h2:∀k,k<=w.n->(Afm k).flatMap (fun j=>F4 w (Bj (l.map pl)) j (Bj (l.map pl)).n)=(Afm k).map pl:=fun k=>by
  induction k with
  |zero=>intro _;rfl
  |succ k ih=>intro hk;rw[Ag8,List.flatMap_append,Ag4,ih (by omega)];simp[h1 k (by omega)]
 exact h2 w.n (Afo _)
theorem QW {w:L.Sq Ab} (hv:Dj w=true) {i:Nat}:∀{j:Nat},j<w.n->i<j->(w.g i).id<(w.g j).id
 |0,_,h=>absurd h (Rc _)
 |j+1,hj,h=>by
   have h1:=(Z4 hv hj).2 (Nat.succ_pos _);rw[Nat.add_sub_cancel]at h1
   by_cases e:i=j
   ·rw[e];exact h1
   ·exact Int.lt_trans (QW hv (show j<w.n by omega) (by omega)) h1
theorem Adw:((Afm 5).all fun n=>decide (BI (Az n)=Afm n))=true:=by kernel_rfl
theorem NP {n:Nat} (h:n<=4):BI (Az n)=Afm n:=of_decide_eq_true (Afj.1 Adw n (Afl.2 (by omega)))
theorem eV {w:L.Sq Ab} {s:Aj} (hv:Dj w=true) (hs:BH s=true) (hn:w.n<=4) (hf:CZ w s=true):DH w (Bj (CH s w (De s))) w.n=(Afm w.n).map (CR w s)/\Cg s w (De s)=G4 w s:=by
 obtain⟨sw,_,sh,_⟩:=QU hs;obtain⟨a1,a2,_,_⟩:=G0 hn;have eW:De s=CI s.id (GX s):=by
  show(⟨s.id,⟨0,0⟩,⟨s.w,s.h⟩,0⟩:Bx)=⟨s.id,⟨0,0⟩,⟨0+s.w,0+s.h⟩,0⟩;rw[Int.zero_add,Int.zero_add]
 rw[eW];rcases AgB w.n with h0|h0
 ·obtain⟨e1,e2⟩:=cZ (sh:=s) (r:=CI s.id (GX s)) h0;have e:Jr w s=⟨FN,[]⟩:=by
   unfold Jr;rw[h0];exact dI w s _ _
  rw[e1,e2,h0];refine⟨rfl,?_⟩;unfold G4;rw[e]
 ·have ea:((Az w.n).toNat:Int)=Az w.n:=Ags a1;have mem:∀i,i<w.n↔i<4/\CB (Az w.n) i=true:=fun i=>by rw[<- QS,NP hn,Afl]
  have n1:1<=(Az w.n).toNat:=by
   rcases AgB (Az w.n).toNat with h|h
   ·have e0:Az w.n=0:=by omega
    have:=((mem 0).1 h0).2;rw[e0]at this;exact absurd this (by decide)
   ·exact h
  have hfit:Da w s.grain (Az w.n) (GX s).size:=by
   unfold CZ at hf;cases hd:decide (BO w s=0)with
   |false=>rw[hd]at hf;cases hf
   |true=>rw[hd,cond_true]at hf;exact Gg.1 hf
  have vl:∀i,i<4->CB (Az w.n).toNat i=true->AP (w.g i).ol=true:=fun i hi hb=>by
   rw[ea]at hb;exact Adl (Z4 hv ((mem i).2 ⟨hi,hb⟩)).1
  have sub:K0 w (Az w.n) w:=⟨by rw[NP hn,Agw],fun i hi=>by
   rw[NP hn]at hi ⊢;rw[Agw]at hi;rw[AS,oE (by rw[Agw];exact hi),List.getElem_range];rfl⟩
  have w1:1<=(GX s).size.w:=by show 1<=s.w;omega
  have w2:1<=(GX s).size.h:=by show 1<=s.h;omega
  obtain⟨l,q1,q2,q3⟩:=Adt w s (Az w.n).toNat n1 (by omega) vl w (by rw[ea];exact sub) (GX s) ⟨FN,[]⟩ w1 w2 (by rw[ea];exact hfit);obtain⟨_,_,_,_,_,_,_,q5⟩:=dY w s (Az w.n).toNat n1 (by omega) vl (GX s) ⟨FN,[]⟩ w1 w2 (by rw[ea];exact hfit);rw[ea]at q1 q2 q3 q5;rw[NP hn]at q1;have eF:CN w s (Az w.n) (GX s) ⟨FN,[]⟩=Jr w s:=rfl;rw[eF]at q2 q3 q5;refine⟨?_,?_⟩
  ·rw[q3];refine Adv q1 (fun i j hi hj e=>?_) (fun i hi=>?_)
   ·rcases AgM i j with h|h|h
    ·have:=QW hv hj h;omega
    ·exact h
    ·have:=QW hv hi h;omega
   ·obtain⟨h4,hb⟩:=(mem i).1 hi;exact(q5 i h4 hb).1
  ·rw[List.nil_append]at q2;exact q2.symm
end
def GZ (a b:L.Sq L.Pt):Bool:=bif decide ((a.n:Int)=b.n)then CD a.n (fun i=>C3 (a.g i) (b.g i))else false
def eX (a:(L.Sq L.Pt)) (b:(L.Sq L.Pt)):Prop:=a.n<=1000000
def eY (a:(L.Sq L.Pt)) (b:(L.Sq L.Pt)):SV:=.bool (GZ a b)
def fA:List EV->Option (Prop×SV)
 |[.p (.sl 2 a_n a_g),.p (.sl 2 b_n b_g)]=>some ((∀i,i<a_n->a_g i = [.int .i64 ((An (a_g i)).x),.int .i64 ((An (a_g i)).y)])/\(∀i,i<b_n->b_g i = [.int .i64 ((An (b_g i)).x),.int .i64 ((An (b_g i)).y)])/\eX (⟨a_n,fun i=>An (a_g i)⟩:(L.Sq L.Pt)) (⟨b_n,fun i=>An (b_g i)⟩:(L.Sq L.Pt)),eY (⟨a_n,fun i=>An (a_g i)⟩:(L.Sq L.Pt)) (⟨b_n,fun i=>An (b_g i)⟩:(L.Sq L.Pt)))
 |_=>none
abbrev fB:SE.Spec:=(AK fA)
def Adx:Ak:={ muts:=[],frz:=B2 [],specs:=AB [],loops:=fun _=>none,iters:=Bw [],rfs:=AT [],nils:=B3 [] }
theorem Ady (a:(L.Sq L.Pt)) (b:(L.Sq L.Pt)) (hp:eX a b):vc Tryz.prog ({ Adx with loops:=AV [(4,{ T:=Nat,keep:=[0,1],keepO:=[],chg:=fun i=>[(5,.p (.int .i64 (i:Int)))],own:=fun _=>[],inv:=fun i=>i<=a.n/\∀j,j<i->C3 (a.g j) (b.g j)=true,mu:=fun i=>a.n-i })],rfs:=AT [] }) (Ah Tryz.f48) (Ap Tryz.f48 [.p (.sl 2 a.n (fun i=>[.int .i64 ((a.g i).x),.int .i64 ((a.g i).y)])),.p (.sl 2 b.n (fun i=>[.int .i64 ((b.g i).x),.int .i64 ((b.g i).y)]))]) (AJ Tryz.prog Tryz.f48 (eY a b)):=
 @Eq.mpr _ (let I:=SV.int .i64;let T:=Af1;let A4:=(↑a.n:Int);let A3:=(!decide (A4=(↑b.n:Int)));(A3=true->false=GZ a b)/\(A3=false->(∃(g:Nat),(0:Int)=(↑g:Int)/\g<=a.n/\∀(j:Nat),j<g->C3 (a.g j) (b.g j)=true)/\∀(g:Nat),let A2:=(↑g:Int);let A1:=(!(decide ((a.g (T A2)).x=(b.g (T A2)).x)&&decide ((a.g (T A2)).y=(b.g (T A2)).y)));(g<=a.n/\∀(j:Nat),j<g->C3 (a.g j) (b.g j)=true)->(decide (A2<A4)=true->((0:Int)<=A2/\A2<A4)/\((0:Int)<=A2/\A2<(↑b.n:Int))/\(A1=true->false=GZ a b)/\(A1=false->Ad .i64 (A2+(1:Int))/\∃(g':Nat),A2+(1:Int)=(↑g':Int)/\(a.n=a.n/\∀(i:Nat),let A5:=[I (a.g i).x,I (a.g i).y];i<a.n->A5=A5)/\(b.n=b.n/\∀(i:Nat),let A6:=[I (b.g i).x,I (b.g i).y];i<b.n->A6=A6)/\(g'<=a.n/\∀(j:Nat),j<g'->C3 (a.g j) (b.g j)=true)/\a.n-g'<a.n-g))/\(decide (A2<A4)=false->true=GZ a b))) (by kernel_rfl) (by
 conv=>zeta
 have ha:a.n<=1000000:=hp;refine⟨fun h=>?_,fun h=>?_⟩
 ·unfold GZ;rw[Cx h];rfl
 have hd:=Ca h;have hn:=of_decide_eq_true hd;refine⟨⟨(0:Nat),rfl,Afg _,fun j hj=>absurd hj (Rc _)⟩,fun g hg=>⟨fun hlt=>?_,fun hge=>?_⟩⟩
 ·have hb:(g:Int)<(a.n:Int):=of_decide_eq_true hlt;have e0:((g:Int)).toNat=g:=by omega
  rw[e0];refine⟨by omega,by omega,fun h1=>?_,fun h1=>?_⟩
  ·have h1:C3 (a.g g) (b.g g)=false:=Cx h1;unfold GZ;rw[hd,FF (i:=g) (by omega) h1];rfl
  ·have h1:C3 (a.g g) (b.g g)=true:=Ca h1;exact⟨jK,g+1,by omega,⟨rfl,fun _ _=>rfl⟩,⟨rfl,fun _ _=>rfl⟩,⟨by omega,fun j hj=>by
    rcases Aft.1 hj with h'|rfl
    ·exact hg.2 j h'
    ·exact h1⟩,by omega⟩
 ·have hb:¬ (g:Int)<(a.n:Int):=of_decide_eq_false hge;unfold GZ;rw[hd,CQ.2 (fun i hi=>hg.2 i (by omega))];rfl)
theorem Adz:Av Tryz.prog 48 fB:=AM Tryz.func48 (c:=Ah Tryz.f48) (by kernel_rfl) mixed (fun args p r hs hp=>by
 unfold fA at hs;split at hs
 ·cases hs;exact⟨_,_,Ady _ _ hp.2.2,(.p (.sl hp.1) (.p (.sl hp.2.1) .nil)),⟨show Aa Tryz.prog _ from Aa.nil,rfl,⟨show Ag Tryz.prog _ from Ag.nil,(Aw.none (fun _=>rfl))⟩⟩⟩
 ·cases hs)
theorem Ad0:Ao Tryz.prog 48:=fun args w=>by kernel_rfl
def Fk:List SV->AY
 |[.int _ a,.int _ b,.int _ c,.sl _ n g]=>⟨a,b,c,⟨n,fun i=>An (g i)⟩⟩
 |_=>⟨0,0,0,⟨0,fun _=>⟨0,0⟩⟩⟩
def LO:List SV->Prop
 |[.int .i64 _,.int .i64 _,.int .i64 _,.sl 2 n g]=>∀i,i<n->g i = [.int .i64 (An (g i)).x,.int .i64 (An (g i)).y]
 |_=>False
theorem QX {l:List SV} (h:LO l):l.length=4/\∀j,j<4->AX (SV.at l j) (SV.at [.int .i64 (Fk l).sheet,.int .i64 (Fk l).kind,.int .i64 (Fk l).want,.sl 2 (Fk l).pts.n (fun i=>[.int .i64 ((Fk l).pts.g i).x,.int .i64 ((Fk l).pts.g i).y])] j):=by
 unfold LO at h;split at h
 ·rename_i a b c n g;refine⟨rfl,fun j hj=>?_⟩
  match j,hj with
  |0,_=>exact .refl _
  |1,_=>exact .refl _
  |2,_=>exact .refl _
  |3,_=>exact .sl h
 ·exact h.elim
theorem fC {n:Nat} {g:Nat->List SV} (h:∀i,i<n->LO (g i)):AX (.sl 4 n g) (.sl 4 n (fun i=>[.int .i64 (Fk (g i)).sheet,.int .i64 (Fk (g i)).kind,.int .i64 (Fk (g i)).want,.sl 2 (Fk (g i)).pts.n (fun i1=>[.int .i64 ((Fk (g i)).pts.g i1).x,.int .i64 ((Fk (g i)).pts.g i1).y])])):=
 .sl2 (fun i hi=>by rw[(QX (h i hi)).1];rfl) (fun i hi j hj=>(QX (h i hi)).2 j (by rw[(QX (h i hi)).1]at hj;exact hj))
def FO (w:L.Sq Ab) (s:Aj):L.Sq AZ:=Bj (bif decide (Ci w s=0)then DH w (Bj (CH s w (De s))) w.n else [])
def Gj (w:L.Sq Ab) (s:Aj):L.Sq AY:=AA (bif decide (Ci w s=0)then Cg s w (De s)else [])
def Ha (a b:AY):Bool:=decide (a.sheet=b.sheet)&&(decide (a.kind=b.kind)&&(decide (a.want=b.want)&&GZ a.pts b.pts))
def Hb (a b:L.Sq AY):Bool:=bif !decide ((a.n:Int)=(b.n:Int))then false else CD a.n fun i=>Ha (a.g i) (b.g i)
theorem Ad1 (a:L.Sq L.Pt):GZ a a=true:=by
 unfold GZ;rw[decide_eq_true rfl];refine CQ.2 fun i _=>?_;unfold C3;simp
theorem fD {a b:L.Sq AY} (h:a.n=b.n) (hg:∀i,i<a.n->a.g i=b.g i):Hb a b=true:=by
 unfold Hb;rw[decide_eq_true (by rw[h])];refine CQ.2 fun i hi=>?_;rw[hg i hi];unfold Ha;rw[Ad1];simp
theorem fF {a b:L.Sq AZ} (h:a.n=b.n) (hg:∀i,i<a.n->a.g i=b.g i):Gi a b=true:=by
 unfold Gi;rw[decide_eq_true (by rw[h])];refine CQ.2 fun i hi=>?_;rw[hg i hi];unfold GV;simp
theorem Ad2 {s:Aj} (h:BH s=true):Eb (De s):=by
 obtain⟨h1,h2,h3,h4,_⟩:=QU h;exact⟨Af4 _,by show 0<=s.w;omega,h2,Af4 _,by show 0<=s.h;omega,h4⟩
theorem fG {w:L.Sq Ab} {s:Aj} (h:Ci w s=0):BO w s=0/\CZ w s=true:=by
 have h0:BO w s=0:=by
  refine Decidable.byContradiction fun h2=>?_;have e1:Ci w s=BO w s:=by unfold Ci;rw[decide_eq_false h2];rfl
  exact h2 (e1.symm.trans h)
 refine⟨h0,?_⟩;cases hb:CZ w s with
 |true=>rfl
 |false =>
   have e1:Ci w s=52:=by unfold Ci;rw[decide_eq_true h0,hb];rfl
   rw[h]at e1;exact absurd e1 (by decide)
theorem Ad3 {w:Ab} {s:Aj} {r:Bx} {x:AY} (h:x∈Ec w s r):x.pts.n=2:=by
 unfold Ec Et B9 at h;revert h;cases decide (Fi w s.grain r<r.b.x)<;>cases decide (G3 w s.grain r<r.b.y)<;>simp[EA,QD]
 ·rintro rfl;rfl
 ·rintro rfl;rfl
 ·rintro(rfl|rfl)<;>rfl
theorem QY (sh:Aj):∀(n:Nat) (w:L.Sq Ab) (r:Bx) (x:AY),x∈(DI sh n w r).2->x.pts.n=2
 |0,w,r,x,h=>by cases h
 |n+1,w,r,x,h=>by
   rw[DI]at h
   by_cases e:w.n=0
   ·rw[if_pos e]at h;cases h
   ·rw[if_neg e]at h
    by_cases e1:w.n=1
    ·rw[if_pos e1]at h;exact Ad3 h
    ·rw[if_neg e1]at h;cases hd:Ed w sh.grain r (DA w)with
     |none=>rw[hd]at h;cases h
     |some y =>
       obtain⟨k,up⟩:=y;rw[hd]at h;simp only at h;rcases Afk.1 h with rfl|h
       ·rfl
       ·rcases Afz.1 h with h|h
        ·exact QY sh n _ _ x h
        ·exact QY sh n _ _ x h
theorem Ad4 {w:L.Sq Ab} (hn:Dz w) (s:Aj):Gi ⟨Ef w s,CR w s⟩ (FO w s)=true/\Hb (Eg w s) (Gj w s)=true:=by
 by_cases h:Ci w s=0
 ·obtain⟨h0,hb⟩:=fG h;obtain⟨hv,hs,h7⟩:=NN h0;obtain⟨q1,q2⟩:=eV hv hs (Hw hn h7).1 hb;constructor
  ·unfold FO Ef;rw[decide_eq_true h,cond_true,cond_true,q1];refine fF (by simp[Bj]) fun i hi=>?_;have hi:i<w.n:=hi;show CR w s i=((Afm w.n).map (CR w s)).getD i _;rw[AS,oE (by simpa using hi)];simp
  ·unfold Gj Eg;rw[decide_eq_true h,cond_true,cond_true,q2];exact fD rfl fun _ _=>rfl
 ·constructor
  ·unfold FO Ef;rw[decide_eq_false h,cond_false,cond_false];exact fF rfl fun i hi=>absurd hi (Rc _)
  ·unfold Gj Eg;rw[decide_eq_false h,cond_false,cond_false];exact fD rfl fun _ _=>rfl
theorem Ad5 {w:L.Sq Ab} (hn:Dz w) (s:Aj):Ef w s<=1000000/\(Eg w s).n<=1000000/\∀i,i<(Eg w s).n->((Eg w s).g i).pts.n<=1000000:=by
 by_cases h:Ci w s=0
 ·obtain⟨h0,hb⟩:=fG h;obtain⟨hv,hs,h7⟩:=NN h0;obtain⟨q1,q2⟩:=eV hv hs (Hw hn h7).1 hb;have e:Eg w s=AA (Cg s w (De s)):=by unfold Eg;rw[decide_eq_true h,cond_true,q2]
  have l:=(NI s w (De s)).2;refine⟨by unfold Ef;rw[decide_eq_true h,cond_true];omega,by rw[e];show(Cg s w (De s)).length<=_;omega,fun i hi=>?_⟩;rw[e]at hi ⊢;have hi:i<(Cg s w (De s)).length:=hi;have m:(AA (Cg s w (De s))).g i∈Cg s w (De s):=by
   show(Cg s w (De s)).getD i _∈_;rw[AS,oE hi];exact Af3 hi
  rw[QY s 5 w (De s) _ m];decide
 ·have e:Eg w s=AA []:=by unfold Eg;rw[decide_eq_false h,cond_false]
  refine⟨by unfold Ef;rw[decide_eq_false h,cond_false];exact Afg _,by rw[e];exact Afg _,fun i hi=>?_⟩;rw[e]at hi;exact absurd hi (Rc _)
section
attribute [local irreducible] EQ AW CH Cg CR G4 Jr CY Dj BO CZ
def fH (w:(L.Sq Ab)) (s:Aj):Prop:=Dz w
def fI (w:(L.Sq Ab)) (s:Aj):SV:=.tup [.sl 5 (FO w s).n (fun k=>Co ((FO w s).g k)),.sl 4 (Gj w s).n (fun k=>AL ((Gj w s).g k)),.int .i64 (Ci w s)]
def fJ:List EV->Option (Prop×SV)
 |[.p (.sl 4 w_n w_g),.p (.agg [.int .i64 s_id,.int .i64 s_colour,.int .i64 s_w,.int .i64 s_h,.int .i64 s_grain])]=>some ((∀i,i<w_n->DD (w_g i))/\fH (⟨w_n,fun i=>B6 (w_g i)⟩:(L.Sq Ab)) (⟨s_id,s_colour,s_w,s_h,s_grain⟩:Aj),fI (⟨w_n,fun i=>B6 (w_g i)⟩:(L.Sq Ab)) (⟨s_id,s_colour,s_w,s_h,s_grain⟩:Aj))
 |_=>none
abbrev fK:SE.Spec:=(AK fJ)
def Ad6:Ak:={ cC with frz:=B2 [(7,[16,17])],specs:=AB [(42,QB),(43,QC),(46,cA),(47,cQ)],anys:=[1006],mks:=El [(45,Iv)],ren:=fun k=>if k=38 then 16 else 17 }
theorem Ad7 (w:(L.Sq Ab)) (s:Aj) (hp:fH w s):vc Tryz.prog (Ad6) (Ah Tryz.f14) (Ap Tryz.f14 [.p (.sl 4 w.n (fun i=>[.int .i64 ((w.g i).id),.int .i64 ((w.g i).colour),.int .i64 ((w.g i).grain),.sl 2 (w.g i).ol.n (fun i1=>[.int .i64 (((w.g i).ol.g i1).x),.int .i64 (((w.g i).ol.g i1).y)])])),.p (.agg [.int .i64 s.id,.int .i64 s.colour,.int .i64 s.w,.int .i64 s.h,.int .i64 s.grain])]) (AJ Tryz.prog Tryz.f14 (fI w s)):=
 @Eq.mpr _ (let I:=SV.int .i64;let A12:=(0:Nat);let A11:=(Gj w s);let A10:=(FO w s);let A8:=(!decide (BO w s=(0:Int)));let A6:=(De s);let A4:=(!Cd w s.grain (Az w.n) (Ac.mk s.w s.h));let A1:=(∀(i:Nat),i<w.n->∀(i_1:Nat),let A5:=((w.g i).ol.g i_1);i_1<(w.g i).ol.n -> [I A5.x,I A5.y]= [I A5.x,I A5.y]);(A1/\w.n<=(1000000:Nat)/\∀(i:Nat),i<w.n->(w.g i).ol.n<=(1000000:Nat))/\(A8=true->A10.n=A12/\A11.n=A12/\BO w s=Ci w s)/\(A8=false->(A1/\B7 w)/\(A4=true->A10.n=A12/\A11.n=A12/\(52:Int)=Ci w s)/\(A4=false->True/\∃(t:L.Sq Ab×Aj×Bx),let A3:=(AA (Cg t.2.1 t.1 t.2.2));let A2:=(Bj (CH t.2.1 t.1 t.2.2));let A7:=(Bj (DH w A2 w.n));(w.n=t.1.n/\∀(i:Nat),let A9:=(t.1.g i);i<w.n -> [I (w.g i).id,I (w.g i).colour,I (w.g i).grain,SV.sl (2:Nat) (w.g i).ol.n fun(i1:Nat)=>[I ((w.g i).ol.g i1).x,I ((w.g i).ol.g i1).y]]= [I A9.id,I A9.colour,I A9.grain,SV.sl (2:Nat) A9.ol.n fun(i1:Nat)=>[I (A9.ol.g i1).x,I (A9.ol.g i1).y]])/\SV.agg [I s.id,I s.colour,I s.w,I s.h,I s.grain]=SV.agg [I t.2.1.id,I t.2.1.colour,I t.2.1.w,I t.2.1.h,I t.2.1.grain]/\SV.agg [I A6.sheet,I A6.a.x,I A6.a.y,I A6.b.x,I A6.b.y,I A6.beg]=SV.agg [I t.2.2.sheet,I t.2.2.a.x,I t.2.2.a.y,I t.2.2.b.x,I t.2.2.b.y,I t.2.2.beg]/\(B7 t.1/\Eb t.2.2)/\∀(u:Nat),True->(A1/\(∀(i:Nat),i<A2.n->Co (A2.g i)= [I (A2.g i).want,I (A2.g i).sheet,I (A2.g i).turn,I (A2.g i).at_.x,I (A2.g i).at_.y])/\w.n<=(1000:Nat)/\A2.n<=(1000:Nat))/\(A7.n=A10.n/\∀(i:Nat),i<A7.n->Co (A7.g i)=Co (A10.g i))/\(A3.n=A11.n/\∀(i:Nat),i<A3.n->AL (A3.g i)=AL (A11.g i))/\(0:Int)=Ci w s))) (by kernel_rfl) (by
 conv=>zeta
 have hp:Dz w:=hp;refine⟨⟨fun _ _ _ _=>rfl,hp.2.1,hp.2.2⟩,fun h=>?_,fun h=>?_⟩
 ·have h:¬ BO w s=0:=of_decide_eq_false (Cx h);have e1:Ci w s=BO w s:=by unfold Ci;rw[decide_eq_false h];rfl
  have p0:(FO w s).n=0:=by unfold FO;rw[e1,decide_eq_false h];rfl
  have s0:(Gj w s).n=0:=by unfold Gj;rw[e1,decide_eq_false h];rfl
  exact⟨p0,s0,e1.symm⟩
 have h:BO w s=0:=of_decide_eq_true (Ca h);obtain⟨hv,hs,h7⟩:=NN h;have ok:=Hw hp h7;have eB:CZ w s=Cd w s.grain (Az w.n) ⟨s.w,s.h⟩:=by unfold CZ;rw[h];rfl
 refine⟨⟨fun _ _ _ _=>rfl,ok⟩,fun h2=>?_,fun h2=>?_⟩
 ·have h2:Cd w s.grain (Az w.n) ⟨s.w,s.h⟩=false:=Cx h2;have e1:Ci w s=52:=by unfold Ci;rw[decide_eq_true h,eB,h2];rfl
  have p0:(FO w s).n=0:=by unfold FO;rw[e1];rfl
  have s0:(Gj w s).n=0:=by unfold Gj;rw[e1];rfl
  exact⟨p0,s0,e1.symm⟩
 have h2:Cd w s.grain (Az w.n) ⟨s.w,s.h⟩=true:=Ca h2;have e1:Ci w s=0:=by unfold Ci;rw[decide_eq_true h,eB,h2];rfl
 have eP:FO w s=Bj (DH w (Bj (CH s w (De s))) w.n):=by unfold FO;rw[e1];rfl
 have eS:Gj w s=AA (Cg s w (De s)):=by unfold Gj;rw[e1];rfl
 have w4:w.n<=1000:=AfI ok.1 (by decide);have ln:(Bj (CH s w (De s))).n<=1000:=AfI (NI s w (De s)).1 (by decide);have oT:=Ad2 hs;rw[eP,eS,e1];exact⟨trivial,(w,s,De s),(by(try dsimp only);(repeat' with_reducible apply And.intro)<;>first|with_reducible rfl|with_reducible assumption|with_reducible exact fun _=>rfl|with_reducible exact fun _ _=>rfl|with_reducible exact trivial|(intro u _;exact(by(try dsimp only);(repeat' with_reducible apply And.intro)<;>first|with_reducible rfl|with_reducible assumption|with_reducible exact fun _=>rfl|with_reducible exact fun _ _=>rfl|with_reducible exact trivial|exact(fun _ _ _ _=>rfl)|exact rfl|(intro _;exact rfl)|(intro _ _;exact rfl)|exact w4|exact ln|exact trivial|(intro _ h_;exact absurd h_ (Rc _))))|exact rfl|(intro _;exact rfl)|(intro _ _;exact rfl)|exact ok|exact oT|exact trivial|(intro _ h_;exact absurd h_ (Rc _)))⟩)
theorem Ad8:Av Tryz.prog 14 fK:=AM Tryz.func14 (c:=Ah Tryz.f14) (by kernel_rfl) mixed (fun args p r hs hp=>by
 unfold fJ at hs;split at hs
 ·cases hs;exact⟨_,_,Ad7 _ _ hp.2,(.p (EP hp.1) (.same _ .nil)),⟨show Aa Tryz.prog _ from(Aa.cons aC aD (Aa.cons aI aJ (Aa.cons Acg Ach (Aa.cons Acy Acz Aa.nil)))),rfl,⟨show Ag Tryz.prog _ from Ag.nil,⟨Aw.no1 (fun _=>rfl),⟨show Bm Tryz.prog _ from(Bm.cons AcE dF Bm.nil),FamsOk.none (fun _=>rfl)⟩⟩⟩⟩⟩
 ·cases hs)
theorem Ad9:Ao Tryz.prog 14:=fun args w=>by kernel_rfl
def fL (a:(L.Sq AY)) (b:(L.Sq AY)):Prop:=a.n<=1000000/\∀i,i<a.n->(a.g i).pts.n<=1000000
def fM (a:(L.Sq AY)) (b:(L.Sq AY)):SV:=.bool (Hb a b)
def fN:List EV->Option (Prop×SV)
 |[.p (.sl 4 a_n a_g),.p (.sl 4 b_n b_g)]=>some ((∀i,i<a_n->LO (a_g i))/\(∀i,i<b_n->LO (b_g i))/\fL (⟨a_n,fun i=>Fk (a_g i)⟩:(L.Sq AY)) (⟨b_n,fun i=>Fk (b_g i)⟩:(L.Sq AY)),fM (⟨a_n,fun i=>Fk (a_g i)⟩:(L.Sq AY)) (⟨b_n,fun i=>Fk (b_g i)⟩:(L.Sq AY)))
 |_=>none
abbrev fO:SE.Spec:=(AK fN)
def AdA:Ak:={ cC with specs:=AB [(48,fB)] }
theorem AdB (a:(L.Sq AY)) (b:(L.Sq AY)) (hp:fL a b):vc Tryz.prog ({ AdA with loops:=AV [(4,{ T:=Nat,keep:=[0,1],keepO:=[],chg:=fun i=>[(5,.p (.int .i64 (i:Int)))],own:=fun _=>[],inv:=fun i=>i<=a.n/\∀j,j<i->Ha (a.g j) (b.g j)=true,mu:=fun i=>a.n-i })],rfs:=AT [] }) (Ah Tryz.f16) (Ap Tryz.f16 [.p (.sl 4 a.n (fun i=>[.int .i64 ((a.g i).sheet),.int .i64 ((a.g i).kind),.int .i64 ((a.g i).want),.sl 2 (a.g i).pts.n (fun i1=>[.int .i64 (((a.g i).pts.g i1).x),.int .i64 (((a.g i).pts.g i1).y)])])),.p (.sl 4 b.n (fun i=>[.int .i64 ((b.g i).sheet),.int .i64 ((b.g i).kind),.int .i64 ((b.g i).want),.sl 2 (b.g i).pts.n (fun i1=>[.int .i64 (((b.g i).pts.g i1).x),.int .i64 (((b.g i).pts.g i1).y)])]))]) (AJ Tryz.prog Tryz.f16 (fM a b)):=
 @Eq.mpr _ (let I:=SV.int .i64;let T:=Af1;let A11:=(↑b.n:Int);let A10:=(0:Int);let A8:=(↑a.n:Int);let A14:=(!decide (A8=A11));(A14=true->false=Hb a b)/\(A14=false->(∃(g:Nat),A10=(↑g:Int)/\g<=a.n/\∀(j:Nat),j<g->Ha (a.g j) (b.g j)=true)/\∀(g:Nat),let A6:=(↑g:Int);let A1:=(T A6);let A9:=(!!decide ((a.g A1).sheet=(b.g A1).sheet));let A7:=(!bif !decide ((a.g A1).sheet=(b.g A1).sheet)then true else !decide ((a.g A1).kind=(b.g A1).kind));let A3:=(bif bif bif !decide ((a.g A1).sheet=(b.g A1).sheet)then true else !decide ((a.g A1).kind=(b.g A1).kind)then true else !decide ((a.g A1).want=(b.g A1).want)then true else !GZ (a.g A1).pts (b.g A1).pts);let A2:=(!bif bif !decide ((a.g A1).sheet=(b.g A1).sheet)then true else !decide ((a.g A1).kind=(b.g A1).kind)then true else !decide ((a.g A1).want=(b.g A1).want));(g<=a.n/\∀(j:Nat),j<g->Ha (a.g j) (b.g j)=true)->(decide (A6<A8)=true->(A10<=A6/\A6<A8)/\(A10<=A6/\A6<A11)/\(A9=true->A10<=A6/\A6<A8)/\(A9=true->A10<=A6/\A6<A11)/\(A7=true->A10<=A6/\A6<A8)/\(A7=true->A10<=A6/\A6<A11)/\(A2=true->A10<=A6/\A6<A8)/\(A2=true->A10<=A6/\A6<A11)/\(A2=true->(∀(i:Nat),let A12:=((a.g A1).pts.g i);i<(a.g A1).pts.n -> [I A12.x,I A12.y]= [I A12.x,I A12.y])/\(∀(i:Nat),let A13:=((b.g A1).pts.g i);i<(b.g A1).pts.n -> [I A13.x,I A13.y]= [I A13.x,I A13.y])/\(a.g A1).pts.n<=(1000000:Nat))/\(A3=true->false=Hb a b)/\(A3=false->Ad .i64 (A6+(1:Int))/\∃(g':Nat),A6+(1:Int)=(↑g':Int)/\(a.n=a.n/\∀(i:Nat),let A4:=[I (a.g i).sheet,I (a.g i).kind,I (a.g i).want,SV.sl (2:Nat) (a.g i).pts.n fun(i1:Nat)=>[I ((a.g i).pts.g i1).x,I ((a.g i).pts.g i1).y]];i<a.n->A4=A4)/\(b.n=b.n/\∀(i:Nat),let A5:=[I (b.g i).sheet,I (b.g i).kind,I (b.g i).want,SV.sl (2:Nat) (b.g i).pts.n fun(i1:Nat)=>[I ((b.g i).pts.g i1).x,I ((b.g i).pts.g i1).y]];i<b.n->A5=A5)/\(g'<=a.n/\∀(j:Nat),j<g'->Ha (a.g j) (b.g j)=true)/\a.n-g'<a.n-g))/\(decide (A6<A8)=false->true=Hb a b))) (by kernel_rfl) (by
 conv=>zeta
 obtain⟨hn,hq⟩:=(show a.n<=1000000/\∀i,i<a.n->(a.g i).pts.n<=1000000 from hp);have ce:∀d1 d2 d3 d4:Bool,(bif bif bif !d1 then true else !d2 then true else !d3 then true else !d4)= !(d1&&(d2&&(d3&&d4))):=by decide
 refine⟨fun h=>?_,fun h=>?_⟩
 ·unfold Hb;rw[h];rfl
 have e:Hb a b=CD a.n fun i=>Ha (a.g i) (b.g i):=by unfold Hb;rw[h];rfl
 have hab:(a.n:Int)=(b.n:Int):=of_decide_eq_true (Ca h);rw[e];refine⟨⟨0,rfl,Afg _,fun j hj=>absurd hj (Rc _)⟩,fun k hk=>⟨fun hc=>?_,fun hc=>?_⟩⟩
 ·have hc:(k:Int)<(a.n:Int):=of_decide_eq_true hc;have e0:((k:Int)).toNat=k:=Int.toNat_natCast k;have k1:Ad .i64 ((k:Int)+1):=jK;have g1:k+1<=a.n:=by omega
  have g2:a.n-(k+1)<a.n-k:=by omega
  have cn:(k:Int)+1=((k+1:Nat):Int):=by omega
  rw[e0];have ca:0<=(k:Int)/\(k:Int)<(a.n:Int):=by omega
  have cb:0<=(k:Int)/\(k:Int)<(b.n:Int):=by omega
  refine⟨ca,cb,fun _=>ca,fun _=>cb,fun _=>ca,fun _=>cb,fun _=>ca,fun _=>cb,fun _=>⟨fun _ _=>rfl,fun _ _=>rfl,hq k g1⟩,fun h1=>?_,fun h1=>⟨k1,k+1,?_⟩⟩<;>rw[ce]at h1
  ·have h1:Ha (a.g k) (b.g k)=false:=Cx h1;exact(FF (i:=k) (f:=fun i=>Ha (a.g i) (b.g i)) g1 h1).symm
  ·have h1:Ha (a.g k) (b.g k)=true:=Ca h1;have nx:∀j,j<k+1->Ha (a.g j) (b.g j)=true:=fun j hj=>by
    rcases Aft.1 hj with h|rfl
    ·exact hk.2 j h
    ·exact h1
   exact(by(try dsimp only);(repeat' with_reducible apply And.intro)<;>first|with_reducible rfl|with_reducible assumption|with_reducible exact fun _=>rfl|with_reducible exact fun _ _=>rfl|with_reducible exact trivial|exact rfl|(intro _;exact rfl)|(intro _ _;exact rfl)|exact cn|exact nx|exact g1|exact g2|exact trivial|(intro _ h_;exact absurd h_ (Rc _)))
 ·have hc:¬ (k:Int)<(a.n:Int):=of_decide_eq_false hc;exact(CQ.2 fun i hi=>hk.2 i (by omega)).symm)
theorem AdC:Av Tryz.prog 16 fO:=AM Tryz.func16 (c:=Ah Tryz.f16) (by kernel_rfl) mixed (fun args p r hs hp=>by
 unfold fN at hs;split at hs
 ·cases hs;exact⟨_,_,AdB _ _ hp.2.2,(.p (fC hp.1) (.p (fC hp.2.1) .nil)),⟨show Aa Tryz.prog _ from(Aa.cons Adz Ad0 Aa.nil),rfl,⟨show Ag Tryz.prog _ from Ag.nil,(Aw.none (fun _=>rfl))⟩⟩⟩
 ·cases hs)
theorem AdD:Ao Tryz.prog 16:=fun args w=>by kernel_rfl
end
end Go.Proofs.YtijidjjfkahojaaGreat
