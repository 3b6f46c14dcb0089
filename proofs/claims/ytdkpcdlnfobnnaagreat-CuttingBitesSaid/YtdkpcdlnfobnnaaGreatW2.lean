/- A symbolic walk over the model, and what it shows of functions of the program: parts of the proof that the text of the row joins. -/
import Derived.Test.YtdkpcdlnfobnnaaGreatW1
import Derived.Test.YtdkpcdlnfobnnaaGreatE5
import Derived.KernelRfl
open List renaming getD_eq_getElem?_getD->AS,getElem?_eq_getElem->rH,map->Ad9,pairwise_iff_getElem->Aed,nodup_iff_pairwise_ne->AeK
open Nat renaming not_lt_zero->oE,le_refl->Adp,zero_le->Ads,lt_succ_iff_lt_or_eq->Ad1,zero_add->AdE,lt_trichotomy->Aev,eq_zero_or_pos->Ae1,lt_succ_self->Ae3
open Bool renaming and_eq_true->pR,or_eq_false_iff->AdD,or_eq_true->AdN
open Int renaming toNat_natCast->Ad3,toNat->Ad6,tmod_eq_emod_of_nonneg->AdA,tmod->AdF,le_refl->AdQ,emod_eq_of_lt->AdV,add_emod_right->Aef,tmod_lt_of_pos->Aen,tmod_eq_of_lt->AeG
namespace Go.Proofs.YtdkpcdlnfobnnaaGreat
open Go.SE Go.RowKit
set_option maxRecDepth 100000
set_option maxHeartbeats 4000000
set_option linter.unusedVariables false
attribute [local irreducible] vc
def BN (n:Nat) (i:Int):Nat:=(AdF (AdF i (n:Int)+(n:Int)) (n:Int)).toNat
theorem W8 {m n:Int} (h0:0<=m) (h1:m<n):AdF (m+n) n=m:=by
 rw[AdA (by omega),Aef,AdV h0 h1]
theorem Nr {n k:Nat} (h:k<n):BN n (k:Int)=k:=by
 unfold BN;rw[AeG (show 0<=(k:Int)by omega) (show(k:Int)<n by omega),W8 (by omega) (by omega)];omega
theorem Ns {n k:Nat} (h:k<n):BN n ((k:Int)+1)=BE n k:=by
 unfold BN BE
 by_cases e:k+1<n
 ·rw[AeG (show 0<=(k:Int)+1 by omega) (show(k:Int)+1<n by omega),W8 (by omega) (by omega)]
 ·rw[show(k:Int)+1=(n:Int)by omega,Int.tmod_self,Int.zero_add,Int.tmod_self]
theorem sL {n k:Nat} (h:k<n):BN n ((k:Int)-1)=Eg n k:=by
 unfold BN Eg
 by_cases e:1<=k
 ·rw[AeG (show 0<=(k:Int)-1 by omega) (show(k:Int)-1<n by omega),show(k:Int)+(n:Int)-1=(k:Int)-1+n by omega]
 ·obtain rfl:k=0:=by omega
  by_cases e1:n=1
  ·subst e1;rfl
  ·rw[show((0:Nat):Int)-1 = -(1:Int)by omega,Int.neg_tmod,AeG (show 0<=(1:Int)by omega) (show(1:Int)<n by omega),show -(1:Int)+(n:Int)=((0:Nat):Int)+(n:Int)-1 by omega]
theorem PR {n:Nat} {i:Int} (h:0<n):0<=AdF i (n:Int)+(n:Int)/\AdF i (n:Int)+(n:Int)<=2*(n:Int)/\0<=AdF (AdF i (n:Int)+(n:Int)) (n:Int)/\AdF (AdF i (n:Int)+(n:Int)) (n:Int)<(n:Int):=by
 have h1:=Int.lt_tmod_of_pos i (show 0<(n:Int)by omega);have h2:=Aen i (show 0<(n:Int)by omega);exact⟨by omega,by omega,Int.tmod_nonneg _ (by omega),Aen _ (by omega)⟩
theorem sM {n:Nat} {i:Int} (h:0<n):BN n i<n:=by
 have:=PR (i:=i) h;unfold BN;omega
theorem sN {a b:L.Pt}:decide (BK a b<0)=(bif decide (a.x<b.x)then true else bif decide (a.x=b.x)then decide (a.y<b.y)else false):=by
 unfold BK Hx Bs;rcases Int.lt_trichotomy a.x b.x with h1|h1|h1<;>rcases Int.lt_trichotomy a.y b.y with h2|h2|h2<;>grind
theorem W9 {n:Nat} {a:Int} (h:0<n):((BN n a:Nat):Int)=a % (n:Int):=by
 obtain⟨q1,q2,q3,q4⟩:=PR (i:=a) h;unfold BN;rw[Int.toNat_of_nonneg q3,AdA q1,Aef];have:=Int.tmod_add_mul_tdiv a (n:Int)
 conv=>rhs;rw[<- this]
 rw[Int.add_mul_emod_self_left]
theorem Ii {l:L.Sq L.Pt} (hv:AA l=true):(∀i,i<l.n->B8 (l.g i)=true)/\∀i,i<l.n->Ax (l.g (Eg l.n i)) (l.g i) (l.g (BE l.n i))≠0:=by
 unfold AA at hv;rw[pR,pR]at hv;constructor
 ·have h:=hv.1;unfold Gi at h;cases h2:DH l with
  |true=>exact Dk.1 h2
  |false =>
    rw[h2]at h;revert h;cases AG (l.n:Int) 3 24<;>intro h<;>cases h
 ·intro i hi e;have h:=Dk.1 hv.2.1 i hi;unfold Er at h;rw[decide_eq_true e]at h;cases h
def WA (p:L.Pt):Prop:=True
def WB (p:L.Pt):SV:=.bool (B8 p)
def WC:List EV->Option (Prop×SV)
 |[.p (.agg [.int .i64 p_x,.int .i64 p_y])]=>some (WA (⟨p_x,p_y⟩:L.Pt),WB (⟨p_x,p_y⟩:L.Pt))
 |_=>none
abbrev WD:SE.Spec:=(AM WC)
def sO:Aj:={ muts:=[],frz:=BH [],specs:=AF [],loops:=AY [],iters:=B6 [],rfs:=AU [],nils:=BD [] }
theorem sP (p:L.Pt) (hp:WA p):vc Tryz.prog (sO) (Af Tryz.f45) (Ar Tryz.f45 [.p (.agg [.int .i64 p.x,.int .i64 p.y])]) (AL Tryz.prog Tryz.f45 (WB p)):=
 @Eq.mpr _ ((bif bif bif decide ((0:Int)<=p.x)then decide (p.x<=(4096:Int))else false then decide ((0:Int)<=p.y)else false then decide (p.y<=(4096:Int))else false)=B8 p) (by kernel_rfl) (by
 unfold B8 AG;rw[FE,FE,FE];cases decide (0<=p.x)<;>cases decide (p.x<=4096)<;>cases decide (0<=p.y)<;>cases decide (p.y<=4096)<;>rfl)
theorem sQ:AB Tryz.prog 45 WD:=AP Tryz.func45 (c:=Af Tryz.f45) (by kernel_rfl) mixed (fun args p r hs hp=>by
 unfold WC at hs;split at hs
 ·cases hs;exact⟨_,_,sP _ hp,(.same _ .nil),⟨show Aa Tryz.prog _ from Aa.nil,rfl,⟨show Ae Tryz.prog _ from Ae.nil,(AC.none (fun _=>rfl))⟩⟩⟩
 ·cases hs)
theorem sR:Ao Tryz.prog 45:=fun args w=>by kernel_rfl
def WE (l:(L.Sq L.Pt)):Prop:=l.n<=1000000
def WF (l:(L.Sq L.Pt)):SV:=.bool (DH l)
def WG:List EV->Option (Prop×SV)
 |[.p (.sl 2 l_n l_g)]=>some ((∀i,i<l_n->l_g i = [.int .i64 ((Ai (l_g i)).x),.int .i64 ((Ai (l_g i)).y)])/\WE (⟨l_n,fun i=>Ai (l_g i)⟩:(L.Sq L.Pt)),WF (⟨l_n,fun i=>Ai (l_g i)⟩:(L.Sq L.Pt)))
 |_=>none
abbrev WH:SE.Spec:=(AM WG)
def sS:Aj:={ cC with specs:=AF [(45,WD)] }
theorem sT (l:(L.Sq L.Pt)) (hp:WE l):vc Tryz.prog ({ sS with loops:=AY [(2,{ T:=Nat,keep:=[0],keepO:=[],chg:=fun i=>[(3,.p (.int .i64 (i:Int)))],own:=fun _=>[],inv:=fun i=>i<=l.n/\∀j,j<i->B8 (l.g j)=true,mu:=fun i=>l.n-i })],rfs:=AU [] }) (Af Tryz.f29) (Ar Tryz.f29 [.p (.sl 2 l.n (fun i=>[.int .i64 ((l.g i).x),.int .i64 ((l.g i).y)]))]) (AL Tryz.prog Tryz.f29 (WF l)):=
 @Eq.mpr _ (let A4:=(↑l.n:Int);(∃(g:Nat),(0:Int)=(↑g:Int)/\g<=l.n/\∀(j:Nat),j<g->B8 (l.g j)=true)/\∀(g:Nat),let A2:=(↑g:Int);let A3:=(!B8 (l.g (Ad6 A2)));(g<=l.n/\∀(j:Nat),j<g->B8 (l.g j)=true)->(decide (A2<A4)=true->((0:Int)<=A2/\A2<A4)/\True/\(A3=true->false=DH l)/\(A3=false->Ac .i64 (A2+(1:Int))/\∃(g':Nat),A2+(1:Int)=(↑g':Int)/\(l.n=l.n/\∀(i:Nat),let A1:=[SV.int .i64 (l.g i).x,SV.int .i64 (l.g i).y];i<l.n->A1=A1)/\(g'<=l.n/\∀(j:Nat),j<g'->B8 (l.g j)=true)/\l.n-g'<l.n-g))/\(decide (A2<A4)=false->true=DH l)) (by kernel_rfl) (by
 conv=>zeta
 have hn:l.n<=1000000:=hp;refine⟨⟨(0:Nat),rfl,Ads _,fun j hj=>absurd hj (oE _)⟩,fun g hg=>⟨fun hlt=>?_,fun hge=>?_⟩⟩
 ·have hb:(g:Int)<(l.n:Int):=of_decide_eq_true hlt;have e0:((g:Int)).toNat=g:=by omega
  rw[e0];refine⟨by omega,trivial,fun h1=>?_,fun h1=>?_⟩
  ·unfold DH;rw[Hw (i:=g) (by omega) (CV h1)]
  ·exact⟨jK, g+1, by omega, ⟨rfl, fun _ _ =>rfl⟩, ⟨by omega, fun j hj =>by
   rcases Ad1.1 hj with h'|rfl
   ·exact hg.2 j h'
   ·exact Cl h1⟩,by omega⟩
 ·have hb:¬ (g:Int)<(l.n:Int):=of_decide_eq_false hge;exact(Dk.2 (fun i hi=>hg.2 i (by omega))).symm)
theorem sU:AB Tryz.prog 29 WH:=AP Tryz.func29 (c:=Af Tryz.f29) (by kernel_rfl) mixed (fun args p r hs hp=>by
 unfold WG at hs;split at hs
 ·cases hs;exact⟨_,_,sT _ hp.2,(.p (.sl hp.1) .nil),⟨show Aa Tryz.prog _ from(Aa.cons sQ sR Aa.nil),rfl,⟨show Ae Tryz.prog _ from Ae.nil,(AC.none (fun _=>rfl))⟩⟩⟩
 ·cases hs)
theorem sV:Ao Tryz.prog 29:=fun args w=>by kernel_rfl
def WI (a:L.Pt) (b:L.Pt) (c:L.Pt):Prop:=Au a/\Au b/\Au c
def WJ (a:L.Pt) (b:L.Pt) (c:L.Pt):SV:=.int .i64 (Ax a b c)
def WK:List EV->Option (Prop×SV)
 |[.p (.agg [.int .i64 a_x,.int .i64 a_y]),.p (.agg [.int .i64 b_x,.int .i64 b_y]),.p (.agg [.int .i64 c_x,.int .i64 c_y])]=>some (WI (⟨a_x,a_y⟩:L.Pt) (⟨b_x,b_y⟩:L.Pt) (⟨c_x,c_y⟩:L.Pt),WJ (⟨a_x,a_y⟩:L.Pt) (⟨b_x,b_y⟩:L.Pt) (⟨c_x,c_y⟩:L.Pt))
 |_=>none
abbrev Kd:SE.Spec:=(AM WK)
def sW:Aj:={ muts:=[],frz:=BH [],specs:=AF [],loops:=AY [],iters:=B6 [],rfs:=AU [],nils:=BD [] }
theorem sX (a:L.Pt) (b:L.Pt) (c:L.Pt) (hp:WI a b c):vc Tryz.prog (sW) (Af Tryz.f12) (Ar Tryz.f12 [.p (.agg [.int .i64 a.x,.int .i64 a.y]),.p (.agg [.int .i64 b.x,.int .i64 b.y]),.p (.agg [.int .i64 c.x,.int .i64 c.y])]) (AL Tryz.prog Tryz.f12 (WJ a b c)):=
 @Eq.mpr _ (let A4:=(c.x-a.x);let A3:=(b.y-a.y);let A2:=(c.y-a.y);let A1:=(b.x-a.x);Ac .i64 A1/\Ac .i64 A2/\Ac .i64 (A1*A2)/\Ac .i64 A3/\Ac .i64 A4/\Ac .i64 (A3*A4)/\Ac .i64 (A1*A2-A3*A4)/\A1*A2-A3*A4=Ax a b c) (by kernel_rfl) (by
 conv=>zeta
 obtain⟨h1,h2,h3⟩:=hp;unfold Au at h1 h2 h3;have m1:=D4 (a:=b.x-a.x) (b:=c.y-a.y) (m:=8000000) (n:=8000000) (by omega) (by omega) (by omega) (by omega);have m2:=D4 (a:=b.y-a.y) (b:=c.x-a.x) (m:=8000000) (n:=8000000) (by omega) (by omega) (by omega) (by omega);exact⟨jK,jK,jK,jK,jK,jK,jK,rfl⟩)
theorem L8:AB Tryz.prog 12 Kd:=AP Tryz.func12 (c:=Af Tryz.f12) (by kernel_rfl) mixed (fun args p r hs hp=>by
 unfold WK at hs;split at hs
 ·cases hs;exact⟨_,_,sX _ _ _ hp,(.same _ (.same _ (.same _ .nil))),⟨show Aa Tryz.prog _ from Aa.nil,rfl,⟨show Ae Tryz.prog _ from Ae.nil,(AC.none (fun _=>rfl))⟩⟩⟩
 ·cases hs)
theorem L9:Ao Tryz.prog 12:=fun args w=>by kernel_rfl
def WL (a:L.Pt) (b:L.Pt):Prop:=Au a/\Au b
def WM (a:L.Pt) (b:L.Pt):SV:=.int .i64 (D5 a b)
def WN:List EV->Option (Prop×SV)
 |[.p (.agg [.int .i64 a_x,.int .i64 a_y]),.p (.agg [.int .i64 b_x,.int .i64 b_y])]=>some (WL (⟨a_x,a_y⟩:L.Pt) (⟨b_x,b_y⟩:L.Pt),WM (⟨a_x,a_y⟩:L.Pt) (⟨b_x,b_y⟩:L.Pt))
 |_=>none
abbrev WO:SE.Spec:=(AM WN)
def sY:Aj:={ muts:=[],frz:=BH [],specs:=AF [],loops:=AY [],iters:=B6 [],rfs:=AU [],nils:=BD [] }
theorem sZ (a:L.Pt) (b:L.Pt) (hp:WL a b):vc Tryz.prog (sY) (Af Tryz.f72) (Ar Tryz.f72 [.p (.agg [.int .i64 a.x,.int .i64 a.y]),.p (.agg [.int .i64 b.x,.int .i64 b.y])]) (AL Tryz.prog Tryz.f72 (WM a b)):=
 @Eq.mpr _ (let A2:=(a.y-b.y);let A1:=(a.x-b.x);Ac .i64 A1/\Ac .i64 A1/\Ac .i64 (A1*A1)/\Ac .i64 A2/\Ac .i64 A2/\Ac .i64 (A2*A2)/\Ac .i64 (A1*A1+A2*A2)/\A1*A1+A2*A2=D5 a b) (by kernel_rfl) (by
 conv=>zeta
 obtain⟨h1,h2⟩:=hp;unfold Au at h1 h2;have m1:=D4 (a:=a.x-b.x) (b:=a.x-b.x) (m:=8000000) (n:=8000000) (by omega) (by omega) (by omega) (by omega);have m2:=D4 (a:=a.y-b.y) (b:=a.y-b.y) (m:=8000000) (n:=8000000) (by omega) (by omega) (by omega) (by omega);refine⟨jK,jK,jK,jK,jK,jK,jK,?_⟩;unfold D5;rw[show a.x-b.x = -(b.x-a.x)by omega,show a.y-b.y = -(b.y-a.y)by omega,Int.neg_mul_neg,Int.neg_mul_neg])
theorem tB:AB Tryz.prog 72 WO:=AP Tryz.func72 (c:=Af Tryz.f72) (by kernel_rfl) mixed (fun args p r hs hp=>by
 unfold WN at hs;split at hs
 ·cases hs;exact⟨_,_,sZ _ _ hp,(.same _ (.same _ .nil)),⟨show Aa Tryz.prog _ from Aa.nil,rfl,⟨show Ae Tryz.prog _ from Ae.nil,(AC.none (fun _=>rfl))⟩⟩⟩
 ·cases hs)
theorem tC:Ao Tryz.prog 72:=fun args w=>by kernel_rfl
def WP (a:L.Pt) (b:L.Pt):Prop:=True
def WQ (a:L.Pt) (b:L.Pt):SV:=.bool (decide (BK a b<0))
def WR:List EV->Option (Prop×SV)
 |[.p (.agg [.int .i64 a_x,.int .i64 a_y]),.p (.agg [.int .i64 b_x,.int .i64 b_y])]=>some (WP (⟨a_x,a_y⟩:L.Pt) (⟨b_x,b_y⟩:L.Pt),WQ (⟨a_x,a_y⟩:L.Pt) (⟨b_x,b_y⟩:L.Pt))
 |_=>none
abbrev PS:SE.Spec:=(AM WR)
def tD:Aj:={ muts:=[],frz:=BH [],specs:=AF [],loops:=AY [],iters:=B6 [],rfs:=AU [],nils:=BD [] }
theorem tE (a:L.Pt) (b:L.Pt) (hp:WP a b):vc Tryz.prog (tD) (Af Tryz.f32) (Ar Tryz.f32 [.p (.agg [.int .i64 a.x,.int .i64 a.y]),.p (.agg [.int .i64 b.x,.int .i64 b.y])]) (AL Tryz.prog Tryz.f32 (WQ a b)):=
 @Eq.mpr _ ((bif decide (a.x<b.x)then true else bif decide (a.x=b.x)then decide (a.y<b.y)else false)=decide (BK a b<(0:Int))) (by kernel_rfl) (by
 exact sN.symm)
theorem WS:AB Tryz.prog 32 PS:=AP Tryz.func32 (c:=Af Tryz.f32) (by kernel_rfl) mixed (fun args p r hs hp=>by
 unfold WR at hs;split at hs
 ·cases hs;exact⟨_,_,tE _ _ hp,(.same _ (.same _ .nil)),⟨show Aa Tryz.prog _ from Aa.nil,rfl,⟨show Ae Tryz.prog _ from Ae.nil,(AC.none (fun _=>rfl))⟩⟩⟩
 ·cases hs)
theorem WT:Ao Tryz.prog 32:=fun args w=>by kernel_rfl
def WU (a:L.Pt) (b:L.Pt) (p:L.Pt):Prop:=Au a/\Au b/\Au p
def WV (a:L.Pt) (b:L.Pt) (p:L.Pt):SV:=.bool (C1 a b p)
def WW:List EV->Option (Prop×SV)
 |[.p (.agg [.int .i64 a_x,.int .i64 a_y]),.p (.agg [.int .i64 b_x,.int .i64 b_y]),.p (.agg [.int .i64 p_x,.int .i64 p_y])]=>some (WU (⟨a_x,a_y⟩:L.Pt) (⟨b_x,b_y⟩:L.Pt) (⟨p_x,p_y⟩:L.Pt),WV (⟨a_x,a_y⟩:L.Pt) (⟨b_x,b_y⟩:L.Pt) (⟨p_x,p_y⟩:L.Pt))
 |_=>none
abbrev WX:SE.Spec:=(AM WW)
def tF:Aj:={ cC with specs:=AF [(12,Kd)] }
theorem tG (a:L.Pt) (b:L.Pt) (p:L.Pt) (hp:WU a b p):vc Tryz.prog (tF) (Af Tryz.f118) (Ar Tryz.f118 [.p (.agg [.int .i64 a.x,.int .i64 a.y]),.p (.agg [.int .i64 b.x,.int .i64 b.y]),.p (.agg [.int .i64 p.x,.int .i64 p.y])]) (AL Tryz.prog Tryz.f118 (WV a b p)):=
 @Eq.mpr _ ((Au a/\Au b/\Au p)/\(bif bif bif bif decide (Ax a b p=(0:Int))then decide (Min.min a.x b.x<=p.x)else false then decide (p.x<=Max.max a.x b.x)else false then decide (Min.min a.y b.y<=p.y)else false then decide (p.y<=Max.max a.y b.y)else false)=C1 a b p) (by kernel_rfl) (by
 obtain⟨h1,h2,h3⟩:=hp;refine⟨⟨h1,h2,h3⟩,?_⟩;unfold C1 AG;rw[FE,FE,FE,FE];cases decide (Ax a b p=0)<;>cases decide (min a.x b.x<=p.x)<;>cases decide (p.x<=max a.x b.x)<;>cases decide (min a.y b.y<=p.y)<;>cases decide (p.y<=max a.y b.y)<;>rfl)
theorem tH:AB Tryz.prog 118 WX:=AP Tryz.func118 (c:=Af Tryz.f118) (by kernel_rfl) mixed (fun args p r hs hp=>by
 unfold WW at hs;split at hs
 ·cases hs;exact⟨_,_,tG _ _ _ hp,(.same _ (.same _ (.same _ .nil))),⟨show Aa Tryz.prog _ from(Aa.cons L8 L9 Aa.nil),rfl,⟨show Ae Tryz.prog _ from Ae.nil,(AC.none (fun _=>rfl))⟩⟩⟩
 ·cases hs)
theorem tI:Ao Tryz.prog 118:=fun args w=>by kernel_rfl
def WY (n:Int):Prop:=True
def WZ (n:Int):SV:=.int .i64 (Bs n 0)
def Xa:List EV->Option (Prop×SV)
 |[.p (.int .i64 n)]=>some (WY n,WZ n)
 |_=>none
abbrev Xb:SE.Spec:=(AM Xa)
def tJ:Aj:={ muts:=[],frz:=BH [],specs:=AF [],loops:=AY [],iters:=B6 [],rfs:=AU [],nils:=BD [] }
theorem tK (n:Int) (hp:WY n):vc Tryz.prog (tJ) (Af Tryz.f119) (Ar Tryz.f119 [.p (.int .i64 n)]) (AL Tryz.prog Tryz.f119 (WZ n)):=
 @Eq.mpr _ ((decide ((0:Int)<n)=true->(1:Int)=Bs n (0:Int))/\(decide ((0:Int)<n)=false->(decide (n<(0:Int))=true->(-1:Int)=Bs n (0:Int))/\(decide (n<(0:Int))=false->(0:Int)=Bs n (0:Int)))) (by kernel_rfl) (by
 refine⟨fun h=>?_,fun h=>⟨fun h1=>?_,fun h1=>?_⟩⟩
 ·have h:=of_decide_eq_true h;unfold Bs;rw[decide_eq_false (by omega),decide_eq_true h];rfl
 ·have h1:=of_decide_eq_true h1;unfold Bs;rw[decide_eq_true h1];rfl
 ·unfold Bs;rw[h1,h];rfl)
theorem tL:AB Tryz.prog 119 Xb:=AP Tryz.func119 (c:=Af Tryz.f119) (by kernel_rfl) mixed (fun args p r hs hp=>by
 unfold Xa at hs;split at hs
 ·cases hs;exact⟨_,_,tK _ hp,(.same _ .nil),⟨show Aa Tryz.prog _ from Aa.nil,rfl,⟨show Ae Tryz.prog _ from Ae.nil,(AC.none (fun _=>rfl))⟩⟩⟩
 ·cases hs)
theorem tM:Ao Tryz.prog 119:=fun args w=>by kernel_rfl
def Xc (l:(L.Sq L.Pt)) (i:Int):Prop:=1<=l.n/\l.n<=1000000 /\ -1000000<=i/\i<=1000000
def Xd (l:(L.Sq L.Pt)) (i:Int):SV:=(.agg [.int .i64 ((l.g (BN l.n i)).x),.int .i64 ((l.g (BN l.n i)).y)])
def Xe:List EV->Option (Prop×SV)
 |[.p (.sl 2 l_n l_g),.p (.int .i64 i)]=>some ((∀i,i<l_n->l_g i = [.int .i64 ((Ai (l_g i)).x),.int .i64 ((Ai (l_g i)).y)])/\Xc (⟨l_n,fun i=>Ai (l_g i)⟩:(L.Sq L.Pt)) i,Xd (⟨l_n,fun i=>Ai (l_g i)⟩:(L.Sq L.Pt)) i)
 |_=>none
abbrev Ke:SE.Spec:=(AM Xe)
def tN:Aj:={ muts:=[],frz:=BH [],specs:=AF [],loops:=AY [],iters:=B6 [],rfs:=AU [],nils:=BD [] }
theorem tO (l:(L.Sq L.Pt)) (i:Int) (hp:Xc l i):vc Tryz.prog (tN) (Af Tryz.f33) (Ar Tryz.f33 [.p (.sl 2 l.n (fun i=>[.int .i64 ((l.g i).x),.int .i64 ((l.g i).y)])),.p (.int .i64 i)]) (AL Tryz.prog Tryz.f33 (Xd l i)):=
 @Eq.mpr _ (let M:=AdF;let A1:=(↑l.n:Int);let A2:=(M i A1+A1);let A3:=(l.g (Ad6 (M A2 A1)));A1≠(0:Int)/\Ac .i64 A2/\A1≠(0:Int)/\((0:Int)<=M A2 A1/\M A2 A1<A1)/\SV.agg [SV.int .i64 A3.x,SV.int .i64 A3.y]=SV.agg [SV.int .i64 (l.g (BN l.n i)).x,SV.int .i64 (l.g (BN l.n i)).y]) (by kernel_rfl) (by
 conv=>zeta
 obtain⟨h1,h2,h3,h4⟩:=hp;obtain⟨q1,q2,q3,q4⟩:=PR (n:=l.n) (i:=i) (by omega);exact⟨by omega,jK,by omega,⟨q3,q4⟩,rfl⟩)
theorem LA:AB Tryz.prog 33 Ke:=AP Tryz.func33 (c:=Af Tryz.f33) (by kernel_rfl) mixed (fun args p r hs hp=>by
 unfold Xe at hs;split at hs
 ·cases hs;exact⟨_,_,tO _ _ hp.2,(.p (.sl hp.1) (.same _ .nil)),⟨show Aa Tryz.prog _ from Aa.nil,rfl,⟨show Ae Tryz.prog _ from Ae.nil,(AC.none (fun _=>rfl))⟩⟩⟩
 ·cases hs)
theorem LB:Ao Tryz.prog 33:=fun args w=>by kernel_rfl
def Xf (l:(L.Sq L.Pt)):Prop:=Ep l
def Xg (l:(L.Sq L.Pt)):SV:=.int .i64 (B7 l l.n)
def Xh:List EV->Option (Prop×SV)
 |[.p (.sl 2 l_n l_g)]=>some ((∀i,i<l_n->l_g i = [.int .i64 ((Ai (l_g i)).x),.int .i64 ((Ai (l_g i)).y)])/\Xf (⟨l_n,fun i=>Ai (l_g i)⟩:(L.Sq L.Pt)),Xg (⟨l_n,fun i=>Ai (l_g i)⟩:(L.Sq L.Pt)))
 |_=>none
abbrev PT:SE.Spec:=(AM Xh)
def tP:Aj:={ cC with specs:=AF [(33,Ke)] }
theorem tQ (l:(L.Sq L.Pt)) (hp:Xf l):vc Tryz.prog ({ tP with loops:=AY [(3,{ T:=Nat,keep:=[0],keepO:=[],chg:=fun i=>[(3,.p (.int .i64 (B7 l i))),(4,.p (.int .i64 (i:Int)))],own:=fun _=>[],inv:=fun i=>i<=l.n,mu:=fun i=>l.n-i })],rfs:=AU [] }) (Af Tryz.f31) (Ar Tryz.f31 [.p (.sl 2 l.n (fun i=>[.int .i64 ((l.g i).x),.int .i64 ((l.g i).y)]))]) (AL Tryz.prog Tryz.f31 (Xg l)):=
 @Eq.mpr _ (let I:=SV.int .i64;let A6:=(1:Int);let A4:=(∀(i:Nat),let A7:=[I (l.g i).x,I (l.g i).y];i<l.n->A7=A7);(∃(g:Nat),(0:Int)=B7 l g/\(0:Int)=(↑g:Int)/\g<=l.n)/\∀(g:Nat),let A3:=(↑g:Int);let A5:=(l.g (BN l.n A3));let A2:=(l.g (BN l.n (A3+A6)));let A1:=(A5.x*A2.y-A2.x*A5.y);g<=l.n->(decide (A3<(↑l.n
:Int))=true->(A4/\(1:Nat)<=l.n/\l.n<=(1000000:Nat)/\(-1000000:Int)<=A3/\A3<=(1000000:Int))/\Ac .i64 (A3+A6)/\(A4/\(1:Nat)<=l.n/\l.n<=(1000000:Nat)/\(-1000000:Int)<=A3+A6/\A3+A6<=(1000000:Int))/\Ac .i64 (A5.x*A2.y)/\Ac .i64 (A2.x*A5.y)/\Ac .i64 A1/\Ac .i64
 (B7 l g+A1)/\Ac .i64 (A3+A6)/\∃(g':Nat),B7 l g+A1=B7 l g'/\A3+A6=(↑g':Int)/\(l.n=l.n/\∀(i:Nat),let A8:=[I (l.g i).x,I (l.g i).y];i<l.n->A8=A8)/\g'<=l.n/\l.n-g'<l.n-g)/\(decide (A3<(↑l.n:Int))=false->B7 l g=B7 l l.n)) (by kernel_rfl) (by
  conv=>zeta
  have hs:Ep l:=hp;have hn:=hs.1;refine⟨⟨(0:Nat),rfl,rfl,Ads _⟩,fun g hg=>⟨fun hlt=>?_,fun hge=>?_⟩⟩
  ·have hb:(g:Int)<(l.n:Int):=of_decide_eq_true hlt;have hk:g<l.n:=by omega
   rw[Nr hk,Ns hk];have b1:=Ps hs hk;have b2:=Nc hs g hg;exact⟨⟨fun _ _=>rfl,by omega,by omega,by omega,by omega⟩,jK,⟨fun _ _=>rfl,by omega,by omega,by omega,by omega⟩,jK,jK,jK,jK,jK,g+1,rfl,by omega,⟨rfl,fun _ _=>rfl⟩,by omega,by omega⟩
  ·have hb:¬ (g:Int)<(l.n:Int):=of_decide_eq_false hge;obtain rfl:g=l.n:=by omega
   rfl)
theorem Xi:AB Tryz.prog 31 PT:=AP Tryz.func31 (c:=Af Tryz.f31) (by kernel_rfl) mixed (fun args p r hs hp=>by
 unfold Xh at hs;split at hs
 ·cases hs;exact⟨_,_,tQ _ hp.2,(.p (.sl hp.1) .nil),⟨show Aa Tryz.prog _ from(Aa.cons LA LB Aa.nil),rfl,⟨show Ae Tryz.prog _ from Ae.nil,(AC.none (fun _=>rfl))⟩⟩⟩
 ·cases hs)
theorem Xj:Ao Tryz.prog 31:=fun args w=>by kernel_rfl
def Dh (a b c d:L.Pt) (i:Nat):L.Pt:=bif decide (i=0)then a else bif decide (i=1)then b else bif decide (i=2)then c else d
def Eu (a b c d p:L.Pt):Bool:=C1 a b p&&C1 c d p
def BL (a b c d:L.Pt):Nat->L.Sq L.Pt
 |0=>P6
 |n+1=>Gh (Eu a b c d (Dh a b c d n)) (BL a b c d n) (Dh a b c d n)
theorem PU {a b:L.Pt}:C1 a b a=true:=by
 unfold C1;rw[pR,pR,Hz,Hz];refine⟨⟨decide_eq_true ?_,by omega⟩,by omega⟩;unfold Ax;simp
theorem Xk {a b:L.Pt}:C1 a b b=true:=by
 unfold C1;rw[pR,pR,Hz,Hz];refine⟨⟨decide_eq_true ?_,by omega⟩,by omega⟩;unfold Ax;rw[Int.mul_comm];omega
theorem tR {a b c d:L.Pt}:BL a b c d 4=CN a b c d 2:=by
 have h1:Eu a b c d a=C1 c d a:=by unfold Eu;rw[PU];rfl
 have h2:Eu a b c d b=C1 c d b:=by unfold Eu;rw[Xk];rfl
 have h3:Eu a b c d c=C1 a b c:=by unfold Eu;rw[PU (a:=c),Bool.and_true]
 have h4:Eu a b c d d=C1 a b d:=by unfold Eu;rw[Xk (a:=c),Bool.and_true]
 show Gh (Eu a b c d d) (Gh (Eu a b c d c) (Gh (Eu a b c d b) (Gh (Eu a b c d a) P6 a) b) c) d=_;rw[h1,h2,h3,h4];rfl
theorem tS (p q:L.Pt):Bt p q=Bt q p:=by
 unfold Bt;rw[show decide (p.x=q.x)=decide (q.x=p.x)from by by_cases h:p.x=q.x<;>simp[h,eq_comm],show decide (p.y=q.y)=decide (q.y=p.y)from by by_cases h:p.y=q.y<;>simp[h,eq_comm]]
theorem tT {ks:L.Sq L.Pt} {p:L.Pt}:(Fs ks p).n<=ks.n+1:=by
 unfold Fs;cases IX ks p
 ·exact Adp _
 ·exact Nat.le_succ _
theorem Xl {a b c d:L.Pt}:∀{i:Nat},(BL a b c d i).n<=i
 |0=>Adp _
 |i+1=>by
   have ih:=Xl (a:=a) (b:=b) (c:=c) (d:=d) (i:=i);rw[BL];cases Eu a b c d (Dh a b c d i)
   ·exact Nat.le_trans ih (Nat.le_succ _)
   ·exact Nat.le_trans tT (Nat.succ_le_succ ih)
theorem tU {l:L.Sq L.Pt} {k:Nat}:(bif bif decide (0<(k:Int))then !decide (BK (l.g 0) (l.g k)<0)else false then true else decide (Ax (l.g (Eg l.n k)) (l.g k) (l.g (BE l.n k))=0))= !Er l k:=by
 unfold Er;have:decide (0<=BK (l.g 0) (l.g k))= !decide (BK (l.g 0) (l.g k)<0):=by
  by_cases h:BK (l.g 0) (l.g k)<0
  ·rw[decide_eq_true h,decide_eq_false (by omega)];rfl
  ·rw[decide_eq_false h,decide_eq_true (by omega)];rfl
 rw[this,Bool.not_not];cases decide (0<(k:Int))<;>cases decide (BK (l.g 0) (l.g k)<0)<;>cases decide (Ax (l.g (Eg l.n k)) (l.g k) (l.g (BE l.n k))=0)<;>rfl
def Xm (a:L.Pt) (b:L.Pt) (c:L.Pt) (d:L.Pt):Prop:=Au a/\Au b/\Au c/\Au d
def Xn (a:L.Pt) (b:L.Pt) (c:L.Pt) (d:L.Pt):SV:=.int .i64 (C7 a b c d)
def Xo:List EV->Option (Prop×SV)
 |[.p (.agg [.int .i64 a_x,.int .i64 a_y]),.p (.agg [.int .i64 b_x,.int .i64 b_y]),.p (.agg [.int .i64 c_x,.int .i64 c_y]),.p (.agg [.int .i64 d_x,.int .i64 d_y])]=>some (Xm (⟨a_x,a_y⟩:L.Pt) (⟨b_x,b_y⟩:L.Pt) (⟨c_x,c_y⟩:L.Pt) (⟨d_x,d_y⟩:L.Pt),Xn (⟨a_x,a_y⟩:L.Pt) (⟨b_x,b_y⟩:L.Pt) (⟨c_x,c_y⟩:L.Pt) (⟨d_x,d_y⟩:L.Pt))
 |_=>none
abbrev Xp:SE.Spec:=(AM Xo)
def tV:Aj:={ cC with specs:=AF [(118,WX),(12,Kd),(119,Xb)],nils:=BD [(2,[(9,20,39,2)])] }
theorem tW (a:L.Pt) (b:L.Pt) (c:L.Pt) (d:L.Pt) (hp:Xm a b c d):vc Tryz.prog ({ tV with loops:=AY [(4,{ T:=Nat,keep:=[4,5,6,7,9],keepO:=[],chg:=fun i=>[(10,.p (.sl 2 4 (fun j=>[.int .i64 ((Dh a b c d j).x),.int .i64 ((Dh a b c d j).y)]))),(11,.p (.int .i64 (i:Int)))],own:=fun i=>[(20,.row 39 2 (BL a b c d i).n (fun j=>[.int .i64 (((BL a b c d i).g j).x),.int .i64 (((BL a b c d i).g j).y)]))],inv:=fun i=>i<=4,mu:=fun i=>4-i }),(9,{ T:=Nat×Nat,keep:=[4,5,6,7,9,10,11],keepO:=[],tie:=fun g=>[(11,.int .i64 (g.1:Int))],chg:=fun g=>[(12,.p (.bool (BV g.2 (fun j=>Bt ((BL a b c d g.1).g j) (Dh a b c d g.1))))),(13,.p (.int .i64 (g.2:Int)))],own:=fun g=>[(20,.row 39 2 (BL a b c d g.1).n (fun j=>[.int .i64 (((BL a b c d g.1).g j).x),.int .i64 (((BL a b c d g.1).g j).y)]))],inv:=fun g=>g.1<4/\g.2<=(BL a b c d g.1).n,mu:=fun g=>(BL a b c d g.1).n-g.2 })],rfs:=AU [] }) (Af Tryz.f70) (Ar Tryz.f70 [.p (.agg [.int .i64 a.x,.int .i64 a.y]),.p (.agg [.int .i64 b.x,.int .i64 b.y]),.p (.agg [.int .i64 c.x,.int .i64 c.y]),.p (.agg [.int .i64 d.x,.int .i64 d.y])]) (AL Tryz.prog Tryz.f70 (Xn a b c d)):=
 @Eq.mpr _ (let I:=SV.int .i64;let T:=Ad6;let A22:=(↑(nat_lit 4):Int);let A21:=(Ax a b d);let A20:=(Ax a b c);let A18:=(1:Int);let A17:=[I a.x,I a.y];let A16:=[I b.x,I b.y];let A15:=[I c.x,I c.y];let A14:=[I d.x,I d.y];let A11:=(4:Nat);let A6:=(0:Int);let A10:=(decide (Bs A20 A6*Bs A21 A6<A6)=true->True);let A7:=(bif decide (Bs A20 A6*Bs A21 A6<A6)then decide (Bs (Ax c d a) A6*Bs (Ax c d b) A6<A6)else false);let A5:=(nat_lit 0);let A3:=(nat_lit 4=A11/\∀(i:Nat),let A23:=(Dh a b c d i);i<nat_lit 4 -> [I A23.x,I A23.y]= [I A23.x,I A23.y]);(∃(g:Nat),let A30:=(BL a b c d g);(nat_lit 4=A11/\∀(i:Nat),i<nat_lit 4->Bb [I a.x,I a.y,I b.x,I b.y,I c.x,I c.y,I d.x,I d.y] (nat_lit 2) i = [I (Dh a b c d i).x,I (Dh a b c d i).y])/\A6=(↑g:Int)/\(nat_lit 0=A30.n/\∀(i:Nat),i<nat_lit 0 -> []= [I (A30.g i).x,I (A30.g i).y])/\g<=A11)/\∀(g:Nat),let A9:=(BL a b c d g);let A26:=(↑A9.n:Int);let A8:=(↑g:Int);let A2:=(Dh a b c d (T A8));let A24:=(bif !C1 a b A2 then true else !C1 c d A2);g<=A11->(decide (A8<(4:Int))=true->(A6<=A8/\A8<A22)/\(Au a/\Au b/\Au A2)/\((!!C1 a b A2)=true->A6<=A8/\A8<A22)/\((!!C1 a b A2)=true->Au c/\Au d/\Au A2)/\(A24=true->Ac .i64 (A8+A18)/\∃(g':Nat),let A27:=(BL a b c d g');A3/\A8+A18=(↑g':Int)/\SV.ref A14 A5=SV.ref A14 A5/\SV.ref A15 A5=SV.ref A15 A5/\SV.ref A16 A5=SV.ref A16 A5/\SV.ref A17 A5=SV.ref A17 A5/\(A9.n=A27.n/\∀(i:Nat),i<A9.n -> [I (A9.g i).x,I (A9.g i).y]= [I (A27.g i).x,I (A27.g i).y])/\g'<=A11/\A11-g'<A11-g)/\(A24=false->(∃(g_1:Nat×Nat),let A19:=(BL a b c d g_1.1);(false=BV g_1.2 fun(j:Nat)=>Bt (A19.g j) (Dh a b c d g_1.1))/\A6=(↑g_1.2:Int)/\(A9.n=A19.n/\∀(i:Nat),i<A9.n -> [I (A9.g i).x,I (A9.g i).y]= [I (A19.g i).x,I (A19.g i).y])/\A8=(↑g_1.1:Int)/\g_1.1<A11/\g_1.2<=A19.n)/\∀(g_1:Nat×Nat),let A31:=(Dh a b c d g_1.1);let A12:=(↑g_1.2:Int);let A1:=(BL a b c d g_1.1);let A32:=(↑A1.n:Int);let A4:=(!BV g_1.2 fun(j:Nat)=>Bt (A1.g j) A31);A8=(↑g_1.1:Int)/\g_1.1<A11/\g_1.2<=A1.n->(decide (A12<A32)=true->(A4=true->A6<=A12/\A12<A32)/\(A4=true->T A12<A1.n)/\(A4=true->A6<=A8/\A8<A22)/\Ac .i64 (A12+A18)/\∃(g':Nat×Nat),let A13:=(BL a b c d g'.1);((bif BV g_1.2 fun(j:Nat)=>Bt (A1.g j) A31 then true else decide ((A1.g (T A12)).x=A2.x)&&decide ((A1.g (T A12)).y=A2.y))=BV g'.2 fun(j:Nat)=>Bt (A13.g j) (Dh a b c d g'.1))/\A12+A18=(↑g'.2:Int)/\(nat_lit 4=nat_lit 4/\∀(i:Nat),let A25:=(Dh a b c d i);i<nat_lit 4 -> [I A25.x,I A25.y]= [I A25.x,I A25.y])/\A8=A8/\SV.ref A14 A5=SV.ref A14 A5/\SV.ref A15 A5=SV.ref A15 A5/\SV.ref A16 A5=SV.ref A16 A5/\SV.ref A17 A5=SV.ref A17 A5/\(A1.n=A13.n/\∀(i:Nat),i<A1.n -> [I (A1.g i).x,I (A1.g i).y]= [I (A13.g i).x,I (A13.g i).y])/\(A8=(↑g'.1:Int)/\g'.1<A11/\g'.2<=A13.n)/\A13.n-g'.2<A1.n-g_1.2)/\(decide (A12<A32)=false->(A4=true->(A6<=A8/\A8<A22)/\(A1.n+nat_lit 1)*nat_lit 16<=(140737488355328:Nat)/\Ac .i64 (A8+A18)/\∃(g':Nat),let A28:=(BL a b c d g');A3/\A8+A18=(↑g':Int)/\SV.ref A14 A5=SV.ref A14 A5/\SV.ref A15 A5=SV.ref A15 A5/\SV.ref A16 A5=SV.ref A16 A5/\SV.ref A17 A5=SV.ref A17 A5/\(A1.n+nat_lit 1=A28.n/\∀(i:Nat),i<A1.n+nat_lit 1->Ba A1.n (fun(j:Nat)=>[I (A1.g j).x,I (A1.g j).y]) (fun(x:Nat)=>[I A2.x,I A2.y]) i = [I (A28.g i).x,I (A28.g i).y])/\g'<=A11/\A11-g'<A11-g)/\(A4=false->Ac .i64 (A8+A18)/\∃(g':Nat),let A29:=(BL a b c d g');A3/\A8+A18=(↑g':Int)/\SV.ref A14 A5=SV.ref A14 A5/\SV.ref A15 A5=SV.ref A15 A5/\SV.ref A16 A5=SV.ref A16 A5/\SV.ref A17 A5=SV.ref A17 A5/\(A1.n=A29.n/\∀(i:Nat),i<A1.n -> [I (A1.g i).x,I (A1.g i).y]= [I (A29.g i).x,I (A29.g i).y])/\g'<=A11/\A11-g'<A11-g))))/\(decide (A8<(4:Int))=false->(decide (A18<A26)=true->(3:Int)=C7 a b c d)/\(decide (A18<A26)=false->(decide (A26=A18)=true->A18=C7 a b c d)/\(decide (A26=A18)=false->(Au a/\Au b/\Au c)/\True/\(Au a/\Au b/\Au d)/\True/\Ac .i64 (Bs A20 A6*Bs A21 A6)/\(decide (Bs A20 A6*Bs A21 A6<A6)=true->Au c/\Au d/\Au a)/\A10/\(decide (Bs A20 A6*Bs A21 A6<A6)=true->Au c/\Au d/\Au b)/\A10/\(decide (Bs A20 A6*Bs A21 A6<A6)=true->Ac .i64 (Bs (Ax c d a) A6*Bs (Ax c d b) A6))/\(A7=true->(2:Int)=C7 a b c d)/\(A7=false->A6=C7 a b c d))))) (by kernel_rfl) (by
 conv=>zeta
 obtain⟨ha,hb,hc,hd⟩:=hp;have hp4:∀i,Au (Dh a b c d i):=fun i=>by
  unfold Dh;cases decide (i=0)<;>cases decide (i=1)<;>cases decide (i=2)<;>assumption
 refine⟨⟨(0:Nat),⟨rfl,fun i hi=>by match i,hi with|0,_=>rfl|1,_=>rfl|2,_=>rfl|3,_=>rfl⟩,rfl,⟨rfl,fun i hi=>absurd hi (oE _)⟩,by decide⟩,fun g hg=>⟨fun hlt=>?_,fun hge=>?_⟩⟩
 ·have hb1:(g:Int)<4:=of_decide_eq_true hlt;have e0:((g:Int)).toNat=g:=by omega
  rw[e0];refine⟨⟨by omega,hb1⟩,⟨ha,hb,hp4 g⟩,fun _=>⟨by omega,hb1⟩,fun _=>⟨hc,hd,hp4 g⟩,fun h1=>?_,fun h1=>?_⟩
  ·have hoff : Eu a b c d (Dh a b c d g)= false :=by
    unfold Eu;revert h1;cases C1 a b (Dh a b c d g)<;>cases C1 c d (Dh a b c d g)<;>intro h1<;>first|rfl|cases h1
   have e:BL a b c d (g+1)=BL a b c d g:=by rw[BL,hoff];rfl
   refine⟨jK,g+1,⟨rfl,fun _ _=>rfl⟩,by omega,rfl,rfl,rfl,rfl,?_,by omega,by omega⟩;rw[e];exact⟨rfl,fun _ _=>rfl⟩
  ·have hon : Eu a b c d (Dh a b c d g)= true :=by
    unfold Eu;revert h1;cases C1 a b (Dh a b c d g)<;>cases C1 c d (Dh a b c d g)<;>intro h1<;>first|rfl|cases h1
   refine⟨⟨(g,0),rfl,rfl,⟨rfl,fun _ _=>rfl⟩,rfl,by show g<4;omega,Ads _⟩,?_⟩;rintro⟨g',k⟩ ⟨e1,e2,e3⟩;have e1:(g:Int)=(g':Int):=e1;obtain rfl:g=g':=by omega
   have e3:k<=(BL a b c d g).n:=e3;have ek:((k:Int)).toNat=k:=by omega
   have hcn:=Xl (a:=a) (b:=b) (c:=c) (d:=d) (i:=g);dsimp only;rw[ek];refine⟨fun hlt2=>?_,fun hge2=>?_⟩
   ·have hk:(k:Int)<((BL a b c d g).n:Int):=of_decide_eq_true hlt2;refine⟨fun _=>⟨by omega,hk⟩,fun _=>(show k<(BL a b c d g).n by omega),fun _=>⟨by omega,hb1⟩,jK,(g,k+1),?_,by show(k:Int)+1=((k+1:Nat):Int);omega,⟨rfl,fun _ _=>rfl⟩,rfl,rfl,rfl,rfl,rfl,⟨rfl,fun _ _=>rfl⟩,⟨rfl,by show g<4;omega,by show k+1<=(BL a b c d g).n;omega⟩,by show(BL a b c d g).n-(k+1)<(BL a b c d g).n-k;omega⟩;rw[Dl];rfl
   ·have hk:¬ (k:Int)<((BL a b c d g).n:Int):=of_decide_eq_false hge2;obtain rfl:k=(BL a b c d g).n:=by omega
    have hhas:BV (BL a b c d g).n (fun j=>Bt ((BL a b c d g).g j) (Dh a b c d g))=IX (BL a b c d g) (Dh a b c d g):=
     pE (fun i _=>tS _ _)
    rw[hhas];refine⟨fun h2=>?_,fun h2=>?_⟩
    ·have e : BL a b c d (g+1)= ⟨(BL a b c d g).n+1, fun i =>if i<(BL a b c d g).n then(BL a b c d g).g i else Dh a b c d g⟩:=by
      rw[BL,hon];show Fs _ _=_;unfold Fs;rw[CV h2];rfl
     refine⟨⟨by omega,hb1⟩,show((BL a b c d g).n+1)*16<=140737488355328 by omega,jK,g+1,⟨rfl,fun _ _=>rfl⟩,by omega,rfl,rfl,rfl,rfl,?_,by omega,by omega⟩;rw[e];refine⟨rfl,fun i hi=>?_⟩;unfold Ba;dsimp only
     by_cases h':i<(BL a b c d g).n
     ·rw[if_pos h',if_pos h']
     ·rw[if_neg h',if_neg h']
    ·have e : BL a b c d (g+1)= BL a b c d g :=by
      rw[BL,hon];show Fs _ _=_;unfold Fs;rw[Cl h2];rfl
     refine⟨jK,g+1,⟨rfl,fun _ _=>rfl⟩,by omega,rfl,rfl,rfl,rfl,?_,by omega,by omega⟩;rw[e];exact⟨rfl,fun _ _=>rfl⟩
 ·have hb1:¬ (g:Int)<4:=of_decide_eq_false hge;obtain rfl:g=4:=by omega
  rw[tR];have q1:=JQ (Ax a b c) 0;have q2:=JQ (Ax a b d) 0;have q3:=JQ (Ax c d a) 0;have q4:=JQ (Ax c d b) 0;have m1:=D4 (m:=1) (n:=1) q1.1 q1.2 q2.1 q2.2;have m2:=D4 (m:=1) (n:=1) q3.1 q3.2 q4.1 q4.2;refine⟨fun h1=>?_,fun h1=>⟨fun h2=>?_,fun h2=>⟨⟨ha,hb,hc⟩,trivial,⟨ha,hb,hd⟩,trivial,jK,fun _=>⟨hc,hd,ha⟩,fun _=>trivial,fun _=>⟨hc,hd,hb⟩,fun _=>trivial,fun _=>jK,fun h3=>?_,fun h3=>?_⟩⟩⟩
  ·unfold C7;rw[h1];rfl
  ·unfold C7;rw[h1,h2];rfl
  ·have h3:(bif G4 a b c d then G4 c d a b else false)=true:=h3;unfold C7;rw[h1,h2,h3];rfl
  ·have h3:(bif G4 a b c d then G4 c d a b else false)=false:=h3;unfold C7;rw[h1,h2,h3];rfl)
theorem tX:AB Tryz.prog 70 Xp:=AP Tryz.func70 (c:=Af Tryz.f70) (by kernel_rfl) mixed (fun args p r hs hp=>by
 unfold Xo at hs;split at hs
 ·cases hs;exact⟨_,_,tW _ _ _ _ hp,(.same _ (.same _ (.same _ (.same _ .nil)))),⟨show Aa Tryz.prog _ from(Aa.cons tH tI (Aa.cons L8 L9 (Aa.cons tL tM Aa.nil))),rfl,⟨show Ae Tryz.prog _ from Ae.nil,(AC.none (fun _=>rfl))⟩⟩⟩
 ·cases hs)
theorem tY:Ao Tryz.prog 70:=fun args w=>by kernel_rfl
def Xq (l:(L.Sq L.Pt)):Prop:=Ig l
def Xr (l:(L.Sq L.Pt)):SV:=.bool (DR l)
def Xs:List EV->Option (Prop×SV)
 |[.p (.sl 2 l_n l_g)]=>some ((∀i,i<l_n->l_g i = [.int .i64 ((Ai (l_g i)).x),.int .i64 ((Ai (l_g i)).y)])/\Xq (⟨l_n,fun i=>Ai (l_g i)⟩:(L.Sq L.Pt)),Xr (⟨l_n,fun i=>Ai (l_g i)⟩:(L.Sq L.Pt)))
 |_=>none
abbrev Xt:SE.Spec:=(AM Xs)
def tZ:Aj:={ cC with specs:=AF [(33,Ke),(70,Xp)] }
theorem uA (l:(L.Sq L.Pt)) (hp:Xq l):vc Tryz.prog ({ tZ with loops:=AY [(3,{ T:=Nat,keep:=[0,3],keepO:=[],chg:=fun i=>[(4,.p (.int .i64 (i:Int)))],own:=fun _=>[],inv:=fun i=>i<=l.n/\∀j,j<i->∀k,j<k->k<l.n->BZ l j k=true,mu:=fun i=>l.n-i }),(6,{ T:=Nat×Nat,keep:=[0,3,4],keepO:=[],tie:=fun i=>[(4,.int .i64 (i.1:Int))],chg:=fun i=>[(5,.p (.int .i64 (i.2:Int)))],own:=fun _=>[],inv:=fun i=>i.1<i.2/\i.2<=l.n/\(∀j,j<i.1->∀k,j<k->k<l.n->BZ l j k=true)/\∀k,i.1<k->k<i.2->BZ l i.1 k=true,mu:=fun i=>l.n-i.2 })],rfs:=AU [] }) (Af Tryz.f30) (Ar Tryz.f30 [.p (.sl 2 l.n (fun i=>[.int .i64 ((l.g i).x),.int .i64 ((l.g i).y)]))]) (AL Tryz.prog Tryz.f30 (Xr l)):=
 @Eq.mpr _ (let I:=SV.int .i64;let A19:=(1:Nat);let A15:=(0:Int);let A12:=(1000000:Int);let A11:=(1000000:Nat);let A10:=(-1000000:Int);let A7:=(l.n=l.n/\∀(i:Nat),let A17:=[I (l.g i).x,I (l.g i).y];i<l.n->A17=A17);let A6:=(↑l.n:Int);let A5:=(1:Int);let A2:=(∀(i:Nat),let A18:=[I (l.g i).x,I (l.g i).y];i<l.n->A18=A18);(∃(g
:Nat),A15=(↑g:Int)/\g<=l.n/\∀(j:Nat),j<g->∀(k:Nat),j<k->k<l.n->BZ l j k=true)/\∀(g:Nat),let A4:=(↑g:Int);let A16:=(A4+A5);let A13:=(l.g (BN l.n A4));let A8:=(l.g (BN l.n A16));(g<=l.n/\∀(j:Nat),j<g->∀(k:Nat),j<k->k<l.n->BZ l j k=true)->(decide (A4<A6)=true->Ac .i64
 A16/\(∃(g_1:Nat×Nat),A4+A5=(↑g_1.2:Int)/\A4=(↑g_1.1:Int)/\g_1.1<g_1.2/\g_1.2<=l.n/\(∀(j:Nat),j<g_1.1->∀(k:Nat),j<k->k<l.n->BZ l j k=true)/\∀(k:Nat),g_1.1<k->k<g_1.2->BZ l g_1.1 k=true)/\∀(g_1:Nat×Nat),let A3:=(↑g_1.2:Int);let A14:=(l.g (BN l.n A3));let A9:=(l.g (BN l.n (A3+A5)));let A1:=(bif bif
 bif decide (A3=A4+A5)then true else bif decide (A4=A15)then decide (A3=A6-A5)else false then !decide (C7 A13 A8 A14 A9=A5)else false then true else bif !bif decide (A3=A4+A5)then true else bif decide (A4=A15)then decide (A3=A6-A5)else false then !decide
 (C7 A13 A8 A14 A9=A15)else false);(A4=(↑g_1.1:Int)/\g_1.1<g_1.2/\g_1.2<=l.n/\(∀(j:Nat),j<g_1.1->∀(k:Nat),j<k->k<l.n->BZ l j k=true)/\∀(k:Nat),g_1.1<k->k<g_1.2->BZ l g_1.1 k=true)->(decide (A3<A6)=true->(A2/\A19<=l.n/\l.n<=A11/\A10<=A4/\A4<=A12)/\Ac .i64 A16/\(A2/\A19<=l.n
 /\ l.n<=A11/\A10<=A4+A5/\A4+A5<=A12)/\(A2/\A19<=l.n/\l.n<=A11/\A10<=A3/\A3<=A12)/\Ac .i64 (A3+A5)/\(A2/\A19<=l.n/\l.n<=A11/\A10<=A3+A5/\A3+A5<=A12)/\(Au A13/\Au A8/\Au A14/\Au A9)/\Ac .i64 A16/\((!decide (A3=A4+A5)&&decide (A4=A15))=true->Ac .i64 (A6-A5))/\(A1 =
 true->false=DR l)/\(A1=false->Ac .i64 (A3+A5)/\∃(g':Nat×Nat),A3+A5=(↑g'.2:Int)/\A4=A4/\A6=A6/\A7/\(A4=(↑g'.1:Int)/\g'.1<g'.2/\g'.2<=l.n/\(∀(j:Nat),j<g'.1->∀(k:Nat),j<k->k<l.n->BZ l j k=true)/\∀(k:Nat),g'.1<k->k<g'.2->BZ l g'.1 k=true)/\l.n-g'.2<l.n-g_1.2)) /\
 (decide (A3<A6)=false->Ac .i64 A16/\∃(g':Nat),A4+A5=(↑g':Int)/\A6=A6/\A7/\(g'<=l.n/\∀(j:Nat),j<g'->∀(k:Nat),j<k->k<l.n->BZ l j k=true)/\l.n-g'<l.n-g))/\(decide (A4<A6)=false->true=DR l)) (by kernel_rfl) (by
  conv=>zeta
  obtain⟨hn,hb⟩:=hp;have fin0:∀{i k:Nat},i<k->k<l.n->BZ l i k=false->false=DR l:=fun {i k} hik hk h=>by
   unfold DR;rw[Hw (i:=i) (by omega) (Hw (i:=k) hk (by simp[hik,h]))]
  refine⟨⟨(0:Nat),rfl,Ads _,fun j hj=>absurd hj (oE _)⟩,fun g hg=>⟨fun hlt=>?_,fun hge=>?_⟩⟩
  ·have hb1:(g:Int)<(l.n:Int):=of_decide_eq_true hlt;refine⟨jK,⟨(g,g+1),by show(g:Int)+1=((g+1:Nat):Int);omega,rfl,Ae3 g,by show g+1<=l.n;omega,hg.2,fun k h1 h2=>?_⟩,?_⟩
   ·have h1:g<k:=h1;have h2:k<g+1:=h2;omega
   rintro⟨i,k⟩ ⟨e1,hik,hkn,h0,h1⟩;have e1:(g:Int)=(i:Int):=e1;obtain rfl:g=i:=by omega
   have hik:g<k:=hik;have hkn:k<=l.n:=hkn;have h0:∀j,j<g->∀k,j<k->k<l.n->BZ l j k=true:=h0;have h1:∀m,g<m->m<k->BZ l g m=true:=h1;dsimp only;refine⟨fun hlt2=>?_,fun hge2=>?_⟩
   ·have hk:(k:Int)<(l.n:Int):=of_decide_eq_true hlt2;have c5:BE l.n k<l.n:=GW (by omega);have c2:BN l.n ((g:Int)+1)=g+1:=by
     rw[show(g:Int)+1=((g+1:Nat):Int)by omega,Nr (by omega)]
    rw[Nr (n:=l.n) (k:=g) (by omega),c2,Nr (n:=l.n) (k:=k) (by omega),Ns (n:=l.n) (k:=k) (by omega)];have key:(bif (bif (bif decide ((k:Int)=(g:Int)+1)then true else bif decide ((g:Int)=0)then decide ((k:Int)=(l.n:Int)-1)else false)then !decide (C7 (l.g g) (l.g (g+1)) (l.g k) (l.g (BE l.n k))=1)else false)then true else bif !(bif decide ((k:Int)=(g:Int)+1)then true else bif decide ((g:Int)=0)then decide ((k:Int)=(l.n:Int)-1)else false)then !decide (C7 (l.g g) (l.g (g+1)) (l.g k) (l.g (BE l.n k))=0)else false)= !BZ l g k:=by
     unfold BZ L1 JV;generalize (bif decide ((k:Int)=(g:Int)+1)then true else bif decide ((g:Int)=0)then decide ((k:Int)=(l.n:Int)-1)else false)=q;generalize decide (C7 (l.g g) (l.g (g+1)) (l.g k) (l.g (BE l.n k))=1)=q1;generalize decide (C7 (l.g g) (l.g (g+1)) (l.g k) (l.g (BE l.n k))=0)=q2;cases q<;>cases q1<;>cases q2<;>rfl
    rw[key];refine⟨⟨fun _ _=>rfl,by omega,by omega,by omega,by omega⟩,jK,⟨fun _ _=>rfl,by omega,by omega,by omega,by omega⟩,⟨fun _ _=>rfl,by omega,by omega,by omega,by omega⟩,jK,⟨fun _ _=>rfl,by omega,by omega,by omega,by omega⟩,⟨hb g (by omega),hb (g+1) (by omega),hb k (by omega),hb _ c5⟩,jK,fun _=>jK,fun h=>fin0 hik (by omega) (CV h),fun h=>?_⟩;have hok:BZ l g k=true:=Cl h;refine⟨jK,(g,k+1),by show(k:Int)+1=((k+1:Nat):Int);omega,rfl,rfl,⟨rfl,fun _ _=>rfl⟩,⟨rfl,by show g<k+1;omega,by show k+1<=l.n;omega,h0,fun m hm1 hm2=>?_⟩,by show l.n-(k+1)<l.n-k;omega⟩;have hm1:g<m:=hm1;have hm2:m<k+1:=hm2;show BZ l g m=true;rcases Ad1.1 hm2 with h'|rfl
    ·exact h1 m hm1 h'
    ·exact hok
   ·have hk:¬ (k:Int)<(l.n:Int):=of_decide_eq_false hge2;refine⟨jK,g+1,by omega,rfl,⟨rfl,fun _ _=>rfl⟩,⟨by omega,fun j hj m hm1 hm2=>?_⟩,by omega⟩;rcases Ad1.1 hj with h'|rfl
    ·exact h0 j h' m hm1 hm2
    ·exact h1 m hm1 (by omega)
  ·have hb1:¬ (g:Int)<(l.n:Int):=of_decide_eq_false hge;unfold DR;rw[Dk.2 (fun i hi=>Dk.2 (fun k hk=>?_))]
   by_cases hik:i<k
   ·simp[hik,hg.2 i (by omega) k hik hk]
   ·simp[hik])
theorem uB:AB Tryz.prog 30 Xt:=AP Tryz.func30 (c:=Af Tryz.f30) (by kernel_rfl) mixed (fun args p r hs hp=>by
 unfold Xs at hs;split at hs
 ·cases hs;exact⟨_,_,uA _ hp.2,(.p (.sl hp.1) .nil),⟨show Aa Tryz.prog _ from(Aa.cons LA LB (Aa.cons tX tY Aa.nil)),rfl,⟨show Ae Tryz.prog _ from Ae.nil,(AC.none (fun _=>rfl))⟩⟩⟩
 ·cases hs)
theorem uC:Ao Tryz.prog 30:=fun args w=>by kernel_rfl
def Xu (l:(L.Sq L.Pt)):Prop:=True
def Xv (l:(L.Sq L.Pt)):SV:=.bool (AA l)
def Xw:List EV->Option (Prop×SV)
 |[.p (.sl 2 l_n l_g)]=>some ((∀i,i<l_n->l_g i = [.int .i64 ((Ai (l_g i)).x),.int .i64 ((Ai (l_g i)).y)])/\Xu (⟨l_n,fun i=>Ai (l_g i)⟩:(L.Sq L.Pt)),Xv (⟨l_n,fun i=>Ai (l_g i)⟩:(L.Sq L.Pt)))
 |_=>none
abbrev PV:SE.Spec:=(AM Xw)
def uD:Aj:={ cC with specs:=AF [(29,WH),(30,Xt),(31,PT),(32,PS),(33,Ke),(12,Kd)] }
theorem uE (l:(L.Sq L.Pt)) (hp:Xu l):vc Tryz.prog ({ uD with loops:=AY [(4,{ T:=Nat,keep:=[0],keepO:=[],chg:=fun i=>[(3,.p (.int .i64 (i:Int)))],own:=fun _=>[],inv:=fun i=>i<=l.n/\∀j,j<i->Er l j=true,mu:=fun i=>l.n-i })],rfs:=AU [] }) (Af Tryz.f7) (Ar Tryz.f7 [.p (.sl 2 l.n (fun i=>[.int .i64 ((l.g i).x),.int .i64 ((l.g i).y)]))]) (AL Tryz.prog Tryz.f7 (Xv l)):=
 @Eq.mpr _ (let I:=SV.int .i64;let T:=Ad6;let A17:=(3:Int);let A16:=(24:Int);let A11:=(1000000:Nat);let A9:=(1:Int);let A8:=(0:Int);let A7:=(↑l.n:Int);let A5:=(L.Sq.mk l.n fun(i:Nat)=>l.g i);let A4:=(∀(i:Nat),let A12:=[I (l.g i).x,I (l.g i).y];i<l.n->A12=A12);let A2:=(bif bif bif bif decide (A7<A17)then true else decide (A16<A7)then true else !DH A5 then true else !DR A5 then true else decide (B7 A5 l.n<=A8));((!bif decide (A7<A17)then true else decide (A16<A7))=true->A4/\l.n<=A11)/\((!bif bif decide (A7<A17)then true else decide (A16<A7)then true else !DH A5)=true->A4/\Ig A5)/\((!bif bif bif decide (A7<A17)then true else decide (A16<A7)then true else !DH A5 then true else !DR A5)=true->A4/\Ep A5)/\(A2=true->false=AA l)/\(A2=false->(∃(g:Nat),A8=(↑g:Int)/\g<=l.n/\∀(j:Nat),j<g->Er l j=true)/\∀(g:Nat),let A6:=(↑g:Int);let A14:=(l.g (BN l.n (A6+A9)));let A13:=(l.g (BN l.n (A6-A9)));let A10:=(l.g (T A6));let A3:=(bif bif decide (A8<A6)then !decide (BK (l.g (T A8)) A10<A8)else false then true else decide (Ax A13 A10 A14=A8));let A1:=(!bif decide (A8<A6)then !decide (BK (l.g (T A8)) A10<A8)else false);(g<=l.n/\∀(j:Nat),j<g->Er l j=true)->(decide (A6<A7)=true->(decide (A8<A6)=true->A8<=A8/\A8<A7)/\(decide (A8<A6)=true->A8<=A6/\A6<A7)/\(decide (A8<A6)=true->True)/\(A1=true->Ac .i64 (A6-A9))/\(A1=true->A4/\(1:Nat)<=l.n/\l.n<=A11/\(-1000000:Int)<=A6-A9/\A6-A9<=(1000000:Int))/\(A1=true->A8<=A6/\A6<A7)/\(A1=true->Ac .i64 (A6+A9))/\(A1=true->A4/\(1:Nat)<=l.n/\l.n<=A11/\(-1000000:Int)<=A6+A9/\A6+A9<=(1000000:Int))/\(A1=true->Au A13/\Au A10/\Au A14)/\(A3=true->false=AA l)/\(A3=false->Ac .i64 (A6+A9)/\∃(g':Nat),A6+A9=(↑g':Int)/\(l.n=l.n/\∀(i:Nat),let A15:=[I (l.g i).x,I (l.g i).y];i<l.n->A15=A15)/\(g'<=l.n/\∀(j:Nat),j<g'->Er l j=true)/\l.n-g'<l.n-g))/\(decide (A6<A7)=false->true=AA l))) (by kernel_rfl) (by
 conv=>zeta
 have c1:(bif decide ((l.n:Int)<3)then true else decide (24<(l.n:Int)))= !AG (l.n:Int) 3 24:=by
  rw[Dl,Bool.eq_iff_iff,AdN,decide_eq_true_eq,decide_eq_true_eq,Bool.not_eq_true',Bool.eq_false_iff,Ne,Hz];omega
 rw[c1];have sp:AG (l.n:Int) 3 24=true->DH l=true->3<=l.n/\l.n<=24/\Ep l/\Ig l:=P8;refine⟨fun h=>⟨fun _ _=>rfl,?_⟩,fun h=>⟨fun _ _=>rfl,?_⟩,fun h=>⟨fun _ _=>rfl,?_⟩,fun h=>?_,fun h=>?_⟩
 ·have:=Hz.1 (Cl (CV h));omega
 ·have h:=CV h;rw[Dl,AdD]at h;exact(sp (Cl h.1) (Cl h.2)).2.2.2
 ·have h:=CV h;rw[Dl,Dl,AdD,AdD]at h;exact(sp (Cl h.1.1) (Cl h.1.2)).2.2.1
 ·have h:(bif bif bif !AG (l.n:Int) 3 24 then true else !DH l then true else !DR l then true else decide (B7 l l.n<=0))=true:=h;have e3:Gi l=false\/DR l=false:=by
   rw[Dl,Dl,Dl,AdN,AdN,AdN]at h;unfold Gi;rcases h with ((h|h)|h)|h
   ·rw[CV h];exact .inl rfl
   ·rw[CV h];left;cases AG (l.n:Int) 3 24<;>rfl
   ·exact .inr (CV h)
   ·left;have:=of_decide_eq_true h;rw[decide_eq_false (show ¬ 0<B7 l l.n by omega)];cases AG (l.n:Int) 3 24<;>cases DH l<;>rfl
  unfold AA;rcases e3 with e3|e3<;>rw[e3]<;>simp
 have h:(bif bif bif !AG (l.n:Int) 3 24 then true else !DH l then true else !DR l then true else decide (B7 l l.n<=0))=false:=h;rw[Dl,Dl,Dl,AdD,AdD,AdD]at h;obtain⟨⟨⟨h1,h2⟩,h3⟩,h4⟩:=h;have h1:=Cl h1;have h2:=Cl h2;have h3:=Cl h3;have h4:=of_decide_eq_false h4;obtain⟨n3,n24,hsm,hbd⟩:=sp h1 h2;have hv:Gi l=true:=by
  unfold Gi;rw[h1,h2,decide_eq_true (show 0<B7 l l.n by omega)];rfl
 refine⟨⟨(0:Nat),rfl,Ads _,fun j hj=>absurd hj (oE _)⟩,fun g hg=>⟨fun hlt=>?_,fun hge=>?_⟩⟩
 ·have hb:(g:Int)<(l.n:Int):=of_decide_eq_true hlt;have hk:g<l.n:=by omega
  have e0:((g:Int)).toNat=g:=by omega
  have key:=tU (l:=l) (k:=g);rw[e0,sL hk,Ns hk];refine⟨fun _=>by omega,fun _=>by omega,fun _=>trivial,fun _=>jK,fun _=>⟨fun _ _=>rfl,by omega,by omega,by omega,by omega⟩,fun _=>by omega,fun _=>jK,fun _=>⟨fun _ _=>rfl,by omega,by omega,by omega,by omega⟩,fun _=>⟨hbd.2 _ (P7 (by omega)),hbd.2 _ hk,hbd.2 _ (GW (by omega))⟩,fun h=>?_,fun h=>?_⟩
  ·have h:Er l g=false:=CV (key.symm.trans h);unfold AA;rw[Hw hk h];simp
  ·have h:Er l g=true:=Cl (key.symm.trans h);exact⟨jK,g+1,by omega,⟨rfl,fun _ _=>rfl⟩,⟨by omega,fun j hj=>by
    rcases Ad1.1 hj with h'|rfl
    ·exact hg.2 j h'
    ·exact h⟩,by omega⟩
 ·have hb:¬ (g:Int)<(l.n:Int):=of_decide_eq_false hge;unfold AA;rw[hv,Dk.2 (fun i hi=>hg.2 i (by omega)),h3];rfl)
theorem Xx:AB Tryz.prog 7 PV:=AP Tryz.func7 (c:=Af Tryz.f7) (by kernel_rfl) mixed (fun args p r hs hp=>by
 unfold Xw at hs;split at hs
 ·cases hs;exact⟨_,_,uE _ hp.2,(.p (.sl hp.1) .nil),⟨show Aa Tryz.prog _ from(Aa.cons sU sV (Aa.cons uB uC (Aa.cons Xi Xj (Aa.cons WS WT (Aa.cons LA LB (Aa.cons L8 L9 Aa.nil)))))),rfl,⟨show Ae Tryz.prog _ from Ae.nil,(AC.none (fun _=>rfl))⟩⟩⟩
 ·cases hs)
theorem Xy:Ao Tryz.prog 7:=fun args w=>by kernel_rfl
theorem uF {p:L.Pt} (h:B8 p=true):Au p:=by
 unfold B8 at h;rw[pR,Hz,Hz]at h;unfold Au;omega
theorem Nt {l:L.Sq L.Pt}:∀{i j:Nat},j<=i->¬ BK (l.g j) (FG l i)<0
 |0,j,h=>by
   obtain rfl:j=0:=by omega
   rw[JX,FG];omega
 |i+1,j,h=>by
   rw[FG];cases hd:decide (BK (l.g (i+1)) (FG l i)<0)with
   |false =>
     rw[cond_false]
     by_cases e:j=i+1
     ·rw[e];exact of_decide_eq_false hd
     ·exact Nt (by omega)
   |true =>
     rw[cond_true];have h1:=of_decide_eq_true hd
     by_cases e:j=i+1
     ·rw[e,JX];omega
     ·have h2:=Nt (l:=l) (i:=i) (j:=j) (by omega);rw[JX]at h1 h2 ⊢;omega
def Cb (l:L.Sq L.Pt):Nat->Nat
 |0=>0
 |i+1=>bif decide (BK (l.g i) (l.g (Cb l i))<0)then i else Cb l i
def LC (l:L.Sq L.Pt):Nat:=Cb l l.n
def DJ (l:L.Sq L.Pt) (k:Nat):L.Pt:=(PA l (LC l)).g k
theorem Nu (l:L.Sq L.Pt):∀i,l.g (Cb l (i+1))=FG l i/\Cb l (i+1)<=i/\∀j,j<Cb l (i+1)->l.g j≠FG l i
 |0=>by
   have h:Cb l 1=0:=by
    show(bif decide (BK (l.g 0) (l.g 0)<0)then 0 else 0)=0;cases decide (BK (l.g 0) (l.g 0)<0)<;>rfl
   rw[h];exact⟨rfl,Adp _,fun j hj=>absurd hj (oE _)⟩
 |i+1=>by
   obtain⟨h1,h2,h3⟩:=Nu l i;have ha:Cb l (i+1+1)=bif decide (BK (l.g (i+1)) (l.g (Cb l (i+1)))<0)then i+1 else Cb l (i+1):=rfl;have hm:FG l (i+1)=bif decide (BK (l.g (i+1)) (FG l i)<0)then l.g (i+1)else FG l i:=rfl;rw[ha,hm,h1];cases hc:decide (BK (l.g (i+1)) (FG l i)<0)with
   |false=>exact⟨h1,by show Cb l (i+1)<=i+1;omega,h3⟩
   |true =>
     refine⟨rfl,Adp _,fun j hj e=>?_⟩;have hj:j<i+1:=hj;have e:l.g j=l.g (i+1):=e;have:=Nt (l:=l) (i:=i) (j:=j) (by omega);rw[e]at this;exact this (of_decide_eq_true hc)
theorem Xz {l:L.Sq L.Pt} (h:1<=l.n):∀i,i<=l.n->Cb l i<l.n
 |0,_=>h
 |i+1,hi=>by have:=(Nu l i).2.1;omega
def GZ (l:L.Sq L.Pt):Int:=B4 l.n (fun i=>!Bt (l.g i) (l.g 0))
def Fu (l:L.Sq L.Pt):Bool:=bif decide (GZ l<0)then true else !BV l.n (fun i=>!decide (Ax (l.g 0) (l.g (GZ l).toNat) (l.g i)=0))
def X4 (l:L.Sq L.Pt):Prop:=∃i j,i<l.n/\j<l.n/\l.g i≠l.g j
theorem X5 {l:L.Sq L.Pt} {k:Nat} (hk:k<l.n) (h0:∀j,j<k->l.g j=l.g 0) (h1:l.g k≠l.g 0):GZ l=(k:Int):=by
 refine IR (f:=fun i=>!Bt (l.g i) (l.g 0)) (fun j hj=>?_) ?_ hk
 ·show(!Bt (l.g j) (l.g 0))=false;rw[h0 j hj,GX];rfl
 ·show(!Bt (l.g k) (l.g 0))=true;cases e:Bt (l.g k) (l.g 0)with
  |true=>exact absurd (IZ e) h1
  |false=>rfl
theorem uG {l:L.Sq L.Pt} (h:∀j,j<l.n->l.g j=l.g 0):Fu l=true:=by
 unfold Fu;have e:GZ l = -1:=Ie (f:=fun i=>!Bt (l.g i) (l.g 0)) fun j hj=>by
  show(!Bt (l.g j) (l.g 0))=false;rw[h j hj,GX];rfl
 rw[e];rfl
theorem X6 {l:L.Sq L.Pt} (h:Fu l=false) (h1:1<=l.n):X4 l:=by
 unfold Fu GZ at h;rcases Ni (f:=fun i=>!Bt (l.g i) (l.g 0)) (n:=l.n)with ⟨q1,_⟩|⟨i,q1,q2,q3,_⟩
 ·rw[q1]at h;cases h
 ·refine⟨i,0,q1,h1,fun e=>?_⟩;have q3:(!Bt (l.g i) (l.g 0))=true:=q3;rw[e,GX]at q3;cases q3
theorem uH {l:L.Sq L.Pt} (h:¬ GZ l<0):0<=GZ l/\GZ l<(l.n:Int):=by
 unfold GZ at h ⊢;rcases Ni (f:=fun i=>!Bt (l.g i) (l.g 0)) (n:=l.n)with ⟨q1,_⟩|⟨i,q1,q2,q3,_⟩
 ·rw[q1]at h;exact absurd (by decide) h
 ·rw[q2];omega
def X7 (p:L.Pt) (l:(L.Sq L.Pt)):Prop:=1<=l.n
def X8 (p:L.Pt) (l:(L.Sq L.Pt)):SV:=.bool (!Bt p (l.g 0))
def DU:List EV->Option (Prop×SV)
 |[.p (.agg [.int .i64 p_x,.int .i64 p_y]),.p (.ref [.sl 2 l_n l_g] 0)]=>some ((∀i,i<l_n->l_g i = [.int .i64 ((Ai (l_g i)).x),.int .i64 ((Ai (l_g i)).y)])/\X7 (⟨p_x,p_y⟩:L.Pt) (⟨l_n,fun i=>Ai (l_g i)⟩:(L.Sq L.Pt)),X8 (⟨p_x,p_y⟩:L.Pt) (⟨l_n,fun i=>Ai (l_g i)⟩:(L.Sq L.Pt)))
 |_=>none
abbrev X9:SE.Spec:=(AM DU)
def uI:Aj:={ muts:=[],frz:=BH [],specs:=AF [],loops:=AY [],iters:=B6 [],rfs:=AU [],nils:=BD [] }
theorem uJ (p:L.Pt) (l:(L.Sq L.Pt)) (hp:X7 p l):vc Tryz.prog (uI) (Af Tryz.f186) (Ar Tryz.f186 [.p (.agg [.int .i64 p.x,.int .i64 p.y]),.p (.ref [.sl 2 l.n (fun i=>[.int .i64 ((l.g i).x),.int .i64 ((l.g i).y)])] 0)]) (AL Tryz.prog Tryz.f186 (X8 p l)):=
 @Eq.mpr _ (((0:Int)<=(0:Int)/\(0:Int)<(↑l.n:Int))/\(!(decide (p.x=(l.g (Ad6 (0:Int))).x)&&decide (p.y=(l.g (Ad6 (0:Int))).y)))= !Bt p (l.g (0:Nat))) (by kernel_rfl) (by
 exact⟨⟨AdQ _,by have:1<=l.n:=hp;omega⟩,rfl⟩)
theorem uK:AB Tryz.prog 186 X9:=AP Tryz.func186 (c:=Af Tryz.f186) (by kernel_rfl) mixed (fun args p r hs hp=>by
 unfold DU at hs;split at hs
 ·cases hs; exact⟨_, _, uJ _ _ hp.2, (.same _ (.p (Bo.ref rfl (fun i hi =>by
  rcases i with _|i
  ·show Bo (SV.sl _ _ _) (SV.sl _ _ _);exact(Bo.sl hp.1)
  exact absurd hi (by simp;try omega))) .nil)),⟨show Aa Tryz.prog _ from Aa.nil,rfl,⟨show Ae Tryz.prog _ from Ae.nil,(AC.none (fun _=>rfl))⟩⟩⟩
 ·cases hs)
theorem uL:Ao Tryz.prog 186:=fun args w=>by kernel_rfl
theorem uM:∀args p r,DU args=some (p,r)->∃b,r=.bool b:=by
 intro args p r h;unfold DU at h;split at h
 ·cases h;exact⟨_,rfl⟩
 ·cases h
def XA (p:L.Pt) (l:(L.Sq L.Pt)) (far:Int):Prop:=(0<=far/\far<l.n)/\Au p/\∀k,k<l.n->Au (l.g k)
def XB (p:L.Pt) (l:(L.Sq L.Pt)) (far:Int):SV:=.bool (!decide (Ax (l.g 0) (l.g far.toNat) p=0))
def Ij:List EV->Option (Prop×SV)
 |[.p (.agg [.int .i64 p_x,.int .i64 p_y]),.p (.ref [.sl 2 l_n l_g] 0),.p (.ref [.int .i64 far] 0)]=>some ((∀i,i<l_n->l_g i = [.int .i64 ((Ai (l_g i)).x),.int .i64 ((Ai (l_g i)).y)])/\XA (⟨p_x,p_y⟩:L.Pt) (⟨l_n,fun i=>Ai (l_g i)⟩:(L.Sq L.Pt)) far,XB (⟨p_x,p_y⟩:L.Pt) (⟨l_n,fun i=>Ai (l_g i)⟩:(L.Sq L.Pt)) far)
 |_=>none
abbrev XC:SE.Spec:=(AM Ij)
def uN:Aj:={ cC with specs:=AF [(77,IW)] }
theorem uO (p:L.Pt) (l:(L.Sq L.Pt)) (far:Int) (hp:XA p l far):vc Tryz.prog (uN) (Af Tryz.f187) (Ar Tryz.f187 [.p (.agg [.int .i64 p.x,.int .i64 p.y]),.p (.ref [.sl 2 l.n (fun i=>[.int .i64 ((l.g i).x),.int .i64 ((l.g i).y)])] 0),.p (.ref [.int .i64 far] 0)]) (AL Tryz.prog Tryz.f187 (XB p l far)):=
 @Eq.mpr _ (((0:Int)<=(0:Int)/\(0:Int)<(↑l.n:Int))/\((0:Int)<=far/\far<(↑l.n:Int))/\(Au (l.g (Ad6 (0:Int)))/\Au (l.g (Ad6 far))/\Au p)/\(!decide (Ax (l.g (Ad6 (0:Int))) (l.g (Ad6 far)) p=(0:Int)))= !decide (Ax (l.g (0:Nat)) (l.g (Ad6 far)) p=(0:Int))) (by kernel_rfl) (by
 obtain⟨⟨h1,h2⟩,hb,hl⟩:=hp;exact⟨⟨AdQ _,by omega⟩,⟨h1,h2⟩,⟨hl 0 (by omega),hl far.toNat (by omega),hb⟩,rfl⟩)
theorem uP:AB Tryz.prog 187 XC:=AP Tryz.func187 (c:=Af Tryz.f187) (by kernel_rfl) mixed (fun args p r hs hp=>by
 unfold Ij at hs;split at hs
 ·cases hs; exact⟨_, _, uO _ _ _ hp.2, (.same _ (.p (Bo.ref rfl (fun i hi =>by
  rcases i with _|i
  ·show Bo (SV.sl _ _ _) (SV.sl _ _ _);exact(Bo.sl hp.1)
  exact absurd hi (by simp;try omega))) (.same _ .nil))),⟨show Aa Tryz.prog _ from(Aa.cons JR JS Aa.nil),rfl,⟨show Ae Tryz.prog _ from Ae.nil,(AC.none (fun _=>rfl))⟩⟩⟩
 ·cases hs)
theorem uQ:Ao Tryz.prog 187:=fun args w=>by kernel_rfl
theorem uR:∀args p r,Ij args=some (p,r)->∃b,r=.bool b:=by
 intro args p r h;unfold Ij at h;split at h
 ·cases h;exact⟨_,rfl⟩
 ·cases h
def XD (l:(L.Sq L.Pt)):Prop:=1<=l.n/\l.n<=1000000/\∀k,k<l.n->Au (l.g k)
def XE (l:(L.Sq L.Pt)):SV:=.bool (Fu l)
def XF:List EV->Option (Prop×SV)
 |[.p (.sl 2 l_n l_g)]=>some ((∀i,i<l_n->l_g i = [.int .i64 ((Ai (l_g i)).x),.int .i64 ((Ai (l_g i)).y)])/\XD (⟨l_n,fun i=>Ai (l_g i)⟩:(L.Sq L.Pt)),XE (⟨l_n,fun i=>Ai (l_g i)⟩:(L.Sq L.Pt)))
 |_=>none
abbrev XG:SE.Spec:=(AM XF)
def uS:Aj:={ cC with frz:=BH [(2,[3])],specs:=AF [(159,Py),(120,Pz),(186,X9),(187,XC)] }
theorem uT (l:(L.Sq L.Pt)) (hp:XD l):vc Tryz.prog (uS) (Af Tryz.f162) (Ar Tryz.f162 [.p (.sl 2 l.n (fun i=>[.int .i64 ((l.g i).x),.int .i64 ((l.g i).y)]))]) (AL Tryz.prog Tryz.f162 (XE l)):=
 @Eq.mpr _ (let I:=SV.int .i64;let A18:=(∀(i:Nat),let A20:=[I (l.g i).x,I (l.g i).y];i<l.n->A20=A20);let A9:=(L.Sq.mk l.n fun(i:Nat)=>Ai ((fun(i:Nat)=>[I (l.g i).x,I (l.g i).y]) i));let A4:=(nat_lit 2);let A3:=(nat_lit 0);let A2:=[SV.sl A4 l.n fun(i:Nat)=>[I (l.g i).x,I (l.g i).y]];let A1:=(B4 l.n fun(i:Nat)=>let A11:=[SV.ref [SV.sl A4 l.n fun(i:Nat)=>[I (l.g i).x,I (l.g i).y]] A3];Bi (B1.mk (fun(«as»:List SV)=>De DU (Ad9 EV.p «as» ++ Ad9 EV.p A11)) fun(«as»:List SV)=>DF DU (Ad9 EV.p «as» ++ Ad9 EV.p A11)) [SV.agg [I (l.g i).x,I (l.g i).y]]);(A18/\EN (B1.mk (fun(«as»:List SV)=>De DU (Ad9 EV.p «as» ++ Ad9 EV.p [SV.ref A2 A3])) fun(«as»:List SV)=>DF DU (Ad9 EV.p «as» ++ Ad9 EV.p [SV.ref A2 A3]))/\l.n<=(1000000:Nat)/\∀(i:Nat),i<l.n->(∀(i:Nat),let A21:=[I (l.g i).x,I (l.g i).y];i<l.n->A21=A21)/\(1:Nat)<=l.n)/\((!decide (A1<(0:Int)))=true->A18/\EN (B1.mk (fun(«as»:List SV)=>De Ij (Ad9 EV.p «as» ++ Ad9 EV.p [SV.ref A2 A3,SV.ref [I (B4 A9.n fun(i:Nat)=>let A12:=[SV.ref [SV.sl A4 l.n fun(i:Nat)=>[I (l.g i).x,I (l.g i).y]] A3];let A5:=((L.Sq.mk l.n fun(i:Nat)=>Ai ((fun(i:Nat)=>[I (l.g i).x,I (l.g i).y]) i)).g i);Bi (B1.mk (fun(«as»:List SV)=>De DU (Ad9 EV.p «as» ++ Ad9 EV.p A12)) fun(«as»:List SV)=>DF DU (Ad9 EV.p «as» ++ Ad9 EV.p A12)) [SV.agg [I A5.x,I A5.y]])] A3])) fun(«as»:List SV)=>DF Ij (Ad9 EV.p «as» ++ Ad9 EV.p [SV.ref A2 A3,SV.ref [I (B4 A9.n fun(i:Nat)=>let A13:=[SV.ref [SV.sl A4 l.n fun(i:Nat)=>[I (l.g i).x,I (l.g i).y]] A3];let A6:=((L.Sq.mk l.n fun(i:Nat)=>Ai ((fun(i:Nat)=>[I (l.g i).x,I (l.g i).y]) i)).g i);Bi (B1.mk (fun(«as»:List SV)=>De DU (Ad9 EV.p «as» ++ Ad9 EV.p A13)) fun(«as»:List SV)=>DF DU (Ad9 EV.p «as» ++ Ad9 EV.p A13)) [SV.agg [I A6.x,I A6.y]])] A3]))/\l.n<=(1000000:Nat)/\∀(i:Nat),i<l.n->(∀(i:Nat),let A22:=[I (l.g i).x,I (l.g i).y];i<l.n->A22=A22)/\(((0:Int)<=B4 l.n fun(i:Nat)=>let A14:=[SV.ref [SV.sl A4 l.n fun(i:Nat)=>[I (l.g i).x,I (l.g i).y]] A3];Bi (B1.mk (fun(«as»:List SV)=>De DU (Ad9 EV.p «as» ++ Ad9 EV.p A14)) fun(«as»:List SV)=>DF DU (Ad9 EV.p «as» ++ Ad9 EV.p A14)) [SV.agg [I (l.g i).x,I (l.g i).y]])/\(B4 l.n fun(i:Nat)=>let A15:=[SV.ref [SV.sl A4 l.n fun(i:Nat)=>[I (l.g i).x,I (l.g i).y]] A3];Bi (B1.mk (fun(«as»:List SV)=>De DU (Ad9 EV.p «as» ++ Ad9 EV.p A15)) fun(«as»:List SV)=>DF DU (Ad9 EV.p «as» ++ Ad9 EV.p A15)) [SV.agg [I (l.g i).x,I (l.g i).y]])<(↑l.n:Int))/\Au (l.g i)/\∀(k:Nat),k<l.n->Au (l.g k))/\(bif decide (A1<(0:Int))then true else !BV l.n fun(i:Nat)=>let A19:=[SV.sl A4 l.n fun(i:Nat)=>[I (l.g i).x,I (l.g i).y]];let A10:=(L.Sq.mk l.n fun(i:Nat)=>Ai ((fun(i:Nat)=>[I (l.g i).x,I (l.g i).y]) i));Bi (B1.mk (fun(«as»:List SV)=>De Ij (Ad9 EV.p «as» ++ Ad9 EV.p [SV.ref A19 A3,SV.ref [I (B4 A10.n fun(i:Nat)=>let A16:=[SV.ref [SV.sl A4 l.n fun(i:Nat)=>[I (l.g i).x,I (l.g i).y]] A3];let A7:=((L.Sq.mk l.n fun(i:Nat)=>Ai ((fun(i:Nat)=>[I (l.g i).x,I (l.g i).y]) i)).g i);Bi (B1.mk (fun(«as»:List SV)=>De DU (Ad9 EV.p «as» ++ Ad9 EV.p A16)) fun(«as»:List SV)=>DF DU (Ad9 EV.p «as» ++ Ad9 EV.p A16)) [SV.agg [I A7.x,I A7.y]])] A3])) fun(«as»:List SV)=>DF Ij (Ad9 EV.p «as» ++ Ad9 EV.p [SV.ref A19 A3,SV.ref [I (B4 A10.n fun(i:Nat)=>let A17:=[SV.ref [SV.sl A4 l.n fun(i:Nat)=>[I (l.g i).x,I (l.g i).y]] A3];let A8:=((L.Sq.mk l.n fun(i:Nat)=>Ai ((fun(i:Nat)=>[I (l.g i).x,I (l.g i).y]) i)).g i);Bi (B1.mk (fun(«as»:List SV)=>De DU (Ad9 EV.p «as» ++ Ad9 EV.p A17)) fun(«as»:List SV)=>DF DU (Ad9 EV.p «as» ++ Ad9 EV.p A17)) [SV.agg [I A8.x,I A8.y]])] A3])) [SV.agg [I (l.g i).x,I (l.g i).y]])=Fu l) (by kernel_rfl) (by
 conv=>zeta
 obtain⟨h1,hn,hb⟩:=hp;refine⟨⟨fun _ _=>rfl,Lq uM _,hn,fun i hi=>⟨fun _ _=>rfl,h1⟩⟩,fun hf=>?_,rfl⟩;have hf:(!decide (GZ l<0))=true:=hf;have hq:=uH (of_decide_eq_false (CV hf));exact⟨fun _ _=>rfl,Lq uR _,hn,fun i hi=>⟨fun _ _=>rfl,hq,hb i hi,hb⟩⟩)
theorem uU:AB Tryz.prog 162 XG:=AP Tryz.func162 (c:=Af Tryz.f162) (by kernel_rfl) mixed (fun args p r hs hp=>by
 unfold XF at hs;split at hs
 ·cases hs;exact⟨_,_,uT _ hp.2,(.p (.sl hp.1) .nil),⟨show Aa Tryz.prog _ from(Aa.cons Ug Uh (Aa.cons Ul Um (Aa.cons uK uL (Aa.cons uP uQ Aa.nil)))),rfl,⟨show Ae Tryz.prog _ from Ae.nil,(AC.none (fun _=>rfl))⟩⟩⟩
 ·cases hs)
theorem uV:Ao Tryz.prog 162:=fun args w=>by kernel_rfl
def XH (l:(L.Sq L.Pt)):Prop:=1<=l.n/\l.n<=1000000
def XI (l:(L.Sq L.Pt)):Nat->Prop:=fun _=>True
def XJ (l:(L.Sq L.Pt)):Nat->Nat:=fun _=>l.n
def XK (l:(L.Sq L.Pt)):Nat->Nat->List SV:=fun _ k=>[.int .i64 ((DJ l k).x),.int .i64 ((DJ l k).y)]
def XL:List EV->Option (Prop×(Nat->Prop)×(Nat->Nat)×(Nat->Nat->List SV))
 |[.p (.sl 2 l_n l_g)]=>some ((∀i,i<l_n->l_g i = [.int .i64 ((Ai (l_g i)).x),.int .i64 ((Ai (l_g i)).y)])/\XH (⟨l_n,fun i=>Ai (l_g i)⟩:(L.Sq L.Pt)),XI (⟨l_n,fun i=>Ai (l_g i)⟩:(L.Sq L.Pt)),XJ (⟨l_n,fun i=>Ai (l_g i)⟩:(L.Sq L.Pt)),XK (⟨l_n,fun i=>Ai (l_g i)⟩:(L.Sq L.Pt)))
 |_=>none
abbrev XM:SE.Spec:=(FC Nat 0 39 2 XL)
def uW:Aj:={ cC with specs:=AF [(32,PS)],nils:=BD [(8,[(5,26,39,2)])] }
theorem uX (l:(L.Sq L.Pt)) (hp:XH l):vc Tryz.prog ({ uW with loops:=AY [(3,{ T:=Nat,keep:=[0],keepO:=[],chg:=fun i=>[(3,.p (.int .i64 ((Cb l i:Nat):Int))),(4,.p (.int .i64 (i:Int)))],own:=fun _=>[],inv:=fun i=>i<=l.n,mu:=fun i=>l.n-i })],rfs:=AU [] }) (Af Tryz.f71) (Ar Tryz.f71 [.p (.sl 2 l.n (fun i=>[.int .i64 ((l.g i).x),.int .i64 ((l.g i).y)]))]) (EM Tryz.prog Tryz.f71 (Nat) (XI l) 39 2 (XJ l) (XK l)):=
 @Eq.mpr _ (let I:=SV.int .i64;let T:=Ad6;let A9:=(1:Int);let A8:=(140737488355328:Nat);let A4:=(0:Int);let A3:=(l.n=l.n/\∀(i:Nat),let A7:=[I (l.g i).x,I (l.g i).y];i<l.n->A7=A7);let A2:=(↑l.n:Int);(∃(g:Nat),A4=(↑(Cb l g):Int)/\A4=(↑g:Int)/\g<=l.n)/\∀(g:Nat),let A5:=(↑g:Int);let A1:=(↑(Cb l g):Int);let A6:=(A2-A1);g<=l.n->(decide (A5<A2)=true->(A4<=A5/\A5<A2)/\(A4<=A1/\A1<A2)/\True/\(decide (BK (l.g (T A5)) (l.g (T A1))<A4)=true->Ac .i64 (A5+A9)/\∃(g':Nat),A5=(↑(Cb l g'):Int)/\A5+A9=(↑g':Int)/\A3/\g'<=l.n/\l.n-g'<l.n-g)/\(decide (BK (l.g (T A5)) (l.g (T A1))<A4)=false->Ac .i64 (A5+A9)/\∃(g':Nat),A1=(↑(Cb l g'):Int)/\A5+A9=(↑g':Int)/\A3/\g'<=l.n/\l.n-g'<l.n-g))/\(decide (A5<A2)=false->(A4<=A1/\A1<=A2/\A2<=A2)/\(nat_lit 0+T A6)*nat_lit 16<=A8/\(A4<=A4/\A4<=A1/\A1<=A2)/\(nat_lit 0+T A6+T (A1-A4))*nat_lit 16<=A8/\∃(t:Nat),(nat_lit 0+T A6+T (A1-A4)=l.n/\∀(i:Nat),i<nat_lit 0+T A6+T (A1-A4)->Ba (nat_lit 0+T A6) (Ba (nat_lit 0) (fun(x:Nat)=>[]) fun(i:Nat)=>[I (l.g (T A1+i)).x,I (l.g (T A1+i)).y]) (fun(i:Nat)=>[I (l.g (T A4+i)).x,I (l.g (T A4+i)).y]) i = [I (DJ l i).x,I (DJ l i).y])/\True)) (by kernel_rfl) (by
 conv=>zeta
 obtain⟨h1,hn⟩:=hp;refine⟨⟨(0:Nat),rfl,rfl,Ads _⟩,fun g hg=>⟨fun hlt=>?_,fun hge=>?_⟩⟩
 ·have hb:(g:Int)<(l.n:Int):=of_decide_eq_true hlt;have e0:((g:Int)).toNat=g:=Ad3 g;have ha:=Xz h1 g hg;have e1:((Cb l g:Int)).toNat=Cb l g:=Ad3 _;rw[e0,e1];have hs:Cb l (g+1)=bif decide (BK (l.g g) (l.g (Cb l g))<0)then g else Cb l g:=rfl;refine⟨⟨by omega,hb⟩,⟨by omega,by omega⟩,trivial,fun h=>?_,fun h=>?_⟩
  ·rw[h]at hs;exact⟨jK,g+1,by rw[hs];rfl,by omega,⟨rfl,fun _ _=>rfl⟩,by omega,by omega⟩
  ·rw[h]at hs;exact⟨jK,g+1,by rw[hs];rfl,by omega,⟨rfl,fun _ _=>rfl⟩,by omega,by omega⟩
 ·have hb:¬ (g:Int)<(l.n:Int):=of_decide_eq_false hge;obtain rfl:g=l.n:=by omega
  have ha:=Xz h1 l.n (Adp _);have e1:((Cb l l.n:Int)).toNat=Cb l l.n:=Ad3 _;refine⟨⟨by omega,by omega,AdQ _⟩,show(0+((l.n:Int)-(Cb l l.n:Int)).toNat)*16<=140737488355328 by omega,⟨AdQ _,by omega,by omega⟩,show(0+((l.n:Int)-(Cb l l.n:Int)).toNat+((Cb l l.n:Int)-0).toNat)*16<=140737488355328 by omega,(0:Nat),⟨show 0+((l.n:Int)-(Cb l l.n:Int)).toNat+((Cb l l.n:Int)-0).toNat=l.n by omega,fun i _=>?_⟩,trivial⟩;have e2:0+((l.n:Int)-(Cb l l.n:Int)).toNat=l.n-Cb l l.n:=by omega
  rw[e1,e2];unfold Ba;have w:DJ l i=bif decide (i<l.n-Cb l l.n)then l.g (Cb l l.n+i)else l.g (i-(l.n-Cb l l.n)):=rfl
  by_cases h:i<l.n-Cb l l.n
  ·rw[if_pos h,w,decide_eq_true h,if_neg (oE _)];rfl
  ·rw[if_neg h,w,decide_eq_false h];show [SV.int .i64 (l.g (0+(i-(l.n-Cb l l.n)))).x,SV.int .i64 (l.g (0+(i-(l.n-Cb l l.n)))).y]=_;rw[AdE];rfl)
theorem uY:AB Tryz.prog 71 XM:=Ge Tryz.func71 (c:=Af Tryz.f71) (by kernel_rfl) mixed (fun args p q n g hs hp=>by
 unfold XL at hs;split at hs
 ·cases hs;exact⟨_,_,uX _ hp.2,(.p (.sl hp.1) .nil),⟨show Aa Tryz.prog _ from(Aa.cons WS WT Aa.nil),rfl,⟨show Ae Tryz.prog _ from Ae.nil,(AC.none (fun _=>rfl))⟩⟩⟩
 ·cases hs)
theorem uZ:Ao Tryz.prog 71:=fun args w=>by kernel_rfl
def Bd (l:L.Sq L.Pt) (i:Nat):Bool:=bif decide (i=0)then true else !Bt (l.g i) (l.g (i-1))
def DA (l:L.Sq L.Pt):Nat:=AD (Bd l) l.n
def Do (l:L.Sq L.Pt) (i:Nat):L.Pt:=bif decide (i<DA l)then l.g (B2 (Bd l) l.n i)else⟨0,0⟩
def Cp (l:L.Sq L.Pt):L.Sq L.Pt:=⟨DA l,Do l⟩
def CI (l:L.Sq L.Pt) (j:Nat) (i:Nat):L.Pt:=bif decide (i<AD (Bd l) j)then l.g (B2 (Bd l) j i)else l.g i
theorem Nv {p:Nat->Bool}:∀{k:Nat},(∀j,j<k->p j=true)->AD p k=k/\∀i,i<k->B2 p k i=i
 |0,_=>⟨rfl,fun i hi=>absurd hi (oE _)⟩
 |k+1,h=>by
   obtain⟨h1,h2⟩:=Nv (p:=p) (k:=k) (fun j hj=>h j (by omega));have hk:=h k (by omega);refine⟨by rw[If hk,h1],fun i hi=>?_⟩
   by_cases e:i=k
   ·subst e;have:=IT hk;rwa[h1]at this
   ·rw[IU (by omega),h2 i (by omega)]
theorem vA {l:L.Sq L.Pt} {k:Nat} (h:∀j,j<k->Bd l j=true) (i:Nat):CI l k i=l.g i:=by
 obtain⟨h1,h2⟩:=Nv h;unfold CI;rw[h1]
 by_cases hi:i<k
 ·rw[decide_eq_true hi,h2 i hi];rfl
 ·rw[decide_eq_false hi];rfl
theorem vB {l:L.Sq L.Pt} {j:Nat} (h:Bd l j=true) (i:Nat):CI l (j+1) i=if i=AD (Bd l) j then l.g j else CI l j i:=by
 unfold CI;rw[If h]
 by_cases e:i=AD (Bd l) j
 ·rw[if_pos e,decide_eq_true (by omega),e,IT h];rfl
 ·rw[if_neg e]
  by_cases hi:i<AD (Bd l) j
  ·rw[decide_eq_true hi,decide_eq_true (show i<AD (Bd l) j+1 by omega),IU e]
  ·rw[decide_eq_false hi,decide_eq_false (show ¬ i<AD (Bd l) j+1 by omega)];rfl
theorem XN {l:L.Sq L.Pt} {j:Nat} (h:Bd l j=false) (i:Nat):CI l (j+1) i=CI l j i:=by
 unfold CI;rw[Hy h,IV h]
theorem XO {l:L.Sq L.Pt} {j i:Nat} (h:AD (Bd l) j<=i):CI l j i=l.g i:=by
 unfold CI;rw[decide_eq_false (by omega)];rfl
def Fh (l:L.Sq L.Pt) (i:Nat):Bool:=bif Bt (Gj l.g l.n (DJ l 0) (i+1)) (DJ l 0)then true else decide ((400:Int)<((i+1:Nat):Int))
def AW (l:L.Sq L.Pt):Nat:=(B4 401 (Fh l)).toNat+1
def AT (l:L.Sq L.Pt) (k:Nat):L.Pt:=Gj l.g l.n (DJ l 0) k
theorem PW {g:Nat->L.Pt} {f:L.Pt} (hf:Au f):∀{n:Nat},(∀i,i<n->Au (g i))->Au (Ce g f n)
 |0,_=>hf
 |n+1,h=>by
   unfold Ce;cases Fg f (Ce g f n) (g n)with
   |true=>exact h n (by omega)
   |false=>exact PW hf (fun i hi=>h i (by omega))
theorem PX {l:L.Sq L.Pt} (h1:1<=l.n):∃j,j<l.n/\DJ l 0=l.g j:=by
 obtain⟨_,h2,_⟩:=Nu l (l.n-1);rw[show l.n-1+1=l.n by omega]at h2;refine⟨LC l,by unfold LC;omega,?_⟩;unfold DJ PA;dsimp only;rw[decide_eq_true (by unfold LC;omega)];rfl
theorem vC {l:L.Sq L.Pt} (h1:1<=l.n):DJ l 0=FG l (l.n-1):=by
 obtain⟨h0,h2,_⟩:=Nu l (l.n-1);rw[show l.n-1+1=l.n by omega]at h0 h2;rw[<- h0];unfold DJ PA;dsimp only;rw[decide_eq_true (by unfold LC;omega)];rfl
theorem vD {l:L.Sq L.Pt} (h1:1<=l.n) (h:∀i,i<l.n->Au (l.g i)):Au (DJ l 0):=by
 obtain⟨j,hj,e⟩:=PX h1;rw[e];exact h j hj
theorem XP {l:L.Sq L.Pt} (h1:1<=l.n) (h:∀i,i<l.n->Au (l.g i)):∀k,Au (AT l k)
 |0=>vD h1 h
 |k+1=>PW (XP h1 h k) h
theorem vE (f t q:L.Pt):(bif bif (decide (t.x=f.x)&&decide (t.y=f.y))then true else decide (Ax f t q<0)then true else bif decide (Ax f t q=0)then decide (D5 f t<D5 f q)else false)=Fg f t q:=by
 unfold Fg;cases decide (t.x=f.x)<;>cases decide (t.y=f.y)<;>cases decide (Ax f t q<0)<;>rfl
theorem Jc {f:Nat->Bool}:∀{n:Nat},(B4 n f = -1/\∀j,j<n->f j=false)\/∃i:Nat,i<n/\B4 n f=(i:Int)/\f i=true/\∀j,j<i->f j=false
 |0=>.inl ⟨rfl,fun j hj=>absurd hj (oE _)⟩
 |n+1=>by
   rcases Jc (f:=f) (n:=n)with ⟨h1,h2⟩|⟨i,h1,h2,h3,h4⟩
   ·cases hf:f n with
    |true=>exact .inr ⟨n,Ae3 n,by simp[B4,h1,hf],hf,h2⟩
    |false =>
      refine .inl ⟨by simp[B4,h1,hf],fun j hj=>?_⟩;rcases Ad1.1 hj with h|rfl
      ·exact h2 j h
      ·exact hf
   ·exact .inr ⟨i,by omega,by simp[B4,h2],h3,h4⟩
theorem XQ {l:L.Sq L.Pt} {g:Nat} (hg:g<=400) (h0:∀i,i<g->Fh l i=false) (h1:Fh l g=true):AW l=g+1:=by
 have:B4 401 (Fh l)=(g:Int):=by
  rcases Jc (f:=Fh l) (n:=401)with ⟨_,h⟩|⟨i,hi,e,h2,h3⟩
  ·rw[h g (by omega)]at h1;cases h1
  ·rw[e];rcases Aev i g with q|q|q
   ·rw[h0 i q]at h2;cases h2
   ·rw[q]
   ·rw[h3 g q]at h1;cases h1
 unfold AW;rw[this,Ad3]
def Dy (l:L.Sq L.Pt) (m:Nat):Int:=bif (bif decide (400<(l.n:Int))then true else !DH l)then 1 else bif Fu l then 11 else bif decide (24<(m:Int))then 2 else 0
theorem XR {a b:L.Pt}:DT a b↔Dg 1 a b:=by
 unfold DT Dg CH;rw[L4,Int.one_mul,Int.one_mul];omega
structure vF (l:L.Sq L.Pt) (j:Nat):Prop where
 lt:∀i,i<AD (Bd l) j->B2 (Bd l) j i<j
 all:∀q,q<j->∃i,i<AD (Bd l) j/\l.g (B2 (Bd l) j i)=l.g q
 asc:∀i k,i<k->k<AD (Bd l) j->BI 1 (l.g (B2 (Bd l) j i)) (l.g (B2 (Bd l) j k))
 last:0<j->0<AD (Bd l) j/\l.g (B2 (Bd l) j (AD (Bd l) j-1))=l.g (j-1)
theorem XS {l:L.Sq L.Pt} (h:∀i,i+1<l.n->Dg 1 (l.g i) (l.g (i+1))):∀j,j<=l.n->vF l j
 |0,_=>⟨fun i hi=>absurd hi (oE _),fun q hq=>absurd hq (oE _),fun i k _ hk=>absurd hk (oE _),fun h=>absurd h (Nat.lt_irrefl _)⟩
 |j+1,hj=>by
   obtain⟨h1,h2,h3,h4⟩:=XS h j (by omega);cases hp:Bd l j with
   |true =>
     have hc:=If hp;have hn:=IT hp;have ho:∀i,i<AD (Bd l) j->B2 (Bd l) (j+1) i=B2 (Bd l) j i:=fun i hi=>IU (by omega);refine⟨fun i hi=>?_,fun q hq=>?_,fun i k hik hk=>?_,fun _=>?_⟩
     ·rw[hc]at hi
      by_cases e:i=AD (Bd l) j
      ·rw[e,hn];omega
      ·rw[ho i (by omega)];have:=h1 i (by omega);omega
     ·by_cases e:q=j
      ·exact⟨AD (Bd l) j,by omega,by rw[hn,e]⟩
      ·obtain⟨i,hi,e2⟩:=h2 q (by omega);exact⟨i,by omega,by rw[ho i hi];exact e2⟩
     ·rw[hc]at hk
      by_cases e:k=AD (Bd l) j
      ·subst e;rw[ho i hik,hn];have h0:0<j:=by
        rcases Ae1 j with g|g
        ·subst g;exact absurd hik (oE _)
        ·exact g
       obtain⟨l1,l2⟩:=h4 h0;have hlt:BI 1 (l.g (j-1)) (l.g j):=by
        have hle:=h (j-1) (by omega);rw[show j-1+1=j by omega]at hle;rcases Nn (.inl rfl) hle with g|g
        ·exfalso;unfold Bd at hp;rw[decide_eq_false (by omega),cond_false,g,GX]at hp;cases hp
        ·exact g
       by_cases e2:i=AD (Bd l) j-1
       ·rw[e2,l2];exact hlt
       ·have:=h3 i (AD (Bd l) j-1) (by omega) (by omega);rw[l2]at this;exact L6 this hlt
      ·rw[ho i (by omega),ho k (by omega)];exact h3 i k hik (by omega)
     ·rw[hc,Nat.add_sub_cancel,hn];exact⟨Nat.succ_pos _,rfl⟩
   |false =>
     have hc:=Hy hp;have ho:∀i,B2 (Bd l) (j+1) i=B2 (Bd l) j i:=fun i=>IV hp;have h0:0<j:=by
      rcases Ae1 j with g|g
      ·subst g;exact absurd (show Bd l 0=true from rfl) (by rw[hp];exact Bool.noConfusion)
      ·exact g
     have hs:l.g j=l.g (j-1):=by
      unfold Bd at hp;rw[decide_eq_false (by omega),cond_false]at hp;exact IZ (Cl hp)
     obtain⟨l1,l2⟩:=h4 h0;refine⟨fun i hi=>?_,fun q hq=>?_,fun i k hik hk=>?_,fun _=>?_⟩
     ·rw[ho];rw[hc]at hi;have:=h1 i hi;omega
     ·by_cases e:q=j
      ·exact⟨AD (Bd l) j-1,by omega,by rw[ho,l2,e,hs]⟩
      ·obtain⟨i,hi,e2⟩:=h2 q (by omega);exact⟨i,by omega,by rw[ho];exact e2⟩
     ·rw[ho,ho];exact h3 i k hik (by omega)
     ·rw[hc,ho];exact⟨l1,by rw[l2,Nat.add_sub_cancel,hs]⟩
theorem vG {l:L.Sq L.Pt} {i:Nat} (h:i+1<l.n):Dg 1 ((Aw l).g i) ((Aw l).g (i+1)):=by
 have hl:(Es (Df l)).length=l.n:=by rw[(H0 _).length_eq];simp[Df]
 have:=Aed.1 (Nj (Df l)) i (i+1) (by omega) (by omega) (Ae3 _);rw[XR]at this;show Dg 1 ((Es (Df l)).getD i ⟨0,0⟩) ((Es (Df l)).getD (i+1) ⟨0,0⟩);rw[AS,AS,rH (by omega),rH (by omega)];exact this
theorem PY (l:L.Sq L.Pt) {i:Nat} (hi:i<l.n):∃k,k<l.n/\(Aw l).g k=l.g i:=by
 have hl:(Es (Df l)).length=l.n:=by rw[(H0 _).length_eq];simp[Df]
 have hm:l.g i∈Es (Df l):=(H0 _).mem_iff.2 (List.mem_map.2 ⟨i,List.mem_range.2 hi,rfl⟩);obtain⟨k,hk,e⟩:=List.getElem_of_mem hm;refine⟨k,by omega,?_⟩;show(Es (Df l)).getD k ⟨0,0⟩=_;rw[AS,rH hk];exact e
theorem PZ (l:L.Sq L.Pt):(∀i k,i<k->k<(Cp (Aw l)).n->BI 1 ((Cp (Aw l)).g i) ((Cp (Aw l)).g k))/\(∀i,i<(Cp (Aw l)).n->∃j,j<l.n/\(Cp (Aw l)).g i=l.g j)/\(∀j,j<l.n->∃i,i<(Cp (Aw l)).n/\(Cp (Aw l)).g i=l.g j)/\(Cp (Aw l)).n<=l.n:=by
 obtain⟨h1,h2,h3,_⟩:=XS (l:=Aw l) (fun i hi=>vG hi) l.n (Adp _);have e:∀i,i<DA (Aw l)->(Cp (Aw l)).g i=(Aw l).g (B2 (Bd (Aw l)) l.n i):=fun i hi=>by
  show Do (Aw l) i=_;unfold Do;rw[decide_eq_true hi];rfl
 refine⟨fun i k hik hk=>?_,fun i hi=>?_,fun j hj=>?_,IS⟩
 ·have hk:k<DA (Aw l):=hk;rw[e i (by omega),e k hk];exact h3 i k hik hk
 ·obtain⟨j,hj,e2⟩:=Ka l (h1 i hi);exact⟨j,hj,(e i hi).trans e2⟩
 ·obtain⟨k,hk,e2⟩:=PY l hj;obtain⟨i,hi,e3⟩:=h2 k hk;exact⟨i,hi,((e i hi).trans e3).trans e2⟩
theorem XT {l:L.Sq L.Pt} (h:X4 l):2<=(Cp (Aw l)).n:=by
 obtain⟨i,j,hi,hj,hne⟩:=h;obtain⟨_,_,h3,_⟩:=PZ l;obtain⟨a,ha,ea⟩:=h3 i hi;obtain⟨b,hb,eb⟩:=h3 j hj;have:a≠b:=fun e=>hne (by rw[<- ea,<- eb,e]);omega
theorem vH {l:L.Sq L.Pt} (h:l.n<3):Fu l=true:=by
 by_cases hall:∀j,j<l.n->l.g j=l.g 0
 ·exact uG hall
 ·have h2 : l.n = 2 :=by
   by_cases h0:l.n=2
   ·exact h0
   ·exact absurd (fun j hj=>by rw[show j=0 by omega]) hall
  have hne:l.g 1≠l.g 0:=fun e=>hall (fun j hj=>by
   rcases(show j=0\/j=1 by omega)with rfl|rfl
   ·rfl
   ·exact e)
  have hf:=X5 (l:=l) (k:=1) (by omega) (fun j hj=>by rw[show j=0 by omega]) hne;unfold Fu;rw[hf,decide_eq_false (show ¬ ((1:Nat):Int)<0 by omega),cond_false,pD (fun i hi=>?_)]
  ·rfl
  ·rcases(show i=0\/i=1 by omega)with rfl|rfl
   ·show(!decide (Ax (l.g 0) (l.g 1) (l.g 0)=0))=false;rw[decide_eq_true (PP _ _)];rfl
   ·show(!decide (Ax (l.g 0) (l.g 1) (l.g 1)=0))=false;rw[decide_eq_true (PO _ _)];rfl
abbrev Kf:Tr:={ T:=(L.Sq L.Pt),U:=Nat,args:=fun t=>(fun l=>[.row 1022]) t,own:=fun t=>(fun l=>[(1022,.row 39 2 l.n (fun k=>[.int .i64 ((l.g k).x),.int .i64 ((l.g k).y)]))]) t,pre:=fun t=>(fun l=>l.n<=1000000) t,post:=fun t u=>(fun l=>fun u=>True) t u,own':=fun t u=>(fun l=>fun u=>[(1022,.row 39 2 l.n (fun k=>[.int .i64 ((Do l k).x),.int .i64 ((Do l k).y)]))]) t u,res:=fun t u=>(fun l=>fun u=>.rsub 1022 2 0 (DA l)) t u }
theorem vI (l:L.Sq L.Pt) (hp:Kf.pre l):vc Tryz.prog ({ muts:=[],frz:=BH [],specs:=AF [],loops:=AY [(4,{ T:=Nat,keep:=[0],keepO:=[1022],chg:=fun k=>[(3,.p (.int .i64 (k:Int)))],own:=fun _=>[],inv:=fun k=>1<=k/\k<=l.n/\∀j,j<k->Bd l j=true,mu:=fun k=>l.n-k }),(9,{ T:=Nat×Nat,keep:=[0],keepO:=[],chg:=fun g=>[(3,.p (.int .i64 (AD (Bd l) g.2:Int))),(4,.rsub 1022 2 g.1 (l.n-g.1)),(5,.p (.int .i64 ((g.2:Int)-(g.1:Int))))],own:=fun g=>[(1022,.row 39 2 l.n (fun k=>[.int .i64 ((CI l g.2 k).x),.int .i64 ((CI l g.2 k).y)]))],inv:=fun g=>1<=g.1/\g.1<g.2/\g.2<=l.n/\AD (Bd l) g.2<g.2,mu:=fun g=>l.n-g.2 })],iters:=B6 [],rfs:=AU [],nils:=BD [] }) (Af Tryz.f163) (D3 Tryz.f163 (Kf.args l) (Kf.own l)) (MW Tryz.prog Tryz.f163 Kf l):=
 @Eq.mpr _ (let I:=SV.int .i64;let T:=Ad6;let A16:=(1:Nat);let A15:=((0:Nat)=(0:Nat)/\DA l=l.n);let A13:=(Bd l);let A11:=(0:Int);let A10:=(l.n=l.n/\∀(i:Nat),i<l.n -> [I (l.g i).x,I (l.g i).y]= [I (Do l i).x,I (Do l i).y]);let A8:=(1:Int);let A6:=(↑l.n:Int);(decide (A6<(2:Int))=true->∃(u:Nat),A15/\A10/\True)/\(decide (A6<(2:Int))=false->(∃(g:Nat),A8=(↑g:Int)/\A16<=g/\g<=l.n/\∀(j:Nat),j<g->Bd l j=true)/\∀(g:Nat),let A7:=(↑g:Int);let A20:=(A7-A8);let A5:=(decide ((l.g (T A7)).x=(l.g (T A20)).x)&&decide ((l.g (T A7)).y=(l.g (T A20)).y));(A16<=g/\g<=l.n/\∀(j:Nat),j<g->Bd l j=true)->(decide (A7<A6)=true->(A11<=A7/\A7<A6)/\T A7<l.n/\Ac .i64 A20/\(A11<=A7-A8/\A7-A8<A6)/\T A20<l.n/\(A5=true->(A11<=A7/\A7<=A6/\A6<=A6)/\(∃(g_1:Nat×Nat),A7=(↑(AD A13 g_1.2):Int)/\(T A7=g_1.1/\T (A6-A7)=l.n-g_1.1)/\A8=(↑g_1.2:Int)-(↑g_1.1:Int)/\(l.n=l.n/\∀(i:Nat),i<l.n -> [I (l.g i).x,I (l.g i).y]= [I (CI l g_1.2 i).x,I (CI l g_1.2 i).y])/\A16<=g_1.1/\g_1.1<g_1.2/\g_1.2<=l.n/\AD A13 g_1.2<g_1.2)/\∀(g_1:Nat×Nat),let A12:=(↑(l.n-g_1.1):Int);let A4:=(↑g_1.1:Int);let A3:=(↑g_1.2:Int);let A19:=(A3-A4-A8);let A17:=(A11<=A3-A4/\A3-A4<A12);let A14:=(CI l g_1.2 (g_1.1+T A19));let A9:=(CI l g_1.2 (g_1.1+T (A3-A4)));let A2:=(!(decide (A9.x=A14.x)&&decide (A9.y=A14.y)));let A1:=(↑(AD A13 g_1.2):Int);A16<=g_1.1/\g_1.1<g_1.2/\g_1.2<=l.n/\AD A13 g_1.2<g_1.2->(decide (A3-A4<A12)=true->A17/\g_1.1+T (A3-A4)<l.n/\Ac .i64 A19/\(A11<=A3-A4-A8/\A3-A4-A8<A12)/\g_1.1+T A19<l.n/\(A2=true->A17/\g_1.1+T (A3-A4)<l.n/\(A11<=A1/\A1<A6)/\T A1<l.n/\Ac .i64 (A1+A8)/\Ac .i64 (A3-A4+A8)/\∃(g':Nat×Nat),A1+A8=(↑(AD A13 g'.2):Int)/\(g_1.1=g'.1/\l.n-g_1.1=l.n-g'.1)/\A3-A4+A8=(↑g'.2:Int)-(↑g'.1:Int)/\(l.n=l.n/\∀(i:Nat),i<l.n->setRow (fun(k:Nat)=>[I (CI l g_1.2 k).x,I (CI l g_1.2 k).y]) (T A1) (nat_lit 0) [I A9.x,I A9.y] i = [I (CI l g'.2 i).x,I (CI l g'.2 i).y])/\(A16<=g'.1/\g'.1<g'.2/\g'.2<=l.n/\AD A13 g'.2<g'.2)/\l.n-g'.2<l.n-g_1.2)/\(A2=false->Ac .i64 (A3-A4+A8)/\∃(g':Nat×Nat),A1=(↑(AD A13 g'.2):Int)/\(g_1.1=g'.1/\l.n-g_1.1=l.n-g'.1)/\A3-A4+A8=(↑g'.2:Int)-(↑g'.1:Int)/\(l.n=l.n/\∀(i:Nat),i<l.n -> [I (CI l g_1.2 i).x,I (CI l g_1.2 i).y]= [I (CI l g'.2 i).x,I (CI l g'.2 i).y])/\(A16<=g'.1/\g'.1<g'.2/\g'.2<=l.n/\AD A13 g'.2<g'.2)/\l.n-g'.2<l.n-g_1.2))/\(decide (A3-A4<A12)=false->(A11<=A1/\A1<=A6/\A6<=A6)/\T A1+T (A6-A1)<=l.n/\(A11<=A11/\A11<=A1/\A1<=A6)/\∃(u:Nat),(nat_lit 0=(0:Nat)/\T (A1-A11)=DA l)/\(l.n=l.n/\∀(i:Nat),i<l.n->I6 (T A1) (T (A6-A1)) [I A11,I A11] (fun(k:Nat)=>[I (CI l g_1.2 k).x,I (CI l g_1.2 k).y]) i = [I (Do l i).x,I (Do l i).y])/\True))/\(A5=false->Ac .i64 (A7+A8)/\∃(g':Nat),A7+A8=(↑g':Int)/\(l.n=l.n/\∀(i:Nat),let A18:=[I (l.g i).x,I (l.g i).y];i<l.n->A18=A18)/\(A16<=g'/\g'<=l.n/\∀(j:Nat),j<g'->Bd l j=true)/\l.n-g'<l.n-g))/\(decide (A7<A6)=false->∃(u:Nat),A15/\A10/\True))) (by kernel_rfl) (by
 conv=>zeta
 have hn:l.n<=1000000:=hp;have hN:∀j,1<=j->Bd l j = !Bt (l.g j) (l.g (j-1)):=fun j hj=>by
  unfold Bd;rw[decide_eq_false (by omega)];rfl
 have full:(∀j,j<l.n->Bd l j=true)->∃u:Nat,(0=0/\DA l=l.n)/\(l.n=l.n/\∀i:Nat,i<l.n -> [SV.int .i64 (l.g i).x,SV.int .i64 (l.g i).y]= [SV.int .i64 (Do l i).x,SV.int .i64 (Do l i).y])/\True:=fun h=>by
  obtain⟨c1,c2⟩:=Nv h;refine⟨(0:Nat),⟨rfl,c1⟩,⟨rfl,fun i hi=>?_⟩,trivial⟩;have:Do l i=l.g i:=by
   unfold Do DA;rw[c1,decide_eq_true hi,c2 i hi];rfl
  rw[this]
 refine⟨fun h=>full (fun j hj=>?_),fun h=>⟨⟨1,rfl,Adp _,?_,fun j hj=>?_⟩,fun g hg=>⟨fun hlt=>?_,fun hge=>?_⟩⟩⟩
 ·have h:=of_decide_eq_true h;rw[show j=0 by omega];rfl
 ·have h:=of_decide_eq_false h;omega
 ·rw[show j=0 by omega];rfl
 rotate_left
 ·have hge:¬ (g:Int)<(l.n:Int):=of_decide_eq_false hge;exact full (fun j hj=>hg.2.2 j (by omega))
 have hlt:(g:Int)<(l.n:Int):=of_decide_eq_true hlt;obtain⟨g1,g2,g3⟩:=hg;have e0:((g:Int)).toNat=g:=Ad3 g;have e1:((g:Int)-1).toNat=g-1:=by omega
 rw[e0,e1];refine⟨⟨by omega,hlt⟩,by omega,jK,⟨by omega,by omega⟩,by omega,fun hd=>?_,fun hd=>?_⟩;rotate_left
 ·have hd:Bt (l.g g) (l.g (g-1))=false:=hd;have hp0:Bd l g=true:=by rw[hN g g1,hd];rfl
  refine⟨jK,g+1,rfl,⟨rfl,fun _ _=>rfl⟩,⟨by omega,by omega,fun j hj=>?_⟩,by omega⟩;rcases Ad1.1 hj with h'|rfl
  ·exact g3 j h'
  ·exact hp0
 have hd:Bt (l.g g) (l.g (g-1))=true:=hd;have hp0:Bd l g=false:=by rw[hN g g1,hd];rfl
 have hcg:AD (Bd l) g=g:=(Nv g3).1;have hc1:AD (Bd l) (g+1)=g:=by rw[Hy hp0,hcg]
 refine⟨⟨by omega,by omega,AdQ _⟩,⟨(g,g+1),by rw[hc1],⟨rfl,by omega⟩,by show(1:Int)=((g+1:Nat):Int)-(g:Int);omega,⟨rfl,fun i hi=>?_⟩,g1,by show g<g+1;omega,by show g+1<=l.n;omega,by show AD (Bd l) (g+1)<g+1;omega⟩,fun q hq=>?_⟩
 ·rw[XN hp0,vA g3]
 obtain⟨k0,j⟩:=q;obtain⟨h1,h2,h3,h4⟩:=hq;dsimp only at h1 h2 h3 h4 ⊢;have e2:k0+((j:Int)-(k0:Int)).toNat=j:=by omega
 have e3:k0+((j:Int)-(k0:Int)-1).toNat=j-1:=by omega
 have e4:((AD (Bd l) j:Nat):Int).toNat=AD (Bd l) j:=Ad3 _;rw[e2,e3,e4,XO (show AD (Bd l) j<=j by omega),XO (show AD (Bd l) j<=j-1 by omega)];refine⟨fun hj=>?_,fun hj=>?_⟩
 ·have hj:(j:Int)-(k0:Int)<((l.n-k0:Nat):Int):=of_decide_eq_true hj;have hjn:j<l.n:=by omega
  refine⟨⟨by omega,hj⟩,by omega,jK,⟨by omega,by omega⟩,by omega,fun hd2=>?_,fun hd2=>?_⟩
  ·have hp1:Bd l j=true:=(hN j (by omega)).trans hd2;have hc2:=If hp1;refine⟨⟨by omega,hj⟩,by omega,⟨by omega,by omega⟩,by omega,jK,jK,(k0,j+1),by show _=((AD (Bd l) (j+1):Nat):Int);omega,⟨rfl,rfl⟩,by show _=((j+1:Nat):Int)-(k0:Int);omega,⟨rfl,fun i hi=>?_⟩,⟨h1,by show k0<j+1;omega,by show j+1<=l.n;omega,by show AD (Bd l) (j+1)<j+1;omega⟩,by show l.n-(j+1)<l.n-j;omega⟩;rw[vB hp1];unfold setRow
   by_cases eq:i=AD (Bd l) j
   ·rw[if_pos eq,if_pos eq];rfl
   ·rw[if_neg eq,if_neg eq]
  ·have hp1:Bd l j=false:=(hN j (by omega)).trans hd2;have hc2:=Hy hp1;refine⟨jK,(k0,j+1),by show _=((AD (Bd l) (j+1):Nat):Int);omega,⟨rfl,rfl⟩,by show _=((j+1:Nat):Int)-(k0:Int);omega,⟨rfl,fun i hi=>by rw[XN hp1]⟩,⟨h1,by show k0<j+1;omega,by show j+1<=l.n;omega,by show AD (Bd l) (j+1)<j+1;omega⟩,by show l.n-(j+1)<l.n-j;omega⟩
 ·have hj:¬ (j:Int)-(k0:Int)<((l.n-k0:Nat):Int):=of_decide_eq_false hj;obtain rfl:j=l.n:=by omega
  have e5:((l.n:Int)-((AD (Bd l) l.n:Nat):Int)).toNat=l.n-AD (Bd l) l.n:=by omega
  refine⟨⟨by omega,by omega,AdQ _⟩,by omega,⟨by omega,by omega,by omega⟩,(0:Nat),⟨rfl,by show(((AD (Bd l) l.n:Nat):Int)-0).toNat=AD (Bd l) l.n;omega⟩,⟨rfl,fun i hi=>?_⟩,trivial⟩;rw[e5];unfold I6
  by_cases hi':i<AD (Bd l) l.n
  ·rw[if_neg (by omega)];have:CI l l.n i=Do l i:=by
    unfold CI Do DA;rw[decide_eq_true hi'];rfl
   dsimp only;rw[this]
  ·rw[if_pos ⟨by omega,by omega⟩];have:Do l i=⟨0,0⟩:=by
    unfold Do DA;rw[decide_eq_false hi'];rfl
   rw[this])
theorem vJ:Ao Tryz.prog 163:=fun args w=>by kernel_rfl
theorem vK:F7 Tryz.prog 163 Kf:=Pk (ks:=[1022]) (n:=1) Tryz.func163 (c:=Af Tryz.f163) (by kernel_rfl) mixed ⟨fun t=>rfl,fun t=>rfl,fun t u=>rfl,fun t u=>rfl,fun t u=>rfl,by kernel_rfl⟩ (fun l hp=>⟨_,vI l hp,⟨show Aa Tryz.prog _ from Aa.nil,rfl,⟨show Ae Tryz.prog _ from Ae.nil,(AC.none (fun _=>rfl))⟩⟩⟩)
def XU (l:(L.Sq L.Pt)):Prop:=1<=l.n/\l.n<=1000/\∀k,k<l.n->Au (l.g k)
def XV (l:(L.Sq L.Pt)):SV:=.sl 2 (AW l) (fun k=>[.int .i64 ((AT l k).x),.int .i64 ((AT l k).y)])
def XW:List EV->Option (Prop×SV)
 |[.p (.sl 2 l_n l_g)]=>some ((∀i,i<l_n->l_g i = [.int .i64 ((Ai (l_g i)).x),.int .i64 ((Ai (l_g i)).y)])/\XU (⟨l_n,fun i=>Ai (l_g i)⟩:(L.Sq L.Pt)),XV (⟨l_n,fun i=>Ai (l_g i)⟩:(L.Sq L.Pt)))
 |_=>none
abbrev XX:SE.Spec:=(AM XW)
def vL:Aj:={ cC with muts:=[14],specs:=AF [(71,XM),(12,Kd),(72,WO)] }
theorem vM (l:(L.Sq L.Pt)) (hp:XU l):vc Tryz.prog ({ vL with loops:=AY [(3,{ T:=Nat,keep:=[0,3],keepO:=[3],chg:=fun k=>[(4,.row 14)],own:=fun k=>[(14,.row 39 2 (k+1) (fun k=>[.int .i64 ((AT l k).x),.int .i64 ((AT l k).y)]))],inv:=fun k=>k<=400/\∀i,i<k->Fh l i=false,mu:=fun k=>401-k }),(6,{ T:=Nat×Nat,keep:=[0,3,4,5,6,18],keepO:=[3],tie:=fun g=>[(18,.int .i64 (g.1:Int))],chg:=fun g=>[(7,.p (.int .i64 (g.2:Int)))],own:=fun g=>[(14,.row 39 2 (g.1+1) (fun k=>[.int .i64 ((AT l k).x),.int .i64 ((AT l k).y)])),(5,.blk 39 [.p (.int .i64 (AT l g.1).x),.p (.int .i64 (AT l g.1).y)]),(6,.blk 39 [.p (.int .i64 (Ce l.g (AT l g.1) g.2).x),.p (.int .i64 (Ce l.g (AT l g.1) g.2).y)])],inv:=fun g=>g.2<=l.n,mu:=fun g=>l.n-g.2 })],rfs:=AU [] }) (Af Tryz.f34) (Ar Tryz.f34 [.p (.sl 2 l.n (fun i=>[.int .i64 ((l.g i).x),.int .i64 ((l.g i).y)]))]) (AL Tryz.prog Tryz.f34 (XV l)):=
 @Eq.mpr _ (let I:=SV.int .i64;let T:=Ad6;let A16:=(↑l.n:Int);let A12:=(0:Int);let A11:=(1:Int);let A10:=(1:Nat);let A8:=(l.n=l.n/\∀(i:Nat),let A24:=[I (l.g i).x,I (l.g i).y];i<l.n->A24=A24);let A2:=(DJ (L.Sq.mk l.n fun(i:Nat)=>l.g i) (T A12));((∀(i:Nat),let A25:=[I (l.g i).x,I (l.g i).y];i<l.n->A25=A25)/\A10<=l.n/\l.n<=(1000000:Nat))/\∀(t:Nat),True->(A12<=A12/\A12<A16)/\(∃(g:Nat),(nat_lit 1=g+A10/\∀(i:Nat),let A15:=(DJ (L.Sq.mk l.n fun(i:Nat)=>l.g i) (T A12));i<nat_lit 1->Bb [I A15.x,I A15.y] (nat_lit 2) i = [I (AT l i).x,I (AT l i).y])/\g<=(400:Nat)/\∀(i:Nat),i<g->Fh l i=false)/\∀(g:Nat),let A5:=(↑(g+A10):Int);let A14:=(AT l (T (A5-A11)));(g<=(400:Nat)/\∀(i:Nat),i<g->Fh l i=false)->Ac .i64 (A5-A11)/\(A12<=A5-A11/\A5-A11<A5)/\T (A5-A11)<g+A10/\(∃(g_1:Nat×Nat),let A17:=(AT l g_1.1);let A26:=(Ce l.g A17 g_1.2);A12=(↑g_1.2:Int)/\(g+A10=g_1.1+A10/\∀(i:Nat),let A20:=[I (AT l i).x,I (AT l i).y];i<g+A10->A20=A20)/\A14.x=A17.x/\A14.y=A17.y/\A14.x=A26.x/\A14.y=A26.y/\A5-A11=(↑g_1.1:Int)/\g_1.2<=l.n)/\∀(g_1:Nat×Nat),let A7:=(↑g_1.2:Int);let A29:=(A12<=A7/\A7<A16);let A13:=(l.g (T A7));let A6:=(AT l g_1.1);let A1:=(Ce l.g A6 g_1.2);let A9:=(bif decide (A1.x=A2.x)&&decide (A1.y=A2.y)then true else decide ((400:Int)<(↑(g_1.1+A10):Int)));let A4:=(bif bif decide (A1.x=A6.x)&&decide (A1.y=A6.y)then true else decide (Ax A6 A1 A13<A12)then true else bif decide (Ax A6 A1 A13=A12)then decide (D5 A6 A1<D5 A6 A13)else false);let A3:=((!bif decide (A1.x=A6.x)&&decide (A1.y=A6.y)then true else decide (Ax A6 A1 A13<A12))&&decide (Ax A6 A1 A13=A12));A5-A11=(↑g_1.1:Int)/\g_1.2<=l.n->(decide (A7<A16)=true->A29/\(Au A6/\Au A1/\Au A13)/\(A3=true->A12<=A7/\A7<A16)/\(A3=true->Au A6/\Au A13)/\(A3=true->Au A6/\Au A1)/\(A4=true->A29/\Ac .i64 (A7+A11)/\∃(g':Nat×Nat),let A18:=(AT l g'.1);let A27:=(Ce l.g A18 g'.2);A7+A11=(↑g'.2:Int)/\nat_lit 0=nat_lit 0/\nat_lit 0=nat_lit 0/\A5-A11=A5-A11/\nat_lit 0=nat_lit 0/\A8/\(g_1.1+A10=g'.1+A10/\∀(i:Nat),let A21:=[I (AT l i).x,I (AT l i).y];i<g_1.1+A10->A21=A21)/\A6.x=A18.x/\A6.y=A18.y/\A13.x=A27.x/\A13.y=A27.y/\A2.x=A2.x/\A2.y=A2.y/\(A5-A11=(↑g'.1:Int)/\g'.2<=l.n)/\l.n-g'.2<l.n-g_1.2)/\(A4=false->Ac .i64 (A7+A11)/\∃(g':Nat×Nat),let A19:=(AT l g'.1);let A28:=(Ce l.g A19 g'.2);A7+A11=(↑g'.2:Int)/\nat_lit 0=nat_lit 0/\nat_lit 0=nat_lit 0/\A5-A11=A5-A11/\nat_lit 0=nat_lit 0/\A8/\(g_1.1+A10=g'.1+A10/\∀(i:Nat),let A22:=[I (AT l i).x,I (AT l i).y];i<g_1.1+A10->A22=A22)/\A6.x=A19.x/\A6.y=A19.y/\A1.x=A28.x/\A1.y=A28.y/\A2.x=A2.x/\A2.y=A2.y/\(A5-A11=(↑g'.1:Int)/\g'.2<=l.n)/\l.n-g'.2<l.n-g_1.2))/\(decide (A7<A16)=false->(A9=true->g_1.1+A10=AW l/\∀(i:Nat),let A23:=[I (AT l i).x,I (AT l i).y];i<g_1.1+A10->A23=A23)/\(A9=false->(g_1.1+A10+nat_lit 1)*nat_lit 16<=(140737488355328:Nat)/\∃(g':Nat),nat_lit 0=nat_lit 0/\A8/\(g_1.1+A10+nat_lit 1=g'+A10/\∀(i:Nat),i<g_1.1+A10+nat_lit 1->Ba (g_1.1+A10) (fun(k:Nat)=>[I (AT l k).x,I (AT l k).y]) (fun(x:Nat)=>[I A1.x,I A1.y]) i = [I (AT l i).x,I (AT l i).y])/\A2.x=A2.x/\A2.y=A2.y/\(g'<=(400:Nat)/\∀(i:Nat),i<g'->Fh l i=false)/\(401:Nat)-g'<(401:Nat)-g))) (by kernel_rfl) (by
 conv=>zeta
 obtain⟨h1,hn,hb⟩:=hp;have hbw:=XP h1 hb;refine⟨⟨fun _ _=>rfl,h1,by omega⟩,fun _ _=>⟨⟨by omega,by omega⟩,⟨0,⟨rfl,fun i hi=>?_⟩,by omega,fun i hi=>absurd hi (oE _)⟩,fun g hg=>?_⟩⟩
 ·have hi:i<1:=hi;obtain rfl:i=0:=by omega
  rfl
 obtain⟨hg4,hgw⟩:=hg;have e1:(((g+1:Nat):Int)-1)=(g:Int):=by omega
 have e2:((g:Int)).toNat=g:=Ad3 g;rw[e1,e2];refine⟨jK,⟨by omega,by omega⟩,by omega,⟨(g,0),rfl,⟨rfl,fun _ _=>rfl⟩,rfl,rfl,rfl,rfl,rfl,Ads _⟩,?_⟩;rintro⟨g0,i⟩ ⟨q1,q2⟩;have q1:(g:Int)=(g0:Int):=q1;obtain rfl:g=g0:=by omega
 have q2:i<=l.n:=q2;dsimp only;refine⟨fun hlt=>?_,fun hge=>?_⟩
 ·have hlt:(i:Int)<(l.n:Int):=of_decide_eq_true hlt;have e3:((i:Int)).toNat=i:=Ad3 i;rw[e3,vE];have bs:Au (Ce l.g (AT l g) i):=PW (hbw g) (fun j hj=>hb j (by omega));have hs:Ce l.g (AT l g) (i+1)=bif Fg (AT l g) (Ce l.g (AT l g) i) (l.g i)then l.g i else Ce l.g (AT l g) i:=rfl;refine⟨⟨by omega,hlt⟩,⟨hbw g,bs,hb i (by omega)⟩,fun _=>⟨by omega,hlt⟩,fun _=>⟨hbw g,hb i (by omega)⟩,fun _=>⟨hbw g,bs⟩,fun hc=>?_,fun hc=>?_⟩
  ·rw[hc]at hs;exact⟨⟨by omega,hlt⟩,jK,(g,i+1),rfl,rfl,rfl,rfl,rfl,⟨rfl,fun _ _=>rfl⟩,⟨rfl,fun _ _=>rfl⟩,rfl,rfl,by rw[hs];rfl,by rw[hs];rfl,rfl,rfl,⟨rfl,by show i+1<=l.n;omega⟩,by show l.n-(i+1)<l.n-i;omega⟩
  ·rw[hc]at hs;exact⟨jK,(g,i+1),rfl,rfl,rfl,rfl,rfl,⟨rfl,fun _ _=>rfl⟩,⟨rfl,fun _ _=>rfl⟩,rfl,rfl,by rw[hs];rfl,by rw[hs];rfl,rfl,rfl,⟨rfl,by show i+1<=l.n;omega⟩,by show l.n-(i+1)<l.n-i;omega⟩
 ·have hge:¬ (i:Int)<(l.n:Int):=of_decide_eq_false hge;obtain rfl:i=l.n:=by omega
  refine⟨fun hc=>?_,fun hc=>?_⟩
  ·have hc:Fh l g=true:=hc;exact⟨(XQ hg4 hgw hc).symm,fun _ _=>rfl⟩
  ·have hc:Fh l g=false:=hc;have hg3:g≠400:=fun e=>by
    subst e;unfold Fh at hc;rw[Dl,AdD]at hc;exact absurd hc.2 (by decide)
   refine⟨show(g+1+1)*16<=140737488355328 by omega,g+1,rfl,⟨rfl,fun _ _=>rfl⟩,⟨rfl,fun i hi=>?_⟩,rfl,rfl,⟨by omega,fun j hj=>?_⟩,by omega⟩
   ·unfold Ba
    by_cases h':i<g+1
    ·rw[if_pos h']
    ·rw[if_neg h'];obtain rfl:i=g+1:=by omega
     rfl
   ·rcases Ad1.1 hj with h'|rfl
    ·exact hgw j h'
    ·exact hc)
theorem vN:AB Tryz.prog 34 XX:=AP Tryz.func34 (c:=Af Tryz.f34) (by kernel_rfl) mixed (fun args p r hs hp=>by
 unfold XW at hs;split at hs
 ·cases hs;exact⟨_,_,vM _ hp.2,(.p (.sl hp.1) .nil),⟨show Aa Tryz.prog _ from(Aa.cons uY uZ (Aa.cons L8 L9 (Aa.cons tB tC Aa.nil))),rfl,⟨show Ae Tryz.prog _ from Ae.nil,(AC.none (fun _=>rfl))⟩⟩⟩
 ·cases hs)
theorem vO:Ao Tryz.prog 34:=fun args w=>by kernel_rfl
def XY (l:(L.Sq L.Pt)):Prop:=l.n<=1000000
def XZ (l:(L.Sq L.Pt)):SV:=.tup [.sl 2 (bif decide (Dy l (Ap (Cp (Aw l))).n=0)then(Ap (Cp (Aw l))).n else 0) (fun k=>[.int .i64 (((Ap (Cp (Aw l))).g k).x),.int .i64 (((Ap (Cp (Aw l))).g k).y)]),.int .i64 (Dy l (Ap (Cp (Aw l))).n)]
def Ya:List EV->Option (Prop×SV)
 |[.p (.sl 2 l_n l_g)]=>some ((∀i,i<l_n->l_g i = [.int .i64 ((Ai (l_g i)).x),.int .i64 ((Ai (l_g i)).y)])/\XY (⟨l_n,fun i=>Ai (l_g i)⟩:(L.Sq L.Pt)),XZ (⟨l_n,fun i=>Ai (l_g i)⟩:(L.Sq L.Pt)))
 |_=>none
abbrev Yb:SE.Spec:=(AM Ya)
def vP:Aj:={ cC with muts:=[22],specs:=AF [(74,P1),(162,XG),(127,PF),(126,PG),(81,PH)],trs:=GV [(163,Kf)],ren:=fun k=>k-1000,raws:=[126] }
theorem vQ (l:(L.Sq L.Pt)) (hp:XY l):vc Tryz.prog (vP) (Af Tryz.f125) (Ar Tryz.f125 [.p (.sl 2 l.n (fun i=>[.int .i64 ((l.g i).x),.int .i64 ((l.g i).y)]))]) (AL Tryz.prog Tryz.f125 (XZ l)):=
 @Eq.mpr _ (let I:=SV.int .i64;let A12:=(0:Nat);let A11:=(↑l.n:Int);let A10:=(1000000:Nat);let A7:=(bif decide (A11<(3:Int))then true else Fu (L.Sq.mk l.n fun(i:Nat)=>l.g i));let A6:=(bif decide ((400:Int)<A11)then true else !CG l.n fun(i:Nat)=>B8 (l.g i));let A2:=(∀(i:Nat),let A13:=[I (l.g i).x,I (l.g i).y];i<l.n->A13=A13);let A1:=(Ap (Cp (Aw l)));let A3:=(bif decide (Dy l A1.n=(0:Int))then A1.n else A12);((!decide ((400:Int)<A11))=true->A2/\l.n<=A10)/\(A6=true->A3=A12/\(1:Int)=Dy l A1.n)/\(A6=false->((!decide (A11<(3:Int)))=true->A2/\(1:Nat)<=l.n/\l.n<=A10/\∀(k:Nat),k<l.n->Au (l.g k))/\(A7=true->A3=A12/\(11:Int)=Dy l A1.n)/\(A7=false->(A2/\l.n<=A10)/\(A2/\l.n<=A10)/\∀(t:Nat),True->∃(t:L.Sq L.Pt),let A4:=(Ap (L.Sq.mk (DA t) fun(i:Nat)=>Do t (nat_lit 0+i)));(l.n=t.n/\∀(i:Nat),let A9:=((Aw (L.Sq.mk l.n fun(i:Nat)=>l.g i)).g i);i<l.n -> [I A9.x,I A9.y]= [I (t.g i).x,I (t.g i).y])/\t.n<=A10/\∀(u:Nat),True->nat_lit 0+DA t<=t.n/\((∀(i:Nat),let A8:=(Do t (nat_lit 0+i));i<DA t -> [I A8.x,I A8.y]= [I A8.x,I A8.y])/\(2:Nat)<=DA t/\DA t<=(1000:Nat)/\∀(i:Nat),i<DA t->Au (Do t (nat_lit 0+i)))/\∀(t_1:Nat),True->(∀(i:Nat),i<(Ap (L.Sq.mk (DA t) fun(i:Nat)=>Do t (nat_lit 0+i))).n->(true&&(true&&true))=true)/\(decide ((24:Int)<(↑A4.n:Int))=true->A3=A12/\(2:Int)=Dy l A1.n)/\(decide ((24:Int)<(↑A4.n:Int))=false->((A4.n=bif decide (Dy l A1.n=(0:Int))then A1.n else A12)/\∀(i:Nat),let A5:=(Ap (L.Sq.mk (DA t) fun(i:Nat)=>Do t (nat_lit 0+i)));i<A5.n -> [I (A5.g i).x,I (A5.g i).y]= [I (A1.g i).x,I (A1.g i).y])/\(0:Int)=Dy l A1.n)))) (by kernel_rfl) (by
 conv=>zeta
 have hn:l.n<=1000000:=hp;refine⟨fun _=>⟨fun _ _=>rfl,hn⟩,fun h=>?_,fun h=>?_⟩
 ·have h:(bif decide (400<(l.n:Int))then true else !DH l)=true:=h;have e:Dy l (Ap (Cp (Aw l))).n=1:=by unfold Dy;rw[h];rfl
  rw[e];exact⟨rfl,rfl⟩
 have h0:(bif decide (400<(l.n:Int))then true else !DH l)=false:=h;have h1:=h0;rw[Dl,AdD]at h1;have h4:=of_decide_eq_false h1.1;have hv:=Cl h1.2;have hb:∀k,k<l.n->Au (l.g k):=fun k hk=>uF (Dk.1 hv k hk);refine⟨fun h3=>⟨fun _ _=>rfl,by have:=of_decide_eq_false (CV h3);omega,hn,hb⟩,fun hf=>?_,fun hf=>?_⟩
 ·have hf : Fu l = true :=by
   rw[Dl,AdN]at hf;rcases hf with q|q
   ·have:=of_decide_eq_true q;exact vH (by omega)
   ·exact q
  have e:Dy l (Ap (Cp (Aw l))).n=11:=by unfold Dy;rw[h0,hf];rfl
  rw[e];exact⟨rfl,rfl⟩
 rw[Dl,AdD]at hf;obtain⟨h3,hf⟩:=hf;have h3:=of_decide_eq_false h3;have hf:Fu l=false:=hf;have two:=X6 (l:=l) hf (by omega);obtain⟨_,c2,_,c4⟩:=PZ l;have hc:(L.Sq.mk (DA (Aw l)) fun i=>Do (Aw l) (0+i))=Cp (Aw l):=by
  unfold Cp;congr;funext i;rw[AdE]
 have c4:DA (Aw l)<=l.n:=c4;refine⟨⟨fun _ _=>rfl,hn⟩,⟨fun _ _=>rfl,hn⟩,fun _ _=>⟨Aw l,⟨rfl,fun _ _=>rfl⟩,hn,fun _ _=>?_⟩⟩;rw[hc];refine⟨by show 0+DA (Aw l)<=l.n;omega,⟨fun _ _=>rfl,XT two,by omega,fun i hi=>?_⟩,fun _ _=>⟨fun _ _=>rfl,fun hw=>?_,fun hw=>?_⟩⟩
 ·obtain⟨j,hj,e⟩:=c2 i hi;have e:Do (Aw l) i=l.g j:=e;rw[AdE,e];exact hb j hj
 ·have hw:decide (24<(((Ap (Cp (Aw l))).n:Nat):Int))=true:=hw;have e:Dy l (Ap (Cp (Aw l))).n=2:=by unfold Dy;rw[h0,hf,hw];rfl
  rw[e];exact⟨rfl,rfl⟩
 ·have hw:decide (24<(((Ap (Cp (Aw l))).n:Nat):Int))=false:=hw;have e:Dy l (Ap (Cp (Aw l))).n=0:=by unfold Dy;rw[h0,hf,hw];rfl
  rw[e];exact⟨⟨rfl,fun _ _=>rfl⟩,rfl⟩)
theorem vR:AB Tryz.prog 125 Yb:=AP Tryz.func125 (c:=Af Tryz.f125) (by kernel_rfl) mixed (fun args p r hs hp=>by
 unfold Ya at hs;split at hs
 ·cases hs;exact⟨_,_,vQ _ hp.2,(.p (.sl hp.1) .nil),⟨show Aa Tryz.prog _ from(Aa.cons U2 U3 (Aa.cons uU uV (Aa.cons V3 V4 (Aa.cons VM VN (Aa.cons VZ Wa Aa.nil))))),rfl,⟨show Ae Tryz.prog _ from Ae.nil,⟨show Dv Tryz.prog _ from(Dv.cons vK vJ Dv.nil),⟨FV.no1 (fun _=>rfl),FamsOk.none (fun _=>rfl)⟩⟩⟩⟩⟩
 ·cases hs)
theorem vS:Ao Tryz.prog 125:=fun args w=>by kernel_rfl
theorem vT {a b:L.Pt}:BK a b<0↔BI 1 a b:=by
 rw[JX];unfold BI Et;rw[Int.one_mul,Int.one_mul];omega
def Nw (l m:L.Sq L.Pt):Prop:=2<=m.n/\(∀i k,i<m.n->k<m.n->m.g i=m.g k->i=k)/\(∀i,i<l.n->∃j,j<m.n/\m.g j=l.g i)/\∀j,j<m.n->∃i,i<l.n/\l.g i=m.g j
theorem Yc {m:L.Sq L.Pt} (hd:∀i k,i<m.n->k<m.n->m.g i=m.g k->i=k):∀i j,i<j->j<m.n->BI 1 ((Aw m).g i) ((Aw m).g j):=by
 have hl:(Es (Df m)).length=m.n:=by rw[(H0 _).length_eq];simp[Df]
 have hnd:(Df m).Nodup:=by
  unfold Df;rw[AeK,List.pairwise_map,Aed];intro i j hi hj hij e;simp only[List.getElem_range]at e;have:=hd i j (by simpa using hi) (by simpa using hj) e;omega
 have hnd2:=(H0 (Df m)).nodup_iff.2 hnd;intro i j hij hj;have hle:=Aed.1 (Nj (Df m)) i j (by omega) (by omega) hij;have hne:=Aed.1 (AeK.1 hnd2) i j (by omega) (by omega) hij;rw[XR]at hle;show BI 1 ((Es (Df m)).getD i ⟨0,0⟩) ((Es (Df m)).getD j ⟨0,0⟩);rw[AS,AS,rH (by omega),rH (by omega)];rcases Nn (.inl rfl) hle with e|e
 ·exact absurd e hne
 ·exact e
theorem vU {a b:L.Pt} (h:BI 1 a b):BI (-1) b a:=by
 unfold BI Et at *;omega
theorem vV {l m:L.Sq L.Pt} (h:Nw l m):DJ l 0=(Aw m).g 0:=by
 obtain⟨h2,hd,hlm,hml⟩:=h;have hs:=Yc hd;obtain⟨j0,hj0,e0⟩:=Ka m (k:=0) (by omega);obtain⟨i0,hi0,f0⟩:=hml j0 hj0;have hl1:1<=l.n:=by omega
 obtain⟨q,hq,eq⟩:=PX hl1;obtain⟨r,hr,er⟩:=hlm q hq;obtain⟨t,ht,et⟩:=PY m hr;have ep:DJ l 0=(Aw m).g t:=by rw[eq,<- er,et]
 rcases Ae1 t with h0|h0
 ·rw[ep,h0]
 ·exfalso;have h1:=hs 0 t h0 ht;rw[<- ep]at h1;have h3:=Nt (l:=l) (i:=l.n-1) (j:=i0) (by omega);rw[<- vC hl1,f0,<- e0]at h3;exact h3 (vT.2 h1)
structure Nx (l h:L.Sq L.Pt):Prop where
 pos:2<=h.n
 at_:∀k,k<h.n->AT l k=h.g k
 back:AT l h.n=DJ l 0
 first:∀k,0<k->k<h.n->h.g k≠DJ l 0
theorem Yd {l m:L.Sq L.Pt} (h:Nw l m):Nx l (Ap m)/\(Ap m).n<=2*m.n:=by
 have hf:=vV h;obtain⟨h2,hd,hlm,hml⟩:=h;have hs:=Yc hd;have A:=W6 (.inl rfl) (l:=Aw m) h2 hs;have B:=W6 (.inr rfl) (l:=Dn (Aw m)) h2 (fun i j hij hj=>vU (hs (m.n-1-j) (m.n-1-i) (by have hj:j<m.n:=hj;omega) (by have hj:j<m.n:=hj;omega)));have hg:∀i,i<l.n->∃j,j<(Aw m).n/\(Aw m).g j=l.g i:=fun i hi=>by
  obtain⟨j,hj,e⟩:=hlm i hi;obtain⟨k,hk,e2⟩:=PY m hj;exact⟨k,hk,e2.trans e⟩
 have hb:∀j,j<(Aw m).n->∃i,i<l.n/\l.g i=(Aw m).g j:=fun j hj=>by
  obtain⟨k,hk,e⟩:=Ka m hj;obtain⟨i,hi,e2⟩:=hml k hk;exact⟨i,hi,e2.trans e.symm⟩
 obtain⟨k1,k2,k3⟩:=sK (l:=Aw m) h2 A B (g:=l.g) (n:=l.n) hg hb;have hn:(Ap m).n=((Bv (Aw m) (Aw m).n).length-1)+((Bv (Dn (Aw m)) (Dn (Aw m)).n).length-1):=by
  show 0+((Bv (Aw m) (Aw m).n).length-1)+_=_;rw[AdE];rfl
 have hgk:∀k,(Ap m).g k=(if k<(Bv (Aw m) (Aw m).n).length-1 then B9 (Bv (Aw m) (Aw m).n) k else B9 (Bv (Dn (Aw m)) (Dn (Aw m)).n) (k-((Bv (Aw m) (Aw m).n).length-1))):=fun k=>by
  have e:(Ap m).g k=bif decide (k<0+(Bu (Aw m)).n)then(bif decide (k<0)then(⟨0,0⟩:L.Pt)else(Bu (Aw m)).g (k-0))else(Bu (Dn (Aw m))).g (k-(0+(Bu (Aw m)).n)):=rfl;rw[e,AdE]
  by_cases hk:k<(Bv (Aw m) (Aw m).n).length-1
  ·rw[decide_eq_true (show k<(Bu (Aw m)).n from hk),if_pos hk];rw[cond_true,decide_eq_false (oE _)];rfl
  ·rw[decide_eq_false (show ¬ k<(Bu (Aw m)).n from hk),if_neg hk];rfl
 have c1:=Ja (Aw m) m.n;have c2:=Ja (Dn (Aw m)) m.n;have a1:=A.c1;have b1:=B.c1;refine⟨⟨by omega,fun k hk=>?_,?_,fun k hk0 hk=>?_⟩,?_⟩
 ·unfold AT;rw[hf,hgk,k1 k (by omega)]
 ·unfold AT;rw[hf,hn];exact k2
 ·rw[hf,hgk];exact k3 k hk0 (by omega)
 ·rw[hn];have e1:(Bv (Aw m) (Aw m).n).length<=m.n:=c1;have e2:(Bv (Dn (Aw m)) (Dn (Aw m)).n).length<=m.n:=c2;omega
theorem Ye {l h:L.Sq L.Pt} (H:Nx l h) (hn:h.n<=400):AW l=h.n:=by
 have h2:=H.pos;have:=XQ (l:=l) (g:=h.n-1) (by omega) (fun i hi=>?_) ?_
 ·rw[this];omega
 ·unfold Fh;rw[Dl,AdD];refine⟨?_,decide_eq_false (by omega)⟩;cases hs:Bt (Gj l.g l.n (DJ l 0) (i+1)) (DJ l 0)with
  |false=>rfl
  |true =>
    have e:=IZ hs;have e2:=H.at_ (i+1) (by omega);exact absurd (e2.symm.trans e) (H.first (i+1) (by omega) (by omega))
 ·unfold Fh;have e:=H.back;unfold AT at e;rw[show h.n-1+1=h.n by omega,e,GX];rfl
theorem Yf {l:L.Sq L.Pt} {i j:Nat} (h:AT l i=AT l j):∀t,AT l (i+t)=AT l (j+t)
 |0=>h
 |t+1=>by
   have ih:=Yf h t;show Ce l.g (AT l (i+t)) l.n=Ce l.g (AT l (j+t)) l.n;rw[ih]
theorem Ny {l h:L.Sq L.Pt} (H:Nx l h) {i j:Nat} (hi:i<h.n) (hj:j<h.n) (e:h.g i=h.g j):i=j:=by
 have key:∀i j,i<j->j<h.n->h.g i=h.g j->False:=fun i j hij hj e=>by
  have e1:AT l i=AT l j:=by rw[H.at_ i (by omega),H.at_ j hj];exact e
  have e2:=Yf e1 (h.n-j);rw[show j+(h.n-j)=h.n by omega,H.back,H.at_ _ (by omega)]at e2;exact H.first _ (by omega) (by omega) e2
 rcases Aev i j with q|q|q
 ·exact(key i j q hj e).elim
 ·exact q
 ·exact(key j i q hi e.symm).elim
def Ha (l:L.Sq L.Pt):L.Sq L.Pt:=⟨AW l,AT l⟩
def Gk (l:L.Sq L.Pt) (i:Nat):Int:=AR (Ha l) (l.g i)
def ED (l:L.Sq L.Pt) (i:Nat):Int:=AR l ((Ha l).g (BN (Ha l).n (Gk l i+1)))
def CJ (l:L.Sq L.Pt) (i:Nat):Bool:=bif decide (Gk l i<0)then false else !decide (ED l i=AdF ((i:Int)+1) (l.n:Int))
def CW (n:Nat) (fr to_:Int):Nat:=((to_-fr) % (n:Int)).toNat
def CX (l:L.Sq L.Pt) (fr to_:Int):L.Sq L.Pt:=⟨CW l.n fr to_+1,fun j=>l.g (BN l.n (fr+(j:Int)))⟩
def Eh (l:L.Sq L.Pt) (i:Nat):AH:=⟨(i:Int),ED l i,0-B7 (CX l (i:Int) (ED l i)) (CX l (i:Int) (ED l i)).n⟩
def AK (l:L.Sq L.Pt):L.Sq AH:=⟨AD (CJ l) l.n,fun j=>Eh l (B2 (CJ l) l.n j)⟩
def G8 (l:L.Sq L.Pt):Nat:=bif AA l then(AK l).n else 0
theorem vW (a b:L.Pt):Bt a b=(decide (b.x=a.x)&&decide (b.y=a.y)):=by
 unfold Bt;rw[show decide (a.x=b.x)=decide (b.x=a.x)from decide_eq_decide.2 ⟨Eq.symm,Eq.symm⟩,show decide (a.y=b.y)=decide (b.y=a.y)from decide_eq_decide.2 ⟨Eq.symm,Eq.symm⟩]
theorem Nz {n:Nat} (h:0<n) (fr to_:Int):(CW n fr to_:Int)=(to_-fr) % (n:Int)/\CW n fr to_<n:=by
 have h0:=Int.emod_nonneg (to_-fr) (show(n:Int)≠0 by omega);have h1:=Int.emod_lt_of_pos (to_-fr) (show 0<(n:Int)by omega);unfold CW;omega
theorem vX {n:Nat} (h:0<n) {fr to_:Int} (hf:0<=fr) (ht:0<=to_) {j:Nat} (hj:j<=CW n fr to_):AdF (fr+(j:Int)) (n:Int)=AdF to_ (n:Int)↔j=CW n fr to_:=by
 obtain⟨e,hlt⟩:=Nz h fr to_;rw[AdA (by omega),AdA ht];constructor
 ·intro q;have q1:(to_-fr-(j:Int)) % (n:Int)=0:=by
   rw[show to_-fr-(j:Int)=to_-(fr+(j:Int))by omega,Int.sub_emod,q,Int.sub_self,Int.zero_emod]
  have q2:((CW n fr to_:Int)-(j:Int)) % (n:Int)=0:=by
   rw[e,Int.sub_emod,Int.emod_emod,<- Int.sub_emod];exact q1
  rw[AdV (by omega) (by omega)]at q2;omega
 ·intro q;subst q;rw[e,Int.add_emod,Int.emod_emod,<- Int.add_emod,show fr+(to_-fr)=to_ by omega]
theorem vY {l:L.Sq L.Pt} (hs:Ep l) (h1:1<=l.n) (hn:l.n<=999) (fr to_:Int):Ep (CX l fr to_):=by
 have:=(Nz (n:=l.n) (by omega) fr to_).2;exact⟨by show CW l.n fr to_+1<=1000;omega,fun i _=>hs.2 _ (sM (by omega))⟩
theorem vZ {l:L.Sq L.Pt}:AW l<=401/\1<=AW l:=by
 unfold AW;rcases Jc (f:=Fh l) (n:=401)with ⟨h,_⟩|⟨i,hi,e,_⟩
 ·rw[h];exact⟨by decide,by decide⟩
 ·rw[e,Ad3];omega
theorem wA (l:L.Sq L.Pt) (v:L.Pt): -1<=AR l v/\AR l v<(l.n:Int):=by
 unfold AR;rcases Jc (f:=fun i=>Bt v (l.g i)) (n:=l.n)with ⟨h,_⟩|⟨i,hi,e,_⟩
 ·rw[h];omega
 ·rw[e];omega
theorem Qa {l:L.Sq L.Pt} {v:L.Pt} {i:Nat} (hi:i<l.n) (h0:∀j,j<i->Bt v (l.g j)=false) (h1:Bt v (l.g i)=true):AR l v=(i:Int):=by
 unfold AR;rcases Jc (f:=fun i=>Bt v (l.g i)) (n:=l.n)with ⟨_,h⟩|⟨k,hk,e,h2,h3⟩
 ·rw[h i hi]at h1;cases h1
 ·rw[e];rcases Aev k i with q|q|q
  ·rw[h0 k q]at h2;cases h2
  ·rw[q]
  ·rw[h3 i q]at h1;cases h1
theorem wB {l:L.Sq L.Pt} {v:L.Pt} (h0:∀j,j<l.n->Bt v (l.g j)=false):AR l v = -1:=by
 unfold AR;rcases Jc (f:=fun i=>Bt v (l.g i)) (n:=l.n)with ⟨h,_⟩|⟨k,hk,e,h2,h3⟩
 ·exact h
 ·rw[h0 k hk]at h2;cases h2
theorem Yg {g:Nat->L.Pt} {f:L.Pt}:∀{n:Nat},Ce g f n=f\/∃i,i<n/\Ce g f n=g i
 |0=>.inl rfl
 |n+1=>by
   unfold Ce;cases Fg f (Ce g f n) (g n)with
   |true=>exact .inr ⟨n,Ae3 n,rfl⟩
   |false =>
     rcases Yg (g:=g) (f:=f) (n:=n)with h|⟨i,hi,h⟩
     ·exact .inl h
     ·exact .inr ⟨i,by omega,h⟩
theorem N0 {l:L.Sq L.Pt} (h1:1<=l.n):∀k,∃j,j<l.n/\AT l k=l.g j
 |0=>PX h1
 |k+1=>by
   have e:AT l (k+1)=Ce l.g (AT l k) l.n:=rfl;rw[e];rcases Yg (g:=l.g) (f:=AT l k) (n:=l.n)with h|⟨i,hi,h⟩
   ·rw[h];exact N0 h1 k
   ·exact⟨i,hi,h⟩
theorem Yh {l:L.Sq L.Pt} (h1:1<=l.n) (i:Nat):0<=ED l i/\ED l i<(l.n:Int):=by
 obtain⟨j,hj,e⟩:=N0 h1 (BN (Ha l).n (Gk l i+1));obtain⟨k,hk,e2,_⟩:=UV (l:=l) hj;have:ED l i=(k:Int):=by
  unfold ED;show AR l (AT l _)=_;rw[e,e2]
 rw[this];omega
def Yi (l:(L.Sq L.Pt)) (p:L.Pt):Prop:=l.n<=1000000
def Yj (l:(L.Sq L.Pt)) (p:L.Pt):SV:=.int .i64 (AR l p)
def Yk:List EV->Option (Prop×SV)
 |[.p (.sl 2 l_n l_g),.p (.agg [.int .i64 p_x,.int .i64 p_y])]=>some ((∀i,i<l_n->l_g i = [.int .i64 ((Ai (l_g i)).x),.int .i64 ((Ai (l_g i)).y)])/\Yi (⟨l_n,fun i=>Ai (l_g i)⟩:(L.Sq L.Pt)) (⟨p_x,p_y⟩:L.Pt),Yj (⟨l_n,fun i=>Ai (l_g i)⟩:(L.Sq L.Pt)) (⟨p_x,p_y⟩:L.Pt))
 |_=>none
abbrev Yl:SE.Spec:=(AM Yk)
def wC:Aj:={ muts:=[],frz:=BH [],specs:=AF [],loops:=fun _=>none,iters:=B6 [],rfs:=AU [],nils:=BD [] }
theorem wD (l:(L.Sq L.Pt)) (p:L.Pt) (hp:Yi l p):vc Tryz.prog ({ wC with loops:=AY [(2,{ T:=Nat,keep:=[0,3],keepO:=[],chg:=fun i=>[(5,.p (.int .i64 (i:Int)))],own:=fun _=>[],inv:=fun i=>i<=l.n/\∀j,j<i->Bt p (l.g j)=false,mu:=fun i=>l.n-i })],rfs:=AU [] }) (Af Tryz.f35) (Ar Tryz.f35 [.p (.sl 2 l.n (fun i=>[.int .i64 ((l.g i).x),.int .i64 ((l.g i).y)])),.p (.agg [.int .i64 p.x,.int .i64 p.y])]) (AL Tryz.prog Tryz.f35 (Yj l p)):=
 @Eq.mpr _ (let I:=SV.int .i64;let T:=Ad6;let A4:=(↑l.n:Int);(∃(g:Nat),(0:Int)=(↑g:Int)/\g<=l.n/\∀(j:Nat),j<g->Bt p (l.g j)=false)/\∀(g:Nat),let A2:=(↑g:Int);let A1:=(decide ((l.g (T A2)).x=p.x)&&decide ((l.g (T A2)).y=p.y));(g<=l.n/\∀(j:Nat),j<g->Bt p (l.g j)=false)->(decide (A2<A4)=true->((0:Int)<=A2/\A2<A4)/\(A1=true->A2=AR l p)/\(A1=false->Ac .i64 (A2+(1:Int))/\∃(g':Nat),A2+(1:Int)=(↑g':Int)/\SV.ref [I p.x,I p.y] (nat_lit 0)=SV.ref [I p.x,I p.y] (nat_lit 0)/\(l.n=l.n/\∀(i:Nat),let A3:=[I (l.g i).x,I (l.g i).y];i<l.n->A3=A3)/\(g'<=l.n/\∀(j:Nat),j<g'->Bt p (l.g j)=false)/\l.n-g'<l.n-g))/\(decide (A2<A4)=false->(-1:Int)=AR l p)) (by kernel_rfl) (by
 conv=>zeta
 have hn:l.n<=1000000:=hp;refine⟨⟨0,rfl,Ads _,fun j hj=>absurd hj (oE _)⟩,fun g hg=>⟨fun hlt=>?_,fun hge=>?_⟩⟩
 ·have hlt:(g:Int)<(l.n:Int):=of_decide_eq_true hlt;have e0:((g:Int)).toNat=g:=Ad3 g;rw[e0,<- vW];refine⟨⟨by omega,hlt⟩,fun h=>(Qa (by omega) hg.2 h).symm,fun h=>⟨jK,g+1,rfl,rfl,⟨rfl,fun _ _=>rfl⟩,⟨by omega,fun j hj=>?_⟩,by omega⟩⟩;rcases Ad1.1 hj with h'|rfl
  ·exact hg.2 j h'
  ·exact h
 ·have hge:¬ (g:Int)<(l.n:Int):=of_decide_eq_false hge;exact(wB (fun j hj=>hg.2 j (by omega))).symm)
theorem wE:AB Tryz.prog 35 Yl:=AP Tryz.func35 (c:=Af Tryz.f35) (by kernel_rfl) mixed (fun args p r hs hp=>by
 unfold Yk at hs;split at hs
 ·cases hs;exact⟨_,_,wD _ _ hp.2,(.p (.sl hp.1) (.same _ .nil)),⟨show Aa Tryz.prog _ from Aa.nil,rfl,⟨show Ae Tryz.prog _ from Ae.nil,(AC.none (fun _=>rfl))⟩⟩⟩
 ·cases hs)
theorem wF:Ao Tryz.prog 35:=fun args w=>by kernel_rfl
def Ym (l:(L.Sq L.Pt)) (fr:Int) (to_:Int):Prop:=(1<=l.n/\l.n<=1000)/\(0<=fr/\fr<=1000)/\0<=to_/\to_<=1000
def Yn (l:(L.Sq L.Pt)) (fr:Int) (to_:Int):SV:=.sl 2 (CX l fr to_).n (fun k=>[.int .i64 (((CX l fr to_).g k).x),.int .i64 (((CX l fr to_).g k).y)])
def Yo:List EV->Option (Prop×SV)
 |[.p (.sl 2 l_n l_g),.p (.int .i64 fr),.p (.int .i64 to_)]=>some ((∀i,i<l_n->l_g i = [.int .i64 ((Ai (l_g i)).x),.int .i64 ((Ai (l_g i)).y)])/\Ym (⟨l_n,fun i=>Ai (l_g i)⟩:(L.Sq L.Pt)) fr to_,Yn (⟨l_n,fun i=>Ai (l_g i)⟩:(L.Sq L.Pt)) fr to_)
 |_=>none
abbrev Yp:SE.Spec:=(AM Yo)
def wG:Aj:={ cC with muts:=[12],specs:=AF [(33,Ke)] }
theorem wH (l:(L.Sq L.Pt)) (fr:Int) (to_:Int) (hp:Ym l fr to_):vc Tryz.prog ({ wG with loops:=AY [(3,{ T:=Nat,keep:=[0,1,2],keepO:=[],chg:=fun j=>[(7,.row 12),(8,.p (.int .i64 (fr+(j:Int))))],own:=fun j=>[(12,.row 39 2 (j+1) (fun k=>[.int .i64 ((l.g (BN l.n (fr+(k:Int)))).x),.int .i64 ((l.g (BN l.n (fr+(k:Int)))).y)]))],inv:=fun j=>j<=CW l.n fr to_,mu:=fun j=>CW l.n fr to_-j })],rfs:=AU [] }) (Af Tryz.f36) (Ar Tryz.f36 [.p (.sl 2 l.n (fun i=>[.int .i64 ((l.g i).x),.int .i64 ((l.g i).y)])),.p (.int .i64 fr),.p (.int .i64 to_)]) (AL Tryz.prog Tryz.f36 (Yn l fr to_)):=
 @Eq.mpr _ (let I:=SV.int .i64;let A14:=(1:Int);let A11:=(CX l fr to_);let A10:=(↑l.n:Int);let A3:=(1:Nat);let A2:=(∀(i:Nat),let A12:=[I (l.g i).x,I (l.g i).y];i<l.n->A12=A12);(A2/\A3<=l.n/\l.n<=(1000000:Nat)/\(-1000000:Int)<=fr/\fr<=(1000000:Int))/\(∃(g:Nat),fr=fr+(↑g:Int)/\(nat_lit 1=g+A3/\∀(i:Nat),let A5:=(l.g (BN l.n (fr+(↑i:Int))));i<nat_lit 1->Bb [I (l.g (BN l.n fr)).x,I (l.g (BN l.n fr)).y] (nat_lit 2) i = [I A5.x,I A5.y])/\g<=CW l.n fr to_)/\∀(g:Nat),let A9:=(↑g:Int);let A4:=(fr+A9+A14);let A1:=(!decide (AdF (fr+A9) A10=AdF to_ A10));g<=CW l.n fr to_->A10≠(0:Int)/\A10≠(0:Int)/\(A1=true->Ac .i64 A4/\(A2/\A3<=l.n/\l.n<=(1000000:Nat)/\(-1000000:Int)<=fr+A9+A14/\fr+A9+A14<=(1000000:Int))/\(g+A3+nat_lit 1)*nat_lit 16<=(140737488355328:Nat)/\∃(g':Nat),fr+A9+A14=fr+(↑g':Int)/\(l.n=l.n/\∀(i:Nat),let A13:=[I (l.g i).x,I (l.g i).y];i<l.n->A13=A13)/\fr=fr/\to_=to_/\(g+A3+nat_lit 1=g'+A3/\∀(i:Nat),let A7:=(l.g (BN l.n (fr+(↑i:Int))));i<g+A3+nat_lit 1->Ba (g+A3) (fun(k:Nat)=>let A6:=(l.g (BN l.n (fr+(↑k:Int))));[I A6.x,I A6.y]) (fun(x:Nat)=>[I (l.g (BN l.n A4)).x,I (l.g (BN l.n A4)).y]) i = [I A7.x,I A7.y])/\g'<=CW l.n fr to_/\CW l.n fr to_-g'<CW l.n fr to_-g)/\(A1=false->g+A3=A11.n/\∀(i:Nat),let A8:=(l.g (BN l.n (fr+(↑i:Int))));i<g+A3 -> [I A8.x,I A8.y]= [I (A11.g i).x,I (A11.g i).y])) (by kernel_rfl) (by
 conv=>zeta
 obtain⟨⟨h1,hn⟩,⟨f0,f1⟩,t0,t1⟩:=hp;have hlt:=(Nz (n:=l.n) (by omega) fr to_).2;refine⟨⟨fun _ _=>rfl,h1,by omega,by omega,by omega⟩,⟨0,by omega,⟨rfl,fun i hi=>?_⟩,Ads _⟩,fun g hg=>?_⟩
 ·have hi:i<1:=hi;obtain rfl:i=0:=by omega
  rw[show fr+((0:Nat):Int)=fr by omega];rfl
 have hE:=vX (n:=l.n) (by omega) f0 t0 hg;refine⟨by omega,by omega,fun hd=>?_,fun hd=>?_⟩
 ·have hd:=of_decide_eq_false (CV hd);have hgc:g≠CW l.n fr to_:=fun e=>hd (hE.2 e);refine⟨jK,⟨fun _ _=>rfl,h1,by omega,by omega,by omega⟩,show(g+1+1)*16<=140737488355328 by omega,g+1,by omega,⟨rfl,fun _ _=>rfl⟩,rfl,rfl,⟨rfl,fun i hi=>?_⟩,by omega,by omega⟩;unfold Ba;have hi:i<g+1+1:=hi
  by_cases h':i<g+1
  ·rw[if_pos h']
  ·rw[if_neg h'];obtain rfl:i=g+1:=by omega
   rw[show fr+((g+1:Nat):Int)=fr+(g:Int)+1 by omega]
 ·have hd:=of_decide_eq_true (Cl hd);have hgc:=hE.1 hd;exact⟨by show g+1=CW l.n fr to_+1;omega,fun _ _=>rfl⟩)
theorem wI:AB Tryz.prog 36 Yp:=AP Tryz.func36 (c:=Af Tryz.f36) (by kernel_rfl) mixed (fun args p r hs hp=>by
 unfold Yo at hs;split at hs
 ·cases hs;exact⟨_,_,wH _ _ _ hp.2,(.p (.sl hp.1) (.same _ (.same _ .nil))),⟨show Aa Tryz.prog _ from(Aa.cons LA LB Aa.nil),rfl,⟨show Ae Tryz.prog _ from Ae.nil,(AC.none (fun _=>rfl))⟩⟩⟩
 ·cases hs)
theorem wJ:Ao Tryz.prog 36:=fun args w=>by kernel_rfl
def Yq (l:(L.Sq L.Pt)):Prop:=l.n<=1000000
def Yr (l:(L.Sq L.Pt)):SV:=.tup [.sl 3 (G8 l) (fun i=>[.int .i64 (((AK l).g i).fr),.int .i64 (((AK l).g i).to_),.int .i64 (((AK l).g i).area)]),.int .i64 (bif AA l then 0 else 1)]
def Ys:List EV->Option (Prop×SV)
 |[.p (.sl 2 l_n l_g)]=>some ((∀i,i<l_n->l_g i = [.int .i64 ((Ai (l_g i)).x),.int .i64 ((Ai (l_g i)).y)])/\Yq (⟨l_n,fun i=>Ai (l_g i)⟩:(L.Sq L.Pt)),Yr (⟨l_n,fun i=>Ai (l_g i)⟩:(L.Sq L.Pt)))
 |_=>none
abbrev Yt:SE.Spec:=(AM Ys)
def wK:Aj:={ cC with specs:=AF [(7,PV),(34,XX),(35,Yl),(33,Ke),(36,Yp),(31,PT)],nils:=BD [(5,[(5,52,35,3)])] }
theorem wL (l:(L.Sq L.Pt)) (hp:Yq l):vc Tryz.prog ({ wK with loops:=AY [(6,{ T:=Nat,keep:=[0,4],keepO:=[],chg:=fun i=>[(5,.row 52),(6,.p (.int .i64 (i:Int)))],own:=fun i=>[(52,.row 35 3 (AD (CJ l) i) (fun k=>[.int .i64 ((Eh l (B2 (CJ l) i k)).fr),.int .i64 ((Eh l (B2 (CJ l) i k)).to_),.int .i64 ((Eh l (B2 (CJ l) i k)).area)]))],inv:=fun i=>i<=l.n,mu:=fun i=>l.n-i })],rfs:=AU [] }) (Af Tryz.f8) (Ar Tryz.f8 [.p (.sl 2 l.n (fun i=>[.int .i64 ((l.g i).x),.int .i64 ((l.g i).y)]))]) (AL Tryz.prog Tryz.f8 (Yr l)):=
 @Eq.mpr _ (let I:=SV.int .i64;let T:=Ad6;let A38:=(1000000:Nat);let A31:=(↑l.n:Int);let A22:=(0:Int);let A19:=(1:Int);let A12:=(l.n=l.n/\∀(i:Nat),let A39:=[I (l.g i).x,I (l.g i).y];i<l.n->A39=A39);let A11:=(CJ l);let A9:=(∀(i:Nat),let A40:=[I (l.g i).x,I (l.g i).y];i<l.n->A40=A40);let A8:=(∀(i:Nat),let A32:=(L.Sq.mk l.n fun(i:Nat)=>l.g i);let A14:=(AT A32 i);i<AW A32 -> [I A14.x,I A14.y]= [I A14.x,I A14.y]);let A3:=(L.Sq.mk l.n fun(i:Nat)=>l.g i);let A7:=(L.Sq.mk (AW A3) fun(i:Nat)=>AT (L.Sq.mk l.n fun(i:Nat)=>l.g i) i);let A4:=(AW A3=AW A3/\∀(i:Nat),let A33:=(L.Sq.mk l.n fun(i:Nat)=>l.g i);let A15:=(AT A33 i);i<AW A33 -> [I A15.x,I A15.y]= [I A15.x,I A15.y]);(A9/\True)/\((!AA A3)=true->G8 l=(0:Nat)/\A19=bif AA l then A22 else A19)/\((!AA A3)=false->(A9/\(1:Nat)<=l.n/\l.n<=(1000:Nat)/\∀(k:Nat),k<l.n->Au (l.g k))/\(∃(g:Nat),A22=(↑g:Int)/\(nat_lit 0=AD A11 g/\∀(i:Nat),let A26:=(Eh l (B2 A11 g i));i<nat_lit 0 -> []= [I A26.fr,I A26.to_,I A26.area])/\g<=l.n)/\∀(g:Nat),let A10:=(↑g:Int);let A34:=(A10+A19);let A20:=(l.g (T A10));let A41:=(AR A7 A20+A19);let A1:=(AT A3 (BN (AW A3) A41));let A35:=(CX A3 A10 (AR A3 A1));let A21:=(!decide (AR A3 A1=AdF A34 A31));let A6:=(L.Sq.mk A35.n fun(i:Nat)=>let A16:=(L.Sq.mk l.n fun(i:Nat)=>l.g i);(CX A16 A10 (AR A16 (AT A16 (BN (AW A16) (AR (L.Sq.mk (AW A16) fun(i:Nat)=>AT (L.Sq.mk l.n fun(i:Nat)=>l.g i) i) A20+A19))))).g i);g<=l.n->(decide (A10<A31)=true->(A22<=A10/\A10<A31)/\(A8/\AW A3<=A38)/\(decide (AR A7 A20<A22)=true->Ac .i64 A34/\∃(g':Nat),A10+A19=(↑g':Int)/\A4/\A12/\(AD A11 g=AD A11 g'/\∀(i:Nat),let A27:=(Eh l (B2 A11 g i));let A23:=(Eh l (B2 A11 g' i));i<AD A11 g -> [I A27.fr,I A27.to_,I A27.area]= [I A23.fr,I A23.to_,I A23.area])/\g'<=l.n/\l.n-g'<l.n-g)/\(decide (AR A7 A20<A22)=false->Ac .i64 A41/\(A8/\(1:Nat)<=AW A3/\AW A3<=A38/\(-1000000:Int)<=AR A7 A20+A19/\AR A7 A20+A19<=(1000000:Int))/\(A9/\l.n<=A38)/\Ac .i64 A34/\A31≠A22/\(A21=true->(A9/\((1:Nat)<=l.n/\l.n<=(1000:Nat))/\(A22<=A10/\A10<=(1000:Int))/\A22<=AR A3 A1/\AR A3 A1<=(1000:Int))/\((∀(i:Nat),let A17:=(L.Sq.mk l.n fun(i:Nat)=>l.g i);let A2:=(CX A17 A10 (AR A17 (AT A17 (BN (AW A17) (AR (L.Sq.mk (AW A17) fun(i:Nat)=>AT (L.Sq.mk l.n fun(i:Nat)=>l.g i) i) A20+A19)))));let A37:=[I (A2.g i).x,I (A2.g i).y];i<A2.n->A37=A37)/\Ep A6)/\Ac .i64 (A22-B7 A6 A35.n)/\(AD A11 g+nat_lit 1)*nat_lit 24<=(140737488355328:Nat)/\Ac .i64 A34/\∃(g':Nat),A10+A19=(↑g':Int)/\A4/\A12/\(AD A11 g+nat_lit 1=AD A11 g'/\∀(i:Nat),let A24:=(Eh l (B2 A11 g' i));let A13:=(L.Sq.mk l.n fun(i:Nat)=>l.g i);let A5:=(AR A13 (AT A13 (BN (AW A13) (AR (L.Sq.mk (AW A13) fun(i:Nat)=>AT (L.Sq.mk l.n fun(i:Nat)=>l.g i) i) A20+A19))));i<AD A11 g+nat_lit 1->Ba (AD A11 g) (fun(k:Nat)=>let A28:=(Eh l (B2 A11 g k));[I A28.fr,I A28.to_,I A28.area]) (fun(x:Nat)=>[I A10,I A5,I (A22-B7 (L.Sq.mk (CX A13 A10 A5).n fun(i:Nat)=>let A18:=(L.Sq.mk l.n fun(i:Nat)=>l.g i);(CX A18 A10 (AR A18 (AT A18 (BN (AW A18) (AR (L.Sq.mk (AW A18) fun(i:Nat)=>AT (L.Sq.mk l.n fun(i:Nat)=>l.g i) i) A20+A19))))).g i) (CX A13 A10 A5).n)]) i = [I A24.fr,I A24.to_,I A24.area])/\g'<=l.n/\l.n-g'<l.n-g)/\(A21=false->Ac .i64 A34/\∃(g':Nat),A10+A19=(↑g':Int)/\A4/\A12/\(AD A11 g=AD A11 g'/\∀(i:Nat),let A29:=(Eh l (B2 A11 g i));let A25:=(Eh l (B2 A11 g' i));i<AD A11 g -> [I A29.fr,I A29.to_,I A29.area]= [I A25.fr,I A25.to_,I A25.area])/\g'<=l.n/\l.n-g'<l.n-g)))/\(decide (A10<A31)=false->(AD A11 g=G8 l/\∀(i:Nat),let A36:=((AK l).g i);let A30:=(Eh l (B2 A11 g i));i<AD A11 g -> [I A30.fr,I A30.to_,I A30.area]= [I A36.fr,I A36.to_,I A36.area])/\A22=bif AA l then A22 else A19))) (by kernel_rfl) (by
 conv=>zeta
 have hn:l.n<=1000000:=hp;refine⟨⟨fun _ _=>rfl,trivial⟩,fun h=>?_,fun h=>?_⟩
 ·have hv:AA l=false:=CV h;unfold G8;rw[hv];exact⟨rfl,rfl⟩
 have hv:AA l=true:=Cl h;obtain⟨n3,n24,hsm,hbd⟩:=Dw hv;have hW:=vZ (l:=l);refine⟨⟨fun _ _=>rfl,by omega,by omega,hbd.2⟩,⟨0,rfl,⟨rfl,fun i hi=>absurd hi (oE _)⟩,Ads _⟩,fun g hg=>⟨fun hlt=>?_,fun hge=>?_⟩⟩;rotate_left
 ·have hge:¬ (g:Int)<(l.n:Int):=of_decide_eq_false hge;obtain rfl:g=l.n:=by omega
  refine⟨⟨?_,fun _ _=>rfl⟩,by rw[hv];rfl⟩;unfold G8;rw[hv];rfl
 have hlt:(g:Int)<(l.n:Int):=of_decide_eq_true hlt;have e0:((g:Int)).toNat=g:=Ad3 g;have eK:AR (L.Sq.mk (AW l) fun i=>AT l i) (l.g g)=Gk l g:=rfl;have eT:AR l (AT l (BN (AW l) (Gk l g+1)))=ED l g:=rfl;rw[e0,eK,eT];have hKb : -1<=Gk l g/\Gk l g<(AW l:Int):=wA (Ha l) _;have hT:=Yh (l:=l) (by omega) g;have hck:AD (CJ l) g<=g:=IS;refine⟨⟨by omega,hlt⟩,⟨fun _ _=>rfl,show AW l<=1000000 by omega⟩,fun hk=>?_,fun hk=>?_⟩
 ·have hp:CJ l g=false:=by unfold CJ;rw[hk];rfl
  exact⟨jK,g+1,rfl,⟨rfl,fun _ _=>rfl⟩,⟨rfl,fun _ _=>rfl⟩,⟨(Hy hp).symm,fun i hi=>by rw[IV hp]⟩,by omega,by omega⟩
 have hk':=of_decide_eq_false hk;refine⟨jK,⟨fun _ _=>rfl,show 1<=AW l by omega,show AW l<=1000000 by omega,by omega,by omega⟩,⟨fun _ _=>rfl,hn⟩,jK,by omega,fun hd=>?_,fun hd=>?_⟩
 ·have hp:CJ l g=true:=by unfold CJ;rw[hk,cond_false];exact hd
  have hs:=vY hsm (by omega) (by omega) (g:Int) (ED l g);have hab:=Nc hs (CX l (g:Int) (ED l g)).n (Adp _);have hsn:=hs.1;refine⟨⟨fun _ _=>rfl,⟨by omega,by omega⟩,⟨by omega,by omega⟩,hT.1,by omega⟩,⟨fun _ _=>rfl,hs⟩,Ac.of (by show _<=0-B7 (CX l (g:Int) (ED l g)) (CX l (g:Int) (ED l g)).n;omega) (by show 0-B7 (CX l (g:Int) (ED l g)) (CX l (g:Int) (ED l g)).n<=_;omega),show(AD (CJ l) g+1)*24<=140737488355328 by omega,jK,g+1,rfl,⟨rfl,fun _ _=>rfl⟩,⟨rfl,fun _ _=>rfl⟩,⟨(If hp).symm,fun i hi=>?_⟩,by omega,by omega⟩;have hi:i<AD (CJ l) g+1:=hi;unfold Ba
  by_cases h':i<AD (CJ l) g
  ·rw[if_pos h',IU (Nat.ne_of_lt h')]
  ·rw[if_neg h'];obtain rfl:i=AD (CJ l) g:=by omega
   rw[IT hp];rfl
 ·have hp:CJ l g=false:=by unfold CJ;rw[hk,cond_false];exact hd
  exact⟨jK,g+1,rfl,⟨rfl,fun _ _=>rfl⟩,⟨rfl,fun _ _=>rfl⟩,⟨(Hy hp).symm,fun i hi=>by rw[IV hp]⟩,by omega,by omega⟩)
theorem wM:AB Tryz.prog 8 Yt:=AP Tryz.func8 (c:=Af Tryz.f8) (by kernel_rfl) mixed (fun args p r hs hp=>by
 unfold Ys at hs;split at hs
 ·cases hs;exact⟨_,_,wL _ hp.2,(.p (.sl hp.1) .nil),⟨show Aa Tryz.prog _ from(Aa.cons Xx Xy (Aa.cons vN vO (Aa.cons wE wF (Aa.cons LA LB (Aa.cons wI wJ (Aa.cons Xi Xj Aa.nil)))))),rfl,⟨show Ae Tryz.prog _ from Ae.nil,(AC.none (fun _=>rfl))⟩⟩⟩
 ·cases hs)
theorem wN:Ao Tryz.prog 8:=fun args w=>by kernel_rfl
def H4 (l:L.Sq L.Pt):Int:=bif AA l then 0 else 1
def EQ (l:L.Sq L.Pt):Nat->L.Pt
 |0=>l.g 0
 |k+1=>⟨min (EQ l k).x (l.g k).x,min (EQ l k).y (l.g k).y⟩
def ER (l:L.Sq L.Pt):Nat->L.Pt
 |0=>l.g 0
 |k+1=>⟨max (ER l k).x (l.g k).x,max (ER l k).y (l.g k).y⟩
def C2 (l:L.Sq L.Pt):L.Pt:=bif AA l then EQ l l.n else⟨0,0⟩
def C3 (l:L.Sq L.Pt):L.Pt:=bif AA l then ER l l.n else⟨0,0⟩
structure Ah where
 id:Int
 colour:Int
 grain:Int
 ol:L.Sq L.Pt
structure Az where
 id:Int
 colour:Int
 w:Int
 h:Int
 grain:Int
structure Ag where
 w:Int
 h:Int
def CK:List SV->Ah
 |[.int _ a,.int _ b,.int _ c,.sl _ n g]=>⟨a,b,c,⟨n,fun i=>Ai (g i)⟩⟩
 |_=>⟨0,0,0,⟨0,fun _=>⟨0,0⟩⟩⟩
def G9:List SV->Prop
 |[.int .i64 _,.int .i64 _,.int .i64 _,.sl 2 n g]=>∀i,i<n->g i = [.int .i64 (Ai (g i)).x,.int .i64 (Ai (g i)).y]
 |_=>False
def DK:List SV->Az
 |[.int _ a,.int _ b,.int _ c,.int _ d,.int _ e]=>⟨a,b,c,d,e⟩
 |_=>⟨0,0,0,0,0⟩
def Fv:List SV->Ag
 |[.int _ a,.int _ b]=>⟨a,b⟩
 |_=>⟨0,0⟩
theorem Qb {l:List SV} (h:G9 l):l.length=4/\∀j,j<4->Bo (SV.at l j) (SV.at [.int .i64 (CK l).id,.int .i64 (CK l).colour,.int .i64 (CK l).grain,.sl 2 (CK l).ol.n (fun i=>[.int .i64 ((CK l).ol.g i).x,.int .i64 ((CK l).ol.g i).y])] j):=by
 unfold G9 at h;split at h
 ·rename_i a b c n g;refine⟨rfl,fun j hj=>?_⟩
  match j,hj with
  |0,_=>exact .refl _
  |1,_=>exact .refl _
  |2,_=>exact .refl _
  |3,_=>exact .sl h
 ·exact h.elim
theorem Kg {n:Nat} {g:Nat->List SV} (h:∀i,i<n->G9 (g i)):Bo (.sl 4 n g) (.sl 4 n (fun i=>[.int .i64 (CK (g i)).id,.int .i64 (CK (g i)).colour,.int .i64 (CK (g i)).grain,.sl 2 (CK (g i)).ol.n (fun i1=>[.int .i64 ((CK (g i)).ol.g i1).x,.int .i64 ((CK (g i)).ol.g i1).y])])):=
 .sl2 (fun i hi=>by rw[(Qb (h i hi)).1];rfl) (fun i hi j hj=>(Qb (h i hi)).2 j (by rw[(Qb (h i hi)).1]at hj;exact hj))
def Cq (s:Az):Bool:=bif (bif (bif (bif AG s.id 1 65535 then AG s.colour 1 16 else false)then AG s.w 1 4096 else false)then AG s.h 1 4096 else false)then AG s.grain 0 2 else false
def GA (w:Ah):Bool:=bif (bif (bif AG w.id 1 65535 then AG w.colour 1 16 else false)then AG w.grain 0 2 else false)then AA w.ol else false
def Fw (own grain turn:Int):Bool:=bif (bif decide (own=0)then true else decide (grain=0))then true else(decide (turn=0) == decide (own=grain))
def CY (l:L.Sq L.Pt) (turn:Int):Ag:=bif decide (turn=1)then⟨(C3 l).y-(C2 l).y,(C3 l).x-(C2 l).x⟩else⟨(C3 l).x-(C2 l).x,(C3 l).y-(C2 l).y⟩
theorem FI {p:L.Pt}:B8 p=true↔0<=p.x/\p.x<=4096/\0<=p.y/\p.y<=4096:=by
 unfold B8 AG;rw[pR,pR,pR,decide_eq_true_eq,decide_eq_true_eq,decide_eq_true_eq,decide_eq_true_eq];omega
theorem Qc {l:L.Sq L.Pt} (hv:AA l=true):∀i,i<l.n->B8 (l.g i)=true:=(Ii hv).1
theorem Yu {l:L.Sq L.Pt} (hn:0<l.n) (h:∀i,i<l.n->B8 (l.g i)=true):∀k,k<=l.n->B8 (EQ l k)=true
 |0,_=>h 0 hn
 |k+1,hk=>by
   have h1:=FI.1 (Yu hn h k (by omega));have h2:=FI.1 (h k (by omega));rw[FI];simp only[EQ];omega
theorem Yv {l:L.Sq L.Pt} (hn:0<l.n) (h:∀i,i<l.n->B8 (l.g i)=true):∀k,k<=l.n->B8 (ER l k)=true
 |0,_=>h 0 hn
 |k+1,hk=>by
   have h1:=FI.1 (Yv hn h k (by omega));have h2:=FI.1 (h k (by omega));rw[FI];simp only[ER];omega
theorem Qd {l:L.Sq L.Pt}:∀k i,i<k->(EQ l k).x<=(l.g i).x/\(EQ l k).y<=(l.g i).y
 |0,_,h=>absurd h (oE _)
 |k+1,i,h=>by
   rw[EQ]
   by_cases e:i=k
   ·subst e;exact⟨by show min _ _<=_;omega,by show min _ _<=_;omega⟩
   ·have:=Qd (l:=l) k i (by omega);exact⟨by show min _ _<=_;omega,by show min _ _<=_;omega⟩
theorem Qe {l:L.Sq L.Pt}:∀k i,i<k->(l.g i).x<=(ER l k).x/\(l.g i).y<=(ER l k).y
 |0,_,h=>absurd h (oE _)
 |k+1,i,h=>by
   rw[ER]
   by_cases e:i=k
   ·subst e;exact⟨by show _<=max _ _;omega,by show _<=max _ _;omega⟩
   ·have:=Qe (l:=l) k i (by omega);exact⟨by show _<=max _ _;omega,by show _<=max _ _;omega⟩
theorem Qf (l:L.Sq L.Pt):(0<=(C2 l).x/\(C2 l).x<=4096/\0<=(C2 l).y/\(C2 l).y<=4096)/\(0<=(C3 l).x/\(C3 l).x<=4096/\0<=(C3 l).y/\(C3 l).y<=4096):=by
 unfold C2 C3;cases hv:AA l with
 |false =>
   rw[cond_false];have h0:(0:Int)<=0/\(0:Int)<=4096/\(0:Int)<=0/\(0:Int)<=4096:=by decide
   exact⟨h0,h0⟩
 |true =>
   rw[cond_true];obtain⟨n3,_,_,_⟩:=Dw hv;exact⟨FI.1 (Yu (by omega) (Qc hv) _ (Adp _)),FI.1 (Yv (by omega) (Qc hv) _ (Adp _))⟩
theorem wO (l:L.Sq L.Pt):Ac .i64 ((C3 l).x-(C2 l).x)/\Ac .i64 ((C3 l).y-(C2 l).y):=by
 have:=Qf l;exact⟨jK,jK⟩
def N1 (s:Ag):SV:=.agg [.int .i64 s.w,.int .i64 s.h]
theorem wP {l:L.Sq L.Pt} {t:Int} (h:decide (t=1)=true):N1 ⟨(C3 l).y-(C2 l).y,(C3 l).x-(C2 l).x⟩=N1 (CY l t):=by
 unfold CY;rw[h];rfl
theorem wQ {l:L.Sq L.Pt} {t:Int} (h:decide (t=1)=false):N1 ⟨(C3 l).x-(C2 l).x,(C3 l).y-(C2 l).y⟩=N1 (CY l t):=by
 unfold CY;rw[h];rfl
def Yw (l:(L.Sq L.Pt)):Prop:=l.n<=1000000
def Yx (l:(L.Sq L.Pt)):SV:=.tup [(.agg [.int .i64 ((C2 l).x),.int .i64 ((C2 l).y)]),(.agg [.int .i64 ((C3 l).x),.int .i64 ((C3 l).y)]),.int .i64 (H4 l)]
def Yy:List EV->Option (Prop×SV)
 |[.p (.sl 2 l_n l_g)]=>some ((∀i,i<l_n->l_g i = [.int .i64 ((Ai (l_g i)).x),.int .i64 ((Ai (l_g i)).y)])/\Yw (⟨l_n,fun i=>Ai (l_g i)⟩:(L.Sq L.Pt)),Yx (⟨l_n,fun i=>Ai (l_g i)⟩:(L.Sq L.Pt)))
 |_=>none
abbrev Yz:SE.Spec:=(AM Yy)
def wR:Aj:={ cC with muts:=[2,3,6],specs:=AF [(37,JW)],anys:=[2,10] }
theorem wT (l:(L.Sq L.Pt)) (hp:Yw l):vc Tryz.prog ({ wR with loops:=AY [(5,{ T:=Nat,keep:=[0,2,3,18,19],keepO:=[],chg:=fun i=>[(20,.p (.int .i64 (i:Int)))],own:=fun i=>[(2,.blk 39 [.p (.int .i64 (EQ l i).x),.p (.int .i64 (EQ l i).y)]),(3,.blk 39 [.p (.int .i64 (ER l i).x),.p (.int .i64 (ER l i).y)])],inv:=fun i=>i<=l.n,mu:=fun i=>l.n-i })],rfs:=AU [] }) (Af Tryz.f101) (Ar Tryz.f101 [.p (.sl 2 l.n (fun i=>[.int .i64 ((l.g i).x),.int .i64 ((l.g i).y)]))]) (AL Tryz.prog Tryz.f101 (Yx l)):=
 @Eq.mpr _ (let I:=SV.int .i64;let T:=Ad6;let A15:=(1:Int);let A8:=(!AA (L.Sq.mk l.n fun(i:Nat)=>l.g i));let A7:=(↑l.n:Int);let A4:=[I (C3 l).x,I (C3 l).y];let A3:=[I (C2 l).x,I (C2 l).y];let A2:=(l.n=l.n/\∀(i:Nat),let A13:=[I (l.g i).x,I (l.g i).y];i<l.n->A13=A13);let A1:=(0:Int);let A11:=(l.g (T A1));let A10:=[I A1,I A1];((∀(i:Nat),let A14:=[I (l.g i).x,I (l.g i).y];i<l.n->A14=A14)/\l.n<=(1000000:Nat))/\(A8=true->(SV.agg A10=SV.agg A3/\SV.agg A10=SV.agg A4/\A15=H4 l)/\SV.agg A10=SV.agg A3/\SV.agg A10=SV.agg A4/\A15=H4 l)/\(A8=false->(A1<=A1/\A1<A7)/\(A1<=A1/\A1<A7)/\(∃(g:Nat),A1=(↑g:Int)/\A11.x=(EQ l g).x/\A11.y=(EQ l g).y/\A11.x=(ER l g).x/\A11.y=(ER l g).y/\g<=l.n)/\∀(g:Nat),let A9:=(EQ l g);let A6:=(ER l g);let A5:=(↑g:Int);let A12:=(l.g (T A5));g<=l.n->(decide (A5<A7)=true->(A1<=A5/\A5<A7)/\Ac .i64 (A5+A15)/\∃(g':Nat),A5+A15=(↑g':Int)/\A7=A7/\A2/\nat_lit 0=nat_lit 0/\nat_lit 0=nat_lit 0/\A2/\Min.min A9.x A12.x=(EQ l g').x/\Min.min A9.y A12.y=(EQ l g').y/\Max.max A6.x A12.x=(ER l g').x/\Max.max A6.y A12.y=(ER l g').y/\g'<=l.n/\l.n-g'<l.n-g)/\(decide (A5<A7)=false->(SV.agg [I A9.x,I A9.y]=SV.agg A3/\SV.agg [I A6.x,I A6.y]=SV.agg A4/\A1=H4 l)/\SV.agg [I A9.x,I A9.y]=SV.agg A3/\SV.agg [I A6.x,I A6.y]=SV.agg A4/\A1=H4 l))) (by kernel_rfl) (by
 conv=>zeta
 have hn:l.n<=1000000:=hp;refine⟨⟨fun _ _=>rfl,hn⟩,fun h=>?_,fun h=>?_⟩
 ·have h:AA l=false:=CV h;have eL:C2 l=⟨0,0⟩:=by unfold C2;rw[h];rfl
  have eH:C3 l=⟨0,0⟩:=by unfold C3;rw[h];rfl
  have e3:H4 l=1:=by unfold H4;rw[h];rfl
  rw[eL,eH,e3]
  repeat' first
   |exact rfl
   |apply And.intro
 have hv:AA l=true:=Cl h;obtain⟨n3,n24,hsm,hbd⟩:=Dw hv;have eL:C2 l=EQ l l.n:=by unfold C2;rw[hv];rfl
 have eH:C3 l=ER l l.n:=by unfold C3;rw[hv];rfl
 have e3:H4 l=0:=by unfold H4;rw[hv];rfl
 refine⟨⟨AdQ _,by omega⟩,⟨AdQ _,by omega⟩,⟨(0:Nat),rfl,rfl,rfl,rfl,rfl,Ads _⟩,fun g hg=>⟨fun hlt=>?_,fun hge=>?_⟩⟩
 ·have hlt:(g:Int)<(l.n:Int):=of_decide_eq_true hlt;exact⟨⟨by omega,hlt⟩,jK,g+1,by omega,rfl,⟨rfl,fun _ _=>rfl⟩,rfl,rfl,⟨rfl,fun _ _=>rfl⟩,rfl,rfl,rfl,rfl,by omega,by omega⟩
 ·have hge:¬ (g:Int)<(l.n:Int):=of_decide_eq_false hge;obtain rfl:g=l.n:=by omega
  rw[eL,eH,e3]
  repeat' first
   |exact rfl
   |apply And.intro)
theorem wU:AB Tryz.prog 101 Yz:=AP Tryz.func101 (c:=Af Tryz.f101) (by kernel_rfl) mixed (fun args p r hs hp=>by
 unfold Yy at hs;split at hs
 ·cases hs;exact⟨_,_,wT _ hp.2,(.p (.sl hp.1) .nil),⟨show Aa Tryz.prog _ from(Aa.cons L2 L3 Aa.nil),rfl,⟨show Ae Tryz.prog _ from Ae.nil,(AC.none (fun _=>rfl))⟩⟩⟩
 ·cases hs)
theorem wV:Ao Tryz.prog 101:=fun args w=>by kernel_rfl
def Y0 (n:Int) (a:Int) (b:Int):Prop:=True
def Y1 (n:Int) (a:Int) (b:Int):SV:=.bool (AG n a b)
def Y2:List EV->Option (Prop×SV)
 |[.p (.int .i64 n),.p (.int .i64 a),.p (.int .i64 b)]=>some (Y0 n a b,Y1 n a b)
 |_=>none
abbrev Jd:SE.Spec:=(AM Y2)
def wW:Aj:={ muts:=[],frz:=BH [],specs:=AF [],loops:=AY [],iters:=B6 [],rfs:=AU [],nils:=BD [] }
theorem wX (n:Int) (a:Int) (b:Int) (hp:Y0 n a b):vc Tryz.prog (wW) (Af Tryz.f38) (Ar Tryz.f38 [.p (.int .i64 n),.p (.int .i64 a),.p (.int .i64 b)]) (AL Tryz.prog Tryz.f38 (Y1 n a b)):=
 @Eq.mpr _ ((bif decide (a<=n)then decide (n<=b)else false)=AG n a b) (by kernel_rfl) (by
 grind [AG])
theorem Kh:AB Tryz.prog 38 Jd:=AP Tryz.func38 (c:=Af Tryz.f38) (by kernel_rfl) mixed (fun args p r hs hp=>by
 unfold Y2 at hs;split at hs
 ·cases hs;exact⟨_,_,wX _ _ _ hp,(.same _ (.same _ (.same _ .nil))),⟨show Aa Tryz.prog _ from Aa.nil,rfl,⟨show Ae Tryz.prog _ from Ae.nil,(AC.none (fun _=>rfl))⟩⟩⟩
 ·cases hs)
theorem Ki:Ao Tryz.prog 38:=fun args w=>by kernel_rfl
def Y3 (l:(L.Sq L.Pt)) (t:Int):Prop:=l.n<=1000000
def Y4 (l:(L.Sq L.Pt)) (t:Int):SV:=(.agg [.int .i64 ((CY l t).w),.int .i64 ((CY l t).h)])
def Y5:List EV->Option (Prop×SV)
 |[.p (.sl 2 l_n l_g),.p (.int .i64 t)]=>some ((∀i,i<l_n->l_g i = [.int .i64 ((Ai (l_g i)).x),.int .i64 ((Ai (l_g i)).y)])/\Y3 (⟨l_n,fun i=>Ai (l_g i)⟩:(L.Sq L.Pt)) t,Y4 (⟨l_n,fun i=>Ai (l_g i)⟩:(L.Sq L.Pt)) t)
 |_=>none
abbrev N2:SE.Spec:=(AM Y5)
def wY:Aj:={ cC with muts:=[4,5,6,8],specs:=AF [(101,Yz)] }
theorem wZ (l:(L.Sq L.Pt)) (t:Int) (hp:Y3 l t):vc Tryz.prog (wY) (Af Tryz.f115) (Ar Tryz.f115 [.p (.sl 2 l.n (fun i=>[.int .i64 ((l.g i).x),.int .i64 ((l.g i).y)])),.p (.int .i64 t)]) (AL Tryz.prog Tryz.f115 (Y4 l t)):=
 @Eq.mpr _ (let I:=SV.int .i64;let A4:=[I (CY l t).w,I (CY l t).h];let A1:=(L.Sq.mk l.n fun(i:Nat)=>l.g i);let A3:=((C3 A1).y-(C2 A1).y);let A2:=((C3 A1).x-(C2 A1).x);((∀(i:Nat),let A5:=[I (l.g i).x,I (l.g i).y];i<l.n->A5=A5)/\l.n<=(1000000:Nat))/\Ac .i64 A2/\Ac .i64 A3/\(decide (t=(1:Int))=true->SV.agg [I A3,I A2]=SV.agg A4)/\(decide (t=(1:Int))=false->SV.agg [I A2,I A3]=SV.agg A4)) (by kernel_rfl) (by
 conv=>zeta
 obtain⟨b1,b2⟩:=wO l;exact⟨⟨fun _ _=>rfl,hp⟩,b1,b2,fun h=>wP h,fun h=>wQ h⟩)
theorem Qg:AB Tryz.prog 115 N2:=AP Tryz.func115 (c:=Af Tryz.f115) (by kernel_rfl) mixed (fun args p r hs hp=>by
 unfold Y5 at hs;split at hs
 ·cases hs;exact⟨_,_,wZ _ _ hp.2,(.p (.sl hp.1) (.same _ .nil)),⟨show Aa Tryz.prog _ from(Aa.cons wU wV Aa.nil),rfl,⟨show Ae Tryz.prog _ from Ae.nil,(AC.none (fun _=>rfl))⟩⟩⟩
 ·cases hs)
theorem Qh:Ao Tryz.prog 115:=fun args w=>by kernel_rfl
def Y6 (s:Az):Prop:=True
def Y7 (s:Az):SV:=.bool (Cq s)
def Y8:List EV->Option (Prop×SV)
 |[.p (.agg [.int .i64 s_id,.int .i64 s_colour,.int .i64 s_w,.int .i64 s_h,.int .i64 s_grain])]=>some (Y6 (⟨s_id,s_colour,s_w,s_h,s_grain⟩:Az),Y7 (⟨s_id,s_colour,s_w,s_h,s_grain⟩:Az))
 |_=>none
abbrev Y9:SE.Spec:=(AM Y8)
def xA:Aj:={ cC with specs:=AF [(38,Jd)] }
theorem xB (s:Az) (hp:Y6 s):vc Tryz.prog (xA) (Af Tryz.f142) (Ar Tryz.f142 [.p (.agg [.int .i64 s.id,.int .i64 s.colour,.int .i64 s.w,.int .i64 s.h,.int .i64 s.grain])]) (AL Tryz.prog Tryz.f142 (Y7 s)):=
 @Eq.mpr _ (let A4:=(16:Int);let A3:=(4096:Int);let A2:=(65535:Int);let A1:=(1:Int);True/\(AG s.id A1 A2=true->True)/\((bif AG s.id A1 A2 then AG s.colour A1 A4 else false)=true->True)/\((bif bif AG s.id A1 A2 then AG s.colour A1 A4 else false then AG s.w A1 A3 else false)=true->True)/\((bif bif bif AG s.id A1 A2 then AG s.colour A1 A4 else false then AG s.w A1 A3 else false then AG s.h A1 A3 else false)=true->True)/\(bif bif bif bif AG s.id A1 A2 then AG s.colour A1 A4 else false then AG s.w A1 A3 else false then AG s.h A1 A3 else false then AG s.grain (0:Int) (2:Int)else false)=Cq s) (by kernel_rfl) (by
 conv=>zeta
 exact⟨trivial,fun _=>trivial,fun _=>trivial,fun _=>trivial,fun _=>trivial,rfl⟩)
theorem xC:AB Tryz.prog 142 Y9:=AP Tryz.func142 (c:=Af Tryz.f142) (by kernel_rfl) mixed (fun args p r hs hp=>by
 unfold Y8 at hs;split at hs
 ·cases hs;exact⟨_,_,xB _ hp,(.same _ .nil),⟨show Aa Tryz.prog _ from(Aa.cons Kh Ki Aa.nil),rfl,⟨show Ae Tryz.prog _ from Ae.nil,(AC.none (fun _=>rfl))⟩⟩⟩
 ·cases hs)
theorem xD:Ao Tryz.prog 142:=fun args w=>by kernel_rfl
def YA (w:Ah):Prop:=w.ol.n<=1000000
def YB (w:Ah):SV:=.bool (GA w)
def YC:List EV->Option (Prop×SV)
 |[.p (.agg [.int .i64 w_id,.int .i64 w_colour,.int .i64 w_grain,.sl 2 w_ol_n w_ol_g])]=>some ((∀i,i<w_ol_n->w_ol_g i = [.int .i64 ((Ai (w_ol_g i)).x),.int .i64 ((Ai (w_ol_g i)).y)])/\YA (⟨w_id,w_colour,w_grain,(⟨w_ol_n,fun i=>Ai (w_ol_g i)⟩:(L.Sq L.Pt))⟩:Ah),YB (⟨w_id,w_colour,w_grain,(⟨w_ol_n,fun i=>Ai (w_ol_g i)⟩:(L.Sq L.Pt))⟩:Ah))
 |_=>none
abbrev YD:SE.Spec:=(AM YC)
def xE:Aj:={ cC with specs:=AF [(38,Jd),(37,JW)] }
theorem xF (w:Ah) (hp:YA w):vc Tryz.prog (xE) (Af Tryz.f141) (Ar Tryz.f141 [.p (.agg [.int .i64 w.id,.int .i64 w.colour,.int .i64 w.grain,.sl 2 w.ol.n (fun i=>[.int .i64 ((w.ol.g i).x),.int .i64 ((w.ol.g i).y)])])]) (AL Tryz.prog Tryz.f141 (YB w)):=
 @Eq.mpr _ (let A3:=(65535:Int);let A2:=(1:Int);True/\(AG w.id A2 A3=true->True)/\((bif AG w.id A2 A3 then AG w.colour A2 (16:Int)else false)=true->True)/\((bif bif AG w.id A2 A3 then AG w.colour A2 (16:Int)else false then AG w.grain (0:Int) (2:Int)else false)=true->(∀(i:Nat),let A1:=[SV.int .i64 (w.ol.g i).x,SV.int .i64 (w.ol.g i).y];i<w.ol.n->A1=A1)/\w.ol.n<=(1000000:Nat))/\(bif bif bif AG w.id A2 A3 then AG w.colour A2 (16:Int)else false then AG w.grain (0:Int) (2:Int)else false then AA (L.Sq.mk w.ol.n fun(i:Nat)=>w.ol.g i)else false)=GA w) (by kernel_rfl) (by
 conv=>zeta
 exact⟨trivial,fun _=>trivial,fun _=>trivial,fun _=>⟨fun _ _=>rfl,hp⟩,rfl⟩)
theorem xG:AB Tryz.prog 141 YD:=AP Tryz.func141 (c:=Af Tryz.f141) (by kernel_rfl) mixed (fun args p r hs hp=>by
 unfold YC at hs;split at hs
 ·cases hs; exact⟨_, _, xF _ hp.2, (.p (.agg rfl (fun i hi =>by
  rcases i with _|i
  ·exact(Bo.refl _:Bo _ _)
  rcases i with _|i
  ·exact(Bo.refl _:Bo _ _)
  rcases i with _|i
  ·exact(Bo.refl _:Bo _ _)
  rcases i with _|i
  ·exact(Bo.sl hp.1:Bo _ _)
  exact absurd hi (by simp;try omega))) .nil),⟨show Aa Tryz.prog _ from(Aa.cons Kh Ki (Aa.cons L2 L3 Aa.nil)),rfl,⟨show Ae Tryz.prog _ from Ae.nil,(AC.none (fun _=>rfl))⟩⟩⟩
 ·cases hs)
theorem xH:Ao Tryz.prog 141:=fun args w=>by kernel_rfl
def YE (a:Int) (b:Int) (t:Int):Prop:=True
def YF (a:Int) (b:Int) (t:Int):SV:=.bool (Fw a b t)
def YG:List EV->Option (Prop×SV)
 |[.p (.int .i64 a),.p (.int .i64 b),.p (.int .i64 t)]=>some (YE a b t,YF a b t)
 |_=>none
abbrev Qi:SE.Spec:=(AM YG)
def xI:Aj:={ muts:=[],frz:=BH [],specs:=AF [],loops:=AY [],iters:=B6 [],rfs:=AU [],nils:=BD [] }
theorem xJ (a:Int) (b:Int) (t:Int) (hp:YE a b t):vc Tryz.prog (xI) (Af Tryz.f114) (Ar Tryz.f114 [.p (.int .i64 a),.p (.int .i64 b),.p (.int .i64 t)]) (AL Tryz.prog Tryz.f114 (YF a b t)):=
 @Eq.mpr _ ((bif bif decide (a=(0:Int))then true else decide (b=(0:Int))then true else decide (t=(0:Int)) == decide (a=b))=Fw a b t) (by kernel_rfl) (by
 rfl)
theorem YH:AB Tryz.prog 114 Qi:=AP Tryz.func114 (c:=Af Tryz.f114) (by kernel_rfl) mixed (fun args p r hs hp=>by
 unfold YG at hs;split at hs
 ·cases hs;exact⟨_,_,xJ _ _ _ hp,(.same _ (.same _ (.same _ .nil))),⟨show Aa Tryz.prog _ from Aa.nil,rfl,⟨show Ae Tryz.prog _ from Ae.nil,(AC.none (fun _=>rfl))⟩⟩⟩
 ·cases hs)
theorem YI:Ao Tryz.prog 114:=fun args w=>by kernel_rfl
end Go.Proofs.YtdkpcdlnfobnnaaGreat
