/- A symbolic walk over the model, and what it shows of functions of the program: parts of the proof that the text of the row joins. -/
import Derived.Test.YtdkpcdlnfobnnaaGreatW3
import Derived.Test.YtdkpcdlnfobnnaaGreatE5
import Derived.KernelRfl
open List renaming getD_eq_getElem?_getD->AS,getElem?_eq_getElem->rH,range->Adu,mem_range->Adz,all_eq_true->Ad0,getElem?_append_left->Ad7,map->Ad9,length_append->AdL,findSome?_eq_none_iff->Aey,find?_eq_none->AeE,append_assoc->AeP,filter->AeU,length_take->AeW
open Nat renaming not_lt_zero->oE,zero_le->Ads,lt_succ_iff_lt_or_eq->Ad1,le_trans->Aec
open Int renaming toNat_natCast->Ad3,toNat->Ad6,natCast_nonneg->AdG,le_of_lt->AdP,le_refl->AdQ
open Option renaming none->AdB,map_some->Aej,map_eq_none_iff->Ae4
open Bool renaming and_eq_true_iff->AeO
namespace Go.Proofs.YtdkpcdlnfobnnaaGreat
open Go.SE Go.RowKit
set_option maxRecDepth 100000
set_option maxHeartbeats 4000000
set_option linter.unusedVariables false
attribute [local irreducible] vc
section
attribute [local irreducible] GD BU
def Ez (w:L.Sq Ah) (gr:Int) (i t:Nat):List Ag:=(([0,1]:List Int).take t |>.filter fun t=>Fw (w.g i).grain gr t).map fun t=>CY (w.g i).ol t
def EE (w:L.Sq Ah) (gr g:Int) (k:Nat):List Ag:=Cu.stair (Gm (BU w gr) g k)
def DX (w:L.Sq Ah) (gr g:Int) (k i:Nat):List Ag:=EE w gr g k++Io ((BU w gr (Aq g k)).take i) (BU w gr (Br g k))
def EW (w:L.Sq Ah) (gr g:Int) (k i j:Nat):List Ag:=DX w gr g k i++((BU w gr (Br g k)).take j).flatMap fun b=>Kr ((An w gr (Aq g k)).g i) b
def Jg (w:L.Sq Ah) (gr g:Int) (X:List Ag):Prop:=Cu.stair X=BU w gr g/\X.length<=1000000
def Cs (w:L.Sq Ah):Prop:=w.n<=4/\∀i,i<w.n->(w.g i).ol.n<=1000000
theorem iK {n:Int} (h : -9223372036854775808<=n:=by omega) (k:n<=9223372036854775807:=by omega):Ac .i64 n:=⟨h,k⟩
def bJ (n:Nat):Bool:=Cr n||(Adu (AJ n)).all (fun k=>(Adu (AJ n)).all fun k'=>decide (k=k') || !decide (Aq n k=Aq n k'))
theorem AaR:((Adu 16).all bJ)=true:=by kernel_rfl
theorem ND {g:Int} (h:1<=g) (h':g<=15) (h1:Cr g=false) {k k':Nat} (hk:k<AJ g) (hk':k'<AJ g) (e:Aq g k=Aq g k'):k=k':=by
 obtain⟨n,rfl⟩:=Int.eq_ofNat_of_zero_le (show 0<=g by omega);have:=Ad0.1 AaR n (Adz.2 (by omega));unfold bJ at this;rw[h1,Bool.false_or,Ad0]at this;have:=Ad0.1 (this k (Adz.2 hk)) k' (Adz.2 hk');rw[Bool.or_eq_true,decide_eq_true_eq]at this;rcases this with h|h
 ·exact h
 ·rw[e]at h;simp at h
theorem bK {n:Nat} (h:n<=4):Bw n=2 ^ n-1:=by
 have:n=0\/n=1\/n=2\/n=3\/n=4:=by omega
 rcases this with rfl|rfl|rfl|rfl|rfl<;>decide
theorem NE {n:Nat} (h:n<=4):Bw n<=15:=(LI h).2.1
theorem bL {n:Nat} (h:n<=4) {g:Int} (h1:1<=g) (hg:g<=Bw n) (ho:Cr g=true):Bj g<n:=by
 obtain⟨e,hl⟩:=QB h1 (Int.le_trans hg (NE h)) ho;rw[e,bK h]at hg;generalize Bj g=i at *;have h2:n=0\/n=1\/n=2\/n=3\/n=4:=by omega
 have h3:i=0\/i=1\/i=2\/i=3:=by omega
 rcases h2 with rfl|rfl|rfl|rfl|rfl<;>rcases h3 with rfl|rfl|rfl|rfl<;>simp at hg ⊢
theorem NF {i k:Nat} (hi:i<4) (hk:k<=i):(1<FN (2 ^ i) k)↔k<i:=by
 have h3:i=0\/i=1\/i=2\/i=3:=by omega
 have h4:k=0\/k=1\/k=2\/k=3:=by omega
 rcases h3 with rfl|rfl|rfl|rfl<;>rcases h4 with rfl|rfl|rfl|rfl<;>first|(exfalso;omega)|decide
def Ir (s:Ag):List SV:=[.int .i64 s.w,.int .i64 s.h]
theorem NG {X Y:List Ag} (h:X=Y):(AX X).n=(AX Y).n/\∀i,i<(AX X).n->Ir ((AX X).g i)=Ir ((AX Y).g i):=by rw[h];exact⟨rfl,fun _ _=>rfl⟩
theorem bM {X Y Z:List Ag} (h:Y=X++Z) {r:Nat->List SV} (hr:∀i,i<Z.length->r i=Ir (Z.getD i ⟨0,0⟩)):(AX X).n+Z.length=(AX Y).n/\∀i,i<(AX X).n+Z.length->Ba (AX X).n (fun j=>Ir ((AX X).g j)) r i=Ir ((AX Y).g i):=by
 subst h;refine⟨by simp[AX],fun i hi=>?_⟩;unfold Ba
 by_cases e:i<(AX X).n
 ·rw[if_pos e];have e':i<X.length:=e;simp[AX,AS,Ad7 e']
 ·rw[if_neg e];have e':¬ i<X.length:=e;have hi:i<X.length+Z.length:=hi;rw[show(AX X).n=X.length from rfl,hr (i-X.length) (by omega)];simp[AX,AS,List.getElem?_append_right (show X.length<=i by omega)]
theorem bN {X:List Ag} {u:Nat->Ag} (h:CU Dz (AX X).n (AX X).g u) {Y:List Ag} (hY:Cu.stair X=Y):Be u (AX X).n=(AX Y).n/\∀i,i<Be u (AX X).n->Ir (BM u (AX X).n i)=Ir ((AX Y).g i):=by
 have e:CR u (AX X).n=Y:=by rw[AaN h,show(AX X).n=X.length from rfl,AaQ,hY]
 unfold Be BM AX at *;simp only at e ⊢;rw[e];exact⟨rfl,fun _ _=>rfl⟩
theorem AaS (w:L.Sq Ah) (gr g:Int) (k i:Nat) {j:Nat} (hj:j<(An w gr (Br g k)).n):EW w gr g k i (j+1)=EW w gr g k i j++Kr ((An w gr (Aq g k)).g i) ((An w gr (Br g k)).g j):=by
 have hj:j<(BU w gr (Br g k)).length:=hj;unfold EW;rw[List.take_add_one,rH hj,List.flatMap_append,<- AeP];simp[An,AX,AS,hj]
theorem AaT (w:L.Sq Ah) (gr g:Int) (k:Nat) {i:Nat} (hi:i<(An w gr (Aq g k)).n):EW w gr g k i (An w gr (Br g k)).n=DX w gr g k (i+1):=by
 have hi:i<(BU w gr (Aq g k)).length:=hi;unfold EW DX;rw[show(An w gr (Br g k)).n=(BU w gr (Br g k)).length from rfl,List.take_length,List.take_add_one,rH hi];unfold Io;rw[List.flatMap_append,<- AeP];simp[An,AX,AS,hi]
theorem AaU (w:L.Sq Ah) (gr g:Int) (k:Nat):DX w gr g k 0=EE w gr g k:=by unfold DX Io;simp
theorem AaV (w:L.Sq Ah) (gr g:Int) (k i:Nat):EW w gr g k i 0=DX w gr g k i:=by unfold EW;simp
theorem AaW (w:L.Sq Ah) (gr g:Int) (k:Nat):Cu.stair (DX w gr g k (An w gr (Aq g k)).n)=EE w gr g (k+1):=by
 unfold DX EE;rw[show(An w gr (Aq g k)).n=(BU w gr (Aq g k)).length from rfl,List.take_length,AaP];rfl
theorem AaX (w:L.Sq Ah) (gr:Int) (i:Nat) {t:Nat} (ht:t<2):Ez w gr i (t+1)=Ez w gr i t++(if Fw (w.g i).grain gr t=true then [CY (w.g i).ol t]else []):=by
 unfold Ez;have h:t=0\/t=1:=by omega
 rcases h with rfl|rfl
 ·simp only[List.take,List.filter_nil,List.map_nil,List.nil_append];show Ad9 _ (AeU _ [0])=_;cases h:Fw (w.g i).grain gr 0<;>simp[AeU,h]
 ·show Ad9 _ (AeU _ [0,1])=Ad9 _ (AeU _ [0])++_;cases h:Fw (w.g i).grain gr 0<;>cases h2:Fw (w.g i).grain gr 1<;>simp[AeU,h,h2]
theorem bO (w:L.Sq Ah) (gr:Int) {g:Int} (h:1<=g) (h':g<=15) (h1:Cr g=false) {k i j:Nat} (hk:k<AJ g):(EW w gr g k i j).length<=10000/\(DX w gr g k i).length<=10000/\(EE w gr g k).length<=2000:=by
 obtain⟨hp0,hp⟩:=Iq h h' h1;obtain⟨p1,p2,p3,p4,p5⟩:=hp k hk;have hc:=LJ (g:=g) (by omega) h';have hT:∀p,0<=p->p<g->NC (BU w gr) p:=fun p hp hpg=>LK w gr hp (by omega);have e1:(EE w gr g k).length<=2000:=by
  have h2:=(QI hT hp k (by omega)).1;have h3:=QG (Gm (BU w gr) g k);have h4:=bH g (show k<=AJ g by omega);have h5:=hc.2.2 h h1;unfold EE;omega
 have hpk:2*(cb (Aq g k)*cb (Br g k))<=2000:=by
  have h4:=bH g (show k+1<=AJ g by omega);rw[QH]at h4;have h5:=hc.2.2 h h1;omega
 have hA:=(hT _ (AdP p1) p2).len;have hB:=(hT _ (AdP p3) p4).len;have hc2:=(LJ (g:=Br g k) (by omega) (by omega)).1;have e2:(DX w gr g k i).length<=4000:=by
  unfold DX;rw[AdL,bD];have:(List.take i (BU w gr (Aq g k))).length<=cb (Aq g k):=by rw[AeW];omega
  have:=Nat.mul_le_mul this hB;omega
 refine⟨?_,by omega,e1⟩;unfold EW;rw[AdL];have hfm:∀(a:Ag) (B:List Ag),(B.flatMap fun b=>Kr a b).length=2*B.length:=fun a B=>by
  induction B with
  |nil=>rfl
  |cons b B ih=>rw[List.flatMap_cons,AdL,ih,List.length_cons];show 2+_=_;omega
 rw[hfm,AeW];omega
theorem NH (w:L.Sq Ah) (gr:Int) {g:Int} (h:0<=g) (h':g<=15):(BU w gr g).length<=2000:=Aec (LK w gr h h').len (LJ h h').1
theorem bP {w:L.Sq Ah} {gr g:Int} {i:Nat} (h:i<(An w gr g).n):(An w gr g).g i∈BU w gr g:=by
 have h:i<(BU w gr g).length:=h;show(BU w gr g).getD i ⟨0,0⟩∈_;rw[AS,rH h];exact List.getElem_mem h
theorem AaY (w:L.Sq Ah) (gr:Int) {g:Int} (h:1<=g) (h15:g<=15) (h1:Cr g=false):Jg w gr g (EE w gr g (AJ g)):=by
 have e:EE w gr g (AJ g)=BU w gr g:=(QF w gr h h15 h1).symm;refine⟨?_,?_⟩
 ·rw[e,QF w gr h h15 h1,AaO]
 ·rw[e];have:=(LK w gr (by omega) h15 (g:=g)).len;have:=(LJ (g:=g) (by omega) h15).1;omega
section
attribute [local irreducible] AJ Aq Bw
abbrev H8:Mk:={ T:=(L.Sq Ah)×(Int)×(Int->Bool)×(Int),U:=Int->Bool,args:=fun t=>(fun w gr dom g=>[.loc 1000 0,.p (.int .i64 g)]) t.1 t.2.1 t.2.2.1 t.2.2.2,lkeys:=[1000,1001],keys:=[],lent:=fun t=>(fun w gr dom g=>[(1000,.blk 172 [.p ((.sl 4 w.n (fun i=>[.int .i64 ((w.g i).id),.int .i64 ((w.g i).colour),.int .i64 ((w.g i).grain),.sl 2 (w.g i).ol.n (fun i1=>[.int .i64 (((w.g i).ol.g i1).x),.int .i64 (((w.g i).ol.g i1).y)])]))),.p (.int .i64 gr),.mapv 1001]),(1001,.mq 3 64 dom (Ad (An w gr)))]) t.1 t.2.1 t.2.2.1 t.2.2.2,pre:=fun t=>(fun w gr dom g=>Cs w/\0<=g/\g<=Bw w.n) t.1 t.2.1 t.2.2.1 t.2.2.2,post:=fun t u=>(fun w gr dom g=>fun u=>True) t.1 t.2.1 t.2.2.1 t.2.2.2 u,lent':=fun t u=>(fun w gr dom g=>fun u=>[(1000,.blk 172 [.p ((.sl 4 w.n (fun i=>[.int .i64 ((w.g i).id),.int .i64 ((w.g i).colour),.int .i64 ((w.g i).grain),.sl 2 (w.g i).ol.n (fun i1=>[.int .i64 (((w.g i).ol.g i1).x),.int .i64 (((w.g i).ol.g i1).y)])]))),.p (.int .i64 gr),.mapv 1001]),(1001,.mq 3 64 u (Ad (An w gr)))]) t.1 t.2.1 t.2.2.1 t.2.2.2 u,own:=fun t u=>(fun w gr dom g=>fun u=>[]) t.1 t.2.1 t.2.2.1 t.2.2.2 u,res:=fun t u=>(fun w gr dom g=>fun u=>.p (Ad (An w gr) g)) t.1 t.2.1 t.2.2.1 t.2.2.2 u }
abbrev bQ:H8.T->Nat:=fun t=>(fun w gr dom g=>g.toNat) t.1 t.2.1 t.2.2.1 t.2.2.2
theorem AaZ (rn:Nat) (w:L.Sq Ah) (gr:Int) (dom:Int->Bool) (g:Int) (hp:H8.pre (w,gr,dom,g)) (hmu:g.toNat<rn+1):vc Tryz.prog ({ muts:=[2,80],frz:=BH [],specs:=AF [(116,Q6),(114,Qi),(115,N2)],loops:=AY [(21,{ T:=Nat,keep:=[2,3,7],keepO:=[2,7,80,1000,1001],chg:=fun i=>[(8,.p (.int .i64 (i:Int)))],own:=fun _=>[],inv:=fun i=>i<=Bj g,mu:=fun i=>Bj g-i }),(24,{ T:=Nat,keep:=[2,3,7,8],keepO:=[2,1000,1001],chg:=fun i=>[(93,.p (.int .i64 (i:Int)))],own:=fun t=>[(7,.blk 64 [.row 80]),(80,.row 73 2 (AX (Ez w gr (Bj g) t)).n (fun j=>[.int .i64 ((AX (Ez w gr (Bj g) t)).g j).w,.int .i64 ((AX (Ez w gr (Bj g) t)).g j).h]))],inv:=fun i=>i<=2,mu:=fun i=>2-i }),(8,{ T:=Nat×(Int->Bool)×Nat,keep:=[2,3,7,10,31,32],keepO:=[2,1000],chg:=fun t=>[(33,.p (.int .i64 (t.1:Int)))],own:=fun t=>[(7,.blk 64 [.row 80]),(80,.row 73 2 (AX (DX w gr g t.2.2 t.1)).n (fun j=>[.int .i64 ((AX (DX w gr g t.2.2 t.1)).g j).w,.int .i64 ((AX (DX w gr g t.2.2 t.1)).g j).h])),(1001,.mq 3 64 t.2.1 (Ad (An w gr)))],inv:=fun t=>t.1<=(An w gr (Aq g t.2.2)).n/\t.2.2<AJ g,mu:=fun t=>(An w gr (Aq g t.2.2)).n-t.1,tie:=fun t=>[(10,.int .i64 (Aq g t.2.2))] }),(11,{ T:=Nat×Nat×Nat,keep:=[2,3,7,10,12,31,32,33,41,42],keepO:=[2,12,1000,1001],chg:=fun t=>[(43,.p (.int .i64 (t.1:Int)))],own:=fun t=>[(7,.blk 64 [.row 80]),(80,.row 73 2 (AX (EW w gr g t.2.1 t.2.2 t.1)).n (fun j=>[.int .i64 ((AX (EW w gr g t.2.1 t.2.2 t.1)).g j).w,.int .i64 ((AX (EW w gr g t.2.1 t.2.2 t.1)).g j).h]))],inv:=fun t=>t.1<=(An w gr (Br g t.2.1)).n/\t.2.1<AJ g,mu:=fun t=>(An w gr (Br g t.2.1)).n-t.1,tie:=fun t=>[(10,.int .i64 (Aq g t.2.1)),(33,.int .i64 (t.2.2:Int))] })],iters:=B6 [(156,Q5)],rfs:=AU [(6,{ T:=Int->Bool,keep:=[2,3,7],keepO:=[1000,2],own:=fun k d=>[(7,.blk 64 [.row 80]),(80,.row 73 2 (AX (EE w gr g k)).n (fun j=>[.int .i64 ((AX (EE w gr g k)).g j).w,.int .i64 ((AX (EE w gr g k)).g j).h])),(1001,.mq 3 64 d (Ad (An w gr)))],inv:=fun k _=>k<=AJ g })],nils:=BD [(5,[(7,80,73,2)]),(20,[(7,80,73,2)])],mks:=EA [(117,Kq),(67,Mk.lt H8 bQ rn)],ren:=fun k=>if k=1010 then 131 else if k=32 then 80 else k,joins:=AY [(29,{ T:=(Int->Bool)×List Ag,keep:=[2,3,7],keepO:=[2,1000],chg:=fun _=>[],own:=fun t=>[(7,.blk 64 [.row 80]),(80,.row 73 2 (AX (t.2)).n (fun j=>[.int .i64 ((AX (t.2)).g j).w,.int .i64 ((AX (t.2)).g j).h])),(1001,.mq 3 64 t.1 (Ad (An w gr)))],inv:=fun t=>Jg w gr g t.2,mu:=fun _=>0 }),(30,{ T:=Int->Bool,keep:=[2,3],keepO:=[2,1000],chg:=fun _=>[],own:=fun t=>[(1001,.mq 3 64 t (Ad (An w gr)))],inv:=fun t=>t g=true,mu:=fun _=>0 })],anys:=[1,27,29,30],rek:=Ma [(16,[(80,131)]),(29,[(80,131)])] }) (Af Tryz.f67) (D3 Tryz.f67 (H8.args (w,gr,dom,g)) (H8.lent (w,gr,dom,g))) (FD Tryz.prog Tryz.f67 H8 (w,gr,dom,g)):=
 @Eq.mpr _ (let I:=SV.int .i64;let T:=Ad6;let A68:=(0:Nat);let A63:=(nat_lit 3);let A62:=(nat_lit 7);let A48:=(nat_lit 2);let A46:=(AX (EE w gr g A68));let A42:=(140737488355328:Nat);let A41:=(1000000:Nat);let A32:=(Bj g);let A29:=(AX (EE w gr g (AJ g)));let A26:=(∀(x:Int),dom x=dom x);let A25:=(0:Int);let A24:=(1
:Int);let A21:=(2:Nat);let A13:=(nat_lit 0);let A12:=(An w gr);let A10:=(An w gr g);let A16:=(A10.n=A10.n/\∀(i:Nat),let A76:=[I (A10.g i).w,I (A10.g i).h];i<A10.n->A76=A76);let A7:=(∀(x:Int),dom x=true->Ad A12 x=Ad A12 x);let A2:=(w.n=w.n/\∀(i:Nat),let A20:=[I (w.g i).id,I (w.g i).colour,I (w.g i).grain,SV.sl
 A21 (w.g i).ol.n fun(i1:Nat)=>[I ((w.g i).ol.g i1).x,I ((w.g i).ol.g i1).y]];i<w.n->A20=A20);let A1:=((decide (g=A25)=true->∃(g_1:(Int->Bool)×List Ag),let A80:=(AX g_1.2);nat_lit 0=nat_lit 0/\SV.ref [I g] A13=SV.ref [I g] A13/\nat_lit 0=nat_lit 0/\(nat_lit 1=A80.n/\∀(i:Nat),i<nat_lit 1->Bb [I A25,I A25]
 A48 i = [I (A80.g i).w,I (A80.g i).h])/\(∀(x:Int),dom x=g_1.1 x)/\A7/\nat_lit 0=nat_lit 0/\A2/\gr=gr/\Jg w gr g g_1.2)/\(decide (g=A25)=false->Ac .i64 (g-A24)/\(decide (Em g (g-A24)=A25)=true->(∃(g_1:Nat),A25=(↑g_1:Int)/\g_1<=Bj g)/\∀(g_1:Nat),let A18:=(↑g_1:Int);let A71:=(A25 <=
 A18/\A18<(↑w.n:Int));let A9:=(w.g (T A18));let A22:=((∀(i:Nat),let A69:=[I (A9.ol.g i).x,I (A9.ol.g i).y];i<A9.ol.n->A69=A69)/\A9.ol.n<=A41);g_1<=Bj g->A25<=A18/\(decide (A24<FN g A18)=true->Ac .i64 (A18+A24)/\∃(g':Nat),A18+A24=(↑g':Int)/\nat_lit 0=nat_lit 0/\SV.ref [I g] A13=SV.ref [I
 g] A13/\nat_lit 0=nat_lit 0/\(nat_lit 0=nat_lit 0/\∀(i:Nat),i<nat_lit 0->([]:List SV)= [])/\nat_lit 0=nat_lit 0/\A2/\gr=gr/\A26/\A7/\g'<=Bj g/\Bj g-g'<Bj g-g_1)/\(decide (A24<FN g A18)=false->(∃(g_2:Nat),let A50:=(AX (Ez w gr A32 g_2));A25=(↑g_2:Int)/\(nat_lit 0=A50.n/\∀(i:Nat),i<nat_lit 0
 -> []= [I (A50.g i).w,I (A50.g i).h])/\g_2<=A21)/\∀(g_2:Nat),let A19:=(↑g_2:Int);let A79:=(A19+A24);let A6:=(AX (Ez w gr A32 g_2));let A70:=(A6.n+nat_lit 1);g_2<=A21->(decide (A19<(2:Int))=true->A71/\True/\(Fw A9.grain gr A19=true->A71/\(A22/\A70*nat_lit 16<=A42/\Ac .i64 A79/\∃(g':Nat),let A54 :=
 (AX (Ez w gr A32 g'));A19+A24=(↑g':Int)/\A18=A18/\nat_lit 0=nat_lit 0/\SV.ref [I g] A13=SV.ref [I g] A13/\nat_lit 0=nat_lit 0/\(A6.n+nat_lit 1=A54.n/\∀(i:Nat),let A51:=(CY (L.Sq.mk A9.ol.n fun(i:Nat)=>A9.ol.g i) A19);i<A6.n+nat_lit 1->Ba A6.n (fun(j:Nat)=>[I (A6.g j).w,I (A6.g j).h]) (fun(x:Nat)=>[I A51.w,I A51.h])
 i = [I (A54.g i).w,I (A54.g i).h])/\nat_lit 0=nat_lit 0/\A2/\gr=gr/\A26/\A7/\g'<=A21/\A21-g'<A21-g_2)/\A22/\(A70*nat_lit 16<=A42/\Ac .i64 A79/\∃(g':Nat),let A55:=(AX (Ez w gr A32 g'));A19+A24=(↑g':Int)/\A18=A18/\nat_lit 0=nat_lit 0/\SV.ref [I g] A13=SV.ref [I g] A13/\nat_lit 0=nat_lit 0/\(A6.n+nat_lit 1 =
 A55.n/\∀(i:Nat),let A52:=(CY (L.Sq.mk A9.ol.n fun(i:Nat)=>A9.ol.g i) A19);i<A6.n+nat_lit 1->Ba A6.n (fun(j:Nat)=>[I (A6.g j).w,I (A6.g j).h]) (fun(x:Nat)=>[I A52.w,I A52.h]) i = [I (A55.g i).w,I (A55.g i).h])/\nat_lit 0=nat_lit 0/\A2/\gr=gr/\A26/\A7/\g'<=A21/\A21-g'<A21-g_2)/\A70*nat_lit 16<=A42/\Ac .i64 A79/\∃(g' :
 Nat),let A56:=(AX (Ez w gr A32 g'));A19+A24=(↑g':Int)/\A18=A18/\nat_lit 0=nat_lit 0/\SV.ref [I g] A13=SV.ref [I g] A13/\nat_lit 0=nat_lit 0/\(A6.n+nat_lit 1=A56.n/\∀(i:Nat),let A53:=(CY (L.Sq.mk A9.ol.n fun(i:Nat)=>A9.ol.g i) A19);i<A6.n+nat_lit 1->Ba A6.n (fun(j:Nat)=>[I (A6.g j).w,I (A6.g j).h]) (fun(x:Nat)=>[I
 A53.w,I A53.h]) i = [I (A56.g i).w,I (A56.g i).h])/\nat_lit 0=nat_lit 0/\A2/\gr=gr/\A26/\A7/\g'<=A21/\A21-g'<A21-g_2)/\(Fw A9.grain gr A19=false->Ac .i64 A79/\∃(g':Nat),let A57:=(AX (Ez w gr A32 g'));A19+A24=(↑g':Int)/\A18=A18/\nat_lit 0=nat_lit 0/\SV.ref [I g] A13=SV.ref [I g] A13/\nat_lit 0=nat_lit 0 /\
 (A6.n=A57.n/\∀(i:Nat),i<A6.n -> [I (A6.g i).w,I (A6.g i).h]= [I (A57.g i).w,I (A57.g i).h])/\nat_lit 0=nat_lit 0/\A2/\gr=gr/\A26/\A7/\g'<=A21/\A21-g'<A21-g_2))/\(decide (A19<(2:Int))=false->∃(g_3:(Int->Bool)×List Ag),let A81:=(AX g_3.2);nat_lit 0=nat_lit 0/\SV.ref [I g] A13=SV.ref [I g] A13/\nat_lit 0=nat_lit
 0/\(A6.n=A81.n/\∀(i:Nat),i<A6.n -> [I (A6.g i).w,I (A6.g i).h]= [I (A81.g i).w,I (A81.g i).h])/\(∀(x:Int),dom x=g_3.1 x)/\A7/\nat_lit 0=nat_lit 0/\A2/\gr=gr/\Jg w gr g g_3.2)))/\(decide (Em g (g-A24)=A25)=false->True/\((A25<=g/\g<=(15:Int))/\∃(t:Int->Bool),(nat_lit 0=A46.n/\∀(i:Nat),i<nat_lit 0 -> []= [I (A46.g
 i).w,I (A46.g i).h])/\(∀(x:Int),dom x=t x)/\A7/\nat_lit 0=nat_lit 0/\A2/\gr=gr/\A68<=AJ g)/\(∀(k:Nat) (t:Int->Bool) (vk:Nat->Go.Value),let A39:=(AX (EE w gr g k));let A35:=(AX (EE w gr g (k+(1:Nat))));k<AJ g->k<=AJ g->∃(t_1:L.Sq Ah×Int×(Int->Bool)×Int),let A83:=(An t_1.1 t_1.2.1);let A5:=(An t_1.1
 t_1.2.1 t_1.snd.2.2);let A43:=(↑A5.n:Int);let A28:=(A5.n=A5.n/\∀(i:Nat),let A77:=[I (A5.g i).w,I (A5.g i).h];i<A5.n->A77=A77);nat_lit 0=A68/\Aq g k=t_1.snd.2.2/\(w.n=t_1.1.n/\∀(i:Nat),let A58:=(t_1.1.g i);i<w.n -> [I (w.g i).id,I (w.g i).colour,I (w.g i).grain,SV.sl A21 (w.g i).ol.n fun(i1:Nat)=>[I ((w.g i).ol.g i1).x,I ((w.g i).ol.g
 i1).y]]= [I A58.id,I A58.colour,I A58.grain,SV.sl A21 A58.ol.n fun(i1:Nat)=>[I (A58.ol.g i1).x,I (A58.ol.g i1).y]])/\gr=t_1.2.1/\(∀(x:Int),t x=t_1.snd.2.1 x)/\(∀(x:Int),t x=true->Ad A12 x=Ad A83 x)/\((Cs t_1.1/\A25<=t_1.snd.2.2/\t_1.snd.2.2<=Bw t_1.1.n)/\T t_1.snd.2.2<rn)/\∀(u:Int->Bool),True->(∃(g_1:Nat×(Int->Bool)×Nat),
 let A38:=(AX (DX w gr g g_1.2.2 g_1.1));A25=(↑g_1.1:Int)/\(A39.n=A38.n/\∀(i:Nat),i<A39.n -> [I (A39.g i).w,I (A39.g i).h]= [I (A38.g i).w,I (A38.g i).h])/\(∀(x:Int),u x=g_1.2.1 x)/\(∀(x:Int),u x=true->Ad A83 x=Ad A12 x)/\Aq g k=Aq g g_1.2.2/\g_1.1<=(An w gr (Aq g g_1.2.2)).n/\g_1.2.2<AJ g)/\∀(g_1:Nat×(Int ->
 Bool)×Nat),let A72:=(An w gr (Aq g g_1.2.2));let A15:=(↑g_1.1:Int);let A27:=(A5.g (T A15));let A14:=(AX (DX w gr g g_1.2.2 g_1.1));Aq g k=Aq g g_1.2.2/\g_1.1<=A72.n/\g_1.2.2<AJ g->(decide (A15<A43)=true->(A25<=A15/\A15<A43)/\∃(t_2:L.Sq Ah×Int×(Int->Bool)×Int),let A47:=(An t_2.1 t_2.2.1);let A8 :=
 (An t_2.1 t_2.2.1 t_2.snd.2.2);let A61:=(↑A8.n:Int);nat_lit 0=A68/\Dj g (Aq g k)=t_2.snd.2.2/\(t_1.1.n=t_2.1.n/\∀(i:Nat),let A60:=(t_2.1.g i);let A59:=(t_1.1.g i);i<t_1.1.n -> [I A59.id,I A59.colour,I A59.grain,SV.sl A21 A59.ol.n fun(i1:Nat)=>[I (A59.ol.g i1).x,I (A59.ol.g i1).y]]= [I A60.id,I A60.colour,I A60.grain,SV.sl A21
 A60.ol.n fun(i1:Nat)=>[I (A60.ol.g i1).x,I (A60.ol.g i1).y]])/\t_1.2.1=t_2.2.1/\(∀(x:Int),g_1.2.1 x=t_2.snd.2.1 x)/\(∀(x:Int),g_1.2.1 x=true->Ad A12 x=Ad A47 x)/\((Cs t_2.1/\A25<=t_2.snd.2.2/\t_2.snd.2.2<=Bw t_2.1.n)/\T t_2.snd.2.2<rn)/\∀(u_1:Int->Bool),True->(∃(g_2:Nat×Nat×Nat),let A33:=(AX (EW w gr g g_2.2.1 g_2.2.2
 g_2.1));A25=(↑g_2.1:Int)/\(A14.n=A33.n/\∀(i:Nat),i<A14.n -> [I (A14.g i).w,I (A14.g i).h]= [I (A33.g i).w,I (A33.g i).h])/\Aq g k=Aq g g_2.2.1/\A15=(↑g_2.2.2:Int)/\g_2.1<=(An w gr (Br g g_2.2.1)).n/\g_2.2.1<AJ g)/\∀(g_2:Nat×Nat×Nat),let A73:=(An w gr (Br g g_2.2.1));let A23:=(↑g_2.1:Int);let A49:=(A8.g (T A23));let A11
:=(AX (EW w gr g g_2.2.1 g_2.2.2 g_2.1));Aq g k=Aq g g_2.2.1/\A15=(↑g_2.2.2:Int)/\g_2.1<=A73.n/\g_2.2.1<AJ g->(decide (A23<A61)=true->(A25<=A23/\A23<A61)/\Ac .i64 (A27.w+A49.w)/\Ac .i64 (A27.h+A49.h)/\(A11.n+nat_lit 2)*nat_lit 16<=A42/\Ac .i64 (A23+A24)/\∃(g':Nat×Nat ×
 Nat),let A74:=(An w gr (Br g g'.2.1));let A34:=(AX (EW w gr g g'.2.1 g'.2.2 g'.1));A23+A24=(↑g'.1:Int)/\A61=A61/\(A8.n=A8.n/\∀(i:Nat),let A78:=[I (A8.g i).w,I (A8.g i).h];i<A8.n->A78=A78)/\nat_lit 0=nat_lit 0/\A15=A15/\A43=A43/\A28/\Aq g k=Aq g k/\nat_lit 0=nat_lit 0/\SV.ref [I g] A13=SV.ref [I g] A13/\nat_lit 0
 = nat_lit 0/\vk A62=vk A62/\vk A63=vk A63/\vk A48=vk A48/\(A11.n+nat_lit 2=A34.n/\∀(i:Nat),i<A11.n+nat_lit 2->Ba A11.n (fun(j:Nat)=>[I (A11.g j).w,I (A11.g j).h]) (Bb [I (A27.w+A49.w),I (Max.max A27.h A49.h),I (Max.max A27.w A49.w),I (A27.h+A49.h)] A48) i = [I (A34.g i).w,I (A34.g i).h])/\A27.w=A27.w/\A27.h=A27.h/\(∀(x:Int),u_1 x
 = u_1 x)/\(∀(x:Int),u_1 x=true->Ad A47 x=Ad A47 x)/\nat_lit 0=nat_lit 0/\(t_2.1.n=t_2.1.n/\∀(i:Nat),let A64:=(t_2.1.g i);let A17:=[I A64.id,I A64.colour,I A64.grain,SV.sl A21 A64.ol.n fun(i1:Nat)=>[I (A64.ol.g i1).x,I (A64.ol.g i1).y]];i<t_2.1.n->A17=A17)/\t_2.2.1=t_2.2.1/\(Aq g k=Aq g g'.2.1/\A15=(↑g'.2.2:Int)/\g'.1 <=
 A74.n/\g'.2.1<AJ g)/\A74.n-g'.1<A73.n-g_2.1)/\(decide (A23<A61)=false->Ac .i64 (A15+A24)/\∃(g':Nat×(Int->Bool)×Nat),let A75:=(An w gr (Aq g g'.2.2));let A40:=(AX (DX w gr g g'.2.2 g'.1));A15+A24=(↑g'.1:Int)/\A43=A43/\A28/\Aq g k=Aq g k/\nat_lit 0=nat_lit 0/\SV.ref [I g] A13 =
 SV.ref [I g] A13/\nat_lit 0=nat_lit 0/\vk A62=vk A62/\vk A63=vk A63/\vk A48=vk A48/\(A11.n=A40.n/\∀(i:Nat),i<A11.n -> [I (A11.g i).w,I (A11.g i).h]= [I (A40.g i).w,I (A40.g i).h])/\(∀(x:Int),u_1 x=g'.2.1 x)/\(∀(x:Int),u_1 x=true->Ad A47 x=Ad A12 x)/\nat_lit 0=nat_lit 0/\(t_2.1.n=t_1.1.n/\∀(i:Nat),let A66:=(t_1.1.g i);let A65
:=(t_2.1.g i);i<t_2.1.n -> [I A65.id,I A65.colour,I A65.grain,SV.sl A21 A65.ol.n fun(i1:Nat)=>[I (A65.ol.g i1).x,I (A65.ol.g i1).y]]= [I A66.id,I A66.colour,I A66.grain,SV.sl A21 A66.ol.n fun(i1:Nat)=>[I (A66.ol.g i1).x,I (A66.ol.g i1).y]])/\t_2.2.1=t_1.2.1/\(Aq g k=Aq g g'.2.2/\g'.1<=A75.n/\g'.2.2<AJ g)/\A75.n-g'.1<A72.n-g_1.1)) /\
 (decide (A15<A43)=false->∃(t:Nat×(Nat->Ag)),(A14.n=t.1/\∀(i:Nat),i<A14.n -> [I (A14.g i).w,I (A14.g i).h]= [I (t.2 i).w,I (t.2 i).h])/\t.1<=A41/\∀(u:Nat->Ag),CU Dz t.1 t.2 u->∃(t':Int->Bool),nat_lit 0=nat_lit 0/\SV.ref [I g] A13=SV.ref [I g] A13/\nat_lit 0=nat_lit 0/\vk A62=vk A62/\vk A63=vk A63
 /\ vk A48=vk A48/\(Be u t.1=A35.n/\∀(i:Nat),i<Be u t.1 -> [I (BM u t.1 i).w,I (BM u t.1 i).h]= [I (A35.g i).w,I (A35.g i).h])/\(∀(x:Int),g_1.2.1 x=t' x)/\(∀(x:Int),g_1.2.1 x=true->Ad A12 x=Ad A12 x)/\nat_lit 0=nat_lit 0/\(t_1.1.n=w.n/\∀(i:Nat),let A67:=(t_1.1.g i);i<t_1.1.n -> [I A67.id,I A67.colour,I A67.grain,SV.sl
 A21 A67.ol.n fun(i1:Nat)=>[I (A67.ol.g i1).x,I (A67.ol.g i1).y]]= [I (w.g i).id,I (w.g i).colour,I (w.g i).grain,SV.sl A21 (w.g i).ol.n fun(i1:Nat)=>[I ((w.g i).ol.g i1).x,I ((w.g i).ol.g i1).y]])/\t_1.2.1=gr/\k+(1:Nat)<=AJ g))/\∀(t:Int->Bool),AJ g<=AJ g->∃(g_1:(Int->Bool)×List Ag),let A82:=(AX g_1.2);nat_lit 0=nat_lit 0 /\
 SV.ref [I g] A13=SV.ref [I g] A13/\nat_lit 0=nat_lit 0/\(A29.n=A82.n/\∀(i:Nat),i<A29.n -> [I (A29.g i).w,I (A29.g i).h]= [I (A82.g i).w,I (A82.g i).h])/\(∀(x:Int),t x=g_1.1 x)/\(∀(x:Int),t x=true->Ad A12 x=Ad A12 x)/\nat_lit 0=nat_lit 0/\A2/\gr=gr/\Jg w gr g g_1.2)));(dom g=true->(true=true->∃(u:Int ->
 Bool),A16/\A2/\gr=gr/\(∀(x:Int),dom x=u x)/\A7/\True)/\(true=false->A1/\∀(g_1:(Int->Bool)×List Ag),let A36:=(AX g_1.2);let A30:=(∀(x:Int),(decide (x=g)||g_1.1 x)=true->Ad A12 x=Ad A12 x);let A3:=(∃(t:Nat×(Nat->Ag)),(A36.n=t.1/\∀(i:Nat),i<A36.n -> [I (A36.g i).w,I (A36.g i).h]= [I (t.2 i).w,
 I (t.2 i).h])/\t.1<=A41/\∀(u:Nat->Ag),CU Dz t.1 t.2 u->(Be u t.1=A10.n/\∀(i:Nat),i<Be u t.1 -> [I (BM u t.1 i).w,I (BM u t.1 i).h]= [I (A10.g i).w,I (A10.g i).h])/\∃(g_2:Int->Bool),SV.ref [I g] A13=SV.ref [I g] A13/\nat_lit 0=nat_lit 0/\(∀(x:Int),(decide (x=g)||g_1.1 x)=g_2 x)/\A30/\nat_lit 0 =
 nat_lit 0/\A2/\gr=gr/\g_2 g=true);Jg w gr g g_1.2->(A3/\A3/\A3/\A3/\A3/\A3/\A3/\A3/\A3/\∃(t:Nat×(Nat->Ag)),(A36.n=t.1/\∀(i:Nat),i<A36.n -> [I (A36.g i).w,I (A36.g i).h]= [I (t.2 i).w,I (t.2 i).h])/\t.1<=A41/\∀(u:Nat->Ag),CU Dz t.1 t.2 u->(Be u t.1=A10.n/\∀(i:Nat),i<Be u t.1 -> [I (BM u t.1 i).w,I (BM
 u t.1 i).h]= [I (A10.g i).w,I (A10.g i).h])/\∃(g_2:Int->Bool),SV.ref [I g] A13=SV.ref [I g] A13/\nat_lit 0=nat_lit 0/\(∀(x:Int),(decide (x=g)||g_1.1 x)=g_2 x)/\A30/\nat_lit 0=nat_lit 0/\A2/\gr=gr/\g_2 g=true)/\∀(g_2:Int->Bool),let A44:=(∀(x:Int),g_2 x=true->Ad A12 x=Ad A12 x);g_2 g=true->(g_2 g =
 true->∃(u:Int->Bool),A16/\A2/\gr=gr/\(∀(x:Int),g_2 x=u x)/\A44/\True)/\(g_2 g=false->∃(u:Int->Bool),A10.n=A68/\A2/\gr=gr/\(∀(x:Int),g_2 x=u x)/\A44/\True)))/\(dom g=false->(false=true->∃(u:Int->Bool),A10.n=A68/\A2/\gr=gr/\(∀(x:Int),dom x=u x)/\A7/\True)/\(false=false->A1/\∀(g_1:(Int ->
 Bool)×List Ag),let A37:=(AX g_1.2);let A31:=(∀(x:Int),(decide (x=g)||g_1.1 x)=true->Ad A12 x=Ad A12 x);let A4:=(∃(t:Nat×(Nat->Ag)),(A37.n=t.1/\∀(i:Nat),i<A37.n -> [I (A37.g i).w,I (A37.g i).h]= [I (t.2 i).w,I (t.2 i).h])/\t.1<=A41/\∀(u:Nat->Ag),CU Dz t.1 t.2 u->(Be u t.1=A10.n/\∀(i :
 Nat),i<Be u t.1 -> [I (BM u t.1 i).w,I (BM u t.1 i).h]= [I (A10.g i).w,I (A10.g i).h])/\∃(g_2:Int->Bool),SV.ref [I g] A13=SV.ref [I g] A13/\nat_lit 0=nat_lit 0/\(∀(x:Int),(decide (x=g)||g_1.1 x)=g_2 x)/\A31/\nat_lit 0=nat_lit 0/\A2/\gr=gr/\g_2 g=true);Jg w gr g g_1.2->(A4/\A4/\A4/\A4/\A4/\A4/\A4/\A4/\A4/\∃(t :
 Nat×(Nat->Ag)),(A37.n=t.1/\∀(i:Nat),i<A37.n -> [I (A37.g i).w,I (A37.g i).h]= [I (t.2 i).w,I (t.2 i).h])/\t.1<=A41/\∀(u:Nat->Ag),CU Dz t.1 t.2 u->(Be u t.1=A10.n/\∀(i:Nat),i<Be u t.1 -> [I (BM u t.1 i).w,I (BM u t.1 i).h]= [I (A10.g i).w,I (A10.g i).h])/\∃(g_2:Int->Bool),SV.ref [I g] A13=SV.ref [I g] A13 /\
 nat_lit 0=nat_lit 0/\(∀(x:Int),(decide (x=g)||g_1.1 x)=g_2 x)/\A31/\nat_lit 0=nat_lit 0/\A2/\gr=gr/\g_2 g=true)/\∀(g_2:Int->Bool),let A45:=(∀(x:Int),g_2 x=true->Ad A12 x=Ad A12 x);g_2 g=true->(g_2 g=true->∃(u:Int->Bool),A16/\A2/\gr=gr/\(∀(x:Int),g_2 x=u x)/\A45/\True)/\(g_2 g=false->∃
 (u:Int->Bool),A10.n=A68/\A2/\gr=gr/\(∀(x:Int),g_2 x=u x)/\A45/\True)))) (by kernel_rfl) (by
  conv=>zeta
  have hp:Cs w/\0<=g/\g<=Bw w.n:=hp;have hmu:g.toNat<rn+1:=hmu;obtain⟨⟨hw4,hwl⟩,hg0,hga⟩:=hp;have hg15:g<=15:=Int.le_trans hga (NE hw4);refine⟨fun hd=>⟨fun _=>?_,fun h=>(by cases h)⟩,fun hd=>⟨fun h=>(by cases h),fun _=>⟨⟨fun h0=>?_,fun h0=>?_⟩,fun x hx=>?_⟩⟩⟩
  ·exact⟨dom,⟨rfl,fun _ _=>rfl⟩,⟨rfl,fun _ _=>rfl⟩,rfl,fun _=>rfl,fun _ _=>rfl,trivial⟩
  ·have h0:g=0:=of_decide_eq_true h0;subst h0;refine⟨(dom,[⟨0,0⟩]),rfl,rfl,rfl,⟨rfl,fun i hi=>?_⟩,fun _=>rfl,fun _ _=>rfl,rfl,⟨rfl,fun _ _=>rfl⟩,rfl,⟨by rw[QE];rfl,show 1<=1000000 by decide⟩⟩;have hi:i<1:=hi;obtain rfl:i=0:=by omega
   rfl
  ·have h0:¬ g=0:=of_decide_eq_false h0;have hg1:1<=g:=by omega
   refine⟨iK,fun h1=>?_,fun h1=>?_⟩
   ·have h1:Cr g=true:=h1;obtain⟨ge,gi⟩:=QB hg1 hg15 h1;have gn:=bL hw4 hg1 hga h1;refine⟨⟨0,rfl,Ads _⟩,fun k hk=>⟨AdG _,fun hc=>?_,fun hc=>?_⟩⟩
    ·have hc:1<FN g k:=of_decide_eq_true hc;have hlt:k<Bj g:=by rw[ge]at hc;exact(NF gi hk).1 hc
     exact⟨iK,k+1,rfl,rfl,rfl,rfl,⟨rfl,fun _ _=>rfl⟩,rfl,⟨rfl,fun _ _=>rfl⟩,rfl,fun _=>rfl,fun _ _=>rfl,hlt,by omega⟩
    ·have hc:¬ 1<FN g k:=of_decide_eq_false hc;have hke:k=Bj g:=by
      rcases Nat.lt_or_ge k (Bj g)with h|h
      ·exact absurd (by rw[ge];exact(NF gi hk).2 h) hc
      ·omega
     subst hke;have e1:((Bj g:Nat):Int).toNat=Bj g:=Ad3 _;have kn:0<=((Bj g:Nat):Int)/\((Bj g:Nat):Int)<(w.n:Int):=⟨AdG _,by omega⟩;refine⟨⟨0,rfl,⟨rfl,fun i hi=>absurd hi (oE _)⟩,Ads _⟩,fun t ht=>⟨fun hlt=>?_,fun hge=>?_⟩⟩
     ·have hlt:(t:Int)<2:=of_decide_eq_true hlt;have ht2:t<2:=by omega
      have hl:(AX (Ez w gr (Bj g) t)).n<=2:=by
       show(Ez w gr (Bj g) t).length<=2;unfold Ez;rw[List.length_map];exact Aec (List.length_filter_le _ _) (by rw[AeW];exact Nat.min_le_right _ _)
      have nx:=AaX w gr (Bj g) ht2;rw[e1];refine⟨kn,trivial,fun ha=>⟨kn,?_⟩,fun ha=>?_⟩
      ·have ha:Fw (w.g (Bj g)).grain gr t=true:=ha;rw[if_pos ha]at nx;have leaf:=bM (r:=fun _=>Ir (CY (w.g (Bj g)).ol t)) nx (fun i hi=>by
        have hi:i<1:=hi;obtain rfl:i=0:=by omega
        rfl)
       have pb:(∀i,i<(w.g (Bj g)).ol.n -> [SV.int .i64 ((w.g (Bj g)).ol.g i).x,SV.int .i64 ((w.g (Bj g)).ol.g i).y]= [SV.int .i64 ((w.g (Bj g)).ol.g i).x,SV.int .i64 ((w.g (Bj g)).ol.g i).y])/\(w.g (Bj g)).ol.n<=1000000:=⟨fun _ _=>rfl,hwl _ gn⟩;have sz:((AX (Ez w gr (Bj g) t)).n+1)*16<=140737488355328:=by omega
       exact⟨⟨pb,sz,iK,t+1,rfl,rfl,rfl,rfl,rfl,leaf,rfl,⟨rfl,fun _ _=>rfl⟩,rfl,fun _=>rfl,fun _ _=>rfl,by omega,by omega⟩,pb,⟨sz,iK,t+1,rfl,rfl,rfl,rfl,rfl,leaf,rfl,⟨rfl,fun _ _=>rfl⟩,rfl,fun _=>rfl,fun _ _=>rfl,by omega,by omega⟩,⟨sz,iK,t+1,rfl,rfl,rfl,rfl,rfl,leaf,rfl,⟨rfl,fun _ _=>rfl⟩,rfl,fun _=>rfl,fun _ _=>rfl,by omega,by omega⟩⟩
      ·have ha:Fw (w.g (Bj g)).grain gr t=false:=ha;rw[if_neg (by rw[ha];decide),List.append_nil]at nx;exact⟨iK,t+1,rfl,rfl,rfl,rfl,rfl,NG nx.symm,rfl,⟨rfl,fun _ _=>rfl⟩,rfl,fun _=>rfl,fun _ _=>rfl,by omega,by omega⟩
     ·have hge:¬ (t:Int)<2:=of_decide_eq_false hge;obtain rfl:t=2:=by omega
      have eC:Ez w gr (Bj g) 2=Je w gr (Bj g):=rfl;exact⟨(dom,Ez w gr (Bj g) 2),rfl,rfl,rfl,⟨rfl,fun _ _=>rfl⟩,fun _=>rfl,fun _ _=>rfl,rfl,⟨rfl,fun _ _=>rfl⟩,rfl,⟨by rw[aZ w gr hg1 hg15 h1,eC],by have:=bI w gr (Bj g);show(Je w gr (Bj g)).length<=1000000;omega⟩⟩
   ·have h1:Cr g=false:=h1;obtain⟨hp0,hpt⟩:=Iq hg1 hg15 h1;refine⟨trivial,⟨⟨hg0,hg15⟩,dom,⟨rfl,fun i hi=>absurd hi (oE _)⟩,fun _=>rfl,fun _ _=>rfl,rfl,⟨rfl,fun _ _=>rfl⟩,rfl,Ads _⟩,fun k d vk hk _=>?_,fun d _=>?_⟩
    ·obtain⟨p1,p2,p3,p4,p5⟩:=hpt k hk;refine⟨(w,gr,d,Aq g k),rfl,rfl,⟨rfl,fun _ _=>rfl⟩,rfl,fun _=>rfl,fun _ _=>rfl,⟨⟨⟨hw4,hwl⟩,AdP p1,by show Aq g k<=Bw w.n;omega⟩,by show(Aq g k).toNat<rn;omega⟩,fun u _=>⟨⟨(0,u,k),rfl,NG (AaU w gr g k).symm,fun _=>rfl,fun _ _=>rfl,rfl,Ads _,hk⟩,fun x hx=>?_⟩⟩;obtain⟨i,d1,k'⟩:=x;obtain⟨hk1,hi,hk2⟩:=hx;obtain rfl:=ND hg1 hg15 h1 hk hk2 hk1;have hi:i<=(An w gr (Aq g k)).n:=hi;refine⟨fun hc=>?_,fun hc=>?_⟩
     ·have hc:(i:Int)<((An w gr (Aq g k)).n:Int):=of_decide_eq_true hc;have hiA:i<(An w gr (Aq g k)).n:=by omega
      refine⟨⟨AdG _,hc⟩,(w,gr,d1,Br g k),rfl,rfl,⟨rfl,fun _ _=>rfl⟩,rfl,fun _=>rfl,fun _ _=>rfl,⟨⟨⟨hw4,hwl⟩,AdP p3,by show Br g k<=Bw w.n;omega⟩,by show(Br g k).toNat<rn;omega⟩,fun u1 _=>⟨⟨(0,k,i),rfl,NG (AaV w gr g k i).symm,rfl,rfl,Ads _,hk⟩,fun y hy=>?_⟩⟩;obtain⟨j,k2,i2⟩:=y;obtain⟨hk3,hi2,hj,hk4⟩:=hy;obtain rfl:=ND hg1 hg15 h1 hk hk4 hk3;have hi2:(i:Int)=(i2:Int):=hi2;obtain rfl:i=i2:=by omega
      have hj:j<=(An w gr (Br g k)).n:=hj;refine⟨fun hb=>?_,fun hb=>?_⟩
      ·have hb:(j:Int)<((An w gr (Br g k)).n:Int):=of_decide_eq_true hb;have hjB:j<(An w gr (Br g k)).n:=by omega
       have bA:=(LK w gr (AdP p1) (by omega)).bd _ (bP hiA);have bB:=(LK w gr (AdP p3) (by omega)).bd _ (bP hjB);have ei:((i:Nat):Int).toNat=i:=Ad3 i;have ej:((j:Nat):Int).toNat=j:=Ad3 j;have hl:=(bO w gr hg1 hg15 h1 (i:=i) (j:=j) hk).1;rw[ei,ej];refine⟨⟨AdG _,hb⟩,iK (by show _<=((An w gr (Aq g k)).g i).w+((An w gr (Br g k)).g j).w;omega) (by show((An w gr (Aq g k)).g i).w+((An w gr (Br g k)).g j).w<=_;omega),iK (by show _<=((An w gr (Aq g k)).g i).h+((An w gr (Br g k)).g j).h;omega) (by show((An w gr (Aq g k)).g i).h+((An w gr (Br g k)).g j).h<=_;omega),
        by show((EW w gr g k i j).length+2)*16<=140737488355328;omega,iK (by show _<=(j:Int)+1;omega) (by show(j:Int)+1<=_;have:=NH w gr (AdP p3) (show Br g k<=15 by omega);have hj2:j<=(BU w gr (Br g k)).length:=hj;omega),(j+1,k,i),rfl,rfl,⟨rfl,fun _ _=>rfl⟩,rfl,rfl,rfl,⟨rfl,fun _ _=>rfl⟩,rfl,rfl,rfl,rfl,rfl,rfl,rfl,?_,rfl,rfl,fun _=>rfl,fun _ _=>rfl,rfl,⟨rfl,fun _ _=>rfl⟩,rfl,⟨rfl,rfl,hjB,hk⟩,by show(An w gr (Br g k)).n-(j+1)<(An w gr (Br g k)).n-j;omega⟩
       exact bM (AaS w gr g k i hjB) (fun q hq=>by
        have hq:q<2:=hq;have:q=0\/q=1:=by omega
        rcases this with rfl|rfl<;>rfl)
      ·have hb:¬ (j:Int)<((An w gr (Br g k)).n:Int):=of_decide_eq_false hb;obtain rfl:j=(An w gr (Br g k)).n:=by omega
       refine⟨iK (by show _<=(i:Int)+1;omega) (by show(i:Int)+1<=_;have:=NH w gr (AdP p1) (show Aq g k<=15 by omega);have hi2:i<=(BU w gr (Aq g k)).length:=hi;omega),(i+1,u1,k),rfl,rfl,⟨rfl,fun _ _=>rfl⟩,rfl,rfl,rfl,rfl,rfl,rfl,rfl,NG (AaT w gr g k hiA),fun _=>rfl,fun _ _=>rfl,rfl,⟨rfl,fun _ _=>rfl⟩,rfl,⟨rfl,hiA,hk⟩,by show(An w gr (Aq g k)).n-(i+1)<(An w gr (Aq g k)).n-i;omega⟩
     ·have hc:¬ (i:Int)<((An w gr (Aq g k)).n:Int):=of_decide_eq_false hc;obtain rfl:i=(An w gr (Aq g k)).n:=by omega
      have hl:=(bO w gr hg1 hg15 h1 (i:=(An w gr (Aq g k)).n) (j:=0) hk).2.1;exact⟨((AX (DX w gr g k (An w gr (Aq g k)).n)).n,(AX (DX w gr g k (An w gr (Aq g k)).n)).g),⟨rfl,fun _ _=>rfl⟩,by show(DX w gr g k (An w gr (Aq g k)).n).length<=1000000;omega,fun u hu=>⟨d1,rfl,rfl,rfl,rfl,rfl,rfl,bN hu (AaW w gr g k),fun _=>rfl,fun _ _=>rfl,rfl,⟨rfl,fun _ _=>rfl⟩,rfl,hk⟩⟩
    ·exact⟨(d,EE w gr g (AJ g)),rfl,rfl,rfl,⟨rfl,fun _ _=>rfl⟩,fun _=>rfl,fun _ _=>rfl,rfl,⟨rfl,fun _ _=>rfl⟩,rfl,AaY w gr hg1 hg15 h1⟩
  ·obtain⟨d,X⟩:=x;obtain⟨hX1,hX2⟩:=hx;refine⟨?_,fun e he=>⟨fun _=>⟨e,⟨rfl,fun _ _=>rfl⟩,⟨rfl,fun _ _=>rfl⟩,rfl,fun _=>rfl,fun _ _=>rfl,trivial⟩,fun h=>?_⟩⟩
   ·repeat' apply And.intro
    all_goals exact⟨((AX X).n,(AX X).g),⟨rfl,fun _ _=>rfl⟩,hX2,fun u hu=>⟨bN hu hX1,fun x=>decide (x=g)||d x,rfl,rfl,fun _=>rfl,fun _ _=>rfl,rfl,⟨rfl,fun _ _=>rfl⟩,rfl,by show(decide (g=g)||d g)=true;simp⟩⟩
   ·have he:e g=true:=he;rw[he]at h;cases h)
theorem QJ:Ao Tryz.prog 67:=fun args w=>by kernel_rfl
theorem bR:Du Tryz.prog 67 H8:=MZ bQ ⟨fun t=>rfl,fun t u=>rfl,fun t u=>rfl,fun t u=>⟨rfl,rfl,rfl⟩,.inl rfl,fun k h=>(by cases h)⟩ (fun rn ih=>Gf (n:=2) Tryz.func67 (c:=Af Tryz.f67) (by kernel_rfl) mixed ⟨fun t=>rfl,fun t=>rfl,fun t u=>rfl,fun t u=>rfl,fun t u=>rfl,fun t u=>⟨rfl,rfl⟩,by kernel_rfl,by kernel_rfl⟩ (fun⟨w,gr,dom,g⟩ hp=>⟨_,AaZ rn w gr dom g hp.1 hp.2,⟨show Aa Tryz.prog _ from(Aa.cons aQ aR (Aa.cons YH YI (Aa.cons Qg Qh Aa.nil))),rfl,⟨show Ae Tryz.prog _ from(Ae.cons aJ aK Ae.nil),⟨AC.no1 (fun _=>rfl),⟨show By Tryz.prog _ from(By.cons AaD AaC (By.cons ih QJ By.nil)),FamsOk.none (fun _=>rfl)⟩⟩⟩⟩⟩))
end
end
def QK (x r:Ag):Bool:=bif decide (x.w<=r.w)then decide (x.h<=r.h)else false
def D0 (w:L.Sq Ah) (gr g:Int) (r:Ag):Bool:=BV (An w gr g).n fun i=>QK ((An w gr g).g i) r
def EX (v:Nat->Bool) (id:Nat->Int) (i:Nat):Bool:=bif !v i then true else bif decide (0<(i:Int))then decide (id i<=id (i-1))else false
def He (w:L.Sq Ah):Bool:=CG w.n fun i=>!EX (fun i=>GA (w.g i)) (fun i=>(w.g i).id) i
def H9 (s:L.Sq Az):Bool:=CG s.n fun i=>!EX (fun i=>Cq (s.g i)) (fun i=>(s.g i).id) i
def D1 (w:L.Sq Ah) (s:L.Sq Az) (right:Bool):Int:=bif !He w then 50 else bif (bif !H9 s then true else !right)then 1 else bif (bif decide (7<(w.n:Int))then true else decide (7<(s.n:Int)))then 2 else 0
def FK (w:L.Sq Ah):Prop:=(w.n<=4\/7<w.n)/\w.n<=1000000/\∀i,i<w.n->(w.g i).ol.n<=1000000
def Aba:L.Sq Az:=⟨0,fun _=>⟨0,0,0,0,0⟩⟩
def bS (s:Az):L.Sq Az:=⟨1,fun _=>s⟩
def Ks (w:L.Sq Ah) (gr:Int):Int:=D1 w Aba (AG gr 0 2)
def LL (w:L.Sq Ah) (gr:Int):Nat:=bif decide (Ks w gr=0)then(An w gr (Bw w.n)).n else 0
def EF (w:L.Sq Ah) (s:Az):Int:=D1 w (bS s) true
def Gn (w:L.Sq Ah) (s:Az):Bool:=bif decide (EF w s=0)then D0 w s.grain (Bw w.n) ⟨s.w,s.h⟩else false
theorem bT {n i:Nat} {f:Nat->Bool} (hi:i<n) (h:f i=false):CG n f=false:=Hw hi h
theorem NI {w:L.Sq Ah} {s:L.Sq Az} {b:Bool} (h:D1 w s b=0):He w=true/\H9 s=true/\b=true/\w.n<=7/\s.n<=7:=by
 unfold D1 at h;cases h1:He w
 ·rw[h1]at h;simp at h
 ·cases h2:H9 s
  ·rw[h1,h2]at h;simp at h
  ·cases b
   ·rw[h1,h2]at h;simp at h
   ·rw[h1,h2]at h;refine⟨rfl,rfl,rfl,?_⟩
    by_cases h3:(7:Int)<w.n
    ·simp[h3]at h
    ·by_cases h4:(7:Int)<s.n
     ·simp[h4]at h
     ·omega
theorem NJ {w:L.Sq Ah} (h:FK w) (h7:w.n<=7):Cs w:=⟨by have:=h.1;omega,h.2.2⟩
def bU (l:(L.Sq Ag)) (p:B1):Prop:=l.n<=1000000/\∀i,i<l.n->p.pre [(.agg [.int .i64 ((l.g i).w),.int .i64 ((l.g i).h)])]
def bV (l:(L.Sq Ag)) (p:B1):SV:=.int .i64 (B4 l.n (fun i=>Bi p [(.agg [.int .i64 ((l.g i).w),.int .i64 ((l.g i).h)])]))
def bW:List EV->Option (Prop×SV)
 |[.p (.sl 2 l_n l_g),.fn p]=>some ((∀i,i<l_n->l_g i = [.int .i64 ((Fv (l_g i)).w),.int .i64 ((Fv (l_g i)).h)])/\EN p/\bU (⟨l_n,fun i=>Fv (l_g i)⟩:(L.Sq Ag)) p,bV (⟨l_n,fun i=>Fv (l_g i)⟩:(L.Sq Ag)) p)
 |_=>none
abbrev bX:SE.Spec:=(AM bW)
def Abb:Aj:={ muts:=[],frz:=BH [],specs:=AF [],loops:=fun _=>none,iters:=B6 [],rfs:=AU [],nils:=BD [] }
theorem Abc (l:(L.Sq Ag)) (p:B1) (hp:bU l p):vc Tryz.prog ({ Abb with loops:=AY [(2,{ T:=Nat,keep:=[0,1,6,7],keepO:=[],chg:=fun i=>[(8,.p (.int .i64 i))],own:=fun _=>[],inv:=fun i=>i<=l.n/\(∀j,j<i->Bi p [(.agg [.int .i64 ((l.g j).w),.int .i64 ((l.g j).h)])]=false),mu:=fun i=>l.n-i })],rfs:=AU [] }) (Af Tryz.f182) (Ar Tryz.f182 [.p (.sl 2 l.n (fun i=>[.int .i64 ((l.g i).w),.int .i64 ((l.g i).h)])),.fn ⟨p.pre,fun xs=>.bool (Bi p xs)⟩]) (AL Tryz.prog Tryz.f182 (bV l p)):=
 @Eq.mpr _ (let I:=SV.int .i64;let T:=Ad6;let A4:=(↑l.n:Int);let A2:=(l.n=l.n/\∀(i:Nat),let A5:=[I (l.g i).w,I (l.g i).h];i<l.n->A5=A5);(∃(g:Nat),(0:Int)=(↑g:Int)/\g<=l.n/\∀(j:Nat),j<g->Bi p [SV.agg [I (l.g j).w,I (l.g j).h]]=false)/\∀(g:Nat),let A3:=(↑g:Int);let A1:=[SV.agg [I (l.g (T A3)).w,I (l.g (T A3)).h]];(g<=l.n/\∀(j:Nat),j<g->Bi p [SV.agg [I (l.g j).w,I (l.g j).h]]=false)->(decide (A3<A4)=true->((0:Int)<=A3/\A3<A4)/\p.1 A1/\(Bi p A1=true->A3=B4 l.n fun(i:Nat)=>Bi p [SV.agg [I (l.g i).w,I (l.g i).h]])/\(Bi p A1=false->Ac .i64 (A3+(1:Int))/\∃(g':Nat),A3+(1:Int)=(↑g':Int)/\A4=A4/\A2/\A2/\((B1.mk p.pre fun(xs:List SV)=>SV.bool (Bi p xs))=B1.mk p.pre fun(xs:List SV)=>SV.bool (Bi p xs))/\(g'<=l.n/\∀(j:Nat),j<g'->Bi p [SV.agg [I (l.g j).w,I (l.g j).h]]=false)/\l.n-g'<l.n-g))/\(decide (A3<A4)=false->(-1:Int)=B4 l.n fun(i:Nat)=>Bi p [SV.agg [I (l.g i).w,I (l.g i).h]])) (by kernel_rfl) (by
 conv=>zeta
 obtain⟨hn,hpre⟩:=hp;refine⟨⟨(0:Nat),rfl,Ads _,fun j hj=>by omega⟩,fun g hg=>⟨fun hlt=>?_,fun hge=>?_⟩⟩
 ·have hb:(g:Int)<(l.n:Int):=by simpa using hlt
  have e0:((g:Int)).toNat=g:=by omega
  rw[e0];refine⟨by omega,hpre g (by omega),fun h=>?_,fun h=>?_⟩
  ·exact(IR hg.2 h (by omega)).symm
  ·exact⟨jK, g+1, by omega, rfl, ⟨rfl, fun _ _ =>rfl⟩, ⟨rfl, fun _ _ =>rfl⟩, rfl, ⟨by omega, fun j hj =>by
   rcases Ad1.1 hj with h'|rfl
   ·exact hg.2 j h'
   ·exact h⟩,by omega⟩
 ·have hb:¬ (g:Int)<(l.n:Int):=by simpa using hge
  exact(Ie (fun j hj=>hg.2 j (by omega))).symm)
theorem Abd:AB Tryz.prog 182 bX:=AP Tryz.func182 (c:=Af Tryz.f182) (by kernel_rfl) mixed (fun args p r hs hp=>by
 unfold bW at hs;split at hs
 ·cases hs;exact⟨_,_,Abc _ _ hp.2.2,(.p (.sl hp.1) (.fn (fun xs h=>⟨h,(JO hp.2.1 h).symm⟩) .nil)),⟨show Aa Tryz.prog _ from Aa.nil,rfl,⟨show Ae Tryz.prog _ from Ae.nil,(AC.none (fun _=>rfl))⟩⟩⟩
 ·cases hs)
theorem Abe:Ao Tryz.prog 182:=fun args w=>by kernel_rfl
def bY (l:(L.Sq Ag)) (p:B1):Prop:=l.n<=1000000/\∀i,i<l.n->p.pre [(.agg [.int .i64 ((l.g i).w),.int .i64 ((l.g i).h)])]
def bZ (l:(L.Sq Ag)) (p:B1):SV:=.bool (BV l.n (fun i=>Bi p [(.agg [.int .i64 ((l.g i).w),.int .i64 ((l.g i).h)])]))
def cA:List EV->Option (Prop×SV)
 |[.p (.sl 2 l_n l_g),.fn p]=>some ((∀i,i<l_n->l_g i = [.int .i64 ((Fv (l_g i)).w),.int .i64 ((Fv (l_g i)).h)])/\EN p/\bY (⟨l_n,fun i=>Fv (l_g i)⟩:(L.Sq Ag)) p,bZ (⟨l_n,fun i=>Fv (l_g i)⟩:(L.Sq Ag)) p)
 |_=>none
abbrev cB:SE.Spec:=(AM cA)
def Abf:Aj:={ cC with specs:=AF [(182,bX)] }
theorem Abg (l:(L.Sq Ag)) (p:B1) (hp:bY l p):vc Tryz.prog (Abf) (Af Tryz.f143) (Ar Tryz.f143 [.p (.sl 2 l.n (fun i=>[.int .i64 ((l.g i).w),.int .i64 ((l.g i).h)])),.fn ⟨p.pre,fun xs=>.bool (Bi p xs)⟩]) (AL Tryz.prog Tryz.f143 (bZ l p)):=
 @Eq.mpr _ (let I:=SV.int .i64;let A1:=(B1.mk p.pre fun(xs:List SV)=>SV.bool (Bi p xs));((∀(i:Nat),let A2:=[I (l.g i).w,I (l.g i).h];i<l.n->A2=A2)/\EN A1/\l.n<=(1000000:Nat)/\∀(i:Nat),i<l.n->p.1 [SV.agg [I (l.g i).w,I (l.g i).h]])/\decide ((0:Int)<=B4 l.n fun(i:Nat)=>Bi A1 [SV.agg [I (l.g i).w,I (l.g i).h]])=BV l.n fun(i:Nat)=>Bi p [SV.agg [I (l.g i).w,I (l.g i).h]]) (by kernel_rfl) (by
 conv=>zeta
 refine⟨⟨fun _ _=>rfl,fun xs _=>⟨_,rfl⟩,hp⟩,Ly⟩)
theorem Abh:AB Tryz.prog 143 cB:=AP Tryz.func143 (c:=Af Tryz.f143) (by kernel_rfl) mixed (fun args p r hs hp=>by
 unfold cA at hs;split at hs
 ·cases hs;exact⟨_,_,Abg _ _ hp.2.2,(.p (.sl hp.1) (.fn (fun xs h=>⟨h,(JO hp.2.1 h).symm⟩) .nil)),⟨show Aa Tryz.prog _ from(Aa.cons Abd Abe Aa.nil),rfl,⟨show Ae Tryz.prog _ from Ae.nil,(AC.none (fun _=>rfl))⟩⟩⟩
 ·cases hs)
theorem Abi:Ao Tryz.prog 143:=fun args w=>by kernel_rfl
def cD (x:Ag) (r:Ag):Prop:=True
def cE (x:Ag) (r:Ag):SV:=.bool (QK x r)
def Kt:List EV->Option (Prop×SV)
 |[.p (.agg [.int .i64 x_w,.int .i64 x_h]),.p (.ref [.int .i64 r_w,.int .i64 r_h] 0)]=>some (cD (⟨x_w,x_h⟩:Ag) (⟨r_w,r_h⟩:Ag),cE (⟨x_w,x_h⟩:Ag) (⟨r_w,r_h⟩:Ag))
 |_=>none
abbrev cF:SE.Spec:=(AM Kt)
def Abj:Aj:={ muts:=[],frz:=BH [],specs:=AF [],loops:=AY [],iters:=B6 [],rfs:=AU [],nils:=BD [] }
theorem Abk (x:Ag) (r:Ag) (hp:cD x r):vc Tryz.prog (Abj) (Af Tryz.f144) (Ar Tryz.f144 [.p (.agg [.int .i64 x.w,.int .i64 x.h]),.p (.ref [.int .i64 r.w,.int .i64 r.h] 0)]) (AL Tryz.prog Tryz.f144 (cE x r)):=
 @Eq.mpr _ ((bif decide (x.w<=r.w)then decide (x.h<=r.h)else false)=QK x r) (by kernel_rfl) (by
 rfl)
theorem Abl:AB Tryz.prog 144 cF:=AP Tryz.func144 (c:=Af Tryz.f144) (by kernel_rfl) mixed (fun args p r hs hp=>by
 unfold Kt at hs;split at hs
 ·cases hs;exact⟨_,_,Abk _ _ hp,(.same _ (.same _ .nil)),⟨show Aa Tryz.prog _ from Aa.nil,rfl,⟨show Ae Tryz.prog _ from Ae.nil,(AC.none (fun _=>rfl))⟩⟩⟩
 ·cases hs)
theorem Abm:Ao Tryz.prog 144:=fun args w=>by kernel_rfl
theorem Abn:∀args p r,Kt args=some (p,r)->∃b,r=.bool b:=by
 intro args p r h;unfold Kt at h;split at h
 ·cases h;exact⟨_,rfl⟩
 ·cases h
def cG (w:(L.Sq Ah)):Prop:=w.n<=1000000/\∀i,i<w.n->(w.g i).ol.n<=1000000
def cH (w:(L.Sq Ah)):SV:=.bool (He w)
def cI:List EV->Option (Prop×SV)
 |[.p (.sl 4 w_n w_g)]=>some ((∀i,i<w_n->G9 (w_g i))/\cG (⟨w_n,fun i=>CK (w_g i)⟩:(L.Sq Ah)),cH (⟨w_n,fun i=>CK (w_g i)⟩:(L.Sq Ah)))
 |_=>none
abbrev cJ:SE.Spec:=(AM cI)
def Abo:Aj:={ cC with specs:=AF [(141,YD)] }
theorem Abp (w:(L.Sq Ah)) (hp:cG w):vc Tryz.prog ({ Abo with loops:=AY [(2,{ T:=Nat,keep:=[0,5,6],keepO:=[],chg:=fun i=>[(7,.p (.int .i64 (i:Int)))],own:=fun _=>[],inv:=fun i=>i<=w.n/\∀j,j<i->EX (fun i=>GA (w.g i)) (fun i=>(w.g i).id) j=false,mu:=fun i=>w.n-i })],rfs:=AU [] }) (Af Tryz.f95) (Ar Tryz.f95 [.p (.sl 4 w.n (fun i=>[.int .i64 ((w.g i).id),.int .i64 ((w.g i).colour),.int .i64 ((w.g i).grain),.sl 2 (w.g i).ol.n (fun i1=>[.int .i64 (((w.g i).ol.g i1).x),.int .i64 (((w.g i).ol.g i1).y)])]))]) (AL Tryz.prog Tryz.f95 (cH w)):=
 @Eq.mpr _ (let I:=SV.int .i64;let T:=Ad6;let A11:=(0:Int);let A10:=(1:Int);let A8:=(↑w.n:Int);let A2:=(w.n=w.n/\∀(i:Nat),let A5:=[I (w.g i).id,I (w.g i).colour,I (w.g i).grain,SV.sl (2:Nat) (w.g i).ol.n fun(i1:Nat)=>[I ((w.g i).ol.g i1).x,I ((w.g i).ol.g i1).y]];i<w.n->A5=A5);(∃(g:Nat),A11=(↑g:Int)/\g<=w.n/\∀(j:Nat),j<g->EX (fun(i:Nat)=>GA (w.g i)) (fun(i:Nat)=>(w.g i).id) j=false)/\∀(g:Nat),let A6:=(↑g:Int);let A3:=(w.g (T A6));let A1:=(Ah.mk A3.id A3.colour A3.grain (L.Sq.mk A3.ol.n fun(i:Nat)=>A3.ol.g i));let A7:=(!!GA A1&&decide (A11<A6));let A4:=(bif !GA A1 then true else bif decide (A11<A6)then decide (A3.id<=(w.g (T (A6-A10))).id)else false);(g<=w.n/\∀(j:Nat),j<g->EX (fun(i:Nat)=>GA (w.g i)) (fun(i:Nat)=>(w.g i).id) j=false)->(decide (A6<A8)=true->(A11<=A6/\A6<A8)/\((∀(i:Nat),let A9:=[I (A3.ol.g i).x,I (A3.ol.g i).y];i<A3.ol.n->A9=A9)/\A3.ol.n<=(1000000:Nat))/\(A7=true->Ac .i64 (A6-A10))/\(A7=true->A11<=A6-A10/\A6-A10<A8)/\(A4=true->false=He w)/\(A4=false->Ac .i64 (A6+A10)/\∃(g':Nat),A6+A10=(↑g':Int)/\A8=A8/\A2/\A2/\(g'<=w.n/\∀(j:Nat),j<g'->EX (fun(i:Nat)=>GA (w.g i)) (fun(i:Nat)=>(w.g i).id) j=false)/\w.n-g'<w.n-g))/\(decide (A6<A8)=false->true=He w)) (by kernel_rfl) (by
 conv=>zeta
 obtain⟨hn,hol⟩:=hp;refine⟨⟨(0:Nat),rfl,Ads _,fun j hj=>absurd hj (oE _)⟩,fun g hg=>⟨fun hlt=>?_,fun hge=>?_⟩⟩
 ·have hb:(g:Int)<(w.n:Int):=of_decide_eq_true hlt;have e0:((g:Int)).toNat=g:=Ad3 g;have e1:((g:Int)-1).toNat=g-1:=by omega
  rw[e0,e1];refine⟨⟨AdG _,hb⟩,⟨fun _ _=>rfl,hol g (by omega)⟩,fun _=>jK,fun h=>?_,fun h=>?_,fun h=>?_⟩
  ·have:0<(g:Int):=of_decide_eq_true (AeO.1 h).2;omega
  ·exact(bT (i:=g) (f:=fun i=>!EX (fun i=>GA (w.g i)) (fun i=>(w.g i).id) i) (by omega) (by show(!_)=false;rw[show EX (fun i=>GA (w.g i)) (fun i=>(w.g i).id) g=true from h];rfl)).symm
  ·refine⟨jK,g+1,rfl,rfl,⟨rfl,fun _ _=>rfl⟩,⟨rfl,fun _ _=>rfl⟩,⟨by omega,fun j hj=>?_⟩,by omega⟩;rcases Ad1.1 hj with h'|rfl
   ·exact hg.2 j h'
   ·exact h
 ·have hb:¬ (g:Int)<(w.n:Int):=of_decide_eq_false hge;exact(Dk.2 (fun i hi=>by show(!_)=true;rw[hg.2 i (by omega)];rfl)).symm)
theorem Abq:AB Tryz.prog 95 cJ:=AP Tryz.func95 (c:=Af Tryz.f95) (by kernel_rfl) mixed (fun args p r hs hp=>by
 unfold cI at hs;split at hs
 ·cases hs;exact⟨_,_,Abp _ hp.2,(.p (Kg hp.1) .nil),⟨show Aa Tryz.prog _ from(Aa.cons xG xH Aa.nil),rfl,⟨show Ae Tryz.prog _ from Ae.nil,(AC.none (fun _=>rfl))⟩⟩⟩
 ·cases hs)
theorem Abr:Ao Tryz.prog 95:=fun args w=>by kernel_rfl
def cK (s:(L.Sq Az)):Prop:=s.n<=1000000
def cL (s:(L.Sq Az)):SV:=.bool (H9 s)
def cM:List EV->Option (Prop×SV)
 |[.p (.sl 5 s_n s_g)]=>some ((∀i,i<s_n->s_g i = [.int .i64 ((DK (s_g i)).id),.int .i64 ((DK (s_g i)).colour),.int .i64 ((DK (s_g i)).w),.int .i64 ((DK (s_g i)).h),.int .i64 ((DK (s_g i)).grain)])/\cK (⟨s_n,fun i=>DK (s_g i)⟩:(L.Sq Az)),cL (⟨s_n,fun i=>DK (s_g i)⟩:(L.Sq Az)))
 |_=>none
abbrev cN:SE.Spec:=(AM cM)
def Abs:Aj:={ cC with specs:=AF [(142,Y9)] }
theorem Abt (s:(L.Sq Az)) (hp:cK s):vc Tryz.prog ({ Abs with loops:=AY [(2,{ T:=Nat,keep:=[0,5,6],keepO:=[],chg:=fun i=>[(7,.p (.int .i64 (i:Int)))],own:=fun _=>[],inv:=fun i=>i<=s.n/\∀j,j<i->EX (fun i=>Cq (s.g i)) (fun i=>(s.g i).id) j=false,mu:=fun i=>s.n-i })],rfs:=AU [] }) (Af Tryz.f96) (Ar Tryz.f96 [.p (.sl 5 s.n (fun i=>[.int .i64 ((s.g i).id),.int .i64 ((s.g i).colour),.int .i64 ((s.g i).w),.int .i64 ((s.g i).h),.int .i64 ((s.g i).grain)]))]) (AL Tryz.prog Tryz.f96 (cL s)):=
  @Eq.mpr _ (let I:=SV.int .i64;let T:=Ad6;let A8:=(0:Int);let A7:=(1:Int);let A6:=(↑s.n:Int);let A2:=(s.n=s.n/\∀(i:Nat),let A4:=[I (s.g i).id,I (s.g i).colour,I (s.g i).w,I (s.g i).h,I (s.g i).grain];i<s.n->A4=A4);(∃(g:Nat),A8=(↑g:Int)/\g<=s.n/\∀(j:Nat),j<g->EX (fun(i:Nat)=>Cq (s.g i)) (fun(i:Nat)=>(s.g
 i).id) j=false)/\∀(g:Nat),let A3:=(↑g:Int);let A9:=(s.g (T A3));let A5:=(!!Cq A9&&decide (A8<A3));let A1:=(bif !Cq A9 then true else bif decide (A8<A3)then decide (A9.id<=(s.g (T (A3-A7))).id)else false);(g<=s.n/\∀(j:Nat),j<g->EX (fun(i:Nat)=>Cq (s.g i)) (fun(i:Nat)=>(s.g i).id) j =
 false)->(decide (A3<A6)=true->(A8<=A3/\A3<A6)/\True/\(A5=true->Ac .i64 (A3-A7))/\(A5=true->A8<=A3-A7/\A3-A7<A6)/\(A1=true->false=H9 s)/\(A1=false->Ac .i64 (A3+A7)/\∃(g':Nat),A3+A7=(↑g':Int)/\A6=A6/\A2/\A2/\(g'<=s.n/\∀(j:Nat),j<g'->EX (fun(i
:Nat)=>Cq (s.g i)) (fun(i:Nat)=>(s.g i).id) j=false)/\s.n-g'<s.n-g))/\(decide (A3<A6)=false->true=H9 s)) (by kernel_rfl) (by
 conv=>zeta
 have hn:s.n<=1000000:=hp;refine⟨⟨(0:Nat),rfl,Ads _,fun j hj=>absurd hj (oE _)⟩,fun g hg=>⟨fun hlt=>?_,fun hge=>?_⟩⟩
 ·have hb:(g:Int)<(s.n:Int):=of_decide_eq_true hlt;have e0:((g:Int)).toNat=g:=Ad3 g;have e1:((g:Int)-1).toNat=g-1:=by omega
  rw[e0,e1];refine⟨⟨AdG _,hb⟩,trivial,fun _=>jK,fun h=>?_,fun h=>?_,fun h=>?_⟩
  ·have:0<(g:Int):=of_decide_eq_true (AeO.1 h).2;omega
  ·exact(bT (i:=g) (f:=fun i=>!EX (fun i=>Cq (s.g i)) (fun i=>(s.g i).id) i) (by omega) (by show(!_)=false;rw[show EX (fun i=>Cq (s.g i)) (fun i=>(s.g i).id) g=true from h];rfl)).symm
  ·refine⟨jK,g+1,rfl,rfl,⟨rfl,fun _ _=>rfl⟩,⟨rfl,fun _ _=>rfl⟩,⟨by omega,fun j hj=>?_⟩,by omega⟩;rcases Ad1.1 hj with h'|rfl
   ·exact hg.2 j h'
   ·exact h
 ·have hb:¬ (g:Int)<(s.n:Int):=of_decide_eq_false hge;exact(Dk.2 (fun i hi=>by show(!_)=true;rw[hg.2 i (by omega)];rfl)).symm)
theorem Abu:AB Tryz.prog 96 cN:=AP Tryz.func96 (c:=Af Tryz.f96) (by kernel_rfl) mixed (fun args p r hs hp=>by
 unfold cM at hs;split at hs
 ·cases hs;exact⟨_,_,Abt _ hp.2,(.p (.sl hp.1) .nil),⟨show Aa Tryz.prog _ from(Aa.cons xC xD Aa.nil),rfl,⟨show Ae Tryz.prog _ from Ae.nil,(AC.none (fun _=>rfl))⟩⟩⟩
 ·cases hs)
theorem Abv:Ao Tryz.prog 96:=fun args w=>by kernel_rfl
def cO (w:(L.Sq Ah)) (s:(L.Sq Az)) (r:Bool):Prop:=w.n<=1000000/\(∀i,i<w.n->(w.g i).ol.n<=1000000)/\s.n<=1000000
def cP (w:(L.Sq Ah)) (s:(L.Sq Az)) (r:Bool):SV:=.int .i64 (D1 w s r)
def cQ:List EV->Option (Prop×SV)
 |[.p (.sl 4 w_n w_g),.p (.sl 5 s_n s_g),.p (.bool r)]=>some ((∀i,i<w_n->G9 (w_g i))/\(∀i,i<s_n->s_g i = [.int .i64 ((DK (s_g i)).id),.int .i64 ((DK (s_g i)).colour),.int .i64 ((DK (s_g i)).w),.int .i64 ((DK (s_g i)).h),.int .i64 ((DK (s_g i)).grain)])/\cO (⟨w_n,fun i=>CK (w_g i)⟩:(L.Sq Ah)) (⟨s_n,fun i=>DK (s_g i)⟩:(L.Sq Az)) r,cP (⟨w_n,fun i=>CK (w_g i)⟩:(L.Sq Ah)) (⟨s_n,fun i=>DK (s_g i)⟩:(L.Sq Az)) r)
 |_=>none
abbrev NK:SE.Spec:=(AM cQ)
def Abw:Aj:={ cC with specs:=AF [(95,cJ),(96,cN)] }
theorem Abx (w:(L.Sq Ah)) (s:(L.Sq Az)) (r:Bool) (hp:cO w s r):vc Tryz.prog (Abw) (Af Tryz.f53) (Ar Tryz.f53 [.p (.sl 4 w.n (fun i=>[.int .i64 ((w.g i).id),.int .i64 ((w.g i).colour),.int .i64 ((w.g i).grain),.sl 2 (w.g i).ol.n (fun i1=>[.int .i64 (((w.g i).ol.g i1).x),.int .i64 (((w.g i).ol.g i1).y)])])),.p (.sl 5 s.n (fun i=>[.int .i64 ((s.g i).id),.int .i64 ((s.g i).colour),.int .i64 ((s.g i).w),.int .i64 ((s.g i).h),.int .i64 ((s.g i).grain)])),.p (.bool r)]) (AL Tryz.prog Tryz.f53 (cP w s r)):=
 @Eq.mpr _ (let I:=SV.int .i64;let A6:=(1000000:Nat);let A4:=(bif !H9 (L.Sq.mk s.n fun(i:Nat)=>s.g i)then true else !r);let A2:=(bif decide ((7:Int)<(↑w.n:Int))then true else decide ((7:Int)<(↑s.n:Int)));let A1:=(!He (L.Sq.mk w.n fun(i:Nat)=>Ah.mk (w.g i).id (w.g i).colour (w.g i).grain (L.Sq.mk (w.g i).ol.n fun(i_1:Nat)=>(w.g i).ol.g i_1)));((∀(i:Nat),i<w.n->∀(i_1:Nat),let A5:=((w.g i).ol.g i_1);i_1<(w.g i).ol.n -> [I A5.x,I A5.y]= [I A5.x,I A5.y])/\w.n<=A6/\∀(i:Nat),i<w.n->(w.g i).ol.n<=A6)/\(A1=true->(50:Int)=D1 w s r)/\(A1=false->((∀(i:Nat),let A3:=[I (s.g i).id,I (s.g i).colour,I (s.g i).w,I (s.g i).h,I (s.g i).grain];i<s.n->A3=A3)/\s.n<=A6)/\(A4=true->(1:Int)=D1 w s r)/\(A4=false->(A2=true->(2:Int)=D1 w s r)/\(A2=false->(0:Int)=D1 w s r)))) (by kernel_rfl) (by
 conv=>zeta
 obtain⟨hn,hol,hs⟩:=hp;refine⟨⟨fun _ _ _ _=>rfl,hn,hol⟩,fun h=>?_,fun h=>⟨⟨fun _ _=>rfl,hs⟩,fun h2=>?_,fun h2=>⟨fun h3=>?_,fun h3=>?_⟩⟩⟩
 ·have h:(!He w)=true:=h;unfold D1;rw[h];rfl
 all_goals have h:(!He w)=false:=h
 ·unfold D1;rw[h,h2];rfl
 ·unfold D1;rw[h,h2,h3];rfl
 ·unfold D1;rw[h,h2,h3];rfl)
theorem QL:AB Tryz.prog 53 NK:=AP Tryz.func53 (c:=Af Tryz.f53) (by kernel_rfl) mixed (fun args p r hs hp=>by
 unfold cQ at hs;split at hs
 ·cases hs;exact⟨_,_,Abx _ _ _ hp.2.2,(.p (Kg hp.1) (.p (.sl hp.2.1) (.same _ .nil))),⟨show Aa Tryz.prog _ from(Aa.cons Abq Abr (Aa.cons Abu Abv Aa.nil)),rfl,⟨show Ae Tryz.prog _ from Ae.nil,(AC.none (fun _=>rfl))⟩⟩⟩
 ·cases hs)
theorem QM:Ao Tryz.prog 53:=fun args w=>by kernel_rfl
def cR (l:(L.Sq Ag)):Prop:=l.n<=1000000
def cS (l:(L.Sq Ag)):Nat->Prop:=fun _=>True
def cT (l:(L.Sq Ag)):Nat->Nat:=fun _=>l.n
def cU (l:(L.Sq Ag)):Nat->Nat->List SV:=fun _ i=>[.int .i64 ((l.g i).w),.int .i64 ((l.g i).h)]
def cV:List EV->Option (Prop×(Nat->Prop)×(Nat->Nat)×(Nat->Nat->List SV))
 |[.p (.sl 2 l_n l_g)]=>some ((∀i,i<l_n->l_g i = [.int .i64 ((Fv (l_g i)).w),.int .i64 ((Fv (l_g i)).h)])/\cR (⟨l_n,fun i=>Fv (l_g i)⟩:(L.Sq Ag)),cS (⟨l_n,fun i=>Fv (l_g i)⟩:(L.Sq Ag)),cT (⟨l_n,fun i=>Fv (l_g i)⟩:(L.Sq Ag)),cU (⟨l_n,fun i=>Fv (l_g i)⟩:(L.Sq Ag)))
 |_=>none
abbrev cW:SE.Spec:=(FC Nat 0 73 2 cV)
def Aby:Aj:={ cC with muts:=[5] }
theorem Abz (l:(L.Sq Ag)) (hp:cR l):vc Tryz.prog (Aby) (Af Tryz.f66) (Ar Tryz.f66 [.p (.sl 2 l.n (fun i=>[.int .i64 ((l.g i).w),.int .i64 ((l.g i).h)]))]) (EM Tryz.prog Tryz.f66 (Nat) (cS l) 73 2 (cT l) (cU l)):=
 @Eq.mpr _ (∀(b:Bool),(b = !false->l.n=(0:Nat))->(b=true->∃(t:Nat),l.n=(0:Nat)/\True)/\(b=false->(nat_lit 0+l.n)*nat_lit 16<=(140737488355328:Nat)/\∃(t:Nat),(nat_lit 0+l.n=l.n/\∀(i:Nat),i<nat_lit 0+l.n->Ba (nat_lit 0) (Bb [] (nat_lit 2)) (fun(i:Nat)=>[SV.int .i64 (l.g i).w,SV.int .i64 (l.g i).h]) i = [SV.int .i64 (l.g i).w,SV.int .i64 (l.g i).h])/\True)) (by kernel_rfl) (by
 have hn:l.n<=1000000:=hp;refine fun b hb=>⟨fun h=>⟨(0:Nat),hb h,trivial⟩,fun h=>⟨show(0+l.n)*16<=140737488355328 by omega,(0:Nat),⟨Nat.zero_add _,fun i hi=>?_⟩,trivial⟩⟩;unfold Ba;rw[if_neg (oE _)];rfl)
theorem Ab0:AB Tryz.prog 66 cW:=Ge Tryz.func66 (c:=Af Tryz.f66) (by kernel_rfl) mixed (fun args p q n g hs hp=>by
 unfold cV at hs;split at hs
 ·cases hs;exact⟨_,_,Abz _ hp.2,(.p (.sl hp.1) .nil),⟨show Aa Tryz.prog _ from Aa.nil,rfl,⟨show Ae Tryz.prog _ from Ae.nil,(AC.none (fun _=>rfl))⟩⟩⟩
 ·cases hs)
theorem Ab1:Ao Tryz.prog 66:=fun args w=>by kernel_rfl
abbrev Jh:Mk:={ T:=(L.Sq Ah)×(Int)×(Int->Bool)×(Int)×(Ag),U:=Int->Bool,args:=fun t=>(fun w gr dom g r=>[.loc 1000 0,.p (.int .i64 g),.p ((.agg [.int .i64 r.w,.int .i64 r.h]))]) t.1 t.2.1 t.2.2.1 t.2.2.2.1 t.2.2.2.2,lkeys:=[1000,1001],keys:=[],lent:=fun t=>(fun w gr dom g r=>[(1000,.blk 172 [.p ((.sl 4 w.n (fun i=>[.int .i64 ((w.g i).id),.int .i64 ((w.g i).colour),.int .i64 ((w.g i).grain),.sl 2 (w.g i).ol.n (fun i1=>[.int .i64 (((w.g i).ol.g i1).x),.int .i64 (((w.g i).ol.g i1).y)])]))),.p (.int .i64 gr),.mapv 1001]),(1001,.mq 3 64 dom (Ad (An w gr)))]) t.1 t.2.1 t.2.2.1 t.2.2.2.1 t.2.2.2.2,pre:=fun t=>(fun w gr dom g r=>Cs w/\0<=g/\g<=Bw w.n) t.1 t.2.1 t.2.2.1 t.2.2.2.1 t.2.2.2.2,post:=fun t u=>(fun w gr dom g r=>fun u=>True) t.1 t.2.1 t.2.2.1 t.2.2.2.1 t.2.2.2.2 u,lent':=fun t u=>(fun w gr dom g r=>fun u=>[(1000,.blk 172 [.p ((.sl 4 w.n (fun i=>[.int .i64 ((w.g i).id),.int .i64 ((w.g i).colour),.int .i64 ((w.g i).grain),.sl 2 (w.g i).ol.n (fun i1=>[.int .i64 (((w.g i).ol.g i1).x),.int .i64 (((w.g i).ol.g i1).y)])]))),.p (.int .i64 gr),.mapv 1001]),(1001,.mq 3 64 u (Ad (An w gr)))]) t.1 t.2.1 t.2.2.1 t.2.2.2.1 t.2.2.2.2 u,own:=fun t u=>(fun w gr dom g r=>fun u=>[]) t.1 t.2.1 t.2.2.1 t.2.2.2.1 t.2.2.2.2 u,res:=fun t u=>(fun w gr dom g r=>fun u=>.p (.bool (D0 w gr g r))) t.1 t.2.1 t.2.2.1 t.2.2.2.1 t.2.2.2.2 u }
theorem Ab2 (w:L.Sq Ah) (gr:Int) (dom:Int->Bool) (g:Int) (r:Ag) (hp:Jh.pre (w,gr,dom,g,r)):vc Tryz.prog ({ cC with specs:=AF [(143,cB),(144,cF)],mks:=EA [(67,H8)],ren:=fun k=>k }) (Af Tryz.f99) (D3 Tryz.f99 (Jh.args (w,gr,dom,g,r)) (Jh.lent (w,gr,dom,g,r))) (FD Tryz.prog Tryz.f99 Jh (w,gr,dom,g,r)):=
 @Eq.mpr _ (let I:=SV.int .i64;let A7:=(2:Nat);let A3:=[SV.ref [I (w,gr,dom,g,r).snd.snd.snd.snd.w,I (w,gr,dom,g,r).snd.snd.snd.snd.h] (nat_lit 0)];let A1:=(B1.mk (fun(«as»:List SV)=>De Kt (Ad9 EV.p «as» ++ Ad9 EV.p A3)) fun(«as»:List SV)=>DF Kt (Ad9 EV.p «as» ++ Ad9 EV.p A3));∃(t:L.Sq Ah×Int×(Int->Bool)×Int),let A2:=(An t.1 t.2.1 t.snd.2.2);nat_lit 0=(0:Nat)/\g=t.snd.2.2/\(w.n=t.1.n/\∀(i:Nat),let A4:=(t.1.g i);i<w.n -> [I (w.g i).id,I (w.g i).colour,I (w.g i).grain,SV.sl A7 (w.g i).ol.n fun(i1:Nat)=>[I ((w.g i).ol.g i1).x,I ((w.g i).ol.g i1).y]]= [I A4.id,I A4.colour,I A4.grain,SV.sl A7 A4.ol.n fun(i1:Nat)=>[I (A4.ol.g i1).x,I (A4.ol.g i1).y]])/\gr=t.2.1/\(∀(x:Int),dom x=t.snd.2.1 x)/\(∀(x:Int),dom x=true->Ad (An w gr) x=Ad (An t.1 t.2.1) x)/\(Cs t.1/\(0:Int)<=t.snd.2.2/\t.snd.2.2<=Bw t.1.n)/\∀(u:Int->Bool),True->((∀(i:Nat),let A6:=[I (A2.g i).w,I (A2.g i).h];i<A2.n->A6=A6)/\EN A1/\A2.n<=(1000000:Nat)/\∀(i:Nat),i<A2.n->True)/\∃(u_1:Int->Bool),(BV A2.n fun(i:Nat)=>Bi A1 [SV.agg [I (A2.g i).w,I (A2.g i).h]])=D0 w gr g r/\(t.1.n=w.n/\∀(i:Nat),let A5:=(t.1.g i);i<t.1.n -> [I A5.id,I A5.colour,I A5.grain,SV.sl A7 A5.ol.n fun(i1:Nat)=>[I (A5.ol.g i1).x,I (A5.ol.g i1).y]]= [I (w.g i).id,I (w.g i).colour,I (w.g i).grain,SV.sl A7 (w.g i).ol.n fun(i1:Nat)=>[I ((w.g i).ol.g i1).x,I ((w.g i).ol.g i1).y]])/\t.2.1=gr/\(∀(x:Int),u x=u_1 x)/\(∀(x:Int),u x=true->Ad (An t.1 t.2.1) x=Ad (An w gr) x)/\True) (by kernel_rfl) (by
 conv=>zeta
 have hp:Cs w/\0<=g/\g<=Bw w.n:=hp;have hl:(BU w gr g).length<=1000000:=Aec (NH w gr hp.2.1 (Int.le_trans hp.2.2 (NE hp.1.1))) (by decide);exact⟨(w,gr,dom,g),rfl,rfl,⟨rfl,fun _ _=>rfl⟩,rfl,fun _=>rfl,fun _ _=>rfl,hp,fun u _=>⟨⟨fun _ _=>rfl,Lq Abn _,hl,fun _ _=>trivial⟩,u,rfl,⟨rfl,fun _ _=>rfl⟩,rfl,fun _=>rfl,fun _ _=>rfl,trivial⟩⟩)
theorem QN:Ao Tryz.prog 99:=fun args w=>by kernel_rfl
theorem QO:Du Tryz.prog 99 Jh:=Gf (n:=3) Tryz.func99 (c:=Af Tryz.f99) (by kernel_rfl) mixed ⟨fun t=>rfl,fun t=>rfl,fun t u=>rfl,fun t u=>rfl,fun t u=>rfl,fun t u=>⟨rfl,rfl⟩,by kernel_rfl,by kernel_rfl⟩ (fun⟨w,gr,dom,g,r⟩ hp=>⟨_,Ab2 w gr dom g r hp,⟨show Aa Tryz.prog _ from(Aa.cons Abh Abi (Aa.cons Abl Abm Aa.nil)),rfl,⟨show Ae Tryz.prog _ from Ae.nil,⟨AC.no1 (fun _=>rfl),⟨show By Tryz.prog _ from(By.cons bR QJ By.nil),FamsOk.none (fun _=>rfl)⟩⟩⟩⟩⟩)
def cX (w:(L.Sq Ah)) (gr:Int):Prop:=FK w
def cY (w:(L.Sq Ah)) (gr:Int):SV:=.tup [.sl 2 (LL w gr) (fun k=>[.int .i64 (((An w gr (Bw w.n)).g k).w),.int .i64 (((An w gr (Bw w.n)).g k).h)]),.int .i64 (Ks w gr)]
def cZ:List EV->Option (Prop×SV)
 |[.p (.sl 4 w_n w_g),.p (.int .i64 gr)]=>some ((∀i,i<w_n->G9 (w_g i))/\cX (⟨w_n,fun i=>CK (w_g i)⟩:(L.Sq Ah)) gr,cY (⟨w_n,fun i=>CK (w_g i)⟩:(L.Sq Ah)) gr)
 |_=>none
abbrev dA:SE.Spec:=(AM cZ)
def Ab3:Aj:={ cC with specs:=AF [(38,Jd),(53,NK),(66,cW)],mks:=EA [(65,H7),(68,In),(67,H8)],ren:=fun k=>if k=1000 then 9 else if k=1001 then 7 else k }
theorem Ab4 (w:(L.Sq Ah)) (gr:Int) (hp:cX w gr):vc Tryz.prog (Ab3) (Af Tryz.f26) (Ar Tryz.f26 [.p (.sl 4 w.n (fun i=>[.int .i64 ((w.g i).id),.int .i64 ((w.g i).colour),.int .i64 ((w.g i).grain),.sl 2 (w.g i).ol.n (fun i1=>[.int .i64 (((w.g i).ol.g i1).x),.int .i64 (((w.g i).ol.g i1).y)])])),.p (.int .i64 gr)]) (AL Tryz.prog Tryz.f26 (cY w gr)):=
 @Eq.mpr _ (let I:=SV.int .i64;let A10:=(2:Nat);let A9:=(1000000:Nat);let A4:=(0:Int);let A16:=(AG gr A4 (2:Int));let A5:=(L.Sq.mk (nat_lit 0) fun(i:Nat)=>Az.mk A4 A4 A4 A4 A4);let A3:=(L.Sq.mk w.n fun(i:Nat)=>Ah.mk (w.g i).id (w.g i).colour (w.g i).grain (L.Sq.mk (w.g i).ol.n fun(i_1:Nat)=>(w.g i).ol.g i_1));let A1:=(!decide (D1 A3 A5 A16=A4));True/\((∀(i:Nat),i<w.n->∀(i_1:Nat),let A6:=((w.g i).ol.g i_1);i_1<(w.g i).ol.n -> [I A6.x,I A6.y]= [I A6.x,I A6.y])/\(∀(i:Nat),i<nat_lit 0 -> []= [I A4,I A4,I A4,I A4,I A4])/\w.n<=A9/\(∀(i:Nat),i<w.n->(w.g i).ol.n<=A9)/\nat_lit 0<=A9)/\(A1=true->LL w gr=(0:Nat)/\D1 A3 A5 A16=Ks w gr)/\(A1=false->∃(t:L.Sq Ah×Int×(Int->L.Sq Ag)),(w.n=t.1.n/\∀(i:Nat),let A11:=(t.1.g i);i<w.n -> [I (w.g i).id,I (w.g i).colour,I (w.g i).grain,SV.sl A10 (w.g i).ol.n fun(i1:Nat)=>[I ((w.g i).ol.g i1).x,I ((w.g i).ol.g i1).y]]= [I A11.id,I A11.colour,I A11.grain,SV.sl A10 A11.ol.n fun(i1:Nat)=>[I (A11.ol.g i1).x,I (A11.ol.g i1).y]])/\gr=t.2.1/\True/\∀(u:Nat),True->∃(t_1:L.Sq Ah×Int×(Int->L.Sq Ag)×(Int->Bool)),nat_lit 0=(0:Nat)/\(t.1.n=t_1.1.n/\∀(i:Nat),let A12:=(t.1.g i);let A7:=(t_1.1.g i);i<t.1.n -> [I A12.id,I A12.colour,I A12.grain,SV.sl A10 A12.ol.n fun(i1:Nat)=>[I (A12.ol.g i1).x,I (A12.ol.g i1).y]]= [I A7.id,I A7.colour,I A7.grain,SV.sl A10 A7.ol.n fun(i1:Nat)=>[I (A7.ol.g i1).x,I (A7.ol.g i1).y]])/\t.2.1=t_1.2.1/\(∀(x:Int),false=t_1.snd.2.2 x)/\(∀(x:Int),false=true->Ad t.2.2 x=Ad t_1.snd.2.1 x)/\t_1.1.n<=(4:Nat)/\∀(u:Nat),True->∃(t:L.Sq Ah×Int×(Int->Bool)×Int),let A2:=(An t.1 t.2.1 t.snd.2.2);nat_lit 0=(0:Nat)/\Bw t_1.1.n=t.snd.2.2/\(t_1.1.n=t.1.n/\∀(i:Nat),let A13:=(t.1.g i);let A8:=(t_1.1.g i);i<t_1.1.n -> [I A8.id,I A8.colour,I A8.grain,SV.sl A10 A8.ol.n fun(i1:Nat)=>[I (A8.ol.g i1).x,I (A8.ol.g i1).y]]= [I A13.id,I A13.colour,I A13.grain,SV.sl A10 A13.ol.n fun(i1:Nat)=>[I (A13.ol.g i1).x,I (A13.ol.g i1).y]])/\t_1.2.1=t.2.1/\(∀(x:Int),t_1.snd.2.2 x=t.snd.2.1 x)/\(∀(x:Int),t_1.snd.2.2 x=true->Ad t_1.snd.2.1 x=Ad (An t.1 t.2.1) x)/\(Cs t.1/\A4<=t.snd.2.2/\t.snd.2.2<=Bw t.1.n)/\∀(u:Int->Bool),True->((∀(i:Nat),let A15:=[I (A2.g i).w,I (A2.g i).h];i<A2.n->A15=A15)/\A2.n<=A9)/\∀(t_2:Nat),True->(A2.n=LL w gr/\∀(i:Nat),let A14:=((An w gr (Bw w.n)).g i);i<A2.n -> [I (A2.g i).w,I (A2.g i).h]= [I A14.w,I A14.h])/\A4=Ks w gr)) (by kernel_rfl) (by
 conv=>zeta
 have hp:FK w:=hp;refine⟨trivial,⟨fun _ _ _ _=>rfl,fun i hi=>absurd hi (oE _),hp.2.1,hp.2.2,Ads _⟩,fun h=>?_,fun h=>?_⟩
 ·have h:¬ Ks w gr=0:=of_decide_eq_false (CV h);exact⟨by unfold LL;rw[decide_eq_false h];rfl,rfl⟩
 ·have h:Ks w gr=0:=of_decide_eq_true (Cl h);obtain⟨-,-,-,h7,-⟩:=NI h;have ok:=NJ hp h7;have a15:=LI ok.1;have hl:(BU w gr (Bw w.n)).length<=1000000:=Aec (NH w gr a15.1 a15.2.1) (by decide);exact⟨(w,gr,An w gr),⟨rfl,fun _ _=>rfl⟩,rfl,trivial,fun _ _=>⟨(w,gr,An w gr,fun _=>false),rfl,⟨rfl,fun _ _=>rfl⟩,rfl,fun _=>rfl,fun _ _=>rfl,ok.1,fun _ _=>⟨(w,gr,(fun _=>false),Bw w.n),rfl,rfl,⟨rfl,fun _ _=>rfl⟩,rfl,fun _=>rfl,fun _ _=>rfl,⟨ok,a15.1,AdQ _⟩,fun u _=>⟨⟨fun _ _=>rfl,hl⟩,fun _ _=>⟨⟨by unfold LL;rw[decide_eq_true h];rfl,fun _ _=>rfl⟩,h.symm⟩⟩⟩⟩⟩)
theorem Ab5:AB Tryz.prog 26 dA:=AP Tryz.func26 (c:=Af Tryz.f26) (by kernel_rfl) mixed (fun args p r hs hp=>by
 unfold cZ at hs;split at hs
 ·cases hs;exact⟨_,_,Ab4 _ _ hp.2,(.p (Kg hp.1) (.same _ .nil)),⟨show Aa Tryz.prog _ from(Aa.cons Kh Ki (Aa.cons QL QM (Aa.cons Ab0 Ab1 Aa.nil))),rfl,⟨show Ae Tryz.prog _ from Ae.nil,⟨AC.no1 (fun _=>rfl),⟨show By Tryz.prog _ from(By.cons NA N9 (By.cons Q9 Q8 (By.cons bR QJ By.nil))),FamsOk.none (fun _=>rfl)⟩⟩⟩⟩⟩
 ·cases hs)
theorem Ab6:Ao Tryz.prog 26:=fun args w=>by kernel_rfl
def dB (w:(L.Sq Ah)) (s:Az):Prop:=FK w
def dC (w:(L.Sq Ah)) (s:Az):SV:=.tup [.bool (Gn w s),.int .i64 (EF w s)]
def dD:List EV->Option (Prop×SV)
 |[.p (.sl 4 w_n w_g),.p (.agg [.int .i64 s_id,.int .i64 s_colour,.int .i64 s_w,.int .i64 s_h,.int .i64 s_grain])]=>some ((∀i,i<w_n->G9 (w_g i))/\dB (⟨w_n,fun i=>CK (w_g i)⟩:(L.Sq Ah)) (⟨s_id,s_colour,s_w,s_h,s_grain⟩:Az),dC (⟨w_n,fun i=>CK (w_g i)⟩:(L.Sq Ah)) (⟨s_id,s_colour,s_w,s_h,s_grain⟩:Az))
 |_=>none
abbrev dE:SE.Spec:=(AM dD)
def Ab7:Aj:={ cC with specs:=AF [(53,NK)],anys:=[1005],mks:=EA [(65,H7),(68,In),(99,Jh)],ren:=fun k=>if k=1000 then 9 else if k=1001 then 7 else k }
theorem Ab8 (w:(L.Sq Ah)) (s:Az) (hp:dB w s):vc Tryz.prog (Ab7) (Af Tryz.f69) (Ar Tryz.f69 [.p (.sl 4 w.n (fun i=>[.int .i64 ((w.g i).id),.int .i64 ((w.g i).colour),.int .i64 ((w.g i).grain),.sl 2 (w.g i).ol.n (fun i1=>[.int .i64 (((w.g i).ol.g i1).x),.int .i64 (((w.g i).ol.g i1).y)])])),.p (.agg [.int .i64 s.id,.int .i64 s.colour,.int .i64 s.w,.int .i64 s.h,.int .i64 s.grain])]) (AL Tryz.prog Tryz.f69 (dC w s)):=
 @Eq.mpr _ (let I:=SV.int .i64;let A19:=(0:Nat);let A18:=(1000000:Nat);let A17:=(0:Int);let A11:=(L.Sq.mk (nat_lit 1) fun(i:Nat)=>s);let A6:=[I s.id,I s.colour,I s.w,I s.h,I s.grain];let A4:=(2:Nat);let A2:=(L.Sq.mk w.n fun(i:Nat)=>Ah.mk (w.g i).id (w.g i).colour (w.g i).grain (L.Sq.mk (w.g i).ol.n fun(i_1:Nat)=>(w.g i).ol.g i_1));let A3:=(!decide (D1 A2 A11 true=A17));((∀(i:Nat),i<w.n->∀(i_1:Nat),let A5:=((w.g i).ol.g i_1);i_1<(w.g i).ol.n -> [I A5.x,I A5.y]= [I A5.x,I A5.y])/\(∀(i:Nat),i<nat_lit 1->A6=A6)/\w.n<=A18/\(∀(i:Nat),i<w.n->(w.g i).ol.n<=A18)/\nat_lit 1<=A18)/\(A3=true->false=Gn w s/\D1 A2 A11 true=EF w s)/\(A3=false->∃(t:L.Sq Ah×Int×(Int->L.Sq Ag)),(w.n=t.1.n/\∀(i:Nat),let A12:=(t.1.g i);i<w.n -> [I (w.g i).id,I (w.g i).colour,I (w.g i).grain,SV.sl A4 (w.g i).ol.n fun(i1:Nat)=>[I ((w.g i).ol.g i1).x,I ((w.g i).ol.g i1).y]]= [I A12.id,I A12.colour,I A12.grain,SV.sl A4 A12.ol.n fun(i1:Nat)=>[I (A12.ol.g i1).x,I (A12.ol.g i1).y]])/\s.grain=t.2.1/\True/\∀(u:Nat),let A1:=(∃(t_1:L.Sq Ah×Int×(Int->L.Sq Ag)×(Int->Bool)),nat_lit 0=A19/\(t.1.n=t_1.1.n/\∀(i:Nat),let A13:=(t.1.g i);let A7:=(t_1.1.g i);i<t.1.n -> [I A13.id,I A13.colour,I A13.grain,SV.sl A4 A13.ol.n fun(i1:Nat)=>[I (A13.ol.g i1).x,I (A13.ol.g i1).y]]= [I A7.id,I A7.colour,I A7.grain,SV.sl A4 A7.ol.n fun(i1:Nat)=>[I (A7.ol.g i1).x,I (A7.ol.g i1).y]])/\t.2.1=t_1.2.1/\(∀(x:Int),false=t_1.snd.2.2 x)/\(∀(x:Int),false=true->Ad t.2.2 x=Ad t_1.snd.2.1 x)/\t_1.1.n<=(4:Nat)/\∀(u:Nat),True->∃(t:L.Sq Ah×Int×(Int->Bool)×Int×Ag),nat_lit 0=A19/\Bw t_1.1.n=t.snd.snd.2.1/\SV.agg [I s.w,I s.h]=SV.agg [I t.snd.snd.2.2.w,I t.snd.snd.2.2.h]/\(t_1.1.n=t.1.n/\∀(i:Nat),let A14:=(t.1.g i);let A8:=(t_1.1.g i);i<t_1.1.n -> [I A8.id,I A8.colour,I A8.grain,SV.sl A4 A8.ol.n fun(i1:Nat)=>[I (A8.ol.g i1).x,I (A8.ol.g i1).y]]= [I A14.id,I A14.colour,I A14.grain,SV.sl A4 A14.ol.n fun(i1:Nat)=>[I (A14.ol.g i1).x,I (A14.ol.g i1).y]])/\t_1.2.1=t.2.1/\(∀(x:Int),t_1.snd.2.2 x=t.snd.2.1 x)/\(∀(x:Int),t_1.snd.2.2 x=true->Ad t_1.snd.2.1 x=Ad (An t.1 t.2.1) x)/\(Cs t.1/\A17<=t.snd.snd.2.1/\t.snd.snd.2.1<=Bw t.1.n)/\∀(u:Int->Bool),True->D0 t.1 t.2.1 t.snd.snd.2.1 t.snd.snd.2.2=Gn w s/\A17=EF w s);True->A1/\A1/\A1/\A1/\A1/\A1/\A1/\A1/\A1/\∃(t_1:L.Sq Ah×Int×(Int->L.Sq Ag)×(Int->Bool)),nat_lit 0=A19/\(t.1.n=t_1.1.n/\∀(i:Nat),let A15:=(t.1.g i);let A9:=(t_1.1.g i);i<t.1.n -> [I A15.id,I A15.colour,I A15.grain,SV.sl A4 A15.ol.n fun(i1:Nat)=>[I (A15.ol.g i1).x,I (A15.ol.g i1).y]]= [I A9.id,I A9.colour,I A9.grain,SV.sl A4 A9.ol.n fun(i1:Nat)=>[I (A9.ol.g i1).x,I (A9.ol.g i1).y]])/\t.2.1=t_1.2.1/\(∀(x:Int),false=t_1.snd.2.2 x)/\(∀(x:Int),false=true->Ad t.2.2 x=Ad t_1.snd.2.1 x)/\t_1.1.n<=(4:Nat)/\∀(u:Nat),True->∃(t:L.Sq Ah×Int×(Int->Bool)×Int×Ag),nat_lit 0=A19/\Bw t_1.1.n=t.snd.snd.2.1/\SV.agg [I s.w,I s.h]=SV.agg [I t.snd.snd.2.2.w,I t.snd.snd.2.2.h]/\(t_1.1.n=t.1.n/\∀(i:Nat),let A16:=(t.1.g i);let A10:=(t_1.1.g i);i<t_1.1.n -> [I A10.id,I A10.colour,I A10.grain,SV.sl A4 A10.ol.n fun(i1:Nat)=>[I (A10.ol.g i1).x,I (A10.ol.g i1).y]]= [I A16.id,I A16.colour,I A16.grain,SV.sl A4 A16.ol.n fun(i1:Nat)=>[I (A16.ol.g i1).x,I (A16.ol.g i1).y]])/\t_1.2.1=t.2.1/\(∀(x:Int),t_1.snd.2.2 x=t.snd.2.1 x)/\(∀(x:Int),t_1.snd.2.2 x=true->Ad t_1.snd.2.1 x=Ad (An t.1 t.2.1) x)/\(Cs t.1/\A17<=t.snd.snd.2.1/\t.snd.snd.2.1<=Bw t.1.n)/\∀(u:Int->Bool),True->D0 t.1 t.2.1 t.snd.snd.2.1 t.snd.snd.2.2=Gn w s/\A17=EF w s)) (by kernel_rfl) (by
 conv=>zeta
 have hp:FK w:=hp;refine⟨⟨fun _ _ _ _=>rfl,fun _ _=>rfl,hp.2.1,hp.2.2,by decide⟩,fun h=>?_,fun h=>?_⟩
 ·have h:¬ EF w s=0:=of_decide_eq_false (CV h);exact⟨by unfold Gn;rw[decide_eq_false h];rfl,rfl⟩
 ·have h:EF w s=0:=of_decide_eq_true (Cl h);obtain⟨-,-,-,h7,-⟩:=NI h;have ok:=NJ hp h7;have a15:=LI ok.1;have hb:D0 w s.grain (Bw w.n) ⟨s.w,s.h⟩=Gn w s:=by unfold Gn;rw[decide_eq_true h];rfl
  refine⟨(w,s.grain,An w s.grain),⟨rfl,fun _ _=>rfl⟩,rfl,trivial,fun _ _=>?_⟩
  repeat' apply And.intro
  all_goals exact⟨(w,s.grain,An w s.grain,fun _=>false),rfl,⟨rfl,fun _ _=>rfl⟩,rfl,fun _=>rfl,fun _ _=>rfl,ok.1,fun _ _=>⟨(w,s.grain,(fun _=>false),Bw w.n,⟨s.w,s.h⟩),rfl,rfl,rfl,⟨rfl,fun _ _=>rfl⟩,rfl,fun _=>rfl,fun _ _=>rfl,⟨ok,a15.1,AdQ _⟩,fun u _=>⟨hb,h.symm⟩⟩⟩)
theorem Ab9:AB Tryz.prog 69 dE:=AP Tryz.func69 (c:=Af Tryz.f69) (by kernel_rfl) mixed (fun args p r hs hp=>by
 unfold dD at hs;split at hs
 ·cases hs;exact⟨_,_,Ab8 _ _ hp.2,(.p (Kg hp.1) (.same _ .nil)),⟨show Aa Tryz.prog _ from(Aa.cons QL QM Aa.nil),rfl,⟨show Ae Tryz.prog _ from Ae.nil,⟨AC.no1 (fun _=>rfl),⟨show By Tryz.prog _ from(By.cons NA N9 (By.cons Q9 Q8 (By.cons QO QN By.nil))),FamsOk.none (fun _=>rfl)⟩⟩⟩⟩⟩
 ·cases hs)
theorem AbA:Ao Tryz.prog 69:=fun args w=>by kernel_rfl
structure AO where
 at_:L.Pt
 size:Ag
structure BS where
 sheet:Int
 kind:Int
 want:Int
 pts:L.Sq L.Pt
structure CL where
 want:Int
 sheet:Int
 turn:Int
 at_:L.Pt
def CA (r:AO) (up:Bool) (by_:Int):AO:=bif up then⟨r.at_,⟨by_,r.size.h⟩⟩else⟨r.at_,⟨r.size.w,by_⟩⟩
def E0 (r:AO) (up:Bool) (by_:Int):AO:=bif up then⟨⟨r.at_.x+by_,r.at_.y⟩,⟨r.size.w-by_,r.size.h⟩⟩else⟨⟨r.at_.x,r.at_.y+by_⟩,⟨r.size.w,r.size.h-by_⟩⟩
def AbB (r:AO) (up:Bool) (by_:Int):L.Pt:=bif up then⟨r.at_.x+by_,r.at_.y⟩else⟨r.at_.x,r.at_.y+by_⟩
def AbC (r:AO) (up:Bool) (by_:Int):L.Pt:=bif up then⟨r.at_.x+by_,r.at_.y+r.size.h⟩else⟨r.at_.x+r.size.w,r.at_.y+by_⟩
def AbD (a b:L.Pt):L.Sq L.Pt:=⟨2,fun i=>bif decide (i=0)then a else b⟩
def BX (r:AO) (id:Int) (up:Bool) (by_:Int):BS:=⟨id,1,0,AbD (AbB r up by_) (AbC r up by_)⟩
def CM (r:AO):Prop:=0<=r.at_.x/\0<=r.at_.y/\0<=r.size.w/\0<=r.size.h/\r.at_.x+r.size.w<=4096/\r.at_.y+r.size.h<=4096
def BY (r:AO):Nat:=(r.size.w-1).toNat
def Bx (r:AO):Nat:=BY r+(r.size.h-1).toNat
def AV (r:AO) (k:Nat):Bool:=decide (k<BY r)
def AQ (r:AO) (k:Nat):Int:=bif AV r k then(k:Int)+1 else((k-BY r:Nat):Int)+1
structure Gp where
 pl:Nat->CL
 sc:List BS
def AZ (l:List BS):L.Sq BS:=⟨l.length,fun i=>l.getD i ⟨0,0,0,⟨0,fun _=>⟨0,0⟩⟩⟩⟩
def Bk (x:BS):List SV:=[.int .i64 x.sheet,.int .i64 x.kind,.int .i64 x.want,.sl 2 x.pts.n fun i=>[.int .i64 (x.pts.g i).x,.int .i64 (x.pts.g i).y]]
def Ku (w:L.Sq Ah) (gr:Int) (i:Nat) (r:AO) (t:Int):Bool:=bif (bif Fw (w.g i).grain gr t then decide ((CY (w.g i).ol t).w<=r.size.w)else false)then decide ((CY (w.g i).ol t).h<=r.size.h)else false
def HA (w:L.Sq Ah) (gr:Int) (i:Nat) (r:AO):Int:=bif Ku w gr i r 0 then 0 else 1
def dF (P:Nat->CL) (i:Nat) (x:CL):Nat->CL:=fun j=>if j=i then x else P j
def E1 (w:L.Sq Ah) (sh:Az) (i:Nat) (r:AO) (P:Nat->CL):Nat->CL:=dF P i ⟨(w.g i).id,sh.id,HA w sh.grain i r,r.at_⟩
def Cn (S:List BS) (x:BS):List BS:=S ++ [x]
def Dq (w:L.Sq Ah) (sh:Az) (i:Nat) (r:AO):Ag:=CY (w.g i).ol (HA w sh.grain i r)
def EY (w:L.Sq Ah) (sh:Az) (i:Nat) (r:AO) (S:List BS):List BS:=bif decide ((Dq w sh i r).w<r.size.w)then Cn S (BX r sh.id true (Dq w sh i r).w)else S
def Fk (w:L.Sq Ah) (sh:Az) (i:Nat) (r:AO):AO:=bif decide ((Dq w sh i r).w<r.size.w)then CA r true (Dq w sh i r).w else r
def Fz (w:L.Sq Ah) (sh:Az) (i:Nat) (r:AO) (S:List BS):List BS:=bif decide ((Dq w sh i r).h<(Fk w sh i r).size.h)then Cn (EY w sh i r S) (BX (Fk w sh i r) sh.id false (Dq w sh i r).h)else EY w sh i r S
theorem AbE {X Y:List BS} (h:X=Y):(AZ X).n=(AZ Y).n/\∀i,i<(AZ X).n->Bk ((AZ X).g i)=Bk ((AZ Y).g i):=by rw[h];exact⟨rfl,fun _ _=>rfl⟩
theorem LM (S:List BS) (x:BS):(Cn S x).length=S.length+1:=by unfold Cn;simp
theorem QP {S Y:List BS} {x:BS} (h:Cn S x=Y) {r:Nat->List SV} (hr:r 0=Bk x):(AZ S).n+1=(AZ Y).n/\∀i,i<(AZ S).n+1->Ba (AZ S).n (fun k=>Bk ((AZ S).g k)) r i=Bk ((AZ Y).g i):=by
 subst h;refine⟨(LM S x).symm,fun i hi=>?_⟩;unfold Ba;have hi:i<S.length+1:=hi
 by_cases e:i<(AZ S).n
 ·rw[if_pos e];have e':i<S.length:=e;simp[AZ,Cn,AS,Ad7 e']
 ·rw[if_neg e];have e':¬ i<S.length:=e;obtain rfl:i=S.length:=by omega
  rw[show S.length-(AZ S).n=0 from Nat.sub_self _,hr];simp[AZ,Cn,AS]
theorem dG (w:L.Sq Ah) (sh:Az) (i:Nat) (r:AO):0<=(Dq w sh i r).w/\(Dq w sh i r).w<=4096/\0<=(Dq w sh i r).h/\(Dq w sh i r).h<=4096:=by
 have hb:=Qf (w.g i).ol;have h3:(C2 (w.g i).ol).x<=(C3 (w.g i).ol).x/\(C2 (w.g i).ol).y<=(C3 (w.g i).ol).y:=by
  unfold C2 C3;cases hv:AA (w.g i).ol with
  |false=>simp
  |true =>
    obtain⟨n3,_⟩:=Dw hv;have h1:=Qd (l:=(w.g i).ol) (w.g i).ol.n 0 (by omega);have h2:=Qe (l:=(w.g i).ol) (w.g i).ol.n 0 (by omega);simp only[cond_true];omega
 unfold Dq CY;cases decide (HA w sh.grain i r=1)<;>simp only[cond_true,cond_false]<;>omega
theorem AbF (w:L.Sq Ah) (sh:Az) (i:Nat) {r:AO} (hA:CM r):CM (Fk w sh i r):=by
 obtain⟨b1,b2,b3,b4⟩:=dG w sh i r;obtain⟨h1,h2,h3,h4,h5,h6⟩:=hA;unfold Fk
 by_cases e:(Dq w sh i r).w<r.size.w
 ·rw[decide_eq_true e];refine⟨h1,h2,b1,h4,?_,h6⟩;show r.at_.x+(Dq w sh i r).w<=4096;omega
 ·rw[decide_eq_false e];exact⟨h1,h2,h3,h4,h5,h6⟩
theorem AbG (w:L.Sq Ah) (sh:Az) (i:Nat) (r:AO) (S:List BS):(EY w sh i r S).length<=S.length+1:=by
 unfold EY;cases decide ((Dq w sh i r).w<r.size.w)<;>simp[LM]
theorem GE {n:Int} (h : -9223372036854775808<=n:=by omega) (k:n<=9223372036854775807:=by omega):Ac .i64 n:=⟨h,k⟩
def dH (r:AO) (up:Bool) (b:Int):Prop:=CM r/\0<=b/\b<=4096
def dI (r:AO) (up:Bool) (b:Int):SV:=.tup [(.agg [.int .i64 ((CA r up b).at_.x),.int .i64 ((CA r up b).at_.y),.int .i64 ((CA r up b).size.w),.int .i64 ((CA r up b).size.h)]),(.agg [.int .i64 ((E0 r up b).at_.x),.int .i64 ((E0 r up b).at_.y),.int .i64 ((E0 r up b).size.w),.int .i64 ((E0 r up b).size.h)])]
def dJ:List EV->Option (Prop×SV)
 |[.p (.agg [.int .i64 r_at__x,.int .i64 r_at__y,.int .i64 r_size_w,.int .i64 r_size_h]),.p (.bool up),.p (.int .i64 b)]=>some (dH (⟨(⟨r_at__x,r_at__y⟩:L.Pt),(⟨r_size_w,r_size_h⟩:Ag)⟩:AO) up b,dI (⟨(⟨r_at__x,r_at__y⟩:L.Pt),(⟨r_size_w,r_size_h⟩:Ag)⟩:AO) up b)
 |_=>none
abbrev QQ:SE.Spec:=(AM dJ)
def AbH:Aj:={ cC with muts:=[6,7,8,9],anys:=[1009] }
theorem AbI (r:AO) (up:Bool) (b:Int) (hp:dH r up b):vc Tryz.prog (AbH) (Af Tryz.f147) (Ar Tryz.f147 [.p (.agg [.int .i64 r.at_.x,.int .i64 r.at_.y,.int .i64 r.size.w,.int .i64 r.size.h]),.p (.bool up),.p (.int .i64 b)]) (AL Tryz.prog Tryz.f147 (dI r up b)):=
 @Eq.mpr _ (let I:=SV.int .i64;let A8:=[I r.at_.x,I r.at_.y,I r.size.w,I b];let A7:=[I r.at_.x,I r.at_.y,I b,I r.size.h];let A6:=(CA r up b);let A5:=(E0 r up b);let A4:=[I r.at_.x,I (r.at_.y+b),I r.size.w,I (r.size.h-b)];let A3:=[I (r.at_.x+b),I r.at_.y,I (r.size.w-b),I r.size.h];let A2:=[I A5.at_.x,I A5.at_.y,I A5.size.w,I A5.size.h];let A1:=[I A6.at_.x,I A6.at_.y,I A6.size.w,I A6.size.h];(up=true->Ac .i64 (r.at_.x+b)/\Ac .i64 (r.size.w-b)/\(SV.agg A7=SV.agg A1/\SV.agg A3=SV.agg A2)/\SV.agg A7=SV.agg A1/\SV.agg A3=SV.agg A2)/\(up=false->Ac .i64 (r.at_.y+b)/\Ac .i64 (r.size.h-b)/\(SV.agg A8=SV.agg A1/\SV.agg A4=SV.agg A2)/\SV.agg A8=SV.agg A1/\SV.agg A4=SV.agg A2)) (by kernel_rfl) (by
 conv=>zeta
 obtain⟨⟨h1,h2,h3,h4,h5,h6⟩,hb,hb'⟩:=(show CM r/\0<=b/\b<=4096 from hp);exact⟨fun h=>by subst h;exact⟨GE,GE,⟨rfl,rfl⟩,rfl,rfl⟩,fun h=>by subst h;exact⟨GE,GE,⟨rfl,rfl⟩,rfl,rfl⟩⟩)
theorem dK:AB Tryz.prog 147 QQ:=AP Tryz.func147 (c:=Af Tryz.f147) (by kernel_rfl) mixed (fun args p r hs hp=>by
 unfold dJ at hs;split at hs
 ·cases hs;exact⟨_,_,AbI _ _ _ hp,(.same _ (.same _ (.same _ .nil))),⟨show Aa Tryz.prog _ from Aa.nil,rfl,⟨show Ae Tryz.prog _ from Ae.nil,(AC.none (fun _=>rfl))⟩⟩⟩
 ·cases hs)
theorem dL:Ao Tryz.prog 147:=fun args w=>by kernel_rfl
def dM (r:AO):Prop:=True
def dN (r:AO):SV:=.clo 184 [.ref [.int .i64 r.at_.x,.int .i64 r.at_.y,.int .i64 r.size.w,.int .i64 r.size.h] 0]
def dO:List EV->Option (Prop×SV)
 |[.p (.agg [.int .i64 r_at__x,.int .i64 r_at__y,.int .i64 r_size_w,.int .i64 r_size_h])]=>some (dM (⟨(⟨r_at__x,r_at__y⟩:L.Pt),(⟨r_size_w,r_size_h⟩:Ag)⟩:AO),dN (⟨(⟨r_at__x,r_at__y⟩:L.Pt),(⟨r_size_w,r_size_h⟩:Ag)⟩:AO))
 |_=>none
abbrev dP:SE.Spec:=(AM dO)
def AbJ:Aj:={ muts:=[],frz:=BH [],specs:=AF [],loops:=AY [],iters:=B6 [],rfs:=AU [],nils:=BD [] }
theorem AbK (r:AO) (hp:dM r):vc Tryz.prog (AbJ) (Af Tryz.f146) (Ar Tryz.f146 [.p (.agg [.int .i64 r.at_.x,.int .i64 r.at_.y,.int .i64 r.size.w,.int .i64 r.size.h])]) (AL Tryz.prog Tryz.f146 (dN r)):=
 @Eq.mpr _ (let I:=SV.int .i64;let A1:=[SV.ref [I r.at_.x,I r.at_.y,I r.size.w,I r.size.h] (nat_lit 0)];SV.clo (nat_lit 184) A1=SV.clo (nat_lit 184) A1) (by kernel_rfl) (by
 conv=>zeta
 try rfl)
theorem AbL:AB Tryz.prog 146 dP:=AP Tryz.func146 (c:=Af Tryz.f146) (by kernel_rfl) mixed (fun args p r hs hp=>by
 unfold dO at hs;split at hs
 ·cases hs;exact⟨_,_,AbK _ hp,(.same _ .nil),⟨show Aa Tryz.prog _ from Aa.nil,rfl,⟨show Ae Tryz.prog _ from Ae.nil,(AC.none (fun _=>rfl))⟩⟩⟩
 ·cases hs)
theorem AbM:Ao Tryz.prog 146:=fun args w=>by kernel_rfl
def dQ (r:AO):Prop:=CM r
def QR (r:AO):Nat:=Bx r
def dR (r:AO):Nat->List SV:=fun k=>[.bool (AV r k),.int .i64 (AQ r k)]
def dS:List SV->Option (Prop×Nat×(Nat->List SV))
 |[.ref [.int .i64 r_at__x,.int .i64 r_at__y,.int .i64 r_size_w,.int .i64 r_size_h] 0]=>some (dQ (⟨(⟨r_at__x,r_at__y⟩:L.Pt),(⟨r_size_w,r_size_h⟩:Ag)⟩:AO),QR (⟨(⟨r_at__x,r_at__y⟩:L.Pt),(⟨r_size_w,r_size_h⟩:Ag)⟩:AO),dR (⟨(⟨r_at__x,r_at__y⟩:L.Pt),(⟨r_size_w,r_size_h⟩:Ag)⟩:AO))
 |_=>none
abbrev dT:F0:=JM dS
def AbN:Aj:={ muts:=[],frz:=BH [],specs:=AF [],loops:=fun _=>none,iters:=B6 [],rfs:=AU [] }
theorem AbO (yl:Nat) (r:AO) (hp:dQ r):vc Tryz.prog { AbN with loops:=AY [(1,{ T:=Nat,keep:=[0,1],keepO:=[],chg:=fun i=>[(3,.p (.int .i64 ((i:Int)+1)))],own:=fun _=>[],inv:=fun i=>i<=BY r,mu:=fun i=>BY r-i,yk:=some (fun i=>i) }),(5,{ T:=Nat,keep:=[0,1],keepO:=[],chg:=fun i=>[(4,.p (.int .i64 ((i:Int)+1)))],own:=fun _=>[],inv:=fun i=>BY r+i<=Bx r,mu:=fun i=>Bx r-i,yk:=some (fun i=>BY r+i) })],yld:=some ⟨yl,QR r,dR r⟩ } (Af Tryz.f184) (Ar Tryz.f184 (.yield yl::([.ref [.int .i64 r.at_.x,.int .i64 r.at_.y,.int .i64 r.size.w,.int .i64 r.size.h] 0]:List SV).map .p)) (JL Tryz.prog Tryz.f184 (QR r)):=
 @Eq.mpr _ (let I:=SV.int .i64;let A7:=(nat_lit 0);let A3:=(1:Nat);let A4:=(true=true->Bx r+A3=Bx r\/Bx r+A3=Bx r+A3);let A2:=[I r.at_.x,I r.at_.y,I r.size.w,I r.size.h];let A1:=(1:Int);(∃(g:Nat),nat_lit 0=g/\false=false/\A1=(↑g:Int)+A1/\g<=BY r)/\∀(g:Nat),let A6:=(↑g:Int);g<=BY r->(decide (A6+A1<r.size.w)=true->yl=yl/\g<Bx r /\ [SV.bool true,I (A6+A1)]= [SV.bool (AV r g),I (AQ r g)]/\((false=true->g+A3=Bx r\/g+A3=Bx r+A3)/\(false=false->Ac .i64 (A6+A1+A1)/\∃(g':Nat),g+A3=g'/\false=false/\A6+A1+A1=(↑g':Int)+A1/\yl=yl/\SV.ref A2 A7=SV.ref A2 A7/\g'<=BY r/\BY r-g'<BY r-g))/\A4/\(true=false->Ac .i64 (A6+A1+A1)/\∃(g':Nat),Bx r+A3=g'/\false=false/\A6+A1+A1=(↑g':Int)+A1/\yl=yl/\False/\g'<=BY r/\BY r-g'<BY r-g))/\(decide (A6+A1<r.size.w)=false->(∃(g_1:Nat),g=BY r+g_1/\false=false/\A1=(↑g_1:Int)+A1/\BY r+g_1<=Bx r)/\∀(g_1:Nat),let A5:=(↑g_1:Int);BY r+g_1<=Bx r->(decide (A5+A1<r.size.h)=true->yl=yl/\BY r+g_1<Bx r /\ [SV.bool false,I (A5+A1)]= [SV.bool (AV r (BY r+g_1)),I (AQ r (BY r+g_1))]/\((false=true->BY r+g_1+A3=Bx r\/BY r+g_1+A3=Bx r+A3)/\(false=false->Ac .i64 (A5+A1+A1)/\∃(g':Nat),BY r+g_1+A3=BY r+g'/\false=false/\A5+A1+A1=(↑g':Int)+A1/\yl=yl/\SV.ref A2 A7=SV.ref A2 A7/\BY r+g'<=Bx r/\Bx r-g'<Bx r-g_1))/\A4/\(true=false->Ac .i64 (A5+A1+A1)/\∃(g':Nat),Bx r+A3=BY r+g'/\false=false/\A5+A1+A1=(↑g':Int)+A1/\yl=yl/\False/\BY r+g'<=Bx r/\Bx r-g'<Bx r-g_1))/\(decide (A5+A1<r.size.h)=false->BY r+g_1=Bx r\/BY r+g_1=Bx r+A3))) (by kernel_rfl) (by
 conv=>zeta
 obtain⟨h1,h2,h3,h4,h5,h6⟩:=(show CM r from hp);have eW:BY r=(r.size.w-1).toNat:=rfl;have eN:Bx r=(r.size.w-1).toNat+(r.size.h-1).toNat:=rfl;refine⟨⟨0,rfl,rfl,rfl,Ads _⟩,fun k hk=>⟨fun hc=>?_,fun hc=>?_⟩⟩
 ·have hc:(k:Int)+1<r.size.w:=of_decide_eq_true hc;have hk:k<=BY r:=hk;have hlt:k<BY r:=by omega
  have eU:AV r k=true:=decide_eq_true hlt;exact⟨rfl,by omega,by unfold AQ;rw[eU];rfl,⟨(fun h=>by cases h),fun _=>⟨GE,k+1,rfl,rfl,rfl,rfl,rfl,hlt,by omega⟩⟩,fun _=>.inr rfl,(fun h=>by cases h)⟩
 ·have hc:¬ (k:Int)+1<r.size.w:=of_decide_eq_false hc;have hk:k<=BY r:=hk;refine⟨⟨0,by omega,rfl,rfl,by omega⟩,fun j hj=>⟨fun hc=>?_,fun hc=>?_⟩⟩
  ·have hc:(j:Int)+1<r.size.h:=of_decide_eq_true hc;have hj:BY r+j<=Bx r:=hj;have eU:AV r (BY r+j)=false:=decide_eq_false (by omega);exact⟨rfl,by omega,by unfold AQ;rw[eU,Nat.add_sub_cancel_left];rfl,⟨(fun h=>by cases h),fun _=>⟨GE,j+1,rfl,rfl,rfl,rfl,rfl,by omega,by omega⟩⟩,fun _=>.inr rfl,(fun h=>by cases h)⟩
  ·have hc:¬ (j:Int)+1<r.size.h:=of_decide_eq_false hc;have hj:BY r+j<=Bx r:=hj;exact .inl (by omega))
theorem AbP:Hp Tryz.prog 184 dT:=MV Tryz.func184 (c:=Af Tryz.f184) (by kernel_rfl) mixed (fun caps l p n g hs hp=>by
 unfold dS at hs;split at hs
 ·cases hs;exact⟨_,_,AbO l _ hp,(.cons (Bo.refl _) .nil),rfl,show Aa Tryz.prog _ from Aa.nil,⟨show Ae Tryz.prog _ from Ae.nil,AC.none (fun _=>rfl)⟩⟩
 ·cases hs)
theorem AbQ:Ao Tryz.prog 184:=fun args w=>by kernel_rfl
def dU (r:AO) (id:Int) (up:Bool) (b:Int):Prop:=CM r/\0<=b/\b<=4096
def dV (r:AO) (id:Int) (up:Bool) (b:Int):SV:=(.agg [.int .i64 ((BX r id up b).sheet),.int .i64 ((BX r id up b).kind),.int .i64 ((BX r id up b).want),.sl 2 (BX r id up b).pts.n (fun i=>[.int .i64 (((BX r id up b).pts.g i).x),.int .i64 (((BX r id up b).pts.g i).y)])])
def dW:List EV->Option (Prop×SV)
 |[.p (.agg [.int .i64 r_at__x,.int .i64 r_at__y,.int .i64 r_size_w,.int .i64 r_size_h]),.p (.int .i64 id),.p (.bool up),.p (.int .i64 b)]=>some (dU (⟨(⟨r_at__x,r_at__y⟩:L.Pt),(⟨r_size_w,r_size_h⟩:Ag)⟩:AO) id up b,dV (⟨(⟨r_at__x,r_at__y⟩:L.Pt),(⟨r_size_w,r_size_h⟩:Ag)⟩:AO) id up b)
 |_=>none
abbrev QS:SE.Spec:=(AM dW)
def AbR:Aj:={ cC with muts:=[8,9,10] }
theorem AbS (r:AO) (id:Int) (up:Bool) (b:Int) (hp:dU r id up b):vc Tryz.prog (AbR) (Af Tryz.f148) (Ar Tryz.f148 [.p (.agg [.int .i64 r.at_.x,.int .i64 r.at_.y,.int .i64 r.size.w,.int .i64 r.size.h]),.p (.int .i64 id),.p (.bool up),.p (.int .i64 b)]) (AL Tryz.prog Tryz.f148 (dV r id up b)):=
 @Eq.mpr _ (let I:=SV.int .i64;let A3:=(r.at_.y+b);let A2:=(r.at_.x+b);let A1:=(BX r id up b);Ac .i64 (r.at_.x+r.size.w)/\Ac .i64 (r.at_.y+r.size.h)/\(up=true->Ac .i64 A2/\id=A1.sheet/\(1:Int)=A1.kind/\(0:Int)=A1.want/\nat_lit 2=A1.pts.n/\∀(i:Nat),i<nat_lit 2->Bb [I A2,I r.at_.y,I A2,I (r.at_.y+r.size.h)] (nat_lit 2) i = [I (A1.pts.g i).x,I (A1.pts.g i).y])/\(up=false->Ac .i64 A3/\id=A1.sheet/\(1:Int)=A1.kind/\(0:Int)=A1.want/\nat_lit 2=A1.pts.n/\∀(i:Nat),i<nat_lit 2->Bb [I r.at_.x,I A3,I (r.at_.x+r.size.w),I A3] (nat_lit 2) i = [I (A1.pts.g i).x,I (A1.pts.g i).y])) (by kernel_rfl) (by
 conv=>zeta
 obtain⟨⟨h1,h2,h3,h4,h5,h6⟩,hb,hb'⟩:=(show CM r/\0<=b/\b<=4096 from hp);refine⟨GE,GE,fun h=>?_,fun h=>?_⟩<;>subst h<;>exact⟨GE,rfl,rfl,rfl,rfl,fun i hi=>by match i,hi with|0,_=>rfl|1,_=>rfl⟩)
theorem dX:AB Tryz.prog 148 QS:=AP Tryz.func148 (c:=Af Tryz.f148) (by kernel_rfl) mixed (fun args p r hs hp=>by
 unfold dW at hs;split at hs
 ·cases hs;exact⟨_,_,AbS _ _ _ _ hp,(.same _ (.same _ (.same _ (.same _ .nil)))),⟨show Aa Tryz.prog _ from Aa.nil,rfl,⟨show Ae Tryz.prog _ from Ae.nil,(AC.none (fun _=>rfl))⟩⟩⟩
 ·cases hs)
theorem dY:Ao Tryz.prog 148:=fun args w=>by kernel_rfl
abbrev Kv:Tr:={ T:=(L.Sq Ah)×(Az)×(Int->Bool)×(Nat->CL)×(List BS)×(Nat)×(AO)×(Int),U:=Nat,args:=fun t=>(fun w sh dom P S i r t=>[.p (.int .i64 t),.p (.ref [.int .i64 ((w.g i).id),.int .i64 ((w.g i).colour),.int .i64 ((w.g i).grain),.sl 2 (w.g i).ol.n (fun i1=>[.int .i64 (((w.g i).ol.g i1).x),.int .i64 (((w.g i).ol.g i1).y)])] 0),.loc 1006 0,.loc 1007 0]) t.1 t.2.1 t.2.2.1 t.2.2.2.1 t.2.2.2.2.1 t.2.2.2.2.2.1 t.2.2.2.2.2.2.1 t.2.2.2.2.2.2.2,own:=fun t=>(fun w sh dom P S i r t=>[(1000,.blk 172 [.p ((.sl 4 w.n (fun i=>[.int .i64 ((w.g i).id),.int .i64 ((w.g i).colour),.int .i64 ((w.g i).grain),.sl 2 (w.g i).ol.n (fun i1=>[.int .i64 (((w.g i).ol.g i1).x),.int .i64 (((w.g i).ol.g i1).y)])]))),.p (.int .i64 sh.grain),.mapv 1001]),(1001,.mq 3 64 dom (Ad (An w sh.grain))),(1002,.blk 105 [.loc 1000 0,.p (.int .i64 sh.id),.p (.int .i64 sh.colour),.p (.int .i64 sh.w),.p (.int .i64 sh.h),.p (.int .i64 sh.grain),.row 1003,.row 1004]),(1003,.row 75 5 w.n (fun k=>[.int .i64 ((P k).want),.int .i64 ((P k).sheet),.int .i64 ((P k).turn),.int .i64 ((P k).at_.x),.int .i64 ((P k).at_.y)])),(1004,.row 96 4 (AZ (S)).n (fun k=>Bk ((AZ (S)).g k))),(1006,.blk 101 [.loc 1002 0]),(1007,.blk 152 [.p (.int .i64 r.at_.x),.p (.int .i64 r.at_.y),.p (.int .i64 r.size.w),.p (.int .i64 r.size.h)])]) t.1 t.2.1 t.2.2.1 t.2.2.2.1 t.2.2.2.2.1 t.2.2.2.2.2.1 t.2.2.2.2.2.2.1 t.2.2.2.2.2.2.2,pre:=fun t=>(fun w sh dom P S i r t=>(w.g i).ol.n<=1000000) t.1 t.2.1 t.2.2.1 t.2.2.2.1 t.2.2.2.2.1 t.2.2.2.2.2.1 t.2.2.2.2.2.2.1 t.2.2.2.2.2.2.2,post:=fun t u=>(fun w sh dom P S i r t=>fun u=>True) t.1 t.2.1 t.2.2.1 t.2.2.2.1 t.2.2.2.2.1 t.2.2.2.2.2.1 t.2.2.2.2.2.2.1 t.2.2.2.2.2.2.2 u,own':=fun t u=>(fun w sh dom P S i r t=>fun u=>[(1000,.blk 172 [.p ((.sl 4 w.n (fun i=>[.int .i64 ((w.g i).id),.int .i64 ((w.g i).colour),.int .i64 ((w.g i).grain),.sl 2 (w.g i).ol.n (fun i1=>[.int .i64 (((w.g i).ol.g i1).x),.int .i64 (((w.g i).ol.g i1).y)])]))),.p (.int .i64 sh.grain),.mapv 1001]),(1001,.mq 3 64 dom (Ad (An w sh.grain))),(1002,.blk 105 [.loc 1000 0,.p (.int .i64 sh.id),.p (.int .i64 sh.colour),.p (.int .i64 sh.w),.p (.int .i64 sh.h),.p (.int .i64 sh.grain),.row 1003,.row 1004]),(1003,.row 75 5 w.n (fun k=>[.int .i64 ((P k).want),.int .i64 ((P k).sheet),.int .i64 ((P k).turn),.int .i64 ((P k).at_.x),.int .i64 ((P k).at_.y)])),(1004,.row 96 4 (AZ (S)).n (fun k=>Bk ((AZ (S)).g k))),(1006,.blk 101 [.loc 1002 0]),(1007,.blk 152 [.p (.int .i64 r.at_.x),.p (.int .i64 r.at_.y),.p (.int .i64 r.size.w),.p (.int .i64 r.size.h)])]) t.1 t.2.1 t.2.2.1 t.2.2.2.1 t.2.2.2.2.1 t.2.2.2.2.2.1 t.2.2.2.2.2.2.1 t.2.2.2.2.2.2.2 u,res:=fun t u=>(fun w sh dom P S i r t=>fun u=>.p (.bool (Ku w sh.grain i r t))) t.1 t.2.1 t.2.2.1 t.2.2.2.1 t.2.2.2.2.1 t.2.2.2.2.2.1 t.2.2.2.2.2.2.1 t.2.2.2.2.2.2.2 u }
theorem AbT (w:L.Sq Ah) (sh:Az) (dom:Int->Bool) (P:Nat->CL) (S:List BS) (i:Nat) (r:AO) (t:Int) (hp:Kv.pre (w,sh,dom,P,S,i,r,t)):vc Tryz.prog ({ cC with specs:=AF [(115,N2),(114,Qi)] }) (Af Tryz.f183) (D3 Tryz.f183 (Kv.args (w,sh,dom,P,S,i,r,t)) (Kv.own (w,sh,dom,P,S,i,r,t))) (MW Tryz.prog Tryz.f183 Kv (w,sh,dom,P,S,i,r,t)):=
 @Eq.mpr _ (let I:=SV.int .i64;let A5:=(AZ S);let A3:=(CY (L.Sq.mk (w.g i).ol.n fun(i_1:Nat)=>(w.g i).ol.g i_1) t);((∀(i_1:Nat),let A4:=((w.g i).ol.g i_1);i_1<(w.g i).ol.n -> [I A4.x,I A4.y]= [I A4.x,I A4.y])/\(w.g i).ol.n<=(1000000:Nat))/\True/\∃(u:Nat),(bif bif Fw (w.g i).grain sh.grain t then decide (A3.w<=r.size.w)else false then decide (A3.h<=r.size.h)else false)=Ku w sh.grain i r t/\(w.n=w.n/\∀(i:Nat),let A1:=[I (w.g i).id,I (w.g i).colour,I (w.g i).grain,SV.sl (2:Nat) (w.g i).ol.n fun(i1:Nat)=>[I ((w.g i).ol.g i1).x,I ((w.g i).ol.g i1).y]];i<w.n->A1=A1)/\sh.grain=sh.grain/\(∀(x:Int),dom x=dom x)/\(∀(x:Int),dom x=true->Ad (An w sh.grain) x=Ad (An w sh.grain) x)/\nat_lit 0=(0:Nat)/\sh.id=sh.id/\sh.colour=sh.colour/\sh.w=sh.w/\sh.h=sh.h/\sh.grain=sh.grain/\(w.n=w.n/\∀(i:Nat),let A2:=[I (P i).want,I (P i).sheet,I (P i).turn,I (P i).at_.x,I (P i).at_.y];i<w.n->A2=A2)/\(A5.n=A5.n/\∀(i:Nat),i<A5.n->Bk (A5.g i)=Bk (A5.g i))/\nat_lit 0=(0:Nat)/\r.at_.x=r.at_.x/\r.at_.y=r.at_.y/\r.size.w=r.size.w/\r.size.h=r.size.h/\True) (by kernel_rfl) (by
 conv=>zeta
 have ho:(w.g i).ol.n<=1000000:=hp;exact⟨⟨fun _ _=>rfl,ho⟩,trivial,(0:Nat),rfl,⟨rfl,fun _ _=>rfl⟩,rfl,fun _=>rfl,fun _ _=>rfl,rfl,rfl,rfl,rfl,rfl,rfl,⟨rfl,fun _ _=>rfl⟩,⟨rfl,fun _ _=>rfl⟩,rfl,rfl,rfl,rfl,rfl,trivial⟩)
theorem AbU:Ao Tryz.prog 183:=fun args w=>by kernel_rfl
theorem AbV:F7 Tryz.prog 183 Kv:=Pk (ks:=[1000,1001,1002,1003,1004,1006,1007]) (n:=4) Tryz.func183 (c:=Af Tryz.f183) (by kernel_rfl) mixed ⟨fun t=>rfl,fun t=>rfl,fun t u=>rfl,fun t u=>rfl,fun t u=>rfl,by kernel_rfl⟩ (fun⟨w,sh,dom,P,S,i,r,t⟩ hp=>⟨_,AbT w sh dom P S i r t hp,⟨show Aa Tryz.prog _ from(Aa.cons Qg Qh (Aa.cons YH YI Aa.nil)),rfl,⟨show Ae Tryz.prog _ from Ae.nil,(AC.none (fun _=>rfl))⟩⟩⟩)
abbrev Kw:Mk:={ T:=(L.Sq Ah)×(Az)×(Int->Bool)×(Nat->CL)×(List BS)×(Nat)×(AO),U:=Nat,args:=fun t=>(fun w sh dom P S i r=>[.loc 1002 0,.p (.int .i64 (i:Int)),.p ((.agg [.int .i64 r.at_.x,.int .i64 r.at_.y,.int .i64 r.size.w,.int .i64 r.size.h]))]) t.1 t.2.1 t.2.2.1 t.2.2.2.1 t.2.2.2.2.1 t.2.2.2.2.2.1 t.2.2.2.2.2.2,lkeys:=[1000,1001,1002,1003,1004],keys:=[],lent:=fun t=>(fun w sh dom P S i r=>[(1000,.blk 172 [.p ((.sl 4 w.n (fun i=>[.int .i64 ((w.g i).id),.int .i64 ((w.g i).colour),.int .i64 ((w.g i).grain),.sl 2 (w.g i).ol.n (fun i1=>[.int .i64 (((w.g i).ol.g i1).x),.int .i64 (((w.g i).ol.g i1).y)])]))),.p (.int .i64 sh.grain),.mapv 1001]),(1001,.mq 3 64 dom (Ad (An w sh.grain))),(1002,.blk 105 [.loc 1000 0,.p (.int .i64 sh.id),.p (.int .i64 sh.colour),.p (.int .i64 sh.w),.p (.int .i64 sh.h),.p (.int .i64 sh.grain),.row 1003,.row 1004]),(1003,.row 75 5 w.n (fun k=>[.int .i64 ((P k).want),.int .i64 ((P k).sheet),.int .i64 ((P k).turn),.int .i64 ((P k).at_.x),.int .i64 ((P k).at_.y)])),(1004,.row 96 4 (AZ (S)).n (fun k=>Bk ((AZ (S)).g k)))]) t.1 t.2.1 t.2.2.1 t.2.2.2.1 t.2.2.2.2.1 t.2.2.2.2.2.1 t.2.2.2.2.2.2,pre:=fun t=>(fun w sh dom P S i r=>i<w.n/\w.n<=4/\(w.g i).ol.n<=1000000/\CM r/\(AZ S).n<=1000) t.1 t.2.1 t.2.2.1 t.2.2.2.1 t.2.2.2.2.1 t.2.2.2.2.2.1 t.2.2.2.2.2.2,post:=fun t u=>(fun w sh dom P S i r=>fun uu=>True) t.1 t.2.1 t.2.2.1 t.2.2.2.1 t.2.2.2.2.1 t.2.2.2.2.2.1 t.2.2.2.2.2.2 u,lent':=fun t u=>(fun w sh dom P S i r=>fun uu=>[(1000,.blk 172 [.p ((.sl 4 w.n (fun i=>[.int .i64 ((w.g i).id),.int .i64 ((w.g i).colour),.int .i64 ((w.g i).grain),.sl 2 (w.g i).ol.n (fun i1=>[.int .i64 (((w.g i).ol.g i1).x),.int .i64 (((w.g i).ol.g i1).y)])]))),.p (.int .i64 sh.grain),.mapv 1001]),(1001,.mq 3 64 dom (Ad (An w sh.grain))),(1002,.blk 105 [.loc 1000 0,.p (.int .i64 sh.id),.p (.int .i64 sh.colour),.p (.int .i64 sh.w),.p (.int .i64 sh.h),.p (.int .i64 sh.grain),.row 1003,.row 1004]),(1003,.row 75 5 w.n (fun k=>[.int .i64 (((E1 w sh i r P) k).want),.int .i64 (((E1 w sh i r P) k).sheet),.int .i64 (((E1 w sh i r P) k).turn),.int .i64 (((E1 w sh i r P) k).at_.x),.int .i64 (((E1 w sh i r P) k).at_.y)])),(1004,.row 96 4 (AZ (Fz w sh i r S)).n (fun k=>Bk ((AZ (Fz w sh i r S)).g k)))]) t.1 t.2.1 t.2.2.1 t.2.2.2.1 t.2.2.2.2.1 t.2.2.2.2.2.1 t.2.2.2.2.2.2 u,own:=fun t u=>(fun w sh dom P S i r=>fun uu=>[]) t.1 t.2.1 t.2.2.1 t.2.2.2.1 t.2.2.2.2.1 t.2.2.2.2.2.1 t.2.2.2.2.2.2 u,res:=fun t u=>(fun w sh dom P S i r=>fun uu=>.p (.tup [])) t.1 t.2.1 t.2.2.1 t.2.2.2.1 t.2.2.2.2.1 t.2.2.2.2.2.1 t.2.2.2.2.2.2 u,mv:=some (1004,80) }
theorem AbW (w:L.Sq Ah) (sh:Az) (dom:Int->Bool) (P:Nat->CL) (S:List BS) (i:Nat) (r:AO) (hp:Kw.pre (w,sh,dom,P,S,i,r)):vc Tryz.prog ({ cC with muts:=[3,5],frz:=BH [(3,[6])],specs:=AF [(115,N2),(148,QS),(147,QQ)],trs:=GV [(183,Kv)],ren:=fun k=>if k=1006 then 3 else if k=1007 then 5 else if k=1004 then 80 else k,joins:=AY [(6,{ T:=Nat,keep:=[1,3,5,6],keepO:=[3,5,80,1000,1001,1002,1003],chg:=fun _=>[(7,.p (.int .i64 (HA w sh.grain i r)))],own:=fun _=>[],inv:=fun _=>True,mu:=fun _=>0 }),(8,{ T:=Nat,keep:=[3,5,9],keepO:=[3,5,80,1000,1001,1002],chg:=fun _=>[],own:=fun _=>[(9,.blk 73 [.p (.int .i64 (Dq w sh i r).w),.p (.int .i64 (Dq w sh i r).h)]),(1003,.row 75 5 w.n (fun k=>[.int .i64 (((E1 w sh i r P) k).want),.int .i64 (((E1 w sh i r P) k).sheet),.int .i64 (((E1 w sh i r P) k).turn),.int .i64 (((E1 w sh i r P) k).at_.x),.int .i64 (((E1 w sh i r P) k).at_.y)]))],inv:=fun _=>True,mu:=fun _=>0 }),(10,{ T:=Nat,keep:=[3,5,9],keepO:=[3,5,9,1000,1001,1002,1003],chg:=fun _=>[],own:=fun _=>[(80,.row 96 4 (AZ (Cn S (BX r sh.id true (Dq w sh i r).w))).n (fun k=>Bk ((AZ (Cn S (BX r sh.id true (Dq w sh i r).w))).g k)))],inv:=fun _=>True,mu:=fun _=>0 }),(11,{ T:=Nat,keep:=[3,5,9],keepO:=[3,9,1000,1001,1002,1003],chg:=fun _=>[],own:=fun _=>[(80,.row 96 4 (AZ (EY w sh i r S)).n (fun k=>Bk ((AZ (EY w sh i r S)).g k))),(5,.blk 152 [.p (.int .i64 (Fk w sh i r).at_.x),.p (.int .i64 (Fk w sh i r).at_.y),.p (.int .i64 (Fk w sh i r).size.w),.p (.int .i64 (Fk w sh i r).size.h)])],inv:=fun _=>True,mu:=fun _=>0 })],anys:=[1009,1012],rek:=Ma [(1,[(1004,80)])] }) (Af Tryz.f145) (D3 Tryz.f145 (Kw.args (w,sh,dom,P,S,i,r)) (Kw.lent (w,sh,dom,P,S,i,r))) (FD Tryz.prog Tryz.f145 Kw (w,sh,dom,P,S,i,r)):=
 @Eq.mpr _ (let I:=SV.int .i64;let T:=Ad6;let A45:=(HA w sh.grain i r);let A44:=(0:Int);let A41:=(2:Nat);let A37:=(nat_lit 0);let A36:=(0:Nat);let A34:=(An w sh.grain);let A31:=(140737488355328:Nat);let A28:=(↑i:Int);let A39:=(A44<=A28/\A28<(↑w.n:Int));let A27:=(AZ (Fz w sh i r S));let A19:=(AZ S);let A14:=(∀(x
:Int),dom x=dom x);let A12:=(Fk w sh i r);let A10:=(w.g (T A28));let A24:=(CY (L.Sq.mk A10.ol.n fun(i_1:Nat)=>A10.ol.g i_1) A45);let A9:=(AZ (EY w sh i r S));let A6:=(∀(x:Int),dom x=true->Ad A34 x=Ad A34 x);let A4:=(Dq w sh i r);let A35:=(CM r/\A44<=A4.w/\A4.w<=(4096:Int));let A29:=(CA r true A4.w);let A16
:=(BX A12 sh.id false A4.h);let A7:=(BX r sh.id true A4.w);let A20:=(AZ (Cn S A7));let A21:=(A19.n+nat_lit 1=A20.n/\∀(i_1:Nat),i_1<A19.n+nat_lit 1->Ba A19.n (fun(k:Nat)=>Bk (A19.g k)) (fun(x:Nat)=>[I A7.sheet,I A7.kind,I A7.want,SV.sl (nat_lit 2) A7.pts.n fun(i_2:Nat)=>[I (A7.pts.g i_2).x,I (A7.pts.g i_2).y]]) i_1
 = Bk (A20.g i_1));let A3:=[I A10.id,I A10.colour,I A10.grain,SV.sl (nat_lit 2) A10.ol.n fun(i1:Nat)=>[I (A10.ol.g i1).x,I (A10.ol.g i1).y]];let A2:=(w.n=w.n/\∀(i_1:Nat),let A13:=(E1 w sh i r P i_1);let A30:=[I A13.want,I A13.sheet,I A13.turn,I A13.at_.x,I A13.at_.y];i_1<w.n->A30=A30);let A1:=(w.n=w.n/\∀(i:Nat),let A18:=[I (w.g i).id,I
 (w.g i).colour,I (w.g i).grain,SV.sl A41 (w.g i).ol.n fun(i1:Nat)=>[I ((w.g i).ol.g i1).x,I ((w.g i).ol.g i1).y]];i<w.n->A18=A18);A39/\(∃(t:L.Sq Ah×Az×(Int->Bool)×(Nat->CL)×List BS×Nat×AO×Int),let A46:=(An t.1 t.2.1.grain);let A40:=(∀(x:Int),t.snd.2.1 x=dom x);let A23:=(!Ku t.1 t.2.1.grain t.snd.snd.snd.snd.2.1
 t.snd.snd.snd.snd.snd.2.1 t.snd.snd.snd.snd.snd.2.2);let A22:=(∀(x:Int),t.snd.2.1 x=true->Ad A46 x=Ad A34 x);let A17:=(AZ t.snd.snd.snd.2.1);let A26:=(A17.n=A19.n/\∀(i:Nat),i<A17.n->Bk (A17.g i)=Bk (A19.g i));let A15:=(t.1.g t.snd.snd.snd.snd.2.1);let A11:=(t.1.n=w.n/\∀(i:Nat),let A32:=(t.snd.snd.2.1 i);i<t.1.n -> [I A32.want,I
 A32.sheet,I A32.turn,I A32.at_.x,I A32.at_.y]= [I (P i).want,I (P i).sheet,I (P i).turn,I (P i).at_.x,I (P i).at_.y]);let A8:=(t.1.n=w.n/\∀(i:Nat),let A42:=(t.1.g i);i<t.1.n -> [I A42.id,I A42.colour,I A42.grain,SV.sl A41 A42.ol.n fun(i1:Nat)=>[I (A42.ol.g i1).x,I (A42.ol.g i1).y]]= [I (w.g i).id,I (w.g i).colour,I (w.g i).grain,SV.sl A41 (w.g i).ol.n
 fun(i1:Nat)=>[I ((w.g i).ol.g i1).x,I ((w.g i).ol.g i1).y]]);A44=t.snd.snd.snd.snd.snd.2.2/\SV.ref A3 A37=SV.ref [I A15.id,I A15.colour,I A15.grain,SV.sl A41 A15.ol.n fun(i1:Nat)=>[I (A15.ol.g i1).x,I (A15.ol.g i1).y]] A36/\nat_lit 0=A36/\nat_lit 0=A36/\(w.n=t.1.n/\∀(i:Nat),let A43:=(t.1.g i);i<w.n -> [I (w.g i).id,I (w.g i).colour,I (w.g
 i).grain,SV.sl A41 (w.g i).ol.n fun(i1:Nat)=>[I ((w.g i).ol.g i1).x,I ((w.g i).ol.g i1).y]]= [I A43.id,I A43.colour,I A43.grain,SV.sl A41 A43.ol.n fun(i1:Nat)=>[I (A43.ol.g i1).x,I (A43.ol.g i1).y]])/\sh.grain=t.2.1.grain/\(∀(x:Int),dom x=t.snd.2.1 x)/\(∀(x:Int),dom x=true->Ad A34 x=Ad A46 x)/\nat_lit 0=A36/\sh.id=t.2.1.id /\
 sh.colour=t.2.1.colour/\sh.w=t.2.1.w/\sh.h=t.2.1.h/\sh.grain=t.2.1.grain/\(w.n=t.1.n/\∀(i:Nat),let A33:=(t.snd.snd.2.1 i);i<w.n -> [I (P i).want,I (P i).sheet,I (P i).turn,I (P i).at_.x,I (P i).at_.y]= [I A33.want,I A33.sheet,I A33.turn,I A33.at_.x,I A33.at_.y])/\(A19.n=A17.n/\∀(i:Nat),i<A19.n->Bk (A19.g i)=Bk (A17.g i))/\nat_lit 0=A36 /\
 r.at_.x=t.snd.snd.snd.snd.snd.2.1.at_.x/\r.at_.y=t.snd.snd.snd.snd.snd.2.1.at_.y/\r.size.w=t.snd.snd.snd.snd.snd.2.1.size.w/\r.size.h=t.snd.snd.snd.snd.snd.2.1.size.h/\A15.ol.n<=(1000000:Nat)/\∀(u:Nat),True->(A23=true->∃(g:Nat),(1:Int)=HA w sh.grain i r/\SV.ref A3 A37=SV.ref A3 A37/\nat_lit 0=nat_lit 0/\nat_lit 0=nat_lit 0/\A28=A28
 /\ t.snd.snd.snd.snd.snd.2.1.at_.x=r.at_.x/\t.snd.snd.snd.snd.snd.2.1.at_.y=r.at_.y/\t.snd.snd.snd.snd.snd.2.1.size.w=r.size.w/\t.snd.snd.snd.snd.snd.2.1.size.h=r.size.h/\nat_lit 0=nat_lit 0/\A8/\t.2.1.grain=sh.grain/\A40/\A22/\nat_lit 0=nat_lit 0/\t.2.1.id=sh.id/\t.2.1.colour=sh.colour/\t.2.1.w=sh.w/\t.2.1.h=sh.h/\t.2.1.grain=sh.grain/\A11/\A26/\True) /\
 (A23=false->∃(g:Nat),A44=HA w sh.grain i r/\SV.ref A3 A37=SV.ref A3 A37/\nat_lit 0=nat_lit 0/\nat_lit 0=nat_lit 0/\A28=A28/\t.snd.snd.snd.snd.snd.2.1.at_.x=r.at_.x/\t.snd.snd.snd.snd.snd.2.1.at_.y=r.at_.y/\t.snd.snd.snd.snd.snd.2.1.size.w=r.size.w/\t.snd.snd.snd.snd.snd.2.1.size.h=r.size.h/\nat_lit 0=nat_lit 0/\A8/\t.2.1.grain=sh.grain
 /\ A40/\A22/\nat_lit 0=nat_lit 0/\t.2.1.id=sh.id/\t.2.1.colour=sh.colour/\t.2.1.w=sh.w/\t.2.1.h=sh.h/\t.2.1.grain=sh.grain/\A11/\A26/\True))/\∀(g:Nat),True->((∀(i_1:Nat),let A38:=[I (A10.ol.g i_1).x,I (A10.ol.g i_1).y];i_1<A10.ol.n->A38=A38)/\A10.ol.n<=(1000000:Nat))/\(A39/\T A28<w.n/\∃(g:Nat),nat_lit 0=nat_lit 0/\nat_lit 0=nat_lit 0 /\
 nat_lit 0=nat_lit 0/\A24.w=A4.w/\A24.h=A4.h/\(w.n=w.n/\∀(i_1:Nat),let A25:=(E1 w sh i r P i_1);i_1<w.n->setRow (fun(k:Nat)=>[I (P k).want,I (P k).sheet,I (P k).turn,I (P k).at_.x,I (P k).at_.y]) (T A28) A37 [I A10.id,I sh.id,I A45,I r.at_.x,I r.at_.y] i_1 = [I A25.want,I A25.sheet,I A25.turn,I A25.at_.x,I A25.at_.y])/\r.at_.x=r.at_.x/\r.at_.y =
 r.at_.y/\r.size.w=r.size.w/\r.size.h=r.size.h/\nat_lit 0=nat_lit 0/\A1/\sh.grain=sh.grain/\A14/\A6/\nat_lit 0=nat_lit 0/\sh.id=sh.id/\sh.colour=sh.colour/\sh.w=sh.w/\sh.h=sh.h/\sh.grain=sh.grain/\(A19.n=A19.n/\∀(i:Nat),i<A19.n->Bk (A19.g i)=Bk (A19.g i))/\True)/\∀(g_1:Nat),True->((decide (A4.w<r.size.w)=true->(A35 /\
 ((A19.n+nat_lit 1)*nat_lit 48<=A31/\∃(g:Nat),nat_lit 0=nat_lit 0/\nat_lit 0=nat_lit 0/\nat_lit 0=nat_lit 0/\A21/\A4.w=A4.w/\A4.h=A4.h/\A2/\r.at_.x=r.at_.x/\r.at_.y=r.at_.y/\r.size.w=r.size.w/\r.size.h=r.size.h/\nat_lit 0=nat_lit 0/\A1/\sh.grain=sh.grain/\A14/\A6/\nat_lit 0=nat_lit 0/\sh.id=sh.id/\sh.colour=sh.colour/\sh.w=sh.w/\sh.h =
 sh.h/\sh.grain=sh.grain/\True)/\(A19.n+nat_lit 1)*nat_lit 48<=A31/\∃(g:Nat),nat_lit 0=nat_lit 0/\nat_lit 0=nat_lit 0/\nat_lit 0=nat_lit 0/\A21/\A4.w=A4.w/\A4.h=A4.h/\A2/\r.at_.x=r.at_.x/\r.at_.y=r.at_.y/\r.size.w=r.size.w/\r.size.h=r.size.h/\nat_lit 0=nat_lit 0/\A1/\sh.grain=sh.grain/\A14/\A6/\nat_lit 0=nat_lit 0/\sh.id=sh.id/\sh.colour =
 sh.colour/\sh.w=sh.w/\sh.h=sh.h/\sh.grain=sh.grain/\True)/\∀(g_2:Nat),True->A35/\∃(g:Nat),nat_lit 0=nat_lit 0/\nat_lit 0=nat_lit 0/\nat_lit 0=nat_lit 0/\(A20.n=A9.n/\∀(i_1:Nat),i_1<A20.n->Bk (A20.g i_1)=Bk (A9.g i_1))/\A29.at_.x=A12.at_.x/\A29.at_.y=A12.at_.y/\A29.size.w=A12.size.w/\A29.size.h=A12.size.h/\A4.w=A4.w/\A4.h=A4.h/\A2 /\
 nat_lit 0=nat_lit 0/\A1/\sh.grain=sh.grain/\A14/\A6/\nat_lit 0=nat_lit 0/\sh.id=sh.id/\sh.colour=sh.colour/\sh.w=sh.w/\sh.h=sh.h/\sh.grain=sh.grain/\True)/\(decide (A4.w<r.size.w)=false->∃(g:Nat),nat_lit 0=nat_lit 0/\nat_lit 0=nat_lit 0/\nat_lit 0=nat_lit 0/\(A19.n=A9.n/\∀(i_1:Nat),i_1<A19.n->Bk (A19.g i_1)=Bk (A9.g
 i_1))/\r.at_.x=A12.at_.x/\r.at_.y=A12.at_.y/\r.size.w=A12.size.w/\r.size.h=A12.size.h/\A4.w=A4.w/\A4.h=A4.h/\A2/\nat_lit 0=nat_lit 0/\A1/\sh.grain=sh.grain/\A14/\A6/\nat_lit 0=nat_lit 0/\sh.id=sh.id/\sh.colour=sh.colour/\sh.w=sh.w/\sh.h=sh.h/\sh.grain=sh.grain/\True))/\∀(g:Nat),let A5:=(A9.n+nat_lit 1=A27.n/\∀(i_1:Nat),i_1<A9.n +
 nat_lit 1->Ba A9.n (fun(k:Nat)=>Bk (A9.g k)) (fun(x:Nat)=>[I A16.sheet,I A16.kind,I A16.want,SV.sl (nat_lit 2) A16.pts.n fun(i_2:Nat)=>[I (A16.pts.g i_2).x,I (A16.pts.g i_2).y]]) i_1=Bk (A27.g i_1));True->(decide (A4.h<A12.size.h)=true->(CM A12/\A44<=A4.h/\A4.h<=(4096:Int))/\((A9.n+nat_lit 1)*nat_lit 48<=A31/\∃(u :
 Nat),A1/\sh.grain=sh.grain/\A14/\A6/\nat_lit 0=A36/\sh.id=sh.id/\sh.colour=sh.colour/\sh.w=sh.w/\sh.h=sh.h/\sh.grain=sh.grain/\A2/\A5/\True)/\(A9.n+nat_lit 1)*nat_lit 48<=A31/\∃(u:Nat),A1/\sh.grain=sh.grain/\A14/\A6/\nat_lit 0=A36/\sh.id=sh.id/\sh.colour=sh.colour/\sh.w=sh.w/\sh.h=sh.h/\sh.grain=sh.grain/\A2/\A5/\True) /\
 (decide (A4.h<A12.size.h)=false->∃(u:Nat),A1/\sh.grain=sh.grain/\A14/\A6/\nat_lit 0=A36/\sh.id=sh.id/\sh.colour=sh.colour/\sh.w=sh.w/\sh.h=sh.h/\sh.grain=sh.grain/\A2/\(A9.n=A27.n/\∀(i_1:Nat),i_1<A9.n->Bk (A9.g i_1)=Bk (A27.g i_1))/\True)) (by kernel_rfl) (by
  conv=>zeta
  have hp:i<w.n/\w.n<=4/\(w.g i).ol.n<=1000000/\CM r/\S.length<=1000:=hp;obtain⟨hi,hw4,ho,hA,hS⟩:=hp;have hiw:0<=(i:Int)/\(i:Int)<(w.n:Int):=⟨AdG _,by omega⟩;obtain⟨b1,b2,b3,b4⟩:=dG w sh i r;have hA1:=AbF w sh i hA;have sz:((AZ S).n+1)*48<=140737488355328:=by show(S.length+1)*48<=_;omega
  have sz1:((AZ (EY w sh i r S)).n+1)*48<=140737488355328:=by show((EY w sh i r S).length+1)*48<=_;have:=AbG w sh i r S;omega
  refine⟨hiw,⟨(w,sh,dom,P,S,i,r,0),rfl,rfl,rfl,rfl,⟨rfl,fun _ _=>rfl⟩,rfl,fun _=>rfl,fun _ _=>rfl,rfl,rfl,rfl,rfl,rfl,rfl,⟨rfl,fun _ _=>rfl⟩,⟨rfl,fun _ _=>rfl⟩,rfl,rfl,rfl,rfl,rfl,ho,fun u _=>⟨fun hf=>?_,fun hf=>?_⟩⟩,fun _ _=>⟨⟨fun _ _=>rfl,ho⟩,⟨hiw,hi,(0:Nat),rfl,rfl,rfl,rfl,rfl,⟨rfl,fun j hj=>?_⟩,rfl,rfl,rfl,rfl,rfl,⟨rfl,fun _ _=>rfl⟩,rfl,fun _=>rfl,fun _ _=>rfl,rfl,rfl,rfl,rfl,rfl,rfl,⟨rfl,fun _ _=>rfl⟩,trivial⟩,fun _ _=>⟨⟨fun hc=>⟨?_,fun _ _=>?_⟩,fun hc=>?_⟩,fun _ _=>⟨fun hc=>?_,fun hc=>?_⟩⟩⟩⟩
  ·have hf:Ku w sh.grain i r 0=false:=CV hf;exact⟨(0:Nat),by unfold HA;rw[hf];rfl,rfl,rfl,rfl,rfl,rfl,rfl,rfl,rfl,rfl,⟨rfl,fun _ _=>rfl⟩,rfl,fun _=>rfl,fun _ _=>rfl,rfl,rfl,rfl,rfl,rfl,rfl,⟨rfl,fun _ _=>rfl⟩,⟨rfl,fun _ _=>rfl⟩,trivial⟩
  ·have hf:Ku w sh.grain i r 0=true:=Cl hf;exact⟨(0:Nat),by unfold HA;rw[hf];rfl,rfl,rfl,rfl,rfl,rfl,rfl,rfl,rfl,rfl,⟨rfl,fun _ _=>rfl⟩,rfl,fun _=>rfl,fun _ _=>rfl,rfl,rfl,rfl,rfl,rfl,rfl,⟨rfl,fun _ _=>rfl⟩,⟨rfl,fun _ _=>rfl⟩,trivial⟩
  ·unfold setRow E1 dF
   by_cases e:j=i
   ·subst e;rw[if_pos rfl,if_pos (show j=Ad6 (j:Int)from rfl)];try rfl
   ·rw[if_neg e,if_neg (show ¬ j=Ad6 (i:Int)from e)]
  ·repeat' with_reducible apply And.intro
   all_goals first|exact hA|exact b1|exact b2|exact sz|exact⟨(0:Nat),rfl,rfl,rfl,QP rfl rfl,rfl,rfl,⟨rfl,fun _ _=>rfl⟩,rfl,rfl,rfl,rfl,rfl,⟨rfl,fun _ _=>rfl⟩,rfl,fun _=>rfl,fun _ _=>rfl,rfl,rfl,rfl,rfl,rfl,rfl,trivial⟩
  ·have e1:EY w sh i r S=Cn S (BX r sh.id true (Dq w sh i r).w):=by unfold EY;rw[hc];rfl
   have e2:Fk w sh i r=CA r true (Dq w sh i r).w:=by unfold Fk;rw[hc];rfl
   rw[e1,e2];exact⟨⟨hA,b1,b2⟩,(0:Nat),rfl,rfl,rfl,⟨rfl,fun _ _=>rfl⟩,rfl,rfl,rfl,rfl,rfl,rfl,⟨rfl,fun _ _=>rfl⟩,rfl,⟨rfl,fun _ _=>rfl⟩,rfl,fun _=>rfl,fun _ _=>rfl,rfl,rfl,rfl,rfl,rfl,rfl,trivial⟩
  ·have e1:EY w sh i r S=S:=by unfold EY;rw[hc];rfl
   have e2:Fk w sh i r=r:=by unfold Fk;rw[hc];rfl
   rw[e1,e2];exact⟨(0:Nat),rfl,rfl,rfl,⟨rfl,fun _ _=>rfl⟩,rfl,rfl,rfl,rfl,rfl,rfl,⟨rfl,fun _ _=>rfl⟩,rfl,⟨rfl,fun _ _=>rfl⟩,rfl,fun _=>rfl,fun _ _=>rfl,rfl,rfl,rfl,rfl,rfl,rfl,trivial⟩
  ·have e1:Cn (EY w sh i r S) (BX (Fk w sh i r) sh.id false (Dq w sh i r).h)=Fz w sh i r S:=by unfold Fz;rw[hc];rfl
   repeat' with_reducible apply And.intro
   all_goals first|exact hA1|exact b3|exact b4|exact sz1|exact⟨(0:Nat),⟨rfl,fun _ _=>rfl⟩,rfl,fun _=>rfl,fun _ _=>rfl,rfl,rfl,rfl,rfl,rfl,rfl,⟨rfl,fun _ _=>rfl⟩,QP e1 rfl,trivial⟩
  ·have e1:EY w sh i r S=Fz w sh i r S:=by unfold Fz;rw[hc];rfl
   exact⟨(0:Nat),⟨rfl,fun _ _=>rfl⟩,rfl,fun _=>rfl,fun _ _=>rfl,rfl,rfl,rfl,rfl,rfl,rfl,⟨rfl,fun _ _=>rfl⟩,AbE e1,trivial⟩)
theorem AbX:Ao Tryz.prog 145:=fun args w=>by kernel_rfl
theorem AbY:Du Tryz.prog 145 Kw:=Gf (n:=3) Tryz.func145 (c:=Af Tryz.f145) (by kernel_rfl) mixed ⟨fun t=>rfl,fun t=>rfl,fun t u=>rfl,fun t u=>rfl,fun t u=>rfl,fun t u=>⟨rfl,rfl⟩,by kernel_rfl,by kernel_rfl⟩ (fun⟨w,sh,dom,P,S,i,r⟩ hp=>⟨_,AbW w sh dom P S i r hp,⟨show Aa Tryz.prog _ from(Aa.cons Qg Qh (Aa.cons dX dY (Aa.cons dK dL Aa.nil))),rfl,⟨show Ae Tryz.prog _ from Ae.nil,⟨show Dv Tryz.prog _ from(Dv.cons AbV AbU Dv.nil),⟨FV.no1 (fun _=>rfl),FamsOk.none (fun _=>rfl)⟩⟩⟩⟩⟩)
def CC (w:L.Sq Ah) (gr g:Int) (r:AO) (k j:Nat):Bool:=bif D0 w gr (Aq g k) (CA r (AV r j) (AQ r j)).size then D0 w gr (Br g k) (E0 r (AV r j) (AQ r j)).size else false
def NL (w:L.Sq Ah) (gr g:Int) (r:AO) (p:Int) (up:Bool) (by_:Int):Bool:=bif D0 w gr p (CA r up by_).size then D0 w gr (Dj g p) (E0 r up by_).size else false
def EG (w:L.Sq Ah) (gr g:Int) (r:AO):Option (Nat×Nat):=(Adu (AJ g)).findSome? fun k=>((Adu (Bx r)).find? (CC w gr g r k)).map fun j=>(k,j)
def EH (w:L.Sq Ah) (sh:Az):Nat->Int->AO->Gp->Gp
 |0,_,_,s=>s
 |n+1,g,r,s=>if g=0 then s else if Cr g=true then⟨E1 w sh (Bj g) r s.pl,Fz w sh (Bj g) r s.sc⟩else match EG w sh.grain g r with
   |none=>s
   |some (k,j)=>EH w sh n (Br g k) (E0 r (AV r j) (AQ r j)) (EH w sh n (Aq g k) (CA r (AV r j) (AQ r j)) ⟨s.pl,Cn s.sc (BX r sh.id (AV r j) (AQ r j))⟩)
def EI (w:L.Sq Ah) (sh:Az) (g:Int) (r:AO) (s:Gp):Gp:=EH w sh 16 g r s
def Dr (w:L.Sq Ah) (sh:Az) (g:Int) (r:AO) (P:Nat->CL) (S:List BS):Nat->CL:=(EI w sh g r ⟨P,S⟩).pl
def DY (w:L.Sq Ah) (sh:Az) (g:Int) (r:AO) (P:Nat->CL) (S:List BS):List BS:=(EI w sh g r ⟨P,S⟩).sc
theorem QT {w:L.Sq Ah} {gr g:Int} {r:AO} {k j:Nat} (h:EG w gr g r=some (k,j)):k<AJ g/\j<Bx r/\CC w gr g r k j=true:=by
 unfold EG at h;obtain⟨k',h1,h2⟩:=List.exists_of_findSome?_eq_some h;cases h3:(Adu (Bx r)).find? (CC w gr g r k')with
 |none=>rw[h3]at h2;cases h2
 |some j' =>
   rw[h3]at h2;simp only[Aej,Option.some.injEq,Prod.mk.injEq]at h2;obtain⟨rfl,rfl⟩:=h2;exact⟨Adz.1 h1,Adz.1 (List.mem_of_find?_eq_some h3),List.find?_some h3⟩
theorem AbZ {w:L.Sq Ah} {gr g:Int} {r:AO} {k j:Nat} (hk:k<AJ g) (hj:j<Bx r) (h:CC w gr g r k j=true) (h1:∀k',k'<k->∀j',j'<Bx r->CC w gr g r k' j'=false) (h2:∀j',j'<j->CC w gr g r k j'=false):EG w gr g r=some (k,j):=by
 cases hf:EG w gr g r with
 |none =>
   unfold EG at hf;have:=Aey.1 hf k (Adz.2 hk);rw[Ae4,AeE]at this;exact absurd h (this j (Adz.2 hj))
 |some x =>
   obtain⟨k',j'⟩:=x
   -- the first one
   have hfirst:∀n,(Adu n).findSome? (fun k=>((Adu (Bx r)).find? (CC w gr g r k)).map fun j=>(k,j))=some (k',j')->k<n->k'=k/\j'=j:=fun n=>by
    induction n with
    |zero=>intro _ h;omega
    |succ n ih =>
      intro hh hlt;rw[List.range_succ,List.findSome?_append]at hh
      by_cases hkn:k<n
      ·have e : ((Adu n).findSome? (fun k =>((Adu (Bx r)).find? (CC w gr g r k)).map fun j =>(k, j)))≠none :=fun e =>by
        have:=Aey.1 e k (Adz.2 hkn);rw[Ae4,AeE]at this;exact absurd h (this j (Adz.2 hj))
       obtain⟨y,hy⟩:=Option.ne_none_iff_exists'.1 e;rw[hy]at hh;simp only[Option.some_or,Option.some.injEq]at hh;rw[hh]at hy;exact ih hy hkn
      ·obtain rfl:k=n:=by omega
       have e:((Adu k).findSome? (fun k=>((Adu (Bx r)).find? (CC w gr g r k)).map fun j=>(k,j)))=none:=Aey.2 fun k2 hk2=>by
        rw[Ae4,AeE];intro j2 hj2;rw[h1 k2 (Adz.1 hk2) j2 (Adz.1 hj2)];decide
       rw[e]at hh;simp only[Option.none_or,List.findSome?_cons,List.findSome?_nil]at hh;cases h3:(Adu (Bx r)).find? (CC w gr g r k)with
       |none=>rw[h3]at hh;cases hh
       |some j2 =>
         rw[h3]at hh;simp only[Aej,Option.some.injEq,Prod.mk.injEq]at hh;obtain⟨rfl,rfl⟩:=hh;refine⟨rfl,?_⟩;have h5:=List.find?_some h3;rw[List.find?_range_eq_some]at h3;obtain⟨_,_,h4⟩:=h3;rcases Nat.lt_trichotomy j2 j with h6|h6|h6
         ·rw[h2 j2 h6]at h5;cases h5
         ·exact h6
         ·have:=h4 j h6;rw[h]at this;cases this
   obtain⟨rfl,rfl⟩:=hfirst (AJ g) hf hk;rfl
theorem Aca {w:L.Sq Ah} {gr g:Int} {r:AO} (h1:∀k,k<AJ g->∀j,j<Bx r->CC w gr g r k j=false):EG w gr g r=none:=Aey.2 fun k hk=>by
 rw[Ae4,AeE];intro j hj;rw[h1 k (Adz.1 hk) j (Adz.1 hj)];decide
theorem dZ {r:AO} (h:CM r) {j:Nat} (hj:j<Bx r):1<=AQ r j/\AQ r j<4096/\(AV r j=true->AQ r j<r.size.w)/\(AV r j=false->AQ r j<r.size.h):=by
 obtain⟨h1,h2,h3,h4,h5,h6⟩:=h;have eW:BY r=(r.size.w-1).toNat:=rfl;have eN:Bx r=(r.size.w-1).toNat+(r.size.h-1).toNat:=rfl
 by_cases hl:j<BY r
 ·have e:AV r j=true:=decide_eq_true hl;unfold AQ;rw[e,cond_true];refine⟨by omega,by omega,fun _=>by omega,(fun h=>by cases h)⟩
 ·have e:AV r j=false:=decide_eq_false hl;unfold AQ;rw[e,cond_false];refine⟨by omega,by omega,(fun h=>by cases h),fun _=>by omega⟩
theorem Acb {r:AO} (h:CM r) {j:Nat} (hj:j<Bx r):CM (CA r (AV r j) (AQ r j))/\CM (E0 r (AV r j) (AQ r j)):=by
 obtain⟨b1,b2,b3,b4⟩:=dZ h hj;obtain⟨h1,h2,h3,h4,h5,h6⟩:=h;cases e:AV r j with
 |true =>
   have:=b3 e;unfold CA E0 CM;simp only[cond_true];refine⟨⟨h1,h2,?_,h4,?_,h6⟩,?_,h2,?_,h4,?_,h6⟩<;>omega
 |false =>
   have:=b4 e;unfold CA E0 CM;simp only[cond_false];refine⟨⟨h1,h2,h3,?_,h5,?_⟩,h1,?_,h3,?_,h5,?_⟩<;>omega
theorem NM (w:L.Sq Ah) (sh:Az):∀(n m:Nat) (g:Int) (r:AO) (s:Gp),0<=g->g<=15->g<n->g<m->EH w sh n g r s=EH w sh m g r s
 |0,_,g,r,s,h0,h15,h,_=>by omega
 |n+1,0,g,r,s,h0,h15,_,h=>by omega
 |n+1,m+1,g,r,s,h0,h15,h,h'=>by
   rw[EH,EH]
   by_cases e:g=0
   ·rw[if_pos e,if_pos e]
   ·rw[if_neg e,if_neg e];cases h1:Cr g with
    |true=>rfl
    |false =>
      rw[if_neg (by decide),if_neg (by decide)];cases hd:EG w sh.grain g r with
      |none=>rfl
      |some x =>
        obtain⟨k,j⟩:=x;obtain⟨p1,p2,p3,p4,_⟩:=(Iq (show 1<=g by omega) h15 h1).2 k (QT hd).1;simp only;rw[NM w sh n m (Aq g k) _ _ (by omega) (by omega) (by omega) (by omega),NM w sh n m (Br g k) _ _ (by omega) (by omega) (by omega) (by omega)]
theorem Acd (w:L.Sq Ah) (sh:Az) (r:AO) (s:Gp):EI w sh 0 r s=s:=by unfold EI;rw[EH,if_pos rfl]
theorem Ace (w:L.Sq Ah) (sh:Az) {g:Int} (r:AO) (s:Gp) (h:1<=g) (h1:Cr g=true):EI w sh g r s=⟨E1 w sh (Bj g) r s.pl,Fz w sh (Bj g) r s.sc⟩:=by
 unfold EI;rw[EH,if_neg (by omega),if_pos h1]
theorem Acf (w:L.Sq Ah) (sh:Az) {g:Int} {r:AO} (s:Gp) (h:1<=g) (h1:Cr g=false) (hd:EG w sh.grain g r=none):EI w sh g r s=s:=by
 unfold EI;rw[EH,if_neg (by omega),if_neg (by rw[h1];decide),hd]
theorem Acg (w:L.Sq Ah) (sh:Az) {g:Int} {r:AO} (s:Gp) (h:1<=g) (h15:g<=15) (h1:Cr g=false) {k j:Nat} (hd:EG w sh.grain g r=some (k,j)) :
  EI w sh g r s=EI w sh (Br g k) (E0 r (AV r j) (AQ r j)) (EI w sh (Aq g k) (CA r (AV r j) (AQ r j)) ⟨s.pl,Cn s.sc (BX r sh.id (AV r j) (AQ r j))⟩):=by
 obtain⟨p1,p2,p3,p4,_⟩:=(Iq h h15 h1).2 k (QT hd).1;have e:EI w sh g r s=EH w sh (15+1) g r s:=rfl;rw[e,EH,if_neg (by omega),if_neg (by rw[h1];decide),hd];simp only;rw[NM w sh 15 16 (Aq g k) _ _ (by omega) (by omega) (by omega) (by omega),NM w sh 15 16 (Br g k) _ _ (by omega) (by omega) (by omega) (by omega)];rfl
theorem Ach (w:L.Sq Ah) (sh:Az) (i:Nat) (r:AO) (S:List BS):(Fz w sh i r S).length<=S.length+2:=by
 unfold Fz EY;cases decide ((Dq w sh i r).w<r.size.w)<;>cases decide ((Dq w sh i r).h<(Fk w sh i r).size.h)<;>simp[LM]
theorem QU (w:L.Sq Ah) (sh:Az):∀(n:Nat) (g:Int) (r:AO) (s:Gp),0<=g->g<=15->g<n->(EH w sh n g r s).sc.length<=s.sc.length+(3*g-1).toNat
 |0,g,r,s,h0,h15,h=>by omega
 |n+1,g,r,s,h0,h15,h=>by
   rw[EH]
   by_cases e:g=0
   ·rw[if_pos e];omega
   ·rw[if_neg e];cases h1:Cr g with
    |true =>
      rw[if_pos rfl];have:=Ach w sh (Bj g) r s.sc;simp only;omega
    |false =>
      rw[if_neg (by decide)];cases hd:EG w sh.grain g r with
      |none=>simp only;omega
      |some x =>
        obtain⟨k,j⟩:=x;obtain⟨p1,p2,p3,p4,p5⟩:=(Iq (show 1<=g by omega) h15 h1).2 k (QT hd).1;simp only;have b1:=QU w sh n (Aq g k) (CA r (AV r j) (AQ r j)) ⟨s.pl,Cn s.sc (BX r sh.id (AV r j) (AQ r j))⟩ (by omega) (by omega) (by omega);have b2:=QU w sh n (Br g k) (E0 r (AV r j) (AQ r j)) (EH w sh n (Aq g k) (CA r (AV r j) (AQ r j)) ⟨s.pl,Cn s.sc (BX r sh.id (AV r j) (AQ r j))⟩) (by omega) (by omega) (by omega);simp only[LM]at b1;omega
theorem Aci (w:L.Sq Ah) (sh:Az) (g:Int) (r:AO) (s:Gp) (h0:0<=g) (h15:g<=15):(EI w sh g r s).sc.length<=s.sc.length+(3*g-1).toNat:=QU w sh 16 g r s h0 h15 (by omega)
theorem Acj (w:L.Sq Ah) (sh:Az) (r:AO) (P:Nat->CL) (S:List BS):Dr w sh 0 r P S=P/\DY w sh 0 r P S=S:=by unfold Dr DY;rw[Acd];exact⟨rfl,rfl⟩
theorem Ack (w:L.Sq Ah) (sh:Az) {g:Int} (r:AO) (P:Nat->CL) (S:List BS) (h:1<=g) (h1:Cr g=true):Dr w sh g r P S=E1 w sh (Bj g) r P/\DY w sh g r P S=Fz w sh (Bj g) r S:=by
 unfold Dr DY;rw[Ace w sh r _ h h1];exact⟨rfl,rfl⟩
theorem Acl (w:L.Sq Ah) (sh:Az) {g:Int} {r:AO} (P:Nat->CL) (S:List BS) (h:1<=g) (h1:Cr g=false) (hd:EG w sh.grain g r=none):Dr w sh g r P S=P/\DY w sh g r P S=S:=by
 unfold Dr DY;rw[Acf w sh _ h h1 hd];exact⟨rfl,rfl⟩
theorem Acm (w:L.Sq Ah) (sh:Az) {g:Int} {r:AO} (P:Nat->CL) (S:List BS) (h:1<=g) (h15:g<=15) (h1:Cr g=false) {k j:Nat} (hd:EG w sh.grain g r=some (k,j)) :
  Dr w sh g r P S=Dr w sh (Br g k) (E0 r (AV r j) (AQ r j)) (Dr w sh (Aq g k) (CA r (AV r j) (AQ r j)) P (Cn S (BX r sh.id (AV r j) (AQ r j)))) (DY w sh (Aq g k) (CA r (AV r j) (AQ r j)) P (Cn S (BX r sh.id (AV r j) (AQ r j)))) /\
  DY w sh g r P S=DY w sh (Br g k) (E0 r (AV r j) (AQ r j)) (Dr w sh (Aq g k) (CA r (AV r j) (AQ r j)) P (Cn S (BX r sh.id (AV r j) (AQ r j)))) (DY w sh (Aq g k) (CA r (AV r j) (AQ r j)) P (Cn S (BX r sh.id (AV r j) (AQ r j)))):=by
 unfold Dr DY;rw[Acg w sh _ h h15 h1 hd];dsimp only;generalize EI w sh (Aq g k) (CA r (AV r j) (AQ r j)) _=X;cases X;exact⟨rfl,rfl⟩
theorem Acn (w:L.Sq Ah) (sh:Az) (g:Int) (r:AO) (P:Nat->CL) (S:List BS) (h0:0<=g) (h15:g<=15):(DY w sh g r P S).length<=S.length+(3*g-1).toNat:=Aci w sh g r ⟨P,S⟩ h0 h15
section
attribute [local irreducible] Aq Dj Em FM Bw EH EI D0 An BU E1 Fz Bj AJ EG
abbrev Is:Mk:={ T:=(L.Sq Ah)×(Az)×(Int->Bool)×(Nat->CL)×(List BS)×(Int)×(AO),U:=Int->Bool,args:=fun t=>(fun w sh dom P S g r=>[.loc 1002 0,.p (.int .i64 g),.p ((.agg [.int .i64 r.at_.x,.int .i64 r.at_.y,.int .i64 r.size.w,.int .i64 r.size.h]))]) t.1 t.2.1 t.2.2.1 t.2.2.2.1 t.2.2.2.2.1 t.2.2.2.2.2.1 t.2.2.2.2.2.2,lkeys:=[1000,1001,1002,1003,1004],keys:=[],lent:=fun t=>(fun w sh dom P S g r=>[(1000,.blk 172 [.p ((.sl 4 w.n (fun i=>[.int .i64 ((w.g i).id),.int .i64 ((w.g i).colour),.int .i64 ((w.g i).grain),.sl 2 (w.g i).ol.n (fun i1=>[.int .i64 (((w.g i).ol.g i1).x),.int .i64 (((w.g i).ol.g i1).y)])]))),.p (.int .i64 sh.grain),.mapv 1001]),(1001,.mq 3 64 dom (Ad (An w sh.grain))),(1002,.blk 105 [.loc 1000 0,.p (.int .i64 sh.id),.p (.int .i64 sh.colour),.p (.int .i64 sh.w),.p (.int .i64 sh.h),.p (.int .i64 sh.grain),.row 1003,.row 1004]),(1003,.row 75 5 w.n (fun k=>[.int .i64 ((P k).want),.int .i64 ((P k).sheet),.int .i64 ((P k).turn),.int .i64 ((P k).at_.x),.int .i64 ((P k).at_.y)])),(1004,.row 96 4 (AZ (S)).n (fun k=>Bk ((AZ (S)).g k)))]) t.1 t.2.1 t.2.2.1 t.2.2.2.1 t.2.2.2.2.1 t.2.2.2.2.2.1 t.2.2.2.2.2.2,pre:=fun t=>(fun w sh dom P S g r=>Cs w/\0<=g/\g<=Bw w.n/\CM r/\(AZ S).n+3*g.toNat<=1000) t.1 t.2.1 t.2.2.1 t.2.2.2.1 t.2.2.2.2.1 t.2.2.2.2.2.1 t.2.2.2.2.2.2,post:=fun t u=>(fun w sh dom P S g r=>fun u=>True) t.1 t.2.1 t.2.2.1 t.2.2.2.1 t.2.2.2.2.1 t.2.2.2.2.2.1 t.2.2.2.2.2.2 u,lent':=fun t u=>(fun w sh dom P S g r=>fun u=>[(1000,.blk 172 [.p ((.sl 4 w.n (fun i=>[.int .i64 ((w.g i).id),.int .i64 ((w.g i).colour),.int .i64 ((w.g i).grain),.sl 2 (w.g i).ol.n (fun i1=>[.int .i64 (((w.g i).ol.g i1).x),.int .i64 (((w.g i).ol.g i1).y)])]))),.p (.int .i64 sh.grain),.mapv 1001]),(1001,.mq 3 64 u (Ad (An w sh.grain))),(1002,.blk 105 [.loc 1000 0,.p (.int .i64 sh.id),.p (.int .i64 sh.colour),.p (.int .i64 sh.w),.p (.int .i64 sh.h),.p (.int .i64 sh.grain),.row 1003,.row 1004]),(1003,.row 75 5 w.n (fun k=>[.int .i64 (((Dr w sh g r P S) k).want),.int .i64 (((Dr w sh g r P S) k).sheet),.int .i64 (((Dr w sh g r P S) k).turn),.int .i64 (((Dr w sh g r P S) k).at_.x),.int .i64 (((Dr w sh g r P S) k).at_.y)])),(1004,.row 96 4 (AZ (DY w sh g r P S)).n (fun k=>Bk ((AZ (DY w sh g r P S)).g k)))]) t.1 t.2.1 t.2.2.1 t.2.2.2.1 t.2.2.2.2.1 t.2.2.2.2.2.1 t.2.2.2.2.2.2 u,own:=fun t u=>(fun w sh dom P S g r=>fun u=>[]) t.1 t.2.1 t.2.2.1 t.2.2.2.1 t.2.2.2.2.1 t.2.2.2.2.2.1 t.2.2.2.2.2.2 u,res:=fun t u=>(fun w sh dom P S g r=>fun u=>.p (.tup [])) t.1 t.2.1 t.2.2.1 t.2.2.2.1 t.2.2.2.2.1 t.2.2.2.2.2.1 t.2.2.2.2.2.2 u,mv:=some (1004,80) }
abbrev eD:Is.T->Nat:=fun t=>(fun w sh dom P S g r=>g.toNat) t.1 t.2.1 t.2.2.1 t.2.2.2.1 t.2.2.2.2.1 t.2.2.2.2.2.1 t.2.2.2.2.2.2
theorem Aco (rn:Nat) (w:L.Sq Ah) (sh:Az) (dom:Int->Bool) (P:Nat->CL) (S:List BS) (g:Int) (r:AO) (hp:Is.pre (w,sh,dom,P,S,g,r)) (hmu:g.toNat<rn+1):vc Tryz.prog ({ muts:=[3],frz:=BH [],specs:=AF [(116,Q6),(146,dP),(147,QQ),(148,QS)],loops:=AY [(4,{ T:=Nat,keep:=[3,4,5],keepO:=[3,80,1000,1001,1002,1003],chg:=fun i=>[(6,.p (.int .i64 (i:Int)))],own:=fun _=>[],inv:=fun i=>i<=Bj g,mu:=fun i=>Bj g-i })],iters:=B6 [(156,Q5),(184,dT)],rfs:=AU [(8,{ T:=Int->Bool,keep:=[3,4,5],keepO:=[3,80,1000,1002,1003],own:=fun _ d=>[(1001,.mq 3 64 d (Ad (An w sh.grain)))],inv:=fun k _=>k<=AJ g/\∀k1,k1<k->∀j,j<Bx r->CC w sh.grain g r k1 j=false }),(10,{ T:=(Int->Bool)×Nat,keep:=[3,4,5,7,31],keepO:=[3,7,80,1000,1002,1003],own:=fun _ t=>[(1001,.mq 3 64 t.1 (Ad (An w sh.grain)))],inv:=fun j t=>j<=Bx r/\t.2<AJ g/\∀j1,j1<j->CC w sh.grain g r t.2 j1=false,tie:=fun t=>[(31,.int .i64 (Aq g t.2))] })],nils:=BD [],mks:=EA [(99,Jh),(145,Kw),(100,Mk.lt Is eD rn)],ren:=fun k=>if k=1004 then 80 else k,joins:=AY [(14,{ T:=(Int->Bool)×Bool×Int×Bool×Int,keep:=[3,4,5,7,8,9,10,11,31],keepO:=[3,7,10,11,80,1000,1002,1003],chg:=fun t=>[(62,.p (.bool t.2.1))],own:=fun t=>[(1001,.mq 3 64 t.1 (Ad (An w sh.grain)))],inv:=fun t=>t.2.1=NL w sh.grain g r t.2.2.1 t.2.2.2.1 t.2.2.2.2,mu:=fun _=>0,tie:=fun t=>[(8,.bool t.2.2.2.1),(9,.int .i64 t.2.2.2.2),(31,.int .i64 t.2.2.1)] }),(15,{ T:=Bool×Int,keep:=[3,4,5,7,8,9,10,11,31],keepO:=[3,7,10,11,1000,1001,1002,1003],chg:=fun _=>[],own:=fun t=>[(80,.row 96 4 (AZ ((Cn S (BX r sh.id t.1 t.2)))).n (fun k=>Bk ((AZ ((Cn S (BX r sh.id t.1 t.2)))).g k)))],inv:=fun _=>True,mu:=fun _=>0,tie:=fun t=>[(8,.bool t.1),(9,.int .i64 t.2)] })],anys:=[1013,1014],rek:=Ma [(1,[(1004,80)])] }) (Af Tryz.f100) (D3 Tryz.f100 (Is.args (w,sh,dom,P,S,g,r)) (Is.lent (w,sh,dom,P,S,g,r))) (FD Tryz.prog Tryz.f100 Is (w,sh,dom,P,S,g,r)):=
 @Eq.mpr _ (let I:=SV.int .i64;let T:=Ad6;let A68:=(1:Nat);let A67:=(1000:Nat);let A65:=(140737488355328:Nat);let A54:=(1:Int);let A34:=(0:Int);let A29:=(nat_lit 7);let A27:=(0:Nat);let A26:=(nat_lit 31);let A25:=(2:Nat);let A22:=(AZ S);let A19:=(AZ (DY w sh g r P S));let A33:=(A22.n=A19.n/\∀(i:Nat),i<A22.n->Bk (A22.g i)=Bk (A19.g i));let A16:=(w.n=w.n/\∀(i:Nat),let A30:=(Dr w sh g r P S i);i<w.n -> [I (P i).want,I (P i).sheet,I (P i).turn,I (P i).at_.x,I (P i).at_.y]= [I A30.want,I A30.sheet,I A30.turn,I A30.at_.x,I A30.at_.y]);let A15:=(nat_lit 0);let A13:=(nat_lit 3);let A12:=(nat_lit 4);let A11:=(nat_lit 5);let A9:=(An w sh.grain);let A24:=(∀(x:Int),dom x=true->Ad A9 x=Ad A9 x);let A6:=(A22.n=A22.n/\∀(i:Nat),i<A22.n->Bk (A22.g i)=Bk (A22.g i));let A5:=[I r.at_.x,I r.at_.y,I r.size.w,I r.size.h];let A2:=(w.n=w.n/\∀(i:Nat),let A35:=[I (P i).want,I (P i).sheet,I (P i).turn,I (P i).at_.x,I (P i).at_.y];i<w.n->A35=A35);let A1:=(w.n=w.n/\∀(i:Nat),let A21:=[I (w.g i).id,I (w.g i).colour,I (w.g i).grain,SV.sl A25 (w.g i).ol.n fun(i1:Nat)=>[I ((w.g i).ol.g i1).x,I ((w.g i).ol.g i1).y]];i<w.n->A21=A21);(decide (g=A34)=true->∃(u:Int->Bool),A1/\sh.grain=sh.grain/\(∀(x:Int),dom x=u x)/\A24/\nat_lit 0=A27/\sh.id=sh.id/\sh.colour=sh.colour/\sh.w=sh.w/\sh.h=sh.h/\sh.grain=sh.grain/\A16/\A33/\True)/\(decide (g=A34)=false->Ac .i64 (g-A54)/\(decide (Em g (g-A54)=A34)=true->(∃(g_1:Nat),A34=(↑g_1:Int)/\g_1<=Bj g)/\∀(g_1:Nat),let A41:=(↑g_1:Int);g_1<=Bj g->A34<=A41/\(decide (A54<FN g A41)=true->Ac .i64 (A41+A54)/\∃(g':Nat),A41+A54=(↑g':Int)/\SV.ref A5 A15=SV.ref A5 A15/\SV.ref [I g] A15=SV.ref [I g] A15/\nat_lit 0=nat_lit 0/\nat_lit 0=nat_lit 0/\A1/\sh.grain=sh.grain/\(∀(x:Int),dom x=dom x)/\A24/\nat_lit 0=nat_lit 0/\sh.id=sh.id/\sh.colour=sh.colour/\sh.w=sh.w/\sh.h=sh.h/\sh.grain=sh.grain/\A2/\A6/\g'<=Bj g/\Bj g-g'<Bj g-g_1)/\(decide (A54<FN g A41)=false->∃(t:L.Sq Ah×Az×(Int->Bool)×(Nat->CL)×List BS×Nat×AO),let A61:=(An t.1 t.2.1.grain);let A44:=(AZ t.snd.snd.snd.2.1);let A20:=(AZ (Fz t.1 t.2.1 t.snd.snd.snd.snd.2.1 t.snd.snd.snd.snd.2.2 t.snd.snd.snd.2.1));nat_lit 0=A27/\A41=(↑t.snd.snd.snd.snd.2.1:Int)/\SV.agg A5=SV.agg [I t.snd.snd.snd.snd.2.2.at_.x,I t.snd.snd.snd.snd.2.2.at_.y,I t.snd.snd.snd.snd.2.2.size.w,I t.snd.snd.snd.snd.2.2.size.h]/\(w.n=t.1.n/\∀(i:Nat),let A55:=(t.1.g i);i<w.n -> [I (w.g i).id,I (w.g i).colour,I (w.g i).grain,SV.sl A25 (w.g i).ol.n fun(i1:Nat)=>[I ((w.g i).ol.g i1).x,I ((w.g i).ol.g i1).y]]= [I A55.id,I A55.colour,I A55.grain,SV.sl A25 A55.ol.n fun(i1:Nat)=>[I (A55.ol.g i1).x,I (A55.ol.g i1).y]])/\sh.grain=t.2.1.grain/\(∀(x:Int),dom x=t.snd.2.1 x)/\(∀(x:Int),dom x=true->Ad A9 x=Ad A61 x)/\nat_lit 0=A27/\sh.id=t.2.1.id/\sh.colour=t.2.1.colour/\sh.w=t.2.1.w/\sh.h=t.2.1.h/\sh.grain=t.2.1.grain/\(w.n=t.1.n/\∀(i:Nat),let A37:=(t.snd.snd.2.1 i);i<w.n -> [I (P i).want,I (P i).sheet,I (P i).turn,I (P i).at_.x,I (P i).at_.y]= [I A37.want,I A37.sheet,I A37.turn,I A37.at_.x,I A37.at_.y])/\(A22.n=A44.n/\∀(i:Nat),i<A22.n->Bk (A22.g i)=Bk (A44.g i))/\(t.snd.snd.snd.snd.2.1<t.1.n/\t.1.n<=(4:Nat)/\(t.1.g t.snd.snd.snd.snd.2.1).ol.n<=(1000000:Nat)/\CM t.snd.snd.snd.snd.2.2/\A44.n<=A67)/\∀(u:Nat),True->∃(u:Int->Bool),(t.1.n=w.n/\∀(i:Nat),let A56:=(t.1.g i);i<t.1.n -> [I A56.id,I A56.colour,I A56.grain,SV.sl A25 A56.ol.n fun(i1:Nat)=>[I (A56.ol.g i1).x,I (A56.ol.g i1).y]]= [I (w.g i).id,I (w.g i).colour,I (w.g i).grain,SV.sl A25 (w.g i).ol.n fun(i1:Nat)=>[I ((w.g i).ol.g i1).x,I ((w.g i).ol.g i1).y]])/\t.2.1.grain=sh.grain/\(∀(x:Int),t.snd.2.1 x=u x)/\(∀(x:Int),t.snd.2.1 x=true->Ad A61 x=Ad A9 x)/\nat_lit 0=A27/\t.2.1.id=sh.id/\t.2.1.colour=sh.colour/\t.2.1.w=sh.w/\t.2.1.h=sh.h/\t.2.1.grain=sh.grain/\(t.1.n=w.n/\∀(i:Nat),let A31:=(Dr w sh g r P S i);let A14:=(E1 t.1 t.2.1 t.snd.snd.snd.snd.2.1 t.snd.snd.snd.snd.2.2 t.snd.snd.2.1 i);i<t.1.n -> [I A14.want,I A14.sheet,I A14.turn,I A14.at_.x,I A14.at_.y]= [I A31.want,I A31.sheet,I A31.turn,I A31.at_.x,I A31.at_.y])/\(A20.n=A19.n/\∀(i:Nat),i<A20.n->Bk (A20.g i)=Bk (A19.g i))/\True))/\(decide (Em g (g-A54)=A34)=false->True/\((A34<=g/\g<=(15:Int))/\∃(t:Int->Bool),(∀(x:Int),dom x=t x)/\A24/\nat_lit 0=nat_lit 0/\A1/\sh.grain=sh.grain/\nat_lit 0=nat_lit 0/\sh.id=sh.id/\sh.colour=sh.colour/\sh.w=sh.w/\sh.h=sh.h/\sh.grain=sh.grain/\A2/\A6/\A27<=AJ g/\∀(k1:Nat),k1<A27->∀(j:Nat),j<Bx r->CC w sh.grain g r k1 j=false)/\(∀(k:Nat) (t:Int->Bool) (vk:Nat->Go.Value),k<AJ g->(k<=AJ g/\∀(k1:Nat),k1<k->∀(j:Nat),j<Bx r->CC w sh.grain g r k1 j=false)->True/\(CM r/\∃(t_1:(Int->Bool)×Nat),(∀(x:Int),t x=t_1.1 x)/\(∀(x:Int),t x=true->Ad A9 x=Ad A9 x)/\Aq g k=Aq g k/\nat_lit 0=nat_lit 0/\A1/\sh.grain=sh.grain/\nat_lit 0=nat_lit 0/\sh.id=sh.id/\sh.colour=sh.colour/\sh.w=sh.w/\sh.h=sh.h/\sh.grain=sh.grain/\A2/\A6/\Aq g k=Aq g t_1.2/\A27<=Bx r/\t_1.2<AJ g/\∀(j1:Nat),j1<A27->CC w sh.grain g r t_1.2 j1=false)/\(∀(k_1:Nat) (t_1:(Int->Bool)×Nat) (vk_1:Nat->Go.Value),let A64:=(AQ r k_1);let A63:=(AV r k_1);let A39:=(CM r/\A34<=AQ r k_1/\AQ r k_1<=(4096:Int));let A7:=(BX r sh.id A63 A64);let A4:=(E0 r A63 A64);let A3:=(CA r A63 A64);k_1<Bx r->(Aq g k=Aq g t_1.2/\k_1<=Bx r/\t_1.2<AJ g/\∀(j1:Nat),j1<k_1->CC w sh.grain g r t_1.2 j1=false)->A39/\(∃(t_2:L.Sq Ah×Int×(Int->Bool)×Int×Ag),let A53:=(An t_2.1 t_2.2.1);nat_lit 0=A27/\Aq g k=t_2.snd.snd.2.1/\SV.agg [I A3.size.w,I A3.size.h]=SV.agg [I t_2.snd.snd.2.2.w,I t_2.snd.snd.2.2.h]/\(w.n=t_2.1.n/\∀(i:Nat),let A46:=(t_2.1.g i);i<w.n -> [I (w.g i).id,I (w.g i).colour,I (w.g i).grain,SV.sl A25 (w.g i).ol.n fun(i1:Nat)=>[I ((w.g i).ol.g i1).x,I ((w.g i).ol.g i1).y]]= [I A46.id,I A46.colour,I A46.grain,SV.sl A25 A46.ol.n fun(i1:Nat)=>[I (A46.ol.g i1).x,I (A46.ol.g i1).y]])/\sh.grain=t_2.2.1/\(∀(x:Int),t_1.1 x=t_2.snd.2.1 x)/\(∀(x:Int),t_1.1 x=true->Ad A9 x=Ad A53 x)/\(Cs t_2.1/\A34<=t_2.snd.snd.2.1/\t_2.snd.snd.2.1<=Bw t_2.1.n)/\∀(u:Int->Bool),True->(D0 t_2.1 t_2.2.1 t_2.snd.snd.2.1 t_2.snd.snd.2.2=true->∃(t_3:L.Sq Ah×Int×(Int->Bool)×Int×Ag),let A66:=(An t_3.1 t_3.2.1);nat_lit 0=A27/\Dj g (Aq g k)=t_3.snd.snd.2.1/\SV.agg [I A4.size.w,I A4.size.h]=SV.agg [I t_3.snd.snd.2.2.w,I t_3.snd.snd.2.2.h]/\(t_2.1.n=t_3.1.n/\∀(i:Nat),let A48:=(t_3.1.g i);let A47:=(t_2.1.g i);i<t_2.1.n -> [I A47.id,I A47.colour,I A47.grain,SV.sl A25 A47.ol.n fun(i1:Nat)=>[I (A47.ol.g i1).x,I (A47.ol.g i1).y]]= [I A48.id,I A48.colour,I A48.grain,SV.sl A25 A48.ol.n fun(i1:Nat)=>[I (A48.ol.g i1).x,I (A48.ol.g i1).y]])/\t_2.2.1=t_3.2.1/\(∀(x:Int),u x=t_3.snd.2.1 x)/\(∀(x:Int),u x=true->Ad A53 x=Ad A66 x)/\(Cs t_3.1/\A34<=t_3.snd.snd.2.1/\t_3.snd.snd.2.1<=Bw t_3.1.n)/\∀(u:Int->Bool),True->∃(g_1:(Int->Bool)×Bool×Int×Bool×Int),(bif D0 t_2.1 t_2.2.1 t_2.snd.snd.2.1 t_2.snd.snd.2.2 then D0 t_3.1 t_3.2.1 t_3.snd.snd.2.1 t_3.snd.snd.2.2 else false)=g_1.2.1/\nat_lit 0=nat_lit 0/\nat_lit 0=nat_lit 0/\AQ r k_1=AQ r k_1/\AV r k_1=AV r k_1/\nat_lit 0=nat_lit 0/\Aq g k=Aq g k/\SV.ref A5 A15=SV.ref A5 A15/\SV.ref [I g] A15=SV.ref [I g] A15/\nat_lit 0=nat_lit 0/\vk A11=vk A11/\vk A12=vk A12/\vk A13=vk A13/\vk_1 A29=vk_1 A29/\vk_1 A26=vk_1 A26/\vk_1 A11=vk_1 A11/\vk_1 A12=vk_1 A12/\vk_1 A13=vk_1 A13/\vk_1 A11=vk_1 A11/\vk_1 A12=vk_1 A12/\vk_1 A13=vk_1 A13/\(∀(x:Int),u x=g_1.1 x)/\(∀(x:Int),u x=true->Ad A66 x=Ad A9 x)/\A4.at_.x=A4.at_.x/\A4.at_.y=A4.at_.y/\A4.size.w=A4.size.w/\A4.size.h=A4.size.h/\A3.at_.x=A3.at_.x/\A3.at_.y=A3.at_.y/\A3.size.w=A3.size.w/\A3.size.h=A3.size.h/\Aq g k=Aq g k/\nat_lit 0=nat_lit 0/\(t_3.1.n=w.n/\∀(i:Nat),let A49:=(t_3.1.g i);i<t_3.1.n -> [I A49.id,I A49.colour,I A49.grain,SV.sl A25 A49.ol.n fun(i1:Nat)=>[I (A49.ol.g i1).x,I (A49.ol.g i1).y]]= [I (w.g i).id,I (w.g i).colour,I (w.g i).grain,SV.sl A25 (w.g i).ol.n fun(i1:Nat)=>[I ((w.g i).ol.g i1).x,I ((w.g i).ol.g i1).y]])/\t_3.2.1=sh.grain/\nat_lit 0=nat_lit 0/\sh.id=sh.id/\sh.colour=sh.colour/\sh.w=sh.w/\sh.h=sh.h/\sh.grain=sh.grain/\A2/\A6/\AV r k_1=g_1.snd.snd.2.1/\AQ r k_1=g_1.snd.snd.2.2/\Aq g k=g_1.snd.2.1/\g_1.2.1=NL w sh.grain g r g_1.snd.2.1 g_1.snd.snd.2.1 g_1.snd.snd.2.2)/\(D0 t_2.1 t_2.2.1 t_2.snd.snd.2.1 t_2.snd.snd.2.2=false->∃(g_1:(Int->Bool)×Bool×Int×Bool×Int),(bif D0 t_2.1 t_2.2.1 t_2.snd.snd.2.1 t_2.snd.snd.2.2 then false else false)=g_1.2.1/\nat_lit 0=nat_lit 0/\nat_lit 0=nat_lit 0/\AQ r k_1=AQ r k_1/\AV r k_1=AV r k_1/\nat_lit 0=nat_lit 0/\Aq g k=Aq g k/\SV.ref A5 A15=SV.ref A5 A15/\SV.ref [I g] A15=SV.ref [I g] A15/\nat_lit 0=nat_lit 0/\vk A11=vk A11/\vk A12=vk A12/\vk A13=vk A13/\vk_1 A29=vk_1 A29/\vk_1 A26=vk_1 A26/\vk_1 A11=vk_1 A11/\vk_1 A12=vk_1 A12/\vk_1 A13=vk_1 A13/\vk_1 A11=vk_1 A11/\vk_1 A12=vk_1 A12/\vk_1 A13=vk_1 A13/\(∀(x:Int),u x=g_1.1 x)/\(∀(x:Int),u x=true->Ad A53 x=Ad A9 x)/\A4.at_.x=A4.at_.x/\A4.at_.y=A4.at_.y/\A4.size.w=A4.size.w/\A4.size.h=A4.size.h/\A3.at_.x=A3.at_.x/\A3.at_.y=A3.at_.y/\A3.size.w=A3.size.w/\A3.size.h=A3.size.h/\Aq g k=Aq g k/\nat_lit 0=nat_lit 0/\(t_2.1.n=w.n/\∀(i:Nat),let A50:=(t_2.1.g i);i<t_2.1.n -> [I A50.id,I A50.colour,I A50.grain,SV.sl A25 A50.ol.n fun(i1:Nat)=>[I (A50.ol.g i1).x,I (A50.ol.g i1).y]]= [I (w.g i).id,I (w.g i).colour,I (w.g i).grain,SV.sl A25 (w.g i).ol.n fun(i1:Nat)=>[I ((w.g i).ol.g i1).x,I ((w.g i).ol.g i1).y]])/\t_2.2.1=sh.grain/\nat_lit 0=nat_lit 0/\sh.id=sh.id/\sh.colour=sh.colour/\sh.w=sh.w/\sh.h=sh.h/\sh.grain=sh.grain/\A2/\A6/\AV r k_1=g_1.snd.snd.2.1/\AQ r k_1=g_1.snd.snd.2.2/\Aq g k=g_1.snd.2.1/\g_1.2.1=NL w sh.grain g r g_1.snd.2.1 g_1.snd.snd.2.1 g_1.snd.snd.2.2))/\∀(g_1:(Int->Bool)×Bool×Int×Bool×Int),let A59:=(∀(x:Int),g_1.1 x=g_1.1 x);let A23:=(∀(x:Int),g_1.1 x=true->Ad A9 x=Ad A9 x);AV r k_1=g_1.snd.snd.2.1/\AQ r k_1=g_1.snd.snd.2.2/\Aq g k=g_1.snd.2.1/\g_1.2.1=NL w sh.grain g r g_1.snd.2.1 g_1.snd.snd.2.1 g_1.snd.snd.2.2->(g_1.2.1=true->(A39/\((A22.n+nat_lit 1)*nat_lit 48<=A65/\∃(g_2:Bool×Int),let A42:=(AZ (Cn S (BX r sh.id g_2.1 g_2.2)));nat_lit 0=nat_lit 0/\nat_lit 0=nat_lit 0/\AQ r k_1=AQ r k_1/\AV r k_1=AV r k_1/\nat_lit 0=nat_lit 0/\Aq g k=Aq g k/\SV.ref A5 A15=SV.ref A5 A15/\SV.ref [I g] A15=SV.ref [I g] A15/\nat_lit 0=nat_lit 0/\vk A11=vk A11/\vk A12=vk A12/\vk A13=vk A13/\vk_1 A29=vk_1 A29/\vk_1 A26=vk_1 A26/\vk_1 A11=vk_1 A11/\vk_1 A12=vk_1 A12/\vk_1 A13=vk_1 A13/\vk_1 A11=vk_1 A11/\vk_1 A12=vk_1 A12/\vk_1 A13=vk_1 A13/\(A22.n+nat_lit 1=A42.n/\∀(i:Nat),i<A22.n+nat_lit 1->Ba A22.n (fun(k:Nat)=>Bk (A22.g k)) (fun(x:Nat)=>[I A7.sheet,I A7.kind,I A7.want,SV.sl (nat_lit 2) A7.pts.n fun(i:Nat)=>[I (A7.pts.g i).x,I (A7.pts.g i).y]]) i=Bk (A42.g i))/\A59/\A23/\A4.at_.x=A4.at_.x/\A4.at_.y=A4.at_.y/\A4.size.w=A4.size.w/\A4.size.h=A4.size.h/\A3.at_.x=A3.at_.x/\A3.at_.y=A3.at_.y/\A3.size.w=A3.size.w/\A3.size.h=A3.size.h/\Aq g k=Aq g k/\nat_lit 0=nat_lit 0/\A1/\sh.grain=sh.grain/\nat_lit 0=nat_lit 0/\sh.id=sh.id/\sh.colour=sh.colour/\sh.w=sh.w/\sh.h=sh.h/\sh.grain=sh.grain/\A2/\AV r k_1=g_2.1/\AQ r k_1=g_2.2/\True)/\(A22.n+nat_lit 1)*nat_lit 48<=A65/\∃(g_2:Bool×Int),let A43:=(AZ (Cn S (BX r sh.id g_2.1 g_2.2)));nat_lit 0=nat_lit 0/\nat_lit 0=nat_lit 0/\AQ r k_1=AQ r k_1/\AV r k_1=AV r k_1/\nat_lit 0=nat_lit 0/\Aq g k=Aq g k/\SV.ref A5 A15=SV.ref A5 A15/\SV.ref [I g] A15=SV.ref [I g] A15/\nat_lit 0=nat_lit 0/\vk A11=vk A11/\vk A12=vk A12/\vk A13=vk A13/\vk_1 A29=vk_1 A29/\vk_1 A26=vk_1 A26/\vk_1 A11=vk_1 A11/\vk_1 A12=vk_1 A12/\vk_1 A13=vk_1 A13/\vk_1 A11=vk_1 A11/\vk_1 A12=vk_1 A12/\vk_1 A13=vk_1 A13/\(A22.n+nat_lit 1=A43.n/\∀(i:Nat),i<A22.n+nat_lit 1->Ba A22.n (fun(k:Nat)=>Bk (A22.g k)) (fun(x:Nat)=>[I A7.sheet,I A7.kind,I A7.want,SV.sl (nat_lit 2) A7.pts.n fun(i:Nat)=>[I (A7.pts.g i).x,I (A7.pts.g i).y]]) i=Bk (A43.g i))/\A59/\A23/\A4.at_.x=A4.at_.x/\A4.at_.y=A4.at_.y/\A4.size.w=A4.size.w/\A4.size.h=A4.size.h/\A3.at_.x=A3.at_.x/\A3.at_.y=A3.at_.y/\A3.size.w=A3.size.w/\A3.size.h=A3.size.h/\Aq g k=Aq g k/\nat_lit 0=nat_lit 0/\A1/\sh.grain=sh.grain/\nat_lit 0=nat_lit 0/\sh.id=sh.id/\sh.colour=sh.colour/\sh.w=sh.w/\sh.h=sh.h/\sh.grain=sh.grain/\A2/\AV r k_1=g_2.1/\AQ r k_1=g_2.2/\True)/\∀(g_2:Bool×Int),let A28:=(AZ (Cn S (BX r sh.id g_2.1 g_2.2)));AV r k_1=g_2.1/\AQ r k_1=g_2.2/\True->∃(t:L.Sq Ah×Az×(Int->Bool)×(Nat->CL)×List BS×Int×AO),let A62:=(An t.1 t.2.1.grain);let A45:=(AZ t.snd.snd.snd.2.1);let A18:=(AZ (DY t.1 t.2.1 t.snd.snd.snd.snd.2.1 t.snd.snd.snd.snd.2.2 t.snd.snd.2.1 t.snd.snd.snd.2.1));nat_lit 0=A27/\Aq g k=t.snd.snd.snd.snd.2.1/\SV.agg [I A3.at_.x,I A3.at_.y,I A3.size.w,I A3.size.h]=SV.agg [I t.snd.snd.snd.snd.2.2.at_.x,I t.snd.snd.snd.snd.2.2.at_.y,I t.snd.snd.snd.snd.2.2.size.w,I t.snd.snd.snd.snd.2.2.size.h]/\(w.n=t.1.n/\∀(i:Nat),let A57:=(t.1.g i);i<w.n -> [I (w.g i).id,I (w.g i).colour,I (w.g i).grain,SV.sl A25 (w.g i).ol.n fun(i1:Nat)=>[I ((w.g i).ol.g i1).x,I ((w.g i).ol.g i1).y]]= [I A57.id,I A57.colour,I A57.grain,SV.sl A25 A57.ol.n fun(i1:Nat)=>[I (A57.ol.g i1).x,I (A57.ol.g i1).y]])/\sh.grain=t.2.1.grain/\(∀(x:Int),g_1.1 x=t.snd.2.1 x)/\(∀(x:Int),g_1.1 x=true->Ad A9 x=Ad A62 x)/\nat_lit 0=A27/\sh.id=t.2.1.id/\sh.colour=t.2.1.colour/\sh.w=t.2.1.w/\sh.h=t.2.1.h/\sh.grain=t.2.1.grain/\(w.n=t.1.n/\∀(i:Nat),let A38:=(t.snd.snd.2.1 i);i<w.n -> [I (P i).want,I (P i).sheet,I (P i).turn,I (P i).at_.x,I (P i).at_.y]= [I A38.want,I A38.sheet,I A38.turn,I A38.at_.x,I A38.at_.y])/\(A28.n=A45.n/\∀(i:Nat),i<A28.n->Bk (A28.g i)=Bk (A45.g i))/\((Cs t.1/\A34<=t.snd.snd.snd.snd.2.1/\t.snd.snd.snd.snd.2.1<=Bw t.1.n/\CM t.snd.snd.snd.snd.2.2/\A45.n+(3:Nat)*T t.snd.snd.snd.snd.2.1<=A67)/\T t.snd.snd.snd.snd.2.1<rn)/\∀(u:Int->Bool),True->∃(t_2:L.Sq Ah×Az×(Int->Bool)×(Nat->CL)×List BS×Int×AO),let A60:=(An t_2.1 t_2.2.1.grain);let A40:=(AZ t_2.snd.snd.snd.2.1);let A17:=(AZ (DY t_2.1 t_2.2.1 t_2.snd.snd.snd.snd.2.1 t_2.snd.snd.snd.snd.2.2 t_2.snd.snd.2.1 t_2.snd.snd.snd.2.1));nat_lit 0=A27/\Dj g (Aq g k)=t_2.snd.snd.snd.snd.2.1/\SV.agg [I A4.at_.x,I A4.at_.y,I A4.size.w,I A4.size.h]=SV.agg [I t_2.snd.snd.snd.snd.2.2.at_.x,I t_2.snd.snd.snd.snd.2.2.at_.y,I t_2.snd.snd.snd.snd.2.2.size.w,I t_2.snd.snd.snd.snd.2.2.size.h]/\(t.1.n=t_2.1.n/\∀(i:Nat),let A58:=(t.1.g i);let A51:=(t_2.1.g i);i<t.1.n -> [I A58.id,I A58.colour,I A58.grain,SV.sl A25 A58.ol.n fun(i1:Nat)=>[I (A58.ol.g i1).x,I (A58.ol.g i1).y]]= [I A51.id,I A51.colour,I A51.grain,SV.sl A25 A51.ol.n fun(i1:Nat)=>[I (A51.ol.g i1).x,I (A51.ol.g i1).y]])/\t.2.1.grain=t_2.2.1.grain/\(∀(x:Int),u x=t_2.snd.2.1 x)/\(∀(x:Int),u x=true->Ad A62 x=Ad A60 x)/\nat_lit 0=A27/\t.2.1.id=t_2.2.1.id/\t.2.1.colour=t_2.2.1.colour/\t.2.1.w=t_2.2.1.w/\t.2.1.h=t_2.2.1.h/\t.2.1.grain=t_2.2.1.grain/\(t.1.n=t_2.1.n/\∀(i:Nat),let A36:=(t_2.snd.snd.2.1 i);let A10:=(Dr t.1 t.2.1 t.snd.snd.snd.snd.2.1 t.snd.snd.snd.snd.2.2 t.snd.snd.2.1 t.snd.snd.snd.2.1 i);i<t.1.n -> [I A10.want,I A10.sheet,I A10.turn,I A10.at_.x,I A10.at_.y]= [I A36.want,I A36.sheet,I A36.turn,I A36.at_.x,I A36.at_.y])/\(A18.n=A40.n/\∀(i:Nat),i<A18.n->Bk (A18.g i)=Bk (A40.g i))/\((Cs t_2.1/\A34<=t_2.snd.snd.snd.snd.2.1/\t_2.snd.snd.snd.snd.2.1<=Bw t_2.1.n/\CM t_2.snd.snd.snd.snd.2.2/\A40.n+(3:Nat)*T t_2.snd.snd.snd.snd.2.1<=A67)/\T t_2.snd.snd.snd.snd.2.1<rn)/\∀(u:Int->Bool),True->nat_lit 0=nat_lit 0/\Aq g k=Aq g k/\SV.ref A5 A15=SV.ref A5 A15/\SV.ref [I g] A15=SV.ref [I g] A15/\nat_lit 0=nat_lit 0/\vk A11=vk A11/\vk A12=vk A12/\vk A13=vk A13/\vk_1 A29=vk_1 A29/\vk_1 A26=vk_1 A26/\vk_1 A11=vk_1 A11/\vk_1 A12=vk_1 A12/\vk_1 A13=vk_1 A13/\vk_1 A11=vk_1 A11/\vk_1 A12=vk_1 A12/\vk_1 A13=vk_1 A13/\SV.ref A5 A15=SV.ref A5 A15/\SV.ref [I g] A15=SV.ref [I g] A15/\nat_lit 0=nat_lit 0/\vk A11=vk A11/\vk A12=vk A12/\vk A13=vk A13/\∃(u_1:Int->Bool),(t_2.1.n=w.n/\∀(i:Nat),let A52:=(t_2.1.g i);i<t_2.1.n -> [I A52.id,I A52.colour,I A52.grain,SV.sl A25 A52.ol.n fun(i1:Nat)=>[I (A52.ol.g i1).x,I (A52.ol.g i1).y]]= [I (w.g i).id,I (w.g i).colour,I (w.g i).grain,SV.sl A25 (w.g i).ol.n fun(i1:Nat)=>[I ((w.g i).ol.g i1).x,I ((w.g i).ol.g i1).y]])/\t_2.2.1.grain=sh.grain/\(∀(x:Int),u x=u_1 x)/\(∀(x:Int),u x=true->Ad A60 x=Ad A9 x)/\nat_lit 0=A27/\t_2.2.1.id=sh.id/\t_2.2.1.colour=sh.colour/\t_2.2.1.w=sh.w/\t_2.2.1.h=sh.h/\t_2.2.1.grain=sh.grain/\(t_2.1.n=w.n/\∀(i:Nat),let A32:=(Dr w sh g r P S i);let A8:=(Dr t_2.1 t_2.2.1 t_2.snd.snd.snd.snd.2.1 t_2.snd.snd.snd.snd.2.2 t_2.snd.snd.2.1 t_2.snd.snd.snd.2.1 i);i<t_2.1.n -> [I A8.want,I A8.sheet,I A8.turn,I A8.at_.x,I A8.at_.y]= [I A32.want,I A32.sheet,I A32.turn,I A32.at_.x,I A32.at_.y])/\(A17.n=A19.n/\∀(i:Nat),i<A17.n->Bk (A17.g i)=Bk (A19.g i))/\True)/\(g_1.2.1=false->∃(t':(Int->Bool)×Nat),nat_lit 0=nat_lit 0/\Aq g k=Aq g k/\SV.ref A5 A15=SV.ref A5 A15/\SV.ref [I g] A15=SV.ref [I g] A15/\nat_lit 0=nat_lit 0/\vk A11=vk A11/\vk A12=vk A12/\vk A13=vk A13/\vk_1 A29=vk_1 A29/\vk_1 A26=vk_1 A26/\vk_1 A11=vk_1 A11/\vk_1 A12=vk_1 A12/\vk_1 A13=vk_1 A13/\vk_1 A11=vk_1 A11/\vk_1 A12=vk_1 A12/\vk_1 A13=vk_1 A13/\(∀(x:Int),g_1.1 x=t'.1 x)/\A23/\Aq g k=Aq g k/\nat_lit 0=nat_lit 0/\A1/\sh.grain=sh.grain/\nat_lit 0=nat_lit 0/\sh.id=sh.id/\sh.colour=sh.colour/\sh.w=sh.w/\sh.h=sh.h/\sh.grain=sh.grain/\A2/\A6/\Aq g k=Aq g t'.2/\k_1+A68<=Bx r/\t'.2<AJ g/\∀(j1:Nat),j1<k_1+A68->CC w sh.grain g r t'.2 j1=false))/\∀(t:(Int->Bool)×Nat),(Aq g k=Aq g t.2/\Bx r<=Bx r/\t.2<AJ g/\∀(j1:Nat),j1<Bx r->CC w sh.grain g r t.2 j1=false)->∃(t':Int->Bool),SV.ref A5 A15=SV.ref A5 A15/\SV.ref [I g] A15=SV.ref [I g] A15/\nat_lit 0=nat_lit 0/\vk A11=vk A11/\vk A12=vk A12/\vk A13=vk A13/\(∀(x:Int),t.1 x=t' x)/\(∀(x:Int),t.1 x=true->Ad A9 x=Ad A9 x)/\nat_lit 0=nat_lit 0/\A1/\sh.grain=sh.grain/\nat_lit 0=nat_lit 0/\sh.id=sh.id/\sh.colour=sh.colour/\sh.w=sh.w/\sh.h=sh.h/\sh.grain=sh.grain/\A2/\A6/\k+A68<=AJ g/\∀(k1:Nat),k1<k+A68->∀(j:Nat),j<Bx r->CC w sh.grain g r k1 j=false)/\∀(t:Int->Bool),(AJ g<=AJ g/\∀(k1:Nat),k1<AJ g->∀(j:Nat),j<Bx r->CC w sh.grain g r k1 j=false)->∃(u:Int->Bool),A1/\sh.grain=sh.grain/\(∀(x:Int),t x=u x)/\(∀(x:Int),t x=true->Ad A9 x=Ad A9 x)/\nat_lit 0=A27/\sh.id=sh.id/\sh.colour=sh.colour/\sh.w=sh.w/\sh.h=sh.h/\sh.grain=sh.grain/\A16/\A33/\True))) (by kernel_rfl) (by
 conv=>zeta
 have hp:Cs w/\0<=g/\g<=Bw w.n/\CM r/\S.length+3*g.toNat<=1000:=hp;have hmu:g.toNat<rn+1:=hmu;obtain⟨hok,hg0,hga,hA,hS⟩:=hp;have hg15:g<=15:=Int.le_trans hga (NE hok.1);have no0:∀{p:Nat->Prop} (k:Nat),k<0->p k:=fun k h=>absurd h (oE _);have f0:=Acj w sh;have f1:=fun(h:1<=g) (h1:Cr g=true)=>Ack w sh r P S h h1;have fn:=fun(h:1<=g) (h1:Cr g=false) (hd:EG w sh.grain g r=none)=>Acl w sh P S h h1 hd;have fs:=fun(h:1<=g) (h15:g<=15) (h1:Cr g=false) {k j:Nat} (hd:EG w sh.grain g r=some (k,j))=>Acm w sh P S h h15 h1 hd;have fl:=Acn w sh;generalize Dr=lP at *;generalize DY=lS at *;refine⟨fun h0=>?_,fun h0=>⟨GE,fun h1=>?_,fun h1=>?_⟩⟩
 ·have h0:g=0:=of_decide_eq_true h0;subst h0;obtain⟨eP,eS⟩:=f0 r P S;rw[eP,eS];exact⟨dom,(by(try dsimp only);(repeat' with_reducible apply And.intro)<;>first|with_reducible rfl|with_reducible exact fun _=>rfl|with_reducible exact fun _ _=>rfl|with_reducible exact trivial|exact rfl|(intro _;exact rfl)|(intro _ _;exact rfl)|exact trivial|(intro _ h_;exact absurd h_ (oE _)))⟩
 ·have h0:¬ g=0:=of_decide_eq_false h0;have hg1:1<=g:=by omega
  have h1:Cr g=true:=h1;obtain⟨ge,gi⟩:=QB hg1 hg15 h1;have gn:=bL hok.1 hg1 hga h1;obtain⟨eP,eS⟩:=f1 hg1 h1;rw[eP,eS];refine⟨⟨0,rfl,Ads _⟩,fun k hk=>⟨AdG _,fun hc=>?_,fun hc=>?_⟩⟩
  ·have hc:1<FN g k:=of_decide_eq_true hc;have hlt:k<Bj g:=by rw[ge]at hc;exact(NF gi hk).1 hc
   exact⟨GE,k+1,(by(try dsimp only);(repeat' with_reducible apply And.intro)<;>first|with_reducible rfl|with_reducible assumption|with_reducible exact fun _=>rfl|with_reducible exact fun _ _=>rfl|with_reducible exact trivial|exact hlt|exact rfl|(intro _;exact rfl)|(intro _ _;exact rfl)|exact(by omega)|exact trivial|(intro _ h_;exact absurd h_ (oE _)))⟩
  ·have hc:¬ 1<FN g k:=of_decide_eq_false hc;have hke:k=Bj g:=by
    rcases Nat.lt_or_ge k (Bj g)with h|h
    ·exact absurd (by rw[ge];exact(NF gi hk).2 h) hc
    ·omega
   subst hke;have hS1:(AZ S).n<=1000:=by show S.length<=1000;omega
   exact⟨(w,sh,dom,P,S,Bj g,r),(by(try dsimp only);(repeat' with_reducible apply And.intro)<;>first|with_reducible rfl|with_reducible assumption|with_reducible exact hok.1|with_reducible exact(hok.2 _ gn)|with_reducible exact fun _=>rfl|with_reducible exact fun _ _=>rfl|with_reducible exact trivial|(intro _ _;exact⟨dom,(by(try dsimp only);(repeat' with_reducible apply And.intro)<;>first|with_reducible rfl|with_reducible exact fun _=>rfl|with_reducible exact fun _ _=>rfl|with_reducible exact trivial|exact rfl|(intro _;exact rfl)|(intro _ _;exact rfl)|exact trivial|(intro _ h_;exact absurd h_ (oE _)))⟩)|exact gn|exact hok.1|exact(hok.2 _ gn)|exact hA|exact hS1|exact rfl|(intro _;exact rfl)|(intro _ _;exact rfl)|exact trivial|(intro _ h_;exact absurd h_ (oE _)))⟩
 ·have h0:¬ g=0:=of_decide_eq_false h0;have hg1:1<=g:=by omega
  have h1:Cr g=false:=h1;obtain⟨hp0,hpt⟩:=Iq hg1 hg15 h1;refine⟨trivial,⟨⟨hg0,hg15⟩,dom,(by(try dsimp only);(repeat' with_reducible apply And.intro)<;>first|with_reducible rfl|with_reducible exact Ads _|with_reducible exact fun _=>rfl|with_reducible exact fun _ _=>rfl|with_reducible exact trivial|(intro k1 h;exact absurd h (oE _))|exact Ads _|exact rfl|(intro _;exact rfl)|(intro _ _;exact rfl)|exact trivial|(intro _ h_;exact absurd h_ (oE _)))⟩,fun k d vk hk hinv=>?_,fun d hinv=>?_⟩
  ·obtain⟨hk1,hno⟩:=hinv;obtain⟨p1,p2,p3,p4,p5⟩:=hpt k hk;refine⟨trivial,⟨hA,(d,k),(by(try dsimp only);(repeat' with_reducible apply And.intro)<;>first|with_reducible rfl|with_reducible assumption|with_reducible exact Ads _|with_reducible exact fun _=>rfl|with_reducible exact fun _ _=>rfl|with_reducible exact trivial|(intro k1 h;exact absurd h (oE _))|exact Ads _|exact hk|exact rfl|(intro _;exact rfl)|(intro _ _;exact rfl)|exact trivial|(intro _ h_;exact absurd h_ (oE _)))⟩,fun j t vk1 hj ht=>?_,fun t ht=>?_⟩
   ·obtain⟨d1,k'⟩:=t;obtain⟨hkk,hj1,hk2,hno1⟩:=ht;obtain rfl:=ND hg1 hg15 h1 hk hk2 hkk;obtain⟨b1,b2,b3,b4⟩:=dZ hA hj;obtain⟨oA,oB⟩:=Acb hA hj;have c1:0<=AQ r j:=by omega
    have c2:AQ r j<=4096:=by omega
    have g1:Aq g k<=Bw w.n:=by omega
    have g2:Br g k<=Bw w.n:=by omega
    refine⟨⟨hA,c1,c2⟩,⟨(w,sh.grain,d1,Aq g k,(CA r (AV r j) (AQ r j)).size),(by(try dsimp only);(repeat' with_reducible apply And.intro)<;>first|with_reducible rfl|with_reducible assumption|with_reducible exact AdP p1|with_reducible exact fun _=>rfl|with_reducible exact fun _ _=>rfl|with_reducible exact trivial|(intro u _;exact⟨fun hr1=>⟨(w,sh.grain,u,Br g k,(E0 r (AV r j) (AQ r j)).size),(by(try dsimp only);(repeat' with_reducible apply And.intro)<;>first|with_reducible rfl|with_reducible assumption|with_reducible exact AdP p3|with_reducible exact fun _=>rfl|with_reducible exact fun _ _=>rfl|with_reducible exact trivial|(intro u2 _;exact⟨(u2,CC w sh.grain g r k j,Aq g k,AV r j,AQ r j),(by(try dsimp only);(repeat' with_reducible apply And.intro)<;>first|with_reducible rfl|with_reducible exact fun _=>rfl|with_reducible exact fun _ _=>rfl|with_reducible exact trivial|exact rfl|(intro _;exact rfl)|(intro _ _;exact rfl)|exact trivial|(intro _ h_;exact absurd h_ (oE _)))⟩)|exact hok|exact AdP p3|exact g2|exact rfl|(intro _;exact rfl)|(intro _ _;exact rfl)|exact trivial|(intro _ h_;exact absurd h_ (oE _)))⟩,fun hr1=>⟨(u,false,Aq g k,AV r j,AQ r j),(by(try dsimp only);(repeat' with_reducible apply And.intro)<;>first|with_reducible rfl|with_reducible exact fun _=>rfl|with_reducible exact fun _ _=>rfl|with_reducible exact trivial|exact rfl|(intro _;exact rfl)|(intro _ _;exact rfl)|exact(by rw[hr1];rfl)|exact(by show false=CC w sh.grain g r k j;unfold CC;rw[hr1];rfl)|exact trivial|(intro _ h_;exact absurd h_ (oE _)))⟩⟩)|exact hok|exact AdP p1|exact g1|exact rfl|(intro _;exact rfl)|(intro _ _;exact rfl)|exact trivial|(intro _ h_;exact absurd h_ (oE _)))⟩,fun x hx=>?_⟩;obtain⟨d2,b,p,up,by_⟩:=x;obtain⟨e1,e2,e3,e4⟩:=hx;subst e1 e2 e3;have e4:b=CC w sh.grain g r k j:=e4;refine⟨fun hb=>⟨?_,fun x2 hx2=>?_⟩,fun hb=>⟨(d2,k),?_⟩⟩
    ·have sz:((AZ S).n+1)*48<=140737488355328:=by show(S.length+1)*48<=_;omega
     have sq1:=QP (S:=S) (x:=BX r sh.id (AV r j) (AQ r j)) rfl (r:=fun _=>Bk (BX r sh.id (AV r j) (AQ r j))) rfl
     repeat' with_reducible apply And.intro
     all_goals first|exact hA|exact c1|exact c2|exact sz|exact⟨(AV r j,AQ r j),(by(try dsimp only);(repeat' with_reducible apply And.intro)<;>first|with_reducible rfl|with_reducible exact sq1.1|with_reducible exact sq1.2|with_reducible exact fun _=>rfl|with_reducible exact fun _ _=>rfl|with_reducible exact trivial|exact sq1.1|exact sq1.2|exact rfl|(intro _;exact rfl)|(intro _ _;exact rfl)|exact trivial|(intro _ h_;exact absurd h_ (oE _)))⟩
    ·obtain⟨up2,by2⟩:=x2;obtain⟨e5,e6,_⟩:=hx2;subst e5 e6;have e4:true=CC w sh.grain g r k j:=hb ▸ e4;have hd:=AbZ hk hj e4.symm hno hno1;obtain⟨eP,eS⟩:=fs hg1 hg15 h1 hd;have n1:(Cn S (BX r sh.id (AV r j) (AQ r j))).length=S.length+1:=LM _ _;have l1:(AZ (Cn S (BX r sh.id (AV r j) (AQ r j)))).n+3*(Aq g k).toNat<=1000:=by
      show(Cn S _).length+_<=_;omega
     have l2:(AZ (lS w sh (Aq g k) (CA r (AV r j) (AQ r j)) P (Cn S (BX r sh.id (AV r j) (AQ r j))))).n+3*(Br g k).toNat<=1000:=by
      have:=fl (Aq g k) (CA r (AV r j) (AQ r j)) P (Cn S (BX r sh.id (AV r j) (AQ r j))) (by omega) (by omega);show(lS w sh (Aq g k) (CA r (AV r j) (AQ r j)) P (Cn S (BX r sh.id (AV r j) (AQ r j)))).length+_<=_;omega
     have m1:(Aq g k).toNat<rn:=by omega
     have m2:(Br g k).toNat<rn:=by omega
     rw[eP,eS];exact⟨(w,sh,d2,P,Cn S (BX r sh.id (AV r j) (AQ r j)),Aq g k,CA r (AV r j) (AQ r j)),(by(try dsimp only);(repeat' with_reducible apply And.intro)<;>first|with_reducible rfl|with_reducible assumption|with_reducible exact AdP p1|with_reducible exact fun _=>rfl|with_reducible exact fun _ _=>rfl|with_reducible exact trivial|(intro u _;exact⟨(w,sh,u,lP w sh (Aq g k) (CA r (AV r j) (AQ r j)) P (Cn S (BX r sh.id (AV r j) (AQ r j))),lS w sh (Aq g k) (CA r (AV r j) (AQ r j)) P (Cn S (BX r sh.id (AV r j) (AQ r j))),Br g k,E0 r (AV r j) (AQ r j)),(by(try dsimp only);(repeat' with_reducible apply And.intro)<;>first|with_reducible rfl|with_reducible assumption|with_reducible exact AdP p3|with_reducible exact fun _=>rfl|with_reducible exact fun _ _=>rfl|with_reducible exact trivial|(intro u2 _;exact(by(try dsimp only);(repeat' with_reducible apply And.intro)<;>first|with_reducible rfl|with_reducible exact fun _=>rfl|with_reducible exact fun _ _=>rfl|with_reducible exact trivial|exact⟨u2,(by(try dsimp only);(repeat' with_reducible apply And.intro)<;>first|with_reducible rfl|with_reducible exact fun _=>rfl|with_reducible exact fun _ _=>rfl|with_reducible exact trivial|exact rfl|(intro _;exact rfl)|(intro _ _;exact rfl)|exact trivial|(intro _ h_;exact absurd h_ (oE _)))⟩|exact rfl|(intro _;exact rfl)|(intro _ _;exact rfl)|exact trivial|(intro _ h_;exact absurd h_ (oE _))))|exact hok|exact AdP p3|exact g2|exact oB|exact l2|exact m2|exact rfl|(intro _;exact rfl)|(intro _ _;exact rfl)|exact trivial|(intro _ h_;exact absurd h_ (oE _)))⟩)|exact hok|exact AdP p1|exact g1|exact oA|exact l1|exact m1|exact rfl|(intro _;exact rfl)|(intro _ _;exact rfl)|exact trivial|(intro _ h_;exact absurd h_ (oE _)))⟩
    ·have e4:CC w sh.grain g r k j=false:=hb ▸ e4.symm;have nx:∀j1,j1<j+1->CC w sh.grain g r k j1=false:=fun j1 h=>by
      rcases Ad1.1 h with h|rfl
      ·exact hno1 j1 h
      ·exact e4
     exact(by(try dsimp only);(repeat' with_reducible apply And.intro)<;>first|with_reducible rfl|with_reducible assumption|with_reducible exact fun _=>rfl|with_reducible exact fun _ _=>rfl|with_reducible exact trivial|exact hj|exact hk|exact nx|exact rfl|(intro _;exact rfl)|(intro _ _;exact rfl)|exact trivial|(intro _ h_;exact absurd h_ (oE _)))
   ·obtain⟨d1,k'⟩:=t;obtain⟨hkk,hj1,hk2,hno1⟩:=ht;obtain rfl:=ND hg1 hg15 h1 hk hk2 hkk;have nx:∀k1,k1<k+1->∀j,j<Bx r->CC w sh.grain g r k1 j=false:=fun k1 h=>by
     rcases Ad1.1 h with h|rfl
     ·exact hno k1 h
     ·exact hno1
    exact⟨d1,(by(try dsimp only);(repeat' with_reducible apply And.intro)<;>first|with_reducible rfl|with_reducible assumption|with_reducible exact fun _=>rfl|with_reducible exact fun _ _=>rfl|with_reducible exact trivial|exact hk|exact nx|exact rfl|(intro _;exact rfl)|(intro _ _;exact rfl)|exact trivial|(intro _ h_;exact absurd h_ (oE _)))⟩
  ·have hd:EG w sh.grain g r=none:=Aca hinv.2;obtain⟨eP,eS⟩:=fn hg1 h1 hd;rw[eP,eS];exact⟨d,(by(try dsimp only);(repeat' with_reducible apply And.intro)<;>first|with_reducible rfl|with_reducible exact fun _=>rfl|with_reducible exact fun _ _=>rfl|with_reducible exact trivial|exact rfl|(intro _;exact rfl)|(intro _ _;exact rfl)|exact trivial|(intro _ h_;exact absurd h_ (oE _)))⟩)
theorem eE:Ao Tryz.prog 100:=fun args w=>by kernel_rfl
theorem Acp:Du Tryz.prog 100 Is:=MZ eD ⟨fun t=>rfl,fun t u=>rfl,fun t u=>rfl,fun t u=>⟨rfl,rfl,rfl⟩,.inr rfl,fun k h=>by have h:=List.mem_singleton.1 h;subst h;decide⟩ (fun rn ih=>Gf (n:=3) Tryz.func100 (c:=Af Tryz.f100) (by kernel_rfl) mixed ⟨fun t=>rfl,fun t=>rfl,fun t u=>rfl,fun t u=>rfl,fun t u=>rfl,fun t u=>⟨rfl,rfl⟩,by kernel_rfl,by kernel_rfl⟩ (fun⟨w,sh,dom,P,S,g,r⟩ hp=>⟨_,Aco rn w sh dom P S g r hp.1 hp.2,⟨show Aa Tryz.prog _ from(Aa.cons aQ aR (Aa.cons AbL AbM (Aa.cons dK dL (Aa.cons dX dY Aa.nil)))),rfl,⟨show Ae Tryz.prog _ from(Ae.cons aJ aK (Ae.cons AbP AbQ Ae.nil)),⟨AC.no1 (fun _=>rfl),⟨show By Tryz.prog _ from(By.cons QO QN (By.cons AbY AbX (By.cons ih eE By.nil))),FamsOk.none (fun _=>rfl)⟩⟩⟩⟩⟩))
end
section
set_option maxHeartbeats 40000000
def QV (sh:Az):AO:=⟨⟨0,0⟩,⟨sh.w,sh.h⟩⟩
def Hf:Nat->CL:=fun _=>⟨0,0,0,⟨0,0⟩⟩
def eG (w:L.Sq Ah) (sh:Az):Gp:=EI w sh (Bw w.n) (QV sh) ⟨Hf,[]⟩
def DZ (w:L.Sq Ah) (sh:Az):Nat->CL:=(eG w sh).pl
def It (w:L.Sq Ah) (sh:Az):List BS:=(eG w sh).sc
def Gq (w:L.Sq Ah) (sh:Az):Int:=bif !decide (EF w sh=0)then EF w sh else bif !Gn w sh then 52 else 0
def Hg (w:L.Sq Ah) (sh:Az):Nat:=bif decide (Gq w sh=0)then w.n else 0
def HB (w:L.Sq Ah) (sh:Az):L.Sq BS:=AZ (bif decide (Gq w sh=0)then It w sh else [])
theorem Acq {s:Az} (h:Cq s=true):1<=s.w/\s.w<=4096/\1<=s.h/\s.h<=4096/\0<=s.grain/\s.grain<=2/\1<=s.id/\s.id<=65535:=by
 unfold Cq at h;cases h1:AG s.id 1 65535
 ·rw[h1]at h;cases h
 cases h2:AG s.colour 1 16
 ·rw[h1,h2]at h;cases h
 cases h3:AG s.w 1 4096
 ·rw[h1,h2,h3]at h;cases h
 cases h4:AG s.h 1 4096
 ·rw[h1,h2,h3,h4]at h;cases h
 rw[h1,h2,h3,h4]at h;have h:AG s.grain 0 2=true:=h;unfold AG at h h1 h3 h4;rw[Bool.and_eq_true,decide_eq_true_eq,decide_eq_true_eq]at h h1 h3 h4;omega
theorem Acr {s:L.Sq Az} (h:H9 s=true) {i:Nat} (hi:i<s.n):Cq (s.g i)=true:=by
 have:=Dk.1 h i hi;simp only[Bool.not_eq_true']at this;unfold EX at this;cases h1:Cq (s.g i)
 ·simp only[h1]at this;cases this
 ·rfl
theorem Acs {sh:Az} (h:Cq sh=true):CM (QV sh):=by
 obtain⟨h1,h2,h3,h4,_⟩:=Acq h;exact⟨AdQ _,AdQ _,by show 0<=sh.w;omega,by show 0<=sh.h;omega,by show 0+sh.w<=4096;omega,by show 0+sh.h<=4096;omega⟩
theorem Acu {w:L.Sq Ah} {s:Az} (h:EF w s=0):He w=true/\Cq s=true/\w.n<=7:=by
 obtain⟨h1,h2,-,h4,-⟩:=NI h;exact⟨h1,Acr (s:=bS s) (i:=0) h2 (show 0<1 by decide),h4⟩
section
attribute [local irreducible] Aq Dj Em FM Bw EH EI D0 An BU
abbrev Kx:Mk:={ T:=(L.Sq Ah)×(Az),U:=Int->Bool,args:=fun t=>(fun w sh=>[.p ((.sl 4 w.n (fun i=>[.int .i64 ((w.g i).id),.int .i64 ((w.g i).colour),.int .i64 ((w.g i).grain),.sl 2 (w.g i).ol.n (fun i1=>[.int .i64 (((w.g i).ol.g i1).x),.int .i64 (((w.g i).ol.g i1).y)])]))),.p ((.agg [.int .i64 sh.id,.int .i64 sh.colour,.int .i64 sh.w,.int .i64 sh.h,.int .i64 sh.grain]))]) t.1 t.2,lkeys:=[],keys:=[9,7,15,13,20],lent:=fun t=>(fun w sh=>[]) t.1 t.2,pre:=fun t=>(fun w sh=>Cs w/\Cq sh=true) t.1 t.2,post:=fun t u=>(fun w sh=>fun u=>True) t.1 t.2 u,lent':=fun t u=>(fun w sh=>fun u=>[]) t.1 t.2 u,own:=fun t u=>(fun w sh=>fun u=>[(9,.blk 172 [.p ((.sl 4 w.n (fun i=>[.int .i64 ((w.g i).id),.int .i64 ((w.g i).colour),.int .i64 ((w.g i).grain),.sl 2 (w.g i).ol.n (fun i1=>[.int .i64 (((w.g i).ol.g i1).x),.int .i64 (((w.g i).ol.g i1).y)])]))),.p (.int .i64 sh.grain),.mapv 7]),(7,.mq 3 64 u (Ad (An w sh.grain))),(15,.blk 105 [.loc 9 0,.p (.int .i64 sh.id),.p (.int .i64 sh.colour),.p (.int .i64 sh.w),.p (.int .i64 sh.h),.p (.int .i64 sh.grain),.row 13,.row 20]),(13,.row 75 5 w.n (fun k=>[.int .i64 ((DZ w sh k).want),.int .i64 ((DZ w sh k).sheet),.int .i64 ((DZ w sh k).turn),.int .i64 ((DZ w sh k).at_.x),.int .i64 ((DZ w sh k).at_.y)])),(20,.row 96 4 (AZ (It w sh)).n (fun k=>Bk ((AZ (It w sh)).g k)))]) t.1 t.2 u,res:=fun t u=>(fun w sh=>fun u=>.loc 15 0) t.1 t.2 u }
theorem Acv (w:L.Sq Ah) (sh:Az) (hp:Kx.pre (w,sh)):vc Tryz.prog ({ cC with muts:=[15],nils:=BD [(2,[(15,20,96,4)])],mks:=EA [(65,H7),(68,In),(100,Is)],ren:=fun k=>if k=1000 then 9 else if k=1001 then 7 else if k=1002 then 15 else if k=1003 then 13 else if k=1004 then 20 else k,joins:=AY [(2,{ T:=Nat,keep:=[0,3],keepO:=[],chg:=fun _=>[(5,.loc 15 0)],own:=fun _=>[(9,.blk 172 [.p ((.sl 4 w.n (fun i=>[.int .i64 ((w.g i).id),.int .i64 ((w.g i).colour),.int .i64 ((w.g i).grain),.sl 2 (w.g i).ol.n (fun i1=>[.int .i64 (((w.g i).ol.g i1).x),.int .i64 (((w.g i).ol.g i1).y)])]))),.p (.int .i64 sh.grain),.mapv 7]),(7,.mq 3 64 (fun _=>false) (Ad (An w sh.grain))),(15,.blk 105 [.loc 9 0,.p (.int .i64 sh.id),.p (.int .i64 sh.colour),.p (.int .i64 sh.w),.p (.int .i64 sh.h),.p (.int .i64 sh.grain),.row 13,.p (.raw (.slice none 0 0))]),(13,.row 75 5 w.n (fun k=>[.int .i64 ((Hf k).want),.int .i64 ((Hf k).sheet),.int .i64 ((Hf k).turn),.int .i64 ((Hf k).at_.x),.int .i64 ((Hf k).at_.y)]))],inv:=fun _=>True,mu:=fun _=>0 }),(3,{ T:=Int->Bool,keep:=[5],keepO:=[9],chg:=fun _=>[],own:=fun u=>[(7,.mq 3 64 u (Ad (An w sh.grain))),(15,.blk 105 [.loc 9 0,.p (.int .i64 sh.id),.p (.int .i64 sh.colour),.p (.int .i64 sh.w),.p (.int .i64 sh.h),.p (.int .i64 sh.grain),.row 13,.row 20]),(13,.row 75 5 w.n (fun k=>[.int .i64 ((DZ w sh k).want),.int .i64 ((DZ w sh k).sheet),.int .i64 ((DZ w sh k).turn),.int .i64 ((DZ w sh k).at_.x),.int .i64 ((DZ w sh k).at_.y)])),(20,.row 96 4 (AZ (It w sh)).n (fun k=>Bk ((AZ (It w sh)).g k)))],inv:=fun _=>True,mu:=fun _=>0 })],anys:=[1001,1002] }) (Af Tryz.f55) (D3 Tryz.f55 (Kx.args (w,sh)) (Kx.lent (w,sh))) (FD Tryz.prog Tryz.f55 Kx (w,sh)):=
  @Eq.mpr _ (let I:=SV.int .i64;let T:=Ad6;let A34:=(↑w.n:Int);let A24:=(0:Int);let A57:=[I A24,I A24,I sh.w,I sh.h];let A22:=(nat_lit 0);let A20:=(AZ (It w sh));let A17:=(An w sh.grain);let A16:=(2:Nat);let A15:=(∀(x:Int),false=false);let A12:=(0:Nat);let A9:=[I sh.id,I sh.colour,I sh.w,I sh.h,I sh.grain];let
 A8:=(A24<=A34/\A34<=A34/\A34*(↑(nat_lit 40):Int)<=(140737488355328:Int));let A5:=(T A34=w.n/\∀(i:Nat),let A60:=(Hf i);i<T A34 -> [I A24,I A24,I A24,I A24,I A24]= [I A60.want,I A60.sheet,I A60.turn,I A60.at_.x,I A60.at_.y]);let A2:=(w.n=w.n/\∀(i:Nat),let A21:=[I (w.g i).id,I (w.g i).colour,I (w.g i).grain,SV.sl A16 (w.g i).ol.n fun(i1 :
 Nat)=>[I ((w.g i).ol.g i1).x,I ((w.g i).ol.g i1).y]];i<w.n->A21=A21);let A7:=(∃(t:L.Sq Ah×Int×(Int->L.Sq Ag)),(w.n=t.1.n/\∀(i:Nat),let A39:=(t.1.g i);i<w.n -> [I (w.g i).id,I (w.g i).colour,I (w.g i).grain,SV.sl A16 (w.g i).ol.n fun(i1:Nat)=>[I ((w.g i).ol.g i1).x,I ((w.g i).ol.g i1).y]]= [I A39.id,I A39.colour,I A39.grain,SV.sl A16
 A39.ol.n fun(i1:Nat)=>[I (A39.ol.g i1).x,I (A39.ol.g i1).y]])/\sh.grain=t.2.1/\True/\∀(u:Nat),True->∃(g:Nat),nat_lit 0=A12/\SV.ref A9 A22=SV.ref A9 A22/\A2/\(t.1.n=w.n/\∀(i:Nat),let A40:=(t.1.g i);i<t.1.n -> [I A40.id,I A40.colour,I A40.grain,SV.sl A16 A40.ol.n fun(i1:Nat)=>[I (A40.ol.g i1).x,I (A40.ol.g i1).y]]= [I (w.g i).id,I (w.g
 i).colour,I (w.g i).grain,SV.sl A16 (w.g i).ol.n fun(i1:Nat)=>[I ((w.g i).ol.g i1).x,I ((w.g i).ol.g i1).y]])/\t.2.1=sh.grain/\A15/\(∀(x:Int),false=true->Ad t.2.2 x=Ad A17 x)/\nat_lit 0=A12/\sh.id=sh.id/\sh.colour=sh.colour/\sh.w=sh.w/\sh.h=sh.h/\sh.grain=sh.grain/\Value.slice AdB A12 A12=Value.slice AdB A12
 A12/\A5/\True);let A6:=(∃(t:L.Sq Ah×Int×(Int->L.Sq Ag)),(w.n=t.1.n/\∀(i:Nat),let A41:=(t.1.g i);i<w.n -> [I (w.g i).id,I (w.g i).colour,I (w.g i).grain,SV.sl A16 (w.g i).ol.n fun(i1:Nat)=>[I ((w.g i).ol.g i1).x,I ((w.g i).ol.g i1).y]]= [I A41.id,I A41.colour,I A41.grain,SV.sl A16 A41.ol.n fun(i1:Nat)=>[I (A41.ol.g i1).x,I (A41.ol.g
 i1).y]])/\sh.grain=t.2.1/\True/\∀(u:Nat),True->A8/\∃(g:Nat),nat_lit 0=A12/\SV.ref A9 A22=SV.ref A9 A22/\A2/\(t.1.n=w.n/\∀(i:Nat),let A42:=(t.1.g i);i<t.1.n -> [I A42.id,I A42.colour,I A42.grain,SV.sl A16 A42.ol.n fun(i1:Nat)=>[I (A42.ol.g i1).x,I (A42.ol.g i1).y]]= [I (w.g i).id,I (w.g i).colour,I (w.g i).grain,SV.sl A16 (w.g
 i).ol.n fun(i1:Nat)=>[I ((w.g i).ol.g i1).x,I ((w.g i).ol.g i1).y]])/\t.2.1=sh.grain/\A15/\(∀(x:Int),false=true->Ad t.2.2 x=Ad A17 x)/\nat_lit 0=A12/\sh.id=sh.id/\sh.colour=sh.colour/\sh.w=sh.w/\sh.h=sh.h/\sh.grain=sh.grain/\Value.slice AdB A12 A12=Value.slice AdB A12 A12/\A5/\True);let A4:=(A8/\A7/\∃(t:L.Sq
 Ah×Int×(Int->L.Sq Ag)),(w.n=t.1.n/\∀(i:Nat),let A43:=(t.1.g i);i<w.n -> [I (w.g i).id,I (w.g i).colour,I (w.g i).grain,SV.sl A16 (w.g i).ol.n fun(i1:Nat)=>[I ((w.g i).ol.g i1).x,I ((w.g i).ol.g i1).y]]= [I A43.id,I A43.colour,I A43.grain,SV.sl A16 A43.ol.n fun(i1:Nat)=>[I (A43.ol.g i1).x,I (A43.ol.g i1).y]])/\sh.grain=t.2.1/\True/\∀(u :
 Nat),True->∃(g:Nat),nat_lit 0=A12/\SV.ref A9 A22=SV.ref A9 A22/\A2/\(t.1.n=w.n/\∀(i:Nat),let A44:=(t.1.g i);i<t.1.n -> [I A44.id,I A44.colour,I A44.grain,SV.sl A16 A44.ol.n fun(i1:Nat)=>[I (A44.ol.g i1).x,I (A44.ol.g i1).y]]= [I (w.g i).id,I (w.g i).colour,I (w.g i).grain,SV.sl A16 (w.g i).ol.n fun(i1:Nat)=>[I ((w.g i).ol.g i1).x,I
 ((w.g i).ol.g i1).y]])/\t.2.1=sh.grain/\A15/\(∀(x:Int),false=true->Ad t.2.2 x=Ad A17 x)/\nat_lit 0=A12/\sh.id=sh.id/\sh.colour=sh.colour/\sh.w=sh.w/\sh.h=sh.h/\sh.grain=sh.grain/\Value.slice AdB A12 A12=Value.slice AdB A12 A12/\A5/\True);let A3:=(A8/\∃(t:L.Sq Ah×Int×(Int->L.Sq Ag)),(w.n=t.1.n/\∀(i
:Nat),let A45:=(t.1.g i);i<w.n -> [I (w.g i).id,I (w.g i).colour,I (w.g i).grain,SV.sl A16 (w.g i).ol.n fun(i1:Nat)=>[I ((w.g i).ol.g i1).x,I ((w.g i).ol.g i1).y]]= [I A45.id,I A45.colour,I A45.grain,SV.sl A16 A45.ol.n fun(i1:Nat)=>[I (A45.ol.g i1).x,I (A45.ol.g i1).y]])/\sh.grain=t.2.1/\True/\∀(u:Nat),True->∃(g:Nat),nat_lit 0=A12/\SV.ref
 A9 A22=SV.ref A9 A22/\A2/\(t.1.n=w.n/\∀(i:Nat),let A46:=(t.1.g i);i<t.1.n -> [I A46.id,I A46.colour,I A46.grain,SV.sl A16 A46.ol.n fun(i1:Nat)=>[I (A46.ol.g i1).x,I (A46.ol.g i1).y]]= [I (w.g i).id,I (w.g i).colour,I (w.g i).grain,SV.sl A16 (w.g i).ol.n fun(i1:Nat)=>[I ((w.g i).ol.g i1).x,I ((w.g i).ol.g i1).y]])/\t.2.1=sh.grain/\A15/\(∀(x :
 Int),false=true->Ad t.2.2 x=Ad A17 x)/\nat_lit 0=A12/\sh.id=sh.id/\sh.colour=sh.colour/\sh.w=sh.w/\sh.h=sh.h/\sh.grain=sh.grain/\Value.slice AdB A12 A12=Value.slice AdB A12 A12/\A5/\True);((A6/\A6/\(∃(t:L.Sq Ah×Int×(Int->L.Sq Ag)),let A25:=(∀(x:Int),false=true->Ad t.2.2 x=Ad A17
 x);let A13:=(t.1.n=w.n/\∀(i:Nat),let A47:=(t.1.g i);i<t.1.n -> [I A47.id,I A47.colour,I A47.grain,SV.sl A16 A47.ol.n fun(i1:Nat)=>[I (A47.ol.g i1).x,I (A47.ol.g i1).y]]= [I (w.g i).id,I (w.g i).colour,I (w.g i).grain,SV.sl A16 (w.g i).ol.n fun(i1:Nat)=>[I ((w.g i).ol.g i1).x,I ((w.g i).ol.g i1).y]]);(w.n=t.1.n/\∀(i:Nat),let A48:=(t.1.g i);i <
 w.n -> [I (w.g i).id,I (w.g i).colour,I (w.g i).grain,SV.sl A16 (w.g i).ol.n fun(i1:Nat)=>[I ((w.g i).ol.g i1).x,I ((w.g i).ol.g i1).y]]= [I A48.id,I A48.colour,I A48.grain,SV.sl A16 A48.ol.n fun(i1:Nat)=>[I (A48.ol.g i1).x,I (A48.ol.g i1).y]])/\sh.grain=t.2.1/\True/\∀(u:Nat),True->(A8/\∃(g:Nat),nat_lit 0=A12/\SV.ref A9 A22=SV.ref A9 A22
 /\ A2/\A13/\t.2.1=sh.grain/\A15/\A25/\nat_lit 0=A12/\sh.id=sh.id/\sh.colour=sh.colour/\sh.w=sh.w/\sh.h=sh.h/\sh.grain=sh.grain/\Value.slice AdB A12 A12=Value.slice AdB A12 A12/\A5/\True)/\A8/\∃(g:Nat),nat_lit 0=A12/\SV.ref A9 A22=SV.ref A9 A22/\A2/\A13/\t.2.1=sh.grain/\A15/\A25/\nat_lit 0=A12/\sh.id=sh.id /\
 sh.colour=sh.colour/\sh.w=sh.w/\sh.h=sh.h/\sh.grain=sh.grain/\Value.slice AdB A12 A12=Value.slice AdB A12 A12/\A5/\True)/\∃(t:L.Sq Ah×Int×(Int->L.Sq Ag)),let A26:=(∀(x:Int),false=true->Ad t.2.2 x=Ad A17 x);let A14:=(t.1.n=w.n/\∀(i:Nat),let A49:=(t.1.g i);i<t.1.n -> [I A49.id,I A49.colour,I
 A49.grain,SV.sl A16 A49.ol.n fun(i1:Nat)=>[I (A49.ol.g i1).x,I (A49.ol.g i1).y]]= [I (w.g i).id,I (w.g i).colour,I (w.g i).grain,SV.sl A16 (w.g i).ol.n fun(i1:Nat)=>[I ((w.g i).ol.g i1).x,I ((w.g i).ol.g i1).y]]);(w.n=t.1.n/\∀(i:Nat),let A50:=(t.1.g i);i<w.n -> [I (w.g i).id,I (w.g i).colour,I (w.g i).grain,SV.sl A16 (w.g i).ol.n fun(i1:Nat)=>[I
 ((w.g i).ol.g i1).x,I ((w.g i).ol.g i1).y]]= [I A50.id,I A50.colour,I A50.grain,SV.sl A16 A50.ol.n fun(i1:Nat)=>[I (A50.ol.g i1).x,I (A50.ol.g i1).y]])/\sh.grain=t.2.1/\True/\∀(u:Nat),True->(A8/\∃(g:Nat),nat_lit 0=A12/\SV.ref A9 A22=SV.ref A9 A22/\A2/\A14/\t.2.1=sh.grain/\A15/\A26/\nat_lit 0=A12/\sh.id=sh.id/\sh.colour=sh.colour /\
 sh.w=sh.w/\sh.h=sh.h/\sh.grain=sh.grain/\Value.slice AdB A12 A12=Value.slice AdB A12 A12/\A5/\True)/\A8/\∃(g:Nat),nat_lit 0=A12/\SV.ref A9 A22=SV.ref A9 A22/\A2/\A14/\t.2.1=sh.grain/\A15/\A26/\nat_lit 0=A12/\sh.id=sh.id/\sh.colour=sh.colour/\sh.w=sh.w/\sh.h=sh.h/\sh.grain=sh.grain/\Value.slice AdB A12
 A12=Value.slice AdB A12 A12/\A5/\True)/\A3/\A4/\A3/\A4/\A3/\A8/\A7/\∃(t:L.Sq Ah×Int×(Int->L.Sq Ag)),(w.n=t.1.n/\∀(i:Nat),let A51:=(t.1.g i);i<w.n -> [I (w.g i).id,I (w.g i).colour,I (w.g i).grain,SV.sl A16 (w.g i).ol.n fun(i1:Nat)=>[I ((w.g i).ol.g i1).x,I ((w.g i).ol.g i1).y]]= [I A51.id,I A51.colour,I A51.grain,SV.sl A16
 A51.ol.n fun(i1:Nat)=>[I (A51.ol.g i1).x,I (A51.ol.g i1).y]])/\sh.grain=t.2.1/\True/\∀(u:Nat),True->∃(g:Nat),nat_lit 0=A12/\SV.ref A9 A22=SV.ref A9 A22/\A2/\(t.1.n=w.n/\∀(i:Nat),let A52:=(t.1.g i);i<t.1.n -> [I A52.id,I A52.colour,I A52.grain,SV.sl A16 A52.ol.n fun(i1:Nat)=>[I (A52.ol.g i1).x,I (A52.ol.g i1).y]]= [I (w.g i).id,I (w.g
 i).colour,I (w.g i).grain,SV.sl A16 (w.g i).ol.n fun(i1:Nat)=>[I ((w.g i).ol.g i1).x,I ((w.g i).ol.g i1).y]])/\t.2.1=sh.grain/\A15/\(∀(x:Int),false=true->Ad t.2.2 x=Ad A17 x)/\nat_lit 0=A12/\sh.id=sh.id/\sh.colour=sh.colour/\sh.w=sh.w/\sh.h=sh.h/\sh.grain=sh.grain/\Value.slice AdB A12 A12=Value.slice AdB A12
 A12/\A5/\True)/\∀(g:Nat),let A1:=(∃(t:L.Sq Ah×Int×(Int->L.Sq Ag)×(Int->Bool)),nat_lit 0=A12/\(w.n=t.1.n/\∀(i:Nat),let A53:=(t.1.g i);i<w.n -> [I (w.g i).id,I (w.g i).colour,I (w.g i).grain,SV.sl A16 (w.g i).ol.n fun(i1:Nat)=>[I ((w.g i).ol.g i1).x,I ((w.g i).ol.g i1).y]]= [I A53.id,I A53.colour,I A53.grain,SV.sl A16 A53.ol.n fun
 (i1:Nat)=>[I (A53.ol.g i1).x,I (A53.ol.g i1).y]])/\sh.grain=t.2.1/\(∀(x:Int),false=t.snd.2.2 x)/\(∀(x:Int),false=true->Ad A17 x=Ad t.snd.2.1 x)/\t.1.n<=(4:Nat)/\∀(u:Nat),True->∃(t_1:L.Sq Ah×Az×(Int->Bool)×(Nat->CL)×List BS×Int×AO),let A58:=(An t_1.1 t_1.2.1.grain);let A32:=(AZ
 t_1.snd.snd.snd.2.1);let A18:=(AZ (DY t_1.1 t_1.2.1 t_1.snd.snd.snd.snd.2.1 t_1.snd.snd.snd.snd.2.2 t_1.snd.snd.2.1 t_1.snd.snd.snd.2.1));nat_lit 0=A12/\Bw t.1.n=t_1.snd.snd.snd.snd.2.1/\SV.agg A57=SV.agg [I t_1.snd.snd.snd.snd.2.2.at_.x,I t_1.snd.snd.snd.snd.2.2.at_.y,I t_1.snd.snd.snd.snd.2.2.size.w,I t_1.snd.snd.snd.snd.2.2.size.h]/\(t.1.n=t_1.1.n/\∀(i
:Nat),let A54:=(t.1.g i);let A35:=(t_1.1.g i);i<t.1.n -> [I A54.id,I A54.colour,I A54.grain,SV.sl A16 A54.ol.n fun(i1:Nat)=>[I (A54.ol.g i1).x,I (A54.ol.g i1).y]]= [I A35.id,I A35.colour,I A35.grain,SV.sl A16 A35.ol.n fun(i1:Nat)=>[I (A35.ol.g i1).x,I (A35.ol.g i1).y]])/\t.2.1=t_1.2.1.grain/\(∀(x:Int),t.snd.2.2 x=t_1.snd.2.1 x)/\(∀(x:Int),
 t.snd.2.2 x=true->Ad t.snd.2.1 x=Ad A58 x)/\nat_lit 0=A12/\sh.id=t_1.2.1.id/\sh.colour=t_1.2.1.colour/\sh.w=t_1.2.1.w/\sh.h=t_1.2.1.h/\sh.grain=t_1.2.1.grain/\(w.n=t_1.1.n/\∀(i:Nat),let A61:=(Hf i);let A27:=(t_1.snd.snd.2.1 i);i<w.n -> [I A61.want,I A61.sheet,I A61.turn,I A61.at_.x,I A61.at_.y]= [I A27.want,I A27.sheet,I A27.turn,I
 A27.at_.x,I A27.at_.y])/\(nat_lit 0=A32.n/\∀(i:Nat),i<nat_lit 0 -> []=Bk (A32.g i))/\(Cs t_1.1/\A24<=t_1.snd.snd.snd.snd.2.1/\t_1.snd.snd.snd.snd.2.1<=Bw t_1.1.n/\CM t_1.snd.snd.snd.snd.2.2/\A32.n+(3:Nat)*T t_1.snd.snd.snd.snd.2.1<=(1000:Nat))/\∀(u:Int->Bool),True->∃(g:Int->Bool),nat_lit 0=nat_lit 0/\(∀(x:Int),u x=g x)/\(∀(x:Int),u
 x=true->Ad A58 x=Ad A17 x)/\nat_lit 0=A12/\t_1.2.1.id=sh.id/\t_1.2.1.colour=sh.colour/\t_1.2.1.w=sh.w/\t_1.2.1.h=sh.h/\t_1.2.1.grain=sh.grain/\(t_1.1.n=w.n/\∀(i:Nat),let A29:=(DZ w sh i);let A10:=(Dr t_1.1 t_1.2.1 t_1.snd.snd.snd.snd.2.1 t_1.snd.snd.snd.snd.2.2 t_1.snd.snd.2.1 t_1.snd.snd.snd.2.1 i);i<t_1.1.n -> [I A10.want,I A10.sheet,
 I A10.turn,I A10.at_.x,I A10.at_.y]= [I A29.want,I A29.sheet,I A29.turn,I A29.at_.x,I A29.at_.y])/\(A18.n=A20.n/\∀(i:Nat),i<A18.n->Bk (A18.g i)=Bk (A20.g i))/\(t_1.1.n=w.n/\∀(i:Nat),let A36:=(t_1.1.g i);i<t_1.1.n -> [I A36.id,I A36.colour,I A36.grain,SV.sl A16 A36.ol.n fun(i1:Nat)=>[I (A36.ol.g i1).x,I (A36.ol.g i1).y]]= [I (w.g i).id,I (w.g
 i).colour,I (w.g i).grain,SV.sl A16 (w.g i).ol.n fun(i1:Nat)=>[I ((w.g i).ol.g i1).x,I ((w.g i).ol.g i1).y]])/\t_1.2.1.grain=sh.grain/\True);True->(A1/\A1/\A1/\A1/\A1/\A1/\A1/\A1/\A1/\A1/\∃(t:L.Sq Ah×Int×(Int->L.Sq Ag)×(Int->Bool)),nat_lit 0=A12/\(w.n=t.1.n/\∀(i:Nat),let A55:=(t.1.g i);i<w.n -> [I (w.g i).id,I (w.g i).colour,I (w.g
 i).grain,SV.sl A16 (w.g i).ol.n fun(i1:Nat)=>[I ((w.g i).ol.g i1).x,I ((w.g i).ol.g i1).y]]= [I A55.id,I A55.colour,I A55.grain,SV.sl A16 A55.ol.n fun(i1:Nat)=>[I (A55.ol.g i1).x,I (A55.ol.g i1).y]])/\sh.grain=t.2.1/\(∀(x:Int),false=t.snd.2.2 x)/\(∀(x:Int),false=true->Ad A17 x=Ad t.snd.2.1 x)/\t.1.n<=(4:Nat)/\∀(u:Nat),
 True->∃(t_1:L.Sq Ah×Az×(Int->Bool)×(Nat->CL)×List BS×Int×AO),let A59:=(An t_1.1 t_1.2.1.grain);let A33:=(AZ t_1.snd.snd.snd.2.1);let A19:=(AZ (DY t_1.1 t_1.2.1 t_1.snd.snd.snd.snd.2.1 t_1.snd.snd.snd.snd.2.2 t_1.snd.snd.2.1 t_1.snd.snd.snd.2.1));nat_lit 0=A12/\Bw t.1.n=t_1.snd.snd.snd.snd.2.1/\SV.agg A57 =
 SV.agg [I t_1.snd.snd.snd.snd.2.2.at_.x,I t_1.snd.snd.snd.snd.2.2.at_.y,I t_1.snd.snd.snd.snd.2.2.size.w,I t_1.snd.snd.snd.snd.2.2.size.h]/\(t.1.n=t_1.1.n/\∀(i:Nat),let A56:=(t.1.g i);let A37:=(t_1.1.g i);i<t.1.n -> [I A56.id,I A56.colour,I A56.grain,SV.sl A16 A56.ol.n fun(i1:Nat)=>[I (A56.ol.g i1).x,I (A56.ol.g i1).y]]= [I A37.id,I A37.colour,I A37.grain,
 SV.sl A16 A37.ol.n fun(i1:Nat)=>[I (A37.ol.g i1).x,I (A37.ol.g i1).y]])/\t.2.1=t_1.2.1.grain/\(∀(x:Int),t.snd.2.2 x=t_1.snd.2.1 x)/\(∀(x:Int),t.snd.2.2 x=true->Ad t.snd.2.1 x=Ad A59 x)/\nat_lit 0=A12/\sh.id=t_1.2.1.id/\sh.colour=t_1.2.1.colour/\sh.w=t_1.2.1.w/\sh.h=t_1.2.1.h/\sh.grain=t_1.2.1.grain/\(w.n=t_1.1.n/\∀(i:Nat),let
 A62:=(Hf i);let A28:=(t_1.snd.snd.2.1 i);i<w.n -> [I A62.want,I A62.sheet,I A62.turn,I A62.at_.x,I A62.at_.y]= [I A28.want,I A28.sheet,I A28.turn,I A28.at_.x,I A28.at_.y])/\(nat_lit 0=A33.n/\∀(i:Nat),i<nat_lit 0 -> []=Bk (A33.g i))/\(Cs t_1.1/\A24<=t_1.snd.snd.snd.snd.2.1/\t_1.snd.snd.snd.snd.2.1<=Bw t_1.1.n/\CM t_1.snd.snd.snd.snd.2.2/\A33.n+(3 :
 Nat)*T t_1.snd.snd.snd.snd.2.1<=(1000:Nat))/\∀(u:Int->Bool),True->∃(g:Int->Bool),nat_lit 0=nat_lit 0/\(∀(x:Int),u x=g x)/\(∀(x:Int),u x=true->Ad A59 x=Ad A17 x)/\nat_lit 0=A12/\t_1.2.1.id=sh.id/\t_1.2.1.colour=sh.colour/\t_1.2.1.w=sh.w/\t_1.2.1.h=sh.h/\t_1.2.1.grain=sh.grain/\(t_1.1.n=w.n/\∀(i:Nat),let A30:=(DZ w sh
 i);let A11:=(Dr t_1.1 t_1.2.1 t_1.snd.snd.snd.snd.2.1 t_1.snd.snd.snd.snd.2.2 t_1.snd.snd.2.1 t_1.snd.snd.snd.2.1 i);i<t_1.1.n -> [I A11.want,I A11.sheet,I A11.turn,I A11.at_.x,I A11.at_.y]= [I A30.want,I A30.sheet,I A30.turn,I A30.at_.x,I A30.at_.y])/\(A19.n=A20.n/\∀(i:Nat),i<A19.n->Bk (A19.g i)=Bk (A20.g i))/\(t_1.1.n=w.n/\∀(i:Nat),let A38:=(t_1.1.g
 i);i<t_1.1.n -> [I A38.id,I A38.colour,I A38.grain,SV.sl A16 A38.ol.n fun(i1:Nat)=>[I (A38.ol.g i1).x,I (A38.ol.g i1).y]]= [I (w.g i).id,I (w.g i).colour,I (w.g i).grain,SV.sl A16 (w.g i).ol.n fun(i1:Nat)=>[I ((w.g i).ol.g i1).x,I ((w.g i).ol.g i1).y]])/\t_1.2.1.grain=sh.grain/\True)/\∀(g:Int->Bool),True->∃(u:Int->Bool),nat_lit 0=A12/\A2/\sh.grain
 = sh.grain/\(∀(x:Int),g x=u x)/\(∀(x:Int),g x=true->Ad A17 x=Ad A17 x)/\nat_lit 0=A12/\sh.id=sh.id/\sh.colour=sh.colour/\sh.w=sh.w/\sh.h=sh.h/\sh.grain=sh.grain/\(w.n=w.n/\∀(i:Nat),let A31:=(DZ w sh i);let A23:=[I A31.want,I A31.sheet,I A31.turn,I A31.at_.x,I A31.at_.y];i<w.n->A23=A23)/\(A20.n=A20.n/\∀(i:Nat),i <
 A20.n->Bk (A20.g i)=Bk (A20.g i))/\True) (by kernel_rfl) (by
  conv=>zeta
  have hp:Cs w/\Cq sh=true:=hp;obtain⟨hok,hsv⟩:=hp;obtain⟨a1,a2,_,_⟩:=LI hok.1;have oA:=Acs hsv;have b1:0<=(w.n:Int):=AdG _;have hw4:=hok.1;have b2:(w.n:Int)*40<=140737488355328:=by omega
  have l1:(AZ []).n+3*(Bw w.n).toNat<=1000:=by show 0+_<=_;omega
  refine⟨(by(try dsimp only);(repeat' with_reducible apply And.intro)<;>first|with_reducible rfl|with_reducible assumption|with_reducible exact AdQ _|with_reducible exact fun _=>rfl|with_reducible exact fun _ _=>rfl|with_reducible exact trivial|exact⟨(0:Nat),(by(try dsimp only);(repeat' with_reducible apply And.intro)<;>first|with_reducible rfl|with_reducible exact fun _=>rfl|with_reducible exact fun _ _=>rfl|with_reducible exact trivial|exact rfl|(intro _;exact rfl)|(intro _ _;exact rfl)|exact trivial|(intro _ h_;exact absurd h_ (oE _)))⟩|exact⟨(w,sh.grain,An w sh.grain),(by(try dsimp only);(repeat' with_reducible apply And.intro)<;>first|with_reducible rfl|with_reducible exact fun _=>rfl|with_reducible exact fun _ _=>rfl|with_reducible exact trivial|(intro u _;exact(by(try dsimp only);(repeat' with_reducible apply And.intro)<;>first|with_reducible rfl|with_reducible assumption|with_reducible exact AdQ _|with_reducible exact fun _=>rfl|with_reducible exact fun _ _=>rfl|with_reducible exact trivial|exact⟨(0:Nat),(by(try dsimp only);(repeat' with_reducible apply And.intro)<;>first|with_reducible rfl|with_reducible exact fun _=>rfl|with_reducible exact fun _ _=>rfl|with_reducible exact trivial|exact rfl|(intro _;exact rfl)|(intro _ _;exact rfl)|exact trivial|(intro _ h_;exact absurd h_ (oE _)))⟩|exact rfl|(intro _;exact rfl)|(intro _ _;exact rfl)|exact b1|exact b2|exact AdQ _|exact trivial|(intro _ h_;exact absurd h_ (oE _))))|exact rfl|(intro _;exact rfl)|(intro _ _;exact rfl)|exact trivial|(intro _ h_;exact absurd h_ (oE _)))⟩|exact rfl|(intro _;exact rfl)|(intro _ _;exact rfl)|exact b1|exact b2|exact AdQ _|exact trivial|(intro _ h_;exact absurd h_ (oE _))),fun _ _=>⟨(by(try dsimp only);(repeat' with_reducible apply And.intro)<;>first|with_reducible rfl|with_reducible exact fun _=>rfl|with_reducible exact fun _ _=>rfl|with_reducible exact trivial|exact⟨(w,sh.grain,An w sh.grain,fun _=>false),(by(try dsimp only);(repeat' with_reducible apply And.intro)<;>first|with_reducible rfl|with_reducible exact hok.1|with_reducible exact fun _=>rfl|with_reducible exact fun _ _=>rfl|with_reducible exact trivial|(intro u _;exact⟨(w,sh,fun _=>false,Hf,[],Bw w.n,QV sh),(by(try dsimp only);(repeat' with_reducible apply And.intro)<;>first|with_reducible rfl|with_reducible assumption|with_reducible exact AdQ _|with_reducible exact fun _=>rfl|with_reducible exact fun _ _=>rfl|with_reducible exact trivial|(intro u _;exact⟨u,(by(try dsimp only);(repeat' with_reducible apply And.intro)<;>first|with_reducible rfl|with_reducible exact fun _=>rfl|with_reducible exact fun _ _=>rfl|with_reducible exact trivial|exact rfl|(intro _;exact rfl)|(intro _ _;exact rfl)|exact trivial|(intro _ h_;exact absurd h_ (oE _)))⟩)|exact rfl|(intro _;exact rfl)|(intro _ _;exact rfl)|exact hok|exact a1|exact AdQ _|exact oA|exact l1|exact trivial|(intro _ h_;exact absurd h_ (oE _)))⟩)|exact rfl|(intro _;exact rfl)|(intro _ _;exact rfl)|exact hok.1|exact trivial|(intro _ h_;exact absurd h_ (oE _)))⟩|exact rfl|(intro _;exact rfl)|(intro _ _;exact rfl)|exact trivial|(intro _ h_;exact absurd h_ (oE _))),fun u _=>(by(try dsimp only);(repeat' with_reducible apply And.intro)<;>first|with_reducible rfl|with_reducible exact fun _=>rfl|with_reducible exact fun _ _=>rfl|with_reducible exact trivial|exact⟨u,(by(try dsimp only);(repeat' with_reducible apply And.intro)<;>first|with_reducible rfl|with_reducible exact fun _=>rfl|with_reducible exact fun _ _=>rfl|with_reducible exact trivial|exact rfl|(intro _;exact rfl)|(intro _ _;exact rfl)|exact trivial|(intro _ h_;exact absurd h_ (oE _)))⟩|exact rfl|(intro _;exact rfl)|(intro _ _;exact rfl)|exact trivial|(intro _ h_;exact absurd h_ (oE _)))⟩⟩)
theorem Acw:Ao Tryz.prog 55:=fun args w=>by kernel_rfl
theorem Acx:Du Tryz.prog 55 Kx:=Gf (n:=2) Tryz.func55 (c:=Af Tryz.f55) (by kernel_rfl) mixed ⟨fun t=>rfl,fun t=>rfl,fun t u=>rfl,fun t u=>rfl,fun t u=>rfl,fun t u=>⟨rfl,rfl⟩,by kernel_rfl,by kernel_rfl⟩ (fun⟨w,sh⟩ hp=>⟨_,Acv w sh hp,⟨show Aa Tryz.prog _ from Aa.nil,rfl,⟨show Ae Tryz.prog _ from Ae.nil,⟨AC.no1 (fun _=>rfl),⟨show By Tryz.prog _ from(By.cons NA N9 (By.cons Q9 Q8 (By.cons Acp eE By.nil))),FamsOk.none (fun _=>rfl)⟩⟩⟩⟩⟩)
def eI (w:(L.Sq Ah)) (sh:Az):Prop:=FK w
def eJ (w:(L.Sq Ah)) (sh:Az):SV:=.tup [.sl 5 (Hg w sh) (fun k=>[.int .i64 ((DZ w sh k).want),.int .i64 ((DZ w sh k).sheet),.int .i64 ((DZ w sh k).turn),.int .i64 ((DZ w sh k).at_.x),.int .i64 ((DZ w sh k).at_.y)]),.sl 4 (HB w sh).n (fun k=>Bk ((HB w sh).g k)),.int .i64 (Gq w sh)]
def eM:List EV->Option (Prop×SV)
 |[.p (.sl 4 w_n w_g),.p (.agg [.int .i64 sh_id,.int .i64 sh_colour,.int .i64 sh_w,.int .i64 sh_h,.int .i64 sh_grain])]=>some ((∀i,i<w_n->G9 (w_g i))/\eI (⟨w_n,fun i=>CK (w_g i)⟩:(L.Sq Ah)) (⟨sh_id,sh_colour,sh_w,sh_h,sh_grain⟩:Az),eJ (⟨w_n,fun i=>CK (w_g i)⟩:(L.Sq Ah)) (⟨sh_id,sh_colour,sh_w,sh_h,sh_grain⟩:Az))
 |_=>none
abbrev eO:SE.Spec:=(AM eM)
def Acy:Aj:={ cC with frz:=BH [(7,[7,13,20,9,15])],specs:=AF [(69,dE)],mks:=EA [(55,Kx)],ren:=fun k=>k }
theorem Acz (w:(L.Sq Ah)) (sh:Az) (hp:eI w sh):vc Tryz.prog (Acy) (Af Tryz.f27) (Ar Tryz.f27 [.p (.sl 4 w.n (fun i=>[.int .i64 ((w.g i).id),.int .i64 ((w.g i).colour),.int .i64 ((w.g i).grain),.sl 2 (w.g i).ol.n (fun i1=>[.int .i64 (((w.g i).ol.g i1).x),.int .i64 (((w.g i).ol.g i1).y)])])),.p (.agg [.int .i64 sh.id,.int .i64 sh.colour,.int .i64 sh.w,.int .i64 sh.h,.int .i64 sh.grain])]) (AL Tryz.prog Tryz.f27 (eJ w sh)):=
 @Eq.mpr _ (let I:=SV.int .i64;let A9:=(0:Nat);let A8:=(HB w sh);let A1:=(L.Sq.mk w.n fun(i:Nat)=>Ah.mk (w.g i).id (w.g i).colour (w.g i).grain (L.Sq.mk (w.g i).ol.n fun(i_1:Nat)=>(w.g i).ol.g i_1));let A6:=(!decide (EF A1 sh=(0:Int)));((∀(i:Nat),i<w.n->∀(i_1:Nat),let A4:=((w.g i).ol.g i_1);i_1<(w.g i).ol.n -> [I A4.x,I A4.y]= [I A4.x,I A4.y])/\FK A1)/\(A6=true->Hg w sh=A9/\A8.n=A9/\EF A1 sh=Gq w sh)/\(A6=false->((!Gn A1 sh)=true->Hg w sh=A9/\A8.n=A9/\(52:Int)=Gq w sh)/\((!Gn A1 sh)=false->∃(t:L.Sq Ah×Az),let A5:=(AZ (It t.1 t.2));(w.n=t.1.n/\∀(i:Nat),let A7:=(t.1.g i);i<w.n -> [I (w.g i).id,I (w.g i).colour,I (w.g i).grain,SV.sl (2:Nat) (w.g i).ol.n fun(i1:Nat)=>[I ((w.g i).ol.g i1).x,I ((w.g i).ol.g i1).y]]= [I A7.id,I A7.colour,I A7.grain,SV.sl (2:Nat) A7.ol.n fun(i1:Nat)=>[I (A7.ol.g i1).x,I (A7.ol.g i1).y]])/\SV.agg [I sh.id,I sh.colour,I sh.w,I sh.h,I sh.grain]=SV.agg [I t.2.id,I t.2.colour,I t.2.w,I t.2.h,I t.2.grain]/\(Cs t.1/\Cq t.2=true)/\∀(u:Int->Bool),True->(t.1.n=Hg w sh/\∀(i:Nat),let A3:=(DZ w sh i);let A2:=(DZ t.1 t.2 i);i<t.1.n -> [I A2.want,I A2.sheet,I A2.turn,I A2.at_.x,I A2.at_.y]= [I A3.want,I A3.sheet,I A3.turn,I A3.at_.x,I A3.at_.y])/\(A5.n=A8.n/\∀(i:Nat),i<A5.n->Bk (A5.g i)=Bk (A8.g i))/\(0:Int)=Gq w sh))) (by kernel_rfl) (by
 conv=>zeta
 have hp:FK w:=hp;refine⟨⟨fun _ _ _ _=>rfl,hp⟩,fun h=>?_,fun h=>⟨fun h2=>?_,fun h2=>?_⟩⟩
 ·have h:(!decide (EF w sh=0))=true:=h;have e1:Gq w sh=EF w sh:=by unfold Gq;rw[h];rfl
  have h0:¬ EF w sh=0:=of_decide_eq_false (CV h);have e2:Hg w sh=0:=by unfold Hg;rw[e1,decide_eq_false h0];rfl
  have e3:(HB w sh).n=0:=by unfold HB;rw[e1,decide_eq_false h0];rfl
  exact⟨e2,e3,e1.symm⟩
 ·have h:(!decide (EF w sh=0))=false:=h;have h2:(!Gn w sh)=true:=h2;have e1:Gq w sh=52:=by unfold Gq;rw[h,h2];rfl
  have e2:Hg w sh=0:=by unfold Hg;rw[e1];rfl
  have e3:(HB w sh).n=0:=by unfold HB;rw[e1];rfl
  exact⟨e2,e3,e1.symm⟩
 ·have h:(!decide (EF w sh=0))=false:=h;have h2:(!Gn w sh)=false:=h2;have e1:Gq w sh=0:=by unfold Gq;rw[h,h2];rfl
  have e2:Hg w sh=w.n:=by unfold Hg;rw[e1];rfl
  have e3:HB w sh=AZ (It w sh):=by unfold HB;rw[e1];rfl
  obtain⟨_,v2,v3⟩:=Acu (of_decide_eq_true (Cl h));have ok:=NJ hp v3;rw[e1,e2,e3];exact⟨(w,sh),(by(try dsimp only);(repeat' with_reducible apply And.intro)<;>first|with_reducible rfl|with_reducible assumption|with_reducible exact fun _=>rfl|with_reducible exact fun _ _=>rfl|with_reducible exact trivial|(intro u _;exact(by(try dsimp only);(repeat' with_reducible apply And.intro)<;>first|with_reducible rfl|with_reducible exact fun _=>rfl|with_reducible exact fun _ _=>rfl|with_reducible exact trivial|exact rfl|(intro _;exact rfl)|(intro _ _;exact rfl)|exact trivial|(intro _ h_;exact absurd h_ (oE _))))|exact rfl|(intro _;exact rfl)|(intro _ _;exact rfl)|exact ok|exact v2|exact trivial|(intro _ h_;exact absurd h_ (oE _)))⟩)
theorem Ac0:AB Tryz.prog 27 eO:=AP Tryz.func27 (c:=Af Tryz.f27) (by kernel_rfl) mixed (fun args p r hs hp=>by
 unfold eM at hs;split at hs
 ·cases hs;exact⟨_,_,Acz _ _ hp.2,(.p (Kg hp.1) (.same _ .nil)),⟨show Aa Tryz.prog _ from(Aa.cons Ab9 AbA Aa.nil),rfl,⟨show Ae Tryz.prog _ from Ae.nil,⟨AC.no1 (fun _=>rfl),⟨show By Tryz.prog _ from(By.cons Acx Acw By.nil),FamsOk.none (fun _=>rfl)⟩⟩⟩⟩⟩
 ·cases hs)
theorem Ac1:Ao Tryz.prog 27:=fun args w=>by kernel_rfl
end
end
end Go.Proofs.YtdkpcdlnfobnnaaGreat
