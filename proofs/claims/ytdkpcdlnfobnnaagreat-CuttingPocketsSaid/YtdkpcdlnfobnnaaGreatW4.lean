/- Parts of the proof that the text of the row joins: a symbolic walk over the model. -/
import Derived.Test.YtdkpcdlnfobnnaaGreatW3
import Derived.Test.YtdkpcdlnfobnnaaGreatE5
import Derived.KernelRfl
import Derived.Test.YtdkpcdlnfobnnaaGreatW2
open List renaming getD_eq_getElem?_getD->AS,mem_filter->rK,getElem?_eq_getElem->Ahz,mem_cons->Ah4,range->Ah5,mem_singleton->Ah9,mem_range->AhB,all_eq_true->AhC,mem_cons_self->AhF,mem_append->AhG,map->AhK,mem_cons_of_mem->AhL,getElem?_append_left->AhP,getElem_of_mem->AhR,getElem?_append_right->AhT,length_append->AhU,getElem_mem->AhX,mem_append_right->Aif,length_map->Aih,pairwise_iff_getElem->Aij,length_cons->Aim,mem_append_left->Aip,pairwise_cons->Ai8,length_filter_le->AiO,length_take->AiP,append_assoc->AiV,pairwise_append->Ajd,filter->Aje
open Nat renaming not_lt_zero->oE,zero_le->rH,le_refl->Ah0,lt_succ_iff_lt_or_eq->Ah6,zero_add->AhO,le_trans->Aig,lt_or_ge->Aio
open Bool renaming and_eq_true->pR,or_eq_false_iff->AhJ,not_eq_true'->Aib,or_eq_true->Aie,and_eq_true_iff->Ain
open Int renaming toNat_natCast->Ah7,toNat->AhD,natCast_nonneg->AhN,le_refl->AhV,le_of_lt->AhW,eq_ofNat_of_zero_le->Aid,le_trans->Ajb
open Option renaming none->AhH
namespace Go.Proofs.YtdkpcdlnfobnnaaGreat
open Go.SE Go.RowKit Tryz
set_option maxRecDepth 100000
set_option maxHeartbeats 4000000
set_option linter.unusedVariables false
attribute [local irreducible] vc
def BP (l:L.Sq L.Pt):Nat:=BE l (Au l)
def Ck (l:L.Sq L.Pt) (b:Int):Nat:=BP l+AZ (BW l b (AP l).n)
theorem AdH {H n:Nat} {g1 g2 g3 g4:Nat->List SV} (h:∀i,i<n+1->AH n g2 g3 i=g4 i):∀i,i<H+n+1->AH (H+n) (AH H g1 g2) g3 i=AH H g1 g4 i:=fun i hi=>by
 unfold AH at *
 by_cases h1:i<H
 ·rw[if_pos (show i<H+n by omega),if_pos h1,if_pos h1]
 ·have:=h (i-H) (by omega);rw[<- this]
  by_cases h2:i<H+n
  ·rw[if_pos h2,if_neg h1,if_neg h1,if_pos (show i-H<n by omega)]
  ·rw[if_neg h2,if_neg (show ¬ i-H<n by omega),show i-(H+n)=i-H-n by omega,if_neg h1]
def gB (l:L.Sq L.Pt) (p:L.Pt):Prop:=l.n<=1000000
def gC (l:L.Sq L.Pt) (p:L.Pt):SV:=.int .i64 (AW l p)
def gD:List EV->Option (Prop×SV)
 |[.p (.sl 2 l_n l_g),.p (.agg [.int .i64 p_x,.int .i64 p_y])]=>some ((∀i,i<l_n->l_g i = [.int .i64 (Ad (l_g i)).x,.int .i64 (Ad (l_g i)).y])/\gB ⟨l_n,fun i=>Ad (l_g i)⟩ (⟨p_x,p_y⟩:L.Pt),gC ⟨l_n,fun i=>Ad (l_g i)⟩ (⟨p_x,p_y⟩:L.Pt))
 |_=>none
abbrev gE:SE.Spec:=(AM gD)
def AdI:Aj:={ muts:=[],frz:=B9 [],specs:=AE [],loops:=fun _=>none,iters:=BG [],rfs:=AQ [],nils:=B3 [] }
theorem AdJ (l:L.Sq L.Pt) (p:L.Pt) (hp:gB l p):vc prog ({ AdI with loops:=AT [(2,{ T:=Nat,keep:=[0,3],keepO:=[],chg:=fun i=>[(5,.p (.int .i64 (i:Int)))],own:=fun _=>[],inv:=fun i=>i<=l.n/\∀j,j<i->Bh p (l.g j)=false,mu:=fun i=>l.n-i })]}) (Ae f181) (Ao f181 [.p (.sl 2 l.n (fun i=>[.int .i64 (l.g i).x,.int .i64 (l.g i).y])),.p (.agg [.int .i64 p.x,.int .i64 p.y])]) (AL prog f181 (gC l p)):=
 @Eq.mpr _ (let I:=SV.int .i64;let T:=AhD;let A4:=(↑l.n:Int);(∃(g:Nat),0=(↑g:Int)/\g<=l.n/\∀(j:Nat),j<g->Bh p (l.g j)=false)/\∀(g:Nat),let A2:=(↑g:Int);let A1:=(decide ((l.g (T A2)).x=p.x)&&decide ((l.g (T A2)).y=p.y));(g<=l.n/\∀(j:Nat),j<g->Bh p (l.g j)=false)->(decide (A2<A4)=true->(0<=A2/\A2<A4)/\(A1=true->A2=AW l p)/\(A1=false->Ab .i64 (A2+(1:Int))/\∃(g':Nat),A2+1=(↑g':Int)/\SV.ref [I p.x,I p.y] 0=SV.ref [I p.x,I p.y] 0/\(l.n=l.n/\∀(i:Nat),let A3:=[I (l.g i).x,I (l.g i).y];i<l.n->A3=A3)/\(g'<=l.n/\∀(j:Nat),j<g'->Bh p (l.g j)=false)/\l.n-g'<l.n-g))/\(decide (A2<A4)=false->(-1:Int)=AW l p)) (by kernel_rfl) (by
 conv=>zeta
 have hn:l.n<=1000000:=hp;refine⟨⟨0,rfl,rH _,fun j hj=>absurd hj (oE _)⟩,fun g hg=>⟨fun hlt=>?_,fun hge=>?_⟩⟩
 ·have hlt:(g:Int)<(l.n:Int):=of_decide_eq_true hlt;have e0:((g:Int)).toNat=g:=Ah7 g;rw[e0,<- Z4];refine⟨⟨by omega,hlt⟩,fun h=>(Ol (by omega) hg.2 h).symm,fun h=>⟨jK,g+1,rfl,rfl,rz,⟨by omega,fun j hj=>?_⟩,by omega⟩⟩;rcases Ah6.1 hj with h'|rfl
  ·exact hg.2 j h'
  ·exact h
 ·have hge:¬ (g:Int)<(l.n:Int):=of_decide_eq_false hge;exact(Z5 (fun j hj=>hg.2 j (by omega))).symm)
theorem AdK:Az prog 181 gE:=AN func181 (c:=Ae f181) (by kernel_rfl) mixed (fun _ _ _ hs hp=>by
 unfold gD at hs;split at hs
 ·cases hs;exact⟨_,_,AdJ _ _ hp.2,(.p (.sl hp.1) (.same _ .nil)),⟨show Aa prog _ from Aa.nil,rfl,nz⟩⟩
 ·cases hs)
theorem AdL:An prog 181:=fun _ _=>by kernel_rfl
abbrev KR:Mk:={ T:=(L.Sq L.Pt),U:=Nat,args:=fun t=>(fun l=>[.p ((.sl 2 l.n (fun i=>[.int .i64 (l.g i).x,.int .i64 (l.g i).y])))]) t,lkeys:=[],keys:=[50],lent:=fun t=>(fun l=>[]) t,pre:=fun t=>(fun l=>Am l=true) t,post:=fun t u=>(fun l=>fun uu=>True) t u,lent':=fun t u=>(fun l=>fun uu=>[]) t u,own:=fun t u=>(fun l=>fun uu=>[(50,.row 69 1 (BP l) (fun i=>[.sl 1 2 (AD [.int .i64 (BJ l (Au l) i),.int .i64 (BK l (Au l) i)] 1)]))]) t u,res:=fun t u=>(fun l=>fun uu=>.row 50) t u }
theorem AdM (l:L.Sq L.Pt) (hp:KR.pre l):vc prog ({ muts:=[7,8],frz:=B9 [],specs:=AE [(180,Zv),(181,gE)],loops:=AT [(4,{ T:=Nat,keep:=[0,3],keepO:=[],chg:=fun k=>[(5,.row 50),(6,.p (.int .i64 (k:Int)))],own:=fun k=>[(50,.row 69 1 (BE l k) (fun i=>[.sl 1 2 (AD [.int .i64 (BJ l k i),.int .i64 (BK l k i)] 1)]))],inv:=fun k=>k<=Au l,mu:=fun k=>Au l-k })],iters:=BG [],rfs:=AQ [],nils:=B3 [(3,[(5,50,69,1)])] }) (Ae f140) (DH f140 (KR.args l) (KR.lent l)) (FB prog f140 KR l):=
 @Eq.mpr _ (let I:=SV.int .i64;let T:=AhD;let M:=Int.tmod;let A19:=(0:Nat);let A15:=(2:Nat);let A13:=(0:Int);let A10:=(1:Nat);let A9:=(l.n=l.n/\∀(i:Nat),let A17:=[I (l.g i).x,I (l.g i).y];i<l.n->A17=A17);let A5:=((∀(i:Nat),let A18:=[I (l.g i).x,I (l.g i).y];i<l.n->A18=A18)/\l.n<=1000000);let A3:=(L.Sq.mk l.n fun(i:Nat)=>l.g i);let A1:=(bif decide (Cb A3 (Au A3)=A13)then Au A3 else A19);let A11:=(↑A1:Int);let A2:=((A1=bif decide (Cb A3 (Au A3)=A13)then Au A3 else A19)/\∀(i:Nat),let A6:=(L.Sq.mk l.n fun(i:Nat)=>l.g i);let A14:=[I (AR A6 i).x,I (AR A6 i).y];(i<bif decide (Cb A6 (Au A6)=A13)then Au A6 else A19)->A14=A14);A5/\(∃(g:Nat),A13=(↑g:Int)/\(0=BE l g/\∀(i:Nat),i<0 -> []= [SV.sl A10 A15 (AD [I (BJ l g i),I (BK l g i)] A10)])/\g<=Au l)/\∀(g:Nat),let A12:=(↑g:Int);let A8:=(A12+(1:Int));let A16:=(AR A3 (T (M A8 A11)));let A4:=(bif !decide ((AR A3 (T A12)).x=A16.x)then !decide ((AR A3 (T A12)).y=A16.y)else false);g<=Au l->(decide (A12<A11)=true->(A13<=A12/\A12<A11)/\Ab .i64 A8/\A11≠A13/\(A13<=M A8 A11/\M A8 A11<A11)/\(A4=true->A5/\A5/\(BE l g+1)*24<=140737488355328/\Ab .i64 A8/\∃(g':Nat),A12+1=(↑g':Int)/\A2/\A9/\(BE l g+1=BE l g'/\∀(i:Nat),let A7:=(L.Sq.mk l.n fun(i:Nat)=>l.g i);i<BE l g+1->AH (BE l g) (fun(i:Nat)=>[SV.sl A10 A15 (AD [I (BJ l g i),I (BK l g i)] A10)]) (fun(x:Nat)=>[SV.sl 1 2 (AD [I (AW A7 (AR A7 (T A12))),I (AW A7 (AR A7 (T (M A8 (↑(bif decide (Cb A7 (Au A7)=A13)then Au A7 else A19):Int)))))] 1)]) i = [SV.sl A10 A15 (AD [I (BJ l g' i),I (BK l g' i)] A10)])/\g'<=Au l/\Au l-g'<Au l-g)/\(A4=false->Ab .i64 A8/\∃(g':Nat),A12+1=(↑g':Int)/\A2/\A9/\(BE l g=BE l g'/\∀(i:Nat),i<BE l g -> [SV.sl A10 A15 (AD [I (BJ l g i),I (BK l g i)] A10)]= [SV.sl A10 A15 (AD [I (BJ l g' i),I (BK l g' i)] A10)])/\g'<=Au l/\Au l-g'<Au l-g))/\(decide (A12<A11)=false->∃(u:Nat),(BE l g=BP l/\∀(i:Nat),i<BE l g -> [SV.sl A10 A15 (AD [I (BJ l g i),I (BK l g i)] A10)]= [SV.sl A10 A15 (AD [I (BJ l (Au l) i),I (BK l (Au l) i)] A10)])/\True)) (by kernel_rfl) (by
 conv=>zeta
 have hv:Am l=true:=hp;obtain⟨n3,n24,hsm,hbd⟩:=CZ hv;obtain⟨hE,hN,hG,w2,wl⟩:=O1 hv;have hE:Cb l (Au l)=0:=hN ▸ hE;have eN:(bif decide (Cb l (Au l)=0)then Au l else 0)=Au l:=by rw[hE];rfl
 rw[eN];refine⟨⟨zr,by omega⟩,⟨0,rfl,⟨rfl,fun i hi=>absurd hi (oE _)⟩,rH _⟩,fun g hg=>⟨fun hlt=>?_,fun hge=>?_⟩⟩
 ·have hlt:(g:Int)<(Au l:Int):=of_decide_eq_true hlt;have e0:((g:Int)).toNat=g:=Ah7 g;have e1:(Int.tmod ((g:Int)+1) (Au l:Int)).toNat=BO (Au l) g:=rfl;have hx:=Gm (n:=Au l) (k:=g) (by omega);rw[e0,e1];have t3:=Int.tmod_nonneg (Au l:Int) (show 0<=(g:Int)+1 by omega);have t4:=Int.tmod_lt_of_pos ((g:Int)+1) (show 0<(Au l:Int)by omega);have c0:BE l g<=g:=H0;have ln:l.n<=1000000:=by omega
  refine⟨⟨by omega,by omega⟩,jK,by omega,⟨t3,t4⟩,fun hp=>?_,fun hp=>?_⟩
  ·have hp:H7 l g=true:=hp;have row:BE l g+1=BE l (g+1)/\∀(i:Nat),i<BE l g+1->AH (BE l g) (fun(i:Nat)=>[SV.sl 1 2 (AD [.int .i64 (BJ l g i),.int .i64 (BK l g i)] 1)]) (fun(x:Nat)=>[SV.sl 1 2 (AD [.int .i64 (AW l (AR l g)),.int .i64 (AW l (AR l (BO (Au l) g)))] 1)]) i = [SV.sl 1 2 (AD [.int .i64 (BJ l (g+1) i),.int .i64 (BK l (g+1) i)] 1)]:=by
    refine⟨(H1 hp).symm,fun i hi=>?_⟩;unfold AH BJ BK
    by_cases h':i<BE l g
    ·rw[if_pos h',H3 (Nat.ne_of_lt h')]
    ·rw[if_neg h'];obtain rfl:i=BE l g:=by omega
     have sn:BI (H7 l) (g+1) (BE l g)=g:=HR hp;rw[sn];rfl
   have o:(BE l g+1)*24<=140737488355328:=by omega
   refine⟨⟨zr,ln⟩,⟨zr,ln⟩,o,jK,g+1,?_⟩;exact(by(try dsimp only);(repeat' with_reducible apply And.intro)<;>first|(with_reducible first|rfl|exact row.1|exact row.2|(intros;exact rfl)|exact trivial)|(intros;exact rfl)|exact row.1|exact row.2|exact(by omega)|exact trivial|(intro _ h_;exact absurd h_ (oE _)))
  ·have hp:H7 l g=false:=hp;refine⟨jK,g+1,?_⟩;have row:BE l g=BE l (g+1)/\∀(i:Nat),i<BE l g -> [SV.sl 1 2 (AD [.int .i64 (BJ l g i),.int .i64 (BK l g i)] 1)]= [SV.sl 1 2 (AD [.int .i64 (BJ l (g+1) i),.int .i64 (BK l (g+1) i)] 1)]:=by
    refine⟨(GW hp).symm,fun i hi=>?_⟩;unfold BJ BK;rw[IC hp]
   exact(by(try dsimp only);(repeat' with_reducible apply And.intro)<;>first|(with_reducible first|rfl|exact row.1|exact row.2|(intros;exact rfl)|exact trivial)|(intros;exact rfl)|exact row.1|exact row.2|exact(by omega)|exact trivial|(intro _ h_;exact absurd h_ (oE _)))
 ·have hge:¬ (g:Int)<(Au l:Int):=of_decide_eq_false hge;obtain rfl:g=Au l:=by omega
  exact⟨(0:Nat),rz,trivial⟩)
theorem AdN:An prog 140:=fun _ _=>by kernel_rfl
theorem AdO:D9 prog 140 KR:=FO (n:=1) func140 (c:=Ae f140) (by kernel_rfl) mixed ⟨fun t=>rfl,fun t=>rfl,fun t u=>rfl,fun t u=>rfl,fun t u=>rfl,fun t u=>⟨rfl,rfl⟩,by kernel_rfl,by kernel_rfl⟩ (fun l hp=>⟨_,AdM l hp,⟨show Aa prog _ from(Aa.cons AaW AaX (Aa.cons AdK AdL Aa.nil)),rfl,nz⟩⟩)
def gF (l:L.Sq L.Pt) (b:Int):Prop:=Am l=true/\0<=b/\b<=4096
def gG (l:L.Sq L.Pt) (b:Int):SV:=.sl 1 (Ck l b) (AH (BP l) (fun i=>[.sl 1 2 (AD [.int .i64 (BJ l (Au l) i),.int .i64 (BK l (Au l) i)] 1)]) (fun i=>[.sl 1 3 (AD [.int .i64 (C2 (BW l b (AP l).n) i),.int .i64 (C3 (BW l b (AP l).n) i),.int .i64 (C4 (BW l b (AP l).n) i)] 1)]))
def gH:List EV->Option (Prop×SV)
 |[.p (.sl 2 l_n l_g),.p (.int .i64 b)]=>some ((∀i,i<l_n->l_g i = [.int .i64 (Ad (l_g i)).x,.int .i64 (Ad (l_g i)).y])/\gF ⟨l_n,fun i=>Ad (l_g i)⟩ b,gG ⟨l_n,fun i=>Ad (l_g i)⟩ b)
 |_=>none
abbrev gI:SE.Spec:=(AM gH)
def AdP:Aj:={ cC with specs:=AE [(8,On),(48,O6)],mks:=Ev [(140,KR)],ren:=fun k=>k }
theorem AdQ (l:L.Sq L.Pt) (b:Int) (hp:gF l b):vc prog ({ AdP with loops:=AT [(4,{ T:=Nat,keep:=[0,1,6],keepO:=[],chg:=fun k=>[(5,.row 50),(8,.p (.int .i64 (k:Int)))],own:=fun k=>[(50,.row 69 1 (BP l+AZ (BW l b k)) (AH (BP l) (fun i=>[.sl 1 2 (AD [.int .i64 (BJ l (Au l) i),.int .i64 (BK l (Au l) i)] 1)]) (fun i=>[.sl 1 3 (AD [.int .i64 (C2 (BW l b k) i),.int .i64 (C3 (BW l b k) i),.int .i64 (C4 (BW l b k) i)] 1)])))],inv:=fun k=>k<=(AP l).n,mu:=fun k=>(AP l).n-k }),(8,{ T:=Nat×Nat,keep:=[0,1,6,8,9],keepO:=[],tie:=fun g=>[(8,.int .i64 (g.1:Int))],chg:=fun g=>[(5,.row 50),(11,.p (.int .i64 (g.2:Int)))],own:=fun g=>[(50,.row 69 1 (BP l+AZ (Cd l b g.1 g.2)) (AH (BP l) (fun i=>[.sl 1 2 (AD [.int .i64 (BJ l (Au l) i),.int .i64 (BK l (Au l) i)] 1)]) (fun i=>[.sl 1 3 (AD [.int .i64 (C2 (Cd l b g.1 g.2) i),.int .i64 (C3 (Cd l b g.1 g.2) i),.int .i64 (C4 (Cd l b g.1 g.2) i)] 1)])))],inv:=fun g=>g.1<(AP l).n/\g.2<=AZ (Cj l b g.1),mu:=fun g=>AZ (Cj l b g.1)-g.2 })]}) (Ae f94) (Ao f94 [.p (.sl 2 l.n (fun i=>[.int .i64 (l.g i).x,.int .i64 (l.g i).y])),.p (.int .i64 b)]) (AL prog f94 (gG l b)):=
 @Eq.mpr _ (let I:=SV.int .i64;let T:=AhD;let A36:=(1:Int);let A31:=(0:Int);let A21:=(3:Nat);let A20:=(BP l);let A19:=(2:Nat);let A15:=(AP l);let A29:=(BW l b A15.n);let A14:=(∀(i:Nat),let A32:=[I (l.g i).x,I (l.g i).y];i<l.n->A32=A32);let A13:=(l.n=l.n/\∀(i:Nat),let A33:=[I (l.g i).x,I (l.g i).y];i<l.n->A33=A33);let A9:=(Au l);let A8:=(1:Nat);let A1:=(L.Sq.mk l.n fun(i:Nat)=>l.g i);let A24:=(↑(C1 A1):Int);∃(t:L.Sq L.Pt),(l.n=t.n/\∀(i:Nat),i<l.n -> [I (l.g i).x,I (l.g i).y]= [I (t.g i).x,I (t.g i).y])/\Am t=true/\∀(u:Nat),True->(A14/\l.n<=1000000)/\(∃(g:Nat),let A25:=(BW l b g);A31=(↑g:Int)/\(BP t=BP l+AZ A25/\∀(i:Nat),i<BP t -> [SV.sl A8 A19 (AD [I (BJ t (Au t) i),I (BK t (Au t) i)] A8)]=AH A20 (fun(i:Nat)=>[SV.sl A8 A19 (AD [I (BJ l A9 i),I (BK l A9 i)] A8)]) (fun(i:Nat)=>[SV.sl A8 A21 (AD [I (C2 A25 i),I (C3 A25 i),I (C4 A25 i)] A8)]) i)/\g<=A15.n)/\∀(g:Nat),let A12:=(↑g:Int);let A34:=((AP A1).g (T A12));let A11:=(BW l b g);let A4:=(AU (BM A1 A34 b));let A35:=(↑A4.n:Int);let A3:=(C1 A1=C1 A1/\∀(i:Nat),let A26:=(L.Sq.mk l.n fun(i:Nat)=>l.g i);let A6:=((AP A26).g i);let A30:=[I A6.fr,I A6.to_,I A6.area];i<C1 A26->A30=A30);g<=A15.n->(decide (A12<A24)=true->(A31<=A12/\A12<A24)/\(A14/\Am A1=true/\Df (↑l.n:Int) A34/\A31<=b/\b<=(4096:Int))/\(∃(g_1:Nat×Nat),let A17:=(Cd l b g_1.1 g_1.2);A31=(↑g_1.2:Int)/\(BP l+AZ A11=BP l+AZ A17/\∀(i:Nat),i<BP l+AZ A11->AH A20 (fun(i:Nat)=>[SV.sl A8 A19 (AD [I (BJ l A9 i),I (BK l A9 i)] A8)]) (fun(i:Nat)=>[SV.sl A8 A21 (AD [I (C2 A11 i),I (C3 A11 i),I (C4 A11 i)] A8)]) i=AH A20 (fun(i:Nat)=>[SV.sl A8 A19 (AD [I (BJ l A9 i),I (BK l A9 i)] A8)]) (fun(i:Nat)=>[SV.sl A8 A21 (AD [I (C2 A17 i),I (C3 A17 i),I (C4 A17 i)] A8)]) i)/\A12=(↑g_1.1:Int)/\g_1.1<A15.n/\g_1.2<=AZ (Cj l b g_1.1))/\∀(g_1:Nat×Nat),let A16:=(↑g_1.2:Int);let A10:=(A31<=A16/\A16<A35);let A7:=(Cd l b g_1.1 g_1.2);A12=(↑g_1.1:Int)/\g_1.1<A15.n/\g_1.2<=AZ (Cj l b g_1.1)->(decide (A16<A35)=true->A10/\A10/\A10/\(BP l+AZ A7+1)*24<=140737488355328/\Ab .i64 (A16+A36)/\∃(g':Nat×Nat),let A18:=(Cd l b g'.1 g'.2);A16+A36=(↑g'.2:Int)/\(A4.n=A4.n/\∀(i:Nat),let A27:=(L.Sq.mk l.n fun(i:Nat)=>l.g i);let A2:=(AU (BM A27 ((AP A27).g (T A12)) b));let A22:=[I (A2.g i).a,I (A2.g i).b,I (A2.g i).c];i<A2.n->A22=A22)/\A12=A12/\A3/\A13/\b=b/\(BP l+AZ A7+1=BP l+AZ A18/\∀(i:Nat),let A28:=(L.Sq.mk l.n fun(i:Nat)=>l.g i);let A5:=((AU (BM A28 ((AP A28).g (T A12)) b)).g (T A16));i<BP l+AZ A7+1->AH (BP l+AZ A7) (AH A20 (fun(i:Nat)=>[SV.sl A8 A19 (AD [I (BJ l A9 i),I (BK l A9 i)] A8)]) fun(i:Nat)=>[SV.sl A8 A21 (AD [I (C2 A7 i),I (C3 A7 i),I (C4 A7 i)] A8)]) (fun(x:Nat)=>[SV.sl 1 3 (AD [I A5.a,I A5.b,I A5.c] 1)]) i=AH A20 (fun(i:Nat)=>[SV.sl A8 A19 (AD [I (BJ l A9 i),I (BK l A9 i)] A8)]) (fun(i:Nat)=>[SV.sl A8 A21 (AD [I (C2 A18 i),I (C3 A18 i),I (C4 A18 i)] A8)]) i)/\(A12=(↑g'.1:Int)/\g'.1<A15.n/\g'.2<=AZ (Cj l b g'.1))/\AZ (Cj l b g'.1)-g'.2<AZ (Cj l b g_1.1)-g_1.2)/\(decide (A16<A35)=false->Ab .i64 (A12+A36)/\∃(g':Nat),let A23:=(BW l b g');A12+A36=(↑g':Int)/\A3/\A13/\b=b/\(BP l+AZ A7=BP l+AZ A23/\∀(i:Nat),i<BP l+AZ A7->AH A20 (fun(i:Nat)=>[SV.sl A8 A19 (AD [I (BJ l A9 i),I (BK l A9 i)] A8)]) (fun(i:Nat)=>[SV.sl A8 A21 (AD [I (C2 A7 i),I (C3 A7 i),I (C4 A7 i)] A8)]) i=AH A20 (fun(i:Nat)=>[SV.sl A8 A19 (AD [I (BJ l A9 i),I (BK l A9 i)] A8)]) (fun(i:Nat)=>[SV.sl A8 A21 (AD [I (C2 A23 i),I (C3 A23 i),I (C4 A23 i)] A8)]) i)/\g'<=A15.n/\A15.n-g'<A15.n-g))/\(decide (A12<A24)=false->BP l+AZ A11=Ck l b/\∀(i:Nat),i<BP l+AZ A11->AH A20 (fun(i:Nat)=>[SV.sl A8 A19 (AD [I (BJ l A9 i),I (BK l A9 i)] A8)]) (fun(i:Nat)=>[SV.sl A8 A21 (AD [I (C2 A11 i),I (C3 A11 i),I (C4 A11 i)] A8)]) i=AH A20 (fun(i:Nat)=>[SV.sl A8 A19 (AD [I (BJ l A9 i),I (BK l A9 i)] A8)]) (fun(i:Nat)=>[SV.sl A8 A21 (AD [I (C2 A29 i),I (C3 A29 i),I (C4 A29 i)] A8)]) i)) (by kernel_rfl) (by
 conv=>zeta
 obtain⟨hv,b0,b1⟩:=(show Am l=true/\0<=b/\b<=4096 from hp);obtain⟨n3,n24,hsm,hbd⟩:=CZ hv;have ln:l.n<=1000000:=by omega
 have eN:C1 l=(AP l).n:=by unfold C1;rw[hv];rfl
 have hr:=MC hv;obtain⟨_,_,_,_,wl⟩:=O1 hv;have hH:BP l<=Au l:=H0;rw[eN];refine⟨l,rz,hv,fun u _=>⟨⟨zr,ln⟩,⟨(0:Nat),rfl,⟨rfl,fun i hi=>(if_pos hi).symm⟩,rH _⟩,fun g hg=>⟨fun hlt=>?_,fun hge=>?_⟩⟩⟩
 ·have hlt:g<(AP l).n:=by have:=of_decide_eq_true hlt;omega
  have e0:((g:Int)).toNat=g:=Ah7 g;rw[e0];have lw:=O3 hv (b:=b) hlt;have lb:=O4 hv (b:=b) g hg;have eW:(AU (BM l ((AP l).g g) b)).n=(Cj l b g).length:=rfl;refine⟨⟨by omega,by omega⟩,⟨zr,hv,KP hv hlt,b0,b1⟩,⟨(g,0),rfl,?_,rfl,hlt,rH _⟩,fun g1 hg1=>?_⟩
  ·dsimp only;rw[cZ];exact rz
  ·obtain⟨k,j⟩:=g1;obtain⟨q1,q2,q3⟩:=hg1;have q1:(g:Int)=(k:Int):=q1;obtain rfl:g=k:=by omega
   have q3:j<=(Cj l b g).length:=q3;have e3:((j:Int)).toNat=j:=Ah7 j;refine⟨fun hl=>?_,fun hl=>?_⟩
   ·have hj : j<(Cj l b g).length :=by
     have hl:(j:Int)<((Cj l b g).length:Int):=of_decide_eq_true hl;omega
    have row:=cY (l:=l) (b:=b) (k:=g) hj;have lt:AZ (Cd l b g j)<=100000:=by
     unfold AZ Cd;rw[AhU,AiP];omega
    have o:(BP l+AZ (Cd l b g j)+1)*24<=140737488355328:=by omega
    have bd:0<=(j:Int)/\(j:Int)<((AU (BM l ((AP l).g g) b)).n:Int):=by rw[eW];omega
    have hm:AZ (Cj l b g)-(j+1)<AZ (Cj l b g)-j:=by unfold AZ;omega
    have r1:BP l+AZ (Cd l b g j)+1=BP l+AZ (Cd l b g (j+1)):=by have:=row.1;omega
    have r2:=AdH (H:=BP l) (g1:=fun i=>[.sl 1 2 (AD [.int .i64 (BJ l (Au l) i),.int .i64 (BK l (Au l) i)] 1)]) row.2;dsimp only;rw[e3];refine⟨bd,bd,bd,o,jK,(g,j+1),?_⟩;exact(by(try dsimp only);(repeat' with_reducible apply And.intro)<;>first|(with_reducible first|rfl|assumption|(intros;exact rfl)|exact trivial)|(intros;exact rfl)|exact r1|exact r2|exact hlt|exact hj|exact hm|exact(by omega)|exact trivial|(intro _ h_;exact absurd h_ (oE _)))
   ·have hj : j = (Cj l b g).length :=by
     have hl:¬ (j:Int)<((Cj l b g).length:Int):=of_decide_eq_false hl;omega
    have row:=dA l b g;unfold AZ at row;subst hj;refine⟨jK,g+1,?_⟩;dsimp only;rw[row];exact(by(try dsimp only);(repeat' with_reducible apply And.intro)<;>first|(with_reducible first|rfl|assumption|(intros;exact rfl)|exact trivial)|(intros;exact rfl)|exact hlt|exact(by omega)|exact trivial|(intro _ h_;exact absurd h_ (oE _)))
 ·have hge:¬ (g:Int)<((AP l).n:Int):=of_decide_eq_false hge;obtain rfl:g=(AP l).n:=by omega
  exact rz)
theorem AdR:Az prog 94 gI:=AN func94 (c:=Ae f94) (by kernel_rfl) mixed (fun _ _ _ hs hp=>by
 unfold gH at hs;split at hs
 ·cases hs;exact⟨_,_,AdQ _ _ hp.2,(.p (.sl hp.1) (.same _ .nil)),⟨show Aa prog _ from(Aa.cons Rf Rg (Aa.cons RB RC Aa.nil)),rfl,⟨show Ac prog _ from Ac.nil,⟨AB.no1 (fun _=>rfl),⟨show Bx prog _ from(Bx.cons AdO AdN Bx.nil),FamsOk.none (fun _=>rfl)⟩⟩⟩⟩⟩
 ·cases hs)
theorem AdS:An prog 94:=fun _ _=>by kernel_rfl
def KS (x:List Bt) (i j:Nat):Int:=bif decide (j=0)then C2 x i else bif decide (j=1)then C3 x i else C4 x i
def KT (l:L.Sq L.Pt) (i j:Nat):Int:=bif decide (j=0)then BJ l (Au l) i else BK l (Au l) i
def BA (l:L.Sq L.Pt) (i:Nat):Nat:=bif decide (i<BP l)then 2 else 3
def Cf (l:L.Sq L.Pt) (i:Nat):Int:=bif decide (i<BP l)then 2 else 3
def Bo (l:L.Sq L.Pt) (b:Int) (i j:Nat):Int:=bif decide (i<BP l)then KT l i j else KS (BW l b (AP l).n) (i-BP l) j
def Dx (l:L.Sq L.Pt) (b:Int) (i:Nat):Nat:=bif decide (i=2)then DF l b else bif decide (i=3)then Et l b else 0
def Ej (i:Nat):Nat:=bif decide (i=2)then 2 else 3
def DO (l:L.Sq L.Pt) (b:Int) (i a j:Nat):Int:=bif decide (i=2)then KT l a j else KS (BW l b (AP l).n) a j
def CG (l:L.Sq L.Pt) (b:Int) (i:Nat):Nat:=bif decide (i<3)then 0 else bif decide (i=3)then DF l b else DF l b+Et l b
def DW (l:L.Sq L.Pt) (b:Int):Int:=bif CO l b then 1 else bif !Cm l b then 51 else 0
def E3 (l:L.Sq L.Pt) (b:Int):Nat:=bif decide (DW l b=0)then Ck l b else 0
theorem gJ {l:L.Sq L.Pt} (hv:Am l=true) {k:Nat} (hk:k<Au l):0<=AW l (AR l k)/\AW l (AR l k)<(l.n:Int):=by
 obtain⟨H,hN,hinj⟩:=JE hv;obtain⟨a,ha,e⟩:=KO hv (k:=k) (by omega);have e2:AR l k=(Av l).g k:=H.at_ k (by omega);rw[e2,e,JF hinj ha];omega
theorem AdT {l:L.Sq L.Pt} (hv:Am l=true) {i:Nat} (hi:i<BP l) (j:Nat):0<=KT l i j/\KT l i j<(l.n:Int):=by
 have h1:BI (H7 l) (Au l) i<Au l:=(R2 hi).1;unfold KT BJ BK O2;cases decide (j=0)with
 |true=>exact gJ hv h1
 |false=>exact gJ hv (Gm (by omega))
theorem gK {l:L.Sq L.Pt} (hv:Am l=true) {b:Int}:∀k,k<=(AP l).n->∀t,t∈BW l b k->(0<=t.a/\t.a<(l.n:Int))/\(0<=t.b/\t.b<(l.n:Int))/\(0<=t.c/\t.c<(l.n:Int))
 |0,_,t,h=>by cases h
 |k+1,hk,t,h=>by
   rw[BW]at h;rcases AhG.1 h with h|h
   ·exact gK hv k (by omega) t h
   ·obtain⟨n3,_⟩:=CZ hv;unfold Cj at h;cases e:BM l ((AP l).g k) b with
    |none=>rw[e]at h;cases h
    |some x=>rw[e]at h;exact((AcB (by omega) (KP hv (by omega)) e).1 t h).1
theorem AdU {x:List Bt} {n:Int} (h:∀t,t∈x->(0<=t.a/\t.a<n)/\(0<=t.b/\t.b<n)/\(0<=t.c/\t.c<n)) {i:Nat} (hi:i<x.length) (j:Nat):0<=KS x i j/\KS x i j<n:=by
 have m:x.getD i ⟨0,0,0⟩∈x:=by
  rw[AS,Ahz hi];exact AhX hi
 obtain⟨h1,h2,h3⟩:=h _ m;unfold KS C2 C3 C4;cases decide (j=0)with
 |true=>exact h1
 |false=>cases decide (j=1)with
   |true=>exact h2
   |false=>exact h3
theorem gL {l:L.Sq L.Pt} (hv:Am l=true) {b:Int} {i:Nat} (hi:i<Ck l b) (j:Nat):0<=Bo l b i j/\Bo l b i j<(l.n:Int):=by
 unfold Bo
 by_cases h:i<BP l
 ·rw[decide_eq_true h];exact AdT hv h j
 ·rw[decide_eq_false h];exact AdU (gK hv _ (Ah0 _)) (by unfold Ck AZ at hi;omega) j
theorem AdV {l:L.Sq L.Pt} {b:Int} {i a:Nat} (h:a<Dx l b i):Cm l b=true/\((i=2/\a<BP l)\/(i=3/\a<AZ (BW l b (AP l).n))):=by
 unfold Dx DF Et at h;cases hc:Cm l b with
 |false=>rw[hc]at h;by_cases h2:i=2<;>by_cases h3:i=3<;>simp[h2,h3]at h
 |true =>
   refine⟨rfl,?_⟩;rw[hc]at h
   by_cases h2:i=2
   ·rw[decide_eq_true h2]at h;exact .inl ⟨h2,h⟩
   ·by_cases h3:i=3
    ·rw[decide_eq_false h2,decide_eq_true h3]at h;exact .inr ⟨h3,h⟩
    ·rw[decide_eq_false h2,decide_eq_false h3]at h;exact absurd h (oE _)
theorem AdW {l:L.Sq L.Pt} {b:Int} {i a:Nat} (h:a<Dx l b i):Cf l (CG l b i+a)=(i:Int)/\BA l (CG l b i+a)=Ej i/\(∀j,Bo l b (CG l b i+a) j=DO l b i a j)/\CG l b i+a<Ck l b:=by
 obtain⟨hc,h1⟩:=AdV h;rcases h1 with ⟨rfl,h1⟩|⟨rfl,h1⟩
 ·have e:CG l b 2+a=a:=AhO a;rw[e];unfold Cf BA Bo Ck;rw[decide_eq_true h1];exact⟨rfl,rfl,fun _=>rfl,by omega⟩
 ·have e:CG l b 3+a=BP l+a:=by show DF l b+a=_;unfold DF;rw[hc];rfl
  rw[e];unfold Cf BA Bo Ck;rw[decide_eq_false (show ¬ BP l+a<BP l by omega),Nat.add_sub_cancel_left];exact⟨rfl,rfl,fun _=>rfl,by omega⟩
theorem AdX {l:L.Sq L.Pt} {b:Int}:∀{i:Nat},i<4->CG l b i+Dx l b i=CG l b (i+1)
 |0,_=>rfl
 |1,_=>rfl
 |2,_=>AhO _
 |3,_=>rfl
theorem gM (l:L.Sq L.Pt) (i:Nat):Ba (.sl 1 2 (AD [.int .i64 (BJ l (Au l) i),.int .i64 (BK l (Au l) i)] 1)) (.sl 1 2 (fun j=>[.int .i64 (KT l i j)])):=.sl (fun k hk=>by
 match k,hk with
 |0,_=>rfl
 |1,_=>rfl)
theorem gN (x:List Bt) (i:Nat):Ba (.sl 1 3 (AD [.int .i64 (C2 x i),.int .i64 (C3 x i),.int .i64 (C4 x i)] 1)) (.sl 1 3 (fun j=>[.int .i64 (KS x i j)])):=.sl (fun k hk=>by
 match k,hk with
 |0,_=>rfl
 |1,_=>rfl
 |2,_=>rfl)
theorem gO {sz n:Nat} {f g:Nat->SV} (h:∀i,i<n->Ba (f i) (g i)):Ba (.sl sz n (fun i=>[f i])) (.sl sz n (fun i=>[g i])):=.sl2 (fun _ _=>rfl) (fun i hi j hj=>by
 have hj:j<1:=hj;obtain rfl:j=0:=by omega
 exact h i hi)
theorem AdY (l:L.Sq L.Pt) (b:Int):Ba (.sl 1 (Ck l b) (AH (BP l) (fun i=>[.sl 1 2 (AD [.int .i64 (BJ l (Au l) i),.int .i64 (BK l (Au l) i)] 1)]) fun i=>[.sl 1 3 (AD [.int .i64 (C2 (BW l b (AP l).n) i),.int .i64 (C3 (BW l b (AP l).n) i),.int .i64 (C4 (BW l b (AP l).n) i)] 1)])) (.sl 1 (Ck l b) fun i=>[.sl 1 (BA l i) fun j=>[.int .i64 (Bo l b i j)]]):=by
 refine .sl2 (fun i hi=>?_) (fun i hi j hj=>?_)
 ·unfold AH;split<;>rfl
 ·unfold AH at hj ⊢;unfold BA Bo
  by_cases h:i<BP l
  ·rw[if_pos h]at hj ⊢;have hj:j<1:=hj;obtain rfl:j=0:=by omega
   rw[decide_eq_true h];exact gM l i
  ·rw[if_neg h]at hj ⊢;have hj:j<1:=hj;obtain rfl:j=0:=by omega
   rw[decide_eq_false h];exact gN _ _
theorem AdZ (l:L.Sq L.Pt) (b:Int):Ba (.sl 1 4 (AD [.raw (.slice none 0 0),.raw (.slice none 0 0),.sl 1 (DF l b) fun i=>[.sl 1 2 (AD [.int .i64 (BJ l (Au l) i),.int .i64 (BK l (Au l) i)] 1)],.sl 1 (Et l b) fun i=>[.sl 1 3 (AD [.int .i64 (C2 (BW l b (AP l).n) i),.int .i64 (C3 (BW l b (AP l).n) i),.int .i64 (C4 (BW l b (AP l).n) i)] 1)]] 1)) (.sl 1 4 fun i=>[.sl 1 (Dx l b i) fun a=>[.sl 1 (Ej i) fun j=>[.int .i64 (DO l b i a j)]]]):=by
 refine .sl2 (fun i hi=>?_) (fun i hi j hj=>?_)
 ·match i,hi with
  |0,_=>rfl
  |1,_=>rfl
  |2,_=>rfl
  |3,_=>rfl
 ·match i,hi with
  |0,_=>match j,hj with
    |0,_=>exact Ba.nil
  |1,_=>match j,hj with
    |0,_=>exact Ba.nil
  |2,_=>match j,hj with
    |0,_=>exact gO fun a _=>gM l a
  |3,_=>match j,hj with
    |0,_=>exact gO fun a _=>gN _ a
theorem RE {l:L.Sq L.Pt} (hv:Am l=true) (b:Int):Ck l b<=100000/\DF l b<=100000/\Et l b<=100000:=by
 obtain⟨n3,n24,_,_⟩:=CZ hv;obtain⟨_,_,_,_,wl⟩:=O1 hv;have hH:BP l<=Au l:=H0;have hr:=MC hv;have hb:=O4 hv (b:=b) _ (Ah0 _);have h1:DF l b<=BP l:=by
  unfold DF;cases Cm l b
  ·exact rH _
  ·exact Ah0 _
 have h2:Et l b<=(BW l b (AP l).n).length:=by
  unfold Et;cases Cm l b
  ·exact rH _
  ·exact Ah0 _
 have h3:Ck l b=BP l+(BW l b (AP l).n).length:=rfl;omega
theorem Aea {l:L.Sq L.Pt} (hv:Am l=true) (b:Int) (i:Nat):CG l b i<=200000/\Dx l b i<=100000:=by
 obtain⟨_,h1,h2⟩:=RE hv b;unfold CG Dx;constructor
 ·cases decide (i<3)
  ·cases decide (i=3)
   ·show DF l b+Et l b<=_;omega
   ·show DF l b<=_;omega
  ·exact rH _
 ·cases decide (i=2)
  ·cases decide (i=3)
   ·exact rH _
   ·exact h2
  ·exact h1
def gP (l:L.Sq L.Pt) (c:L.Sq L.Pt) (sheet:Int) (want:Int) (b:Int):Prop:=Am l=true/\0<=b/\b<=4096/\c.n=l.n
def gQ (l:L.Sq L.Pt) (c:L.Sq L.Pt) (sheet:Int) (want:Int) (b:Int):SV:=.sl 4 (Ck l b) (fun q=>[.int .i64 sheet,.int .i64 (Cf l q),.int .i64 want,.sl 2 (BA l q) (fun j=>[.int .i64 (c.g (Bo l b q j).toNat).x,.int .i64 (c.g (Bo l b q j).toNat).y])])
def gR:List EV->Option (Prop×SV)
 |[.p (.sl 2 l_n l_g),.p (.sl 2 c_n c_g),.p (.int .i64 sheet),.p (.int .i64 want),.p (.int .i64 b)]=>some ((∀i,i<l_n->l_g i = [.int .i64 (Ad (l_g i)).x,.int .i64 (Ad (l_g i)).y])/\(∀i,i<c_n->c_g i = [.int .i64 (Ad (c_g i)).x,.int .i64 (Ad (c_g i)).y])/\gP ⟨l_n,fun i=>Ad (l_g i)⟩ ⟨c_n,fun i=>Ad (c_g i)⟩ sheet want b,gQ ⟨l_n,fun i=>Ad (l_g i)⟩ ⟨c_n,fun i=>Ad (c_g i)⟩ sheet want b)
 |_=>none
abbrev gS:SE.Spec:=(AM gR)
def Aeb:Aj:={ cC with muts:=[14],frz:=B9 [(13,[57])],specs:=AE [(94,gI)],nils:=B3 [(3,[(11,62,96,4)]),(9,[(14,57,39,2)])] }
theorem Aec (l:L.Sq L.Pt) (c:L.Sq L.Pt) (sheet:Int) (want:Int) (b:Int) (hp:gP l c sheet want b):vc prog ({ Aeb with loops:=AT [(4,{ T:=Nat,keep:=[1,2,3,12],keepO:=[],chg:=fun k=>[(11,.row 62),(13,.p (.int .i64 (k:Int)))],own:=fun k=>[(62,.row 96 4 (k) (fun q=>[.int .i64 sheet,.int .i64 (Cf l q),.int .i64 want,.sl 2 (BA l q) (fun j=>[.int .i64 (c.g (Bo l b q j).toNat).x,.int .i64 (c.g (Bo l b q j).toNat).y])]))],inv:=fun k=>k<=Ck l b,mu:=fun k=>Ck l b-k }),(10,{ T:=Nat×Nat,keep:=[1,2,3,11,12,13,14],keepO:=[62],tie:=fun g=>[(13,.int .i64 (g.1:Int))],chg:=fun g=>[(15,.p (.int .i64 (g.2:Int)))],own:=fun g=>[(14,.blk 96 [.p (.int .i64 sheet),.p (.int .i64 (Cf l g.1)),.p (.int .i64 want),.row 57]),(57,.row 39 2 g.2 (fun j=>[.int .i64 (c.g (Bo l b g.1 j).toNat).x,.int .i64 (c.g (Bo l b g.1 j).toNat).y]))],inv:=fun g=>g.1<Ck l b/\g.2<=BA l g.1,mu:=fun g=>BA l g.1-g.2 })],rfs:=AQ [],joins:=AT [(9,{ T:=Nat,keep:=[1,2,3,11,12,13,14],keepO:=[62],chg:=fun _=>[],own:=fun k=>[(14,.blk 96 [.p (.int .i64 sheet),.p (.int .i64 (Cf l k)),.p (.int .i64 want),.p (.raw (.slice none 0 0))])],inv:=fun k=>k<Ck l b,mu:=fun _=>0,tie:=fun k=>[(13,.int .i64 (k:Int))] })],castL:=Pa [(4,[(12,.sl 1 (Ck l b) (fun i=>[.sl 1 (BA l i) (fun j=>[.int .i64 (Bo l b i j)])]))])] }) (Ae f51) (Ao f51 [.p (.sl 2 l.n (fun i=>[.int .i64 (l.g i).x,.int .i64 (l.g i).y])),.p (.sl 2 c.n (fun i=>[.int .i64 (c.g i).x,.int .i64 (c.g i).y])),.p (.int .i64 sheet),.p (.int .i64 want),.p (.int .i64 b)]) (AL prog f51 (gQ l c sheet want b)):=
 @Eq.mpr _ (let I:=SV.int .i64;let T:=AhD;let A33:=(1:Int);let A32:=(140737488355328:Nat);let A20:=(2:Nat);let A19:=(0:Int);let A18:=(1:Nat);let A15:=(↑(Ck l b):Int);let A14:=(0:Nat);let A13:=(L.Sq.mk l.n fun(i:Nat)=>l.g i);let A3:=(c.n=c.n/\∀(i:Nat),let A25:=[I (c.g i).x,I (c.g i).y];i<c.n->A25=A25);let A2:=(Ck l b=Ck l b/\∀(i:Nat),let A12:=[SV.sl A18 (BA l i) fun(j:Nat)=>[I (Bo l b i j)]];i<Ck l b->A12=A12);((∀(i:Nat),let A26:=[I (l.g i).x,I (l.g i).y];i<l.n->A26=A26)/\Am A13=true/\A19<=b/\b<=(4096:Int))/\Ba (SV.sl 1 (Ck A13 b) (AH (BP A13) (fun(i:Nat)=>let A9:=(L.Sq.mk l.n fun(i:Nat)=>l.g i);[SV.sl A18 A20 (AD [I (BJ A9 (Au A9) i),I (BK A9 (Au A9) i)] A18)]) fun(i:Nat)=>let A16:=(L.Sq.mk l.n fun(i:Nat)=>l.g i);let A5:=(BW A16 b (AP A16).n);[SV.sl A18 3 (AD [I (C2 A5 i),I (C3 A5 i),I (C4 A5 i)] A18)])) (SV.sl 1 (Ck l b) fun(i:Nat)=>[SV.sl A18 (BA l i) fun(j:Nat)=>[I (Bo l b i j)]])/\(∃(g:Nat),A19=(↑g:Int)/\(0=g/\∀(i:Nat),i<0 -> []= [I sheet,I (Cf l i),I want,SV.sl A20 (BA l i) fun(j:Nat)=>let A27:=(c.g (T (Bo l b i j)));[I A27.x,I A27.y]])/\g<=Ck l b)/\∀(g:Nat),let A4:=(↑g:Int);let A11:=(A19<=A4/\A4<A15);let A10:=(↑(BA l (T A4)):Int);let A1:=(g=g/\∀(i:Nat),let A6:=[I sheet,I (Cf l i),I want,SV.sl A20 (BA l i) fun(j:Nat)=>let A28:=(c.g (T (Bo l b i j)));[I A28.x,I A28.y]];i<g->A6=A6);g<=Ck l b->(decide (A4<A15)=true->(A11/\(decide (A10=3)=true->∃(g_1:Nat),0=0/\A4=A4/\A2/\A3/\sheet=sheet/\want=want/\sheet=sheet/\(3:Int)=Cf l g_1/\want=want/\Value.slice AhH A14 A14=Value.slice AhH A14 A14/\A1/\A4=(↑g_1:Int)/\g_1<Ck l b)/\(decide (A10=3)=false->∃(g_1:Nat),0=0/\A4=A4/\A2/\A3/\sheet=sheet/\want=want/\sheet=sheet/\(2:Int)=Cf l g_1/\want=want/\Value.slice AhH A14 A14=Value.slice AhH A14 A14/\A1/\A4=(↑g_1:Int)/\g_1<Ck l b))/\∀(g_1:Nat),A4=(↑g_1:Int)/\g_1<Ck l b->(∃(g_2:Nat×Nat),A19=(↑g_2.2:Int)/\sheet=sheet/\Cf l g_1=Cf l g_2.1/\want=want/\(0=g_2.2/\∀(i:Nat),let A21:=(c.g (T (Bo l b g_2.1 i)));i<0 -> []= [I A21.x,I A21.y])/\A4=(↑g_2.1:Int)/\g_2.1<Ck l b/\g_2.2<=BA l g_2.1)/\∀(g_2:Nat×Nat),let A8:=(↑g_2.2:Int);let A17:=(c.g (T (Bo l b (T A4) (T A8))));A4=(↑g_2.1:Int)/\g_2.1<Ck l b/\g_2.2<=BA l g_2.1->A11/\(decide (A8<A10)=true->A11/\(A19<=A8/\A8<A10)/\(A19<=Bo l b (T A4) (T A8)/\Bo l b (T A4) (T A8)<(↑c.n:Int))/\(g_2.2+1)*16<=A32/\Ab .i64 (A8+A33)/\∃(g':Nat×Nat),A8+A33=(↑g'.2:Int)/\0=0/\A4=A4/\A2/\A3/\sheet=sheet/\want=want/\sheet=sheet/\Cf l g_2.1=Cf l g'.1/\want=want/\(g_2.2+1=g'.2/\∀(i:Nat),let A24:=(c.g (T (Bo l b g'.1 i)));i<g_2.2+1->AH g_2.2 (fun(j:Nat)=>let A22:=(c.g (T (Bo l b g_2.1 j)));[I A22.x,I A22.y]) (fun(x:Nat)=>[I A17.x,I A17.y]) i = [I A24.x,I A24.y])/\A1/\(A4=(↑g'.1:Int)/\g'.1<Ck l b/\g'.2<=BA l g'.1)/\BA l g'.1-g'.2<BA l g_2.1-g_2.2)/\(decide (A8<A10)=false->(g+1)*48<=A32/\Ab .i64 (A4+A33)/\∃(g':Nat),A4+A33=(↑g':Int)/\A2/\A3/\sheet=sheet/\want=want/\(g+1=g'/\∀(i:Nat),i<g+1->AH g (fun(q:Nat)=>[I sheet,I (Cf l q),I want,SV.sl A20 (BA l q) fun(j:Nat)=>let A29:=(c.g (T (Bo l b q j)));[I A29.x,I A29.y]]) (fun(x:Nat)=>[I sheet,I (Cf l g_2.1),I want,SV.sl 2 g_2.2 fun(j:Nat)=>let A23:=(c.g (T (Bo l b g_2.1 j)));[I A23.x,I A23.y]]) i = [I sheet,I (Cf l i),I want,SV.sl A20 (BA l i) fun(j:Nat)=>let A30:=(c.g (T (Bo l b i j)));[I A30.x,I A30.y]])/\g'<=Ck l b/\Ck l b-g'<Ck l b-g))/\(decide (A4<A15)=false->g=Ck l b/\∀(i:Nat),let A7:=[I sheet,I (Cf l i),I want,SV.sl A20 (BA l i) fun(j:Nat)=>let A31:=(c.g (T (Bo l b i j)));[I A31.x,I A31.y]];i<g->A7=A7)) (by kernel_rfl) (by
 conv=>zeta
 obtain⟨hv,b0,b1,cn⟩:=(show Am l=true/\0<=b/\b<=4096/\c.n=l.n from hp);obtain⟨hT,_,_⟩:=RE hv b;have tn:∀n:Nat,((n:Int)).toNat=n:=fun n=>Ah7 n;refine⟨⟨zr,hv,b0,b1⟩,AdY l b,⟨(0:Nat),rfl,⟨rfl,fun i hi=>absurd hi (oE _)⟩,rH _⟩,fun g hg=>⟨fun hc=>?_,fun hc=>?_⟩⟩;rotate_left
 ·have hc:=of_decide_eq_false hc;obtain rfl:g=Ck l b:=by omega
  exact rz
 have hc:=of_decide_eq_true hc;have hlt:g<Ck l b:=by omega
 have A:0<=(g:Int)/\(g:Int)<(Ck l b:Int):=by omega
 rw[tn g];have kk:(decide ((BA l g:Int)=3)=true->3=Cf l g)/\(decide ((BA l g:Int)=3)=false->2=Cf l g):=by
  unfold BA Cf;cases decide (g<BP l)
  ·exact⟨fun _=>rfl,fun h=>absurd (show decide (((3:Nat):Int)=3)=false from h) (by decide)⟩
  ·exact⟨fun h=>absurd (show decide (((2:Nat):Int)=3)=true from h) (by decide),fun _=>rfl⟩
 refine⟨⟨A,fun h=>⟨g,rfl,rfl,rz,rz,rfl,rfl,rfl,kk.1 h,rfl,rfl,rz,rfl,hlt⟩,fun h=>⟨g,rfl,rfl,rz,rz,rfl,rfl,rfl,kk.2 h,rfl,rfl,rz,rfl,hlt⟩⟩,fun g1 hg1=>?_⟩;obtain rfl:g=g1:=by omega
 refine⟨⟨(g,0),rfl,rfl,rfl,rfl,⟨rfl,fun i hi=>absurd hi (oE _)⟩,rfl,hlt,rH _⟩,fun g2 hg2=>?_⟩;obtain⟨k,j⟩:=g2;dsimp only at hg2 ⊢;obtain⟨q1,_,q3⟩:=hg2;obtain rfl:g=k:=by omega
 rw[tn j];refine⟨A,fun hl=>?_,fun hl=>?_⟩
 ·have hl:=of_decide_eq_true hl;have hj:j<BA l g:=by omega
  have fx:=gL hv hlt j;rw[<- cn]at fx;have jb:j<=3:=by
   have:BA l g<=3:=by unfold BA;cases decide (g<BP l)<;>decide
   omega
  have row:∀i,i<j+1->AH j (fun j=>[SV.int .i64 (c.g (Bo l b g j).toNat).x,.int .i64 (c.g (Bo l b g j).toNat).y]) (fun _=>[.int .i64 (c.g (Bo l b g j).toNat).x,.int .i64 (c.g (Bo l b g j).toNat).y]) i = [.int .i64 (c.g (Bo l b g i).toNat).x,.int .i64 (c.g (Bo l b g i).toNat).y]:=fun i hi=>by
   unfold AH
   by_cases h:i<j
   ·rw[if_pos h]
   ·rw[if_neg h,show i=j by omega]
  refine⟨A,⟨by omega,hl⟩,fx,by omega,jK,(g,j+1),?_⟩;exact(by(try dsimp only);(repeat' with_reducible apply And.intro)<;>first|(with_reducible first|rfl|assumption|(intros;exact rfl)|exact trivial)|(intros;exact rfl)|exact row|exact hlt|exact(by omega)|exact trivial|(intro _ h_;exact absurd h_ (oE _)))
 ·have hl:=of_decide_eq_false hl;obtain rfl:j=BA l g:=by omega
  have row:∀i,i<g+1->AH g (fun q=>[SV.int .i64 sheet,.int .i64 (Cf l q),.int .i64 want,.sl 2 (BA l q) fun j=>[.int .i64 (c.g (Bo l b q j).toNat).x,.int .i64 (c.g (Bo l b q j).toNat).y]]) (fun _=>[SV.int .i64 sheet,.int .i64 (Cf l g),.int .i64 want,.sl 2 (BA l g) fun j=>[.int .i64 (c.g (Bo l b g j).toNat).x,.int .i64 (c.g (Bo l b g j).toNat).y]]) i=(fun q=>[SV.int .i64 sheet,.int .i64 (Cf l q),.int .i64 want,.sl 2 (BA l q) fun j=>[.int .i64 (c.g (Bo l b q j).toNat).x,.int .i64 (c.g (Bo l b q j).toNat).y]]) i:=fun i hi=>by
   unfold AH
   by_cases h:i<g
   ·rw[if_pos h]
   ·rw[if_neg h,show i=g by omega]
  refine⟨by omega,jK,g+1,?_⟩;exact(by(try dsimp only);(repeat' with_reducible apply And.intro)<;>first|(with_reducible first|rfl|assumption|(intros;exact rfl)|exact trivial)|(intros;exact rfl)|exact row|exact hlt|exact(by omega)|exact trivial|(intro _ h_;exact absurd h_ (oE _))))
theorem Aed:Az prog 51 gS:=AN func51 (c:=Ae f51) (by kernel_rfl) mixed (fun _ _ _ hs hp=>by
 unfold gR at hs;split at hs
 ·cases hs;exact⟨_,_,Aec _ _ _ _ _ hp.2.2,(.p (.sl hp.1) (.p (.sl hp.2.1) (.same _ (.same _ (.same _ .nil))))),⟨show Aa prog _ from(Aa.cons AdR AdS Aa.nil),rfl,nz⟩⟩
 ·cases hs)
theorem Aee:An prog 51:=fun _ _=>by kernel_rfl
def gT (l:L.Sq L.Pt) (c:L.Sq L.Pt) (b:Int) (sheet:Int) (want:Int):Prop:=Am l=true/\0<=b/\b<=4096/\c.n=l.n
def gU (l:L.Sq L.Pt) (c:L.Sq L.Pt) (b:Int) (sheet:Int) (want:Int):SV:=.tup [.sl 4 (DF l b+Et l b) (fun q=>[.int .i64 sheet,.int .i64 (Cf l q),.int .i64 want,.sl 2 (BA l q) (fun j=>[.int .i64 (c.g (Bo l b q j).toNat).x,.int .i64 (c.g (Bo l b q j).toNat).y])]),.bool (Cm l b)]
def gV:List EV->Option (Prop×SV)
 |[.p (.sl 2 l_n l_g),.p (.sl 2 c_n c_g),.p (.int .i64 b),.p (.int .i64 sheet),.p (.int .i64 want)]=>some ((∀i,i<l_n->l_g i = [.int .i64 (Ad (l_g i)).x,.int .i64 (Ad (l_g i)).y])/\(∀i,i<c_n->c_g i = [.int .i64 (Ad (c_g i)).x,.int .i64 (Ad (c_g i)).y])/\gT ⟨l_n,fun i=>Ad (l_g i)⟩ ⟨c_n,fun i=>Ad (c_g i)⟩ b sheet want,gU ⟨l_n,fun i=>Ad (l_g i)⟩ ⟨c_n,fun i=>Ad (c_g i)⟩ b sheet want)
 |_=>none
abbrev gW:SE.Spec:=(AM gV)
def Aef:Aj:={ cC with muts:=[20],frz:=B9 [(15,[62])],specs:=AE [(39,R6)],nils:=B3 [(3,[(15,68,96,4)]),(10,[(20,62,39,2)])] }
theorem Aeg (l:L.Sq L.Pt) (c:L.Sq L.Pt) (b:Int) (sheet:Int) (want:Int) (hp:gT l c b sheet want):vc prog ({ Aef with loops:=AT [(4,{ T:=Nat,keep:=[1,3,4,14,32,33],keepO:=[],chg:=fun k=>[(15,.row 68),(34,.p (.int .i64 (k:Int)))],own:=fun k=>[(68,.row 96 4 (CG l b k) (fun q=>[.int .i64 sheet,.int .i64 (Cf l q),.int .i64 want,.sl 2 (BA l q) (fun j=>[.int .i64 (c.g (Bo l b q j).toNat).x,.int .i64 (c.g (Bo l b q j).toNat).y])]))],inv:=fun k=>k<=4,mu:=fun k=>4-k }),(7,{ T:=Nat×Nat,keep:=[1,3,4,14,16,32,33,34,39,40],keepO:=[],tie:=fun g=>[(34,.int .i64 (g.1:Int)),(16,.int .i64 (g.1:Int))],chg:=fun g=>[(15,.row 68),(41,.p (.int .i64 (g.2:Int)))],own:=fun g=>[(68,.row 96 4 (CG l b g.1+g.2) (fun q=>[.int .i64 sheet,.int .i64 (Cf l q),.int .i64 want,.sl 2 (BA l q) (fun j=>[.int .i64 (c.g (Bo l b q j).toNat).x,.int .i64 (c.g (Bo l b q j).toNat).y])]))],inv:=fun g=>g.1<4/\g.2<=Dx l b g.1,mu:=fun g=>Dx l b g.1-g.2 }),(11,{ T:=(Nat×Nat)×Nat,keep:=[1,3,4,14,15,16,20,32,33,34,39,40,41,49,50],keepO:=[68],tie:=fun g=>[(34,.int .i64 (g.1.1:Int)),(16,.int .i64 (g.1.1:Int)),(41,.int .i64 (g.1.2:Int))],chg:=fun g=>[(51,.p (.int .i64 (g.2:Int)))],own:=fun g=>[(20,.blk 96 [.p (.int .i64 sheet),.p (.int .i64 ((g.1.1:Int))),.p (.int .i64 want),.row 62]),(62,.row 39 2 g.2 (fun j=>[.int .i64 (c.g (DO l b g.1.1 g.1.2 j).toNat).x,.int .i64 (c.g (DO l b g.1.1 g.1.2 j).toNat).y]))],inv:=fun g=>(g.1.1<4/\g.1.2<Dx l b g.1.1)/\g.2<=Ej g.1.1,mu:=fun g=>Ej g.1.1-g.2 })],rfs:=AQ [],castL:=Pa [(4,[(32,.sl 1 4 (fun i=>[.sl 1 (Dx l b i) (fun a=>[.sl 1 (Ej i) (fun j=>[.int .i64 (DO l b i a j)])])]))])] }) (Ae f50) (Ao f50 [.p (.sl 2 l.n (fun i=>[.int .i64 (l.g i).x,.int .i64 (l.g i).y])),.p (.sl 2 c.n (fun i=>[.int .i64 (c.g i).x,.int .i64 (c.g i).y])),.p (.int .i64 b),.p (.int .i64 sheet),.p (.int .i64 want)]) (AL prog f50 (gU l c b sheet want)):=
 @Eq.mpr _ (let I:=SV.int .i64;let T:=AhD;let A45:=(140737488355328:Nat);let A32:=(1:Int);let A30:=nat_lit 1;let A23:=(2:Nat);let A22:=(0:Int);let A21:=(Value.slice AhH 0 0);let A20:=(1:Nat);let A19:=(4:Nat);let A13:=(↑(nat_lit 4):Int);let A6:=(c.n=c.n/\∀(i:Nat),let A36:=[I (c.g i).x,I (c.g i).y];i<c.n->A36=A36);let A3:=(L.Sq.mk l.n fun(i:Nat)=>l.g i);let A1:=(4=4/\∀(i:Nat),let A14:=[SV.sl A20 (Dx l b i) fun(a:Nat)=>[SV.sl A20 (Ej i) fun(j:Nat)=>[I (DO l b i a j)]]];i<4->A14=A14);((∀(i:Nat),let A37:=[I (l.g i).x,I (l.g i).y];i<l.n->A37=A37)/\Am A3=true/\A22<=b/\b<=(4096:Int))/\Ba (SV.sl A30 4 (AD [SV.raw A21,SV.raw A21,SV.sl A30 (DF A3 b) fun(i:Nat)=>let A16:=(L.Sq.mk l.n fun(i:Nat)=>l.g i);[SV.sl A20 A23 (AD [I (BJ A16 (Au A16) i),I (BK A16 (Au A16) i)] A20)],SV.sl A30 (Et A3 b) fun(i:Nat)=>let A31:=(L.Sq.mk l.n fun(i:Nat)=>l.g i);let A5:=(BW A31 b (AP A31).n);[SV.sl A20 3 (AD [I (C2 A5 i),I (C3 A5 i),I (C4 A5 i)] A20)]] A30)) (SV.sl A30 4 fun(i:Nat)=>[SV.sl A20 (Dx l b i) fun(a:Nat)=>[SV.sl A20 (Ej i) fun(j:Nat)=>[I (DO l b i a j)]]])/\(∃(g:Nat),A22=(↑g:Int)/\(0=CG l b g/\∀(i:Nat),i<0 -> []= [I sheet,I (Cf l i),I want,SV.sl A23 (BA l i) fun(j:Nat)=>let A38:=(c.g (T (Bo l b i j)));[I A38.x,I A38.y]])/\g<=A19)/\∀(g:Nat),let A2:=(↑g:Int);let A17:=(↑(Ej (T A2)):Int);let A8:=(↑(Dx l b (T A2)):Int);let A4:=(Dx l b (T A2)=Dx l b (T A2)/\∀(i:Nat),let A18:=[SV.sl A20 (Ej (T A2)) fun(j:Nat)=>[I (DO l b (T A2) i j)]];i<Dx l b (T A2)->A18=A18);g<=A19->(decide (A2<A13)=true->(A22<=A2/\A2<A13)/\(∃(g_1:Nat×Nat),A22=(↑g_1.2:Int)/\(CG l b g=CG l b g_1.1+g_1.2/\∀(i:Nat),let A9:=[I sheet,I (Cf l i),I want,SV.sl A23 (BA l i) fun(j:Nat)=>let A39:=(c.g (T (Bo l b i j)));[I A39.x,I A39.y]];i<CG l b g->A9=A9)/\A2=(↑g_1.1:Int)/\A2=(↑g_1.1:Int)/\g_1.1<A19/\g_1.2<=Dx l b g_1.1)/\∀(g_1:Nat×Nat),let A7:=(↑g_1.2:Int);A2=(↑g_1.1:Int)/\A2=(↑g_1.1:Int)/\g_1.1<A19/\g_1.2<=Dx l b g_1.1->(decide (A7<A8)=true->(A22<=A7/\A7<A8)/\(∃(g_2:(Nat×Nat)×Nat),let A34:=(↑g_2.1.1:Int);A22=(↑g_2.2:Int)/\sheet=sheet/\A2=A34/\want=want/\(0=g_2.2/\∀(i:Nat),let A26:=(c.g (T (DO l b g_2.1.1 g_2.1.2 i)));i<0 -> []= [I A26.x,I A26.y])/\A2=A34/\A2=A34/\A7=(↑g_2.1.2:Int)/\(g_2.1.1<A19/\g_2.1.2<Dx l b g_2.1.1)/\g_2.2<=Ej g_2.1.1)/\∀(g_2:(Nat×Nat)×Nat),let A25:=(↑g_2.1.1:Int);let A15:=(↑g_2.2:Int);let A24:=(c.g (T (DO l b (T A2) (T A7) (T A15))));A2=A25/\A2=A25/\A7=(↑g_2.1.2:Int)/\(g_2.1.1<A19/\g_2.1.2<Dx l b g_2.1.1)/\g_2.2<=Ej g_2.1.1->(decide (A15<A17)=true->(A22<=A15/\A15<A17)/\(A22<=DO l b (T A2) (T A7) (T A15)/\DO l b (T A2) (T A7) (T A15)<(↑c.n:Int))/\(g_2.2+1)*16<=A45/\Ab .i64 (A15+A32)/\∃(g':(Nat×Nat)×Nat),let A35:=(↑g'.1.1:Int);A15+A32=(↑g'.2:Int)/\A17=A17/\(Ej (T A2)=Ej (T A2)/\∀(i:Nat),let A33:=[I (DO l b (T A2) (T A7) i)];i<Ej (T A2)->A33=A33)/\0=0/\A7=A7/\A8=A8/\A4/\A2=A2/\A2=A2/\A1/\A13=A13/\Cm A3 b=Cm A3 b/\A6/\sheet=sheet/\want=want/\sheet=sheet/\A25=A35/\want=want/\(g_2.2+1=g'.2/\∀(i:Nat),let A29:=(c.g (T (DO l b g'.1.1 g'.1.2 i)));i<g_2.2+1->AH g_2.2 (fun(j:Nat)=>let A27:=(c.g (T (DO l b g_2.1.1 g_2.1.2 j)));[I A27.x,I A27.y]) (fun(x:Nat)=>[I A24.x,I A24.y]) i = [I A29.x,I A29.y])/\(CG l b g_1.1+g_1.2=CG l b g_1.1+g_1.2/\∀(i:Nat),let A10:=[I sheet,I (Cf l i),I want,SV.sl A23 (BA l i) fun(j:Nat)=>let A40:=(c.g (T (Bo l b i j)));[I A40.x,I A40.y]];i<CG l b g_1.1+g_1.2->A10=A10)/\(A2=A35/\A2=A35/\A7=(↑g'.1.2:Int)/\(g'.1.1<A19/\g'.1.2<Dx l b g'.1.1)/\g'.2<=Ej g'.1.1)/\Ej g'.1.1-g'.2<Ej g_2.1.1-g_2.2)/\(decide (A15<A17)=false->(CG l b g_1.1+g_1.2+1)*48<=A45/\Ab .i64 (A7+A32)/\∃(g':Nat×Nat),A7+A32=(↑g'.2:Int)/\A8=A8/\A4/\A2=A2/\A2=A2/\A1/\A13=A13/\Cm A3 b=Cm A3 b/\A6/\sheet=sheet/\want=want/\(CG l b g_1.1+g_1.2+1=CG l b g'.1+g'.2/\∀(i:Nat),i<CG l b g_1.1+g_1.2+1->AH (CG l b g_1.1+g_1.2) (fun(q:Nat)=>[I sheet,I (Cf l q),I want,SV.sl A23 (BA l q) fun(j:Nat)=>let A41:=(c.g (T (Bo l b q j)));[I A41.x,I A41.y]]) (fun(x:Nat)=>[I sheet,I A25,I want,SV.sl 2 g_2.2 fun(j:Nat)=>let A28:=(c.g (T (DO l b g_2.1.1 g_2.1.2 j)));[I A28.x,I A28.y]]) i = [I sheet,I (Cf l i),I want,SV.sl A23 (BA l i) fun(j:Nat)=>let A42:=(c.g (T (Bo l b i j)));[I A42.x,I A42.y]])/\(A2=(↑g'.1:Int)/\A2=(↑g'.1:Int)/\g'.1<A19/\g'.2<=Dx l b g'.1)/\Dx l b g'.1-g'.2<Dx l b g_1.1-g_1.2))/\(decide (A7<A8)=false->Ab .i64 (A2+A32)/\∃(g':Nat),A2+A32=(↑g':Int)/\A1/\A13=A13/\Cm A3 b=Cm A3 b/\A6/\sheet=sheet/\want=want/\(CG l b g_1.1+g_1.2=CG l b g'/\∀(i:Nat),let A11:=[I sheet,I (Cf l i),I want,SV.sl A23 (BA l i) fun(j:Nat)=>let A43:=(c.g (T (Bo l b i j)));[I A43.x,I A43.y]];i<CG l b g_1.1+g_1.2->A11=A11)/\g'<=A19/\A19-g'<A19-g))/\(decide (A2<A13)=false->(CG l b g=DF l b+Et l b/\∀(i:Nat),let A12:=[I sheet,I (Cf l i),I want,SV.sl A23 (BA l i) fun(j:Nat)=>let A44:=(c.g (T (Bo l b i j)));[I A44.x,I A44.y]];i<CG l b g->A12=A12)/\Cm A3 b=Cm l b)) (by kernel_rfl) (by
 conv=>zeta
 obtain⟨hv,b0,b1,cn⟩:=(show Am l=true/\0<=b/\b<=4096/\c.n=l.n from hp);have tn:∀n:Nat,((n:Int)).toNat=n:=fun n=>Ah7 n;refine⟨⟨zr,hv,b0,b1⟩,AdZ l b,⟨(0:Nat),rfl,⟨rfl,fun i hi=>absurd hi (oE _)⟩,rH _⟩,fun g hg=>⟨fun hc=>?_,fun hc=>?_⟩⟩;rotate_left
 ·have hc:¬ (g:Int)<4:=of_decide_eq_false hc;obtain rfl:g=4:=by omega
  exact⟨rz,rfl⟩
 have hc:(g:Int)<4:=of_decide_eq_true hc;have hlt:g<4:=by omega
 have A:0<=(g:Int)/\(g:Int)<((4:Nat):Int):=⟨by omega,hc⟩;obtain⟨p1,p2⟩:=Aea hv b g;rw[tn g];refine⟨A,⟨(g,0),rfl,rz,rfl,rfl,hlt,rH _⟩,fun g1 hg1=>?_⟩;obtain⟨k,a⟩:=g1;dsimp only at hg1 ⊢;obtain⟨q1,_,_,q4⟩:=hg1;obtain rfl:g=k:=by omega
 rw[tn a];refine⟨fun hl=>?_,fun hl=>?_⟩;rotate_left
 ·have hl:=of_decide_eq_false hl;obtain rfl:a=Dx l b g:=by omega
  have nx:=AdX (l:=l) (b:=b) hlt;refine⟨jK,g+1,?_⟩;exact(by(try dsimp only);(repeat' with_reducible apply And.intro)<;>first|(with_reducible first|rfl|assumption|(intros;exact rfl)|exact trivial)|(intros;exact rfl)|exact nx|exact(by omega)|exact trivial|(intro _ h_;exact absurd h_ (oE _)))
 have hl:=of_decide_eq_true hl;have ha:a<Dx l b g:=by omega
 obtain⟨e1,e2,e3,e4⟩:=AdW ha;refine⟨⟨by omega,hl⟩,⟨((g,a),0),rfl,rfl,rfl,rfl,⟨rfl,fun i hi=>absurd hi (oE _)⟩,rfl,rfl,rfl,⟨hlt,ha⟩,rH _⟩,fun g2 hg2=>?_⟩;obtain⟨⟨k,a'⟩,j⟩:=g2;dsimp only at hg2 ⊢;obtain⟨r1,_,r3,_,r5⟩:=hg2;obtain rfl:g=k:=by omega
 obtain rfl:a=a':=by omega
 rw[tn j];have jb:Ej g<=3:=by unfold Ej;cases decide (g=2)<;>decide
 refine⟨fun hl=>?_,fun hl=>?_⟩
 ·have hl:=of_decide_eq_true hl;have hj:j<Ej g:=by omega
  have fx:=gL hv e4 j;rw[<- cn,e3]at fx;have row:∀i,i<j+1->AH j (fun j=>[SV.int .i64 (c.g (DO l b g a j).toNat).x,.int .i64 (c.g (DO l b g a j).toNat).y]) (fun _=>[.int .i64 (c.g (DO l b g a j).toNat).x,.int .i64 (c.g (DO l b g a j).toNat).y]) i = [.int .i64 (c.g (DO l b g a i).toNat).x,.int .i64 (c.g (DO l b g a i).toNat).y]:=fun i hi=>by
   unfold AH
   by_cases h:i<j
   ·rw[if_pos h]
   ·rw[if_neg h,show i=j by omega]
  refine⟨⟨by omega,hl⟩,fx,by omega,jK,((g,a),j+1),?_⟩;exact(by(try dsimp only);(repeat' with_reducible apply And.intro)<;>first|(with_reducible first|rfl|assumption|(intros;exact rfl)|exact trivial)|(intros;exact rfl)|exact row|exact hlt|exact(by omega)|exact trivial|(intro _ h_;exact absurd h_ (oE _)))
 ·have hl:=of_decide_eq_false hl;obtain rfl:j=Ej g:=by omega
  have row:∀i,i<CG l b g+a+1->AH (CG l b g+a) (fun q=>[SV.int .i64 sheet,.int .i64 (Cf l q),.int .i64 want,.sl 2 (BA l q) fun j=>[.int .i64 (c.g (Bo l b q j).toNat).x,.int .i64 (c.g (Bo l b q j).toNat).y]]) (fun _=>[SV.int .i64 sheet,.int .i64 (g:Int),.int .i64 want,.sl 2 (Ej g) fun j=>[.int .i64 (c.g (DO l b g a j).toNat).x,.int .i64 (c.g (DO l b g a j).toNat).y]]) i=(fun q=>[SV.int .i64 sheet,.int .i64 (Cf l q),.int .i64 want,.sl 2 (BA l q) fun j=>[.int .i64 (c.g (Bo l b q j).toNat).x,.int .i64 (c.g (Bo l b q j).toNat).y]]) i:=fun i hi=>by
   unfold AH
   by_cases h:i<CG l b g+a
   ·rw[if_pos h]
   ·rw[if_neg h,show i=CG l b g+a by omega];dsimp only;rw[e1,e2];simp only[e3]
  refine⟨by omega,jK,(g,a+1),?_⟩;exact(by(try dsimp only);(repeat' with_reducible apply And.intro)<;>first|(with_reducible first|rfl|assumption|(intros;exact rfl)|exact trivial)|(intros;exact rfl)|exact row|exact hlt|exact ha|exact(by omega)|exact trivial|(intro _ h_;exact absurd h_ (oE _))))
theorem Aeh:Az prog 50 gW:=AN func50 (c:=Ae f50) (by kernel_rfl) mixed (fun _ _ _ hs hp=>by
 unfold gV at hs;split at hs
 ·cases hs;exact⟨_,_,Aeg _ _ _ _ _ hp.2.2,(.p (.sl hp.1) (.p (.sl hp.2.1) (.same _ (.same _ (.same _ .nil))))),⟨show Aa prog _ from(Aa.cons dM dN Aa.nil),rfl,nz⟩⟩
 ·cases hs)
theorem Aei:An prog 50:=fun _ _=>by kernel_rfl
def gX (l:L.Sq L.Pt) (b:Int):Prop:=l.n<=1000000
def gY (l:L.Sq L.Pt) (b:Int):SV:=.tup [.sl 4 (E3 l b) (fun q=>[.int .i64 0,.int .i64 (Cf l q),.int .i64 0,.sl 2 (BA l q) (fun j=>[.int .i64 (l.g (Bo l b q j).toNat).x,.int .i64 (l.g (Bo l b q j).toNat).y])]),.int .i64 (DW l b)]
def gZ:List EV->Option (Prop×SV)
 |[.p (.sl 2 l_n l_g),.p (.int .i64 b)]=>some ((∀i,i<l_n->l_g i = [.int .i64 (Ad (l_g i)).x,.int .i64 (Ad (l_g i)).y])/\gX ⟨l_n,fun i=>Ad (l_g i)⟩ b,gY ⟨l_n,fun i=>Ad (l_g i)⟩ b)
 |_=>none
abbrev hJ:SE.Spec:=(AM gZ)
def Aej:Aj:={ cC with specs:=AE [(37,J3),(38,II),(50,gW)] }
theorem Aek (l:L.Sq L.Pt) (b:Int) (hp:gX l b):vc prog (Aej) (Ae f17) (Ao f17 [.p (.sl 2 l.n (fun i=>[.int .i64 (l.g i).x,.int .i64 (l.g i).y])),.p (.int .i64 b)]) (AL prog f17 (gY l b)):=
 @Eq.mpr _ (let I:=SV.int .i64;let T:=AhD;let A5:=(0:Int);let A3:=(∀(i:Nat),let A6:=[I (l.g i).x,I (l.g i).y];i<l.n->A6=A6);let A1:=(L.Sq.mk l.n fun(i:Nat)=>l.g i);let A4:=(bif !Am A1 then true else !AI b A5 (4096:Int));(A3/\l.n<=1000000)/\((!!Am A1)=true->True)/\(A4=true->E3 l b=(0
:Nat)/\(1:Int)=DW l b)/\(A4=false->(A3/\A3/\Am A1=true/\A5<=b/\b<=(4096:Int)/\l.n=l.n)/\((!Cm A1 b)=true->E3 l b=0/\(51:Int)=DW l b)/\((!Cm A1 b)=false->(DF A1 b+Et A1 b=E3 l b/\∀(i:Nat),let A2:=(L.Sq.mk l.n fun(i:Nat)=>l.g i);i<DF A2 b+Et A2 b -> [I A5,I (Cf A2
 i),I A5,SV.sl 2 (BA A2 i) fun(j:Nat)=>let A7:=(l.g (T (Bo A2 b i j)));[I A7.x,I A7.y]]= [I A5,I (Cf l i),I A5,SV.sl 2 (BA l i) fun(j:Nat)=>let A8:=(l.g (T (Bo l b i j)));[I A8.x,I A8.y]])/\A5=DW l b))) (by kernel_rfl) (by
  conv=>zeta
  have hn:l.n<=1000000:=hp;refine⟨⟨zr,hn⟩,fun _=>trivial,fun h=>?_,fun h=>?_⟩
  ·have h:CO l b=true:=h;have e:DW l b=1:=by unfold DW;rw[h];rfl
   unfold E3;rw[e];exact⟨rfl,rfl⟩
  ·have h:CO l b=false:=h;have e:DW l b=bif !Cm l b then 51 else 0:=by unfold DW;rw[h];rfl
   unfold CO at h;rw[De,AhJ]at h;have hv:=B5 h.1;have hw:=B5 h.2;unfold AI at hw;rw[pR,decide_eq_true_eq,decide_eq_true_eq]at hw;refine⟨⟨zr,zr,hv,hw.1,hw.2,rfl⟩,fun h2=>?_,fun h2=>?_⟩
   ·rw[h2]at e;unfold E3;rw[e];exact⟨rfl,rfl⟩
   ·rw[h2]at e;have hc:=B5 h2;have eT:DF l b+Et l b=Ck l b:=by unfold DF Et Ck BP;rw[hc];rfl
    unfold E3;rw[e,eT];exact⟨rz,rfl⟩)
theorem Ael:Az prog 17 hJ:=AN func17 (c:=Ae f17) (by kernel_rfl) mixed (fun _ _ _ hs hp=>by
 unfold gZ at hs;split at hs
 ·cases hs;exact⟨_,_,Aek _ _ hp.2,(.p (.sl hp.1) (.same _ .nil)),⟨show Aa prog _ from(Aa.cons KA KB (Aa.cons JB JC (Aa.cons Aeh Aei Aa.nil))),rfl,nz⟩⟩
 ·cases hs)
theorem Aem:An prog 17:=fun _ _=>by kernel_rfl
def iA (l:L.Sq L.Pt) (b:Int):Prop:=l.n<=1000000
def iB (l:L.Sq L.Pt) (b:Int):SV:=.tup [.sl 4 (E3 l b) (fun q=>[.int .i64 0,.int .i64 (Cf l q),.int .i64 0,.sl 2 (BA l q) (fun j=>[.int .i64 (l.g (Bo l b q j).toNat).x,.int .i64 (l.g (Bo l b q j).toNat).y])]),.int .i64 (DW l b)]
def iC:List EV->Option (Prop×SV)
 |[.p (.sl 2 l_n l_g),.p (.int .i64 b)]=>some ((∀i,i<l_n->l_g i = [.int .i64 (Ad (l_g i)).x,.int .i64 (Ad (l_g i)).y])/\iA ⟨l_n,fun i=>Ad (l_g i)⟩ b,iB ⟨l_n,fun i=>Ad (l_g i)⟩ b)
 |_=>none
abbrev iD:SE.Spec:=(AM iC)
def Aen:Aj:={ cC with specs:=AE [(7,M4),(46,M6),(49,RD),(51,gS)] }
theorem Aeo (l:L.Sq L.Pt) (b:Int) (hp:iA l b):vc prog (Aen) (Ae f18) (Ao f18 [.p (.sl 2 l.n (fun i=>[.int .i64 (l.g i).x,.int .i64 (l.g i).y])),.p (.int .i64 b)]) (AL prog f18 (iB l b)):=
 @Eq.mpr _ (let I:=SV.int .i64;let T:=AhD;let A9:=(4096:Int);let A5:=(0:Int);let A2:=(L.Sq.mk l.n fun(i:Nat)=>l.g i);let A4:=(bif !Am A2 then true else !AI b A5 A9);let A1:=(∀(i:Nat),let A6:=[I (l.g i).x,I (l.g i).y];i<l.n->A6=A6);(A1/\True)/\((!!Am A2)=true->True)/\(A4=true->E3 l b=0/\(1:Int)=DW l b)/\(A4=false->(A1/\Am A2=true/\A5<=b/\b<=A9)/\((!Cm A2 b)=true->E3 l b=0/\(51:Int)=DW l b)/\((!Cm A2 b)=false->(A1/\A1/\Am A2=true/\A5<=b/\b<=A9/\l.n=l.n)/\(Ck A2 b=E3 l b/\∀(i:Nat),let A3:=(L.Sq.mk l.n fun(i:Nat)=>l.g i);i<Ck A3 b -> [I A5,I (Cf A3 i),I A5,SV.sl 2 (BA A3 i) fun(j:Nat)=>let A7:=(l.g (T (Bo A3 b i j)));[I A7.x,I A7.y]]= [I A5,I (Cf l i),I A5,SV.sl 2 (BA l i) fun(j:Nat)=>let A8:=(l.g (T (Bo l b i j)));[I A8.x,I A8.y]])/\A5=DW l b))) (by kernel_rfl) (by
 conv=>zeta
 refine⟨⟨zr,trivial⟩,fun _=>trivial,fun h=>?_,fun h=>?_⟩
 ·have h:CO l b=true:=h;have e:DW l b=1:=by unfold DW;rw[h];rfl
  unfold E3;rw[e];exact⟨rfl,rfl⟩
 ·have h:CO l b=false:=h;have e:DW l b=bif !Cm l b then 51 else 0:=by unfold DW;rw[h];rfl
  unfold CO at h;rw[De,AhJ]at h;have hv:=B5 h.1;have hw:=B5 h.2;unfold AI at hw;rw[pR,decide_eq_true_eq,decide_eq_true_eq]at hw;refine⟨⟨zr,hv,hw.1,hw.2⟩,fun h2=>?_,fun h2=>?_⟩
  ·rw[h2]at e;unfold E3;rw[e];exact⟨rfl,rfl⟩
  ·rw[h2]at e;refine⟨⟨zr,zr,hv,hw.1,hw.2,rfl⟩,?_⟩;unfold E3;rw[e];exact⟨rz,rfl⟩)
theorem Aep:Az prog 18 iD:=AN func18 (c:=Ae f18) (by kernel_rfl) mixed (fun _ _ _ hs hp=>by
 unfold iC at hs;split at hs
 ·cases hs;exact⟨_,_,Aeo _ _ hp.2,(.p (.sl hp.1) (.same _ .nil)),⟨show Aa prog _ from(Aa.cons Ob Oc (Aa.cons Oq Ot (Aa.cons fU fV (Aa.cons Aed Aee Aa.nil)))),rfl,nz⟩⟩
 ·cases hs)
theorem Aeq:An prog 18:=fun _ _=>by kernel_rfl
def Ag (f:Int->L.Sq Ai) (k:Int):SV:=.sl 2 (f k).n (fun i=>[.int .i64 ((f k).g i).w,.int .i64 ((f k).g i).h])
def iE (g:Int):Int:=EI g (0-g)
def FG (g:Int):Int:=DG g (iE g)
def Ek (g:Int):Nat->Int
 |0=>0
 |k+1=>EI (Ek g k-FG g) (FG g)
def AV (g:Int):Nat:=((Ah5 16).find? (fun k=>decide (Ek g k=FG g))).getD 0
def Aw (g:Int) (k:Nat):Int:=Gs (Ek g k) (iE g)
def iF (n:Nat):Bool:=decide (Ek n (AV n)=FG n)&&(Ah5 (AV n)).all (fun k=>!decide (Ek n k=FG n)&&decide (-16<=Ek n k-FG n)&&decide (Ek n k-FG n<=16))
theorem Aer:((Ah5 16).all iF)=true:=by kernel_rfl
theorem Aes {g:Int} (h:0<=g) (h':g<=15):Ek g (AV g)=FG g/\∀k,k<AV g->Ek g k≠FG g /\ -16<=Ek g k-FG g/\Ek g k-FG g<=16:=by
 obtain⟨n,rfl⟩:=Aid h;have hn:n<16:=by omega
 have h1:=AhC.1 Aer n (AhB.2 hn);unfold iF at h1;rw[pR,decide_eq_true_eq]at h1;refine⟨h1.1,fun k hk=>?_⟩;have h2:=AhC.1 h1.2 k (AhB.2 hk);rw[pR,pR,decide_eq_true_eq,decide_eq_true_eq,Aib,decide_eq_false_iff_not]at h2;exact⟨h2.1.1,h2.1.2,h2.2⟩
abbrev HZ:Mk:={ T:=(L.Sq Ak)×(Int)×(Int->L.Sq Ai),U:=Nat,args:=fun t=>(fun w gr f=>[.p ((.sl 4 w.n (fun i=>[.int .i64 (w.g i).id,.int .i64 (w.g i).colour,.int .i64 (w.g i).grain,.sl 2 (w.g i).ol.n (fun i1=>[.int .i64 ((w.g i).ol.g i1).x,.int .i64 ((w.g i).ol.g i1).y])]))),.p (.int .i64 gr)]) t.1 t.2.1 t.2.2,lkeys:=[],keys:=[9,7],lent:=fun t=>(fun w gr f=>[]) t.1 t.2.1 t.2.2,pre:=fun t=>(fun w gr f=>True) t.1 t.2.1 t.2.2,post:=fun t u=>(fun w gr f=>fun uu=>True) t.1 t.2.1 t.2.2 u,lent':=fun t u=>(fun w gr f=>fun uu=>[]) t.1 t.2.1 t.2.2 u,own:=fun t u=>(fun w gr f=>fun uu=>[(9,.blk 172 [.p ((.sl 4 w.n (fun i=>[.int .i64 (w.g i).id,.int .i64 (w.g i).colour,.int .i64 (w.g i).grain,.sl 2 (w.g i).ol.n (fun i1=>[.int .i64 ((w.g i).ol.g i1).x,.int .i64 ((w.g i).ol.g i1).y])]))),.p (.int .i64 gr),.mapv 7]),(7,.mq 3 64 (fun _=>false) (Ag f))]) t.1 t.2.1 t.2.2 u,res:=fun t u=>(fun w gr f=>fun uu=>.loc 9 0) t.1 t.2.1 t.2.2 u }
theorem Aet (w:L.Sq Ak) (gr:Int) (f:Int->L.Sq Ai) (hp:HZ.pre (w,gr,f)):vc prog ({ cC with muts:=[9],mqs:=U3 [(7,Ag f)] }) (Ae f65) (DH f65 (HZ.args (w,gr,f)) (HZ.lent (w,gr,f))) (FB prog f65 HZ (w,gr,f)):=
 @Eq.mpr _ (let I:=SV.int .i64;∃(u:Nat),0=0/\(w.n=w.n/\∀(i:Nat),let A1:=[I (w.g i).id,I (w.g i).colour,I (w.g i).grain,SV.sl 2 (w.g i).ol.n fun(i1:Nat)=>[I ((w.g i).ol.g i1).x,I ((w.g i).ol.g i1).y]];i<w.n->A1=A1)/\gr=gr/\(∀(x:Int),false=false)/\(∀(x:Int),false=true->Ag f x=Ag f x)/\True) (by kernel_rfl) (by
 conv=>zeta
 exact⟨(0:Nat),rfl,rz,rfl,fun _=>rfl,zr,trivial⟩)
theorem O7:An prog 65:=fun _ _=>by kernel_rfl
theorem O8:D9 prog 65 HZ:=FO (n:=2) func65 (c:=Ae f65) (by kernel_rfl) mixed ⟨fun t=>rfl,fun t=>rfl,fun t u=>rfl,fun t u=>rfl,fun t u=>rfl,fun t u=>⟨rfl,rfl⟩,by kernel_rfl,by kernel_rfl⟩ (fun⟨w,gr,f⟩ hp=>⟨_,Aet w gr f hp,⟨show Aa prog _ from Aa.nil,rfl,nz⟩⟩)
def iG (g:Int):Prop:=0<=g/\g<=15
def RG (g:Int):Nat:=AV g
def iH (g:Int):Nat->List SV:=fun k=>[.int .i64 (Aw g k)]
def iI:List SV->Option (Prop×Nat×(Nat->List SV))
 |[.ref [.int .i64 g] 0]=>some (iG g,RG g,iH g)
 |_=>none
abbrev RH:Ga:=K0 iI
def Aeu:Aj:={ muts:=[],frz:=B9 [],specs:=AE [],loops:=fun _=>none,iters:=BG [],rfs:=AQ [] }
theorem Aev (yl:Nat) (g:Int) (hp:iG g):vc prog { Aeu with loops:=AT [(3,{ T:=Nat,keep:=[0,1,3,4],keepO:=[],chg:=fun i=>[(5,.p (.int .i64 (Ek g i)))],own:=fun _=>[],inv:=fun i=>i<=AV g,mu:=fun i=>AV g-i,yk:=some (fun i=>i) })],yld:=some ⟨yl,RG g,iH g⟩ } (Ae f156) (Ao f156 (.yield yl::([.ref [.int .i64 g] 0]:List SV).map .p)) (Kz prog f156 (RG g)):=
 @Eq.mpr _ (let A6:=[SV.int .i64 g];let A5:=(1:Nat);let A3:=((0:Int)-g);let A1:=(EI g A3);let A7:=(DG g A1);Ab .i64 A3/\(∃(g_1:Nat),0=g_1/\false=false/\(0:Int)=Ek g g_1/\g_1<=AV g)/\∀(g_1:Nat),let A4:=(!decide (Ek g g_1=DG g A1));let A2:=(Ek g g_1-DG g A1);g_1<=AV g->(A4=true->yl=yl/\g_1<AV g /\ [SV.int .i64 (Gs (Ek g g_1) A1)]= [SV.int .i64 (Aw g g_1)]/\((false=true->g_1+A5=AV g\/g_1+A5=AV g+A5)/\(false=false->Ab .i64 A2/\∃(g':Nat),g_1+A5=g'/\false=false/\EI A2 A7=Ek g g'/\DG g A1=DG g A1/\EI g A3=EI g A3/\yl=yl/\SV.ref A6 0=SV.ref A6 0/\g'<=AV g/\AV g-g'<AV g-g_1))/\(true=true->AV g+A5=AV g\/AV g+A5=AV g+A5)/\(true=false->Ab .i64 A2/\∃(g':Nat),AV g+A5=g'/\false=false/\EI A2 A7=Ek g g'/\DG g A1=DG g A1/\EI g A3=EI g A3/\yl=yl/\False/\g'<=AV g/\AV g-g'<AV g-g_1))/\(A4=false->g_1=AV g\/g_1=AV g+A5)) (by kernel_rfl) (by
 conv=>zeta
 obtain⟨h1,h2⟩:=hp;obtain⟨t1,t2⟩:=Aes h1 h2;refine⟨jK,⟨(0:Nat),rfl,rfl,rfl,rH _⟩,fun k hk=>⟨fun hne=>?_,fun he=>?_⟩⟩
 ·have hne:¬ Ek g k=FG g:=of_decide_eq_false (CC hne);have hlt:k<AV g:=by
   rcases Aio k (AV g)with h|h
   ·exact h
   ·obtain rfl:k=AV g:=by omega
    exact absurd t1 hne
  obtain⟨_,b1,b2⟩:=t2 k hlt;refine⟨rfl,hlt,rfl,⟨(fun h=>by cases h),fun _=>⟨Ab.of (show _<=Ek g k-FG g by omega) (show Ek g k-FG g<=_ by omega),k+1,rfl,rfl,rfl,rfl,rfl,rfl,rfl,by omega,by omega⟩⟩,fun _=>.inr rfl,(fun h=>by cases h)⟩
 ·have he:Ek g k=FG g:=of_decide_eq_true (B5 he);rcases Aio k (AV g)with h|h
  ·exact absurd he (t2 k h).1
  ·exact .inl (by omega))
theorem iJ:HJ prog 156 RH:=NF func156 (c:=Ae f156) (by kernel_rfl) mixed (fun caps l p n g hs hp=>by
 unfold iI at hs;split at hs
 ·cases hs;exact⟨_,_,Aev l _ hp,(.cons (Ba.refl _) .nil),rfl,show Aa prog _ from Aa.nil,⟨show Ac prog _ from Ac.nil,AB.none (fun _=>rfl)⟩⟩
 ·cases hs)
theorem iL:An prog 156:=fun _ _=>by kernel_rfl
instance:Inhabited Ai:=⟨⟨0,0⟩⟩
def iM (p:Ai):List Int:=[p.w,p.h]
def DX (a b:Ai):Int:=HQ (B0 a.w b.w) (B0 a.h b.h)
theorem iN {a b:Ai}:DX a b<0↔a.w<b.w\/(a.w=b.w/\a.h<b.h):=by
 unfold DX HQ B0;rcases Int.lt_trichotomy a.w b.w with h1|h1|h1<;>rcases Int.lt_trichotomy a.h b.h with h2|h2|h2<;>grind
theorem Aew:Go.Sort.SWO (Go.Proofs.ltOf DX):=by
 have k:∀x y,Go.Proofs.ltOf DX x y=true↔x.w<y.w\/(x.w=y.w/\x.h<y.h):=fun x y=>by
  unfold Go.Proofs.ltOf;rw[decide_eq_true_iff,iN]
 have kf:∀x y,Go.Proofs.ltOf DX x y=false↔¬ (x.w<y.w\/(x.w=y.w/\x.h<y.h)):=fun x y=>by
  rw[<- k,Bool.not_eq_true]
 refine⟨fun x=>?_,fun x y z=>?_,fun x y z=>?_⟩
 ·rw[kf];omega
 ·simp only[k];omega
 ·simp only[kf];omega
def Aex:Go.Shelf.Ren:=⟨fun|6=>157|15=>132|14=>185|28=>176|29=>177|20=>196|21=>197|22=>198|23=>199|24=>200|25=>201|26=>202|27=>203|46=>213|47=>191|48=>192|49=>214|50=>215|57=>219|n=>n,fun|22=>64|24=>73|25=>218|3=>3|39=>193|0=>0|53=>235|55=>237|4=>4|46=>228|45=>227|50=>232|5=>5|9=>9|66=>246|70=>250|76=>262|77=>263|n=>n,fun|n=>n⟩
theorem Aey:Go.Proofs.SlLaysF0.n6 prog Aex:={
 mixed:=by kernel_rfl
 f6:=⟨f157.name,by decide,func157.trans (congrArg some (by kernel_rfl))⟩
 f14:=⟨f185.name,by decide,func185.trans (congrArg some (by kernel_rfl))⟩
 f15:=func132.trans (congrArg some (by kernel_rfl))
 f20:=⟨f196.name,by decide,func196.trans (congrArg some (by kernel_rfl))⟩
 f21:=⟨f197.name,by decide,func197.trans (congrArg some (by kernel_rfl))⟩
 f22:=⟨f198.name,by decide,func198.trans (congrArg some (by kernel_rfl))⟩
 f23:=⟨f199.name,by decide,func199.trans (congrArg some (by kernel_rfl))⟩
 f24:=⟨f200.name,by decide,func200.trans (congrArg some (by kernel_rfl))⟩
 f25:=⟨f201.name,by decide,func201.trans (congrArg some (by kernel_rfl))⟩
 f26:=⟨f202.name,by decide,func202.trans (congrArg some (by kernel_rfl))⟩
 f27:=⟨f203.name,by decide,func203.trans (congrArg some (by kernel_rfl))⟩
 f28:=func176.trans (congrArg some (by kernel_rfl))
 f29:=func177.trans (congrArg some (by kernel_rfl))
 f46:=⟨f213.name,by decide,func213.trans (congrArg some (by kernel_rfl))⟩
 f47:=func191.trans (congrArg some (by kernel_rfl))
 f48:=func192.trans (congrArg some (by kernel_rfl))
 f49:=⟨f214.name,by decide,func214.trans (congrArg some (by kernel_rfl))⟩
 f50:=⟨f215.name,by decide,func215.trans (congrArg some (by kernel_rfl))⟩
 f57:=⟨f219.name,by decide,func219.trans (congrArg some (by kernel_rfl))⟩
 t0:=underlying0
 a0:=Tryz.isAgg0
 z0:=Tryz.sizeOf0
 v0:=Tryz.zeroValue0
 t3:=underlying3
 a3:=Tryz.isAgg3
 z3:=Tryz.sizeOf3
 v3:=Tryz.zeroValue3
 t4:=underlying4
 a4:=Tryz.isAgg4
 z4:=Tryz.sizeOf4
 v4:=Tryz.zeroValue4
 t5:=underlying5
 a5:=Tryz.isAgg5
 z5:=Tryz.sizeOf5
 v5:=Tryz.zeroValue5
 t9:=underlying9
 a9:=Tryz.isAgg9
 z9:=Tryz.sizeOf9
 v9:=Tryz.zeroValue9
 t22:=underlying64
 a22:=Tryz.isAgg64
 z22:=Tryz.sizeOf64
 v22:=Tryz.zeroValue64
 t25:=underlying218
 a25:=Tryz.isAgg218
 z25:=Tryz.sizeOf218
 v25:=Tryz.zeroValue218
 t39:=underlying193
 a39:=Tryz.isAgg193
 z39:=Tryz.sizeOf193
 v39:=Tryz.zeroValue193
 t45:=underlying227
 a45:=Tryz.isAgg227
 z45:=Tryz.sizeOf227
 v45:=Tryz.zeroValue227
 t46:=underlying228
 a46:=Tryz.isAgg228
 z46:=Tryz.sizeOf228
 v46:=Tryz.zeroValue228
 t50:=underlying232
 a50:=Tryz.isAgg232
 z50:=Tryz.sizeOf232
 v50:=Tryz.zeroValue232
 t53:=underlying235
 a53:=Tryz.isAgg235
 z53:=Tryz.sizeOf235
 v53:=Tryz.zeroValue235
 t55:=underlying237
 a55:=Tryz.isAgg237
 z55:=Tryz.sizeOf237
 v55:=Tryz.zeroValue237
 t66:=underlying246
 a66:=Tryz.isAgg246
 z66:=Tryz.sizeOf246
 v66:=Tryz.zeroValue246
 t70:=underlying250
 a70:=Tryz.isAgg250
 z70:=Tryz.sizeOf250
 v70:=Tryz.zeroValue250
 t76:=underlying262
 a76:=Tryz.isAgg262
 z76:=Tryz.sizeOf262
 v76:=Tryz.zeroValue262
 t77:=underlying263
 a77:=Tryz.isAgg263
 z77:=Tryz.sizeOf263
 v77:=Tryz.zeroValue263 }
def iO (g:Int):Prop:=True
def iP (g:Int):SV:=.clo 156 [.ref [.int .i64 g] 0]
def iQ:List EV->Option (Prop×SV)
 |[.p (.int .i64 g)]=>some (iO g,iP g)
 |_=>none
abbrev RI:SE.Spec:=(AM iQ)
def Aez:Aj:={ muts:=[],frz:=B9 [],specs:=AE [],loops:=AT [],iters:=BG [],rfs:=AQ [],nils:=B3 [] }
theorem Ae0 (g:Int) (hp:iO g):vc prog (Aez) (Ae f116) (Ao f116 [.p (.int .i64 g)]) (AL prog f116 (iP g)):=
 @Eq.mpr _ (SV.clo 156 [SV.ref [SV.int .i64 g] 0]=SV.clo 156 [SV.ref [SV.int .i64 g] 0]) (by kernel_rfl) (by
 rfl)
theorem iR:Az prog 116 RI:=AN func116 (c:=Ae f116) (by kernel_rfl) mixed (fun _ _ _ hs hp=>by
 unfold iQ at hs;split at hs
 ·cases hs;exact⟨_,_,Ae0 _ hp,(.same _ .nil),⟨show Aa prog _ from Aa.nil,rfl,nz⟩⟩
 ·cases hs)
theorem iS:An prog 116:=fun _ _=>by kernel_rfl
def iT (a:Ai) (b:Ai):Prop:=True
def iU (a:Ai) (b:Ai):SV:=.int .i64 (DX a b)
def RJ:List EV->Option (Prop×SV)
 |[.p (.agg [.int .i64 a_w,.int .i64 a_h]),.p (.agg [.int .i64 b_w,.int .i64 b_h])]=>some (iT (⟨a_w,a_h⟩:Ai) (⟨b_w,b_h⟩:Ai),iU (⟨a_w,a_h⟩:Ai) (⟨b_w,b_h⟩:Ai))
 |_=>none
abbrev Ae1:SE.Spec:=(AM RJ)
def Ae2:Aj:={ cC with specs:=AE [(85,K3),(123,Qx)] }
theorem Ae3 (a:Ai) (b:Ai) (hp:iT a b):vc prog (Ae2) (Ae f158) (Ao f158 [.p (.agg [.int .i64 a.w,.int .i64 a.h]),.p (.agg [.int .i64 b.w,.int .i64 b.h])]) (AL prog f158 (iU a b)):=
 @Eq.mpr _ (let I:=SV.int .i64;let A1:=[I (B0 a.w b.w),I (B0 a.h b.h)];True/\True/\((∀(i:Nat),i<2->AD A1 1 i = [I (Ds (AD A1 1 i))])/\2<=1000000)/\GV (fun(i:Nat)=>Ds (AD A1 1 i)) 2=DX a b) (by kernel_rfl) (by
 conv=>zeta
 exact⟨trivial,trivial,⟨fun i hi=>by match i,hi with|0,_=>rfl|1,_=>rfl,by decide⟩,rfl⟩)
theorem Ae4:Az prog 158 Ae1:=AN func158 (c:=Ae f158) (by kernel_rfl) mixed (fun _ _ _ hs hp=>by
 unfold RJ at hs;split at hs
 ·cases hs;exact⟨_,_,Ae3 _ _ hp,(.same _ (.same _ .nil)),⟨show Aa prog _ from(Aa.cons Mr Ms (Aa.cons Vc Vd Aa.nil)),rfl,nz⟩⟩
 ·cases hs)
theorem Ae5:An prog 158:=fun _ _=>by kernel_rfl
abbrev iV:Tr:=NJ 73 2 158 1005 iM DX
theorem Ae6:Gf prog 157 iV:=Qp (enc:=iM) Aey (by decide) (fun w=>Tryz.isAgg73 w) (fun w=>Tryz.sizeOf73 w) (fun _=>rfl) Aew Ae4 Ae5 (fun x y=>show DA RJ [.p (.agg [.int .i64 x.w,.int .i64 x.h]),.p (.agg [.int .i64 y.w,.int .i64 y.h])]from trivial) (fun x y=>rfl) _ _
theorem Ae7:An prog 157:=fun _ _=>by kernel_rfl
def Dy (u:Nat->Ai):Nat->List Ai
 |0=>[]
 |k+1=>match (Dy u k).getLast? with
   |none=>Dy u k ++ [u k]
   |some x=>if (u k).h<x.h then Dy u k ++ [u k]else Dy u k
def Bk (u:Nat->Ai) (k:Nat):Nat:=(Dy u k).length
def Cc (u:Nat->Ai) (k i:Nat):Ai:=(Dy u k).getD i ⟨0,0⟩
theorem iW (u:Nat->Ai):∀k,Bk u k<=k
 |0=>Ah0 _
 |k+1=>by
   have:=iW u k;unfold Bk at this ⊢;rw[Dy];split
   ·simp;omega
   ·split
    ·simp;omega
    ·omega
theorem iX {u:Nat->Ai} {k:Nat} {x:Ai} (h:(Dy u k).getLast? = some x):Bk u k≠0/\Cc u k (((Bk u k:Nat):Int)-1).toNat=x:=by
 rw[List.getLast?_eq_getElem?]at h;obtain⟨h1,h2⟩:=List.getElem?_eq_some_iff.1 h;have e:(((Bk u k:Nat):Int)-1).toNat=(Dy u k).length-1:=by unfold Bk;omega
 refine⟨by unfold Bk;omega,?_⟩;rw[e];unfold Cc;rw[AS,h];rfl
theorem Ae8 {u:Nat->Ai} {k:Nat} (h:(bif decide (((Bk u k:Nat):Int)=0)then true else decide ((u k).h<(Cc u k (((Bk u k:Nat):Int)-1).toNat).h))=true):Dy u (k+1)=Dy u k ++ [u k]:=by
 rw[Dy];cases hl:(Dy u k).getLast? with
 |none=>rfl
 |some x =>
   obtain⟨h1,h2⟩:=iX hl;rw[h2,decide_eq_false (show ¬ ((Bk u k:Nat):Int)=0 by omega),cond_false,decide_eq_true_eq]at h;exact if_pos h
theorem Ae9 {u:Nat->Ai} {k:Nat} (h:(bif decide (((Bk u k:Nat):Int)=0)then true else decide ((u k).h<(Cc u k (((Bk u k:Nat):Int)-1).toNat).h))=false):Dy u (k+1)=Dy u k:=by
 rw[Dy];cases hl:(Dy u k).getLast? with
 |none =>
   have e:Dy u k = []:=List.getLast?_eq_none_iff.1 hl;have e2:Bk u k=0:=by unfold Bk;rw[e];rfl
   rw[e2]at h;cases h
 |some x =>
   obtain⟨h1,h2⟩:=iX hl;rw[h2,decide_eq_false (show ¬ ((Bk u k:Nat):Int)=0 by omega),cond_false,decide_eq_false_iff_not]at h;exact if_neg h
theorem AeA {u:Nat->Ai} {k:Nat} (h:Dy u (k+1)=Dy u k ++ [u k]):Bk u (k+1)=Bk u k+1/\∀i,i<Bk u k+1->Cc u (k+1) i=if i<Bk u k then Cc u k i else u k:=by
 unfold Bk Cc;rw[h];refine⟨by simp,fun i hi=>?_⟩;simp only[AS]
 by_cases e:i<(Dy u k).length
 ·rw[if_pos e,AhP e]
 ·rw[if_neg e,AhT (by omega),show i-(Dy u k).length=0 by omega];rfl
abbrev KU:Mk:={ T:=(Nat)×(Nat->Ai),U:=Nat->Ai,args:=fun t=>(fun n f=>[.row 1010]) t.1 t.2,lkeys:=[1010],keys:=[32],lent:=fun t=>(fun n f=>[(1010,.row 73 2 n (fun j=>[.int .i64 (f j).w,.int .i64 (f j).h]))]) t.1 t.2,pre:=fun t=>(fun n f=>n<=1000000) t.1 t.2,post:=fun t u=>(fun n f=>fun u=>D0 DX n f u) t.1 t.2 u,lent':=fun t u=>(fun n f=>fun u=>[(1010,.row 73 2 n (fun j=>[.int .i64 (u j).w,.int .i64 (u j).h]))]) t.1 t.2 u,own:=fun t u=>(fun n f=>fun u=>[(32,.row 73 2 (Bk u n) (fun j=>[.int .i64 (Cc u n j).w,.int .i64 (Cc u n j).h]))]) t.1 t.2 u,res:=fun t u=>(fun n f=>fun u=>.row 32) t.1 t.2 u }
theorem AeB (n:Nat) (f:Nat->Ai) (hp:KU.pre (n,f)):vc prog ({ muts:=[5,32],frz:=B9 [],specs:=AE [],loops:=AT [(4,{ T:=(Nat->Ai)×Nat,keep:=[0,8,9],keepO:=[],chg:=fun t=>[(10,.p (.int .i64 (t.2:Int))),(3,.row 32)],own:=fun t=>[(1010,.row 73 2 n (fun j=>[.int .i64 (t.1 j).w,.int .i64 (t.1 j).h])),(32,.row 73 2 (Bk t.1 t.2) (fun j=>[.int .i64 (Cc t.1 t.2 j).w,.int .i64 (Cc t.1 t.2 j).h]))],inv:=fun t=>t.2<=n/\D0 DX n f t.1,mu:=fun t=>n-t.2 })],iters:=BG [],rfs:=AQ [],nils:=B3 [],trs:=Hz [(157,iV)],ren:=fun k=>k+5,nilsL:=B3 [(4,[(3,32,73,2)])] }) (Ae f117) (DH f117 (KU.args (n,f)) (KU.lent (n,f))) (FB prog f117 KU (n,f)):=
 @Eq.mpr _ (let I:=SV.int .i64;let T:=AhD;let A7:=(0:Int);let A5:=(1:Int);∃(t:Nat×(Nat->Ai)),let A6:=(↑t.1:Int);SV.clo 158 []=SV.clo 158 []/\(n=t.1/\∀(i:Nat),i<n -> [I (f i).w,I (f i).h]= [I (t.2 i).w,I (t.2 i).h])/\t.1<=1000000/\∀(u:Nat->Ai),D0 DX t.1 t.2 u->(∃(g:(Nat->Ai)×Nat),A7=(↑g.2:Int)/\(t.1=n/\∀(i:Nat),i<t.1 -> [I (u i).w,I (u i).h]= [I (g.1 i).w,I (g.1 i).h])/\((0:Nat)=Bk g.1 g.2/\∀(i:Nat),i<0 -> []= [I (Cc g.1 g.2 i).w,I (Cc g.1 g.2 i).h])/\g.2<=n/\D0 DX n f g.1)/\∀(g:(Nat->Ai)×Nat),let A3:=(↑g.2:Int);let A8:=(g.1 (T A3));let A1:=(↑(Bk g.1 g.2):Int);let A4:=(!decide (A1=A7));let A2:=(bif decide (A1=A7)then true else decide (A8.h<(Cc g.1 g.2 (T (A1-A5))).h));g.2<=n/\D0 DX n f g.1->(decide (A3<A6)=true->(A7<=A3/\A3<(↑n:Int))/\T A3<n/\(A4=true->Ab .i64 (A1-A5))/\(A4=true->A7<=A1-A5/\A1-A5<A1)/\(A4=true->T (A1-A5)<Bk g.1 g.2)/\(A2=true->(Bk g.1 g.2+1)*16<=140737488355328/\Ab .i64 (A3+A5)/\∃(g':(Nat->Ai)×Nat),A3+A5=(↑g'.2:Int)/\A6=A6/\(n=n/\∀(i:Nat),i<n -> [I (g.1 i).w,I (g.1 i).h]= [I (g'.1 i).w,I (g'.1 i).h])/\(Bk g.1 g.2+1=Bk g'.1 g'.2/\∀(i:Nat),i<Bk g.1 g.2+1->AH (Bk g.1 g.2) (fun(j:Nat)=>[I (Cc g.1 g.2 j).w,I (Cc g.1 g.2 j).h]) (fun(x:Nat)=>[I A8.w,I A8.h]) i = [I (Cc g'.1 g'.2 i).w,I (Cc g'.1 g'.2 i).h])/\(g'.2<=n/\D0 DX n f g'.1)/\n-g'.2<n-g.2)/\(A2=false->Ab .i64 (A3+A5)/\∃(g':(Nat->Ai)×Nat),A3+A5=(↑g'.2:Int)/\A6=A6/\(n=n/\∀(i:Nat),i<n -> [I (g.1 i).w,I (g.1 i).h]= [I (g'.1 i).w,I (g'.1 i).h])/\(Bk g.1 g.2=Bk g'.1 g'.2/\∀(i:Nat),i<Bk g.1 g.2 -> [I (Cc g.1 g.2 i).w,I (Cc g.1 g.2 i).h]= [I (Cc g'.1 g'.2 i).w,I (Cc g'.1 g'.2 i).h])/\(g'.2<=n/\D0 DX n f g'.1)/\n-g'.2<n-g.2))/\(decide (A3<A6)=false->∃(u:Nat->Ai),(n=n/\∀(i:Nat),i<n -> [I (g.1 i).w,I (g.1 i).h]= [I (u i).w,I (u i).h])/\(Bk g.1 g.2=Bk u n/\∀(i:Nat),i<Bk g.1 g.2 -> [I (Cc g.1 g.2 i).w,I (Cc g.1 g.2 i).h]= [I (Cc u n i).w,I (Cc u n i).h])/\D0 DX n f u)) (by kernel_rfl) (by
 conv=>zeta
 have hp:n<=1000000:=hp;refine⟨(n,f),rfl,rz,hp,fun u hu=>⟨⟨(u,0),rfl,rz,⟨rfl,fun i hi=>absurd hi (oE _)⟩,rH _,hu⟩,fun⟨v,k⟩ ⟨hk,hv⟩=>⟨fun hlt=>?_,fun hge=>?_⟩⟩⟩
 ·have hlt:(k:Int)<(n:Int):=of_decide_eq_true hlt;have hk:k<n:=by omega
  have c2:((k:Int)).toNat=k:=Ah7 k;have hs:=iW v k;have nz:(!decide (((Bk v k:Nat):Int)=0))=true->0<Bk v k:=fun h=>by
   have:¬ ((Bk v k:Nat):Int)=0:=of_decide_eq_false (CC h);omega
  refine⟨⟨AhN _,hlt⟩,by show(k:Int).toNat<n;omega,fun h=>Ab.of (by have:=nz h;show _<=((Bk v k:Nat):Int)-1;omega) (by show((Bk v k:Nat):Int)-1<=_;omega),fun h=>⟨by have:=nz h;show _<=((Bk v k:Nat):Int)-1;omega,by show((Bk v k:Nat):Int)-1<((Bk v k:Nat):Int);omega⟩,fun h=>by have:=nz h;show(((Bk v k:Nat):Int)-1).toNat<Bk v k;omega,fun h=>?_,fun h=>?_⟩
  ·have e:=Ae8 (u:=v) (k:=k) (by have h':(bif decide (((Bk v k:Nat):Int)=0)then true else decide ((v (k:Int).toNat).h<(Cc v k (((Bk v k:Nat):Int)-1).toNat).h))=true:=h;rw[c2]at h';exact h');obtain⟨e1,e2⟩:=AeA e;refine⟨by show(Bk v k+1)*16<=140737488355328;omega,Ab.of (by show _<=(k:Int)+1;omega) (by show(k:Int)+1<=_;omega),(v,k+1),by show(k:Int)+1=((k+1:Nat):Int);omega,rfl,rz,⟨e1.symm,fun i hi=>?_⟩,⟨by show k+1<=n;omega,hv⟩,by show n-(k+1)<n-k;omega⟩;have hi:i<Bk v k+1:=hi;have e3:=e2 i hi;show AH (Bk v k) _ _ i = [SV.int .i64 (Cc v (k+1) i).w,SV.int .i64 (Cc v (k+1) i).h];rw[e3];unfold AH
   by_cases h4:i<Bk v k
   ·rw[if_pos h4,if_pos h4]
   ·rw[if_neg h4,if_neg h4];show [SV.int .i64 (v (k:Int).toNat).w,SV.int .i64 (v (k:Int).toNat).h]=_;rw[c2]
  ·have e:=Ae9 (u:=v) (k:=k) (by have h':(bif decide (((Bk v k:Nat):Int)=0)then true else decide ((v (k:Int).toNat).h<(Cc v k (((Bk v k:Nat):Int)-1).toNat).h))=false:=h;rw[c2]at h';exact h');have e1:Bk v (k+1)=Bk v k:=by unfold Bk;rw[e]
   have e2:∀i,Cc v (k+1) i=Cc v k i:=fun i=>by unfold Cc;rw[e]
   exact⟨Ab.of (by show _<=(k:Int)+1;omega) (by show(k:Int)+1<=_;omega),(v,k+1),by show(k:Int)+1=((k+1:Nat):Int);omega,rfl,rz,⟨e1.symm,fun i _=>by rw[e2]⟩,⟨by show k+1<=n;omega,hv⟩,by show n-(k+1)<n-k;omega⟩
 ·have hge:¬ (k:Int)<(n:Int):=of_decide_eq_false hge;have hk:k<=n:=hk;obtain rfl:k=n:=by omega
  exact⟨v,rz,rz,hv⟩)
theorem AeC:An prog 117:=fun _ _=>by kernel_rfl
theorem AeD:D9 prog 117 KU:=FO (n:=1) func117 (c:=Ae f117) (by kernel_rfl) mixed ⟨fun t=>rfl,fun t=>rfl,fun t u=>rfl,fun t u=>rfl,fun t u=>rfl,fun t u=>⟨rfl,rfl⟩,by kernel_rfl,by kernel_rfl⟩ (fun⟨n,f⟩ hp=>⟨_,AeB n f hp,⟨show Aa prog _ from Aa.nil,rfl,⟨show Ac prog _ from Ac.nil,⟨show DT prog _ from(DT.cons Ae6 Ae7 DT.nil),⟨Gy.no1 (fun _=>rfl),FamsOk.none (fun _=>rfl)⟩⟩⟩⟩⟩)
def B7 (n:Nat):Int:=D7 1 n-1
theorem MD {n:Nat} (h:n<=4):0<=B7 n/\B7 n<=15/\0<=D7 1 n/\D7 1 n<=16:=by
 have:n=0\/n=1\/n=2\/n=3\/n=4:=by omega
 rcases this with rfl|rfl|rfl|rfl|rfl<;>decide
abbrev IN:Mk:={ T:=(L.Sq Ak)×(Int)×(Int->L.Sq Ai)×(Int->Bool),U:=Nat,args:=fun t=>(fun w gr f dom=>[.loc 1000 0]) t.1 t.2.1 t.2.2.1 t.2.2.2,lkeys:=[1000,1001],keys:=[],lent:=fun t=>(fun w gr f dom=>[(1000,.blk 172 [.p ((.sl 4 w.n (fun i=>[.int .i64 (w.g i).id,.int .i64 (w.g i).colour,.int .i64 (w.g i).grain,.sl 2 (w.g i).ol.n (fun i1=>[.int .i64 ((w.g i).ol.g i1).x,.int .i64 ((w.g i).ol.g i1).y])]))),.p (.int .i64 gr),.mapv 1001]),(1001,.mq 3 64 dom (Ag f))]) t.1 t.2.1 t.2.2.1 t.2.2.2,pre:=fun t=>(fun w gr f dom=>w.n<=4) t.1 t.2.1 t.2.2.1 t.2.2.2,post:=fun t u=>(fun w gr f dom=>fun uu=>True) t.1 t.2.1 t.2.2.1 t.2.2.2 u,lent':=fun t u=>(fun w gr f dom=>fun uu=>[(1000,.blk 172 [.p ((.sl 4 w.n (fun i=>[.int .i64 (w.g i).id,.int .i64 (w.g i).colour,.int .i64 (w.g i).grain,.sl 2 (w.g i).ol.n (fun i1=>[.int .i64 ((w.g i).ol.g i1).x,.int .i64 ((w.g i).ol.g i1).y])]))),.p (.int .i64 gr),.mapv 1001]),(1001,.mq 3 64 dom (Ag f))]) t.1 t.2.1 t.2.2.1 t.2.2.2 u,own:=fun t u=>(fun w gr f dom=>fun uu=>[]) t.1 t.2.1 t.2.2.1 t.2.2.2 u,res:=fun t u=>(fun w gr f dom=>fun uu=>.p (.int .i64 (B7 w.n))) t.1 t.2.1 t.2.2.1 t.2.2.2 u }
theorem AeE (w:L.Sq Ak) (gr:Int) (f:Int->L.Sq Ai) (dom:Int->Bool) (hp:IN.pre (w,gr,f,dom)):vc prog (cC) (Ae f68) (DH f68 (IN.args (w,gr,f,dom)) (IN.lent (w,gr,f,dom))) (FB prog f68 IN (w,gr,f,dom)):=
 @Eq.mpr _ (let I:=SV.int .i64;let A3:=(1:Int);let A2:=(↑w.n:Int);0<=A2/\Ab .i64 (D7 A3 A2)/\Ab .i64 (D7 A3 A2-A3)/\∃(u:Nat),D7 A3 A2-A3=B7 w.n/\(w.n=w.n/\∀(i:Nat),let A1:=[I (w.g i).id,I (w.g i).colour,I (w.g i).grain,SV.sl 2 (w.g i).ol.n fun(i1:Nat)=>[I ((w.g i).ol.g i1).x,I ((w.g i).ol.g i1).y]];i<w.n->A1=A1)/\gr=gr/\(∀(x:Int),dom x=dom x)/\(∀(x:Int),dom x=true->Ag f x=Ag f x)/\True) (by kernel_rfl) (by
 conv=>zeta
 obtain⟨a1,a2,a3,a4⟩:=MD (n:=w.n) hp;exact⟨AhN _,jK,Ab.of (by show _<=B7 w.n;omega) (by show B7 w.n<=_;omega),(0:Nat),rfl,rz,rfl,fun _=>rfl,zr,trivial⟩)
theorem RK:An prog 68:=fun _ _=>by kernel_rfl
theorem RL:D9 prog 68 IN:=FO (n:=1) func68 (c:=Ae f68) (by kernel_rfl) mixed ⟨fun t=>rfl,fun t=>rfl,fun t u=>rfl,fun t u=>rfl,fun t u=>rfl,fun t u=>⟨rfl,rfl⟩,by kernel_rfl,by kernel_rfl⟩ (fun⟨w,gr,f,dom⟩ hp=>⟨_,AeE w gr f dom hp,⟨show Aa prog _ from Aa.nil,rfl,nz⟩⟩)
def Cu.le (a b:Ai):Prop:=a.w<=b.w/\a.h<=b.h
def Cu.leB (a b:Ai):Bool:=decide (a.w<=b.w)&&decide (a.h<=b.h)
theorem Cu.leB_iff {a b:Ai}:leB a b=true↔le a b:=by unfold leB le;rw[pR,decide_eq_true_eq,decide_eq_true_eq]
theorem Cu.le_refl (a:Ai):le a a:=⟨AhV _,AhV _⟩
theorem Cu.le_trans {a b c:Ai} (h:le a b) (k:le b c):le a c:=⟨Ajb h.1 k.1,Ajb h.2 k.2⟩
theorem Cu.sz_ext {a b:Ai} (h:a.w=b.w) (k:a.h=b.h):a=b:=by
 cases a;cases b;simp only at h k;subst h k;rfl
def Cu.Stair (l:List Ai):Prop:=l.Pairwise fun a b=>a.w<b.w/\b.h<a.h
def Cu.cov (l:List Ai) (s:Ai):Prop:=∃x,x∈l/\le x s
def Cu.Same (l m:List Ai):Prop:=∀s,cov l s↔cov m s
theorem Cu.Same.refl (l:List Ai):Same l l:=fun _=>Iff.rfl
theorem Cu.Same.symm {l m:List Ai} (h:Same l m):Same m l:=fun s=>(h s).symm
theorem Cu.Same.trans {l m n:List Ai} (h:Same l m) (k:Same m n):Same l n:=fun s=>(h s).trans (k s)
theorem Cu.cov_append {l m:List Ai} {s:Ai}:cov (l++m) s↔cov l s\/cov m s:=by
 unfold cov;simp only[AhG];constructor
 ·rintro⟨x,h|h,k⟩
  ·exact .inl ⟨x,h,k⟩
  ·exact .inr ⟨x,h,k⟩
 ·rintro(⟨x,h,k⟩|⟨x,h,k⟩)
  ·exact⟨x,.inl h,k⟩
  ·exact⟨x,.inr h,k⟩
theorem Cu.Same.append {l l' m m':List Ai} (h:Same l l') (k:Same m m'):Same (l++m) (l'++m'):=fun s=>by
 rw[cov_append,cov_append,h s,k s]
theorem Cu.Same.of_mem {l m:List Ai} (h:∀x,x∈l↔x∈m):Same l m:=fun s=>by
 unfold cov;simp only[h]
theorem Cu.cov_mem {l:List Ai} {x:Ai} (h:x∈l):cov l x:=⟨x,h,le_refl x⟩
theorem Cu.Same.of_sub {l m:List Ai} (h:∀x,x∈l->cov m x) (k:∀x,x∈m->cov l x):Same l m:=fun s=>by
 constructor
 ·rintro⟨x,hx,hs⟩;obtain⟨y,hy,hyx⟩:=h x hx;exact⟨y,hy,le_trans hyx hs⟩
 ·rintro⟨x,hx,hs⟩;obtain⟨y,hy,hyx⟩:=k x hx;exact⟨y,hy,le_trans hyx hs⟩
theorem Cu.stair_le {l:List Ai} (h:Stair l):∀a,a∈l->∀b,b∈l->le a b->a=b:=by
 intro a ha b hb hab;obtain⟨i,hi,rfl⟩:=AhR ha;obtain⟨j,hj,rfl⟩:=AhR hb;have hp:=Aij.1 h;rcases Nat.lt_trichotomy i j with hlt|heq|hgt
 ·have:=hp i j hi hj hlt;have:=hab.2;omega
 ·subst heq;rfl
 ·have:=hp j i hj hi hgt;have:=hab.1;omega
theorem Cu.mem_of_same {l m:List Ai} (hl:Stair l) (hm:Stair m) (h:Same l m):∀x,x∈l->x∈m:=fun x hx=>by
 obtain⟨y,hy,hyx⟩:=(h x).1 (cov_mem hx);obtain⟨z,hz,hzy⟩:=(h y).2 (cov_mem hy);have e1:=stair_le hl z hz x hx (le_trans hzy hyx);subst e1;have:y=z:=sz_ext (Int.le_antisymm hyx.1 hzy.1) (Int.le_antisymm hyx.2 hzy.2);exact this ▸ hy
theorem Cu.stair_ext:∀{l m:List Ai},Stair l->Stair m->(∀x,x∈l↔x∈m)->l=m
 |[],[],_,_,_=>rfl
 |[],b::m,_,_,h=>by have:=(h b).2 (AhF ..);cases this
 |a::l,[],_,_,h=>by have:=(h a).1 (AhF ..);cases this
 |a::l,b::m,hl,hm,h=>by
   unfold Stair at hl hm;rw[Ai8]at hl hm;have e:a=b:=by
    rcases Ah4.1 ((h a).1 (AhF ..))with e|e
    ·exact e
    ·rcases Ah4.1 ((h b).2 (AhF ..))with e2|e2
     ·exact e2.symm
     ·have:=(hm.1 a e).1;have:=(hl.1 b e2).1;omega
   subst e;rw[stair_ext hl.2 hm.2 (fun x=>?_)];constructor
   ·intro hx;rcases Ah4.1 ((h x).1 (AhL _ hx))with e|e
    ·subst e;have:=(hl.1 x hx).1;omega
    ·exact e
   ·intro hx;rcases Ah4.1 ((h x).2 (AhL _ hx))with e|e
    ·subst e;have:=(hm.1 x hx).1;omega
    ·exact e
theorem Cu.stair_uniq {l m:List Ai} (hl:Stair l) (hm:Stair m) (h:Same l m):l=m :=
 stair_ext hl hm (fun x=>⟨mem_of_same hl hm h x,mem_of_same hm hl h.symm x⟩)
def Cu.ins (l:List Ai) (s:Ai):List Ai:=if l.any (fun x=>leB x s)then l else l.filter (fun x=>decide (x.w<s.w))++s::l.filter (fun x=>decide (s.w<x.w) && !leB s x)
theorem Cu.ins_ok {l:List Ai} (h:Stair l) (s:Ai):Stair (ins l s)/\Same (ins l s) (l ++ [s]):=by
 unfold ins;split
 ·rename_i hc;obtain⟨x,hx,hxs⟩:=List.any_eq_true.1 hc;refine⟨h,Same.of_sub (fun y hy=>cov_mem (Aip _ hy)) (fun y hy=>?_)⟩;rcases AhG.1 hy with hy|hy
  ·exact cov_mem hy
  ·rw[Ah9.1 hy];exact⟨x,hx,leB_iff.1 hxs⟩
 ·rename_i hc;have hc:∀x,x∈l->¬ le x s:=fun x hx e=>hc (List.any_eq_true.2 ⟨x,hx,leB_iff.2 e⟩);refine⟨?_,Same.of_sub (fun y hy=>?_) (fun y hy=>?_)⟩
  ·unfold Stair;rw[Ajd,Ai8];refine⟨List.Pairwise.filter _ h,⟨fun y hy=>?_,List.Pairwise.filter _ h⟩,fun x hx y hy=>?_⟩
   ·obtain⟨_,q⟩:=rK.1 hy;simp only[pR,decide_eq_true_eq,Aib]at q;refine⟨q.1,?_⟩;have:¬ le s y:=fun e=>by rw[leB_iff.2 e]at q;cases q.2
    unfold le at this;omega
   ·obtain⟨m1,q⟩:=rK.1 hx;have q:x.w<s.w:=by simpa using q
    have hs:s.h<x.h:=by
     have:=hc x m1;unfold le at this;omega
    rcases Ah4.1 hy with rfl|hy
    ·exact⟨q,hs⟩
    ·obtain⟨_,q2⟩:=rK.1 hy;simp only[pR,decide_eq_true_eq,Aib]at q2;have:¬ le s y:=fun e=>by rw[leB_iff.2 e]at q2;cases q2.2
     unfold le at this;omega
  ·rcases AhG.1 hy with hy|hy
   ·exact cov_mem (Aip _ (rK.1 hy).1)
   ·rcases Ah4.1 hy with rfl|hy
    ·exact cov_mem (Aif _ (Ah9.2 rfl))
    ·exact cov_mem (Aip _ (rK.1 hy).1)
  ·rcases AhG.1 hy with hy|hy
   ·by_cases e1:y.w<s.w
    ·exact cov_mem (Aip _ (rK.2 ⟨hy,by simpa using e1⟩))
    ·by_cases e2:le s y
     ·exact⟨s,Aif _ (AhF ..),e2⟩
     ·have e3 : s.w<y.w :=by
       have:=hc y hy;unfold le at this e2;omega
      refine cov_mem (Aif _ (AhL _ (rK.2 ⟨hy,?_⟩)));rw[pR];refine⟨decide_eq_true e3,?_⟩;cases h2:leB s y with
      |false=>rfl
      |true=>exact absurd (leB_iff.1 h2) e2
   ·rw[Ah9.1 hy];exact cov_mem (Aif _ (AhF ..))
def Cu.stair (l:List Ai):List Ai:=l.foldl ins []
theorem Cu.foldl_ok:∀(l a:List Ai),Stair a->Stair (l.foldl ins a)/\Same (l.foldl ins a) (a++l)
 |[],a,h=>⟨h,by rw[List.append_nil];exact Same.refl _⟩
 |s::l,a,h=>by
   obtain⟨h1,h2⟩:=ins_ok h s;obtain⟨h3,h4⟩:=foldl_ok l (ins a s) h1;refine⟨h3,h4.trans ?_⟩;have:=h2.append (Same.refl l);rwa[AiV]at this
theorem Cu.stair_ok (l:List Ai):Stair (stair l)/\Same (stair l) l:=foldl_ok l [] List.Pairwise.nil
theorem Cu.stair_eq {l m:List Ai} (h:Stair m) (k:Same m l):m=stair l:=stair_uniq h (stair_ok l).1 (k.trans (stair_ok l).2.symm)
theorem Cu.stair_congr {l m:List Ai} (h:Same l m):stair l=stair m:=stair_eq (stair_ok l).1 ((stair_ok l).2.trans h)
def Cu.scan:List Ai->List Ai->List Ai
 |out,[]=>out
 |out,s::l=>scan (match out.getLast? with
   |none=>out ++ [s]
   |some x=>if s.h<x.h then out ++ [s]else out) l
def Cu.Asc (l:List Ai):Prop:=l.Pairwise fun a b=>a.w<b.w\/(a.w=b.w/\a.h<=b.h)
theorem Cu.scan_ok:∀(l out:List Ai),Stair out->Asc l->(∀x,x∈out->∀s,s∈l->x.w<s.w\/(x.w=s.w/\x.h<=s.h))->Stair (scan out l)/\Same (scan out l) (out++l)
 |[],out,h,_,_=>⟨h,by rw[List.append_nil];exact Same.refl _⟩
 |s::l,out,h,ha,hx=>by
   unfold Asc at ha;rw[Ai8]at ha;have key:∀out',Stair out'->Same out' (out ++ [s])->(∀x,x∈out'->x∈out\/x=s)->Stair (scan out' l)/\Same (scan out' l) (out++s::l):=fun out' h1 h2 h3=>by
    obtain⟨k1,k2⟩:=scan_ok l out' h1 ha.2 (fun x hx' y hy=>by
     rcases h3 x hx' with e|rfl
     ·exact hx x e y (AhL _ hy)
     ·exact ha.1 y hy)
    refine⟨k1,k2.trans ?_⟩;have:=h2.append (Same.refl l);rwa[AiV]at this
   unfold scan;cases hl:out.getLast? with
   |none =>
     have e:out = []:=List.getLast?_eq_none_iff.1 hl;subst e;exact key [s] (List.pairwise_singleton ..) (Same.refl _) (fun x hx'=>.inr (Ah9.1 hx'))
   |some x =>
     obtain⟨pre,hpre⟩:=List.getLast?_eq_some_iff.1 hl;have hxm:x∈out:=by rw[hpre];exact Aif _ (Ah9.2 rfl)
     have hxs:=hx x hxm s (AhF ..);show Stair (scan (if s.h<x.h then out ++ [s]else out) l)/\Same (scan (if s.h<x.h then out ++ [s]else out) l) (out++s::l)
     by_cases hh:s.h<x.h
     ·rw[if_pos hh];have hlow:∀y,y∈out->x.h<=y.h/\y.w<=x.w:=fun y hy=>by
       rw[hpre]at hy;rcases AhG.1 hy with hy|hy
       ·have h':=h;unfold Stair at h';rw[hpre,Ajd]at h';have:=h'.2.2 y hy x (Ah9.2 rfl);omega
       ·rw[Ah9.1 hy];omega
      refine key (out ++ [s]) ?_ (Same.refl _) (fun y hy=>?_)
      ·unfold Stair;rw[Ajd];refine⟨h,List.pairwise_singleton ..,fun y hy z hz=>?_⟩;rw[Ah9.1 hz];have:=hlow y hy;omega
      ·rcases AhG.1 hy with hy|hy
       ·exact .inl hy
       ·exact .inr (Ah9.1 hy)
     ·rw[if_neg hh];refine key out h (Same.of_sub (fun y hy=>cov_mem (Aip _ hy)) (fun y hy=>?_)) (fun y hy=>.inl hy);rcases AhG.1 hy with hy|hy
      ·exact cov_mem hy
      ·rw[Ah9.1 hy];exact⟨x,hxm,by omega,by omega⟩
theorem Cu.scan_stair {l m:List Ai} (ha:Asc l) (hp:l.Perm m):scan [] l=stair m:=by
 obtain⟨h1,h2⟩:=scan_ok l [] List.Pairwise.nil ha (fun x hx=>by cases hx);exact stair_eq h1 (h2.trans (Same.of_mem (fun x=>hp.mem_iff)))
def KV (a b:Ai):List Ai:=[⟨a.w+b.w,max a.h b.h⟩,⟨max a.w b.w,a.h+b.h⟩]
def IP (A B:List Ai):List Ai:=A.flatMap fun a=>B.flatMap fun b=>KV a b
def Bu (g:Int):Nat:=((Ah5 4).find? (fun i=>decide (g=2 ^ i))).getD 0
def JH (w:L.Sq Ak) (gr:Int) (i:Nat):List Ai:=([0,1].filter fun t=>FS (w.g i).grain gr t).map fun t=>D3 (w.g i).ol t
def B1 (g:Int) (k:Nat):Int:=DG g (Aw g k)
def GB (T:Int->List Ai) (g:Int):Nat->List Ai
 |0=>[]
 |k+1=>GB T g k++IP (T (Aw g k)) (T (B1 g k))
def CH (g:Int):Bool:=decide (EI g (g-1)=0)
def IQ (w:L.Sq Ak) (gr:Int) (T:Int->List Ai) (g:Int):List Ai :=
 if g=0 then [⟨0,0⟩]else if CH g=true then Cu.stair (JH w gr (Bu g))else Cu.stair (GB T g (AV g))
def Hh (w:L.Sq Ak) (gr:Int):Nat->List (List Ai)
 |0=>[]
 |k+1=>Hh w gr k ++ [IQ w gr (fun g=>(Hh w gr k).getD g.toNat []) k]
def Cq (w:L.Sq Ak) (gr:Int) (g:Int):List Ai:=(Hh w gr 16).getD g.toNat []
def Bf (l:List Ai):L.Sq Ai:=⟨l.length,fun i=>l.getD i ⟨0,0⟩⟩
def Aq (w:L.Sq Ak) (gr:Int) (g:Int):L.Sq Ai:=Bf (Cq w gr g)
def RM (n:Nat):Bool:=decide (n=0)||(if CH n=true then decide ((n:Int)=2 ^ Bu n)&&decide (Bu n<4)else decide (0<AV n)&&(Ah5 (AV n)).all (fun k=>decide (0<Aw n k)&&decide (Aw n k<n)&&decide (0<B1 n k)&&decide (B1 n k<n)&&decide (Aw n k+B1 n k=n)))
theorem iY:((Ah5 16).all RM)=true:=by kernel_rfl
theorem RN {g:Int} (h:1<=g) (h':g<=15) (h1:CH g=true):g=2 ^ Bu g/\Bu g<4:=by
 obtain⟨n,rfl⟩:=Aid (show 0<=g by omega);have:=AhC.1 iY n (AhB.2 (by omega));unfold RM at this;rw[if_pos h1,Aie,decide_eq_true_eq,pR,decide_eq_true_eq,decide_eq_true_eq]at this;rcases this with h|h
 ·omega
 ·exact h
theorem IR {g:Int} (h:1<=g) (h':g<=15) (h1:CH g=false):0<AV g/\∀k,k<AV g->0<Aw g k/\Aw g k<g/\0<B1 g k/\B1 g k<g/\Aw g k+B1 g k=g:=by
 obtain⟨n,rfl⟩:=Aid (show 0<=g by omega);have:=AhC.1 iY n (AhB.2 (by omega));unfold RM at this;rw[if_neg (by rw[h1];decide),Aie,decide_eq_true_eq,pR,decide_eq_true_eq,AhC]at this;rcases this with h|⟨h,hk⟩
 ·omega
 ·refine⟨h,fun k hkk=>?_⟩;have:=hk k (AhB.2 hkk);simp only[pR,decide_eq_true_eq]at this;exact⟨this.1.1.1.1,this.1.1.1.2,this.1.1.2,this.1.2,this.2⟩
theorem iZ {T T':Int->List Ai} {g:Int} (h:∀p,0<=p->p<g->T p=T' p) (hp:∀k,k<AV g->0<Aw g k/\Aw g k<g/\0<B1 g k/\B1 g k<g/\Aw g k+B1 g k=g):∀k,k<=AV g->GB T g k=GB T' g k
 |0,_=>rfl
 |k+1,hk=>by
   obtain⟨h1,h2,h3,h4,_⟩:=hp k (by omega);rw[GB,GB,iZ h hp k (by omega),h _ (by omega) h2,h _ (by omega) h4]
theorem AeF {w:L.Sq Ak} {gr:Int} {T T':Int->List Ai} {g:Int} (h0:0<=g) (h15:g<=15) (h:∀p,0<=p->p<g->T p=T' p):IQ w gr T g=IQ w gr T' g:=by
 unfold IQ
 by_cases e:g=0
 ·rw[if_pos e,if_pos e]
 ·rw[if_neg e,if_neg e];cases h1:CH g with
  |true=>rfl
  |false =>
    rw[if_neg (by decide),if_neg (by decide),iZ h (IR (by omega) h15 h1).2 _ (Ah0 _)]
theorem O9 (w:L.Sq Ak) (gr:Int):∀k,(Hh w gr k).length=k
 |0=>rfl
 |k+1=>by rw[Hh,AhU,O9 w gr k];rfl
theorem RO (w:L.Sq Ak) (gr:Int):∀k m,m<=k->∀j,j<m->(Hh w gr k).getD j []=(Hh w gr m).getD j []
 |0,m,h,j,hj=>by omega
 |k+1,m,h,j,hj=>by
   by_cases e:m=k+1
   ·rw[e]
   ·rw[<- RO w gr k m (by omega) j hj,Hh];simp only[AS];rw[AhP (by rw[O9];omega)]
theorem RP (w:L.Sq Ak) (gr:Int) {g:Int} (h0:0<=g) (h15:g<=15):Cq w gr g=IQ w gr (Cq w gr) g:=by
 obtain⟨n,rfl⟩:=Aid h0;have e1:Cq w gr n=IQ w gr (fun g=>(Hh w gr n).getD g.toNat []) n:=by
  unfold Cq;rw[Ah7,RO w gr 16 (n+1) (by omega) n (by omega),Hh];simp only[AS];rw[AhT (by rw[O9];omega),O9,Nat.sub_self];rfl
 rw[e1];refine AeF (by omega) h15 (fun p hp hpg=>?_);unfold Cq;rw[RO w gr 16 n (by omega) p.toNat (by omega)]
theorem RQ (w:L.Sq Ak) (gr:Int):Cq w gr 0 = [⟨0,0⟩]:=by
 rw[RP w gr (by decide) (by decide)];rfl
theorem jA (w:L.Sq Ak) (gr:Int) {g:Int} (h:1<=g) (h15:g<=15) (h1:CH g=true):Cq w gr g=Cu.stair (JH w gr (Bu g)):=by
 rw[RP w gr (by omega) h15];unfold IQ;rw[if_neg (by omega),if_pos h1]
theorem RR (w:L.Sq Ak) (gr:Int) {g:Int} (h:1<=g) (h15:g<=15) (h1:CH g=false):Cq w gr g=Cu.stair (GB (Cq w gr) g (AV g)):=by
 rw[RP w gr (by omega) h15];unfold IQ;rw[if_neg (by omega),if_neg (by rw[h1];decide)]
theorem AeG (l:List Ai) (s:Ai):(Cu.ins l s).length<=l.length+1:=by
 unfold Cu.ins;split
 ·omega
 ·rw[AhU,Aim];have h:∀l:List Ai,(l.filter (fun x=>decide (x.w<s.w))).length+(l.filter (fun x=>decide (s.w<x.w) && !Cu.leB s x)).length<=l.length:=fun l=>by
   induction l with
   |nil=>simp
   |cons a l ih =>
     by_cases h1:a.w<s.w
     ·rw[List.filter_cons_of_pos (by simpa using h1),List.filter_cons_of_neg (by simp;omega),Aim,Aim];omega
     ·rw[List.filter_cons_of_neg (by simpa using h1),Aim];have:=AiO (fun x=>decide (s.w<x.w) && !Cu.leB s x) [a];rw[show a::l = [a]++l from rfl,List.filter_append,AhU];simp at this;omega
  have:=h l;omega
theorem RS (l:List Ai):(Cu.stair l).length<=l.length:=by
 have h:∀(l a:List Ai),(l.foldl Cu.ins a).length<=a.length+l.length:=fun l=>by
  induction l with
  |nil=>intro a;simp
  |cons s l ih=>intro a;rw[List.foldl_cons,Aim];have:=ih (Cu.ins a s);have:=AeG a s;omega
 have:=h l [];simpa[Cu.stair]using this
theorem AeH {l:List Ai} {s x:Ai} (h:x∈Cu.ins l s):x∈l\/x=s:=by
 unfold Cu.ins at h;split at h
 ·exact .inl h
 ·rcases AhG.1 h with h|h
  ·exact .inl (rK.1 h).1
  ·rcases Ah4.1 h with h|h
   ·exact .inr h
   ·exact .inl (rK.1 h).1
theorem jB {l:List Ai} {x:Ai} (h:x∈Cu.stair l):x∈l:=by
 have k:∀(l a:List Ai),x∈l.foldl Cu.ins a->x∈a\/x∈l:=fun l=>by
  induction l with
  |nil=>intro a h;exact .inl h
  |cons s l ih =>
    intro a h;rcases ih _ h with h|h
    ·rcases AeH h with h|h
     ·exact .inl h
     ·exact .inr (h ▸ AhF ..)
    ·exact .inr (AhL _ h)
 rcases k l [] h with h|h
 ·cases h
 ·exact h
theorem jC (A B:List Ai):(IP A B).length=2*(A.length*B.length):=by
 have h:∀a:Ai,(B.flatMap fun b=>KV a b).length=2*B.length:=fun a=>by
  induction B with
  |nil=>rfl
  |cons b B ih=>rw[List.flatMap_cons,AhU,ih,Aim];show 2+_=_;omega
 unfold IP
 induction A with
 |nil=>simp
 |cons a A ih=>rw[List.flatMap_cons,AhU,h,ih,Aim,Nat.add_mul];omega
def jD:Nat->List Nat
 |0=>[]
 |n+1=>let T:=jD n;T ++ [if n=0 then 1 else if CH n=true then 2 else((Ah5 (AV n)).map fun k=>2*(T.getD (Aw n k).toNat 0*T.getD (B1 n k).toNat 0)).sum]
def cb (g:Int):Nat:=(jD 16).getD g.toNat 0
def JI (g:Int) (k:Nat):Nat:=((Ah5 k).map fun k=>2*(cb (Aw g k)*cb (B1 g k))).sum
def jE (n:Nat):Bool:=decide (cb n<=2000)&&(decide (n=0)||(if CH n=true then decide (cb n=2)else decide (cb n=JI n (AV n))))
theorem AeI:((Ah5 16).all jE)=true:=by kernel_rfl
theorem ME {g:Int} (h:0<=g) (h':g<=15):cb g<=2000/\(1<=g->CH g=true->cb g=2)/\(1<=g->CH g=false->cb g=JI g (AV g)):=by
 obtain⟨n,rfl⟩:=Aid h;have:=AhC.1 AeI n (AhB.2 (by omega));unfold jE at this;rw[pR,decide_eq_true_eq,Aie,decide_eq_true_eq]at this;obtain⟨h1,h2⟩:=this;refine⟨h1,fun h3 h4=>?_,fun h3 h4=>?_⟩
 ·rcases h2 with h2|h2
  ·omega
  ·rw[if_pos h4,decide_eq_true_eq]at h2;exact h2
 ·rcases h2 with h2|h2
  ·omega
  ·rw[if_neg (by rw[h4];decide),decide_eq_true_eq]at h2;exact h2
theorem AeJ (f:Nat->Nat) (k:Nat):((Ah5 (k+1)).map f).sum=((Ah5 k).map f).sum+f k:=by
 rw[List.range_succ,List.map_append,List.sum_append];simp
theorem RT (g:Int) (k:Nat):JI g (k+1)=JI g k+2*(cb (Aw g k)*cb (B1 g k)):=AeJ _ _
theorem jF (g:Int):∀{k m},k<=m->JI g k<=JI g m:=fun {k m} h=>by
 induction m with
 |zero=>rw[show k=0 by omega];exact Ah0 _
 |succ m ih =>
   by_cases e:k=m+1
   ·rw[e];exact Ah0 _
   ·rw[RT];have:=ih (by omega);omega
structure OA (T:Int->List Ai) (g:Int):Prop where
 len:(T g).length<=cb g
 bd:∀s,s∈T g->0<=s.w/\s.w<=4096*g/\0<=s.h/\s.h<=4096*g
theorem AeK {A B:List Ai} {p q g:Int} (hA:∀s,s∈A->0<=s.w/\s.w<=4096*p/\0<=s.h/\s.h<=4096*p) (hB:∀s,s∈B->0<=s.w/\s.w<=4096*q/\0<=s.h/\s.h<=4096*q) (e:p+q=g):∀s,s∈IP A B->0<=s.w/\s.w<=4096*g/\0<=s.h/\s.h<=4096*g:=fun s hs=>by
 unfold IP at hs;obtain⟨a,ha,hs⟩:=List.mem_flatMap.1 hs;obtain⟨b,hb,hs⟩:=List.mem_flatMap.1 hs;have h1:=hA a ha;have h2:=hB b hb;unfold KV at hs;rcases Ah4.1 hs with rfl|hs
 ·simp only;omega
 ·rcases Ah4.1 hs with rfl|hs
  ·simp only;omega
  ·cases hs
theorem AeL (l:L.Sq L.Pt) (t:Int):0<=(D3 l t).w/\(D3 l t).w<=4096/\0<=(D3 l t).h/\(D3 l t).h<=4096:=by
 have hb:=Rl l;have hle:(CS l).x<=(CT l).x/\(CS l).y<=(CT l).y:=by
  unfold CS CT;cases hv:Am l with
  |false=>exact⟨AhV _,AhV _⟩
  |true =>
    obtain⟨n3,_,_,_⟩:=CZ hv;simp only[cond_true];have h1:=Rj (l:=l) l.n 0 (by omega);have h2:=Rk (l:=l) l.n 0 (by omega);omega
 unfold D3;cases decide (t=1)<;>simp only[cond_true,cond_false]<;>omega
theorem RU {T:Int->List Ai} {g:Int} (hT:∀p,0<=p->p<g->OA T p) (hp:∀k,k<AV g->0<Aw g k/\Aw g k<g/\0<B1 g k/\B1 g k<g/\Aw g k+B1 g k=g):∀k,k<=AV g->(GB T g k).length<=JI g k/\∀s,s∈GB T g k->0<=s.w/\s.w<=4096*g/\0<=s.h/\s.h<=4096*g
 |0,_=>⟨rH _,fun s hs=>by cases hs⟩
 |k+1,hk=>by
   obtain⟨h1,h2⟩:=RU hT hp k (by omega);obtain⟨p1,p2,p3,p4,p5⟩:=hp k (by omega);have hA:=hT _ (AhW p1) p2;have hB:=hT _ (AhW p3) p4;rw[GB];refine⟨?_,fun s hs=>?_⟩
   ·rw[AhU,jC,RT];have:=Nat.mul_le_mul hA.len hB.len;omega
   ·rcases AhG.1 hs with hs|hs
    ·exact h2 s hs
    ·exact AeK hA.bd hB.bd p5 s hs
theorem jG (w:L.Sq Ak) (gr:Int) (i:Nat):(JH w gr i).length<=2:=by
 unfold JH;rw[Aih];exact AiO _ _
theorem AeM (w:L.Sq Ak) (gr:Int):∀(n:Nat),n<=15->OA (Cq w gr) n:=by
 intro n
 induction n using Nat.strongRecOn with
 |_ n ih =>
   intro hn
   by_cases h0:n=0
   ·subst h0;refine⟨by rw[show((0:Nat):Int)=0 from rfl,RQ];decide,fun s hs=>?_⟩;rw[show((0:Nat):Int)=0 from rfl,RQ]at hs;rw[Ah9.1 hs];decide
   have hc:=ME (g:=n) (by omega) (by omega);cases h1:CH n with
   |true =>
     have e:=jA w gr (g:=n) (by omega) (by omega) h1;refine⟨?_,fun s hs=>?_⟩
     ·rw[e,hc.2.1 (by omega) h1];exact Aig (RS _) (jG _ _ _)
     ·rw[e]at hs;have hs:=jB hs;unfold JH at hs;obtain⟨t,_,rfl⟩:=List.mem_map.1 hs;have:=AeL (w.g (Bu n)).ol t;omega
   |false =>
     have e:=RR w gr (g:=n) (by omega) (by omega) h1;obtain⟨h2,h3⟩:=RU (T:=Cq w gr) (g:=n) (fun p hp hpn=>by
      obtain⟨m,rfl⟩:=Aid hp;exact ih m (by omega) (by omega)) (IR (by omega) (by omega) h1).2 _ (Ah0 _)
     refine⟨?_,fun s hs=>?_⟩
     ·rw[e,hc.2.2 (by omega) h1];exact Aig (RS _) h2
     ·rw[e]at hs;exact h3 s (jB hs)
theorem MF (w:L.Sq Ak) (gr:Int) {g:Int} (h:0<=g) (h':g<=15):OA (Cq w gr) g:=by
 obtain⟨n,rfl⟩:=Aid h;exact AeM w gr n (by omega)
theorem AeN {n:Nat} {f u:Nat->Ai} (h:D0 DX n f u):Dy u n=Cu.stair ((Ah5 n).map f):=by
 have e:∀k,Dy u k=Cu.scan [] ((Ah5 k).map u):=fun k=>by
  have step:∀(l:List Ai) (x:Ai) (out:List Ai),Cu.scan out (l ++ [x])=(match (Cu.scan out l).getLast? with|none=>Cu.scan out l ++ [x]|some y=>if x.h<y.h then Cu.scan out l ++ [x]else Cu.scan out l):=fun l x=>by
   induction l with
   |nil=>intro out;simp only[List.nil_append,Cu.scan]
   |cons a l ih=>intro out;simp only[List.cons_append,Cu.scan];exact ih _
  induction k with
  |zero=>rfl
  |succ k ih=>rw[Dy,List.range_succ,List.map_append,List.map_singleton,step,<- ih];all_goals (cases(Dy u k).getLast?<;>rfl)
 rw[e];refine Cu.scan_stair ?_ h.perm;unfold Cu.Asc;rw[Aij];intro i j hi hj hij;simp only[Aih,List.length_range]at hi hj;have:=h.asc i j hij hj;simp only[List.getElem_map,List.getElem_range];rw[iN]at this;omega
theorem AeO (l:List Ai):Cu.stair (Cu.stair l)=Cu.stair l:=Cu.stair_congr (Cu.stair_ok l).2
theorem AeP (l m:List Ai):Cu.stair (Cu.stair l++m)=Cu.stair (l++m):=Cu.stair_congr ((Cu.stair_ok l).2.append (Cu.Same.refl m))
theorem AeQ (l:List Ai):(Ah5 l.length).map (Bf l).g=l:=by
 apply List.ext_getElem
 ·simp
 ·intro i h1 h2;simp[Bf,AS,h2]
section
attribute [local irreducible] Hh Cq
def ET (w:L.Sq Ak) (gr:Int) (i t:Nat):List Ai:=(([0,1]:List Int).take t |>.filter fun t=>FS (w.g i).grain gr t).map fun t=>D3 (w.g i).ol t
def Fh (w:L.Sq Ak) (gr g:Int) (k:Nat):List Ai:=Cu.stair (GB (Cq w gr) g k)
def E4 (w:L.Sq Ak) (gr g:Int) (k i:Nat):List Ai:=Fh w gr g k++IP ((Cq w gr (Aw g k)).take i) (Cq w gr (B1 g k))
def Fy (w:L.Sq Ak) (gr g:Int) (k i j:Nat):List Ai:=E4 w gr g k i++((Cq w gr (B1 g k)).take j).flatMap fun b=>KV ((Aq w gr (Aw g k)).g i) b
def JJ (w:L.Sq Ak) (gr g:Int) (X:List Ai):Prop:=Cu.stair X=Cq w gr g/\X.length<=1000000
def CI (w:L.Sq Ak):Prop:=w.n<=4/\∀i,i<w.n->(w.g i).ol.n<=1000000
theorem iK {n:Int} (h : -9223372036854775808<=n:=by omega) (k:n<=9223372036854775807:=by omega):Ab .i64 n:=⟨h,k⟩
def jH (n:Nat):Bool:=CH n||(Ah5 (AV n)).all (fun k=>(Ah5 (AV n)).all fun k'=>decide (k=k') || !decide (Aw n k=Aw n k'))
theorem AeR:((Ah5 16).all jH)=true:=by kernel_rfl
theorem OB {g:Int} (h:1<=g) (h':g<=15) (h1:CH g=false) {k k':Nat} (hk:k<AV g) (hk':k'<AV g) (e:Aw g k=Aw g k'):k=k':=by
 obtain⟨n,rfl⟩:=Aid (show 0<=g by omega);have:=AhC.1 AeR n (AhB.2 (by omega));unfold jH at this;rw[h1,Bool.false_or,AhC]at this;have:=AhC.1 (this k (AhB.2 hk)) k' (AhB.2 hk');rw[Aie,decide_eq_true_eq]at this;rcases this with h|h
 ·exact h
 ·rw[e]at h;simp at h
theorem jI {n:Nat} (h:n<=4):B7 n=2 ^ n-1:=by
 have:n=0\/n=1\/n=2\/n=3\/n=4:=by omega
 rcases this with rfl|rfl|rfl|rfl|rfl<;>decide
theorem OC {n:Nat} (h:n<=4):B7 n<=15:=(MD h).2.1
theorem jJ {n:Nat} (h:n<=4) {g:Int} (h1:1<=g) (hg:g<=B7 n) (ho:CH g=true):Bu g<n:=by
 obtain⟨e,hl⟩:=RN h1 (Ajb hg (OC h)) ho;rw[e,jI h]at hg;generalize Bu g=i at *;have h2:n=0\/n=1\/n=2\/n=3\/n=4:=by omega
 have h3:i=0\/i=1\/i=2\/i=3:=by omega
 rcases h2 with rfl|rfl|rfl|rfl|rfl<;>rcases h3 with rfl|rfl|rfl|rfl<;>simp at hg ⊢
theorem OD {i k:Nat} (hi:i<4) (hk:k<=i):(1<Gt (2 ^ i) k)↔k<i:=by
 have h3:i=0\/i=1\/i=2\/i=3:=by omega
 have h4:k=0\/k=1\/k=2\/k=3:=by omega
 rcases h3 with rfl|rfl|rfl|rfl<;>rcases h4 with rfl|rfl|rfl|rfl<;>first|(exfalso;omega)|decide
def IS (s:Ai):List SV:=[.int .i64 s.w,.int .i64 s.h]
theorem OE {X Y:List Ai} (h:X=Y):(Bf X).n=(Bf Y).n/\∀i,i<(Bf X).n->IS ((Bf X).g i)=IS ((Bf Y).g i):=by rw[h];exact rz
theorem jL {X Y Z:List Ai} (h:Y=X++Z) {r:Nat->List SV} (hr:∀i,i<Z.length->r i=IS (Z.getD i ⟨0,0⟩)):(Bf X).n+Z.length=(Bf Y).n/\∀i,i<(Bf X).n+Z.length->AH (Bf X).n (fun j=>IS ((Bf X).g j)) r i=IS ((Bf Y).g i):=by
 subst h;refine⟨by simp[Bf],fun i hi=>?_⟩;unfold AH
 by_cases e:i<(Bf X).n
 ·rw[if_pos e];have e':i<X.length:=e;simp[Bf,AS,AhP e']
 ·rw[if_neg e];have e':¬ i<X.length:=e;have hi:i<X.length+Z.length:=hi;rw[show(Bf X).n=X.length from rfl,hr (i-X.length) (by omega)];simp[Bf,AS,AhT (show X.length<=i by omega)]
theorem jM {X:List Ai} {u:Nat->Ai} (h:D0 DX (Bf X).n (Bf X).g u) {Y:List Ai} (hY:Cu.stair X=Y):Bk u (Bf X).n=(Bf Y).n/\∀i,i<Bk u (Bf X).n->IS (Cc u (Bf X).n i)=IS ((Bf Y).g i):=by
 have e:Dy u (Bf X).n=Y:=by rw[AeN h,show(Bf X).n=X.length from rfl,AeQ,hY]
 unfold Bk Cc Bf at *;simp only at e ⊢;rw[e];exact rz
theorem AeS (w:L.Sq Ak) (gr g:Int) (k i:Nat) {j:Nat} (hj:j<(Aq w gr (B1 g k)).n):Fy w gr g k i (j+1)=Fy w gr g k i j++KV ((Aq w gr (Aw g k)).g i) ((Aq w gr (B1 g k)).g j):=by
 have hj:j<(Cq w gr (B1 g k)).length:=hj;unfold Fy;rw[List.take_add_one,Ahz hj,List.flatMap_append,<- AiV];simp[Aq,Bf,AS,hj]
theorem AeT (w:L.Sq Ak) (gr g:Int) (k:Nat) {i:Nat} (hi:i<(Aq w gr (Aw g k)).n):Fy w gr g k i (Aq w gr (B1 g k)).n=E4 w gr g k (i+1):=by
 have hi:i<(Cq w gr (Aw g k)).length:=hi;unfold Fy E4;rw[show(Aq w gr (B1 g k)).n=(Cq w gr (B1 g k)).length from rfl,List.take_length,List.take_add_one,Ahz hi];unfold IP;rw[List.flatMap_append,<- AiV];simp[Aq,Bf,AS,hi]
theorem AeU (w:L.Sq Ak) (gr g:Int) (k:Nat):E4 w gr g k 0=Fh w gr g k:=by unfold E4 IP;simp
theorem AeV (w:L.Sq Ak) (gr g:Int) (k i:Nat):Fy w gr g k i 0=E4 w gr g k i:=by unfold Fy;simp
theorem AeW (w:L.Sq Ak) (gr g:Int) (k:Nat):Cu.stair (E4 w gr g k (Aq w gr (Aw g k)).n)=Fh w gr g (k+1):=by
 unfold E4 Fh;rw[show(Aq w gr (Aw g k)).n=(Cq w gr (Aw g k)).length from rfl,List.take_length,AeP];rfl
theorem AeX (w:L.Sq Ak) (gr:Int) (i:Nat) {t:Nat} (ht:t<2):ET w gr i (t+1)=ET w gr i t++(if FS (w.g i).grain gr t=true then [D3 (w.g i).ol t]else []):=by
 unfold ET;have h:t=0\/t=1:=by omega
 rcases h with rfl|rfl
 ·simp only[List.take,List.filter_nil,List.map_nil,List.nil_append];show AhK _ (Aje _ [0])=_;cases h:FS (w.g i).grain gr 0<;>simp[Aje,h]
 ·show AhK _ (Aje _ [0,1])=AhK _ (Aje _ [0])++_;cases h:FS (w.g i).grain gr 0<;>cases h2:FS (w.g i).grain gr 1<;>simp[Aje,h,h2]
theorem jN (w:L.Sq Ak) (gr:Int) {g:Int} (h:1<=g) (h':g<=15) (h1:CH g=false) {k i j:Nat} (hk:k<AV g):(Fy w gr g k i j).length<=10000/\(E4 w gr g k i).length<=10000/\(Fh w gr g k).length<=2000:=by
 obtain⟨hp0,hp⟩:=IR h h' h1;obtain⟨p1,p2,p3,p4,p5⟩:=hp k hk;have hc:=ME (g:=g) (by omega) h';have hT:∀p,0<=p->p<g->OA (Cq w gr) p:=fun p hp hpg=>MF w gr hp (by omega);have e1:(Fh w gr g k).length<=2000:=by
  have h2:=(RU hT hp k (by omega)).1;have h3:=RS (GB (Cq w gr) g k);have h4:=jF g (show k<=AV g by omega);have h5:=hc.2.2 h h1;unfold Fh;omega
 have hpk:2*(cb (Aw g k)*cb (B1 g k))<=2000:=by
  have h4:=jF g (show k+1<=AV g by omega);rw[RT]at h4;have h5:=hc.2.2 h h1;omega
 have hA:=(hT _ (AhW p1) p2).len;have hB:=(hT _ (AhW p3) p4).len;have hc2:=(ME (g:=B1 g k) (by omega) (by omega)).1;have e2:(E4 w gr g k i).length<=4000:=by
  unfold E4;rw[AhU,jC];have:(List.take i (Cq w gr (Aw g k))).length<=cb (Aw g k):=by rw[AiP];omega
  have:=Nat.mul_le_mul this hB;omega
 refine⟨?_,by omega,e1⟩;unfold Fy;rw[AhU];have hfm:∀(a:Ai) (B:List Ai),(B.flatMap fun b=>KV a b).length=2*B.length:=fun a B=>by
  induction B with
  |nil=>rfl
  |cons b B ih=>rw[List.flatMap_cons,AhU,ih,Aim];show 2+_=_;omega
 rw[hfm,AiP];omega
theorem OF (w:L.Sq Ak) (gr:Int) {g:Int} (h:0<=g) (h':g<=15):(Cq w gr g).length<=2000:=Aig (MF w gr h h').len (ME h h').1
theorem jO {w:L.Sq Ak} {gr g:Int} {i:Nat} (h:i<(Aq w gr g).n):(Aq w gr g).g i∈Cq w gr g:=by
 have h:i<(Cq w gr g).length:=h;show(Cq w gr g).getD i ⟨0,0⟩∈_;rw[AS,Ahz h];exact AhX h
theorem AeY (w:L.Sq Ak) (gr:Int) {g:Int} (h:1<=g) (h15:g<=15) (h1:CH g=false):JJ w gr g (Fh w gr g (AV g)):=by
 have e:Fh w gr g (AV g)=Cq w gr g:=(RR w gr h h15 h1).symm;refine⟨?_,?_⟩
 ·rw[e,RR w gr h h15 h1,AeO]
 ·rw[e];have:=(MF w gr (by omega) h15 (g:=g)).len;have:=(ME (g:=g) (by omega) h15).1;omega
section
attribute [local irreducible] AV Aw B7
abbrev Ia:Mk:={ T:=(L.Sq Ak)×(Int)×(Int->Bool)×(Int),U:=Int->Bool,args:=fun t=>(fun w gr dom g=>[.loc 1000 0,.p (.int .i64 g)]) t.1 t.2.1 t.2.2.1 t.2.2.2,lkeys:=[1000,1001],keys:=[],lent:=fun t=>(fun w gr dom g=>[(1000,.blk 172 [.p ((.sl 4 w.n (fun i=>[.int .i64 (w.g i).id,.int .i64 (w.g i).colour,.int .i64 (w.g i).grain,.sl 2 (w.g i).ol.n (fun i1=>[.int .i64 ((w.g i).ol.g i1).x,.int .i64 ((w.g i).ol.g i1).y])]))),.p (.int .i64 gr),.mapv 1001]),(1001,.mq 3 64 dom (Ag (Aq w gr)))]) t.1 t.2.1 t.2.2.1 t.2.2.2,pre:=fun t=>(fun w gr dom g=>CI w/\0<=g/\g<=B7 w.n) t.1 t.2.1 t.2.2.1 t.2.2.2,post:=fun t u=>(fun w gr dom g=>fun u=>True) t.1 t.2.1 t.2.2.1 t.2.2.2 u,lent':=fun t u=>(fun w gr dom g=>fun u=>[(1000,.blk 172 [.p ((.sl 4 w.n (fun i=>[.int .i64 (w.g i).id,.int .i64 (w.g i).colour,.int .i64 (w.g i).grain,.sl 2 (w.g i).ol.n (fun i1=>[.int .i64 ((w.g i).ol.g i1).x,.int .i64 ((w.g i).ol.g i1).y])]))),.p (.int .i64 gr),.mapv 1001]),(1001,.mq 3 64 u (Ag (Aq w gr)))]) t.1 t.2.1 t.2.2.1 t.2.2.2 u,own:=fun t u=>(fun w gr dom g=>fun u=>[]) t.1 t.2.1 t.2.2.1 t.2.2.2 u,res:=fun t u=>(fun w gr dom g=>fun u=>.p (Ag (Aq w gr) g)) t.1 t.2.1 t.2.2.1 t.2.2.2 u }
abbrev jP:Ia.T->Nat:=fun t=>(fun w gr dom g=>g.toNat) t.1 t.2.1 t.2.2.1 t.2.2.2
theorem AeZ (rn:Nat) (w:L.Sq Ak) (gr:Int) (dom:Int->Bool) (g:Int) (hp:Ia.pre (w,gr,dom,g)) (hmu:g.toNat<rn+1):vc prog ({ muts:=[2,80],frz:=B9 [],specs:=AE [(116,RI),(114,Ro),(115,Ou)],loops:=AT [(21,{ T:=Nat,keep:=[2,3,7],keepO:=[2,7,80,1000,1001],chg:=fun i=>[(8,.p (.int .i64 (i:Int)))],own:=fun _=>[],inv:=fun i=>i<=Bu g,mu:=fun i=>Bu g-i }),(24,{ T:=Nat,keep:=[2,3,7,8],keepO:=[2,1000,1001],chg:=fun i=>[(93,.p (.int .i64 (i:Int)))],own:=fun t=>[(7,.blk 64 [.row 80]),(80,.row 73 2 (Bf (ET w gr (Bu g) t)).n (fun j=>[.int .i64 ((Bf (ET w gr (Bu g) t)).g j).w,.int .i64 ((Bf (ET w gr (Bu g) t)).g j).h]))],inv:=fun i=>i<=2,mu:=fun i=>2-i }),(8,{ T:=Nat×(Int->Bool)×Nat,keep:=[2,3,7,10,31,32],keepO:=[2,1000],chg:=fun t=>[(33,.p (.int .i64 (t.1:Int)))],own:=fun t=>[(7,.blk 64 [.row 80]),(80,.row 73 2 (Bf (E4 w gr g t.2.2 t.1)).n (fun j=>[.int .i64 ((Bf (E4 w gr g t.2.2 t.1)).g j).w,.int .i64 ((Bf (E4 w gr g t.2.2 t.1)).g j).h])),(1001,.mq 3 64 t.2.1 (Ag (Aq w gr)))],inv:=fun t=>t.1<=(Aq w gr (Aw g t.2.2)).n/\t.2.2<AV g,mu:=fun t=>(Aq w gr (Aw g t.2.2)).n-t.1,tie:=fun t=>[(10,.int .i64 (Aw g t.2.2))] }),(11,{ T:=Nat×Nat×Nat,keep:=[2,3,7,10,12,31,32,33,41,42],keepO:=[2,12,1000,1001],chg:=fun t=>[(43,.p (.int .i64 (t.1:Int)))],own:=fun t=>[(7,.blk 64 [.row 80]),(80,.row 73 2 (Bf (Fy w gr g t.2.1 t.2.2 t.1)).n (fun j=>[.int .i64 ((Bf (Fy w gr g t.2.1 t.2.2 t.1)).g j).w,.int .i64 ((Bf (Fy w gr g t.2.1 t.2.2 t.1)).g j).h]))],inv:=fun t=>t.1<=(Aq w gr (B1 g t.2.1)).n/\t.2.1<AV g,mu:=fun t=>(Aq w gr (B1 g t.2.1)).n-t.1,tie:=fun t=>[(10,.int .i64 (Aw g t.2.1)),(33,.int .i64 (t.2.2:Int))] })],iters:=BG [(156,RH)],rfs:=AQ [(6,{ T:=Int->Bool,keep:=[2,3,7],keepO:=[1000,2],own:=fun k d=>[(7,.blk 64 [.row 80]),(80,.row 73 2 (Bf (Fh w gr g k)).n (fun j=>[.int .i64 ((Bf (Fh w gr g k)).g j).w,.int .i64 ((Bf (Fh w gr g k)).g j).h])),(1001,.mq 3 64 d (Ag (Aq w gr)))],inv:=fun k _=>k<=AV g })],nils:=B3 [(5,[(7,80,73,2)]),(20,[(7,80,73,2)])],mks:=Ev [(117,KU),(67,Mk.lt Ia jP rn)],ren:=fun k=>if k=1010 then 131 else if k=32 then 80 else k,joins:=AT [(29,{ T:=(Int->Bool)×List Ai,keep:=[2,3,7],keepO:=[2,1000],chg:=fun _=>[],own:=fun t=>[(7,.blk 64 [.row 80]),(80,.row 73 2 (Bf (t.2)).n (fun j=>[.int .i64 ((Bf (t.2)).g j).w,.int .i64 ((Bf (t.2)).g j).h])),(1001,.mq 3 64 t.1 (Ag (Aq w gr)))],inv:=fun t=>JJ w gr g t.2,mu:=fun _=>0 }),(30,{ T:=Int->Bool,keep:=[2,3],keepO:=[2,1000],chg:=fun _=>[],own:=fun t=>[(1001,.mq 3 64 t (Ag (Aq w gr)))],inv:=fun t=>t g=true,mu:=fun _=>0 })],anys:=[1,27,29,30],rek:=Lw [(16,[(80,131)]),(29,[(80,131)])] }) (Ae f67) (DH f67 (Ia.args (w,gr,dom,g)) (Ia.lent (w,gr,dom,g))) (FB prog f67 Ia (w,gr,dom,g)):=
 @Eq.mpr _ (let I:=SV.int .i64;let T:=AhD;let A68:=(0:Nat);let A63:=nat_lit 3;let A62:=nat_lit 7;let A48:=nat_lit 2;let A46:=(Bf (Fh w gr g A68));let A42:=(140737488355328:Nat);let A41:=(1000000:Nat);let A32:=(Bu g);let A29:=(Bf (Fh w gr g (AV g)));let A26:=(∀(x:Int),dom x=dom x);let A25:=(0:Int);let A24:=(1
:Int);let A21:=(2:Nat);let A13:=nat_lit 0;let A12:=(Aq w gr);let A10:=(Aq w gr g);let A16:=(A10.n=A10.n/\∀(i:Nat),let A76:=[I (A10.g i).w,I (A10.g i).h];i<A10.n->A76=A76);let A7:=(∀(x:Int),dom x=true->Ag A12 x=Ag A12 x);let A2:=(w.n=w.n/\∀(i:Nat),let A20:=[I (w.g i).id,I (w.g i).colour,I (w.g i).grain,SV.sl
 A21 (w.g i).ol.n fun(i1:Nat)=>[I ((w.g i).ol.g i1).x,I ((w.g i).ol.g i1).y]];i<w.n->A20=A20);let A1:=((decide (g=A25)=true->∃(g_1:(Int->Bool)×List Ai),let A80:=(Bf g_1.2);0=0/\SV.ref [I g] A13=SV.ref [I g] A13/\0=0/\(1=A80.n/\∀(i:Nat),i<1->AD [I A25,I A25]
 A48 i = [I (A80.g i).w,I (A80.g i).h])/\(∀(x:Int),dom x=g_1.1 x)/\A7/\0=0/\A2/\gr=gr/\JJ w gr g g_1.2)/\(decide (g=A25)=false->Ab .i64 (g-A24)/\(decide (EI g (g-A24)=A25)=true->(∃(g_1:Nat),A25=(↑g_1:Int)/\g_1<=Bu g)/\∀(g_1:Nat),let A18:=(↑g_1:Int);let A71:=(A25 <=
 A18/\A18<(↑w.n:Int));let A9:=(w.g (T A18));let A22:=((∀(i:Nat),let A69:=[I (A9.ol.g i).x,I (A9.ol.g i).y];i<A9.ol.n->A69=A69)/\A9.ol.n<=A41);g_1<=Bu g->A25<=A18/\(decide (A24<Gt g A18)=true->Ab .i64 (A18+A24)/\∃(g':Nat),A18+A24=(↑g':Int)/\0=0/\SV.ref [I g] A13=SV.ref [I
 g] A13/\0=0/\(0=0/\∀(i:Nat),i<0->([]:List SV)= [])/\0=0/\A2/\gr=gr/\A26/\A7/\g'<=Bu g/\Bu g-g'<Bu g-g_1)/\(decide (A24<Gt g A18)=false->(∃(g_2:Nat),let A50:=(Bf (ET w gr A32 g_2));A25=(↑g_2:Int)/\(0=A50.n/\∀(i:Nat),i<0
 -> []= [I (A50.g i).w,I (A50.g i).h])/\g_2<=A21)/\∀(g_2:Nat),let A19:=(↑g_2:Int);let A79:=(A19+A24);let A6:=(Bf (ET w gr A32 g_2));let A70:=(A6.n+1);g_2<=A21->(decide (A19<2)=true->A71/\True/\(FS A9.grain gr A19=true->A71/\(A22/\A70*16<=A42/\Ab .i64 A79/\∃(g':Nat),let A54 :=
 (Bf (ET w gr A32 g'));A19+A24=(↑g':Int)/\A18=A18/\0=0/\SV.ref [I g] A13=SV.ref [I g] A13/\0=0/\(A6.n+1=A54.n/\∀(i:Nat),let A51:=(D3 (L.Sq.mk A9.ol.n fun(i:Nat)=>A9.ol.g i) A19);i<A6.n+1->AH A6.n (fun(j:Nat)=>[I (A6.g j).w,I (A6.g j).h]) (fun(x:Nat)=>[I A51.w,I A51.h])
 i = [I (A54.g i).w,I (A54.g i).h])/\0=0/\A2/\gr=gr/\A26/\A7/\g'<=A21/\A21-g'<A21-g_2)/\A22/\(A70*16<=A42/\Ab .i64 A79/\∃(g':Nat),let A55:=(Bf (ET w gr A32 g'));A19+A24=(↑g':Int)/\A18=A18/\0=0/\SV.ref [I g] A13=SV.ref [I g] A13/\0=0/\(A6.n+1 =
 A55.n/\∀(i:Nat),let A52:=(D3 (L.Sq.mk A9.ol.n fun(i:Nat)=>A9.ol.g i) A19);i<A6.n+1->AH A6.n (fun(j:Nat)=>[I (A6.g j).w,I (A6.g j).h]) (fun(x:Nat)=>[I A52.w,I A52.h]) i = [I (A55.g i).w,I (A55.g i).h])/\0=0/\A2/\gr=gr/\A26/\A7/\g'<=A21/\A21-g'<A21-g_2)/\A70*16<=A42/\Ab .i64 A79/\∃(g' :
 Nat),let A56:=(Bf (ET w gr A32 g'));A19+A24=(↑g':Int)/\A18=A18/\0=0/\SV.ref [I g] A13=SV.ref [I g] A13/\0=0/\(A6.n+1=A56.n/\∀(i:Nat),let A53:=(D3 (L.Sq.mk A9.ol.n fun(i:Nat)=>A9.ol.g i) A19);i<A6.n+1->AH A6.n (fun(j:Nat)=>[I (A6.g j).w,I (A6.g j).h]) (fun(x:Nat)=>[I
 A53.w,I A53.h]) i = [I (A56.g i).w,I (A56.g i).h])/\0=0/\A2/\gr=gr/\A26/\A7/\g'<=A21/\A21-g'<A21-g_2)/\(FS A9.grain gr A19=false->Ab .i64 A79/\∃(g':Nat),let A57:=(Bf (ET w gr A32 g'));A19+A24=(↑g':Int)/\A18=A18/\0=0/\SV.ref [I g] A13=SV.ref [I g] A13/\0=0 /\
 (A6.n=A57.n/\∀(i:Nat),i<A6.n -> [I (A6.g i).w,I (A6.g i).h]= [I (A57.g i).w,I (A57.g i).h])/\0=0/\A2/\gr=gr/\A26/\A7/\g'<=A21/\A21-g'<A21-g_2))/\(decide (A19<2)=false->∃(g_3:(Int->Bool)×List Ai),let A81:=(Bf g_3.2);0=0/\SV.ref [I g] A13=SV.ref [I g] A13/\0=nat_lit
 0/\(A6.n=A81.n/\∀(i:Nat),i<A6.n -> [I (A6.g i).w,I (A6.g i).h]= [I (A81.g i).w,I (A81.g i).h])/\(∀(x:Int),dom x=g_3.1 x)/\A7/\0=0/\A2/\gr=gr/\JJ w gr g g_3.2)))/\(decide (EI g (g-A24)=A25)=false->True/\((A25<=g/\g<=(15:Int))/\∃(t:Int->Bool),(0=A46.n/\∀(i:Nat),i<0 -> []= [I (A46.g
 i).w,I (A46.g i).h])/\(∀(x:Int),dom x=t x)/\A7/\0=0/\A2/\gr=gr/\A68<=AV g)/\(∀(k:Nat) (t:Int->Bool) (vk:Nat->Go.Value),let A39:=(Bf (Fh w gr g k));let A35:=(Bf (Fh w gr g (k+1)));k<AV g->k<=AV g->∃(t_1:L.Sq Ak×Int×(Int->Bool)×Int),let A83:=(Aq t_1.1 t_1.2.1);let A5:=(Aq t_1.1
 t_1.2.1 t_1.snd.2.2);let A43:=(↑A5.n:Int);let A28:=(A5.n=A5.n/\∀(i:Nat),let A77:=[I (A5.g i).w,I (A5.g i).h];i<A5.n->A77=A77);0=A68/\Aw g k=t_1.snd.2.2/\(w.n=t_1.1.n/\∀(i:Nat),let A58:=(t_1.1.g i);i<w.n -> [I (w.g i).id,I (w.g i).colour,I (w.g i).grain,SV.sl A21 (w.g i).ol.n fun(i1:Nat)=>[I ((w.g i).ol.g i1).x,I ((w.g i).ol.g
 i1).y]]= [I A58.id,I A58.colour,I A58.grain,SV.sl A21 A58.ol.n fun(i1:Nat)=>[I (A58.ol.g i1).x,I (A58.ol.g i1).y]])/\gr=t_1.2.1/\(∀(x:Int),t x=t_1.snd.2.1 x)/\(∀(x:Int),t x=true->Ag A12 x=Ag A83 x)/\((CI t_1.1/\A25<=t_1.snd.2.2/\t_1.snd.2.2<=B7 t_1.1.n)/\T t_1.snd.2.2<rn)/\∀(u:Int->Bool),True->(∃(g_1:Nat×(Int->Bool)×Nat),
 let A38:=(Bf (E4 w gr g g_1.2.2 g_1.1));A25=(↑g_1.1:Int)/\(A39.n=A38.n/\∀(i:Nat),i<A39.n -> [I (A39.g i).w,I (A39.g i).h]= [I (A38.g i).w,I (A38.g i).h])/\(∀(x:Int),u x=g_1.2.1 x)/\(∀(x:Int),u x=true->Ag A83 x=Ag A12 x)/\Aw g k=Aw g g_1.2.2/\g_1.1<=(Aq w gr (Aw g g_1.2.2)).n/\g_1.2.2<AV g)/\∀(g_1:Nat×(Int ->
 Bool)×Nat),let A72:=(Aq w gr (Aw g g_1.2.2));let A15:=(↑g_1.1:Int);let A27:=(A5.g (T A15));let A14:=(Bf (E4 w gr g g_1.2.2 g_1.1));Aw g k=Aw g g_1.2.2/\g_1.1<=A72.n/\g_1.2.2<AV g->(decide (A15<A43)=true->(A25<=A15/\A15<A43)/\∃(t_2:L.Sq Ak×Int×(Int->Bool)×Int),let A47:=(Aq t_2.1 t_2.2.1);let A8 :=
 (Aq t_2.1 t_2.2.1 t_2.snd.2.2);let A61:=(↑A8.n:Int);0=A68/\DG g (Aw g k)=t_2.snd.2.2/\(t_1.1.n=t_2.1.n/\∀(i:Nat),let A60:=(t_2.1.g i);let A59:=(t_1.1.g i);i<t_1.1.n -> [I A59.id,I A59.colour,I A59.grain,SV.sl A21 A59.ol.n fun(i1:Nat)=>[I (A59.ol.g i1).x,I (A59.ol.g i1).y]]= [I A60.id,I A60.colour,I A60.grain,SV.sl A21
 A60.ol.n fun(i1:Nat)=>[I (A60.ol.g i1).x,I (A60.ol.g i1).y]])/\t_1.2.1=t_2.2.1/\(∀(x:Int),g_1.2.1 x=t_2.snd.2.1 x)/\(∀(x:Int),g_1.2.1 x=true->Ag A12 x=Ag A47 x)/\((CI t_2.1/\A25<=t_2.snd.2.2/\t_2.snd.2.2<=B7 t_2.1.n)/\T t_2.snd.2.2<rn)/\∀(u_1:Int->Bool),True->(∃(g_2:Nat×Nat×Nat),let A33:=(Bf (Fy w gr g g_2.2.1 g_2.2.2
 g_2.1));A25=(↑g_2.1:Int)/\(A14.n=A33.n/\∀(i:Nat),i<A14.n -> [I (A14.g i).w,I (A14.g i).h]= [I (A33.g i).w,I (A33.g i).h])/\Aw g k=Aw g g_2.2.1/\A15=(↑g_2.2.2:Int)/\g_2.1<=(Aq w gr (B1 g g_2.2.1)).n/\g_2.2.1<AV g)/\∀(g_2:Nat×Nat×Nat),let A73:=(Aq w gr (B1 g g_2.2.1));let A23:=(↑g_2.1:Int);let A49:=(A8.g (T A23));let A11
:=(Bf (Fy w gr g g_2.2.1 g_2.2.2 g_2.1));Aw g k=Aw g g_2.2.1/\A15=(↑g_2.2.2:Int)/\g_2.1<=A73.n/\g_2.2.1<AV g->(decide (A23<A61)=true->(A25<=A23/\A23<A61)/\Ab .i64 (A27.w+A49.w)/\Ab .i64 (A27.h+A49.h)/\(A11.n+2)*16<=A42/\Ab .i64 (A23+A24)/\∃(g':Nat×Nat ×
 Nat),let A74:=(Aq w gr (B1 g g'.2.1));let A34:=(Bf (Fy w gr g g'.2.1 g'.2.2 g'.1));A23+A24=(↑g'.1:Int)/\A61=A61/\(A8.n=A8.n/\∀(i:Nat),let A78:=[I (A8.g i).w,I (A8.g i).h];i<A8.n->A78=A78)/\0=0/\A15=A15/\A43=A43/\A28/\Aw g k=Aw g k/\0=0/\SV.ref [I g] A13=SV.ref [I g] A13/\0
 = 0/\vk A62=vk A62/\vk A63=vk A63/\vk A48=vk A48/\(A11.n+2=A34.n/\∀(i:Nat),i<A11.n+2->AH A11.n (fun(j:Nat)=>[I (A11.g j).w,I (A11.g j).h]) (AD [I (A27.w+A49.w),I (Max.max A27.h A49.h),I (Max.max A27.w A49.w),I (A27.h+A49.h)] A48) i = [I (A34.g i).w,I (A34.g i).h])/\A27.w=A27.w/\A27.h=A27.h/\(∀(x:Int),u_1 x
 = u_1 x)/\(∀(x:Int),u_1 x=true->Ag A47 x=Ag A47 x)/\0=0/\(t_2.1.n=t_2.1.n/\∀(i:Nat),let A64:=(t_2.1.g i);let A17:=[I A64.id,I A64.colour,I A64.grain,SV.sl A21 A64.ol.n fun(i1:Nat)=>[I (A64.ol.g i1).x,I (A64.ol.g i1).y]];i<t_2.1.n->A17=A17)/\t_2.2.1=t_2.2.1/\(Aw g k=Aw g g'.2.1/\A15=(↑g'.2.2:Int)/\g'.1 <=
 A74.n/\g'.2.1<AV g)/\A74.n-g'.1<A73.n-g_2.1)/\(decide (A23<A61)=false->Ab .i64 (A15+A24)/\∃(g':Nat×(Int->Bool)×Nat),let A75:=(Aq w gr (Aw g g'.2.2));let A40:=(Bf (E4 w gr g g'.2.2 g'.1));A15+A24=(↑g'.1:Int)/\A43=A43/\A28/\Aw g k=Aw g k/\0=0/\SV.ref [I g] A13 =
 SV.ref [I g] A13/\0=0/\vk A62=vk A62/\vk A63=vk A63/\vk A48=vk A48/\(A11.n=A40.n/\∀(i:Nat),i<A11.n -> [I (A11.g i).w,I (A11.g i).h]= [I (A40.g i).w,I (A40.g i).h])/\(∀(x:Int),u_1 x=g'.2.1 x)/\(∀(x:Int),u_1 x=true->Ag A47 x=Ag A12 x)/\0=0/\(t_2.1.n=t_1.1.n/\∀(i:Nat),let A66:=(t_1.1.g i);let A65
:=(t_2.1.g i);i<t_2.1.n -> [I A65.id,I A65.colour,I A65.grain,SV.sl A21 A65.ol.n fun(i1:Nat)=>[I (A65.ol.g i1).x,I (A65.ol.g i1).y]]= [I A66.id,I A66.colour,I A66.grain,SV.sl A21 A66.ol.n fun(i1:Nat)=>[I (A66.ol.g i1).x,I (A66.ol.g i1).y]])/\t_2.2.1=t_1.2.1/\(Aw g k=Aw g g'.2.2/\g'.1<=A75.n/\g'.2.2<AV g)/\A75.n-g'.1<A72.n-g_1.1)) /\
 (decide (A15<A43)=false->∃(t:Nat×(Nat->Ai)),(A14.n=t.1/\∀(i:Nat),i<A14.n -> [I (A14.g i).w,I (A14.g i).h]= [I (t.2 i).w,I (t.2 i).h])/\t.1<=A41/\∀(u:Nat->Ai),D0 DX t.1 t.2 u->∃(t':Int->Bool),0=0/\SV.ref [I g] A13=SV.ref [I g] A13/\0=0/\vk A62=vk A62/\vk A63=vk A63
 /\ vk A48=vk A48/\(Bk u t.1=A35.n/\∀(i:Nat),i<Bk u t.1 -> [I (Cc u t.1 i).w,I (Cc u t.1 i).h]= [I (A35.g i).w,I (A35.g i).h])/\(∀(x:Int),g_1.2.1 x=t' x)/\(∀(x:Int),g_1.2.1 x=true->Ag A12 x=Ag A12 x)/\0=0/\(t_1.1.n=w.n/\∀(i:Nat),let A67:=(t_1.1.g i);i<t_1.1.n -> [I A67.id,I A67.colour,I A67.grain,SV.sl
 A21 A67.ol.n fun(i1:Nat)=>[I (A67.ol.g i1).x,I (A67.ol.g i1).y]]= [I (w.g i).id,I (w.g i).colour,I (w.g i).grain,SV.sl A21 (w.g i).ol.n fun(i1:Nat)=>[I ((w.g i).ol.g i1).x,I ((w.g i).ol.g i1).y]])/\t_1.2.1=gr/\k+1<=AV g))/\∀(t:Int->Bool),AV g<=AV g->∃(g_1:(Int->Bool)×List Ai),let A82:=(Bf g_1.2);0=0 /\
 SV.ref [I g] A13=SV.ref [I g] A13/\0=0/\(A29.n=A82.n/\∀(i:Nat),i<A29.n -> [I (A29.g i).w,I (A29.g i).h]= [I (A82.g i).w,I (A82.g i).h])/\(∀(x:Int),t x=g_1.1 x)/\(∀(x:Int),t x=true->Ag A12 x=Ag A12 x)/\0=0/\A2/\gr=gr/\JJ w gr g g_1.2)));(dom g=true->(true=true->∃(u:Int ->
 Bool),A16/\A2/\gr=gr/\(∀(x:Int),dom x=u x)/\A7/\True)/\(true=false->A1/\∀(g_1:(Int->Bool)×List Ai),let A36:=(Bf g_1.2);let A30:=(∀(x:Int),(decide (x=g)||g_1.1 x)=true->Ag A12 x=Ag A12 x);let A3:=(∃(t:Nat×(Nat->Ai)),(A36.n=t.1/\∀(i:Nat),i<A36.n -> [I (A36.g i).w,I (A36.g i).h]= [I (t.2 i).w,
 I (t.2 i).h])/\t.1<=A41/\∀(u:Nat->Ai),D0 DX t.1 t.2 u->(Bk u t.1=A10.n/\∀(i:Nat),i<Bk u t.1 -> [I (Cc u t.1 i).w,I (Cc u t.1 i).h]= [I (A10.g i).w,I (A10.g i).h])/\∃(g_2:Int->Bool),SV.ref [I g] A13=SV.ref [I g] A13/\0=0/\(∀(x:Int),(decide (x=g)||g_1.1 x)=g_2 x)/\A30/\0 =
 0/\A2/\gr=gr/\g_2 g=true);JJ w gr g g_1.2->(A3/\A3/\A3/\A3/\A3/\A3/\A3/\A3/\A3/\∃(t:Nat×(Nat->Ai)),(A36.n=t.1/\∀(i:Nat),i<A36.n -> [I (A36.g i).w,I (A36.g i).h]= [I (t.2 i).w,I (t.2 i).h])/\t.1<=A41/\∀(u:Nat->Ai),D0 DX t.1 t.2 u->(Bk u t.1=A10.n/\∀(i:Nat),i<Bk u t.1 -> [I (Cc u t.1 i).w,I (Cc
 u t.1 i).h]= [I (A10.g i).w,I (A10.g i).h])/\∃(g_2:Int->Bool),SV.ref [I g] A13=SV.ref [I g] A13/\0=0/\(∀(x:Int),(decide (x=g)||g_1.1 x)=g_2 x)/\A30/\0=0/\A2/\gr=gr/\g_2 g=true)/\∀(g_2:Int->Bool),let A44:=(∀(x:Int),g_2 x=true->Ag A12 x=Ag A12 x);g_2 g=true->(g_2 g =
 true->∃(u:Int->Bool),A16/\A2/\gr=gr/\(∀(x:Int),g_2 x=u x)/\A44/\True)/\(g_2 g=false->∃(u:Int->Bool),A10.n=A68/\A2/\gr=gr/\(∀(x:Int),g_2 x=u x)/\A44/\True)))/\(dom g=false->(false=true->∃(u:Int->Bool),A10.n=A68/\A2/\gr=gr/\(∀(x:Int),dom x=u x)/\A7/\True)/\(false=false->A1/\∀(g_1:(Int ->
 Bool)×List Ai),let A37:=(Bf g_1.2);let A31:=(∀(x:Int),(decide (x=g)||g_1.1 x)=true->Ag A12 x=Ag A12 x);let A4:=(∃(t:Nat×(Nat->Ai)),(A37.n=t.1/\∀(i:Nat),i<A37.n -> [I (A37.g i).w,I (A37.g i).h]= [I (t.2 i).w,I (t.2 i).h])/\t.1<=A41/\∀(u:Nat->Ai),D0 DX t.1 t.2 u->(Bk u t.1=A10.n/\∀(i :
 Nat),i<Bk u t.1 -> [I (Cc u t.1 i).w,I (Cc u t.1 i).h]= [I (A10.g i).w,I (A10.g i).h])/\∃(g_2:Int->Bool),SV.ref [I g] A13=SV.ref [I g] A13/\0=0/\(∀(x:Int),(decide (x=g)||g_1.1 x)=g_2 x)/\A31/\0=0/\A2/\gr=gr/\g_2 g=true);JJ w gr g g_1.2->(A4/\A4/\A4/\A4/\A4/\A4/\A4/\A4/\A4/\∃(t :
 Nat×(Nat->Ai)),(A37.n=t.1/\∀(i:Nat),i<A37.n -> [I (A37.g i).w,I (A37.g i).h]= [I (t.2 i).w,I (t.2 i).h])/\t.1<=A41/\∀(u:Nat->Ai),D0 DX t.1 t.2 u->(Bk u t.1=A10.n/\∀(i:Nat),i<Bk u t.1 -> [I (Cc u t.1 i).w,I (Cc u t.1 i).h]= [I (A10.g i).w,I (A10.g i).h])/\∃(g_2:Int->Bool),SV.ref [I g] A13=SV.ref [I g] A13 /\
 0=0/\(∀(x:Int),(decide (x=g)||g_1.1 x)=g_2 x)/\A31/\0=0/\A2/\gr=gr/\g_2 g=true)/\∀(g_2:Int->Bool),let A45:=(∀(x:Int),g_2 x=true->Ag A12 x=Ag A12 x);g_2 g=true->(g_2 g=true->∃(u:Int->Bool),A16/\A2/\gr=gr/\(∀(x:Int),g_2 x=u x)/\A45/\True)/\(g_2 g=false->∃
 (u:Int->Bool),A10.n=A68/\A2/\gr=gr/\(∀(x:Int),g_2 x=u x)/\A45/\True)))) (by kernel_rfl) (by
  conv=>zeta
  have hp:CI w/\0<=g/\g<=B7 w.n:=hp;have hmu:g.toNat<rn+1:=hmu;obtain⟨⟨hw4,hwl⟩,hg0,hga⟩:=hp;have hg15:g<=15:=Ajb hga (OC hw4);refine⟨fun hd=>⟨fun _=>?_,fun h=>(by cases h)⟩,fun hd=>⟨fun h=>(by cases h),fun _=>⟨⟨fun h0=>?_,fun h0=>?_⟩,fun x hx=>?_⟩⟩⟩
  ·exact⟨dom,rz,rz,rfl,fun _=>rfl,zr,trivial⟩
  ·have h0:g=0:=of_decide_eq_true h0;subst h0;refine⟨(dom,[⟨0,0⟩]),rfl,rfl,rfl,⟨rfl,fun i hi=>?_⟩,fun _=>rfl,zr,rfl,rz,rfl,⟨by rw[RQ];rfl,show 1<=1000000 by decide⟩⟩;have hi:i<1:=hi;obtain rfl:i=0:=by omega
   rfl
  ·have h0:¬ g=0:=of_decide_eq_false h0;have hg1:1<=g:=by omega
   refine⟨iK,fun h1=>?_,fun h1=>?_⟩
   ·have h1:CH g=true:=h1;obtain⟨ge,gi⟩:=RN hg1 hg15 h1;have gn:=jJ hw4 hg1 hga h1;refine⟨⟨0,rfl,rH _⟩,fun k hk=>⟨AhN _,fun hc=>?_,fun hc=>?_⟩⟩
    ·have hc:1<Gt g k:=of_decide_eq_true hc;have hlt:k<Bu g:=by rw[ge]at hc;exact(OD gi hk).1 hc
     exact⟨iK,k+1,rfl,rfl,rfl,rfl,rz,rfl,rz,rfl,fun _=>rfl,zr,hlt,by omega⟩
    ·have hc:¬ 1<Gt g k:=of_decide_eq_false hc;have hke:k=Bu g:=by
      rcases Aio k (Bu g)with h|h
      ·exact absurd (by rw[ge];exact(OD gi hk).2 h) hc
      ·omega
     subst hke;have e1:((Bu g:Nat):Int).toNat=Bu g:=Ah7 _;have kn:0<=((Bu g:Nat):Int)/\((Bu g:Nat):Int)<(w.n:Int):=⟨AhN _,by omega⟩;refine⟨⟨0,rfl,⟨rfl,fun i hi=>absurd hi (oE _)⟩,rH _⟩,fun t ht=>⟨fun hlt=>?_,fun hge=>?_⟩⟩
     ·have hlt:(t:Int)<2:=of_decide_eq_true hlt;have ht2:t<2:=by omega
      have hl:(Bf (ET w gr (Bu g) t)).n<=2:=by
       show(ET w gr (Bu g) t).length<=2;unfold ET;rw[Aih];exact Aig (AiO _ _) (by rw[AiP];exact Nat.min_le_right _ _)
      have nx:=AeX w gr (Bu g) ht2;rw[e1];refine⟨kn,trivial,fun ha=>⟨kn,?_⟩,fun ha=>?_⟩
      ·have ha:FS (w.g (Bu g)).grain gr t=true:=ha;rw[if_pos ha]at nx;have leaf:=jL (r:=fun _=>IS (D3 (w.g (Bu g)).ol t)) nx (fun i hi=>by
        have hi:i<1:=hi;obtain rfl:i=0:=by omega
        rfl)
       have pb:(∀i,i<(w.g (Bu g)).ol.n -> [SV.int .i64 ((w.g (Bu g)).ol.g i).x,SV.int .i64 ((w.g (Bu g)).ol.g i).y]= [SV.int .i64 ((w.g (Bu g)).ol.g i).x,SV.int .i64 ((w.g (Bu g)).ol.g i).y])/\(w.g (Bu g)).ol.n<=1000000:=⟨zr,hwl _ gn⟩;have sz:((Bf (ET w gr (Bu g) t)).n+1)*16<=140737488355328:=by omega
       exact⟨⟨pb,sz,iK,t+1,rfl,rfl,rfl,rfl,rfl,leaf,rfl,rz,rfl,fun _=>rfl,zr,by omega,by omega⟩,pb,⟨sz,iK,t+1,rfl,rfl,rfl,rfl,rfl,leaf,rfl,rz,rfl,fun _=>rfl,zr,by omega,by omega⟩,⟨sz,iK,t+1,rfl,rfl,rfl,rfl,rfl,leaf,rfl,rz,rfl,fun _=>rfl,zr,by omega,by omega⟩⟩
      ·have ha:FS (w.g (Bu g)).grain gr t=false:=ha;rw[if_neg (by rw[ha];decide),List.append_nil]at nx;exact⟨iK,t+1,rfl,rfl,rfl,rfl,rfl,OE nx.symm,rfl,rz,rfl,fun _=>rfl,zr,by omega,by omega⟩
     ·have hge:¬ (t:Int)<2:=of_decide_eq_false hge;obtain rfl:t=2:=by omega
      have eC:ET w gr (Bu g) 2=JH w gr (Bu g):=rfl;exact⟨(dom,ET w gr (Bu g) 2),rfl,rfl,rfl,rz,fun _=>rfl,zr,rfl,rz,rfl,⟨by rw[jA w gr hg1 hg15 h1,eC],by have:=jG w gr (Bu g);show(JH w gr (Bu g)).length<=1000000;omega⟩⟩
   ·have h1:CH g=false:=h1;obtain⟨hp0,hpt⟩:=IR hg1 hg15 h1;refine⟨trivial,⟨⟨hg0,hg15⟩,dom,⟨rfl,fun i hi=>absurd hi (oE _)⟩,fun _=>rfl,zr,rfl,rz,rfl,rH _⟩,fun k d vk hk _=>?_,fun d _=>?_⟩
    ·obtain⟨p1,p2,p3,p4,p5⟩:=hpt k hk;refine⟨(w,gr,d,Aw g k),rfl,rfl,rz,rfl,fun _=>rfl,zr,⟨⟨⟨hw4,hwl⟩,AhW p1,by show Aw g k<=B7 w.n;omega⟩,by show(Aw g k).toNat<rn;omega⟩,fun u _=>⟨⟨(0,u,k),rfl,OE (AeU w gr g k).symm,fun _=>rfl,zr,rfl,rH _,hk⟩,fun x hx=>?_⟩⟩;obtain⟨i,d1,k'⟩:=x;obtain⟨hk1,hi,hk2⟩:=hx;obtain rfl:=OB hg1 hg15 h1 hk hk2 hk1;have hi:i<=(Aq w gr (Aw g k)).n:=hi;refine⟨fun hc=>?_,fun hc=>?_⟩
     ·have hc:(i:Int)<((Aq w gr (Aw g k)).n:Int):=of_decide_eq_true hc;have hiA:i<(Aq w gr (Aw g k)).n:=by omega
      refine⟨⟨AhN _,hc⟩,(w,gr,d1,B1 g k),rfl,rfl,rz,rfl,fun _=>rfl,zr,⟨⟨⟨hw4,hwl⟩,AhW p3,by show B1 g k<=B7 w.n;omega⟩,by show(B1 g k).toNat<rn;omega⟩,fun u1 _=>⟨⟨(0,k,i),rfl,OE (AeV w gr g k i).symm,rfl,rfl,rH _,hk⟩,fun y hy=>?_⟩⟩;obtain⟨j,k2,i2⟩:=y;obtain⟨hk3,hi2,hj,hk4⟩:=hy;obtain rfl:=OB hg1 hg15 h1 hk hk4 hk3;have hi2:(i:Int)=(i2:Int):=hi2;obtain rfl:i=i2:=by omega
      have hj:j<=(Aq w gr (B1 g k)).n:=hj;refine⟨fun hb=>?_,fun hb=>?_⟩
      ·have hb:(j:Int)<((Aq w gr (B1 g k)).n:Int):=of_decide_eq_true hb;have hjB:j<(Aq w gr (B1 g k)).n:=by omega
       have bA:=(MF w gr (AhW p1) (by omega)).bd _ (jO hiA);have bB:=(MF w gr (AhW p3) (by omega)).bd _ (jO hjB);have ei:((i:Nat):Int).toNat=i:=Ah7 i;have ej:((j:Nat):Int).toNat=j:=Ah7 j;have hl:=(jN w gr hg1 hg15 h1 (i:=i) (j:=j) hk).1;rw[ei,ej];refine⟨⟨AhN _,hb⟩,iK (by show _<=((Aq w gr (Aw g k)).g i).w+((Aq w gr (B1 g k)).g j).w;omega) (by show((Aq w gr (Aw g k)).g i).w+((Aq w gr (B1 g k)).g j).w<=_;omega),iK (by show _<=((Aq w gr (Aw g k)).g i).h+((Aq w gr (B1 g k)).g j).h;omega) (by show((Aq w gr (Aw g k)).g i).h+((Aq w gr (B1 g k)).g j).h<=_;omega),
        by show((Fy w gr g k i j).length+2)*16<=140737488355328;omega,iK (by show _<=(j:Int)+1;omega) (by show(j:Int)+1<=_;have:=OF w gr (AhW p3) (show B1 g k<=15 by omega);have hj2:j<=(Cq w gr (B1 g k)).length:=hj;omega),(j+1,k,i),rfl,rfl,rz,rfl,rfl,rfl,rz,rfl,rfl,rfl,rfl,rfl,rfl,rfl,?_,rfl,rfl,fun _=>rfl,zr,rfl,rz,rfl,⟨rfl,rfl,hjB,hk⟩,by show(Aq w gr (B1 g k)).n-(j+1)<(Aq w gr (B1 g k)).n-j;omega⟩
       exact jL (AeS w gr g k i hjB) (fun q hq=>by
        have hq:q<2:=hq;have:q=0\/q=1:=by omega
        rcases this with rfl|rfl<;>rfl)
      ·have hb:¬ (j:Int)<((Aq w gr (B1 g k)).n:Int):=of_decide_eq_false hb;obtain rfl:j=(Aq w gr (B1 g k)).n:=by omega
       refine⟨iK (by show _<=(i:Int)+1;omega) (by show(i:Int)+1<=_;have:=OF w gr (AhW p1) (show Aw g k<=15 by omega);have hi2:i<=(Cq w gr (Aw g k)).length:=hi;omega),(i+1,u1,k),rfl,rfl,rz,rfl,rfl,rfl,rfl,rfl,rfl,rfl,OE (AeT w gr g k hiA),fun _=>rfl,zr,rfl,rz,rfl,⟨rfl,hiA,hk⟩,by show(Aq w gr (Aw g k)).n-(i+1)<(Aq w gr (Aw g k)).n-i;omega⟩
     ·have hc:¬ (i:Int)<((Aq w gr (Aw g k)).n:Int):=of_decide_eq_false hc;obtain rfl:i=(Aq w gr (Aw g k)).n:=by omega
      have hl:=(jN w gr hg1 hg15 h1 (i:=(Aq w gr (Aw g k)).n) (j:=0) hk).2.1;exact⟨((Bf (E4 w gr g k (Aq w gr (Aw g k)).n)).n,(Bf (E4 w gr g k (Aq w gr (Aw g k)).n)).g),rz,by show(E4 w gr g k (Aq w gr (Aw g k)).n).length<=1000000;omega,fun u hu=>⟨d1,rfl,rfl,rfl,rfl,rfl,rfl,jM hu (AeW w gr g k),fun _=>rfl,zr,rfl,rz,rfl,hk⟩⟩
    ·exact⟨(d,Fh w gr g (AV g)),rfl,rfl,rfl,rz,fun _=>rfl,zr,rfl,rz,rfl,AeY w gr hg1 hg15 h1⟩
  ·obtain⟨d,X⟩:=x;obtain⟨hX1,hX2⟩:=hx;refine⟨?_,fun e he=>⟨fun _=>⟨e,rz,rz,rfl,fun _=>rfl,zr,trivial⟩,fun h=>?_⟩⟩
   ·repeat' apply And.intro
    all_goals exact⟨((Bf X).n,(Bf X).g),rz,hX2,fun u hu=>⟨jM hu hX1,fun x=>decide (x=g)||d x,rfl,rfl,fun _=>rfl,zr,rfl,rz,rfl,by show(decide (g=g)||d g)=true;simp⟩⟩
   ·have he:e g=true:=he;rw[he]at h;cases h)
theorem RV:An prog 67:=fun _ _=>by kernel_rfl
theorem jQ:D9 prog 67 Ia:=Mj jP ⟨fun t=>rfl,fun t u=>rfl,fun t u=>rfl,fun t u=>⟨rfl,rfl,rfl⟩,.inl rfl,fun k h=>(by cases h)⟩ (fun rn ih=>FO (n:=2) func67 (c:=Ae f67) (by kernel_rfl) mixed ⟨fun t=>rfl,fun t=>rfl,fun t u=>rfl,fun t u=>rfl,fun t u=>rfl,fun t u=>⟨rfl,rfl⟩,by kernel_rfl,by kernel_rfl⟩ (fun⟨w,gr,dom,g⟩ hp=>⟨_,AeZ rn w gr dom g hp.1 hp.2,⟨show Aa prog _ from(Aa.cons iR iS (Aa.cons aK aL (Aa.cons Rm Rn Aa.nil))),rfl,⟨show Ac prog _ from(Ac.cons iJ iL Ac.nil),⟨AB.no1 (fun _=>rfl),⟨show Bx prog _ from(Bx.cons AeD AeC (Bx.cons ih RV Bx.nil)),FamsOk.none (fun _=>rfl)⟩⟩⟩⟩⟩))
end
end
def RW (x r:Ai):Bool:=bif decide (x.w<=r.w)then decide (x.h<=r.h)else false
def DY (w:L.Sq Ak) (gr g:Int) (r:Ai):Bool:=BH (Aq w gr g).n fun i=>RW ((Aq w gr g).g i) r
def Fz (v:Nat->Bool) (id:Nat->Int) (i:Nat):Bool:=bif !v i then true else bif decide (0<(i:Int))then decide (id i<=id (i-1))else false
def H8 (w:L.Sq Ak):Bool:=Ch w.n fun i=>!Fz (fun i=>Hf (w.g i)) (fun i=>(w.g i).id) i
def Ib (s:L.Sq AF):Bool:=Ch s.n fun i=>!Fz (fun i=>CE (s.g i)) (fun i=>(s.g i).id) i
def DZ (w:L.Sq Ak) (s:L.Sq AF) (right:Bool):Int:=bif !H8 w then 50 else bif (bif !Ib s then true else !right)then 1 else bif (bif decide (7<(w.n:Int))then true else decide (7<(s.n:Int)))then 2 else 0
def Gq (w:L.Sq Ak):Prop:=(w.n<=4\/7<w.n)/\w.n<=1000000/\∀i,i<w.n->(w.g i).ol.n<=1000000
def Afa:L.Sq AF:=⟨0,fun _=>⟨0,0,0,0,0⟩⟩
def jR (s:AF):L.Sq AF:=⟨1,fun _=>s⟩
def KW (w:L.Sq Ak) (gr:Int):Int:=DZ w Afa (AI gr 0 2)
def MG (w:L.Sq Ak) (gr:Int):Nat:=bif decide (KW w gr=0)then(Aq w gr (B7 w.n)).n else 0
def Fi (w:L.Sq Ak) (s:AF):Int:=DZ w (jR s) true
def GC (w:L.Sq Ak) (s:AF):Bool:=bif decide (Fi w s=0)then DY w s.grain (B7 w.n) ⟨s.w,s.h⟩else false
theorem jS {n i:Nat} {f:Nat->Bool} (hi:i<n) (h:f i=false):Ch n f=false:=G6 hi h
theorem OG {w:L.Sq Ak} {s:L.Sq AF} {b:Bool} (h:DZ w s b=0):H8 w=true/\Ib s=true/\b=true/\w.n<=7/\s.n<=7:=by
 unfold DZ at h;cases h1:H8 w
 ·rw[h1]at h;simp at h
 ·cases h2:Ib s
  ·rw[h1,h2]at h;simp at h
  ·cases b
   ·rw[h1,h2]at h;simp at h
   ·rw[h1,h2]at h;refine⟨rfl,rfl,rfl,?_⟩
    by_cases h3:(7:Int)<w.n
    ·simp[h3]at h
    ·by_cases h4:(7:Int)<s.n
     ·simp[h4]at h
     ·omega
theorem OH {w:L.Sq Ak} (h:Gq w) (h7:w.n<=7):CI w:=⟨by have:=h.1;omega,h.2.2⟩
def jT (l:L.Sq Ai) (p:BN):Prop:=l.n<=1000000/\∀i,i<l.n->p.pre [(.agg [.int .i64 (l.g i).w,.int .i64 (l.g i).h])]
def jU (l:L.Sq Ai) (p:BN):SV:=.int .i64 (BQ l.n (fun i=>Bs p [(.agg [.int .i64 (l.g i).w,.int .i64 (l.g i).h])]))
def jV:List EV->Option (Prop×SV)
 |[.p (.sl 2 l_n l_g),.fn p]=>some ((∀i,i<l_n->l_g i = [.int .i64 (FR (l_g i)).w,.int .i64 (FR (l_g i)).h])/\Fr p/\jT ⟨l_n,fun i=>FR (l_g i)⟩ p,jU ⟨l_n,fun i=>FR (l_g i)⟩ p)
 |_=>none
abbrev jW:SE.Spec:=(AM jV)
def Afb:Aj:={ muts:=[],frz:=B9 [],specs:=AE [],loops:=fun _=>none,iters:=BG [],rfs:=AQ [],nils:=B3 [] }
theorem Afc (l:L.Sq Ai) (p:BN) (hp:jT l p):vc prog ({ Afb with loops:=AT [(2,{ T:=Nat,keep:=[0,1,6,7],keepO:=[],chg:=fun i=>[(8,.p (.int .i64 i))],own:=fun _=>[],inv:=fun i=>i<=l.n/\(∀j,j<i->Bs p [(.agg [.int .i64 (l.g j).w,.int .i64 (l.g j).h])]=false),mu:=fun i=>l.n-i })]}) (Ae f182) (Ao f182 [.p (.sl 2 l.n (fun i=>[.int .i64 (l.g i).w,.int .i64 (l.g i).h])),.fn ⟨p.pre,fun xs=>.bool (Bs p xs)⟩]) (AL prog f182 (jU l p)):=
 @Eq.mpr _ (let I:=SV.int .i64;let T:=AhD;let A4:=(↑l.n:Int);let A2:=(l.n=l.n/\∀(i:Nat),let A5:=[I (l.g i).w,I (l.g i).h];i<l.n->A5=A5);(∃(g:Nat),0=(↑g:Int)/\g<=l.n/\∀(j:Nat),j<g->Bs p [SV.agg [I (l.g j).w,I (l.g j).h]]=false)/\∀(g:Nat),let A3:=(↑g:Int);let A1:=[SV.agg [I (l.g (T A3)).w,I (l.g (T A3)).h]];(g<=l.n/\∀(j:Nat),j<g->Bs p [SV.agg [I (l.g j).w,I (l.g j).h]]=false)->(decide (A3<A4)=true->(0<=A3/\A3<A4)/\p.1 A1/\(Bs p A1=true->A3=BQ l.n fun(i:Nat)=>Bs p [SV.agg [I (l.g i).w,I (l.g i).h]])/\(Bs p A1=false->Ab .i64 (A3+(1:Int))/\∃(g':Nat),A3+1=(↑g':Int)/\A4=A4/\A2/\A2/\((BN.mk p.pre fun(xs:List SV)=>SV.bool (Bs p xs))=BN.mk p.pre fun(xs:List SV)=>SV.bool (Bs p xs))/\(g'<=l.n/\∀(j:Nat),j<g'->Bs p [SV.agg [I (l.g j).w,I (l.g j).h]]=false)/\l.n-g'<l.n-g))/\(decide (A3<A4)=false->(-1:Int)=BQ l.n fun(i:Nat)=>Bs p [SV.agg [I (l.g i).w,I (l.g i).h]])) (by kernel_rfl) (by
 conv=>zeta
 obtain⟨hn,hpre⟩:=hp;refine⟨⟨(0:Nat),rfl,rH _,fun j hj=>by omega⟩,fun g hg=>⟨fun hlt=>?_,fun hge=>?_⟩⟩
 ·have hb:(g:Int)<(l.n:Int):=by simpa using hlt
  have e0:((g:Int)).toNat=g:=by omega
  rw[e0];refine⟨by omega,hpre g (by omega),fun h=>?_,fun h=>?_⟩
  ·exact(J0 hg.2 h (by omega)).symm
  ·exact⟨jK, g+1, by omega, rfl, ⟨rfl, fun _ _ =>rfl⟩, ⟨rfl, fun _ _ =>rfl⟩, rfl, ⟨by omega, fun j hj =>by
   rcases Ah6.1 hj with h'|rfl
   ·exact hg.2 j h'
   ·exact h⟩,by omega⟩
 ·have hb:¬ (g:Int)<(l.n:Int):=by simpa using hge
  exact(IB (fun j hj=>hg.2 j (by omega))).symm)
theorem Afd:Az prog 182 jW:=AN func182 (c:=Ae f182) (by kernel_rfl) mixed (fun _ _ _ hs hp=>by
 unfold jV at hs;split at hs
 ·cases hs;exact⟨_,_,Afc _ _ hp.2.2,(.p (.sl hp.1) (.fn (fun xs h=>⟨h,(K2 hp.2.1 h).symm⟩) .nil)),⟨show Aa prog _ from Aa.nil,rfl,nz⟩⟩
 ·cases hs)
theorem Afe:An prog 182:=fun _ _=>by kernel_rfl
def jX (l:L.Sq Ai) (p:BN):Prop:=l.n<=1000000/\∀i,i<l.n->p.pre [(.agg [.int .i64 (l.g i).w,.int .i64 (l.g i).h])]
def jY (l:L.Sq Ai) (p:BN):SV:=.bool (BH l.n (fun i=>Bs p [(.agg [.int .i64 (l.g i).w,.int .i64 (l.g i).h])]))
def jZ:List EV->Option (Prop×SV)
 |[.p (.sl 2 l_n l_g),.fn p]=>some ((∀i,i<l_n->l_g i = [.int .i64 (FR (l_g i)).w,.int .i64 (FR (l_g i)).h])/\Fr p/\jX ⟨l_n,fun i=>FR (l_g i)⟩ p,jY ⟨l_n,fun i=>FR (l_g i)⟩ p)
 |_=>none
abbrev kA:SE.Spec:=(AM jZ)
def Aff:Aj:={ cC with specs:=AE [(182,jW)] }
theorem Afg (l:L.Sq Ai) (p:BN) (hp:jX l p):vc prog (Aff) (Ae f143) (Ao f143 [.p (.sl 2 l.n (fun i=>[.int .i64 (l.g i).w,.int .i64 (l.g i).h])),.fn ⟨p.pre,fun xs=>.bool (Bs p xs)⟩]) (AL prog f143 (jY l p)):=
 @Eq.mpr _ (let I:=SV.int .i64;let A1:=(BN.mk p.pre fun(xs:List SV)=>SV.bool (Bs p xs));((∀(i:Nat),let A2:=[I (l.g i).w,I (l.g i).h];i<l.n->A2=A2)/\Fr A1/\l.n<=1000000/\∀(i:Nat),i<l.n->p.1 [SV.agg [I (l.g i).w,I (l.g i).h]])/\decide ((0:Int)<=BQ l.n fun(i:Nat)=>Bs A1 [SV.agg [I (l.g i).w,I (l.g i).h]])=BH l.n fun(i:Nat)=>Bs p [SV.agg [I (l.g i).w,I (l.g i).h]]) (by kernel_rfl) (by
 conv=>zeta
 refine⟨⟨zr,fun xs _=>⟨_,rfl⟩,hp⟩,Mq⟩)
theorem Afh:Az prog 143 kA:=AN func143 (c:=Ae f143) (by kernel_rfl) mixed (fun _ _ _ hs hp=>by
 unfold jZ at hs;split at hs
 ·cases hs;exact⟨_,_,Afg _ _ hp.2.2,(.p (.sl hp.1) (.fn (fun xs h=>⟨h,(K2 hp.2.1 h).symm⟩) .nil)),⟨show Aa prog _ from(Aa.cons Afd Afe Aa.nil),rfl,nz⟩⟩
 ·cases hs)
theorem Afi:An prog 143:=fun _ _=>by kernel_rfl
def kB (x:Ai) (r:Ai):Prop:=True
def kC (x:Ai) (r:Ai):SV:=.bool (RW x r)
def KX:List EV->Option (Prop×SV)
 |[.p (.agg [.int .i64 x_w,.int .i64 x_h]),.p (.ref [.int .i64 r_w,.int .i64 r_h] 0)]=>some (kB (⟨x_w,x_h⟩:Ai) (⟨r_w,r_h⟩:Ai),kC (⟨x_w,x_h⟩:Ai) (⟨r_w,r_h⟩:Ai))
 |_=>none
abbrev kD:SE.Spec:=(AM KX)
def Afj:Aj:={ muts:=[],frz:=B9 [],specs:=AE [],loops:=AT [],iters:=BG [],rfs:=AQ [],nils:=B3 [] }
theorem Afk (x:Ai) (r:Ai) (hp:kB x r):vc prog (Afj) (Ae f144) (Ao f144 [.p (.agg [.int .i64 x.w,.int .i64 x.h]),.p (.ref [.int .i64 r.w,.int .i64 r.h] 0)]) (AL prog f144 (kC x r)):=
 @Eq.mpr _ ((bif decide (x.w<=r.w)then decide (x.h<=r.h)else false)=RW x r) (by kernel_rfl) (by
 rfl)
theorem Afl:Az prog 144 kD:=AN func144 (c:=Ae f144) (by kernel_rfl) mixed (fun _ _ _ hs hp=>by
 unfold KX at hs;split at hs
 ·cases hs;exact⟨_,_,Afk _ _ hp,(.same _ (.same _ .nil)),⟨show Aa prog _ from Aa.nil,rfl,nz⟩⟩
 ·cases hs)
theorem Afm:An prog 144:=fun _ _=>by kernel_rfl
theorem Afn:∀args p r,KX args=some (p,r)->∃b,r=.bool b:=by
 intro args p r h;unfold KX at h;split at h
 ·cases h;exact⟨_,rfl⟩
 ·cases h
def kE (w:L.Sq Ak):Prop:=w.n<=1000000/\∀i,i<w.n->(w.g i).ol.n<=1000000
def kF (w:L.Sq Ak):SV:=.bool (H8 w)
def kG:List EV->Option (Prop×SV)
 |[.p (.sl 4 w_n w_g)]=>some ((∀i,i<w_n->He (w_g i))/\kE ⟨w_n,fun i=>Dp (w_g i)⟩,kF ⟨w_n,fun i=>Dp (w_g i)⟩)
 |_=>none
abbrev kH:SE.Spec:=(AM kG)
def Afo:Aj:={ cC with specs:=AE [(141,aG)] }
theorem Afp (w:L.Sq Ak) (hp:kE w):vc prog ({ Afo with loops:=AT [(2,{ T:=Nat,keep:=[0,5,6],keepO:=[],chg:=fun i=>[(7,.p (.int .i64 (i:Int)))],own:=fun _=>[],inv:=fun i=>i<=w.n/\∀j,j<i->Fz (fun i=>Hf (w.g i)) (fun i=>(w.g i).id) j=false,mu:=fun i=>w.n-i })]}) (Ae f95) (Ao f95 [.p (.sl 4 w.n (fun i=>[.int .i64 (w.g i).id,.int .i64 (w.g i).colour,.int .i64 (w.g i).grain,.sl 2 (w.g i).ol.n (fun i1=>[.int .i64 ((w.g i).ol.g i1).x,.int .i64 ((w.g i).ol.g i1).y])]))]) (AL prog f95 (kF w)):=
 @Eq.mpr _ (let I:=SV.int .i64;let T:=AhD;let A11:=(0:Int);let A10:=(1:Int);let A8:=(↑w.n:Int);let A2:=(w.n=w.n/\∀(i:Nat),let A5:=[I (w.g i).id,I (w.g i).colour,I (w.g i).grain,SV.sl 2 (w.g i).ol.n fun(i1:Nat)=>[I ((w.g i).ol.g i1).x,I ((w.g i).ol.g i1).y]];i<w.n->A5=A5);(∃(g:Nat),A11=(↑g:Int)/\g<=w.n/\∀(j:Nat),j<g->Fz (fun(i:Nat)=>Hf (w.g i)) (fun(i:Nat)=>(w.g i).id) j=false)/\∀(g:Nat),let A6:=(↑g:Int);let A3:=(w.g (T A6));let A1:=(Ak.mk A3.id A3.colour A3.grain (L.Sq.mk A3.ol.n fun(i:Nat)=>A3.ol.g i));let A7:=(!!Hf A1&&decide (A11<A6));let A4:=(bif !Hf A1 then true else bif decide (A11<A6)then decide (A3.id<=(w.g (T (A6-A10))).id)else false);(g<=w.n/\∀(j:Nat),j<g->Fz (fun(i:Nat)=>Hf (w.g i)) (fun(i:Nat)=>(w.g i).id) j=false)->(decide (A6<A8)=true->(A11<=A6/\A6<A8)/\((∀(i:Nat),let A9:=[I (A3.ol.g i).x,I (A3.ol.g i).y];i<A3.ol.n->A9=A9)/\A3.ol.n<=1000000)/\(A7=true->Ab .i64 (A6-A10))/\(A7=true->A11<=A6-A10/\A6-A10<A8)/\(A4=true->false=H8 w)/\(A4=false->Ab .i64 (A6+A10)/\∃(g':Nat),A6+A10=(↑g':Int)/\A8=A8/\A2/\A2/\(g'<=w.n/\∀(j:Nat),j<g'->Fz (fun(i:Nat)=>Hf (w.g i)) (fun(i:Nat)=>(w.g i).id) j=false)/\w.n-g'<w.n-g))/\(decide (A6<A8)=false->true=H8 w)) (by kernel_rfl) (by
 conv=>zeta
 obtain⟨hn,hol⟩:=hp;refine⟨⟨(0:Nat),rfl,rH _,fun j hj=>absurd hj (oE _)⟩,fun g hg=>⟨fun hlt=>?_,fun hge=>?_⟩⟩
 ·have hb:(g:Int)<(w.n:Int):=of_decide_eq_true hlt;have e0:((g:Int)).toNat=g:=Ah7 g;have e1:((g:Int)-1).toNat=g-1:=by omega
  rw[e0,e1];refine⟨⟨AhN _,hb⟩,⟨zr,hol g (by omega)⟩,fun _=>jK,fun h=>?_,fun h=>?_,fun h=>?_⟩
  ·have:0<(g:Int):=of_decide_eq_true (Ain.1 h).2;omega
  ·exact(jS (i:=g) (f:=fun i=>!Fz (fun i=>Hf (w.g i)) (fun i=>(w.g i).id) i) (by omega) (by show(!_)=false;rw[show Fz (fun i=>Hf (w.g i)) (fun i=>(w.g i).id) g=true from h];rfl)).symm
  ·refine⟨jK,g+1,rfl,rfl,rz,rz,⟨by omega,fun j hj=>?_⟩,by omega⟩;rcases Ah6.1 hj with h'|rfl
   ·exact hg.2 j h'
   ·exact h
 ·have hb:¬ (g:Int)<(w.n:Int):=of_decide_eq_false hge;exact(C8.2 (fun i hi=>by show(!_)=true;rw[hg.2 i (by omega)];rfl)).symm)
theorem Afq:Az prog 95 kH:=AN func95 (c:=Ae f95) (by kernel_rfl) mixed (fun _ _ _ hs hp=>by
 unfold kG at hs;split at hs
 ·cases hs;exact⟨_,_,Afp _ hp.2,(.p (KL hp.1) .nil),⟨show Aa prog _ from(Aa.cons AbC AbD Aa.nil),rfl,nz⟩⟩
 ·cases hs)
theorem Afr:An prog 95:=fun _ _=>by kernel_rfl
def kI (s:L.Sq AF):Prop:=s.n<=1000000
def kJ (s:L.Sq AF):SV:=.bool (Ib s)
def kK:List EV->Option (Prop×SV)
 |[.p (.sl 5 s_n s_g)]=>some ((∀i,i<s_n->s_g i = [.int .i64 (Er (s_g i)).id,.int .i64 (Er (s_g i)).colour,.int .i64 (Er (s_g i)).w,.int .i64 (Er (s_g i)).h,.int .i64 (Er (s_g i)).grain])/\kI ⟨s_n,fun i=>Er (s_g i)⟩,kJ ⟨s_n,fun i=>Er (s_g i)⟩)
 |_=>none
abbrev kL:SE.Spec:=(AM kK)
def Afs:Aj:={ cC with specs:=AE [(142,aB)] }
theorem Aft (s:L.Sq AF) (hp:kI s):vc prog ({ Afs with loops:=AT [(2,{ T:=Nat,keep:=[0,5,6],keepO:=[],chg:=fun i=>[(7,.p (.int .i64 (i:Int)))],own:=fun _=>[],inv:=fun i=>i<=s.n/\∀j,j<i->Fz (fun i=>CE (s.g i)) (fun i=>(s.g i).id) j=false,mu:=fun i=>s.n-i })]}) (Ae f96) (Ao f96 [.p (.sl 5 s.n (fun i=>[.int .i64 (s.g i).id,.int .i64 (s.g i).colour,.int .i64 (s.g i).w,.int .i64 (s.g i).h,.int .i64 (s.g i).grain]))]) (AL prog f96 (kJ s)):=
  @Eq.mpr _ (let I:=SV.int .i64;let T:=AhD;let A8:=(0:Int);let A7:=(1:Int);let A6:=(↑s.n:Int);let A2:=(s.n=s.n/\∀(i:Nat),let A4:=[I (s.g i).id,I (s.g i).colour,I (s.g i).w,I (s.g i).h,I (s.g i).grain];i<s.n->A4=A4);(∃(g:Nat),A8=(↑g:Int)/\g<=s.n/\∀(j:Nat),j<g->Fz (fun(i:Nat)=>CE (s.g i)) (fun(i:Nat)=>(s.g
 i).id) j=false)/\∀(g:Nat),let A3:=(↑g:Int);let A9:=(s.g (T A3));let A5:=(!!CE A9&&decide (A8<A3));let A1:=(bif !CE A9 then true else bif decide (A8<A3)then decide (A9.id<=(s.g (T (A3-A7))).id)else false);(g<=s.n/\∀(j:Nat),j<g->Fz (fun(i:Nat)=>CE (s.g i)) (fun(i:Nat)=>(s.g i).id) j =
 false)->(decide (A3<A6)=true->(A8<=A3/\A3<A6)/\True/\(A5=true->Ab .i64 (A3-A7))/\(A5=true->A8<=A3-A7/\A3-A7<A6)/\(A1=true->false=Ib s)/\(A1=false->Ab .i64 (A3+A7)/\∃(g':Nat),A3+A7=(↑g':Int)/\A6=A6/\A2/\A2/\(g'<=s.n/\∀(j:Nat),j<g'->Fz (fun(i
:Nat)=>CE (s.g i)) (fun(i:Nat)=>(s.g i).id) j=false)/\s.n-g'<s.n-g))/\(decide (A3<A6)=false->true=Ib s)) (by kernel_rfl) (by
 conv=>zeta
 have hn:s.n<=1000000:=hp;refine⟨⟨(0:Nat),rfl,rH _,fun j hj=>absurd hj (oE _)⟩,fun g hg=>⟨fun hlt=>?_,fun hge=>?_⟩⟩
 ·have hb:(g:Int)<(s.n:Int):=of_decide_eq_true hlt;have e0:((g:Int)).toNat=g:=Ah7 g;have e1:((g:Int)-1).toNat=g-1:=by omega
  rw[e0,e1];refine⟨⟨AhN _,hb⟩,trivial,fun _=>jK,fun h=>?_,fun h=>?_,fun h=>?_⟩
  ·have:0<(g:Int):=of_decide_eq_true (Ain.1 h).2;omega
  ·exact(jS (i:=g) (f:=fun i=>!Fz (fun i=>CE (s.g i)) (fun i=>(s.g i).id) i) (by omega) (by show(!_)=false;rw[show Fz (fun i=>CE (s.g i)) (fun i=>(s.g i).id) g=true from h];rfl)).symm
  ·refine⟨jK,g+1,rfl,rfl,rz,rz,⟨by omega,fun j hj=>?_⟩,by omega⟩;rcases Ah6.1 hj with h'|rfl
   ·exact hg.2 j h'
   ·exact h
 ·have hb:¬ (g:Int)<(s.n:Int):=of_decide_eq_false hge;exact(C8.2 (fun i hi=>by show(!_)=true;rw[hg.2 i (by omega)];rfl)).symm)
theorem Afu:Az prog 96 kL:=AN func96 (c:=Ae f96) (by kernel_rfl) mixed (fun _ _ _ hs hp=>by
 unfold kK at hs;split at hs
 ·cases hs;exact⟨_,_,Aft _ hp.2,(.p (.sl hp.1) .nil),⟨show Aa prog _ from(Aa.cons Ab8 Ab9 Aa.nil),rfl,nz⟩⟩
 ·cases hs)
theorem Afv:An prog 96:=fun _ _=>by kernel_rfl
def kM (w:L.Sq Ak) (s:L.Sq AF) (r:Bool):Prop:=w.n<=1000000/\(∀i,i<w.n->(w.g i).ol.n<=1000000)/\s.n<=1000000
def kN (w:L.Sq Ak) (s:L.Sq AF) (r:Bool):SV:=.int .i64 (DZ w s r)
def kO:List EV->Option (Prop×SV)
 |[.p (.sl 4 w_n w_g),.p (.sl 5 s_n s_g),.p (.bool r)]=>some ((∀i,i<w_n->He (w_g i))/\(∀i,i<s_n->s_g i = [.int .i64 (Er (s_g i)).id,.int .i64 (Er (s_g i)).colour,.int .i64 (Er (s_g i)).w,.int .i64 (Er (s_g i)).h,.int .i64 (Er (s_g i)).grain])/\kM ⟨w_n,fun i=>Dp (w_g i)⟩ ⟨s_n,fun i=>Er (s_g i)⟩ r,kN ⟨w_n,fun i=>Dp (w_g i)⟩ ⟨s_n,fun i=>Er (s_g i)⟩ r)
 |_=>none
abbrev OI:SE.Spec:=(AM kO)
def Afw:Aj:={ cC with specs:=AE [(95,kH),(96,kL)] }
theorem Afx (w:L.Sq Ak) (s:L.Sq AF) (r:Bool) (hp:kM w s r):vc prog (Afw) (Ae f53) (Ao f53 [.p (.sl 4 w.n (fun i=>[.int .i64 (w.g i).id,.int .i64 (w.g i).colour,.int .i64 (w.g i).grain,.sl 2 (w.g i).ol.n (fun i1=>[.int .i64 ((w.g i).ol.g i1).x,.int .i64 ((w.g i).ol.g i1).y])])),.p (.sl 5 s.n (fun i=>[.int .i64 (s.g i).id,.int .i64 (s.g i).colour,.int .i64 (s.g i).w,.int .i64 (s.g i).h,.int .i64 (s.g i).grain])),.p (.bool r)]) (AL prog f53 (kN w s r)):=
 @Eq.mpr _ (let I:=SV.int .i64;let A6:=(1000000:Nat);let A4:=(bif !Ib (L.Sq.mk s.n fun(i:Nat)=>s.g i)then true else !r);let A2:=(bif decide (7<(↑w.n:Int))then true else decide (7<(↑s.n:Int)));let A1:=(!H8 (L.Sq.mk w.n fun(i:Nat)=>Ak.mk (w.g i).id (w.g i).colour (w.g i).grain (L.Sq.mk (w.g i).ol.n fun(i_1:Nat)=>(w.g i).ol.g i_1)));((∀(i:Nat),i<w.n->∀(i_1:Nat),let A5:=((w.g i).ol.g i_1);i_1<(w.g i).ol.n -> [I A5.x,I A5.y]= [I A5.x,I A5.y])/\w.n<=A6/\∀(i:Nat),i<w.n->(w.g i).ol.n<=A6)/\(A1=true->(50:Int)=DZ w s r)/\(A1=false->((∀(i:Nat),let A3:=[I (s.g i).id,I (s.g i).colour,I (s.g i).w,I (s.g i).h,I (s.g i).grain];i<s.n->A3=A3)/\s.n<=A6)/\(A4=true->(1:Int)=DZ w s r)/\(A4=false->(A2=true->(2:Int)=DZ w s r)/\(A2=false->(0:Int)=DZ w s r)))) (by kernel_rfl) (by
 conv=>zeta
 obtain⟨hn,hol,hs⟩:=hp;refine⟨⟨fun _ _ _ _=>rfl,hn,hol⟩,fun h=>?_,fun h=>⟨⟨zr,hs⟩,fun h2=>?_,fun h2=>⟨fun h3=>?_,fun h3=>?_⟩⟩⟩
 ·have h:(!H8 w)=true:=h;unfold DZ;rw[h];rfl
 all_goals have h:(!H8 w)=false:=h
 ·unfold DZ;rw[h,h2];rfl
 ·unfold DZ;rw[h,h2,h3];rfl
 ·unfold DZ;rw[h,h2,h3];rfl)
theorem RX:Az prog 53 OI:=AN func53 (c:=Ae f53) (by kernel_rfl) mixed (fun _ _ _ hs hp=>by
 unfold kO at hs;split at hs
 ·cases hs;exact⟨_,_,Afx _ _ _ hp.2.2,(.p (KL hp.1) (.p (.sl hp.2.1) (.same _ .nil))),⟨show Aa prog _ from(Aa.cons Afq Afr (Aa.cons Afu Afv Aa.nil)),rfl,nz⟩⟩
 ·cases hs)
theorem RY:An prog 53:=fun _ _=>by kernel_rfl
def kP (l:L.Sq Ai):Prop:=l.n<=1000000
def kQ (l:L.Sq Ai):Nat->Prop:=fun _=>True
def kR (l:L.Sq Ai):Nat->Nat:=fun _=>l.n
def kS (l:L.Sq Ai):Nat->Nat->List SV:=fun _ i=>[.int .i64 (l.g i).w,.int .i64 (l.g i).h]
def kT:List EV->Option (Prop×(Nat->Prop)×(Nat->Nat)×(Nat->Nat->List SV))
 |[.p (.sl 2 l_n l_g)]=>some ((∀i,i<l_n->l_g i = [.int .i64 (FR (l_g i)).w,.int .i64 (FR (l_g i)).h])/\kP ⟨l_n,fun i=>FR (l_g i)⟩,kQ ⟨l_n,fun i=>FR (l_g i)⟩,kR ⟨l_n,fun i=>FR (l_g i)⟩,kS ⟨l_n,fun i=>FR (l_g i)⟩)
 |_=>none
abbrev kU:SE.Spec:=(Gl Nat 0 73 2 kT)
def Afy:Aj:={ cC with muts:=[5] }
theorem Afz (l:L.Sq Ai) (hp:kP l):vc prog (Afy) (Ae f66) (Ao f66 [.p (.sl 2 l.n (fun i=>[.int .i64 (l.g i).w,.int .i64 (l.g i).h]))]) (Fp prog f66 (Nat) (kQ l) 73 2 (kR l) (kS l)):=
 @Eq.mpr _ (∀(b:Bool),(b = !false->l.n=0)->(b=true->∃(t:Nat),l.n=0/\True)/\(b=false->(0+l.n)*16<=140737488355328/\∃(t:Nat),(0+l.n=l.n/\∀(i:Nat),i<0+l.n->AH 0 (AD [] 2) (fun(i:Nat)=>[SV.int .i64 (l.g i).w,SV.int .i64 (l.g i).h]) i = [SV.int .i64 (l.g i).w,SV.int .i64 (l.g i).h])/\True)) (by kernel_rfl) (by
 have hn:l.n<=1000000:=hp;refine fun b hb=>⟨fun h=>⟨(0:Nat),hb h,trivial⟩,fun h=>⟨show(0+l.n)*16<=140737488355328 by omega,(0:Nat),⟨AhO _,fun i hi=>?_⟩,trivial⟩⟩;unfold AH;rw[if_neg (oE _)];rfl)
theorem Af0:Az prog 66 kU:=G5 func66 (c:=Ae f66) (by kernel_rfl) mixed (fun args p q n g hs hp=>by
 unfold kT at hs;split at hs
 ·cases hs;exact⟨_,_,Afz _ hp.2,(.p (.sl hp.1) .nil),⟨show Aa prog _ from Aa.nil,rfl,nz⟩⟩
 ·cases hs)
theorem Af1:An prog 66:=fun _ _=>by kernel_rfl
abbrev JK:Mk:={ T:=(L.Sq Ak)×(Int)×(Int->Bool)×(Int)×(Ai),U:=Int->Bool,args:=fun t=>(fun w gr dom g r=>[.loc 1000 0,.p (.int .i64 g),.p ((.agg [.int .i64 r.w,.int .i64 r.h]))]) t.1 t.2.1 t.2.2.1 t.2.2.2.1 t.2.2.2.2,lkeys:=[1000,1001],keys:=[],lent:=fun t=>(fun w gr dom g r=>[(1000,.blk 172 [.p ((.sl 4 w.n (fun i=>[.int .i64 (w.g i).id,.int .i64 (w.g i).colour,.int .i64 (w.g i).grain,.sl 2 (w.g i).ol.n (fun i1=>[.int .i64 ((w.g i).ol.g i1).x,.int .i64 ((w.g i).ol.g i1).y])]))),.p (.int .i64 gr),.mapv 1001]),(1001,.mq 3 64 dom (Ag (Aq w gr)))]) t.1 t.2.1 t.2.2.1 t.2.2.2.1 t.2.2.2.2,pre:=fun t=>(fun w gr dom g r=>CI w/\0<=g/\g<=B7 w.n) t.1 t.2.1 t.2.2.1 t.2.2.2.1 t.2.2.2.2,post:=fun t u=>(fun w gr dom g r=>fun u=>True) t.1 t.2.1 t.2.2.1 t.2.2.2.1 t.2.2.2.2 u,lent':=fun t u=>(fun w gr dom g r=>fun u=>[(1000,.blk 172 [.p ((.sl 4 w.n (fun i=>[.int .i64 (w.g i).id,.int .i64 (w.g i).colour,.int .i64 (w.g i).grain,.sl 2 (w.g i).ol.n (fun i1=>[.int .i64 ((w.g i).ol.g i1).x,.int .i64 ((w.g i).ol.g i1).y])]))),.p (.int .i64 gr),.mapv 1001]),(1001,.mq 3 64 u (Ag (Aq w gr)))]) t.1 t.2.1 t.2.2.1 t.2.2.2.1 t.2.2.2.2 u,own:=fun t u=>(fun w gr dom g r=>fun u=>[]) t.1 t.2.1 t.2.2.1 t.2.2.2.1 t.2.2.2.2 u,res:=fun t u=>(fun w gr dom g r=>fun u=>.p (.bool (DY w gr g r))) t.1 t.2.1 t.2.2.1 t.2.2.2.1 t.2.2.2.2 u }
theorem Af2 (w:L.Sq Ak) (gr:Int) (dom:Int->Bool) (g:Int) (r:Ai) (hp:JK.pre (w,gr,dom,g,r)):vc prog ({ cC with specs:=AE [(143,kA),(144,kD)],mks:=Ev [(67,Ia)],ren:=fun k=>k }) (Ae f99) (DH f99 (JK.args (w,gr,dom,g,r)) (JK.lent (w,gr,dom,g,r))) (FB prog f99 JK (w,gr,dom,g,r)):=
 @Eq.mpr _ (let I:=SV.int .i64;let A7:=(2:Nat);let A3:=[SV.ref [I (w,gr,dom,g,r).snd.snd.snd.snd.w,I (w,gr,dom,g,r).snd.snd.snd.snd.h] 0];let A1:=(BN.mk (fun(«as»:List SV)=>DA KX (AhK EV.p «as» ++ AhK EV.p A3)) fun(«as»:List SV)=>En KX (AhK EV.p «as» ++ AhK EV.p A3));∃(t:L.Sq Ak×Int×(Int->Bool)×Int),let A2:=(Aq t.1 t.2.1 t.snd.2.2);0=0/\g=t.snd.2.2/\(w.n=t.1.n/\∀(i:Nat),let A4:=(t.1.g i);i<w.n -> [I (w.g i).id,I (w.g i).colour,I (w.g i).grain,SV.sl A7 (w.g i).ol.n fun(i1:Nat)=>[I ((w.g i).ol.g i1).x,I ((w.g i).ol.g i1).y]]= [I A4.id,I A4.colour,I A4.grain,SV.sl A7 A4.ol.n fun(i1:Nat)=>[I (A4.ol.g i1).x,I (A4.ol.g i1).y]])/\gr=t.2.1/\(∀(x:Int),dom x=t.snd.2.1 x)/\(∀(x:Int),dom x=true->Ag (Aq w gr) x=Ag (Aq t.1 t.2.1) x)/\(CI t.1/\(0:Int)<=t.snd.2.2/\t.snd.2.2<=B7 t.1.n)/\∀(u:Int->Bool),True->((∀(i:Nat),let A6:=[I (A2.g i).w,I (A2.g i).h];i<A2.n->A6=A6)/\Fr A1/\A2.n<=1000000/\∀(i:Nat),i<A2.n->True)/\∃(u_1:Int->Bool),(BH A2.n fun(i:Nat)=>Bs A1 [SV.agg [I (A2.g i).w,I (A2.g i).h]])=DY w gr g r/\(t.1.n=w.n/\∀(i:Nat),let A5:=(t.1.g i);i<t.1.n -> [I A5.id,I A5.colour,I A5.grain,SV.sl A7 A5.ol.n fun(i1:Nat)=>[I (A5.ol.g i1).x,I (A5.ol.g i1).y]]= [I (w.g i).id,I (w.g i).colour,I (w.g i).grain,SV.sl A7 (w.g i).ol.n fun(i1:Nat)=>[I ((w.g i).ol.g i1).x,I ((w.g i).ol.g i1).y]])/\t.2.1=gr/\(∀(x:Int),u x=u_1 x)/\(∀(x:Int),u x=true->Ag (Aq t.1 t.2.1) x=Ag (Aq w gr) x)/\True) (by kernel_rfl) (by
 conv=>zeta
 have hp:CI w/\0<=g/\g<=B7 w.n:=hp;have hl:(Cq w gr g).length<=1000000:=Aig (OF w gr hp.2.1 (Ajb hp.2.2 (OC hp.1.1))) (by decide);exact⟨(w,gr,dom,g),rfl,rfl,rz,rfl,fun _=>rfl,zr,hp,fun u _=>⟨⟨zr,Mg Afn _,hl,fun _ _=>trivial⟩,u,rfl,rz,rfl,fun _=>rfl,zr,trivial⟩⟩)
theorem RZ:An prog 99:=fun _ _=>by kernel_rfl
theorem Sa:D9 prog 99 JK:=FO (n:=3) func99 (c:=Ae f99) (by kernel_rfl) mixed ⟨fun t=>rfl,fun t=>rfl,fun t u=>rfl,fun t u=>rfl,fun t u=>rfl,fun t u=>⟨rfl,rfl⟩,by kernel_rfl,by kernel_rfl⟩ (fun⟨w,gr,dom,g,r⟩ hp=>⟨_,Af2 w gr dom g r hp,⟨show Aa prog _ from(Aa.cons Afh Afi (Aa.cons Afl Afm Aa.nil)),rfl,⟨show Ac prog _ from Ac.nil,⟨AB.no1 (fun _=>rfl),⟨show Bx prog _ from(Bx.cons jQ RV Bx.nil),FamsOk.none (fun _=>rfl)⟩⟩⟩⟩⟩)
def kV (w:L.Sq Ak) (gr:Int):Prop:=Gq w
def kW (w:L.Sq Ak) (gr:Int):SV:=.tup [.sl 2 (MG w gr) (fun k=>[.int .i64 ((Aq w gr (B7 w.n)).g k).w,.int .i64 ((Aq w gr (B7 w.n)).g k).h]),.int .i64 (KW w gr)]
def kX:List EV->Option (Prop×SV)
 |[.p (.sl 4 w_n w_g),.p (.int .i64 gr)]=>some ((∀i,i<w_n->He (w_g i))/\kV ⟨w_n,fun i=>Dp (w_g i)⟩ gr,kW ⟨w_n,fun i=>Dp (w_g i)⟩ gr)
 |_=>none
abbrev kY:SE.Spec:=(AM kX)
def Af3:Aj:={ cC with specs:=AE [(38,II),(53,OI),(66,kU)],mks:=Ev [(65,HZ),(68,IN),(67,Ia)],ren:=fun k=>if k=1000 then 9 else if k=1001 then 7 else k }
theorem Af4 (w:L.Sq Ak) (gr:Int) (hp:kV w gr):vc prog (Af3) (Ae f26) (Ao f26 [.p (.sl 4 w.n (fun i=>[.int .i64 (w.g i).id,.int .i64 (w.g i).colour,.int .i64 (w.g i).grain,.sl 2 (w.g i).ol.n (fun i1=>[.int .i64 ((w.g i).ol.g i1).x,.int .i64 ((w.g i).ol.g i1).y])])),.p (.int .i64 gr)]) (AL prog f26 (kW w gr)):=
 @Eq.mpr _ (let I:=SV.int .i64;let A10:=(2:Nat);let A9:=(1000000:Nat);let A4:=(0:Int);let A16:=(AI gr A4 (2:Int));let A5:=(L.Sq.mk 0 fun(i:Nat)=>AF.mk A4 A4 A4 A4 A4);let A3:=(L.Sq.mk w.n fun(i:Nat)=>Ak.mk (w.g i).id (w.g i).colour (w.g i).grain (L.Sq.mk (w.g i).ol.n fun(i_1:Nat)=>(w.g i).ol.g i_1));let A1:=(!decide (DZ A3 A5 A16=A4));True/\((∀(i:Nat),i<w.n->∀(i_1:Nat),let A6:=((w.g i).ol.g i_1);i_1<(w.g i).ol.n -> [I A6.x,I A6.y]= [I A6.x,I A6.y])/\(∀(i:Nat),i<0 -> []= [I A4,I A4,I A4,I A4,I A4])/\w.n<=A9/\(∀(i:Nat),i<w.n->(w.g i).ol.n<=A9)/\0<=A9)/\(A1=true->MG w gr=0/\DZ A3 A5 A16=KW w gr)/\(A1=false->∃(t:L.Sq Ak×Int×(Int->L.Sq Ai)),(w.n=t.1.n/\∀(i:Nat),let A11:=(t.1.g i);i<w.n -> [I (w.g i).id,I (w.g i).colour,I (w.g i).grain,SV.sl A10 (w.g i).ol.n fun(i1:Nat)=>[I ((w.g i).ol.g i1).x,I ((w.g i).ol.g i1).y]]= [I A11.id,I A11.colour,I A11.grain,SV.sl A10 A11.ol.n fun(i1:Nat)=>[I (A11.ol.g i1).x,I (A11.ol.g i1).y]])/\gr=t.2.1/\True/\∀(u:Nat),True->∃(t_1:L.Sq Ak×Int×(Int->L.Sq Ai)×(Int->Bool)),0=0/\(t.1.n=t_1.1.n/\∀(i:Nat),let A12:=(t.1.g i);let A7:=(t_1.1.g i);i<t.1.n -> [I A12.id,I A12.colour,I A12.grain,SV.sl A10 A12.ol.n fun(i1:Nat)=>[I (A12.ol.g i1).x,I (A12.ol.g i1).y]]= [I A7.id,I A7.colour,I A7.grain,SV.sl A10 A7.ol.n fun(i1:Nat)=>[I (A7.ol.g i1).x,I (A7.ol.g i1).y]])/\t.2.1=t_1.2.1/\(∀(x:Int),false=t_1.snd.2.2 x)/\(∀(x:Int),false=true->Ag t.2.2 x=Ag t_1.snd.2.1 x)/\t_1.1.n<=4/\∀(u:Nat),True->∃(t:L.Sq Ak×Int×(Int->Bool)×Int),let A2:=(Aq t.1 t.2.1 t.snd.2.2);0=0/\B7 t_1.1.n=t.snd.2.2/\(t_1.1.n=t.1.n/\∀(i:Nat),let A13:=(t.1.g i);let A8:=(t_1.1.g i);i<t_1.1.n -> [I A8.id,I A8.colour,I A8.grain,SV.sl A10 A8.ol.n fun(i1:Nat)=>[I (A8.ol.g i1).x,I (A8.ol.g i1).y]]= [I A13.id,I A13.colour,I A13.grain,SV.sl A10 A13.ol.n fun(i1:Nat)=>[I (A13.ol.g i1).x,I (A13.ol.g i1).y]])/\t_1.2.1=t.2.1/\(∀(x:Int),t_1.snd.2.2 x=t.snd.2.1 x)/\(∀(x:Int),t_1.snd.2.2 x=true->Ag t_1.snd.2.1 x=Ag (Aq t.1 t.2.1) x)/\(CI t.1/\A4<=t.snd.2.2/\t.snd.2.2<=B7 t.1.n)/\∀(u:Int->Bool),True->((∀(i:Nat),let A15:=[I (A2.g i).w,I (A2.g i).h];i<A2.n->A15=A15)/\A2.n<=A9)/\∀(t_2:Nat),True->(A2.n=MG w gr/\∀(i:Nat),let A14:=((Aq w gr (B7 w.n)).g i);i<A2.n -> [I (A2.g i).w,I (A2.g i).h]= [I A14.w,I A14.h])/\A4=KW w gr)) (by kernel_rfl) (by
 conv=>zeta
 have hp:Gq w:=hp;refine⟨trivial,⟨fun _ _ _ _=>rfl,fun i hi=>absurd hi (oE _),hp.2.1,hp.2.2,rH _⟩,fun h=>?_,fun h=>?_⟩
 ·have h:¬ KW w gr=0:=of_decide_eq_false (CC h);exact⟨by unfold MG;rw[decide_eq_false h];rfl,rfl⟩
 ·have h:KW w gr=0:=of_decide_eq_true (B5 h);obtain⟨-,-,-,h7,-⟩:=OG h;have ok:=OH hp h7;have a15:=MD ok.1;have hl:(Cq w gr (B7 w.n)).length<=1000000:=Aig (OF w gr a15.1 a15.2.1) (by decide);exact⟨(w,gr,Aq w gr),rz,rfl,trivial,fun _ _=>⟨(w,gr,Aq w gr,fun _=>false),rfl,rz,rfl,fun _=>rfl,zr,ok.1,fun _ _=>⟨(w,gr,(fun _=>false),B7 w.n),rfl,rfl,rz,rfl,fun _=>rfl,zr,⟨ok,a15.1,AhV _⟩,fun u _=>⟨⟨zr,hl⟩,fun _ _=>⟨⟨by unfold MG;rw[decide_eq_true h];rfl,fun _ _=>rfl⟩,h.symm⟩⟩⟩⟩⟩)
theorem Af5:Az prog 26 kY:=AN func26 (c:=Ae f26) (by kernel_rfl) mixed (fun _ _ _ hs hp=>by
 unfold kX at hs;split at hs
 ·cases hs;exact⟨_,_,Af4 _ _ hp.2,(.p (KL hp.1) (.same _ .nil)),⟨show Aa prog _ from(Aa.cons JB JC (Aa.cons RX RY (Aa.cons Af0 Af1 Aa.nil))),rfl,⟨show Ac prog _ from Ac.nil,⟨AB.no1 (fun _=>rfl),⟨show Bx prog _ from(Bx.cons O8 O7 (Bx.cons RL RK (Bx.cons jQ RV Bx.nil))),FamsOk.none (fun _=>rfl)⟩⟩⟩⟩⟩
 ·cases hs)
theorem Af6:An prog 26:=fun _ _=>by kernel_rfl
def kZ (w:L.Sq Ak) (s:AF):Prop:=Gq w
def lA (w:L.Sq Ak) (s:AF):SV:=.tup [.bool (GC w s),.int .i64 (Fi w s)]
def lC:List EV->Option (Prop×SV)
 |[.p (.sl 4 w_n w_g),.p (.agg [.int .i64 s_id,.int .i64 s_colour,.int .i64 s_w,.int .i64 s_h,.int .i64 s_grain])]=>some ((∀i,i<w_n->He (w_g i))/\kZ ⟨w_n,fun i=>Dp (w_g i)⟩ (⟨s_id,s_colour,s_w,s_h,s_grain⟩:AF),lA ⟨w_n,fun i=>Dp (w_g i)⟩ (⟨s_id,s_colour,s_w,s_h,s_grain⟩:AF))
 |_=>none
abbrev lD:SE.Spec:=(AM lC)
def Af7:Aj:={ cC with specs:=AE [(53,OI)],anys:=[1005],mks:=Ev [(65,HZ),(68,IN),(99,JK)],ren:=fun k=>if k=1000 then 9 else if k=1001 then 7 else k }
theorem Af8 (w:L.Sq Ak) (s:AF) (hp:kZ w s):vc prog (Af7) (Ae f69) (Ao f69 [.p (.sl 4 w.n (fun i=>[.int .i64 (w.g i).id,.int .i64 (w.g i).colour,.int .i64 (w.g i).grain,.sl 2 (w.g i).ol.n (fun i1=>[.int .i64 ((w.g i).ol.g i1).x,.int .i64 ((w.g i).ol.g i1).y])])),.p (.agg [.int .i64 s.id,.int .i64 s.colour,.int .i64 s.w,.int .i64 s.h,.int .i64 s.grain])]) (AL prog f69 (lA w s)):=
 @Eq.mpr _ (let I:=SV.int .i64;let A19:=(0:Nat);let A18:=(1000000:Nat);let A17:=(0:Int);let A11:=(L.Sq.mk 1 fun(i:Nat)=>s);let A6:=[I s.id,I s.colour,I s.w,I s.h,I s.grain];let A4:=(2:Nat);let A2:=(L.Sq.mk w.n fun(i:Nat)=>Ak.mk (w.g i).id (w.g i).colour (w.g i).grain (L.Sq.mk (w.g i).ol.n fun(i_1:Nat)=>(w.g i).ol.g i_1));let A3:=(!decide (DZ A2 A11 true=A17));((∀(i:Nat),i<w.n->∀(i_1:Nat),let A5:=((w.g i).ol.g i_1);i_1<(w.g i).ol.n -> [I A5.x,I A5.y]= [I A5.x,I A5.y])/\(∀(i:Nat),i<1->A6=A6)/\w.n<=A18/\(∀(i:Nat),i<w.n->(w.g i).ol.n<=A18)/\1<=A18)/\(A3=true->false=GC w s/\DZ A2 A11 true=Fi w s)/\(A3=false->∃(t:L.Sq Ak×Int×(Int->L.Sq Ai)),(w.n=t.1.n/\∀(i:Nat),let A12:=(t.1.g i);i<w.n -> [I (w.g i).id,I (w.g i).colour,I (w.g i).grain,SV.sl A4 (w.g i).ol.n fun(i1:Nat)=>[I ((w.g i).ol.g i1).x,I ((w.g i).ol.g i1).y]]= [I A12.id,I A12.colour,I A12.grain,SV.sl A4 A12.ol.n fun(i1:Nat)=>[I (A12.ol.g i1).x,I (A12.ol.g i1).y]])/\s.grain=t.2.1/\True/\∀(u:Nat),let A1:=(∃(t_1:L.Sq Ak×Int×(Int->L.Sq Ai)×(Int->Bool)),0=A19/\(t.1.n=t_1.1.n/\∀(i:Nat),let A13:=(t.1.g i);let A7:=(t_1.1.g i);i<t.1.n -> [I A13.id,I A13.colour,I A13.grain,SV.sl A4 A13.ol.n fun(i1:Nat)=>[I (A13.ol.g i1).x,I (A13.ol.g i1).y]]= [I A7.id,I A7.colour,I A7.grain,SV.sl A4 A7.ol.n fun(i1:Nat)=>[I (A7.ol.g i1).x,I (A7.ol.g i1).y]])/\t.2.1=t_1.2.1/\(∀(x:Int),false=t_1.snd.2.2 x)/\(∀(x:Int),false=true->Ag t.2.2 x=Ag t_1.snd.2.1 x)/\t_1.1.n<=4/\∀(u:Nat),True->∃(t:L.Sq Ak×Int×(Int->Bool)×Int×Ai),0=A19/\B7 t_1.1.n=t.snd.snd.2.1/\SV.agg [I s.w,I s.h]=SV.agg [I t.snd.snd.2.2.w,I t.snd.snd.2.2.h]/\(t_1.1.n=t.1.n/\∀(i:Nat),let A14:=(t.1.g i);let A8:=(t_1.1.g i);i<t_1.1.n -> [I A8.id,I A8.colour,I A8.grain,SV.sl A4 A8.ol.n fun(i1:Nat)=>[I (A8.ol.g i1).x,I (A8.ol.g i1).y]]= [I A14.id,I A14.colour,I A14.grain,SV.sl A4 A14.ol.n fun(i1:Nat)=>[I (A14.ol.g i1).x,I (A14.ol.g i1).y]])/\t_1.2.1=t.2.1/\(∀(x:Int),t_1.snd.2.2 x=t.snd.2.1 x)/\(∀(x:Int),t_1.snd.2.2 x=true->Ag t_1.snd.2.1 x=Ag (Aq t.1 t.2.1) x)/\(CI t.1/\A17<=t.snd.snd.2.1/\t.snd.snd.2.1<=B7 t.1.n)/\∀(u:Int->Bool),True->DY t.1 t.2.1 t.snd.snd.2.1 t.snd.snd.2.2=GC w s/\A17=Fi w s);True->A1/\A1/\A1/\A1/\A1/\A1/\A1/\A1/\A1/\∃(t_1:L.Sq Ak×Int×(Int->L.Sq Ai)×(Int->Bool)),0=A19/\(t.1.n=t_1.1.n/\∀(i:Nat),let A15:=(t.1.g i);let A9:=(t_1.1.g i);i<t.1.n -> [I A15.id,I A15.colour,I A15.grain,SV.sl A4 A15.ol.n fun(i1:Nat)=>[I (A15.ol.g i1).x,I (A15.ol.g i1).y]]= [I A9.id,I A9.colour,I A9.grain,SV.sl A4 A9.ol.n fun(i1:Nat)=>[I (A9.ol.g i1).x,I (A9.ol.g i1).y]])/\t.2.1=t_1.2.1/\(∀(x:Int),false=t_1.snd.2.2 x)/\(∀(x:Int),false=true->Ag t.2.2 x=Ag t_1.snd.2.1 x)/\t_1.1.n<=4/\∀(u:Nat),True->∃(t:L.Sq Ak×Int×(Int->Bool)×Int×Ai),0=A19/\B7 t_1.1.n=t.snd.snd.2.1/\SV.agg [I s.w,I s.h]=SV.agg [I t.snd.snd.2.2.w,I t.snd.snd.2.2.h]/\(t_1.1.n=t.1.n/\∀(i:Nat),let A16:=(t.1.g i);let A10:=(t_1.1.g i);i<t_1.1.n -> [I A10.id,I A10.colour,I A10.grain,SV.sl A4 A10.ol.n fun(i1:Nat)=>[I (A10.ol.g i1).x,I (A10.ol.g i1).y]]= [I A16.id,I A16.colour,I A16.grain,SV.sl A4 A16.ol.n fun(i1:Nat)=>[I (A16.ol.g i1).x,I (A16.ol.g i1).y]])/\t_1.2.1=t.2.1/\(∀(x:Int),t_1.snd.2.2 x=t.snd.2.1 x)/\(∀(x:Int),t_1.snd.2.2 x=true->Ag t_1.snd.2.1 x=Ag (Aq t.1 t.2.1) x)/\(CI t.1/\A17<=t.snd.snd.2.1/\t.snd.snd.2.1<=B7 t.1.n)/\∀(u:Int->Bool),True->DY t.1 t.2.1 t.snd.snd.2.1 t.snd.snd.2.2=GC w s/\A17=Fi w s)) (by kernel_rfl) (by
 conv=>zeta
 have hp:Gq w:=hp;refine⟨⟨fun _ _ _ _=>rfl,zr,hp.2.1,hp.2.2,by decide⟩,fun h=>?_,fun h=>?_⟩
 ·have h:¬ Fi w s=0:=of_decide_eq_false (CC h);exact⟨by unfold GC;rw[decide_eq_false h];rfl,rfl⟩
 ·have h:Fi w s=0:=of_decide_eq_true (B5 h);obtain⟨-,-,-,h7,-⟩:=OG h;have ok:=OH hp h7;have a15:=MD ok.1;have hb:DY w s.grain (B7 w.n) ⟨s.w,s.h⟩=GC w s:=by unfold GC;rw[decide_eq_true h];rfl
  refine⟨(w,s.grain,Aq w s.grain),rz,rfl,trivial,fun _ _=>?_⟩
  repeat' apply And.intro
  all_goals exact⟨(w,s.grain,Aq w s.grain,fun _=>false),rfl,rz,rfl,fun _=>rfl,zr,ok.1,fun _ _=>⟨(w,s.grain,(fun _=>false),B7 w.n,⟨s.w,s.h⟩),rfl,rfl,rfl,rz,rfl,fun _=>rfl,zr,⟨ok,a15.1,AhV _⟩,fun u _=>⟨hb,h.symm⟩⟩⟩)
theorem Af9:Az prog 69 lD:=AN func69 (c:=Ae f69) (by kernel_rfl) mixed (fun _ _ _ hs hp=>by
 unfold lC at hs;split at hs
 ·cases hs;exact⟨_,_,Af8 _ _ hp.2,(.p (KL hp.1) (.same _ .nil)),⟨show Aa prog _ from(Aa.cons RX RY Aa.nil),rfl,⟨show Ac prog _ from Ac.nil,⟨AB.no1 (fun _=>rfl),⟨show Bx prog _ from(Bx.cons O8 O7 (Bx.cons RL RK (Bx.cons Sa RZ Bx.nil))),FamsOk.none (fun _=>rfl)⟩⟩⟩⟩⟩
 ·cases hs)
theorem AfA:An prog 69:=fun _ _=>by kernel_rfl
end Go.Proofs.YtdkpcdlnfobnnaaGreat
