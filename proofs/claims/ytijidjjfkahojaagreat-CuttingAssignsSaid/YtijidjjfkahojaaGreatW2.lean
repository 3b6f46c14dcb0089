/- A symbolic walk over the model, and what it shows of functions of the program: parts of the proof that the text of the row joins. -/
import Derived.Test.YtijidjjfkahojaaGreatW1
import Derived.Test.YtijidjjfkahojaaGreatE5
import Derived.KernelRfl
open List renaming getD_eq_getElem?_getD->AS,getElem?_eq_getElem->AdH,mem_cons_of_mem->AdJ,mem_filter->AdK,mem_cons_self->AdM,all_eq_true->AdO,range->AdP,mem_range->AdQ,mem_cons->AdR,mem_singleton->AdY,mem_append->Aef,getElem?_append_left->Aeh,length_append->Aei,getElem?_append_right->Aej,getElem_of_mem->Aem,mem_flatMap->Aex,mem_append_right->Aez,length_cons->Ae3,mem_append_left->Ae6,length_map->Ae7,append_nil->AeA,append_assoc->AeG,pairwise_cons->AeR,map->AeS,pairwise_iff_getElem->AeV,any_eq_true->AeY,range_succ->Afb,length_filter_le->Afe,nil_append->Afl,flatMap_append->Afu,length_take->Afx,take_length->Afz,take_add_one->Af1,map_append->Af3,pairwise_append->Af7,filter->Af8
open Nat renaming not_lt_zero->nT,zero_le->AdL,le_refl->AdS,lt_succ_iff_lt_or_eq->AdZ,le_trans->Aeu,lt_or_ge->Ae5
open Bool renaming and_eq_true->oE,or_eq_true->Aen,not_eq_true'->Aer,or_eq_false_iff->AeI,and_eq_true_iff->Afg
open Int renaming toNat_natCast->Aea,natCast_nonneg->Aec,toNat->Aee,le_refl->Ael,eq_ofNat_of_zero_le->Aev,le_of_lt->Ae4,le_trans->Afy
namespace Go.Proofs.YtijidjjfkahojaaGreat
open Go.SE Go.RowKit
set_option maxRecDepth 100000
set_option maxHeartbeats 4000000
set_option linter.unusedVariables false
attribute [local irreducible] vc
def Dg (a b c d:L.Pt) (i:Nat):L.Pt:=bif decide (i=0)then a else bif decide (i=1)then b else bif decide (i=2)then c else d
def El (a b c d p:L.Pt):Bool:=C6 a b p&&C6 c d p
def BG (a b c d:L.Pt):Nat->L.Sq L.Pt
 |0=>OZ
 |n+1=>Hv (El a b c d (Dg a b c d n)) (BG a b c d n) (Dg a b c d n)
theorem Wi {a b:L.Pt}:C6 a b a=true:=by
 unfold C6;rw[oE,oE,IH,IH];refine⟨⟨decide_eq_true ?_,by omega⟩,by omega⟩;unfold B9;simp
theorem Wj {a b:L.Pt}:C6 a b b=true:=by
 unfold C6;rw[oE,oE,IH,IH];refine⟨⟨decide_eq_true ?_,by omega⟩,by omega⟩;unfold B9;rw[Int.mul_comm];omega
theorem tR {a b c d:L.Pt}:BG a b c d 4=Dz a b c d 2:=by
 have h1:El a b c d a=C6 c d a:=by unfold El;rw[Wi];rfl
 have h2:El a b c d b=C6 c d b:=by unfold El;rw[Wj];rfl
 have h3:El a b c d c=C6 a b c:=by unfold El;rw[Wi (a:=c),Bool.and_true]
 have h4:El a b c d d=C6 a b d:=by unfold El;rw[Wj (a:=c),Bool.and_true]
 show Hv (El a b c d d) (Hv (El a b c d c) (Hv (El a b c d b) (Hv (El a b c d a) OZ a) b) c) d=_;rw[h1,h2,h3,h4];rfl
theorem tS (p q:L.Pt):Df p q=Df q p:=by
 unfold Df;rw[show decide (p.x=q.x)=decide (q.x=p.x)from by by_cases h:p.x=q.x<;>simp[h,eq_comm],show decide (p.y=q.y)=decide (q.y=p.y)from by by_cases h:p.y=q.y<;>simp[h,eq_comm]]
theorem tT {ks:L.Sq L.Pt} {p:L.Pt}:(FC ks p).n<=ks.n+1:=by
 unfold FC;cases JD ks p
 ·exact AdS _
 ·exact Nat.le_succ _
theorem Wk {a b c d:L.Pt}:∀{i:Nat},(BG a b c d i).n<=i
 |0=>AdS _
 |i+1=>by
   have ih:=Wk (a:=a) (b:=b) (c:=c) (d:=d) (i:=i);rw[BG];cases El a b c d (Dg a b c d i)
   ·exact Aeu ih (Nat.le_succ _)
   ·exact Aeu tT (Nat.succ_le_succ ih)
theorem tU {l:L.Sq L.Pt} {k:Nat}:(bif bif decide (0<(k:Int))then !decide (Cw (l.g 0) (l.g k)<0)else false then true else decide (B9 (l.g (Gf l.n k)) (l.g k) (l.g (Cf l.n k))=0))= !Ej l k:=by
 unfold Ej;have:decide (0<=Cw (l.g 0) (l.g k))= !decide (Cw (l.g 0) (l.g k)<0):=by
  by_cases h:Cw (l.g 0) (l.g k)<0
  ·rw[decide_eq_true h,decide_eq_false (by omega)];rfl
  ·rw[decide_eq_false h,decide_eq_true (by omega)];rfl
 rw[this,Bool.not_not];cases decide (0<(k:Int))<;>cases decide (Cw (l.g 0) (l.g k)<0)<;>cases decide (B9 (l.g (Gf l.n k)) (l.g k) (l.g (Cf l.n k))=0)<;>rfl
def Wl (a:L.Pt) (b:L.Pt) (c:L.Pt) (d:L.Pt):Prop:=AF a/\AF b/\AF c/\AF d
def Wm (a:L.Pt) (b:L.Pt) (c:L.Pt) (d:L.Pt):SV:=.int .i64 (CN a b c d)
def Wn:List EV->Option (Prop×SV)
 |[.p (.agg [.int .i64 a_x,.int .i64 a_y]),.p (.agg [.int .i64 b_x,.int .i64 b_y]),.p (.agg [.int .i64 c_x,.int .i64 c_y]),.p (.agg [.int .i64 d_x,.int .i64 d_y])]=>some (Wl (⟨a_x,a_y⟩:L.Pt) (⟨b_x,b_y⟩:L.Pt) (⟨c_x,c_y⟩:L.Pt) (⟨d_x,d_y⟩:L.Pt),Wm (⟨a_x,a_y⟩:L.Pt) (⟨b_x,b_y⟩:L.Pt) (⟨c_x,c_y⟩:L.Pt) (⟨d_x,d_y⟩:L.Pt))
 |_=>none
abbrev Wo:SE.Spec:=(AI Wn)
def tV:Al:={ cC with specs:=AC [(129,VV),(29,MN),(130,VZ)],nils:=B6 [(2,[(9,20,66,2)])] }
theorem tW (a:L.Pt) (b:L.Pt) (c:L.Pt) (d:L.Pt) (hp:Wl a b c d):vc Tryz.prog ({ tV with loops:=AT [(4,{ T:=Nat,keep:=[4,5,6,7,9],keepO:=[],chg:=fun i=>[(10,.p (.sl 2 4 (fun j=>[.int .i64 ((Dg a b c d j).x),.int .i64 ((Dg a b c d j).y)]))),(11,.p (.int .i64 (i:Int)))],own:=fun i=>[(20,.row 66 2 (BG a b c d i).n (fun j=>[.int .i64 (((BG a b c d i).g j).x),.int .i64 (((BG a b c d i).g j).y)]))],inv:=fun i=>i<=4,mu:=fun i=>4-i }),(9,{ T:=Nat×Nat,keep:=[4,5,6,7,9,10,11],keepO:=[],tie:=fun g=>[(11,.int .i64 (g.1:Int))],chg:=fun g=>[(12,.p (.bool (Cb g.2 (fun j=>Df ((BG a b c d g.1).g j) (Dg a b c d g.1))))),(13,.p (.int .i64 (g.2:Int)))],own:=fun g=>[(20,.row 66 2 (BG a b c d g.1).n (fun j=>[.int .i64 (((BG a b c d g.1).g j).x),.int .i64 (((BG a b c d g.1).g j).y)]))],inv:=fun g=>g.1<4/\g.2<=(BG a b c d g.1).n,mu:=fun g=>(BG a b c d g.1).n-g.2 })],rfs:=AP [] }) (Ai Tryz.f97) (Au Tryz.f97 [.p (.agg [.int .i64 a.x,.int .i64 a.y]),.p (.agg [.int .i64 b.x,.int .i64 b.y]),.p (.agg [.int .i64 c.x,.int .i64 c.y]),.p (.agg [.int .i64 d.x,.int .i64 d.y])]) (AH Tryz.prog Tryz.f97 (Wm a b c d)):=
 @Eq.mpr _ (let I:=SV.int .i64;let T:=Aee;let A22:=(↑(nat_lit 4):Int);let A21:=(B9 a b d);let A20:=(B9 a b c);let A18:=(1:Int);let A17:=[I a.x,I a.y];let A16:=[I b.x,I b.y];let A15:=[I c.x,I c.y];let A14:=[I d.x,I d.y];let A11:=(4:Nat);let A6:=(0:Int);let A10:=(decide (Bt A20 A6*Bt A21 A6<A6)=true->True);let A7:=(bif decide (Bt A20 A6*Bt A21 A6<A6)then decide (Bt (B9 c d a) A6*Bt (B9 c d b) A6<A6)else false);let A5:=(nat_lit 0);let A3:=(nat_lit 4=A11/\∀(i:Nat),let A23:=(Dg a b c d i);i<nat_lit 4 -> [I A23.x,I A23.y]= [I A23.x,I A23.y]);(∃(g:Nat),let A30:=(BG a b c d g);(nat_lit 4=A11/\∀(i:Nat),i<nat_lit 4->Ce [I a.x,I a.y,I b.x,I b.y,I c.x,I c.y,I d.x,I d.y] (nat_lit 2) i = [I (Dg a b c d i).x,I (Dg a b c d i).y])/\A6=(↑g:Int)/\(nat_lit 0=A30.n/\∀(i:Nat),i<nat_lit 0 -> []= [I (A30.g i).x,I (A30.g i).y])/\g<=A11)/\∀(g:Nat),let A9:=(BG a b c d g);let A26:=(↑A9.n:Int);let A8:=(↑g:Int);let A2:=(Dg a b c d (T A8));let A24:=(bif !C6 a b A2 then true else !C6 c d A2);g<=A11->(decide (A8<(4:Int))=true->(A6<=A8/\A8<A22)/\(AF a/\AF b/\AF A2)/\((!!C6 a b A2)=true->A6<=A8/\A8<A22)/\((!!C6 a b A2)=true->AF c/\AF d/\AF A2)/\(A24=true->Ad .i64 (A8+A18)/\∃(g':Nat),let A27:=(BG a b c d g');A3/\A8+A18=(↑g':Int)/\SV.ref A14 A5=SV.ref A14 A5/\SV.ref A15 A5=SV.ref A15 A5/\SV.ref A16 A5=SV.ref A16 A5/\SV.ref A17 A5=SV.ref A17 A5/\(A9.n=A27.n/\∀(i:Nat),i<A9.n -> [I (A9.g i).x,I (A9.g i).y]= [I (A27.g i).x,I (A27.g i).y])/\g'<=A11/\A11-g'<A11-g)/\(A24=false->(∃(g_1:Nat×Nat),let A19:=(BG a b c d g_1.1);(false=Cb g_1.2 fun(j:Nat)=>Df (A19.g j) (Dg a b c d g_1.1))/\A6=(↑g_1.2:Int)/\(A9.n=A19.n/\∀(i:Nat),i<A9.n -> [I (A9.g i).x,I (A9.g i).y]= [I (A19.g i).x,I (A19.g i).y])/\A8=(↑g_1.1:Int)/\g_1.1<A11/\g_1.2<=A19.n)/\∀(g_1:Nat×Nat),let A31:=(Dg a b c d g_1.1);let A12:=(↑g_1.2:Int);let A1:=(BG a b c d g_1.1);let A32:=(↑A1.n:Int);let A4:=(!Cb g_1.2 fun(j:Nat)=>Df (A1.g j) A31);A8=(↑g_1.1:Int)/\g_1.1<A11/\g_1.2<=A1.n->(decide (A12<A32)=true->(A4=true->A6<=A12/\A12<A32)/\(A4=true->T A12<A1.n)/\(A4=true->A6<=A8/\A8<A22)/\Ad .i64 (A12+A18)/\∃(g':Nat×Nat),let A13:=(BG a b c d g'.1);((bif Cb g_1.2 fun(j:Nat)=>Df (A1.g j) A31 then true else decide ((A1.g (T A12)).x=A2.x)&&decide ((A1.g (T A12)).y=A2.y))=Cb g'.2 fun(j:Nat)=>Df (A13.g j) (Dg a b c d g'.1))/\A12+A18=(↑g'.2:Int)/\(nat_lit 4=nat_lit 4/\∀(i:Nat),let A25:=(Dg a b c d i);i<nat_lit 4 -> [I A25.x,I A25.y]= [I A25.x,I A25.y])/\A8=A8/\SV.ref A14 A5=SV.ref A14 A5/\SV.ref A15 A5=SV.ref A15 A5/\SV.ref A16 A5=SV.ref A16 A5/\SV.ref A17 A5=SV.ref A17 A5/\(A1.n=A13.n/\∀(i:Nat),i<A1.n -> [I (A1.g i).x,I (A1.g i).y]= [I (A13.g i).x,I (A13.g i).y])/\(A8=(↑g'.1:Int)/\g'.1<A11/\g'.2<=A13.n)/\A13.n-g'.2<A1.n-g_1.2)/\(decide (A12<A32)=false->(A4=true->(A6<=A8/\A8<A22)/\(A1.n+nat_lit 1)*nat_lit 16<=(140737488355328:Nat)/\Ad .i64 (A8+A18)/\∃(g':Nat),let A28:=(BG a b c d g');A3/\A8+A18=(↑g':Int)/\SV.ref A14 A5=SV.ref A14 A5/\SV.ref A15 A5=SV.ref A15 A5/\SV.ref A16 A5=SV.ref A16 A5/\SV.ref A17 A5=SV.ref A17 A5/\(A1.n+nat_lit 1=A28.n/\∀(i:Nat),i<A1.n+nat_lit 1->AN A1.n (fun(j:Nat)=>[I (A1.g j).x,I (A1.g j).y]) (fun(x:Nat)=>[I A2.x,I A2.y]) i = [I (A28.g i).x,I (A28.g i).y])/\g'<=A11/\A11-g'<A11-g)/\(A4=false->Ad .i64 (A8+A18)/\∃(g':Nat),let A29:=(BG a b c d g');A3/\A8+A18=(↑g':Int)/\SV.ref A14 A5=SV.ref A14 A5/\SV.ref A15 A5=SV.ref A15 A5/\SV.ref A16 A5=SV.ref A16 A5/\SV.ref A17 A5=SV.ref A17 A5/\(A1.n=A29.n/\∀(i:Nat),i<A1.n -> [I (A1.g i).x,I (A1.g i).y]= [I (A29.g i).x,I (A29.g i).y])/\g'<=A11/\A11-g'<A11-g))))/\(decide (A8<(4:Int))=false->(decide (A18<A26)=true->(3:Int)=CN a b c d)/\(decide (A18<A26)=false->(decide (A26=A18)=true->A18=CN a b c d)/\(decide (A26=A18)=false->(AF a/\AF b/\AF c)/\True/\(AF a/\AF b/\AF d)/\True/\Ad .i64 (Bt A20 A6*Bt A21 A6)/\(decide (Bt A20 A6*Bt A21 A6<A6)=true->AF c/\AF d/\AF a)/\A10/\(decide (Bt A20 A6*Bt A21 A6<A6)=true->AF c/\AF d/\AF b)/\A10/\(decide (Bt A20 A6*Bt A21 A6<A6)=true->Ad .i64 (Bt (B9 c d a) A6*Bt (B9 c d b) A6))/\(A7=true->(2:Int)=CN a b c d)/\(A7=false->A6=CN a b c d))))) (by kernel_rfl) (by
 conv=>zeta
 obtain⟨ha,hb,hc,hd⟩:=hp;have hp4:∀i,AF (Dg a b c d i):=fun i=>by
  unfold Dg;cases decide (i=0)<;>cases decide (i=1)<;>cases decide (i=2)<;>assumption
 refine⟨⟨(0:Nat),⟨rfl,fun i hi=>by match i,hi with|0,_=>rfl|1,_=>rfl|2,_=>rfl|3,_=>rfl⟩,rfl,⟨rfl,fun i hi=>absurd hi (nT _)⟩,by decide⟩,fun g hg=>⟨fun hlt=>?_,fun hge=>?_⟩⟩
 ·have hb1:(g:Int)<4:=of_decide_eq_true hlt;have e0:((g:Int)).toNat=g:=by omega
  rw[e0];refine⟨⟨by omega,hb1⟩,⟨ha,hb,hp4 g⟩,fun _=>⟨by omega,hb1⟩,fun _=>⟨hc,hd,hp4 g⟩,fun h1=>?_,fun h1=>?_⟩
  ·have hoff : El a b c d (Dg a b c d g)= false :=by
    unfold El;revert h1;cases C6 a b (Dg a b c d g)<;>cases C6 c d (Dg a b c d g)<;>intro h1<;>first|rfl|cases h1
   have e:BG a b c d (g+1)=BG a b c d g:=by rw[BG,hoff];rfl
   refine⟨jK,g+1,⟨rfl,fun _ _=>rfl⟩,by omega,rfl,rfl,rfl,rfl,?_,by omega,by omega⟩;rw[e];exact⟨rfl,fun _ _=>rfl⟩
  ·have hon : El a b c d (Dg a b c d g)= true :=by
    unfold El;revert h1;cases C6 a b (Dg a b c d g)<;>cases C6 c d (Dg a b c d g)<;>intro h1<;>first|rfl|cases h1
   refine⟨⟨(g,0),rfl,rfl,⟨rfl,fun _ _=>rfl⟩,rfl,by show g<4;omega,AdL _⟩,?_⟩;rintro⟨g',k⟩ ⟨e1,e2,e3⟩;have e1:(g:Int)=(g':Int):=e1;obtain rfl:g=g':=by omega
   have e3:k<=(BG a b c d g).n:=e3;have ek:((k:Int)).toNat=k:=by omega
   have hcn:=Wk (a:=a) (b:=b) (c:=c) (d:=d) (i:=g);dsimp only;rw[ek];refine⟨fun hlt2=>?_,fun hge2=>?_⟩
   ·have hk:(k:Int)<((BG a b c d g).n:Int):=of_decide_eq_true hlt2;refine⟨fun _=>⟨by omega,hk⟩,fun _=>(show k<(BG a b c d g).n by omega),fun _=>⟨by omega,hb1⟩,jK,(g,k+1),?_,by show(k:Int)+1=((k+1:Nat):Int);omega,⟨rfl,fun _ _=>rfl⟩,rfl,rfl,rfl,rfl,rfl,⟨rfl,fun _ _=>rfl⟩,⟨rfl,by show g<4;omega,by show k+1<=(BG a b c d g).n;omega⟩,by show(BG a b c d g).n-(k+1)<(BG a b c d g).n-k;omega⟩;rw[G6];rfl
   ·have hk:¬ (k:Int)<((BG a b c d g).n:Int):=of_decide_eq_false hge2;obtain rfl:k=(BG a b c d g).n:=by omega
    have hhas:Cb (BG a b c d g).n (fun j=>Df ((BG a b c d g).g j) (Dg a b c d g))=JD (BG a b c d g) (Dg a b c d g):=
     pK (fun i _=>tS _ _)
    rw[hhas];refine⟨fun h2=>?_,fun h2=>?_⟩
    ·have e : BG a b c d (g+1)= ⟨(BG a b c d g).n+1, fun i =>if i<(BG a b c d g).n then(BG a b c d g).g i else Dg a b c d g⟩:=by
      rw[BG,hon];show FC _ _=_;unfold FC;rw[Cx h2];rfl
     refine⟨⟨by omega,hb1⟩,show((BG a b c d g).n+1)*16<=140737488355328 by omega,jK,g+1,⟨rfl,fun _ _=>rfl⟩,by omega,rfl,rfl,rfl,rfl,?_,by omega,by omega⟩;rw[e];refine⟨rfl,fun i hi=>?_⟩;unfold AN;dsimp only
     by_cases h':i<(BG a b c d g).n
     ·rw[if_pos h',if_pos h']
     ·rw[if_neg h',if_neg h']
    ·have e : BG a b c d (g+1)= BG a b c d g :=by
      rw[BG,hon];show FC _ _=_;unfold FC;rw[BW h2];rfl
     refine⟨jK,g+1,⟨rfl,fun _ _=>rfl⟩,by omega,rfl,rfl,rfl,rfl,?_,by omega,by omega⟩;rw[e];exact⟨rfl,fun _ _=>rfl⟩
 ·have hb1:¬ (g:Int)<4:=of_decide_eq_false hge;obtain rfl:g=4:=by omega
  rw[tR];have q1:=JA (B9 a b c) 0;have q2:=JA (B9 a b d) 0;have q3:=JA (B9 c d a) 0;have q4:=JA (B9 c d b) 0;have m1:=Ei (m:=1) (n:=1) q1.1 q1.2 q2.1 q2.2;have m2:=Ei (m:=1) (n:=1) q3.1 q3.2 q4.1 q4.2;refine⟨fun h1=>?_,fun h1=>⟨fun h2=>?_,fun h2=>⟨⟨ha,hb,hc⟩,trivial,⟨ha,hb,hd⟩,trivial,jK,fun _=>⟨hc,hd,ha⟩,fun _=>trivial,fun _=>⟨hc,hd,hb⟩,fun _=>trivial,fun _=>jK,fun h3=>?_,fun h3=>?_⟩⟩⟩
  ·unfold CN;rw[h1];rfl
  ·unfold CN;rw[h1,h2];rfl
  ·have h3:(bif G7 a b c d then G7 c d a b else false)=true:=h3;unfold CN;rw[h1,h2,h3];rfl
  ·have h3:(bif G7 a b c d then G7 c d a b else false)=false:=h3;unfold CN;rw[h1,h2,h3];rfl)
theorem tX:Ax Tryz.prog 97 Wo:=AK Tryz.func97 (c:=Ai Tryz.f97) (by kernel_rfl) mixed (fun args p r hs hp=>by
 unfold Wn at hs;split at hs
 ·cases hs;exact⟨_,_,tW _ _ _ _ hp,(.same _ (.same _ (.same _ (.same _ .nil)))),⟨show Aa Tryz.prog _ from(Aa.cons tH tI (Aa.cons Pl Pm (Aa.cons tL tM Aa.nil))),rfl,⟨show Af Tryz.prog _ from Af.nil,(AA.none (fun _=>rfl))⟩⟩⟩
 ·cases hs)
theorem tY:As Tryz.prog 97:=fun args w=>by kernel_rfl
def Wp (l:(L.Sq L.Pt)):Prop:=HY l
def Wq (l:(L.Sq L.Pt)):SV:=.bool (DW l)
def Wr:List EV->Option (Prop×SV)
 |[.p (.sl 2 l_n l_g)]=>some ((∀i,i<l_n->l_g i = [.int .i64 ((Ar (l_g i)).x),.int .i64 ((Ar (l_g i)).y)])/\Wp (⟨l_n,fun i=>Ar (l_g i)⟩:(L.Sq L.Pt)),Wq (⟨l_n,fun i=>Ar (l_g i)⟩:(L.Sq L.Pt)))
 |_=>none
abbrev Ws:SE.Spec:=(AI Wr)
def tZ:Al:={ cC with specs:=AC [(60,MO),(97,Wo)] }
theorem uA (l:(L.Sq L.Pt)) (hp:Wp l):vc Tryz.prog ({ tZ with loops:=AT [(3,{ T:=Nat,keep:=[0,3],keepO:=[],chg:=fun i=>[(4,.p (.int .i64 (i:Int)))],own:=fun _=>[],inv:=fun i=>i<=l.n/\∀j,j<i->∀k,j<k->k<l.n->Cc l j k=true,mu:=fun i=>l.n-i }),(6,{ T:=Nat×Nat,keep:=[0,3,4],keepO:=[],tie:=fun i=>[(4,.int .i64 (i.1:Int))],chg:=fun i=>[(5,.p (.int .i64 (i.2:Int)))],own:=fun _=>[],inv:=fun i=>i.1<i.2/\i.2<=l.n/\(∀j,j<i.1->∀k,j<k->k<l.n->Cc l j k=true)/\∀k,i.1<k->k<i.2->Cc l i.1 k=true,mu:=fun i=>l.n-i.2 })],rfs:=AP [] }) (Ai Tryz.f57) (Au Tryz.f57 [.p (.sl 2 l.n (fun i=>[.int .i64 ((l.g i).x),.int .i64 ((l.g i).y)]))]) (AH Tryz.prog Tryz.f57 (Wq l)):=
 @Eq.mpr _ (let I:=SV.int .i64;let A19:=(1:Nat);let A15:=(0:Int);let A12:=(1000000:Int);let A11:=(1000000:Nat);let A10:=(-1000000:Int);let A7:=(l.n=l.n/\∀(i:Nat),let A17:=[I (l.g i).x,I (l.g i).y];i<l.n->A17=A17);let A6:=(↑l.n:Int);let A5:=(1:Int);let A2:=(∀(i:Nat),let A18:=[I (l.g i).x,I (l.g i).y];i<l.n->A18=A18);(∃(g
:Nat),A15=(↑g:Int)/\g<=l.n/\∀(j:Nat),j<g->∀(k:Nat),j<k->k<l.n->Cc l j k=true)/\∀(g:Nat),let A4:=(↑g:Int);let A16:=(A4+A5);let A13:=(l.g (DX l.n A4));let A8:=(l.g (DX l.n A16));(g<=l.n/\∀(j:Nat),j<g->∀(k:Nat),j<k->k<l.n->Cc l j k=true)->(decide (A4<A6)=true->Ad .i64
 A16/\(∃(g_1:Nat×Nat),A4+A5=(↑g_1.2:Int)/\A4=(↑g_1.1:Int)/\g_1.1<g_1.2/\g_1.2<=l.n/\(∀(j:Nat),j<g_1.1->∀(k:Nat),j<k->k<l.n->Cc l j k=true)/\∀(k:Nat),g_1.1<k->k<g_1.2->Cc l g_1.1 k=true)/\∀(g_1:Nat×Nat),let A3:=(↑g_1.2:Int);let A14:=(l.g (DX l.n A3));let A9:=(l.g (DX l.n (A3+A5)));let A1:=(bif bif
 bif decide (A3=A4+A5)then true else bif decide (A4=A15)then decide (A3=A6-A5)else false then !decide (CN A13 A8 A14 A9=A5)else false then true else bif !bif decide (A3=A4+A5)then true else bif decide (A4=A15)then decide (A3=A6-A5)else false then !decide
 (CN A13 A8 A14 A9=A15)else false);(A4=(↑g_1.1:Int)/\g_1.1<g_1.2/\g_1.2<=l.n/\(∀(j:Nat),j<g_1.1->∀(k:Nat),j<k->k<l.n->Cc l j k=true)/\∀(k:Nat),g_1.1<k->k<g_1.2->Cc l g_1.1 k=true)->(decide (A3<A6)=true->(A2/\A19<=l.n/\l.n<=A11/\A10<=A4/\A4<=A12)/\Ad .i64 A16/\(A2/\A19<=l.n
 /\ l.n<=A11/\A10<=A4+A5/\A4+A5<=A12)/\(A2/\A19<=l.n/\l.n<=A11/\A10<=A3/\A3<=A12)/\Ad .i64 (A3+A5)/\(A2/\A19<=l.n/\l.n<=A11/\A10<=A3+A5/\A3+A5<=A12)/\(AF A13/\AF A8/\AF A14/\AF A9)/\Ad .i64 A16/\((!decide (A3=A4+A5)&&decide (A4=A15))=true->Ad .i64 (A6-A5))/\(A1 =
 true->false=DW l)/\(A1=false->Ad .i64 (A3+A5)/\∃(g':Nat×Nat),A3+A5=(↑g'.2:Int)/\A4=A4/\A6=A6/\A7/\(A4=(↑g'.1:Int)/\g'.1<g'.2/\g'.2<=l.n/\(∀(j:Nat),j<g'.1->∀(k:Nat),j<k->k<l.n->Cc l j k=true)/\∀(k:Nat),g'.1<k->k<g'.2->Cc l g'.1 k=true)/\l.n-g'.2<l.n-g_1.2)) /\
 (decide (A3<A6)=false->Ad .i64 A16/\∃(g':Nat),A4+A5=(↑g':Int)/\A6=A6/\A7/\(g'<=l.n/\∀(j:Nat),j<g'->∀(k:Nat),j<k->k<l.n->Cc l j k=true)/\l.n-g'<l.n-g))/\(decide (A4<A6)=false->true=DW l)) (by kernel_rfl) (by
  conv=>zeta
  obtain⟨hn,hb⟩:=hp;have fin0:∀{i k:Nat},i<k->k<l.n->Cc l i k=false->false=DW l:=fun {i k} hik hk h=>by
   unfold DW;rw[GX (i:=i) (by omega) (GX (i:=k) hk (by simp[hik,h]))]
  refine⟨⟨(0:Nat),rfl,AdL _,fun j hj=>absurd hj (nT _)⟩,fun g hg=>⟨fun hlt=>?_,fun hge=>?_⟩⟩
  ·have hb1:(g:Int)<(l.n:Int):=of_decide_eq_true hlt;refine⟨jK,⟨(g,g+1),by show(g:Int)+1=((g+1:Nat):Int);omega,rfl,Nat.lt_succ_self g,by show g+1<=l.n;omega,hg.2,fun k h1 h2=>?_⟩,?_⟩
   ·have h1:g<k:=h1;have h2:k<g+1:=h2;omega
   rintro⟨i,k⟩ ⟨e1,hik,hkn,h0,h1⟩;have e1:(g:Int)=(i:Int):=e1;obtain rfl:g=i:=by omega
   have hik:g<k:=hik;have hkn:k<=l.n:=hkn;have h0:∀j,j<g->∀k,j<k->k<l.n->Cc l j k=true:=h0;have h1:∀m,g<m->m<k->Cc l g m=true:=h1;dsimp only;refine⟨fun hlt2=>?_,fun hge2=>?_⟩
   ·have hk:(k:Int)<(l.n:Int):=of_decide_eq_true hlt2;have c5:Cf l.n k<l.n:=IF (by omega);have c2:DX l.n ((g:Int)+1)=g+1:=by
     rw[show(g:Int)+1=((g+1:Nat):Int)by omega,MM (by omega)]
    rw[MM (n:=l.n) (k:=g) (by omega),c2,MM (n:=l.n) (k:=k) (by omega),Pk (n:=l.n) (k:=k) (by omega)];have key:(bif (bif (bif decide ((k:Int)=(g:Int)+1)then true else bif decide ((g:Int)=0)then decide ((k:Int)=(l.n:Int)-1)else false)then !decide (CN (l.g g) (l.g (g+1)) (l.g k) (l.g (Cf l.n k))=1)else false)then true else bif !(bif decide ((k:Int)=(g:Int)+1)then true else bif decide ((g:Int)=0)then decide ((k:Int)=(l.n:Int)-1)else false)then !decide (CN (l.g g) (l.g (g+1)) (l.g k) (l.g (Cf l.n k))=0)else false)= !Cc l g k:=by
     unfold Cc Pa MH;generalize (bif decide ((k:Int)=(g:Int)+1)then true else bif decide ((g:Int)=0)then decide ((k:Int)=(l.n:Int)-1)else false)=q;generalize decide (CN (l.g g) (l.g (g+1)) (l.g k) (l.g (Cf l.n k))=1)=q1;generalize decide (CN (l.g g) (l.g (g+1)) (l.g k) (l.g (Cf l.n k))=0)=q2;cases q<;>cases q1<;>cases q2<;>rfl
    rw[key];refine⟨⟨fun _ _=>rfl,by omega,by omega,by omega,by omega⟩,jK,⟨fun _ _=>rfl,by omega,by omega,by omega,by omega⟩,⟨fun _ _=>rfl,by omega,by omega,by omega,by omega⟩,jK,⟨fun _ _=>rfl,by omega,by omega,by omega,by omega⟩,⟨hb g (by omega),hb (g+1) (by omega),hb k (by omega),hb _ c5⟩,jK,fun _=>jK,fun h=>fin0 hik (by omega) (Cx h),fun h=>?_⟩;have hok:Cc l g k=true:=BW h;refine⟨jK,(g,k+1),by show(k:Int)+1=((k+1:Nat):Int);omega,rfl,rfl,⟨rfl,fun _ _=>rfl⟩,⟨rfl,by show g<k+1;omega,by show k+1<=l.n;omega,h0,fun m hm1 hm2=>?_⟩,by show l.n-(k+1)<l.n-k;omega⟩;have hm1:g<m:=hm1;have hm2:m<k+1:=hm2;show Cc l g m=true;rcases AdZ.1 hm2 with h'|rfl
    ·exact h1 m hm1 h'
    ·exact hok
   ·have hk:¬ (k:Int)<(l.n:Int):=of_decide_eq_false hge2;refine⟨jK,g+1,by omega,rfl,⟨rfl,fun _ _=>rfl⟩,⟨by omega,fun j hj m hm1 hm2=>?_⟩,by omega⟩;rcases AdZ.1 hj with h'|rfl
    ·exact h0 j h' m hm1 hm2
    ·exact h1 m hm1 (by omega)
  ·have hb1:¬ (g:Int)<(l.n:Int):=of_decide_eq_false hge;unfold DW;rw[Dk.2 (fun i hi=>Dk.2 (fun k hk=>?_))]
   by_cases hik:i<k
   ·simp[hik,hg.2 i (by omega) k hik hk]
   ·simp[hik])
theorem uB:Ax Tryz.prog 57 Ws:=AK Tryz.func57 (c:=Ai Tryz.f57) (by kernel_rfl) mixed (fun args p r hs hp=>by
 unfold Wr at hs;split at hs
 ·cases hs;exact⟨_,_,uA _ hp.2,(.p (.sl hp.1) .nil),⟨show Aa Tryz.prog _ from(Aa.cons Pn Po (Aa.cons tX tY Aa.nil)),rfl,⟨show Af Tryz.prog _ from Af.nil,(AA.none (fun _=>rfl))⟩⟩⟩
 ·cases hs)
theorem uC:As Tryz.prog 57:=fun args w=>by kernel_rfl
def Wt (l:(L.Sq L.Pt)):Prop:=True
def Wu (l:(L.Sq L.Pt)):SV:=.bool (AB l)
def Wv:List EV->Option (Prop×SV)
 |[.p (.sl 2 l_n l_g)]=>some ((∀i,i<l_n->l_g i = [.int .i64 ((Ar (l_g i)).x),.int .i64 ((Ar (l_g i)).y)])/\Wt (⟨l_n,fun i=>Ar (l_g i)⟩:(L.Sq L.Pt)),Wu (⟨l_n,fun i=>Ar (l_g i)⟩:(L.Sq L.Pt)))
 |_=>none
abbrev MP:SE.Spec:=(AI Wv)
def uD:Al:={ cC with specs:=AC [(56,VK),(57,Ws),(58,Pp),(59,VR),(60,MO),(29,MN)] }
theorem uE (l:(L.Sq L.Pt)) (hp:Wt l):vc Tryz.prog ({ uD with loops:=AT [(4,{ T:=Nat,keep:=[0],keepO:=[],chg:=fun i=>[(3,.p (.int .i64 (i:Int)))],own:=fun _=>[],inv:=fun i=>i<=l.n/\∀j,j<i->Ej l j=true,mu:=fun i=>l.n-i })],rfs:=AP [] }) (Ai Tryz.f24) (Au Tryz.f24 [.p (.sl 2 l.n (fun i=>[.int .i64 ((l.g i).x),.int .i64 ((l.g i).y)]))]) (AH Tryz.prog Tryz.f24 (Wu l)):=
 @Eq.mpr _ (let I:=SV.int .i64;let T:=Aee;let A17:=(3:Int);let A16:=(24:Int);let A11:=(1000000:Nat);let A9:=(1:Int);let A8:=(0:Int);let A7:=(↑l.n:Int);let A5:=(L.Sq.mk l.n fun(i:Nat)=>l.g i);let A4:=(∀(i:Nat),let A12:=[I (l.g i).x,I (l.g i).y];i<l.n->A12=A12);let A2:=(bif bif bif bif decide (A7<A17)then true else decide (A16<A7)then true else !E4 A5 then true else !DW A5 then true else decide (B4 A5 l.n<=A8));((!bif decide (A7<A17)then true else decide (A16<A7))=true->A4/\l.n<=A11)/\((!bif bif decide (A7<A17)then true else decide (A16<A7)then true else !E4 A5)=true->A4/\HY A5)/\((!bif bif bif decide (A7<A17)then true else decide (A16<A7)then true else !E4 A5 then true else !DW A5)=true->A4/\E3 A5)/\(A2=true->false=AB l)/\(A2=false->(∃(g:Nat),A8=(↑g:Int)/\g<=l.n/\∀(j:Nat),j<g->Ej l j=true)/\∀(g:Nat),let A6:=(↑g:Int);let A14:=(l.g (DX l.n (A6+A9)));let A13:=(l.g (DX l.n (A6-A9)));let A10:=(l.g (T A6));let A3:=(bif bif decide (A8<A6)then !decide (Cw (l.g (T A8)) A10<A8)else false then true else decide (B9 A13 A10 A14=A8));let A1:=(!bif decide (A8<A6)then !decide (Cw (l.g (T A8)) A10<A8)else false);(g<=l.n/\∀(j:Nat),j<g->Ej l j=true)->(decide (A6<A7)=true->(decide (A8<A6)=true->A8<=A8/\A8<A7)/\(decide (A8<A6)=true->A8<=A6/\A6<A7)/\(decide (A8<A6)=true->True)/\(A1=true->Ad .i64 (A6-A9))/\(A1=true->A4/\(1:Nat)<=l.n/\l.n<=A11/\(-1000000:Int)<=A6-A9/\A6-A9<=(1000000:Int))/\(A1=true->A8<=A6/\A6<A7)/\(A1=true->Ad .i64 (A6+A9))/\(A1=true->A4/\(1:Nat)<=l.n/\l.n<=A11/\(-1000000:Int)<=A6+A9/\A6+A9<=(1000000:Int))/\(A1=true->AF A13/\AF A10/\AF A14)/\(A3=true->false=AB l)/\(A3=false->Ad .i64 (A6+A9)/\∃(g':Nat),A6+A9=(↑g':Int)/\(l.n=l.n/\∀(i:Nat),let A15:=[I (l.g i).x,I (l.g i).y];i<l.n->A15=A15)/\(g'<=l.n/\∀(j:Nat),j<g'->Ej l j=true)/\l.n-g'<l.n-g))/\(decide (A6<A7)=false->true=AB l))) (by kernel_rfl) (by
 conv=>zeta
 have c1:(bif decide ((l.n:Int)<3)then true else decide (24<(l.n:Int)))= !Ay (l.n:Int) 3 24:=by
  rw[G6,Bool.eq_iff_iff,Aen,decide_eq_true_eq,decide_eq_true_eq,Aer,Bool.eq_false_iff,Ne,IH];omega
 rw[c1];have sp:Ay (l.n:Int) 3 24=true->E4 l=true->3<=l.n/\l.n<=24/\E3 l/\HY l:=Pc;refine⟨fun h=>⟨fun _ _=>rfl,?_⟩,fun h=>⟨fun _ _=>rfl,?_⟩,fun h=>⟨fun _ _=>rfl,?_⟩,fun h=>?_,fun h=>?_⟩
 ·have:=IH.1 (BW (Cx h));omega
 ·have h:=Cx h;rw[G6,AeI]at h;exact(sp (BW h.1) (BW h.2)).2.2.2
 ·have h:=Cx h;rw[G6,G6,AeI,AeI]at h;exact(sp (BW h.1.1) (BW h.1.2)).2.2.1
 ·have h:(bif bif bif !Ay (l.n:Int) 3 24 then true else !E4 l then true else !DW l then true else decide (B4 l l.n<=0))=true:=h;have e3:Gg l=false\/DW l=false:=by
   rw[G6,G6,G6,Aen,Aen,Aen]at h;unfold Gg;rcases h with ((h|h)|h)|h
   ·rw[Cx h];exact .inl rfl
   ·rw[Cx h];left;cases Ay (l.n:Int) 3 24<;>rfl
   ·exact .inr (Cx h)
   ·left;have:=of_decide_eq_true h;rw[decide_eq_false (show ¬ 0<B4 l l.n by omega)];cases Ay (l.n:Int) 3 24<;>cases E4 l<;>rfl
  unfold AB;rcases e3 with e3|e3<;>rw[e3]<;>simp
 have h:(bif bif bif !Ay (l.n:Int) 3 24 then true else !E4 l then true else !DW l then true else decide (B4 l l.n<=0))=false:=h;rw[G6,G6,G6,AeI,AeI,AeI]at h;obtain⟨⟨⟨h1,h2⟩,h3⟩,h4⟩:=h;have h1:=BW h1;have h2:=BW h2;have h3:=BW h3;have h4:=of_decide_eq_false h4;obtain⟨n3,n24,hsm,hbd⟩:=sp h1 h2;have hv:Gg l=true:=by
  unfold Gg;rw[h1,h2,decide_eq_true (show 0<B4 l l.n by omega)];rfl
 refine⟨⟨(0:Nat),rfl,AdL _,fun j hj=>absurd hj (nT _)⟩,fun g hg=>⟨fun hlt=>?_,fun hge=>?_⟩⟩
 ·have hb:(g:Int)<(l.n:Int):=of_decide_eq_true hlt;have hk:g<l.n:=by omega
  have e0:((g:Int)).toNat=g:=by omega
  have key:=tU (l:=l) (k:=g);rw[e0,sM hk,Pk hk];refine⟨fun _=>by omega,fun _=>by omega,fun _=>trivial,fun _=>jK,fun _=>⟨fun _ _=>rfl,by omega,by omega,by omega,by omega⟩,fun _=>by omega,fun _=>jK,fun _=>⟨fun _ _=>rfl,by omega,by omega,by omega,by omega⟩,fun _=>⟨hbd.2 _ (Pb (by omega)),hbd.2 _ hk,hbd.2 _ (IF (by omega))⟩,fun h=>?_,fun h=>?_⟩
  ·have h:Ej l g=false:=Cx (key.symm.trans h);unfold AB;rw[GX hk h];simp
  ·have h:Ej l g=true:=BW (key.symm.trans h);exact⟨jK,g+1,by omega,⟨rfl,fun _ _=>rfl⟩,⟨by omega,fun j hj=>by
    rcases AdZ.1 hj with h'|rfl
    ·exact hg.2 j h'
    ·exact h⟩,by omega⟩
 ·have hb:¬ (g:Int)<(l.n:Int):=of_decide_eq_false hge;unfold AB;rw[hv,Dk.2 (fun i hi=>hg.2 i (by omega)),h3];rfl)
theorem Pq:Ax Tryz.prog 24 MP:=AK Tryz.func24 (c:=Ai Tryz.f24) (by kernel_rfl) mixed (fun args p r hs hp=>by
 unfold Wv at hs;split at hs
 ·cases hs;exact⟨_,_,uE _ hp.2,(.p (.sl hp.1) .nil),⟨show Aa Tryz.prog _ from(Aa.cons sW sX (Aa.cons uB uC (Aa.cons Wg Wh (Aa.cons tD tE (Aa.cons Pn Po (Aa.cons Pl Pm Aa.nil)))))),rfl,⟨show Af Tryz.prog _ from Af.nil,(AA.none (fun _=>rfl))⟩⟩⟩
 ·cases hs)
theorem Pr:As Tryz.prog 24:=fun args w=>by kernel_rfl
def EK (l:L.Sq L.Pt):Int:=bif AB l then 0 else 1
def C7 (l:L.Sq L.Pt):Nat->L.Pt
 |0=>l.g 0
 |k+1=>⟨min (C7 l k).x (l.g k).x,min (C7 l k).y (l.g k).y⟩
def C8 (l:L.Sq L.Pt):Nat->L.Pt
 |0=>l.g 0
 |k+1=>⟨max (C8 l k).x (l.g k).x,max (C8 l k).y (l.g k).y⟩
def BO (l:L.Sq L.Pt):L.Pt:=bif AB l then C7 l l.n else⟨0,0⟩
def BP (l:L.Sq L.Pt):L.Pt:=bif AB l then C8 l l.n else⟨0,0⟩
structure Ab where
 id:Int
 colour:Int
 grain:Int
 ol:L.Sq L.Pt
structure Ah where
 id:Int
 colour:Int
 w:Int
 h:Int
 grain:Int
structure Ac where
 w:Int
 h:Int
def Bx:List SV->Ab
 |[.int _ a,.int _ b,.int _ c,.sl _ n g]=>⟨a,b,c,⟨n,fun i=>Ar (g i)⟩⟩
 |_=>⟨0,0,0,⟨0,fun _=>⟨0,0⟩⟩⟩
def Dn:List SV->Prop
 |[.int .i64 _,.int .i64 _,.int .i64 _,.sl 2 n g]=>∀i,i<n->g i = [.int .i64 (Ar (g i)).x,.int .i64 (Ar (g i)).y]
 |_=>False
def AQ:List SV->Ah
 |[.int _ a,.int _ b,.int _ c,.int _ d,.int _ e]=>⟨a,b,c,d,e⟩
 |_=>⟨0,0,0,0,0⟩
def D0:List SV->Ac
 |[.int _ a,.int _ b]=>⟨a,b⟩
 |_=>⟨0,0⟩
theorem Ps {l:List SV} (h:Dn l):l.length=4/\∀j,j<4->AX (SV.at l j) (SV.at [.int .i64 (Bx l).id,.int .i64 (Bx l).colour,.int .i64 (Bx l).grain,.sl 2 (Bx l).ol.n (fun i=>[.int .i64 ((Bx l).ol.g i).x,.int .i64 ((Bx l).ol.g i).y])] j):=by
 unfold Dn at h;split at h
 ·rename_i a b c n g;refine⟨rfl,fun j hj=>?_⟩
  match j,hj with
  |0,_=>exact .refl _
  |1,_=>exact .refl _
  |2,_=>exact .refl _
  |3,_=>exact .sl h
 ·exact h.elim
theorem DY {n:Nat} {g:Nat->List SV} (h:∀i,i<n->Dn (g i)):AX (.sl 4 n g) (.sl 4 n (fun i=>[.int .i64 (Bx (g i)).id,.int .i64 (Bx (g i)).colour,.int .i64 (Bx (g i)).grain,.sl 2 (Bx (g i)).ol.n (fun i1=>[.int .i64 ((Bx (g i)).ol.g i1).x,.int .i64 ((Bx (g i)).ol.g i1).y])])):=
 .sl2 (fun i hi=>by rw[(Ps (h i hi)).1];rfl) (fun i hi j hj=>(Ps (h i hi)).2 j (by rw[(Ps (h i hi)).1]at hj;exact hj))
def Bo (s:Ah):Bool:=bif (bif (bif (bif Ay s.id 1 65535 then Ay s.colour 1 16 else false)then Ay s.w 1 4096 else false)then Ay s.h 1 4096 else false)then Ay s.grain 0 2 else false
def D7 (w:Ab):Bool:=bif (bif (bif Ay w.id 1 65535 then Ay w.colour 1 16 else false)then Ay w.grain 0 2 else false)then AB w.ol else false
def Do (own grain turn:Int):Bool:=bif (bif decide (own=0)then true else decide (grain=0))then true else(decide (turn=0) == decide (own=grain))
def Ch (l:L.Sq L.Pt) (turn:Int):Ac:=bif decide (turn=1)then⟨(BP l).y-(BO l).y,(BP l).x-(BO l).x⟩else⟨(BP l).x-(BO l).x,(BP l).y-(BO l).y⟩
theorem Hx {p:L.Pt}:Cs p=true↔0<=p.x/\p.x<=4096/\0<=p.y/\p.y<=4096:=by
 unfold Cs Ay;rw[oE,oE,oE,decide_eq_true_eq,decide_eq_true_eq,decide_eq_true_eq,decide_eq_true_eq];omega
theorem Pu {l:L.Sq L.Pt} (hv:AB l=true):∀i,i<l.n->Cs (l.g i)=true:=(sP hv).1
theorem Ww {l:L.Sq L.Pt} (hn:0<l.n) (h:∀i,i<l.n->Cs (l.g i)=true):∀k,k<=l.n->Cs (C7 l k)=true
 |0,_=>h 0 hn
 |k+1,hk=>by
   have h1:=Hx.1 (Ww hn h k (by omega));have h2:=Hx.1 (h k (by omega));rw[Hx];simp only[C7];omega
theorem Wx {l:L.Sq L.Pt} (hn:0<l.n) (h:∀i,i<l.n->Cs (l.g i)=true):∀k,k<=l.n->Cs (C8 l k)=true
 |0,_=>h 0 hn
 |k+1,hk=>by
   have h1:=Hx.1 (Wx hn h k (by omega));have h2:=Hx.1 (h k (by omega));rw[Hx];simp only[C8];omega
theorem Pv {l:L.Sq L.Pt}:∀k i,i<k->(C7 l k).x<=(l.g i).x/\(C7 l k).y<=(l.g i).y
 |0,_,h=>absurd h (nT _)
 |k+1,i,h=>by
   rw[C7]
   by_cases e:i=k
   ·subst e;exact⟨by show min _ _<=_;omega,by show min _ _<=_;omega⟩
   ·have:=Pv (l:=l) k i (by omega);exact⟨by show min _ _<=_;omega,by show min _ _<=_;omega⟩
theorem Pw {l:L.Sq L.Pt}:∀k i,i<k->(l.g i).x<=(C8 l k).x/\(l.g i).y<=(C8 l k).y
 |0,_,h=>absurd h (nT _)
 |k+1,i,h=>by
   rw[C8]
   by_cases e:i=k
   ·subst e;exact⟨by show _<=max _ _;omega,by show _<=max _ _;omega⟩
   ·have:=Pw (l:=l) k i (by omega);exact⟨by show _<=max _ _;omega,by show _<=max _ _;omega⟩
theorem Px (l:L.Sq L.Pt):(0<=(BO l).x/\(BO l).x<=4096/\0<=(BO l).y/\(BO l).y<=4096)/\(0<=(BP l).x/\(BP l).x<=4096/\0<=(BP l).y/\(BP l).y<=4096):=by
 unfold BO BP;cases hv:AB l with
 |false =>
   rw[cond_false];have h0:(0:Int)<=0/\(0:Int)<=4096/\(0:Int)<=0/\(0:Int)<=4096:=by decide
   exact⟨h0,h0⟩
 |true =>
   rw[cond_true];obtain⟨n3,_,_,_⟩:=Fr hv;exact⟨Hx.1 (Ww (by omega) (Pu hv) _ (AdS _)),Hx.1 (Wx (by omega) (Pu hv) _ (AdS _))⟩
theorem Wy (l:L.Sq L.Pt):Ad .i64 ((BP l).x-(BO l).x)/\Ad .i64 ((BP l).y-(BO l).y):=by
 have:=Px l;exact⟨jK,jK⟩
def MQ (s:Ac):SV:=.agg [.int .i64 s.w,.int .i64 s.h]
theorem Wz {l:L.Sq L.Pt} {t:Int} (h:decide (t=1)=true):MQ ⟨(BP l).y-(BO l).y,(BP l).x-(BO l).x⟩=MQ (Ch l t):=by
 unfold Ch;rw[h];rfl
theorem W0 {l:L.Sq L.Pt} {t:Int} (h:decide (t=1)=false):MQ ⟨(BP l).x-(BO l).x,(BP l).y-(BO l).y⟩=MQ (Ch l t):=by
 unfold Ch;rw[h];rfl
def W2 (l:(L.Sq L.Pt)):Prop:=l.n<=1000000
def W3 (l:(L.Sq L.Pt)):SV:=.tup [(.agg [.int .i64 ((BO l).x),.int .i64 ((BO l).y)]),(.agg [.int .i64 ((BP l).x),.int .i64 ((BP l).y)]),.int .i64 (EK l)]
def W4:List EV->Option (Prop×SV)
 |[.p (.sl 2 l_n l_g)]=>some ((∀i,i<l_n->l_g i = [.int .i64 ((Ar (l_g i)).x),.int .i64 ((Ar (l_g i)).y)])/\W2 (⟨l_n,fun i=>Ar (l_g i)⟩:(L.Sq L.Pt)),W3 (⟨l_n,fun i=>Ar (l_g i)⟩:(L.Sq L.Pt)))
 |_=>none
abbrev W5:SE.Spec:=(AI W4)
def uF:Al:={ cC with muts:=[2,3,6],specs:=AC [(64,JF)],anys:=[2,10] }
theorem uG (l:(L.Sq L.Pt)) (hp:W2 l):vc Tryz.prog ({ uF with loops:=AT [(5,{ T:=Nat,keep:=[0,2,3,18,19],keepO:=[],chg:=fun i=>[(20,.p (.int .i64 (i:Int)))],own:=fun i=>[(2,.blk 66 [.p (.int .i64 (C7 l i).x),.p (.int .i64 (C7 l i).y)]),(3,.blk 66 [.p (.int .i64 (C8 l i).x),.p (.int .i64 (C8 l i).y)])],inv:=fun i=>i<=l.n,mu:=fun i=>l.n-i })],rfs:=AP [] }) (Ai Tryz.f118) (Au Tryz.f118 [.p (.sl 2 l.n (fun i=>[.int .i64 ((l.g i).x),.int .i64 ((l.g i).y)]))]) (AH Tryz.prog Tryz.f118 (W3 l)):=
 @Eq.mpr _ (let I:=SV.int .i64;let T:=Aee;let A15:=(1:Int);let A8:=(!AB (L.Sq.mk l.n fun(i:Nat)=>l.g i));let A7:=(↑l.n:Int);let A4:=[I (BP l).x,I (BP l).y];let A3:=[I (BO l).x,I (BO l).y];let A2:=(l.n=l.n/\∀(i:Nat),let A13:=[I (l.g i).x,I (l.g i).y];i<l.n->A13=A13);let A1:=(0:Int);let A11:=(l.g (T A1));let A10:=[I A1,I A1];((∀(i:Nat),let A14:=[I (l.g i).x,I (l.g i).y];i<l.n->A14=A14)/\l.n<=(1000000:Nat))/\(A8=true->(SV.agg A10=SV.agg A3/\SV.agg A10=SV.agg A4/\A15=EK l)/\SV.agg A10=SV.agg A3/\SV.agg A10=SV.agg A4/\A15=EK l)/\(A8=false->(A1<=A1/\A1<A7)/\(A1<=A1/\A1<A7)/\(∃(g:Nat),A1=(↑g:Int)/\A11.x=(C7 l g).x/\A11.y=(C7 l g).y/\A11.x=(C8 l g).x/\A11.y=(C8 l g).y/\g<=l.n)/\∀(g:Nat),let A9:=(C7 l g);let A6:=(C8 l g);let A5:=(↑g:Int);let A12:=(l.g (T A5));g<=l.n->(decide (A5<A7)=true->(A1<=A5/\A5<A7)/\Ad .i64 (A5+A15)/\∃(g':Nat),A5+A15=(↑g':Int)/\A7=A7/\A2/\nat_lit 0=nat_lit 0/\nat_lit 0=nat_lit 0/\A2/\Min.min A9.x A12.x=(C7 l g').x/\Min.min A9.y A12.y=(C7 l g').y/\Max.max A6.x A12.x=(C8 l g').x/\Max.max A6.y A12.y=(C8 l g').y/\g'<=l.n/\l.n-g'<l.n-g)/\(decide (A5<A7)=false->(SV.agg [I A9.x,I A9.y]=SV.agg A3/\SV.agg [I A6.x,I A6.y]=SV.agg A4/\A1=EK l)/\SV.agg [I A9.x,I A9.y]=SV.agg A3/\SV.agg [I A6.x,I A6.y]=SV.agg A4/\A1=EK l))) (by kernel_rfl) (by
 conv=>zeta
 have hn:l.n<=1000000:=hp;refine⟨⟨fun _ _=>rfl,hn⟩,fun h=>?_,fun h=>?_⟩
 ·have h:AB l=false:=Cx h;have eL:BO l=⟨0,0⟩:=by unfold BO;rw[h];rfl
  have eH:BP l=⟨0,0⟩:=by unfold BP;rw[h];rfl
  have e3:EK l=1:=by unfold EK;rw[h];rfl
  rw[eL,eH,e3]
  repeat' first
   |exact rfl
   |apply And.intro
 have hv:AB l=true:=BW h;obtain⟨n3,n24,hsm,hbd⟩:=Fr hv;have eL:BO l=C7 l l.n:=by unfold BO;rw[hv];rfl
 have eH:BP l=C8 l l.n:=by unfold BP;rw[hv];rfl
 have e3:EK l=0:=by unfold EK;rw[hv];rfl
 refine⟨⟨Ael _,by omega⟩,⟨Ael _,by omega⟩,⟨(0:Nat),rfl,rfl,rfl,rfl,rfl,AdL _⟩,fun g hg=>⟨fun hlt=>?_,fun hge=>?_⟩⟩
 ·have hlt:(g:Int)<(l.n:Int):=of_decide_eq_true hlt;exact⟨⟨by omega,hlt⟩,jK,g+1,by omega,rfl,⟨rfl,fun _ _=>rfl⟩,rfl,rfl,⟨rfl,fun _ _=>rfl⟩,rfl,rfl,rfl,rfl,by omega,by omega⟩
 ·have hge:¬ (g:Int)<(l.n:Int):=of_decide_eq_false hge;obtain rfl:g=l.n:=by omega
  rw[eL,eH,e3]
  repeat' first
   |exact rfl
   |apply And.intro)
theorem uH:Ax Tryz.prog 118 W5:=AK Tryz.func118 (c:=Ai Tryz.f118) (by kernel_rfl) mixed (fun args p r hs hp=>by
 unfold W4 at hs;split at hs
 ·cases hs;exact⟨_,_,uG _ hp.2,(.p (.sl hp.1) .nil),⟨show Aa Tryz.prog _ from(Aa.cons Ld Le Aa.nil),rfl,⟨show Af Tryz.prog _ from Af.nil,(AA.none (fun _=>rfl))⟩⟩⟩
 ·cases hs)
theorem uI:As Tryz.prog 118:=fun args w=>by kernel_rfl
def W6 (l:(L.Sq L.Pt)):Prop:=1<=l.n/\l.n<=1000000
def W7 (l:(L.Sq L.Pt)):SV:=.tup [(.agg [.int .i64 ((C7 l l.n).x),.int .i64 ((C7 l l.n).y)]),(.agg [.int .i64 ((C8 l l.n).x),.int .i64 ((C8 l l.n).y)])]
def W8:List EV->Option (Prop×SV)
 |[.p (.sl 2 l_n l_g)]=>some ((∀i,i<l_n->l_g i = [.int .i64 ((Ar (l_g i)).x),.int .i64 ((Ar (l_g i)).y)])/\W6 (⟨l_n,fun i=>Ar (l_g i)⟩:(L.Sq L.Pt)),W7 (⟨l_n,fun i=>Ar (l_g i)⟩:(L.Sq L.Pt)))
 |_=>none
abbrev W9:SE.Spec:=(AI W8)
def uJ:Al:={ cC with muts:=[2,3,4,5] }
theorem uK (l:(L.Sq L.Pt)) (hp:W6 l):vc Tryz.prog ({ uJ with loops:=AT [(4,{ T:=Nat,keep:=[0,2,3,4,5],keepO:=[2,3],chg:=fun i=>[(6,.p (.int .i64 (i:Int)))],own:=fun i=>[(4,.blk 66 [.p (.int .i64 (C7 l i).x),.p (.int .i64 (C7 l i).y)]),(5,.blk 66 [.p (.int .i64 (C8 l i).x),.p (.int .i64 (C8 l i).y)])],inv:=fun i=>i<=l.n,mu:=fun i=>l.n-i })],rfs:=AP [] }) (Ai Tryz.f150) (Au Tryz.f150 [.p (.sl 2 l.n (fun i=>[.int .i64 ((l.g i).x),.int .i64 ((l.g i).y)]))]) (AH Tryz.prog Tryz.f150 (W7 l)):=
 @Eq.mpr _ (let I:=SV.int .i64;let T:=Aee;let A4:=(↑l.n:Int);let A2:=(0:Int);let A7:=(l.g (T A2));(A2<=A2/\A2<A4)/\(A2<=A2/\A2<A4)/\(∃(g:Nat),A2=(↑g:Int)/\A7.x=(C7 l g).x/\A7.y=(C7 l g).y/\A7.x=(C8 l g).x/\A7.y=(C8 l g).y/\g<=l.n)/\∀(g:Nat),let A6:=(C7 l g);let A5:=(C8 l g);let A3:=(↑g:Int);let A8:=(l.g (T A3));let A1:=(A2<=A3/\A3<A4);g<=l.n->(decide (A3<A4)=true->A1/\A1/\A1/\A1/\Ad .i64 (A3+(1:Int))/\∃(g':Nat),A3+(1:Int)=(↑g':Int)/\nat_lit 0=nat_lit 0/\nat_lit 0=nat_lit 0/\nat_lit 0=nat_lit 0/\nat_lit 0=nat_lit 0/\(l.n=l.n/\∀(i:Nat),let A9:=[I (l.g i).x,I (l.g i).y];i<l.n->A9=A9)/\Min.min A6.x A8.x=(C7 l g').x/\Min.min A6.y A8.y=(C7 l g').y/\Max.max A5.x A8.x=(C8 l g').x/\Max.max A5.y A8.y=(C8 l g').y/\A2=A2/\A2=A2/\A2=A2/\A2=A2/\g'<=l.n/\l.n-g'<l.n-g)/\(decide (A3<A4)=false->SV.agg [I A6.x,I A6.y]=SV.agg [I (C7 l l.n).x,I (C7 l l.n).y]/\SV.agg [I A5.x,I A5.y]=SV.agg [I (C8 l l.n).x,I (C8 l l.n).y])) (by kernel_rfl) (by
 conv=>zeta
 obtain⟨h1,hn⟩:=hp;refine⟨⟨Ael _,by omega⟩,⟨Ael _,by omega⟩,⟨(0:Nat),rfl,rfl,rfl,rfl,rfl,AdL _⟩,fun g hg=>⟨fun hlt=>?_,fun hge=>?_⟩⟩
 ·have hlt:(g:Int)<(l.n:Int):=of_decide_eq_true hlt;exact⟨⟨by omega,hlt⟩,⟨by omega,hlt⟩,⟨by omega,hlt⟩,⟨by omega,hlt⟩,jK,g+1,by omega,rfl,rfl,rfl,rfl,⟨rfl,fun _ _=>rfl⟩,rfl,rfl,rfl,rfl,rfl,rfl,rfl,rfl,by omega,by omega⟩
 ·have hge:¬ (g:Int)<(l.n:Int):=of_decide_eq_false hge;obtain rfl:g=l.n:=by omega
  exact⟨rfl,rfl⟩)
theorem uL:Ax Tryz.prog 150 W9:=AK Tryz.func150 (c:=Ai Tryz.f150) (by kernel_rfl) mixed (fun args p r hs hp=>by
 unfold W8 at hs;split at hs
 ·cases hs;exact⟨_,_,uK _ hp.2,(.p (.sl hp.1) .nil),⟨show Aa Tryz.prog _ from Aa.nil,rfl,⟨show Af Tryz.prog _ from Af.nil,(AA.none (fun _=>rfl))⟩⟩⟩
 ·cases hs)
theorem uM:As Tryz.prog 150:=fun args w=>by kernel_rfl
def WA (l:(L.Sq L.Pt)):Prop:=l.n<=1000000
def WB (l:(L.Sq L.Pt)):SV:=.tup [(.agg [.int .i64 ((BO l).x),.int .i64 ((BO l).y)]),(.agg [.int .i64 ((BP l).x),.int .i64 ((BP l).y)]),.int .i64 (EK l)]
def WC:List EV->Option (Prop×SV)
 |[.p (.sl 2 l_n l_g)]=>some ((∀i,i<l_n->l_g i = [.int .i64 ((Ar (l_g i)).x),.int .i64 ((Ar (l_g i)).y)])/\WA (⟨l_n,fun i=>Ar (l_g i)⟩:(L.Sq L.Pt)),WB (⟨l_n,fun i=>Ar (l_g i)⟩:(L.Sq L.Pt)))
 |_=>none
abbrev WD:SE.Spec:=(AI WC)
def uN:Al:={ cC with muts:=[2,3],specs:=AC [(24,MP),(150,W9)] }
theorem uO (l:(L.Sq L.Pt)) (hp:WA l):vc Tryz.prog (uN) (Ai Tryz.f123) (Au Tryz.f123 [.p (.sl 2 l.n (fun i=>[.int .i64 ((l.g i).x),.int .i64 ((l.g i).y)]))]) (AH Tryz.prog Tryz.f123 (WB l)):=
 @Eq.mpr _ (let I:=SV.int .i64;let A5:=(0:Int);let A4:=[I (BP l).x,I (BP l).y];let A3:=[I (BO l).x,I (BO l).y];let A2:=(∀(i:Nat),let A6:=[I (l.g i).x,I (l.g i).y];i<l.n->A6=A6);let A1:=(L.Sq.mk l.n fun(i:Nat)=>l.g i);(A2/\True)/\((!AB A1)=true->SV.agg [I A5,I A5]=SV.agg A3/\SV.agg [I A5,I A5]=SV.agg A4/\(1:Int)=EK l)/\((!AB A1)=false->(A2/\(1:Nat)<=l.n/\l.n<=(1000000:Nat))/\SV.agg [I (C7 A1 l.n).x,I (C7 A1 l.n).y]=SV.agg A3/\SV.agg [I (C8 A1 l.n).x,I (C8 A1 l.n).y]=SV.agg A4/\A5=EK l)) (by kernel_rfl) (by
 conv=>zeta
 have hn:l.n<=1000000:=hp;refine⟨⟨fun _ _=>rfl,trivial⟩,fun h=>?_,fun h=>?_⟩
 ·have h:AB l=false:=Cx h;have eL:BO l=⟨0,0⟩:=by unfold BO;rw[h];rfl
  have eH:BP l=⟨0,0⟩:=by unfold BP;rw[h];rfl
  have e3:EK l=1:=by unfold EK;rw[h];rfl
  rw[eL,eH,e3]
  repeat' first
   |exact rfl
   |apply And.intro
 have hv:AB l=true:=BW h;obtain⟨n3,n24,hsm,hbd⟩:=Fr hv;have eL:BO l=C7 l l.n:=by unfold BO;rw[hv];rfl
 have eH:BP l=C8 l l.n:=by unfold BP;rw[hv];rfl
 have e3:EK l=0:=by unfold EK;rw[hv];rfl
 rw[eL,eH,e3];exact⟨⟨fun _ _=>rfl,by omega,hn⟩,rfl,rfl,rfl⟩)
theorem uP:Ax Tryz.prog 123 WD:=AK Tryz.func123 (c:=Ai Tryz.f123) (by kernel_rfl) mixed (fun args p r hs hp=>by
 unfold WC at hs;split at hs
 ·cases hs;exact⟨_,_,uO _ hp.2,(.p (.sl hp.1) .nil),⟨show Aa Tryz.prog _ from(Aa.cons Pq Pr (Aa.cons uL uM Aa.nil)),rfl,⟨show Af Tryz.prog _ from Af.nil,(AA.none (fun _=>rfl))⟩⟩⟩
 ·cases hs)
theorem uQ:As Tryz.prog 123:=fun args w=>by kernel_rfl
def WE (n:Int) (a:Int) (b:Int):Prop:=True
def WF (n:Int) (a:Int) (b:Int):SV:=.bool (Ay n a b)
def WG:List EV->Option (Prop×SV)
 |[.p (.int .i64 n),.p (.int .i64 a),.p (.int .i64 b)]=>some (WE n a b,WF n a b)
 |_=>none
abbrev JI:SE.Spec:=(AI WG)
def uR:Al:={ muts:=[],frz:=B8 [],specs:=AC [],loops:=AT [],iters:=B3 [],rfs:=AP [],nils:=B6 [] }
theorem uS (n:Int) (a:Int) (b:Int) (hp:WE n a b):vc Tryz.prog (uR) (Ai Tryz.f33) (Au Tryz.f33 [.p (.int .i64 n),.p (.int .i64 a),.p (.int .i64 b)]) (AH Tryz.prog Tryz.f33 (WF n a b)):=
 @Eq.mpr _ ((bif decide (a<=n)then decide (n<=b)else false)=Ay n a b) (by kernel_rfl) (by
 grind [Ay])
theorem Li:Ax Tryz.prog 33 JI:=AK Tryz.func33 (c:=Ai Tryz.f33) (by kernel_rfl) mixed (fun args p r hs hp=>by
 unfold WG at hs;split at hs
 ·cases hs;exact⟨_,_,uS _ _ _ hp,(.same _ (.same _ (.same _ .nil))),⟨show Aa Tryz.prog _ from Aa.nil,rfl,⟨show Af Tryz.prog _ from Af.nil,(AA.none (fun _=>rfl))⟩⟩⟩
 ·cases hs)
theorem Lj:As Tryz.prog 33:=fun args w=>by kernel_rfl
def WH (n:Int) (a:Int) (b:Int):Prop:=True
def WI (n:Int) (a:Int) (b:Int):SV:=.bool (Ay n a b)
def WJ:List EV->Option (Prop×SV)
 |[.p (.int .i64 n),.p (.int .i64 a),.p (.int .i64 b)]=>some (WH n a b,WI n a b)
 |_=>none
abbrev MR:SE.Spec:=(AI WJ)
def uT:Al:={ muts:=[],frz:=B8 [],specs:=AC [],loops:=AT [],iters:=B3 [],rfs:=AP [],nils:=B6 [] }
theorem uU (n:Int) (a:Int) (b:Int) (hp:WH n a b):vc Tryz.prog (uT) (Ai Tryz.f39) (Au Tryz.f39 [.p (.int .i64 n),.p (.int .i64 a),.p (.int .i64 b)]) (AH Tryz.prog Tryz.f39 (WI n a b)):=
 @Eq.mpr _ ((bif decide (a<=n)then decide (n<=b)else false)=Ay n a b) (by kernel_rfl) (by
 grind [Ay])
theorem Py:Ax Tryz.prog 39 MR:=AK Tryz.func39 (c:=Ai Tryz.f39) (by kernel_rfl) mixed (fun args p r hs hp=>by
 unfold WJ at hs;split at hs
 ·cases hs;exact⟨_,_,uU _ _ _ hp,(.same _ (.same _ (.same _ .nil))),⟨show Aa Tryz.prog _ from Aa.nil,rfl,⟨show Af Tryz.prog _ from Af.nil,(AA.none (fun _=>rfl))⟩⟩⟩
 ·cases hs)
theorem Pz:As Tryz.prog 39:=fun args w=>by kernel_rfl
def WK (l:(L.Sq L.Pt)) (t:Int):Prop:=l.n<=1000000
def WL (l:(L.Sq L.Pt)) (t:Int):SV:=(.agg [.int .i64 ((Ch l t).w),.int .i64 ((Ch l t).h)])
def WM:List EV->Option (Prop×SV)
 |[.p (.sl 2 l_n l_g),.p (.int .i64 t)]=>some ((∀i,i<l_n->l_g i = [.int .i64 ((Ar (l_g i)).x),.int .i64 ((Ar (l_g i)).y)])/\WK (⟨l_n,fun i=>Ar (l_g i)⟩:(L.Sq L.Pt)) t,WL (⟨l_n,fun i=>Ar (l_g i)⟩:(L.Sq L.Pt)) t)
 |_=>none
abbrev MS:SE.Spec:=(AI WM)
def uV:Al:={ cC with muts:=[4,5,6,8],specs:=AC [(118,W5)] }
theorem uW (l:(L.Sq L.Pt)) (t:Int) (hp:WK l t):vc Tryz.prog (uV) (Ai Tryz.f74) (Au Tryz.f74 [.p (.sl 2 l.n (fun i=>[.int .i64 ((l.g i).x),.int .i64 ((l.g i).y)])),.p (.int .i64 t)]) (AH Tryz.prog Tryz.f74 (WL l t)):=
 @Eq.mpr _ (let I:=SV.int .i64;let A4:=[I (Ch l t).w,I (Ch l t).h];let A1:=(L.Sq.mk l.n fun(i:Nat)=>l.g i);let A3:=((BP A1).y-(BO A1).y);let A2:=((BP A1).x-(BO A1).x);((∀(i:Nat),let A5:=[I (l.g i).x,I (l.g i).y];i<l.n->A5=A5)/\l.n<=(1000000:Nat))/\Ad .i64 A2/\Ad .i64 A3/\(decide (t=(1:Int))=true->SV.agg [I A3,I A2]=SV.agg A4)/\(decide (t=(1:Int))=false->SV.agg [I A2,I A3]=SV.agg A4)) (by kernel_rfl) (by
 conv=>zeta
 obtain⟨b1,b2⟩:=Wy l;exact⟨⟨fun _ _=>rfl,hp⟩,b1,b2,fun h=>Wz h,fun h=>W0 h⟩)
theorem P0:Ax Tryz.prog 74 MS:=AK Tryz.func74 (c:=Ai Tryz.f74) (by kernel_rfl) mixed (fun args p r hs hp=>by
 unfold WM at hs;split at hs
 ·cases hs;exact⟨_,_,uW _ _ hp.2,(.p (.sl hp.1) (.same _ .nil)),⟨show Aa Tryz.prog _ from(Aa.cons uH uI Aa.nil),rfl,⟨show Af Tryz.prog _ from Af.nil,(AA.none (fun _=>rfl))⟩⟩⟩
 ·cases hs)
theorem P1:As Tryz.prog 74:=fun args w=>by kernel_rfl
def WN (w:Ab) (t:Int):Prop:=w.ol.n<=1000000
def WO (w:Ab) (t:Int):SV:=(.agg [.int .i64 ((Ch w.ol t).w),.int .i64 ((Ch w.ol t).h)])
def WP:List EV->Option (Prop×SV)
 |[.p (.agg [.int .i64 w_id,.int .i64 w_colour,.int .i64 w_grain,.sl 2 w_ol_n w_ol_g]),.p (.int .i64 t)]=>some ((∀i,i<w_ol_n->w_ol_g i = [.int .i64 ((Ar (w_ol_g i)).x),.int .i64 ((Ar (w_ol_g i)).y)])/\WN (⟨w_id,w_colour,w_grain,(⟨w_ol_n,fun i=>Ar (w_ol_g i)⟩:(L.Sq L.Pt))⟩:Ab) t,WO (⟨w_id,w_colour,w_grain,(⟨w_ol_n,fun i=>Ar (w_ol_g i)⟩:(L.Sq L.Pt))⟩:Ab) t)
 |_=>none
abbrev WQ:SE.Spec:=(AI WP)
def uX:Al:={ cC with muts:=[4,5,6],specs:=AC [(123,WD)] }
theorem uY (w:Ab) (t:Int) (hp:WN w t):vc Tryz.prog (uX) (Ai Tryz.f81) (Au Tryz.f81 [.p (.agg [.int .i64 w.id,.int .i64 w.colour,.int .i64 w.grain,.sl 2 w.ol.n (fun i=>[.int .i64 ((w.ol.g i).x),.int .i64 ((w.ol.g i).y)])]),.p (.int .i64 t)]) (AH Tryz.prog Tryz.f81 (WO w t)):=
 @Eq.mpr _ (let I:=SV.int .i64;let A4:=[I (Ch w.ol t).w,I (Ch w.ol t).h];let A1:=(L.Sq.mk w.ol.n fun(i:Nat)=>w.ol.g i);let A3:=((BP A1).x-(BO A1).x);let A2:=((BP A1).y-(BO A1).y);((∀(i:Nat),let A5:=[I (w.ol.g i).x,I (w.ol.g i).y];i<w.ol.n->A5=A5)/\w.ol.n<=(1000000:Nat))/\(decide (t=(1:Int))=true->Ad .i64 A2/\Ad .i64 A3/\SV.agg [I A2,I A3]=SV.agg A4)/\(decide (t=(1:Int))=false->Ad .i64 A3/\Ad .i64 A2/\SV.agg [I A3,I A2]=SV.agg A4)) (by kernel_rfl) (by
 conv=>zeta
 obtain⟨b1,b2⟩:=Wy w.ol;exact⟨⟨fun _ _=>rfl,hp⟩,fun h=>⟨b2,b1,Wz (l:=w.ol) h⟩,fun h=>⟨b1,b2,W0 (l:=w.ol) h⟩⟩)
theorem uZ:Ax Tryz.prog 81 WQ:=AK Tryz.func81 (c:=Ai Tryz.f81) (by kernel_rfl) mixed (fun args p r hs hp=>by
 unfold WP at hs;split at hs
 ·cases hs; exact⟨_, _, uY _ _ hp.2, (.p (.agg rfl (fun i hi =>by
  rcases i with _|i
  ·exact(AX.refl _:AX _ _)
  rcases i with _|i
  ·exact(AX.refl _:AX _ _)
  rcases i with _|i
  ·exact(AX.refl _:AX _ _)
  rcases i with _|i
  ·exact(AX.sl hp.1:AX _ _)
  exact absurd hi (by simp;try omega))) (.same _ .nil)),⟨show Aa Tryz.prog _ from(Aa.cons uP uQ Aa.nil),rfl,⟨show Af Tryz.prog _ from Af.nil,(AA.none (fun _=>rfl))⟩⟩⟩
 ·cases hs)
theorem vA:As Tryz.prog 81:=fun args w=>by kernel_rfl
def WR (s:Ah):Prop:=True
def WS (s:Ah):SV:=.bool (Bo s)
def WT:List EV->Option (Prop×SV)
 |[.p (.agg [.int .i64 s_id,.int .i64 s_colour,.int .i64 s_w,.int .i64 s_h,.int .i64 s_grain])]=>some (WR (⟨s_id,s_colour,s_w,s_h,s_grain⟩:Ah),WS (⟨s_id,s_colour,s_w,s_h,s_grain⟩:Ah))
 |_=>none
abbrev WU:SE.Spec:=(AI WT)
def vB:Al:={ cC with specs:=AC [(33,JI)] }
theorem vC (s:Ah) (hp:WR s):vc Tryz.prog (vB) (Ai Tryz.f117) (Au Tryz.f117 [.p (.agg [.int .i64 s.id,.int .i64 s.colour,.int .i64 s.w,.int .i64 s.h,.int .i64 s.grain])]) (AH Tryz.prog Tryz.f117 (WS s)):=
 @Eq.mpr _ (let A4:=(16:Int);let A3:=(4096:Int);let A2:=(65535:Int);let A1:=(1:Int);True/\(Ay s.id A1 A2=true->True)/\((bif Ay s.id A1 A2 then Ay s.colour A1 A4 else false)=true->True)/\((bif bif Ay s.id A1 A2 then Ay s.colour A1 A4 else false then Ay s.w A1 A3 else false)=true->True)/\((bif bif bif Ay s.id A1 A2 then Ay s.colour A1 A4 else false then Ay s.w A1 A3 else false then Ay s.h A1 A3 else false)=true->True)/\(bif bif bif bif Ay s.id A1 A2 then Ay s.colour A1 A4 else false then Ay s.w A1 A3 else false then Ay s.h A1 A3 else false then Ay s.grain (0:Int) (2:Int)else false)=Bo s) (by kernel_rfl) (by
 conv=>zeta
 exact⟨trivial,fun _=>trivial,fun _=>trivial,fun _=>trivial,fun _=>trivial,rfl⟩)
theorem vD:Ax Tryz.prog 117 WU:=AK Tryz.func117 (c:=Ai Tryz.f117) (by kernel_rfl) mixed (fun args p r hs hp=>by
 unfold WT at hs;split at hs
 ·cases hs;exact⟨_,_,vC _ hp,(.same _ .nil),⟨show Aa Tryz.prog _ from(Aa.cons Li Lj Aa.nil),rfl,⟨show Af Tryz.prog _ from Af.nil,(AA.none (fun _=>rfl))⟩⟩⟩
 ·cases hs)
theorem vE:As Tryz.prog 117:=fun args w=>by kernel_rfl
def WV (w:Ab):Prop:=w.ol.n<=1000000
def WW (w:Ab):SV:=.bool (D7 w)
def WX:List EV->Option (Prop×SV)
 |[.p (.agg [.int .i64 w_id,.int .i64 w_colour,.int .i64 w_grain,.sl 2 w_ol_n w_ol_g])]=>some ((∀i,i<w_ol_n->w_ol_g i = [.int .i64 ((Ar (w_ol_g i)).x),.int .i64 ((Ar (w_ol_g i)).y)])/\WV (⟨w_id,w_colour,w_grain,(⟨w_ol_n,fun i=>Ar (w_ol_g i)⟩:(L.Sq L.Pt))⟩:Ab),WW (⟨w_id,w_colour,w_grain,(⟨w_ol_n,fun i=>Ar (w_ol_g i)⟩:(L.Sq L.Pt))⟩:Ab))
 |_=>none
abbrev WY:SE.Spec:=(AI WX)
def vF:Al:={ cC with specs:=AC [(33,JI),(64,JF)] }
theorem vG (w:Ab) (hp:WV w):vc Tryz.prog (vF) (Ai Tryz.f116) (Au Tryz.f116 [.p (.agg [.int .i64 w.id,.int .i64 w.colour,.int .i64 w.grain,.sl 2 w.ol.n (fun i=>[.int .i64 ((w.ol.g i).x),.int .i64 ((w.ol.g i).y)])])]) (AH Tryz.prog Tryz.f116 (WW w)):=
 @Eq.mpr _ (let A3:=(65535:Int);let A2:=(1:Int);True/\(Ay w.id A2 A3=true->True)/\((bif Ay w.id A2 A3 then Ay w.colour A2 (16:Int)else false)=true->True)/\((bif bif Ay w.id A2 A3 then Ay w.colour A2 (16:Int)else false then Ay w.grain (0:Int) (2:Int)else false)=true->(∀(i:Nat),let A1:=[SV.int .i64 (w.ol.g i).x,SV.int .i64 (w.ol.g i).y];i<w.ol.n->A1=A1)/\w.ol.n<=(1000000:Nat))/\(bif bif bif Ay w.id A2 A3 then Ay w.colour A2 (16:Int)else false then Ay w.grain (0:Int) (2:Int)else false then AB (L.Sq.mk w.ol.n fun(i:Nat)=>w.ol.g i)else false)=D7 w) (by kernel_rfl) (by
 conv=>zeta
 exact⟨trivial,fun _=>trivial,fun _=>trivial,fun _=>⟨fun _ _=>rfl,hp⟩,rfl⟩)
theorem vH:Ax Tryz.prog 116 WY:=AK Tryz.func116 (c:=Ai Tryz.f116) (by kernel_rfl) mixed (fun args p r hs hp=>by
 unfold WX at hs;split at hs
 ·cases hs; exact⟨_, _, vG _ hp.2, (.p (.agg rfl (fun i hi =>by
  rcases i with _|i
  ·exact(AX.refl _:AX _ _)
  rcases i with _|i
  ·exact(AX.refl _:AX _ _)
  rcases i with _|i
  ·exact(AX.refl _:AX _ _)
  rcases i with _|i
  ·exact(AX.sl hp.1:AX _ _)
  exact absurd hi (by simp;try omega))) .nil),⟨show Aa Tryz.prog _ from(Aa.cons Li Lj (Aa.cons Ld Le Aa.nil)),rfl,⟨show Af Tryz.prog _ from Af.nil,(AA.none (fun _=>rfl))⟩⟩⟩
 ·cases hs)
theorem vI:As Tryz.prog 116:=fun args w=>by kernel_rfl
def WZ (a:Int) (b:Int) (t:Int):Prop:=True
def Xa (a:Int) (b:Int) (t:Int):SV:=.bool (Do a b t)
def Xb:List EV->Option (Prop×SV)
 |[.p (.int .i64 a),.p (.int .i64 b),.p (.int .i64 t)]=>some (WZ a b t,Xa a b t)
 |_=>none
abbrev P2:SE.Spec:=(AI Xb)
def vJ:Al:={ muts:=[],frz:=B8 [],specs:=AC [],loops:=AT [],iters:=B3 [],rfs:=AP [],nils:=B6 [] }
theorem vK (a:Int) (b:Int) (t:Int) (hp:WZ a b t):vc Tryz.prog (vJ) (Ai Tryz.f73) (Au Tryz.f73 [.p (.int .i64 a),.p (.int .i64 b),.p (.int .i64 t)]) (AH Tryz.prog Tryz.f73 (Xa a b t)):=
 @Eq.mpr _ ((bif bif decide (a=(0:Int))then true else decide (b=(0:Int))then true else decide (t=(0:Int)) == decide (a=b))=Do a b t) (by kernel_rfl) (by
 rfl)
theorem Xc:Ax Tryz.prog 73 P2:=AK Tryz.func73 (c:=Ai Tryz.f73) (by kernel_rfl) mixed (fun args p r hs hp=>by
 unfold Xb at hs;split at hs
 ·cases hs;exact⟨_,_,vK _ _ _ hp,(.same _ (.same _ (.same _ .nil))),⟨show Aa Tryz.prog _ from Aa.nil,rfl,⟨show Af Tryz.prog _ from Af.nil,(AA.none (fun _=>rfl))⟩⟩⟩
 ·cases hs)
theorem Xd:As Tryz.prog 73:=fun args w=>by kernel_rfl
def Xe (s:Ah):Prop:=True
def Xf (s:Ah):SV:=.bool (Bo s)
def Xg:List EV->Option (Prop×SV)
 |[.p (.agg [.int .i64 s_id,.int .i64 s_colour,.int .i64 s_w,.int .i64 s_h,.int .i64 s_grain])]=>some (Xe (⟨s_id,s_colour,s_w,s_h,s_grain⟩:Ah),Xf (⟨s_id,s_colour,s_w,s_h,s_grain⟩:Ah))
 |_=>none
abbrev Xh:SE.Spec:=(AI Xg)
def vL:Al:={ cC with specs:=AC [(39,MR)] }
theorem vM (s:Ah) (hp:Xe s):vc Tryz.prog (vL) (Ai Tryz.f84) (Au Tryz.f84 [.p (.agg [.int .i64 s.id,.int .i64 s.colour,.int .i64 s.w,.int .i64 s.h,.int .i64 s.grain])]) (AH Tryz.prog Tryz.f84 (Xf s)):=
 @Eq.mpr _ (let A4:=(16:Int);let A3:=(4096:Int);let A2:=(65535:Int);let A1:=(1:Int);True/\(Ay s.id A1 A2=true->True)/\((bif Ay s.id A1 A2 then Ay s.colour A1 A4 else false)=true->True)/\((bif bif Ay s.id A1 A2 then Ay s.colour A1 A4 else false then Ay s.w A1 A3 else false)=true->True)/\((bif bif bif Ay s.id A1 A2 then Ay s.colour A1 A4 else false then Ay s.w A1 A3 else false then Ay s.h A1 A3 else false)=true->True)/\(bif bif bif bif Ay s.id A1 A2 then Ay s.colour A1 A4 else false then Ay s.w A1 A3 else false then Ay s.h A1 A3 else false then Ay s.grain (0:Int) (2:Int)else false)=Bo s) (by kernel_rfl) (by
 conv=>zeta
 exact⟨trivial,fun _=>trivial,fun _=>trivial,fun _=>trivial,fun _=>trivial,rfl⟩)
theorem vN:Ax Tryz.prog 84 Xh:=AK Tryz.func84 (c:=Ai Tryz.f84) (by kernel_rfl) mixed (fun args p r hs hp=>by
 unfold Xg at hs;split at hs
 ·cases hs;exact⟨_,_,vM _ hp,(.same _ .nil),⟨show Aa Tryz.prog _ from(Aa.cons Py Pz Aa.nil),rfl,⟨show Af Tryz.prog _ from Af.nil,(AA.none (fun _=>rfl))⟩⟩⟩
 ·cases hs)
theorem vO:As Tryz.prog 84:=fun args w=>by kernel_rfl
def Xi (w:Ab):Prop:=w.ol.n<=1000000
def Xj (w:Ab):SV:=.bool (D7 w)
def Xk:List EV->Option (Prop×SV)
 |[.p (.agg [.int .i64 w_id,.int .i64 w_colour,.int .i64 w_grain,.sl 2 w_ol_n w_ol_g])]=>some ((∀i,i<w_ol_n->w_ol_g i = [.int .i64 ((Ar (w_ol_g i)).x),.int .i64 ((Ar (w_ol_g i)).y)])/\Xi (⟨w_id,w_colour,w_grain,(⟨w_ol_n,fun i=>Ar (w_ol_g i)⟩:(L.Sq L.Pt))⟩:Ab),Xj (⟨w_id,w_colour,w_grain,(⟨w_ol_n,fun i=>Ar (w_ol_g i)⟩:(L.Sq L.Pt))⟩:Ab))
 |_=>none
abbrev Xl:SE.Spec:=(AI Xk)
def vP:Al:={ cC with specs:=AC [(39,MR),(24,MP)] }
theorem vQ (w:Ab) (hp:Xi w):vc Tryz.prog (vP) (Ai Tryz.f77) (Au Tryz.f77 [.p (.agg [.int .i64 w.id,.int .i64 w.colour,.int .i64 w.grain,.sl 2 w.ol.n (fun i=>[.int .i64 ((w.ol.g i).x),.int .i64 ((w.ol.g i).y)])])]) (AH Tryz.prog Tryz.f77 (Xj w)):=
 @Eq.mpr _ (let A3:=(65535:Int);let A2:=(1:Int);True/\(Ay w.id A2 A3=true->True)/\((bif Ay w.id A2 A3 then Ay w.colour A2 (16:Int)else false)=true->True)/\((bif bif Ay w.id A2 A3 then Ay w.colour A2 (16:Int)else false then Ay w.grain (0:Int) (2:Int)else false)=true->(∀(i:Nat),let A1:=[SV.int .i64 (w.ol.g i).x,SV.int .i64 (w.ol.g i).y];i<w.ol.n->A1=A1)/\True)/\(bif bif bif Ay w.id A2 A3 then Ay w.colour A2 (16:Int)else false then Ay w.grain (0:Int) (2:Int)else false then AB (L.Sq.mk w.ol.n fun(i:Nat)=>w.ol.g i)else false)=D7 w) (by kernel_rfl) (by
 conv=>zeta
 exact⟨trivial,fun _=>trivial,fun _=>trivial,fun _=>⟨fun _ _=>rfl,trivial⟩,rfl⟩)
theorem vR:Ax Tryz.prog 77 Xl:=AK Tryz.func77 (c:=Ai Tryz.f77) (by kernel_rfl) mixed (fun args p r hs hp=>by
 unfold Xk at hs;split at hs
 ·cases hs; exact⟨_, _, vQ _ hp.2, (.p (.agg rfl (fun i hi =>by
  rcases i with _|i
  ·exact(AX.refl _:AX _ _)
  rcases i with _|i
  ·exact(AX.refl _:AX _ _)
  rcases i with _|i
  ·exact(AX.refl _:AX _ _)
  rcases i with _|i
  ·exact(AX.sl hp.1:AX _ _)
  exact absurd hi (by simp;try omega))) .nil),⟨show Aa Tryz.prog _ from(Aa.cons Py Pz (Aa.cons Pq Pr Aa.nil)),rfl,⟨show Af Tryz.prog _ from Af.nil,(AA.none (fun _=>rfl))⟩⟩⟩
 ·cases hs)
theorem vS:As Tryz.prog 77:=fun args w=>by kernel_rfl
def Xm (a:Int) (b:Int) (t:Int):Prop:=True
def Xn (a:Int) (b:Int) (t:Int):SV:=.bool (Do a b t)
def Xo:List EV->Option (Prop×SV)
 |[.p (.int .i64 a),.p (.int .i64 b),.p (.int .i64 t)]=>some (Xm a b t,Xn a b t)
 |_=>none
abbrev Xp:SE.Spec:=(AI Xo)
def vT:Al:={ muts:=[],frz:=B8 [],specs:=AC [],loops:=AT [],iters:=B3 [],rfs:=AP [],nils:=B6 [] }
theorem vU (a:Int) (b:Int) (t:Int) (hp:Xm a b t):vc Tryz.prog (vT) (Ai Tryz.f79) (Au Tryz.f79 [.p (.int .i64 a),.p (.int .i64 b),.p (.int .i64 t)]) (AH Tryz.prog Tryz.f79 (Xn a b t)):=
 @Eq.mpr _ ((bif bif decide (a=(0:Int))then true else decide (b=(0:Int))then true else decide (a=b) == decide (t=(0:Int)))=Do a b t) (by kernel_rfl) (by
 unfold Do;cases decide (a=b)<;>cases decide (t=0)<;>rfl)
theorem vV:Ax Tryz.prog 79 Xp:=AK Tryz.func79 (c:=Ai Tryz.f79) (by kernel_rfl) mixed (fun args p r hs hp=>by
 unfold Xo at hs;split at hs
 ·cases hs;exact⟨_,_,vU _ _ _ hp,(.same _ (.same _ (.same _ .nil))),⟨show Aa Tryz.prog _ from Aa.nil,rfl,⟨show Af Tryz.prog _ from Af.nil,(AA.none (fun _=>rfl))⟩⟩⟩
 ·cases hs)
theorem vW:As Tryz.prog 79:=fun args w=>by kernel_rfl
def Aj (f:Int->L.Sq Ac) (k:Int):SV:=.sl 2 (f k).n (fun i=>[.int .i64 ((f k).g i).w,.int .i64 ((f k).g i).h])
def Xq (g:Int):Int:=BT g (0-g)
def Fb (g:Int):Int:=Di g (Xq g)
def D1 (g:Int):Nat->Int
 |0=>0
 |k+1=>BT (D1 g k-Fb g) (Fb g)
def AJ (g:Int):Nat:=((AdP 16).find? (fun k=>decide (D1 g k=Fb g))).getD 0
def Ao (g:Int) (k:Nat):Int:=FN (D1 g k) (Xq g)
def Xr (n:Nat):Bool:=decide (D1 n (AJ n)=Fb n)&&(AdP (AJ n)).all (fun k=>!decide (D1 n k=Fb n)&&decide (-16<=D1 n k-Fb n)&&decide (D1 n k-Fb n<=16))
theorem vX:((AdP 16).all Xr)=true:=by kernel_rfl
theorem vY {g:Int} (h:0<=g) (h':g<=15):D1 g (AJ g)=Fb g/\∀k,k<AJ g->D1 g k≠Fb g /\ -16<=D1 g k-Fb g/\D1 g k-Fb g<=16:=by
 obtain⟨n,rfl⟩:=Aev h;have hn:n<16:=by omega
 have h1:=AdO.1 vX n (AdQ.2 hn);unfold Xr at h1;rw[oE,decide_eq_true_eq]at h1;refine⟨h1.1,fun k hk=>?_⟩;have h2:=AdO.1 h1.2 k (AdQ.2 hk);rw[oE,oE,decide_eq_true_eq,decide_eq_true_eq,Aer,decide_eq_false_iff_not]at h2;exact⟨h2.1.1,h2.1.2,h2.2⟩
abbrev Hy:Mk:={ T:=(L.Sq Ab)×(Int)×(Int->L.Sq Ac),U:=Nat,args:=fun t=>(fun w gr f=>[.p ((.sl 4 w.n (fun i=>[.int .i64 ((w.g i).id),.int .i64 ((w.g i).colour),.int .i64 ((w.g i).grain),.sl 2 (w.g i).ol.n (fun i1=>[.int .i64 (((w.g i).ol.g i1).x),.int .i64 (((w.g i).ol.g i1).y)])]))),.p (.int .i64 gr)]) t.1 t.2.1 t.2.2,lkeys:=[],keys:=[9,7],lent:=fun t=>(fun w gr f=>[]) t.1 t.2.1 t.2.2,pre:=fun t=>(fun w gr f=>True) t.1 t.2.1 t.2.2,post:=fun t u=>(fun w gr f=>fun uu=>True) t.1 t.2.1 t.2.2 u,lent':=fun t u=>(fun w gr f=>fun uu=>[]) t.1 t.2.1 t.2.2 u,own:=fun t u=>(fun w gr f=>fun uu=>[(9,.blk 130 [.p ((.sl 4 w.n (fun i=>[.int .i64 ((w.g i).id),.int .i64 ((w.g i).colour),.int .i64 ((w.g i).grain),.sl 2 (w.g i).ol.n (fun i1=>[.int .i64 (((w.g i).ol.g i1).x),.int .i64 (((w.g i).ol.g i1).y)])]))),.p (.int .i64 gr),.mapv 7]),(7,.mq 3 27 (fun _=>false) (Aj f))]) t.1 t.2.1 t.2.2 u,res:=fun t u=>(fun w gr f=>fun uu=>.loc 9 0) t.1 t.2.1 t.2.2 u }
theorem vZ (w:L.Sq Ab) (gr:Int) (f:Int->L.Sq Ac) (hp:Hy.pre (w,gr,f)):vc Tryz.prog ({ cC with muts:=[9],mqs:=SC [(7,Aj f)] }) (Ai Tryz.f34) (Dy Tryz.f34 (Hy.args (w,gr,f)) (Hy.lent (w,gr,f))) (Fq Tryz.prog Tryz.f34 Hy (w,gr,f)):=
 @Eq.mpr _ (let I:=SV.int .i64;∃(u:Nat),nat_lit 0=(0:Nat)/\(w.n=w.n/\∀(i:Nat),let A1:=[I (w.g i).id,I (w.g i).colour,I (w.g i).grain,SV.sl (2:Nat) (w.g i).ol.n fun(i1:Nat)=>[I ((w.g i).ol.g i1).x,I ((w.g i).ol.g i1).y]];i<w.n->A1=A1)/\gr=gr/\(∀(x:Int),false=false)/\(∀(x:Int),false=true->Aj f x=Aj f x)/\True) (by kernel_rfl) (by
 conv=>zeta
 exact⟨(0:Nat),rfl,⟨rfl,fun _ _=>rfl⟩,rfl,fun _=>rfl,fun _ _=>rfl,trivial⟩)
theorem MT:As Tryz.prog 34:=fun args w=>by kernel_rfl
theorem MU:De Tryz.prog 34 Hy:=FB (n:=2) Tryz.func34 (c:=Ai Tryz.f34) (by kernel_rfl) mixed ⟨fun t=>rfl,fun t=>rfl,fun t u=>rfl,fun t u=>rfl,fun t u=>rfl,fun t u=>⟨rfl,rfl⟩,by kernel_rfl,by kernel_rfl⟩ (fun⟨w,gr,f⟩ hp=>⟨_,vZ w gr f hp,⟨show Aa Tryz.prog _ from Aa.nil,rfl,⟨show Af Tryz.prog _ from Af.nil,(AA.none (fun _=>rfl))⟩⟩⟩)
def Xs (g:Int):Prop:=0<=g/\g<=15
def P3 (g:Int):Nat:=AJ g
def Xt (g:Int):Nat->List SV:=fun k=>[.int .i64 (Ao g k)]
def Xu:List SV->Option (Prop×Nat×(Nat->List SV))
 |[.ref [.int .i64 g] 0]=>some (Xs g,P3 g,Xt g)
 |_=>none
abbrev P4:F2:=J5 Xu
def wA:Al:={ muts:=[],frz:=B8 [],specs:=AC [],loops:=fun _=>none,iters:=B3 [],rfs:=AP [] }
theorem wB (yl:Nat) (g:Int) (hp:Xs g):vc Tryz.prog { wA with loops:=AT [(3,{ T:=Nat,keep:=[0,1,3,4],keepO:=[],chg:=fun i=>[(5,.p (.int .i64 (D1 g i)))],own:=fun _=>[],inv:=fun i=>i<=AJ g,mu:=fun i=>AJ g-i,yk:=some (fun i=>i) })],yld:=some ⟨yl,P3 g,Xt g⟩ } (Ai Tryz.f119) (Au Tryz.f119 (.yield yl::([.ref [.int .i64 g] 0]:List SV).map .p)) (J4 Tryz.prog Tryz.f119 (P3 g)):=
 @Eq.mpr _ (let A6:=[SV.int .i64 g];let A5:=(1:Nat);let A3:=((0:Int)-g);let A1:=(BT g A3);let A7:=(Di g A1);Ad .i64 A3/\(∃(g_1:Nat),nat_lit 0=g_1/\false=false/\(0:Int)=D1 g g_1/\g_1<=AJ g)/\∀(g_1:Nat),let A4:=(!decide (D1 g g_1=Di g A1));let A2:=(D1 g g_1-Di g A1);g_1<=AJ g->(A4=true->yl=yl/\g_1<AJ g /\ [SV.int .i64 (FN (D1 g g_1) A1)]= [SV.int .i64 (Ao g g_1)]/\((false=true->g_1+A5=AJ g\/g_1+A5=AJ g+A5)/\(false=false->Ad .i64 A2/\∃(g':Nat),g_1+A5=g'/\false=false/\BT A2 A7=D1 g g'/\Di g A1=Di g A1/\BT g A3=BT g A3/\yl=yl/\SV.ref A6 (nat_lit 0)=SV.ref A6 (nat_lit 0)/\g'<=AJ g/\AJ g-g'<AJ g-g_1))/\(true=true->AJ g+A5=AJ g\/AJ g+A5=AJ g+A5)/\(true=false->Ad .i64 A2/\∃(g':Nat),AJ g+A5=g'/\false=false/\BT A2 A7=D1 g g'/\Di g A1=Di g A1/\BT g A3=BT g A3/\yl=yl/\False/\g'<=AJ g/\AJ g-g'<AJ g-g_1))/\(A4=false->g_1=AJ g\/g_1=AJ g+A5)) (by kernel_rfl) (by
 conv=>zeta
 obtain⟨h1,h2⟩:=hp;obtain⟨t1,t2⟩:=vY h1 h2;refine⟨jK,⟨(0:Nat),rfl,rfl,rfl,AdL _⟩,fun k hk=>⟨fun hne=>?_,fun he=>?_⟩⟩
 ·have hne:¬ D1 g k=Fb g:=of_decide_eq_false (Cx hne);have hlt:k<AJ g:=by
   rcases Ae5 k (AJ g)with h|h
   ·exact h
   ·obtain rfl:k=AJ g:=by omega
    exact absurd t1 hne
  obtain⟨_,b1,b2⟩:=t2 k hlt;refine⟨rfl,hlt,rfl,⟨(fun h=>by cases h),fun _=>⟨Ad.of (show _<=D1 g k-Fb g by omega) (show D1 g k-Fb g<=_ by omega),k+1,rfl,rfl,rfl,rfl,rfl,rfl,rfl,by omega,by omega⟩⟩,fun _=>.inr rfl,(fun h=>by cases h)⟩
 ·have he:D1 g k=Fb g:=of_decide_eq_true (BW he);rcases Ae5 k (AJ g)with h|h
  ·exact absurd he (t2 k h).1
  ·exact .inl (by omega))
theorem Xv:Hm Tryz.prog 119 P4:=M6 Tryz.func119 (c:=Ai Tryz.f119) (by kernel_rfl) mixed (fun caps l p n g hs hp=>by
 unfold Xu at hs;split at hs
 ·cases hs;exact⟨_,_,wB l _ hp,(.cons (AX.refl _) .nil),rfl,show Aa Tryz.prog _ from Aa.nil,⟨show Af Tryz.prog _ from Af.nil,AA.none (fun _=>rfl)⟩⟩
 ·cases hs)
theorem Xw:As Tryz.prog 119:=fun args w=>by kernel_rfl
instance:Inhabited Ac:=⟨⟨0,0⟩⟩
def Xx (p:Ac):List Int:=[p.w,p.h]
def Du (a b:Ac):Int:=Hu (Bt a.w b.w) (Bt a.h b.h)
theorem Xy {a b:Ac}:Du a b<0↔a.w<b.w\/(a.w=b.w/\a.h<b.h):=by
 unfold Du Hu Bt;rcases Int.lt_trichotomy a.w b.w with h1|h1|h1<;>rcases Int.lt_trichotomy a.h b.h with h2|h2|h2<;>grind
theorem wC:Go.Sort.SWO (Go.Proofs.ltOf Du):=by
 have k:∀x y,Go.Proofs.ltOf Du x y=true↔x.w<y.w\/(x.w=y.w/\x.h<y.h):=fun x y=>by
  unfold Go.Proofs.ltOf;rw[decide_eq_true_iff,Xy]
 have kf:∀x y,Go.Proofs.ltOf Du x y=false↔¬ (x.w<y.w\/(x.w=y.w/\x.h<y.h)):=fun x y=>by
  rw[<- k,Bool.not_eq_true]
 refine⟨fun x=>?_,fun x y z=>?_,fun x y z=>?_⟩
 ·rw[kf];omega
 ·simp only[k];omega
 ·simp only[kf];omega
def wD:Go.Shelf.Ren:=⟨fun|6=>120|15=>142|14=>149|28=>170|29=>171|20=>174|21=>175|22=>176|23=>177|24=>178|25=>179|26=>180|27=>181|46=>191|47=>187|48=>188|49=>192|50=>193|57=>203|n=>n,fun|22=>27|24=>74|25=>177|3=>3|39=>199|0=>0|53=>227|55=>229|4=>4|46=>220|45=>219|50=>224|5=>5|9=>9|66=>240|70=>244|76=>253|77=>254|n=>n,fun|n=>n⟩
theorem wE:Go.Proofs.SlLaysF0.n6 Tryz.prog wD:={
 mixed:=by kernel_rfl
 f6:=⟨Tryz.f120.name,by decide,Tryz.func120.trans (congrArg some (by kernel_rfl))⟩
 f14:=⟨Tryz.f149.name,by decide,Tryz.func149.trans (congrArg some (by kernel_rfl))⟩
 f15:=Tryz.func142.trans (congrArg some (by kernel_rfl))
 f20:=⟨Tryz.f174.name,by decide,Tryz.func174.trans (congrArg some (by kernel_rfl))⟩
 f21:=⟨Tryz.f175.name,by decide,Tryz.func175.trans (congrArg some (by kernel_rfl))⟩
 f22:=⟨Tryz.f176.name,by decide,Tryz.func176.trans (congrArg some (by kernel_rfl))⟩
 f23:=⟨Tryz.f177.name,by decide,Tryz.func177.trans (congrArg some (by kernel_rfl))⟩
 f24:=⟨Tryz.f178.name,by decide,Tryz.func178.trans (congrArg some (by kernel_rfl))⟩
 f25:=⟨Tryz.f179.name,by decide,Tryz.func179.trans (congrArg some (by kernel_rfl))⟩
 f26:=⟨Tryz.f180.name,by decide,Tryz.func180.trans (congrArg some (by kernel_rfl))⟩
 f27:=⟨Tryz.f181.name,by decide,Tryz.func181.trans (congrArg some (by kernel_rfl))⟩
 f28:=Tryz.func170.trans (congrArg some (by kernel_rfl))
 f29:=Tryz.func171.trans (congrArg some (by kernel_rfl))
 f46:=⟨Tryz.f191.name,by decide,Tryz.func191.trans (congrArg some (by kernel_rfl))⟩
 f47:=Tryz.func187.trans (congrArg some (by kernel_rfl))
 f48:=Tryz.func188.trans (congrArg some (by kernel_rfl))
 f49:=⟨Tryz.f192.name,by decide,Tryz.func192.trans (congrArg some (by kernel_rfl))⟩
 f50:=⟨Tryz.f193.name,by decide,Tryz.func193.trans (congrArg some (by kernel_rfl))⟩
 f57:=⟨Tryz.f203.name,by decide,Tryz.func203.trans (congrArg some (by kernel_rfl))⟩
 t0:=Tryz.underlying0
 a0:=Tryz.isAgg0
 z0:=Tryz.sizeOf0
 v0:=Tryz.zeroValue0
 t3:=Tryz.underlying3
 a3:=Tryz.isAgg3
 z3:=Tryz.sizeOf3
 v3:=Tryz.zeroValue3
 t4:=Tryz.underlying4
 a4:=Tryz.isAgg4
 z4:=Tryz.sizeOf4
 v4:=Tryz.zeroValue4
 t5:=Tryz.underlying5
 a5:=Tryz.isAgg5
 z5:=Tryz.sizeOf5
 v5:=Tryz.zeroValue5
 t9:=Tryz.underlying9
 a9:=Tryz.isAgg9
 z9:=Tryz.sizeOf9
 v9:=Tryz.zeroValue9
 t22:=Tryz.underlying27
 a22:=Tryz.isAgg27
 z22:=Tryz.sizeOf27
 v22:=Tryz.zeroValue27
 t25:=Tryz.underlying177
 a25:=Tryz.isAgg177
 z25:=Tryz.sizeOf177
 v25:=Tryz.zeroValue177
 t39:=Tryz.underlying199
 a39:=Tryz.isAgg199
 z39:=Tryz.sizeOf199
 v39:=Tryz.zeroValue199
 t45:=Tryz.underlying219
 a45:=Tryz.isAgg219
 z45:=Tryz.sizeOf219
 v45:=Tryz.zeroValue219
 t46:=Tryz.underlying220
 a46:=Tryz.isAgg220
 z46:=Tryz.sizeOf220
 v46:=Tryz.zeroValue220
 t50:=Tryz.underlying224
 a50:=Tryz.isAgg224
 z50:=Tryz.sizeOf224
 v50:=Tryz.zeroValue224
 t53:=Tryz.underlying227
 a53:=Tryz.isAgg227
 z53:=Tryz.sizeOf227
 v53:=Tryz.zeroValue227
 t55:=Tryz.underlying229
 a55:=Tryz.isAgg229
 z55:=Tryz.sizeOf229
 v55:=Tryz.zeroValue229
 t66:=Tryz.underlying240
 a66:=Tryz.isAgg240
 z66:=Tryz.sizeOf240
 v66:=Tryz.zeroValue240
 t70:=Tryz.underlying244
 a70:=Tryz.isAgg244
 z70:=Tryz.sizeOf244
 v70:=Tryz.zeroValue244
 t76:=Tryz.underlying253
 a76:=Tryz.isAgg253
 z76:=Tryz.sizeOf253
 v76:=Tryz.zeroValue253
 t77:=Tryz.underlying254
 a77:=Tryz.isAgg254
 z77:=Tryz.sizeOf254
 v77:=Tryz.zeroValue254 }
def Xz (g:Int):Prop:=True
def X4 (g:Int):SV:=.clo 119 [.ref [.int .i64 g] 0]
def X5:List EV->Option (Prop×SV)
 |[.p (.int .i64 g)]=>some (Xz g,X4 g)
 |_=>none
abbrev P5:SE.Spec:=(AI X5)
def wF:Al:={ muts:=[],frz:=B8 [],specs:=AC [],loops:=AT [],iters:=B3 [],rfs:=AP [],nils:=B6 [] }
theorem wG (g:Int) (hp:Xz g):vc Tryz.prog (wF) (Ai Tryz.f75) (Au Tryz.f75 [.p (.int .i64 g)]) (AH Tryz.prog Tryz.f75 (X4 g)):=
 @Eq.mpr _ (SV.clo (nat_lit 119) [SV.ref [SV.int .i64 g] (nat_lit 0)]=SV.clo (nat_lit 119) [SV.ref [SV.int .i64 g] (nat_lit 0)]) (by kernel_rfl) (by
 rfl)
theorem X6:Ax Tryz.prog 75 P5:=AK Tryz.func75 (c:=Ai Tryz.f75) (by kernel_rfl) mixed (fun args p r hs hp=>by
 unfold X5 at hs;split at hs
 ·cases hs;exact⟨_,_,wG _ hp,(.same _ .nil),⟨show Aa Tryz.prog _ from Aa.nil,rfl,⟨show Af Tryz.prog _ from Af.nil,(AA.none (fun _=>rfl))⟩⟩⟩
 ·cases hs)
theorem X7:As Tryz.prog 75:=fun args w=>by kernel_rfl
def X8 (a:Ac) (b:Ac):Prop:=True
def X9 (a:Ac) (b:Ac):SV:=.int .i64 (Du a b)
def P6:List EV->Option (Prop×SV)
 |[.p (.agg [.int .i64 a_w,.int .i64 a_h]),.p (.agg [.int .i64 b_w,.int .i64 b_h])]=>some (X8 (⟨a_w,a_h⟩:Ac) (⟨b_w,b_h⟩:Ac),X9 (⟨a_w,a_h⟩:Ac) (⟨b_w,b_h⟩:Ac))
 |_=>none
abbrev wH:SE.Spec:=(AI P6)
def wI:Al:={ cC with specs:=AC [(111,J9),(122,OU)] }
theorem wJ (a:Ac) (b:Ac) (hp:X8 a b):vc Tryz.prog (wI) (Ai Tryz.f121) (Au Tryz.f121 [.p (.agg [.int .i64 a.w,.int .i64 a.h]),.p (.agg [.int .i64 b.w,.int .i64 b.h])]) (AH Tryz.prog Tryz.f121 (X9 a b)):=
 @Eq.mpr _ (let I:=SV.int .i64;let A1:=[I (Bt a.w b.w),I (Bt a.h b.h)];True/\True/\((∀(i:Nat),i<nat_lit 2->Ce A1 (nat_lit 1) i = [I (Ca (Ce A1 (nat_lit 1) i))])/\nat_lit 2<=(1000000:Nat))/\G5 (fun(i:Nat)=>Ca (Ce A1 (nat_lit 1) i)) (2:Nat)=Du a b) (by kernel_rfl) (by
 conv=>zeta
 exact⟨trivial,trivial,⟨fun i hi=>by match i,hi with|0,_=>rfl|1,_=>rfl,by decide⟩,rfl⟩)
theorem wK:Ax Tryz.prog 121 wH:=AK Tryz.func121 (c:=Ai Tryz.f121) (by kernel_rfl) mixed (fun args p r hs hp=>by
 unfold P6 at hs;split at hs
 ·cases hs;exact⟨_,_,wJ _ _ hp,(.same _ (.same _ .nil)),⟨show Aa Tryz.prog _ from(Aa.cons KZ La (Aa.cons Tq Ts Aa.nil)),rfl,⟨show Af Tryz.prog _ from Af.nil,(AA.none (fun _=>rfl))⟩⟩⟩
 ·cases hs)
theorem wL:As Tryz.prog 121:=fun args w=>by kernel_rfl
abbrev XA:Tr:=M9 74 2 121 1005 Xx Du
theorem wM:FV Tryz.prog 120 XA:=OK (enc:=Xx) wE (by decide) (fun w=>Tryz.isAgg74 w) (fun w=>Tryz.sizeOf74 w) (fun _=>rfl) wC wK wL (fun x y=>show EX P6 [.p (.agg [.int .i64 x.w,.int .i64 x.h]),.p (.agg [.int .i64 y.w,.int .i64 y.h])]from trivial) (fun x y=>rfl) _ _
theorem wN:As Tryz.prog 120:=fun args w=>by kernel_rfl
def CT (u:Nat->Ac):Nat->List Ac
 |0=>[]
 |k+1=>match (CT u k).getLast? with
   |none=>CT u k ++ [u k]
   |some x=>if (u k).h<x.h then CT u k ++ [u k]else CT u k
def Bc (u:Nat->Ac) (k:Nat):Nat:=(CT u k).length
def BH (u:Nat->Ac) (k i:Nat):Ac:=(CT u k).getD i ⟨0,0⟩
theorem XB (u:Nat->Ac):∀k,Bc u k<=k
 |0=>AdS _
 |k+1=>by
   have:=XB u k;unfold Bc at this ⊢;rw[CT];split
   ·simp;omega
   ·split
    ·simp;omega
    ·omega
theorem XC {u:Nat->Ac} {k:Nat} {x:Ac} (h:(CT u k).getLast? = some x):Bc u k≠0/\BH u k (((Bc u k:Nat):Int)-1).toNat=x:=by
 rw[List.getLast?_eq_getElem?]at h;obtain⟨h1,h2⟩:=List.getElem?_eq_some_iff.1 h;have e:(((Bc u k:Nat):Int)-1).toNat=(CT u k).length-1:=by unfold Bc;omega
 refine⟨by unfold Bc;omega,?_⟩;rw[e];unfold BH;rw[AS,h];rfl
theorem wO {u:Nat->Ac} {k:Nat} (h:(bif decide (((Bc u k:Nat):Int)=0)then true else decide ((u k).h<(BH u k (((Bc u k:Nat):Int)-1).toNat).h))=true):CT u (k+1)=CT u k ++ [u k]:=by
 rw[CT];cases hl:(CT u k).getLast? with
 |none=>rfl
 |some x =>
   obtain⟨h1,h2⟩:=XC hl;rw[h2,decide_eq_false (show ¬ ((Bc u k:Nat):Int)=0 by omega),cond_false,decide_eq_true_eq]at h;exact if_pos h
theorem wP {u:Nat->Ac} {k:Nat} (h:(bif decide (((Bc u k:Nat):Int)=0)then true else decide ((u k).h<(BH u k (((Bc u k:Nat):Int)-1).toNat).h))=false):CT u (k+1)=CT u k:=by
 rw[CT];cases hl:(CT u k).getLast? with
 |none =>
   have e:CT u k = []:=List.getLast?_eq_none_iff.1 hl;have e2:Bc u k=0:=by unfold Bc;rw[e];rfl
   rw[e2]at h;cases h
 |some x =>
   obtain⟨h1,h2⟩:=XC hl;rw[h2,decide_eq_false (show ¬ ((Bc u k:Nat):Int)=0 by omega),cond_false,decide_eq_false_iff_not]at h;exact if_neg h
theorem wQ {u:Nat->Ac} {k:Nat} (h:CT u (k+1)=CT u k ++ [u k]):Bc u (k+1)=Bc u k+1/\∀i,i<Bc u k+1->BH u (k+1) i=if i<Bc u k then BH u k i else u k:=by
 unfold Bc BH;rw[h];refine⟨by simp,fun i hi=>?_⟩;simp only[AS]
 by_cases e:i<(CT u k).length
 ·rw[if_pos e,Aeh e]
 ·rw[if_neg e,Aej (by omega),show i-(CT u k).length=0 by omega];rfl
abbrev JJ:Mk:={ T:=(Nat)×(Nat->Ac),U:=Nat->Ac,args:=fun t=>(fun n f=>[.row 1010]) t.1 t.2,lkeys:=[1010],keys:=[32],lent:=fun t=>(fun n f=>[(1010,.row 74 2 n (fun j=>[.int .i64 (f j).w,.int .i64 (f j).h]))]) t.1 t.2,pre:=fun t=>(fun n f=>n<=1000000) t.1 t.2,post:=fun t u=>(fun n f=>fun u=>Dj Du n f u) t.1 t.2 u,lent':=fun t u=>(fun n f=>fun u=>[(1010,.row 74 2 n (fun j=>[.int .i64 (u j).w,.int .i64 (u j).h]))]) t.1 t.2 u,own:=fun t u=>(fun n f=>fun u=>[(32,.row 74 2 (Bc u n) (fun j=>[.int .i64 (BH u n j).w,.int .i64 (BH u n j).h]))]) t.1 t.2 u,res:=fun t u=>(fun n f=>fun u=>.row 32) t.1 t.2 u }
theorem wR (n:Nat) (f:Nat->Ac) (hp:JJ.pre (n,f)):vc Tryz.prog ({ muts:=[5,32],frz:=B8 [],specs:=AC [],loops:=AT [(4,{ T:=(Nat->Ac)×Nat,keep:=[0,8,9],keepO:=[],chg:=fun t=>[(10,.p (.int .i64 (t.2:Int))),(3,.row 32)],own:=fun t=>[(1010,.row 74 2 n (fun j=>[.int .i64 (t.1 j).w,.int .i64 (t.1 j).h])),(32,.row 74 2 (Bc t.1 t.2) (fun j=>[.int .i64 (BH t.1 t.2 j).w,.int .i64 (BH t.1 t.2 j).h]))],inv:=fun t=>t.2<=n/\Dj Du n f t.1,mu:=fun t=>n-t.2 })],iters:=B3 [],rfs:=AP [],nils:=B6 [],trs:=Ht [(120,XA)],ren:=fun k=>k+5,nilsL:=B6 [(4,[(3,32,74,2)])] }) (Ai Tryz.f76) (Dy Tryz.f76 (JJ.args (n,f)) (JJ.lent (n,f))) (Fq Tryz.prog Tryz.f76 JJ (n,f)):=
 @Eq.mpr _ (let I:=SV.int .i64;let T:=Aee;let A7:=(0:Int);let A5:=(1:Int);∃(t:Nat×(Nat->Ac)),let A6:=(↑t.1:Int);SV.clo (nat_lit 121) []=SV.clo (121:Nat) []/\(n=t.1/\∀(i:Nat),i<n -> [I (f i).w,I (f i).h]= [I (t.2 i).w,I (t.2 i).h])/\t.1<=(1000000:Nat)/\∀(u:Nat->Ac),Dj Du t.1 t.2 u->(∃(g:(Nat->Ac)×Nat),A7=(↑g.2:Int)/\(t.1=n/\∀(i:Nat),i<t.1 -> [I (u i).w,I (u i).h]= [I (g.1 i).w,I (g.1 i).h])/\((0:Nat)=Bc g.1 g.2/\∀(i:Nat),i<(0:Nat) -> []= [I (BH g.1 g.2 i).w,I (BH g.1 g.2 i).h])/\g.2<=n/\Dj Du n f g.1)/\∀(g:(Nat->Ac)×Nat),let A3:=(↑g.2:Int);let A8:=(g.1 (T A3));let A1:=(↑(Bc g.1 g.2):Int);let A4:=(!decide (A1=A7));let A2:=(bif decide (A1=A7)then true else decide (A8.h<(BH g.1 g.2 (T (A1-A5))).h));g.2<=n/\Dj Du n f g.1->(decide (A3<A6)=true->(A7<=A3/\A3<(↑n:Int))/\T A3<n/\(A4=true->Ad .i64 (A1-A5))/\(A4=true->A7<=A1-A5/\A1-A5<A1)/\(A4=true->T (A1-A5)<Bc g.1 g.2)/\(A2=true->(Bc g.1 g.2+nat_lit 1)*nat_lit 16<=(140737488355328:Nat)/\Ad .i64 (A3+A5)/\∃(g':(Nat->Ac)×Nat),A3+A5=(↑g'.2:Int)/\A6=A6/\(n=n/\∀(i:Nat),i<n -> [I (g.1 i).w,I (g.1 i).h]= [I (g'.1 i).w,I (g'.1 i).h])/\(Bc g.1 g.2+nat_lit 1=Bc g'.1 g'.2/\∀(i:Nat),i<Bc g.1 g.2+nat_lit 1->AN (Bc g.1 g.2) (fun(j:Nat)=>[I (BH g.1 g.2 j).w,I (BH g.1 g.2 j).h]) (fun(x:Nat)=>[I A8.w,I A8.h]) i = [I (BH g'.1 g'.2 i).w,I (BH g'.1 g'.2 i).h])/\(g'.2<=n/\Dj Du n f g'.1)/\n-g'.2<n-g.2)/\(A2=false->Ad .i64 (A3+A5)/\∃(g':(Nat->Ac)×Nat),A3+A5=(↑g'.2:Int)/\A6=A6/\(n=n/\∀(i:Nat),i<n -> [I (g.1 i).w,I (g.1 i).h]= [I (g'.1 i).w,I (g'.1 i).h])/\(Bc g.1 g.2=Bc g'.1 g'.2/\∀(i:Nat),i<Bc g.1 g.2 -> [I (BH g.1 g.2 i).w,I (BH g.1 g.2 i).h]= [I (BH g'.1 g'.2 i).w,I (BH g'.1 g'.2 i).h])/\(g'.2<=n/\Dj Du n f g'.1)/\n-g'.2<n-g.2))/\(decide (A3<A6)=false->∃(u:Nat->Ac),(n=n/\∀(i:Nat),i<n -> [I (g.1 i).w,I (g.1 i).h]= [I (u i).w,I (u i).h])/\(Bc g.1 g.2=Bc u n/\∀(i:Nat),i<Bc g.1 g.2 -> [I (BH g.1 g.2 i).w,I (BH g.1 g.2 i).h]= [I (BH u n i).w,I (BH u n i).h])/\Dj Du n f u)) (by kernel_rfl) (by
 conv=>zeta
 have hp:n<=1000000:=hp;refine⟨(n,f),rfl,⟨rfl,fun _ _=>rfl⟩,hp,fun u hu=>⟨⟨(u,0),rfl,⟨rfl,fun _ _=>rfl⟩,⟨rfl,fun i hi=>absurd hi (nT _)⟩,AdL _,hu⟩,fun⟨v,k⟩ ⟨hk,hv⟩=>⟨fun hlt=>?_,fun hge=>?_⟩⟩⟩
 ·have hlt:(k:Int)<(n:Int):=of_decide_eq_true hlt;have hk:k<n:=by omega
  have c2:((k:Int)).toNat=k:=Aea k;have hs:=XB v k;have nz:(!decide (((Bc v k:Nat):Int)=0))=true->0<Bc v k:=fun h=>by
   have:¬ ((Bc v k:Nat):Int)=0:=of_decide_eq_false (Cx h);omega
  refine⟨⟨Aec _,hlt⟩,by show(k:Int).toNat<n;omega,fun h=>Ad.of (by have:=nz h;show _<=((Bc v k:Nat):Int)-1;omega) (by show((Bc v k:Nat):Int)-1<=_;omega),fun h=>⟨by have:=nz h;show _<=((Bc v k:Nat):Int)-1;omega,by show((Bc v k:Nat):Int)-1<((Bc v k:Nat):Int);omega⟩,fun h=>by have:=nz h;show(((Bc v k:Nat):Int)-1).toNat<Bc v k;omega,fun h=>?_,fun h=>?_⟩
  ·have e:=wO (u:=v) (k:=k) (by have h':(bif decide (((Bc v k:Nat):Int)=0)then true else decide ((v (k:Int).toNat).h<(BH v k (((Bc v k:Nat):Int)-1).toNat).h))=true:=h;rw[c2]at h';exact h');obtain⟨e1,e2⟩:=wQ e;refine⟨by show(Bc v k+1)*16<=140737488355328;omega,Ad.of (by show _<=(k:Int)+1;omega) (by show(k:Int)+1<=_;omega),(v,k+1),by show(k:Int)+1=((k+1:Nat):Int);omega,rfl,⟨rfl,fun _ _=>rfl⟩,⟨e1.symm,fun i hi=>?_⟩,⟨by show k+1<=n;omega,hv⟩,by show n-(k+1)<n-k;omega⟩;have hi:i<Bc v k+1:=hi;have e3:=e2 i hi;show AN (Bc v k) _ _ i = [SV.int .i64 (BH v (k+1) i).w,SV.int .i64 (BH v (k+1) i).h];rw[e3];unfold AN
   by_cases h4:i<Bc v k
   ·rw[if_pos h4,if_pos h4]
   ·rw[if_neg h4,if_neg h4];show [SV.int .i64 (v (k:Int).toNat).w,SV.int .i64 (v (k:Int).toNat).h]=_;rw[c2]
  ·have e:=wP (u:=v) (k:=k) (by have h':(bif decide (((Bc v k:Nat):Int)=0)then true else decide ((v (k:Int).toNat).h<(BH v k (((Bc v k:Nat):Int)-1).toNat).h))=false:=h;rw[c2]at h';exact h');have e1:Bc v (k+1)=Bc v k:=by unfold Bc;rw[e]
   have e2:∀i,BH v (k+1) i=BH v k i:=fun i=>by unfold BH;rw[e]
   exact⟨Ad.of (by show _<=(k:Int)+1;omega) (by show(k:Int)+1<=_;omega),(v,k+1),by show(k:Int)+1=((k+1:Nat):Int);omega,rfl,⟨rfl,fun _ _=>rfl⟩,⟨e1.symm,fun i _=>by rw[e2]⟩,⟨by show k+1<=n;omega,hv⟩,by show n-(k+1)<n-k;omega⟩
 ·have hge:¬ (k:Int)<(n:Int):=of_decide_eq_false hge;have hk:k<=n:=hk;obtain rfl:k=n:=by omega
  exact⟨v,⟨rfl,fun _ _=>rfl⟩,⟨rfl,fun _ _=>rfl⟩,hv⟩)
theorem wT:As Tryz.prog 76:=fun args w=>by kernel_rfl
theorem wU:De Tryz.prog 76 JJ:=FB (n:=1) Tryz.func76 (c:=Ai Tryz.f76) (by kernel_rfl) mixed ⟨fun t=>rfl,fun t=>rfl,fun t u=>rfl,fun t u=>rfl,fun t u=>rfl,fun t u=>⟨rfl,rfl⟩,by kernel_rfl,by kernel_rfl⟩ (fun⟨n,f⟩ hp=>⟨_,wR n f hp,⟨show Aa Tryz.prog _ from Aa.nil,rfl,⟨show Af Tryz.prog _ from Af.nil,⟨show DE Tryz.prog _ from(DE.cons wM wN DE.nil),⟨Gx.no1 (fun _=>rfl),FamsOk.none (fun _=>rfl)⟩⟩⟩⟩⟩)
def AM (n:Nat):Int:=Bi 1 n-1
theorem Gi {n:Nat} (h:n<=4):0<=AM n/\AM n<=15/\0<=Bi 1 n/\Bi 1 n<=16:=by
 have:n=0\/n=1\/n=2\/n=3\/n=4:=by omega
 rcases this with rfl|rfl|rfl|rfl|rfl<;>decide
abbrev Ia:Mk:={ T:=(L.Sq Ab)×(Int)×(Int->L.Sq Ac)×(Int->Bool),U:=Nat,args:=fun t=>(fun w gr f dom=>[.loc 1000 0]) t.1 t.2.1 t.2.2.1 t.2.2.2,lkeys:=[1000,1001],keys:=[],lent:=fun t=>(fun w gr f dom=>[(1000,.blk 130 [.p ((.sl 4 w.n (fun i=>[.int .i64 ((w.g i).id),.int .i64 ((w.g i).colour),.int .i64 ((w.g i).grain),.sl 2 (w.g i).ol.n (fun i1=>[.int .i64 (((w.g i).ol.g i1).x),.int .i64 (((w.g i).ol.g i1).y)])]))),.p (.int .i64 gr),.mapv 1001]),(1001,.mq 3 27 dom (Aj f))]) t.1 t.2.1 t.2.2.1 t.2.2.2,pre:=fun t=>(fun w gr f dom=>w.n<=4) t.1 t.2.1 t.2.2.1 t.2.2.2,post:=fun t u=>(fun w gr f dom=>fun uu=>True) t.1 t.2.1 t.2.2.1 t.2.2.2 u,lent':=fun t u=>(fun w gr f dom=>fun uu=>[(1000,.blk 130 [.p ((.sl 4 w.n (fun i=>[.int .i64 ((w.g i).id),.int .i64 ((w.g i).colour),.int .i64 ((w.g i).grain),.sl 2 (w.g i).ol.n (fun i1=>[.int .i64 (((w.g i).ol.g i1).x),.int .i64 (((w.g i).ol.g i1).y)])]))),.p (.int .i64 gr),.mapv 1001]),(1001,.mq 3 27 dom (Aj f))]) t.1 t.2.1 t.2.2.1 t.2.2.2 u,own:=fun t u=>(fun w gr f dom=>fun uu=>[]) t.1 t.2.1 t.2.2.1 t.2.2.2 u,res:=fun t u=>(fun w gr f dom=>fun uu=>.p (.int .i64 (AM w.n))) t.1 t.2.1 t.2.2.1 t.2.2.2 u }
theorem wV (w:L.Sq Ab) (gr:Int) (f:Int->L.Sq Ac) (dom:Int->Bool) (hp:Ia.pre (w,gr,f,dom)):vc Tryz.prog (cC) (Ai Tryz.f37) (Dy Tryz.f37 (Ia.args (w,gr,f,dom)) (Ia.lent (w,gr,f,dom))) (Fq Tryz.prog Tryz.f37 Ia (w,gr,f,dom)):=
 @Eq.mpr _ (let I:=SV.int .i64;let A3:=(1:Int);let A2:=(↑w.n:Int);(0:Int)<=A2/\Ad .i64 (Bi A3 A2)/\Ad .i64 (Bi A3 A2-A3)/\∃(u:Nat),Bi A3 A2-A3=AM w.n/\(w.n=w.n/\∀(i:Nat),let A1:=[I (w.g i).id,I (w.g i).colour,I (w.g i).grain,SV.sl (2:Nat) (w.g i).ol.n fun(i1:Nat)=>[I ((w.g i).ol.g i1).x,I ((w.g i).ol.g i1).y]];i<w.n->A1=A1)/\gr=gr/\(∀(x:Int),dom x=dom x)/\(∀(x:Int),dom x=true->Aj f x=Aj f x)/\True) (by kernel_rfl) (by
 conv=>zeta
 obtain⟨a1,a2,a3,a4⟩:=Gi (n:=w.n) hp;exact⟨Aec _,jK,Ad.of (by show _<=AM w.n;omega) (by show AM w.n<=_;omega),(0:Nat),rfl,⟨rfl,fun _ _=>rfl⟩,rfl,fun _=>rfl,fun _ _=>rfl,trivial⟩)
theorem P7:As Tryz.prog 37:=fun args w=>by kernel_rfl
theorem P8:De Tryz.prog 37 Ia:=FB (n:=1) Tryz.func37 (c:=Ai Tryz.f37) (by kernel_rfl) mixed ⟨fun t=>rfl,fun t=>rfl,fun t u=>rfl,fun t u=>rfl,fun t u=>rfl,fun t u=>⟨rfl,rfl⟩,by kernel_rfl,by kernel_rfl⟩ (fun⟨w,gr,f,dom⟩ hp=>⟨_,wV w gr f dom hp,⟨show Aa Tryz.prog _ from Aa.nil,rfl,⟨show Af Tryz.prog _ from Af.nil,(AA.none (fun _=>rfl))⟩⟩⟩)
def Cu.le (a b:Ac):Prop:=a.w<=b.w/\a.h<=b.h
def Cu.leB (a b:Ac):Bool:=decide (a.w<=b.w)&&decide (a.h<=b.h)
theorem Cu.leB_iff {a b:Ac}:leB a b=true↔le a b:=by unfold leB le;rw[oE,decide_eq_true_eq,decide_eq_true_eq]
theorem Cu.le_refl (a:Ac):le a a:=⟨Ael _,Ael _⟩
theorem Cu.le_trans {a b c:Ac} (h:le a b) (k:le b c):le a c:=⟨Afy h.1 k.1,Afy h.2 k.2⟩
theorem Cu.sz_ext {a b:Ac} (h:a.w=b.w) (k:a.h=b.h):a=b:=by
 cases a;cases b;simp only at h k;subst h k;rfl
def Cu.Stair (l:List Ac):Prop:=l.Pairwise fun a b=>a.w<b.w/\b.h<a.h
def Cu.cov (l:List Ac) (s:Ac):Prop:=∃x,x∈l/\le x s
def Cu.Same (l m:List Ac):Prop:=∀s,cov l s↔cov m s
theorem Cu.Same.refl (l:List Ac):Same l l:=fun _=>Iff.rfl
theorem Cu.Same.symm {l m:List Ac} (h:Same l m):Same m l:=fun s=>(h s).symm
theorem Cu.Same.trans {l m n:List Ac} (h:Same l m) (k:Same m n):Same l n:=fun s=>(h s).trans (k s)
theorem Cu.cov_append {l m:List Ac} {s:Ac}:cov (l++m) s↔cov l s\/cov m s:=by
 unfold cov;simp only[Aef];constructor
 ·rintro⟨x,h|h,k⟩
  ·exact .inl ⟨x,h,k⟩
  ·exact .inr ⟨x,h,k⟩
 ·rintro(⟨x,h,k⟩|⟨x,h,k⟩)
  ·exact⟨x,.inl h,k⟩
  ·exact⟨x,.inr h,k⟩
theorem Cu.Same.append {l l' m m':List Ac} (h:Same l l') (k:Same m m'):Same (l++m) (l'++m'):=fun s=>by
 rw[cov_append,cov_append,h s,k s]
theorem Cu.Same.of_mem {l m:List Ac} (h:∀x,x∈l↔x∈m):Same l m:=fun s=>by
 unfold cov;simp only[h]
theorem Cu.cov_mem {l:List Ac} {x:Ac} (h:x∈l):cov l x:=⟨x,h,le_refl x⟩
theorem Cu.Same.of_sub {l m:List Ac} (h:∀x,x∈l->cov m x) (k:∀x,x∈m->cov l x):Same l m:=fun s=>by
 constructor
 ·rintro⟨x,hx,hs⟩;obtain⟨y,hy,hyx⟩:=h x hx;exact⟨y,hy,le_trans hyx hs⟩
 ·rintro⟨x,hx,hs⟩;obtain⟨y,hy,hyx⟩:=k x hx;exact⟨y,hy,le_trans hyx hs⟩
theorem Cu.stair_le {l:List Ac} (h:Stair l):∀a,a∈l->∀b,b∈l->le a b->a=b:=by
 intro a ha b hb hab;obtain⟨i,hi,rfl⟩:=Aem ha;obtain⟨j,hj,rfl⟩:=Aem hb;have hp:=AeV.1 h;rcases Nat.lt_trichotomy i j with hlt|heq|hgt
 ·have:=hp i j hi hj hlt;have:=hab.2;omega
 ·subst heq;rfl
 ·have:=hp j i hj hi hgt;have:=hab.1;omega
theorem Cu.mem_of_same {l m:List Ac} (hl:Stair l) (hm:Stair m) (h:Same l m):∀x,x∈l->x∈m:=fun x hx=>by
 obtain⟨y,hy,hyx⟩:=(h x).1 (cov_mem hx);obtain⟨z,hz,hzy⟩:=(h y).2 (cov_mem hy);have e1:=stair_le hl z hz x hx (le_trans hzy hyx);subst e1;have:y=z:=sz_ext (Int.le_antisymm hyx.1 hzy.1) (Int.le_antisymm hyx.2 hzy.2);exact this ▸ hy
theorem Cu.stair_ext:∀{l m:List Ac},Stair l->Stair m->(∀x,x∈l↔x∈m)->l=m
 |[],[],_,_,_=>rfl
 |[],b::m,_,_,h=>by have:=(h b).2 (AdM ..);cases this
 |a::l,[],_,_,h=>by have:=(h a).1 (AdM ..);cases this
 |a::l,b::m,hl,hm,h=>by
   unfold Stair at hl hm;rw[AeR]at hl hm;have e:a=b:=by
    rcases AdR.1 ((h a).1 (AdM ..))with e|e
    ·exact e
    ·rcases AdR.1 ((h b).2 (AdM ..))with e2|e2
     ·exact e2.symm
     ·have:=(hm.1 a e).1;have:=(hl.1 b e2).1;omega
   subst e;rw[stair_ext hl.2 hm.2 (fun x=>?_)];constructor
   ·intro hx;rcases AdR.1 ((h x).1 (AdJ _ hx))with e|e
    ·subst e;have:=(hl.1 x hx).1;omega
    ·exact e
   ·intro hx;rcases AdR.1 ((h x).2 (AdJ _ hx))with e|e
    ·subst e;have:=(hm.1 x hx).1;omega
    ·exact e
theorem Cu.stair_uniq {l m:List Ac} (hl:Stair l) (hm:Stair m) (h:Same l m):l=m :=
 stair_ext hl hm (fun x=>⟨mem_of_same hl hm h x,mem_of_same hm hl h.symm x⟩)
def Cu.ins (l:List Ac) (s:Ac):List Ac:=if l.any (fun x=>leB x s)then l else l.filter (fun x=>decide (x.w<s.w))++s::l.filter (fun x=>decide (s.w<x.w) && !leB s x)
theorem Cu.ins_ok {l:List Ac} (h:Stair l) (s:Ac):Stair (ins l s)/\Same (ins l s) (l ++ [s]):=by
 unfold ins;split
 ·rename_i hc;obtain⟨x,hx,hxs⟩:=AeY.1 hc;refine⟨h,Same.of_sub (fun y hy=>cov_mem (Ae6 _ hy)) (fun y hy=>?_)⟩;rcases Aef.1 hy with hy|hy
  ·exact cov_mem hy
  ·rw[AdY.1 hy];exact⟨x,hx,leB_iff.1 hxs⟩
 ·rename_i hc;have hc:∀x,x∈l->¬ le x s:=fun x hx e=>hc (AeY.2 ⟨x,hx,leB_iff.2 e⟩);refine⟨?_,Same.of_sub (fun y hy=>?_) (fun y hy=>?_)⟩
  ·unfold Stair;rw[Af7,AeR];refine⟨List.Pairwise.filter _ h,⟨fun y hy=>?_,List.Pairwise.filter _ h⟩,fun x hx y hy=>?_⟩
   ·obtain⟨_,q⟩:=AdK.1 hy;simp only[oE,decide_eq_true_eq,Aer]at q;refine⟨q.1,?_⟩;have:¬ le s y:=fun e=>by rw[leB_iff.2 e]at q;cases q.2
    unfold le at this;omega
   ·obtain⟨m1,q⟩:=AdK.1 hx;have q:x.w<s.w:=by simpa using q
    have hs:s.h<x.h:=by
     have:=hc x m1;unfold le at this;omega
    rcases AdR.1 hy with rfl|hy
    ·exact⟨q,hs⟩
    ·obtain⟨_,q2⟩:=AdK.1 hy;simp only[oE,decide_eq_true_eq,Aer]at q2;have:¬ le s y:=fun e=>by rw[leB_iff.2 e]at q2;cases q2.2
     unfold le at this;omega
  ·rcases Aef.1 hy with hy|hy
   ·exact cov_mem (Ae6 _ (AdK.1 hy).1)
   ·rcases AdR.1 hy with rfl|hy
    ·exact cov_mem (Aez _ (AdY.2 rfl))
    ·exact cov_mem (Ae6 _ (AdK.1 hy).1)
  ·rcases Aef.1 hy with hy|hy
   ·by_cases e1:y.w<s.w
    ·exact cov_mem (Ae6 _ (AdK.2 ⟨hy,by simpa using e1⟩))
    ·by_cases e2:le s y
     ·exact⟨s,Aez _ (AdM ..),e2⟩
     ·have e3 : s.w<y.w :=by
       have:=hc y hy;unfold le at this e2;omega
      refine cov_mem (Aez _ (AdJ _ (AdK.2 ⟨hy,?_⟩)));rw[oE];refine⟨decide_eq_true e3,?_⟩;cases h2:leB s y with
      |false=>rfl
      |true=>exact absurd (leB_iff.1 h2) e2
   ·rw[AdY.1 hy];exact cov_mem (Aez _ (AdM ..))
def Cu.stair (l:List Ac):List Ac:=l.foldl ins []
theorem Cu.foldl_ok:∀(l a:List Ac),Stair a->Stair (l.foldl ins a)/\Same (l.foldl ins a) (a++l)
 |[],a,h=>⟨h,by rw[AeA];exact Same.refl _⟩
 |s::l,a,h=>by
   obtain⟨h1,h2⟩:=ins_ok h s;obtain⟨h3,h4⟩:=foldl_ok l (ins a s) h1;refine⟨h3,h4.trans ?_⟩;have:=h2.append (Same.refl l);rwa[AeG]at this
theorem Cu.stair_ok (l:List Ac):Stair (stair l)/\Same (stair l) l:=foldl_ok l [] List.Pairwise.nil
theorem Cu.stair_eq {l m:List Ac} (h:Stair m) (k:Same m l):m=stair l:=stair_uniq h (stair_ok l).1 (k.trans (stair_ok l).2.symm)
theorem Cu.stair_congr {l m:List Ac} (h:Same l m):stair l=stair m:=stair_eq (stair_ok l).1 ((stair_ok l).2.trans h)
def Cu.scan:List Ac->List Ac->List Ac
 |out,[]=>out
 |out,s::l=>scan (match out.getLast? with
   |none=>out ++ [s]
   |some x=>if s.h<x.h then out ++ [s]else out) l
def Cu.Asc (l:List Ac):Prop:=l.Pairwise fun a b=>a.w<b.w\/(a.w=b.w/\a.h<=b.h)
theorem Cu.scan_ok:∀(l out:List Ac),Stair out->Asc l->(∀x,x∈out->∀s,s∈l->x.w<s.w\/(x.w=s.w/\x.h<=s.h))->Stair (scan out l)/\Same (scan out l) (out++l)
 |[],out,h,_,_=>⟨h,by rw[AeA];exact Same.refl _⟩
 |s::l,out,h,ha,hx=>by
   unfold Asc at ha;rw[AeR]at ha;have key:∀out',Stair out'->Same out' (out ++ [s])->(∀x,x∈out'->x∈out\/x=s)->Stair (scan out' l)/\Same (scan out' l) (out++s::l):=fun out' h1 h2 h3=>by
    obtain⟨k1,k2⟩:=scan_ok l out' h1 ha.2 (fun x hx' y hy=>by
     rcases h3 x hx' with e|rfl
     ·exact hx x e y (AdJ _ hy)
     ·exact ha.1 y hy)
    refine⟨k1,k2.trans ?_⟩;have:=h2.append (Same.refl l);rwa[AeG]at this
   unfold scan;cases hl:out.getLast? with
   |none =>
     have e:out = []:=List.getLast?_eq_none_iff.1 hl;subst e;exact key [s] (List.pairwise_singleton ..) (Same.refl _) (fun x hx'=>.inr (AdY.1 hx'))
   |some x =>
     obtain⟨pre,hpre⟩:=List.getLast?_eq_some_iff.1 hl;have hxm:x∈out:=by rw[hpre];exact Aez _ (AdY.2 rfl)
     have hxs:=hx x hxm s (AdM ..);show Stair (scan (if s.h<x.h then out ++ [s]else out) l)/\Same (scan (if s.h<x.h then out ++ [s]else out) l) (out++s::l)
     by_cases hh:s.h<x.h
     ·rw[if_pos hh];have hlow:∀y,y∈out->x.h<=y.h/\y.w<=x.w:=fun y hy=>by
       rw[hpre]at hy;rcases Aef.1 hy with hy|hy
       ·have h':=h;unfold Stair at h';rw[hpre,Af7]at h';have:=h'.2.2 y hy x (AdY.2 rfl);omega
       ·rw[AdY.1 hy];omega
      refine key (out ++ [s]) ?_ (Same.refl _) (fun y hy=>?_)
      ·unfold Stair;rw[Af7];refine⟨h,List.pairwise_singleton ..,fun y hy z hz=>?_⟩;rw[AdY.1 hz];have:=hlow y hy;omega
      ·rcases Aef.1 hy with hy|hy
       ·exact .inl hy
       ·exact .inr (AdY.1 hy)
     ·rw[if_neg hh];refine key out h (Same.of_sub (fun y hy=>cov_mem (Ae6 _ hy)) (fun y hy=>?_)) (fun y hy=>.inl hy);rcases Aef.1 hy with hy|hy
      ·exact cov_mem hy
      ·rw[AdY.1 hy];exact⟨x,hxm,by omega,by omega⟩
theorem Cu.scan_stair {l m:List Ac} (ha:Asc l) (hp:l.Perm m):scan [] l=stair m:=by
 obtain⟨h1,h2⟩:=scan_ok l [] List.Pairwise.nil ha (fun x hx=>by cases hx);exact stair_eq h1 (h2.trans (Same.of_mem (fun x=>hp.mem_iff)))
def Fu (a b:Ac):List Ac:=[⟨a.w+b.w,max a.h b.h⟩,⟨max a.w b.w,a.h+b.h⟩]
def EL (A B:List Ac):List Ac:=A.flatMap fun a=>B.flatMap fun b=>Fu a b
def Be (g:Int):Nat:=((AdP 4).find? (fun i=>decide (g=2 ^ i))).getD 0
def IJ (w:L.Sq Ab) (gr:Int) (i:Nat):List Ac:=([0,1].filter fun t=>Do (w.g i).grain gr t).map fun t=>Ch (w.g i).ol t
def AZ (g:Int) (k:Nat):Int:=Di g (Ao g k)
def Fv (T:Int->List Ac) (g:Int):Nat->List Ac
 |0=>[]
 |k+1=>Fv T g k++EL (T (Ao g k)) (T (AZ g k))
def BM (g:Int):Bool:=decide (BT g (g-1)=0)
def Ib (w:L.Sq Ab) (gr:Int) (T:Int->List Ac) (g:Int):List Ac :=
 if g=0 then [⟨0,0⟩]else if BM g=true then Cu.stair (IJ w gr (Be g))else Cu.stair (Fv T g (AJ g))
def DZ (w:L.Sq Ab) (gr:Int):Nat->List (List Ac)
 |0=>[]
 |k+1=>DZ w gr k ++ [Ib w gr (fun g=>(DZ w gr k).getD g.toNat []) k]
def AU (w:L.Sq Ab) (gr:Int) (g:Int):List Ac:=(DZ w gr 16).getD g.toNat []
def AD (l:List Ac):L.Sq Ac:=⟨l.length,fun i=>l.getD i ⟨0,0⟩⟩
def Ak (w:L.Sq Ab) (gr:Int) (g:Int):L.Sq Ac:=AD (AU w gr g)
def P9 (n:Nat):Bool:=decide (n=0)||(if BM n=true then decide ((n:Int)=2 ^ Be n)&&decide (Be n<4)else decide (0<AJ n)&&(AdP (AJ n)).all (fun k=>decide (0<Ao n k)&&decide (Ao n k<n)&&decide (0<AZ n k)&&decide (AZ n k<n)&&decide (Ao n k+AZ n k=n)))
theorem XD:((AdP 16).all P9)=true:=by kernel_rfl
theorem PA {g:Int} (h:1<=g) (h':g<=15) (h1:BM g=true):g=2 ^ Be g/\Be g<4:=by
 obtain⟨n,rfl⟩:=Aev (show 0<=g by omega);have:=AdO.1 XD n (AdQ.2 (by omega));unfold P9 at this;rw[if_pos h1,Aen,decide_eq_true_eq,oE,decide_eq_true_eq,decide_eq_true_eq]at this;rcases this with h|h
 ·omega
 ·exact h
theorem Hz {g:Int} (h:1<=g) (h':g<=15) (h1:BM g=false):0<AJ g/\∀k,k<AJ g->0<Ao g k/\Ao g k<g/\0<AZ g k/\AZ g k<g/\Ao g k+AZ g k=g:=by
 obtain⟨n,rfl⟩:=Aev (show 0<=g by omega);have:=AdO.1 XD n (AdQ.2 (by omega));unfold P9 at this;rw[if_neg (by rw[h1];decide),Aen,decide_eq_true_eq,oE,decide_eq_true_eq,AdO]at this;rcases this with h|⟨h,hk⟩
 ·omega
 ·refine⟨h,fun k hkk=>?_⟩;have:=hk k (AdQ.2 hkk);simp only[oE,decide_eq_true_eq]at this;exact⟨this.1.1.1.1,this.1.1.1.2,this.1.1.2,this.1.2,this.2⟩
theorem XE {T T':Int->List Ac} {g:Int} (h:∀p,0<=p->p<g->T p=T' p) (hp:∀k,k<AJ g->0<Ao g k/\Ao g k<g/\0<AZ g k/\AZ g k<g/\Ao g k+AZ g k=g):∀k,k<=AJ g->Fv T g k=Fv T' g k
 |0,_=>rfl
 |k+1,hk=>by
   obtain⟨h1,h2,h3,h4,_⟩:=hp k (by omega);rw[Fv,Fv,XE h hp k (by omega),h _ (by omega) h2,h _ (by omega) h4]
theorem wW {w:L.Sq Ab} {gr:Int} {T T':Int->List Ac} {g:Int} (h0:0<=g) (h15:g<=15) (h:∀p,0<=p->p<g->T p=T' p):Ib w gr T g=Ib w gr T' g:=by
 unfold Ib
 by_cases e:g=0
 ·rw[if_pos e,if_pos e]
 ·rw[if_neg e,if_neg e];cases h1:BM g with
  |true=>rfl
  |false =>
    rw[if_neg (by decide),if_neg (by decide),XE h (Hz (by omega) h15 h1).2 _ (AdS _)]
theorem MV (w:L.Sq Ab) (gr:Int):∀k,(DZ w gr k).length=k
 |0=>rfl
 |k+1=>by rw[DZ,Aei,MV w gr k];rfl
theorem PB (w:L.Sq Ab) (gr:Int):∀k m,m<=k->∀j,j<m->(DZ w gr k).getD j []=(DZ w gr m).getD j []
 |0,m,h,j,hj=>by omega
 |k+1,m,h,j,hj=>by
   by_cases e:m=k+1
   ·rw[e]
   ·rw[<- PB w gr k m (by omega) j hj,DZ];simp only[AS];rw[Aeh (by rw[MV];omega)]
theorem PC (w:L.Sq Ab) (gr:Int) {g:Int} (h0:0<=g) (h15:g<=15):AU w gr g=Ib w gr (AU w gr) g:=by
 obtain⟨n,rfl⟩:=Aev h0;have e1:AU w gr n=Ib w gr (fun g=>(DZ w gr n).getD g.toNat []) n:=by
  unfold AU;rw[Aea,PB w gr 16 (n+1) (by omega) n (by omega),DZ];simp only[AS];rw[Aej (by rw[MV];omega),MV,Nat.sub_self];rfl
 rw[e1];refine wW (by omega) h15 (fun p hp hpg=>?_);unfold AU;rw[PB w gr 16 n (by omega) p.toNat (by omega)]
theorem Lk (w:L.Sq Ab) (gr:Int):AU w gr 0 = [⟨0,0⟩]:=by
 rw[PC w gr (by decide) (by decide)];rfl
theorem PD (w:L.Sq Ab) (gr:Int) {g:Int} (h:1<=g) (h15:g<=15) (h1:BM g=true):AU w gr g=Cu.stair (IJ w gr (Be g)):=by
 rw[PC w gr (by omega) h15];unfold Ib;rw[if_neg (by omega),if_pos h1]
theorem Ll (w:L.Sq Ab) (gr:Int) {g:Int} (h:1<=g) (h15:g<=15) (h1:BM g=false):AU w gr g=Cu.stair (Fv (AU w gr) g (AJ g)):=by
 rw[PC w gr (by omega) h15];unfold Ib;rw[if_neg (by omega),if_neg (by rw[h1];decide)]
theorem wX (l:List Ac) (s:Ac):(Cu.ins l s).length<=l.length+1:=by
 unfold Cu.ins;split
 ·omega
 ·rw[Aei,Ae3];have h:∀l:List Ac,(l.filter (fun x=>decide (x.w<s.w))).length+(l.filter (fun x=>decide (s.w<x.w) && !Cu.leB s x)).length<=l.length:=fun l=>by
   induction l with
   |nil=>simp
   |cons a l ih =>
     by_cases h1:a.w<s.w
     ·rw[List.filter_cons_of_pos (by simpa using h1),List.filter_cons_of_neg (by simp;omega),Ae3,Ae3];omega
     ·rw[List.filter_cons_of_neg (by simpa using h1),Ae3];have:=Afe (fun x=>decide (s.w<x.w) && !Cu.leB s x) [a];rw[show a::l = [a]++l from rfl,List.filter_append,Aei];simp at this;omega
  have:=h l;omega
theorem PE (l:List Ac):(Cu.stair l).length<=l.length:=by
 have h:∀(l a:List Ac),(l.foldl Cu.ins a).length<=a.length+l.length:=fun l=>by
  induction l with
  |nil=>intro a;simp
  |cons s l ih=>intro a;rw[List.foldl_cons,Ae3];have:=ih (Cu.ins a s);have:=wX a s;omega
 have:=h l [];simpa[Cu.stair]using this
theorem wY {l:List Ac} {s x:Ac} (h:x∈Cu.ins l s):x∈l\/x=s:=by
 unfold Cu.ins at h;split at h
 ·exact .inl h
 ·rcases Aef.1 h with h|h
  ·exact .inl (AdK.1 h).1
  ·rcases AdR.1 h with h|h
   ·exact .inr h
   ·exact .inl (AdK.1 h).1
theorem PF {l:List Ac} {x:Ac} (h:x∈Cu.stair l):x∈l:=by
 have k:∀(l a:List Ac),x∈l.foldl Cu.ins a->x∈a\/x∈l:=fun l=>by
  induction l with
  |nil=>intro a h;exact .inl h
  |cons s l ih =>
    intro a h;rcases ih _ h with h|h
    ·rcases wY h with h|h
     ·exact .inl h
     ·exact .inr (h ▸ AdM ..)
    ·exact .inr (AdJ _ h)
 rcases k l [] h with h|h
 ·cases h
 ·exact h
theorem XF (A B:List Ac):(EL A B).length=2*(A.length*B.length):=by
 have h:∀a:Ac,(B.flatMap fun b=>Fu a b).length=2*B.length:=fun a=>by
  induction B with
  |nil=>rfl
  |cons b B ih=>rw[List.flatMap_cons,Aei,ih,Ae3];show 2+_=_;omega
 unfold EL
 induction A with
 |nil=>simp
 |cons a A ih=>rw[List.flatMap_cons,Aei,h,ih,Ae3,Nat.add_mul];omega
def XG:Nat->List Nat
 |0=>[]
 |n+1=>let T:=XG n;T ++ [if n=0 then 1 else if BM n=true then 2 else((AdP (AJ n)).map fun k=>2*(T.getD (Ao n k).toNat 0*T.getD (AZ n k).toNat 0)).sum]
def cb (g:Int):Nat:=(XG 16).getD g.toNat 0
def IK (g:Int) (k:Nat):Nat:=((AdP k).map fun k=>2*(cb (Ao g k)*cb (AZ g k))).sum
def XH (n:Nat):Bool:=decide (cb n<=2000)&&(decide (n=0)||(if BM n=true then decide (cb n=2)else decide (cb n=IK n (AJ n))))
theorem wZ:((AdP 16).all XH)=true:=by kernel_rfl
theorem Lm {g:Int} (h:0<=g) (h':g<=15):cb g<=2000/\(1<=g->BM g=true->cb g=2)/\(1<=g->BM g=false->cb g=IK g (AJ g)):=by
 obtain⟨n,rfl⟩:=Aev h;have:=AdO.1 wZ n (AdQ.2 (by omega));unfold XH at this;rw[oE,decide_eq_true_eq,Aen,decide_eq_true_eq]at this;obtain⟨h1,h2⟩:=this;refine⟨h1,fun h3 h4=>?_,fun h3 h4=>?_⟩
 ·rcases h2 with h2|h2
  ·omega
  ·rw[if_pos h4,decide_eq_true_eq]at h2;exact h2
 ·rcases h2 with h2|h2
  ·omega
  ·rw[if_neg (by rw[h4];decide),decide_eq_true_eq]at h2;exact h2
theorem xA (f:Nat->Nat) (k:Nat):((AdP (k+1)).map f).sum=((AdP k).map f).sum+f k:=by
 rw[Afb,Af3,List.sum_append];simp
theorem PG (g:Int) (k:Nat):IK g (k+1)=IK g k+2*(cb (Ao g k)*cb (AZ g k)):=xA _ _
theorem XI (g:Int):∀{k m},k<=m->IK g k<=IK g m:=fun {k m} h=>by
 induction m with
 |zero=>rw[show k=0 by omega];exact AdS _
 |succ m ih =>
   by_cases e:k=m+1
   ·rw[e];exact AdS _
   ·rw[PG];have:=ih (by omega);omega
structure MW (T:Int->List Ac) (g:Int):Prop where
 len:(T g).length<=cb g
 bd:∀s,s∈T g->0<=s.w/\s.w<=4096*g/\0<=s.h/\s.h<=4096*g
theorem xB {A B:List Ac} {p q g:Int} (hA:∀s,s∈A->0<=s.w/\s.w<=4096*p/\0<=s.h/\s.h<=4096*p) (hB:∀s,s∈B->0<=s.w/\s.w<=4096*q/\0<=s.h/\s.h<=4096*q) (e:p+q=g):∀s,s∈EL A B->0<=s.w/\s.w<=4096*g/\0<=s.h/\s.h<=4096*g:=fun s hs=>by
 unfold EL at hs;obtain⟨a,ha,hs⟩:=Aex.1 hs;obtain⟨b,hb,hs⟩:=Aex.1 hs;have h1:=hA a ha;have h2:=hB b hb;unfold Fu at hs;rcases AdR.1 hs with rfl|hs
 ·simp only;omega
 ·rcases AdR.1 hs with rfl|hs
  ·simp only;omega
  ·cases hs
theorem XJ (l:L.Sq L.Pt) (t:Int):0<=(Ch l t).w/\(Ch l t).w<=4096/\0<=(Ch l t).h/\(Ch l t).h<=4096:=by
 have hb:=Px l;have hle:(BO l).x<=(BP l).x/\(BO l).y<=(BP l).y:=by
  unfold BO BP;cases hv:AB l with
  |false=>exact⟨Ael _,Ael _⟩
  |true =>
    obtain⟨n3,_,_,_⟩:=Fr hv;simp only[cond_true];have h1:=Pv (l:=l) l.n 0 (by omega);have h2:=Pw (l:=l) l.n 0 (by omega);omega
 unfold Ch;cases decide (t=1)<;>simp only[cond_true,cond_false]<;>omega
theorem PH {T:Int->List Ac} {g:Int} (hT:∀p,0<=p->p<g->MW T p) (hp:∀k,k<AJ g->0<Ao g k/\Ao g k<g/\0<AZ g k/\AZ g k<g/\Ao g k+AZ g k=g):∀k,k<=AJ g->(Fv T g k).length<=IK g k/\∀s,s∈Fv T g k->0<=s.w/\s.w<=4096*g/\0<=s.h/\s.h<=4096*g
 |0,_=>⟨AdL _,fun s hs=>by cases hs⟩
 |k+1,hk=>by
   obtain⟨h1,h2⟩:=PH hT hp k (by omega);obtain⟨p1,p2,p3,p4,p5⟩:=hp k (by omega);have hA:=hT _ (Ae4 p1) p2;have hB:=hT _ (Ae4 p3) p4;rw[Fv];refine⟨?_,fun s hs=>?_⟩
   ·rw[Aei,XF,PG];have:=Nat.mul_le_mul hA.len hB.len;omega
   ·rcases Aef.1 hs with hs|hs
    ·exact h2 s hs
    ·exact xB hA.bd hB.bd p5 s hs
theorem XK (w:L.Sq Ab) (gr:Int) (i:Nat):(IJ w gr i).length<=2:=by
 unfold IJ;rw[Ae7];exact Afe _ _
theorem xC (w:L.Sq Ab) (gr:Int):∀(n:Nat),n<=15->MW (AU w gr) n:=by
 intro n
 induction n using Nat.strongRecOn with
 |_ n ih =>
   intro hn
   by_cases h0:n=0
   ·subst h0;refine⟨by rw[show((0:Nat):Int)=0 from rfl,Lk];decide,fun s hs=>?_⟩;rw[show((0:Nat):Int)=0 from rfl,Lk]at hs;rw[AdY.1 hs];decide
   have hc:=Lm (g:=n) (by omega) (by omega);cases h1:BM n with
   |true =>
     have e:=PD w gr (g:=n) (by omega) (by omega) h1;refine⟨?_,fun s hs=>?_⟩
     ·rw[e,hc.2.1 (by omega) h1];exact Aeu (PE _) (XK _ _ _)
     ·rw[e]at hs;have hs:=PF hs;unfold IJ at hs;obtain⟨t,_,rfl⟩:=List.mem_map.1 hs;have:=XJ (w.g (Be n)).ol t;omega
   |false =>
     have e:=Ll w gr (g:=n) (by omega) (by omega) h1;obtain⟨h2,h3⟩:=PH (T:=AU w gr) (g:=n) (fun p hp hpn=>by
      obtain⟨m,rfl⟩:=Aev hp;exact ih m (by omega) (by omega)) (Hz (by omega) (by omega) h1).2 _ (AdS _)
     refine⟨?_,fun s hs=>?_⟩
     ·rw[e,hc.2.2 (by omega) h1];exact Aeu (PE _) h2
     ·rw[e]at hs;exact h3 s (PF hs)
theorem IL (w:L.Sq Ab) (gr:Int) {g:Int} (h:0<=g) (h':g<=15):MW (AU w gr) g:=by
 obtain⟨n,rfl⟩:=Aev h;exact xC w gr n (by omega)
theorem xD {n:Nat} {f u:Nat->Ac} (h:Dj Du n f u):CT u n=Cu.stair ((AdP n).map f):=by
 have e:∀k,CT u k=Cu.scan [] ((AdP k).map u):=fun k=>by
  have step:∀(l:List Ac) (x:Ac) (out:List Ac),Cu.scan out (l ++ [x])=(match (Cu.scan out l).getLast? with|none=>Cu.scan out l ++ [x]|some y=>if x.h<y.h then Cu.scan out l ++ [x]else Cu.scan out l):=fun l x=>by
   induction l with
   |nil=>intro out;simp only[Afl,Cu.scan]
   |cons a l ih=>intro out;simp only[List.cons_append,Cu.scan];exact ih _
  induction k with
  |zero=>rfl
  |succ k ih=>rw[CT,Afb,Af3,List.map_singleton,step,<- ih];all_goals (cases(CT u k).getLast?<;>rfl)
 rw[e];refine Cu.scan_stair ?_ h.perm;unfold Cu.Asc;rw[AeV];intro i j hi hj hij;simp only[Ae7,List.length_range]at hi hj;have:=h.asc i j hij hj;simp only[List.getElem_map,List.getElem_range];rw[Xy]at this;omega
theorem xE (l:List Ac):Cu.stair (Cu.stair l)=Cu.stair l:=Cu.stair_congr (Cu.stair_ok l).2
theorem xF (l m:List Ac):Cu.stair (Cu.stair l++m)=Cu.stair (l++m):=Cu.stair_congr ((Cu.stair_ok l).2.append (Cu.Same.refl m))
theorem xG (l:List Ac):(AdP l.length).map (AD l).g=l:=by
 apply List.ext_getElem
 ·simp
 ·intro i h1 h2;simp[AD,AS,h2]
section
attribute [local irreducible] DZ AU
def Em (w:L.Sq Ab) (gr:Int) (i t:Nat):List Ac:=(([0,1]:List Int).take t |>.filter fun t=>Do (w.g i).grain gr t).map fun t=>Ch (w.g i).ol t
def E6 (w:L.Sq Ab) (gr g:Int) (k:Nat):List Ac:=Cu.stair (Fv (AU w gr) g k)
def DL (w:L.Sq Ab) (gr g:Int) (k i:Nat):List Ac:=E6 w gr g k++EL ((AU w gr (Ao g k)).take i) (AU w gr (AZ g k))
def EM (w:L.Sq Ab) (gr g:Int) (k i j:Nat):List Ac:=DL w gr g k i++((AU w gr (AZ g k)).take j).flatMap fun b=>Fu ((Ak w gr (Ao g k)).g i) b
def IM (w:L.Sq Ab) (gr g:Int) (X:List Ac):Prop:=Cu.stair X=AU w gr g/\X.length<=1000000
def Bv (w:L.Sq Ab):Prop:=w.n<=4/\∀i,i<w.n->(w.g i).ol.n<=1000000
theorem iK {n:Int} (h : -9223372036854775808<=n:=by omega) (k:n<=9223372036854775807:=by omega):Ad .i64 n:=⟨h,k⟩
def XL (n:Nat):Bool:=BM n||(AdP (AJ n)).all (fun k=>(AdP (AJ n)).all fun k'=>decide (k=k') || !decide (Ao n k=Ao n k'))
theorem xH:((AdP 16).all XL)=true:=by kernel_rfl
theorem MX {g:Int} (h:1<=g) (h':g<=15) (h1:BM g=false) {k k':Nat} (hk:k<AJ g) (hk':k'<AJ g) (e:Ao g k=Ao g k'):k=k':=by
 obtain⟨n,rfl⟩:=Aev (show 0<=g by omega);have:=AdO.1 xH n (AdQ.2 (by omega));unfold XL at this;rw[h1,Bool.false_or,AdO]at this;have:=AdO.1 (this k (AdQ.2 hk)) k' (AdQ.2 hk');rw[Aen,decide_eq_true_eq]at this;rcases this with h|h
 ·exact h
 ·rw[e]at h;simp at h
theorem XM {n:Nat} (h:n<=4):AM n=2 ^ n-1:=by
 have:n=0\/n=1\/n=2\/n=3\/n=4:=by omega
 rcases this with rfl|rfl|rfl|rfl|rfl<;>decide
theorem MY {n:Nat} (h:n<=4):AM n<=15:=(Gi h).2.1
theorem XN {n:Nat} (h:n<=4) {g:Int} (h1:1<=g) (hg:g<=AM n) (ho:BM g=true):Be g<n:=by
 obtain⟨e,hl⟩:=PA h1 (Afy hg (MY h)) ho;rw[e,XM h]at hg;generalize Be g=i at *;have h2:n=0\/n=1\/n=2\/n=3\/n=4:=by omega
 have h3:i=0\/i=1\/i=2\/i=3:=by omega
 rcases h2 with rfl|rfl|rfl|rfl|rfl<;>rcases h3 with rfl|rfl|rfl|rfl<;>simp at hg ⊢
theorem MZ {i k:Nat} (hi:i<4) (hk:k<=i):(1<Ev (2 ^ i) k)↔k<i:=by
 have h3:i=0\/i=1\/i=2\/i=3:=by omega
 have h4:k=0\/k=1\/k=2\/k=3:=by omega
 rcases h3 with rfl|rfl|rfl|rfl<;>rcases h4 with rfl|rfl|rfl|rfl<;>first|(exfalso;omega)|decide
def En (s:Ac):List SV:=[.int .i64 s.w,.int .i64 s.h]
theorem Nc {X Y:List Ac} (h:X=Y):(AD X).n=(AD Y).n/\∀i,i<(AD X).n->En ((AD X).g i)=En ((AD Y).g i):=by rw[h];exact⟨rfl,fun _ _=>rfl⟩
theorem Ln {X Y Z:List Ac} (h:Y=X++Z) {r:Nat->List SV} (hr:∀i,i<Z.length->r i=En (Z.getD i ⟨0,0⟩)):(AD X).n+Z.length=(AD Y).n/\∀i,i<(AD X).n+Z.length->AN (AD X).n (fun j=>En ((AD X).g j)) r i=En ((AD Y).g i):=by
 subst h;refine⟨by simp[AD],fun i hi=>?_⟩;unfold AN
 by_cases e:i<(AD X).n
 ·rw[if_pos e];have e':i<X.length:=e;simp[AD,AS,Aeh e']
 ·rw[if_neg e];have e':¬ i<X.length:=e;have hi:i<X.length+Z.length:=hi;rw[show(AD X).n=X.length from rfl,hr (i-X.length) (by omega)];simp[AD,AS,Aej (show X.length<=i by omega)]
theorem XO {X:List Ac} {u:Nat->Ac} (h:Dj Du (AD X).n (AD X).g u) {Y:List Ac} (hY:Cu.stair X=Y):Bc u (AD X).n=(AD Y).n/\∀i,i<Bc u (AD X).n->En (BH u (AD X).n i)=En ((AD Y).g i):=by
 have e:CT u (AD X).n=Y:=by rw[xD h,show(AD X).n=X.length from rfl,xG,hY]
 unfold Bc BH AD at *;simp only at e ⊢;rw[e];exact⟨rfl,fun _ _=>rfl⟩
theorem xI (w:L.Sq Ab) (gr g:Int) (k i:Nat) {j:Nat} (hj:j<(Ak w gr (AZ g k)).n):EM w gr g k i (j+1)=EM w gr g k i j++Fu ((Ak w gr (Ao g k)).g i) ((Ak w gr (AZ g k)).g j):=by
 have hj:j<(AU w gr (AZ g k)).length:=hj;unfold EM;rw[Af1,AdH hj,Afu,<- AeG];simp[Ak,AD,AS,hj]
theorem xJ (w:L.Sq Ab) (gr g:Int) (k:Nat) {i:Nat} (hi:i<(Ak w gr (Ao g k)).n):EM w gr g k i (Ak w gr (AZ g k)).n=DL w gr g k (i+1):=by
 have hi:i<(AU w gr (Ao g k)).length:=hi;unfold EM DL;rw[show(Ak w gr (AZ g k)).n=(AU w gr (AZ g k)).length from rfl,Afz,Af1,AdH hi];unfold EL;rw[Afu,<- AeG];simp[Ak,AD,AS,hi]
theorem xK (w:L.Sq Ab) (gr g:Int) (k:Nat):DL w gr g k 0=E6 w gr g k:=by unfold DL EL;simp
theorem xL (w:L.Sq Ab) (gr g:Int) (k i:Nat):EM w gr g k i 0=DL w gr g k i:=by unfold EM;simp
theorem xM (w:L.Sq Ab) (gr g:Int) (k:Nat):Cu.stair (DL w gr g k (Ak w gr (Ao g k)).n)=E6 w gr g (k+1):=by
 unfold DL E6;rw[show(Ak w gr (Ao g k)).n=(AU w gr (Ao g k)).length from rfl,Afz,xF];rfl
theorem XP (w:L.Sq Ab) (gr:Int) (i:Nat) {t:Nat} (ht:t<2):Em w gr i (t+1)=Em w gr i t++(if Do (w.g i).grain gr t=true then [Ch (w.g i).ol t]else []):=by
 unfold Em;have h:t=0\/t=1:=by omega
 rcases h with rfl|rfl
 ·simp only[List.take,List.filter_nil,List.map_nil,Afl];show AeS _ (Af8 _ [0])=_;cases h:Do (w.g i).grain gr 0<;>simp[Af8,h]
 ·show AeS _ (Af8 _ [0,1])=AeS _ (Af8 _ [0])++_;cases h:Do (w.g i).grain gr 0<;>cases h2:Do (w.g i).grain gr 1<;>simp[Af8,h,h2]
theorem XQ (w:L.Sq Ab) (gr:Int) {g:Int} (h:1<=g) (h':g<=15) (h1:BM g=false) {k i j:Nat} (hk:k<AJ g):(EM w gr g k i j).length<=10000/\(DL w gr g k i).length<=10000/\(E6 w gr g k).length<=2000:=by
 obtain⟨hp0,hp⟩:=Hz h h' h1;obtain⟨p1,p2,p3,p4,p5⟩:=hp k hk;have hc:=Lm (g:=g) (by omega) h';have hT:∀p,0<=p->p<g->MW (AU w gr) p:=fun p hp hpg=>IL w gr hp (by omega);have e1:(E6 w gr g k).length<=2000:=by
  have h2:=(PH hT hp k (by omega)).1;have h3:=PE (Fv (AU w gr) g k);have h4:=XI g (show k<=AJ g by omega);have h5:=hc.2.2 h h1;unfold E6;omega
 have hpk:2*(cb (Ao g k)*cb (AZ g k))<=2000:=by
  have h4:=XI g (show k+1<=AJ g by omega);rw[PG]at h4;have h5:=hc.2.2 h h1;omega
 have hA:=(hT _ (Ae4 p1) p2).len;have hB:=(hT _ (Ae4 p3) p4).len;have hc2:=(Lm (g:=AZ g k) (by omega) (by omega)).1;have e2:(DL w gr g k i).length<=4000:=by
  unfold DL;rw[Aei,XF];have:(List.take i (AU w gr (Ao g k))).length<=cb (Ao g k):=by rw[Afx];omega
  have:=Nat.mul_le_mul this hB;omega
 refine⟨?_,by omega,e1⟩;unfold EM;rw[Aei];have hfm:∀(a:Ac) (B:List Ac),(B.flatMap fun b=>Fu a b).length=2*B.length:=fun a B=>by
  induction B with
  |nil=>rfl
  |cons b B ih=>rw[List.flatMap_cons,Aei,ih,Ae3];show 2+_=_;omega
 rw[hfm,Afx];omega
theorem IN (w:L.Sq Ab) (gr:Int) {g:Int} (h:0<=g) (h':g<=15):(AU w gr g).length<=2000:=Aeu (IL w gr h h').len (Lm h h').1
theorem JK {w:L.Sq Ab} {gr g:Int} {i:Nat} (h:i<(Ak w gr g).n):(Ak w gr g).g i∈AU w gr g:=by
 have h:i<(AU w gr g).length:=h;show(AU w gr g).getD i ⟨0,0⟩∈_;rw[AS,AdH h];exact List.getElem_mem h
theorem xN (w:L.Sq Ab) (gr:Int) {g:Int} (h:1<=g) (h15:g<=15) (h1:BM g=false):IM w gr g (E6 w gr g (AJ g)):=by
 have e:E6 w gr g (AJ g)=AU w gr g:=(Ll w gr h h15 h1).symm;refine⟨?_,?_⟩
 ·rw[e,Ll w gr h h15 h1,xE]
 ·rw[e];have:=(IL w gr (by omega) h15 (g:=g)).len;have:=(Lm (g:=g) (by omega) h15).1;omega
section
attribute [local irreducible] AJ Ao AM
abbrev H0:Mk:={ T:=(L.Sq Ab)×(Int)×(Int->Bool)×(Int),U:=Int->Bool,args:=fun t=>(fun w gr dom g=>[.loc 1000 0,.p (.int .i64 g)]) t.1 t.2.1 t.2.2.1 t.2.2.2,lkeys:=[1000,1001],keys:=[],lent:=fun t=>(fun w gr dom g=>[(1000,.blk 130 [.p ((.sl 4 w.n (fun i=>[.int .i64 ((w.g i).id),.int .i64 ((w.g i).colour),.int .i64 ((w.g i).grain),.sl 2 (w.g i).ol.n (fun i1=>[.int .i64 (((w.g i).ol.g i1).x),.int .i64 (((w.g i).ol.g i1).y)])]))),.p (.int .i64 gr),.mapv 1001]),(1001,.mq 3 27 dom (Aj (Ak w gr)))]) t.1 t.2.1 t.2.2.1 t.2.2.2,pre:=fun t=>(fun w gr dom g=>Bv w/\0<=g/\g<=AM w.n) t.1 t.2.1 t.2.2.1 t.2.2.2,post:=fun t u=>(fun w gr dom g=>fun u=>True) t.1 t.2.1 t.2.2.1 t.2.2.2 u,lent':=fun t u=>(fun w gr dom g=>fun u=>[(1000,.blk 130 [.p ((.sl 4 w.n (fun i=>[.int .i64 ((w.g i).id),.int .i64 ((w.g i).colour),.int .i64 ((w.g i).grain),.sl 2 (w.g i).ol.n (fun i1=>[.int .i64 (((w.g i).ol.g i1).x),.int .i64 (((w.g i).ol.g i1).y)])]))),.p (.int .i64 gr),.mapv 1001]),(1001,.mq 3 27 u (Aj (Ak w gr)))]) t.1 t.2.1 t.2.2.1 t.2.2.2 u,own:=fun t u=>(fun w gr dom g=>fun u=>[]) t.1 t.2.1 t.2.2.1 t.2.2.2 u,res:=fun t u=>(fun w gr dom g=>fun u=>.p (Aj (Ak w gr) g)) t.1 t.2.1 t.2.2.1 t.2.2.2 u }
abbrev XR:H0.T->Nat:=fun t=>(fun w gr dom g=>g.toNat) t.1 t.2.1 t.2.2.1 t.2.2.2
theorem xO (rn:Nat) (w:L.Sq Ab) (gr:Int) (dom:Int->Bool) (g:Int) (hp:H0.pre (w,gr,dom,g)) (hmu:g.toNat<rn+1):vc Tryz.prog ({ muts:=[2,80],frz:=B8 [],specs:=AC [(75,P5),(73,P2),(74,MS)],loops:=AT [(21,{ T:=Nat,keep:=[2,3,7],keepO:=[2,7,80,1000,1001],chg:=fun i=>[(8,.p (.int .i64 (i:Int)))],own:=fun _=>[],inv:=fun i=>i<=Be g,mu:=fun i=>Be g-i }),(24,{ T:=Nat,keep:=[2,3,7,8],keepO:=[2,1000,1001],chg:=fun i=>[(93,.p (.int .i64 (i:Int)))],own:=fun t=>[(7,.blk 27 [.row 80]),(80,.row 74 2 (AD (Em w gr (Be g) t)).n (fun j=>[.int .i64 ((AD (Em w gr (Be g) t)).g j).w,.int .i64 ((AD (Em w gr (Be g) t)).g j).h]))],inv:=fun i=>i<=2,mu:=fun i=>2-i }),(8,{ T:=Nat×(Int->Bool)×Nat,keep:=[2,3,7,10,31,32],keepO:=[2,1000],chg:=fun t=>[(33,.p (.int .i64 (t.1:Int)))],own:=fun t=>[(7,.blk 27 [.row 80]),(80,.row 74 2 (AD (DL w gr g t.2.2 t.1)).n (fun j=>[.int .i64 ((AD (DL w gr g t.2.2 t.1)).g j).w,.int .i64 ((AD (DL w gr g t.2.2 t.1)).g j).h])),(1001,.mq 3 27 t.2.1 (Aj (Ak w gr)))],inv:=fun t=>t.1<=(Ak w gr (Ao g t.2.2)).n/\t.2.2<AJ g,mu:=fun t=>(Ak w gr (Ao g t.2.2)).n-t.1,tie:=fun t=>[(10,.int .i64 (Ao g t.2.2))] }),(11,{ T:=Nat×Nat×Nat,keep:=[2,3,7,10,12,31,32,33,41,42],keepO:=[2,12,1000,1001],chg:=fun t=>[(43,.p (.int .i64 (t.1:Int)))],own:=fun t=>[(7,.blk 27 [.row 80]),(80,.row 74 2 (AD (EM w gr g t.2.1 t.2.2 t.1)).n (fun j=>[.int .i64 ((AD (EM w gr g t.2.1 t.2.2 t.1)).g j).w,.int .i64 ((AD (EM w gr g t.2.1 t.2.2 t.1)).g j).h]))],inv:=fun t=>t.1<=(Ak w gr (AZ g t.2.1)).n/\t.2.1<AJ g,mu:=fun t=>(Ak w gr (AZ g t.2.1)).n-t.1,tie:=fun t=>[(10,.int .i64 (Ao g t.2.1)),(33,.int .i64 (t.2.2:Int))] })],iters:=B3 [(119,P4)],rfs:=AP [(6,{ T:=Int->Bool,keep:=[2,3,7],keepO:=[1000,2],own:=fun k d=>[(7,.blk 27 [.row 80]),(80,.row 74 2 (AD (E6 w gr g k)).n (fun j=>[.int .i64 ((AD (E6 w gr g k)).g j).w,.int .i64 ((AD (E6 w gr g k)).g j).h])),(1001,.mq 3 27 d (Aj (Ak w gr)))],inv:=fun k _=>k<=AJ g })],nils:=B6 [(5,[(7,80,74,2)]),(20,[(7,80,74,2)])],mks:=DF [(76,JJ),(36,Mk.lt H0 XR rn)],ren:=fun k=>if k=1010 then 131 else if k=32 then 80 else k,joins:=AT [(29,{ T:=(Int->Bool)×List Ac,keep:=[2,3,7],keepO:=[2,1000],chg:=fun _=>[],own:=fun t=>[(7,.blk 27 [.row 80]),(80,.row 74 2 (AD (t.2)).n (fun j=>[.int .i64 ((AD (t.2)).g j).w,.int .i64 ((AD (t.2)).g j).h])),(1001,.mq 3 27 t.1 (Aj (Ak w gr)))],inv:=fun t=>IM w gr g t.2,mu:=fun _=>0 }),(30,{ T:=Int->Bool,keep:=[2,3],keepO:=[2,1000],chg:=fun _=>[],own:=fun t=>[(1001,.mq 3 27 t (Aj (Ak w gr)))],inv:=fun t=>t g=true,mu:=fun _=>0 })],anys:=[1,27,29,30],rek:=L8 [(16,[(80,131)]),(29,[(80,131)])] }) (Ai Tryz.f36) (Dy Tryz.f36 (H0.args (w,gr,dom,g)) (H0.lent (w,gr,dom,g))) (Fq Tryz.prog Tryz.f36 H0 (w,gr,dom,g)):=
 @Eq.mpr _ (let I:=SV.int .i64;let T:=Aee;let A68:=(0:Nat);let A63:=(nat_lit 3);let A62:=(nat_lit 7);let A48:=(nat_lit 2);let A46:=(AD (E6 w gr g A68));let A42:=(140737488355328:Nat);let A41:=(1000000:Nat);let A32:=(Be g);let A29:=(AD (E6 w gr g (AJ g)));let A26:=(∀(x:Int),dom x=dom x);let A25:=(0:Int);let A24:=(1
:Int);let A21:=(2:Nat);let A13:=(nat_lit 0);let A12:=(Ak w gr);let A10:=(Ak w gr g);let A16:=(A10.n=A10.n/\∀(i:Nat),let A76:=[I (A10.g i).w,I (A10.g i).h];i<A10.n->A76=A76);let A7:=(∀(x:Int),dom x=true->Aj A12 x=Aj A12 x);let A2:=(w.n=w.n/\∀(i:Nat),let A20:=[I (w.g i).id,I (w.g i).colour,I (w.g i).grain,SV.sl
 A21 (w.g i).ol.n fun(i1:Nat)=>[I ((w.g i).ol.g i1).x,I ((w.g i).ol.g i1).y]];i<w.n->A20=A20);let A1:=((decide (g=A25)=true->∃(g_1:(Int->Bool)×List Ac),let A80:=(AD g_1.2);nat_lit 0=nat_lit 0/\SV.ref [I g] A13=SV.ref [I g] A13/\nat_lit 0=nat_lit 0/\(nat_lit 1=A80.n/\∀(i:Nat),i<nat_lit 1->Ce [I A25,I A25]
 A48 i = [I (A80.g i).w,I (A80.g i).h])/\(∀(x:Int),dom x=g_1.1 x)/\A7/\nat_lit 0=nat_lit 0/\A2/\gr=gr/\IM w gr g g_1.2)/\(decide (g=A25)=false->Ad .i64 (g-A24)/\(decide (BT g (g-A24)=A25)=true->(∃(g_1:Nat),A25=(↑g_1:Int)/\g_1<=Be g)/\∀(g_1:Nat),let A18:=(↑g_1:Int);let A71:=(A25 <=
 A18/\A18<(↑w.n:Int));let A9:=(w.g (T A18));let A22:=((∀(i:Nat),let A69:=[I (A9.ol.g i).x,I (A9.ol.g i).y];i<A9.ol.n->A69=A69)/\A9.ol.n<=A41);g_1<=Be g->A25<=A18/\(decide (A24<Ev g A18)=true->Ad .i64 (A18+A24)/\∃(g':Nat),A18+A24=(↑g':Int)/\nat_lit 0=nat_lit 0/\SV.ref [I g] A13=SV.ref [I
 g] A13/\nat_lit 0=nat_lit 0/\(nat_lit 0=nat_lit 0/\∀(i:Nat),i<nat_lit 0->([]:List SV)= [])/\nat_lit 0=nat_lit 0/\A2/\gr=gr/\A26/\A7/\g'<=Be g/\Be g-g'<Be g-g_1)/\(decide (A24<Ev g A18)=false->(∃(g_2:Nat),let A50:=(AD (Em w gr A32 g_2));A25=(↑g_2:Int)/\(nat_lit 0=A50.n/\∀(i:Nat),i<nat_lit 0
 -> []= [I (A50.g i).w,I (A50.g i).h])/\g_2<=A21)/\∀(g_2:Nat),let A19:=(↑g_2:Int);let A79:=(A19+A24);let A6:=(AD (Em w gr A32 g_2));let A70:=(A6.n+nat_lit 1);g_2<=A21->(decide (A19<(2:Int))=true->A71/\True/\(Do A9.grain gr A19=true->A71/\(A22/\A70*nat_lit 16<=A42/\Ad .i64 A79/\∃(g':Nat),let A54 :=
 (AD (Em w gr A32 g'));A19+A24=(↑g':Int)/\A18=A18/\nat_lit 0=nat_lit 0/\SV.ref [I g] A13=SV.ref [I g] A13/\nat_lit 0=nat_lit 0/\(A6.n+nat_lit 1=A54.n/\∀(i:Nat),let A51:=(Ch (L.Sq.mk A9.ol.n fun(i:Nat)=>A9.ol.g i) A19);i<A6.n+nat_lit 1->AN A6.n (fun(j:Nat)=>[I (A6.g j).w,I (A6.g j).h]) (fun(x:Nat)=>[I A51.w,I A51.h])
 i = [I (A54.g i).w,I (A54.g i).h])/\nat_lit 0=nat_lit 0/\A2/\gr=gr/\A26/\A7/\g'<=A21/\A21-g'<A21-g_2)/\A22/\(A70*nat_lit 16<=A42/\Ad .i64 A79/\∃(g':Nat),let A55:=(AD (Em w gr A32 g'));A19+A24=(↑g':Int)/\A18=A18/\nat_lit 0=nat_lit 0/\SV.ref [I g] A13=SV.ref [I g] A13/\nat_lit 0=nat_lit 0/\(A6.n+nat_lit 1 =
 A55.n/\∀(i:Nat),let A52:=(Ch (L.Sq.mk A9.ol.n fun(i:Nat)=>A9.ol.g i) A19);i<A6.n+nat_lit 1->AN A6.n (fun(j:Nat)=>[I (A6.g j).w,I (A6.g j).h]) (fun(x:Nat)=>[I A52.w,I A52.h]) i = [I (A55.g i).w,I (A55.g i).h])/\nat_lit 0=nat_lit 0/\A2/\gr=gr/\A26/\A7/\g'<=A21/\A21-g'<A21-g_2)/\A70*nat_lit 16<=A42/\Ad .i64 A79/\∃(g' :
 Nat),let A56:=(AD (Em w gr A32 g'));A19+A24=(↑g':Int)/\A18=A18/\nat_lit 0=nat_lit 0/\SV.ref [I g] A13=SV.ref [I g] A13/\nat_lit 0=nat_lit 0/\(A6.n+nat_lit 1=A56.n/\∀(i:Nat),let A53:=(Ch (L.Sq.mk A9.ol.n fun(i:Nat)=>A9.ol.g i) A19);i<A6.n+nat_lit 1->AN A6.n (fun(j:Nat)=>[I (A6.g j).w,I (A6.g j).h]) (fun(x:Nat)=>[I
 A53.w,I A53.h]) i = [I (A56.g i).w,I (A56.g i).h])/\nat_lit 0=nat_lit 0/\A2/\gr=gr/\A26/\A7/\g'<=A21/\A21-g'<A21-g_2)/\(Do A9.grain gr A19=false->Ad .i64 A79/\∃(g':Nat),let A57:=(AD (Em w gr A32 g'));A19+A24=(↑g':Int)/\A18=A18/\nat_lit 0=nat_lit 0/\SV.ref [I g] A13=SV.ref [I g] A13/\nat_lit 0=nat_lit 0 /\
 (A6.n=A57.n/\∀(i:Nat),i<A6.n -> [I (A6.g i).w,I (A6.g i).h]= [I (A57.g i).w,I (A57.g i).h])/\nat_lit 0=nat_lit 0/\A2/\gr=gr/\A26/\A7/\g'<=A21/\A21-g'<A21-g_2))/\(decide (A19<(2:Int))=false->∃(g_3:(Int->Bool)×List Ac),let A81:=(AD g_3.2);nat_lit 0=nat_lit 0/\SV.ref [I g] A13=SV.ref [I g] A13/\nat_lit 0=nat_lit
 0/\(A6.n=A81.n/\∀(i:Nat),i<A6.n -> [I (A6.g i).w,I (A6.g i).h]= [I (A81.g i).w,I (A81.g i).h])/\(∀(x:Int),dom x=g_3.1 x)/\A7/\nat_lit 0=nat_lit 0/\A2/\gr=gr/\IM w gr g g_3.2)))/\(decide (BT g (g-A24)=A25)=false->True/\((A25<=g/\g<=(15:Int))/\∃(t:Int->Bool),(nat_lit 0=A46.n/\∀(i:Nat),i<nat_lit 0 -> []= [I (A46.g
 i).w,I (A46.g i).h])/\(∀(x:Int),dom x=t x)/\A7/\nat_lit 0=nat_lit 0/\A2/\gr=gr/\A68<=AJ g)/\(∀(k:Nat) (t:Int->Bool) (vk:Nat->Go.Value),let A39:=(AD (E6 w gr g k));let A35:=(AD (E6 w gr g (k+(1:Nat))));k<AJ g->k<=AJ g->∃(t_1:L.Sq Ab×Int×(Int->Bool)×Int),let A83:=(Ak t_1.1 t_1.2.1);let A5:=(Ak t_1.1
 t_1.2.1 t_1.snd.2.2);let A43:=(↑A5.n:Int);let A28:=(A5.n=A5.n/\∀(i:Nat),let A77:=[I (A5.g i).w,I (A5.g i).h];i<A5.n->A77=A77);nat_lit 0=A68/\Ao g k=t_1.snd.2.2/\(w.n=t_1.1.n/\∀(i:Nat),let A58:=(t_1.1.g i);i<w.n -> [I (w.g i).id,I (w.g i).colour,I (w.g i).grain,SV.sl A21 (w.g i).ol.n fun(i1:Nat)=>[I ((w.g i).ol.g i1).x,I ((w.g i).ol.g
 i1).y]]= [I A58.id,I A58.colour,I A58.grain,SV.sl A21 A58.ol.n fun(i1:Nat)=>[I (A58.ol.g i1).x,I (A58.ol.g i1).y]])/\gr=t_1.2.1/\(∀(x:Int),t x=t_1.snd.2.1 x)/\(∀(x:Int),t x=true->Aj A12 x=Aj A83 x)/\((Bv t_1.1/\A25<=t_1.snd.2.2/\t_1.snd.2.2<=AM t_1.1.n)/\T t_1.snd.2.2<rn)/\∀(u:Int->Bool),True->(∃(g_1:Nat×(Int->Bool)×Nat),
 let A38:=(AD (DL w gr g g_1.2.2 g_1.1));A25=(↑g_1.1:Int)/\(A39.n=A38.n/\∀(i:Nat),i<A39.n -> [I (A39.g i).w,I (A39.g i).h]= [I (A38.g i).w,I (A38.g i).h])/\(∀(x:Int),u x=g_1.2.1 x)/\(∀(x:Int),u x=true->Aj A83 x=Aj A12 x)/\Ao g k=Ao g g_1.2.2/\g_1.1<=(Ak w gr (Ao g g_1.2.2)).n/\g_1.2.2<AJ g)/\∀(g_1:Nat×(Int ->
 Bool)×Nat),let A72:=(Ak w gr (Ao g g_1.2.2));let A15:=(↑g_1.1:Int);let A27:=(A5.g (T A15));let A14:=(AD (DL w gr g g_1.2.2 g_1.1));Ao g k=Ao g g_1.2.2/\g_1.1<=A72.n/\g_1.2.2<AJ g->(decide (A15<A43)=true->(A25<=A15/\A15<A43)/\∃(t_2:L.Sq Ab×Int×(Int->Bool)×Int),let A47:=(Ak t_2.1 t_2.2.1);let A8 :=
 (Ak t_2.1 t_2.2.1 t_2.snd.2.2);let A61:=(↑A8.n:Int);nat_lit 0=A68/\Di g (Ao g k)=t_2.snd.2.2/\(t_1.1.n=t_2.1.n/\∀(i:Nat),let A60:=(t_2.1.g i);let A59:=(t_1.1.g i);i<t_1.1.n -> [I A59.id,I A59.colour,I A59.grain,SV.sl A21 A59.ol.n fun(i1:Nat)=>[I (A59.ol.g i1).x,I (A59.ol.g i1).y]]= [I A60.id,I A60.colour,I A60.grain,SV.sl A21
 A60.ol.n fun(i1:Nat)=>[I (A60.ol.g i1).x,I (A60.ol.g i1).y]])/\t_1.2.1=t_2.2.1/\(∀(x:Int),g_1.2.1 x=t_2.snd.2.1 x)/\(∀(x:Int),g_1.2.1 x=true->Aj A12 x=Aj A47 x)/\((Bv t_2.1/\A25<=t_2.snd.2.2/\t_2.snd.2.2<=AM t_2.1.n)/\T t_2.snd.2.2<rn)/\∀(u_1:Int->Bool),True->(∃(g_2:Nat×Nat×Nat),let A33:=(AD (EM w gr g g_2.2.1 g_2.2.2
 g_2.1));A25=(↑g_2.1:Int)/\(A14.n=A33.n/\∀(i:Nat),i<A14.n -> [I (A14.g i).w,I (A14.g i).h]= [I (A33.g i).w,I (A33.g i).h])/\Ao g k=Ao g g_2.2.1/\A15=(↑g_2.2.2:Int)/\g_2.1<=(Ak w gr (AZ g g_2.2.1)).n/\g_2.2.1<AJ g)/\∀(g_2:Nat×Nat×Nat),let A73:=(Ak w gr (AZ g g_2.2.1));let A23:=(↑g_2.1:Int);let A49:=(A8.g (T A23));let A11
:=(AD (EM w gr g g_2.2.1 g_2.2.2 g_2.1));Ao g k=Ao g g_2.2.1/\A15=(↑g_2.2.2:Int)/\g_2.1<=A73.n/\g_2.2.1<AJ g->(decide (A23<A61)=true->(A25<=A23/\A23<A61)/\Ad .i64 (A27.w+A49.w)/\Ad .i64 (A27.h+A49.h)/\(A11.n+nat_lit 2)*nat_lit 16<=A42/\Ad .i64 (A23+A24)/\∃(g':Nat×Nat ×
 Nat),let A74:=(Ak w gr (AZ g g'.2.1));let A34:=(AD (EM w gr g g'.2.1 g'.2.2 g'.1));A23+A24=(↑g'.1:Int)/\A61=A61/\(A8.n=A8.n/\∀(i:Nat),let A78:=[I (A8.g i).w,I (A8.g i).h];i<A8.n->A78=A78)/\nat_lit 0=nat_lit 0/\A15=A15/\A43=A43/\A28/\Ao g k=Ao g k/\nat_lit 0=nat_lit 0/\SV.ref [I g] A13=SV.ref [I g] A13/\nat_lit 0
 = nat_lit 0/\vk A62=vk A62/\vk A63=vk A63/\vk A48=vk A48/\(A11.n+nat_lit 2=A34.n/\∀(i:Nat),i<A11.n+nat_lit 2->AN A11.n (fun(j:Nat)=>[I (A11.g j).w,I (A11.g j).h]) (Ce [I (A27.w+A49.w),I (Max.max A27.h A49.h),I (Max.max A27.w A49.w),I (A27.h+A49.h)] A48) i = [I (A34.g i).w,I (A34.g i).h])/\A27.w=A27.w/\A27.h=A27.h/\(∀(x:Int),u_1 x
 = u_1 x)/\(∀(x:Int),u_1 x=true->Aj A47 x=Aj A47 x)/\nat_lit 0=nat_lit 0/\(t_2.1.n=t_2.1.n/\∀(i:Nat),let A64:=(t_2.1.g i);let A17:=[I A64.id,I A64.colour,I A64.grain,SV.sl A21 A64.ol.n fun(i1:Nat)=>[I (A64.ol.g i1).x,I (A64.ol.g i1).y]];i<t_2.1.n->A17=A17)/\t_2.2.1=t_2.2.1/\(Ao g k=Ao g g'.2.1/\A15=(↑g'.2.2:Int)/\g'.1 <=
 A74.n/\g'.2.1<AJ g)/\A74.n-g'.1<A73.n-g_2.1)/\(decide (A23<A61)=false->Ad .i64 (A15+A24)/\∃(g':Nat×(Int->Bool)×Nat),let A75:=(Ak w gr (Ao g g'.2.2));let A40:=(AD (DL w gr g g'.2.2 g'.1));A15+A24=(↑g'.1:Int)/\A43=A43/\A28/\Ao g k=Ao g k/\nat_lit 0=nat_lit 0/\SV.ref [I g] A13 =
 SV.ref [I g] A13/\nat_lit 0=nat_lit 0/\vk A62=vk A62/\vk A63=vk A63/\vk A48=vk A48/\(A11.n=A40.n/\∀(i:Nat),i<A11.n -> [I (A11.g i).w,I (A11.g i).h]= [I (A40.g i).w,I (A40.g i).h])/\(∀(x:Int),u_1 x=g'.2.1 x)/\(∀(x:Int),u_1 x=true->Aj A47 x=Aj A12 x)/\nat_lit 0=nat_lit 0/\(t_2.1.n=t_1.1.n/\∀(i:Nat),let A66:=(t_1.1.g i);let A65
:=(t_2.1.g i);i<t_2.1.n -> [I A65.id,I A65.colour,I A65.grain,SV.sl A21 A65.ol.n fun(i1:Nat)=>[I (A65.ol.g i1).x,I (A65.ol.g i1).y]]= [I A66.id,I A66.colour,I A66.grain,SV.sl A21 A66.ol.n fun(i1:Nat)=>[I (A66.ol.g i1).x,I (A66.ol.g i1).y]])/\t_2.2.1=t_1.2.1/\(Ao g k=Ao g g'.2.2/\g'.1<=A75.n/\g'.2.2<AJ g)/\A75.n-g'.1<A72.n-g_1.1)) /\
 (decide (A15<A43)=false->∃(t:Nat×(Nat->Ac)),(A14.n=t.1/\∀(i:Nat),i<A14.n -> [I (A14.g i).w,I (A14.g i).h]= [I (t.2 i).w,I (t.2 i).h])/\t.1<=A41/\∀(u:Nat->Ac),Dj Du t.1 t.2 u->∃(t':Int->Bool),nat_lit 0=nat_lit 0/\SV.ref [I g] A13=SV.ref [I g] A13/\nat_lit 0=nat_lit 0/\vk A62=vk A62/\vk A63=vk A63
 /\ vk A48=vk A48/\(Bc u t.1=A35.n/\∀(i:Nat),i<Bc u t.1 -> [I (BH u t.1 i).w,I (BH u t.1 i).h]= [I (A35.g i).w,I (A35.g i).h])/\(∀(x:Int),g_1.2.1 x=t' x)/\(∀(x:Int),g_1.2.1 x=true->Aj A12 x=Aj A12 x)/\nat_lit 0=nat_lit 0/\(t_1.1.n=w.n/\∀(i:Nat),let A67:=(t_1.1.g i);i<t_1.1.n -> [I A67.id,I A67.colour,I A67.grain,SV.sl
 A21 A67.ol.n fun(i1:Nat)=>[I (A67.ol.g i1).x,I (A67.ol.g i1).y]]= [I (w.g i).id,I (w.g i).colour,I (w.g i).grain,SV.sl A21 (w.g i).ol.n fun(i1:Nat)=>[I ((w.g i).ol.g i1).x,I ((w.g i).ol.g i1).y]])/\t_1.2.1=gr/\k+(1:Nat)<=AJ g))/\∀(t:Int->Bool),AJ g<=AJ g->∃(g_1:(Int->Bool)×List Ac),let A82:=(AD g_1.2);nat_lit 0=nat_lit 0 /\
 SV.ref [I g] A13=SV.ref [I g] A13/\nat_lit 0=nat_lit 0/\(A29.n=A82.n/\∀(i:Nat),i<A29.n -> [I (A29.g i).w,I (A29.g i).h]= [I (A82.g i).w,I (A82.g i).h])/\(∀(x:Int),t x=g_1.1 x)/\(∀(x:Int),t x=true->Aj A12 x=Aj A12 x)/\nat_lit 0=nat_lit 0/\A2/\gr=gr/\IM w gr g g_1.2)));(dom g=true->(true=true->∃(u:Int ->
 Bool),A16/\A2/\gr=gr/\(∀(x:Int),dom x=u x)/\A7/\True)/\(true=false->A1/\∀(g_1:(Int->Bool)×List Ac),let A36:=(AD g_1.2);let A30:=(∀(x:Int),(decide (x=g)||g_1.1 x)=true->Aj A12 x=Aj A12 x);let A3:=(∃(t:Nat×(Nat->Ac)),(A36.n=t.1/\∀(i:Nat),i<A36.n -> [I (A36.g i).w,I (A36.g i).h]= [I (t.2 i).w,
 I (t.2 i).h])/\t.1<=A41/\∀(u:Nat->Ac),Dj Du t.1 t.2 u->(Bc u t.1=A10.n/\∀(i:Nat),i<Bc u t.1 -> [I (BH u t.1 i).w,I (BH u t.1 i).h]= [I (A10.g i).w,I (A10.g i).h])/\∃(g_2:Int->Bool),SV.ref [I g] A13=SV.ref [I g] A13/\nat_lit 0=nat_lit 0/\(∀(x:Int),(decide (x=g)||g_1.1 x)=g_2 x)/\A30/\nat_lit 0 =
 nat_lit 0/\A2/\gr=gr/\g_2 g=true);IM w gr g g_1.2->(A3/\A3/\A3/\A3/\A3/\A3/\A3/\A3/\A3/\∃(t:Nat×(Nat->Ac)),(A36.n=t.1/\∀(i:Nat),i<A36.n -> [I (A36.g i).w,I (A36.g i).h]= [I (t.2 i).w,I (t.2 i).h])/\t.1<=A41/\∀(u:Nat->Ac),Dj Du t.1 t.2 u->(Bc u t.1=A10.n/\∀(i:Nat),i<Bc u t.1 -> [I (BH u t.1 i).w,I (BH
 u t.1 i).h]= [I (A10.g i).w,I (A10.g i).h])/\∃(g_2:Int->Bool),SV.ref [I g] A13=SV.ref [I g] A13/\nat_lit 0=nat_lit 0/\(∀(x:Int),(decide (x=g)||g_1.1 x)=g_2 x)/\A30/\nat_lit 0=nat_lit 0/\A2/\gr=gr/\g_2 g=true)/\∀(g_2:Int->Bool),let A44:=(∀(x:Int),g_2 x=true->Aj A12 x=Aj A12 x);g_2 g=true->(g_2 g =
 true->∃(u:Int->Bool),A16/\A2/\gr=gr/\(∀(x:Int),g_2 x=u x)/\A44/\True)/\(g_2 g=false->∃(u:Int->Bool),A10.n=A68/\A2/\gr=gr/\(∀(x:Int),g_2 x=u x)/\A44/\True)))/\(dom g=false->(false=true->∃(u:Int->Bool),A10.n=A68/\A2/\gr=gr/\(∀(x:Int),dom x=u x)/\A7/\True)/\(false=false->A1/\∀(g_1:(Int ->
 Bool)×List Ac),let A37:=(AD g_1.2);let A31:=(∀(x:Int),(decide (x=g)||g_1.1 x)=true->Aj A12 x=Aj A12 x);let A4:=(∃(t:Nat×(Nat->Ac)),(A37.n=t.1/\∀(i:Nat),i<A37.n -> [I (A37.g i).w,I (A37.g i).h]= [I (t.2 i).w,I (t.2 i).h])/\t.1<=A41/\∀(u:Nat->Ac),Dj Du t.1 t.2 u->(Bc u t.1=A10.n/\∀(i :
 Nat),i<Bc u t.1 -> [I (BH u t.1 i).w,I (BH u t.1 i).h]= [I (A10.g i).w,I (A10.g i).h])/\∃(g_2:Int->Bool),SV.ref [I g] A13=SV.ref [I g] A13/\nat_lit 0=nat_lit 0/\(∀(x:Int),(decide (x=g)||g_1.1 x)=g_2 x)/\A31/\nat_lit 0=nat_lit 0/\A2/\gr=gr/\g_2 g=true);IM w gr g g_1.2->(A4/\A4/\A4/\A4/\A4/\A4/\A4/\A4/\A4/\∃(t :
 Nat×(Nat->Ac)),(A37.n=t.1/\∀(i:Nat),i<A37.n -> [I (A37.g i).w,I (A37.g i).h]= [I (t.2 i).w,I (t.2 i).h])/\t.1<=A41/\∀(u:Nat->Ac),Dj Du t.1 t.2 u->(Bc u t.1=A10.n/\∀(i:Nat),i<Bc u t.1 -> [I (BH u t.1 i).w,I (BH u t.1 i).h]= [I (A10.g i).w,I (A10.g i).h])/\∃(g_2:Int->Bool),SV.ref [I g] A13=SV.ref [I g] A13 /\
 nat_lit 0=nat_lit 0/\(∀(x:Int),(decide (x=g)||g_1.1 x)=g_2 x)/\A31/\nat_lit 0=nat_lit 0/\A2/\gr=gr/\g_2 g=true)/\∀(g_2:Int->Bool),let A45:=(∀(x:Int),g_2 x=true->Aj A12 x=Aj A12 x);g_2 g=true->(g_2 g=true->∃(u:Int->Bool),A16/\A2/\gr=gr/\(∀(x:Int),g_2 x=u x)/\A45/\True)/\(g_2 g=false->∃
 (u:Int->Bool),A10.n=A68/\A2/\gr=gr/\(∀(x:Int),g_2 x=u x)/\A45/\True)))) (by kernel_rfl) (by
  conv=>zeta
  have hp:Bv w/\0<=g/\g<=AM w.n:=hp;have hmu:g.toNat<rn+1:=hmu;obtain⟨⟨hw4,hwl⟩,hg0,hga⟩:=hp;have hg15:g<=15:=Afy hga (MY hw4);refine⟨fun hd=>⟨fun _=>?_,fun h=>(by cases h)⟩,fun hd=>⟨fun h=>(by cases h),fun _=>⟨⟨fun h0=>?_,fun h0=>?_⟩,fun x hx=>?_⟩⟩⟩
  ·exact⟨dom,⟨rfl,fun _ _=>rfl⟩,⟨rfl,fun _ _=>rfl⟩,rfl,fun _=>rfl,fun _ _=>rfl,trivial⟩
  ·have h0:g=0:=of_decide_eq_true h0;subst h0;refine⟨(dom,[⟨0,0⟩]),rfl,rfl,rfl,⟨rfl,fun i hi=>?_⟩,fun _=>rfl,fun _ _=>rfl,rfl,⟨rfl,fun _ _=>rfl⟩,rfl,⟨by rw[Lk];rfl,show 1<=1000000 by decide⟩⟩;have hi:i<1:=hi;obtain rfl:i=0:=by omega
   rfl
  ·have h0:¬ g=0:=of_decide_eq_false h0;have hg1:1<=g:=by omega
   refine⟨iK,fun h1=>?_,fun h1=>?_⟩
   ·have h1:BM g=true:=h1;obtain⟨ge,gi⟩:=PA hg1 hg15 h1;have gn:=XN hw4 hg1 hga h1;refine⟨⟨0,rfl,AdL _⟩,fun k hk=>⟨Aec _,fun hc=>?_,fun hc=>?_⟩⟩
    ·have hc:1<Ev g k:=of_decide_eq_true hc;have hlt:k<Be g:=by rw[ge]at hc;exact(MZ gi hk).1 hc
     exact⟨iK,k+1,rfl,rfl,rfl,rfl,⟨rfl,fun _ _=>rfl⟩,rfl,⟨rfl,fun _ _=>rfl⟩,rfl,fun _=>rfl,fun _ _=>rfl,hlt,by omega⟩
    ·have hc:¬ 1<Ev g k:=of_decide_eq_false hc;have hke:k=Be g:=by
      rcases Ae5 k (Be g)with h|h
      ·exact absurd (by rw[ge];exact(MZ gi hk).2 h) hc
      ·omega
     subst hke;have e1:((Be g:Nat):Int).toNat=Be g:=Aea _;have kn:0<=((Be g:Nat):Int)/\((Be g:Nat):Int)<(w.n:Int):=⟨Aec _,by omega⟩;refine⟨⟨0,rfl,⟨rfl,fun i hi=>absurd hi (nT _)⟩,AdL _⟩,fun t ht=>⟨fun hlt=>?_,fun hge=>?_⟩⟩
     ·have hlt:(t:Int)<2:=of_decide_eq_true hlt;have ht2:t<2:=by omega
      have hl:(AD (Em w gr (Be g) t)).n<=2:=by
       show(Em w gr (Be g) t).length<=2;unfold Em;rw[Ae7];exact Aeu (Afe _ _) (by rw[Afx];exact Nat.min_le_right _ _)
      have nx:=XP w gr (Be g) ht2;rw[e1];refine⟨kn,trivial,fun ha=>⟨kn,?_⟩,fun ha=>?_⟩
      ·have ha:Do (w.g (Be g)).grain gr t=true:=ha;rw[if_pos ha]at nx;have leaf:=Ln (r:=fun _=>En (Ch (w.g (Be g)).ol t)) nx (fun i hi=>by
        have hi:i<1:=hi;obtain rfl:i=0:=by omega
        rfl)
       have pb:(∀i,i<(w.g (Be g)).ol.n -> [SV.int .i64 ((w.g (Be g)).ol.g i).x,SV.int .i64 ((w.g (Be g)).ol.g i).y]= [SV.int .i64 ((w.g (Be g)).ol.g i).x,SV.int .i64 ((w.g (Be g)).ol.g i).y])/\(w.g (Be g)).ol.n<=1000000:=⟨fun _ _=>rfl,hwl _ gn⟩;have sz:((AD (Em w gr (Be g) t)).n+1)*16<=140737488355328:=by omega
       exact⟨⟨pb,sz,iK,t+1,rfl,rfl,rfl,rfl,rfl,leaf,rfl,⟨rfl,fun _ _=>rfl⟩,rfl,fun _=>rfl,fun _ _=>rfl,by omega,by omega⟩,pb,⟨sz,iK,t+1,rfl,rfl,rfl,rfl,rfl,leaf,rfl,⟨rfl,fun _ _=>rfl⟩,rfl,fun _=>rfl,fun _ _=>rfl,by omega,by omega⟩,⟨sz,iK,t+1,rfl,rfl,rfl,rfl,rfl,leaf,rfl,⟨rfl,fun _ _=>rfl⟩,rfl,fun _=>rfl,fun _ _=>rfl,by omega,by omega⟩⟩
      ·have ha:Do (w.g (Be g)).grain gr t=false:=ha;rw[if_neg (by rw[ha];decide),AeA]at nx;exact⟨iK,t+1,rfl,rfl,rfl,rfl,rfl,Nc nx.symm,rfl,⟨rfl,fun _ _=>rfl⟩,rfl,fun _=>rfl,fun _ _=>rfl,by omega,by omega⟩
     ·have hge:¬ (t:Int)<2:=of_decide_eq_false hge;obtain rfl:t=2:=by omega
      have eC:Em w gr (Be g) 2=IJ w gr (Be g):=rfl;exact⟨(dom,Em w gr (Be g) 2),rfl,rfl,rfl,⟨rfl,fun _ _=>rfl⟩,fun _=>rfl,fun _ _=>rfl,rfl,⟨rfl,fun _ _=>rfl⟩,rfl,⟨by rw[PD w gr hg1 hg15 h1,eC],by have:=XK w gr (Be g);show(IJ w gr (Be g)).length<=1000000;omega⟩⟩
   ·have h1:BM g=false:=h1;obtain⟨hp0,hpt⟩:=Hz hg1 hg15 h1;refine⟨trivial,⟨⟨hg0,hg15⟩,dom,⟨rfl,fun i hi=>absurd hi (nT _)⟩,fun _=>rfl,fun _ _=>rfl,rfl,⟨rfl,fun _ _=>rfl⟩,rfl,AdL _⟩,fun k d vk hk _=>?_,fun d _=>?_⟩
    ·obtain⟨p1,p2,p3,p4,p5⟩:=hpt k hk;refine⟨(w,gr,d,Ao g k),rfl,rfl,⟨rfl,fun _ _=>rfl⟩,rfl,fun _=>rfl,fun _ _=>rfl,⟨⟨⟨hw4,hwl⟩,Ae4 p1,by show Ao g k<=AM w.n;omega⟩,by show(Ao g k).toNat<rn;omega⟩,fun u _=>⟨⟨(0,u,k),rfl,Nc (xK w gr g k).symm,fun _=>rfl,fun _ _=>rfl,rfl,AdL _,hk⟩,fun x hx=>?_⟩⟩;obtain⟨i,d1,k'⟩:=x;obtain⟨hk1,hi,hk2⟩:=hx;obtain rfl:=MX hg1 hg15 h1 hk hk2 hk1;have hi:i<=(Ak w gr (Ao g k)).n:=hi;refine⟨fun hc=>?_,fun hc=>?_⟩
     ·have hc:(i:Int)<((Ak w gr (Ao g k)).n:Int):=of_decide_eq_true hc;have hiA:i<(Ak w gr (Ao g k)).n:=by omega
      refine⟨⟨Aec _,hc⟩,(w,gr,d1,AZ g k),rfl,rfl,⟨rfl,fun _ _=>rfl⟩,rfl,fun _=>rfl,fun _ _=>rfl,⟨⟨⟨hw4,hwl⟩,Ae4 p3,by show AZ g k<=AM w.n;omega⟩,by show(AZ g k).toNat<rn;omega⟩,fun u1 _=>⟨⟨(0,k,i),rfl,Nc (xL w gr g k i).symm,rfl,rfl,AdL _,hk⟩,fun y hy=>?_⟩⟩;obtain⟨j,k2,i2⟩:=y;obtain⟨hk3,hi2,hj,hk4⟩:=hy;obtain rfl:=MX hg1 hg15 h1 hk hk4 hk3;have hi2:(i:Int)=(i2:Int):=hi2;obtain rfl:i=i2:=by omega
      have hj:j<=(Ak w gr (AZ g k)).n:=hj;refine⟨fun hb=>?_,fun hb=>?_⟩
      ·have hb:(j:Int)<((Ak w gr (AZ g k)).n:Int):=of_decide_eq_true hb;have hjB:j<(Ak w gr (AZ g k)).n:=by omega
       have bA:=(IL w gr (Ae4 p1) (by omega)).bd _ (JK hiA);have bB:=(IL w gr (Ae4 p3) (by omega)).bd _ (JK hjB);have ei:((i:Nat):Int).toNat=i:=Aea i;have ej:((j:Nat):Int).toNat=j:=Aea j;have hl:=(XQ w gr hg1 hg15 h1 (i:=i) (j:=j) hk).1;rw[ei,ej];refine⟨⟨Aec _,hb⟩,iK (by show _<=((Ak w gr (Ao g k)).g i).w+((Ak w gr (AZ g k)).g j).w;omega) (by show((Ak w gr (Ao g k)).g i).w+((Ak w gr (AZ g k)).g j).w<=_;omega),iK (by show _<=((Ak w gr (Ao g k)).g i).h+((Ak w gr (AZ g k)).g j).h;omega) (by show((Ak w gr (Ao g k)).g i).h+((Ak w gr (AZ g k)).g j).h<=_;omega),
        by show((EM w gr g k i j).length+2)*16<=140737488355328;omega,iK (by show _<=(j:Int)+1;omega) (by show(j:Int)+1<=_;have:=IN w gr (Ae4 p3) (show AZ g k<=15 by omega);have hj2:j<=(AU w gr (AZ g k)).length:=hj;omega),(j+1,k,i),rfl,rfl,⟨rfl,fun _ _=>rfl⟩,rfl,rfl,rfl,⟨rfl,fun _ _=>rfl⟩,rfl,rfl,rfl,rfl,rfl,rfl,rfl,?_,rfl,rfl,fun _=>rfl,fun _ _=>rfl,rfl,⟨rfl,fun _ _=>rfl⟩,rfl,⟨rfl,rfl,hjB,hk⟩,by show(Ak w gr (AZ g k)).n-(j+1)<(Ak w gr (AZ g k)).n-j;omega⟩
       exact Ln (xI w gr g k i hjB) (fun q hq=>by
        have hq:q<2:=hq;have:q=0\/q=1:=by omega
        rcases this with rfl|rfl<;>rfl)
      ·have hb:¬ (j:Int)<((Ak w gr (AZ g k)).n:Int):=of_decide_eq_false hb;obtain rfl:j=(Ak w gr (AZ g k)).n:=by omega
       refine⟨iK (by show _<=(i:Int)+1;omega) (by show(i:Int)+1<=_;have:=IN w gr (Ae4 p1) (show Ao g k<=15 by omega);have hi2:i<=(AU w gr (Ao g k)).length:=hi;omega),(i+1,u1,k),rfl,rfl,⟨rfl,fun _ _=>rfl⟩,rfl,rfl,rfl,rfl,rfl,rfl,rfl,Nc (xJ w gr g k hiA),fun _=>rfl,fun _ _=>rfl,rfl,⟨rfl,fun _ _=>rfl⟩,rfl,⟨rfl,hiA,hk⟩,by show(Ak w gr (Ao g k)).n-(i+1)<(Ak w gr (Ao g k)).n-i;omega⟩
     ·have hc:¬ (i:Int)<((Ak w gr (Ao g k)).n:Int):=of_decide_eq_false hc;obtain rfl:i=(Ak w gr (Ao g k)).n:=by omega
      have hl:=(XQ w gr hg1 hg15 h1 (i:=(Ak w gr (Ao g k)).n) (j:=0) hk).2.1;exact⟨((AD (DL w gr g k (Ak w gr (Ao g k)).n)).n,(AD (DL w gr g k (Ak w gr (Ao g k)).n)).g),⟨rfl,fun _ _=>rfl⟩,by show(DL w gr g k (Ak w gr (Ao g k)).n).length<=1000000;omega,fun u hu=>⟨d1,rfl,rfl,rfl,rfl,rfl,rfl,XO hu (xM w gr g k),fun _=>rfl,fun _ _=>rfl,rfl,⟨rfl,fun _ _=>rfl⟩,rfl,hk⟩⟩
    ·exact⟨(d,E6 w gr g (AJ g)),rfl,rfl,rfl,⟨rfl,fun _ _=>rfl⟩,fun _=>rfl,fun _ _=>rfl,rfl,⟨rfl,fun _ _=>rfl⟩,rfl,xN w gr hg1 hg15 h1⟩
  ·obtain⟨d,X⟩:=x;obtain⟨hX1,hX2⟩:=hx;refine⟨?_,fun e he=>⟨fun _=>⟨e,⟨rfl,fun _ _=>rfl⟩,⟨rfl,fun _ _=>rfl⟩,rfl,fun _=>rfl,fun _ _=>rfl,trivial⟩,fun h=>?_⟩⟩
   ·repeat' apply And.intro
    all_goals exact⟨((AD X).n,(AD X).g),⟨rfl,fun _ _=>rfl⟩,hX2,fun u hu=>⟨XO hu hX1,fun x=>decide (x=g)||d x,rfl,rfl,fun _=>rfl,fun _ _=>rfl,rfl,⟨rfl,fun _ _=>rfl⟩,rfl,by show(decide (g=g)||d g)=true;simp⟩⟩
   ·have he:e g=true:=he;rw[he]at h;cases h)
theorem PI:As Tryz.prog 36:=fun args w=>by kernel_rfl
theorem XS:De Tryz.prog 36 H0:=KS XR ⟨fun t=>rfl,fun t u=>rfl,fun t u=>rfl,fun t u=>⟨rfl,rfl,rfl⟩,.inl rfl,fun k h=>(by cases h)⟩ (fun rn ih=>FB (n:=2) Tryz.func36 (c:=Ai Tryz.f36) (by kernel_rfl) mixed ⟨fun t=>rfl,fun t=>rfl,fun t u=>rfl,fun t u=>rfl,fun t u=>rfl,fun t u=>⟨rfl,rfl⟩,by kernel_rfl,by kernel_rfl⟩ (fun⟨w,gr,dom,g⟩ hp=>⟨_,xO rn w gr dom g hp.1 hp.2,⟨show Aa Tryz.prog _ from(Aa.cons X6 X7 (Aa.cons Xc Xd (Aa.cons P0 P1 Aa.nil))),rfl,⟨show Af Tryz.prog _ from(Af.cons Xv Xw Af.nil),⟨AA.no1 (fun _=>rfl),⟨show Bj Tryz.prog _ from(Bj.cons wU wT (Bj.cons ih PI Bj.nil)),FamsOk.none (fun _=>rfl)⟩⟩⟩⟩⟩))
end
end
def Ea (x r:Ac):Bool:=bif decide (x.w<=r.w)then decide (x.h<=r.h)else false
def CH (w:L.Sq Ab) (gr g:Int) (r:Ac):Bool:=Cb (Ak w gr g).n fun i=>Ea ((Ak w gr g).g i) r
def C9 (v:Nat->Bool) (id:Nat->Int) (i:Nat):Bool:=bif !v i then true else bif decide (0<(i:Int))then decide (id i<=id (i-1))else false
def Cy (w:L.Sq Ab):Bool:=CX w.n fun i=>!C9 (fun i=>D7 (w.g i)) (fun i=>(w.g i).id) i
def D2 (s:L.Sq Ah):Bool:=CX s.n fun i=>!C9 (fun i=>Bo (s.g i)) (fun i=>(s.g i).id) i
def Bq (w:L.Sq Ab) (s:L.Sq Ah) (right:Bool):Int:=bif !Cy w then 50 else bif (bif !D2 s then true else !right)then 1 else bif (bif decide (7<(w.n:Int))then true else decide (7<(s.n:Int)))then 2 else 0
def CI (w:L.Sq Ab):Prop:=(w.n<=4\/7<w.n)/\w.n<=1000000/\∀i,i<w.n->(w.g i).ol.n<=1000000
def Nd:L.Sq Ah:=⟨0,fun _=>⟨0,0,0,0,0⟩⟩
def XT (s:Ah):L.Sq Ah:=⟨1,fun _=>s⟩
def JL (w:L.Sq Ab) (gr:Int):Int:=Bq w Nd (Ay gr 0 2)
def Lo (w:L.Sq Ab) (gr:Int):Nat:=bif decide (JL w gr=0)then(Ak w gr (AM w.n)).n else 0
def E7 (w:L.Sq Ab) (s:Ah):Int:=Bq w (XT s) true
def Gj (w:L.Sq Ab) (s:Ah):Bool:=bif decide (E7 w s=0)then CH w s.grain (AM w.n) ⟨s.w,s.h⟩else false
theorem Nf {n i:Nat} {f:Nat->Bool} (hi:i<n) (h:f i=false):CX n f=false:=GX hi h
theorem Ic {w:L.Sq Ab} {s:L.Sq Ah} {b:Bool} (h:Bq w s b=0):Cy w=true/\D2 s=true/\b=true/\w.n<=7/\s.n<=7:=by
 unfold Bq at h;cases h1:Cy w
 ·rw[h1]at h;simp at h
 ·cases h2:D2 s
  ·rw[h1,h2]at h;simp at h
  ·cases b
   ·rw[h1,h2]at h;simp at h
   ·rw[h1,h2]at h;refine⟨rfl,rfl,rfl,?_⟩
    by_cases h3:(7:Int)<w.n
    ·simp[h3]at h
    ·by_cases h4:(7:Int)<s.n
     ·simp[h4]at h
     ·omega
theorem H1 {w:L.Sq Ab} (h:CI w) (h7:w.n<=7):Bv w:=⟨by have:=h.1;omega,h.2.2⟩
def XU (l:(L.Sq Ac)) (p:BR):Prop:=l.n<=1000000/\∀i,i<l.n->p.pre [(.agg [.int .i64 ((l.g i).w),.int .i64 ((l.g i).h)])]
def XV (l:(L.Sq Ac)) (p:BR):SV:=.int .i64 (Cm l.n (fun i=>Bu p [(.agg [.int .i64 ((l.g i).w),.int .i64 ((l.g i).h)])]))
def XW:List EV->Option (Prop×SV)
 |[.p (.sl 2 l_n l_g),.fn p]=>some ((∀i,i<l_n->l_g i = [.int .i64 ((D0 (l_g i)).w),.int .i64 ((D0 (l_g i)).h)])/\Fp p/\XU (⟨l_n,fun i=>D0 (l_g i)⟩:(L.Sq Ac)) p,XV (⟨l_n,fun i=>D0 (l_g i)⟩:(L.Sq Ac)) p)
 |_=>none
abbrev XX:SE.Spec:=(AI XW)
def xP:Al:={ muts:=[],frz:=B8 [],specs:=AC [],loops:=fun _=>none,iters:=B3 [],rfs:=AP [],nils:=B6 [] }
theorem xQ (l:(L.Sq Ac)) (p:BR) (hp:XU l p):vc Tryz.prog ({ xP with loops:=AT [(2,{ T:=Nat,keep:=[0,1,6,7],keepO:=[],chg:=fun i=>[(8,.p (.int .i64 i))],own:=fun _=>[],inv:=fun i=>i<=l.n/\(∀j,j<i->Bu p [(.agg [.int .i64 ((l.g j).w),.int .i64 ((l.g j).h)])]=false),mu:=fun i=>l.n-i })],rfs:=AP [] }) (Ai Tryz.f124) (Au Tryz.f124 [.p (.sl 2 l.n (fun i=>[.int .i64 ((l.g i).w),.int .i64 ((l.g i).h)])),.fn ⟨p.pre,fun xs=>.bool (Bu p xs)⟩]) (AH Tryz.prog Tryz.f124 (XV l p)):=
 @Eq.mpr _ (let I:=SV.int .i64;let T:=Aee;let A4:=(↑l.n:Int);let A2:=(l.n=l.n/\∀(i:Nat),let A5:=[I (l.g i).w,I (l.g i).h];i<l.n->A5=A5);(∃(g:Nat),(0:Int)=(↑g:Int)/\g<=l.n/\∀(j:Nat),j<g->Bu p [SV.agg [I (l.g j).w,I (l.g j).h]]=false)/\∀(g:Nat),let A3:=(↑g:Int);let A1:=[SV.agg [I (l.g (T A3)).w,I (l.g (T A3)).h]];(g<=l.n/\∀(j:Nat),j<g->Bu p [SV.agg [I (l.g j).w,I (l.g j).h]]=false)->(decide (A3<A4)=true->((0:Int)<=A3/\A3<A4)/\p.1 A1/\(Bu p A1=true->A3=Cm l.n fun(i:Nat)=>Bu p [SV.agg [I (l.g i).w,I (l.g i).h]])/\(Bu p A1=false->Ad .i64 (A3+(1:Int))/\∃(g':Nat),A3+(1:Int)=(↑g':Int)/\A4=A4/\A2/\A2/\((BR.mk p.pre fun(xs:List SV)=>SV.bool (Bu p xs))=BR.mk p.pre fun(xs:List SV)=>SV.bool (Bu p xs))/\(g'<=l.n/\∀(j:Nat),j<g'->Bu p [SV.agg [I (l.g j).w,I (l.g j).h]]=false)/\l.n-g'<l.n-g))/\(decide (A3<A4)=false->(-1:Int)=Cm l.n fun(i:Nat)=>Bu p [SV.agg [I (l.g i).w,I (l.g i).h]])) (by kernel_rfl) (by
 conv=>zeta
 obtain⟨hn,hpre⟩:=hp;refine⟨⟨(0:Nat),rfl,AdL _,fun j hj=>by omega⟩,fun g hg=>⟨fun hlt=>?_,fun hge=>?_⟩⟩
 ·have hb:(g:Int)<(l.n:Int):=by simpa using hlt
  have e0:((g:Int)).toNat=g:=by omega
  rw[e0];refine⟨by omega,hpre g (by omega),fun h=>?_,fun h=>?_⟩
  ·exact(J8 hg.2 h (by omega)).symm
  ·exact⟨jK, g+1, by omega, rfl, ⟨rfl, fun _ _ =>rfl⟩, ⟨rfl, fun _ _ =>rfl⟩, rfl, ⟨by omega, fun j hj =>by
   rcases AdZ.1 hj with h'|rfl
   ·exact hg.2 j h'
   ·exact h⟩,by omega⟩
 ·have hb:¬ (g:Int)<(l.n:Int):=by simpa using hge
  exact(IG (fun j hj=>hg.2 j (by omega))).symm)
theorem xR:Ax Tryz.prog 124 XX:=AK Tryz.func124 (c:=Ai Tryz.f124) (by kernel_rfl) mixed (fun args p r hs hp=>by
 unfold XW at hs;split at hs
 ·cases hs;exact⟨_,_,xQ _ _ hp.2.2,(.p (.sl hp.1) (.fn (fun xs h=>⟨h,(J7 hp.2.1 h).symm⟩) .nil)),⟨show Aa Tryz.prog _ from Aa.nil,rfl,⟨show Af Tryz.prog _ from Af.nil,(AA.none (fun _=>rfl))⟩⟩⟩
 ·cases hs)
theorem xS:As Tryz.prog 124:=fun args w=>by kernel_rfl
def XY (l:(L.Sq Ac)) (p:BR):Prop:=l.n<=1000000/\∀i,i<l.n->p.pre [(.agg [.int .i64 ((l.g i).w),.int .i64 ((l.g i).h)])]
def XZ (l:(L.Sq Ac)) (p:BR):SV:=.bool (Cb l.n (fun i=>Bu p [(.agg [.int .i64 ((l.g i).w),.int .i64 ((l.g i).h)])]))
def Ya:List EV->Option (Prop×SV)
 |[.p (.sl 2 l_n l_g),.fn p]=>some ((∀i,i<l_n->l_g i = [.int .i64 ((D0 (l_g i)).w),.int .i64 ((D0 (l_g i)).h)])/\Fp p/\XY (⟨l_n,fun i=>D0 (l_g i)⟩:(L.Sq Ac)) p,XZ (⟨l_n,fun i=>D0 (l_g i)⟩:(L.Sq Ac)) p)
 |_=>none
abbrev Yb:SE.Spec:=(AI Ya)
def xT:Al:={ cC with specs:=AC [(124,XX)] }
theorem xU (l:(L.Sq Ac)) (p:BR) (hp:XY l p):vc Tryz.prog (xT) (Ai Tryz.f82) (Au Tryz.f82 [.p (.sl 2 l.n (fun i=>[.int .i64 ((l.g i).w),.int .i64 ((l.g i).h)])),.fn ⟨p.pre,fun xs=>.bool (Bu p xs)⟩]) (AH Tryz.prog Tryz.f82 (XZ l p)):=
 @Eq.mpr _ (let I:=SV.int .i64;let A1:=(BR.mk p.pre fun(xs:List SV)=>SV.bool (Bu p xs));((∀(i:Nat),let A2:=[I (l.g i).w,I (l.g i).h];i<l.n->A2=A2)/\Fp A1/\l.n<=(1000000:Nat)/\∀(i:Nat),i<l.n->p.1 [SV.agg [I (l.g i).w,I (l.g i).h]])/\decide ((0:Int)<=Cm l.n fun(i:Nat)=>Bu A1 [SV.agg [I (l.g i).w,I (l.g i).h]])=Cb l.n fun(i:Nat)=>Bu p [SV.agg [I (l.g i).w,I (l.g i).h]]) (by kernel_rfl) (by
 conv=>zeta
 refine⟨⟨fun _ _=>rfl,fun xs _=>⟨_,rfl⟩,hp⟩,KY⟩)
theorem xV:Ax Tryz.prog 82 Yb:=AK Tryz.func82 (c:=Ai Tryz.f82) (by kernel_rfl) mixed (fun args p r hs hp=>by
 unfold Ya at hs;split at hs
 ·cases hs;exact⟨_,_,xU _ _ hp.2.2,(.p (.sl hp.1) (.fn (fun xs h=>⟨h,(J7 hp.2.1 h).symm⟩) .nil)),⟨show Aa Tryz.prog _ from(Aa.cons xR xS Aa.nil),rfl,⟨show Af Tryz.prog _ from Af.nil,(AA.none (fun _=>rfl))⟩⟩⟩
 ·cases hs)
theorem xW:As Tryz.prog 82:=fun args w=>by kernel_rfl
def Yc (x:Ac) (r:Ac):Prop:=True
def Yd (x:Ac) (r:Ac):SV:=.bool (Ea x r)
def JM:List EV->Option (Prop×SV)
 |[.p (.agg [.int .i64 x_w,.int .i64 x_h]),.p (.ref [.int .i64 r_w,.int .i64 r_h] 0)]=>some (Yc (⟨x_w,x_h⟩:Ac) (⟨r_w,r_h⟩:Ac),Yd (⟨x_w,x_h⟩:Ac) (⟨r_w,r_h⟩:Ac))
 |_=>none
abbrev Ye:SE.Spec:=(AI JM)
def xX:Al:={ muts:=[],frz:=B8 [],specs:=AC [],loops:=AT [],iters:=B3 [],rfs:=AP [],nils:=B6 [] }
theorem xY (x:Ac) (r:Ac) (hp:Yc x r):vc Tryz.prog (xX) (Ai Tryz.f83) (Au Tryz.f83 [.p (.agg [.int .i64 x.w,.int .i64 x.h]),.p (.ref [.int .i64 r.w,.int .i64 r.h] 0)]) (AH Tryz.prog Tryz.f83 (Yd x r)):=
 @Eq.mpr _ ((bif decide (x.w<=r.w)then decide (x.h<=r.h)else false)=Ea x r) (by kernel_rfl) (by
 rfl)
theorem xZ:Ax Tryz.prog 83 Ye:=AK Tryz.func83 (c:=Ai Tryz.f83) (by kernel_rfl) mixed (fun args p r hs hp=>by
 unfold JM at hs;split at hs
 ·cases hs;exact⟨_,_,xY _ _ hp,(.same _ (.same _ .nil)),⟨show Aa Tryz.prog _ from Aa.nil,rfl,⟨show Af Tryz.prog _ from Af.nil,(AA.none (fun _=>rfl))⟩⟩⟩
 ·cases hs)
theorem yA:As Tryz.prog 83:=fun args w=>by kernel_rfl
theorem yB:∀args p r,JM args=some (p,r)->∃b,r=.bool b:=by
 intro args p r h;unfold JM at h;split at h
 ·cases h;exact⟨_,rfl⟩
 ·cases h
def Yf (w:(L.Sq Ab)):Prop:=w.n<=1000000/\∀i,i<w.n->(w.g i).ol.n<=1000000
def Yg (w:(L.Sq Ab)):SV:=.bool (Cy w)
def Yh:List EV->Option (Prop×SV)
 |[.p (.sl 4 w_n w_g)]=>some ((∀i,i<w_n->Dn (w_g i))/\Yf (⟨w_n,fun i=>Bx (w_g i)⟩:(L.Sq Ab)),Yg (⟨w_n,fun i=>Bx (w_g i)⟩:(L.Sq Ab)))
 |_=>none
abbrev Yi:SE.Spec:=(AI Yh)
def yC:Al:={ cC with specs:=AC [(116,WY)] }
theorem yD (w:(L.Sq Ab)) (hp:Yf w):vc Tryz.prog ({ yC with loops:=AT [(2,{ T:=Nat,keep:=[0,5,6],keepO:=[],chg:=fun i=>[(7,.p (.int .i64 (i:Int)))],own:=fun _=>[],inv:=fun i=>i<=w.n/\∀j,j<i->C9 (fun i=>D7 (w.g i)) (fun i=>(w.g i).id) j=false,mu:=fun i=>w.n-i })],rfs:=AP [] }) (Ai Tryz.f71) (Au Tryz.f71 [.p (.sl 4 w.n (fun i=>[.int .i64 ((w.g i).id),.int .i64 ((w.g i).colour),.int .i64 ((w.g i).grain),.sl 2 (w.g i).ol.n (fun i1=>[.int .i64 (((w.g i).ol.g i1).x),.int .i64 (((w.g i).ol.g i1).y)])]))]) (AH Tryz.prog Tryz.f71 (Yg w)):=
 @Eq.mpr _ (let I:=SV.int .i64;let T:=Aee;let A11:=(0:Int);let A10:=(1:Int);let A8:=(↑w.n:Int);let A2:=(w.n=w.n/\∀(i:Nat),let A5:=[I (w.g i).id,I (w.g i).colour,I (w.g i).grain,SV.sl (2:Nat) (w.g i).ol.n fun(i1:Nat)=>[I ((w.g i).ol.g i1).x,I ((w.g i).ol.g i1).y]];i<w.n->A5=A5);(∃(g:Nat),A11=(↑g:Int)/\g<=w.n/\∀(j:Nat),j<g->C9 (fun(i:Nat)=>D7 (w.g i)) (fun(i:Nat)=>(w.g i).id) j=false)/\∀(g:Nat),let A6:=(↑g:Int);let A3:=(w.g (T A6));let A1:=(Ab.mk A3.id A3.colour A3.grain (L.Sq.mk A3.ol.n fun(i:Nat)=>A3.ol.g i));let A7:=(!!D7 A1&&decide (A11<A6));let A4:=(bif !D7 A1 then true else bif decide (A11<A6)then decide (A3.id<=(w.g (T (A6-A10))).id)else false);(g<=w.n/\∀(j:Nat),j<g->C9 (fun(i:Nat)=>D7 (w.g i)) (fun(i:Nat)=>(w.g i).id) j=false)->(decide (A6<A8)=true->(A11<=A6/\A6<A8)/\((∀(i:Nat),let A9:=[I (A3.ol.g i).x,I (A3.ol.g i).y];i<A3.ol.n->A9=A9)/\A3.ol.n<=(1000000:Nat))/\(A7=true->Ad .i64 (A6-A10))/\(A7=true->A11<=A6-A10/\A6-A10<A8)/\(A4=true->false=Cy w)/\(A4=false->Ad .i64 (A6+A10)/\∃(g':Nat),A6+A10=(↑g':Int)/\A8=A8/\A2/\A2/\(g'<=w.n/\∀(j:Nat),j<g'->C9 (fun(i:Nat)=>D7 (w.g i)) (fun(i:Nat)=>(w.g i).id) j=false)/\w.n-g'<w.n-g))/\(decide (A6<A8)=false->true=Cy w)) (by kernel_rfl) (by
 conv=>zeta
 obtain⟨hn,hol⟩:=hp;refine⟨⟨(0:Nat),rfl,AdL _,fun j hj=>absurd hj (nT _)⟩,fun g hg=>⟨fun hlt=>?_,fun hge=>?_⟩⟩
 ·have hb:(g:Int)<(w.n:Int):=of_decide_eq_true hlt;have e0:((g:Int)).toNat=g:=Aea g;have e1:((g:Int)-1).toNat=g-1:=by omega
  rw[e0,e1];refine⟨⟨Aec _,hb⟩,⟨fun _ _=>rfl,hol g (by omega)⟩,fun _=>jK,fun h=>?_,fun h=>?_,fun h=>?_⟩
  ·have:0<(g:Int):=of_decide_eq_true (Afg.1 h).2;omega
  ·exact(Nf (i:=g) (f:=fun i=>!C9 (fun i=>D7 (w.g i)) (fun i=>(w.g i).id) i) (by omega) (by show(!_)=false;rw[show C9 (fun i=>D7 (w.g i)) (fun i=>(w.g i).id) g=true from h];rfl)).symm
  ·refine⟨jK,g+1,rfl,rfl,⟨rfl,fun _ _=>rfl⟩,⟨rfl,fun _ _=>rfl⟩,⟨by omega,fun j hj=>?_⟩,by omega⟩;rcases AdZ.1 hj with h'|rfl
   ·exact hg.2 j h'
   ·exact h
 ·have hb:¬ (g:Int)<(w.n:Int):=of_decide_eq_false hge;exact(Dk.2 (fun i hi=>by show(!_)=true;rw[hg.2 i (by omega)];rfl)).symm)
theorem yE:Ax Tryz.prog 71 Yi:=AK Tryz.func71 (c:=Ai Tryz.f71) (by kernel_rfl) mixed (fun args p r hs hp=>by
 unfold Yh at hs;split at hs
 ·cases hs;exact⟨_,_,yD _ hp.2,(.p (DY hp.1) .nil),⟨show Aa Tryz.prog _ from(Aa.cons vH vI Aa.nil),rfl,⟨show Af Tryz.prog _ from Af.nil,(AA.none (fun _=>rfl))⟩⟩⟩
 ·cases hs)
theorem yF:As Tryz.prog 71:=fun args w=>by kernel_rfl
def Yj (s:(L.Sq Ah)):Prop:=s.n<=1000000
def Yk (s:(L.Sq Ah)):SV:=.bool (D2 s)
def Yl:List EV->Option (Prop×SV)
 |[.p (.sl 5 s_n s_g)]=>some ((∀i,i<s_n->s_g i = [.int .i64 ((AQ (s_g i)).id),.int .i64 ((AQ (s_g i)).colour),.int .i64 ((AQ (s_g i)).w),.int .i64 ((AQ (s_g i)).h),.int .i64 ((AQ (s_g i)).grain)])/\Yj (⟨s_n,fun i=>AQ (s_g i)⟩:(L.Sq Ah)),Yk (⟨s_n,fun i=>AQ (s_g i)⟩:(L.Sq Ah)))
 |_=>none
abbrev Ym:SE.Spec:=(AI Yl)
def yG:Al:={ cC with specs:=AC [(117,WU)] }
theorem yH (s:(L.Sq Ah)) (hp:Yj s):vc Tryz.prog ({ yG with loops:=AT [(2,{ T:=Nat,keep:=[0,5,6],keepO:=[],chg:=fun i=>[(7,.p (.int .i64 (i:Int)))],own:=fun _=>[],inv:=fun i=>i<=s.n/\∀j,j<i->C9 (fun i=>Bo (s.g i)) (fun i=>(s.g i).id) j=false,mu:=fun i=>s.n-i })],rfs:=AP [] }) (Ai Tryz.f72) (Au Tryz.f72 [.p (.sl 5 s.n (fun i=>[.int .i64 ((s.g i).id),.int .i64 ((s.g i).colour),.int .i64 ((s.g i).w),.int .i64 ((s.g i).h),.int .i64 ((s.g i).grain)]))]) (AH Tryz.prog Tryz.f72 (Yk s)):=
  @Eq.mpr _ (let I:=SV.int .i64;let T:=Aee;let A8:=(0:Int);let A7:=(1:Int);let A6:=(↑s.n:Int);let A2:=(s.n=s.n/\∀(i:Nat),let A4:=[I (s.g i).id,I (s.g i).colour,I (s.g i).w,I (s.g i).h,I (s.g i).grain];i<s.n->A4=A4);(∃(g:Nat),A8=(↑g:Int)/\g<=s.n/\∀(j:Nat),j<g->C9 (fun(i:Nat)=>Bo (s.g i)) (fun(i:Nat)=>(s.g
 i).id) j=false)/\∀(g:Nat),let A3:=(↑g:Int);let A9:=(s.g (T A3));let A5:=(!!Bo A9&&decide (A8<A3));let A1:=(bif !Bo A9 then true else bif decide (A8<A3)then decide (A9.id<=(s.g (T (A3-A7))).id)else false);(g<=s.n/\∀(j:Nat),j<g->C9 (fun(i:Nat)=>Bo (s.g i)) (fun(i:Nat)=>(s.g i).id) j =
 false)->(decide (A3<A6)=true->(A8<=A3/\A3<A6)/\True/\(A5=true->Ad .i64 (A3-A7))/\(A5=true->A8<=A3-A7/\A3-A7<A6)/\(A1=true->false=D2 s)/\(A1=false->Ad .i64 (A3+A7)/\∃(g':Nat),A3+A7=(↑g':Int)/\A6=A6/\A2/\A2/\(g'<=s.n/\∀(j:Nat),j<g'->C9 (fun(i
:Nat)=>Bo (s.g i)) (fun(i:Nat)=>(s.g i).id) j=false)/\s.n-g'<s.n-g))/\(decide (A3<A6)=false->true=D2 s)) (by kernel_rfl) (by
 conv=>zeta
 have hn:s.n<=1000000:=hp;refine⟨⟨(0:Nat),rfl,AdL _,fun j hj=>absurd hj (nT _)⟩,fun g hg=>⟨fun hlt=>?_,fun hge=>?_⟩⟩
 ·have hb:(g:Int)<(s.n:Int):=of_decide_eq_true hlt;have e0:((g:Int)).toNat=g:=Aea g;have e1:((g:Int)-1).toNat=g-1:=by omega
  rw[e0,e1];refine⟨⟨Aec _,hb⟩,trivial,fun _=>jK,fun h=>?_,fun h=>?_,fun h=>?_⟩
  ·have:0<(g:Int):=of_decide_eq_true (Afg.1 h).2;omega
  ·exact(Nf (i:=g) (f:=fun i=>!C9 (fun i=>Bo (s.g i)) (fun i=>(s.g i).id) i) (by omega) (by show(!_)=false;rw[show C9 (fun i=>Bo (s.g i)) (fun i=>(s.g i).id) g=true from h];rfl)).symm
  ·refine⟨jK,g+1,rfl,rfl,⟨rfl,fun _ _=>rfl⟩,⟨rfl,fun _ _=>rfl⟩,⟨by omega,fun j hj=>?_⟩,by omega⟩;rcases AdZ.1 hj with h'|rfl
   ·exact hg.2 j h'
   ·exact h
 ·have hb:¬ (g:Int)<(s.n:Int):=of_decide_eq_false hge;exact(Dk.2 (fun i hi=>by show(!_)=true;rw[hg.2 i (by omega)];rfl)).symm)
theorem yI:Ax Tryz.prog 72 Ym:=AK Tryz.func72 (c:=Ai Tryz.f72) (by kernel_rfl) mixed (fun args p r hs hp=>by
 unfold Yl at hs;split at hs
 ·cases hs;exact⟨_,_,yH _ hp.2,(.p (.sl hp.1) .nil),⟨show Aa Tryz.prog _ from(Aa.cons vD vE Aa.nil),rfl,⟨show Af Tryz.prog _ from Af.nil,(AA.none (fun _=>rfl))⟩⟩⟩
 ·cases hs)
theorem yJ:As Tryz.prog 72:=fun args w=>by kernel_rfl
def Yn (w:(L.Sq Ab)) (s:(L.Sq Ah)) (r:Bool):Prop:=w.n<=1000000/\(∀i,i<w.n->(w.g i).ol.n<=1000000)/\s.n<=1000000
def Yo (w:(L.Sq Ab)) (s:(L.Sq Ah)) (r:Bool):SV:=.int .i64 (Bq w s r)
def Yp:List EV->Option (Prop×SV)
 |[.p (.sl 4 w_n w_g),.p (.sl 5 s_n s_g),.p (.bool r)]=>some ((∀i,i<w_n->Dn (w_g i))/\(∀i,i<s_n->s_g i = [.int .i64 ((AQ (s_g i)).id),.int .i64 ((AQ (s_g i)).colour),.int .i64 ((AQ (s_g i)).w),.int .i64 ((AQ (s_g i)).h),.int .i64 ((AQ (s_g i)).grain)])/\Yn (⟨w_n,fun i=>Bx (w_g i)⟩:(L.Sq Ab)) (⟨s_n,fun i=>AQ (s_g i)⟩:(L.Sq Ah)) r,Yo (⟨w_n,fun i=>Bx (w_g i)⟩:(L.Sq Ab)) (⟨s_n,fun i=>AQ (s_g i)⟩:(L.Sq Ah)) r)
 |_=>none
abbrev JN:SE.Spec:=(AI Yp)
def yK:Al:={ cC with specs:=AC [(71,Yi),(72,Ym)] }
theorem yL (w:(L.Sq Ab)) (s:(L.Sq Ah)) (r:Bool) (hp:Yn w s r):vc Tryz.prog (yK) (Ai Tryz.f32) (Au Tryz.f32 [.p (.sl 4 w.n (fun i=>[.int .i64 ((w.g i).id),.int .i64 ((w.g i).colour),.int .i64 ((w.g i).grain),.sl 2 (w.g i).ol.n (fun i1=>[.int .i64 (((w.g i).ol.g i1).x),.int .i64 (((w.g i).ol.g i1).y)])])),.p (.sl 5 s.n (fun i=>[.int .i64 ((s.g i).id),.int .i64 ((s.g i).colour),.int .i64 ((s.g i).w),.int .i64 ((s.g i).h),.int .i64 ((s.g i).grain)])),.p (.bool r)]) (AH Tryz.prog Tryz.f32 (Yo w s r)):=
 @Eq.mpr _ (let I:=SV.int .i64;let A6:=(1000000:Nat);let A4:=(bif !D2 (L.Sq.mk s.n fun(i:Nat)=>s.g i)then true else !r);let A2:=(bif decide ((7:Int)<(↑w.n:Int))then true else decide ((7:Int)<(↑s.n:Int)));let A1:=(!Cy (L.Sq.mk w.n fun(i:Nat)=>Ab.mk (w.g i).id (w.g i).colour (w.g i).grain (L.Sq.mk (w.g i).ol.n fun(i_1:Nat)=>(w.g i).ol.g i_1)));((∀(i:Nat),i<w.n->∀(i_1:Nat),let A5:=((w.g i).ol.g i_1);i_1<(w.g i).ol.n -> [I A5.x,I A5.y]= [I A5.x,I A5.y])/\w.n<=A6/\∀(i:Nat),i<w.n->(w.g i).ol.n<=A6)/\(A1=true->(50:Int)=Bq w s r)/\(A1=false->((∀(i:Nat),let A3:=[I (s.g i).id,I (s.g i).colour,I (s.g i).w,I (s.g i).h,I (s.g i).grain];i<s.n->A3=A3)/\s.n<=A6)/\(A4=true->(1:Int)=Bq w s r)/\(A4=false->(A2=true->(2:Int)=Bq w s r)/\(A2=false->(0:Int)=Bq w s r)))) (by kernel_rfl) (by
 conv=>zeta
 obtain⟨hn,hol,hs⟩:=hp;refine⟨⟨fun _ _ _ _=>rfl,hn,hol⟩,fun h=>?_,fun h=>⟨⟨fun _ _=>rfl,hs⟩,fun h2=>?_,fun h2=>⟨fun h3=>?_,fun h3=>?_⟩⟩⟩
 ·have h:(!Cy w)=true:=h;unfold Bq;rw[h];rfl
 all_goals have h:(!Cy w)=false:=h
 ·unfold Bq;rw[h,h2];rfl
 ·unfold Bq;rw[h,h2,h3];rfl
 ·unfold Bq;rw[h,h2,h3];rfl)
theorem Lp:Ax Tryz.prog 32 JN:=AK Tryz.func32 (c:=Ai Tryz.f32) (by kernel_rfl) mixed (fun args p r hs hp=>by
 unfold Yp at hs;split at hs
 ·cases hs;exact⟨_,_,yL _ _ _ hp.2.2,(.p (DY hp.1) (.p (.sl hp.2.1) (.same _ .nil))),⟨show Aa Tryz.prog _ from(Aa.cons yE yF (Aa.cons yI yJ Aa.nil)),rfl,⟨show Af Tryz.prog _ from Af.nil,(AA.none (fun _=>rfl))⟩⟩⟩
 ·cases hs)
theorem Lq:As Tryz.prog 32:=fun args w=>by kernel_rfl
def Yq (l:(L.Sq Ac)):Prop:=l.n<=1000000
def Yr (l:(L.Sq Ac)):Nat->Prop:=fun _=>True
def Ys (l:(L.Sq Ac)):Nat->Nat:=fun _=>l.n
def Yt (l:(L.Sq Ac)):Nat->Nat->List SV:=fun _ i=>[.int .i64 ((l.g i).w),.int .i64 ((l.g i).h)]
def Yu:List EV->Option (Prop×(Nat->Prop)×(Nat->Nat)×(Nat->Nat->List SV))
 |[.p (.sl 2 l_n l_g)]=>some ((∀i,i<l_n->l_g i = [.int .i64 ((D0 (l_g i)).w),.int .i64 ((D0 (l_g i)).h)])/\Yq (⟨l_n,fun i=>D0 (l_g i)⟩:(L.Sq Ac)),Yr (⟨l_n,fun i=>D0 (l_g i)⟩:(L.Sq Ac)),Ys (⟨l_n,fun i=>D0 (l_g i)⟩:(L.Sq Ac)),Yt (⟨l_n,fun i=>D0 (l_g i)⟩:(L.Sq Ac)))
 |_=>none
abbrev Yv:SE.Spec:=(Ge Nat 0 74 2 Yu)
def yM:Al:={ cC with muts:=[5] }
theorem yN (l:(L.Sq Ac)) (hp:Yq l):vc Tryz.prog (yM) (Ai Tryz.f35) (Au Tryz.f35 [.p (.sl 2 l.n (fun i=>[.int .i64 ((l.g i).w),.int .i64 ((l.g i).h)]))]) (EW Tryz.prog Tryz.f35 (Nat) (Yr l) 74 2 (Ys l) (Yt l)):=
 @Eq.mpr _ (∀(b:Bool),(b = !false->l.n=(0:Nat))->(b=true->∃(t:Nat),l.n=(0:Nat)/\True)/\(b=false->(nat_lit 0+l.n)*nat_lit 16<=(140737488355328:Nat)/\∃(t:Nat),(nat_lit 0+l.n=l.n/\∀(i:Nat),i<nat_lit 0+l.n->AN (nat_lit 0) (Ce [] (nat_lit 2)) (fun(i:Nat)=>[SV.int .i64 (l.g i).w,SV.int .i64 (l.g i).h]) i = [SV.int .i64 (l.g i).w,SV.int .i64 (l.g i).h])/\True)) (by kernel_rfl) (by
 have hn:l.n<=1000000:=hp;refine fun b hb=>⟨fun h=>⟨(0:Nat),hb h,trivial⟩,fun h=>⟨show(0+l.n)*16<=140737488355328 by omega,(0:Nat),⟨Nat.zero_add _,fun i hi=>?_⟩,trivial⟩⟩;unfold AN;rw[if_neg (nT _)];rfl)
theorem yO:Ax Tryz.prog 35 Yv:=G3 Tryz.func35 (c:=Ai Tryz.f35) (by kernel_rfl) mixed (fun args p q n g hs hp=>by
 unfold Yu at hs;split at hs
 ·cases hs;exact⟨_,_,yN _ hp.2,(.p (.sl hp.1) .nil),⟨show Aa Tryz.prog _ from Aa.nil,rfl,⟨show Af Tryz.prog _ from Af.nil,(AA.none (fun _=>rfl))⟩⟩⟩
 ·cases hs)
theorem yP:As Tryz.prog 35:=fun args w=>by kernel_rfl
abbrev IP:Mk:={ T:=(L.Sq Ab)×(Int)×(Int->Bool)×(Int)×(Ac),U:=Int->Bool,args:=fun t=>(fun w gr dom g r=>[.loc 1000 0,.p (.int .i64 g),.p ((.agg [.int .i64 r.w,.int .i64 r.h]))]) t.1 t.2.1 t.2.2.1 t.2.2.2.1 t.2.2.2.2,lkeys:=[1000,1001],keys:=[],lent:=fun t=>(fun w gr dom g r=>[(1000,.blk 130 [.p ((.sl 4 w.n (fun i=>[.int .i64 ((w.g i).id),.int .i64 ((w.g i).colour),.int .i64 ((w.g i).grain),.sl 2 (w.g i).ol.n (fun i1=>[.int .i64 (((w.g i).ol.g i1).x),.int .i64 (((w.g i).ol.g i1).y)])]))),.p (.int .i64 gr),.mapv 1001]),(1001,.mq 3 27 dom (Aj (Ak w gr)))]) t.1 t.2.1 t.2.2.1 t.2.2.2.1 t.2.2.2.2,pre:=fun t=>(fun w gr dom g r=>Bv w/\0<=g/\g<=AM w.n) t.1 t.2.1 t.2.2.1 t.2.2.2.1 t.2.2.2.2,post:=fun t u=>(fun w gr dom g r=>fun u=>True) t.1 t.2.1 t.2.2.1 t.2.2.2.1 t.2.2.2.2 u,lent':=fun t u=>(fun w gr dom g r=>fun u=>[(1000,.blk 130 [.p ((.sl 4 w.n (fun i=>[.int .i64 ((w.g i).id),.int .i64 ((w.g i).colour),.int .i64 ((w.g i).grain),.sl 2 (w.g i).ol.n (fun i1=>[.int .i64 (((w.g i).ol.g i1).x),.int .i64 (((w.g i).ol.g i1).y)])]))),.p (.int .i64 gr),.mapv 1001]),(1001,.mq 3 27 u (Aj (Ak w gr)))]) t.1 t.2.1 t.2.2.1 t.2.2.2.1 t.2.2.2.2 u,own:=fun t u=>(fun w gr dom g r=>fun u=>[]) t.1 t.2.1 t.2.2.1 t.2.2.2.1 t.2.2.2.2 u,res:=fun t u=>(fun w gr dom g r=>fun u=>.p (.bool (CH w gr g r))) t.1 t.2.1 t.2.2.1 t.2.2.2.1 t.2.2.2.2 u }
theorem yQ (w:L.Sq Ab) (gr:Int) (dom:Int->Bool) (g:Int) (r:Ac) (hp:IP.pre (w,gr,dom,g,r)):vc Tryz.prog ({ cC with specs:=AC [(82,Yb),(83,Ye)],mks:=DF [(36,H0)],ren:=fun k=>k }) (Ai Tryz.f41) (Dy Tryz.f41 (IP.args (w,gr,dom,g,r)) (IP.lent (w,gr,dom,g,r))) (Fq Tryz.prog Tryz.f41 IP (w,gr,dom,g,r)):=
 @Eq.mpr _ (let I:=SV.int .i64;let A7:=(2:Nat);let A3:=[SV.ref [I (w,gr,dom,g,r).snd.snd.snd.snd.w,I (w,gr,dom,g,r).snd.snd.snd.snd.h] (nat_lit 0)];let A1:=(BR.mk (fun(«as»:List SV)=>EX JM (AeS EV.p «as» ++ AeS EV.p A3)) fun(«as»:List SV)=>G1 JM (AeS EV.p «as» ++ AeS EV.p A3));∃(t:L.Sq Ab×Int×(Int->Bool)×Int),let A2:=(Ak t.1 t.2.1 t.snd.2.2);nat_lit 0=(0:Nat)/\g=t.snd.2.2/\(w.n=t.1.n/\∀(i:Nat),let A4:=(t.1.g i);i<w.n -> [I (w.g i).id,I (w.g i).colour,I (w.g i).grain,SV.sl A7 (w.g i).ol.n fun(i1:Nat)=>[I ((w.g i).ol.g i1).x,I ((w.g i).ol.g i1).y]]= [I A4.id,I A4.colour,I A4.grain,SV.sl A7 A4.ol.n fun(i1:Nat)=>[I (A4.ol.g i1).x,I (A4.ol.g i1).y]])/\gr=t.2.1/\(∀(x:Int),dom x=t.snd.2.1 x)/\(∀(x:Int),dom x=true->Aj (Ak w gr) x=Aj (Ak t.1 t.2.1) x)/\(Bv t.1/\(0:Int)<=t.snd.2.2/\t.snd.2.2<=AM t.1.n)/\∀(u:Int->Bool),True->((∀(i:Nat),let A6:=[I (A2.g i).w,I (A2.g i).h];i<A2.n->A6=A6)/\Fp A1/\A2.n<=(1000000:Nat)/\∀(i:Nat),i<A2.n->True)/\∃(u_1:Int->Bool),(Cb A2.n fun(i:Nat)=>Bu A1 [SV.agg [I (A2.g i).w,I (A2.g i).h]])=CH w gr g r/\(t.1.n=w.n/\∀(i:Nat),let A5:=(t.1.g i);i<t.1.n -> [I A5.id,I A5.colour,I A5.grain,SV.sl A7 A5.ol.n fun(i1:Nat)=>[I (A5.ol.g i1).x,I (A5.ol.g i1).y]]= [I (w.g i).id,I (w.g i).colour,I (w.g i).grain,SV.sl A7 (w.g i).ol.n fun(i1:Nat)=>[I ((w.g i).ol.g i1).x,I ((w.g i).ol.g i1).y]])/\t.2.1=gr/\(∀(x:Int),u x=u_1 x)/\(∀(x:Int),u x=true->Aj (Ak t.1 t.2.1) x=Aj (Ak w gr) x)/\True) (by kernel_rfl) (by
 conv=>zeta
 have hp:Bv w/\0<=g/\g<=AM w.n:=hp;have hl:(AU w gr g).length<=1000000:=Aeu (IN w gr hp.2.1 (Afy hp.2.2 (MY hp.1.1))) (by decide);exact⟨(w,gr,dom,g),rfl,rfl,⟨rfl,fun _ _=>rfl⟩,rfl,fun _=>rfl,fun _ _=>rfl,hp,fun u _=>⟨⟨fun _ _=>rfl,OE yB _,hl,fun _ _=>trivial⟩,u,rfl,⟨rfl,fun _ _=>rfl⟩,rfl,fun _=>rfl,fun _ _=>rfl,trivial⟩⟩)
theorem PJ:As Tryz.prog 41:=fun args w=>by kernel_rfl
theorem PK:De Tryz.prog 41 IP:=FB (n:=3) Tryz.func41 (c:=Ai Tryz.f41) (by kernel_rfl) mixed ⟨fun t=>rfl,fun t=>rfl,fun t u=>rfl,fun t u=>rfl,fun t u=>rfl,fun t u=>⟨rfl,rfl⟩,by kernel_rfl,by kernel_rfl⟩ (fun⟨w,gr,dom,g,r⟩ hp=>⟨_,yQ w gr dom g r hp,⟨show Aa Tryz.prog _ from(Aa.cons xV xW (Aa.cons xZ yA Aa.nil)),rfl,⟨show Af Tryz.prog _ from Af.nil,⟨AA.no1 (fun _=>rfl),⟨show Bj Tryz.prog _ from(Bj.cons XS PI Bj.nil),FamsOk.none (fun _=>rfl)⟩⟩⟩⟩⟩)
def Yw (w:(L.Sq Ab)) (gr:Int):Prop:=CI w
def Yx (w:(L.Sq Ab)) (gr:Int):SV:=.tup [.sl 2 (Lo w gr) (fun k=>[.int .i64 (((Ak w gr (AM w.n)).g k).w),.int .i64 (((Ak w gr (AM w.n)).g k).h)]),.int .i64 (JL w gr)]
def Yy:List EV->Option (Prop×SV)
 |[.p (.sl 4 w_n w_g),.p (.int .i64 gr)]=>some ((∀i,i<w_n->Dn (w_g i))/\Yw (⟨w_n,fun i=>Bx (w_g i)⟩:(L.Sq Ab)) gr,Yx (⟨w_n,fun i=>Bx (w_g i)⟩:(L.Sq Ab)) gr)
 |_=>none
abbrev Yz:SE.Spec:=(AI Yy)
def yR:Al:={ cC with specs:=AC [(33,JI),(32,JN),(35,Yv)],mks:=DF [(34,Hy),(37,Ia),(36,H0)],ren:=fun k=>if k=1000 then 9 else if k=1001 then 7 else k }
theorem yS (w:(L.Sq Ab)) (gr:Int) (hp:Yw w gr):vc Tryz.prog (yR) (Ai Tryz.f8) (Au Tryz.f8 [.p (.sl 4 w.n (fun i=>[.int .i64 ((w.g i).id),.int .i64 ((w.g i).colour),.int .i64 ((w.g i).grain),.sl 2 (w.g i).ol.n (fun i1=>[.int .i64 (((w.g i).ol.g i1).x),.int .i64 (((w.g i).ol.g i1).y)])])),.p (.int .i64 gr)]) (AH Tryz.prog Tryz.f8 (Yx w gr)):=
 @Eq.mpr _ (let I:=SV.int .i64;let A10:=(2:Nat);let A9:=(1000000:Nat);let A4:=(0:Int);let A16:=(Ay gr A4 (2:Int));let A5:=(L.Sq.mk (nat_lit 0) fun(i:Nat)=>Ah.mk A4 A4 A4 A4 A4);let A3:=(L.Sq.mk w.n fun(i:Nat)=>Ab.mk (w.g i).id (w.g i).colour (w.g i).grain (L.Sq.mk (w.g i).ol.n fun(i_1:Nat)=>(w.g i).ol.g i_1));let A1:=(!decide (Bq A3 A5 A16=A4));True/\((∀(i:Nat),i<w.n->∀(i_1:Nat),let A6:=((w.g i).ol.g i_1);i_1<(w.g i).ol.n -> [I A6.x,I A6.y]= [I A6.x,I A6.y])/\(∀(i:Nat),i<nat_lit 0 -> []= [I A4,I A4,I A4,I A4,I A4])/\w.n<=A9/\(∀(i:Nat),i<w.n->(w.g i).ol.n<=A9)/\nat_lit 0<=A9)/\(A1=true->Lo w gr=(0:Nat)/\Bq A3 A5 A16=JL w gr)/\(A1=false->∃(t:L.Sq Ab×Int×(Int->L.Sq Ac)),(w.n=t.1.n/\∀(i:Nat),let A11:=(t.1.g i);i<w.n -> [I (w.g i).id,I (w.g i).colour,I (w.g i).grain,SV.sl A10 (w.g i).ol.n fun(i1:Nat)=>[I ((w.g i).ol.g i1).x,I ((w.g i).ol.g i1).y]]= [I A11.id,I A11.colour,I A11.grain,SV.sl A10 A11.ol.n fun(i1:Nat)=>[I (A11.ol.g i1).x,I (A11.ol.g i1).y]])/\gr=t.2.1/\True/\∀(u:Nat),True->∃(t_1:L.Sq Ab×Int×(Int->L.Sq Ac)×(Int->Bool)),nat_lit 0=(0:Nat)/\(t.1.n=t_1.1.n/\∀(i:Nat),let A12:=(t.1.g i);let A7:=(t_1.1.g i);i<t.1.n -> [I A12.id,I A12.colour,I A12.grain,SV.sl A10 A12.ol.n fun(i1:Nat)=>[I (A12.ol.g i1).x,I (A12.ol.g i1).y]]= [I A7.id,I A7.colour,I A7.grain,SV.sl A10 A7.ol.n fun(i1:Nat)=>[I (A7.ol.g i1).x,I (A7.ol.g i1).y]])/\t.2.1=t_1.2.1/\(∀(x:Int),false=t_1.snd.2.2 x)/\(∀(x:Int),false=true->Aj t.2.2 x=Aj t_1.snd.2.1 x)/\t_1.1.n<=(4:Nat)/\∀(u:Nat),True->∃(t:L.Sq Ab×Int×(Int->Bool)×Int),let A2:=(Ak t.1 t.2.1 t.snd.2.2);nat_lit 0=(0:Nat)/\AM t_1.1.n=t.snd.2.2/\(t_1.1.n=t.1.n/\∀(i:Nat),let A13:=(t.1.g i);let A8:=(t_1.1.g i);i<t_1.1.n -> [I A8.id,I A8.colour,I A8.grain,SV.sl A10 A8.ol.n fun(i1:Nat)=>[I (A8.ol.g i1).x,I (A8.ol.g i1).y]]= [I A13.id,I A13.colour,I A13.grain,SV.sl A10 A13.ol.n fun(i1:Nat)=>[I (A13.ol.g i1).x,I (A13.ol.g i1).y]])/\t_1.2.1=t.2.1/\(∀(x:Int),t_1.snd.2.2 x=t.snd.2.1 x)/\(∀(x:Int),t_1.snd.2.2 x=true->Aj t_1.snd.2.1 x=Aj (Ak t.1 t.2.1) x)/\(Bv t.1/\A4<=t.snd.2.2/\t.snd.2.2<=AM t.1.n)/\∀(u:Int->Bool),True->((∀(i:Nat),let A15:=[I (A2.g i).w,I (A2.g i).h];i<A2.n->A15=A15)/\A2.n<=A9)/\∀(t_2:Nat),True->(A2.n=Lo w gr/\∀(i:Nat),let A14:=((Ak w gr (AM w.n)).g i);i<A2.n -> [I (A2.g i).w,I (A2.g i).h]= [I A14.w,I A14.h])/\A4=JL w gr)) (by kernel_rfl) (by
 conv=>zeta
 have hp:CI w:=hp;refine⟨trivial,⟨fun _ _ _ _=>rfl,fun i hi=>absurd hi (nT _),hp.2.1,hp.2.2,AdL _⟩,fun h=>?_,fun h=>?_⟩
 ·have h:¬ JL w gr=0:=of_decide_eq_false (Cx h);exact⟨by unfold Lo;rw[decide_eq_false h];rfl,rfl⟩
 ·have h:JL w gr=0:=of_decide_eq_true (BW h);obtain⟨-,-,-,h7,-⟩:=Ic h;have ok:=H1 hp h7;have a15:=Gi ok.1;have hl:(AU w gr (AM w.n)).length<=1000000:=Aeu (IN w gr a15.1 a15.2.1) (by decide);exact⟨(w,gr,Ak w gr),⟨rfl,fun _ _=>rfl⟩,rfl,trivial,fun _ _=>⟨(w,gr,Ak w gr,fun _=>false),rfl,⟨rfl,fun _ _=>rfl⟩,rfl,fun _=>rfl,fun _ _=>rfl,ok.1,fun _ _=>⟨(w,gr,(fun _=>false),AM w.n),rfl,rfl,⟨rfl,fun _ _=>rfl⟩,rfl,fun _=>rfl,fun _ _=>rfl,⟨ok,a15.1,Ael _⟩,fun u _=>⟨⟨fun _ _=>rfl,hl⟩,fun _ _=>⟨⟨by unfold Lo;rw[decide_eq_true h];rfl,fun _ _=>rfl⟩,h.symm⟩⟩⟩⟩⟩)
theorem yT:Ax Tryz.prog 8 Yz:=AK Tryz.func8 (c:=Ai Tryz.f8) (by kernel_rfl) mixed (fun args p r hs hp=>by
 unfold Yy at hs;split at hs
 ·cases hs;exact⟨_,_,yS _ _ hp.2,(.p (DY hp.1) (.same _ .nil)),⟨show Aa Tryz.prog _ from(Aa.cons Li Lj (Aa.cons Lp Lq (Aa.cons yO yP Aa.nil))),rfl,⟨show Af Tryz.prog _ from Af.nil,⟨AA.no1 (fun _=>rfl),⟨show Bj Tryz.prog _ from(Bj.cons MU MT (Bj.cons P8 P7 (Bj.cons XS PI Bj.nil))),FamsOk.none (fun _=>rfl)⟩⟩⟩⟩⟩
 ·cases hs)
theorem yU:As Tryz.prog 8:=fun args w=>by kernel_rfl
def Y0 (w:(L.Sq Ab)) (s:Ah):Prop:=CI w
def Y1 (w:(L.Sq Ab)) (s:Ah):SV:=.tup [.bool (Gj w s),.int .i64 (E7 w s)]
def Y2:List EV->Option (Prop×SV)
 |[.p (.sl 4 w_n w_g),.p (.agg [.int .i64 s_id,.int .i64 s_colour,.int .i64 s_w,.int .i64 s_h,.int .i64 s_grain])]=>some ((∀i,i<w_n->Dn (w_g i))/\Y0 (⟨w_n,fun i=>Bx (w_g i)⟩:(L.Sq Ab)) (⟨s_id,s_colour,s_w,s_h,s_grain⟩:Ah),Y1 (⟨w_n,fun i=>Bx (w_g i)⟩:(L.Sq Ab)) (⟨s_id,s_colour,s_w,s_h,s_grain⟩:Ah))
 |_=>none
abbrev Y3:SE.Spec:=(AI Y2)
def yV:Al:={ cC with specs:=AC [(32,JN)],anys:=[1005],mks:=DF [(34,Hy),(37,Ia),(41,IP)],ren:=fun k=>if k=1000 then 9 else if k=1001 then 7 else k }
theorem yW (w:(L.Sq Ab)) (s:Ah) (hp:Y0 w s):vc Tryz.prog (yV) (Ai Tryz.f10) (Au Tryz.f10 [.p (.sl 4 w.n (fun i=>[.int .i64 ((w.g i).id),.int .i64 ((w.g i).colour),.int .i64 ((w.g i).grain),.sl 2 (w.g i).ol.n (fun i1=>[.int .i64 (((w.g i).ol.g i1).x),.int .i64 (((w.g i).ol.g i1).y)])])),.p (.agg [.int .i64 s.id,.int .i64 s.colour,.int .i64 s.w,.int .i64 s.h,.int .i64 s.grain])]) (AH Tryz.prog Tryz.f10 (Y1 w s)):=
 @Eq.mpr _ (let I:=SV.int .i64;let A19:=(0:Nat);let A18:=(1000000:Nat);let A17:=(0:Int);let A11:=(L.Sq.mk (nat_lit 1) fun(i:Nat)=>s);let A6:=[I s.id,I s.colour,I s.w,I s.h,I s.grain];let A4:=(2:Nat);let A2:=(L.Sq.mk w.n fun(i:Nat)=>Ab.mk (w.g i).id (w.g i).colour (w.g i).grain (L.Sq.mk (w.g i).ol.n fun(i_1:Nat)=>(w.g i).ol.g i_1));let A3:=(!decide (Bq A2 A11 true=A17));((∀(i:Nat),i<w.n->∀(i_1:Nat),let A5:=((w.g i).ol.g i_1);i_1<(w.g i).ol.n -> [I A5.x,I A5.y]= [I A5.x,I A5.y])/\(∀(i:Nat),i<nat_lit 1->A6=A6)/\w.n<=A18/\(∀(i:Nat),i<w.n->(w.g i).ol.n<=A18)/\nat_lit 1<=A18)/\(A3=true->false=Gj w s/\Bq A2 A11 true=E7 w s)/\(A3=false->∃(t:L.Sq Ab×Int×(Int->L.Sq Ac)),(w.n=t.1.n/\∀(i:Nat),let A12:=(t.1.g i);i<w.n -> [I (w.g i).id,I (w.g i).colour,I (w.g i).grain,SV.sl A4 (w.g i).ol.n fun(i1:Nat)=>[I ((w.g i).ol.g i1).x,I ((w.g i).ol.g i1).y]]= [I A12.id,I A12.colour,I A12.grain,SV.sl A4 A12.ol.n fun(i1:Nat)=>[I (A12.ol.g i1).x,I (A12.ol.g i1).y]])/\s.grain=t.2.1/\True/\∀(u:Nat),let A1:=(∃(t_1:L.Sq Ab×Int×(Int->L.Sq Ac)×(Int->Bool)),nat_lit 0=A19/\(t.1.n=t_1.1.n/\∀(i:Nat),let A13:=(t.1.g i);let A7:=(t_1.1.g i);i<t.1.n -> [I A13.id,I A13.colour,I A13.grain,SV.sl A4 A13.ol.n fun(i1:Nat)=>[I (A13.ol.g i1).x,I (A13.ol.g i1).y]]= [I A7.id,I A7.colour,I A7.grain,SV.sl A4 A7.ol.n fun(i1:Nat)=>[I (A7.ol.g i1).x,I (A7.ol.g i1).y]])/\t.2.1=t_1.2.1/\(∀(x:Int),false=t_1.snd.2.2 x)/\(∀(x:Int),false=true->Aj t.2.2 x=Aj t_1.snd.2.1 x)/\t_1.1.n<=(4:Nat)/\∀(u:Nat),True->∃(t:L.Sq Ab×Int×(Int->Bool)×Int×Ac),nat_lit 0=A19/\AM t_1.1.n=t.snd.snd.2.1/\SV.agg [I s.w,I s.h]=SV.agg [I t.snd.snd.2.2.w,I t.snd.snd.2.2.h]/\(t_1.1.n=t.1.n/\∀(i:Nat),let A14:=(t.1.g i);let A8:=(t_1.1.g i);i<t_1.1.n -> [I A8.id,I A8.colour,I A8.grain,SV.sl A4 A8.ol.n fun(i1:Nat)=>[I (A8.ol.g i1).x,I (A8.ol.g i1).y]]= [I A14.id,I A14.colour,I A14.grain,SV.sl A4 A14.ol.n fun(i1:Nat)=>[I (A14.ol.g i1).x,I (A14.ol.g i1).y]])/\t_1.2.1=t.2.1/\(∀(x:Int),t_1.snd.2.2 x=t.snd.2.1 x)/\(∀(x:Int),t_1.snd.2.2 x=true->Aj t_1.snd.2.1 x=Aj (Ak t.1 t.2.1) x)/\(Bv t.1/\A17<=t.snd.snd.2.1/\t.snd.snd.2.1<=AM t.1.n)/\∀(u:Int->Bool),True->CH t.1 t.2.1 t.snd.snd.2.1 t.snd.snd.2.2=Gj w s/\A17=E7 w s);True->A1/\A1/\A1/\A1/\A1/\A1/\A1/\A1/\A1/\∃(t_1:L.Sq Ab×Int×(Int->L.Sq Ac)×(Int->Bool)),nat_lit 0=A19/\(t.1.n=t_1.1.n/\∀(i:Nat),let A15:=(t.1.g i);let A9:=(t_1.1.g i);i<t.1.n -> [I A15.id,I A15.colour,I A15.grain,SV.sl A4 A15.ol.n fun(i1:Nat)=>[I (A15.ol.g i1).x,I (A15.ol.g i1).y]]= [I A9.id,I A9.colour,I A9.grain,SV.sl A4 A9.ol.n fun(i1:Nat)=>[I (A9.ol.g i1).x,I (A9.ol.g i1).y]])/\t.2.1=t_1.2.1/\(∀(x:Int),false=t_1.snd.2.2 x)/\(∀(x:Int),false=true->Aj t.2.2 x=Aj t_1.snd.2.1 x)/\t_1.1.n<=(4:Nat)/\∀(u:Nat),True->∃(t:L.Sq Ab×Int×(Int->Bool)×Int×Ac),nat_lit 0=A19/\AM t_1.1.n=t.snd.snd.2.1/\SV.agg [I s.w,I s.h]=SV.agg [I t.snd.snd.2.2.w,I t.snd.snd.2.2.h]/\(t_1.1.n=t.1.n/\∀(i:Nat),let A16:=(t.1.g i);let A10:=(t_1.1.g i);i<t_1.1.n -> [I A10.id,I A10.colour,I A10.grain,SV.sl A4 A10.ol.n fun(i1:Nat)=>[I (A10.ol.g i1).x,I (A10.ol.g i1).y]]= [I A16.id,I A16.colour,I A16.grain,SV.sl A4 A16.ol.n fun(i1:Nat)=>[I (A16.ol.g i1).x,I (A16.ol.g i1).y]])/\t_1.2.1=t.2.1/\(∀(x:Int),t_1.snd.2.2 x=t.snd.2.1 x)/\(∀(x:Int),t_1.snd.2.2 x=true->Aj t_1.snd.2.1 x=Aj (Ak t.1 t.2.1) x)/\(Bv t.1/\A17<=t.snd.snd.2.1/\t.snd.snd.2.1<=AM t.1.n)/\∀(u:Int->Bool),True->CH t.1 t.2.1 t.snd.snd.2.1 t.snd.snd.2.2=Gj w s/\A17=E7 w s)) (by kernel_rfl) (by
 conv=>zeta
 have hp:CI w:=hp;refine⟨⟨fun _ _ _ _=>rfl,fun _ _=>rfl,hp.2.1,hp.2.2,by decide⟩,fun h=>?_,fun h=>?_⟩
 ·have h:¬ E7 w s=0:=of_decide_eq_false (Cx h);exact⟨by unfold Gj;rw[decide_eq_false h];rfl,rfl⟩
 ·have h:E7 w s=0:=of_decide_eq_true (BW h);obtain⟨-,-,-,h7,-⟩:=Ic h;have ok:=H1 hp h7;have a15:=Gi ok.1;have hb:CH w s.grain (AM w.n) ⟨s.w,s.h⟩=Gj w s:=by unfold Gj;rw[decide_eq_true h];rfl
  refine⟨(w,s.grain,Ak w s.grain),⟨rfl,fun _ _=>rfl⟩,rfl,trivial,fun _ _=>?_⟩
  repeat' apply And.intro
  all_goals exact⟨(w,s.grain,Ak w s.grain,fun _=>false),rfl,⟨rfl,fun _ _=>rfl⟩,rfl,fun _=>rfl,fun _ _=>rfl,ok.1,fun _ _=>⟨(w,s.grain,(fun _=>false),AM w.n,⟨s.w,s.h⟩),rfl,rfl,rfl,⟨rfl,fun _ _=>rfl⟩,rfl,fun _=>rfl,fun _ _=>rfl,⟨ok,a15.1,Ael _⟩,fun u _=>⟨hb,h.symm⟩⟩⟩)
theorem yX:Ax Tryz.prog 10 Y3:=AK Tryz.func10 (c:=Ai Tryz.f10) (by kernel_rfl) mixed (fun args p r hs hp=>by
 unfold Y2 at hs;split at hs
 ·cases hs;exact⟨_,_,yW _ _ hp.2,(.p (DY hp.1) (.same _ .nil)),⟨show Aa Tryz.prog _ from(Aa.cons Lp Lq Aa.nil),rfl,⟨show Af Tryz.prog _ from Af.nil,⟨AA.no1 (fun _=>rfl),⟨show Bj Tryz.prog _ from(Bj.cons MU MT (Bj.cons P8 P7 (Bj.cons PK PJ Bj.nil))),FamsOk.none (fun _=>rfl)⟩⟩⟩⟩⟩
 ·cases hs)
theorem yY:As Tryz.prog 10:=fun args w=>by kernel_rfl
end Go.Proofs.YtijidjjfkahojaaGreat
