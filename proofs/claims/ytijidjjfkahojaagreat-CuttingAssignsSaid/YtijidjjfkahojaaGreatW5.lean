/- A symbolic walk over the model, and what it shows of functions of the program: parts of the proof that the text of the row joins. -/
import Derived.Test.YtijidjjfkahojaaGreatW4
import Derived.Test.YtijidjjfkahojaaGreatE5
import Derived.KernelRfl
import Derived.Test.YtijidjjfkahojaaGreatW2
import Derived.Test.YtijidjjfkahojaaGreatW3
open List renaming getD_eq_getElem?_getD->AS,getElem?_eq_getElem->AdH,mem_cons_of_mem->AdJ,mem_filter->AdK,mem_cons_self->AdM,mem_map->AdN,all_eq_true->AdO,range->AdP,mem_range->AdQ,mem_cons->AdR,mem_singleton->AdY,getElem_mem->Aeg,length_append->Aei,getElem_of_mem->Aem,foldl_cons->Aew,mem_flatMap->Aex,length_cons->Ae3,length_map->Ae7,append_nil->AeA,length_singleton->AeB,append_assoc->AeG,map->AeS,nil_append->Afl,length_take->Afx,take_length->Afz
open Nat renaming not_lt_zero->nT,zero_le->AdL,le_refl->AdS,lt_succ_iff_lt_or_eq->AdZ,zero_add->Aek,lt_or_ge->Ae5,sub_self->Afc
open Bool renaming and_eq_true->oE,or_eq_true->Aen,not_eq_true'->Aer
open Option renaming none->AdV
open Int renaming toNat_natCast->Aea,toNat->Aee,le_refl->Ael,eq_ofNat_of_zero_le->Aev,emod_eq_of_lt->Ae9,add_emod_right->AeM,add_zero->Afk
namespace Go.Proofs.YtijidjjfkahojaaGreat
open Go.SE Go.RowKit
set_option maxRecDepth 100000
set_option maxHeartbeats 40000000
set_option linter.unusedVariables false
attribute [local irreducible] vc
def Qr (sh:Ah):AR:=⟨⟨0,0⟩,⟨sh.w,sh.h⟩⟩
def Hd:Nat->CP:=fun _=>⟨0,0,0,⟨0,0⟩⟩
def cU (w:L.Sq Ab) (sh:Ah):Gl:=EE w sh (AM w.n) (Qr sh) ⟨Hd,[]⟩
def DQ (w:L.Sq Ab) (sh:Ah):Nat->CP:=(cU w sh).pl
def Ik (w:L.Sq Ab) (sh:Ah):List BQ:=(cU w sh).sc
def Gp (w:L.Sq Ab) (sh:Ah):Int:=bif !decide (E7 w sh=0)then E7 w sh else bif !Gj w sh then 52 else 0
def He (w:L.Sq Ab) (sh:Ah):Nat:=bif decide (Gp w sh=0)then w.n else 0
def H5 (w:L.Sq Ab) (sh:Ah):L.Sq BQ:=Ba (bif decide (Gp w sh=0)then Ik w sh else [])
theorem Ac1 {s:Ah} (h:Bo s=true):1<=s.w/\s.w<=4096/\1<=s.h/\s.h<=4096/\0<=s.grain/\s.grain<=2/\1<=s.id/\s.id<=65535:=by
 unfold Bo at h;cases h1:Ay s.id 1 65535
 ·rw[h1]at h;cases h
 cases h2:Ay s.colour 1 16
 ·rw[h1,h2]at h;cases h
 cases h3:Ay s.w 1 4096
 ·rw[h1,h2,h3]at h;cases h
 cases h4:Ay s.h 1 4096
 ·rw[h1,h2,h3,h4]at h;cases h
 rw[h1,h2,h3,h4]at h;have h:Ay s.grain 0 2=true:=h;unfold Ay at h h1 h3 h4;rw[oE,decide_eq_true_eq,decide_eq_true_eq]at h h1 h3 h4;omega
theorem Ac2 {s:L.Sq Ah} (h:D2 s=true) {i:Nat} (hi:i<s.n):Bo (s.g i)=true:=by
 have:=Dk.1 h i hi;simp only[Aer]at this;unfold C9 at this;cases h1:Bo (s.g i)
 ·simp only[h1]at this;cases this
 ·rfl
theorem Ac3 {sh:Ah} (h:Bo sh=true):CQ (Qr sh):=by
 obtain⟨h1,h2,h3,h4,_⟩:=Ac1 h;exact⟨Ael _,Ael _,by show 0<=sh.w;omega,by show 0<=sh.h;omega,by show 0+sh.w<=4096;omega,by show 0+sh.h<=4096;omega⟩
theorem Ac4 {w:L.Sq Ab} {s:Ah} (h:E7 w s=0):Cy w=true/\Bo s=true/\w.n<=7:=by
 obtain⟨h1,h2,-,h4,-⟩:=Ic h;exact⟨h1,Ac2 (s:=XT s) (i:=0) h2 (show 0<1 by decide),h4⟩
section
attribute [local irreducible] Ao Di BT FN AM ED EE CH Ak AU
abbrev JX:Mk:={ T:=(L.Sq Ab)×(Ah),U:=Int->Bool,args:=fun t=>(fun w sh=>[.p ((.sl 4 w.n (fun i=>[.int .i64 ((w.g i).id),.int .i64 ((w.g i).colour),.int .i64 ((w.g i).grain),.sl 2 (w.g i).ol.n (fun i1=>[.int .i64 (((w.g i).ol.g i1).x),.int .i64 (((w.g i).ol.g i1).y)])]))),.p ((.agg [.int .i64 sh.id,.int .i64 sh.colour,.int .i64 sh.w,.int .i64 sh.h,.int .i64 sh.grain]))]) t.1 t.2,lkeys:=[],keys:=[9,7,15,13,20],lent:=fun t=>(fun w sh=>[]) t.1 t.2,pre:=fun t=>(fun w sh=>Bv w/\Bo sh=true) t.1 t.2,post:=fun t u=>(fun w sh=>fun u=>True) t.1 t.2 u,lent':=fun t u=>(fun w sh=>fun u=>[]) t.1 t.2 u,own:=fun t u=>(fun w sh=>fun u=>[(9,.blk 130 [.p ((.sl 4 w.n (fun i=>[.int .i64 ((w.g i).id),.int .i64 ((w.g i).colour),.int .i64 ((w.g i).grain),.sl 2 (w.g i).ol.n (fun i1=>[.int .i64 (((w.g i).ol.g i1).x),.int .i64 (((w.g i).ol.g i1).y)])]))),.p (.int .i64 sh.grain),.mapv 7]),(7,.mq 3 27 u (Aj (Ak w sh.grain))),(15,.blk 93 [.loc 9 0,.p (.int .i64 sh.id),.p (.int .i64 sh.colour),.p (.int .i64 sh.w),.p (.int .i64 sh.h),.p (.int .i64 sh.grain),.row 13,.row 20]),(13,.row 76 5 w.n (fun k=>[.int .i64 ((DQ w sh k).want),.int .i64 ((DQ w sh k).sheet),.int .i64 ((DQ w sh k).turn),.int .i64 ((DQ w sh k).at_.x),.int .i64 ((DQ w sh k).at_.y)])),(20,.row 101 4 (Ba (Ik w sh)).n (fun k=>Bh ((Ba (Ik w sh)).g k)))]) t.1 t.2 u,res:=fun t u=>(fun w sh=>fun u=>.loc 15 0) t.1 t.2 u }
theorem Ac5 (w:L.Sq Ab) (sh:Ah) (hp:JX.pre (w,sh)):vc Tryz.prog ({ cC with muts:=[15],nils:=B6 [(2,[(15,20,101,4)])],mks:=DF [(34,Hy),(37,Ia),(86,Ij)],ren:=fun k=>if k=1000 then 9 else if k=1001 then 7 else if k=1002 then 15 else if k=1003 then 13 else if k=1004 then 20 else k,joins:=AT [(2,{ T:=Nat,keep:=[0,3],keepO:=[],chg:=fun _=>[(5,.loc 15 0)],own:=fun _=>[(9,.blk 130 [.p ((.sl 4 w.n (fun i=>[.int .i64 ((w.g i).id),.int .i64 ((w.g i).colour),.int .i64 ((w.g i).grain),.sl 2 (w.g i).ol.n (fun i1=>[.int .i64 (((w.g i).ol.g i1).x),.int .i64 (((w.g i).ol.g i1).y)])]))),.p (.int .i64 sh.grain),.mapv 7]),(7,.mq 3 27 (fun _=>false) (Aj (Ak w sh.grain))),(15,.blk 93 [.loc 9 0,.p (.int .i64 sh.id),.p (.int .i64 sh.colour),.p (.int .i64 sh.w),.p (.int .i64 sh.h),.p (.int .i64 sh.grain),.row 13,.p (.raw (.slice none 0 0))]),(13,.row 76 5 w.n (fun k=>[.int .i64 ((Hd k).want),.int .i64 ((Hd k).sheet),.int .i64 ((Hd k).turn),.int .i64 ((Hd k).at_.x),.int .i64 ((Hd k).at_.y)]))],inv:=fun _=>True,mu:=fun _=>0 }),(3,{ T:=Int->Bool,keep:=[5],keepO:=[9],chg:=fun _=>[],own:=fun u=>[(7,.mq 3 27 u (Aj (Ak w sh.grain))),(15,.blk 93 [.loc 9 0,.p (.int .i64 sh.id),.p (.int .i64 sh.colour),.p (.int .i64 sh.w),.p (.int .i64 sh.h),.p (.int .i64 sh.grain),.row 13,.row 20]),(13,.row 76 5 w.n (fun k=>[.int .i64 ((DQ w sh k).want),.int .i64 ((DQ w sh k).sheet),.int .i64 ((DQ w sh k).turn),.int .i64 ((DQ w sh k).at_.x),.int .i64 ((DQ w sh k).at_.y)])),(20,.row 101 4 (Ba (Ik w sh)).n (fun k=>Bh ((Ba (Ik w sh)).g k)))],inv:=fun _=>True,mu:=fun _=>0 })],anys:=[1001,1002] }) (Ai Tryz.f44) (Dy Tryz.f44 (JX.args (w,sh)) (JX.lent (w,sh))) (Fq Tryz.prog Tryz.f44 JX (w,sh)):=
  @Eq.mpr _ (let I:=SV.int .i64;let T:=Aee;let A34:=(↑w.n:Int);let A24:=(0:Int);let A57:=[I A24,I A24,I sh.w,I sh.h];let A22:=(nat_lit 0);let A20:=(Ba (Ik w sh));let A17:=(Ak w sh.grain);let A16:=(2:Nat);let A15:=(∀(x:Int),false=false);let A12:=(0:Nat);let A9:=[I sh.id,I sh.colour,I sh.w,I sh.h,I sh.grain];let
 A8:=(A24<=A34/\A34<=A34/\A34*(↑(nat_lit 40):Int)<=(140737488355328:Int));let A5:=(T A34=w.n/\∀(i:Nat),let A60:=(Hd i);i<T A34 -> [I A24,I A24,I A24,I A24,I A24]= [I A60.want,I A60.sheet,I A60.turn,I A60.at_.x,I A60.at_.y]);let A2:=(w.n=w.n/\∀(i:Nat),let A21:=[I (w.g i).id,I (w.g i).colour,I (w.g i).grain,SV.sl A16 (w.g i).ol.n fun(i1 :
 Nat)=>[I ((w.g i).ol.g i1).x,I ((w.g i).ol.g i1).y]];i<w.n->A21=A21);let A7:=(∃(t:L.Sq Ab×Int×(Int->L.Sq Ac)),(w.n=t.1.n/\∀(i:Nat),let A39:=(t.1.g i);i<w.n -> [I (w.g i).id,I (w.g i).colour,I (w.g i).grain,SV.sl A16 (w.g i).ol.n fun(i1:Nat)=>[I ((w.g i).ol.g i1).x,I ((w.g i).ol.g i1).y]]= [I A39.id,I A39.colour,I A39.grain,SV.sl A16
 A39.ol.n fun(i1:Nat)=>[I (A39.ol.g i1).x,I (A39.ol.g i1).y]])/\sh.grain=t.2.1/\True/\∀(u:Nat),True->∃(g:Nat),nat_lit 0=A12/\SV.ref A9 A22=SV.ref A9 A22/\A2/\(t.1.n=w.n/\∀(i:Nat),let A40:=(t.1.g i);i<t.1.n -> [I A40.id,I A40.colour,I A40.grain,SV.sl A16 A40.ol.n fun(i1:Nat)=>[I (A40.ol.g i1).x,I (A40.ol.g i1).y]]= [I (w.g i).id,I (w.g
 i).colour,I (w.g i).grain,SV.sl A16 (w.g i).ol.n fun(i1:Nat)=>[I ((w.g i).ol.g i1).x,I ((w.g i).ol.g i1).y]])/\t.2.1=sh.grain/\A15/\(∀(x:Int),false=true->Aj t.2.2 x=Aj A17 x)/\nat_lit 0=A12/\sh.id=sh.id/\sh.colour=sh.colour/\sh.w=sh.w/\sh.h=sh.h/\sh.grain=sh.grain/\Value.slice AdV A12 A12=Value.slice AdV A12
 A12/\A5/\True);let A6:=(∃(t:L.Sq Ab×Int×(Int->L.Sq Ac)),(w.n=t.1.n/\∀(i:Nat),let A41:=(t.1.g i);i<w.n -> [I (w.g i).id,I (w.g i).colour,I (w.g i).grain,SV.sl A16 (w.g i).ol.n fun(i1:Nat)=>[I ((w.g i).ol.g i1).x,I ((w.g i).ol.g i1).y]]= [I A41.id,I A41.colour,I A41.grain,SV.sl A16 A41.ol.n fun(i1:Nat)=>[I (A41.ol.g i1).x,I (A41.ol.g
 i1).y]])/\sh.grain=t.2.1/\True/\∀(u:Nat),True->A8/\∃(g:Nat),nat_lit 0=A12/\SV.ref A9 A22=SV.ref A9 A22/\A2/\(t.1.n=w.n/\∀(i:Nat),let A42:=(t.1.g i);i<t.1.n -> [I A42.id,I A42.colour,I A42.grain,SV.sl A16 A42.ol.n fun(i1:Nat)=>[I (A42.ol.g i1).x,I (A42.ol.g i1).y]]= [I (w.g i).id,I (w.g i).colour,I (w.g i).grain,SV.sl A16 (w.g
 i).ol.n fun(i1:Nat)=>[I ((w.g i).ol.g i1).x,I ((w.g i).ol.g i1).y]])/\t.2.1=sh.grain/\A15/\(∀(x:Int),false=true->Aj t.2.2 x=Aj A17 x)/\nat_lit 0=A12/\sh.id=sh.id/\sh.colour=sh.colour/\sh.w=sh.w/\sh.h=sh.h/\sh.grain=sh.grain/\Value.slice AdV A12 A12=Value.slice AdV A12 A12/\A5/\True);let A4:=(A8/\A7/\∃(t:L.Sq
 Ab×Int×(Int->L.Sq Ac)),(w.n=t.1.n/\∀(i:Nat),let A43:=(t.1.g i);i<w.n -> [I (w.g i).id,I (w.g i).colour,I (w.g i).grain,SV.sl A16 (w.g i).ol.n fun(i1:Nat)=>[I ((w.g i).ol.g i1).x,I ((w.g i).ol.g i1).y]]= [I A43.id,I A43.colour,I A43.grain,SV.sl A16 A43.ol.n fun(i1:Nat)=>[I (A43.ol.g i1).x,I (A43.ol.g i1).y]])/\sh.grain=t.2.1/\True/\∀(u :
 Nat),True->∃(g:Nat),nat_lit 0=A12/\SV.ref A9 A22=SV.ref A9 A22/\A2/\(t.1.n=w.n/\∀(i:Nat),let A44:=(t.1.g i);i<t.1.n -> [I A44.id,I A44.colour,I A44.grain,SV.sl A16 A44.ol.n fun(i1:Nat)=>[I (A44.ol.g i1).x,I (A44.ol.g i1).y]]= [I (w.g i).id,I (w.g i).colour,I (w.g i).grain,SV.sl A16 (w.g i).ol.n fun(i1:Nat)=>[I ((w.g i).ol.g i1).x,I
 ((w.g i).ol.g i1).y]])/\t.2.1=sh.grain/\A15/\(∀(x:Int),false=true->Aj t.2.2 x=Aj A17 x)/\nat_lit 0=A12/\sh.id=sh.id/\sh.colour=sh.colour/\sh.w=sh.w/\sh.h=sh.h/\sh.grain=sh.grain/\Value.slice AdV A12 A12=Value.slice AdV A12 A12/\A5/\True);let A3:=(A8/\∃(t:L.Sq Ab×Int×(Int->L.Sq Ac)),(w.n=t.1.n/\∀(i
:Nat),let A45:=(t.1.g i);i<w.n -> [I (w.g i).id,I (w.g i).colour,I (w.g i).grain,SV.sl A16 (w.g i).ol.n fun(i1:Nat)=>[I ((w.g i).ol.g i1).x,I ((w.g i).ol.g i1).y]]= [I A45.id,I A45.colour,I A45.grain,SV.sl A16 A45.ol.n fun(i1:Nat)=>[I (A45.ol.g i1).x,I (A45.ol.g i1).y]])/\sh.grain=t.2.1/\True/\∀(u:Nat),True->∃(g:Nat),nat_lit 0=A12/\SV.ref
 A9 A22=SV.ref A9 A22/\A2/\(t.1.n=w.n/\∀(i:Nat),let A46:=(t.1.g i);i<t.1.n -> [I A46.id,I A46.colour,I A46.grain,SV.sl A16 A46.ol.n fun(i1:Nat)=>[I (A46.ol.g i1).x,I (A46.ol.g i1).y]]= [I (w.g i).id,I (w.g i).colour,I (w.g i).grain,SV.sl A16 (w.g i).ol.n fun(i1:Nat)=>[I ((w.g i).ol.g i1).x,I ((w.g i).ol.g i1).y]])/\t.2.1=sh.grain/\A15/\(∀(x :
 Int),false=true->Aj t.2.2 x=Aj A17 x)/\nat_lit 0=A12/\sh.id=sh.id/\sh.colour=sh.colour/\sh.w=sh.w/\sh.h=sh.h/\sh.grain=sh.grain/\Value.slice AdV A12 A12=Value.slice AdV A12 A12/\A5/\True);((A6/\A6/\(∃(t:L.Sq Ab×Int×(Int->L.Sq Ac)),let A25:=(∀(x:Int),false=true->Aj t.2.2 x=Aj A17
 x);let A13:=(t.1.n=w.n/\∀(i:Nat),let A47:=(t.1.g i);i<t.1.n -> [I A47.id,I A47.colour,I A47.grain,SV.sl A16 A47.ol.n fun(i1:Nat)=>[I (A47.ol.g i1).x,I (A47.ol.g i1).y]]= [I (w.g i).id,I (w.g i).colour,I (w.g i).grain,SV.sl A16 (w.g i).ol.n fun(i1:Nat)=>[I ((w.g i).ol.g i1).x,I ((w.g i).ol.g i1).y]]);(w.n=t.1.n/\∀(i:Nat),let A48:=(t.1.g i);i <
 w.n -> [I (w.g i).id,I (w.g i).colour,I (w.g i).grain,SV.sl A16 (w.g i).ol.n fun(i1:Nat)=>[I ((w.g i).ol.g i1).x,I ((w.g i).ol.g i1).y]]= [I A48.id,I A48.colour,I A48.grain,SV.sl A16 A48.ol.n fun(i1:Nat)=>[I (A48.ol.g i1).x,I (A48.ol.g i1).y]])/\sh.grain=t.2.1/\True/\∀(u:Nat),True->(A8/\∃(g:Nat),nat_lit 0=A12/\SV.ref A9 A22=SV.ref A9 A22
 /\ A2/\A13/\t.2.1=sh.grain/\A15/\A25/\nat_lit 0=A12/\sh.id=sh.id/\sh.colour=sh.colour/\sh.w=sh.w/\sh.h=sh.h/\sh.grain=sh.grain/\Value.slice AdV A12 A12=Value.slice AdV A12 A12/\A5/\True)/\A8/\∃(g:Nat),nat_lit 0=A12/\SV.ref A9 A22=SV.ref A9 A22/\A2/\A13/\t.2.1=sh.grain/\A15/\A25/\nat_lit 0=A12/\sh.id=sh.id /\
 sh.colour=sh.colour/\sh.w=sh.w/\sh.h=sh.h/\sh.grain=sh.grain/\Value.slice AdV A12 A12=Value.slice AdV A12 A12/\A5/\True)/\∃(t:L.Sq Ab×Int×(Int->L.Sq Ac)),let A26:=(∀(x:Int),false=true->Aj t.2.2 x=Aj A17 x);let A14:=(t.1.n=w.n/\∀(i:Nat),let A49:=(t.1.g i);i<t.1.n -> [I A49.id,I A49.colour,I
 A49.grain,SV.sl A16 A49.ol.n fun(i1:Nat)=>[I (A49.ol.g i1).x,I (A49.ol.g i1).y]]= [I (w.g i).id,I (w.g i).colour,I (w.g i).grain,SV.sl A16 (w.g i).ol.n fun(i1:Nat)=>[I ((w.g i).ol.g i1).x,I ((w.g i).ol.g i1).y]]);(w.n=t.1.n/\∀(i:Nat),let A50:=(t.1.g i);i<w.n -> [I (w.g i).id,I (w.g i).colour,I (w.g i).grain,SV.sl A16 (w.g i).ol.n fun(i1:Nat)=>[I
 ((w.g i).ol.g i1).x,I ((w.g i).ol.g i1).y]]= [I A50.id,I A50.colour,I A50.grain,SV.sl A16 A50.ol.n fun(i1:Nat)=>[I (A50.ol.g i1).x,I (A50.ol.g i1).y]])/\sh.grain=t.2.1/\True/\∀(u:Nat),True->(A8/\∃(g:Nat),nat_lit 0=A12/\SV.ref A9 A22=SV.ref A9 A22/\A2/\A14/\t.2.1=sh.grain/\A15/\A26/\nat_lit 0=A12/\sh.id=sh.id/\sh.colour=sh.colour /\
 sh.w=sh.w/\sh.h=sh.h/\sh.grain=sh.grain/\Value.slice AdV A12 A12=Value.slice AdV A12 A12/\A5/\True)/\A8/\∃(g:Nat),nat_lit 0=A12/\SV.ref A9 A22=SV.ref A9 A22/\A2/\A14/\t.2.1=sh.grain/\A15/\A26/\nat_lit 0=A12/\sh.id=sh.id/\sh.colour=sh.colour/\sh.w=sh.w/\sh.h=sh.h/\sh.grain=sh.grain/\Value.slice AdV A12
 A12=Value.slice AdV A12 A12/\A5/\True)/\A3/\A4/\A3/\A4/\A3/\A8/\A7/\∃(t:L.Sq Ab×Int×(Int->L.Sq Ac)),(w.n=t.1.n/\∀(i:Nat),let A51:=(t.1.g i);i<w.n -> [I (w.g i).id,I (w.g i).colour,I (w.g i).grain,SV.sl A16 (w.g i).ol.n fun(i1:Nat)=>[I ((w.g i).ol.g i1).x,I ((w.g i).ol.g i1).y]]= [I A51.id,I A51.colour,I A51.grain,SV.sl A16
 A51.ol.n fun(i1:Nat)=>[I (A51.ol.g i1).x,I (A51.ol.g i1).y]])/\sh.grain=t.2.1/\True/\∀(u:Nat),True->∃(g:Nat),nat_lit 0=A12/\SV.ref A9 A22=SV.ref A9 A22/\A2/\(t.1.n=w.n/\∀(i:Nat),let A52:=(t.1.g i);i<t.1.n -> [I A52.id,I A52.colour,I A52.grain,SV.sl A16 A52.ol.n fun(i1:Nat)=>[I (A52.ol.g i1).x,I (A52.ol.g i1).y]]= [I (w.g i).id,I (w.g
 i).colour,I (w.g i).grain,SV.sl A16 (w.g i).ol.n fun(i1:Nat)=>[I ((w.g i).ol.g i1).x,I ((w.g i).ol.g i1).y]])/\t.2.1=sh.grain/\A15/\(∀(x:Int),false=true->Aj t.2.2 x=Aj A17 x)/\nat_lit 0=A12/\sh.id=sh.id/\sh.colour=sh.colour/\sh.w=sh.w/\sh.h=sh.h/\sh.grain=sh.grain/\Value.slice AdV A12 A12=Value.slice AdV A12
 A12/\A5/\True)/\∀(g:Nat),let A1:=(∃(t:L.Sq Ab×Int×(Int->L.Sq Ac)×(Int->Bool)),nat_lit 0=A12/\(w.n=t.1.n/\∀(i:Nat),let A53:=(t.1.g i);i<w.n -> [I (w.g i).id,I (w.g i).colour,I (w.g i).grain,SV.sl A16 (w.g i).ol.n fun(i1:Nat)=>[I ((w.g i).ol.g i1).x,I ((w.g i).ol.g i1).y]]= [I A53.id,I A53.colour,I A53.grain,SV.sl A16 A53.ol.n fun
 (i1:Nat)=>[I (A53.ol.g i1).x,I (A53.ol.g i1).y]])/\sh.grain=t.2.1/\(∀(x:Int),false=t.snd.2.2 x)/\(∀(x:Int),false=true->Aj A17 x=Aj t.snd.2.1 x)/\t.1.n<=(4:Nat)/\∀(u:Nat),True->∃(t_1:L.Sq Ab×Ah×(Int->Bool)×(Nat->CP)×List BQ×Int×AR),let A58:=(Ak t_1.1 t_1.2.1.grain);let A32:=(Ba
 t_1.snd.snd.snd.2.1);let A18:=(Ba (DP t_1.1 t_1.2.1 t_1.snd.snd.snd.snd.2.1 t_1.snd.snd.snd.snd.2.2 t_1.snd.snd.2.1 t_1.snd.snd.snd.2.1));nat_lit 0=A12/\AM t.1.n=t_1.snd.snd.snd.snd.2.1/\SV.agg A57=SV.agg [I t_1.snd.snd.snd.snd.2.2.at_.x,I t_1.snd.snd.snd.snd.2.2.at_.y,I t_1.snd.snd.snd.snd.2.2.size.w,I t_1.snd.snd.snd.snd.2.2.size.h]/\(t.1.n=t_1.1.n/\∀(i
:Nat),let A54:=(t.1.g i);let A35:=(t_1.1.g i);i<t.1.n -> [I A54.id,I A54.colour,I A54.grain,SV.sl A16 A54.ol.n fun(i1:Nat)=>[I (A54.ol.g i1).x,I (A54.ol.g i1).y]]= [I A35.id,I A35.colour,I A35.grain,SV.sl A16 A35.ol.n fun(i1:Nat)=>[I (A35.ol.g i1).x,I (A35.ol.g i1).y]])/\t.2.1=t_1.2.1.grain/\(∀(x:Int),t.snd.2.2 x=t_1.snd.2.1 x)/\(∀(x:Int),
 t.snd.2.2 x=true->Aj t.snd.2.1 x=Aj A58 x)/\nat_lit 0=A12/\sh.id=t_1.2.1.id/\sh.colour=t_1.2.1.colour/\sh.w=t_1.2.1.w/\sh.h=t_1.2.1.h/\sh.grain=t_1.2.1.grain/\(w.n=t_1.1.n/\∀(i:Nat),let A61:=(Hd i);let A27:=(t_1.snd.snd.2.1 i);i<w.n -> [I A61.want,I A61.sheet,I A61.turn,I A61.at_.x,I A61.at_.y]= [I A27.want,I A27.sheet,I A27.turn,I
 A27.at_.x,I A27.at_.y])/\(nat_lit 0=A32.n/\∀(i:Nat),i<nat_lit 0 -> []=Bh (A32.g i))/\(Bv t_1.1/\A24<=t_1.snd.snd.snd.snd.2.1/\t_1.snd.snd.snd.snd.2.1<=AM t_1.1.n/\CQ t_1.snd.snd.snd.snd.2.2/\A32.n+(3:Nat)*T t_1.snd.snd.snd.snd.2.1<=(1000:Nat))/\∀(u:Int->Bool),True->∃(g:Int->Bool),nat_lit 0=nat_lit 0/\(∀(x:Int),u x=g x)/\(∀(x:Int),u
 x=true->Aj A58 x=Aj A17 x)/\nat_lit 0=A12/\t_1.2.1.id=sh.id/\t_1.2.1.colour=sh.colour/\t_1.2.1.w=sh.w/\t_1.2.1.h=sh.h/\t_1.2.1.grain=sh.grain/\(t_1.1.n=w.n/\∀(i:Nat),let A29:=(DQ w sh i);let A10:=(Dt t_1.1 t_1.2.1 t_1.snd.snd.snd.snd.2.1 t_1.snd.snd.snd.snd.2.2 t_1.snd.snd.2.1 t_1.snd.snd.snd.2.1 i);i<t_1.1.n -> [I A10.want,I A10.sheet,
 I A10.turn,I A10.at_.x,I A10.at_.y]= [I A29.want,I A29.sheet,I A29.turn,I A29.at_.x,I A29.at_.y])/\(A18.n=A20.n/\∀(i:Nat),i<A18.n->Bh (A18.g i)=Bh (A20.g i))/\(t_1.1.n=w.n/\∀(i:Nat),let A36:=(t_1.1.g i);i<t_1.1.n -> [I A36.id,I A36.colour,I A36.grain,SV.sl A16 A36.ol.n fun(i1:Nat)=>[I (A36.ol.g i1).x,I (A36.ol.g i1).y]]= [I (w.g i).id,I (w.g
 i).colour,I (w.g i).grain,SV.sl A16 (w.g i).ol.n fun(i1:Nat)=>[I ((w.g i).ol.g i1).x,I ((w.g i).ol.g i1).y]])/\t_1.2.1.grain=sh.grain/\True);True->(A1/\A1/\A1/\A1/\A1/\A1/\A1/\A1/\A1/\A1/\∃(t:L.Sq Ab×Int×(Int->L.Sq Ac)×(Int->Bool)),nat_lit 0=A12/\(w.n=t.1.n/\∀(i:Nat),let A55:=(t.1.g i);i<w.n -> [I (w.g i).id,I (w.g i).colour,I (w.g
 i).grain,SV.sl A16 (w.g i).ol.n fun(i1:Nat)=>[I ((w.g i).ol.g i1).x,I ((w.g i).ol.g i1).y]]= [I A55.id,I A55.colour,I A55.grain,SV.sl A16 A55.ol.n fun(i1:Nat)=>[I (A55.ol.g i1).x,I (A55.ol.g i1).y]])/\sh.grain=t.2.1/\(∀(x:Int),false=t.snd.2.2 x)/\(∀(x:Int),false=true->Aj A17 x=Aj t.snd.2.1 x)/\t.1.n<=(4:Nat)/\∀(u:Nat),
 True->∃(t_1:L.Sq Ab×Ah×(Int->Bool)×(Nat->CP)×List BQ×Int×AR),let A59:=(Ak t_1.1 t_1.2.1.grain);let A33:=(Ba t_1.snd.snd.snd.2.1);let A19:=(Ba (DP t_1.1 t_1.2.1 t_1.snd.snd.snd.snd.2.1 t_1.snd.snd.snd.snd.2.2 t_1.snd.snd.2.1 t_1.snd.snd.snd.2.1));nat_lit 0=A12/\AM t.1.n=t_1.snd.snd.snd.snd.2.1/\SV.agg A57 =
 SV.agg [I t_1.snd.snd.snd.snd.2.2.at_.x,I t_1.snd.snd.snd.snd.2.2.at_.y,I t_1.snd.snd.snd.snd.2.2.size.w,I t_1.snd.snd.snd.snd.2.2.size.h]/\(t.1.n=t_1.1.n/\∀(i:Nat),let A56:=(t.1.g i);let A37:=(t_1.1.g i);i<t.1.n -> [I A56.id,I A56.colour,I A56.grain,SV.sl A16 A56.ol.n fun(i1:Nat)=>[I (A56.ol.g i1).x,I (A56.ol.g i1).y]]= [I A37.id,I A37.colour,I A37.grain,
 SV.sl A16 A37.ol.n fun(i1:Nat)=>[I (A37.ol.g i1).x,I (A37.ol.g i1).y]])/\t.2.1=t_1.2.1.grain/\(∀(x:Int),t.snd.2.2 x=t_1.snd.2.1 x)/\(∀(x:Int),t.snd.2.2 x=true->Aj t.snd.2.1 x=Aj A59 x)/\nat_lit 0=A12/\sh.id=t_1.2.1.id/\sh.colour=t_1.2.1.colour/\sh.w=t_1.2.1.w/\sh.h=t_1.2.1.h/\sh.grain=t_1.2.1.grain/\(w.n=t_1.1.n/\∀(i:Nat),let
 A62:=(Hd i);let A28:=(t_1.snd.snd.2.1 i);i<w.n -> [I A62.want,I A62.sheet,I A62.turn,I A62.at_.x,I A62.at_.y]= [I A28.want,I A28.sheet,I A28.turn,I A28.at_.x,I A28.at_.y])/\(nat_lit 0=A33.n/\∀(i:Nat),i<nat_lit 0 -> []=Bh (A33.g i))/\(Bv t_1.1/\A24<=t_1.snd.snd.snd.snd.2.1/\t_1.snd.snd.snd.snd.2.1<=AM t_1.1.n/\CQ t_1.snd.snd.snd.snd.2.2/\A33.n+(3 :
 Nat)*T t_1.snd.snd.snd.snd.2.1<=(1000:Nat))/\∀(u:Int->Bool),True->∃(g:Int->Bool),nat_lit 0=nat_lit 0/\(∀(x:Int),u x=g x)/\(∀(x:Int),u x=true->Aj A59 x=Aj A17 x)/\nat_lit 0=A12/\t_1.2.1.id=sh.id/\t_1.2.1.colour=sh.colour/\t_1.2.1.w=sh.w/\t_1.2.1.h=sh.h/\t_1.2.1.grain=sh.grain/\(t_1.1.n=w.n/\∀(i:Nat),let A30:=(DQ w sh
 i);let A11:=(Dt t_1.1 t_1.2.1 t_1.snd.snd.snd.snd.2.1 t_1.snd.snd.snd.snd.2.2 t_1.snd.snd.2.1 t_1.snd.snd.snd.2.1 i);i<t_1.1.n -> [I A11.want,I A11.sheet,I A11.turn,I A11.at_.x,I A11.at_.y]= [I A30.want,I A30.sheet,I A30.turn,I A30.at_.x,I A30.at_.y])/\(A19.n=A20.n/\∀(i:Nat),i<A19.n->Bh (A19.g i)=Bh (A20.g i))/\(t_1.1.n=w.n/\∀(i:Nat),let A38:=(t_1.1.g
 i);i<t_1.1.n -> [I A38.id,I A38.colour,I A38.grain,SV.sl A16 A38.ol.n fun(i1:Nat)=>[I (A38.ol.g i1).x,I (A38.ol.g i1).y]]= [I (w.g i).id,I (w.g i).colour,I (w.g i).grain,SV.sl A16 (w.g i).ol.n fun(i1:Nat)=>[I ((w.g i).ol.g i1).x,I ((w.g i).ol.g i1).y]])/\t_1.2.1.grain=sh.grain/\True)/\∀(g:Int->Bool),True->∃(u:Int->Bool),nat_lit 0=A12/\A2/\sh.grain
 = sh.grain/\(∀(x:Int),g x=u x)/\(∀(x:Int),g x=true->Aj A17 x=Aj A17 x)/\nat_lit 0=A12/\sh.id=sh.id/\sh.colour=sh.colour/\sh.w=sh.w/\sh.h=sh.h/\sh.grain=sh.grain/\(w.n=w.n/\∀(i:Nat),let A31:=(DQ w sh i);let A23:=[I A31.want,I A31.sheet,I A31.turn,I A31.at_.x,I A31.at_.y];i<w.n->A23=A23)/\(A20.n=A20.n/\∀(i:Nat),i <
 A20.n->Bh (A20.g i)=Bh (A20.g i))/\True) (by kernel_rfl) (by
  conv=>zeta
  have hp:Bv w/\Bo sh=true:=hp;obtain⟨hok,hsv⟩:=hp;obtain⟨a1,a2,_,_⟩:=Gi hok.1;have oA:=Ac3 hsv;have b1:0<=(w.n:Int):=Int.natCast_nonneg _;have hw4:=hok.1;have b2:(w.n:Int)*40<=140737488355328:=by omega
  have l1:(Ba []).n+3*(AM w.n).toNat<=1000:=by show 0+_<=_;omega
  refine⟨(by(try dsimp only);(repeat' with_reducible apply And.intro)<;>first|with_reducible rfl|with_reducible assumption|with_reducible exact Ael _|with_reducible exact fun _=>rfl|with_reducible exact fun _ _=>rfl|with_reducible exact trivial|exact⟨(0:Nat),(by(try dsimp only);(repeat' with_reducible apply And.intro)<;>first|with_reducible rfl|with_reducible exact fun _=>rfl|with_reducible exact fun _ _=>rfl|with_reducible exact trivial|exact rfl|(intro _;exact rfl)|(intro _ _;exact rfl)|exact trivial|(intro _ h_;exact absurd h_ (nT _)))⟩|exact⟨(w,sh.grain,Ak w sh.grain),(by(try dsimp only);(repeat' with_reducible apply And.intro)<;>first|with_reducible rfl|with_reducible exact fun _=>rfl|with_reducible exact fun _ _=>rfl|with_reducible exact trivial|(intro u _;exact(by(try dsimp only);(repeat' with_reducible apply And.intro)<;>first|with_reducible rfl|with_reducible assumption|with_reducible exact Ael _|with_reducible exact fun _=>rfl|with_reducible exact fun _ _=>rfl|with_reducible exact trivial|exact⟨(0:Nat),(by(try dsimp only);(repeat' with_reducible apply And.intro)<;>first|with_reducible rfl|with_reducible exact fun _=>rfl|with_reducible exact fun _ _=>rfl|with_reducible exact trivial|exact rfl|(intro _;exact rfl)|(intro _ _;exact rfl)|exact trivial|(intro _ h_;exact absurd h_ (nT _)))⟩|exact rfl|(intro _;exact rfl)|(intro _ _;exact rfl)|exact b1|exact b2|exact Ael _|exact trivial|(intro _ h_;exact absurd h_ (nT _))))|exact rfl|(intro _;exact rfl)|(intro _ _;exact rfl)|exact trivial|(intro _ h_;exact absurd h_ (nT _)))⟩|exact rfl|(intro _;exact rfl)|(intro _ _;exact rfl)|exact b1|exact b2|exact Ael _|exact trivial|(intro _ h_;exact absurd h_ (nT _))),fun _ _=>⟨(by(try dsimp only);(repeat' with_reducible apply And.intro)<;>first|with_reducible rfl|with_reducible exact fun _=>rfl|with_reducible exact fun _ _=>rfl|with_reducible exact trivial|exact⟨(w,sh.grain,Ak w sh.grain,fun _=>false),(by(try dsimp only);(repeat' with_reducible apply And.intro)<;>first|with_reducible rfl|with_reducible exact hok.1|with_reducible exact fun _=>rfl|with_reducible exact fun _ _=>rfl|with_reducible exact trivial|(intro u _;exact⟨(w,sh,fun _=>false,Hd,[],AM w.n,Qr sh),(by(try dsimp only);(repeat' with_reducible apply And.intro)<;>first|with_reducible rfl|with_reducible assumption|with_reducible exact Ael _|with_reducible exact fun _=>rfl|with_reducible exact fun _ _=>rfl|with_reducible exact trivial|(intro u _;exact⟨u,(by(try dsimp only);(repeat' with_reducible apply And.intro)<;>first|with_reducible rfl|with_reducible exact fun _=>rfl|with_reducible exact fun _ _=>rfl|with_reducible exact trivial|exact rfl|(intro _;exact rfl)|(intro _ _;exact rfl)|exact trivial|(intro _ h_;exact absurd h_ (nT _)))⟩)|exact rfl|(intro _;exact rfl)|(intro _ _;exact rfl)|exact hok|exact a1|exact Ael _|exact oA|exact l1|exact trivial|(intro _ h_;exact absurd h_ (nT _)))⟩)|exact rfl|(intro _;exact rfl)|(intro _ _;exact rfl)|exact hok.1|exact trivial|(intro _ h_;exact absurd h_ (nT _)))⟩|exact rfl|(intro _;exact rfl)|(intro _ _;exact rfl)|exact trivial|(intro _ h_;exact absurd h_ (nT _))),fun u _=>(by(try dsimp only);(repeat' with_reducible apply And.intro)<;>first|with_reducible rfl|with_reducible exact fun _=>rfl|with_reducible exact fun _ _=>rfl|with_reducible exact trivial|exact⟨u,(by(try dsimp only);(repeat' with_reducible apply And.intro)<;>first|with_reducible rfl|with_reducible exact fun _=>rfl|with_reducible exact fun _ _=>rfl|with_reducible exact trivial|exact rfl|(intro _;exact rfl)|(intro _ _;exact rfl)|exact trivial|(intro _ h_;exact absurd h_ (nT _)))⟩|exact rfl|(intro _;exact rfl)|(intro _ _;exact rfl)|exact trivial|(intro _ h_;exact absurd h_ (nT _)))⟩⟩)
theorem Ac6:As Tryz.prog 44:=fun args w=>by kernel_rfl
theorem Ac7:De Tryz.prog 44 JX:=FB (n:=2) Tryz.func44 (c:=Ai Tryz.f44) (by kernel_rfl) mixed ⟨fun t=>rfl,fun t=>rfl,fun t u=>rfl,fun t u=>rfl,fun t u=>rfl,fun t u=>⟨rfl,rfl⟩,by kernel_rfl,by kernel_rfl⟩ (fun⟨w,sh⟩ hp=>⟨_,Ac5 w sh hp,⟨show Aa Tryz.prog _ from Aa.nil,rfl,⟨show Af Tryz.prog _ from Af.nil,⟨AA.no1 (fun _=>rfl),⟨show Bj Tryz.prog _ from(Bj.cons MU MT (Bj.cons P8 P7 (Bj.cons Ac0 cT Bj.nil))),FamsOk.none (fun _=>rfl)⟩⟩⟩⟩⟩)
def cV (w:(L.Sq Ab)) (sh:Ah):Prop:=CI w
def cW (w:(L.Sq Ab)) (sh:Ah):SV:=.tup [.sl 5 (He w sh) (fun k=>[.int .i64 ((DQ w sh k).want),.int .i64 ((DQ w sh k).sheet),.int .i64 ((DQ w sh k).turn),.int .i64 ((DQ w sh k).at_.x),.int .i64 ((DQ w sh k).at_.y)]),.sl 4 (H5 w sh).n (fun k=>Bh ((H5 w sh).g k)),.int .i64 (Gp w sh)]
def cX:List EV->Option (Prop×SV)
 |[.p (.sl 4 w_n w_g),.p (.agg [.int .i64 sh_id,.int .i64 sh_colour,.int .i64 sh_w,.int .i64 sh_h,.int .i64 sh_grain])]=>some ((∀i,i<w_n->Dn (w_g i))/\cV (⟨w_n,fun i=>Bx (w_g i)⟩:(L.Sq Ab)) (⟨sh_id,sh_colour,sh_w,sh_h,sh_grain⟩:Ah),cW (⟨w_n,fun i=>Bx (w_g i)⟩:(L.Sq Ab)) (⟨sh_id,sh_colour,sh_w,sh_h,sh_grain⟩:Ah))
 |_=>none
abbrev cY:SE.Spec:=(AI cX)
def Ac8:Al:={ cC with frz:=B8 [(7,[7,13,20,9,15])],specs:=AC [(10,Y3)],mks:=DF [(44,JX)],ren:=fun k=>k }
theorem Ac9 (w:(L.Sq Ab)) (sh:Ah) (hp:cV w sh):vc Tryz.prog (Ac8) (Ai Tryz.f13) (Au Tryz.f13 [.p (.sl 4 w.n (fun i=>[.int .i64 ((w.g i).id),.int .i64 ((w.g i).colour),.int .i64 ((w.g i).grain),.sl 2 (w.g i).ol.n (fun i1=>[.int .i64 (((w.g i).ol.g i1).x),.int .i64 (((w.g i).ol.g i1).y)])])),.p (.agg [.int .i64 sh.id,.int .i64 sh.colour,.int .i64 sh.w,.int .i64 sh.h,.int .i64 sh.grain])]) (AH Tryz.prog Tryz.f13 (cW w sh)):=
 @Eq.mpr _ (let I:=SV.int .i64;let A9:=(0:Nat);let A8:=(H5 w sh);let A1:=(L.Sq.mk w.n fun(i:Nat)=>Ab.mk (w.g i).id (w.g i).colour (w.g i).grain (L.Sq.mk (w.g i).ol.n fun(i_1:Nat)=>(w.g i).ol.g i_1));let A6:=(!decide (E7 A1 sh=(0:Int)));((∀(i:Nat),i<w.n->∀(i_1:Nat),let A4:=((w.g i).ol.g i_1);i_1<(w.g i).ol.n -> [I A4.x,I A4.y]= [I A4.x,I A4.y])/\CI A1)/\(A6=true->He w sh=A9/\A8.n=A9/\E7 A1 sh=Gp w sh)/\(A6=false->((!Gj A1 sh)=true->He w sh=A9/\A8.n=A9/\(52:Int)=Gp w sh)/\((!Gj A1 sh)=false->∃(t:L.Sq Ab×Ah),let A5:=(Ba (Ik t.1 t.2));(w.n=t.1.n/\∀(i:Nat),let A7:=(t.1.g i);i<w.n -> [I (w.g i).id,I (w.g i).colour,I (w.g i).grain,SV.sl (2:Nat) (w.g i).ol.n fun(i1:Nat)=>[I ((w.g i).ol.g i1).x,I ((w.g i).ol.g i1).y]]= [I A7.id,I A7.colour,I A7.grain,SV.sl (2:Nat) A7.ol.n fun(i1:Nat)=>[I (A7.ol.g i1).x,I (A7.ol.g i1).y]])/\SV.agg [I sh.id,I sh.colour,I sh.w,I sh.h,I sh.grain]=SV.agg [I t.2.id,I t.2.colour,I t.2.w,I t.2.h,I t.2.grain]/\(Bv t.1/\Bo t.2=true)/\∀(u:Int->Bool),True->(t.1.n=He w sh/\∀(i:Nat),let A3:=(DQ w sh i);let A2:=(DQ t.1 t.2 i);i<t.1.n -> [I A2.want,I A2.sheet,I A2.turn,I A2.at_.x,I A2.at_.y]= [I A3.want,I A3.sheet,I A3.turn,I A3.at_.x,I A3.at_.y])/\(A5.n=A8.n/\∀(i:Nat),i<A5.n->Bh (A5.g i)=Bh (A8.g i))/\(0:Int)=Gp w sh))) (by kernel_rfl) (by
 conv=>zeta
 have hp:CI w:=hp;refine⟨⟨fun _ _ _ _=>rfl,hp⟩,fun h=>?_,fun h=>⟨fun h2=>?_,fun h2=>?_⟩⟩
 ·have h:(!decide (E7 w sh=0))=true:=h;have e1:Gp w sh=E7 w sh:=by unfold Gp;rw[h];rfl
  have h0:¬ E7 w sh=0:=of_decide_eq_false (Cx h);have e2:He w sh=0:=by unfold He;rw[e1,decide_eq_false h0];rfl
  have e3:(H5 w sh).n=0:=by unfold H5;rw[e1,decide_eq_false h0];rfl
  exact⟨e2,e3,e1.symm⟩
 ·have h:(!decide (E7 w sh=0))=false:=h;have h2:(!Gj w sh)=true:=h2;have e1:Gp w sh=52:=by unfold Gp;rw[h,h2];rfl
  have e2:He w sh=0:=by unfold He;rw[e1];rfl
  have e3:(H5 w sh).n=0:=by unfold H5;rw[e1];rfl
  exact⟨e2,e3,e1.symm⟩
 ·have h:(!decide (E7 w sh=0))=false:=h;have h2:(!Gj w sh)=false:=h2;have e1:Gp w sh=0:=by unfold Gp;rw[h,h2];rfl
  have e2:He w sh=w.n:=by unfold He;rw[e1];rfl
  have e3:H5 w sh=Ba (Ik w sh):=by unfold H5;rw[e1];rfl
  obtain⟨_,v2,v3⟩:=Ac4 (of_decide_eq_true (BW h));have ok:=H1 hp v3;rw[e1,e2,e3];exact⟨(w,sh),(by(try dsimp only);(repeat' with_reducible apply And.intro)<;>first|with_reducible rfl|with_reducible assumption|with_reducible exact fun _=>rfl|with_reducible exact fun _ _=>rfl|with_reducible exact trivial|(intro u _;exact(by(try dsimp only);(repeat' with_reducible apply And.intro)<;>first|with_reducible rfl|with_reducible exact fun _=>rfl|with_reducible exact fun _ _=>rfl|with_reducible exact trivial|exact rfl|(intro _;exact rfl)|(intro _ _;exact rfl)|exact trivial|(intro _ h_;exact absurd h_ (nT _))))|exact rfl|(intro _;exact rfl)|(intro _ _;exact rfl)|exact ok|exact v2|exact trivial|(intro _ h_;exact absurd h_ (nT _)))⟩)
theorem AcA:Ax Tryz.prog 13 cY:=AK Tryz.func13 (c:=Ai Tryz.f13) (by kernel_rfl) mixed (fun args p r hs hp=>by
 unfold cX at hs;split at hs
 ·cases hs;exact⟨_,_,Ac9 _ _ hp.2,(.p (DY hp.1) (.same _ .nil)),⟨show Aa Tryz.prog _ from(Aa.cons yX yY Aa.nil),rfl,⟨show Af Tryz.prog _ from Af.nil,⟨AA.no1 (fun _=>rfl),⟨show Bj Tryz.prog _ from(Bj.cons Ac7 Ac6 Bj.nil),FamsOk.none (fun _=>rfl)⟩⟩⟩⟩⟩
 ·cases hs)
theorem AcB:As Tryz.prog 13:=fun args w=>by kernel_rfl
end
section
set_option maxHeartbeats 4000000
structure CE where
 a:Int
 b:Int
 c:Int
def Np:List SV->CE
 |[.int _ a,.int _ b,.int _ c]=>⟨a,b,c⟩
 |_=>⟨0,0,0⟩
def C0:List SV->L.Sq CE
 |[.sl _ n g]=>⟨n,fun i=>Np (g i)⟩
 |_=>⟨0,fun _=>⟨0,0,0⟩⟩
def H6:List SV->Prop
 |[.sl 3 n g]=>∀i,i<n->g i = [.int .i64 (Np (g i)).a,.int .i64 (Np (g i)).b,.int .i64 (Np (g i)).c]
 |_=>False
theorem Qs {l:List SV} (h:H6 l):l.length=1/\AX (SV.at l 0) (.sl 3 (C0 l).n (fun k=>[.int .i64 ((C0 l).g k).a,.int .i64 ((C0 l).g k).b,.int .i64 ((C0 l).g k).c])):=by
 unfold H6 at h;split at h
 ·rename_i n g;exact⟨rfl,.sl h⟩
 ·exact h.elim
def Db (a b c:L.Sq CE) (i:Nat):L.Sq CE:=bif decide (i=0)then a else bif decide (i=1)then b else c
theorem AcC {g:Nat->List SV} (h:H6 (g 0)/\H6 (g 1)/\H6 (g 2)):AX (.sl 1 3 g) (.sl 1 3 (fun i=>[.sl 3 (Db (C0 (g 0)) (C0 (g 1)) (C0 (g 2)) i).n (fun k=>[.int .i64 ((Db (C0 (g 0)) (C0 (g 1)) (C0 (g 2)) i).g k).a,.int .i64 ((Db (C0 (g 0)) (C0 (g 1)) (C0 (g 2)) i).g k).b,.int .i64 ((Db (C0 (g 0)) (C0 (g 1)) (C0 (g 2)) i).g k).c])])):=by
 have key:∀i,i<3->H6 (g i)/\Db (C0 (g 0)) (C0 (g 1)) (C0 (g 2)) i=C0 (g i):=fun i hi=>by
  match i,hi with
  |0,_=>exact⟨h.1,rfl⟩
  |1,_=>exact⟨h.2.1,rfl⟩
  |2,_=>exact⟨h.2.2,rfl⟩
 refine .sl2 (fun i hi=>(Qs (key i hi).1).1.symm) (fun i hi j hj=>?_);rw[(Qs (key i hi).1).1]at hj;obtain rfl:j=0:=by omega
 rw[(key i hi).2];exact(Qs (key i hi).1).2
def BD (c:Nat->L.Sq CE):Nat->L.Sq CE
 |0=>⟨0,fun _=>⟨0,0,0⟩⟩
 |i+1=>⟨(BD c i).n+(c i).n,fun k=>bif decide (k<(BD c i).n)then(BD c i).g k else(c i).g (k-(BD c i).n)⟩
def GE (p:L.Pt):Prop:=0<=p.x/\p.x<=4096/\0<=p.y/\p.y<=4096
def Lu (u m v:L.Pt):Int:=(v.x-u.x)*(m.y-u.y)-(v.y-u.y)*(m.x-u.x)
def AcD (u m v:L.Pt):Int:=(m.x-u.x)*(v.x-m.x)+(m.y-u.y)*(v.y-m.y)
def AcE (u v:L.Pt):Int:=(v.x-u.x)*(v.x-u.x)+(v.y-u.y)*(v.y-u.y)
def Lv (u m v:L.Pt) (bite:Int):Bool:=bif bif !decide (Lu u m v=0)then decide (max (Lu u m v) (0-Lu u m v)<=AcD u m v)else false then decide (Lu u m v*Lu u m v<=bite*bite*AcE u v)else false
def Cp (n:Int) (p:AO):Nat:=((p.to_-p.fr) % n).toNat
def Ct (n:Int) (p:AO) (i:Nat):Int:=(p.fr+(i:Int)) % n
def EP (n:Int) (p:AO):Prop:=(0<=p.fr/\p.fr<n)/\(0<=p.to_/\p.to_<n)/\p.fr≠p.to_
theorem Qt {n:Int} {p:AO} (h:EP n p) {i:Nat} (hi:(i:Int)<n):Ct n p i=if p.fr+(i:Int)<n then p.fr+(i:Int)else p.fr+(i:Int)-n:=by
 obtain⟨⟨h1,h2⟩,_⟩:=h;unfold Ct;split
 ·exact Ae9 (by omega) (by omega)
 ·rw[show p.fr+(i:Int)=p.fr+(i:Int)-n+n by omega,AeM,Ae9 (by omega) (by omega)];omega
theorem AcF {n:Int} {p:AO} (h:EP n p):(Cp n p:Int)=if p.fr<p.to_ then p.to_-p.fr else p.to_-p.fr+n:=by
 obtain⟨⟨h1,h2⟩,⟨h3,h4⟩,h5⟩:=h;unfold Cp;rw[Int.toNat_of_nonneg (Int.emod_nonneg _ (by omega))];split
 ·exact Ae9 (by omega) (by omega)
 ·have e:(p.to_-p.fr) % n=(p.to_-p.fr+n) % n:=(AeM _ _).symm;rw[e,Ae9 (by omega) (by omega)]
theorem Qu {n:Int} {p:AO} (h:EP n p):1<=Cp n p/\(Cp n p:Int)<n/\Ct n p 0=p.fr/\Ct n p (Cp n p)=p.to_/\(∀i,i<=Cp n p->0<=Ct n p i/\Ct n p i<n)/\(∀i,i<=Cp n p->Ct n p i=p.to_->i=Cp n p)/\∀i,i<Cp n p->Int.tmod (Ct n p i+1) n=Ct n p (i+1):=by
 have hD:=AcF h;obtain⟨⟨h1,h2⟩,⟨h3,h4⟩,h5⟩:=h;have hlt:(Cp n p:Int)<n:=by split at hD<;>omega
 have h1':1<=Cp n p:=by split at hD<;>omega
 have hr:∀i,i<=Cp n p->0<=Ct n p i/\Ct n p i<n:=fun i hi=>⟨Int.emod_nonneg _ (by omega),Int.emod_lt_of_pos _ (by omega)⟩;refine⟨h1',hlt,?_,?_,hr,fun i hi e=>?_,fun i hi=>?_⟩
 ·rw[Qt ⟨⟨h1,h2⟩,⟨h3,h4⟩,h5⟩ (by omega)];split<;>omega
 ·rw[Qt ⟨⟨h1,h2⟩,⟨h3,h4⟩,h5⟩ hlt];split<;>split at hD<;>omega
 ·rw[Qt ⟨⟨h1,h2⟩,⟨h3,h4⟩,h5⟩ (by omega)]at e;split at e<;>split at hD<;>omega
 ·have:=hr i (by omega);rw[Int.tmod_eq_emod_of_nonneg (by omega)];unfold Ct;rw[Int.emod_add_emod];congr 1
  push_cast;omega
def Il (l:L.Sq L.Pt) (p:AO):Bool:=!Cb (Cp l.n p-1) fun i=>decide (0<FD l (Ct l.n p (1+i)).toNat)
def F1 {α:Type} (f:Nat->Option α):Nat->Option α
 |0=>none
 |n+1=>match F1 f n with
   |some x=>some x
   |none=>f n
theorem Qv {α:Type} {f:Nat->Option α}:∀{n},(∀k,k<n->f k=none)->F1 f n=none
 |0,_=>rfl
 |n+1,h=>by rw[F1,Qv (fun k hk=>h k (by omega))];exact h n (by omega)
theorem cZ {α:Type} {f:Nat->Option α} {k:Nat} {x:α} (hf:f k=some x) (h:∀j,j<k->f j=none):∀{n},k<n->F1 f n=some x
 |0,hk=>by omega
 |n+1,hk=>by
   rw[F1]
   by_cases e:k=n
   ·subst e;rw[Qv h];exact hf
   ·rw[cZ hf h (n:=n) (by omega)]
theorem Qw {α:Type} {f g:Nat->Option α}:∀{n},(∀k,k<n->f k=g k)->F1 f n=F1 g n
 |0,_=>rfl
 |n+1,h=>by rw[F1,F1,Qw (fun k hk=>h k (by omega)),h n (by omega)]
def Gq (f:Nat->Nat->Option (List CE)) (lw:Nat->Nat->Nat->Bool) (r:Nat->Int) (a b m:Nat):Option (List CE):=bif lw a m b then(match f a m with|none=>none|some x=>match f m b with|none=>none|some y=>some (⟨r a,r m,r b⟩::(x++y)))else none
def Fh (lw:Nat->Nat->Nat->Bool) (r:Nat->Int):Nat->Nat->Nat->Option (List CE)
 |0,_,_=>none
 |n+1,a,b=>if b=a+1 then some []else F1 (fun k=>Gq (Fh lw r n) lw r a b (a+1+k)) (b-a-1)
theorem Nq (lw:Nat->Nat->Nat->Bool) (r:Nat->Int):∀(n m a b:Nat),a<b->b-a<=n->b-a<=m->Fh lw r n a b=Fh lw r m a b
 |0,_,a,b,h,h1,_=>by omega
 |n+1,0,a,b,h,_,h1=>by omega
 |n+1,m+1,a,b,h,h1,h2=>by
   rw[Fh,Fh]
   by_cases e:b=a+1
   ·rw[if_pos e,if_pos e]
   ·rw[if_neg e,if_neg e];refine Qw fun k hk=>?_;unfold Gq;rw[Nq lw r n m a (a+1+k) (by omega) (by omega) (by omega),Nq lw r n m (a+1+k) b (by omega) (by omega) (by omega)]
def Nr (l:L.Sq L.Pt) (r:L.Sq Int) (bite:Int) (a m b:Nat):Bool:=Lv (l.g (r.g a).toNat) (l.g (r.g m).toNat) (l.g (r.g b).toNat) bite
def BK (l:L.Sq L.Pt) (r:L.Sq Int) (bite:Int) (a b:Nat):Option (List CE):=Fh (Nr l r bite) r.g r.n a b
def DB (l:L.Sq L.Pt) (r:L.Sq Int) (bite:Int) (a b m:Nat):Option (List CE):=Gq (BK l r bite) (Nr l r bite) r.g a b m
theorem AcG (l:L.Sq L.Pt) (r:L.Sq Int) (bite:Int) {a b:Nat} (h:b=a+1) (hb:b<r.n):BK l r bite a b=some []:=by
 unfold BK;obtain⟨n,e⟩:∃n,r.n=n+1:=⟨r.n-1,by omega⟩;rw[e,Fh,if_pos h]
theorem dA (l:L.Sq L.Pt) (r:L.Sq Int) (bite:Int) {a b:Nat} (hab:a<b) (h:b≠a+1) (hb:b<r.n):BK l r bite a b=F1 (fun k=>DB l r bite a b (a+1+k)) (b-a-1):=by
 unfold BK;obtain⟨n,e⟩:∃n,r.n=n+1:=⟨r.n-1,by omega⟩;rw[e,Fh,if_neg h];refine Qw fun k hk=>?_;unfold DB Gq BK;rw[e,Nq _ _ n (n+1) a (a+1+k) (by omega) (by omega) (by omega),Nq _ _ n (n+1) (a+1+k) b (by omega) (by omega) (by omega)]
def C3 (l:L.Sq L.Pt) (r:L.Sq Int) (bite:Int) (a b:Int):Prop:=BK l r bite a.toNat b.toNat=none
theorem Qx (lw:Nat->Nat->Nat->Bool) (r:Nat->Int):∀(n a b:Nat),a<b->∀x,Fh lw r n a b=some x->x.length+1=b-a
 |0,a,b,_,x,e=>by cases e
 |n+1,a,b,hab,x,e=>by
   rw[Fh]at e
   by_cases e1:b=a+1
   ·rw[if_pos e1]at e;cases e;simp;omega
   ·rw[if_neg e1]at e;have key:∀m,a<m->m<b->∀x,Gq (Fh lw r n) lw r a b m=some x->x.length+1=b-a:=fun m h1 h2 x e=>by
     unfold Gq at e;cases h3:lw a m b
     ·rw[h3]at e;cases e
     ·rw[h3,cond_true]at e;cases h4:Fh lw r n a m with
      |none=>rw[h4]at e;cases e
      |some y =>
        cases h5:Fh lw r n m b with
        |none=>rw[h4,h5]at e;cases e
        |some z =>
          rw[h4,h5]at e;cases e;have:=Qx lw r n a m h1 y h4;have:=Qx lw r n m b h2 z h5;simp only[Ae3,Aei];omega
    have:∀m,m<=b-a-1->∀x,F1 (fun k=>Gq (Fh lw r n) lw r a b (a+1+k)) m=some x->x.length+1=b-a:=fun m=>by
     induction m with
     |zero=>intro _ x e;cases e
     |succ m ih =>
       intro hm x e;rw[F1]at e;cases e2:F1 (fun k=>Gq (Fh lw r n) lw r a b (a+1+k)) m with
       |some y=>rw[e2]at e;cases e;exact ih (by omega) _ e2
       |none=>rw[e2]at e;exact key _ (by omega) (by omega) x e
    exact this _ (AdS _) x e
def Cq (x:Option (List CE)):Bool:=x.isSome
def BA (x:Option (List CE)):L.Sq CE:=⟨(x.getD []).length,fun i=>(x.getD []).getD i ⟨0,0,0⟩⟩
theorem dB {l:L.Sq L.Pt} {r:L.Sq Int} {bite:Int} {a b:Nat} (h:a<b):(BA (BK l r bite a b)).n<=b-a:=by
 unfold BA;cases e:BK l r bite a b with
 |none=>simp
 |some x=>have:=Qx _ _ _ _ _ h x e;simp;omega
theorem AcH (t:CE) (x y:List CE):(BD (Db ⟨1,fun _=>t⟩ (BA (some x)) (BA (some y))) 3).n=(BA (some (t::(x++y)))).n/\∀i,i<(BD (Db ⟨1,fun _=>t⟩ (BA (some x)) (BA (some y))) 3).n->(BD (Db ⟨1,fun _=>t⟩ (BA (some x)) (BA (some y))) 3).g i=(BA (some (t::(x++y)))).g i:=by
 have e1:(BD (Db ⟨1,fun _=>t⟩ (BA (some x)) (BA (some y))) 3).n=0+1+x.length+y.length:=rfl;refine⟨by rw[e1];show _=(t::(x++y)).length;simp;omega,fun i hi=>?_⟩;rw[e1]at hi;show(bif decide (i<0+1+x.length)then(bif decide (i<0+1)then(bif decide (i<0)then(⟨0,0,0⟩:CE)else t)else x.getD (i-(0+1)) ⟨0,0,0⟩)else y.getD (i-(0+1+x.length)) ⟨0,0,0⟩)=(t::(x++y)).getD i ⟨0,0,0⟩
 by_cases h1:i<0+1+x.length
 ·rw[decide_eq_true h1,cond_true]
  by_cases h2:i<0+1
  ·rw[decide_eq_true h2,cond_true];obtain rfl:i=0:=by omega
   rfl
  ·rw[decide_eq_false h2,cond_false];obtain⟨j,rfl⟩:∃j,i=j+1:=⟨i-1,by omega⟩;rw[List.getD_cons_succ,show j+1-(0+1)=j by omega,AS,AS,List.getElem?_append_left (by omega)]
 ·rw[decide_eq_false h1,cond_false];obtain⟨j,rfl⟩:∃j,i=j+1:=⟨i-1,by omega⟩;rw[List.getD_cons_succ,show j+1-(0+1+x.length)=j-x.length by omega,AS,AS,List.getElem?_append_right (by omega)]
def Hf (l:L.Sq L.Pt) (r:L.Sq Int) (bite:Int):Option (List CE):=BK l r bite 0 (r.n-1)
def Lw (l:L.Sq L.Pt) (p:AO):L.Sq Int:=⟨Cp l.n p+1,Ct l.n p⟩
def Et (l:L.Sq L.Pt) (p:AO) (bite:Int):Option (List CE):=bif !Il l p then none else Hf l (Lw l p) bite
def AcI (x:CE):List SV:=[.int .i64 x.a,.int .i64 x.b,.int .i64 x.c]
def GF (l:L.Sq L.Pt) (r:L.Sq Int) (bite:Int):Prop:=(l.n<=1000/\r.n<=1000/\0<=bite/\bite<=4096)/\(∀i,i<r.n->0<=r.g i/\r.g i<(l.n:Int))/\∀i,i<l.n->GE (l.g i)
def dC (u:L.Pt) (m:L.Pt) (v:L.Pt) (b:Int):Prop:=GE u/\GE m/\GE v/\0<=b/\b<=4096
def dD (u:L.Pt) (m:L.Pt) (v:L.Pt) (b:Int):SV:=.bool (Lv u m v b)
def dE:List EV->Option (Prop×SV)
 |[.p (.agg [.int .i64 u_x,.int .i64 u_y]),.p (.agg [.int .i64 m_x,.int .i64 m_y]),.p (.agg [.int .i64 v_x,.int .i64 v_y]),.p (.int .i64 b)]=>some (dC (⟨u_x,u_y⟩:L.Pt) (⟨m_x,m_y⟩:L.Pt) (⟨v_x,v_y⟩:L.Pt) b,dD (⟨u_x,u_y⟩:L.Pt) (⟨m_x,m_y⟩:L.Pt) (⟨v_x,v_y⟩:L.Pt) b)
 |_=>none
abbrev dF:SE.Spec:=(AI dE)
def AcJ:Al:={ muts:=[],frz:=B8 [],specs:=AC [],loops:=AT [],iters:=B3 [],rfs:=AP [],nils:=B6 [] }
theorem AcK (u:L.Pt) (m:L.Pt) (v:L.Pt) (b:Int) (hp:dC u m v b):vc Tryz.prog (AcJ) (Ai Tryz.f70) (Au Tryz.f70 [.p (.agg [.int .i64 u.x,.int .i64 u.y]),.p (.agg [.int .i64 m.x,.int .i64 m.y]),.p (.agg [.int .i64 v.x,.int .i64 v.y]),.p (.int .i64 b)]) (AH Tryz.prog Tryz.f70 (dD u m v b)):=
 @Eq.mpr _ (let A10:=(0:Int);let A8:=(v.y-m.y);let A7:=(v.x-m.x);let A6:=(m.x-u.x);let A5:=(m.y-u.y);let A4:=(v.y-u.y);let A3:=(v.x-u.x);let A9:=(A3*A3+A4*A4);let A1:=(A3*A5-A4*A6);let A2:=(bif !decide (A3*A5-A4*A6=A10)then decide (Max.max A1 (A10-A1)<=A6*A7+A5*A8)else false);Ad .i64 A3/\Ad .i64 A5/\Ad .i64 (A3*A5)/\Ad .i64 A4/\Ad .i64 A6/\Ad .i64 (A4*A6)/\Ad .i64 A1/\Ad .i64 A6/\Ad .i64 A7/\Ad .i64 (A6*A7)/\Ad .i64 A5/\Ad .i64 A8/\Ad .i64 (A5*A8)/\Ad .i64 (A6*A7+A5*A8)/\Ad .i64 A3/\Ad .i64 A3/\Ad .i64 (A3*A3)/\Ad .i64 A4/\Ad .i64 A4/\Ad .i64 (A4*A4)/\Ad .i64 A9/\((!decide (A3*A5-A4*A6=A10))=true->Ad .i64 (A10-A1))/\(A2=true->Ad .i64 (A1*A1))/\(A2=true->Ad .i64 (b*b))/\(A2=true->Ad .i64 (b*b*A9))/\(bif bif !decide (A3*A5-A4*A6=A10)then decide (Max.max A1 (A10-A1)<=A6*A7+A5*A8)else false then decide (A1*A1<=b*b*A9)else false)=Lv u m v b) (by kernel_rfl) (by
 conv=>zeta
 obtain⟨h1,h2,h3,b0,b1⟩:=hp;unfold GE at h1 h2 h3;have m1:=Ei (a:=v.x-u.x) (b:=m.y-u.y) (m:=4096) (n:=4096) (by omega) (by omega) (by omega) (by omega);have m2:=Ei (a:=v.y-u.y) (b:=m.x-u.x) (m:=4096) (n:=4096) (by omega) (by omega) (by omega) (by omega);have m3:=Ei (a:=m.x-u.x) (b:=v.x-m.x) (m:=4096) (n:=4096) (by omega) (by omega) (by omega) (by omega);have m4:=Ei (a:=m.y-u.y) (b:=v.y-m.y) (m:=4096) (n:=4096) (by omega) (by omega) (by omega) (by omega);have m5:=Ei (a:=v.x-u.x) (b:=v.x-u.x) (m:=4096) (n:=4096) (by omega) (by omega) (by omega) (by omega);have m6:=Ei (a:=v.y-u.y) (b:=v.y-u.y) (m:=4096) (n:=4096) (by omega) (by omega) (by omega) (by omega);have m7:=Ei (a:=(v.x-u.x)*(m.y-u.y)-(v.y-u.y)*(m.x-u.x)) (b:=(v.x-u.x)*(m.y-u.y)-(v.y-u.y)*(m.x-u.x)) (m:=33554432) (n:=33554432) (by omega) (by omega) (by omega) (by omega);have m8:=Ei (a:=b) (b:=b) (m:=4096) (n:=4096) (by omega) (by omega) (by omega) (by omega);have m9:=Ei (a:=b*b) (b:=(v.x-u.x)*(v.x-u.x)+(v.y-u.y)*(v.y-u.y)) (m:=16777216) (n:=33554432) (by omega) (by omega) (by omega) (by omega)
 repeat' with_reducible apply And.intro
 all_goals first|exact rfl|exact jK|exact fun _=>jK)
theorem AcL:Ax Tryz.prog 70 dF:=AK Tryz.func70 (c:=Ai Tryz.f70) (by kernel_rfl) mixed (fun args p r hs hp=>by
 unfold dE at hs;split at hs
 ·cases hs;exact⟨_,_,AcK _ _ _ _ hp,(.same _ (.same _ (.same _ (.same _ .nil)))),⟨show Aa Tryz.prog _ from Aa.nil,rfl,⟨show Af Tryz.prog _ from Af.nil,(AA.none (fun _=>rfl))⟩⟩⟩
 ·cases hs)
theorem AcM:As Tryz.prog 70:=fun args w=>by kernel_rfl
def dG (n:Int) (p:AO):Prop:=n<=1000/\EP n p
def dH (n:Int) (p:AO):SV:=.sl 1 (Cp n p+1) (fun i=>[.int .i64 (Ct n p i)])
def dI:List EV->Option (Prop×SV)
 |[.p (.int .i64 n),.p (.agg [.int .i64 p_fr,.int .i64 p_to_,.int .i64 p_area])]=>some (dG n (⟨p_fr,p_to_,p_area⟩:AO),dH n (⟨p_fr,p_to_,p_area⟩:AO))
 |_=>none
abbrev Qy:SE.Spec:=(AI dI)
def AcN:Al:={ cC with muts:=[9],frz:=B8 [(6,[9])] }
theorem AcO (n:Int) (p:AO) (hp:dG n p):vc Tryz.prog ({ AcN with loops:=AT [(3,{ T:=Nat,keep:=[0,3,5],keepO:=[],chg:=fun i=>[(6,.p (.int .i64 (Ct n p i)))],own:=fun i=>[(9,.row 3 1 (i+1) (fun j=>[.int .i64 (Ct n p j)]))],inv:=fun i=>i<=Cp n p,mu:=fun i=>Cp n p-i })],rfs:=AP [] }) (Ai Tryz.f115) (Au Tryz.f115 [.p (.int .i64 n),.p (.agg [.int .i64 p.fr,.int .i64 p.to_,.int .i64 p.area])]) (AH Tryz.prog Tryz.f115 (dH n p)):=
 @Eq.mpr _ (let I:=SV.int .i64;let A4:=[I p.fr,I p.to_,I p.area];let A1:=(1:Nat);(∃(g:Nat),p.fr=Ct n p g/\(nat_lit 1=g+A1/\∀(i:Nat),i<nat_lit 1->Ce [I p.fr] (nat_lit 1) i = [I (Ct n p i)])/\g<=Cp n p)/\∀(g:Nat),let A3:=(!decide (Ct n p g=p.to_));let A2:=(Ct n p g+(1:Int));g<=Cp n p->(A3=true->Ad .i64 A2/\n≠(0:Int)/\(g+A1+nat_lit 1)*nat_lit 8<=(140737488355328:Nat)/\∃(g':Nat),Int.tmod A2 n=Ct n p g'/\SV.ref A4 (nat_lit 0)=SV.ref A4 (nat_lit 0)/\n=n/\(g+A1+nat_lit 1=g'+A1/\∀(i:Nat),i<g+A1+nat_lit 1->AN (g+A1) (fun(j:Nat)=>[I (Ct n p j)]) (fun(x:Nat)=>[I (Int.tmod A2 n)]) i = [I (Ct n p i)])/\g'<=Cp n p/\Cp n p-g'<Cp n p-g)/\(A3=false->g+A1=Cp n p+A1/\∀(i:Nat),i<g+A1 -> [I (Ct n p i)]= [I (Ct n p i)])) (by kernel_rfl) (by
 conv=>zeta
 obtain⟨hn,hk⟩:=(show n<=1000/\EP n p from hp);obtain⟨d1,d2,f0,f1,fr,fe,fs⟩:=Qu hk;refine⟨⟨(0:Nat),f0.symm,⟨rfl,fun i hi=>?_⟩,AdL _⟩,fun g hg=>⟨fun hc=>?_,fun hc=>?_⟩⟩
 ·have hi:i<1:=hi;obtain rfl:i=0:=by omega
  rw[f0];rfl
 ·have hc:¬ Ct n p g=p.to_:=of_decide_eq_false (Cx hc);have hlt:g<Cp n p:=by
   rcases Ae5 g (Cp n p)with h|h
   ·exact h
   ·obtain rfl:g=Cp n p:=by omega
    exact absurd f1 hc
  have hr:=fr g hg;refine⟨jK,by omega,by show(g+1+1)*8<=140737488355328;omega,g+1,fs g hlt,rfl,rfl,⟨rfl,fun i hi=>?_⟩,hlt,by omega⟩;have hi:i<g+1+1:=hi;unfold AN
  by_cases e:i<g+1
  ·rw[if_pos e]
  ·rw[if_neg e];obtain rfl:i=g+1:=by omega
   rw[fs g hlt]
 ·have hc:Ct n p g=p.to_:=of_decide_eq_true (BW hc);obtain rfl:=fe g hg hc;exact⟨rfl,fun _ _=>rfl⟩)
theorem dJ:Ax Tryz.prog 115 Qy:=AK Tryz.func115 (c:=Ai Tryz.f115) (by kernel_rfl) mixed (fun args p r hs hp=>by
 unfold dI at hs;split at hs
 ·cases hs;exact⟨_,_,AcO _ _ hp,(.same _ (.same _ .nil)),⟨show Aa Tryz.prog _ from Aa.nil,rfl,⟨show Af Tryz.prog _ from Af.nil,(AA.none (fun _=>rfl))⟩⟩⟩
 ·cases hs)
theorem dK:As Tryz.prog 115:=fun args w=>by kernel_rfl
def dL (i:Int) (b:(L.Sq Int)):Prop:=0<=i/\i<(b.n:Int)
def dM (i:Int) (b:(L.Sq Int)):SV:=.bool (decide (0<b.g i.toNat))
def Im:List EV->Option (Prop×SV)
 |[.p (.int .i64 i),.p (.ref [.sl 1 b_n b_g] 0)]=>some ((∀i,i<b_n->b_g i = [.int .i64 ((Ca (b_g i)))])/\dL i (⟨b_n,fun i=>Ca (b_g i)⟩:(L.Sq Int)),dM i (⟨b_n,fun i=>Ca (b_g i)⟩:(L.Sq Int)))
 |_=>none
abbrev dN:SE.Spec:=(AI Im)
def AcP:Al:={ muts:=[],frz:=B8 [],specs:=AC [],loops:=AT [],iters:=B3 [],rfs:=AP [],nils:=B6 [] }
theorem AcQ (i:Int) (b:(L.Sq Int)) (hp:dL i b):vc Tryz.prog (AcP) (Ai Tryz.f146) (Au Tryz.f146 [.p (.int .i64 i),.p (.ref [.sl 1 b.n (fun i=>[.int .i64 ((b.g i))])] 0)]) (AH Tryz.prog Tryz.f146 (dM i b)):=
 @Eq.mpr _ (((0:Int)<=i/\i<(↑b.n:Int))/\decide ((0:Int)<b.g (Aee i))=decide ((0:Int)<b.g (Aee i))) (by kernel_rfl) (by
 exact⟨hp,rfl⟩)
theorem AcR:Ax Tryz.prog 146 dN:=AK Tryz.func146 (c:=Ai Tryz.f146) (by kernel_rfl) mixed (fun args p r hs hp=>by
 unfold Im at hs;split at hs
 ·cases hs; exact⟨_, _, AcQ _ _ hp.2, (.same _ (.p (AX.ref rfl (fun i hi =>by
  rcases i with _|i
  ·show AX (SV.sl _ _ _) (SV.sl _ _ _);exact(AX.sl hp.1)
  exact absurd hi (by simp;try omega))) .nil)),⟨show Aa Tryz.prog _ from Aa.nil,rfl,⟨show Af Tryz.prog _ from Af.nil,(AA.none (fun _=>rfl))⟩⟩⟩
 ·cases hs)
theorem AcS:As Tryz.prog 146:=fun args w=>by kernel_rfl
theorem AcT:∀args p r,Im args=some (p,r)->∃b,r=.bool b:=by
 intro args p r h;unfold Im at h;split at h
 ·cases h;exact⟨_,rfl⟩
 ·cases h
def dO (l:(L.Sq L.Pt)) (p:AO):Prop:=AB l=true/\EP l.n p
def dP (l:(L.Sq L.Pt)) (p:AO):SV:=.bool (Il l p)
def dQ:List EV->Option (Prop×SV)
 |[.p (.sl 2 l_n l_g),.p (.agg [.int .i64 p_fr,.int .i64 p_to_,.int .i64 p_area])]=>some ((∀i,i<l_n->l_g i = [.int .i64 ((Ar (l_g i)).x),.int .i64 ((Ar (l_g i)).y)])/\dO (⟨l_n,fun i=>Ar (l_g i)⟩:(L.Sq L.Pt)) (⟨p_fr,p_to_,p_area⟩:AO),dP (⟨l_n,fun i=>Ar (l_g i)⟩:(L.Sq L.Pt)) (⟨p_fr,p_to_,p_area⟩:AO))
 |_=>none
abbrev dR:SE.Spec:=(AI dQ)
def AcU:Al:={ cC with muts:=[5],frz:=B8 [(3,[5])],specs:=AC [(144,Up),(115,Qy),(145,T1),(146,dN)] }
theorem AcV (l:(L.Sq L.Pt)) (p:AO) (hp:dO l p):vc Tryz.prog (AcU) (Ai Tryz.f113) (Au Tryz.f113 [.p (.sl 2 l.n (fun i=>[.int .i64 ((l.g i).x),.int .i64 ((l.g i).y)])),.p (.agg [.int .i64 p.fr,.int .i64 p.to_,.int .i64 p.area])]) (AH Tryz.prog Tryz.f113 (dP l p)):=
 @Eq.mpr _ (let I:=SV.int .i64;let T:=Aee;let A12:=(0:Nat);let A8:=(↑l.n:Int);let A6:=(1:Int);let A3:=(↑(Cp A8 p+(1:Nat)):Int);let A9:=(A3-A6-A6);let A1:=(L.Sq.mk l.n fun(i:Nat)=>Ar ((fun(i:Nat)=>[I (l.g i).x,I (l.g i).y]) i));let A4:=[SV.ref [SV.sl (nat_lit 1) (bif AB A1 then A1.n else A12) fun(k:Nat)=>[I (FD A1 k)]] (nat_lit 0)];((∀(i:Nat),let A11:=[I (l.g i).x,I (l.g i).y];i<l.n->A11=A11)/\l.n<=(1000000:Nat))/\(A8<=(1000:Int)/\EP A8 p)/\Ad .i64 (A3-A6)/\((0:Int)<=A6/\A6<=A3-A6/\A3-A6<=A3)/\((∀(i:Nat),let A10:=[I (Ct A8 p (T A6+i))];i<T A9->A10=A10)/\Fp (BR.mk (fun(«as»:List SV)=>EX Im (AeS EV.p «as» ++ AeS EV.p A4)) fun(«as»:List SV)=>G1 Im (AeS EV.p «as» ++ AeS EV.p A4))/\T A9<=(1000000:Nat)/\∀(i:Nat),i<T A9->(∀(i:Nat),let A7:=(L.Sq.mk l.n fun(i:Nat)=>l.g i);(i<bif AB A7 then l.n else A12) -> [I (FD A7 i)]= [I (FD A7 i)])/\(0:Int)<=Ct A8 p (T A6+i)/\Ct A8 p (T A6+i)<(↑(bif AB (L.Sq.mk l.n fun(i:Nat)=>l.g i)then l.n else A12):Int))/\(!Cb (T A9) fun(i:Nat)=>let A2:=(L.Sq.mk l.n fun(i:Nat)=>Ar ((fun(i:Nat)=>[I (l.g i).x,I (l.g i).y]) i));let A5:=[SV.ref [SV.sl (nat_lit 1) (bif AB A2 then A2.n else A12) fun(k:Nat)=>[I (FD A2 k)]] (nat_lit 0)];Bu (BR.mk (fun(«as»:List SV)=>EX Im (AeS EV.p «as» ++ AeS EV.p A5)) fun(«as»:List SV)=>G1 Im (AeS EV.p «as» ++ AeS EV.p A5)) [I (Ct A8 p (T A6+i))])=Il l p) (by kernel_rfl) (by
 conv=>zeta
 obtain⟨hv,hk⟩:=(show AB l=true/\EP l.n p from hp);obtain⟨n3,n24,_,_⟩:=Fr hv;obtain⟨d1,d2,f0,f1,fr,fe,fs⟩:=Qu hk;have eN:(((Cp l.n p+1:Nat):Int)-1-1).toNat=Cp l.n p-1:=by omega
 have eB:(bif AB l then l.n else 0)=l.n:=by rw[hv];rfl
 refine⟨⟨fun _ _=>rfl,by omega⟩,⟨by omega,hk⟩,jK,⟨by omega,by omega,by omega⟩,⟨fun _ _=>rfl,OE AcT _,by omega,fun i hi=>⟨fun _ _=>rfl,?_⟩⟩,?_⟩
 ·rw[eB];rw[eN]at hi;exact fr (1+i) (by omega)
 ·rw[eN];unfold Il;rfl)
theorem AcW:Ax Tryz.prog 113 dR:=AK Tryz.func113 (c:=Ai Tryz.f113) (by kernel_rfl) mixed (fun args p r hs hp=>by
 unfold dQ at hs;split at hs
 ·cases hs;exact⟨_,_,AcV _ _ hp.2,(.p (.sl hp.1) (.same _ .nil)),⟨show Aa Tryz.prog _ from(Aa.cons pP pQ (Aa.cons dJ dK (Aa.cons nL nM (Aa.cons AcR AcS Aa.nil)))),rfl,⟨show Af Tryz.prog _ from Af.nil,(AA.none (fun _=>rfl))⟩⟩⟩
 ·cases hs)
theorem AcX:As Tryz.prog 113:=fun args w=>by kernel_rfl
def dS (s:Nat) (n:Int):Prop:=1<=n/\n<=2000000
def dT (s:Nat) (n:Int):Nat->Prop:=fun _=>True
def dU (s:Nat) (n:Int):Nat->Nat:=fun _=>0
def dV (s:Nat) (n:Int):Nat->Nat->List SV:=fun _ _=>[]
def dW:List EV->Option (Prop×(Nat->Prop)×(Nat->Nat)×(Nat->Nat->List SV))
 |[.p (.raw (.slice none 0 0)),.p (.int .i64 n)]=>some (dS (0:Nat) n,dT (0:Nat) n,dU (0:Nat) n,dV (0:Nat) n)
 |_=>none
abbrev dX:SE.Spec:=(Ge Nat 0 64 3 dW)
def AcY:Al:={ cC with muts:=[22],cuts:=[25] }
theorem AcZ (s:Nat) (n:Int) (hp:dS s n):vc Tryz.prog (AcY) (Ai Tryz.f173) (Au Tryz.f173 [.p (.raw (.slice none 0 0)),.p (.int .i64 n)]) (EW Tryz.prog Tryz.f173 (Nat) (dT s n) 64 3 (dU s n) (dV s n)):=
 @Eq.mpr _ (let A4:=(0:Nat);let A2:=(0:Int);let A1:=(↑A4:Int);let A3:=(A1-A1);(decide (n<A2)=true->False)/\(decide (n<A2)=false->Ad .i64 A3/\Ad .i64 (n-A3)/\(decide (A2<n-A3)=true->(A2<=A2/\A2<=A1/\A1<=A2)/\(A2<n-A3/\(n-A3)*(↑(nat_lit 24):Int)<=(140737488355328:Int))/\(A2<=A1/\A1<=(↑(Aee (n-A3)):Int))/\∃(t:Nat),(nat_lit 0=A4/\∀(i:Nat),i<nat_lit 0 -> [SV.int .i64 A2,SV.int .i64 A2,SV.int .i64 A2]= [])/\True)/\(decide (A2<n-A3)=false->∃(t:Nat),A4=A4/\True))) (by kernel_rfl) (by
 conv=>zeta
 obtain⟨h1,h2⟩:=hp;refine⟨fun h=>?_,fun _=>⟨jK,jK,fun h=>⟨⟨by omega,by omega,by omega⟩,⟨by omega,show(n-(((0:Nat):Int)-((0:Nat):Int)))*24<=140737488355328 by omega⟩,⟨by omega,by omega⟩,(0:Nat),⟨rfl,fun i hi=>absurd hi (nT _)⟩,trivial⟩,fun h=>⟨(0:Nat),rfl,trivial⟩⟩⟩;have:=of_decide_eq_true h;omega)
theorem Ada:Ax Tryz.prog 173 dX:=G3 Tryz.func173 (c:=Ai Tryz.f173) (by kernel_rfl) mixed (fun args p q n g hs hp=>by
 unfold dW at hs;split at hs
 ·cases hs;exact⟨_,_,AcZ _ _ hp,(.same _ (.same _ .nil)),⟨show Aa Tryz.prog _ from Aa.nil,rfl,⟨show Af Tryz.prog _ from Af.nil,(AA.none (fun _=>rfl))⟩⟩⟩
 ·cases hs)
theorem Adb:As Tryz.prog 173:=fun args w=>by kernel_rfl
def dY (c:(Nat->L.Sq CE)):Prop:=(1<=(c 0).n/\(c 0).n<=10000)/\(c 1).n<=10000/\(c 2).n<=10000
def dZ (c:(Nat->L.Sq CE)):Nat->Prop:=fun _=>True
def eD (c:(Nat->L.Sq CE)):Nat->Nat:=fun _=>(BD c 3).n
def eE (c:(Nat->L.Sq CE)):Nat->Nat->List SV:=fun _ k=>[.int .i64 (((BD c 3).g k).a),.int .i64 (((BD c 3).g k).b),.int .i64 (((BD c 3).g k).c)]
def eI:List EV->Option (Prop×(Nat->Prop)×(Nat->Nat)×(Nat->Nat->List SV))
 |[.p (.sl 1 3 c_g)]=>some ((H6 (c_g 0)/\H6 (c_g 1)/\H6 (c_g 2))/\dY (Db (C0 (c_g 0)) (C0 (c_g 1)) (C0 (c_g 2))),dZ (Db (C0 (c_g 0)) (C0 (c_g 1)) (C0 (c_g 2))),eD (Db (C0 (c_g 0)) (C0 (c_g 1)) (C0 (c_g 2))),eE (Db (C0 (c_g 0)) (C0 (c_g 1)) (C0 (c_g 2))))
 |_=>none
abbrev eJ:SE.Spec:=(Ge Nat 0 64 3 eI)
def Adc:Al:={ cC with muts:=[24],specs:=AC [(173,dX)],raws:=[173] }
theorem Ade (c:(Nat->L.Sq CE)) (hp:dY c):vc Tryz.prog ({ Adc with loops:=AT [(3,{ T:=Nat,keep:=[0,9,10],keepO:=[],chg:=fun i=>[(3,.p (.int .i64 ((BD c i).n:Int))),(11,.p (.int .i64 (i:Int)))],own:=fun _=>[],inv:=fun i=>i<=3,mu:=fun i=>3-i }),(11,{ T:=Nat,keep:=[0,6,25,26],keepO:=[],chg:=fun i=>[(27,.p (.int .i64 (i:Int)))],own:=fun i=>[(24,.row 64 3 (BD c i).n (fun k=>[.int .i64 (((BD c i).g k).a),.int .i64 (((BD c i).g k).b),.int .i64 (((BD c i).g k).c)]))],inv:=fun i=>i<=3,mu:=fun i=>3-i })],rfs:=AP [] }) (Ai Tryz.f148) (Au Tryz.f148 [.p (.sl 1 3 (fun i=>[.sl 3 (c i).n (fun k=>[.int .i64 ((c i).g k).a,.int .i64 ((c i).g k).b,.int .i64 ((c i).g k).c])]))]) (EW Tryz.prog Tryz.f148 (Nat) (dZ c) 64 3 (eD c) (eE c)):=
  @Eq.mpr _ (let I:=SV.int .i64;let T:=Aee;let A14:=(1:Int);let A13:=(0:Int);let A6:=(3:Nat);let A2:=(↑(nat_lit 3):Int);(∃(g:Nat),A13=(↑(BD c g).n:Int)/\A13=(↑g:Int)/\g<=A6)/\∀(g:Nat),let A8:=(↑g:Int);let A15:=(↑(c (T A8)).n:Int);let A7:=(↑(BD c g).n:Int);let A1:=(nat_lit 3=nat_lit 3/\∀(i:Nat),let A5 :=
 [SV.sl A6 (c i).n fun(k:Nat)=>[I ((c i).g k).a,I ((c i).g k).b,I ((c i).g k).c]];i<nat_lit 3->A5=A5);g<=A6->(decide (A8<A2)=true->(A13<=A8/\A8<A2)/\Ad .i64 (A7+A15)/\(false=true->False)/\(false=false->Ad .i64 (A8+A14)/\∃(g':Nat),A7+A15=(↑(BD c g').n:Int)/\A8+A14=(↑g'
:Int)/\A2=A2/\A1/\A1/\g'<=A6/\A6-g'<A6-g))/\(decide (A8<A2)=false->(A14<=A7/\A7<=(2000000:Int))/\∀(t:Nat),True->(∃(g:Nat),A13=(↑g:Int)/\((0:Nat)=(BD c g).n/\∀(i:Nat),let A12:=((BD c g).g i);i<(0:Nat) -> []= [I A12.a,I A12.b,I A12.c])/\g<=A6)/\∀(g_1:Nat),let A4:=(↑g_1:Int);let A9:=(c (T A4));let A3 :=
 (BD c g_1);g_1<=A6->(decide (A4<A2)=true->(A13<=A4/\A4<A2)/\(A3.n+A9.n)*nat_lit 24<=(140737488355328:Nat)/\Ad .i64 (A4+A14)/\∃(g':Nat),A4+A14=(↑g':Int)/\A2=A2/\A1/\A1/\(A3.n+A9.n=(BD c g').n/\∀(i:Nat),let A10:=((BD c g').g i);i<A3.n+A9.n->AN A3.n (fun(k:Nat)=>[I (A3.g k).a,I (A3.g
 k).b,I (A3.g k).c]) (fun(k:Nat)=>[I (A9.g k).a,I (A9.g k).b,I (A9.g k).c]) i = [I A10.a,I A10.b,I A10.c])/\g'<=A6/\A6-g'<A6-g_1)/\(decide (A4<A2)=false->∃(t:Nat),(A3.n=(BD c A6).n/\∀(i:Nat),let A11:=((BD c A6).g i);i<A3.n -> [I (A3.g i).a,I (A3.g i).b,I (A3.g i).c]= [I A11.a,I A11.b,I A11.c])/\True))) (by kernel_rfl) (by
  conv=>zeta
  obtain⟨⟨h0,h1⟩,h2,h3⟩:=hp;have hc:∀i,i<3->(c i).n<=10000:=fun i hi=>by
   match i,hi with
   |0,_=>exact h1
   |1,_=>exact h2
   |2,_=>exact h3
  have e1:(BD c 1).n=0+(c 0).n:=rfl;have e2:(BD c 2).n=0+(c 0).n+(c 1).n:=rfl;have e3:(BD c 3).n=0+(c 0).n+(c 1).n+(c 2).n:=rfl;have ht:∀i,i<=3->(BD c i).n<=30000:=fun i hi=>by
   match i,hi with
   |0,_=>exact AdL _
   |1,_=>omega
   |2,_=>omega
   |3,_=>omega
  refine⟨⟨(0:Nat),rfl,rfl,AdL _⟩,fun g hg=>⟨fun hlt=>?_,fun hge=>?_⟩⟩
  ·have hb:(g:Int)<3:=of_decide_eq_true hlt;have e0:((g:Int)).toNat=g:=by omega
   have hcg:=hc g (by omega);have htg:=ht g hg;rw[e0];exact⟨⟨by omega,hb⟩,jK,fun h=>Bool.false_ne_true h,fun _=>⟨jK,g+1,by show((BD c g).n:Int)+((c g).n:Int)=(((BD c g).n+(c g).n:Nat):Int);omega,by omega,rfl,⟨rfl,fun _ _=>rfl⟩,⟨rfl,fun _ _=>rfl⟩,by omega,by omega⟩⟩
  ·have hb:¬ (g:Int)<3:=of_decide_eq_false hge;obtain rfl:g=3:=by omega
   refine⟨⟨by omega,by omega⟩,fun _ _=>⟨⟨(0:Nat),rfl,⟨rfl,fun i hi=>absurd hi (nT _)⟩,AdL _⟩,fun k hk=>⟨fun hlt=>?_,fun hge=>?_⟩⟩⟩
   ·have hb:(k:Int)<3:=of_decide_eq_true hlt;have e0:((k:Int)).toNat=k:=by omega
    have hck:=hc k (by omega);have htk:=ht k hk;rw[e0];refine⟨⟨by omega,hb⟩,show((BD c k).n+(c k).n)*24<=140737488355328 by omega,jK,k+1,by omega,rfl,⟨rfl,fun _ _=>rfl⟩,⟨rfl,fun _ _=>rfl⟩,⟨rfl,fun i hi=>?_⟩,by omega,by omega⟩;unfold AN
    by_cases h:i<(BD c k).n
    ·have w : (BD c (k+1)).g i = (BD c k).g i :=by
      show(bif decide (i<(BD c k).n)then _ else _)=_;rw[decide_eq_true h];rfl
     rw[if_pos h,w]
    ·have w : (BD c (k+1)).g i = (c k).g (i-(BD c k).n):=by
      show(bif decide (i<(BD c k).n)then _ else _)=_;rw[decide_eq_false h];rfl
     rw[if_neg h,w]
   ·have hb:¬ (k:Int)<3:=of_decide_eq_false hge;obtain rfl:k=3:=by omega
    exact⟨(0:Nat),⟨rfl,fun _ _=>rfl⟩,trivial⟩)
theorem Adf:Ax Tryz.prog 148 eJ:=G3 Tryz.func148 (c:=Ai Tryz.f148) (by kernel_rfl) mixed (fun args p q n g hs hp=>by
 unfold eI at hs;split at hs
 ·cases hs;exact⟨_,_,Ade _ hp.2,(.p (AcC hp.1) .nil),⟨show Aa Tryz.prog _ from(Aa.cons Ada Adb Aa.nil),rfl,⟨show Af Tryz.prog _ from Af.nil,(AA.none (fun _=>rfl))⟩⟩⟩
 ·cases hs)
theorem Adg:As Tryz.prog 148:=fun args w=>by kernel_rfl
abbrev In:Mk:={ T:=(L.Sq L.Pt)×(L.Sq Int)×(Int)×(Nat)×(Nat),U:=Nat,args:=fun t=>(fun l r bite a b=>[.p (.int .i64 (a:Int)),.p (.int .i64 (b:Int))] ++ [.loc 1000 0,.p (.ref [(.sl 2 l.n (fun i=>[.int .i64 ((l.g i).x),.int .i64 ((l.g i).y)]))] 0),.p (.ref [(.sl 1 r.n (fun i=>[.int .i64 ((r.g i))]))] 0),.p (.ref [.int .i64 bite] 0),.loc 1001 0]) t.1 t.2.1 t.2.2.1 t.2.2.2.1 t.2.2.2.2,lkeys:=[1000,1001,1002],keys:=[],lent:=fun t=>(fun l r bite a b=>[(1000,.blk 203 [.mapv 1002]),(1001,.blk 204 [.cl 147 [.loc 1000 0,.p (.ref [(.sl 2 l.n (fun i=>[.int .i64 ((l.g i).x),.int .i64 ((l.g i).y)]))] 0),.p (.ref [(.sl 1 r.n (fun i=>[.int .i64 ((r.g i))]))] 0),.p (.ref [.int .i64 bite] 0),.loc 1001 0]]),(1002,.ms 205 4 (C3 l r bite))]) t.1 t.2.1 t.2.2.1 t.2.2.2.1 t.2.2.2.2,pre:=fun t=>(fun l r bite a b=>GF l r bite/\a<b/\b<r.n) t.1 t.2.1 t.2.2.1 t.2.2.2.1 t.2.2.2.2,post:=fun t u=>(fun l r bite a b=>fun uu=>True) t.1 t.2.1 t.2.2.1 t.2.2.2.1 t.2.2.2.2 u,lent':=fun t u=>(fun l r bite a b=>fun uu=>[(1000,.blk 203 [.mapv 1002]),(1001,.blk 204 [.cl 147 [.loc 1000 0,.p (.ref [(.sl 2 l.n (fun i=>[.int .i64 ((l.g i).x),.int .i64 ((l.g i).y)]))] 0),.p (.ref [(.sl 1 r.n (fun i=>[.int .i64 ((r.g i))]))] 0),.p (.ref [.int .i64 bite] 0),.loc 1001 0]]),(1002,.ms 205 4 (C3 l r bite))]) t.1 t.2.1 t.2.2.1 t.2.2.2.1 t.2.2.2.2 u,own:=fun t u=>(fun l r bite a b=>fun uu=>[]) t.1 t.2.1 t.2.2.1 t.2.2.2.1 t.2.2.2.2 u,res:=fun t u=>(fun l r bite a b=>fun uu=>.p (.tup [.sl 3 (BA (BK l r bite a b)).n (fun i=>[.int .i64 (((BA (BK l r bite a b)).g i).a),.int .i64 (((BA (BK l r bite a b)).g i).b),.int .i64 (((BA (BK l r bite a b)).g i).c)]),.bool (Cq (BK l r bite a b))])) t.1 t.2.1 t.2.2.1 t.2.2.2.1 t.2.2.2.2 u }
abbrev eK:In.T->Nat:=fun t=>(fun l r bite a b=>b-a) t.1 t.2.1 t.2.2.1 t.2.2.2.1 t.2.2.2.2
theorem Adh (rn:Nat) (l:L.Sq L.Pt) (r:L.Sq Int) (bite:Int) (a:Nat) (b:Nat) (hp:In.pre (l,r,bite,a,b)) (hmu:b-a<rn+1):vc Tryz.prog ({ muts:=[],frz:=B8 [],specs:=AC [(70,dF),(148,eJ)],loops:=AT [(6,{ T:=Nat,keep:=[0,1,2,3,4,5,6],keepO:=[1000,1001,1002],chg:=fun i=>[(11,.p (.int .i64 ((a+1+i:Nat):Int)))],own:=fun _=>[],inv:=fun i=>i<=b-a-1/\∀j,j<i->DB l r bite a b (a+1+j)=none,mu:=fun i=>b-a-i })],iters:=B3 [],rfs:=AP [],nils:=B6 [],mks:=DF [(147,Mk.lt In eK rn)],ren:=fun k=>k }) (Ai Tryz.f147) (Dy Tryz.f147 (In.args (l,r,bite,a,b)) (In.lent (l,r,bite,a,b))) (Fq Tryz.prog Tryz.f147 In (l,r,bite,a,b)):=
 @Eq.mpr _ (let I:=SV.int .i64;let T:=Aee;let A87:=(3:Nat);let A78:=(1001:Nat);let A77:=(1000:Nat);let A73:=(2:Nat);let A69:=(nat_lit 2);let A62:=(nat_lit 1001);let A61:=(nat_lit 1000);let A60:=(↑l.n:Int);let A57:=(10000:Nat);let A52:=(nat_lit 1);let A49:=(147:Nat);let A44:=(↑r.n:Int);let A43:=(1:Int);let A39:=(0:Int);let A25:=(0:Nat);let A24:=(nat_lit 147);let A23:=(1:Nat);let A18:=(∀(a b:Int),C3 l r bite a b->C3 l r bite a b);let A15:=(BK l r bite a b);let A40:=(BA A15);let A14:=(↑b:Int);let A68:=(A39<=r.g (T A14)/\r.g (T A14)<A60);let A56:=(A39<=A14/\A14<A44);let A34:=(r.g (T A14));let A71:=(l.g (T A34));let A13:=(↑a:Int);let A67:=(A39<=r.g (T A13)/\r.g (T A13)<A60);let A55:=(A39<=A13/\A13<A44);let A33:=(r.g (T A13));let A70:=(l.g (T A33));let A28:=(∃(g:Nat),A13+A43=(↑(a+A23+g):Int)/\g<=b-a-A23/\∀(j:Nat),j<g->DB l r bite a b (a+A23+j)=AdV);let A8:=[SV.sl A52 r.n fun(i:Nat)=>[I (r.g i)]];let A7:=(nat_lit 0);let A6:=[SV.sl A69 l.n fun(i:Nat)=>[I (l.g i).x,I (l.g i).y]];let A1:=[EV.loc A61 A7,EV.p (SV.ref A6 A7),EV.p (SV.ref A8 A7),EV.p (SV.ref [I bite] A7),EV.loc A62 A7];Ad .i64 (A13+A43)/\(decide (A14=A13+A43)=true->∃(u:Nat),A40.n=A25/\true=Cq A15/\EV.cl A24 A1=EV.cl A49 A1/\A18/\True)/\(decide (A14=A13+A43)=false->(C3 l r bite A13 A14->(true=true->∃(u:Nat),A40.n=A25/\false=Cq A15/\EV.cl A24 A1=EV.cl A49 A1/\A18/\True)/\(true=false->Ad .i64 (A13+A43)/\A28/\∀(g:Nat),let A9:=(↑(a+A23+g):Int);let A82:=(A39<=A9/\A9<A44);let A59:=(r.g (T A9));let A86:=[I A33,I A59,I A34];let A54:=(!Lv A70 (l.g (T A59)) A71 bite);let A17:=(L.Sq.mk A52 fun(i:Nat)=>CE.mk A33 A59 A34);(g<=b-a-A23/\∀(j:Nat),j<g->DB l r bite a b (a+A23+j)=AdV)->(decide (A9<A14)=true->A55/\A67/\A82/\(A39<=r.g (T A9)/\r.g (T A9)<A60)/\A56/\A68/\(GE A70/\GE (l.g (T A59))/\GE A71/\A39<=bite/\bite<=(4096:Int))/\(A54=true->Ad .i64 (A9+A43)/\∃(g':Nat),A9+A43=(↑(a+A23+g'):Int)/\A13=A13/\A14=A14/\nat_lit 0=nat_lit 0/\SV.ref A6 A7=SV.ref A6 A7/\SV.ref A8 A7=SV.ref A8 A7/\SV.ref [I bite] A7=SV.ref [I bite] A7/\nat_lit 0=nat_lit 0/\EV.cl A24 A1=EV.cl A24 A1/\A18/\(g'<=b-a-A23/\∀(j:Nat),j<g'->DB l r bite a b (a+A23+j)=AdV)/\b-a-g'<b-a-g)/\(A54=false->∃(t:L.Sq L.Pt×L.Sq Int×Int×Nat×Nat),let A72:=[I t.snd.2.1];let A85:=(SV.ref A72 A7);let A41:=(BK t.1 t.2.1 t.snd.2.1 t.snd.snd.2.1 t.snd.snd.2.2);let A37:=[SV.sl A52 t.2.1.n fun(i:Nat)=>[I (t.2.1.g i)]];let A84:=(SV.ref A37 A7);let A26:=[SV.sl A69 t.1.n fun(i:Nat)=>[I (t.1.g i).x,I (t.1.g i).y]];let A83:=(SV.ref A26 A7);let A21:=[EV.loc A77 A7,EV.p A83,EV.p A84,EV.p A85,EV.loc A78 A7];let A4:=(BA A41);let A29:=(L.Sq.mk A4.n fun(i:Nat)=>A4.g i);A13=(↑t.snd.snd.2.1:Int)/\A9=(↑t.snd.snd.2.2:Int)/\nat_lit 0=A25/\SV.ref A6 A7=SV.ref [SV.sl A73 t.1.n fun(i:Nat)=>[I (t.1.g i).x,I (t.1.g i).y]] A25/\SV.ref A8 A7=SV.ref [SV.sl A23 t.2.1.n fun(i:Nat)=>[I (t.2.1.g i)]] A25/\SV.ref [I bite] A7=SV.ref A72 A25/\nat_lit 0=A25/\EV.cl A24 A1=EV.cl A49 [EV.loc A61 A7,EV.p A83,EV.p A84,EV.p A85,EV.loc A62 A7]/\(∀(a b:Int),C3 l r bite a b->C3 t.1 t.2.1 t.snd.2.1 a b)/\((GF t.1 t.2.1 t.snd.2.1/\t.snd.snd.2.1<t.snd.snd.2.2/\t.snd.snd.2.2<t.2.1.n)/\t.snd.snd.2.2-t.snd.snd.2.1<rn)/\∀(u:Nat),True->((!Cq A41)=true->Ad .i64 (A9+A43)/\∃(g':Nat),A9+A43=(↑(a+A23+g'):Int)/\A13=A13/\A14=A14/\nat_lit 0=nat_lit 0/\SV.ref A6 A7=SV.ref A6 A7/\SV.ref A8 A7=SV.ref A8 A7/\SV.ref [I bite] A7=SV.ref [I bite] A7/\nat_lit 0=nat_lit 0/\EV.cl A24 A21=EV.cl A24 A1/\(∀(a b:Int),C3 t.1 t.2.1 t.snd.2.1 a b->C3 l r bite a b)/\(g'<=b-a-A23/\∀(j:Nat),j<g'->DB l r bite a b (a+A23+j)=AdV)/\b-a-g'<b-a-g)/\((!Cq A41)=false->∃(t_1:L.Sq L.Pt×L.Sq Int×Int×Nat×Nat),let A74:=(SV.ref [I t_1.snd.2.1] A7);let A50:=(∀(a b:Int),C3 t_1.1 t_1.2.1 t_1.snd.2.1 a b->C3 l r bite a b);let A47:=(SV.ref [SV.sl A52 t_1.2.1.n fun(i:Nat)=>[I (t_1.2.1.g i)]] A7);let A45:=(SV.ref [SV.sl A69 t_1.1.n fun(i:Nat)=>[I (t_1.1.g i).x,I (t_1.1.g i).y]] A7);let A35:=(BK t_1.1 t_1.2.1 t_1.snd.2.1 t_1.snd.snd.2.1 t_1.snd.snd.2.2);let A19:=[EV.loc A77 A7,EV.p A45,EV.p A47,EV.p A74,EV.loc A78 A7];let A2:=(BA A35);let A30:=(L.Sq.mk A2.n fun(i:Nat)=>A2.g i);let A79:=(Db A17 A29 A30 A25);A9=(↑t_1.snd.snd.2.1:Int)/\A14=(↑t_1.snd.snd.2.2:Int)/\nat_lit 0=A25/\SV.ref A26 A7=SV.ref [SV.sl A73 t_1.1.n fun(i:Nat)=>[I (t_1.1.g i).x,I (t_1.1.g i).y]] A25/\SV.ref A37 A7=SV.ref [SV.sl A23 t_1.2.1.n fun(i:Nat)=>[I (t_1.2.1.g i)]] A25/\SV.ref A72 A7=SV.ref [I t_1.snd.2.1] A25/\nat_lit 0=A25/\EV.cl A24 A21=EV.cl A49 [EV.loc A61 A7,EV.p A45,EV.p A47,EV.p A74,EV.loc A62 A7]/\(∀(a b:Int),C3 t.1 t.2.1 t.snd.2.1 a b->C3 t_1.1 t_1.2.1 t_1.snd.2.1 a b)/\((GF t_1.1 t_1.2.1 t_1.snd.2.1/\t_1.snd.snd.2.1<t_1.snd.snd.2.2/\t_1.snd.snd.2.2<t_1.2.1.n)/\t_1.snd.snd.2.2-t_1.snd.snd.2.1<rn)/\∀(u:Nat),True->(Cq A35=true->A55/\A82/\A56/\(((∀(i:Nat),i<nat_lit 1->A86=A86)/\(∀(i:Nat),let A63:=[I (A4.g i).a,I (A4.g i).b,I (A4.g i).c];i<A4.n->A63=A63)/\∀(i:Nat),let A64:=[I (A2.g i).a,I (A2.g i).b,I (A2.g i).c];i<A2.n->A64=A64)/\(A23<=A79.n/\A79.n<=A57)/\(Db A17 A29 A30 A23).n<=A57/\(Db A17 A29 A30 A73).n<=A57)/\∀(t_2:Nat),True->∃(u:Nat),((BD (Db A17 A29 A30) A87).n=A40.n/\∀(i:Nat),let A12:=(BD (Db (L.Sq.mk A52 fun(i:Nat)=>CE.mk A33 A59 A34) (L.Sq.mk A4.n fun(i:Nat)=>A4.g i) (L.Sq.mk A2.n fun(i:Nat)=>A2.g i)) A87);i<A12.n -> [I (A12.g i).a,I (A12.g i).b,I (A12.g i).c]= [I (A40.g i).a,I (A40.g i).b,I (A40.g i).c])/\true=Cq A15/\EV.cl A24 A19=EV.cl A49 A1/\A50/\True)/\(Cq A35=false->Ad .i64 (A9+A43)/\∃(g':Nat),A9+A43=(↑(a+A23+g'):Int)/\A13=A13/\A14=A14/\nat_lit 0=nat_lit 0/\SV.ref A6 A7=SV.ref A6 A7/\SV.ref A8 A7=SV.ref A8 A7/\SV.ref [I bite] A7=SV.ref [I bite] A7/\nat_lit 0=nat_lit 0/\EV.cl A24 A19=EV.cl A24 A1/\A50/\(g'<=b-a-A23/\∀(j:Nat),j<g'->DB l r bite a b (a+A23+j)=AdV)/\b-a-g'<b-a-g))))/\(decide (A9<A14)=false->true=true/\C3 l r bite A13 A14/\∃(u:Nat),A40.n=A25/\false=Cq A15/\EV.cl A24 A1=EV.cl A49 A1/\A18/\True)))/\(false=true->∃(u:Nat),A40.n=A25/\false=Cq A15/\EV.cl A24 A1=EV.cl A49 A1/\A18/\True)/\(false=false->Ad .i64 (A13+A43)/\A28/\∀(g:Nat),let A10:=(↑(a+A23+g):Int);let A80:=(A39<=A10/\A10<A44);let A58:=(r.g (T A10));let A91:=[I A33,I A58,I A34];let A53:=(!Lv A70 (l.g (T A58)) A71 bite);let A16:=(L.Sq.mk A52 fun(i:Nat)=>CE.mk A33 A58 A34);(g<=b-a-A23/\∀(j:Nat),j<g->DB l r bite a b (a+A23+j)=AdV)->(decide (A10<A14)=true->A55/\A67/\A80/\(A39<=r.g (T A10)/\r.g (T A10)<A60)/\A56/\A68/\(GE A70/\GE (l.g (T A58))/\GE A71/\A39<=bite/\bite<=(4096:Int))/\(A53=true->Ad .i64 (A10+A43)/\∃(g':Nat),A10+A43=(↑(a+A23+g'):Int)/\A13=A13/\A14=A14/\nat_lit 0=nat_lit 0/\SV.ref A6 A7=SV.ref A6 A7/\SV.ref A8 A7=SV.ref A8 A7/\SV.ref [I bite] A7=SV.ref [I bite] A7/\nat_lit 0=nat_lit 0/\EV.cl A24 A1=EV.cl A24 A1/\A18/\(g'<=b-a-A23/\∀(j:Nat),j<g'->DB l r bite a b (a+A23+j)=AdV)/\b-a-g'<b-a-g)/\(A53=false->∃(t:L.Sq L.Pt×L.Sq Int×Int×Nat×Nat),let A75:=[I t.snd.2.1];let A90:=(SV.ref A75 A7);let A42:=(BK t.1 t.2.1 t.snd.2.1 t.snd.snd.2.1 t.snd.snd.2.2);let A38:=[SV.sl A52 t.2.1.n fun(i:Nat)=>[I (t.2.1.g i)]];let A89:=(SV.ref A38 A7);let A27:=[SV.sl A69 t.1.n fun(i:Nat)=>[I (t.1.g i).x,I (t.1.g i).y]];let A88:=(SV.ref A27 A7);let A22:=[EV.loc A77 A7,EV.p A88,EV.p A89,EV.p A90,EV.loc A78 A7];let A5:=(BA A42);let A31:=(L.Sq.mk A5.n fun(i:Nat)=>A5.g i);A13=(↑t.snd.snd.2.1:Int)/\A10=(↑t.snd.snd.2.2:Int)/\nat_lit 0=A25/\SV.ref A6 A7=SV.ref [SV.sl A73 t.1.n fun(i:Nat)=>[I (t.1.g i).x,I (t.1.g i).y]] A25/\SV.ref A8 A7=SV.ref [SV.sl A23 t.2.1.n fun(i:Nat)=>[I (t.2.1.g i)]] A25/\SV.ref [I bite] A7=SV.ref A75 A25/\nat_lit 0=A25/\EV.cl A24 A1=EV.cl A49 [EV.loc A61 A7,EV.p A88,EV.p A89,EV.p A90,EV.loc A62 A7]/\(∀(a b:Int),C3 l r bite a b->C3 t.1 t.2.1 t.snd.2.1 a b)/\((GF t.1 t.2.1 t.snd.2.1/\t.snd.snd.2.1<t.snd.snd.2.2/\t.snd.snd.2.2<t.2.1.n)/\t.snd.snd.2.2-t.snd.snd.2.1<rn)/\∀(u:Nat),True->((!Cq A42)=true->Ad .i64 (A10+A43)/\∃(g':Nat),A10+A43=(↑(a+A23+g'):Int)/\A13=A13/\A14=A14/\nat_lit 0=nat_lit 0/\SV.ref A6 A7=SV.ref A6 A7/\SV.ref A8 A7=SV.ref A8 A7/\SV.ref [I bite] A7=SV.ref [I bite] A7/\nat_lit 0=nat_lit 0/\EV.cl A24 A22=EV.cl A24 A1/\(∀(a b:Int),C3 t.1 t.2.1 t.snd.2.1 a b->C3 l r bite a b)/\(g'<=b-a-A23/\∀(j:Nat),j<g'->DB l r bite a b (a+A23+j)=AdV)/\b-a-g'<b-a-g)/\((!Cq A42)=false->∃(t_1:L.Sq L.Pt×L.Sq Int×Int×Nat×Nat),let A76:=(SV.ref [I t_1.snd.2.1] A7);let A51:=(∀(a b:Int),C3 t_1.1 t_1.2.1 t_1.snd.2.1 a b->C3 l r bite a b);let A48:=(SV.ref [SV.sl A52 t_1.2.1.n fun(i:Nat)=>[I (t_1.2.1.g i)]] A7);let A46:=(SV.ref [SV.sl A69 t_1.1.n fun(i:Nat)=>[I (t_1.1.g i).x,I (t_1.1.g i).y]] A7);let A36:=(BK t_1.1 t_1.2.1 t_1.snd.2.1 t_1.snd.snd.2.1 t_1.snd.snd.2.2);let A20:=[EV.loc A77 A7,EV.p A46,EV.p A48,EV.p A76,EV.loc A78 A7];let A3:=(BA A36);let A32:=(L.Sq.mk A3.n fun(i:Nat)=>A3.g i);let A81:=(Db A16 A31 A32 A25);A10=(↑t_1.snd.snd.2.1:Int)/\A14=(↑t_1.snd.snd.2.2:Int)/\nat_lit 0=A25/\SV.ref A27 A7=SV.ref [SV.sl A73 t_1.1.n fun(i:Nat)=>[I (t_1.1.g i).x,I (t_1.1.g i).y]] A25/\SV.ref A38 A7=SV.ref [SV.sl A23 t_1.2.1.n fun(i:Nat)=>[I (t_1.2.1.g i)]] A25/\SV.ref A75 A7=SV.ref [I t_1.snd.2.1] A25/\nat_lit 0=A25/\EV.cl A24 A22=EV.cl A49 [EV.loc A61 A7,EV.p A46,EV.p A48,EV.p A76,EV.loc A62 A7]/\(∀(a b:Int),C3 t.1 t.2.1 t.snd.2.1 a b->C3 t_1.1 t_1.2.1 t_1.snd.2.1 a b)/\((GF t_1.1 t_1.2.1 t_1.snd.2.1/\t_1.snd.snd.2.1<t_1.snd.snd.2.2/\t_1.snd.snd.2.2<t_1.2.1.n)/\t_1.snd.snd.2.2-t_1.snd.snd.2.1<rn)/\∀(u:Nat),True->(Cq A36=true->A55/\A80/\A56/\(((∀(i:Nat),i<nat_lit 1->A91=A91)/\(∀(i:Nat),let A65:=[I (A5.g i).a,I (A5.g i).b,I (A5.g i).c];i<A5.n->A65=A65)/\∀(i:Nat),let A66:=[I (A3.g i).a,I (A3.g i).b,I (A3.g i).c];i<A3.n->A66=A66)/\(A23<=A81.n/\A81.n<=A57)/\(Db A16 A31 A32 A23).n<=A57/\(Db A16 A31 A32 A73).n<=A57)/\∀(t_2:Nat),True->∃(u:Nat),((BD (Db A16 A31 A32) A87).n=A40.n/\∀(i:Nat),let A11:=(BD (Db (L.Sq.mk A52 fun(i:Nat)=>CE.mk A33 A58 A34) (L.Sq.mk A5.n fun(i:Nat)=>A5.g i) (L.Sq.mk A3.n fun(i:Nat)=>A3.g i)) A87);i<A11.n -> [I (A11.g i).a,I (A11.g i).b,I (A11.g i).c]= [I (A40.g i).a,I (A40.g i).b,I (A40.g i).c])/\true=Cq A15/\EV.cl A24 A20=EV.cl A49 A1/\A51/\True)/\(Cq A36=false->Ad .i64 (A10+A43)/\∃(g':Nat),A10+A43=(↑(a+A23+g'):Int)/\A13=A13/\A14=A14/\nat_lit 0=nat_lit 0/\SV.ref A6 A7=SV.ref A6 A7/\SV.ref A8 A7=SV.ref A8 A7/\SV.ref [I bite] A7=SV.ref [I bite] A7/\nat_lit 0=nat_lit 0/\EV.cl A24 A20=EV.cl A24 A1/\A51/\(g'<=b-a-A23/\∀(j:Nat),j<g'->DB l r bite a b (a+A23+j)=AdV)/\b-a-g'<b-a-g))))/\(decide (A10<A14)=false->true=true/\C3 l r bite A13 A14/\∃(u:Nat),A40.n=A25/\false=Cq A15/\EV.cl A24 A1=EV.cl A49 A1/\A18/\True)))) (by kernel_rfl) (by
 conv=>zeta
 have hp:GF l r bite/\a<b/\b<r.n:=hp;have hmu:b-a<rn+1:=hmu;obtain⟨hok,hab,hbr⟩:=hp;obtain⟨⟨hln,hrn,q0,q1⟩,hri,hli⟩:=id hok;have ea:((a:Int)).toNat=a:=Aea a;have eb:((b:Int)).toNat=b:=Aea b;have no:∀x y,C3 l r bite x y->C3 l r bite x y:=fun _ _ h=>h;refine⟨jK,fun h1=>?_,fun h1=>⟨fun hn=>⟨fun _=>?_,fun h=>(by cases h)⟩,(fun h=>by cases h),fun _=>⟨jK,⟨(0:Nat),by omega,AdL _,fun j hj=>absurd hj (nT _)⟩,fun g hg=>⟨fun hc=>?_,fun hc=>?_⟩⟩⟩⟩
 ·have h1:(b:Int)=(a:Int)+1:=of_decide_eq_true h1;rw[AcG l r bite (show b=a+1 by omega) hbr];exact⟨(0:Nat),rfl,rfl,rfl,no,trivial⟩
 ·have e : BK l r bite a b = none :=by
   have:=hn;unfold C3 at this;rwa[ea,eb]at this
  rw[e];exact⟨(0:Nat),rfl,rfl,rfl,no,trivial⟩
 ·have h1:¬ (b:Int)=(a:Int)+1:=of_decide_eq_false h1;have hc:((a+1+g:Nat):Int)<(b:Int):=of_decide_eq_true hc;have hm:a+1+g<b:=by omega
  obtain⟨hg1,hg2⟩:=hg;have em:(((a+1+g:Nat):Int)).toNat=a+1+g:=Aea _;rw[ea,eb,em];have ra:=hri a (by omega);have rm:=hri (a+1+g) (by omega);have rb:=hri b hbr;have cst:((a+1+g:Nat):Int)+1=((a+1+(g+1):Nat):Int):=by omega
  have w1:Ad .i64 (((a+1+g:Nat):Int)+1):=jK;have w2:g+1<=b-a-1:=by omega
  have w3:b-a-(g+1)<b-a-g:=by omega
  have nx:DB l r bite a b (a+1+g)=none->∀j,j<g+1->DB l r bite a b (a+1+j)=none:=fun h j hj=>by
   rcases AdZ.1 hj with h'|rfl
   ·exact hg2 j h'
   ·exact h
  have i1:0<=(a:Int)/\(a:Int)<(r.n:Int):=by omega
  have i2:0<=((a+1+g:Nat):Int)/\((a+1+g:Nat):Int)<(r.n:Int):=by omega
  have i3:0<=(b:Int)/\(b:Int)<(r.n:Int):=by omega
  refine⟨i1,ra,i2,rm,i3,rb,⟨hli _ (by omega),hli _ (by omega),hli _ (by omega),q0,q1⟩,fun hl=>?_,fun hl=>?_⟩
  ·have hl:Nr l r bite a (a+1+g) b=false:=Cx hl;have dn:DB l r bite a b (a+1+g)=none:=by unfold DB Gq;rw[hl];rfl
   exact⟨w1,g+1,cst,rfl,rfl,rfl,rfl,rfl,rfl,rfl,rfl,no,⟨w2,nx dn⟩,w3⟩
  have hl:Nr l r bite a (a+1+g) b=true:=BW hl;have m1:a<a+1+g:=by omega
  have m2:a+1+g<r.n:=by omega
  have m3:a+1+g-a<rn:=by omega
  have m4:b-(a+1+g)<rn:=by omega
  refine⟨(l,r,bite,a,a+1+g),rfl,rfl,rfl,rfl,rfl,rfl,rfl,rfl,no,⟨⟨hok,m1,m2⟩,m3⟩,fun u _=>⟨fun h2=>?_,fun h2=>?_⟩⟩
  ·have h2:Cq (BK l r bite a (a+1+g))=false:=Cx h2;have dn:DB l r bite a b (a+1+g)=none:=by
    unfold DB Gq;rw[hl];cases hx:BK l r bite a (a+1+g)with
    |none=>rfl
    |some x=>rw[hx]at h2;cases h2
   exact⟨w1,g+1,cst,rfl,rfl,rfl,rfl,rfl,rfl,rfl,rfl,no,⟨w2,nx dn⟩,w3⟩
  have h2:Cq (BK l r bite a (a+1+g))=true:=BW h2;refine⟨(l,r,bite,a+1+g,b),rfl,rfl,rfl,rfl,rfl,rfl,rfl,rfl,no,⟨⟨hok,hm,hbr⟩,m4⟩,fun u2 _=>⟨fun h3=>?_,fun h3=>?_⟩⟩
  ·have h3:Cq (BK l r bite (a+1+g) b)=true:=h3;have o1:=dB (l:=l) (r:=r) (bite:=bite) m1;have o2:=dB (l:=l) (r:=r) (bite:=bite) hm;have o3:(BA (BK l r bite a (a+1+g))).n<=10000:=by omega
   have o4:(BA (BK l r bite (a+1+g) b)).n<=10000:=by omega
   have key:((BD (Db ⟨1,fun _=>⟨r.g a,r.g (a+1+g),r.g b⟩⟩ (BA (BK l r bite a (a+1+g))) (BA (BK l r bite (a+1+g) b))) 3).n=(BA (BK l r bite a b)).n/\∀i,i<(BD (Db ⟨1,fun _=>⟨r.g a,r.g (a+1+g),r.g b⟩⟩ (BA (BK l r bite a (a+1+g))) (BA (BK l r bite (a+1+g) b))) 3).n->(BD (Db ⟨1,fun _=>⟨r.g a,r.g (a+1+g),r.g b⟩⟩ (BA (BK l r bite a (a+1+g))) (BA (BK l r bite (a+1+g) b))) 3).g i=(BA (BK l r bite a b)).g i)/\Cq (BK l r bite a b)=true:=by
    cases hx:BK l r bite a (a+1+g)with
    |none=>rw[hx]at h2;cases h2
    |some x =>
      cases hy:BK l r bite (a+1+g) b with
      |none=>rw[hy]at h3;cases h3
      |some y =>
        have e:BK l r bite a b=some (⟨r.g a,r.g (a+1+g),r.g b⟩::(x++y)):=by
         rw[dA l r bite hab (by omega) hbr];refine cZ (k:=g) ?_ hg2 (by omega);unfold DB Gq;rw[hl,hx,hy];rfl
        rw[e];exact⟨AcH _ x y,rfl⟩
   exact⟨i1,i2,i3,⟨⟨fun _ _=>rfl,fun _ _=>rfl,fun _ _=>rfl⟩,⟨⟨by show 1<=1;omega,by show 1<=10000;omega⟩,o3,o4⟩⟩,fun _ _=>⟨(0:Nat),⟨key.1.1,fun i hi=>congrArg AcI (key.1.2 i hi)⟩,key.2.symm,rfl,no,trivial⟩⟩
  ·have h3:Cq (BK l r bite (a+1+g) b)=false:=h3;have dn:DB l r bite a b (a+1+g)=none:=by
    unfold DB Gq;rw[hl];cases hx:BK l r bite a (a+1+g)with
    |none=>rfl
    |some x =>
      cases hy:BK l r bite (a+1+g) b with
      |none=>rfl
      |some y=>rw[hy]at h3;cases h3
   exact⟨w1,g+1,cst,rfl,rfl,rfl,rfl,rfl,rfl,rfl,rfl,no,⟨w2,nx dn⟩,w3⟩
 ·have h1:¬ (b:Int)=(a:Int)+1:=of_decide_eq_false h1;have hc:¬ ((a+1+g:Nat):Int)<(b:Int):=of_decide_eq_false hc;obtain⟨hg1,hg2⟩:=hg;obtain rfl:g=b-a-1:=by omega
  have e:BK l r bite a b=none:=by
   rw[dA l r bite hab (by omega) hbr];exact Qv hg2
  have e2:C3 l r bite a b:=by unfold C3;rw[ea,eb];exact e
  rw[e];exact⟨rfl,e2,(0:Nat),rfl,rfl,rfl,no,trivial⟩)
theorem eM:As Tryz.prog 147:=fun args w=>by kernel_rfl
theorem Adi:De Tryz.prog 147 In:=KS eK ⟨fun t=>rfl,fun t u=>rfl,fun t u=>rfl,fun t u=>⟨rfl,rfl,rfl⟩,.inl rfl,fun k h=>(by cases h)⟩ (fun rn ih=>FB (n:=7) Tryz.func147 (c:=Ai Tryz.f147) (by kernel_rfl) mixed ⟨fun t=>rfl,fun t=>rfl,fun t u=>rfl,fun t u=>rfl,fun t u=>rfl,fun t u=>⟨rfl,rfl⟩,by kernel_rfl,by kernel_rfl⟩ (fun⟨l,r,bite,a,b⟩ hp=>⟨_,Adh rn l r bite a b hp.1 hp.2,⟨show Aa Tryz.prog _ from(Aa.cons AcL AcM (Aa.cons Adf Adg Aa.nil)),rfl,⟨show Af Tryz.prog _ from Af.nil,⟨AA.no1 (fun _=>rfl),⟨show Bj Tryz.prog _ from(Bj.cons ih eM Bj.nil),FamsOk.none (fun _=>rfl)⟩⟩⟩⟩⟩))
abbrev JY:Mk:={ T:=(L.Sq L.Pt)×(L.Sq Int)×(Int),U:=Nat,args:=fun t=>(fun l r bite=>[.p ((.sl 2 l.n (fun i=>[.int .i64 ((l.g i).x),.int .i64 ((l.g i).y)]))),.p ((.sl 1 r.n (fun i=>[.int .i64 ((r.g i))]))),.p (.int .i64 bite)]) t.1 t.2.1 t.2.2,lkeys:=[],keys:=[],lent:=fun t=>(fun l r bite=>[]) t.1 t.2.1 t.2.2,pre:=fun t=>(fun l r bite=>GF l r bite/\2<=r.n) t.1 t.2.1 t.2.2,post:=fun t u=>(fun l r bite=>fun uu=>True) t.1 t.2.1 t.2.2 u,lent':=fun t u=>(fun l r bite=>fun uu=>[]) t.1 t.2.1 t.2.2 u,own:=fun t u=>(fun l r bite=>fun uu=>[]) t.1 t.2.1 t.2.2 u,res:=fun t u=>(fun l r bite=>fun uu=>.p (.tup [.sl 3 (BA (Hf l r bite)).n (fun i=>[.int .i64 (((BA (Hf l r bite)).g i).a),.int .i64 (((BA (Hf l r bite)).g i).b),.int .i64 (((BA (Hf l r bite)).g i).c)]),.bool (Cq (Hf l r bite))])) t.1 t.2.1 t.2.2 u }
theorem Adj (l:L.Sq L.Pt) (r:L.Sq Int) (bite:Int) (hp:JY.pre (l,r,bite)):vc Tryz.prog ({ cC with muts:=[8,9],mks:=DF [(147,In)],ren:=fun k=>if k=1000 then 8 else if k=1001 then 9 else if k=1002 then 10 else k,mss:=QI [(10,C3 l r bite)] }) (Ai Tryz.f114) (Dy Tryz.f114 (JY.args (l,r,bite)) (JY.lent (l,r,bite))) (Fq Tryz.prog Tryz.f114 JY (l,r,bite)):=
 @Eq.mpr _ (let I:=SV.int .i64;let A7:=(0:Nat);let A5:=[SV.sl (nat_lit 1) r.n fun(i:Nat)=>[I (r.g i)]];let A4:=(BA (Hf l r bite));let A3:=[SV.sl (nat_lit 2) l.n fun(i:Nat)=>[I (l.g i).x,I (l.g i).y]];let A2:=(nat_lit 0);Ad .i64 ((↑r.n:Int)-(1:Int))/\∃(t:L.Sq L.Pt×L.Sq Int×Int×Nat×Nat),let A1:=(BK t.1 t.2.1 t.snd.2.1 t.snd.snd.2.1 t.snd.snd.2.2);let A6:=(BA A1);(0:Int)=(↑t.snd.snd.2.1:Int)/\(↑r.n:Int)-(1:Int)=(↑t.snd.snd.2.2:Int)/\nat_lit 0=A7/\SV.ref A3 A2=SV.ref [SV.sl (2:Nat) t.1.n fun(i:Nat)=>[I (t.1.g i).x,I (t.1.g i).y]] A7/\SV.ref A5 A2=SV.ref [SV.sl (1:Nat) t.2.1.n fun(i:Nat)=>[I (t.2.1.g i)]] A7/\SV.ref [I bite] A2=SV.ref [I t.snd.2.1] A7/\nat_lit 0=A7/\EV.cl (nat_lit 147) [EV.loc (nat_lit 8) A2,EV.p (SV.ref A3 A2),EV.p (SV.ref A5 A2),EV.p (SV.ref [I bite] A2),EV.loc (nat_lit 9) A2]=EV.cl (147:Nat) [EV.loc (8:Nat) A2,EV.p (SV.ref [SV.sl (nat_lit 2) t.1.n fun(i:Nat)=>[I (t.1.g i).x,I (t.1.g i).y]] A2),EV.p (SV.ref [SV.sl (nat_lit 1) t.2.1.n fun(i:Nat)=>[I (t.2.1.g i)]] A2),EV.p (SV.ref [I t.snd.2.1] A2),EV.loc (9:Nat) A2]/\(∀(a b:Int),C3 l r bite a b->C3 t.1 t.2.1 t.snd.2.1 a b)/\(GF t.1 t.2.1 t.snd.2.1/\t.snd.snd.2.1<t.snd.snd.2.2/\t.snd.snd.2.2<t.2.1.n)/\∀(u:Nat),True->∃(u:Nat),(A6.n=A4.n/\∀(i:Nat),i<A6.n -> [I (A6.g i).a,I (A6.g i).b,I (A6.g i).c]= [I (A4.g i).a,I (A4.g i).b,I (A4.g i).c])/\Cq A1=Cq (Hf l r bite)/\True) (by kernel_rfl) (by
 conv=>zeta
 have hp:GF l r bite/\2<=r.n:=hp;obtain⟨hok,h2⟩:=hp;obtain⟨⟨hln,hrn,q0,q1⟩,hri,hli⟩:=id hok;exact⟨jK,(l,r,bite,0,r.n-1),rfl,by show(r.n:Int)-1=((r.n-1:Nat):Int);omega,rfl,rfl,rfl,rfl,rfl,rfl,fun _ _ h=>h,⟨hok,by show 0<r.n-1;omega,by show r.n-1<r.n;omega⟩,fun _ _=>⟨(0:Nat),⟨rfl,fun _ _=>rfl⟩,rfl,trivial⟩⟩)
theorem Adk:As Tryz.prog 114:=fun args w=>by kernel_rfl
theorem Adl:De Tryz.prog 114 JY:=FB (n:=3) Tryz.func114 (c:=Ai Tryz.f114) (by kernel_rfl) mixed ⟨fun t=>rfl,fun t=>rfl,fun t u=>rfl,fun t u=>rfl,fun t u=>rfl,fun t u=>⟨rfl,rfl⟩,by kernel_rfl,by kernel_rfl⟩ (fun⟨l,r,bite⟩ hp=>⟨_,Adj l r bite hp,⟨show Aa Tryz.prog _ from Aa.nil,rfl,⟨show Af Tryz.prog _ from Af.nil,⟨AA.no1 (fun _=>rfl),⟨show Bj Tryz.prog _ from(Bj.cons Adi eM Bj.nil),FamsOk.none (fun _=>rfl)⟩⟩⟩⟩⟩)
end
section
set_option maxHeartbeats 4000000
def EF (a b:AO):Bool:=decide (a.fr=b.fr)&&(decide (a.to_=b.to_)&&decide (a.area=b.area))
def Ns (l:L.Sq AO) (v:AO):Int:=Cm l.n (fun i=>EF v (l.g i))
def JZ (l:L.Sq L.Pt) (p:AO):Bool:=Cb (Fa l) fun i=>EF p ((EJ l).g i)
def H7 (l:L.Sq L.Pt) (p:AO) (bite:Int):Int:=bif (bif (bif !decide ((bif AB l then(0:Int)else 1)=0)then true else !Ay bite 0 4096)then true else !JZ l p)then 1 else bif !Cq (Et l p bite)then 51 else 0
def GG (l:L.Sq L.Pt) (p:AO) (bite:Int):L.Sq CE:=BA (bif decide (H7 l p bite=0)then Et l p bite else none)
def Nt (l:L.Sq L.Pt):Prop:=∀i,i<(EJ l).n->EP l.n ((EJ l).g i)
theorem Adm {a b:AO} (h:EF a b=true):a=b:=by
 unfold EF at h;simp only[oE,decide_eq_true_eq]at h;cases a;cases b;simp only[AO.mk.injEq];exact h
theorem Adn {α:Type} {n:Nat} {f u:Nat->α} {q:α->Bool} (h:((AdP n).map u).Perm ((AdP n).map f)):Cb n (fun i=>q (u i))=Cb n (fun i=>q (f i)):=by
 rw[Bool.eq_iff_iff,EY,EY];have k:∀g:Nat->α,(∃i,i<n/\q (g i)=true)↔∃x,x∈(AdP n).map g/\q x=true:=fun g=>by
  constructor
  ·rintro⟨i,hi,h⟩;exact⟨g i,AdN.2 ⟨i,AdQ.2 hi,rfl⟩,h⟩
  ·rintro⟨x,hx,h⟩;obtain⟨i,hi,rfl⟩:=AdN.1 hx;exact⟨i,AdQ.1 hi,h⟩
 rw[k,k];exact⟨fun⟨x,hx,h1⟩=>⟨x,h.mem_iff.1 hx,h1⟩,fun⟨x,hx,h1⟩=>⟨x,h.mem_iff.2 hx,h1⟩⟩
theorem Ado {l:L.Sq L.Pt} {p:AO} {bite:Int} (hv:AB l=true) (hk:EP l.n p) (h0:0<=bite) (h1:bite<=4096):GF l (Lw l p) bite/\2<=(Lw l p).n:=by
 obtain⟨n3,n24,_,_⟩:=Fr hv;obtain⟨d1,d2,f0,f1,fr,fe,fs⟩:=Qu hk;refine⟨⟨⟨by omega,by show Cp l.n p+1<=1000;omega,h0,h1⟩,fun i hi=>fr i (by have hi:i<Cp l.n p+1:=hi;omega),fun i hi=>Hx.1 (Pu hv i hi)⟩,by show 2<=Cp l.n p+1;omega⟩
theorem Adp {l:L.Sq L.Pt} (hv:AB l=true):(EJ l).n<=1000:=by
 obtain⟨n3,n24,_,_⟩:=Fr hv;have cl:∀m:L.Sq L.Pt,(B1 m).n<=m.n:=fun m=>by
  have:=Lf m m.n;show(BS m m.n).length-1<=m.n;omega
 have c1:(B1 (B0 l)).n<=l.n:=cl (B0 l);have c2:(B1 (EZ (B0 l))).n<=l.n:=cl (EZ (B0 l));have h1:(AY l).n<=1000:=by
  show 0+(B1 (B0 l)).n+(B1 (EZ (B0 l))).n<=1000;omega
 have h2:(EJ l).n<=(AY l).n:=OT;omega
def eO (l:(L.Sq AO)) (v:AO):Prop:=l.n<=1000000
def eQ (l:(L.Sq AO)) (v:AO):SV:=.int .i64 (Ns l v)
def eV:List EV->Option (Prop×SV)
 |[.p (.sl 3 l_n l_g),.p (.agg [.int .i64 v_fr,.int .i64 v_to_,.int .i64 v_area])]=>some ((∀i,i<l_n->l_g i = [.int .i64 ((GZ (l_g i)).fr),.int .i64 ((GZ (l_g i)).to_),.int .i64 ((GZ (l_g i)).area)])/\eO (⟨l_n,fun i=>GZ (l_g i)⟩:(L.Sq AO)) (⟨v_fr,v_to_,v_area⟩:AO),eQ (⟨l_n,fun i=>GZ (l_g i)⟩:(L.Sq AO)) (⟨v_fr,v_to_,v_area⟩:AO))
 |_=>none
abbrev eX:SE.Spec:=(AI eV)
def Adq:Al:={ muts:=[],frz:=B8 [],specs:=AC [],loops:=fun _=>none,iters:=B3 [],rfs:=AP [],nils:=B6 [] }
theorem Adr (l:(L.Sq AO)) (v:AO) (hp:eO l v):vc Tryz.prog ({ Adq with loops:=AT [(2,{ T:=Nat,keep:=[0,3,6,7],keepO:=[],chg:=fun i=>[(8,.p (.int .i64 i))],own:=fun _=>[],inv:=fun i=>i<=l.n/\(∀j,j<i->EF v (l.g j)=false),mu:=fun i=>l.n-i })],rfs:=AP [] }) (Ai Tryz.f112) (Au Tryz.f112 [.p (.sl 3 l.n (fun i=>[.int .i64 ((l.g i).fr),.int .i64 ((l.g i).to_),.int .i64 ((l.g i).area)])),.p (.agg [.int .i64 v.fr,.int .i64 v.to_,.int .i64 v.area])]) (AH Tryz.prog Tryz.f112 (eQ l v)):=
 @Eq.mpr _ (let I:=SV.int .i64;let T:=Aee;let A6:=[I v.fr,I v.to_,I v.area];let A5:=(↑l.n:Int);let A2:=(l.n=l.n/\∀(i:Nat),let A4:=[I (l.g i).fr,I (l.g i).to_,I (l.g i).area];i<l.n->A4=A4);(∃(g:Nat),(0:Int)=(↑g:Int)/\g<=l.n/\∀(j:Nat),j<g->EF v (l.g j)=false)/\∀(g:Nat),let A3:=(↑g:Int);let A7:=(l.g (T A3));let A1:=(decide (v.fr=A7.fr)&&(decide (v.to_=A7.to_)&&decide (v.area=A7.area)));(g<=l.n/\∀(j:Nat),j<g->EF v (l.g j)=false)->(decide (A3<A5)=true->((0:Int)<=A3/\A3<A5)/\(A1=true->A3=Ns l v)/\(A1=false->Ad .i64 (A3+(1:Int))/\∃(g':Nat),A3+(1:Int)=(↑g':Int)/\A5=A5/\A2/\SV.ref A6 (nat_lit 0)=SV.ref A6 (nat_lit 0)/\A2/\(g'<=l.n/\∀(j:Nat),j<g'->EF v (l.g j)=false)/\l.n-g'<l.n-g))/\(decide (A3<A5)=false->(-1:Int)=Ns l v)) (by kernel_rfl) (by
 conv=>zeta
 have hn:l.n<=1000000:=hp;refine⟨⟨(0:Nat),rfl,AdL _,fun j hj=>absurd hj (nT _)⟩,fun g hg=>⟨fun hlt=>?_,fun hge=>?_⟩⟩
 ·have hb:(g:Int)<(l.n:Int):=of_decide_eq_true hlt;have e0:((g:Int)).toNat=g:=by omega
  rw[e0];refine⟨⟨by omega,hb⟩,fun h=>?_,fun h=>?_⟩
  ·have h:EF v (l.g g)=true:=h;exact(J8 (f:=fun i=>EF v (l.g i)) hg.2 h (by omega)).symm
  ·have h:EF v (l.g g)=false:=h;exact⟨jK,g+1,by omega,rfl,⟨rfl,fun _ _=>rfl⟩,rfl,⟨rfl,fun _ _=>rfl⟩,⟨by omega,fun j hj=>by
    rcases AdZ.1 hj with h'|rfl
    ·exact hg.2 j h'
    ·exact h⟩,by omega⟩
 ·have hb:¬ (g:Int)<(l.n:Int):=of_decide_eq_false hge;exact(IG (f:=fun i=>EF v (l.g i)) (fun j hj=>hg.2 j (by omega))).symm)
theorem Ads:Ax Tryz.prog 112 eX:=AK Tryz.func112 (c:=Ai Tryz.f112) (by kernel_rfl) mixed (fun args p r hs hp=>by
 unfold eV at hs;split at hs
 ·cases hs;exact⟨_,_,Adr _ _ hp.2,(.p (.sl hp.1) (.same _ .nil)),⟨show Aa Tryz.prog _ from Aa.nil,rfl,⟨show Af Tryz.prog _ from Af.nil,(AA.none (fun _=>rfl))⟩⟩⟩
 ·cases hs)
theorem Adt:As Tryz.prog 112:=fun args w=>by kernel_rfl
def eY (l:(L.Sq AO)) (v:AO):Prop:=l.n<=1000000
def fA (l:(L.Sq AO)) (v:AO):SV:=.bool (Cb l.n fun i=>EF v (l.g i))
def fB:List EV->Option (Prop×SV)
 |[.p (.sl 3 l_n l_g),.p (.agg [.int .i64 v_fr,.int .i64 v_to_,.int .i64 v_area])]=>some ((∀i,i<l_n->l_g i = [.int .i64 ((GZ (l_g i)).fr),.int .i64 ((GZ (l_g i)).to_),.int .i64 ((GZ (l_g i)).area)])/\eY (⟨l_n,fun i=>GZ (l_g i)⟩:(L.Sq AO)) (⟨v_fr,v_to_,v_area⟩:AO),fA (⟨l_n,fun i=>GZ (l_g i)⟩:(L.Sq AO)) (⟨v_fr,v_to_,v_area⟩:AO))
 |_=>none
abbrev fC:SE.Spec:=(AI fB)
def Adu:Al:={ cC with specs:=AC [(112,eX)] }
theorem Adv (l:(L.Sq AO)) (v:AO) (hp:eY l v):vc Tryz.prog (Adu) (Ai Tryz.f67) (Au Tryz.f67 [.p (.sl 3 l.n (fun i=>[.int .i64 ((l.g i).fr),.int .i64 ((l.g i).to_),.int .i64 ((l.g i).area)])),.p (.agg [.int .i64 v.fr,.int .i64 v.to_,.int .i64 v.area])]) (AH Tryz.prog Tryz.f67 (fA l v)):=
 @Eq.mpr _ (let I:=SV.int .i64;((∀(i:Nat),let A1:=[I (l.g i).fr,I (l.g i).to_,I (l.g i).area];i<l.n->A1=A1)/\l.n<=(1000000:Nat))/\decide ((0:Int)<=Ns (L.Sq.mk l.n fun(i:Nat)=>l.g i) v)=Cb l.n fun(i:Nat)=>EF v (l.g i)) (by kernel_rfl) (by
 conv=>zeta
 refine⟨⟨fun _ _=>rfl,hp⟩,KY⟩)
theorem Adw:Ax Tryz.prog 67 fC:=AK Tryz.func67 (c:=Ai Tryz.f67) (by kernel_rfl) mixed (fun args p r hs hp=>by
 unfold fB at hs;split at hs
 ·cases hs;exact⟨_,_,Adv _ _ hp.2,(.p (.sl hp.1) (.same _ .nil)),⟨show Aa Tryz.prog _ from(Aa.cons Ads Adt Aa.nil),rfl,⟨show Af Tryz.prog _ from Af.nil,(AA.none (fun _=>rfl))⟩⟩⟩
 ·cases hs)
theorem Adx:As Tryz.prog 67:=fun args w=>by kernel_rfl
def fD (l:(L.Sq L.Pt)) (p:AO) (b:Int):Prop:=AB l=true/\EP l.n p/\0<=b/\b<=4096
def fE (l:(L.Sq L.Pt)) (p:AO) (b:Int):SV:=.tup [.sl 3 (BA (Et l p b)).n (fun i=>[.int .i64 (((BA (Et l p b)).g i).a),.int .i64 (((BA (Et l p b)).g i).b),.int .i64 (((BA (Et l p b)).g i).c)]),.bool (Cq (Et l p b))]
def fF:List EV->Option (Prop×SV)
 |[.p (.sl 2 l_n l_g),.p (.agg [.int .i64 p_fr,.int .i64 p_to_,.int .i64 p_area]),.p (.int .i64 b)]=>some ((∀i,i<l_n->l_g i = [.int .i64 ((Ar (l_g i)).x),.int .i64 ((Ar (l_g i)).y)])/\fD (⟨l_n,fun i=>Ar (l_g i)⟩:(L.Sq L.Pt)) (⟨p_fr,p_to_,p_area⟩:AO) b,fE (⟨l_n,fun i=>Ar (l_g i)⟩:(L.Sq L.Pt)) (⟨p_fr,p_to_,p_area⟩:AO) b)
 |_=>none
abbrev fG:SE.Spec:=(AI fF)
def Ady:Al:={ cC with specs:=AC [(113,dR),(115,Qy)],mks:=DF [(114,JY)],ren:=fun k=>k-1000 }
theorem Adz (l:(L.Sq L.Pt)) (p:AO) (b:Int) (hp:fD l p b):vc Tryz.prog (Ady) (Ai Tryz.f68) (Au Tryz.f68 [.p (.sl 2 l.n (fun i=>[.int .i64 ((l.g i).x),.int .i64 ((l.g i).y)])),.p (.agg [.int .i64 p.fr,.int .i64 p.to_,.int .i64 p.area]),.p (.int .i64 b)]) (AH Tryz.prog Tryz.f68 (fE l p b)):=
  @Eq.mpr _ (let I:=SV.int .i64;let A6:=(Et l p b);let A4:=(↑l.n:Int);let A3:=(L.Sq.mk l.n fun(i:Nat)=>l.g i);let A2:=(BA A6);((∀(i:Nat),let A5:=[I (l.g i).x,I (l.g i).y];i<l.n->A5=A5)/\AB A3=true/\EP A4 p)/\((!Il A3 p)=true->A2.n=(0:Nat)/\false=Cq A6)/\((!Il A3 p)=false->(A4<=(1000:Int)
 /\ EP A4 p)/\∃(t:L.Sq L.Pt×L.Sq Int×Int),let A7:=(Hf t.1 t.2.1 t.2.2);let A1:=(BA A7);(l.n=t.1.n/\∀(i:Nat),i<l.n -> [I (l.g i).x,I (l.g i).y]= [I (t.1.g i).x,I (t.1.g i).y])/\(Cp A4 p+(1:Nat)=t.2.1.n/\∀(i:Nat),i<Cp A4 p+(1:Nat) -> [I (Ct A4 p i)]= [I (t.2.1.g i)])/\b=t.2.2/\(GF t.1 t.2.1 t.2.2/\(2:Nat)<=t.2.1.n)/\∀(u
:Nat),True->(A1.n=A2.n/\∀(i:Nat),i<A1.n -> [I (A1.g i).a,I (A1.g i).b,I (A1.g i).c]= [I (A2.g i).a,I (A2.g i).b,I (A2.g i).c])/\Cq A7=Cq A6)) (by kernel_rfl) (by
 conv=>zeta
 obtain⟨hv,hk,h0,h1⟩:=(show AB l=true/\EP l.n p/\0<=b/\b<=4096 from hp);obtain⟨ok,h2⟩:=Ado hv hk h0 h1;obtain⟨n3,n24,_,_⟩:=Fr hv;refine⟨⟨fun _ _=>rfl,hv,hk⟩,fun h=>?_,fun h=>⟨⟨by omega,hk⟩,(l,Lw l p,b),⟨rfl,fun _ _=>rfl⟩,⟨rfl,fun _ _=>rfl⟩,rfl,⟨ok,h2⟩,fun _ _=>?_⟩⟩
 ·have h:(!Il l p)=true:=h;have e:Et l p b=none:=by unfold Et;rw[h];rfl
  rw[e];exact⟨rfl,rfl⟩
 ·have h:(!Il l p)=false:=h;have e:Et l p b=Hf l (Lw l p) b:=by unfold Et;rw[h];rfl
  rw[e];exact⟨⟨rfl,fun _ _=>rfl⟩,rfl⟩)
theorem Ad0:Ax Tryz.prog 68 fG:=AK Tryz.func68 (c:=Ai Tryz.f68) (by kernel_rfl) mixed (fun args p r hs hp=>by
 unfold fF at hs;split at hs
 ·cases hs;exact⟨_,_,Adz _ _ _ hp.2,(.p (.sl hp.1) (.same _ (.same _ .nil))),⟨show Aa Tryz.prog _ from(Aa.cons AcW AcX (Aa.cons dJ dK Aa.nil)),rfl,⟨show Af Tryz.prog _ from Af.nil,⟨AA.no1 (fun _=>rfl),⟨show Bj Tryz.prog _ from(Bj.cons Adl Adk Bj.nil),FamsOk.none (fun _=>rfl)⟩⟩⟩⟩⟩
 ·cases hs)
theorem Ad1:As Tryz.prog 68:=fun args w=>by kernel_rfl
def fH (l:(L.Sq L.Pt)) (p:AO) (b:Int):Prop:=l.n<=1000000/\(AB l=true->Nt l)
def fI (l:(L.Sq L.Pt)) (p:AO) (b:Int):SV:=.tup [.sl 3 (GG l p b).n (fun i=>[.int .i64 (((GG l p b).g i).a),.int .i64 (((GG l p b).g i).b),.int .i64 (((GG l p b).g i).c)]),.int .i64 (H7 l p b)]
def fJ:List EV->Option (Prop×SV)
 |[.p (.sl 2 l_n l_g),.p (.agg [.int .i64 p_fr,.int .i64 p_to_,.int .i64 p_area]),.p (.int .i64 b)]=>some ((∀i,i<l_n->l_g i = [.int .i64 ((Ar (l_g i)).x),.int .i64 ((Ar (l_g i)).y)])/\fH (⟨l_n,fun i=>Ar (l_g i)⟩:(L.Sq L.Pt)) (⟨p_fr,p_to_,p_area⟩:AO) b,fI (⟨l_n,fun i=>Ar (l_g i)⟩:(L.Sq L.Pt)) (⟨p_fr,p_to_,p_area⟩:AO) b)
 |_=>none
abbrev fK:SE.Spec:=(AI fJ)
def Ad2:Al:={ cC with specs:=AC [(66,V7),(33,JI),(67,fC),(68,fG)] }
theorem Ad3 (l:(L.Sq L.Pt)) (p:AO) (b:Int) (hp:fH l p b):vc Tryz.prog (Ad2) (Ai Tryz.f27) (Au Tryz.f27 [.p (.sl 2 l.n (fun i=>[.int .i64 ((l.g i).x),.int .i64 ((l.g i).y)])),.p (.agg [.int .i64 p.fr,.int .i64 p.to_,.int .i64 p.area]),.p (.int .i64 b)]) (AH Tryz.prog Tryz.f27 (fI l p b)):=
 @Eq.mpr _ (let I:=SV.int .i64;let A11:=(4096:Int);let A7:=(0:Int);let A6:=(GG l p b);let A5:=(∀(i:Nat),let A9:=[I (l.g i).x,I (l.g i).y];i<l.n->A9=A9);let A1:=(L.Sq.mk l.n fun(i:Nat)=>l.g i);let A10:=(Et A1 p b);let A4:=(bif AB A1 then A7 else(1:Int));(A5/\l.n<=(1000000:Nat))/\∀(t:Nat->AO),let A2:=(bif bif !decide (A4=A7)then true else !Ay b A7 A11 then true else !Cb (Fa A1) fun(i:Nat)=>EF p (t i));(AB A1=true->Dj Gh (EJ A1).n (EJ A1).g t)->((!!decide (A4=A7))=true->True)/\((!bif !decide (A4=A7)then true else !Ay b A7 A11)=true->(∀(i:Nat),let A8:=[I (t i).fr,I (t i).to_,I (t i).area];i<Fa (L.Sq.mk l.n fun(i:Nat)=>l.g i)->A8=A8)/\Fa A1<=(1000000:Nat))/\(A2=true->A6.n=(0:Nat)/\(1:Int)=H7 l p b)/\(A2=false->(A5/\AB A1=true/\EP (↑l.n:Int) p/\A7<=b/\b<=A11)/\((!Cq A10)=true->A6.n=(0:Nat)/\(51:Int)=H7 l p b)/\((!Cq A10)=false->((BA A10).n=A6.n/\∀(i:Nat),let A3:=(BA (Et (L.Sq.mk l.n fun(i:Nat)=>l.g i) p b));i<A3.n -> [I (A3.g i).a,I (A3.g i).b,I (A3.g i).c]= [I (A6.g i).a,I (A6.g i).b,I (A6.g i).c])/\A7=H7 l p b))) (by kernel_rfl) (by
 conv=>zeta
 obtain⟨hn,hok⟩:=(show l.n<=1000000/\(AB l=true->Nt l)from hp);refine⟨⟨fun _ _=>rfl,hn⟩,fun t ht=>?_⟩;have eN:∀hv:AB l=true,Fa l=(EJ l).n:=fun hv=>by unfold Fa;rw[hv];rfl
 have eZ:AB l=false->Fa l=0:=fun hv=>by unfold Fa;rw[hv];rfl
 have eH:(Cb (Fa l) fun i=>EF p (t i))=JZ l p:=by
  unfold JZ;cases hv:AB l with
  |true=>rw[eN hv];exact Adn (q:=fun x=>EF p x) (ht hv).perm
  |false=>rw[eZ hv];rfl
 have hl:Fa l<=1000000:=by
  cases hv:AB l with
  |true=>rw[eN hv];have:=Adp hv;omega
  |false=>rw[eZ hv];exact AdL _
 rw[eH];refine⟨fun _=>trivial,fun h=>⟨fun _ _=>rfl,hl⟩,fun h=>?_,fun h=>?_⟩
 ·have e:H7 l p b=1:=by unfold H7;rw[h];rfl
  have e2:GG l p b=BA none:=by unfold GG;rw[e];rfl
  rw[e,e2];exact⟨rfl,rfl⟩
 ·have hv : AB l = true :=by
   cases hv:AB l with
   |true=>rfl
   |false=>rw[hv]at h;cases h
  have hw:Ay b 0 4096=true:=by
   cases hw:Ay b 0 4096 with
   |true=>rfl
   |false=>rw[hv,hw]at h;cases h
  have hh:JZ l p=true:=by
   cases hh:JZ l p with
   |true=>rfl
   |false=>rw[hv,hw,hh]at h;cases h
  have hb:0<=b/\b<=4096:=by
   unfold Ay at hw;rw[oE,decide_eq_true_eq,decide_eq_true_eq]at hw;exact⟨by omega,by omega⟩
  have hk:EP l.n p:=by
   have hh:=hh;unfold JZ at hh;rw[EY,eN hv]at hh;obtain⟨i,hi,h⟩:=hh;rw[Adm h];exact hok hv i hi
  have e0:H7 l p b=bif !Cq (Et l p b)then 51 else 0:=by unfold H7;rw[h];rfl
  refine⟨⟨fun _ _=>rfl,hv,hk,hb⟩,fun h2=>?_,fun h2=>?_⟩
  ·have h2:(!Cq (Et l p b))=true:=h2;rw[h2]at e0;have e2:GG l p b=BA none:=by unfold GG;rw[e0];rfl
   rw[e0,e2];exact⟨rfl,rfl⟩
  ·have h2:(!Cq (Et l p b))=false:=h2;rw[h2]at e0;have e2:GG l p b=BA (Et l p b):=by unfold GG;rw[e0];rfl
   rw[e0,e2];exact⟨⟨rfl,fun _ _=>rfl⟩,rfl⟩)
theorem Ad4:Ax Tryz.prog 27 fK:=AK Tryz.func27 (c:=Ai Tryz.f27) (by kernel_rfl) mixed (fun args p r hs hp=>by
 unfold fJ at hs;split at hs
 ·cases hs;exact⟨_,_,Ad3 _ _ _ hp.2,(.p (.sl hp.1) (.same _ (.same _ .nil))),⟨show Aa Tryz.prog _ from(Aa.cons sG sH (Aa.cons Li Lj (Aa.cons Adw Adx (Aa.cons Ad0 Ad1 Aa.nil)))),rfl,⟨show Af Tryz.prog _ from Af.nil,(AA.none (fun _=>rfl))⟩⟩⟩
 ·cases hs)
theorem Ad5:As Tryz.prog 27:=fun args w=>by kernel_rfl
end
section
set_option maxHeartbeats 4000000
def fL :Prop:=True
def fM :SV:=.bool true
def fN:List EV->Option (Prop×SV)
 |[]=>some (fL , fM )
 |_=>none
abbrev fO:SE.Spec:=(AI fN)
def Ad6:Al:={ cC with specs:=AC [(30,Y8),(31,YC),(8,Yz),(13,cY),(17,Qg),(27,fK)] }
theorem Ad7  (hp:fL):vc Tryz.prog (Ad6) (Ai Tryz.f6) (Au Tryz.f6 []) (AH Tryz.prog Tryz.f6 (fM )):=
 @Eq.mpr _ (let I:=SV.int .i64;let A10:=(1:Int);let A9:=(nat_lit 4);let A7:=(L.Sq.mk (nat_lit 5) fun(i:Nat)=>Cz.ol.g i);let A6:=(nat_lit 2);let A5:=(0:Int);let A4:=[I (9:Int),I A10,I (10:Int),I (6:Int),I A5];let A3:=(∀(i:Nat),i<nat_lit 2->Dn (Ce [I Cz.id,I Cz.colour,I Cz.grain,SV.sl A6 (nat_lit 5) fun(i:Nat)=>[I (Cz.ol.g i).x,I (Cz.ol.g i).y],I CY.id,I CY.colour,I CY.grain,SV.sl A6 A9 fun(i:Nat)=>[I (CY.ol.g i).x,I (CY.ol.g i).y]] A9 i));let A2:=(L.Sq.mk A6 fun(i:Nat)=>Bx (Ce [I Cz.id,I Cz.colour,I Cz.grain,SV.sl A6 (nat_lit 5) fun(i:Nat)=>[I (Cz.ol.g i).x,I (Cz.ol.g i).y],I CY.id,I CY.colour,I CY.grain,SV.sl A6 A9 fun(i:Nat)=>[I (CY.ol.g i).x,I (CY.ol.g i).y]] A9 i));let A1:=(A3/\CI A2);True/\True/\A1/\A1/\(A3/\(∀(i:Nat),i<nat_lit 1->A4=A4)/\CI A2/\FJ (L.Sq.mk (nat_lit 1) fun(i:Nat)=>Ah.mk (9:Int) A10 (10:Int) (6:Int) A5))/\(A5<=A5/\A5<(↑A6:Int))/\((∀(i:Nat),let A8:=[I (Cz.ol.g i).x,I (Cz.ol.g i).y];i<nat_lit 5->A8=A8)/\nat_lit 5<=(1000000:Nat)/\(AB A7=true->Nt A7))/\(true=true->A5<=A10/\A10<(↑A9:Int))/\(false=true->false=true)/\(false=false->(A5<=A10/\A10<(↑A6:Int))/\(true=true->A5<=A5/\A5<(↑(nat_lit 1):Int))/\true=true)) (by kernel_rfl) (by
 conv=>zeta
 have ok:∀(g:Nat->List SV),g 0 = [.int .i64 Cz.id,.int .i64 Cz.colour,.int .i64 Cz.grain,.sl 2 5 fun(i:Nat)=>[.int .i64 (Cz.ol.g i).x,.int .i64 (Cz.ol.g i).y]]->g 1 = [.int .i64 CY.id,.int .i64 CY.colour,.int .i64 CY.grain,.sl 2 4 fun(i:Nat)=>[.int .i64 (CY.ol.g i).x,.int .i64 (CY.ol.g i).y]]->(∀i,i<2->Dn (g i))/\CI ⟨2,fun i=>Bx (g i)⟩:=fun g h0 h1=>by
  have two:∀i:Nat,i<2->i=0\/i=1:=fun i hi=>by omega
  refine⟨fun i hi=>?_,.inl (show 2<=4 by decide),show 2<=1000000 by decide,fun i hi=>?_⟩
  ·rcases two i hi with rfl|rfl
   ·rw[h0];exact fun _ _=>rfl
   ·rw[h1];exact fun _ _=>rfl
  ·rcases two i hi with rfl|rfl
   ·show(Bx (g 0)).ol.n<=1000000;rw[h0];show 5<=1000000;decide
   ·show(Bx (g 1)).ol.n<=1000000;rw[h1];show 4<=1000000;decide
 have e1:(EJ Cz.ol).n=1:=by kernel_rfl
 have e2:(EJ Cz.ol).g 0=⟨2,4,8⟩:=by kernel_rfl
 have pk:Nt Cz.ol:=fun i hi=>by
  rw[e1]at hi;obtain rfl:i=0:=by omega
  rw[e2];show(((0:Int)<=2/\(2:Int)<5)/\((0:Int)<=4/\(4:Int)<5)/\(2:Int)≠4);decide
 refine⟨trivial,trivial,ok _ rfl rfl,ok _ rfl rfl,⟨(ok _ rfl rfl).1,fun _ _=>rfl,(ok _ rfl rfl).2,.inl (show 1<=4 by decide),show 1<=1000000 by decide⟩,by decide,⟨fun _ _=>rfl,by decide,fun _=>pk⟩,fun _=>(by decide),fun h=>(by cases h),fun _=>⟨by decide,fun _=>(by decide),rfl⟩⟩)
theorem Ad8:Ax Tryz.prog 6 fO:=AK Tryz.func6 (c:=Ai Tryz.f6) (by kernel_rfl) mixed (fun args p r hs hp=>by
 unfold fN at hs;split at hs
 ·cases hs;exact⟨_,_,Ad7  hp,.nil,⟨show Aa Tryz.prog _ from(Aa.cons zB zC (Aa.cons zG zH (Aa.cons yT yU (Aa.cons AcA AcB (Aa.cons ZV ZW (Aa.cons Ad4 Ad5 Aa.nil)))))),rfl,⟨show Af Tryz.prog _ from Af.nil,(AA.none (fun _=>rfl))⟩⟩⟩
 ·cases hs)
theorem Ad9:As Tryz.prog 6:=fun args w=>by kernel_rfl
end
section
set_option maxHeartbeats 4000000
def Ag.enP (m:Nat):Nat->List Nat->List (List Nat)
 |0,A=>[A]
 |f+1,A=>(AdP m).flatMap fun k=>Ag.enP m f (A ++ [k])
def Ag.gp (k:Nat):Nat->List Nat->Int
 |_,[]=>0
 |j,a::l=>(if a=k then 2 ^ j else 0)+Ag.gp k (j+1) l
def Ag.gsO (m:Nat) (A:List Nat):List Int:=(AdP m).map fun k=>Ag.gp k 0 A
def Ag.toA (n:Nat) (gs:List Int):List Nat:=(AdP n).map fun i=>((AdP gs.length).find? fun k=>CA (gs.getD k 0) i).getD 0
def Ag.enR (N:Nat):Nat->Int->List Int->List (List Int)
 |0,left,gs=>if left=0 then [gs]else []
 |f+1,left,gs=>(AdP N).flatMap fun(b:Nat)=>if BT (b:Int) left=(b:Int)then Ag.enR N f (left-b) (gs ++ [(b:Int)])else []
def Ag.lexB:List Nat->List Nat->Bool
 |a::l,b::m=>if a=b then Ag.lexB l m else decide (a<b)
 |_,_=>false
def Ag.path:Int->List Int->Bool
 |left,[]=>decide (left=0)
 |left,b::l=>decide (0<=b)&&decide (BT b left=b)&&Ag.path (left-b) l
def Ag.srt:List (List Nat)->Bool
 |[]=>true
 |a::l=>l.all (Ag.lexB a)&&Ag.srt l
def Ag.chk1 (n m:Nat) (A:List Nat):Bool:=(AdP m).all (fun k=>(AdP n).all fun i=>CA (Ag.gp k 0 A) i == decide (A.getD i 0=k))&&Ag.path (Bi 1 n-1) (Ag.gsO m A)&&decide (Ag.toA n (Ag.gsO m A)=A)&&(Ag.gsO m A).all (fun b=>decide (b<Bi 1 n))
def Ag.chk2 (n m:Nat) (gs:List Int):Bool:=(Ag.toA n gs).all (fun a=>decide (a<m))&&decide (Ag.gsO m (Ag.toA n gs)=gs)
def Ag.chk (n m:Nat):Bool:=(Ag.enP m n []).all (Ag.chk1 n m)&&(Ag.enR (Bi 1 n).toNat m (Bi 1 n-1) []).all (Ag.chk2 n m)&&Ag.srt (Ag.enP m n [])
theorem Ag.chk_all:((AdP 5).all fun n=>(AdP 5).all (Ag.chk n))=true:=by kernel_rfl
theorem Ag.mem_enP {m:Nat}:∀{f:Nat} {A B:List Nat},B∈Ag.enP m f A↔∃C,B=A++C/\C.length=f/\∀x,x∈C->x<m
 |0,A,B=>by
   rw[Ag.enP,AdY];exact⟨fun h=>⟨[],by simp[h],rfl,fun x hx=>by cases hx⟩,fun⟨C,h,hl,_⟩=>by rw[List.length_eq_zero_iff.1 hl,AeA]at h;exact h⟩
 |f+1,A,B=>by
   rw[Ag.enP,Aex];constructor
   ·rintro⟨k,hk,h⟩;obtain⟨C,h1,h2,h3⟩:=Ag.mem_enP.1 h;refine⟨k::C,by rw[h1];simp,by simp[h2],fun x hx=>?_⟩;rcases AdR.1 hx with rfl|hx
    ·exact AdQ.1 hk
    ·exact h3 x hx
   ·rintro⟨C,h1,h2,h3⟩
    match C,h2 with
    |k::C,h2 =>
      exact⟨k,AdQ.2 (h3 k (AdM ..)),Ag.mem_enP.2 ⟨C,by rw[h1];simp,by simpa using h2,fun x hx=>h3 x (AdJ _ hx)⟩⟩
theorem Ag.gp_app (k:Nat):∀(A C:List Nat) (j:Nat),Ag.gp k j (A++C)=Ag.gp k j A+Ag.gp k (j+A.length) C
 |[],C,j=>by rw[Afl,Ag.gp,List.length_nil,Int.zero_add];rfl
 |a::A,C,j=>by
   rw[List.cons_append,Ag.gp,Ag.gp,Ag.gp_app k A C (j+1),Ae3,show j+1+A.length=j+(A.length+1)by omega];omega
theorem Ag.gp_bd (k:Nat):∀(A:List Nat) (j:Nat),0<=Ag.gp k j A/\Ag.gp k j A+2 ^ j<=2 ^ (j+A.length)
 |[],j=>by rw[Ag.gp];simp
 |a::A,j=>by
   obtain⟨h1,h2⟩:=Ag.gp_bd k A (j+1);have p:(0:Int)<2 ^ j:=Int.pow_pos (by decide);have e:(2:Int) ^ (j+1)=2 ^ j+2 ^ j:=by rw[Int.pow_succ];omega
   rw[Ag.gp,Ae3,show j+(A.length+1)=j+1+A.length by omega];split<;>omega
theorem Ag.gp_one (k b j:Nat):Ag.gp k j [b]=if b=k then 2 ^ j else 0:=by rw[Ag.gp,Ag.gp,Afk]
def Ag.sumTo (f:Nat->Int):Nat->Int
 |0=>0
 |k+1=>Ag.sumTo f k+f k
theorem Ag.sum_congr {f g:Nat->Int}:∀{n:Nat},(∀k,k<n->f k=g k)->Ag.sumTo f n=Ag.sumTo g n
 |0,_=>rfl
 |n+1,h=>by rw[Ag.sumTo,Ag.sumTo,Ag.sum_congr (fun k hk=>h k (by omega)),h n (by omega)]
theorem Ag.sum_le {f g:Nat->Int}:∀{n:Nat},(∀k,k<n->f k<=g k)->Ag.sumTo f n<=Ag.sumTo g n
 |0,_=>Ael _
 |n+1,h=>by
   rw[Ag.sumTo,Ag.sumTo];have:=Ag.sum_le (fun k hk=>h k (Nat.lt_succ_of_lt hk));have:=h n (by omega);omega
theorem Ag.sum_at {f g:Nat->Int} {k:Nat} (h:∀j,j≠k->g j=f j):∀{n:Nat},k<n->Ag.sumTo g n=Ag.sumTo f n+(g k-f k)
 |0,hk=>absurd hk (nT _)
 |n+1,hk=>by
   rw[Ag.sumTo,Ag.sumTo]
   by_cases e:k=n
   ·subst e;rw[Ag.sum_congr (fun j hj=>h j (by omega))];omega
   ·rw[Ag.sum_at h (show k<n by omega),h n (fun e2=>e e2.symm)];omega
def Ag.cst (s:L.Sq Ah) (k:Nat) (b:Int):Int:=if b=0 then 0 else Fz s k
def Ag.arA (s:L.Sq Ah) (A:List Nat):Int:=Ag.sumTo (fun k=>Ag.cst s k (Ag.gp k 0 A)) s.n
def Ag.arS (s:L.Sq Ah) (gs:List Int):Int:=Ag.sumTo (fun k=>Ag.cst s k (gs.getD k 0)) gs.length
theorem Ag.gsO_at {m:Nat} {A:List Nat} {k:Nat} (h:k<m):(Ag.gsO m A).getD k 0=Ag.gp k 0 A:=by
 unfold Ag.gsO;rw[AS,AdH (by simpa using h)];simp
theorem Ag.arS_gsO (s:L.Sq Ah) (A:List Nat):Ag.arS s (Ag.gsO s.n A)=Ag.arA s A:=by
 unfold Ag.arS Ag.arA;rw[show(Ag.gsO s.n A).length=s.n by simp[Ag.gsO]];exact Ag.sum_congr fun k hk=>by rw[Ag.gsO_at hk]
theorem Ag.arA_mono {s:L.Sq Ah} (hs:∀k,k<s.n->0<=Fz s k) (A C:List Nat):Ag.arA s A<=Ag.arA s (A++C):=Ag.sum_le fun k hk=>by
 have h1:=(Ag.gp_bd k A 0).1;have h2:=(Ag.gp_bd k C (0+A.length)).1;have h3:=hs k hk;rw[Ag.gp_app];unfold Ag.cst
 by_cases e:Ag.gp k 0 A=0
 ·rw[if_pos e];split<;>omega
 ·rw[if_neg e,if_neg (by omega)];exact Ael _
theorem Ag.arS_app (s:L.Sq Ah) (gs:List Int) (b:Int):Ag.arS s (gs ++ [b])=Ag.arS s gs+Ag.cst s gs.length b:=by
 unfold Ag.arS;rw[Aei,AeB,Ag.sumTo];rw[Ag.sum_congr (g:=fun k=>Ag.cst s k (gs.getD k 0)) (fun k hk=>by rw[Ig,if_pos hk])];rw[Ig,if_neg (Nat.lt_irrefl _),Afc];rfl
theorem Ag.arS_mono {s:L.Sq Ah} (hs:∀k,k<s.n->0<=Fz s k):∀(t gs:List Int),gs.length+t.length<=s.n->Ag.arS s gs<=Ag.arS s (gs++t)
 |[],gs,_=>by rw[AeA];exact Ael _
 |b::t,gs,h=>by
   rw[Ae3]at h;have h1:=Ag.arS_mono hs t (gs ++ [b]) (by rw[Aei,AeB];omega);rw[AeG,List.singleton_append]at h1;rw[Ag.arS_app]at h1;have h2:=hs gs.length (by omega);unfold Ag.cst at h1;split at h1<;>omega
theorem Ag.fold_id {α β:Type} {f:β->α->β} {st:β}:∀{l:List α},(∀x,x∈l->f st x=st)->l.foldl f st=st
 |[],_=>rfl
 |x::l,h=>by rw[Aew,h x (AdM ..)];exact Ag.fold_id fun y hy=>h y (AdJ _ hy)
theorem Ag.fold_congr {α β:Type} {f g:β->α->β}:∀{l:List α} {st:β},(∀st x,x∈l->f st x=g st x)->l.foldl f st=l.foldl g st
 |[],_,_=>rfl
 |x::l,st,h=>by rw[Aew,Aew,h st x (AdM ..)];exact Ag.fold_congr fun st y hy=>h st y (AdJ _ hy)
def Ag.ints (A:List Nat):List Int:=A.map fun(k:Nat)=>(k:Int)
def Ag.upd (s:L.Sq Ah) (st:BI) (B:List Nat):BI:=if (st.fd&&decide (st.ls<=Ag.arA s B))=true then st else⟨true,Ag.arA s B,Ag.ints B⟩
def Ag.stp (w:L.Sq Ab) (s:L.Sq Ah) (B:List Nat) (j:Nat):Bool:=decide ((s.g (B.getD j 0)).colour=(w.g j).colour)&&CH w (s.g (B.getD j 0)).grain (Ag.gp (B.getD j 0) 0 (B.take (j+1))) ⟨(s.g (B.getD j 0)).w,(s.g (B.getD j 0)).h⟩
def Ag.okF (w:L.Sq Ab) (s:L.Sq Ah) (i:Nat) (B:List Nat):Bool:=(AdP w.n).all fun j=>decide (j<i)||Ag.stp w s B j
theorem Ag.okF_iff {w:L.Sq Ab} {s:L.Sq Ah} {i:Nat} {B:List Nat}:Ag.okF w s i B=true↔∀j,i<=j->j<w.n->Ag.stp w s B j=true:=by
 unfold Ag.okF;simp only[AdO,AdQ,Aen,decide_eq_true_eq];exact⟨fun h j h1 h2=>(h j h2).resolve_left (by omega),fun h j h2=>(Ae5 j i).imp id fun h1=>h j h1 h2⟩
theorem Ag.okF_go {w:L.Sq Ab} {s:L.Sq Ah} {i:Nat} {B:List Nat} (hi:i<w.n):Ag.okF w s i B=(Ag.stp w s B i&&Ag.okF w s (i+1) B):=by
 rw[Bool.eq_iff_iff,oE,Ag.okF_iff,Ag.okF_iff];exact⟨fun h=>⟨h i (AdS _) hi,fun j h1 h2=>h j (by omega) h2⟩,fun h j h1 h2=>by
  by_cases e:j=i
  ·rw[e];exact h.1
  ·exact h.2 j (by omega) h2⟩
theorem Ag.asP_fold {w:L.Sq Ab} {s:L.Sq Ah} (hn:w.n<=4) (hs:∀k,k<s.n->0<=Fz s k):∀(f:Nat) (A:List Nat) (G:Nat->Int) (sum:Int) (st:BI),A.length+f=w.n->(∀k,k<s.n->G k=Ag.gp k 0 A)->sum=Ag.arA s A ->
  DN w s (f+1) A.length (Ag.ints A) sum G st=((Ag.enP s.n f A).filter (Ag.okF w s A.length)).foldl (Ag.upd s) st:=fun f=>by
 induction f with
 |zero =>
   intro A G sum st hl hG hsum;subst hsum;have ho:Ag.okF w s A.length A=true:=Ag.okF_iff.2 fun j h1 h2=>by omega
   rw[DN,Ag.enP,List.filter_cons_of_pos ho,List.filter_nil,Aew,List.foldl_nil];unfold Ag.upd
   by_cases hc:(st.fd&&decide (st.ls<=Ag.arA s A))=true
   ·rw[if_pos hc,if_pos hc]
   ·rw[if_neg hc,if_neg hc,if_pos (by omega)]
 |succ f ih =>
   intro A G sum st hl hG hsum;subst hsum;rw[DN]
   by_cases hc:(st.fd&&decide (st.ls<=Ag.arA s A))=true
   ·rw[if_pos hc];refine(Ag.fold_id fun B hB=>?_).symm;obtain⟨C,e,_,_⟩:=Ag.mem_enP.1 (AdK.1 hB).1;unfold Ag.upd;rw[oE,decide_eq_true_eq]at hc;have:=Ag.arA_mono hs A C;rw[<- e]at this;rw[if_pos (by rw[oE,decide_eq_true_eq];exact⟨hc.1,Int.le_trans hc.2 this⟩)]
   ·rw[if_neg hc,if_neg (by omega),Ag.enP,List.filter_flatMap,List.foldl_flatMap];have hi:A.length<w.n:=by omega
    have hi4:A.length<4:=by omega
    refine Ag.fold_congr fun st k hk=>?_;have hk:=AdQ.1 hk;have hb:0<=G k/\G k<2 ^ A.length:=by
     have:=Ag.gp_bd k A 0;rw[hG k hk];simp only[Aek]at this;omega
    have hw:=(Nj hi4 hb.1 hb.2).1;have hg:∀j,j<s.n->Dv G k A.length j=Ag.gp j 0 (A ++ [k]):=fun j hj=>by
     rw[Ag.gp_app,Ag.gp_one,Aek];unfold Dv
     by_cases e:j=k
     ·rw[if_pos e,if_pos e.symm,hw,hG k hk,e]
     ·rw[if_neg e,if_neg (fun h=>e h.symm),hG j hj,Afk]
    have hsum:Ag.arA s A+CU s G k=Ag.arA s (A ++ [k]):=by
     unfold Ag.arA;rw[Ag.sum_at (f:=fun k=>Ag.cst s k (Ag.gp k 0 A)) (g:=fun j=>Ag.cst s j (Ag.gp j 0 (A ++ [k]))) (k:=k) (fun j hj=>by
      show Ag.cst s j _=Ag.cst s j _;rw[Ag.gp_app,Ag.gp_one,if_neg (fun h=>hj h.symm),Afk]) hk]
     congr 1;show CU s G k=Ag.cst s k (Ag.gp k 0 (A ++ [k]))-Ag.cst s k (Ag.gp k 0 A);rw[Ag.gp_app,Ag.gp_one,if_pos rfl,<- hG k hk,Aek];have p:(0:Int)<2 ^ A.length:=Int.pow_pos (by decide);unfold CU Ag.cst
     by_cases e:G k=0
     ·rw[decide_eq_true e,if_pos e,if_neg (by omega)];show Fz s k=_;omega
     ·rw[decide_eq_false e,if_neg e,if_neg (by omega)];show(0:Int)=_;omega
    have hints:Br (Ag.ints A) k=Ag.ints (A ++ [k]):=by unfold Br Ag.ints;simp
    have hlen:(A ++ [k]).length=A.length+1:=by simp
    have hstp:∀B,B∈Ag.enP s.n f (A ++ [k])->Ag.stp w s B A.length = !FI w s G A.length k:=fun B hB=>by
     obtain⟨C,e,_,_⟩:=Ag.mem_enP.1 hB;have e1:B.getD A.length 0=k:=by rw[e,AeG,Ig,if_neg (Nat.lt_irrefl _),Afc];rfl
     have e2:B.take (A.length+1)=A ++ [k]:=by rw[e,<- hlen,List.take_left'];rfl
     unfold Ag.stp FI;rw[e1,e2,<- hg k hk];have e3:Dv G k A.length k=H3 (G k) A.length:=by unfold Dv;rw[if_pos rfl]
     rw[e3];cases decide ((s.g k).colour=(w.g A.length).colour)<;>cases CH w (s.g k).grain (H3 (G k) A.length) ⟨(s.g k).w,(s.g k).h⟩<;>rfl
    cases hno:FI w s G A.length k with
    |true =>
      rw[cond_true];have:(Ag.enP s.n f (A ++ [k])).filter (Ag.okF w s A.length)= []:=List.filter_eq_nil_iff.2 fun B hB=>by
       rw[Ag.okF_go hi,hstp B hB,hno];simp
      rw[this];rfl
    |false =>
      rw[cond_false,hints,hsum];have:=ih (A ++ [k]) (Dv G k A.length) _ st (by rw[hlen];omega) hg rfl;rw[hlen]at this;rw[this];congr 1;exact List.filter_congr fun B hB=>by rw[Ag.okF_go hi,hstp B hB,hno];rfl
def Ag.okA (w:L.Sq Ab) (s:L.Sq Ah) (i:Nat) (gs:List Int):Bool:=(AdP gs.length).all fun k=>decide (k<i)||BB w s k (gs.getD k 0)
theorem Ag.okA_iff {w:L.Sq Ab} {s:L.Sq Ah} {i:Nat} {gs:List Int}:Ag.okA w s i gs=true↔∀k,i<=k->k<gs.length->BB w s k (gs.getD k 0)=true:=by
 unfold Ag.okA;simp only[AdO,AdQ,Aen,decide_eq_true_eq];exact⟨fun h j h1 h2=>(h j h2).resolve_left (by omega),fun h j h2=>(Ae5 j i).imp id fun h1=>h j h1 h2⟩
theorem Ag.okA_go {w:L.Sq Ab} {s:L.Sq Ah} {i:Nat} {gs:List Int} (hi:i<gs.length):Ag.okA w s i gs=(BB w s i (gs.getD i 0)&&Ag.okA w s (i+1) gs):=by
 rw[Bool.eq_iff_iff,oE,Ag.okA_iff,Ag.okA_iff];exact⟨fun h=>⟨h i (AdS _) hi,fun j h1 h2=>h j (by omega) h2⟩,fun h j h1 h2=>by
  by_cases e:j=i
  ·rw[e];exact h.1
  ·exact h.2 j (by omega) h2⟩
theorem Ag.mem_enR {N:Nat}:∀{f:Nat} {left:Int} {gs hs:List Int},hs∈Ag.enR N f left gs->∃t,hs=gs++t/\t.length=f
 |0,left,gs,hs,h=>by
   rw[Ag.enR]at h;split at h
   ·rw[AdY]at h;exact⟨[],by simp[h],rfl⟩
   ·cases h
 |f+1,left,gs,hs,h=>by
   rw[Ag.enR,Aex]at h;obtain⟨b,_,h⟩:=h;split at h
   ·obtain⟨t,h1,h2⟩:=Ag.mem_enR h;exact⟨b::t,by rw[h1];simp,by simp[h2]⟩
   ·cases h
theorem Ag.path_mem {N:Nat}:∀{t:List Int} {left:Int} {gs:List Int},Ag.path left t=true->(∀b,b∈t->b<N)->gs++t∈Ag.enR N t.length left gs
 |[],left,gs,h,_=>by
   rw[List.length_nil,Ag.enR,if_pos (of_decide_eq_true h),AeA];exact List.mem_singleton_self _
 |b::t,left,gs,h,hb=>by
   rw[Ag.path,oE,oE,decide_eq_true_eq,decide_eq_true_eq]at h;obtain⟨⟨h0,h1⟩,h2⟩:=h;have hN:=hb b (AdM ..);obtain⟨c,rfl⟩:=Aev h0;rw[Ae3,Ag.enR,Aex];refine⟨c,AdQ.2 (by omega),?_⟩;rw[if_pos h1];have:=Ag.path_mem (gs:=gs ++ [(c:Int)]) h2 (fun b hbb=>hb b (AdJ _ hbb));simpa using this
def Ag.updR (w:L.Sq Ab) (s:L.Sq Ah) (kn:CZ) (hs:List Int):CZ:=bif Gm w s (Ag.arS s hs) hs kn then⟨true,Ag.arS s hs,hs⟩else kn
theorem Ag.bet_no {w:L.Sq Ab} {s:L.Sq Ah} {ar:Int} {gs:List Int} {kn:CZ} (h:kn.fd=true) (h2:kn.ar<ar):Gm w s ar gs kn=false:=by
 unfold Gm;rw[h,decide_eq_false (show ¬ ar<kn.ar by omega),decide_eq_false (show ¬ ar=kn.ar by omega)];rfl
theorem Ag.raP_fold {w:L.Sq Ab} {s:L.Sq Ah} (hs:∀k,k<s.n->0<=Fz s k):∀(f:Nat) (left:Int) (gs:List Int) (ar:Int) (kn:CZ),gs.length+f=s.n->ar=Ag.arS s gs ->
  Fg w s f left gs ar kn=((Ag.enR (AG w) f left gs).filter (Ag.okA w s gs.length)).foldl (Ag.updR w s) kn:=fun f=>by
 induction f with
 |zero =>
   intro left gs ar kn hl har;subst har;rw[Fg,Ag.enR]
   by_cases e:left=0
   ·have ho:Ag.okA w s gs.length gs=true:=Ag.okA_iff.2 fun j h1 h2=>by omega
    rw[if_pos e,decide_eq_true e,List.filter_cons_of_pos ho];rfl
   ·rw[if_neg e,decide_eq_false e];rfl
 |succ f ih =>
   intro left gs ar kn hl har;subst har;rw[Fg,Ag.enR,List.filter_flatMap,List.foldl_flatMap];refine Ag.fold_congr fun kn b hb=>?_;have hi:gs.length<s.n:=by omega
   have ear:CR s gs.length (Ag.arS s gs) b=Ag.arS s (gs ++ [(b:Int)]):=by
    rw[Ag.arS_app];unfold CR Ag.cst
    by_cases e:(b:Int)=0
    ·rw[decide_eq_true e,if_pos e,Afk];rfl
    ·rw[decide_eq_false e,if_neg e];rfl
   have hlen:(gs ++ [(b:Int)]).length=gs.length+1:=by simp
   by_cases e1:BT b left=b
   ·rw[if_pos e1];have hat:∀hs,hs∈Ag.enR (AG w) f (left-b) (gs ++ [(b:Int)])->gs.length<hs.length/\hs.getD gs.length 0=b:=fun hs hh=>by
     obtain⟨t,e,_⟩:=Ag.mem_enR hh;rw[e,AeG];refine⟨by simp,?_⟩;rw[Ig,if_neg (Nat.lt_irrefl _),Afc];rfl
    have esk:F0 w s left gs.length b = !BB w s gs.length b:=by unfold F0;rw[decide_eq_true e1];rfl
    rw[esk];cases ho:BB w s gs.length b with
    |false =>
      have:(Ag.enR (AG w) f (left-b) (gs ++ [(b:Int)])).filter (Ag.okA w s gs.length)= []:=List.filter_eq_nil_iff.2 fun hs hh=>by
       obtain⟨h1,h2⟩:=hat hs hh;rw[Ag.okA_go h1,h2,ho];simp
      rw[this];rfl
    |true =>
      have hfc:(Ag.enR (AG w) f (left-b) (gs ++ [(b:Int)])).filter (Ag.okA w s gs.length)=(Ag.enR (AG w) f (left-b) (gs ++ [(b:Int)])).filter (Ag.okA w s (gs.length+1)):=List.filter_congr fun hs hh=>by
       obtain⟨h1,h2⟩:=hat hs hh;rw[Ag.okA_go h1,h2,ho];rfl
      rw[hfc];have hih:=ih (left-b) (gs ++ [(b:Int)]) _ kn (by rw[hlen];omega) rfl;rw[hlen]at hih;show(bif Ha kn _ then Fg w s f (left-b) (gs ++ [(b:Int)]) _ kn else kn)=_;rw[ear];cases hc:Ha kn (Ag.arS s (gs ++ [(b:Int)]))with
      |true=>rw[cond_true];exact hih
      |false =>
        rw[cond_false];refine(Ag.fold_id fun hh hm=>?_).symm;obtain⟨t,e,et⟩:=Ag.mem_enR (AdK.1 hm).1;have hm:=Ag.arS_mono hs t (gs ++ [(b:Int)]) (by rw[hlen,et];omega);rw[<- e]at hm;have hfd:kn.fd=true/\kn.ar<Ag.arS s (gs ++ [(b:Int)]):=by
         unfold Ha at hc;cases hf:kn.fd with
         |false=>rw[hf]at hc;cases hc
         |true =>
           rw[hf]at hc;have hc:decide (Ag.arS s (gs ++ [(b:Int)])<=kn.ar)=false:=hc;have:=of_decide_eq_false hc;exact⟨rfl,by omega⟩
        unfold Ag.updR;rw[Ag.bet_no hfd.1 (by omega)];rfl
   ·rw[if_neg e1];have esk:F0 w s left gs.length b=true:=by unfold F0;rw[decide_eq_false e1];rfl
    rw[esk];rfl
def Ag.stM {α:Type} (bt:α->α->Bool) (o:Option α) (c:α):Option α:=match o with
 |none=>some c
 |some b=>bif bt c b then some c else some b
theorem Ag.fold_some {α:Type} {bt:α->α->Bool} (tr:∀a b c,bt a b=true->bt b c=true->bt a c=true):∀(L:List α) (r0:α),(∀a,a∈r0::L->∀b,b∈r0::L->a=b\/bt a b=true\/bt b a=true)->∃r,L.foldl (Ag.stM bt) (some r0)=some r/\r∈r0::L/\∀c,c∈r0::L->c=r\/bt r c=true
 |[],r0,_=>⟨r0,rfl,AdM ..,fun c hc=>.inl (by simpa using hc)⟩
 |c::L,r0,tot=>by
   rw[Aew];show ∃r,L.foldl (Ag.stM bt) (bif bt c r0 then some c else some r0)=some r/\_;cases hb:bt c r0 with
   |true =>
     rw[cond_true];obtain⟨r,h1,h2,h3⟩:=Ag.fold_some tr L c (fun a ha b hb=>tot a (AdJ _ ha) b (AdJ _ hb));refine⟨r,h1,AdJ _ h2,fun x hx=>?_⟩;rcases AdR.1 hx with rfl|hx
     ·rcases h3 c (AdM ..)with e|e
      ·right;rw[<- e];exact hb
      ·exact .inr (tr _ _ _ e hb)
     ·exact h3 x hx
   |false =>
     rw[cond_false];have sub:∀{a},a∈r0::L->a∈r0::c::L:=fun {a} h=>by
      rcases AdR.1 h with rfl|h
      ·exact AdM ..
      ·exact AdJ _ (AdJ _ h)
     obtain⟨r,h1,h2,h3⟩:=Ag.fold_some tr L r0 (fun a ha b hb=>tot a (sub ha) b (sub hb));refine⟨r,h1,sub h2,fun x hx=>?_⟩;rcases AdR.1 hx with rfl|hx
     ·exact h3 x (AdM ..)
     rcases AdR.1 hx with rfl|hx
     ·rcases h3 r0 (AdM ..)with e|e
      ·subst e;rcases tot x (AdJ _ (AdM ..)) r0 (AdM ..)with h|h|h
       ·exact .inl h
       ·rw[hb]at h;cases h
       ·exact .inr h
      ·rcases tot x (AdJ _ (AdM ..)) r0 (AdM ..)with h|h|h
       ·rw[h];exact .inr e
       ·rw[hb]at h;cases h
       ·exact .inr (tr _ _ _ e h)
     ·exact h3 x (AdJ _ hx)
theorem Ag.fold_same {α:Type} {bt:α->α->Bool} (tr:∀a b c,bt a b=true->bt b c=true->bt a c=true) (irr:∀a,bt a a=false) {L M:List α} (tot:∀a,a∈L->∀b,b∈L->a=b\/bt a b=true\/bt b a=true) (hm:∀x,x∈L↔x∈M):L.foldl (Ag.stM bt) none=M.foldl (Ag.stM bt) none:=by
 cases L with
 |nil =>
   cases M with
   |nil=>rfl
   |cons b M=>exact absurd ((hm b).2 (AdM ..)) (by simp)
 |cons a L =>
   cases M with
   |nil=>exact absurd ((hm a).1 (AdM ..)) (by simp)
   |cons b M =>
     obtain⟨r,h1,h2,h3⟩:=Ag.fold_some tr L a tot;obtain⟨q,g1,g2,g3⟩:=Ag.fold_some tr M b (fun x hx y hy=>tot x ((hm x).2 hx) y ((hm y).2 hy));rw[Aew,Aew];show L.foldl (Ag.stM bt) (some a)=M.foldl (Ag.stM bt) (some b);rw[h1,g1];rcases h3 q ((hm q).2 g2)with e|e
     ·rw[e]
     ·rcases g3 r ((hm r).1 h2)with e2|e2
      ·rw[e2]
      ·have:=tr _ _ _ e e2;rw[irr]at this;cases this
theorem Ag.lex_irr:∀a,Ag.lexB a a=false
 |[]=>rfl
 |x::a=>by rw[Ag.lexB,if_pos rfl];exact Ag.lex_irr a
theorem Ag.lex_tr:∀a b c,Ag.lexB a b=true->Ag.lexB b c=true->Ag.lexB a c=true
 |[],_,_,h,_=>by cases h
 |_::_,[],_,h,_=>by cases h
 |_::_,_::_,[],_,h=>by cases h
 |x::a,y::b,z::c,h1,h2=>by
   rw[Ag.lexB]at h1 h2 ⊢
   by_cases e1:x=y
   ·subst e1;rw[if_pos rfl]at h1
    by_cases e2:x=z
    ·rw[if_pos e2]at h2 ⊢;exact Ag.lex_tr a b c h1 h2
    ·rw[if_neg e2]at h2 ⊢;exact h2
   ·rw[if_neg e1,decide_eq_true_eq]at h1
    by_cases e2:y=z
    ·subst e2;rw[if_neg e1];exact decide_eq_true h1
    ·rw[if_neg e2,decide_eq_true_eq]at h2;rw[if_neg (by omega)];exact decide_eq_true (by omega)
theorem Ag.lex_tot:∀a b:List Nat,a.length=b.length->a=b\/Ag.lexB a b=true\/Ag.lexB b a=true
 |[],[],_=>.inl rfl
 |[],_::_,h=>by cases h
 |_::_,[],h=>by cases h
 |x::a,y::b,h=>by
   rw[Ag.lexB,Ag.lexB]
   by_cases e:x=y
   ·subst e;rw[if_pos rfl,if_pos rfl];rcases Ag.lex_tot a b (by simpa using h)with h|h|h
    ·exact .inl (by rw[h])
    ·exact .inr (.inl h)
    ·exact .inr (.inr h)
   ·rw[if_neg e,if_neg (fun h=>e h.symm),decide_eq_true_eq,decide_eq_true_eq];omega
def Ag.btA (s:L.Sq Ah) (c b:List Nat):Bool:=bif decide (Ag.arA s c<Ag.arA s b)then true else bif decide (Ag.arA s c=Ag.arA s b)then Ag.lexB c b else false
theorem Ag.btA_iff {s:L.Sq Ah} {c b:List Nat}:Ag.btA s c b=true↔Ag.arA s c<Ag.arA s b\/(Ag.arA s c=Ag.arA s b/\Ag.lexB c b=true):=by
 unfold Ag.btA
 by_cases h1:Ag.arA s c<Ag.arA s b
 ·simp[h1]
 ·by_cases h2:Ag.arA s c=Ag.arA s b
  ·simp[h2]
  ·simp[h1,h2]
theorem Ag.btA_irr (s:L.Sq Ah) (a:List Nat):Ag.btA s a a=false:=by
 cases h:Ag.btA s a a with
 |false=>rfl
 |true =>
   rcases Ag.btA_iff.1 h with h|⟨_,h⟩
   ·omega
   ·rw[Ag.lex_irr]at h;cases h
theorem Ag.btA_tr (s:L.Sq Ah) (a b c:List Nat) (h1:Ag.btA s a b=true) (h2:Ag.btA s b c=true):Ag.btA s a c=true:=by
 rw[Ag.btA_iff]at *;rcases h1 with h1|⟨h1,g1⟩<;>rcases h2 with h2|⟨h2,g2⟩
 ·left;omega
 ·left;omega
 ·left;omega
 ·exact .inr ⟨by omega,Ag.lex_tr _ _ _ g1 g2⟩
theorem Ag.btA_tot (s:L.Sq Ah) {a b:List Nat} (h:a.length=b.length):a=b\/Ag.btA s a b=true\/Ag.btA s b a=true:=by
 rw[Ag.btA_iff,Ag.btA_iff];rcases Ag.lex_tot a b h with h|h|h
 ·exact .inl h
 ·by_cases e:Ag.arA s a=Ag.arA s b
  ·exact .inr (.inl (.inr ⟨e,h⟩))
  ·omega
 ·by_cases e:Ag.arA s a=Ag.arA s b
  ·exact .inr (.inr (.inr ⟨e.symm,h⟩))
  ·omega
def Ag.toAS (s:L.Sq Ah):Option (List Nat)->BI
 |none=>JV
 |some B=>⟨true,Ag.arA s B,Ag.ints B⟩
theorem Ag.upd_min (s:L.Sq Ah):∀(L:List (List Nat)) (o:Option (List Nat)),L.Pairwise (fun a b=>Ag.lexB a b=true)->(∀b,o=some b->∀c,c∈L->Ag.lexB b c=true)->L.foldl (Ag.upd s) (Ag.toAS s o)=Ag.toAS s (L.foldl (Ag.stM (Ag.btA s)) o)
 |[],o,_,_=>rfl
 |c::L,o,hp,ho=>by
   rw[List.pairwise_cons]at hp;have st:Ag.upd s (Ag.toAS s o) c=Ag.toAS s (Ag.stM (Ag.btA s) o c)/\∀b,Ag.stM (Ag.btA s) o c=some b->b=c\/o=some b:=by
    cases o with
    |none=>exact⟨rfl,fun b h=>by cases h;exact .inl rfl⟩
    |some b =>
      have hl:=ho b rfl c (AdM ..);have hn:Ag.lexB c b=false:=by
       cases h:Ag.lexB c b with
       |false=>rfl
       |true=>have:=Ag.lex_tr _ _ _ hl h;rw[Ag.lex_irr]at this;cases this
      show(if (true&&decide (Ag.arA s b<=Ag.arA s c))=true then _ else _)=Ag.toAS s (bif Ag.btA s c b then some c else some b)/\∀b',(bif Ag.btA s c b then some c else some b)=some b'->_
      by_cases hc:Ag.arA s b<=Ag.arA s c
      ·have hf : Ag.btA s c b = false :=by
        cases h:Ag.btA s c b with
        |false=>rfl
        |true =>
          rcases Ag.btA_iff.1 h with h|⟨_,h⟩
          ·omega
          ·rw[hn]at h;cases h
       rw[if_pos (by simpa using hc),hf];exact⟨rfl,fun b' h=>.inr h⟩
      ·have hf:Ag.btA s c b=true:=Ag.btA_iff.2 (.inl (by omega));rw[if_neg (by simpa using hc),hf];exact⟨rfl,fun b' h=>by cases h;exact .inl rfl⟩
   rw[Aew,Aew,st.1];refine Ag.upd_min s L _ hp.2 fun b hb x hx=>?_;rcases st.2 b hb with rfl|h
   ·exact hp.1 x hx
   ·exact ho b h x (AdJ _ hx)
def Ag.kn0:CZ:=⟨false,0,[]⟩
def Ag.toB (s:L.Sq Ah):Option (List Int)->CZ
 |none=>Ag.kn0
 |some gs=>⟨true,Ag.arS s gs,gs⟩
def Ag.btR (w:L.Sq Ab) (s:L.Sq Ah) (c b:List Int):Bool:=bif decide (Ag.arS s c<Ag.arS s b)then true else bif decide (Ag.arS s c=Ag.arS s b)then Fy (Am (BC s c w.n)) (Am (BC s b w.n))else false
theorem Ag.updR_min (w:L.Sq Ab) (s:L.Sq Ah):∀(X:List (List Int)) (o:Option (List Int)),X.foldl (Ag.updR w s) (Ag.toB s o)=Ag.toB s (X.foldl (Ag.stM (Ag.btR w s)) o)
 |[],o=>rfl
 |c::X,o=>by
   have st:Ag.updR w s (Ag.toB s o) c=Ag.toB s (Ag.stM (Ag.btR w s) o c):=by
    cases o with
    |none=>rfl
    |some b =>
      show(bif Ag.btR w s c b then(⟨true,Ag.arS s c,c⟩:CZ)else⟨true,Ag.arS s b,b⟩)=Ag.toB s (bif Ag.btR w s c b then some c else some b);cases Ag.btR w s c b<;>rfl
   rw[Aew,Aew,st];exact Ag.updR_min w s X _
theorem Ag.fold_map {α β:Type} {f:α->β} {b1:α->α->Bool} {b2:β->β->Bool} {S:List α} (h:∀a,a∈S->∀b,b∈S->b1 a b=b2 (f a) (f b)):∀(L:List α) (o:Option α),(∀a,a∈L->a∈S)->(∀a,o=some a->a∈S)->(L.foldl (Ag.stM b1) o).map f=(L.map f).foldl (Ag.stM b2) (o.map f)
 |[],o,_,_=>rfl
 |c::L,o,hL,ho=>by
   have hc:=hL c (AdM ..);have st:(Ag.stM b1 o c).map f=Ag.stM b2 (o.map f) (f c)/\∀a,Ag.stM b1 o c=some a->a∈S:=by
    cases o with
    |none=>exact⟨rfl,fun a h=>by cases h;exact hc⟩
    |some b =>
      have hb:=ho b rfl;show(bif b1 c b then some c else some b).map f=(bif b2 (f c) (f b)then some (f c)else some (f b))/\∀a,(bif b1 c b then some c else some b)=some a->a∈S;rw[<- h c hc b hb];cases b1 c b
      ·exact⟨rfl,fun a h=>by cases h;exact hb⟩
      ·exact⟨rfl,fun a h=>by cases h;exact hc⟩
   rw[Aew,List.map_cons,Aew,<- st.1];exact Ag.fold_map h L _ (fun a ha=>hL a (AdJ _ ha)) st.2
theorem Ag.clTo_iff {w:L.Sq Ab} {c b:Int}:FK w c b (Bs w b).n=true↔∀j,j<w.n->CA b j=true->(w.g j).colour=c:=by
 unfold FK;rw[Dk];constructor
 ·intro h j hj hb;have hm:j∈B2 b w.n:=by unfold B2;exact AdK.2 ⟨AdQ.2 hj,hb⟩
  obtain⟨i,hi,e⟩:=Aem hm;have h1:=of_decide_eq_true (h i hi);have e2:(Bs w b).g i=w.g j:=by
   show w.g ((B2 b w.n).getD i 0)=_;rw[AS,AdH hi,e];rfl
  rw[e2]at h1;exact h1
 ·intro h i hi;have hi:i<(B2 b w.n).length:=hi;have e2:(Bs w b).g i=w.g (B2 b w.n)[i]:=by
   show w.g ((B2 b w.n).getD i 0)=_;rw[AS,AdH hi];rfl
  have hm:=Aeg hi;unfold B2 at hm;obtain⟨h1,h2⟩:=AdK.1 hm;rw[e2];exact decide_eq_true (h _ (AdQ.1 h1) h2)
def Ag.chkB1 (j g:Nat):Bool:=CA ((g:Int)+2 ^ j) j
theorem Ag.chkB:((AdP 4).all fun j=>(AdP (2 ^ j)).all (Ag.chkB1 j))=true:=by kernel_rfl
theorem Ag.bit_add {j:Nat} (hj:j<4) {g:Int} (h0:0<=g) (h1:g<2 ^ j):CA (g+2 ^ j) j=true:=by
 obtain⟨n,rfl⟩:=Aev h0;have hn:n<2 ^ j:=by exact_mod_cast h1
 exact AdO.1 (AdO.1 Ag.chkB j (AdQ.2 hj)) n (AdQ.2 hn)
theorem Ag.gp_take {k:Nat} {B:List Nat} {i:Nat} (hi:i<B.length):Ag.gp k 0 (B.take (i+1))=Ag.gp k 0 (B.take i)+if B.getD i 0=k then 2 ^ i else 0:=by
 have e:B.take (i+1)=B.take i ++ [B.getD i 0]:=by
  rw[List.take_add_one,AS,AdH hi];rfl
 rw[e,Ag.gp_app,Ag.gp_one,Afx,Aek,Nat.min_eq_left (by omega)]
structure Ag.Num (n m:Nat) (B:List Nat):Prop where
 len:B.length=n
 lt:∀i,i<n->B.getD i 0<m
 bit:∀k,k<m->∀i,i<n->CA (Ag.gp k 0 B) i=decide (B.getD i 0=k)
 inv:Ag.toA n (Ag.gsO m B)=B
theorem Ag.len_of {n m:Nat} {B:List Nat} (h:B∈Ag.enP m n []):B.length=n/\∀i,i<n->B.getD i 0<m:=by
 obtain⟨C,e,h1,h2⟩:=Ag.mem_enP.1 h;rw[Afl]at e;subst e;refine⟨h1,fun i hi=>?_⟩;rw[AS,AdH (by omega)];exact h2 _ (Aeg _)
theorem Ag.chk_of {n m:Nat} (hn:n<=4) (hm:m<=4):Ag.chk n m=true:=AdO.1 (AdO.1 Ag.chk_all n (AdQ.2 (by omega))) m (AdQ.2 (by omega))
theorem Ag.num_of {n m:Nat} (hn:n<=4) (hm:m<=4) {B:List Nat} (h:B∈Ag.enP m n []):Ag.Num n m B/\Ag.gsO m B∈Ag.enR (Bi 1 n).toNat m (Bi 1 n-1) []:=by
 have hc:=Ag.chk_of hn hm;unfold Ag.chk at hc;rw[oE,oE]at hc;have h1:=AdO.1 hc.1.1 B h;unfold Ag.chk1 at h1;simp only[oE,decide_eq_true_eq,AdO,AdQ,beq_iff_eq]at h1;obtain⟨⟨⟨h2,h3⟩,h4⟩,h5⟩:=h1;obtain⟨l1,l2⟩:=Ag.len_of h;refine⟨⟨l1,l2,h2,h4⟩,?_⟩;have hp:=(Gi hn).2.2.1;have:=Ag.path_mem (N:=(Bi 1 n).toNat) (gs:=[]) h3 (fun b hb=>by
  have:=h5 b hb;omega)
 rw[Afl,show(Ag.gsO m B).length=m by simp[Ag.gsO]]at this;exact this
theorem Ag.inv_of {n m:Nat} (hn:n<=4) (hm:m<=4) {gs:List Int} (h:gs∈Ag.enR (Bi 1 n).toNat m (Bi 1 n-1) []):Ag.toA n gs∈Ag.enP m n []/\Ag.gsO m (Ag.toA n gs)=gs:=by
 have hc:=Ag.chk_of hn hm;unfold Ag.chk at hc;rw[oE,oE]at hc;have h1:=AdO.1 hc.1.2 gs h;unfold Ag.chk2 at h1;simp only[oE,decide_eq_true_eq,AdO]at h1;exact⟨Ag.mem_enP.2 ⟨_,(Afl _).symm,by simp[Ag.toA],h1.1⟩,h1.2⟩
theorem Ag.srt_of:∀{l:List (List Nat)},Ag.srt l=true->l.Pairwise fun a b=>Ag.lexB a b=true
 |[],_=>.nil
 |a::l,h=>by
   rw[Ag.srt,oE,AdO]at h;exact .cons h.1 (Ag.srt_of h.2)
theorem Ag.ok_iff {w:L.Sq Ab} {s:L.Sq Ah} (hn:w.n<=4) (hm:s.n<=4) (hp:∀k,k<s.n->0<=(s.g k).w/\0<=(s.g k).h) {B:List Nat} (N:Ag.Num w.n s.n B):Ag.okF w s 0 B=true↔Ag.okA w s 0 (Ag.gsO s.n B)=true:=by
 rw[Ag.okF_iff,Ag.okA_iff];have hl:(Ag.gsO s.n B).length=s.n:=by simp[Ag.gsO]
 have gb:∀k i,i<=w.n->0<=Ag.gp k 0 (B.take i)/\Ag.gp k 0 (B.take i)<2 ^ i:=fun k i hi=>by
  have:=Ag.gp_bd k (B.take i) 0;rw[Afx,N.len,Nat.min_eq_left hi,Aek]at this;omega
 have p4:∀i,i<=w.n->(2:Int) ^ i<=16:=fun i hi=>by
  have:(2:Int) ^ i<=2 ^ 4:=by exact_mod_cast Nat.pow_le_pow_right (show 0<2 by decide) (show i<=4 by omega)
  omega
 constructor
 ·intro h k _ hk;rw[hl]at hk;rw[Ag.gsO_at hk];unfold BB;rw[oE];constructor
  ·have up : ∀i, i<=w.n->CH w (s.g k).grain (Ag.gp k 0 (B.take i)) ⟨(s.g k).w, (s.g k).h⟩= true :=fun i =>by
    induction i with
    |zero=>intro _;rw[List.take_zero];exact PO.2 (YI.2 (hp k hk))
    |succ i ih =>
      intro hi;have hs:=h i (AdL _) (by omega)
      by_cases e:B.getD i 0=k
      ·unfold Ag.stp at hs;rw[e,oE]at hs;exact hs.2
      ·rw[Ag.gp_take (by rw[N.len];omega),if_neg e,Afk];exact ih (by omega)
   have:=up w.n (AdS _);rw[<- N.len,Afz]at this;exact this
  ·refine Ag.clTo_iff.2 fun j hj hb=>?_;rw[N.bit k hk j hj,decide_eq_true_eq]at hb;have hs:=h j (AdL _) hj;unfold Ag.stp at hs;rw[hb,oE,decide_eq_true_eq]at hs;exact hs.1.symm
 ·intro h j _ hj;have hk:=N.lt j hj;have h1:=h (B.getD j 0) (AdL _) (by rw[hl];exact hk);rw[Ag.gsO_at hk]at h1;unfold BB at h1;rw[oE]at h1;unfold Ag.stp;rw[oE,decide_eq_true_eq];refine⟨((Ag.clTo_iff.1 h1.2) j hj (by rw[N.bit _ hk j hj];exact decide_eq_true rfl)).symm,?_⟩;generalize B.getD j 0=k at h1 hk ⊢;have dn:∀d i,i+d=w.n->CH w (s.g k).grain (Ag.gp k 0 (B.take i)) ⟨(s.g k).w,(s.g k).h⟩=true:=fun d=>by
   induction d with
   |zero =>
     intro i hi;rw[show i=B.length by rw[N.len];omega,Afz];exact h1.1
   |succ d ih =>
     intro i hi;have h2:=ih (i+1) (by omega);rw[Ag.gp_take (by rw[N.len];omega)]at h2
     by_cases e:B.getD i 0=k
     ·rw[if_pos e]at h2;obtain⟨b1,b2⟩:=gb k i (by omega);have b3:=gb k (i+1) (by omega);rw[Ag.gp_take (by rw[N.len];omega),if_pos e]at b3;have b4:=p4 (i+1) (by omega);have hb:=Ag.bit_add (show i<4 by omega) b1 b2;obtain⟨c,hc⟩:=Aev b3.1;rw[hc]at h2 hb;have:=zP w (s.g k).grain c (by omega) i (by omega) hb _ (PO.1 h2);rw[<- hc,Int.add_sub_cancel]at this;exact PO.2 this
     ·rw[if_neg e,Afk]at h2;exact h2
  exact dn (w.n-(j+1)) (j+1) (by omega)
theorem Ag.fold_mem {α:Type} {bt:α->α->Bool}:∀{X:List α} {r:α},X.foldl (Ag.stM bt) none=some r->r∈X:=by
 have h:∀(X:List α) (o:Option α) (r:α),X.foldl (Ag.stM bt) o=some r->r∈X\/o=some r:=fun X=>by
  induction X with
  |nil=>intro o r h;exact .inr h
  |cons c X ih =>
    intro o r h;rw[Aew]at h;rcases ih _ r h with h|h
    ·exact .inl (AdJ _ h)
    ·cases o with
     |none =>
       have h:some c=some r:=h;cases h;exact .inl (AdM ..)
     |some b =>
       have h:(bif bt c b then some c else some b)=some r:=h;cases hb:bt c b with
       |true=>rw[hb]at h;cases h;exact .inl (AdM ..)
       |false=>rw[hb]at h;cases h;exact .inr rfl
 intro X r hr;rcases h X none r hr with h|h
 ·exact h
 ·cases h
def Ag.idA (s:L.Sq Ah) (B:List Nat):List Int:=B.map fun k=>(s.g k).id
theorem Ag.lsT_gsO {n:Nat} {s:L.Sq Ah} {B:List Nat} (N:Ag.Num n s.n B):BC s (Ag.gsO s.n B) n=Ag.idA s B:=by
 have hl:(Ag.gsO s.n B).length=s.n:=by simp[Ag.gsO]
 have h1:∀i,i<n->E8 s (Ag.gsO s.n B) i (Ag.gsO s.n B).length = [(s.g (B.getD i 0)).id]:=fun i hi=>by
  unfold E8;rw[hl];have:(AdP s.n).filter (fun j=>CA ((Ag.gsO s.n B).getD j 0) i)=(AdP s.n).filter fun j=>j == B.getD i 0:=List.filter_congr fun j hj=>by
   have hj:=AdQ.1 hj;rw[Ag.gsO_at hj,N.bit j hj i hi]
   by_cases e:B.getD i 0=j
   ·rw[e,decide_eq_true rfl,beq_self_eq_true]
   ·rw[decide_eq_false e];exact(beq_eq_false_iff_ne.2 (fun h=>e h.symm)).symm
  rw[this,List.filter_beq,List.nodup_range.count,if_pos (AdQ.2 (N.lt i hi))];rfl
 unfold BC;have h2:∀k,k<=n->(AdP k).flatMap (fun j=>E8 s (Ag.gsO s.n B) j (Ag.gsO s.n B).length)=(AdP k).map fun i=>(s.g (B.getD i 0)).id:=fun k=>by
  induction k with
  |zero=>intro _;rfl
  |succ k ih=>intro hk;rw[List.range_succ,List.flatMap_append,List.map_append,ih (by omega)];simp[h1 k (by omega)]
 rw[h2 n (AdS _),<- N.len];unfold Ag.idA;refine List.ext_getElem (by simp) fun i a b=>?_;have a:i<B.length:=by simpa using a
 simp[AS,a]
theorem Ag.erl_lex {s:L.Sq Ah} (hid:∀i j,i<s.n->j<s.n->i<j->(s.g i).id<(s.g j).id) {A B:List Nat} (hA:∀x,x∈A->x<s.n) (hB:∀x,x∈B->x<s.n):∀(f i:Nat),f+i=A.length->f+i=B.length->FL (Am (Ag.idA s A)) (Am (Ag.idA s B)) f i=Ag.lexB (A.drop i) (B.drop i)
 |0,i,h1,h2=>by
   rw[FL,List.drop_of_length_le (by omega),List.drop_of_length_le (by omega)];rfl
 |f+1,i,h1,h2=>by
   have a1:i<A.length:=by omega
   have b1:i<B.length:=by omega
   have ga:∀{X:List Nat} (h:i<X.length),(Am (Ag.idA s X)).g i=(s.g X[i]).id:=fun {X} h=>by
    show(Ag.idA s X).getD i 0=_;rw[AS];simp[Ag.idA,h]
   rw[FL,ga a1,ga b1,List.drop_eq_getElem_cons a1,List.drop_eq_getElem_cons b1,Ag.lexB,Ag.erl_lex hid hA hB f (i+1) (by omega) (by omega)];have x1:=hA _ (Aeg a1);have x2:=hB _ (Aeg b1);generalize A[i]=x at *;generalize B[i]=y at *;rcases Nat.lt_trichotomy x y with h|h|h
   ·have:=hid x y x1 x2 h;rw[if_neg (by omega),decide_eq_false (by omega),cond_false,decide_eq_true this,decide_eq_true h]
   ·subst h;rw[if_pos rfl,decide_eq_true rfl,cond_true]
   ·have:=hid y x x2 x1 h;rw[if_neg (by omega),decide_eq_false (by omega),cond_false,decide_eq_false (by omega),decide_eq_false (by omega)]
theorem Ag.main {w:L.Sq Ab} {s:L.Sq Ah} (hn:w.n<=4) (hm:s.n<=4) (hp:∀k,k<s.n->0<=(s.g k).w/\0<=(s.g k).h) (hid:∀i j,i<s.n->j<s.n->i<j->(s.g i).id<(s.g j).id) :
  (CS w s (AM w.n) [] 0 Ag.kn0).fd=(B5 w s).fd/\((B5 w s).fd=true->(CS w s (AM w.n) [] 0 Ag.kn0).ar=(B5 w s).ls/\BC s (CS w s (AM w.n) [] 0 Ag.kn0).gs w.n=(B5 w s).bt.map fun k=>(s.g k.toNat).id):=by
 have hw:∀k,k<s.n->0<=Fz s k:=fun k hk=>Int.mul_nonneg (hp k hk).1 (hp k hk).2;have eP:B5 w s=Ag.toAS s (((Ag.enP s.n w.n []).filter (Ag.okF w s 0)).foldl (Ag.stM (Ag.btA s)) none):=by
  have h:=Ag.asP_fold hn hw w.n [] (fun _=>0) 0 JV (by simp) (fun _ _=>rfl) (by
   unfold Ag.arA;have:∀n,Ag.sumTo (fun k=>Ag.cst s k (Ag.gp k 0 [])) n=0:=fun n=>by
    induction n with
    |zero=>rfl
    |succ n ih=>rw[Ag.sumTo,ih];rfl
   exact(this _).symm)
  have e:B5 w s=DN w s (w.n+1) ([]:List Nat).length (Ag.ints []) 0 (fun _=>0) JV:=rfl;rw[e,h];have hc:=Ag.chk_of hn hm;unfold Ag.chk at hc;rw[oE]at hc;exact Ag.upd_min s _ none ((Ag.srt_of hc.2).filter _) (fun b h=>by cases h)
 have eR:CS w s (AM w.n) [] 0 Ag.kn0=Ag.toB s (((Ag.enR (AG w) s.n (AM w.n) []).filter (Ag.okA w s 0)).foldl (Ag.stM (Ag.btR w s)) none):=by
  have h:=Ag.raP_fold (w:=w) hw s.n (AM w.n) [] 0 Ag.kn0 (by simp) rfl;have e:CS w s (AM w.n) [] 0 Ag.kn0=Fg w s s.n (AM w.n) [] 0 Ag.kn0:=rfl;rw[e,h];exact Ag.updR_min w s _ none
 have memR:∀gs,gs∈(Ag.enR (AG w) s.n (AM w.n) []).filter (Ag.okA w s 0)->Ag.toA w.n gs∈(Ag.enP s.n w.n []).filter (Ag.okF w s 0)/\Ag.gsO s.n (Ag.toA w.n gs)=gs:=fun gs h=>by
  obtain⟨h1,h2⟩:=AdK.1 h;obtain⟨i1,i2⟩:=Ag.inv_of hn hm h1;refine⟨AdK.2 ⟨i1,(Ag.ok_iff hn hm hp (Ag.num_of hn hm i1).1).2 (by rw[i2];exact h2)⟩,i2⟩
 have memP:∀B,B∈(Ag.enP s.n w.n []).filter (Ag.okF w s 0)->Ag.gsO s.n B∈(Ag.enR (AG w) s.n (AM w.n) []).filter (Ag.okA w s 0)/\Ag.Num w.n s.n B:=fun B h=>by
  obtain⟨h1,h2⟩:=AdK.1 h;obtain⟨N,i2⟩:=Ag.num_of hn hm h1;exact⟨AdK.2 ⟨i2,(Ag.ok_iff hn hm hp N).1 h2⟩,N⟩
 have key:(((Ag.enR (AG w) s.n (AM w.n) []).filter (Ag.okA w s 0)).foldl (Ag.stM (Ag.btR w s)) none).map (Ag.toA w.n)=((Ag.enP s.n w.n []).filter (Ag.okF w s 0)).foldl (Ag.stM (Ag.btA s)) none:=by
  rw[Ag.fold_map (b2:=Ag.btA s) (S:=(Ag.enR (AG w) s.n (AM w.n) []).filter (Ag.okA w s 0)) (fun a ha b hb=>?_) _ none (fun a h=>h) (fun a h=>by cases h)]
  ·refine Ag.fold_same (Ag.btA_tr s) (Ag.btA_irr s) (fun a ha b hb=>?_) (fun x=>⟨fun h=>?_,fun h=>?_⟩)
   ·obtain⟨x,hx,rfl⟩:=AdN.1 ha;obtain⟨y,hy,rfl⟩:=AdN.1 hb;exact Ag.btA_tot s (by simp[Ag.toA])
   ·obtain⟨y,hy,rfl⟩:=AdN.1 h;exact(memR y hy).1
   ·obtain⟨h1,N⟩:=memP x h;exact AdN.2 ⟨_,h1,N.inv⟩
  ·obtain⟨a1,a2⟩:=memR a ha;obtain⟨b1,b2⟩:=memR b hb;have Na:=(memP _ a1).2;have Nb:=(memP _ b1).2;have la:∀{B},Ag.Num w.n s.n B->∀x,x∈B->x<s.n:=fun {B} N x hx=>by
    obtain⟨i,hi,e⟩:=Aem hx;have:=N.lt i (by rw[<- N.len];exact hi);rw[AS,AdH hi,e]at this;exact this
   unfold Ag.btR Ag.btA;have e1:Ag.arS s a=Ag.arA s (Ag.toA w.n a):=by rw[<- Ag.arS_gsO,a2]
   have e2:Ag.arS s b=Ag.arA s (Ag.toA w.n b):=by rw[<- Ag.arS_gsO,b2]
   have e3:BC s a w.n=Ag.idA s (Ag.toA w.n a):=by rw[<- Ag.lsT_gsO Na,a2]
   have e4:BC s b w.n=Ag.idA s (Ag.toA w.n b):=by rw[<- Ag.lsT_gsO Nb,b2]
   have e5:Fy (Am (Ag.idA s (Ag.toA w.n a))) (Am (Ag.idA s (Ag.toA w.n b)))=Ag.lexB (Ag.toA w.n a) (Ag.toA w.n b):=by
    unfold Fy;have hl:(Am (Ag.idA s (Ag.toA w.n a))).n=w.n:=by show(Ag.idA s (Ag.toA w.n a)).length=w.n;unfold Ag.idA;rw[Ae7];exact Na.len
    rw[hl,Ag.erl_lex hid (la Na) (la Nb) w.n 0 (by rw[Na.len];rfl) (by rw[Nb.len];rfl)];rfl
   rw[e1,e2,e3,e4,e5]
 rw[eP,eR,<- key];cases ho:((Ag.enR (AG w) s.n (AM w.n) []).filter (Ag.okA w s 0)).foldl (Ag.stM (Ag.btR w s)) none with
 |none=>exact⟨rfl,fun h=>by cases h⟩
 |some gs =>
   rw[ho]at key;have hmem:gs∈(Ag.enR (AG w) s.n (AM w.n) []).filter (Ag.okA w s 0):=by
    generalize (Ag.enR (AG w) s.n (AM w.n) []).filter (Ag.okA w s 0)=X at ho;exact Ag.fold_mem ho
   obtain⟨a1,a2⟩:=memR gs hmem;have N:=(memP _ a1).2;refine⟨rfl,fun _=>⟨?_,?_⟩⟩
   ·show Ag.arS s gs=Ag.arA s (Ag.toA w.n gs);rw[<- Ag.arS_gsO,a2]
   ·show BC s gs w.n=(Ag.ints (Ag.toA w.n gs)).map fun k=>(s.g k.toNat).id;have:=Ag.lsT_gsO N;rw[a2]at this;rw[this];unfold Ag.idA Ag.ints;rw[List.map_map];rfl
theorem fP {s:L.Sq Ah} (h:D2 s=true) {i:Nat} (hi:i<s.n):Bo (s.g i)=true/\(0<i->(s.g (i-1)).id<(s.g i).id):=by
 have h1:=Dk.1 h i hi;have h2:(!C9 (fun i=>Bo (s.g i)) (fun i=>(s.g i).id) i)=true:=h1;unfold C9 at h2;cases e:Bo (s.g i)with
 |false=>simp only[e]at h2;cases h2
 |true =>
   refine⟨rfl,fun h0=>?_⟩;simp only[e,decide_eq_true (show 0<(i:Int)by omega)]at h2;have h3:(!decide ((s.g i).id<=(s.g (i-1)).id))=true:=h2;simp only[Aer,decide_eq_false_iff_not]at h3;omega
theorem fQ {s:L.Sq Ah} (hv:D2 s=true) {i:Nat}:∀{j:Nat},j<s.n->i<j->(s.g i).id<(s.g j).id
 |0,_,h=>absurd h (nT _)
 |j+1,hj,h=>by
   have h1:=(fP hv hj).2 (Nat.succ_pos _);rw[Nat.add_sub_cancel]at h1
   by_cases e:i=j
   ·rw[e];exact h1
   ·exact Int.lt_trans (fQ hv (show j<s.n by omega) (by omega)) h1
theorem AdA {w:L.Sq Ab} {s:L.Sq Ah} (hw:CI w) (hs:FJ s) (a:Int):Dx w s=(DO w s).length/\(∀i,i<Dx w s->Fx w s i=(Am (DO w s)).g i)/\Ff w s=EB w s/\DA w s=C2 w s/\GD w s a=GB w s a/\Bq w s true=GC w s/\Dx w s<=1000000:=by
 by_cases hb:Bq w s true=0
 ·obtain⟨-,v2,-,v4,v5⟩:=Ic hb;have ok:=H1 hw v4;have s4:s.n<=4:=by have:=hs.1;omega
  have hp:∀k,k<s.n->0<=(s.g k).w/\0<=(s.g k).h:=fun k hk=>by
   obtain⟨a,_,c,_⟩:=Qe (fP v2 hk).1;omega
  obtain⟨m1,m2⟩:=Ag.main ok.1 s4 hp (fun i j _ hj h=>fQ v2 hj h);have eF:CS w s (AM w.n) [] 0 Ag.kn0=CD w s:=rfl;rw[eF]at m1 m2;cases hf:(B5 w s).fd with
  |false =>
    rw[hf]at m1;have e1:DA w s=52:=by unfold DA;rw[decide_eq_true hb,hf];rfl
    have e2:C2 w s=52:=by unfold C2;rw[decide_eq_true hb,m1];rfl
    have n0:Dx w s=0:=by unfold Dx;rw[e1];rfl
    have l0:DO w s = []:=by unfold DO;rw[e2];rfl
    refine⟨by rw[n0,l0];rfl,fun i hi=>by rw[n0]at hi;exact absurd hi (nT _),by unfold Ff EB;rw[e1,e2];rfl,e1.trans e2.symm,?_,?_,by rw[n0];exact AdL _⟩
    ·unfold GD GB;rw[decide_eq_true hb,hf,e2];rfl
    ·unfold GC;rw[hb,e2];rfl
  |true =>
    rw[hf]at m1;obtain⟨m3,m4⟩:=m2 hf;have e1:DA w s=0:=by unfold DA;rw[decide_eq_true hb,hf];rfl
    have e2:C2 w s=0:=by unfold C2;rw[decide_eq_true hb,m1];rfl
    have n0:Dx w s=(B5 w s).bt.length:=by unfold Dx;rw[e1];rfl
    have l0:DO w s=(B5 w s).bt.map fun k=>(s.g k.toNat).id:=by unfold DO;rw[e2,<- m4];rfl
    have a1:Ff w s=(B5 w s).ls:=by unfold Ff;rw[e1];rfl
    have a2:EB w s=(B5 w s).ls:=by unfold EB;rw[e2,<- m3];rfl
    refine⟨by rw[n0,l0,Ae7],fun i hi=>?_,a1.trans a2.symm,e1.trans e2.symm,?_,?_,?_⟩
    ·rw[n0]at hi;show(s.g ((B5 w s).bt.getD i 0).toNat).id=(DO w s).getD i 0;rw[l0,AS,AS,List.getElem?_map,AdH hi];rfl
    ·unfold GD GB;rw[decide_eq_true hb,hf,e2,a2];rfl
    ·unfold GC;rw[hb,e2];rfl
    ·have:=ZR w s;rw[n0];exact Nat.le_trans this (Nat.le_trans ok.1 (by decide))
 ·have b52 : ¬ Bq w s true = 52 :=by
   unfold Bq;cases Cy w<;>cases D2 s<;>cases decide (7<(w.n:Int))<;>cases decide (7<(s.n:Int))<;>decide
  have e1:DA w s=Bq w s true:=by unfold DA;rw[decide_eq_false hb];rfl
  have e2:C2 w s=Bq w s true:=by unfold C2;rw[decide_eq_false hb];rfl
  have n0:Dx w s=0:=by unfold Dx;rw[e1,decide_eq_false hb];rfl
  have l0:DO w s = []:=by unfold DO;rw[e2,decide_eq_false hb];rfl
  refine⟨by rw[n0,l0];rfl,fun i hi=>by rw[n0]at hi;exact absurd hi (nT _),by unfold Ff EB;rw[e1,e2,decide_eq_false hb];rfl,e1.trans e2.symm,?_,?_,by rw[n0];exact AdL _⟩
  ·unfold GD GB;rw[decide_eq_false hb,e2,decide_eq_false b52,decide_eq_false hb];rfl
  ·unfold GC;rw[e2,decide_eq_false b52];rfl
end
section
set_option maxHeartbeats 4000000
section
attribute [local irreducible] AM AU FG Cy D2 Bq C2 DO EB DA Dx Ff Fx GB GC GD Es Ee CS B5
def fR (w:(L.Sq Ab)) (s:(L.Sq Ah)) (a:Int):Prop:=Ad .i64 a
def fS (w:(L.Sq Ab)) (s:(L.Sq Ah)) (a:Int):SV:=.bool true
def Nu:List EV->Option (Prop×SV)
 |[.p (.sl 4 w_n w_g),.p (.sl 5 s_n s_g),.p (.int .i64 a)]=>some ((∀i,i<w_n->Dn (w_g i))/\(∀i,i<s_n->s_g i = [.int .i64 ((AQ (s_g i)).id),.int .i64 ((AQ (s_g i)).colour),.int .i64 ((AQ (s_g i)).w),.int .i64 ((AQ (s_g i)).h),.int .i64 ((AQ (s_g i)).grain)])/\fR (⟨w_n,fun i=>Bx (w_g i)⟩:(L.Sq Ab)) (⟨s_n,fun i=>AQ (s_g i)⟩:(L.Sq Ah)) a,fS (⟨w_n,fun i=>Bx (w_g i)⟩:(L.Sq Ab)) (⟨s_n,fun i=>AQ (s_g i)⟩:(L.Sq Ah)) a)
 |_=>none
abbrev AdB:SE.Spec:=(AI Nu)
def AdC:Al:={ cC with specs:=AC [(6,fO),(7,YG),(17,Qg),(18,Qn),(19,bY),(20,bU),(21,cM),(22,cQ),(23,cI)],raws:=[21,22] }
theorem AdD (w:(L.Sq Ab)) (s:(L.Sq Ah)) (a:Int) (hp:fR w s a):vc Tryz.prog (AdC) (Ai Tryz.f4) (Au Tryz.f4 [.p (.sl 4 w.n (fun i=>[.int .i64 ((w.g i).id),.int .i64 ((w.g i).colour),.int .i64 ((w.g i).grain),.sl 2 (w.g i).ol.n (fun i1=>[.int .i64 (((w.g i).ol.g i1).x),.int .i64 (((w.g i).ol.g i1).y)])])),.p (.sl 5 s.n (fun i=>[.int .i64 ((s.g i).id),.int .i64 ((s.g i).colour),.int .i64 ((s.g i).w),.int .i64 ((s.g i).h),.int .i64 ((s.g i).grain)])),.p (.int .i64 a)]) (AH Tryz.prog Tryz.f4 (fS w s a)):=
 @Eq.mpr _ (let I:=SV.int .i64;let A5:=(Am (DO w s));let A3:=(∀(i:Nat),let A4:=[I (s.g i).id,I (s.g i).colour,I (s.g i).w,I (s.g i).h,I (s.g i).grain];i<s.n->A4=A4);let A2:=(∀(i:Nat),i<w.n->∀(i_1:Nat),let A6:=((w.g i).ol.g i_1);i_1<(w.g i).ol.n -> [I A6.x,I A6.y]= [I A6.x,I A6.y]);let A7:=(A2/\CI w/\Ad .i64 a);let A1:=(A2/\A3/\CI w/\FJ s);True/\(A2/\A3/\True)/\((!FG w s)=true->true=true)/\((!FG w s)=false->A1/\A1/\A1/\A1/\A7/\A7/\(true=true->(∀(i:Nat),i<Dx w s -> [I (Fx w s i)]= [I (Fx w s i)])/\(∀(i:Nat),i<A5.n -> [I (A5.g i)]= [I (A5.g i)])/\Dx w s<=(1000000:Nat))/\(bif bif bif bif bif bif bif true then Hb (L.Sq.mk (Dx w s) fun(i:Nat)=>Fx w s i) A5 else false then decide (Ff w s=EB w s)else false then decide (DA w s=C2 w s)else false then GD w s a == GB w s a else false then decide (Bq w s true=GC w s)else false then decide (Es w a=Es w a)else false then decide (Ee w a=Ee w a)else false)=true)) (by kernel_rfl) (by
 conv=>zeta
 have ol:∀i,i<w.n->∀j,j<(w.g i).ol.n -> [SV.int .i64 ((w.g i).ol.g j).x,SV.int .i64 ((w.g i).ol.g j).y]= [SV.int .i64 ((w.g i).ol.g j).x,SV.int .i64 ((w.g i).ol.g j).y]:=fun _ _ _ _=>rfl;have hk:Ad .i64 a:=hp;refine⟨trivial,⟨ol,fun _ _=>rfl,trivial⟩,fun _=>rfl,fun hf=>?_⟩;have hfew:FG w s=true:=BW hf;obtain⟨hw,hn20,hs4,hs20⟩:=zQ hfew;have hs:FJ s:=⟨hs4,by omega⟩;obtain⟨q1,q2,q3,q4,q5,q6,q7⟩:=AdA hw hs a;have pB:∀b:Bool,(b == b)=true:=fun b=>by cases b<;>rfl
 refine⟨⟨ol,fun _ _=>rfl,hw,hs⟩,⟨ol,fun _ _=>rfl,hw,hs⟩,⟨ol,fun _ _=>rfl,hw,hs⟩,⟨ol,fun _ _=>rfl,hw,hs⟩,⟨ol,hw,hk⟩,⟨ol,hw,hk⟩,fun _=>⟨fun _ _=>rfl,fun _ _=>rfl,q7⟩,?_⟩;have e1:Hb (L.Sq.mk (Dx w s) fun i=>Fx w s i) (Am (DO w s))=true:=by
  unfold Hb;have e0:((L.Sq.mk (Dx w s) fun i=>Fx w s i).n:Int)=((Am (DO w s)).n:Int):=congrArg (fun x:Nat=>(x:Int)) q1;rw[decide_eq_true e0];exact Dk.2 fun i hi=>decide_eq_true (q2 i hi)
 rw[e1,q3,q4,q5,q6,pB,decide_eq_true rfl,decide_eq_true rfl,decide_eq_true rfl,decide_eq_true rfl,decide_eq_true rfl];rfl)
theorem AdE:Ax Tryz.prog 4 AdB:=AK Tryz.func4 (c:=Ai Tryz.f4) (by kernel_rfl) mixed (fun args p r hs hp=>by
 unfold Nu at hs;split at hs
 ·cases hs;exact⟨_,_,AdD _ _ _ hp.2.2,(.p (DY hp.1) (.p (.sl hp.2.1) (.same _ .nil))),⟨show Aa Tryz.prog _ from(Aa.cons Ad8 Ad9 (Aa.cons zK zL (Aa.cons ZV ZW (Aa.cons bP bQ (Aa.cons AbP AbQ (Aa.cons AbL AbM (Aa.cons Ace Acf (Aa.cons Aci Acj (Aa.cons AbZ Aca Aa.nil))))))))),rfl,⟨show Af Tryz.prog _ from Af.nil,(AA.none (fun _=>rfl))⟩⟩⟩
 ·cases hs)
end
end
end Go.Proofs.YtijidjjfkahojaaGreat
