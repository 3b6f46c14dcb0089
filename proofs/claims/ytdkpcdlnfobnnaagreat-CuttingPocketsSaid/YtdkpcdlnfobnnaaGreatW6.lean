/- Parts of the proof that the text of the row joins: a symbolic walk over the model. -/
import Derived.Test.YtdkpcdlnfobnnaaGreatW5
import Derived.Test.YtdkpcdlnfobnnaaGreatE5
import Derived.KernelRfl
import Derived.Test.YtdkpcdlnfobnnaaGreatW2
import Derived.Test.YtdkpcdlnfobnnaaGreatW3
import Derived.Test.YtdkpcdlnfobnnaaGreatW4
open Nat renaming not_lt_zero->oE,zero_le->rH,lt_succ_iff_lt_or_eq->Ah6
open Int renaming toNat_natCast->Ah7,toNat->AhD
namespace Go.Proofs.YtdkpcdlnfobnnaaGreat
open Go.SE Go.RowKit Tryz
set_option maxRecDepth 100000
set_option maxHeartbeats 4000000
set_option linter.unusedVariables false
attribute [local irreducible] vc
def Le (n:Nat) (l:List Int):Prop:=∀x,x∈l->0<=x/\x<(n:Int)
theorem mZ (w:L.Sq Ak) (s:L.Sq AF):∀(f i:Nat) (A:List Int) (sum:Int) (G:Nat->Int) (st:Co),Le s.n A->Le s.n st.bt->Le s.n (F3 w s f i A sum G st).bt
 |0,_,_,_,_,_,_,h=>h
 |f+1,i,A,sum,G,st,hA,h=>by
   rw[F3];split
   ·exact h
   ·split
    ·exact hA
    ·have key : ∀(l : List Nat) (st : Co), (∀k, k∈l->k<s.n)->Le s.n st.bt->Le s.n (l.foldl (fun st k =>bif HB w s G i k then st else F3 w s f (i+1) (E7 A k) (sum+DR s G k) (EX G k i) st) st).bt :=fun l =>by
      induction l with
      |nil=>intro st _ h;exact h
      |cons k l ih =>
        intro st hl h;rw[List.foldl_cons];refine ih _ (fun k hk=>hl k (List.mem_cons_of_mem _ hk)) ?_;cases HB w s G i k with
        |true=>exact h
        |false =>
          refine mZ w s f _ _ _ _ _ (fun x hx=>?_) h;unfold E7 at hx;rcases List.mem_append.1 hx with hx|hx
          ·exact hA x hx
          ·have:=hl k (List.mem_cons_self ..);rw[List.mem_singleton.1 hx];omega
     exact key _ st (fun k hk=>List.mem_range.1 hk) h
theorem AgI (w:L.Sq Ak) (s:L.Sq AF) {i:Nat} (hi:i<(BR (CJ w s).bt).n):0<=(BR (CJ w s).bt).g i/\(BR (CJ w s).bt).g i<(s.n:Int):=by
 have h:Le s.n (CJ w s).bt:=mZ w s _ _ _ _ _ _ (fun x hx=>by cases hx) (fun x hx=>by cases hx);have hi:i<(CJ w s).bt.length:=hi;have e:(BR (CJ w s).bt).g i=(CJ w s).bt[i]:=by
  show(CJ w s).bt.getD i 0=_;rw[List.getD_eq_getElem?_getD,List.getElem?_eq_getElem hi];rfl
 rw[e];exact h _ (List.getElem_mem hi)
theorem nA (w:L.Sq Ak) (s:L.Sq AF):∀(f i:Nat) (A:List Int) (sum:Int) (G:Nat->Int) (st:Co),A.length=i->(st.bt.length=0\/st.bt.length=w.n)->(F3 w s f i A sum G st).bt.length=0\/(F3 w s f i A sum G st).bt.length=w.n
 |0,_,_,_,_,_,_,h=>h
 |f+1,i,A,sum,G,st,hA,h=>by
   rw[F3];split
   ·exact h
   ·split
    ·rename_i e;exact .inr (hA.trans e)
    ·have key : ∀(l : List Nat) (st : Co), (st.bt.length = 0\/st.bt.length = w.n)->((l.foldl (fun st k =>bif HB w s G i k then st else F3 w s f (i+1) (E7 A k) (sum+DR s G k) (EX G k i) st) st).bt.length = 0\/(l.foldl (fun st k =>bif HB w s G i k then st else F3 w s f (i+1) (E7 A k) (sum+DR s G k) (EX G k i) st) st).bt.length = w.n):=fun l =>by
      induction l with
      |nil=>intro st h;exact h
      |cons k l ih =>
        intro st h;rw[List.foldl_cons];refine ih _ ?_;cases HB w s G i k with
        |true=>exact h
        |false=>exact nA w s f _ _ _ _ _ (by unfold E7;simp[hA]) h
     exact key _ st h
theorem AgJ (w:L.Sq Ak) (s:L.Sq AF):(BR (CJ w s).bt).n<=w.n:=by
 have:=nA w s (w.n+1-0) 0 [] 0 (fun _=>0) Sk rfl (.inl rfl);have:(CJ w s).bt.length=0\/(CJ w s).bt.length=w.n:=this;show(CJ w s).bt.length<=w.n;omega
def Sl (s:L.Sq AF):Prop:=(s.n<=4\/7<s.n)/\s.n<=1000000
def GF (w:L.Sq Ak) (s:L.Sq AF):Int:=bif !decide (DZ w s true=0)then DZ w s true else bif !(CJ w s).fd then 52 else 0
def IX (w:L.Sq Ak) (s:L.Sq AF):Nat:=bif decide (GF w s=0)then(BR (CJ w s).bt).n else 0
def IY (w:L.Sq Ak) (s:L.Sq AF):Int:=bif decide (GF w s=0)then(CJ w s).ls else 0
def JN (w:L.Sq Ak) (s:L.Sq AF) (i:Nat):Int:=(s.g ((BR (CJ w s).bt).g i).toNat).id
theorem AgK {s:L.Sq AF} (h:Ib s=true):∀i,i<s.n->CE (s.g i)=true:=fun i hi=>by
 have:=C8.1 h i hi;simp only[Bool.not_eq_true']at this;unfold Fz at this;cases h1:CE (s.g i)
 ·simp only[h1]at this;cases this
 ·rfl
section
attribute [local irreducible] DS Ea F3 CJ DY Aq Cq B7
def nB (w:L.Sq Ak) (s:L.Sq AF):Prop:=Gq w/\Sl s
def nC (w:L.Sq Ak) (s:L.Sq AF):SV:=.tup [.sl 1 (IX w s) (fun i=>[.int .i64 (JN w s i)]),.int .i64 (IY w s),.int .i64 (GF w s)]
def nD:List EV->Option (Prop×SV)
 |[.p (.sl 4 w_n w_g),.p (.sl 5 s_n s_g)]=>some ((∀i,i<w_n->He (w_g i))/\(∀i,i<s_n->s_g i = [.int .i64 (Er (s_g i)).id,.int .i64 (Er (s_g i)).colour,.int .i64 (Er (s_g i)).w,.int .i64 (Er (s_g i)).h,.int .i64 (Er (s_g i)).grain])/\nB ⟨w_n,fun i=>Dp (w_g i)⟩ ⟨s_n,fun i=>Er (s_g i)⟩,nC ⟨w_n,fun i=>Dp (w_g i)⟩ ⟨s_n,fun i=>Er (s_g i)⟩)
 |_=>none
abbrev nE:SE.Spec:=(AM nD)
def AgL:Aj:={ cC with muts:=[40],frz:=B9 [(12,[40])],specs:=AE [(53,OI)],mks:=Ev [(54,Ld)],ren:=fun k=>k,nilsL:=B3 [(8,[(4,40,3,1)])] }
theorem AgM (w:L.Sq Ak) (s:L.Sq AF) (hp:nB w s):vc prog ({ AgL with loops:=AT [(8,{ T:=Nat,keep:=[1,4,5,27,28],keepO:=[],chg:=fun i=>[(29,.p (.int .i64 (i:Int)))],own:=fun i=>[(40,.row 3 1 i (fun j=>[.int .i64 (JN w s j)]))],inv:=fun i=>i<=(BR (CJ w s).bt).n,mu:=fun i=>(BR (CJ w s).bt).n-i })]}) (Ae f28) (Ao f28 [.p (.sl 4 w.n (fun i=>[.int .i64 (w.g i).id,.int .i64 (w.g i).colour,.int .i64 (w.g i).grain,.sl 2 (w.g i).ol.n (fun i1=>[.int .i64 ((w.g i).ol.g i1).x,.int .i64 ((w.g i).ol.g i1).y])])),.p (.sl 5 s.n (fun i=>[.int .i64 (s.g i).id,.int .i64 (s.g i).colour,.int .i64 (s.g i).w,.int .i64 (s.g i).h,.int .i64 (s.g i).grain]))]) (AL prog f28 (nC w s)):=
 @Eq.mpr _ (let I:=SV.int .i64;let T:=AhD;let A16:=(0:Nat);let A14:=(1000000:Nat);let A12:=(L.Sq.mk s.n fun(i:Nat)=>s.g i);let A11:=(0:Int);let A4:=(BR (CJ w s).bt);let A2:=(L.Sq.mk w.n fun(i:Nat)=>Ak.mk (w.g i).id (w.g i).colour (w.g i).grain (L.Sq.mk (w.g i).ol.n fun(i_1:Nat)=>(w.g i).ol.g i_1));let A3:=(!decide (DZ A2 A12 true=A11));((∀(i:Nat),i<w.n->∀(i_1:Nat),let A9:=((w.g i).ol.g i_1);i_1<(w.g i).ol.n -> [I A9.x,I A9.y]= [I A9.x,I A9.y])/\(∀(i:Nat),let A5:=[I (s.g i).id,I (s.g i).colour,I (s.g i).w,I (s.g i).h,I (s.g i).grain];i<s.n->A5=A5)/\w.n<=A14/\(∀(i:Nat),i<w.n->(w.g i).ol.n<=A14)/\s.n<=A14)/\(A3=true->IX w s=A16/\A11=IY w s/\DZ A2 A12 true=GF w s)/\(A3=false->∃(t:L.Sq Ak×L.Sq AF),let A7:=(CJ t.1 t.2);let A1:=(BR A7.bt);let A10:=(↑A1.n:Int);(w.n=t.1.n/\∀(i:Nat),let A13:=(t.1.g i);i<w.n -> [I (w.g i).id,I (w.g i).colour,I (w.g i).grain,SV.sl 2 (w.g i).ol.n fun(i1:Nat)=>[I ((w.g i).ol.g i1).x,I ((w.g i).ol.g i1).y]]= [I A13.id,I A13.colour,I A13.grain,SV.sl 2 A13.ol.n fun(i1:Nat)=>[I (A13.ol.g i1).x,I (A13.ol.g i1).y]])/\(s.n=t.2.n/\∀(i:Nat),let A15:=(t.2.g i);i<s.n -> [I (s.g i).id,I (s.g i).colour,I (s.g i).w,I (s.g i).h,I (s.g i).grain]= [I A15.id,I A15.colour,I A15.w,I A15.h,I A15.grain])/\(CI t.1/\t.2.n<=4/\∀(k:Nat),k<t.2.n->CE (t.2.g k)=true)/\∀(u:Nat),True->((!A7.fd)=true->IX w s=A16/\A11=IY w s/\(52:Int)=GF w s)/\((!A7.fd)=false->(∃(g:Nat),A11=(↑g:Int)/\(A16=g/\∀(i:Nat),i<A16 -> []= [I (JN w s i)])/\g<=A4.n)/\∀(g:Nat),let A8:=(↑g:Int);g<=A4.n->(decide (A8<A10)=true->(A11<=A8/\A8<A10)/\(A11<=A1.g (T A8)/\A1.g (T A8)<(↑s.n:Int))/\(g+1)*8<=140737488355328/\Ab .i64 (A8+(1:Int))/\∃(g':Nat),A8+1=(↑g':Int)/\A10=A10/\(A1.n=A1.n/\∀(i:Nat),i<A1.n -> [I (A1.g i)]= [I (A1.g i)])/\A7.ls=A7.ls/\(s.n=s.n/\∀(i:Nat),let A6:=[I (s.g i).id,I (s.g i).colour,I (s.g i).w,I (s.g i).h,I (s.g i).grain];i<s.n->A6=A6)/\(g+1=g'/\∀(i:Nat),i<g+1->AH g (fun(j:Nat)=>[I (JN w s j)]) (fun(x:Nat)=>[I (s.g (T (A1.g (T A8)))).id]) i = [I (JN w s i)])/\g'<=A4.n/\A4.n-g'<A4.n-g)/\(decide (A8<A10)=false->(g=IX w s/\∀(i:Nat),i<g -> [I (JN w s i)]= [I (JN w s i)])/\A7.ls=IY w s/\A11=GF w s)))) (by kernel_rfl) (by
 conv=>zeta
 obtain⟨hw,hs⟩:=(show Gq w/\Sl s from hp);have fin:∀e,GF w s=e->e≠0->IX w s=0/\0=IY w s/\e=GF w s:=fun e h h0=>⟨by unfold IX;rw[h,decide_eq_false h0];rfl,by unfold IY;rw[h,decide_eq_false h0];rfl,h.symm⟩;refine⟨⟨fun _ _ _ _=>rfl,zr,hw.2.1,hw.2.2,hs.2⟩,fun h=>?_,fun h=>?_⟩
 ·have h:(!decide (DZ w s true=0))=true:=h;exact fin _ (by unfold GF;rw[h];rfl) (of_decide_eq_false (CC h))
 ·have h:(!decide (DZ w s true=0))=false:=h;obtain⟨-,v2,-,v4,v5⟩:=OG (of_decide_eq_true (B5 h));have ok:=OH hw v4;have s4:s.n<=4:=by have:=hs.1;omega
  refine⟨(w,s),rz,rz,⟨ok,s4,AgK v2⟩,fun _ _=>⟨fun h2=>?_,fun h2=>?_⟩⟩
  ·have h2:(!(CJ w s).fd)=true:=h2;exact fin 52 (by unfold GF;rw[h,h2];rfl) (by decide)
  ·have h2:(!(CJ w s).fd)=false:=h2;have e:GF w s=0:=by unfold GF;rw[h,h2];rfl
   have eN:IX w s=(BR (CJ w s).bt).n:=by unfold IX;rw[e];rfl
   have eA:IY w s=(CJ w s).ls:=by unfold IY;rw[e];rfl
   rw[e,eN,eA];have hl:=AgJ w s;have hw4:=ok.1;dsimp only;refine⟨⟨0,rfl,⟨rfl,fun i hi=>absurd hi (oE _)⟩,rH _⟩,fun g hg=>⟨fun hc=>?_,fun hc=>?_⟩⟩
   ·have hc:(g:Int)<((BR (CJ w s).bt).n:Int):=of_decide_eq_true hc;have hlt:g<(BR (CJ w s).bt).n:=by omega
    have hin:=AgI w s hlt;rw[Ah7 g];refine⟨⟨Int.natCast_nonneg _,hc⟩,hin,by show(g+1)*8<=140737488355328;omega,jK,g+1,by omega,rfl,rz,rfl,rz,⟨rfl,fun i hi=>?_⟩,hlt,by omega⟩;unfold AH
    by_cases e:i<g
    ·rw[if_pos e]
    ·rw[if_neg e];obtain rfl:i=g:=by omega
     rfl
   ·have hc:¬ (g:Int)<((BR (CJ w s).bt).n:Int):=of_decide_eq_false hc;exact⟨⟨by omega,fun _ _=>rfl⟩,rfl,rfl⟩)
theorem AgN:Az prog 28 nE:=AN func28 (c:=Ae f28) (by kernel_rfl) mixed (fun _ _ _ hs hp=>by
 unfold nD at hs;split at hs
 ·cases hs;exact⟨_,_,AgM _ _ hp.2.2,(.p (KL hp.1) (.p (.sl hp.2.1) .nil)),⟨show Aa prog _ from(Aa.cons RX RY Aa.nil),rfl,⟨show Ac prog _ from Ac.nil,⟨AB.no1 (fun _=>rfl),⟨show Bx prog _ from(Bx.cons AgH AgG Bx.nil),FamsOk.none (fun _=>rfl)⟩⟩⟩⟩⟩
 ·cases hs)
theorem AgO:An prog 28:=fun _ _=>by kernel_rfl
end
def nF (l:List (Int×Int)):L.Sq L.Pt:=⟨l.length,fun i=>⟨(l.getD i (0,0)).1,(l.getD i (0,0)).2⟩⟩
def CP:Ak:=⟨1,1,0,nF [(0,0),(8,0),(8,4),(4,3),(0,4)]⟩
def D5:Ak:=⟨2,1,0,nF [(0,0),(6,0),(6,2),(0,2)]⟩
def nG :Prop:=True
def nH :SV:=(.agg [.int .i64 CP.id,.int .i64 CP.colour,.int .i64 CP.grain,.sl 2 CP.ol.n (fun i=>[.int .i64 (CP.ol.g i).x,.int .i64 (CP.ol.g i).y])])
def nI:List EV->Option (Prop×SV)
 |[]=>some (nG , nH )
 |_=>none
abbrev nJ:SE.Spec:=(AM nI)
def AgP:Aj:={ cC with muts:=[0] }
theorem AgQ  (hp:nG):vc prog (AgP) (Ae f24) (Ao f24 []) (AL prog f24 (nH )):=
 @Eq.mpr _ (let I:=SV.int .i64;let A1:=(0:Int);(1:Int)=CP.id/\(1:Int)=CP.colour/\A1=CP.grain/\5=5/\∀(i:Nat),i<5->AD [I A1,I A1,I 8,I A1,I 8,I 4,I 4,I 3,I A1,I 4] 2 i = [I (CP.ol.g i).x,I (CP.ol.g i).y]) (by kernel_rfl) (by
 conv=>zeta
 refine⟨rfl,rfl,rfl,rfl,fun i hi=>?_⟩
 match i,hi with
 |0,_=>rfl
 |1,_=>rfl
 |2,_=>rfl
 |3,_=>rfl
 |4,_=>rfl)
theorem AgR:Az prog 24 nJ:=AN func24 (c:=Ae f24) (by kernel_rfl) mixed (fun _ _ _ hs hp=>by
 unfold nI at hs;split at hs
 ·cases hs;exact⟨_,_,AgQ  hp,.nil,⟨show Aa prog _ from Aa.nil,rfl,nz⟩⟩
 ·cases hs)
theorem AgS:An prog 24:=fun _ _=>by kernel_rfl
def nK :Prop:=True
def nL :SV:=(.agg [.int .i64 D5.id,.int .i64 D5.colour,.int .i64 D5.grain,.sl 2 D5.ol.n (fun i=>[.int .i64 (D5.ol.g i).x,.int .i64 (D5.ol.g i).y])])
def nM:List EV->Option (Prop×SV)
 |[]=>some (nK , nL )
 |_=>none
abbrev nN:SE.Spec:=(AM nM)
def AgT:Aj:={ cC with muts:=[0] }
theorem AgU  (hp:nK):vc prog (AgT) (Ae f25) (Ao f25 []) (AL prog f25 (nL )):=
 @Eq.mpr _ (let I:=SV.int .i64;let A1:=(0:Int);(2:Int)=D5.id/\(1:Int)=D5.colour/\A1=D5.grain/\4=4/\∀(i:Nat),i<4->AD [I A1,I A1,I 6,I A1,I 6,I 2,I A1,I 2] 2 i = [I (D5.ol.g i).x,I (D5.ol.g i).y]) (by kernel_rfl) (by
 conv=>zeta
 refine⟨rfl,rfl,rfl,rfl,fun i hi=>?_⟩
 match i,hi with
 |0,_=>rfl
 |1,_=>rfl
 |2,_=>rfl
 |3,_=>rfl)
theorem AgV:Az prog 25 nN:=AN func25 (c:=Ae f25) (by kernel_rfl) mixed (fun _ _ _ hs hp=>by
 unfold nM at hs;split at hs
 ·cases hs;exact⟨_,_,AgU  hp,.nil,⟨show Aa prog _ from Aa.nil,rfl,nz⟩⟩
 ·cases hs)
theorem AgW:An prog 25:=fun _ _=>by kernel_rfl
def nO :Prop:=True
def nP :SV:=.bool true
def nQ:List EV->Option (Prop×SV)
 |[]=>some (nO , nP )
 |_=>none
abbrev nR:SE.Spec:=(AM nQ)
def AgX:Aj:={ cC with specs:=AE [(24,nJ),(25,nN),(26,kY),(27,mK),(28,nE),(10,Rx)] }
theorem AgY  (hp:nO):vc prog (AgX) (Ae f6) (Ao f6 []) (AL prog f6 (nP )):=
 @Eq.mpr _ (let I:=SV.int .i64;let A10:=(1:Int);let A9:=nat_lit 4;let A7:=(L.Sq.mk 5 fun(i:Nat)=>CP.ol.g i);let A6:=nat_lit 2;let A5:=(0:Int);let A4:=[I 9,I A10,I 10,I 6,I A5];let A3:=(∀(i:Nat),i<2->He (AD [I CP.id,I CP.colour,I CP.grain,SV.sl A6 5 fun(i:Nat)=>[I (CP.ol.g i).x,I (CP.ol.g i).y],I D5.id,I D5.colour,I D5.grain,SV.sl A6 A9 fun(i:Nat)=>[I (D5.ol.g i).x,I (D5.ol.g i).y]] A9 i));let A2:=(L.Sq.mk A6 fun(i:Nat)=>Dp (AD [I CP.id,I CP.colour,I CP.grain,SV.sl A6 5 fun(i:Nat)=>[I (CP.ol.g i).x,I (CP.ol.g i).y],I D5.id,I D5.colour,I D5.grain,SV.sl A6 A9 fun(i:Nat)=>[I (D5.ol.g i).x,I (D5.ol.g i).y]] A9 i));let A1:=(A3/\Gq A2);True/\True/\A1/\A1/\(A3/\(∀(i:Nat),i<1->A4=A4)/\Gq A2/\Sl (L.Sq.mk 1 fun(i:Nat)=>AF.mk (9:Int) A10 (10:Int) (6:Int) A5))/\(A5<=A5/\A5<(↑A6:Int))/\((∀(i:Nat),let A8:=[I (CP.ol.g i).x,I (CP.ol.g i).y];i<5->A8=A8)/\5<=1000000/\(Am A7=true->KN A7))/\(true=true->A5<=A10/\A10<(↑A9:Int))/\(false=true->false=true)/\(false=false->(A5<=A10/\A10<(↑A6:Int))/\(true=true->A5<=A5/\A5<(↑(nat_lit 1):Int))/\true=true)) (by kernel_rfl) (by
 conv=>zeta
 have ok:∀(g:Nat->List SV),g 0 = [.int .i64 CP.id,.int .i64 CP.colour,.int .i64 CP.grain,.sl 2 5 fun(i:Nat)=>[.int .i64 (CP.ol.g i).x,.int .i64 (CP.ol.g i).y]]->g 1 = [.int .i64 D5.id,.int .i64 D5.colour,.int .i64 D5.grain,.sl 2 4 fun(i:Nat)=>[.int .i64 (D5.ol.g i).x,.int .i64 (D5.ol.g i).y]]->(∀i,i<2->He (g i))/\Gq ⟨2,fun i=>Dp (g i)⟩:=fun g h0 h1=>by
  have two:∀i:Nat,i<2->i=0\/i=1:=fun i hi=>by omega
  refine⟨fun i hi=>?_,.inl (show 2<=4 by decide),show 2<=1000000 by decide,fun i hi=>?_⟩
  ·rcases two i hi with rfl|rfl
   ·rw[h0];exact fun _ _=>rfl
   ·rw[h1];exact fun _ _=>rfl
  ·rcases two i hi with rfl|rfl
   ·show(Dp (g 0)).ol.n<=1000000;rw[h0];show 5<=1000000;decide
   ·show(Dp (g 1)).ol.n<=1000000;rw[h1];show 4<=1000000;decide
 have e1:(Cz CP.ol).n=1:=by kernel_rfl
 have e2:(Cz CP.ol).g 0=⟨2,4,8⟩:=by kernel_rfl
 have pk:KN CP.ol:=fun i hi=>by
  rw[e1]at hi;obtain rfl:i=0:=by omega
  rw[e2];show(((0:Int)<=2/\(2:Int)<5)/\((0:Int)<=4/\(4:Int)<5)/\(2:Int)≠4);decide
 refine⟨trivial,trivial,ok _ rfl rfl,ok _ rfl rfl,⟨(ok _ rfl rfl).1,zr,(ok _ rfl rfl).2,.inl (show 1<=4 by decide),show 1<=1000000 by decide⟩,by decide,⟨zr,by decide,fun _=>pk⟩,fun _=>(by decide),fun h=>(by cases h),fun _=>⟨by decide,fun _=>(by decide),rfl⟩⟩)
theorem AgZ:Az prog 6 nR:=AN func6 (c:=Ae f6) (by kernel_rfl) mixed (fun _ _ _ hs hp=>by
 unfold nQ at hs;split at hs
 ·cases hs;exact⟨_,_,AgY  hp,.nil,⟨show Aa prog _ from(Aa.cons AgR AgS (Aa.cons AgV AgW (Aa.cons Af5 Af6 (Aa.cons Agy Agz (Aa.cons AgN AgO (Aa.cons cM cN Aa.nil)))))),rfl,nz⟩⟩
 ·cases hs)
theorem Aha:An prog 6:=fun _ _=>by kernel_rfl
def F4:List SV->BB
 |[.int _ a,.int _ b,.int _ c,.sl _ n g]=>⟨a,b,c,⟨n,fun i=>Ad (g i)⟩⟩
 |_=>⟨0,0,0,⟨0,fun _=>⟨0,0⟩⟩⟩
def MI:List SV->Prop
 |[.int .i64 _,.int .i64 _,.int .i64 _,.sl 2 n g]=>∀i,i<n->g i = [.int .i64 (Ad (g i)).x,.int .i64 (Ad (g i)).y]
 |_=>False
theorem Sm {l:List SV} (h:MI l):l.length=4/\∀j,j<4->Ba (SV.at l j) (SV.at [.int .i64 (F4 l).sheet,.int .i64 (F4 l).kind,.int .i64 (F4 l).want,.sl 2 (F4 l).pts.n (fun i=>[.int .i64 ((F4 l).pts.g i).x,.int .i64 ((F4 l).pts.g i).y])] j):=by
 unfold MI at h;split at h
 ·rename_i a b c n g;refine⟨rfl,fun j hj=>?_⟩
  match j,hj with
  |0,_=>exact .refl _
  |1,_=>exact .refl _
  |2,_=>exact .refl _
  |3,_=>exact .sl h
 ·exact h.elim
theorem nS {n:Nat} {g:Nat->List SV} (h:∀i,i<n->MI (g i)):Ba (.sl 4 n g) (.sl 4 n (fun i=>[.int .i64 (F4 (g i)).sheet,.int .i64 (F4 (g i)).kind,.int .i64 (F4 (g i)).want,.sl 2 (F4 (g i)).pts.n (fun i1=>[.int .i64 ((F4 (g i)).pts.g i1).x,.int .i64 ((F4 (g i)).pts.g i1).y])])):=
 .sl2 (fun i hi=>by rw[(Sm (h i hi)).1];rfl) (fun i hi j hj=>(Sm (h i hi)).2 j (by rw[(Sm (h i hi)).1]at hj;exact hj))
def Hj (a b:BB):Bool:=decide (a.sheet=b.sheet)&&(decide (a.kind=b.kind)&&(decide (a.want=b.want)&&Hd a.pts b.pts))
def HC (a b:L.Sq BB):Bool:=bif !decide ((a.n:Int)=(b.n:Int))then false else Ch a.n fun i=>Hj (a.g i) (b.g i)
theorem Ahb (a:L.Sq L.Pt):Hd a a=true:=by
 unfold Hd;rw[decide_eq_true rfl];refine C8.2 fun i _=>?_;unfold Bh;simp
theorem Ahc {a b:L.Sq BB} (h:a.n=b.n) (hg:∀i,i<a.n->a.g i=b.g i):HC a b=true:=by
 unfold HC;rw[decide_eq_true (by rw[h])];refine C8.2 fun i hi=>?_;rw[hg i hi];unfold Hj;rw[Ahb];simp
def IZ (a b:Bt):Bool:=decide (a.a=b.a)&&(decide (a.b=b.b)&&decide (a.c=b.c))
def HD (a b:L.Sq Bt):Bool:=bif decide ((a.n:Int)=b.n)then Ch a.n (fun i=>IZ (a.g i) (b.g i))else false
theorem Ahd (a:L.Sq Bt):HD a a=true:=by
 unfold HD;rw[decide_eq_true rfl];exact C8.2 fun i _=>by unfold IZ;simp
theorem Ahe (l:L.Sq L.Pt) (p:AG) (b:Int):(Dg l p b).n<=1000000:=by
 unfold Dg
 by_cases h:Dw l p b=0
 ·rw[decide_eq_true h,cond_true];have hv:Am l=true:=by
   cases hv:Am l with
   |true=>rfl
   |false=>unfold Dw at h;rw[hv]at h;exact absurd h (by show ¬ (1:Int)=0;decide)
  have hh:Hg l p=true:=by
   cases hh:Hg l p with
   |true=>rfl
   |false=>unfold Dw at h;rw[hv,hh]at h;cases hw:AI b 0 4096<;>rw[hw]at h<;>exact absurd h (by show ¬ (1:Int)=0;decide)
  rw[<- RA hv p,EO]at hh;obtain⟨i,hi,e⟩:=hh;have:=O3 hv (b:=b) hi;rw[<- M9 e];show(Cj l b i).length<=_;omega
 ·rw[decide_eq_false h];exact rH _
theorem Ahf (l:L.Sq L.Pt) (b:Int):E3 l b<=1000000:=by
 unfold E3
 by_cases h:DW l b=0
 ·rw[decide_eq_true h,cond_true];have hv:Am l=true:=by
   cases hv:Am l with
   |true=>rfl
   |false=>unfold DW CO at h;rw[hv]at h;exact absurd h (by show ¬ (1:Int)=0;decide)
  have:=(RE hv b).1;omega
 ·rw[decide_eq_false h];exact rH _
theorem Ahg (l:L.Sq L.Pt) (i:Nat):BA l i<=1000000:=by unfold BA;cases decide (i<BP l)<;>decide
def nT (a:L.Sq L.Pt) (b:L.Sq L.Pt):Prop:=a.n<=1000000
def nU (a:L.Sq L.Pt) (b:L.Sq L.Pt):SV:=.bool (Hd a b)
def nV:List EV->Option (Prop×SV)
 |[.p (.sl 2 a_n a_g),.p (.sl 2 b_n b_g)]=>some ((∀i,i<a_n->a_g i = [.int .i64 (Ad (a_g i)).x,.int .i64 (Ad (a_g i)).y])/\(∀i,i<b_n->b_g i = [.int .i64 (Ad (b_g i)).x,.int .i64 (Ad (b_g i)).y])/\nT ⟨a_n,fun i=>Ad (a_g i)⟩ ⟨b_n,fun i=>Ad (b_g i)⟩,nU ⟨a_n,fun i=>Ad (a_g i)⟩ ⟨b_n,fun i=>Ad (b_g i)⟩)
 |_=>none
abbrev nW:SE.Spec:=(AM nV)
def Ahh:Aj:={ muts:=[],frz:=B9 [],specs:=AE [],loops:=fun _=>none,iters:=BG [],rfs:=AQ [],nils:=B3 [] }
theorem Ahi (a:L.Sq L.Pt) (b:L.Sq L.Pt) (hp:nT a b):vc prog ({ Ahh with loops:=AT [(4,{ T:=Nat,keep:=[0,1],keepO:=[],chg:=fun i=>[(5,.p (.int .i64 (i:Int)))],own:=fun _=>[],inv:=fun i=>i<=a.n/\∀j,j<i->Bh (a.g j) (b.g j)=true,mu:=fun i=>a.n-i })]}) (Ae f52) (Ao f52 [.p (.sl 2 a.n (fun i=>[.int .i64 (a.g i).x,.int .i64 (a.g i).y])),.p (.sl 2 b.n (fun i=>[.int .i64 (b.g i).x,.int .i64 (b.g i).y]))]) (AL prog f52 (nU a b)):=
 @Eq.mpr _ (let I:=SV.int .i64;let T:=AhD;let A4:=(↑a.n:Int);let A3:=(!decide (A4=(↑b.n:Int)));(A3=true->false=Hd a b)/\(A3=false->(∃(g:Nat),0=(↑g:Int)/\g<=a.n/\∀(j:Nat),j<g->Bh (a.g j) (b.g j)=true)/\∀(g:Nat),let A2:=(↑g:Int);let A1:=(!(decide ((a.g (T A2)).x=(b.g (T A2)).x)&&decide ((a.g (T A2)).y=(b.g (T A2)).y)));(g<=a.n/\∀(j:Nat),j<g->Bh (a.g j) (b.g j)=true)->(decide (A2<A4)=true->(0<=A2/\A2<A4)/\(0<=A2/\A2<(↑b.n:Int))/\(A1=true->false=Hd a b)/\(A1=false->Ab .i64 (A2+(1:Int))/\∃(g':Nat),A2+1=(↑g':Int)/\(a.n=a.n/\∀(i:Nat),let A5:=[I (a.g i).x,I (a.g i).y];i<a.n->A5=A5)/\(b.n=b.n/\∀(i:Nat),let A6:=[I (b.g i).x,I (b.g i).y];i<b.n->A6=A6)/\(g'<=a.n/\∀(j:Nat),j<g'->Bh (a.g j) (b.g j)=true)/\a.n-g'<a.n-g))/\(decide (A2<A4)=false->true=Hd a b))) (by kernel_rfl) (by
 conv=>zeta
 have ha:a.n<=1000000:=hp;refine⟨fun h=>?_,fun h=>?_⟩
 ·unfold Hd;rw[CC h];rfl
 have hd:=B5 h;have hn:=of_decide_eq_true hd;refine⟨⟨(0:Nat),rfl,rH _,fun j hj=>absurd hj (oE _)⟩,fun g hg=>⟨fun hlt=>?_,fun hge=>?_⟩⟩
 ·have hb:(g:Int)<(a.n:Int):=of_decide_eq_true hlt;have e0:((g:Int)).toNat=g:=by omega
  rw[e0];refine⟨by omega,by omega,fun h1=>?_,fun h1=>?_⟩
  ·have h1:Bh (a.g g) (b.g g)=false:=CC h1;unfold Hd;rw[hd,G6 (i:=g) (by omega) h1];rfl
  ·have h1:Bh (a.g g) (b.g g)=true:=B5 h1;exact⟨jK,g+1,by omega,rz,rz,⟨by omega,fun j hj=>by
    rcases Ah6.1 hj with h'|rfl
    ·exact hg.2 j h'
    ·exact h1⟩,by omega⟩
 ·have hb:¬ (g:Int)<(a.n:Int):=of_decide_eq_false hge;unfold Hd;rw[hd,C8.2 (fun i hi=>hg.2 i (by omega))];rfl)
theorem Ahj:Az prog 52 nW:=AN func52 (c:=Ae f52) (by kernel_rfl) mixed (fun _ _ _ hs hp=>by
 unfold nV at hs;split at hs
 ·cases hs;exact⟨_,_,Ahi _ _ hp.2.2,(.p (.sl hp.1) (.p (.sl hp.2.1) .nil)),⟨show Aa prog _ from Aa.nil,rfl,nz⟩⟩
 ·cases hs)
theorem Ahk:An prog 52:=fun _ _=>by kernel_rfl
def nX (a:L.Sq Bt) (b:L.Sq Bt):Prop:=a.n<=1000000
def nY (a:L.Sq Bt) (b:L.Sq Bt):SV:=.bool (HD a b)
def nZ:List EV->Option (Prop×SV)
 |[.p (.sl 3 a_n a_g),.p (.sl 3 b_n b_g)]=>some ((∀i,i<a_n->a_g i = [.int .i64 (FT (a_g i)).a,.int .i64 (FT (a_g i)).b,.int .i64 (FT (a_g i)).c])/\(∀i,i<b_n->b_g i = [.int .i64 (FT (b_g i)).a,.int .i64 (FT (b_g i)).b,.int .i64 (FT (b_g i)).c])/\nX ⟨a_n,fun i=>FT (a_g i)⟩ ⟨b_n,fun i=>FT (b_g i)⟩,nY ⟨a_n,fun i=>FT (a_g i)⟩ ⟨b_n,fun i=>FT (b_g i)⟩)
 |_=>none
abbrev oC:SE.Spec:=(AM nZ)
def Ahl:Aj:={ muts:=[],frz:=B9 [],specs:=AE [],loops:=fun _=>none,iters:=BG [],rfs:=AQ [],nils:=B3 [] }
theorem Ahm (a:L.Sq Bt) (b:L.Sq Bt) (hp:nX a b):vc prog ({ Ahl with loops:=AT [(4,{ T:=Nat,keep:=[0,1],keepO:=[],chg:=fun i=>[(5,.p (.int .i64 (i:Int)))],own:=fun _=>[],inv:=fun i=>i<=a.n/\∀j,j<i->IZ (a.g j) (b.g j)=true,mu:=fun i=>a.n-i })]}) (Ae f15) (Ao f15 [.p (.sl 3 a.n (fun i=>[.int .i64 (a.g i).a,.int .i64 (a.g i).b,.int .i64 (a.g i).c])),.p (.sl 3 b.n (fun i=>[.int .i64 (b.g i).a,.int .i64 (b.g i).b,.int .i64 (b.g i).c]))]) (AL prog f15 (nY a b)):=
 @Eq.mpr _ (let I:=SV.int .i64;let T:=AhD;let A6:=(↑a.n:Int);let A3:=(!decide (A6=(↑b.n:Int)));(A3=true->false=HD a b)/\(A3=false->(∃(g:Nat),0=(↑g:Int)/\g<=a.n/\∀(j:Nat),j<g->IZ (a.g j) (b.g j)=true)/\∀(g:Nat),let A2:=(↑g:Int);let A8:=(b.g (T A2));let A7:=(a.g (T A2));let A1:=(!(decide (A7.a=A8.a)&&(decide (A7.b=A8.b)&&decide (A7.c=A8.c))));(g<=a.n/\∀(j:Nat),j<g->IZ (a.g j) (b.g j)=true)->(decide (A2<A6)=true->(0<=A2/\A2<A6)/\(0<=A2/\A2<(↑b.n:Int))/\(A1=true->false=HD a b)/\(A1=false->Ab .i64 (A2+(1:Int))/\∃(g':Nat),A2+1=(↑g':Int)/\(a.n=a.n/\∀(i:Nat),let A4:=[I (a.g i).a,I (a.g i).b,I (a.g i).c];i<a.n->A4=A4)/\(b.n=b.n/\∀(i:Nat),let A5:=[I (b.g i).a,I (b.g i).b,I (b.g i).c];i<b.n->A5=A5)/\(g'<=a.n/\∀(j:Nat),j<g'->IZ (a.g j) (b.g j)=true)/\a.n-g'<a.n-g))/\(decide (A2<A6)=false->true=HD a b))) (by kernel_rfl) (by
 conv=>zeta
 have ha:a.n<=1000000:=hp;refine⟨fun h=>?_,fun h=>?_⟩
 ·unfold HD;rw[CC h];rfl
 have hd:=B5 h;have hn:=of_decide_eq_true hd;refine⟨⟨(0:Nat),rfl,rH _,fun j hj=>absurd hj (oE _)⟩,fun g hg=>⟨fun hlt=>?_,fun hge=>?_⟩⟩
 ·have hb:(g:Int)<(a.n:Int):=of_decide_eq_true hlt;have e0:((g:Int)).toNat=g:=by omega
  rw[e0];refine⟨by omega,by omega,fun h1=>?_,fun h1=>?_⟩
  ·have h1:IZ (a.g g) (b.g g)=false:=CC h1;unfold HD;rw[hd,G6 (i:=g) (by omega) h1];rfl
  ·have h1:IZ (a.g g) (b.g g)=true:=B5 h1;exact⟨jK,g+1,by omega,rz,rz,⟨by omega,fun j hj=>by
    rcases Ah6.1 hj with h'|rfl
    ·exact hg.2 j h'
    ·exact h1⟩,by omega⟩
 ·have hb:¬ (g:Int)<(a.n:Int):=of_decide_eq_false hge;unfold HD;rw[hd,C8.2 (fun i hi=>hg.2 i (by omega))];rfl)
theorem Ahn:Az prog 15 oC:=AN func15 (c:=Ae f15) (by kernel_rfl) mixed (fun _ _ _ hs hp=>by
 unfold nZ at hs;split at hs
 ·cases hs;exact⟨_,_,Ahm _ _ hp.2.2,(.p (.sl hp.1) (.p (.sl hp.2.1) .nil)),⟨show Aa prog _ from Aa.nil,rfl,nz⟩⟩
 ·cases hs)
theorem Aho:An prog 15:=fun _ _=>by kernel_rfl
def oD (a:L.Sq BB) (b:L.Sq BB):Prop:=a.n<=1000000/\∀i,i<a.n->(a.g i).pts.n<=1000000
def oF (a:L.Sq BB) (b:L.Sq BB):SV:=.bool (HC a b)
def oG:List EV->Option (Prop×SV)
 |[.p (.sl 4 a_n a_g),.p (.sl 4 b_n b_g)]=>some ((∀i,i<a_n->MI (a_g i))/\(∀i,i<b_n->MI (b_g i))/\oD ⟨a_n,fun i=>F4 (a_g i)⟩ ⟨b_n,fun i=>F4 (b_g i)⟩,oF ⟨a_n,fun i=>F4 (a_g i)⟩ ⟨b_n,fun i=>F4 (b_g i)⟩)
 |_=>none
abbrev oH:SE.Spec:=(AM oG)
def Ahp:Aj:={ cC with specs:=AE [(52,nW)] }
theorem Ahq (a:L.Sq BB) (b:L.Sq BB) (hp:oD a b):vc prog ({ Ahp with loops:=AT [(4,{ T:=Nat,keep:=[0,1],keepO:=[],chg:=fun i=>[(5,.p (.int .i64 (i:Int)))],own:=fun _=>[],inv:=fun i=>i<=a.n/\∀j,j<i->Hj (a.g j) (b.g j)=true,mu:=fun i=>a.n-i })]}) (Ae f19) (Ao f19 [.p (.sl 4 a.n (fun i=>[.int .i64 (a.g i).sheet,.int .i64 (a.g i).kind,.int .i64 (a.g i).want,.sl 2 (a.g i).pts.n (fun i1=>[.int .i64 ((a.g i).pts.g i1).x,.int .i64 ((a.g i).pts.g i1).y])])),.p (.sl 4 b.n (fun i=>[.int .i64 (b.g i).sheet,.int .i64 (b.g i).kind,.int .i64 (b.g i).want,.sl 2 (b.g i).pts.n (fun i1=>[.int .i64 ((b.g i).pts.g i1).x,.int .i64 ((b.g i).pts.g i1).y])]))]) (AL prog f19 (oF a b)):=
 @Eq.mpr _ (let I:=SV.int .i64;let T:=AhD;let A11:=(↑b.n:Int);let A10:=(0:Int);let A8:=(↑a.n:Int);let A14:=(!decide (A8=A11));(A14=true->false=HC a b)/\(A14=false->(∃(g:Nat),A10=(↑g:Int)/\g<=a.n/\∀(j:Nat),j<g->Hj (a.g j) (b.g j)=true)/\∀(g:Nat),let A6:=(↑g:Int);let A1:=(T A6);let A9
:=(!!decide ((a.g A1).sheet=(b.g A1).sheet));let A7:=(!bif !decide ((a.g A1).sheet=(b.g A1).sheet)then true else !decide ((a.g A1).kind=(b.g A1).kind));let A3:=(bif bif bif !decide ((a.g A1).sheet=(b.g A1).sheet)then true else !decide ((a.g A1).kind=(b.g A1).kind)then true else !decide ((a.g A1).want =
 (b.g A1).want)then true else !Hd (L.Sq.mk (a.g A1).pts.n fun(i:Nat)=>(a.g A1).pts.g i) (L.Sq.mk (b.g A1).pts.n fun(i:Nat)=>(b.g A1).pts.g i));let A2:=(!bif bif !decide ((a.g A1).sheet=(b.g A1).sheet)then true else !decide ((a.g A1).kind=(b.g A1).kind)then true else !decide ((a.g A1).want=(b.g A1).want));(g<=a.n/\∀(j:Nat),
 j<g->Hj (a.g j) (b.g j)=true)->(decide (A6<A8)=true->(A10<=A6/\A6<A8)/\(A10<=A6/\A6<A11)/\(A9=true->A10<=A6/\A6<A8)/\(A9=true->A10<=A6/\A6<A11)/\(A7=true->A10<=A6/\A6<A8)/\(A7=true->A10<=A6/\A6<A11)/\(A2=true->A10<=A6/\A6<A8)/\(A2=true->A10<=A6/\A6<A11)/\(A2=true->(∀(i
:Nat),let A12:=((a.g A1).pts.g i);i<(a.g A1).pts.n -> [I A12.x,I A12.y]= [I A12.x,I A12.y])/\(∀(i:Nat),let A13:=((b.g A1).pts.g i);i<(b.g A1).pts.n -> [I A13.x,I A13.y]= [I A13.x,I A13.y])/\(a.g A1).pts.n<=1000000)/\(A3=true->false=HC a b)/\(A3=false->Ab .i64 (A6+(1:Int))/\∃(g':Nat),A6+1=(↑g':Int)
 /\ (a.n=a.n/\∀(i:Nat),let A4:=[I (a.g i).sheet,I (a.g i).kind,I (a.g i).want,SV.sl 2 (a.g i).pts.n fun(i1:Nat)=>[I ((a.g i).pts.g i1).x,I ((a.g i).pts.g i1).y]];i<a.n->A4=A4)/\(b.n=b.n/\∀(i:Nat),let A5:=[I (b.g i).sheet,I (b.g i).kind,I (b.g i).want,SV.sl 2 (b.g i).pts.n fun(i1:Nat)=>[I ((b.g i).pts.g i1).x,I ((b.g i).pts.g
 i1).y]];i<b.n->A5=A5)/\(g'<=a.n/\∀(j:Nat),j<g'->Hj (a.g j) (b.g j)=true)/\a.n-g'<a.n-g))/\(decide (A6<A8)=false->true=HC a b))) (by kernel_rfl) (by
  conv=>zeta
  obtain⟨hn,hq⟩:=(show a.n<=1000000/\∀i,i<a.n->(a.g i).pts.n<=1000000 from hp);have ce:∀d1 d2 d3 d4:Bool,(bif bif bif !d1 then true else !d2 then true else !d3 then true else !d4)= !(d1&&(d2&&(d3&&d4))):=by decide
  refine⟨fun h=>?_,fun h=>?_⟩
  ·unfold HC;rw[h];rfl
  have e:HC a b=Ch a.n fun i=>Hj (a.g i) (b.g i):=by unfold HC;rw[h];rfl
  have hab:(a.n:Int)=(b.n:Int):=of_decide_eq_true (B5 h);rw[e];refine⟨⟨0,rfl,rH _,fun j hj=>absurd hj (oE _)⟩,fun k hk=>⟨fun hc=>?_,fun hc=>?_⟩⟩
  ·have hc:(k:Int)<(a.n:Int):=of_decide_eq_true hc;have e0:((k:Int)).toNat=k:=Ah7 k;have k1:Ab .i64 ((k:Int)+1):=jK;have g1:k+1<=a.n:=by omega
   have g2:a.n-(k+1)<a.n-k:=by omega
   have cn:(k:Int)+1=((k+1:Nat):Int):=by omega
   rw[e0];have ca:0<=(k:Int)/\(k:Int)<(a.n:Int):=by omega
   have cb:0<=(k:Int)/\(k:Int)<(b.n:Int):=by omega
   refine⟨ca,cb,fun _=>ca,fun _=>cb,fun _=>ca,fun _=>cb,fun _=>ca,fun _=>cb,fun _=>⟨zr,zr,hq k g1⟩,fun h1=>?_,fun h1=>⟨k1,k+1,?_⟩⟩<;>rw[ce]at h1
   ·have h1:Hj (a.g k) (b.g k)=false:=CC h1;exact(G6 (i:=k) (f:=fun i=>Hj (a.g i) (b.g i)) g1 h1).symm
   ·have h1:Hj (a.g k) (b.g k)=true:=B5 h1;have nx:∀j,j<k+1->Hj (a.g j) (b.g j)=true:=fun j hj=>by
     rcases Ah6.1 hj with h|rfl
     ·exact hk.2 j h
     ·exact h1
    exact(by(try dsimp only);(repeat' with_reducible apply And.intro)<;>first|(with_reducible first|rfl|assumption|(intros;exact rfl)|exact trivial)|(intros;exact rfl)|exact cn|exact nx|exact g1|exact g2|exact trivial|(intro _ h_;exact absurd h_ (oE _)))
  ·have hc:¬ (k:Int)<(a.n:Int):=of_decide_eq_false hc;exact(C8.2 fun i hi=>hk.2 i (by omega)).symm)
theorem Ahr:Az prog 19 oH:=AN func19 (c:=Ae f19) (by kernel_rfl) mixed (fun _ _ _ hs hp=>by
 unfold oG at hs;split at hs
 ·cases hs;exact⟨_,_,Ahq _ _ hp.2.2,(.p (nS hp.1) (.p (nS hp.2.1) .nil)),⟨show Aa prog _ from(Aa.cons Ahj Ahk Aa.nil),rfl,nz⟩⟩
 ·cases hs)
theorem Ahs:An prog 19:=fun _ _=>by kernel_rfl
def oI (l:L.Sq L.Pt) (p:AG) (u:L.Pt) (m:L.Pt) (v:L.Pt) (bite:Int):Prop:=l.n<=9223372036854775807
def oJ (l:L.Sq L.Pt) (p:AG) (u:L.Pt) (m:L.Pt) (v:L.Pt) (bite:Int):SV:=.bool true
def OL:List EV->Option (Prop×SV)
 |[.p (.sl 2 l_n l_g),.p (.agg [.int .i64 p_fr,.int .i64 p_to_,.int .i64 p_area]),.p (.agg [.int .i64 u_x,.int .i64 u_y]),.p (.agg [.int .i64 m_x,.int .i64 m_y]),.p (.agg [.int .i64 v_x,.int .i64 v_y]),.p (.int .i64 bite)]=>some ((∀i,i<l_n->l_g i = [.int .i64 (Ad (l_g i)).x,.int .i64 (Ad (l_g i)).y])/\oI ⟨l_n,fun i=>Ad (l_g i)⟩ (⟨p_fr,p_to_,p_area⟩:AG) (⟨u_x,u_y⟩:L.Pt) (⟨m_x,m_y⟩:L.Pt) (⟨v_x,v_y⟩:L.Pt) bite,oJ ⟨l_n,fun i=>Ad (l_g i)⟩ (⟨p_fr,p_to_,p_area⟩:AG) (⟨u_x,u_y⟩:L.Pt) (⟨m_x,m_y⟩:L.Pt) (⟨v_x,v_y⟩:L.Pt) bite)
 |_=>none
abbrev Aht:SE.Spec:=(AM OL)
def Ahu:Aj:={ cC with specs:=AE [(6,nR),(11,dE),(13,eE),(10,Rx),(14,fQ),(15,oC),(9,dR),(16,fZ),(17,hJ),(18,iD),(19,oH)] }
theorem Ahv (l:L.Sq L.Pt) (p:AG) (u:L.Pt) (m:L.Pt) (v:L.Pt) (bite:Int) (hp:oI l p u m v bite):vc prog (Ahu) (Ae f4) (Ao f4 [.p (.sl 2 l.n (fun i=>[.int .i64 (l.g i).x,.int .i64 (l.g i).y])),.p (.agg [.int .i64 p.fr,.int .i64 p.to_,.int .i64 p.area]),.p (.agg [.int .i64 u.x,.int .i64 u.y]),.p (.agg [.int .i64 m.x,.int .i64 m.y]),.p (.agg [.int .i64 v.x,.int .i64 v.y]),.p (.int .i64 bite)]) (AL prog f4 (oJ l p u m v bite)):=
  @Eq.mpr _ (let I:=SV.int .i64;let T:=AhD;let A21:=(1:Int);let A16:=(1000000:Nat);let A14:=(0:Int);let A17:=(bif DN u m v bite then A21 else A14);let A13:=(bif DN u m v bite then false else DV u m v bite);let A10:=(∀(i:Nat),let A22:=[I (l.g i).x,I (l.g i).y];i<l.n->A22=A22);let A5:=(A10/\l.n<=A16);let A4:=(∀(i:Nat),
 let A11:=(L.Sq.mk l.n fun(i:Nat)=>l.g i);i<E3 A11 bite->∀(i_1:Nat),let A8:=(l.g (T (Bo A11 bite i i_1)));i_1<BA A11 i -> [I A8.x,I A8.y]= [I A8.x,I A8.y]);let A3:=(∀(i:Nat),let A6:=(Dg (L.Sq.mk l.n fun(i:Nat)=>l.g i) p bite);let A19:=[I (A6.g i).a,I (A6.g i).b,I (A6.g i).c];i<A6.n->A19=A19);let A1:=(L.Sq.mk l.n fun(i:Nat)=>l.g i);
 let A18:=(bif CO A1 bite then A21 else A14);let A15:=(bif CO A1 bite then false else Cm A1 bite);let A9:=(L.Sq.mk (Dg A1 p bite).n fun(i:Nat)=>(Dg (L.Sq.mk l.n fun(i:Nat)=>l.g i) p bite).g i);let A7:=(L.Sq.mk (E3 A1 bite) fun(i:Nat)=>let A12:=(L.Sq.mk l.n fun(i:Nat)=>l.g i);BB.mk A14 (Cf A12 i) A14 (L.Sq.mk (BA A12 i) fun(i_1
:Nat)=>l.g (T (Bo A12 bite i i_1))));let A2:=(bif bif bif !A13 == bif DN u m v bite then false else DV u m v bite then true else !decide (A17=bif DN u m v bite then A21 else A14)then true else !decide (Dw A1 p bite=Dw A1 p bite)then true else !HD A9 A9);True/\(decide (60<(↑l.n:Int)) =
 true->true=true)/\(decide (60<(↑l.n:Int))=false->True/\True/\(A10/\l.n<=A16/\(Am A1=true->KN A1))/\A5/\((!bif bif !A13 == bif DN u m v bite then false else DV u m v bite then true else !decide (A17=bif DN u m v bite then A21 else A14)then true else !decide (Dw A1
 p bite=Dw A1 p bite))=true->A3/\A3/\(Dg A1 p bite).n<=A16)/\(A2=true->false=true)/\(A2=false->A5/\A5/\A5/\A5/\((bif bif bif true then A15 == bif CO A1 bite then false else Cm A1 bite else false then decide (A18=bif CO A1 bite then A21 else A14)else false then decide (DW A1 bite =
 DW A1 bite)else false)=true->A4/\A4/\E3 A1 bite<=A16/\∀(i:Nat),let A20:=(L.Sq.mk l.n fun(i:Nat)=>l.g i);i<E3 A20 bite->BA A20 i<=A16)/\(bif bif bif bif true then A15 == bif CO A1 bite then false else Cm A1 bite else false then decide (A18=bif CO A1 bite then A21 else A14)else false then decide
 (DW A1 bite=DW A1 bite)else false then HC A7 A7 else false)=true))) (by kernel_rfl) (by
  conv=>zeta
  refine⟨trivial,fun _=>rfl,fun h=>?_⟩;have h:=of_decide_eq_false h;have ln:l.n<=1000000:=by omega
  refine⟨trivial,trivial,⟨zr,ln,fun hv=>cT hv⟩,⟨zr,ln⟩,fun _=>⟨zr,zr,Ahe l p bite⟩,fun h2=>?_,fun _=>⟨⟨zr,ln⟩,⟨zr,ln⟩,⟨zr,ln⟩,⟨zr,ln⟩,fun _=>⟨fun _ _ _ _=>rfl,fun _ _ _ _=>rfl,Ahf l bite,fun i _=>Ahg l i⟩,?_⟩⟩
  ·rw[Ahd]at h2;simp at h2
  ·rw[Ahc rfl fun _ _=>rfl];simp)
theorem Ahw:Az prog 4 Aht:=AN func4 (c:=Ae f4) (by kernel_rfl) mixed (fun _ _ _ hs hp=>by
 unfold OL at hs;split at hs
 ·cases hs;exact⟨_,_,Ahv _ _ _ _ _ _ hp.2,(.p (.sl hp.1) (.same _ (.same _ (.same _ (.same _ (.same _ .nil)))))),⟨show Aa prog _ from(Aa.cons AgZ Aha (Aa.cons AcI AcJ (Aa.cons Adj Adk (Aa.cons cM cN (Aa.cons Ad9 AdA (Aa.cons Ahn Aho (Aa.cons AcS AcT (Aa.cons AdF AdG (Aa.cons Ael Aem (Aa.cons Aep Aeq (Aa.cons Ahr Ahs Aa.nil))))))))))),rfl,nz⟩⟩
 ·cases hs)
end Go.Proofs.YtdkpcdlnfobnnaaGreat
