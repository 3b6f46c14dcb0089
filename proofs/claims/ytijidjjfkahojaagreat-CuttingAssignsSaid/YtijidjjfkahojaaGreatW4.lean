/- A symbolic walk over the model, and what it shows of functions of the program: parts of the proof that the text of the row joins. -/
import Derived.Test.YtijidjjfkahojaaGreatW3
import Derived.Test.YtijidjjfkahojaaGreatE5
import Derived.KernelRfl
import Derived.Test.YtijidjjfkahojaaGreatW1
open List renaming getD_eq_getElem?_getD->AS,getElem?_eq_getElem->AdH,mem_cons_of_mem->AdJ,mem_cons_self->AdM,all_eq_true->AdO,range->AdP,mem_range->AdQ,mem_singleton->AdY,length_append->Aei,foldl_cons->Aew,length_singleton->AeB,findSome?_eq_none_iff->AeX,range_succ->Afb,find?_eq_none->Afp
open Nat renaming not_lt_zero->nT,zero_le->AdL,le_refl->AdS,lt_succ_iff_lt_or_eq->AdZ,le_trans->Aeu,sub_self->Afc
open Bool renaming and_eq_true->oE,and_eq_true_iff->Afg
open Option renaming none->AdV,map_some->AeH,map_eq_none_iff->Aff
open Int renaming toNat_natCast->Aea,natCast_nonneg->Aec,toNat->Aee,le_of_lt->Ae4
open Option.some renaming injEq->AeJ
namespace Go.Proofs.YtijidjjfkahojaaGreat
open Go.SE Go.RowKit
set_option maxRecDepth 100000
set_option maxHeartbeats 4000000
set_option linter.unusedVariables false
attribute [local irreducible] vc
def JW (n:Nat) (l:List Int):Prop:=∀x,x∈l->0<=x/\x<(n:Int)
theorem ZP (w:L.Sq Ab) (s:L.Sq Ah):∀(f i:Nat) (A:List Int) (sum:Int) (G:Nat->Int) (st:BI),JW s.n A->JW s.n st.bt->JW s.n (DN w s f i A sum G st).bt
 |0,_,_,_,_,_,_,h=>h
 |f+1,i,A,sum,G,st,hA,h=>by
   rw[DN];split
   ·exact h
   ·split
    ·exact hA
    ·have key : ∀(l : List Nat) (st : BI), (∀k, k∈l->k<s.n)->JW s.n st.bt->JW s.n (l.foldl (fun st k =>bif FI w s G i k then st else DN w s f (i+1) (Br A k) (sum+CU s G k) (Dv G k i) st) st).bt :=fun l =>by
      induction l with
      |nil=>intro st _ h;exact h
      |cons k l ih =>
        intro st hl h;rw[Aew];refine ih _ (fun k hk=>hl k (AdJ _ hk)) ?_;cases FI w s G i k with
        |true=>exact h
        |false =>
          refine ZP w s f _ _ _ _ _ (fun x hx=>?_) h;unfold Br at hx;rcases List.mem_append.1 hx with hx|hx
          ·exact hA x hx
          ·have:=hl k (AdM ..);rw[AdY.1 hx];omega
     exact key _ st (fun k hk=>AdQ.1 hk) h
theorem Abh (w:L.Sq Ab) (s:L.Sq Ah) {i:Nat} (hi:i<(Am (B5 w s).bt).n):0<=(Am (B5 w s).bt).g i/\(Am (B5 w s).bt).g i<(s.n:Int):=by
 have h:JW s.n (B5 w s).bt:=ZP w s _ _ _ _ _ _ (fun x hx=>by cases hx) (fun x hx=>by cases hx);have hi:i<(B5 w s).bt.length:=hi;have e:(Am (B5 w s).bt).g i=(B5 w s).bt[i]:=by
  show(B5 w s).bt.getD i 0=_;rw[AS,AdH hi];rfl
 rw[e];exact h _ (List.getElem_mem hi)
theorem ZQ (w:L.Sq Ab) (s:L.Sq Ah):∀(f i:Nat) (A:List Int) (sum:Int) (G:Nat->Int) (st:BI),A.length=i->(st.bt.length=0\/st.bt.length=w.n)->(DN w s f i A sum G st).bt.length=0\/(DN w s f i A sum G st).bt.length=w.n
 |0,_,_,_,_,_,_,h=>h
 |f+1,i,A,sum,G,st,hA,h=>by
   rw[DN];split
   ·exact h
   ·split
    ·rename_i e;exact .inr (hA.trans e)
    ·have key : ∀(l : List Nat) (st : BI), (st.bt.length = 0\/st.bt.length = w.n)->((l.foldl (fun st k =>bif FI w s G i k then st else DN w s f (i+1) (Br A k) (sum+CU s G k) (Dv G k i) st) st).bt.length = 0\/(l.foldl (fun st k =>bif FI w s G i k then st else DN w s f (i+1) (Br A k) (sum+CU s G k) (Dv G k i) st) st).bt.length = w.n):=fun l =>by
      induction l with
      |nil=>intro st h;exact h
      |cons k l ih =>
        intro st h;rw[Aew];refine ih _ ?_;cases FI w s G i k with
        |true=>exact h
        |false=>exact ZQ w s f _ _ _ _ _ (by unfold Br;simp[hA]) h
     exact key _ st h
theorem ZR (w:L.Sq Ab) (s:L.Sq Ah):(Am (B5 w s).bt).n<=w.n:=by
 have:=ZQ w s (w.n+1-0) 0 [] 0 (fun _=>0) JV rfl (.inl rfl);have:(B5 w s).bt.length=0\/(B5 w s).bt.length=w.n:=this;show(B5 w s).bt.length<=w.n;omega
def FJ (s:L.Sq Ah):Prop:=(s.n<=4\/7<s.n)/\s.n<=1000000
def DA (w:L.Sq Ab) (s:L.Sq Ah):Int:=bif !decide (Bq w s true=0)then Bq w s true else bif !(B5 w s).fd then 52 else 0
def Dx (w:L.Sq Ab) (s:L.Sq Ah):Nat:=bif decide (DA w s=0)then(Am (B5 w s).bt).n else 0
def Ff (w:L.Sq Ab) (s:L.Sq Ah):Int:=bif decide (DA w s=0)then(B5 w s).ls else 0
def Fx (w:L.Sq Ab) (s:L.Sq Ah) (i:Nat):Int:=(s.g ((Am (B5 w s).bt).g i).toNat).id
theorem Qf {s:L.Sq Ah} (h:D2 s=true):∀i,i<s.n->Bo (s.g i)=true:=fun i hi=>by
 have:=Dk.1 h i hi;simp only[Bool.not_eq_true']at this;unfold C9 at this;cases h1:Bo (s.g i)
 ·simp only[h1]at this;cases this
 ·rfl
section
attribute [local irreducible] Dr Dw DN B5 CH Ak AU AM
def ZS (w:(L.Sq Ab)) (s:(L.Sq Ah)):Prop:=CI w/\FJ s
def ZT (w:(L.Sq Ab)) (s:(L.Sq Ah)):SV:=.tup [.sl 1 (Dx w s) (fun i=>[.int .i64 (Fx w s i)]),.int .i64 (Ff w s),.int .i64 (DA w s)]
def ZU:List EV->Option (Prop×SV)
 |[.p (.sl 4 w_n w_g),.p (.sl 5 s_n s_g)]=>some ((∀i,i<w_n->Dn (w_g i))/\(∀i,i<s_n->s_g i = [.int .i64 ((AQ (s_g i)).id),.int .i64 ((AQ (s_g i)).colour),.int .i64 ((AQ (s_g i)).w),.int .i64 ((AQ (s_g i)).h),.int .i64 ((AQ (s_g i)).grain)])/\ZS (⟨w_n,fun i=>Bx (w_g i)⟩:(L.Sq Ab)) (⟨s_n,fun i=>AQ (s_g i)⟩:(L.Sq Ah)),ZT (⟨w_n,fun i=>Bx (w_g i)⟩:(L.Sq Ab)) (⟨s_n,fun i=>AQ (s_g i)⟩:(L.Sq Ah)))
 |_=>none
abbrev Qg:SE.Spec:=(AI ZU)
def Abi:Al:={ cC with muts:=[40],frz:=B8 [(12,[40])],specs:=AC [(32,JN)],mks:=DF [(49,IR)],ren:=fun k=>k,nilsL:=B6 [(8,[(4,40,3,1)])] }
theorem Abj (w:(L.Sq Ab)) (s:(L.Sq Ah)) (hp:ZS w s):vc Tryz.prog ({ Abi with loops:=AT [(8,{ T:=Nat,keep:=[1,4,5,27,28],keepO:=[],chg:=fun i=>[(29,.p (.int .i64 (i:Int)))],own:=fun i=>[(40,.row 3 1 i (fun j=>[.int .i64 (Fx w s j)]))],inv:=fun i=>i<=(Am (B5 w s).bt).n,mu:=fun i=>(Am (B5 w s).bt).n-i })],rfs:=AP [] }) (Ai Tryz.f17) (Au Tryz.f17 [.p (.sl 4 w.n (fun i=>[.int .i64 ((w.g i).id),.int .i64 ((w.g i).colour),.int .i64 ((w.g i).grain),.sl 2 (w.g i).ol.n (fun i1=>[.int .i64 (((w.g i).ol.g i1).x),.int .i64 (((w.g i).ol.g i1).y)])])),.p (.sl 5 s.n (fun i=>[.int .i64 ((s.g i).id),.int .i64 ((s.g i).colour),.int .i64 ((s.g i).w),.int .i64 ((s.g i).h),.int .i64 ((s.g i).grain)]))]) (AH Tryz.prog Tryz.f17 (ZT w s)):=
 @Eq.mpr _ (let I:=SV.int .i64;let T:=Aee;let A16:=(0:Nat);let A14:=(1000000:Nat);let A12:=(L.Sq.mk s.n fun(i:Nat)=>s.g i);let A11:=(0:Int);let A4:=(Am (B5 w s).bt);let A2:=(L.Sq.mk w.n fun(i:Nat)=>Ab.mk (w.g i).id (w.g i).colour (w.g i).grain (L.Sq.mk (w.g i).ol.n fun(i_1:Nat)=>(w.g i).ol.g i_1));let A3:=(!decide (Bq A2 A12 true=A11));((∀(i:Nat),i<w.n->∀(i_1:Nat),let A9:=((w.g i).ol.g i_1);i_1<(w.g i).ol.n -> [I A9.x,I A9.y]= [I A9.x,I A9.y])/\(∀(i:Nat),let A5:=[I (s.g i).id,I (s.g i).colour,I (s.g i).w,I (s.g i).h,I (s.g i).grain];i<s.n->A5=A5)/\w.n<=A14/\(∀(i:Nat),i<w.n->(w.g i).ol.n<=A14)/\s.n<=A14)/\(A3=true->Dx w s=A16/\A11=Ff w s/\Bq A2 A12 true=DA w s)/\(A3=false->∃(t:L.Sq Ab×L.Sq Ah),let A7:=(B5 t.1 t.2);let A1:=(Am A7.bt);let A10:=(↑A1.n:Int);(w.n=t.1.n/\∀(i:Nat),let A13:=(t.1.g i);i<w.n -> [I (w.g i).id,I (w.g i).colour,I (w.g i).grain,SV.sl (2:Nat) (w.g i).ol.n fun(i1:Nat)=>[I ((w.g i).ol.g i1).x,I ((w.g i).ol.g i1).y]]= [I A13.id,I A13.colour,I A13.grain,SV.sl (2:Nat) A13.ol.n fun(i1:Nat)=>[I (A13.ol.g i1).x,I (A13.ol.g i1).y]])/\(s.n=t.2.n/\∀(i:Nat),let A15:=(t.2.g i);i<s.n -> [I (s.g i).id,I (s.g i).colour,I (s.g i).w,I (s.g i).h,I (s.g i).grain]= [I A15.id,I A15.colour,I A15.w,I A15.h,I A15.grain])/\(Bv t.1/\t.2.n<=(4:Nat)/\∀(k:Nat),k<t.2.n->Bo (t.2.g k)=true)/\∀(u:Nat),True->((!A7.fd)=true->Dx w s=A16/\A11=Ff w s/\(52:Int)=DA w s)/\((!A7.fd)=false->(∃(g:Nat),A11=(↑g:Int)/\(A16=g/\∀(i:Nat),i<A16 -> []= [I (Fx w s i)])/\g<=A4.n)/\∀(g:Nat),let A8:=(↑g:Int);g<=A4.n->(decide (A8<A10)=true->(A11<=A8/\A8<A10)/\(A11<=A1.g (T A8)/\A1.g (T A8)<(↑s.n:Int))/\(g+nat_lit 1)*nat_lit 8<=(140737488355328:Nat)/\Ad .i64 (A8+(1:Int))/\∃(g':Nat),A8+(1:Int)=(↑g':Int)/\A10=A10/\(A1.n=A1.n/\∀(i:Nat),i<A1.n -> [I (A1.g i)]= [I (A1.g i)])/\A7.ls=A7.ls/\(s.n=s.n/\∀(i:Nat),let A6:=[I (s.g i).id,I (s.g i).colour,I (s.g i).w,I (s.g i).h,I (s.g i).grain];i<s.n->A6=A6)/\(g+nat_lit 1=g'/\∀(i:Nat),i<g+nat_lit 1->AN g (fun(j:Nat)=>[I (Fx w s j)]) (fun(x:Nat)=>[I (s.g (T (A1.g (T A8)))).id]) i = [I (Fx w s i)])/\g'<=A4.n/\A4.n-g'<A4.n-g)/\(decide (A8<A10)=false->(g=Dx w s/\∀(i:Nat),i<g -> [I (Fx w s i)]= [I (Fx w s i)])/\A7.ls=Ff w s/\A11=DA w s)))) (by kernel_rfl) (by
 conv=>zeta
 obtain⟨hw,hs⟩:=(show CI w/\FJ s from hp);have fin:∀e,DA w s=e->e≠0->Dx w s=0/\0=Ff w s/\e=DA w s:=fun e h h0=>⟨by unfold Dx;rw[h,decide_eq_false h0];rfl,by unfold Ff;rw[h,decide_eq_false h0];rfl,h.symm⟩;refine⟨⟨fun _ _ _ _=>rfl,fun _ _=>rfl,hw.2.1,hw.2.2,hs.2⟩,fun h=>?_,fun h=>?_⟩
 ·have h:(!decide (Bq w s true=0))=true:=h;exact fin _ (by unfold DA;rw[h];rfl) (of_decide_eq_false (Cx h))
 ·have h:(!decide (Bq w s true=0))=false:=h;obtain⟨-,v2,-,v4,v5⟩:=Ic (of_decide_eq_true (BW h));have ok:=H1 hw v4;have s4:s.n<=4:=by have:=hs.1;omega
  refine⟨(w,s),⟨rfl,fun _ _=>rfl⟩,⟨rfl,fun _ _=>rfl⟩,⟨ok,s4,Qf v2⟩,fun _ _=>⟨fun h2=>?_,fun h2=>?_⟩⟩
  ·have h2:(!(B5 w s).fd)=true:=h2;exact fin 52 (by unfold DA;rw[h,h2];rfl) (by decide)
  ·have h2:(!(B5 w s).fd)=false:=h2;have e:DA w s=0:=by unfold DA;rw[h,h2];rfl
   have eN:Dx w s=(Am (B5 w s).bt).n:=by unfold Dx;rw[e];rfl
   have eA:Ff w s=(B5 w s).ls:=by unfold Ff;rw[e];rfl
   rw[e,eN,eA];have hl:=ZR w s;have hw4:=ok.1;dsimp only;refine⟨⟨0,rfl,⟨rfl,fun i hi=>absurd hi (nT _)⟩,AdL _⟩,fun g hg=>⟨fun hc=>?_,fun hc=>?_⟩⟩
   ·have hc:(g:Int)<((Am (B5 w s).bt).n:Int):=of_decide_eq_true hc;have hlt:g<(Am (B5 w s).bt).n:=by omega
    have hin:=Abh w s hlt;rw[Aea g];refine⟨⟨Aec _,hc⟩,hin,by show(g+1)*8<=140737488355328;omega,jK,g+1,by omega,rfl,⟨rfl,fun _ _=>rfl⟩,rfl,⟨rfl,fun _ _=>rfl⟩,⟨rfl,fun i hi=>?_⟩,hlt,by omega⟩;unfold AN
    by_cases e:i<g
    ·rw[if_pos e]
    ·rw[if_neg e];obtain rfl:i=g:=by omega
     rfl
   ·have hc:¬ (g:Int)<((Am (B5 w s).bt).n:Int):=of_decide_eq_false hc;exact⟨⟨by omega,fun _ _=>rfl⟩,rfl,rfl⟩)
theorem ZV:Ax Tryz.prog 17 Qg:=AK Tryz.func17 (c:=Ai Tryz.f17) (by kernel_rfl) mixed (fun args p r hs hp=>by
 unfold ZU at hs;split at hs
 ·cases hs;exact⟨_,_,Abj _ _ hp.2.2,(.p (DY hp.1) (.p (.sl hp.2.1) .nil)),⟨show Aa Tryz.prog _ from(Aa.cons Lp Lq Aa.nil),rfl,⟨show Af Tryz.prog _ from Af.nil,⟨AA.no1 (fun _=>rfl),⟨show Bj Tryz.prog _ from(Bj.cons ZO ZN Bj.nil),FamsOk.none (fun _=>rfl)⟩⟩⟩⟩⟩
 ·cases hs)
theorem ZW:As Tryz.prog 17:=fun args w=>by kernel_rfl
end
def FK (w:L.Sq Ab) (c b:Int) (k:Nat):Bool:=CX k fun i=>decide (((Bs w b).g i).colour=c)
def BB (w:L.Sq Ab) (s:L.Sq Ah) (k:Nat) (b:Int):Bool:=DM (Ak w (s.g k).grain b) (s.g k).w (s.g k).h&&FK w (s.g k).colour b (Bs w b).n
def E8 (s:L.Sq Ah) (gs:List Int) (i k:Nat):List Int:=((AdP k).filter fun j=>CA (gs.getD j 0) i).map fun j=>(s.g j).id
def BC (s:L.Sq Ah) (gs:List Int) (i:Nat):List Int:=(AdP i).flatMap fun j=>E8 s gs j gs.length
def E9 (s:L.Sq Ah) (gs:List Int) (i k:Nat):List Int:=BC s gs i++E8 s gs i k
def FL (a b:L.Sq Int):Nat->Nat->Bool
 |0,_=>false
 |f+1,i=>bif decide (a.g i=b.g i)then FL a b f (i+1)else decide (a.g i<b.g i)
def Fy (a b:L.Sq Int):Bool:=FL a b a.n 0
structure CZ where
 fd:Bool
 ar:Int
 gs:List Int
def Fz (s:L.Sq Ah) (k:Nat):Int:=(s.g k).w*(s.g k).h
def CR (s:L.Sq Ah) (k:Nat) (ar b:Int):Int:=bif decide (b=0)then ar else ar+Fz s k
def Gm (w:L.Sq Ab) (s:L.Sq Ah) (ar:Int) (gs:List Int) (kn:CZ):Bool:=bif bif !kn.fd then true else decide (ar<kn.ar)then true else bif decide (ar=kn.ar)then Fy (Am (BC s gs w.n)) (Am (BC s kn.gs w.n))else false
def F0 (w:L.Sq Ab) (s:L.Sq Ah) (left:Int) (k:Nat) (b:Int):Bool:=bif !decide (BT b left=b)then true else !BB w s k b
def Ha (kn:CZ) (ar:Int):Bool:=bif !kn.fd then true else decide (ar<=kn.ar)
def Fg (w:L.Sq Ab) (s:L.Sq Ah):Nat->Int->List Int->Int->CZ->CZ
 |0,left,gs,ar,kn=>bif !decide (left=0)then kn else bif Gm w s ar gs kn then⟨true,ar,gs⟩else kn
 |f+1,left,gs,ar,kn=>(AdP (AG w)).foldl (fun kn (b:Nat)=>bif F0 w s left gs.length b then kn else bif Ha kn (CR s gs.length ar b)then Fg w s f (left-b) (Br gs b) (CR s gs.length ar b) kn else kn) kn
def CS (w:L.Sq Ab) (s:L.Sq Ah) (left:Int) (gs:List Int) (ar:Int) (kn:CZ):CZ:=Fg w s (s.n-gs.length) left gs ar kn
def Da (w:L.Sq Ab) (s:L.Sq Ah) (left:Int) (gs:List Int) (ar:Int) (kn:CZ) (k:Nat):CZ:=(AdP k).foldl (fun kn (b:Nat)=>bif F0 w s left gs.length b then kn else bif Ha kn (CR s gs.length ar b)then CS w s (left-b) (Br gs b) (CR s gs.length ar b) kn else kn) kn
theorem Abk (w:L.Sq Ab) (s:L.Sq Ah) (left:Int) (gs:List Int) (ar:Int) (kn:CZ) (k:Nat):Da w s left gs ar kn (k+1)=bif F0 w s left gs.length k then Da w s left gs ar kn k else bif Ha (Da w s left gs ar kn k) (CR s gs.length ar k)then CS w s (left-k) (Br gs k) (CR s gs.length ar k) (Da w s left gs ar kn k)else Da w s left gs ar kn k:=by
 unfold Da;rw[Afb,List.foldl_append];rfl
theorem Qh (w:L.Sq Ab) (s:L.Sq Ah) (left:Int) {gs:List Int} (ar:Int) (kn:CZ) (h:gs.length=s.n):CS w s left gs ar kn=bif !decide (left=0)then kn else bif Gm w s ar gs kn then⟨true,ar,gs⟩else kn:=by
 unfold CS;rw[show s.n-gs.length=0 by omega,Fg]
theorem Abl (w:L.Sq Ab) (s:L.Sq Ah) (left:Int) {gs:List Int} (ar:Int) (kn:CZ) (h:gs.length<s.n):CS w s left gs ar kn=Da w s left gs ar kn (AG w):=by
 unfold CS Da;rw[show s.n-gs.length=(s.n-gs.length-1)+1 by omega,Fg];unfold CS;have e:∀b:Int,s.n-(Br gs b).length=s.n-gs.length-1:=fun b=>by unfold Br;rw[Aei,AeB];omega
 simp only[e]
def Ci (g:L.Sq Int):List Int:=(AdP g.n).map g.g
theorem Abm (g:L.Sq Int):(Ci g).length=g.n:=by simp[Ci]
theorem Abn {g:L.Sq Int} {k:Nat} (h:k<g.n):(Ci g).getD k 0=g.g k:=by
 unfold Ci;rw[AS,AdH (by simpa using h)];simp
theorem Qi (l:List Int):Ci (Am l)=l:=by
 unfold Ci Am;refine List.ext_getElem (by simp) fun i a b=>?_;have a:i<l.length:=by simpa using a
 simp[AS,a]
theorem Nk (s:L.Sq Ah) (gs:List Int) (i k:Nat):E8 s gs i (k+1)=if CA (gs.getD k 0) i=true then E8 s gs i k ++ [(s.g k).id]else E8 s gs i k:=by
 unfold E8;rw[Afb,List.filter_append,List.map_append]
 by_cases h:CA (gs.getD k 0) i=true
 ·rw[if_pos h,List.filter_cons_of_pos (p:=fun j=>CA (gs.getD j 0) i) h];rfl
 ·rw[if_neg h,List.filter_cons_of_neg (p:=fun j=>CA (gs.getD j 0) i) h,List.filter_nil,List.map_nil,List.append_nil]
theorem ZX (s:L.Sq Ah) (gs:List Int) (i k:Nat):(E8 s gs i k).length<=k:=by
 unfold E8;rw[List.length_map];exact Aeu (List.length_filter_le _ _) (by rw[List.length_range];exact AdS _)
theorem Nl (s:L.Sq Ah) (gs:List Int) (i:Nat):BC s gs (i+1)=BC s gs i++E8 s gs i gs.length:=by unfold BC;rw[Afb,List.flatMap_append];simp
theorem Qj (s:L.Sq Ah) (gs:List Int):∀i,(BC s gs i).length<=i*gs.length
 |0=>AdL _
 |i+1=>by
   have a:=Qj s gs i;have b:=ZX s gs i gs.length;rw[Nl,Aei,Nat.succ_mul];omega
theorem Abo {X Y:List Int} {x:Int} (h:Y=X ++ [x]):(Am X).n+1=(Am Y).n/\∀i,i<(Am X).n+1->AN (Am X).n (fun j=>[SV.int .i64 ((Am X).g j)]) (fun _=>[SV.int .i64 x]) i = [SV.int .i64 ((Am Y).g i)]:=by
 subst h;refine⟨by simp[Am],fun i hi=>?_⟩;have hi:i<X.length+1:=hi;show(if i<X.length then _ else _)= [SV.int .i64 ((X ++ [x]).getD i 0)];rw[Ig]
 by_cases h:i<X.length
 ·rw[if_pos h,if_pos h];rfl
 ·rw[if_neg h,if_neg h];obtain rfl:i=X.length:=by omega
  rw[Afc];rfl
theorem Abp (a b:L.Sq Int) (i:Nat) (hi:i<a.n):FL a b (a.n-i) i=bif decide (a.g i=b.g i)then FL a b (a.n-(i+1)) (i+1)else decide (a.g i<b.g i):=by
 rw[show a.n-i=(a.n-(i+1))+1 by omega,FL]
theorem ZY {n:Nat} {F G:Nat->List SV} (h:G 0=F n):∀i,i<n+1->AN n F G i=F i:=fun i hi=>by
 unfold AN
 by_cases e:i<n
 ·rw[if_pos e]
 ·rw[if_neg e];obtain rfl:i=n:=by omega
  rw[Afc,h]
theorem Abq (x y d:Bool):(bif x&&y then d else false)=(x&&(y&&d)):=by cases x<;>cases y<;>rfl
section
attribute [local irreducible] DZ AU Bs CA
def ZZ (w:(L.Sq Ab)) (s:(L.Sq Ah)) (g:(L.Sq Int)):Prop:=w.n<=1000/\s.n<=1000/\g.n<=s.n
def aA (w:(L.Sq Ab)) (s:(L.Sq Ah)) (g:(L.Sq Int)):SV:=.sl 1 (Am (BC s (Ci g) w.n)).n (fun k=>[.int .i64 ((Am (BC s (Ci g) w.n)).g k)])
def aB:List EV->Option (Prop×SV)
 |[.p (.sl 4 w_n w_g),.p (.sl 5 s_n s_g),.p (.sl 1 g_n g_g)]=>some ((∀i,i<w_n->Dn (w_g i))/\(∀i,i<s_n->s_g i = [.int .i64 ((AQ (s_g i)).id),.int .i64 ((AQ (s_g i)).colour),.int .i64 ((AQ (s_g i)).w),.int .i64 ((AQ (s_g i)).h),.int .i64 ((AQ (s_g i)).grain)])/\(∀i,i<g_n->g_g i = [.int .i64 ((Ca (g_g i)))])/\ZZ (⟨w_n,fun i=>Bx (w_g i)⟩:(L.Sq Ab)) (⟨s_n,fun i=>AQ (s_g i)⟩:(L.Sq Ah)) (⟨g_n,fun i=>Ca (g_g i)⟩:(L.Sq Int)),aA (⟨w_n,fun i=>Bx (w_g i)⟩:(L.Sq Ab)) (⟨s_n,fun i=>AQ (s_g i)⟩:(L.Sq Ah)) (⟨g_n,fun i=>Ca (g_g i)⟩:(L.Sq Int)))
 |_=>none
abbrev Qk:SE.Spec:=(AI aB)
def Abr:Al:={ cC with nils:=B6 [(2,[(7,37,3,1)])] }
theorem Abs (w:(L.Sq Ab)) (s:(L.Sq Ah)) (g:(L.Sq Int)) (hp:ZZ w s g):vc Tryz.prog ({ Abr with loops:=AT [(3,{ T:=Nat,keep:=[0,1,2,7],keepO:=[],chg:=fun i=>[(8,.p (.int .i64 (i:Int)))],own:=fun i=>[(37,.row 3 1 (Am (BC s (Ci g) i)).n (fun k=>[.int .i64 ((Am (BC s (Ci g) i)).g k)]))],inv:=fun i=>i<=w.n,mu:=fun i=>w.n-i }),(6,{ T:=Nat×Nat,keep:=[0,1,2,7,8],keepO:=[],chg:=fun t=>[(9,.p (.int .i64 (t.1:Int)))],own:=fun t=>[(37,.row 3 1 (Am (E9 s (Ci g) t.2 t.1)).n (fun k=>[.int .i64 ((Am (E9 s (Ci g) t.2 t.1)).g k)]))],inv:=fun t=>t.1<=g.n,mu:=fun t=>g.n-t.1,tie:=fun t=>[(8,.int .i64 (t.2:Int))] })],rfs:=AP [] }) (Ai Tryz.f53) (Au Tryz.f53 [.p (.sl 4 w.n (fun i=>[.int .i64 ((w.g i).id),.int .i64 ((w.g i).colour),.int .i64 ((w.g i).grain),.sl 2 (w.g i).ol.n (fun i1=>[.int .i64 (((w.g i).ol.g i1).x),.int .i64 (((w.g i).ol.g i1).y)])])),.p (.sl 5 s.n (fun i=>[.int .i64 ((s.g i).id),.int .i64 ((s.g i).colour),.int .i64 ((s.g i).w),.int .i64 ((s.g i).h),.int .i64 ((s.g i).grain)])),.p (.sl 1 g.n (fun i=>[.int .i64 ((g.g i))]))]) (AH Tryz.prog Tryz.f53 (aA w s g)):=
 @Eq.mpr _ (let I:=SV.int .i64;let A20:=(↑g.n:Int);let A16:=(0:Int);let A11:=(1:Int);let A9:=(Ci g);let A18:=(Am (BC s A9 w.n));let A8:=(g.n=g.n/\∀(i:Nat),i<g.n -> [I (g.g i)]= [I (g.g i)]);let A2:=(s.n=s.n/\∀(i:Nat),let A10:=[I (s.g i).id,I (s.g i).colour,I (s.g i).w,I (s.g i).h,I (s.g i).grain];i<s.n->A10=A10);let A1:=(w.n=w.n/\∀(i:Nat),let A4:=[I (w.g i).id,I (w.g i).colour,I (w.g i).grain,SV.sl (2:Nat) (w.g i).ol.n fun(i1:Nat)=>[I ((w.g i).ol.g i1).x,I ((w.g i).ol.g i1).y]];i<w.n->A4=A4);(∃(g_1:Nat),let A17:=(Am (BC s A9 g_1));A16=(↑g_1:Int)/\(nat_lit 0=A17.n/\∀(i:Nat),i<nat_lit 0 -> []= [I (A17.g i)])/\g_1<=w.n)/\∀(g_1:Nat),let A7:=(↑g_1:Int);let A5:=(Am (BC s A9 g_1));g_1<=w.n->(decide (A7<(↑w.n:Int))=true->(∃(g_2:Nat×Nat),let A13:=(Am (E9 s A9 g_2.2 g_2.1));A16=(↑g_2.1:Int)/\(A5.n=A13.n/\∀(i:Nat),i<A5.n -> [I (A5.g i)]= [I (A13.g i)])/\A7=(↑g_2.2:Int)/\g_2.1<=g.n)/\∀(g_2:Nat×Nat),let A6:=(↑g_2.1:Int);let A12:=(Ev (g.g (Aee A6)) A7);let A3:=(Am (E9 s A9 g_2.2 g_2.1));A7=(↑g_2.2:Int)/\g_2.1<=g.n->(decide (A6<A20)=true->(A16<=A6/\A6<A20)/\A16<=A7/\(decide (BT A12 A11=A11)=true->(A16<=A6/\A6<(↑s.n:Int))/\(A3.n+nat_lit 1)*nat_lit 8<=(140737488355328:Nat)/\Ad .i64 (A6+A11)/\∃(g':Nat×Nat),let A14:=(Am (E9 s A9 g'.2 g'.1));A6+A11=(↑g'.1:Int)/\A7=A7/\A1/\A2/\A8/\(A3.n+nat_lit 1=A14.n/\∀(i:Nat),i<A3.n+nat_lit 1->AN A3.n (fun(k:Nat)=>[I (A3.g k)]) (fun(x:Nat)=>[I (s.g (Aee A6)).id]) i = [I (A14.g i)])/\(A7=(↑g'.2:Int)/\g'.1<=g.n)/\g.n-g'.1<g.n-g_2.1)/\(decide (BT A12 A11=A11)=false->Ad .i64 (A6+A11)/\∃(g':Nat×Nat),let A15:=(Am (E9 s A9 g'.2 g'.1));A6+A11=(↑g'.1:Int)/\A7=A7/\A1/\A2/\A8/\(A3.n=A15.n/\∀(i:Nat),i<A3.n -> [I (A3.g i)]= [I (A15.g i)])/\(A7=(↑g'.2:Int)/\g'.1<=g.n)/\g.n-g'.1<g.n-g_2.1))/\(decide (A6<A20)=false->Ad .i64 (A7+A11)/\∃(g':Nat),let A19:=(Am (BC s A9 g'));A7+A11=(↑g':Int)/\A1/\A2/\A8/\(A3.n=A19.n/\∀(i:Nat),i<A3.n -> [I (A3.g i)]= [I (A19.g i)])/\g'<=w.n/\w.n-g'<w.n-g_1))/\(decide (A7<(↑w.n:Int))=false->A5.n=A18.n/\∀(i:Nat),i<A5.n -> [I (A5.g i)]= [I (A18.g i)])) (by kernel_rfl) (by
 conv=>zeta
 obtain⟨hw,hs,hg⟩:=(show w.n<=1000/\s.n<=1000/\g.n<=s.n from hp);have gl:=Abm g;refine⟨⟨0,rfl,⟨rfl,fun i hi=>absurd hi (nT _)⟩,AdL _⟩,fun i hi=>⟨fun hc=>?_,fun hc=>?_⟩⟩;rotate_left
 ·have hc:¬ (i:Int)<(w.n:Int):=of_decide_eq_false hc;obtain rfl:i=w.n:=by omega
  exact⟨rfl,fun _ _=>rfl⟩
 have hc:(i:Int)<(w.n:Int):=of_decide_eq_true hc;have ki:Ad .i64 ((i:Int)+1):=jK;have z:E9 s (Ci g) i 0=BC s (Ci g) i:=by unfold E9 E8;simp
 refine⟨⟨(0,i),?_⟩,fun t ht=>?_⟩
 ·dsimp only;rw[z];exact(by(try dsimp only);(repeat' with_reducible apply And.intro)<;>first|with_reducible rfl|with_reducible exact AdL _|with_reducible exact fun _=>rfl|with_reducible exact fun _ _=>rfl|with_reducible exact trivial|exact rfl|(intro _;exact rfl)|(intro _ _;exact rfl)|exact AdL _|exact trivial|(intro _ h_;exact absurd h_ (nT _)))
 obtain⟨k,i2⟩:=t;obtain⟨ti,tk⟩:=ht;have ti:(i:Int)=(i2:Int):=ti;obtain rfl:i=i2:=by omega
 have tk:k<=g.n:=tk;dsimp only;refine⟨fun hc2=>?_,fun hc2=>?_⟩;rotate_left
 ·have hc2:¬ (k:Int)<(g.n:Int):=of_decide_eq_false hc2;obtain rfl:k=g.n:=by omega
  have e:BC s (Ci g) (i+1)=E9 s (Ci g) i g.n:=by rw[Nl,gl];rfl
  have g1:i+1<=w.n:=by omega
  have g2:w.n-(i+1)<w.n-i:=by omega
  have cn:(i:Int)+1=((i+1:Nat):Int):=by omega
  refine⟨ki,i+1,?_⟩;rw[e];exact(by(try dsimp only);(repeat' with_reducible apply And.intro)<;>first|with_reducible rfl|with_reducible assumption|with_reducible exact fun _=>rfl|with_reducible exact fun _ _=>rfl|with_reducible exact trivial|exact rfl|(intro _;exact rfl)|(intro _ _;exact rfl)|exact cn|exact g1|exact g2|exact trivial|(intro _ h_;exact absurd h_ (nT _)))
 have hc2:(k:Int)<(g.n:Int):=of_decide_eq_true hc2;have e1:((k:Int)).toNat=k:=Aea k;have ck:0<=(k:Int)/\(k:Int)<(g.n:Int):=by omega
 have ck2:0<=(k:Int)/\(k:Int)<(s.n:Int):=by omega
 have kk:Ad .i64 ((k:Int)+1):=jK;have cn:(k:Int)+1=((k+1:Nat):Int):=by omega
 have g1:k+1<=g.n:=by omega
 have g2:g.n-(k+1)<g.n-k:=by omega
 have nx:=Nk s (Ci g) i k;rw[Abn g1]at nx;have hb:CA (g.g k) i=decide (BT (Ev (g.g k) i) 1=1):=by unfold CA;rfl
 have ln:(Am (E9 s (Ci g) i k)).n<=1001000:=by
  show(BC s (Ci g) i++E8 s (Ci g) i k).length<=_;have a:=Qj s (Ci g) i;have b:=ZX s (Ci g) i k;rw[gl]at a;have c:i*g.n<=1000*1000:=Nat.mul_le_mul (by omega) (by omega);rw[Aei];omega
 have sz:((Am (E9 s (Ci g) i k)).n+1)*8<=140737488355328:=by omega
 rw[e1];refine⟨ck,Aec _,fun h1=>⟨ck2,sz,kk,(k+1,i),?_⟩,fun h1=>⟨kk,(k+1,i),?_⟩⟩
 ·rw[<- hb]at h1;rw[if_pos h1]at nx;obtain⟨q1,q2⟩:=Abo (show E9 s (Ci g) i (k+1)=E9 s (Ci g) i k ++ [(s.g k).id]by unfold E9;rw[nx,List.append_assoc]);exact(by(try dsimp only);(repeat' with_reducible apply And.intro)<;>first|with_reducible rfl|with_reducible assumption|with_reducible exact fun _=>rfl|with_reducible exact fun _ _=>rfl|with_reducible exact trivial|exact rfl|(intro _;exact rfl)|(intro _ _;exact rfl)|exact q1|exact q2|exact cn|exact g1|exact g2|exact trivial|(intro _ h_;exact absurd h_ (nT _)))
 ·rw[<- hb]at h1;rw[if_neg (by rw[h1];decide)]at nx;have e:E9 s (Ci g) i (k+1)=E9 s (Ci g) i k:=by unfold E9;rw[nx]
  dsimp only;rw[e];exact(by(try dsimp only);(repeat' with_reducible apply And.intro)<;>first|with_reducible rfl|with_reducible assumption|with_reducible exact fun _=>rfl|with_reducible exact fun _ _=>rfl|with_reducible exact trivial|exact rfl|(intro _;exact rfl)|(intro _ _;exact rfl)|exact cn|exact g1|exact g2|exact trivial|(intro _ h_;exact absurd h_ (nT _))))
theorem aC:Ax Tryz.prog 53 Qk:=AK Tryz.func53 (c:=Ai Tryz.f53) (by kernel_rfl) mixed (fun args p r hs hp=>by
 unfold aB at hs;split at hs
 ·cases hs;exact⟨_,_,Abs _ _ _ hp.2.2.2,(.p (DY hp.1) (.p (.sl hp.2.1) (.p (.sl hp.2.2.1) .nil))),⟨show Aa Tryz.prog _ from Aa.nil,rfl,⟨show Af Tryz.prog _ from Af.nil,(AA.none (fun _=>rfl))⟩⟩⟩
 ·cases hs)
theorem aD:As Tryz.prog 53:=fun args w=>by kernel_rfl
def aF (a:(L.Sq Int)) (b:(L.Sq Int)):Prop:=a.n<=1000000/\a.n<=b.n
def aG (a:(L.Sq Int)) (b:(L.Sq Int)):SV:=.bool (Fy a b)
def aH:List EV->Option (Prop×SV)
 |[.p (.sl 1 a_n a_g),.p (.sl 1 b_n b_g)]=>some ((∀i,i<a_n->a_g i = [.int .i64 ((Ca (a_g i)))])/\(∀i,i<b_n->b_g i = [.int .i64 ((Ca (b_g i)))])/\aF (⟨a_n,fun i=>Ca (a_g i)⟩:(L.Sq Int)) (⟨b_n,fun i=>Ca (b_g i)⟩:(L.Sq Int)),aG (⟨a_n,fun i=>Ca (a_g i)⟩:(L.Sq Int)) (⟨b_n,fun i=>Ca (b_g i)⟩:(L.Sq Int)))
 |_=>none
abbrev aI:SE.Spec:=(AI aH)
def Abt:Al:={ muts:=[],frz:=B8 [],specs:=AC [],loops:=fun _=>none,iters:=B3 [],rfs:=AP [],nils:=B6 [] }
theorem Abu (a:(L.Sq Int)) (b:(L.Sq Int)) (hp:aF a b):vc Tryz.prog ({ Abt with loops:=AT [(2,{ T:=Nat,keep:=[0,1],keepO:=[],chg:=fun i=>[(5,.p (.int .i64 (i:Int)))],own:=fun _=>[],inv:=fun i=>i<=a.n/\Fy a b=FL a b (a.n-i) i,mu:=fun i=>a.n-i })],rfs:=AP [] }) (Ai Tryz.f94) (Au Tryz.f94 [.p (.sl 1 a.n (fun i=>[.int .i64 ((a.g i))])),.p (.sl 1 b.n (fun i=>[.int .i64 ((b.g i))]))]) (AH Tryz.prog Tryz.f94 (aG a b)):=
 @Eq.mpr _ (let T:=Aee;let A7:=(↑a.n:Int);(∃(g:Nat),(0:Int)=(↑g:Int)/\g<=a.n/\Fy a b=FL a b (a.n-g) g)/\∀(g:Nat),let A1:=(↑g:Int);let A6:=((0:Int)<=A1/\A1<(↑b.n:Int));let A5:=((0:Int)<=A1/\A1<A7);let A2:=(!decide (a.g (T A1)=b.g (T A1)));g<=a.n/\Fy a b=FL a b (a.n-g) g->(decide (A1<A7)=true->A5/\A6/\(A2=true->A5/\A6/\decide (a.g (T A1)<b.g (T A1))=Fy a b)/\(A2=false->Ad .i64 (A1+(1:Int))/\∃(g':Nat),A1+(1:Int)=(↑g':Int)/\(a.n=a.n/\∀(i:Nat),let A3:=[SV.int .i64 (a.g i)];i<a.n->A3=A3)/\(b.n=b.n/\∀(i:Nat),let A4:=[SV.int .i64 (b.g i)];i<b.n->A4=A4)/\(g'<=a.n/\Fy a b=FL a b (a.n-g') g')/\a.n-g'<a.n-g))/\(decide (A1<A7)=false->false=Fy a b)) (by kernel_rfl) (by
 conv=>zeta
 obtain⟨ha,hb⟩:=(show a.n<=1000000/\a.n<=b.n from hp);refine⟨⟨0,rfl,AdL _,by unfold Fy;rfl⟩,fun k hk=>⟨fun hc=>?_,fun hc=>?_⟩⟩
 ·have hc:(k:Int)<(a.n:Int):=of_decide_eq_true hc;have hlt:k<a.n:=by omega
  have e0:((k:Int)).toNat=k:=Aea k;have ca:0<=(k:Int)/\(k:Int)<(a.n:Int):=by omega
  have cb:0<=(k:Int)/\(k:Int)<(b.n:Int):=by omega
  have k1:Ad .i64 ((k:Int)+1):=jK;have cn:(k:Int)+1=((k+1:Nat):Int):=by omega
  have g2:a.n-(k+1)<a.n-k:=by omega
  have go:=Abp a b k hlt;rw[e0];refine⟨ca,cb,fun h1=>⟨ca,cb,?_⟩,fun h1=>⟨k1,k+1,?_⟩⟩
  ·have h1:¬ a.g k=b.g k:=of_decide_eq_false (Cx h1);rw[hk.2,go,decide_eq_false h1];rfl
  ·have h1:a.g k=b.g k:=of_decide_eq_true (BW h1);have nx:Fy a b=FL a b (a.n-(k+1)) (k+1):=by rw[hk.2,go,decide_eq_true h1];rfl
   exact(by(try dsimp only);(repeat' with_reducible apply And.intro)<;>first|with_reducible rfl|with_reducible assumption|with_reducible exact fun _=>rfl|with_reducible exact fun _ _=>rfl|with_reducible exact trivial|exact rfl|(intro _;exact rfl)|(intro _ _;exact rfl)|exact cn|exact hlt|exact nx|exact g2|exact trivial|(intro _ h_;exact absurd h_ (nT _)))
 ·have hc:¬ (k:Int)<(a.n:Int):=of_decide_eq_false hc;obtain rfl:k=a.n:=by omega
  rw[hk.2,Afc];rfl)
theorem Abv:Ax Tryz.prog 94 aI:=AK Tryz.func94 (c:=Ai Tryz.f94) (by kernel_rfl) mixed (fun args p r hs hp=>by
 unfold aH at hs;split at hs
 ·cases hs;exact⟨_,_,Abu _ _ hp.2.2,(.p (.sl hp.1) (.p (.sl hp.2.1) .nil)),⟨show Aa Tryz.prog _ from Aa.nil,rfl,⟨show Af Tryz.prog _ from Af.nil,(AA.none (fun _=>rfl))⟩⟩⟩
 ·cases hs)
theorem Abw:As Tryz.prog 94:=fun args w=>by kernel_rfl
def aJ (w:(L.Sq Ab)) (s:(L.Sq Ah)):Prop:=Bv w/\s.n<=4
def aK (w:(L.Sq Ab)) (s:(L.Sq Ah)):SV:=.sl 1 s.n (fun k=>[.sl 1 (AG w) (fun b=>[.bool (BB w s k (b:Int))])])
def aL:List EV->Option (Prop×SV)
 |[.p (.sl 4 w_n w_g),.p (.sl 5 s_n s_g)]=>some ((∀i,i<w_n->Dn (w_g i))/\(∀i,i<s_n->s_g i = [.int .i64 ((AQ (s_g i)).id),.int .i64 ((AQ (s_g i)).colour),.int .i64 ((AQ (s_g i)).w),.int .i64 ((AQ (s_g i)).h),.int .i64 ((AQ (s_g i)).grain)])/\aJ (⟨w_n,fun i=>Bx (w_g i)⟩:(L.Sq Ab)) (⟨s_n,fun i=>AQ (s_g i)⟩:(L.Sq Ah)),aK (⟨w_n,fun i=>Bx (w_g i)⟩:(L.Sq Ab)) (⟨s_n,fun i=>AQ (s_g i)⟩:(L.Sq Ah)))
 |_=>none
abbrev aM:SE.Spec:=(AI aL)
def Abx:Al:={ cC with frz:=B8 [(17,[73])],specs:=AC [(40,Zk),(85,YV),(78,PT)],nils:=B6 [(2,[(5,77,156,1)]),(7,[(8,73,4,1)])] }
theorem Aby (w:(L.Sq Ab)) (s:(L.Sq Ah)) (hp:aJ w s):vc Tryz.prog ({ Abx with loops:=AT [(3,{ T:=Nat,keep:=[0,1,5],keepO:=[],chg:=fun i=>[(6,.p (.int .i64 (i:Int)))],own:=fun i=>[(77,.row 156 1 i (fun k=>[.sl 1 (AG w) (fun b=>[.bool (BB w s k (b:Int))])]))],inv:=fun i=>i<=s.n,mu:=fun i=>s.n-i }),(8,{ T:=Nat×Nat,keep:=[0,1,5,6,7,8],keepO:=[77],chg:=fun t=>[(9,.p (.int .i64 (t.1:Int)))],own:=fun t=>[(73,.row 4 1 t.1 (fun b=>[.bool (BB w s t.2 (b:Int))]))],inv:=fun t=>t.1<=AG w,mu:=fun t=>AG w-t.1,tie:=fun t=>[(6,.int .i64 (t.2:Int))] }),(13,{ T:=Nat×Nat×Nat,keep:=[0,1,5,6,7,8,9,11],keepO:=[73,77],chg:=fun t=>[(10,.p (.bool (DM (Ak w (s.g t.2.2).grain (t.2.1:Int)) (s.g t.2.2).w (s.g t.2.2).h&&FK w (s.g t.2.2).colour (t.2.1:Int) t.1))),(12,.p (.int .i64 (t.1:Int)))],own:=fun _=>[],inv:=fun t=>t.1<=(Bs w (t.2.1:Int)).n,mu:=fun t=>(Bs w (t.2.1:Int)).n-t.1,tie:=fun t=>[(6,.int .i64 (t.2.2:Int)),(9,.int .i64 (t.2.1:Int))] })],rfs:=AP [] }) (Ai Tryz.f52) (Au Tryz.f52 [.p (.sl 4 w.n (fun i=>[.int .i64 ((w.g i).id),.int .i64 ((w.g i).colour),.int .i64 ((w.g i).grain),.sl 2 (w.g i).ol.n (fun i1=>[.int .i64 (((w.g i).ol.g i1).x),.int .i64 (((w.g i).ol.g i1).y)])])),.p (.sl 5 s.n (fun i=>[.int .i64 ((s.g i).id),.int .i64 ((s.g i).colour),.int .i64 ((s.g i).w),.int .i64 ((s.g i).h),.int .i64 ((s.g i).grain)]))]) (AH Tryz.prog Tryz.f52 (aK w s)):=
 @Eq.mpr _ (let I:=SV.int .i64;let T:=Aee;let A37:=(140737488355328:Nat);let A34:=(1:Nat);let A31:=(↑s.n:Int);let A30:=(↑(AG w):Int);let A29:=(1:Int);let A26:=(0:Int);let A10:=(∀(i:Nat),i<w.n->∀(i_1:Nat),let A23:=((w.g i).ol.g i_1);i_1<(w.g i).ol.n -> [I A23.x,I A23.y]= [I A23.x,I A23.y]);let A4:=(s.n=s.n/\∀(i:Nat),let A18:=[I (s.g i).id,I (s.g i).colour,I (s.g i).w,I (s.g i).h,I (s.g i).grain];i<s.n->A18=A18);let A1:=(w.n=w.n/\∀(i:Nat),let A12:=[I (w.g i).id,I (w.g i).colour,I (w.g i).grain,SV.sl (2:Nat) (w.g i).ol.n fun(i1:Nat)=>[I ((w.g i).ol.g i1).x,I ((w.g i).ol.g i1).y]];i<w.n->A12=A12);(∃(g:Nat),A26=(↑g:Int)/\(nat_lit 0=g/\∀(i:Nat),i<nat_lit 0 -> []= [SV.sl A34 (AG w) fun(b:Nat)=>[SV.bool (BB w s i (↑b:Int))]])/\g<=s.n)/\∀(g:Nat),let A9:=(↑g:Int);let A27:=(s.g (T A9));let A20:=(A26<=A9/\A9<A31);let A8:=(g=g/\∀(i:Nat),let A14:=[SV.sl A34 (AG w) fun(b:Nat)=>[SV.bool (BB w s i (↑b:Int))]];i<g->A14=A14);let A2:=(AG w=AG w/\∀(i:Nat),let A7:=(Ak w A27.grain (↑i:Int));let A17:=[SV.sl (2:Nat) A7.n fun(i_1:Nat)=>[I (A7.g i_1).w,I (A7.g i_1).h]];i<AG w->A17=A17);g<=s.n->(decide (A9<A31)=true->A20/\(A10/\Bv w)/\(∃(g_1:Nat×Nat),A26=(↑g_1.1:Int)/\(nat_lit 0=g_1.1/\∀(i:Nat),i<nat_lit 0 -> []= [SV.bool (BB w s g_1.2 (↑i:Int))])/\A9=(↑g_1.2:Int)/\g_1.1<=AG w)/\∀(g_1:Nat×Nat),let A13:=(↑g_1.1:Int);let A5:=(Ak w A27.grain (↑(T A13):Int));let A3:=(Bs w A13);let A36:=(↑A3.n:Int);A9=(↑g_1.2:Int)/\g_1.1<=AG w->(decide (A13<A30)=true->(A26<=A13/\A13<A30)/\A20/\A20/\((∀(i:Nat),let A33:=[I (A5.g i).w,I (A5.g i).h];i<A5.n->A33=A33)/\A5.n<=(1000000:Nat))/\(A10/\w.n<=(1000:Nat))/\(∃(g_2:Nat×Nat×Nat),let A28:=(s.g g_2.2.2);let A25:=(↑g_2.2.1:Int);DM A5 A27.w A27.h=(DM (Ak w A28.grain A25) A28.w A28.h&&FK w A28.colour A25 g_2.1)/\A26=(↑g_2.1:Int)/\A9=(↑g_2.2.2:Int)/\A13=A25/\g_2.1<=(Bs w A25).n)/\∀(g_2:Nat×Nat×Nat),let A21:=(↑g_2.1:Int);let A19:=(s.g g_2.2.2);let A16:=(↑g_2.2.1:Int);let A35:=(Ak w A19.grain A16);let A6:=(DM A35 A19.w A19.h&&FK w A19.colour A16 g_2.1);A9=(↑g_2.2.2:Int)/\A13=A16/\g_2.1<=(Bs w A16).n->(decide (A21<A36)=true->(A6=true->A26<=A21/\A21<A36)/\(A6=true->A26<=A9/\A9<A31)/\Ad .i64 (A21+A29)/\∃(g':Nat×Nat×Nat),let A32:=(s.g g'.2.2);let A22:=(↑g'.2.1:Int);(bif DM A35 A19.w A19.h&&FK w A19.colour A16 g_2.1 then decide ((A3.g (T A21)).colour=A27.colour)else false)=(DM (Ak w A32.grain A22) A32.w A32.h&&FK w A32.colour A22 g'.1)/\A21+A29=(↑g'.1:Int)/\(A3.n=A3.n/\∀(i:Nat),let A11:=[I (A3.g i).id,I (A3.g i).colour,I (A3.g i).grain,SV.sl (2:Nat) (A3.g i).ol.n fun(i_1:Nat)=>[I ((A3.g i).ol.g i_1).x,I ((A3.g i).ol.g i_1).y]];i<A3.n->A11=A11)/\A13=A13/\A2/\A9=A9/\A1/\A4/\(g_1.1=g_1.1/\∀(i:Nat),let A24:=[SV.bool (BB w s g_1.2 (↑i:Int))];i<g_1.1->A24=A24)/\A8/\(A9=(↑g'.2.2:Int)/\A13=A22/\g'.1<=(Bs w A22).n)/\(Bs w A22).n-g'.1<(Bs w A16).n-g_2.1)/\(decide (A21<A36)=false->(g_1.1+nat_lit 1)*nat_lit 1<=A37/\Ad .i64 (A13+A29)/\∃(g':Nat×Nat),A13+A29=(↑g'.1:Int)/\A2/\A9=A9/\A1/\A4/\(g_1.1+nat_lit 1=g'.1/\∀(i:Nat),i<g_1.1+nat_lit 1->AN g_1.1 (fun(b:Nat)=>[SV.bool (BB w s g_1.2 (↑b:Int))]) (fun(x:Nat)=>[SV.bool A6]) i = [SV.bool (BB w s g'.2 (↑i:Int))])/\A8/\(A9=(↑g'.2:Int)/\g'.1<=AG w)/\AG w-g'.1<AG w-g_1.1))/\(decide (A13<A30)=false->(g+nat_lit 1)*nat_lit 24<=A37/\Ad .i64 (A9+A29)/\∃(g':Nat),A9+A29=(↑g':Int)/\A1/\A4/\(g+nat_lit 1=g'/\∀(i:Nat),i<g+nat_lit 1->AN g (fun(k:Nat)=>[SV.sl A34 (AG w) fun(b:Nat)=>[SV.bool (BB w s k (↑b:Int))]]) (fun(x:Nat)=>[SV.sl (nat_lit 1) g_1.1 fun(b:Nat)=>[SV.bool (BB w s g_1.2 (↑b:Int))]]) i = [SV.sl A34 (AG w) fun(b:Nat)=>[SV.bool (BB w s i (↑b:Int))]])/\g'<=s.n/\s.n-g'<s.n-g))/\(decide (A9<A31)=false->g=s.n/\∀(i:Nat),let A15:=[SV.sl A34 (AG w) fun(b:Nat)=>[SV.bool (BB w s i (↑b:Int))]];i<g->A15=A15)) (by kernel_rfl) (by
 conv=>zeta
 obtain⟨hok,hs4⟩:=(show Bv w/\s.n<=4 from hp);obtain⟨a1,a2,a3,a4⟩:=Gi hok.1;have nE:(AG w:Int)=Bi 1 w.n:=Int.toNat_of_nonneg a3;have w4:w.n<=1000:=Aeu hok.1 (by decide);refine⟨⟨0,rfl,⟨rfl,fun i hi=>absurd hi (nT _)⟩,AdL _⟩,fun i hi=>⟨fun hc=>?_,fun hc=>?_⟩⟩;rotate_left
 ·have hc:¬ (i:Int)<(s.n:Int):=of_decide_eq_false hc;obtain rfl:i=s.n:=by omega
  exact(by(try dsimp only);(repeat' with_reducible apply And.intro)<;>first|with_reducible rfl|with_reducible exact fun _=>rfl|with_reducible exact fun _ _=>rfl|with_reducible exact trivial|exact(fun _ _ _ _=>rfl)|exact rfl|(intro _;exact rfl)|(intro _ _;exact rfl)|exact trivial|(intro _ h_;exact absurd h_ (nT _)))
 have hc:(i:Int)<(s.n:Int):=of_decide_eq_true hc;have e0:((i:Int)).toNat=i:=Aea i;have ci:0<=(i:Int)/\(i:Int)<(s.n:Int):=by omega
 have ki:Ad .i64 ((i:Int)+1):=jK;rw[e0];refine⟨ci,⟨fun _ _ _ _=>rfl,hok⟩,⟨(0,i),(by(try dsimp only);(repeat' with_reducible apply And.intro)<;>first|with_reducible rfl|with_reducible exact AdL _|with_reducible exact fun _=>rfl|with_reducible exact fun _ _=>rfl|with_reducible exact trivial|exact(fun _ _ _ _=>rfl)|exact rfl|(intro _;exact rfl)|(intro _ _;exact rfl)|exact AdL _|exact trivial|(intro _ h_;exact absurd h_ (nT _)))⟩,fun t ht=>?_⟩;obtain⟨b,i2⟩:=t;obtain⟨ti,tb⟩:=ht;have ti:(i:Int)=(i2:Int):=ti;obtain rfl:i=i2:=by omega
 have tb:b<=AG w:=tb;dsimp only;refine⟨fun hc2=>?_,fun hc2=>?_⟩;rotate_left
 ·have hc2:¬ (b:Int)<(AG w:Int):=of_decide_eq_false hc2;obtain rfl:b=AG w:=by omega
  have g1:i+1<=s.n:=by omega
  have g2:s.n-(i+1)<s.n-i:=by omega
  have cn:(i:Int)+1=((i+1:Nat):Int):=by omega
  have q2:=ZY (n:=i) (F:=fun k=>[SV.sl 1 (AG w) fun b=>[SV.bool (BB w s k (b:Int))]]) (G:=fun _=>[SV.sl 1 (AG w) fun b=>[SV.bool (BB w s i (b:Int))]]) rfl;have sz:(i+1)*24<=140737488355328:=by omega
  exact⟨sz,ki,i+1,(by(try dsimp only);(repeat' with_reducible apply And.intro)<;>first|with_reducible rfl|with_reducible assumption|with_reducible exact fun _=>rfl|with_reducible exact fun _ _=>rfl|with_reducible exact trivial|exact(fun _ _ _ _=>rfl)|exact rfl|(intro _;exact rfl)|(intro _ _;exact rfl)|exact q2|exact cn|exact g1|exact g2|exact trivial|(intro _ h_;exact absurd h_ (nT _)))⟩
 have hc2:(b:Int)<(AG w:Int):=of_decide_eq_true hc2;have e1:((b:Int)).toNat=b:=Aea b;have cb:0<=(b:Int)/\(b:Int)<(AG w:Int):=by omega
 have kb:Ad .i64 ((b:Int)+1):=jK;have lA:(Ak w (s.g i).grain (b:Int)).n<=1000000:=Aeu (IN w (s.g i).grain (by omega) (by omega)) (by decide);have sn:(Bs w (b:Int)).n<=4:=(AaR hok (b:Int)).1;have c0:FK w (s.g i).colour (b:Int) 0=true:=rfl;have z0:DM (Ak w (s.g i).grain (b:Int)) (s.g i).w (s.g i).h=(DM (Ak w (s.g i).grain (b:Int)) (s.g i).w (s.g i).h&&FK w (s.g i).colour (b:Int) 0):=by rw[c0,Bool.and_true]
 rw[e1];refine⟨cb,ci,ci,⟨fun _ _=>rfl,lA⟩,⟨fun _ _ _ _=>rfl,w4⟩,⟨(0,b,i),(by(try dsimp only);(repeat' with_reducible apply And.intro)<;>first|with_reducible rfl|with_reducible assumption|with_reducible exact AdL _|with_reducible exact fun _=>rfl|with_reducible exact fun _ _=>rfl|with_reducible exact trivial|exact(fun _ _ _ _=>rfl)|exact rfl|(intro _;exact rfl)|(intro _ _;exact rfl)|exact z0|exact AdL _|exact trivial|(intro _ h_;exact absurd h_ (nT _)))⟩,fun t2 ht2=>?_⟩;obtain⟨k,b2,i3⟩:=t2;obtain⟨ti3,tb2,tk⟩:=ht2;have ti3:(i:Int)=(i3:Int):=ti3;have tb2:(b:Int)=(b2:Int):=tb2;obtain rfl:i=i3:=by omega
 obtain rfl:b=b2:=by omega
 have tk:k<=(Bs w (b:Int)).n:=tk;dsimp only;refine⟨fun hc3=>?_,fun hc3=>?_⟩
 ·have hc3:(k:Int)<((Bs w (b:Int)).n:Int):=of_decide_eq_true hc3;have e2:((k:Int)).toNat=k:=Aea k;have ck:0<=(k:Int)/\(k:Int)<((Bs w (b:Int)).n:Int):=by omega
  have kk:Ad .i64 ((k:Int)+1):=jK;have cn:(k:Int)+1=((k+1:Nat):Int):=by omega
  have g1:k+1<=(Bs w (b:Int)).n:=by omega
  have g2:(Bs w (b:Int)).n-(k+1)<(Bs w (b:Int)).n-k:=by omega
  have nx:FK w (s.g i).colour (b:Int) (k+1)=(FK w (s.g i).colour (b:Int) k&&decide (((Bs w (b:Int)).g k).colour=(s.g i).colour)):=rfl;rw[e2,Abq];refine⟨fun _=>ck,fun _=>ci,kk,(k+1,b,i),?_⟩;dsimp only;rw[nx];exact(by(try dsimp only);(repeat' with_reducible apply And.intro)<;>first|with_reducible rfl|with_reducible assumption|with_reducible exact fun _=>rfl|with_reducible exact fun _ _=>rfl|with_reducible exact trivial|exact(fun _ _ _ _=>rfl)|exact rfl|(intro _;exact rfl)|(intro _ _;exact rfl)|exact cn|exact g1|exact g2|exact trivial|(intro _ h_;exact absurd h_ (nT _)))
 ·have hc3:¬ (k:Int)<((Bs w (b:Int)).n:Int):=of_decide_eq_false hc3;obtain rfl:k=(Bs w (b:Int)).n:=by omega
  have g1:b+1<=AG w:=by omega
  have g2:AG w-(b+1)<AG w-b:=by omega
  have cn:(b:Int)+1=((b+1:Nat):Int):=by omega
  have q2:=ZY (n:=b) (F:=fun x=>[SV.bool (BB w s i (x:Int))]) (G:=fun _=>[SV.bool (DM (Ak w (s.g i).grain (b:Int)) (s.g i).w (s.g i).h&&FK w (s.g i).colour (b:Int) (Bs w (b:Int)).n)]) rfl;have sz:(b+1)*1<=140737488355328:=by omega
  exact⟨sz,kb,(b+1,i),(by(try dsimp only);(repeat' with_reducible apply And.intro)<;>first|with_reducible rfl|with_reducible assumption|with_reducible exact fun _=>rfl|with_reducible exact fun _ _=>rfl|with_reducible exact trivial|exact(fun _ _ _ _=>rfl)|exact rfl|(intro _;exact rfl)|(intro _ _;exact rfl)|exact q2|exact cn|exact g1|exact g2|exact trivial|(intro _ h_;exact absurd h_ (nT _)))⟩)
theorem Abz:Ax Tryz.prog 52 aM:=AK Tryz.func52 (c:=Ai Tryz.f52) (by kernel_rfl) mixed (fun args p r hs hp=>by
 unfold aL at hs;split at hs
 ·cases hs;exact⟨_,_,Aby _ _ hp.2.2,(.p (DY hp.1) (.p (.sl hp.2.1) .nil)),⟨show Aa Tryz.prog _ from(Aa.cons Aax Aay (Aa.cons zX zY (Aa.cons YQ YR Aa.nil))),rfl,⟨show Af Tryz.prog _ from Af.nil,(AA.none (fun _=>rfl))⟩⟩⟩
 ·cases hs)
theorem Ab0:As Tryz.prog 52:=fun args w=>by kernel_rfl
end
section
set_option maxHeartbeats 100000000
def Gn (w:L.Sq Ab) (s:L.Sq Ah) (left:Int) (gs:List Int):Prop:=(BC s gs w.n).length+(B2 left w.n).length=w.n
def EA (w:L.Sq Ab) (s:L.Sq Ah) (kn:CZ):Prop:=kn.gs.length<=s.n/\(kn.fd=true->(BC s kn.gs w.n).length=w.n)
def aO (n left b:Nat):Bool:=if BT b left=b then decide ((B2 b n).length+(B2 ((left:Int)-b) n).length=(B2 left n).length)&&decide (b<=left)else true
theorem Ab1:((AdP 5).all fun n=>(AdP 16).all fun l=>(AdP 16).all (aO n l))=true:=by kernel_rfl
theorem Ab2 {n:Nat} (hn:n<=4) {left:Int} {b:Nat} (h0:0<=left) (h1:left<=15) (hb:b<16) (h:BT b left=b):(B2 b n).length+(B2 (left-b) n).length=(B2 left n).length/\(b:Int)<=left:=by
 obtain⟨l,rfl⟩:=Int.eq_ofNat_of_zero_le h0;have hc:=AdO.1 (AdO.1 (AdO.1 Ab1 n (AdQ.2 (by omega))) l (AdQ.2 (by omega))) b (AdQ.2 hb);unfold aO at hc;rw[if_pos h,oE,decide_eq_true_eq,decide_eq_true_eq]at hc;exact⟨hc.1,by omega⟩
def aP (n:Nat):Bool:=decide ((B2 0 n).length=0)&&decide ((B2 (AM n) n).length=n)
theorem Ab3:((AdP 5).all aP)=true:=by kernel_rfl
theorem Ql {n:Nat} (hn:n<=4):(B2 0 n).length=0/\(B2 (AM n) n).length=n:=by
 have:=AdO.1 Ab3 n (AdQ.2 (by omega));unfold aP at this;obtain⟨h1,h2⟩:=Afg.1 this;exact⟨of_decide_eq_true h1,of_decide_eq_true h2⟩
theorem Ab4 (s:L.Sq Ah) (gs:List Int) (b:Int) (i:Nat):∀k,k<=gs.length->E8 s (gs ++ [b]) i k=E8 s gs i k:=fun k=>by
 induction k with
 |zero=>intro _;unfold E8;rw[List.range_zero,List.filter_nil,List.filter_nil]
 |succ k ih =>
   intro h;have e:(gs ++ [b]).getD k 0=gs.getD k 0:=by rw[Ig,if_pos (show k<gs.length by omega)]
   rw[Nk,Nk,ih (by omega),e]
theorem aQ (s:L.Sq Ah) (gs:List Int) (b:Int):∀i,(BC s (gs ++ [b]) i).length=(BC s gs i).length+(B2 b i).length
 |0=>by unfold BC B2;rfl
 |i+1=>by
   have e:(gs ++ [b]).getD gs.length 0=b:=by rw[Ig,if_neg (Nat.lt_irrefl _),Afc];rfl
   have el:(gs ++ [b]).length=gs.length+1:=by simp
   have e2:=Nk s (gs ++ [b]) i gs.length;rw[e,Ab4 s gs b i _ (AdS _)]at e2;have e3:=YL b i;rw[Nl,Nl,el,e2,e3,Aei,Aei,aQ s gs b i]
   by_cases h:CA b i=true
   ·rw[if_pos h,if_pos h,Aei,Aei,AeB,AeB];omega
   ·rw[if_neg h,if_neg h];omega
theorem aR {w:L.Sq Ab} {s:L.Sq Ah} (hn:w.n<=4) {left:Int} {gs:List Int} {b:Nat} (h0:0<=left) (h1:left<=15) (hb:b<16) (h:BT b left=b) (hi:Gn w s left gs):Gn w s (left-b) (Br gs b)/\0<=left-b/\left-b<=15:=by
 obtain⟨e,e2⟩:=Ab2 hn h0 h1 hb h;unfold Gn at *;unfold Br;rw[aQ];omega
theorem Ab5 {w:L.Sq Ab} (hn:w.n<=4):AG w<=16:=by
 obtain⟨_,_,a3,a4⟩:=Gi hn;unfold AG;omega
theorem aS {w:L.Sq Ab} {s:L.Sq Ah} (hn:w.n<=4):∀(f:Nat) (left:Int) (gs:List Int) (ar:Int) (kn:CZ),gs.length+f=s.n->0<=left->left<=15->Gn w s left gs->EA w s kn->EA w s (Fg w s f left gs ar kn)
 |0,left,gs,ar,kn,hl,h0,h1,hi,hk=>by
   rw[Fg]
   by_cases e:left=0
   ·rw[decide_eq_true e];cases Gm w s ar gs kn with
    |false=>exact hk
    |true =>
      refine⟨by show gs.length<=s.n;omega,fun _=>?_⟩;subst e;unfold Gn at hi;rw[(Ql hn).1]at hi;exact hi
   ·rw[decide_eq_false e];exact hk
 |f+1,left,gs,ar,kn,hl,h0,h1,hi,hk=>by
   rw[Fg];have key:∀(X:List Nat) (kn:CZ),(∀b,b∈X->b<AG w)->EA w s kn->EA w s (X.foldl (fun kn (b:Nat)=>bif F0 w s left gs.length b then kn else bif Ha kn (CR s gs.length ar b)then Fg w s f (left-b) (Br gs b) (CR s gs.length ar b) kn else kn) kn):=fun X=>by
    induction X with
    |nil=>intro kn _ h;exact h
    |cons b X ih =>
      intro kn hX h;rw[Aew];refine ih _ (fun b hb=>hX b (AdJ _ hb)) ?_;cases hs:F0 w s left gs.length b with
      |true=>exact h
      |false =>
        cases Ha kn (CR s gs.length ar b)with
        |false=>exact h
        |true =>
          have e1:BT b left=b:=by
           unfold F0 at hs
           by_cases e:BT b left=b
           ·exact e
           ·rw[decide_eq_false e]at hs;cases hs
          have hb:=hX b (AdM ..);obtain⟨g1,g2,g3⟩:=aR hn h0 h1 (Nat.lt_of_lt_of_le hb (Ab5 hn)) e1 hi;exact aS hn f _ _ _ _ (by unfold Br;rw[Aei,AeB];omega) g2 g3 g1 h
   exact key _ kn (fun b hb=>AdQ.1 hb) hk
theorem aT {w:L.Sq Ab} {s:L.Sq Ah} (hn:w.n<=4) {left:Int} {gs:List Int} {ar:Int} {kn:CZ} (hl:gs.length<=s.n) (h0:0<=left) (h1:left<=15) (hi:Gn w s left gs) (hk:EA w s kn):EA w s (CS w s left gs ar kn):=aS hn _ left gs ar kn (by omega) h0 h1 hi hk
theorem aU {s:L.Sq Ah} {k:Nat} (hv:Bo (s.g k)=true) {ar b:Int} (h0:0<=ar) (h1:ar<=(k:Int)*16777216):0<=Fz s k/\Fz s k<=16777216/\0<=CR s k ar b/\CR s k ar b<=((k+1:Nat):Int)*16777216:=by
 obtain⟨a,b1,c,d⟩:=Qe hv;have h2:0<=Fz s k:=Int.mul_nonneg (by omega) (by omega);have h3:Fz s k<=16777216:=by
  have:=Int.mul_le_mul b1 d (by omega) (by omega);exact this
 refine⟨h2,h3,?_⟩;unfold CR;cases decide (b=0)<;>simp only[cond_true,cond_false]<;>omega
theorem Qm {gs:List Int} {b:Int} {F H:Nat->List SV} (hH:H 0 = [SV.int .i64 b]):0+(Am gs).n+1=(Am (Br gs b)).n/\∀i,i<0+(Am gs).n+1->AN (0+(Am gs).n) (AN 0 F (fun k=>[SV.int .i64 ((Am gs).g k)])) H i = [SV.int .i64 ((Am (Br gs b)).g i)]:=by
 rw[Nat.zero_add];refine⟨by simp[Am,Br],fun i hi=>?_⟩;show(if i<gs.length then(if i<0 then _ else [SV.int .i64 (gs.getD (i-0) 0)])else _)= [SV.int .i64 ((gs ++ [b]).getD i 0)];rw[Ig,Nat.sub_zero]
 by_cases e:i<gs.length
 ·rw[if_pos e,if_neg (nT _),if_pos e]
 ·have hi:i<gs.length+1:=hi;obtain rfl:i=gs.length:=by omega
  rw[if_neg e,if_neg e,show gs.length-(Am gs).n=0 from Afc _,hH,Afc];rfl
section
attribute [local irreducible] DZ AU Bs CA Fg CS Da BC BB Gm
abbrev IS:Mk:={ T:=(L.Sq Ab)×(L.Sq Ah)×(Int)×(Int)×(List Int)×(CZ),U:=Nat,args:=fun t=>(fun w s lf ar gs kn=>[.p (.sl 4 w.n (fun i=>[.int .i64 ((w.g i).id),.int .i64 ((w.g i).colour),.int .i64 ((w.g i).grain),.sl 2 (w.g i).ol.n (fun i1=>[.int .i64 (((w.g i).ol.g i1).x),.int .i64 (((w.g i).ol.g i1).y)])])),.p (.sl 5 s.n (fun i=>[.int .i64 ((s.g i).id),.int .i64 ((s.g i).colour),.int .i64 ((s.g i).w),.int .i64 ((s.g i).h),.int .i64 ((s.g i).grain)])),.p (.sl 1 s.n (fun k=>[.sl 1 (AG w) (fun b=>[.bool (BB w s k (b:Int))])])),.p (.int .i64 lf),.p (.agg [.bool false,.int .i64 ar,.sl 1 (Am gs).n (fun k=>[.int .i64 ((Am gs).g k)])]),.p (.agg [.bool kn.fd,.int .i64 kn.ar,.sl 1 (Am kn.gs).n (fun k=>[.int .i64 ((Am kn.gs).g k)])])]) t.1 t.2.1 t.2.2.1 t.2.2.2.1 t.2.2.2.2.1 t.2.2.2.2.2,lkeys:=[],keys:=[],lent:=fun t=>(fun w s lf ar gs kn=>[]) t.1 t.2.1 t.2.2.1 t.2.2.2.1 t.2.2.2.2.1 t.2.2.2.2.2,pre:=fun t=>(fun w s lf ar gs kn=>Bv w/\s.n<=4/\(∀k,k<s.n->Bo (s.g k)=true)/\(Am gs).n<=s.n/\0<=lf/\lf<=15/\0<=ar/\ar<=((Am gs).n:Int)*16777216/\Gn w s lf gs/\EA w s kn) t.1 t.2.1 t.2.2.1 t.2.2.2.1 t.2.2.2.2.1 t.2.2.2.2.2,post:=fun t u=>(fun w s lf ar gs kn=>fun uu=>True) t.1 t.2.1 t.2.2.1 t.2.2.2.1 t.2.2.2.2.1 t.2.2.2.2.2 u,lent':=fun t u=>(fun w s lf ar gs kn=>fun uu=>[]) t.1 t.2.1 t.2.2.1 t.2.2.2.1 t.2.2.2.2.1 t.2.2.2.2.2 u,own:=fun t u=>(fun w s lf ar gs kn=>fun uu=>[]) t.1 t.2.1 t.2.2.1 t.2.2.2.1 t.2.2.2.2.1 t.2.2.2.2.2 u,res:=fun t u=>(fun w s lf ar gs kn=>fun uu=>.p (.agg [.bool (CS w s lf gs ar kn).fd,.int .i64 (CS w s lf gs ar kn).ar,.sl 1 (Am (CS w s lf gs ar kn).gs).n (fun k=>[.int .i64 ((Am (CS w s lf gs ar kn).gs).g k)])])) t.1 t.2.1 t.2.2.1 t.2.2.2.1 t.2.2.2.2.1 t.2.2.2.2.2 u }
abbrev aV:IS.T->Nat:=fun t=>(fun w s lf ar gs kn=>s.n-(Am gs).n) t.1 t.2.1 t.2.2.1 t.2.2.2.1 t.2.2.2.2.1 t.2.2.2.2.2
theorem Ab6 (rn:Nat) (w:L.Sq Ab) (s:L.Sq Ah) (lf:Int) (ar:Int) (gs:List Int) (kn:CZ) (hp:IS.pre (w,s,lf,ar,gs,kn)) (hmu:s.n-(Am gs).n<rn+1):vc Tryz.prog ({ muts:=[11,12,15,86],frz:=B8 [(13,[86])],specs:=AC [(53,Qk),(94,aI)],loops:=AT [(9,{ T:=Nat,keep:=[0,1,2,3,10,11,12,13],keepO:=[12],chg:=fun b=>[(14,.p (.int .i64 (b:Int)))],own:=fun b=>[(11,.blk 107 [.p (.bool (Da w s lf gs ar kn b).fd),.p (.int .i64 (Da w s lf gs ar kn b).ar),.p (.sl 1 (Am (Da w s lf gs ar kn b).gs).n (fun k=>[.int .i64 ((Am (Da w s lf gs ar kn b).gs).g k)]))])],inv:=fun b=>b<=AG w/\EA w s (Da w s lf gs ar kn b),mu:=fun b=>AG w-b })],iters:=B3 [],rfs:=AP [],nils:=B6 [],mks:=DF [(51,Mk.lt IS aV rn)],ren:=fun k=>k,joins:=AT [(13,{ T:=Nat,keep:=[0,1,2,3,10,11,12,13,14],keepO:=[11,12],chg:=fun _=>[(15,.loc 15 0)],own:=fun b=>[(15,.blk 107 [.p (.bool false),.p (.int .i64 ar),.row 86]),(86,.row 3 1 (Am (Br gs (b:Int))).n (fun k=>[.int .i64 ((Am (Br gs (b:Int))).g k)]))],inv:=fun _=>True,mu:=fun _=>0,tie:=fun b=>[(14,.int .i64 (b:Int))] }),(15,{ T:=Nat,keep:=[0,1,2,3,10,11,12,13,14,15],keepO:=[11,12],chg:=fun _=>[],own:=fun b=>[(15,.blk 107 [.p (.bool false),.p (.int .i64 (CR s (Am gs).n ar (b:Int))),.p (.sl 1 (Am (Br gs (b:Int))).n (fun k=>[.int .i64 ((Am (Br gs (b:Int))).g k)]))])],inv:=fun _=>True,mu:=fun _=>0,tie:=fun b=>[(14,.int .i64 (b:Int))] })],anys:=[2012,1014] }) (Ai Tryz.f51) (Dy Tryz.f51 (IS.args (w,s,lf,ar,gs,kn)) (IS.lent (w,s,lf,ar,gs,kn))) (Fq Tryz.prog Tryz.f51 IS (w,s,lf,ar,gs,kn)):=
  @Eq.mpr _ (let I:=SV.int .i64;let T:=Aee;let A71:=(↑w.n:Int);let A70:=(1000:Nat);let A51:=(↑s.n:Int);let A50:=(1:Nat);let A49:=(nat_lit 1);let A46:=(1:Int);let A32:=(Am kn.gs);let A37:=[SV.bool kn.fd,I kn.ar,SV.sl A49 A32.n fun(k:Nat)=>[I (A32.g k)]];let A30:=(CS w s lf gs ar kn);let A53:=(Am A30.gs);let A54 :=
 [SV.bool A30.fd,I A30.ar,SV.sl A50 A53.n fun(k:Nat)=>[I (A53.g k)]];let A26:=(∀(i:Nat),i<w.n->∀(i_1:Nat),let A47:=((w.g i).ol.g i_1);i_1<(w.g i).ol.n -> [I A47.x,I A47.y]= [I A47.x,I A47.y]);let A25:=(Am (BC s (Ci A32) w.n));let A24:=(∀(i:Nat),let A43:=[I (s.g i).id,I (s.g i).colour,I (s.g i).w,I (s.g i).h,I (s.g i).grain];i<s.n ->
 A43=A43);let A23:=((!bif !kn.fd then true else decide (ar<kn.ar))&&decide (ar=kn.ar));let A19:=(nat_lit 0);let A18:=(0:Int);let A69:=(!decide (lf=A18));let A17:=(140737488355328:Nat);let A15:=A54;let A14:=(0:Nat);let A10:=(Am gs);let A27:=(Am (BC s (Ci A10) w.n));let A22:=(nat_lit 0+A10.n+nat_lit 1);
 let A21:=(bif bif !kn.fd then true else decide (ar<kn.ar)then true else bif decide (ar=kn.ar)then Fy A27 A25 else false);let A20:=(nat_lit 0+A10.n);let A12:=(↑A10.n:Int);let A75:=(A18<=A12/\A12<A51);let A45:=(s.g (T A12));let A11:=(AN A19 (Ce [] A49) fun(k:Nat)=>[I (A10.g k)]);let A7:=(s.n=s.n/\∀(i
:Nat),let A44:=[I (s.g i).id,I (s.g i).colour,I (s.g i).w,I (s.g i).h,I (s.g i).grain];i<s.n->A44=A44);let A5:=(s.n=s.n/\∀(i:Nat),let A41:=[SV.sl A50 (AG w) fun(b:Nat)=>[SV.bool (BB w s i (↑b:Int))]];i<s.n->A41=A41);let A3:=(w.n=w.n/\∀(i:Nat),let A29:=[I (w.g i).id,I (w.g i).colour,I (w.g i).grain,SV.sl (2:Nat) (w.g
 i).ol.n fun(i1:Nat)=>[I ((w.g i).ol.g i1).x,I ((w.g i).ol.g i1).y]];i<w.n->A29=A29);(decide (A12=A51)=true->(A69=true->∃(u:Nat),SV.agg A37=SV.agg A15/\True)/\(A69=false->(A23=true->A26/\A24/\(∀(i:Nat),i<A10.n -> [I (A10.g i)]= [I (A10.g i)])/\w.n<=A70/\s.n<=A70/\A10.n<=s.n)/\(A23=true->A26/\A24/\(∀
 (i:Nat),i<A32.n -> [I (A32.g i)]= [I (A32.g i)])/\w.n<=A70/\s.n<=A70/\A32.n<=s.n)/\(A23=true->(∀(i:Nat),i<A27.n -> [I (A27.g i)]= [I (A27.g i)])/\(∀(i:Nat),i<A25.n -> [I (A25.g i)]= [I (A25.g i)])/\A27.n<=(1000000:Nat)/\A27.n<=A25.n)/\(A21=true->∃(u:Nat),SV.agg [SV.bool true,I ar,SV.sl A49 A10.n fun(k:Nat)=>[I (A10.g
 k)]]=SV.agg A15/\True)/\(A21=false->∃(u:Nat),SV.agg A37=SV.agg A15/\True)))/\(decide (A12=A51)=false->(∃(g:Nat),let A38:=(Da w s lf gs ar kn g);A18=(↑g:Int)/\kn.fd=A38.fd/\kn.ar=A38.ar/\(A32.n=(Am A38.gs).n/\∀(i:Nat),i<A32.n -> [I (A32.g i)]= [I ((Am A38.gs).g i)])/\g<=AG w/\EA w s A38)/\∀(g :
 Nat),let A13:=(↑g:Int);let A68:=(!decide (A13=A18));let A48:=(!!decide (BT A13 lf=A13));let A33:=(bif !decide (BT A13 lf=A13)then true else !BB w s (T A12) (↑(T A13):Int));let A6:=(Da w s lf gs ar kn g);let A31:=(Am A6.gs);let A40:=[SV.bool A6.fd,I A6.ar,SV.sl A49 A31.n fun(k:Nat)=>[I
 (A31.g k)]];let A8:=(A31.n=A31.n/\∀(i:Nat),i<A31.n -> [I (A31.g i)]= [I (A31.g i)]);let A4:=[SV.bool false,I ar,SV.sl A49 A10.n fun(k:Nat)=>[I (A10.g k)]];let A2:=(A22*nat_lit 8<=A17/\(∃(g_1:Nat),let A56:=(Am (Br gs (↑g_1:Int)));nat_lit 0=A14/\A13=A13/\A12=A12/\nat_lit 0=nat_lit 0/\nat_lit 0=nat_lit 0/\SV.ref A4 A19
 = SV.ref A4 A19/\A3/\A7/\A5/\lf=lf/\false=false/\ar=ar/\(nat_lit 0+A10.n+nat_lit 1=A56.n/\∀(i:Nat),i<nat_lit 0+A10.n+nat_lit 1->AN A20 A11 (fun(x:Nat)=>[I A13]) i = [I (A56.g i)])/\A6.fd=A6.fd/\A6.ar=A6.ar/\A8/\false=false/\A18=A18/\Value.slice AdV A14 A14=Value.slice AdV A14 A14/\A13 =
 (↑g_1:Int)/\True)/\∃(g_1:Nat),let A57:=(Am (Br gs (↑g_1:Int)));nat_lit 0=A14/\A13=A13/\A12=A12/\nat_lit 0=nat_lit 0/\nat_lit 0=nat_lit 0/\SV.ref A4 A19=SV.ref A4 A19/\A3/\A7/\A5/\lf=lf/\false=false/\ar=ar/\(nat_lit 0+A10.n+nat_lit 1=A57.n/\∀(i:Nat),i<nat_lit 0+A10.n+nat_lit 1->AN A20 A11 (fun(x :
 Nat)=>[I A13]) i = [I (A57.g i)])/\A6.fd=A6.fd/\A6.ar=A6.ar/\A8/\false=false/\A18=A18/\Value.slice AdV A14 A14=Value.slice AdV A14 A14/\A13=(↑g_1:Int)/\True);let A9:=(A20*nat_lit 8<=A17/\A2/\A22*nat_lit 8<=A17/\∃(g_1:Nat),let A58:=(Am (Br gs (↑g_1:Int)));nat_lit 0=A14/\A13=A13/\A12=A12/\nat_lit 0=nat_lit
 0/\nat_lit 0=nat_lit 0/\SV.ref A4 A19=SV.ref A4 A19/\A3/\A7/\A5/\lf=lf/\false=false/\ar=ar/\(nat_lit 0+A10.n+nat_lit 1=A58.n/\∀(i:Nat),i<nat_lit 0+A10.n+nat_lit 1->AN A20 A11 (fun(x:Nat)=>[I A13]) i = [I (A58.g i)])/\A6.fd=A6.fd/\A6.ar=A6.ar/\A8/\false=false/\A18=A18/\Value.slice AdV A14 A14
 = Value.slice AdV A14 A14/\A13=(↑g_1:Int)/\True);let A1:=(A20*nat_lit 8<=A17/\A22*nat_lit 8<=A17/\∃(g_1:Nat),let A59:=(Am (Br gs (↑g_1:Int)));nat_lit 0=A14/\A13=A13/\A12=A12/\nat_lit 0=nat_lit 0/\nat_lit 0=nat_lit 0/\SV.ref A4 A19=SV.ref A4 A19/\A3/\A7/\A5/\lf=lf/\false=false/\ar=ar/\(nat_lit 0+A10.n
 + nat_lit 1=A59.n/\∀(i:Nat),i<nat_lit 0+A10.n+nat_lit 1->AN A20 A11 (fun(x:Nat)=>[I A13]) i = [I (A59.g i)])/\A6.fd=A6.fd/\A6.ar=A6.ar/\A8/\false=false/\A18=A18/\Value.slice AdV A14 A14=Value.slice AdV A14 A14/\A13=(↑g_1:Int)/\True);g<=AG w/\EA w s A6->A18<=A71/\Ad .i64 (Bi A46
 A71)/\(decide (A13<Bi A46 A71)=true->(A48=true->A18<=A12/\A12<A51)/\(A48=true->A18<=A13/\A13<(↑(AG w):Int))/\(A33=true->Ad .i64 (A13+A46)/\∃(g':Nat),let A34:=(Da w s lf gs ar kn g');A13+A46=(↑g':Int)/\A12=A12/\nat_lit 0=nat_lit 0/\nat_lit 0=nat_lit 0/\SV.ref A4 A19 =
 SV.ref A4 A19/\A3/\A7/\A5/\lf=lf/\A6.fd=A34.fd/\A6.ar=A34.ar/\(A31.n=(Am A34.gs).n/\∀(i:Nat),i<A31.n -> [I (A31.g i)]= [I ((Am A34.gs).g i)])/\false=false/\A18=A18/\Value.slice AdV A14 A14=Value.slice AdV A14 A14/\(g'<=AG w/\EA w s A34)/\AG w-g'<AG w-g)/\(A33=false->(((A9/\A20*nat_lit 8<=A17
 /\ A22*nat_lit 8<=A17/\∃(g_1:Nat),let A60:=(Am (Br gs (↑g_1:Int)));nat_lit 0=A14/\A13=A13/\A12=A12/\nat_lit 0=nat_lit 0/\nat_lit 0=nat_lit 0/\SV.ref A4 A19=SV.ref A4 A19/\A3/\A7/\A5/\lf=lf/\false=false/\ar=ar/\(nat_lit 0+A10.n+nat_lit 1=A60.n/\∀(i:Nat),i<nat_lit 0+A10.n+nat_lit 1->AN A20 A11 (fun(x
:Nat)=>[I A13]) i = [I (A60.g i)])/\A6.fd=A6.fd/\A6.ar=A6.ar/\A8/\false=false/\A18=A18/\Value.slice AdV A14 A14=Value.slice AdV A14 A14/\A13=(↑g_1:Int)/\True)/\(A9/\A20*nat_lit 8<=A17/\A2/\(A22*nat_lit 8<=A17/\∃(g_1:Nat),let A61:=(Am (Br gs (↑g_1:Int)));nat_lit 0=A14/\A13=A13/\A12=A12/\nat_lit 0=nat_lit
 0/\nat_lit 0=nat_lit 0/\SV.ref A4 A19=SV.ref A4 A19/\A3/\A7/\A5/\lf=lf/\false=false/\ar=ar/\(nat_lit 0+A10.n+nat_lit 1=A61.n/\∀(i:Nat),i<nat_lit 0+A10.n+nat_lit 1->AN A20 A11 (fun(x:Nat)=>[I A13]) i = [I (A61.g i)])/\A6.fd=A6.fd/\A6.ar=A6.ar/\A8/\false=false/\A18=A18/\Value.slice AdV A14 A14
 = Value.slice AdV A14 A14/\A13=(↑g_1:Int)/\True)/\A22*nat_lit 8<=A17/\∃(g_1:Nat),let A62:=(Am (Br gs (↑g_1:Int)));nat_lit 0=A14/\A13=A13/\A12=A12/\nat_lit 0=nat_lit 0/\nat_lit 0=nat_lit 0/\SV.ref A4 A19=SV.ref A4 A19/\A3/\A7/\A5/\lf=lf/\false=false/\ar=ar/\(nat_lit 0+A10.n+nat_lit 1=A62.n/\∀(i :
 Nat),i<nat_lit 0+A10.n+nat_lit 1->AN A20 A11 (fun(x:Nat)=>[I A13]) i = [I (A62.g i)])/\A6.fd=A6.fd/\A6.ar=A6.ar/\A8/\false=false/\A18=A18/\Value.slice AdV A14 A14=Value.slice AdV A14 A14/\A13=(↑g_1:Int)/\True)/\A1/\A1/\A20*nat_lit 8<=A17/\A22*nat_lit 8<=A17/\∃(g_1:Nat),let A63:=(Am (Br gs (↑g_1 :
 Int)));nat_lit 0=A14/\A13=A13/\A12=A12/\nat_lit 0=nat_lit 0/\nat_lit 0=nat_lit 0/\SV.ref A4 A19=SV.ref A4 A19/\A3/\A7/\A5/\lf=lf/\false=false/\ar=ar/\(nat_lit 0+A10.n+nat_lit 1=A63.n/\∀(i:Nat),i<nat_lit 0+A10.n+nat_lit 1->AN A20 A11 (fun(x:Nat)=>[I A13]) i = [I (A63.g i)])/\A6.fd=A6.fd/\A6.ar=A6.ar/\A8 /\
 false=false/\A18=A18/\Value.slice AdV A14 A14=Value.slice AdV A14 A14/\A13=(↑g_1:Int)/\True)/\A1/\A1/\A1/\A20*nat_lit 8<=A17/\A22*nat_lit 8<=A17/\∃(g_1:Nat),let A64:=(Am (Br gs (↑g_1:Int)));nat_lit 0=A14/\A13=A13/\A12=A12/\nat_lit 0=nat_lit 0/\nat_lit 0=nat_lit 0/\SV.ref A4 A19=SV.ref A4 A19 /\
 A3/\A7/\A5/\lf=lf/\false=false/\ar=ar/\(nat_lit 0+A10.n+nat_lit 1=A64.n/\∀(i:Nat),i<nat_lit 0+A10.n+nat_lit 1->AN A20 A11 (fun(x:Nat)=>[I A13]) i = [I (A64.g i)])/\A6.fd=A6.fd/\A6.ar=A6.ar/\A8/\false=false/\A18=A18/\Value.slice AdV A14 A14=Value.slice AdV A14 A14/\A13=(↑g_1:Int)/\True)/\∀
 (g_1:Nat),let A28:=(Am (Br gs (↑g_1:Int)));A13=(↑g_1:Int)/\True->((A68=true->A75/\A75/\Ad .i64 (A45.w*A45.h)/\Ad .i64 (ar+A45.w*A45.h)/\∃(g_2:Nat),let A76:=(↑g_2:Int);let A65:=(Am (Br gs A76));nat_lit 0=nat_lit 0/\A13=A13/\A12=A12/\nat_lit 0=nat_lit 0/\nat_lit 0=nat_lit 0/\SV.ref A4
 A19=SV.ref A4 A19/\A3/\A7/\A5/\lf=lf/\false=false/\ar+A45.w*A45.h=CR s A10.n ar A76/\(A28.n=A65.n/\∀(i:Nat),i<A28.n -> [I (A28.g i)]= [I (A65.g i)])/\A6.fd=A6.fd/\A6.ar=A6.ar/\A8/\false=false/\A18=A18/\Value.slice AdV A14 A14=Value.slice AdV A14 A14/\A13=A76/\True)/\(A68=false->∃(g_2 :
 Nat),let A77:=(↑g_2:Int);let A66:=(Am (Br gs A77));nat_lit 0=nat_lit 0/\A13=A13/\A12=A12/\nat_lit 0=nat_lit 0/\nat_lit 0=nat_lit 0/\SV.ref A4 A19=SV.ref A4 A19/\A3/\A7/\A5/\lf=lf/\false=false/\ar=CR s A10.n ar A77/\(A28.n=A66.n/\∀(i:Nat),i<A28.n -> [I (A28.g i)]= [I (A66.g i)])/\A6.fd=A6.fd/\A6.ar=A6.ar/\A8 /\
 false=false/\A18=A18/\Value.slice AdV A14 A14=Value.slice AdV A14 A14/\A13=A77/\True))/\∀(g_2:Nat),let A52:=(↑g_2:Int);let A74:=(Am (Br gs A52));let A42:=(bif !A6.fd then true else decide (CR s A10.n ar A52<=A6.ar));A13=A52/\True->(A42=true->Ad .i64 (lf-A13)/\∃(t:L.Sq Ab ×
 L.Sq Ah×Int×Int×List Int×CZ),let A72:=(Am t.snd.snd.snd.2.2.gs);let A39:=(Am t.snd.snd.snd.2.1);let A16:=(CS t.1 t.2.1 t.snd.2.1 t.snd.snd.snd.2.1 t.snd.snd.2.1 t.snd.snd.snd.2.2);let A73:=(Am A16.gs);(w.n=t.1.n/\∀(i:Nat),let A67:=(t.1.g i);i<w.n -> [I (w.g i).id,I (w.g i).colour,I (w.g i).grain,SV.sl (2:Nat) (w.g i).ol.n fun(i1 :
 Nat)=>[I ((w.g i).ol.g i1).x,I ((w.g i).ol.g i1).y]]= [I A67.id,I A67.colour,I A67.grain,SV.sl (2:Nat) A67.ol.n fun(i1:Nat)=>[I (A67.ol.g i1).x,I (A67.ol.g i1).y]])/\(s.n=t.2.1.n/\∀(i:Nat),let A55:=(t.2.1.g i);i<s.n -> [I (s.g i).id,I (s.g i).colour,I (s.g i).w,I (s.g i).h,I (s.g i).grain]= [I A55.id,I A55.colour,I A55.w,I A55.h,I A55.grain])/\(s.n =
 t.2.1.n/\∀(i:Nat),i<s.n -> [SV.sl A50 (AG w) fun(b:Nat)=>[SV.bool (BB w s i (↑b:Int))]]= [SV.sl A50 (AG t.1) fun(b:Nat)=>[SV.bool (BB t.1 t.2.1 i (↑b:Int))]])/\lf-A13=t.snd.2.1/\SV.agg [SV.bool false,I (CR s A10.n ar A52),SV.sl A49 A74.n fun(k:Nat)=>[I (A74.g k)]]=SV.agg [SV.bool false,I
 t.snd.snd.2.1,SV.sl A50 A39.n fun(k:Nat)=>[I (A39.g k)]]/\SV.agg A40=SV.agg [SV.bool t.snd.snd.snd.2.2.fd,I t.snd.snd.snd.2.2.ar,SV.sl A50 A72.n fun(k:Nat)=>[I (A72.g k)]]/\((Bv t.1/\t.2.1.n<=(4:Nat)/\(∀(k:Nat),k<t.2.1.n->Bo (t.2.1.g k)=true)/\A39.n<=t.2.1.n/\A18<=t.snd.2.1/\t.snd.2.1<=(15:Int)/\A18<=t.snd.snd.2.1 /\
 t.snd.snd.2.1<=(↑A39.n:Int)*(16777216:Int)/\Gn t.1 t.2.1 t.snd.2.1 t.snd.snd.snd.2.1/\EA t.1 t.2.1 t.snd.snd.snd.2.2)/\t.2.1.n-A39.n<rn)/\∀(u:Nat),True->Ad .i64 (A13+A46)/\∃(g':Nat),let A35:=(Da w s lf gs ar kn g');A13+A46=(↑g':Int)/\A12=A12/\nat_lit 0=nat_lit 0/\nat_lit 0=nat_lit 0/\SV.ref A4 A19=SV.ref A4 A19
 /\ A3/\A7/\A5/\lf=lf/\A16.fd=A35.fd/\A16.ar=A35.ar/\(A73.n=(Am A35.gs).n/\∀(i:Nat),i<A73.n -> [I (A73.g i)]= [I ((Am A35.gs).g i)])/\false=false/\A18=A18/\Value.slice AdV A14 A14=Value.slice AdV A14 A14/\(g'<=AG w/\EA w s A35)/\AG w-g'<AG w-g)/\(A42=false->Ad .i64 (A13+A46)/\∃(g' :
 Nat),let A36:=(Da w s lf gs ar kn g');A13+A46=(↑g':Int)/\A12=A12/\nat_lit 0=nat_lit 0/\nat_lit 0=nat_lit 0/\SV.ref A4 A19=SV.ref A4 A19/\A3/\A7/\A5/\lf=lf/\A6.fd=A36.fd/\A6.ar=A36.ar/\(A31.n=(Am A36.gs).n/\∀(i:Nat),i<A31.n -> [I (A31.g i)]= [I ((Am A36.gs).g i)])/\false=false/\A18=A18/\Value.slice AdV A14
 A14=Value.slice AdV A14 A14/\(g'<=AG w/\EA w s A36)/\AG w-g'<AG w-g)))/\(decide (A13<Bi A46 A71)=false->∃(u:Nat),SV.agg A40=SV.agg A54/\True))) (by kernel_rfl) (by
  conv=>zeta
  obtain⟨hok,hs4,hsv,hgl,l0,l15,a0,a1,hinv,hkn⟩:=(show Bv w/\s.n<=4/\(∀k,k<s.n->Bo (s.g k)=true)/\(Am gs).n<=s.n/\0<=lf/\lf<=15/\0<=ar/\ar<=((Am gs).n:Int)*16777216/\Gn w s lf gs/\EA w s kn from hp);have hmu:s.n-(Am gs).n<rn+1:=hmu;have en:(Am gs).n=gs.length:=rfl;have eg:Ci (Am gs)=gs:=Qi gs;have eg2:Ci (Am kn.gs)=kn.gs:=Qi kn.gs;obtain⟨z1,z2,z3,z4⟩:=Gi hok.1;have nE:(AG w:Int)=Bi 1 w.n:=Int.toNat_of_nonneg z3;have w4:w.n<=1000:=Aeu hok.1 (by decide);have s5:s.n<=1000:=Aeu hs4 (by decide);have o4:∀i,i<w.n->∀j,j<(w.g i).ol.n -> [SV.int .i64 ((w.g i).ol.g j).x,SV.int .i64 ((w.g i).ol.g j).y]= [SV.int .i64 ((w.g i).ol.g j).x,SV.int .i64 ((w.g i).ol.g j).y]:=fun _ _ _ _=>rfl;have rk0:Da w s lf gs ar kn 0=kn:=by unfold Da;rfl
  rw[eg,eg2];refine⟨fun h1=>⟨fun h2=>?_,fun h2=>⟨fun _=>?_,fun _=>?_,fun h3=>?_,fun h3=>?_,fun h3=>?_⟩⟩,fun h1=>⟨⟨0,?_⟩,fun b hb=>?_⟩⟩
  ·have hl:gs.length=s.n:=by have:=of_decide_eq_true h1;omega
   have e:CS w s lf gs ar kn=kn:=by rw[Qh w s lf ar kn hl,h2];rfl
   rw[e];exact⟨(0:Nat),rfl,trivial⟩
  ·exact⟨o4,fun _ _=>rfl,fun _ _=>rfl,w4,s5,hgl⟩
  ·exact⟨o4,fun _ _=>rfl,fun _ _=>rfl,w4,s5,hkn.1⟩
  ·have hfd : kn.fd = true :=by
    cases hf:kn.fd with
    |true=>rfl
    |false=>rw[hf]at h3;exact absurd h3 (by simp)
   have hz:lf=0:=of_decide_eq_true (BW h2);have i2:=hinv;unfold Gn at i2;rw[hz,(Ql hok.1).1]at i2;have i3:=hkn.2 hfd;have q1:(Am (BC s gs w.n)).n<=1000000:=by show(BC s gs w.n).length<=_;omega
   have q2:(Am (BC s gs w.n)).n<=(Am (BC s kn.gs w.n)).n:=by show(BC s gs w.n).length<=(BC s kn.gs w.n).length;omega
   exact⟨fun _ _=>rfl,fun _ _=>rfl,q1,q2⟩
  ·have hl:gs.length=s.n:=by have:=of_decide_eq_true h1;omega
   have hbt:Gm w s ar gs kn=true:=by unfold Gm;exact h3
   have e:CS w s lf gs ar kn=⟨true,ar,gs⟩:=by rw[Qh w s lf ar kn hl,h2,hbt];rfl
   rw[e];exact⟨(0:Nat),rfl,trivial⟩
  ·have hl:gs.length=s.n:=by have:=of_decide_eq_true h1;omega
   have hbt:Gm w s ar gs kn=false:=by unfold Gm;exact h3
   have e:CS w s lf gs ar kn=kn:=by rw[Qh w s lf ar kn hl,h2,hbt];rfl
   rw[e];exact⟨(0:Nat),rfl,trivial⟩
  ·try dsimp only
   rw[rk0];exact(by(try dsimp only);(repeat' with_reducible apply And.intro)<;>first|with_reducible rfl|with_reducible assumption|with_reducible exact AdL _|with_reducible exact fun _=>rfl|with_reducible exact fun _ _=>rfl|with_reducible exact trivial|exact(fun _ _ _ _=>rfl)|exact rfl|(intro _;exact rfl)|(intro _ _;exact rfl)|exact AdL _|exact hkn|exact o4|exact trivial|(intro _ h_;exact absurd h_ (nT _)))
  have hlt:gs.length<s.n:=by have:=of_decide_eq_false h1;omega
  obtain⟨hbn,hbk⟩:=hb;have ci:0<=((Am gs).n:Int)/\((Am gs).n:Int)<(s.n:Int):=by omega
  have en2:(((Am gs).n:Int)).toNat=gs.length:=Aea _;have eb:((b:Int)).toNat=b:=Aea b;have kS:Ad .i64 (Bi 1 w.n):=EO;have w0:0<=(w.n:Int):=Aec _
  try dsimp only
  rw[en2,eb];refine⟨w0,kS,fun hc=>?_,fun hc=>?_⟩;rotate_left
  ·have hc:¬ (b:Int)<Bi 1 w.n:=of_decide_eq_false hc;obtain rfl:b=AG w:=by omega
   have e:=Abl w s lf ar kn hlt;rw[e];exact⟨(0:Nat),rfl,trivial⟩
  have hc:(b:Int)<Bi 1 w.n:=of_decide_eq_true hc;have hbN:b<AG w:=by omega
  have hb16:b<16:=by omega
  have cb:0<=(b:Int)/\(b:Int)<(AG w:Int):=by omega
  have kb:Ad .i64 ((b:Int)+1):=jK;have cn:(b:Int)+1=((b+1:Nat):Int):=by omega
  have g1:b+1<=AG w:=hbN;have g2:AG w-(b+1)<AG w-b:=by omega
  have nx:=Abk w s lf gs ar kn b;refine⟨fun _=>ci,fun _=>cb,fun h=>⟨kb,b+1,?_⟩,fun h=>⟨?_,fun b2 hb2=>⟨⟨fun h5=>?_,fun h5=>?_⟩,fun b3 hb3=>⟨fun h6=>?_,fun h6=>?_⟩⟩⟩⟩
  ·have hsk:F0 w s lf gs.length b=true:=h;rw[hsk,cond_true]at nx
   try dsimp only
   rw[nx];exact(by(try dsimp only);(repeat' with_reducible apply And.intro)<;>first|with_reducible rfl|with_reducible assumption|with_reducible exact fun _=>rfl|with_reducible exact fun _ _=>rfl|with_reducible exact trivial|exact(fun _ _ _ _=>rfl)|exact rfl|(intro _;exact rfl)|(intro _ _;exact rfl)|exact cn|exact g1|exact hbk|exact g2|exact o4|exact trivial|(intro _ h_;exact absurd h_ (nT _)))
  ·have sz0:(0+(Am gs).n)*8<=140737488355328:=by omega
   have sz1:(0+(Am gs).n+1)*8<=140737488355328:=by omega
   have ap1:0+(Am gs).n+1=(Am (Br gs (b:Int))).n:=(Qm (F:=fun _=>[]) (H:=fun _=>[.int .i64 b]) rfl).1
   repeat' with_reducible apply And.intro
   all_goals first|exact sz0|exact sz1|exact⟨b,(by(try dsimp only);(repeat' with_reducible apply And.intro)<;>first|with_reducible rfl|with_reducible assumption|with_reducible exact(Qm rfl).2|with_reducible exact fun _=>rfl|with_reducible exact fun _ _=>rfl|with_reducible exact trivial|exact(fun _ _ _ _=>rfl)|exact rfl|(intro _;exact rfl)|(intro _ _;exact rfl)|exact ap1|exact(Qm rfl).2|exact o4|exact trivial|(intro _ h_;exact absurd h_ (nT _)))⟩
  ·obtain rfl:b=b2:=by have:=hb2.1;omega
   obtain⟨x1,x2,x3,x4⟩:=aU (hsv _ hlt) (b:=(b:Int)) a0 (show ar<=(gs.length:Int)*16777216 from a1);have kw:Ad .i64 ((s.g gs.length).w*(s.g gs.length).h):=Ad.of (show _<=Fz s gs.length by omega) (show Fz s gs.length<=_ by omega);have aN:ar+(s.g gs.length).w*(s.g gs.length).h=CR s gs.length ar b:=by unfold CR;rw[Cx h5];rfl
   have ka:Ad .i64 (ar+(s.g gs.length).w*(s.g gs.length).h):=by rw[aN];exact jK
   exact⟨ci,ci,kw,ka,b,(by(try dsimp only);(repeat' with_reducible apply And.intro)<;>first|with_reducible rfl|with_reducible assumption|with_reducible exact fun _=>rfl|with_reducible exact fun _ _=>rfl|with_reducible exact trivial|exact(fun _ _ _ _=>rfl)|exact rfl|(intro _;exact rfl)|(intro _ _;exact rfl)|exact aN|exact o4|exact trivial|(intro _ h_;exact absurd h_ (nT _)))⟩
  ·obtain rfl:b=b2:=by have:=hb2.1;omega
   have aN:ar=CR s gs.length ar b:=by unfold CR;rw[BW h5];rfl
   exact⟨b,(by(try dsimp only);(repeat' with_reducible apply And.intro)<;>first|with_reducible rfl|with_reducible assumption|with_reducible exact fun _=>rfl|with_reducible exact fun _ _=>rfl|with_reducible exact trivial|exact(fun _ _ _ _=>rfl)|exact rfl|(intro _;exact rfl)|(intro _ _;exact rfl)|exact aN|exact o4|exact trivial|(intro _ h_;exact absurd h_ (nT _)))⟩
  ·obtain rfl:b=b3:=by have:=hb3.1;omega
   have hsk:F0 w s lf gs.length b=false:=h;have hcu:Ha (Da w s lf gs ar kn b) (CR s gs.length ar b)=true:=h6;rw[hsk,cond_false,hcu,cond_true]at nx;obtain⟨x1,x2,x3,x4⟩:=aU (hsv _ hlt) (b:=(b:Int)) a0 (show ar<=(gs.length:Int)*16777216 from a1);have e1:BT b lf=b:=by
    unfold F0 at hsk
    by_cases e:BT b lf=b
    ·exact e
    ·rw[decide_eq_false e]at hsk;cases hsk
   obtain⟨y1,y2,y3⟩:=aR hok.1 l0 l15 hb16 e1 hinv;have yl:(Am (Br gs b)).n<=s.n:=by show(gs ++ [(b:Int)]).length<=_;rw[Aei,AeB];omega
   have yl2:((Am (Br gs b)).n:Int)=((gs.length+1:Nat):Int):=by show(((gs ++ [(b:Int)]).length:Nat):Int)=_;rw[Aei,AeB]
   have x5:CR s gs.length ar b<=((Am (Br gs b)).n:Int)*16777216:=by rw[yl2];exact x4
   have ym:s.n-(Am (Br gs b)).n<rn:=by
    have:(Am (Br gs b)).n=gs.length+1:=by omega
    omega
   have kl:Ad .i64 (lf-(b:Int)):=jK;have ok2:EA w s (CS w s (lf-b) (Br gs b) (CR s gs.length ar b) (Da w s lf gs ar kn b)):=aT hok.1 yl y2 y3 y1 hbk;refine⟨kl,(w,s,lf-b,CR s gs.length ar b,Br gs b,Da w s lf gs ar kn b),?_⟩;exact(by(try dsimp only);(repeat' with_reducible apply And.intro)<;>first|with_reducible rfl|with_reducible assumption|with_reducible exact fun _=>rfl|with_reducible exact fun _ _=>rfl|with_reducible exact trivial|exact(fun _ _ _ _=>rfl)|(intro u _;exact⟨kb,b+1,(by(try dsimp only);rw[nx];exact(by(try dsimp only);(repeat' with_reducible apply And.intro)<;>first|with_reducible rfl|with_reducible assumption|with_reducible exact fun _=>rfl|with_reducible exact fun _ _=>rfl|with_reducible exact trivial|exact(fun _ _ _ _=>rfl)|exact rfl|(intro _;exact rfl)|(intro _ _;exact rfl)|exact cn|exact g1|exact ok2|exact g2|exact o4|exact trivial|(intro _ h_;exact absurd h_ (nT _))))⟩)|exact rfl|(intro _;exact rfl)|(intro _ _;exact rfl)|exact hok|exact hs4|exact hsv|exact yl|exact y2|exact y3|exact x3|exact x5|exact y1|exact hbk|exact ym|exact o4|exact trivial|(intro _ h_;exact absurd h_ (nT _)))
  ·obtain rfl:b=b3:=by have:=hb3.1;omega
   have hsk:F0 w s lf gs.length b=false:=h;have hcu:Ha (Da w s lf gs ar kn b) (CR s gs.length ar b)=false:=h6;rw[hsk,cond_false,hcu,cond_false]at nx;refine⟨kb,b+1,?_⟩
   try dsimp only
   rw[nx];exact(by(try dsimp only);(repeat' with_reducible apply And.intro)<;>first|with_reducible rfl|with_reducible assumption|with_reducible exact fun _=>rfl|with_reducible exact fun _ _=>rfl|with_reducible exact trivial|exact(fun _ _ _ _=>rfl)|exact rfl|(intro _;exact rfl)|(intro _ _;exact rfl)|exact cn|exact g1|exact hbk|exact g2|exact o4|exact trivial|(intro _ h_;exact absurd h_ (nT _))))
theorem aW:As Tryz.prog 51:=fun args w=>by kernel_rfl
theorem Ab7:De Tryz.prog 51 IS:=KS aV ⟨fun t=>rfl,fun t u=>rfl,fun t u=>rfl,fun t u=>⟨rfl,rfl,rfl⟩,.inl rfl,fun k h=>(by cases h)⟩ (fun rn ih=>FB (n:=6) Tryz.func51 (c:=Ai Tryz.f51) (by kernel_rfl) mixed ⟨fun t=>rfl,fun t=>rfl,fun t u=>rfl,fun t u=>rfl,fun t u=>rfl,fun t u=>⟨rfl,rfl⟩,by kernel_rfl,by kernel_rfl⟩ (fun⟨w,s,lf,ar,gs,kn⟩ hp=>⟨_,Ab6 rn w s lf ar gs kn hp.1 hp.2,⟨show Aa Tryz.prog _ from(Aa.cons aC aD (Aa.cons Abv Abw Aa.nil)),rfl,⟨show Af Tryz.prog _ from Af.nil,⟨AA.no1 (fun _=>rfl),⟨show Bj Tryz.prog _ from(Bj.cons ih aW Bj.nil),FamsOk.none (fun _=>rfl)⟩⟩⟩⟩⟩))
end
end
def CD (w:L.Sq Ab) (s:L.Sq Ah):CZ:=CS w s (AM w.n) [] 0 ⟨false,0,[]⟩
def C2 (w:L.Sq Ab) (s:L.Sq Ah):Int:=bif !decide (Bq w s true=0)then Bq w s true else bif !(CD w s).fd then 52 else 0
def DO (w:L.Sq Ab) (s:L.Sq Ah):List Int:=bif decide (C2 w s=0)then BC s (CD w s).gs w.n else []
def EB (w:L.Sq Ab) (s:L.Sq Ah):Int:=bif decide (C2 w s=0)then(CD w s).ar else 0
def GB (w:L.Sq Ab) (s:L.Sq Ah) (a:Int):Bool:=bif decide (C2 w s=52)then true else bif decide (C2 w s=0)then decide (a<=EB w s)else false
def GC (w:L.Sq Ab) (s:L.Sq Ah):Int:=bif decide (C2 w s=52)then 0 else C2 w s
def GD (w:L.Sq Ab) (s:L.Sq Ah) (a:Int):Bool:=bif decide (Bq w s true=0)then(bif !(B5 w s).fd then true else decide (a<=(B5 w s).ls))else false
theorem aX (w:L.Sq Ab) (s:L.Sq Ah):EA w s ⟨false,0,[]⟩:=⟨AdL _,fun h=>by cases h⟩
theorem aY {w:L.Sq Ab} (hn:w.n<=4) (s:L.Sq Ah):Gn w s (AM w.n) []:=by
 unfold Gn;have:∀i,(BC s [] i).length=0:=fun i=>by
  have:=Qj s [] i;rw[List.length_nil,Nat.mul_zero]at this;omega
 rw[this,(Ql hn).2];omega
theorem aZ {M:Nat->Prop} {w:World} {v:Value} {b:Bool} {n:Int} (h:Av M w (.agg [.bool b,.int .i64 n,.raw (.slice none 0 0)]) v):Av M w (.agg [.bool b,.int .i64 n,.sl 1 (Am []).n (fun k=>[.int .i64 ((Am []).g k)])]) v:=by
 cases h with
 |agg _ vs hl hd =>
   refine .agg _ vs hl fun i hi=>?_;have h2:=hd i hi
   match i,hi with
   |0,_=>exact h2
   |1,_=>exact h2
   |2,_ =>
     have h3:Av M w (.raw (.slice none 0 0)) (vs.getD 2 undef):=h2;show Av M w (.sl 1 (Am []).n (fun k=>[.int .i64 ((Am []).g k)])) (vs.getD 2 undef);generalize vs.getD 2 undef=x at h3;cases h3 with
     |raw =>
       refine .sl 1 _ _ none 0 (fun _ _=>undef) (AdS 0) (AdL maxLen) ?_ ?_ ?_ ?_
       ·intro h;exact absurd h (Nat.lt_irrefl 0)
       ·intro i h;exact absurd h (nT i)
       ·intro i h;exact absurd h (nT i)
       ·intro i h;exact absurd h (nT i)
abbrev bC:Mk:={ T:=L.Sq Ab×L.Sq Ah,U:=Nat,args:=fun t=>(fun w s=>[.p (.sl 4 w.n (fun i=>[.int .i64 ((w.g i).id),.int .i64 ((w.g i).colour),.int .i64 ((w.g i).grain),.sl 2 (w.g i).ol.n (fun i1=>[.int .i64 (((w.g i).ol.g i1).x),.int .i64 (((w.g i).ol.g i1).y)])])),.p (.sl 5 s.n (fun i=>[.int .i64 ((s.g i).id),.int .i64 ((s.g i).colour),.int .i64 ((s.g i).w),.int .i64 ((s.g i).h),.int .i64 ((s.g i).grain)])),.p (.sl 1 s.n (fun k=>[.sl 1 (AG w) (fun b=>[.bool (BB w s k (b:Int))])])),.p (.int .i64 (AM w.n)),.p (.agg [.bool false,.int .i64 0,.raw (.slice none 0 0)]),.p (.agg [.bool false,.int .i64 0,.raw (.slice none 0 0)])]) t.1 t.2,lkeys:=[],keys:=[],lent:=fun _=>[],pre:=fun t=>Bv t.1/\t.2.n<=4/\∀k,k<t.2.n->Bo (t.2.g k)=true,post:=fun _ _=>True,lent':=fun _ _=>[],own:=fun _ _=>[],res:=fun t _=>.p (.agg [.bool (CD t.1 t.2).fd,.int .i64 (CD t.1 t.2).ar,.sl 1 (Am (CD t.1 t.2).gs).n (fun k=>[.int .i64 ((Am (CD t.1 t.2).gs).g k)])]) }
theorem Ab8:De Tryz.prog 51 bC:=⟨⟨fun _=>rfl,fun _ _=>rfl,fun _ _=>rfl,fun _ _=>⟨rfl,rfl,rfl⟩,.inl rfl,fun k h=>by cases h⟩,fun t hp M w env vals h1 h2 h3 h4 h5 h6=>by
 obtain⟨p1,p2,p3⟩:=(show Bv t.1/\t.2.n<=4/\∀k,k<t.2.n->Bo (t.2.g k)=true from hp);obtain⟨a1,a2,_,_⟩:=Gi p1.1;refine Ab7.2 (t.1,t.2,AM t.1.n,0,[],⟨false,0,[]⟩) ⟨p1,p2,p3,AdL t.2.n,a1,a2,Int.le_refl 0,(show(0:Int)<=((0:Nat):Int)*16777216 by decide),aY p1.1 t.2,aX t.1 t.2⟩ M w env vals h1 h2 h3 h4 h5 fun i hi=>?_;have q:=h6 i hi
 match i,hi with
 |0,_=>exact q
 |1,_=>exact q
 |2,_=>exact q
 |3,_=>exact q
 |4,_ =>
   have q:Ap Tryz.prog M w env (.p (.agg [.bool false,.int .i64 0,.raw (.slice none 0 0)])) (vals.getD 4 undef):=q;generalize vals.getD 4 undef=x at q ⊢;cases q with
   |p q=>exact .p (aZ q)
 |5,_ =>
   have q:Ap Tryz.prog M w env (.p (.agg [.bool false,.int .i64 0,.raw (.slice none 0 0)])) (vals.getD 5 undef):=q;generalize vals.getD 5 undef=x at q ⊢;cases q with
   |p q=>exact .p (aZ q)⟩
section
attribute [local irreducible] DZ AU Bs CA Fg CS Da BC BB Gm B5
def bD (s:(L.Sq Ah)):Prop:=s.n<=1000000
def bE (s:(L.Sq Ah)):SV:=.bool (D2 s)
def bG:List EV->Option (Prop×SV)
 |[.p (.sl 5 s_n s_g)]=>some ((∀i,i<s_n->s_g i = [.int .i64 ((AQ (s_g i)).id),.int .i64 ((AQ (s_g i)).colour),.int .i64 ((AQ (s_g i)).w),.int .i64 ((AQ (s_g i)).h),.int .i64 ((AQ (s_g i)).grain)])/\bD (⟨s_n,fun i=>AQ (s_g i)⟩:(L.Sq Ah)),bE (⟨s_n,fun i=>AQ (s_g i)⟩:(L.Sq Ah)))
 |_=>none
abbrev bH:SE.Spec:=(AI bG)
def Ab9:Al:={ cC with specs:=AC [(84,Xh)] }
theorem AbA (s:(L.Sq Ah)) (hp:bD s):vc Tryz.prog ({ Ab9 with loops:=AT [(2,{ T:=Nat,keep:=[0],keepO:=[],chg:=fun i=>[(3,.p (.int .i64 (i:Int)))],own:=fun _=>[],inv:=fun i=>i<=s.n/\∀j,j<i->C9 (fun i=>Bo (s.g i)) (fun i=>(s.g i).id) j=false,mu:=fun i=>s.n-i })],rfs:=AP [] }) (Ai Tryz.f93) (Au Tryz.f93 [.p (.sl 5 s.n (fun i=>[.int .i64 ((s.g i).id),.int .i64 ((s.g i).colour),.int .i64 ((s.g i).w),.int .i64 ((s.g i).h),.int .i64 ((s.g i).grain)]))]) (AH Tryz.prog Tryz.f93 (bE s)):=
 @Eq.mpr _ (let I:=SV.int .i64;let T:=Aee;let A7:=(1:Int);let A6:=(0:Int);let A5:=(↑s.n:Int);(∃(g:Nat),A6=(↑g:Int)/\g<=s.n/\∀(j:Nat),j<g->C9 (fun(i:Nat)=>Bo (s.g i)) (fun(i:Nat)=>(s.g i).id) j=false)/\∀(g:Nat),let A3:=(↑g:Int);let A8:=(s.g (T A3));let A2:=(!!Bo A8&&decide (A6<A3));let A1:=(bif !Bo A8 then true else bif decide (A6<A3)then decide (A8.id<=(s.g (T (A3-A7))).id)else false);(g<=s.n/\∀(j:Nat),j<g->C9 (fun(i:Nat)=>Bo (s.g i)) (fun(i:Nat)=>(s.g i).id) j=false)->(decide (A3<A5)=true->(A6<=A3/\A3<A5)/\True/\(A2=true->A6<=A3/\A3<A5)/\(A2=true->Ad .i64 (A3-A7))/\(A2=true->A6<=A3-A7/\A3-A7<A5)/\(A1=true->false=D2 s)/\(A1=false->Ad .i64 (A3+A7)/\∃(g':Nat),A3+A7=(↑g':Int)/\(s.n=s.n/\∀(i:Nat),let A4:=[I (s.g i).id,I (s.g i).colour,I (s.g i).w,I (s.g i).h,I (s.g i).grain];i<s.n->A4=A4)/\(g'<=s.n/\∀(j:Nat),j<g'->C9 (fun(i:Nat)=>Bo (s.g i)) (fun(i:Nat)=>(s.g i).id) j=false)/\s.n-g'<s.n-g))/\(decide (A3<A5)=false->true=D2 s)) (by kernel_rfl) (by
 conv=>zeta
 have hn:s.n<=1000000:=hp;refine⟨⟨(0:Nat),rfl,AdL _,fun j hj=>absurd hj (nT _)⟩,fun g hg=>⟨fun hlt=>?_,fun hge=>?_⟩⟩
 ·have hb:(g:Int)<(s.n:Int):=of_decide_eq_true hlt;have e0:((g:Int)).toNat=g:=Aea g;have e1:((g:Int)-1).toNat=g-1:=by omega
  rw[e0,e1];refine⟨⟨Aec _,hb⟩,trivial,fun _=>⟨Aec _,hb⟩,fun _=>jK,fun h=>?_,fun h=>?_,fun h=>?_⟩
  ·have:0<(g:Int):=of_decide_eq_true (Afg.1 h).2;omega
  ·exact(Nf (i:=g) (f:=fun i=>!C9 (fun i=>Bo (s.g i)) (fun i=>(s.g i).id) i) (by omega) (by show(!_)=false;rw[show C9 (fun i=>Bo (s.g i)) (fun i=>(s.g i).id) g=true from h];rfl)).symm
  ·refine⟨jK,g+1,by omega,⟨rfl,fun _ _=>rfl⟩,⟨by omega,fun j hj=>?_⟩,by omega⟩;rcases AdZ.1 hj with h'|rfl
   ·exact hg.2 j h'
   ·exact h
 ·have hb:¬ (g:Int)<(s.n:Int):=of_decide_eq_false hge;exact(Dk.2 (fun i hi=>by show(!_)=true;rw[hg.2 i (by omega)];rfl)).symm)
theorem AbB:Ax Tryz.prog 93 bH:=AK Tryz.func93 (c:=Ai Tryz.f93) (by kernel_rfl) mixed (fun args p r hs hp=>by
 unfold bG at hs;split at hs
 ·cases hs;exact⟨_,_,AbA _ hp.2,(.p (.sl hp.1) .nil),⟨show Aa Tryz.prog _ from(Aa.cons vN vO Aa.nil),rfl,⟨show Af Tryz.prog _ from Af.nil,(AA.none (fun _=>rfl))⟩⟩⟩
 ·cases hs)
theorem AbC:As Tryz.prog 93:=fun args w=>by kernel_rfl
def bI (w:(L.Sq Ab)) (s:(L.Sq Ah)):Prop:=w.n<=1000000/\(∀i,i<w.n->(w.g i).ol.n<=1000000)/\s.n<=1000000
def bJ (w:(L.Sq Ab)) (s:(L.Sq Ah)):SV:=.int .i64 (Bq w s true)
def bK:List EV->Option (Prop×SV)
 |[.p (.sl 4 w_n w_g),.p (.sl 5 s_n s_g)]=>some ((∀i,i<w_n->Dn (w_g i))/\(∀i,i<s_n->s_g i = [.int .i64 ((AQ (s_g i)).id),.int .i64 ((AQ (s_g i)).colour),.int .i64 ((AQ (s_g i)).w),.int .i64 ((AQ (s_g i)).h),.int .i64 ((AQ (s_g i)).grain)])/\bI (⟨w_n,fun i=>Bx (w_g i)⟩:(L.Sq Ab)) (⟨s_n,fun i=>AQ (s_g i)⟩:(L.Sq Ah)),bJ (⟨w_n,fun i=>Bx (w_g i)⟩:(L.Sq Ab)) (⟨s_n,fun i=>AQ (s_g i)⟩:(L.Sq Ah)))
 |_=>none
abbrev bL:SE.Spec:=(AI bK)
def AbD:Al:={ cC with specs:=AC [(38,PZ),(93,bH)] }
theorem AbE (w:(L.Sq Ab)) (s:(L.Sq Ah)) (hp:bI w s):vc Tryz.prog (AbD) (Ai Tryz.f50) (Au Tryz.f50 [.p (.sl 4 w.n (fun i=>[.int .i64 ((w.g i).id),.int .i64 ((w.g i).colour),.int .i64 ((w.g i).grain),.sl 2 (w.g i).ol.n (fun i1=>[.int .i64 (((w.g i).ol.g i1).x),.int .i64 (((w.g i).ol.g i1).y)])])),.p (.sl 5 s.n (fun i=>[.int .i64 ((s.g i).id),.int .i64 ((s.g i).colour),.int .i64 ((s.g i).w),.int .i64 ((s.g i).h),.int .i64 ((s.g i).grain)]))]) (AH Tryz.prog Tryz.f50 (bJ w s)):=
 @Eq.mpr _ (let I:=SV.int .i64;let A4:=(1000000:Nat);let A1:=(bif decide ((7:Int)<(↑w.n:Int))then true else decide ((7:Int)<(↑s.n:Int)));((∀(i:Nat),i<w.n->∀(i_1:Nat),let A3:=((w.g i).ol.g i_1);i_1<(w.g i).ol.n -> [I A3.x,I A3.y]= [I A3.x,I A3.y])/\w.n<=A4/\∀(i:Nat),i<w.n->(w.g i).ol.n<=A4)/\((!Cy w)=true->(50:Int)=Bq w s true)/\((!Cy w)=false->((∀(i:Nat),let A2:=[I (s.g i).id,I (s.g i).colour,I (s.g i).w,I (s.g i).h,I (s.g i).grain];i<s.n->A2=A2)/\s.n<=A4)/\((!D2 s)=true->(1:Int)=Bq w s true)/\((!D2 s)=false->(A1=true->(2:Int)=Bq w s true)/\(A1=false->(0:Int)=Bq w s true)))) (by kernel_rfl) (by
 conv=>zeta
 obtain⟨h1,h2,h3⟩:=(show w.n<=1000000/\(∀i,i<w.n->(w.g i).ol.n<=1000000)/\s.n<=1000000 from hp);have e:Bq w s true=bif !Cy w then 50 else bif !D2 s then 1 else bif (bif decide (7<(w.n:Int))then true else decide (7<(s.n:Int)))then 2 else 0:=by
  unfold Bq;cases Cy w<;>cases D2 s<;>rfl
 rw[e];refine⟨⟨fun _ _ _ _=>rfl,h1,h2⟩,fun h=>?_,fun h=>⟨⟨fun _ _=>rfl,h3⟩,fun h4=>?_,fun h4=>⟨fun h5=>?_,fun h5=>?_⟩⟩⟩
 ·have h:(!Cy w)=true:=h;rw[h];rfl
 ·have h:(!Cy w)=false:=h;rw[h,h4];rfl
 ·have h:(!Cy w)=false:=h;rw[h,h4,h5];rfl
 ·have h:(!Cy w)=false:=h;rw[h,h4,h5];rfl)
theorem AbF:Ax Tryz.prog 50 bL:=AK Tryz.func50 (c:=Ai Tryz.f50) (by kernel_rfl) mixed (fun args p r hs hp=>by
 unfold bK at hs;split at hs
 ·cases hs;exact⟨_,_,AbE _ _ hp.2.2,(.p (DY hp.1) (.p (.sl hp.2.1) .nil)),⟨show Aa Tryz.prog _ from(Aa.cons Zo Zp (Aa.cons AbB AbC Aa.nil)),rfl,⟨show Af Tryz.prog _ from Af.nil,(AA.none (fun _=>rfl))⟩⟩⟩
 ·cases hs)
theorem AbG:As Tryz.prog 50:=fun args w=>by kernel_rfl
def bM (w:(L.Sq Ab)) (s:(L.Sq Ah)):Prop:=CI w/\FJ s
def bN (w:(L.Sq Ab)) (s:(L.Sq Ah)):SV:=.tup [.sl 1 (Am (DO w s)).n (fun i=>[.int .i64 ((Am (DO w s)).g i)]),.int .i64 (EB w s),.int .i64 (C2 w s)]
def bO:List EV->Option (Prop×SV)
 |[.p (.sl 4 w_n w_g),.p (.sl 5 s_n s_g)]=>some ((∀i,i<w_n->Dn (w_g i))/\(∀i,i<s_n->s_g i = [.int .i64 ((AQ (s_g i)).id),.int .i64 ((AQ (s_g i)).colour),.int .i64 ((AQ (s_g i)).w),.int .i64 ((AQ (s_g i)).h),.int .i64 ((AQ (s_g i)).grain)])/\bM (⟨w_n,fun i=>Bx (w_g i)⟩:(L.Sq Ab)) (⟨s_n,fun i=>AQ (s_g i)⟩:(L.Sq Ah)),bN (⟨w_n,fun i=>Bx (w_g i)⟩:(L.Sq Ab)) (⟨s_n,fun i=>AQ (s_g i)⟩:(L.Sq Ah)))
 |_=>none
abbrev Qn:SE.Spec:=(AI bO)
def AbH:Al:={ cC with muts:=[8],specs:=AC [(50,bL),(52,aM),(53,Qk)],anys:=[1004],mks:=DF [(51,bC)],ren:=fun k=>k }
theorem AbI (w:(L.Sq Ab)) (s:(L.Sq Ah)) (hp:bM w s):vc Tryz.prog ({ AbH with loops:=AT [],rfs:=AP [],joins:=AT [(5,{ T:=Nat,keep:=[0,1],keepO:=[],chg:=fun _=>[(8,.loc 8 0)],own:=fun _=>[(8,.blk 107 [.p (.bool (CD w s).fd),.p (.int .i64 (CD w s).ar),.p (.sl 1 (Am (CD w s).gs).n (fun k=>[.int .i64 ((Am (CD w s).gs).g k)]))])],inv:=fun _=>True,mu:=fun _=>0 })] }) (Ai Tryz.f18) (Au Tryz.f18 [.p (.sl 4 w.n (fun i=>[.int .i64 ((w.g i).id),.int .i64 ((w.g i).colour),.int .i64 ((w.g i).grain),.sl 2 (w.g i).ol.n (fun i1=>[.int .i64 (((w.g i).ol.g i1).x),.int .i64 (((w.g i).ol.g i1).y)])])),.p (.sl 5 s.n (fun i=>[.int .i64 ((s.g i).id),.int .i64 ((s.g i).colour),.int .i64 ((s.g i).w),.int .i64 ((s.g i).h),.int .i64 ((s.g i).grain)]))]) (AH Tryz.prog Tryz.f18 (bN w s)):=
  @Eq.mpr _ (let I:=SV.int .i64;let A55:=(1000000:Nat);let A36:=(Am (DO w s));let A28:=(4:Nat);let A26:=(0:Int);let A39:=(!decide (Bq w s true=A26));let A25:=(0:Nat);let A21:=(1:Nat);let A20:=(2:Nat);let A19:=(1:Int);let A17:=(CD w s);let A16:=(↑w.n:Int);let A22:=(Bi A19 A16);let A15:=(Bi
 A19 A16-A19);let A14:=(∀(i:Nat),i<w.n->∀(i_1:Nat),let A38:=((w.g i).ol.g i_1);i_1<(w.g i).ol.n -> [I A38.x,I A38.y]= [I A38.x,I A38.y]);let A13:=(∀(i:Nat),let A23:=[I (s.g i).id,I (s.g i).colour,I (s.g i).w,I (s.g i).h,I (s.g i).grain];i<s.n->A23=A23);let A12:=(Am A17.gs);let A27:=(Am (BC s (Ci A12) w.n));let A11:=(s.n=s.n/\∀(i :
 Nat),let A24:=[I (s.g i).id,I (s.g i).colour,I (s.g i).w,I (s.g i).h,I (s.g i).grain];i<s.n->A24=A24);let A10:=(A14/\A13/\Bv w/\s.n<=A28);let A3:=(w.n=w.n/\∀(i:Nat),let A18:=[I (w.g i).id,I (w.g i).colour,I (w.g i).grain,SV.sl A20 (w.g i).ol.n fun(i1:Nat)=>[I ((w.g i).ol.g i1).x,I ((w.g i).ol.g i1).y]];i<w.n->A18=A18);let A2:=[SV.bool
 false,I A26,SV.raw (Value.slice AdV A25 A25)];let A9:=(A10/\A26<=A16/\Ad .i64 A22/\Ad .i64 A15/\∃(t:L.Sq Ab×L.Sq Ah),let A29:=(CD t.1 t.2);let A57:=(Am A29.gs);(w.n=t.1.n/\∀(i:Nat),let A40:=(t.1.g i);i<w.n -> [I (w.g i).id,I (w.g i).colour,I (w.g i).grain,SV.sl A20 (w.g i).ol.n fun(i1
:Nat)=>[I ((w.g i).ol.g i1).x,I ((w.g i).ol.g i1).y]]= [I A40.id,I A40.colour,I A40.grain,SV.sl A20 A40.ol.n fun(i1:Nat)=>[I (A40.ol.g i1).x,I (A40.ol.g i1).y]])/\(s.n=t.2.n/\∀(i:Nat),let A48:=(t.2.g i);i<s.n -> [I (s.g i).id,I (s.g i).colour,I (s.g i).w,I (s.g i).h,I (s.g i).grain]= [I A48.id,I A48.colour,I A48.w,I A48.h,I A48.grain])/\(s.n=t.2.n/\∀(i :
 Nat),i<s.n -> [SV.sl A21 (AG w) fun(b:Nat)=>[SV.bool (BB w s i (↑b:Int))]]= [SV.sl A21 (AG t.1) fun(b:Nat)=>[SV.bool (BB t.1 t.2 i (↑b:Int))]])/\Bi A19 A16-A19=AM t.1.n/\SV.agg A2=SV.agg A2/\SV.agg A2=SV.agg A2/\(Bv t.1/\t.2.n<=A28/\∀(k:Nat),k<t.2.n->Bo (t.2.g k)=true)/\∀(u
:Nat),True->∃(g:Nat),nat_lit 0=A25/\A3/\A11/\A29.fd=A17.fd/\A29.ar=A17.ar/\(A57.n=A12.n/\∀(i:Nat),i<A57.n -> [I (A57.g i)]= [I (A12.g i)])/\True);let A8:=(Ad .i64 A15/\∃(t:L.Sq Ab×L.Sq Ah),let A30:=(CD t.1 t.2);let A58:=(Am A30.gs);(w.n=t.1.n/\∀(i:Nat),let A41:=(t.1.g i);i<w.n -> [I (w.g i).id,I (w.g i).colour,
 I (w.g i).grain,SV.sl A20 (w.g i).ol.n fun(i1:Nat)=>[I ((w.g i).ol.g i1).x,I ((w.g i).ol.g i1).y]]= [I A41.id,I A41.colour,I A41.grain,SV.sl A20 A41.ol.n fun(i1:Nat)=>[I (A41.ol.g i1).x,I (A41.ol.g i1).y]])/\(s.n=t.2.n/\∀(i:Nat),let A49:=(t.2.g i);i<s.n -> [I (s.g i).id,I (s.g i).colour,I (s.g i).w,I (s.g i).h,I (s.g i).grain]= [I A49.id,I A49.colour,I
 A49.w,I A49.h,I A49.grain])/\(s.n=t.2.n/\∀(i:Nat),i<s.n -> [SV.sl A21 (AG w) fun(b:Nat)=>[SV.bool (BB w s i (↑b:Int))]]= [SV.sl A21 (AG t.1) fun(b:Nat)=>[SV.bool (BB t.1 t.2 i (↑b:Int))]])/\Bi A19 A16-A19=AM t.1.n/\SV.agg A2=SV.agg A2/\SV.agg A2=SV.agg A2/\(Bv t.1/\t.2.n<=A28/\∀(k :
 Nat),k<t.2.n->Bo (t.2.g k)=true)/\∀(u:Nat),True->∃(g:Nat),nat_lit 0=A25/\A3/\A11/\A30.fd=A17.fd/\A30.ar=A17.ar/\(A58.n=A12.n/\∀(i:Nat),i<A58.n -> [I (A58.g i)]= [I (A12.g i)])/\True);let A7:=(A10/\∃(t:L.Sq Ab×L.Sq Ah),let A31:=(CD t.1 t.2);let A59:=(Am A31.gs);(w.n=t.1.n/\∀(i:Nat),let A42:=(t.1.g i);i<w.n ->
 [I (w.g i).id,I (w.g i).colour,I (w.g i).grain,SV.sl A20 (w.g i).ol.n fun(i1:Nat)=>[I ((w.g i).ol.g i1).x,I ((w.g i).ol.g i1).y]]= [I A42.id,I A42.colour,I A42.grain,SV.sl A20 A42.ol.n fun(i1:Nat)=>[I (A42.ol.g i1).x,I (A42.ol.g i1).y]])/\(s.n=t.2.n/\∀(i:Nat),let A50:=(t.2.g i);i<s.n -> [I (s.g i).id,I (s.g i).colour,I (s.g i).w,I (s.g i).h,I (s.g
 i).grain]= [I A50.id,I A50.colour,I A50.w,I A50.h,I A50.grain])/\(s.n=t.2.n/\∀(i:Nat),i<s.n -> [SV.sl A21 (AG w) fun(b:Nat)=>[SV.bool (BB w s i (↑b:Int))]]= [SV.sl A21 (AG t.1) fun(b:Nat)=>[SV.bool (BB t.1 t.2 i (↑b:Int))]])/\Bi A19 A16-A19=AM t.1.n/\SV.agg A2=SV.agg A2/\SV.agg A2=SV.agg A2
 /\ (Bv t.1/\t.2.n<=A28/\∀(k:Nat),k<t.2.n->Bo (t.2.g k)=true)/\∀(u:Nat),True->∃(g:Nat),nat_lit 0=A25/\A3/\A11/\A31.fd=A17.fd/\A31.ar=A17.ar/\(A59.n=A12.n/\∀(i:Nat),i<A59.n -> [I (A59.g i)]= [I (A12.g i)])/\True);let A6:=(Ad .i64 A15/\A10/\∃(t:L.Sq Ab×L.Sq Ah),let A32:=(CD t.1 t.2);let A60:=(Am
 A32.gs);(w.n=t.1.n/\∀(i:Nat),let A43:=(t.1.g i);i<w.n -> [I (w.g i).id,I (w.g i).colour,I (w.g i).grain,SV.sl A20 (w.g i).ol.n fun(i1:Nat)=>[I ((w.g i).ol.g i1).x,I ((w.g i).ol.g i1).y]]= [I A43.id,I A43.colour,I A43.grain,SV.sl A20 A43.ol.n fun(i1:Nat)=>[I (A43.ol.g i1).x,I (A43.ol.g i1).y]])/\(s.n=t.2.n/\∀(i:Nat),let A51:=(t.2.g i);i<s.n -> [I
 (s.g i).id,I (s.g i).colour,I (s.g i).w,I (s.g i).h,I (s.g i).grain]= [I A51.id,I A51.colour,I A51.w,I A51.h,I A51.grain])/\(s.n=t.2.n/\∀(i:Nat),i<s.n -> [SV.sl A21 (AG w) fun(b:Nat)=>[SV.bool (BB w s i (↑b:Int))]]= [SV.sl A21 (AG t.1) fun(b:Nat)=>[SV.bool (BB t.1 t.2 i (↑b:Int))]])/\Bi A19 A16-A19=AM t.1.n /\
 SV.agg A2=SV.agg A2/\SV.agg A2=SV.agg A2/\(Bv t.1/\t.2.n<=A28/\∀(k:Nat),k<t.2.n->Bo (t.2.g k)=true)/\∀(u:Nat),True->∃(g:Nat),nat_lit 0=A25/\A3/\A11/\A32.fd=A17.fd/\A32.ar=A17.ar/\(A60.n=A12.n/\∀(i:Nat),i<A60.n -> [I (A60.g i)]= [I (A12.g i)])/\True);let A5:=(∃(t:L.Sq Ab×L.Sq Ah),let A33 :=
 (CD t.1 t.2);let A61:=(Am A33.gs);(w.n=t.1.n/\∀(i:Nat),let A44:=(t.1.g i);i<w.n -> [I (w.g i).id,I (w.g i).colour,I (w.g i).grain,SV.sl A20 (w.g i).ol.n fun(i1:Nat)=>[I ((w.g i).ol.g i1).x,I ((w.g i).ol.g i1).y]]= [I A44.id,I A44.colour,I A44.grain,SV.sl A20 A44.ol.n fun(i1:Nat)=>[I (A44.ol.g i1).x,I (A44.ol.g i1).y]])/\(s.n=t.2.n/\∀(i:Nat),
 let A52:=(t.2.g i);i<s.n -> [I (s.g i).id,I (s.g i).colour,I (s.g i).w,I (s.g i).h,I (s.g i).grain]= [I A52.id,I A52.colour,I A52.w,I A52.h,I A52.grain])/\(s.n=t.2.n/\∀(i:Nat),i<s.n -> [SV.sl A21 (AG w) fun(b:Nat)=>[SV.bool (BB w s i (↑b:Int))]]= [SV.sl A21 (AG t.1) fun(b:Nat)=>[SV.bool (BB t.1 t.2 i (↑b:Int))]])/\Bi
 A19 A16-A19=AM t.1.n/\SV.agg A2=SV.agg A2/\SV.agg A2=SV.agg A2/\(Bv t.1/\t.2.n<=A28/\∀(k:Nat),k<t.2.n->Bo (t.2.g k)=true)/\∀(u:Nat),True->∃(g:Nat),nat_lit 0=A25/\A3/\A11/\A33.fd=A17.fd/\A33.ar=A17.ar/\(A61.n=A12.n/\∀(i:Nat),i<A61.n -> [I (A61.g i)]= [I (A12.g i)])/\True);let A4:=(A26<=A16/\Ad
 .i64 A22/\Ad .i64 A15/\A10/\∃(t:L.Sq Ab×L.Sq Ah),let A34:=(CD t.1 t.2);let A62:=(Am A34.gs);(w.n=t.1.n/\∀(i:Nat),let A45:=(t.1.g i);i<w.n -> [I (w.g i).id,I (w.g i).colour,I (w.g i).grain,SV.sl A20 (w.g i).ol.n fun(i1:Nat)=>[I ((w.g i).ol.g i1).x,I ((w.g i).ol.g i1).y]]= [I A45.id,I A45.colour,I A45.grain,
 SV.sl A20 A45.ol.n fun(i1:Nat)=>[I (A45.ol.g i1).x,I (A45.ol.g i1).y]])/\(s.n=t.2.n/\∀(i:Nat),let A53:=(t.2.g i);i<s.n -> [I (s.g i).id,I (s.g i).colour,I (s.g i).w,I (s.g i).h,I (s.g i).grain]= [I A53.id,I A53.colour,I A53.w,I A53.h,I A53.grain])/\(s.n=t.2.n/\∀(i:Nat),i<s.n -> [SV.sl A21 (AG w) fun(b:Nat)=>[SV.bool (BB w s i (↑b :
 Int))]]= [SV.sl A21 (AG t.1) fun(b:Nat)=>[SV.bool (BB t.1 t.2 i (↑b:Int))]])/\Bi A19 A16-A19=AM t.1.n/\SV.agg A2=SV.agg A2/\SV.agg A2=SV.agg A2/\(Bv t.1/\t.2.n<=A28/\∀(k:Nat),k<t.2.n->Bo (t.2.g k)=true)/\∀(u:Nat),True->∃(g:Nat),nat_lit 0=A25/\A3/\A11/\A34.fd=A17.fd/\A34.ar=A17.ar
 /\ (A62.n=A12.n/\∀(i:Nat),i<A62.n -> [I (A62.g i)]= [I (A12.g i)])/\True);let A1:=(A26<=A16/\Ad .i64 A22/\Ad .i64 A15/\∃(t:L.Sq Ab×L.Sq Ah),let A35:=(CD t.1 t.2);let A63:=(Am A35.gs);(w.n=t.1.n/\∀(i:Nat),let A46:=(t.1.g i);i<w.n -> [I (w.g i).id,I (w.g i).colour,I (w.g i).grain,SV.sl A20 (w.g i).ol.n
 fun(i1:Nat)=>[I ((w.g i).ol.g i1).x,I ((w.g i).ol.g i1).y]]= [I A46.id,I A46.colour,I A46.grain,SV.sl A20 A46.ol.n fun(i1:Nat)=>[I (A46.ol.g i1).x,I (A46.ol.g i1).y]])/\(s.n=t.2.n/\∀(i:Nat),let A54:=(t.2.g i);i<s.n -> [I (s.g i).id,I (s.g i).colour,I (s.g i).w,I (s.g i).h,I (s.g i).grain]= [I A54.id,I A54.colour,I A54.w,I A54.h,I A54.grain])/\(s.n=t.2.n
 /\ ∀(i:Nat),i<s.n -> [SV.sl A21 (AG w) fun(b:Nat)=>[SV.bool (BB w s i (↑b:Int))]]= [SV.sl A21 (AG t.1) fun(b:Nat)=>[SV.bool (BB t.1 t.2 i (↑b:Int))]])/\Bi A19 A16-A19=AM t.1.n/\SV.agg A2=SV.agg A2/\SV.agg A2=SV.agg A2/\(Bv t.1/\t.2.n<=A28/\∀(k:Nat),k<t.2.n->Bo (t.2.g k) =
 true)/\∀(u:Nat),True->∃(g:Nat),nat_lit 0=A25/\A3/\A11/\A35.fd=A17.fd/\A35.ar=A17.ar/\(A63.n=A12.n/\∀(i:Nat),i<A63.n -> [I (A63.g i)]= [I (A12.g i)])/\True);(A14/\A13/\w.n<=A55/\(∀(i:Nat),i<w.n->(w.g i).ol.n<=A55)/\s.n<=A55)/\(A39=true->A36.n=A25/\A26=EB w s/\Bq w s true=C2 w s)/\(A39=false->(A10/\A26<=A16
 /\ Ad .i64 A22/\Ad .i64 A15/\A5/\A5/\A5/\A5/\A5/\A8/\A8/\A8/\A8/\A1/\A1/\A1/\A1/\A1/\A1/\A1/\A1/\A7/\A7/\A7/\A7/\A6/\A6/\A6/\A6/\A4/\A4/\A4/\A4/\A9/\A9/\A9/\A10/\A26<=A16/\Ad .i64 A22/\Ad .i64 A15/\∃(t:L.Sq Ab×L.Sq Ah),let A37:=(CD t.1 t.2);let A64:=(Am A37.gs);(w.n
 = t.1.n/\∀(i:Nat),let A47:=(t.1.g i);i<w.n -> [I (w.g i).id,I (w.g i).colour,I (w.g i).grain,SV.sl A20 (w.g i).ol.n fun(i1:Nat)=>[I ((w.g i).ol.g i1).x,I ((w.g i).ol.g i1).y]]= [I A47.id,I A47.colour,I A47.grain,SV.sl A20 A47.ol.n fun(i1:Nat)=>[I (A47.ol.g i1).x,I (A47.ol.g i1).y]])/\(s.n=t.2.n/\∀(i:Nat),let A56:=(t.2.g i);i<s.n -> [I (s.g i).id,I
 (s.g i).colour,I (s.g i).w,I (s.g i).h,I (s.g i).grain]= [I A56.id,I A56.colour,I A56.w,I A56.h,I A56.grain])/\(s.n=t.2.n/\∀(i:Nat),i<s.n -> [SV.sl A21 (AG w) fun(b:Nat)=>[SV.bool (BB w s i (↑b:Int))]]= [SV.sl A21 (AG t.1) fun(b:Nat)=>[SV.bool (BB t.1 t.2 i (↑b:Int))]])/\Bi A19 A16-A19=AM t.1.n/\SV.agg A2 =
 SV.agg A2/\SV.agg A2=SV.agg A2/\(Bv t.1/\t.2.n<=A28/\∀(k:Nat),k<t.2.n->Bo (t.2.g k)=true)/\∀(u:Nat),True->∃(g:Nat),nat_lit 0=A25/\A3/\A11/\A37.fd=A17.fd/\A37.ar=A17.ar/\(A64.n=A12.n/\∀(i:Nat),i<A64.n -> [I (A64.g i)]= [I (A12.g i)])/\True)/\∀(g:Nat),True->((!A17.fd)=true->A36.n=A25/\A26=EB w s /\
 (52:Int)=C2 w s)/\((!A17.fd)=false->(A14/\A13/\(∀(i:Nat),i<A12.n -> [I (A12.g i)]= [I (A12.g i)])/\w.n<=(1000:Nat)/\s.n<=(1000:Nat)/\A12.n<=s.n)/\(A27.n=A36.n/\∀(i:Nat),i<A27.n -> [I (A27.g i)]= [I (A36.g i)])/\A17.ar=EB w s/\A26=C2 w s))) (by kernel_rfl) (by
  conv=>zeta
  obtain⟨hw,hs⟩:=(show CI w/\FJ s from hp);have fin:∀e,C2 w s=e->e≠0->(Am (DO w s)).n=0/\0=EB w s/\e=C2 w s:=fun e h h0=>⟨by unfold DO;rw[h,decide_eq_false h0];rfl,by unfold EB;rw[h,decide_eq_false h0];rfl,h.symm⟩;refine⟨⟨fun _ _ _ _=>rfl,fun _ _=>rfl,hw.2.1,hw.2.2,hs.2⟩,fun h=>?_,fun h=>?_⟩
  ·have h:(!decide (Bq w s true=0))=true:=h;exact fin _ (by unfold C2;rw[h];rfl) (of_decide_eq_false (Cx h))
  have h:(!decide (Bq w s true=0))=false:=h;obtain⟨-,v2,-,v4,v5⟩:=Ic (of_decide_eq_true (BW h));have ok:=H1 hw v4;have s4:s.n<=4:=by have:=hs.1;omega
  have vs:=Qf v2;obtain⟨a1,a2,a3,a4⟩:=Gi ok.1;have aE:AM w.n=Bi 1 w.n-1:=rfl;have k1:Ad .i64 (Bi 1 w.n):=EO;have k2:Ad .i64 (Bi 1 w.n-1):=EO;have w0:0<=(w.n:Int):=Aec _;have w4:w.n<=1000:=Aeu ok.1 (by decide);have s5:s.n<=1000:=Aeu s4 (by decide);have okk:(CD w s).gs.length<=s.n:=(aT ok.1 (AdL _) a1 a2 (aY ok.1 s) (aX w s)).1;have okg:(Am (CD w s).gs).n<=s.n:=okk;have o4:∀i,i<w.n->∀j,j<(w.g i).ol.n -> [SV.int .i64 ((w.g i).ol.g j).x,SV.int .i64 ((w.g i).ol.g j).y]= [SV.int .i64 ((w.g i).ol.g j).x,SV.int .i64 ((w.g i).ol.g j).y]:=fun _ _ _ _=>rfl;have o5:∀i,i<s.n -> [SV.int .i64 (s.g i).id,SV.int .i64 (s.g i).colour,SV.int .i64 (s.g i).w,SV.int .i64 (s.g i).h,SV.int .i64 (s.g i).grain]= [SV.int .i64 (s.g i).id,SV.int .i64 (s.g i).colour,SV.int .i64 (s.g i).w,SV.int .i64 (s.g i).h,SV.int .i64 (s.g i).grain]:=fun _ _=>rfl;refine⟨?_,fun g _=>⟨fun h2=>?_,fun h2=>?_⟩⟩
  ·repeat' with_reducible apply And.intro
   all_goals first|exact o4|exact o5|exact ok|exact s4|exact w0|exact k1|exact k2|exact⟨(w,s),(by(try dsimp only);(repeat' with_reducible apply And.intro)<;>first|with_reducible rfl|with_reducible assumption|with_reducible exact fun _=>rfl|with_reducible exact fun _ _=>rfl|with_reducible exact trivial|(intro u _;exact⟨(0:Nat),(by(try dsimp only);(repeat' with_reducible apply And.intro)<;>first|with_reducible rfl|with_reducible assumption|with_reducible exact fun _=>rfl|with_reducible exact fun _ _=>rfl|with_reducible exact trivial|exact(fun _ _ _ _=>rfl)|exact rfl|(intro _;exact rfl)|(intro _ _;exact rfl)|exact o4|exact o5|exact trivial|(intro _ h_;exact absurd h_ (nT _)))⟩)|exact rfl|(intro _;exact rfl)|(intro _ _;exact rfl)|exact ok|exact s4|exact vs|exact trivial|(intro _ h_;exact absurd h_ (nT _)))⟩
  ·exact fin 52 (by unfold C2;rw[h,h2];rfl) (by decide)
  ·have e:C2 w s=0:=by unfold C2;rw[h,h2];rfl
   have eL:DO w s=BC s (CD w s).gs w.n:=by unfold DO;rw[e];rfl
   have eA:EB w s=(CD w s).ar:=by unfold EB;rw[e];rfl
   have eG:Ci (Am (CD w s).gs)=(CD w s).gs:=Qi _;rw[eL,eA,e];have eG2:BC s (Ci (L.Sq.mk (Am (CD w s).gs).n fun i=>(Am (CD w s).gs).g i)) w.n=BC s (CD w s).gs w.n:=congrArg (fun x=>BC s x w.n) eG;refine⟨⟨o4,o5,fun _ _=>rfl,w4,s5,okg⟩,?_,rfl,rfl⟩
   first|rw[eG2]|rw[eG]
   exact⟨rfl,fun _ _=>rfl⟩)
theorem bP:Ax Tryz.prog 18 Qn:=AK Tryz.func18 (c:=Ai Tryz.f18) (by kernel_rfl) mixed (fun args p r hs hp=>by
 unfold bO at hs;split at hs
 ·cases hs;exact⟨_,_,AbI _ _ hp.2.2,(.p (DY hp.1) (.p (.sl hp.2.1) .nil)),⟨show Aa Tryz.prog _ from(Aa.cons AbF AbG (Aa.cons Abz Ab0 (Aa.cons aC aD Aa.nil))),rfl,⟨show Af Tryz.prog _ from Af.nil,⟨AA.no1 (fun _=>rfl),⟨show Bj Tryz.prog _ from(Bj.cons Ab8 aW Bj.nil),FamsOk.none (fun _=>rfl)⟩⟩⟩⟩⟩
 ·cases hs)
theorem bQ:As Tryz.prog 18:=fun args w=>by kernel_rfl
def bR (w:(L.Sq Ab)) (s:(L.Sq Ah)) (a:Int):Prop:=CI w/\FJ s
def bS (w:(L.Sq Ab)) (s:(L.Sq Ah)) (a:Int):SV:=.tup [.bool (GB w s a),.int .i64 (GC w s)]
def bT:List EV->Option (Prop×SV)
 |[.p (.sl 4 w_n w_g),.p (.sl 5 s_n s_g),.p (.int .i64 a)]=>some ((∀i,i<w_n->Dn (w_g i))/\(∀i,i<s_n->s_g i = [.int .i64 ((AQ (s_g i)).id),.int .i64 ((AQ (s_g i)).colour),.int .i64 ((AQ (s_g i)).w),.int .i64 ((AQ (s_g i)).h),.int .i64 ((AQ (s_g i)).grain)])/\bR (⟨w_n,fun i=>Bx (w_g i)⟩:(L.Sq Ab)) (⟨s_n,fun i=>AQ (s_g i)⟩:(L.Sq Ah)) a,bS (⟨w_n,fun i=>Bx (w_g i)⟩:(L.Sq Ab)) (⟨s_n,fun i=>AQ (s_g i)⟩:(L.Sq Ah)) a)
 |_=>none
abbrev bU:SE.Spec:=(AI bT)
def AbJ:Al:={ cC with specs:=AC [(18,Qn)] }
theorem AbK (w:(L.Sq Ab)) (s:(L.Sq Ah)) (a:Int) (hp:bR w s a):vc Tryz.prog (AbJ) (Ai Tryz.f20) (Au Tryz.f20 [.p (.sl 4 w.n (fun i=>[.int .i64 ((w.g i).id),.int .i64 ((w.g i).colour),.int .i64 ((w.g i).grain),.sl 2 (w.g i).ol.n (fun i1=>[.int .i64 (((w.g i).ol.g i1).x),.int .i64 (((w.g i).ol.g i1).y)])])),.p (.sl 5 s.n (fun i=>[.int .i64 ((s.g i).id),.int .i64 ((s.g i).colour),.int .i64 ((s.g i).w),.int .i64 ((s.g i).h),.int .i64 ((s.g i).grain)])),.p (.int .i64 a)]) (AH Tryz.prog Tryz.f20 (bS w s a)):=
 @Eq.mpr _ (let I:=SV.int .i64;((∀(i:Nat),i<w.n->∀(i_1:Nat),let A2:=((w.g i).ol.g i_1);i_1<(w.g i).ol.n -> [I A2.x,I A2.y]= [I A2.x,I A2.y])/\(∀(i:Nat),let A1:=[I (s.g i).id,I (s.g i).colour,I (s.g i).w,I (s.g i).h,I (s.g i).grain];i<s.n->A1=A1)/\CI w/\FJ s)/\(decide (C2 w s=(52:Int))=true->true=GB w s a/\(0:Int)=GC w s)/\(decide (C2 w s=(52:Int))=false->(bif decide (C2 w s=(0:Int))then decide (a<=EB w s)else false)=GB w s a/\C2 w s=GC w s)) (by kernel_rfl) (by
 conv=>zeta
 have hp:CI w/\FJ s:=hp;refine⟨⟨fun _ _ _ _=>rfl,fun _ _=>rfl,hp.1,hp.2⟩,fun h=>?_,fun h=>?_⟩
 ·have h:decide (C2 w s=52)=true:=h;exact⟨by unfold GB;rw[h];rfl,by unfold GC;rw[h];rfl⟩
 ·have h:decide (C2 w s=52)=false:=h;exact⟨by unfold GB;rw[h];rfl,by unfold GC;rw[h];rfl⟩)
theorem AbL:Ax Tryz.prog 20 bU:=AK Tryz.func20 (c:=Ai Tryz.f20) (by kernel_rfl) mixed (fun args p r hs hp=>by
 unfold bT at hs;split at hs
 ·cases hs;exact⟨_,_,AbK _ _ _ hp.2.2,(.p (DY hp.1) (.p (.sl hp.2.1) (.same _ .nil))),⟨show Aa Tryz.prog _ from(Aa.cons bP bQ Aa.nil),rfl,⟨show Af Tryz.prog _ from Af.nil,(AA.none (fun _=>rfl))⟩⟩⟩
 ·cases hs)
theorem AbM:As Tryz.prog 20:=fun args w=>by kernel_rfl
def bV (w:(L.Sq Ab)) (s:(L.Sq Ah)) (a:Int):Prop:=CI w/\FJ s
def bW (w:(L.Sq Ab)) (s:(L.Sq Ah)) (a:Int):SV:=.tup [.bool (GD w s a),.int .i64 (Bq w s true)]
def bX:List EV->Option (Prop×SV)
 |[.p (.sl 4 w_n w_g),.p (.sl 5 s_n s_g),.p (.int .i64 a)]=>some ((∀i,i<w_n->Dn (w_g i))/\(∀i,i<s_n->s_g i = [.int .i64 ((AQ (s_g i)).id),.int .i64 ((AQ (s_g i)).colour),.int .i64 ((AQ (s_g i)).w),.int .i64 ((AQ (s_g i)).h),.int .i64 ((AQ (s_g i)).grain)])/\bV (⟨w_n,fun i=>Bx (w_g i)⟩:(L.Sq Ab)) (⟨s_n,fun i=>AQ (s_g i)⟩:(L.Sq Ah)) a,bW (⟨w_n,fun i=>Bx (w_g i)⟩:(L.Sq Ab)) (⟨s_n,fun i=>AQ (s_g i)⟩:(L.Sq Ah)) a)
 |_=>none
abbrev bY:SE.Spec:=(AI bX)
def AbN:Al:={ cC with specs:=AC [(32,JN)],mks:=DF [(49,IR)],ren:=fun k=>k }
theorem AbO (w:(L.Sq Ab)) (s:(L.Sq Ah)) (a:Int) (hp:bV w s a):vc Tryz.prog (AbN) (Ai Tryz.f19) (Au Tryz.f19 [.p (.sl 4 w.n (fun i=>[.int .i64 ((w.g i).id),.int .i64 ((w.g i).colour),.int .i64 ((w.g i).grain),.sl 2 (w.g i).ol.n (fun i1=>[.int .i64 (((w.g i).ol.g i1).x),.int .i64 (((w.g i).ol.g i1).y)])])),.p (.sl 5 s.n (fun i=>[.int .i64 ((s.g i).id),.int .i64 ((s.g i).colour),.int .i64 ((s.g i).w),.int .i64 ((s.g i).h),.int .i64 ((s.g i).grain)])),.p (.int .i64 a)]) (AH Tryz.prog Tryz.f19 (bW w s a)):=
 @Eq.mpr _ (let I:=SV.int .i64;let A5:=(1000000:Nat);let A2:=(!decide (Bq w s true=(0:Int)));((∀(i:Nat),i<w.n->∀(i_1:Nat),let A3:=((w.g i).ol.g i_1);i_1<(w.g i).ol.n -> [I A3.x,I A3.y]= [I A3.x,I A3.y])/\(∀(i:Nat),let A1:=[I (s.g i).id,I (s.g i).colour,I (s.g i).w,I (s.g i).h,I (s.g i).grain];i<s.n->A1=A1)/\w.n<=A5/\(∀(i
:Nat),i<w.n->(w.g i).ol.n<=A5)/\s.n<=A5)/\(A2=true->false=GD w s a/\Bq w s true=Bq w s true)/\(A2=false->∃(t:L.Sq Ab×L.Sq Ah),(w.n=t.1.n/\∀(i:Nat),let A4:=(t.1.g i);i<w.n -> [I (w.g i).id,I (w.g i).colour,I (w.g i).grain,SV.sl (2:Nat) (w.g i).ol.n fun(i1:Nat)=>[I ((w.g i).ol.g i1).x,I ((w.g i).ol.g
 i1).y]]= [I A4.id,I A4.colour,I A4.grain,SV.sl (2:Nat) A4.ol.n fun(i1:Nat)=>[I (A4.ol.g i1).x,I (A4.ol.g i1).y]])/\(s.n=t.2.n/\∀(i:Nat),let A6:=(t.2.g i);i<s.n -> [I (s.g i).id,I (s.g i).colour,I (s.g i).w,I (s.g i).h,I (s.g i).grain]= [I A6.id,I A6.colour,I A6.w,I A6.h,I A6.grain])/\(Bv t.1/\t.2.n<=(4:Nat)/\∀(k:Nat),k<t.2.n->Bo (t.2.g k)
 = true)/\∀(u:Nat),True->(bif !(B5 t.1 t.2).fd then true else decide (a<=(B5 t.1 t.2).ls))=GD w s a/\(0:Int)=Bq w s true)) (by kernel_rfl) (by
  conv=>zeta
  obtain⟨hw,hs⟩:=(show CI w/\FJ s from hp);refine⟨⟨fun _ _ _ _=>rfl,fun _ _=>rfl,hw.2.1,hw.2.2,hs.2⟩,fun h=>?_,fun h=>?_⟩
  ·have h:(!decide (Bq w s true=0))=true:=h;exact⟨by unfold GD;rw[Cx h];rfl,rfl⟩
  ·have h:(!decide (Bq w s true=0))=false:=h;obtain⟨-,v2,-,v4,v5⟩:=Ic (of_decide_eq_true (BW h));have ok:=H1 hw v4;have s4:s.n<=4:=by have:=hs.1;omega
   have e0:Bq w s true=0:=of_decide_eq_true (BW h);refine⟨(w,s),⟨rfl,fun _ _=>rfl⟩,⟨rfl,fun _ _=>rfl⟩,⟨ok,s4,Qf v2⟩,fun _ _=>⟨?_,e0.symm⟩⟩;unfold GD;rw[BW h];rfl)
theorem AbP:Ax Tryz.prog 19 bY:=AK Tryz.func19 (c:=Ai Tryz.f19) (by kernel_rfl) mixed (fun args p r hs hp=>by
 unfold bX at hs;split at hs
 ·cases hs;exact⟨_,_,AbO _ _ _ hp.2.2,(.p (DY hp.1) (.p (.sl hp.2.1) (.same _ .nil))),⟨show Aa Tryz.prog _ from(Aa.cons Lp Lq Aa.nil),rfl,⟨show Af Tryz.prog _ from Af.nil,⟨AA.no1 (fun _=>rfl),⟨show Bj Tryz.prog _ from(Bj.cons ZO ZN Bj.nil),FamsOk.none (fun _=>rfl)⟩⟩⟩⟩⟩
 ·cases hs)
theorem AbQ:As Tryz.prog 19:=fun args w=>by kernel_rfl
end
def Hb (a b:L.Sq Int):Bool:=bif decide ((a.n:Int)=b.n)then CX a.n (fun i=>decide (a.g i=b.g i))else false
structure Hc where
 area:Int
 pl:Nat
 sc:Nat
def Ee (w:L.Sq Ab) (a:Int):Int:=Bq w Nd (Ay a 0 117440512)
def Nm (w:L.Sq Ab) (k:Nat):Int:=bif AB (w.g k).ol then B4 (w.g k).ol (w.g k).ol.n else 0
def Ds (w:L.Sq Ab) (a:Int):Nat->Int
 |0=>2*a
 |k+1=>Ds w a k-Nm w k
def Es (w:L.Sq Ab) (a:Int):Int:=bif decide (Ee w a=0)then Ds w a w.n else 0
theorem AbR (w:L.Sq Ab) (k:Nat): -1000000000000000<=Nm w k/\Nm w k<=1000000000000000:=by
 unfold Nm;cases h:AB (w.g k).ol with
 |false=>simp only[cond_false];omega
 |true =>
   simp only[cond_true];obtain⟨_,h2,h3,_⟩:=Fr h;have:=MB h3 _ (AdS _);omega
theorem Qo (w:L.Sq Ab) {a:Int} (h0:0<=a) (h1:a<=117440512):∀k:Nat,-(1000000000000000*(k:Int))<=Ds w a k/\Ds w a k<=1000000000000000*(k:Int)+234881024
 |0=>by rw[Ds];omega
 |k+1=>by
   have ih:=Qo w h0 h1 k;have b:=AbR w k;rw[Ds];omega
theorem AbS (w:L.Sq Ab) (a:Int):Ee w a=bif !Cy w then 50 else bif !Ay a 0 117440512 then 1 else bif decide (7<(w.n:Int))then 2 else 0:=by
 unfold Ee Bq;have:D2 Nd=true:=rfl;rw[this];cases Cy w<;>cases Ay a 0 117440512<;>cases decide (7<(w.n:Int))<;>rfl
theorem bZ {a lo hi:Int} (h:Ay a lo hi=true):lo<=a/\a<=hi:=by
 unfold Ay at h;rwa[oE,decide_eq_true_eq,decide_eq_true_eq]at h
section
attribute [local irreducible] Bq Cy D2 AB B4
def cA (l:(L.Sq L.Pt)):Prop:=l.n<=1000000
def cB (l:(L.Sq L.Pt)):SV:=.tup [.int .i64 (bif AB l then B4 l l.n else 0),.int .i64 (bif AB l then 0 else 1)]
def cD:List EV->Option (Prop×SV)
 |[.p (.sl 2 l_n l_g)]=>some ((∀i,i<l_n->l_g i = [.int .i64 ((Ar (l_g i)).x),.int .i64 ((Ar (l_g i)).y)])/\cA (⟨l_n,fun i=>Ar (l_g i)⟩:(L.Sq L.Pt)),cB (⟨l_n,fun i=>Ar (l_g i)⟩:(L.Sq L.Pt)))
 |_=>none
abbrev cE:SE.Spec:=(AI cD)
def AbT:Al:={ cC with specs:=AC [(24,MP),(58,Pp)] }
theorem AbU (l:(L.Sq L.Pt)) (hp:cA l):vc Tryz.prog (AbT) (Ai Tryz.f55) (Au Tryz.f55 [.p (.sl 2 l.n (fun i=>[.int .i64 ((l.g i).x),.int .i64 ((l.g i).y)]))]) (AH Tryz.prog Tryz.f55 (cB l)):=
 @Eq.mpr _ (let I:=SV.int .i64;let A2:=(0:Int);let A1:=(∀(i:Nat),let A3:=[I (l.g i).x,I (l.g i).y];i<l.n->A3=A3);(A1/\True)/\((!AB l)=true->(A2=bif AB l then B4 l l.n else A2)/\(1:Int)=bif AB l then A2 else(1:Int))/\((!AB l)=false->(A1/\E3 l)/\(B4 l l.n=bif AB l then B4 l l.n else A2)/\A2=bif AB l then A2 else(1:Int))) (by kernel_rfl) (by
 conv=>zeta
 refine⟨⟨fun _ _=>rfl,trivial⟩,fun h=>?_,fun h=>?_⟩
 ·have h:AB l=false:=Cx h;rw[h];exact⟨rfl,rfl⟩
 ·have hv:AB l=true:=BW h;rw[hv];exact⟨⟨fun _ _=>rfl,(Fr hv).2.2.1⟩,rfl,rfl⟩)
theorem AbV:Ax Tryz.prog 55 cE:=AK Tryz.func55 (c:=Ai Tryz.f55) (by kernel_rfl) mixed (fun args p r hs hp=>by
 unfold cD at hs;split at hs
 ·cases hs;exact⟨_,_,AbU _ hp.2,(.p (.sl hp.1) .nil),⟨show Aa Tryz.prog _ from(Aa.cons Pq Pr (Aa.cons Wg Wh Aa.nil)),rfl,⟨show Af Tryz.prog _ from Af.nil,(AA.none (fun _=>rfl))⟩⟩⟩
 ·cases hs)
theorem AbW:As Tryz.prog 55:=fun args w=>by kernel_rfl
def cF (a:(L.Sq Int)) (b:(L.Sq Int)):Prop:=a.n<=1000000
def cG (a:(L.Sq Int)) (b:(L.Sq Int)):SV:=.bool (Hb a b)
def cH:List EV->Option (Prop×SV)
 |[.p (.sl 1 a_n a_g),.p (.sl 1 b_n b_g)]=>some ((∀i,i<a_n->a_g i = [.int .i64 ((Ca (a_g i)))])/\(∀i,i<b_n->b_g i = [.int .i64 ((Ca (b_g i)))])/\cF (⟨a_n,fun i=>Ca (a_g i)⟩:(L.Sq Int)) (⟨b_n,fun i=>Ca (b_g i)⟩:(L.Sq Int)),cG (⟨a_n,fun i=>Ca (a_g i)⟩:(L.Sq Int)) (⟨b_n,fun i=>Ca (b_g i)⟩:(L.Sq Int)))
 |_=>none
abbrev cI:SE.Spec:=(AI cH)
def AbX:Al:={ muts:=[],frz:=B8 [],specs:=AC [],loops:=fun _=>none,iters:=B3 [],rfs:=AP [],nils:=B6 [] }
theorem AbY (a:(L.Sq Int)) (b:(L.Sq Int)) (hp:cF a b):vc Tryz.prog ({ AbX with loops:=AT [(4,{ T:=Nat,keep:=[0,1],keepO:=[],chg:=fun i=>[(5,.p (.int .i64 (i:Int)))],own:=fun _=>[],inv:=fun i=>i<=a.n/\∀j,j<i->a.g j=b.g j,mu:=fun i=>a.n-i })],rfs:=AP [] }) (Ai Tryz.f23) (Au Tryz.f23 [.p (.sl 1 a.n (fun i=>[.int .i64 ((a.g i))])),.p (.sl 1 b.n (fun i=>[.int .i64 ((b.g i))]))]) (AH Tryz.prog Tryz.f23 (cG a b)):=
 @Eq.mpr _ (let T:=Aee;let A6:=(↑a.n:Int);let A2:=(!decide (A6=(↑b.n:Int)));(A2=true->false=Hb a b)/\(A2=false->(∃(g:Nat),(0:Int)=(↑g:Int)/\g<=a.n/\∀(j:Nat),j<g->a.g j=b.g j)/\∀(g:Nat),let A1:=(↑g:Int);let A3:=(!decide (a.g (T A1)=b.g (T A1)));(g<=a.n/\∀(j:Nat),j<g->a.g j=b.g j)->(decide (A1<A6)=true->((0:Int)<=A1/\A1<A6)/\((0:Int)<=A1/\A1<(↑b.n:Int))/\(A3=true->false=Hb a b)/\(A3=false->Ad .i64 (A1+(1:Int))/\∃(g':Nat),A1+(1:Int)=(↑g':Int)/\(a.n=a.n/\∀(i:Nat),let A4:=[SV.int .i64 (a.g i)];i<a.n->A4=A4)/\(b.n=b.n/\∀(i:Nat),let A5:=[SV.int .i64 (b.g i)];i<b.n->A5=A5)/\(g'<=a.n/\∀(j:Nat),j<g'->a.g j=b.g j)/\a.n-g'<a.n-g))/\(decide (A1<A6)=false->true=Hb a b))) (by kernel_rfl) (by
 conv=>zeta
 have ha:a.n<=1000000:=hp;refine⟨fun h=>?_,fun h=>?_⟩
 ·unfold Hb;rw[Cx h];rfl
 have hd:=BW h;have hn:=of_decide_eq_true hd;refine⟨⟨(0:Nat),rfl,AdL _,fun j hj=>absurd hj (nT _)⟩,fun g hg=>⟨fun hlt=>?_,fun hge=>?_⟩⟩
 ·have hb:(g:Int)<(a.n:Int):=of_decide_eq_true hlt;have e0:((g:Int)).toNat=g:=by omega
  rw[e0];refine⟨by omega,by omega,fun h1=>?_,fun h1=>?_⟩
  ·unfold Hb;rw[hd,GX (i:=g) (by omega) (Cx h1)];rfl
  ·have h1:a.g g=b.g g:=of_decide_eq_true (BW h1);exact⟨jK,g+1,by omega,⟨rfl,fun _ _=>rfl⟩,⟨rfl,fun _ _=>rfl⟩,⟨by omega,fun j hj=>by
    rcases AdZ.1 hj with h'|rfl
    ·exact hg.2 j h'
    ·exact h1⟩,by omega⟩
 ·have hb:¬ (g:Int)<(a.n:Int):=of_decide_eq_false hge;unfold Hb;rw[hd,Dk.2 (fun i hi=>decide_eq_true (hg.2 i (by omega)))];rfl)
theorem AbZ:Ax Tryz.prog 23 cI:=AK Tryz.func23 (c:=Ai Tryz.f23) (by kernel_rfl) mixed (fun args p r hs hp=>by
 unfold cH at hs;split at hs
 ·cases hs;exact⟨_,_,AbY _ _ hp.2.2,(.p (.sl hp.1) (.p (.sl hp.2.1) .nil)),⟨show Aa Tryz.prog _ from Aa.nil,rfl,⟨show Af Tryz.prog _ from Af.nil,(AA.none (fun _=>rfl))⟩⟩⟩
 ·cases hs)
theorem Aca:As Tryz.prog 23:=fun args w=>by kernel_rfl
def cJ (w:(L.Sq Ab)) (c:Hc):Prop:=CI w/\Ad .i64 c.area
def cK (w:(L.Sq Ab)) (c:Hc):SV:=.tup [.int .i64 (Es w c.area),.int .i64 (Ee w c.area)]
def cL:List EV->Option (Prop×SV)
 |[.p (.sl 4 w_n w_g),.p (.agg [.int .i64 c_area,.raw (.slice none 0 0),.raw (.slice none 0 0)])]=>some ((∀i,i<w_n->Dn (w_g i))/\cJ (⟨w_n,fun i=>Bx (w_g i)⟩:(L.Sq Ab)) (⟨c_area,(0:Nat),(0:Nat)⟩:Hc),cK (⟨w_n,fun i=>Bx (w_g i)⟩:(L.Sq Ab)) (⟨c_area,(0:Nat),(0:Nat)⟩:Hc))
 |_=>none
abbrev cM:SE.Spec:=(AI cL)
def Acb:Al:={ cC with specs:=AC [(33,JI),(32,JN),(54,VB)] }
theorem Acd (w:(L.Sq Ab)) (c:Hc) (hp:cJ w c):vc Tryz.prog ({ Acb with loops:=AT [(6,{ T:=Nat,keep:=[23,24],keepO:=[],chg:=fun i=>[(25,.p (.int .i64 (i:Int))),(7,.p (.int .i64 (Ds w c.area i)))],own:=fun _=>[],inv:=fun i=>i<=w.n,mu:=fun i=>w.n-i })],rfs:=AP [] }) (Ai Tryz.f21) (Au Tryz.f21 [.p (.sl 4 w.n (fun i=>[.int .i64 ((w.g i).id),.int .i64 ((w.g i).colour),.int .i64 ((w.g i).grain),.sl 2 (w.g i).ol.n (fun i1=>[.int .i64 (((w.g i).ol.g i1).x),.int .i64 (((w.g i).ol.g i1).y)])])),.p (.agg [.int .i64 c.area,.raw (.slice none 0 0),.raw (.slice none 0 0)])]) (AH Tryz.prog Tryz.f21 (cK w c)):=
 @Eq.mpr _ (let I:=SV.int .i64;let T:=Aee;let A10:=(↑w.n:Int);let A9:=(1000000:Nat);let A4:=(0:Int);let A11:=(Ay c.area A4 (117440512:Int));let A1:=(L.Sq.mk (nat_lit 0) fun(i:Nat)=>Ah.mk A4 A4 A4 A4 A4);let A6:=(!decide (Bq w A1 A11=A4));True/\((∀(i:Nat),i<w.n->∀(i_1:Nat),let A7:=((w.g i).ol.g i_1);i_1<(w.g i).ol.n -> [I A7.x,I A7.y]= [I A7.x,I A7.y])/\(∀(i:Nat),i<nat_lit 0 -> []= [I A4,I A4,I A4,I A4,I A4])/\w.n<=A9/\(∀(i:Nat),i<w.n->(w.g i).ol.n<=A9)/\nat_lit 0<=A9)/\(A6=true->A4=Es w c.area/\Bq w A1 A11=Ee w c.area)/\(A6=false->Ad .i64 ((2:Int)*c.area)/\(∃(g:Nat),A4=(↑g:Int)/\(2:Int)*c.area=Ds w c.area g/\g<=w.n)/\∀(g:Nat),let A8:=(↑g:Int);let A2:=(w.g (T A8));let A5:=(Ds w c.area g-bif AB A2.ol then B4 A2.ol A2.ol.n else A4);g<=w.n->(decide (A8<A10)=true->(A4<=A8/\A8<A10)/\((∀(i:Nat),let A12:=[I (A2.ol.g i).x,I (A2.ol.g i).y];i<A2.ol.n->A12=A12)/\A2.ol.n<=A9)/\Ad .i64 A5/\Ad .i64 (A8+(1:Int))/\∃(g':Nat),A8+(1:Int)=(↑g':Int)/\A5=Ds w c.area g'/\A10=A10/\(w.n=w.n/\∀(i:Nat),let A3:=[I (w.g i).id,I (w.g i).colour,I (w.g i).grain,SV.sl (2:Nat) (w.g i).ol.n fun(i1:Nat)=>[I ((w.g i).ol.g i1).x,I ((w.g i).ol.g i1).y]];i<w.n->A3=A3)/\g'<=w.n/\w.n-g'<w.n-g)/\(decide (A8<A10)=false->Ds w c.area g=Es w c.area/\A4=Ee w c.area))) (by kernel_rfl) (by
 conv=>zeta
 obtain⟨hw,hk⟩:=(show CI w/\Ad .i64 c.area from hp);refine⟨trivial,⟨fun _ _ _ _=>rfl,fun i hi=>absurd hi (nT _),hw.2.1,hw.2.2,by decide⟩,fun h=>?_,fun h=>?_⟩
 ·have h:¬ Ee w c.area=0:=of_decide_eq_false (Cx h);exact⟨by unfold Es;rw[decide_eq_false h];rfl,rfl⟩
 have h:Ee w c.area=0:=of_decide_eq_true (BW h);obtain⟨v1,-,v3,v4,-⟩:=Ic (show Bq w Nd (Ay c.area 0 117440512)=0 from h);obtain⟨q0,q1⟩:=bZ v3;have ok:=H1 hw v4;have hw4:=ok.1;have eA:Es w c.area=Ds w c.area w.n:=by unfold Es;rw[h];rfl
 rw[eA,h];refine⟨EO,⟨0,rfl,rfl,AdL _⟩,fun g hg=>⟨fun hc=>?_,fun hc=>?_⟩⟩;rotate_left
 ·have hc:¬ (g:Int)<(w.n:Int):=of_decide_eq_false hc;obtain rfl:g=w.n:=by omega
  exact⟨rfl,rfl⟩
 have hc:(g:Int)<(w.n:Int):=of_decide_eq_true hc;have hlt:g<w.n:=by omega
 have e0:((g:Int)).toNat=g:=Aea g;have ci:0<=(g:Int)/\(g:Int)<(w.n:Int):=by omega
 have k1:Ad .i64 ((g:Int)+1):=jK;have cn:(g:Int)+1=((g+1:Nat):Int):=by omega
 have g2:w.n-(g+1)<w.n-g:=by omega
 have nx:(Ds w c.area g-bif AB (w.g g).ol then B4 (w.g g).ol (w.g g).ol.n else 0)=Ds w c.area (g+1):=rfl;have b1:=Qo w q0 q1 (g+1);have k3:Ad .i64 (Ds w c.area g-bif AB (w.g g).ol then B4 (w.g g).ol (w.g g).ol.n else 0):=by rw[nx];exact jK
 have ol:=hw.2.2 g hlt;rw[e0];refine⟨ci,⟨fun _ _=>rfl,ol⟩,k3,k1,g+1,?_⟩;exact(by(try dsimp only);(repeat' with_reducible apply And.intro)<;>first|with_reducible rfl|with_reducible assumption|with_reducible exact fun _=>rfl|with_reducible exact fun _ _=>rfl|with_reducible exact trivial|exact(fun _ _=>rfl)|exact⟨rfl,fun _ _=>rfl⟩|exact rfl|(intro _;exact rfl)|(intro _ _;exact rfl)|exact cn|exact nx|exact hlt|exact g2|exact trivial|(intro _ h_;exact absurd h_ (nT _))))
theorem Ace:Ax Tryz.prog 21 cM:=AK Tryz.func21 (c:=Ai Tryz.f21) (by kernel_rfl) mixed (fun args p r hs hp=>by
 unfold cL at hs;split at hs
 ·cases hs;exact⟨_,_,Acd _ _ hp.2,(.p (DY hp.1) (.same _ .nil)),⟨show Aa Tryz.prog _ from(Aa.cons Li Lj (Aa.cons Lp Lq (Aa.cons sK sL Aa.nil))),rfl,⟨show Af Tryz.prog _ from Af.nil,(AA.none (fun _=>rfl))⟩⟩⟩
 ·cases hs)
theorem Acf:As Tryz.prog 21:=fun args w=>by kernel_rfl
def cN (w:(L.Sq Ab)) (c:Hc):Prop:=CI w/\Ad .i64 c.area
def cO (w:(L.Sq Ab)) (c:Hc):SV:=.tup [.int .i64 (Es w c.area),.int .i64 (Ee w c.area)]
def cP:List EV->Option (Prop×SV)
 |[.p (.sl 4 w_n w_g),.p (.agg [.int .i64 c_area,.raw (.slice none 0 0),.raw (.slice none 0 0)])]=>some ((∀i,i<w_n->Dn (w_g i))/\cN (⟨w_n,fun i=>Bx (w_g i)⟩:(L.Sq Ab)) (⟨c_area,(0:Nat),(0:Nat)⟩:Hc),cO (⟨w_n,fun i=>Bx (w_g i)⟩:(L.Sq Ab)) (⟨c_area,(0:Nat),(0:Nat)⟩:Hc))
 |_=>none
abbrev cQ:SE.Spec:=(AI cP)
def Acg:Al:={ cC with specs:=AC [(38,PZ),(39,MR),(55,cE)] }
theorem Ach (w:(L.Sq Ab)) (c:Hc) (hp:cN w c):vc Tryz.prog ({ Acg with loops:=AT [(9,{ T:=Nat,keep:=[0],keepO:=[],chg:=fun i=>[(7,.p (.int .i64 (i:Int))),(6,.p (.int .i64 (Ds w c.area i)))],own:=fun _=>[],inv:=fun i=>i<=w.n,mu:=fun i=>w.n-i })],rfs:=AP [] }) (Ai Tryz.f22) (Au Tryz.f22 [.p (.sl 4 w.n (fun i=>[.int .i64 ((w.g i).id),.int .i64 ((w.g i).colour),.int .i64 ((w.g i).grain),.sl 2 (w.g i).ol.n (fun i1=>[.int .i64 (((w.g i).ol.g i1).x),.int .i64 (((w.g i).ol.g i1).y)])])),.p (.agg [.int .i64 c.area,.raw (.slice none 0 0),.raw (.slice none 0 0)])]) (AH Tryz.prog Tryz.f22 (cO w c)):=
 @Eq.mpr _ (let I:=SV.int .i64;let T:=Aee;let A10:=(1000000:Nat);let A8:=(↑w.n:Int);let A4:=(0:Int);let A7:=(!Ay c.area A4 (117440512:Int));((∀(i:Nat),i<w.n->∀(i_1:Nat),let A5:=((w.g i).ol.g i_1);i_1<(w.g i).ol.n -> [I A5.x,I A5.y]= [I A5.x,I A5.y])/\w.n<=A10/\∀(i:Nat),i<w.n->(w.g i).ol.n<=A10)/\((!Cy w)=true->A4=Es w c.area/\(50:Int)=Ee w c.area)/\((!Cy w)=false->True/\(A7=true->A4=Es w c.area/\(1:Int)=Ee w c.area)/\(A7=false->(decide ((7:Int)<A8)=true->A4=Es w c.area/\(2:Int)=Ee w c.area)/\(decide ((7:Int)<A8)=false->Ad .i64 ((2:Int)*c.area)/\(∃(g:Nat),A4=(↑g:Int)/\(2:Int)*c.area=Ds w c.area g/\g<=w.n)/\∀(g:Nat),let A6:=(↑g:Int);let A1:=(w.g (T A6));let A3:=(Ds w c.area g-bif AB A1.ol then B4 A1.ol A1.ol.n else A4);g<=w.n->(decide (A6<A8)=true->(A4<=A6/\A6<A8)/\((∀(i:Nat),let A9:=[I (A1.ol.g i).x,I (A1.ol.g i).y];i<A1.ol.n->A9=A9)/\A1.ol.n<=A10)/\Ad .i64 A3/\Ad .i64 (A6+(1:Int))/\∃(g':Nat),A6+(1:Int)=(↑g':Int)/\A3=Ds w c.area g'/\(w.n=w.n/\∀(i:Nat),let A2:=[I (w.g i).id,I (w.g i).colour,I (w.g i).grain,SV.sl (2:Nat) (w.g i).ol.n fun(i1:Nat)=>[I ((w.g i).ol.g i1).x,I ((w.g i).ol.g i1).y]];i<w.n->A2=A2)/\g'<=w.n/\w.n-g'<w.n-g)/\(decide (A6<A8)=false->Ds w c.area g=Es w c.area/\A4=Ee w c.area))))) (by kernel_rfl) (by
 conv=>zeta
 obtain⟨hw,hk⟩:=(show CI w/\Ad .i64 c.area from hp);have e:=AbS w c.area;have fin:∀n,Ee w c.area=n->n≠0->0=Es w c.area/\n=Ee w c.area:=fun n h h0=>⟨by unfold Es;rw[h,decide_eq_false h0];rfl,h.symm⟩;refine⟨⟨fun _ _ _ _=>rfl,hw.2.1,hw.2.2⟩,fun h1=>?_,fun h1=>⟨trivial,fun h2=>?_,fun h2=>⟨fun h3=>?_,fun h3=>?_⟩⟩⟩
 ·have h1:(!Cy w)=true:=h1;exact fin 50 (by rw[e,h1];rfl) (by decide)
 ·have h1:(!Cy w)=false:=h1;exact fin 1 (by rw[e,h1,h2];rfl) (by decide)
 ·have h1:(!Cy w)=false:=h1;exact fin 2 (by rw[e,h1,h2,h3];rfl) (by decide)
 have h1:(!Cy w)=false:=h1;have h:Ee w c.area=0:=by rw[e,h1,h2,h3];rfl
 have v3:Ay c.area 0 117440512=true:=BW h2;have v4:w.n<=7:=by have:=of_decide_eq_false h3;omega
 obtain⟨q0,q1⟩:=bZ v3;have ok:=H1 hw v4;have hw4:=ok.1;have eA:Es w c.area=Ds w c.area w.n:=by unfold Es;rw[h];rfl
 rw[eA,h];refine⟨EO,⟨0,rfl,rfl,AdL _⟩,fun g hg=>⟨fun hc=>?_,fun hc=>?_⟩⟩;rotate_left
 ·have hc:¬ (g:Int)<(w.n:Int):=of_decide_eq_false hc;obtain rfl:g=w.n:=by omega
  exact⟨rfl,rfl⟩
 have hc:(g:Int)<(w.n:Int):=of_decide_eq_true hc;have hlt:g<w.n:=by omega
 have e0:((g:Int)).toNat=g:=Aea g;have ci:0<=(g:Int)/\(g:Int)<(w.n:Int):=by omega
 have k1:Ad .i64 ((g:Int)+1):=jK;have cn:(g:Int)+1=((g+1:Nat):Int):=by omega
 have g2:w.n-(g+1)<w.n-g:=by omega
 have nx:(Ds w c.area g-bif AB (w.g g).ol then B4 (w.g g).ol (w.g g).ol.n else 0)=Ds w c.area (g+1):=rfl;have b1:=Qo w q0 q1 (g+1);have k3:Ad .i64 (Ds w c.area g-bif AB (w.g g).ol then B4 (w.g g).ol (w.g g).ol.n else 0):=by rw[nx];exact jK
 have ol:=hw.2.2 g hlt;rw[e0];refine⟨ci,⟨fun _ _=>rfl,ol⟩,k3,k1,g+1,?_⟩;exact(by(try dsimp only);(repeat' with_reducible apply And.intro)<;>first|with_reducible rfl|with_reducible assumption|with_reducible exact fun _=>rfl|with_reducible exact fun _ _=>rfl|with_reducible exact trivial|exact(fun _ _=>rfl)|exact⟨rfl,fun _ _=>rfl⟩|exact rfl|(intro _;exact rfl)|(intro _ _;exact rfl)|exact cn|exact nx|exact hlt|exact g2|exact trivial|(intro _ h_;exact absurd h_ (nT _))))
theorem Aci:Ax Tryz.prog 22 cQ:=AK Tryz.func22 (c:=Ai Tryz.f22) (by kernel_rfl) mixed (fun args p r hs hp=>by
 unfold cP at hs;split at hs
 ·cases hs;exact⟨_,_,Ach _ _ hp.2,(.p (DY hp.1) (.same _ .nil)),⟨show Aa Tryz.prog _ from(Aa.cons Zo Zp (Aa.cons Py Pz (Aa.cons AbV AbW Aa.nil))),rfl,⟨show Af Tryz.prog _ from Af.nil,(AA.none (fun _=>rfl))⟩⟩⟩
 ·cases hs)
theorem Acj:As Tryz.prog 22:=fun args w=>by kernel_rfl
end
def CJ (w:L.Sq Ab) (gr g:Int) (r:AR) (k j:Nat):Bool:=bif CH w gr (Ao g k) (CC r (AW r j) (AV r j)).size then CH w gr (AZ g k) (Ep r (AW r j) (AV r j)).size else false
def Nn (w:L.Sq Ab) (gr g:Int) (r:AR) (p:Int) (up:Bool) (by_:Int):Bool:=bif CH w gr p (CC r up by_).size then CH w gr (Di g p) (Ep r up by_).size else false
def EC (w:L.Sq Ab) (gr g:Int) (r:AR):Option (Nat×Nat):=(AdP (AJ g)).findSome? fun k=>((AdP (Bw r)).find? (CJ w gr g r k)).map fun j=>(k,j)
def ED (w:L.Sq Ab) (sh:Ah):Nat->Int->AR->Gl->Gl
 |0,_,_,s=>s
 |n+1,g,r,s=>if g=0 then s else if BM g=true then⟨Er w sh (Be g) r s.pl,Fw w sh (Be g) r s.sc⟩else match EC w sh.grain g r with
   |none=>s
   |some (k,j)=>ED w sh n (AZ g k) (Ep r (AW r j) (AV r j)) (ED w sh n (Ao g k) (CC r (AW r j) (AV r j)) ⟨s.pl,Co s.sc (BU r sh.id (AW r j) (AV r j))⟩)
def EE (w:L.Sq Ab) (sh:Ah) (g:Int) (r:AR) (s:Gl):Gl:=ED w sh 16 g r s
def Dt (w:L.Sq Ab) (sh:Ah) (g:Int) (r:AR) (P:Nat->CP) (S:List BQ):Nat->CP:=(EE w sh g r ⟨P,S⟩).pl
def DP (w:L.Sq Ab) (sh:Ah) (g:Int) (r:AR) (P:Nat->CP) (S:List BQ):List BQ:=(EE w sh g r ⟨P,S⟩).sc
theorem Qp {w:L.Sq Ab} {gr g:Int} {r:AR} {k j:Nat} (h:EC w gr g r=some (k,j)):k<AJ g/\j<Bw r/\CJ w gr g r k j=true:=by
 unfold EC at h;obtain⟨k',h1,h2⟩:=List.exists_of_findSome?_eq_some h;cases h3:(AdP (Bw r)).find? (CJ w gr g r k')with
 |none=>rw[h3]at h2;cases h2
 |some j' =>
   rw[h3]at h2;simp only[AeH,AeJ,Prod.mk.injEq]at h2;obtain⟨rfl,rfl⟩:=h2;exact⟨AdQ.1 h1,AdQ.1 (List.mem_of_find?_eq_some h3),List.find?_some h3⟩
theorem Ack {w:L.Sq Ab} {gr g:Int} {r:AR} {k j:Nat} (hk:k<AJ g) (hj:j<Bw r) (h:CJ w gr g r k j=true) (h1:∀k',k'<k->∀j',j'<Bw r->CJ w gr g r k' j'=false) (h2:∀j',j'<j->CJ w gr g r k j'=false):EC w gr g r=some (k,j):=by
 cases hf:EC w gr g r with
 |none =>
   unfold EC at hf;have:=AeX.1 hf k (AdQ.2 hk);rw[Aff,Afp]at this;exact absurd h (this j (AdQ.2 hj))
 |some x =>
   obtain⟨k',j'⟩:=x
   -- the first one
   have hfirst:∀n,(AdP n).findSome? (fun k=>((AdP (Bw r)).find? (CJ w gr g r k)).map fun j=>(k,j))=some (k',j')->k<n->k'=k/\j'=j:=fun n=>by
    induction n with
    |zero=>intro _ h;omega
    |succ n ih =>
      intro hh hlt;rw[Afb,List.findSome?_append]at hh
      by_cases hkn:k<n
      ·have e : ((AdP n).findSome? (fun k =>((AdP (Bw r)).find? (CJ w gr g r k)).map fun j =>(k, j)))≠none :=fun e =>by
        have:=AeX.1 e k (AdQ.2 hkn);rw[Aff,Afp]at this;exact absurd h (this j (AdQ.2 hj))
       obtain⟨y,hy⟩:=Option.ne_none_iff_exists'.1 e;rw[hy]at hh;simp only[Option.some_or,AeJ]at hh;rw[hh]at hy;exact ih hy hkn
      ·obtain rfl:k=n:=by omega
       have e:((AdP k).findSome? (fun k=>((AdP (Bw r)).find? (CJ w gr g r k)).map fun j=>(k,j)))=none:=AeX.2 fun k2 hk2=>by
        rw[Aff,Afp];intro j2 hj2;rw[h1 k2 (AdQ.1 hk2) j2 (AdQ.1 hj2)];decide
       rw[e]at hh;simp only[Option.none_or,List.findSome?_cons,List.findSome?_nil]at hh;cases h3:(AdP (Bw r)).find? (CJ w gr g r k)with
       |none=>rw[h3]at hh;cases hh
       |some j2 =>
         rw[h3]at hh;simp only[AeH,AeJ,Prod.mk.injEq]at hh;obtain⟨rfl,rfl⟩:=hh;refine⟨rfl,?_⟩;have h5:=List.find?_some h3;rw[List.find?_range_eq_some]at h3;obtain⟨_,_,h4⟩:=h3;rcases Nat.lt_trichotomy j2 j with h6|h6|h6
         ·rw[h2 j2 h6]at h5;cases h5
         ·exact h6
         ·have:=h4 j h6;rw[h]at this;cases this
   obtain⟨rfl,rfl⟩:=hfirst (AJ g) hf hk;rfl
theorem Acl {w:L.Sq Ab} {gr g:Int} {r:AR} (h1:∀k,k<AJ g->∀j,j<Bw r->CJ w gr g r k j=false):EC w gr g r=none:=AeX.2 fun k hk=>by
 rw[Aff,Afp];intro j hj;rw[h1 k (AdQ.1 hk) j (AdQ.1 hj)];decide
theorem cR {r:AR} (h:CQ r) {j:Nat} (hj:j<Bw r):1<=AV r j/\AV r j<4096/\(AW r j=true->AV r j<r.size.w)/\(AW r j=false->AV r j<r.size.h):=by
 obtain⟨h1,h2,h3,h4,h5,h6⟩:=h;have eW:BV r=(r.size.w-1).toNat:=rfl;have eN:Bw r=(r.size.w-1).toNat+(r.size.h-1).toNat:=rfl
 by_cases hl:j<BV r
 ·have e:AW r j=true:=decide_eq_true hl;unfold AV;rw[e,cond_true];refine⟨by omega,by omega,fun _=>by omega,(fun h=>by cases h)⟩
 ·have e:AW r j=false:=decide_eq_false hl;unfold AV;rw[e,cond_false];refine⟨by omega,by omega,(fun h=>by cases h),fun _=>by omega⟩
theorem Acm {r:AR} (h:CQ r) {j:Nat} (hj:j<Bw r):CQ (CC r (AW r j) (AV r j))/\CQ (Ep r (AW r j) (AV r j)):=by
 obtain⟨b1,b2,b3,b4⟩:=cR h hj;obtain⟨h1,h2,h3,h4,h5,h6⟩:=h;cases e:AW r j with
 |true =>
   have:=b3 e;unfold CC Ep CQ;simp only[cond_true];refine⟨⟨h1,h2,?_,h4,?_,h6⟩,?_,h2,?_,h4,?_,h6⟩<;>omega
 |false =>
   have:=b4 e;unfold CC Ep CQ;simp only[cond_false];refine⟨⟨h1,h2,h3,?_,h5,?_⟩,h1,?_,h3,?_,h5,?_⟩<;>omega
theorem No (w:L.Sq Ab) (sh:Ah):∀(n m:Nat) (g:Int) (r:AR) (s:Gl),0<=g->g<=15->g<n->g<m->ED w sh n g r s=ED w sh m g r s
 |0,_,g,r,s,h0,h15,h,_=>by omega
 |n+1,0,g,r,s,h0,h15,_,h=>by omega
 |n+1,m+1,g,r,s,h0,h15,h,h'=>by
   rw[ED,ED]
   by_cases e:g=0
   ·rw[if_pos e,if_pos e]
   ·rw[if_neg e,if_neg e];cases h1:BM g with
    |true=>rfl
    |false =>
      rw[if_neg (by decide),if_neg (by decide)];cases hd:EC w sh.grain g r with
      |none=>rfl
      |some x =>
        obtain⟨k,j⟩:=x;obtain⟨p1,p2,p3,p4,_⟩:=(Hz (show 1<=g by omega) h15 h1).2 k (Qp hd).1;simp only;rw[No w sh n m (Ao g k) _ _ (by omega) (by omega) (by omega) (by omega),No w sh n m (AZ g k) _ _ (by omega) (by omega) (by omega) (by omega)]
theorem Acn (w:L.Sq Ab) (sh:Ah) (r:AR) (s:Gl):EE w sh 0 r s=s:=by unfold EE;rw[ED,if_pos rfl]
theorem Aco (w:L.Sq Ab) (sh:Ah) {g:Int} (r:AR) (s:Gl) (h:1<=g) (h1:BM g=true):EE w sh g r s=⟨Er w sh (Be g) r s.pl,Fw w sh (Be g) r s.sc⟩:=by
 unfold EE;rw[ED,if_neg (by omega),if_pos h1]
theorem Acp (w:L.Sq Ab) (sh:Ah) {g:Int} {r:AR} (s:Gl) (h:1<=g) (h1:BM g=false) (hd:EC w sh.grain g r=none):EE w sh g r s=s:=by
 unfold EE;rw[ED,if_neg (by omega),if_neg (by rw[h1];decide),hd]
theorem Acq (w:L.Sq Ab) (sh:Ah) {g:Int} {r:AR} (s:Gl) (h:1<=g) (h15:g<=15) (h1:BM g=false) {k j:Nat} (hd:EC w sh.grain g r=some (k,j)) :
  EE w sh g r s=EE w sh (AZ g k) (Ep r (AW r j) (AV r j)) (EE w sh (Ao g k) (CC r (AW r j) (AV r j)) ⟨s.pl,Co s.sc (BU r sh.id (AW r j) (AV r j))⟩):=by
 obtain⟨p1,p2,p3,p4,_⟩:=(Hz h h15 h1).2 k (Qp hd).1;have e:EE w sh g r s=ED w sh (15+1) g r s:=rfl;rw[e,ED,if_neg (by omega),if_neg (by rw[h1];decide),hd];simp only;rw[No w sh 15 16 (Ao g k) _ _ (by omega) (by omega) (by omega) (by omega),No w sh 15 16 (AZ g k) _ _ (by omega) (by omega) (by omega) (by omega)];rfl
theorem Acr (w:L.Sq Ab) (sh:Ah) (i:Nat) (r:AR) (S:List BQ):(Fw w sh i r S).length<=S.length+2:=by
 unfold Fw EN;cases decide ((Dq w sh i r).w<r.size.w)<;>cases decide ((Dq w sh i r).h<(Fe w sh i r).size.h)<;>simp[Lt]
theorem Qq (w:L.Sq Ab) (sh:Ah):∀(n:Nat) (g:Int) (r:AR) (s:Gl),0<=g->g<=15->g<n->(ED w sh n g r s).sc.length<=s.sc.length+(3*g-1).toNat
 |0,g,r,s,h0,h15,h=>by omega
 |n+1,g,r,s,h0,h15,h=>by
   rw[ED]
   by_cases e:g=0
   ·rw[if_pos e];omega
   ·rw[if_neg e];cases h1:BM g with
    |true =>
      rw[if_pos rfl];have:=Acr w sh (Be g) r s.sc;simp only;omega
    |false =>
      rw[if_neg (by decide)];cases hd:EC w sh.grain g r with
      |none=>simp only;omega
      |some x =>
        obtain⟨k,j⟩:=x;obtain⟨p1,p2,p3,p4,p5⟩:=(Hz (show 1<=g by omega) h15 h1).2 k (Qp hd).1;simp only;have b1:=Qq w sh n (Ao g k) (CC r (AW r j) (AV r j)) ⟨s.pl,Co s.sc (BU r sh.id (AW r j) (AV r j))⟩ (by omega) (by omega) (by omega);have b2:=Qq w sh n (AZ g k) (Ep r (AW r j) (AV r j)) (ED w sh n (Ao g k) (CC r (AW r j) (AV r j)) ⟨s.pl,Co s.sc (BU r sh.id (AW r j) (AV r j))⟩) (by omega) (by omega) (by omega);simp only[Lt]at b1;omega
theorem Acs (w:L.Sq Ab) (sh:Ah) (g:Int) (r:AR) (s:Gl) (h0:0<=g) (h15:g<=15):(EE w sh g r s).sc.length<=s.sc.length+(3*g-1).toNat:=Qq w sh 16 g r s h0 h15 (by omega)
theorem Acu (w:L.Sq Ab) (sh:Ah) (r:AR) (P:Nat->CP) (S:List BQ):Dt w sh 0 r P S=P/\DP w sh 0 r P S=S:=by unfold Dt DP;rw[Acn];exact⟨rfl,rfl⟩
theorem Acv (w:L.Sq Ab) (sh:Ah) {g:Int} (r:AR) (P:Nat->CP) (S:List BQ) (h:1<=g) (h1:BM g=true):Dt w sh g r P S=Er w sh (Be g) r P/\DP w sh g r P S=Fw w sh (Be g) r S:=by
 unfold Dt DP;rw[Aco w sh r _ h h1];exact⟨rfl,rfl⟩
theorem Acw (w:L.Sq Ab) (sh:Ah) {g:Int} {r:AR} (P:Nat->CP) (S:List BQ) (h:1<=g) (h1:BM g=false) (hd:EC w sh.grain g r=none):Dt w sh g r P S=P/\DP w sh g r P S=S:=by
 unfold Dt DP;rw[Acp w sh _ h h1 hd];exact⟨rfl,rfl⟩
theorem Acx (w:L.Sq Ab) (sh:Ah) {g:Int} {r:AR} (P:Nat->CP) (S:List BQ) (h:1<=g) (h15:g<=15) (h1:BM g=false) {k j:Nat} (hd:EC w sh.grain g r=some (k,j)) :
  Dt w sh g r P S=Dt w sh (AZ g k) (Ep r (AW r j) (AV r j)) (Dt w sh (Ao g k) (CC r (AW r j) (AV r j)) P (Co S (BU r sh.id (AW r j) (AV r j)))) (DP w sh (Ao g k) (CC r (AW r j) (AV r j)) P (Co S (BU r sh.id (AW r j) (AV r j)))) /\
  DP w sh g r P S=DP w sh (AZ g k) (Ep r (AW r j) (AV r j)) (Dt w sh (Ao g k) (CC r (AW r j) (AV r j)) P (Co S (BU r sh.id (AW r j) (AV r j)))) (DP w sh (Ao g k) (CC r (AW r j) (AV r j)) P (Co S (BU r sh.id (AW r j) (AV r j)))):=by
 unfold Dt DP;rw[Acq w sh _ h h15 h1 hd];dsimp only;generalize EE w sh (Ao g k) (CC r (AW r j) (AV r j)) _=X;cases X;exact⟨rfl,rfl⟩
theorem Acy (w:L.Sq Ab) (sh:Ah) (g:Int) (r:AR) (P:Nat->CP) (S:List BQ) (h0:0<=g) (h15:g<=15):(DP w sh g r P S).length<=S.length+(3*g-1).toNat:=Acs w sh g r ⟨P,S⟩ h0 h15
section
attribute [local irreducible] Ao Di BT FN AM ED EE CH Ak AU Er Fw Be AJ EC
abbrev Ij:Mk:={ T:=(L.Sq Ab)×(Ah)×(Int->Bool)×(Nat->CP)×(List BQ)×(Int)×(AR),U:=Int->Bool,args:=fun t=>(fun w sh dom P S g r=>[.loc 1002 0,.p (.int .i64 g),.p ((.agg [.int .i64 r.at_.x,.int .i64 r.at_.y,.int .i64 r.size.w,.int .i64 r.size.h]))]) t.1 t.2.1 t.2.2.1 t.2.2.2.1 t.2.2.2.2.1 t.2.2.2.2.2.1 t.2.2.2.2.2.2,lkeys:=[1000,1001,1002,1003,1004],keys:=[],lent:=fun t=>(fun w sh dom P S g r=>[(1000,.blk 130 [.p ((.sl 4 w.n (fun i=>[.int .i64 ((w.g i).id),.int .i64 ((w.g i).colour),.int .i64 ((w.g i).grain),.sl 2 (w.g i).ol.n (fun i1=>[.int .i64 (((w.g i).ol.g i1).x),.int .i64 (((w.g i).ol.g i1).y)])]))),.p (.int .i64 sh.grain),.mapv 1001]),(1001,.mq 3 27 dom (Aj (Ak w sh.grain))),(1002,.blk 93 [.loc 1000 0,.p (.int .i64 sh.id),.p (.int .i64 sh.colour),.p (.int .i64 sh.w),.p (.int .i64 sh.h),.p (.int .i64 sh.grain),.row 1003,.row 1004]),(1003,.row 76 5 w.n (fun k=>[.int .i64 ((P k).want),.int .i64 ((P k).sheet),.int .i64 ((P k).turn),.int .i64 ((P k).at_.x),.int .i64 ((P k).at_.y)])),(1004,.row 101 4 (Ba (S)).n (fun k=>Bh ((Ba (S)).g k)))]) t.1 t.2.1 t.2.2.1 t.2.2.2.1 t.2.2.2.2.1 t.2.2.2.2.2.1 t.2.2.2.2.2.2,pre:=fun t=>(fun w sh dom P S g r=>Bv w/\0<=g/\g<=AM w.n/\CQ r/\(Ba S).n+3*g.toNat<=1000) t.1 t.2.1 t.2.2.1 t.2.2.2.1 t.2.2.2.2.1 t.2.2.2.2.2.1 t.2.2.2.2.2.2,post:=fun t u=>(fun w sh dom P S g r=>fun u=>True) t.1 t.2.1 t.2.2.1 t.2.2.2.1 t.2.2.2.2.1 t.2.2.2.2.2.1 t.2.2.2.2.2.2 u,lent':=fun t u=>(fun w sh dom P S g r=>fun u=>[(1000,.blk 130 [.p ((.sl 4 w.n (fun i=>[.int .i64 ((w.g i).id),.int .i64 ((w.g i).colour),.int .i64 ((w.g i).grain),.sl 2 (w.g i).ol.n (fun i1=>[.int .i64 (((w.g i).ol.g i1).x),.int .i64 (((w.g i).ol.g i1).y)])]))),.p (.int .i64 sh.grain),.mapv 1001]),(1001,.mq 3 27 u (Aj (Ak w sh.grain))),(1002,.blk 93 [.loc 1000 0,.p (.int .i64 sh.id),.p (.int .i64 sh.colour),.p (.int .i64 sh.w),.p (.int .i64 sh.h),.p (.int .i64 sh.grain),.row 1003,.row 1004]),(1003,.row 76 5 w.n (fun k=>[.int .i64 (((Dt w sh g r P S) k).want),.int .i64 (((Dt w sh g r P S) k).sheet),.int .i64 (((Dt w sh g r P S) k).turn),.int .i64 (((Dt w sh g r P S) k).at_.x),.int .i64 (((Dt w sh g r P S) k).at_.y)])),(1004,.row 101 4 (Ba (DP w sh g r P S)).n (fun k=>Bh ((Ba (DP w sh g r P S)).g k)))]) t.1 t.2.1 t.2.2.1 t.2.2.2.1 t.2.2.2.2.1 t.2.2.2.2.2.1 t.2.2.2.2.2.2 u,own:=fun t u=>(fun w sh dom P S g r=>fun u=>[]) t.1 t.2.1 t.2.2.1 t.2.2.2.1 t.2.2.2.2.1 t.2.2.2.2.2.1 t.2.2.2.2.2.2 u,res:=fun t u=>(fun w sh dom P S g r=>fun u=>.p (.tup [])) t.1 t.2.1 t.2.2.1 t.2.2.2.1 t.2.2.2.2.1 t.2.2.2.2.2.1 t.2.2.2.2.2.2 u,mv:=some (1004,80) }
abbrev cS:Ij.T->Nat:=fun t=>(fun w sh dom P S g r=>g.toNat) t.1 t.2.1 t.2.2.1 t.2.2.2.1 t.2.2.2.2.1 t.2.2.2.2.2.1 t.2.2.2.2.2.2
theorem Acz (rn:Nat) (w:L.Sq Ab) (sh:Ah) (dom:Int->Bool) (P:Nat->CP) (S:List BQ) (g:Int) (r:AR) (hp:Ij.pre (w,sh,dom,P,S,g,r)) (hmu:g.toNat<rn+1):vc Tryz.prog ({ muts:=[3],frz:=B8 [],specs:=AC [(75,P5),(126,Z0),(127,Qb),(128,Qd)],loops:=AT [(4,{ T:=Nat,keep:=[3,4,5],keepO:=[3,80,1000,1001,1002,1003],chg:=fun i=>[(6,.p (.int .i64 (i:Int)))],own:=fun _=>[],inv:=fun i=>i<=Be g,mu:=fun i=>Be g-i })],iters:=B3 [(119,P4),(152,Z4)],rfs:=AP [(8,{ T:=Int->Bool,keep:=[3,4,5],keepO:=[3,80,1000,1002,1003],own:=fun _ d=>[(1001,.mq 3 27 d (Aj (Ak w sh.grain)))],inv:=fun k _=>k<=AJ g/\∀k1,k1<k->∀j,j<Bw r->CJ w sh.grain g r k1 j=false }),(10,{ T:=(Int->Bool)×Nat,keep:=[3,4,5,7,31],keepO:=[3,7,80,1000,1002,1003],own:=fun _ t=>[(1001,.mq 3 27 t.1 (Aj (Ak w sh.grain)))],inv:=fun j t=>j<=Bw r/\t.2<AJ g/\∀j1,j1<j->CJ w sh.grain g r t.2 j1=false,tie:=fun t=>[(31,.int .i64 (Ao g t.2))] })],nils:=B6 [],mks:=DF [(41,IP),(125,JT),(86,Mk.lt Ij cS rn)],ren:=fun k=>if k=1004 then 80 else k,joins:=AT [(14,{ T:=(Int->Bool)×Bool×Int×Bool×Int,keep:=[3,4,5,7,8,9,10,11,31],keepO:=[3,7,10,11,80,1000,1002,1003],chg:=fun t=>[(62,.p (.bool t.2.1))],own:=fun t=>[(1001,.mq 3 27 t.1 (Aj (Ak w sh.grain)))],inv:=fun t=>t.2.1=Nn w sh.grain g r t.2.2.1 t.2.2.2.1 t.2.2.2.2,mu:=fun _=>0,tie:=fun t=>[(8,.bool t.2.2.2.1),(9,.int .i64 t.2.2.2.2),(31,.int .i64 t.2.2.1)] }),(15,{ T:=Bool×Int,keep:=[3,4,5,7,8,9,10,11,31],keepO:=[3,7,10,11,1000,1001,1002,1003],chg:=fun _=>[],own:=fun t=>[(80,.row 101 4 (Ba ((Co S (BU r sh.id t.1 t.2)))).n (fun k=>Bh ((Ba ((Co S (BU r sh.id t.1 t.2)))).g k)))],inv:=fun _=>True,mu:=fun _=>0,tie:=fun t=>[(8,.bool t.1),(9,.int .i64 t.2)] })],anys:=[1013,1014],rek:=L8 [(1,[(1004,80)])] }) (Ai Tryz.f86) (Dy Tryz.f86 (Ij.args (w,sh,dom,P,S,g,r)) (Ij.lent (w,sh,dom,P,S,g,r))) (Fq Tryz.prog Tryz.f86 Ij (w,sh,dom,P,S,g,r)):=
 @Eq.mpr _ (let I:=SV.int .i64;let T:=Aee;let A68:=(1:Nat);let A67:=(1000:Nat);let A65:=(140737488355328:Nat);let A54:=(1:Int);let A34:=(0:Int);let A29:=(nat_lit 7);let A27:=(0:Nat);let A26:=(nat_lit 31);let A25:=(2:Nat);let A22:=(Ba S);let A19:=(Ba (DP w sh g r P S));let A33:=(A22.n=A19.n/\∀(i:Nat),i<A22.n->Bh (A22.g i)=Bh (A19.g i));let A16:=(w.n=w.n/\∀(i:Nat),let A30:=(Dt w sh g r P S i);i<w.n -> [I (P i).want,I (P i).sheet,I (P i).turn,I (P i).at_.x,I (P i).at_.y]= [I A30.want,I A30.sheet,I A30.turn,I A30.at_.x,I A30.at_.y]);let A15:=(nat_lit 0);let A13:=(nat_lit 3);let A12:=(nat_lit 4);let A11:=(nat_lit 5);let A9:=(Ak w sh.grain);let A24:=(∀(x:Int),dom x=true->Aj A9 x=Aj A9 x);let A6:=(A22.n=A22.n/\∀(i:Nat),i<A22.n->Bh (A22.g i)=Bh (A22.g i));let A5:=[I r.at_.x,I r.at_.y,I r.size.w,I r.size.h];let A2:=(w.n=w.n/\∀(i:Nat),let A35:=[I (P i).want,I (P i).sheet,I (P i).turn,I (P i).at_.x,I (P i).at_.y];i<w.n->A35=A35);let A1:=(w.n=w.n/\∀(i:Nat),let A21:=[I (w.g i).id,I (w.g i).colour,I (w.g i).grain,SV.sl A25 (w.g i).ol.n fun(i1:Nat)=>[I ((w.g i).ol.g i1).x,I ((w.g i).ol.g i1).y]];i<w.n->A21=A21);(decide (g=A34)=true->∃(u:Int->Bool),A1/\sh.grain=sh.grain/\(∀(x:Int),dom x=u x)/\A24/\nat_lit 0=A27/\sh.id=sh.id/\sh.colour=sh.colour/\sh.w=sh.w/\sh.h=sh.h/\sh.grain=sh.grain/\A16/\A33/\True)/\(decide (g=A34)=false->Ad .i64 (g-A54)/\(decide (BT g (g-A54)=A34)=true->(∃(g_1:Nat),A34=(↑g_1:Int)/\g_1<=Be g)/\∀(g_1:Nat),let A41:=(↑g_1:Int);g_1<=Be g->A34<=A41/\(decide (A54<Ev g A41)=true->Ad .i64 (A41+A54)/\∃(g':Nat),A41+A54=(↑g':Int)/\SV.ref A5 A15=SV.ref A5 A15/\SV.ref [I g] A15=SV.ref [I g] A15/\nat_lit 0=nat_lit 0/\nat_lit 0=nat_lit 0/\A1/\sh.grain=sh.grain/\(∀(x:Int),dom x=dom x)/\A24/\nat_lit 0=nat_lit 0/\sh.id=sh.id/\sh.colour=sh.colour/\sh.w=sh.w/\sh.h=sh.h/\sh.grain=sh.grain/\A2/\A6/\g'<=Be g/\Be g-g'<Be g-g_1)/\(decide (A54<Ev g A41)=false->∃(t:L.Sq Ab×Ah×(Int->Bool)×(Nat->CP)×List BQ×Nat×AR),let A61:=(Ak t.1 t.2.1.grain);let A44:=(Ba t.snd.snd.snd.2.1);let A20:=(Ba (Fw t.1 t.2.1 t.snd.snd.snd.snd.2.1 t.snd.snd.snd.snd.2.2 t.snd.snd.snd.2.1));nat_lit 0=A27/\A41=(↑t.snd.snd.snd.snd.2.1:Int)/\SV.agg A5=SV.agg [I t.snd.snd.snd.snd.2.2.at_.x,I t.snd.snd.snd.snd.2.2.at_.y,I t.snd.snd.snd.snd.2.2.size.w,I t.snd.snd.snd.snd.2.2.size.h]/\(w.n=t.1.n/\∀(i:Nat),let A55:=(t.1.g i);i<w.n -> [I (w.g i).id,I (w.g i).colour,I (w.g i).grain,SV.sl A25 (w.g i).ol.n fun(i1:Nat)=>[I ((w.g i).ol.g i1).x,I ((w.g i).ol.g i1).y]]= [I A55.id,I A55.colour,I A55.grain,SV.sl A25 A55.ol.n fun(i1:Nat)=>[I (A55.ol.g i1).x,I (A55.ol.g i1).y]])/\sh.grain=t.2.1.grain/\(∀(x:Int),dom x=t.snd.2.1 x)/\(∀(x:Int),dom x=true->Aj A9 x=Aj A61 x)/\nat_lit 0=A27/\sh.id=t.2.1.id/\sh.colour=t.2.1.colour/\sh.w=t.2.1.w/\sh.h=t.2.1.h/\sh.grain=t.2.1.grain/\(w.n=t.1.n/\∀(i:Nat),let A37:=(t.snd.snd.2.1 i);i<w.n -> [I (P i).want,I (P i).sheet,I (P i).turn,I (P i).at_.x,I (P i).at_.y]= [I A37.want,I A37.sheet,I A37.turn,I A37.at_.x,I A37.at_.y])/\(A22.n=A44.n/\∀(i:Nat),i<A22.n->Bh (A22.g i)=Bh (A44.g i))/\(t.snd.snd.snd.snd.2.1<t.1.n/\t.1.n<=(4:Nat)/\(t.1.g t.snd.snd.snd.snd.2.1).ol.n<=(1000000:Nat)/\CQ t.snd.snd.snd.snd.2.2/\A44.n<=A67)/\∀(u:Nat),True->∃(u:Int->Bool),(t.1.n=w.n/\∀(i:Nat),let A56:=(t.1.g i);i<t.1.n -> [I A56.id,I A56.colour,I A56.grain,SV.sl A25 A56.ol.n fun(i1:Nat)=>[I (A56.ol.g i1).x,I (A56.ol.g i1).y]]= [I (w.g i).id,I (w.g i).colour,I (w.g i).grain,SV.sl A25 (w.g i).ol.n fun(i1:Nat)=>[I ((w.g i).ol.g i1).x,I ((w.g i).ol.g i1).y]])/\t.2.1.grain=sh.grain/\(∀(x:Int),t.snd.2.1 x=u x)/\(∀(x:Int),t.snd.2.1 x=true->Aj A61 x=Aj A9 x)/\nat_lit 0=A27/\t.2.1.id=sh.id/\t.2.1.colour=sh.colour/\t.2.1.w=sh.w/\t.2.1.h=sh.h/\t.2.1.grain=sh.grain/\(t.1.n=w.n/\∀(i:Nat),let A31:=(Dt w sh g r P S i);let A14:=(Er t.1 t.2.1 t.snd.snd.snd.snd.2.1 t.snd.snd.snd.snd.2.2 t.snd.snd.2.1 i);i<t.1.n -> [I A14.want,I A14.sheet,I A14.turn,I A14.at_.x,I A14.at_.y]= [I A31.want,I A31.sheet,I A31.turn,I A31.at_.x,I A31.at_.y])/\(A20.n=A19.n/\∀(i:Nat),i<A20.n->Bh (A20.g i)=Bh (A19.g i))/\True))/\(decide (BT g (g-A54)=A34)=false->True/\((A34<=g/\g<=(15:Int))/\∃(t:Int->Bool),(∀(x:Int),dom x=t x)/\A24/\nat_lit 0=nat_lit 0/\A1/\sh.grain=sh.grain/\nat_lit 0=nat_lit 0/\sh.id=sh.id/\sh.colour=sh.colour/\sh.w=sh.w/\sh.h=sh.h/\sh.grain=sh.grain/\A2/\A6/\A27<=AJ g/\∀(k1:Nat),k1<A27->∀(j:Nat),j<Bw r->CJ w sh.grain g r k1 j=false)/\(∀(k:Nat) (t:Int->Bool) (vk:Nat->Go.Value),k<AJ g->(k<=AJ g/\∀(k1:Nat),k1<k->∀(j:Nat),j<Bw r->CJ w sh.grain g r k1 j=false)->True/\(CQ r/\∃(t_1:(Int->Bool)×Nat),(∀(x:Int),t x=t_1.1 x)/\(∀(x:Int),t x=true->Aj A9 x=Aj A9 x)/\Ao g k=Ao g k/\nat_lit 0=nat_lit 0/\A1/\sh.grain=sh.grain/\nat_lit 0=nat_lit 0/\sh.id=sh.id/\sh.colour=sh.colour/\sh.w=sh.w/\sh.h=sh.h/\sh.grain=sh.grain/\A2/\A6/\Ao g k=Ao g t_1.2/\A27<=Bw r/\t_1.2<AJ g/\∀(j1:Nat),j1<A27->CJ w sh.grain g r t_1.2 j1=false)/\(∀(k_1:Nat) (t_1:(Int->Bool)×Nat) (vk_1:Nat->Go.Value),let A64:=(AV r k_1);let A63:=(AW r k_1);let A39:=(CQ r/\A34<=AV r k_1/\AV r k_1<=(4096:Int));let A7:=(BU r sh.id A63 A64);let A4:=(Ep r A63 A64);let A3:=(CC r A63 A64);k_1<Bw r->(Ao g k=Ao g t_1.2/\k_1<=Bw r/\t_1.2<AJ g/\∀(j1:Nat),j1<k_1->CJ w sh.grain g r t_1.2 j1=false)->A39/\(∃(t_2:L.Sq Ab×Int×(Int->Bool)×Int×Ac),let A53:=(Ak t_2.1 t_2.2.1);nat_lit 0=A27/\Ao g k=t_2.snd.snd.2.1/\SV.agg [I A3.size.w,I A3.size.h]=SV.agg [I t_2.snd.snd.2.2.w,I t_2.snd.snd.2.2.h]/\(w.n=t_2.1.n/\∀(i:Nat),let A46:=(t_2.1.g i);i<w.n -> [I (w.g i).id,I (w.g i).colour,I (w.g i).grain,SV.sl A25 (w.g i).ol.n fun(i1:Nat)=>[I ((w.g i).ol.g i1).x,I ((w.g i).ol.g i1).y]]= [I A46.id,I A46.colour,I A46.grain,SV.sl A25 A46.ol.n fun(i1:Nat)=>[I (A46.ol.g i1).x,I (A46.ol.g i1).y]])/\sh.grain=t_2.2.1/\(∀(x:Int),t_1.1 x=t_2.snd.2.1 x)/\(∀(x:Int),t_1.1 x=true->Aj A9 x=Aj A53 x)/\(Bv t_2.1/\A34<=t_2.snd.snd.2.1/\t_2.snd.snd.2.1<=AM t_2.1.n)/\∀(u:Int->Bool),True->(CH t_2.1 t_2.2.1 t_2.snd.snd.2.1 t_2.snd.snd.2.2=true->∃(t_3:L.Sq Ab×Int×(Int->Bool)×Int×Ac),let A66:=(Ak t_3.1 t_3.2.1);nat_lit 0=A27/\Di g (Ao g k)=t_3.snd.snd.2.1/\SV.agg [I A4.size.w,I A4.size.h]=SV.agg [I t_3.snd.snd.2.2.w,I t_3.snd.snd.2.2.h]/\(t_2.1.n=t_3.1.n/\∀(i:Nat),let A48:=(t_3.1.g i);let A47:=(t_2.1.g i);i<t_2.1.n -> [I A47.id,I A47.colour,I A47.grain,SV.sl A25 A47.ol.n fun(i1:Nat)=>[I (A47.ol.g i1).x,I (A47.ol.g i1).y]]= [I A48.id,I A48.colour,I A48.grain,SV.sl A25 A48.ol.n fun(i1:Nat)=>[I (A48.ol.g i1).x,I (A48.ol.g i1).y]])/\t_2.2.1=t_3.2.1/\(∀(x:Int),u x=t_3.snd.2.1 x)/\(∀(x:Int),u x=true->Aj A53 x=Aj A66 x)/\(Bv t_3.1/\A34<=t_3.snd.snd.2.1/\t_3.snd.snd.2.1<=AM t_3.1.n)/\∀(u:Int->Bool),True->∃(g_1:(Int->Bool)×Bool×Int×Bool×Int),(bif CH t_2.1 t_2.2.1 t_2.snd.snd.2.1 t_2.snd.snd.2.2 then CH t_3.1 t_3.2.1 t_3.snd.snd.2.1 t_3.snd.snd.2.2 else false)=g_1.2.1/\nat_lit 0=nat_lit 0/\nat_lit 0=nat_lit 0/\AV r k_1=AV r k_1/\AW r k_1=AW r k_1/\nat_lit 0=nat_lit 0/\Ao g k=Ao g k/\SV.ref A5 A15=SV.ref A5 A15/\SV.ref [I g] A15=SV.ref [I g] A15/\nat_lit 0=nat_lit 0/\vk A11=vk A11/\vk A12=vk A12/\vk A13=vk A13/\vk_1 A29=vk_1 A29/\vk_1 A26=vk_1 A26/\vk_1 A11=vk_1 A11/\vk_1 A12=vk_1 A12/\vk_1 A13=vk_1 A13/\vk_1 A11=vk_1 A11/\vk_1 A12=vk_1 A12/\vk_1 A13=vk_1 A13/\(∀(x:Int),u x=g_1.1 x)/\(∀(x:Int),u x=true->Aj A66 x=Aj A9 x)/\A4.at_.x=A4.at_.x/\A4.at_.y=A4.at_.y/\A4.size.w=A4.size.w/\A4.size.h=A4.size.h/\A3.at_.x=A3.at_.x/\A3.at_.y=A3.at_.y/\A3.size.w=A3.size.w/\A3.size.h=A3.size.h/\Ao g k=Ao g k/\nat_lit 0=nat_lit 0/\(t_3.1.n=w.n/\∀(i:Nat),let A49:=(t_3.1.g i);i<t_3.1.n -> [I A49.id,I A49.colour,I A49.grain,SV.sl A25 A49.ol.n fun(i1:Nat)=>[I (A49.ol.g i1).x,I (A49.ol.g i1).y]]= [I (w.g i).id,I (w.g i).colour,I (w.g i).grain,SV.sl A25 (w.g i).ol.n fun(i1:Nat)=>[I ((w.g i).ol.g i1).x,I ((w.g i).ol.g i1).y]])/\t_3.2.1=sh.grain/\nat_lit 0=nat_lit 0/\sh.id=sh.id/\sh.colour=sh.colour/\sh.w=sh.w/\sh.h=sh.h/\sh.grain=sh.grain/\A2/\A6/\AW r k_1=g_1.snd.snd.2.1/\AV r k_1=g_1.snd.snd.2.2/\Ao g k=g_1.snd.2.1/\g_1.2.1=Nn w sh.grain g r g_1.snd.2.1 g_1.snd.snd.2.1 g_1.snd.snd.2.2)/\(CH t_2.1 t_2.2.1 t_2.snd.snd.2.1 t_2.snd.snd.2.2=false->∃(g_1:(Int->Bool)×Bool×Int×Bool×Int),(bif CH t_2.1 t_2.2.1 t_2.snd.snd.2.1 t_2.snd.snd.2.2 then false else false)=g_1.2.1/\nat_lit 0=nat_lit 0/\nat_lit 0=nat_lit 0/\AV r k_1=AV r k_1/\AW r k_1=AW r k_1/\nat_lit 0=nat_lit 0/\Ao g k=Ao g k/\SV.ref A5 A15=SV.ref A5 A15/\SV.ref [I g] A15=SV.ref [I g] A15/\nat_lit 0=nat_lit 0/\vk A11=vk A11/\vk A12=vk A12/\vk A13=vk A13/\vk_1 A29=vk_1 A29/\vk_1 A26=vk_1 A26/\vk_1 A11=vk_1 A11/\vk_1 A12=vk_1 A12/\vk_1 A13=vk_1 A13/\vk_1 A11=vk_1 A11/\vk_1 A12=vk_1 A12/\vk_1 A13=vk_1 A13/\(∀(x:Int),u x=g_1.1 x)/\(∀(x:Int),u x=true->Aj A53 x=Aj A9 x)/\A4.at_.x=A4.at_.x/\A4.at_.y=A4.at_.y/\A4.size.w=A4.size.w/\A4.size.h=A4.size.h/\A3.at_.x=A3.at_.x/\A3.at_.y=A3.at_.y/\A3.size.w=A3.size.w/\A3.size.h=A3.size.h/\Ao g k=Ao g k/\nat_lit 0=nat_lit 0/\(t_2.1.n=w.n/\∀(i:Nat),let A50:=(t_2.1.g i);i<t_2.1.n -> [I A50.id,I A50.colour,I A50.grain,SV.sl A25 A50.ol.n fun(i1:Nat)=>[I (A50.ol.g i1).x,I (A50.ol.g i1).y]]= [I (w.g i).id,I (w.g i).colour,I (w.g i).grain,SV.sl A25 (w.g i).ol.n fun(i1:Nat)=>[I ((w.g i).ol.g i1).x,I ((w.g i).ol.g i1).y]])/\t_2.2.1=sh.grain/\nat_lit 0=nat_lit 0/\sh.id=sh.id/\sh.colour=sh.colour/\sh.w=sh.w/\sh.h=sh.h/\sh.grain=sh.grain/\A2/\A6/\AW r k_1=g_1.snd.snd.2.1/\AV r k_1=g_1.snd.snd.2.2/\Ao g k=g_1.snd.2.1/\g_1.2.1=Nn w sh.grain g r g_1.snd.2.1 g_1.snd.snd.2.1 g_1.snd.snd.2.2))/\∀(g_1:(Int->Bool)×Bool×Int×Bool×Int),let A59:=(∀(x:Int),g_1.1 x=g_1.1 x);let A23:=(∀(x:Int),g_1.1 x=true->Aj A9 x=Aj A9 x);AW r k_1=g_1.snd.snd.2.1/\AV r k_1=g_1.snd.snd.2.2/\Ao g k=g_1.snd.2.1/\g_1.2.1=Nn w sh.grain g r g_1.snd.2.1 g_1.snd.snd.2.1 g_1.snd.snd.2.2->(g_1.2.1=true->(A39/\((A22.n+nat_lit 1)*nat_lit 48<=A65/\∃(g_2:Bool×Int),let A42:=(Ba (Co S (BU r sh.id g_2.1 g_2.2)));nat_lit 0=nat_lit 0/\nat_lit 0=nat_lit 0/\AV r k_1=AV r k_1/\AW r k_1=AW r k_1/\nat_lit 0=nat_lit 0/\Ao g k=Ao g k/\SV.ref A5 A15=SV.ref A5 A15/\SV.ref [I g] A15=SV.ref [I g] A15/\nat_lit 0=nat_lit 0/\vk A11=vk A11/\vk A12=vk A12/\vk A13=vk A13/\vk_1 A29=vk_1 A29/\vk_1 A26=vk_1 A26/\vk_1 A11=vk_1 A11/\vk_1 A12=vk_1 A12/\vk_1 A13=vk_1 A13/\vk_1 A11=vk_1 A11/\vk_1 A12=vk_1 A12/\vk_1 A13=vk_1 A13/\(A22.n+nat_lit 1=A42.n/\∀(i:Nat),i<A22.n+nat_lit 1->AN A22.n (fun(k:Nat)=>Bh (A22.g k)) (fun(x:Nat)=>[I A7.sheet,I A7.kind,I A7.want,SV.sl (nat_lit 2) A7.pts.n fun(i:Nat)=>[I (A7.pts.g i).x,I (A7.pts.g i).y]]) i=Bh (A42.g i))/\A59/\A23/\A4.at_.x=A4.at_.x/\A4.at_.y=A4.at_.y/\A4.size.w=A4.size.w/\A4.size.h=A4.size.h/\A3.at_.x=A3.at_.x/\A3.at_.y=A3.at_.y/\A3.size.w=A3.size.w/\A3.size.h=A3.size.h/\Ao g k=Ao g k/\nat_lit 0=nat_lit 0/\A1/\sh.grain=sh.grain/\nat_lit 0=nat_lit 0/\sh.id=sh.id/\sh.colour=sh.colour/\sh.w=sh.w/\sh.h=sh.h/\sh.grain=sh.grain/\A2/\AW r k_1=g_2.1/\AV r k_1=g_2.2/\True)/\(A22.n+nat_lit 1)*nat_lit 48<=A65/\∃(g_2:Bool×Int),let A43:=(Ba (Co S (BU r sh.id g_2.1 g_2.2)));nat_lit 0=nat_lit 0/\nat_lit 0=nat_lit 0/\AV r k_1=AV r k_1/\AW r k_1=AW r k_1/\nat_lit 0=nat_lit 0/\Ao g k=Ao g k/\SV.ref A5 A15=SV.ref A5 A15/\SV.ref [I g] A15=SV.ref [I g] A15/\nat_lit 0=nat_lit 0/\vk A11=vk A11/\vk A12=vk A12/\vk A13=vk A13/\vk_1 A29=vk_1 A29/\vk_1 A26=vk_1 A26/\vk_1 A11=vk_1 A11/\vk_1 A12=vk_1 A12/\vk_1 A13=vk_1 A13/\vk_1 A11=vk_1 A11/\vk_1 A12=vk_1 A12/\vk_1 A13=vk_1 A13/\(A22.n+nat_lit 1=A43.n/\∀(i:Nat),i<A22.n+nat_lit 1->AN A22.n (fun(k:Nat)=>Bh (A22.g k)) (fun(x:Nat)=>[I A7.sheet,I A7.kind,I A7.want,SV.sl (nat_lit 2) A7.pts.n fun(i:Nat)=>[I (A7.pts.g i).x,I (A7.pts.g i).y]]) i=Bh (A43.g i))/\A59/\A23/\A4.at_.x=A4.at_.x/\A4.at_.y=A4.at_.y/\A4.size.w=A4.size.w/\A4.size.h=A4.size.h/\A3.at_.x=A3.at_.x/\A3.at_.y=A3.at_.y/\A3.size.w=A3.size.w/\A3.size.h=A3.size.h/\Ao g k=Ao g k/\nat_lit 0=nat_lit 0/\A1/\sh.grain=sh.grain/\nat_lit 0=nat_lit 0/\sh.id=sh.id/\sh.colour=sh.colour/\sh.w=sh.w/\sh.h=sh.h/\sh.grain=sh.grain/\A2/\AW r k_1=g_2.1/\AV r k_1=g_2.2/\True)/\∀(g_2:Bool×Int),let A28:=(Ba (Co S (BU r sh.id g_2.1 g_2.2)));AW r k_1=g_2.1/\AV r k_1=g_2.2/\True->∃(t:L.Sq Ab×Ah×(Int->Bool)×(Nat->CP)×List BQ×Int×AR),let A62:=(Ak t.1 t.2.1.grain);let A45:=(Ba t.snd.snd.snd.2.1);let A18:=(Ba (DP t.1 t.2.1 t.snd.snd.snd.snd.2.1 t.snd.snd.snd.snd.2.2 t.snd.snd.2.1 t.snd.snd.snd.2.1));nat_lit 0=A27/\Ao g k=t.snd.snd.snd.snd.2.1/\SV.agg [I A3.at_.x,I A3.at_.y,I A3.size.w,I A3.size.h]=SV.agg [I t.snd.snd.snd.snd.2.2.at_.x,I t.snd.snd.snd.snd.2.2.at_.y,I t.snd.snd.snd.snd.2.2.size.w,I t.snd.snd.snd.snd.2.2.size.h]/\(w.n=t.1.n/\∀(i:Nat),let A57:=(t.1.g i);i<w.n -> [I (w.g i).id,I (w.g i).colour,I (w.g i).grain,SV.sl A25 (w.g i).ol.n fun(i1:Nat)=>[I ((w.g i).ol.g i1).x,I ((w.g i).ol.g i1).y]]= [I A57.id,I A57.colour,I A57.grain,SV.sl A25 A57.ol.n fun(i1:Nat)=>[I (A57.ol.g i1).x,I (A57.ol.g i1).y]])/\sh.grain=t.2.1.grain/\(∀(x:Int),g_1.1 x=t.snd.2.1 x)/\(∀(x:Int),g_1.1 x=true->Aj A9 x=Aj A62 x)/\nat_lit 0=A27/\sh.id=t.2.1.id/\sh.colour=t.2.1.colour/\sh.w=t.2.1.w/\sh.h=t.2.1.h/\sh.grain=t.2.1.grain/\(w.n=t.1.n/\∀(i:Nat),let A38:=(t.snd.snd.2.1 i);i<w.n -> [I (P i).want,I (P i).sheet,I (P i).turn,I (P i).at_.x,I (P i).at_.y]= [I A38.want,I A38.sheet,I A38.turn,I A38.at_.x,I A38.at_.y])/\(A28.n=A45.n/\∀(i:Nat),i<A28.n->Bh (A28.g i)=Bh (A45.g i))/\((Bv t.1/\A34<=t.snd.snd.snd.snd.2.1/\t.snd.snd.snd.snd.2.1<=AM t.1.n/\CQ t.snd.snd.snd.snd.2.2/\A45.n+(3:Nat)*T t.snd.snd.snd.snd.2.1<=A67)/\T t.snd.snd.snd.snd.2.1<rn)/\∀(u:Int->Bool),True->∃(t_2:L.Sq Ab×Ah×(Int->Bool)×(Nat->CP)×List BQ×Int×AR),let A60:=(Ak t_2.1 t_2.2.1.grain);let A40:=(Ba t_2.snd.snd.snd.2.1);let A17:=(Ba (DP t_2.1 t_2.2.1 t_2.snd.snd.snd.snd.2.1 t_2.snd.snd.snd.snd.2.2 t_2.snd.snd.2.1 t_2.snd.snd.snd.2.1));nat_lit 0=A27/\Di g (Ao g k)=t_2.snd.snd.snd.snd.2.1/\SV.agg [I A4.at_.x,I A4.at_.y,I A4.size.w,I A4.size.h]=SV.agg [I t_2.snd.snd.snd.snd.2.2.at_.x,I t_2.snd.snd.snd.snd.2.2.at_.y,I t_2.snd.snd.snd.snd.2.2.size.w,I t_2.snd.snd.snd.snd.2.2.size.h]/\(t.1.n=t_2.1.n/\∀(i:Nat),let A58:=(t.1.g i);let A51:=(t_2.1.g i);i<t.1.n -> [I A58.id,I A58.colour,I A58.grain,SV.sl A25 A58.ol.n fun(i1:Nat)=>[I (A58.ol.g i1).x,I (A58.ol.g i1).y]]= [I A51.id,I A51.colour,I A51.grain,SV.sl A25 A51.ol.n fun(i1:Nat)=>[I (A51.ol.g i1).x,I (A51.ol.g i1).y]])/\t.2.1.grain=t_2.2.1.grain/\(∀(x:Int),u x=t_2.snd.2.1 x)/\(∀(x:Int),u x=true->Aj A62 x=Aj A60 x)/\nat_lit 0=A27/\t.2.1.id=t_2.2.1.id/\t.2.1.colour=t_2.2.1.colour/\t.2.1.w=t_2.2.1.w/\t.2.1.h=t_2.2.1.h/\t.2.1.grain=t_2.2.1.grain/\(t.1.n=t_2.1.n/\∀(i:Nat),let A36:=(t_2.snd.snd.2.1 i);let A10:=(Dt t.1 t.2.1 t.snd.snd.snd.snd.2.1 t.snd.snd.snd.snd.2.2 t.snd.snd.2.1 t.snd.snd.snd.2.1 i);i<t.1.n -> [I A10.want,I A10.sheet,I A10.turn,I A10.at_.x,I A10.at_.y]= [I A36.want,I A36.sheet,I A36.turn,I A36.at_.x,I A36.at_.y])/\(A18.n=A40.n/\∀(i:Nat),i<A18.n->Bh (A18.g i)=Bh (A40.g i))/\((Bv t_2.1/\A34<=t_2.snd.snd.snd.snd.2.1/\t_2.snd.snd.snd.snd.2.1<=AM t_2.1.n/\CQ t_2.snd.snd.snd.snd.2.2/\A40.n+(3:Nat)*T t_2.snd.snd.snd.snd.2.1<=A67)/\T t_2.snd.snd.snd.snd.2.1<rn)/\∀(u:Int->Bool),True->nat_lit 0=nat_lit 0/\Ao g k=Ao g k/\SV.ref A5 A15=SV.ref A5 A15/\SV.ref [I g] A15=SV.ref [I g] A15/\nat_lit 0=nat_lit 0/\vk A11=vk A11/\vk A12=vk A12/\vk A13=vk A13/\vk_1 A29=vk_1 A29/\vk_1 A26=vk_1 A26/\vk_1 A11=vk_1 A11/\vk_1 A12=vk_1 A12/\vk_1 A13=vk_1 A13/\vk_1 A11=vk_1 A11/\vk_1 A12=vk_1 A12/\vk_1 A13=vk_1 A13/\SV.ref A5 A15=SV.ref A5 A15/\SV.ref [I g] A15=SV.ref [I g] A15/\nat_lit 0=nat_lit 0/\vk A11=vk A11/\vk A12=vk A12/\vk A13=vk A13/\∃(u_1:Int->Bool),(t_2.1.n=w.n/\∀(i:Nat),let A52:=(t_2.1.g i);i<t_2.1.n -> [I A52.id,I A52.colour,I A52.grain,SV.sl A25 A52.ol.n fun(i1:Nat)=>[I (A52.ol.g i1).x,I (A52.ol.g i1).y]]= [I (w.g i).id,I (w.g i).colour,I (w.g i).grain,SV.sl A25 (w.g i).ol.n fun(i1:Nat)=>[I ((w.g i).ol.g i1).x,I ((w.g i).ol.g i1).y]])/\t_2.2.1.grain=sh.grain/\(∀(x:Int),u x=u_1 x)/\(∀(x:Int),u x=true->Aj A60 x=Aj A9 x)/\nat_lit 0=A27/\t_2.2.1.id=sh.id/\t_2.2.1.colour=sh.colour/\t_2.2.1.w=sh.w/\t_2.2.1.h=sh.h/\t_2.2.1.grain=sh.grain/\(t_2.1.n=w.n/\∀(i:Nat),let A32:=(Dt w sh g r P S i);let A8:=(Dt t_2.1 t_2.2.1 t_2.snd.snd.snd.snd.2.1 t_2.snd.snd.snd.snd.2.2 t_2.snd.snd.2.1 t_2.snd.snd.snd.2.1 i);i<t_2.1.n -> [I A8.want,I A8.sheet,I A8.turn,I A8.at_.x,I A8.at_.y]= [I A32.want,I A32.sheet,I A32.turn,I A32.at_.x,I A32.at_.y])/\(A17.n=A19.n/\∀(i:Nat),i<A17.n->Bh (A17.g i)=Bh (A19.g i))/\True)/\(g_1.2.1=false->∃(t':(Int->Bool)×Nat),nat_lit 0=nat_lit 0/\Ao g k=Ao g k/\SV.ref A5 A15=SV.ref A5 A15/\SV.ref [I g] A15=SV.ref [I g] A15/\nat_lit 0=nat_lit 0/\vk A11=vk A11/\vk A12=vk A12/\vk A13=vk A13/\vk_1 A29=vk_1 A29/\vk_1 A26=vk_1 A26/\vk_1 A11=vk_1 A11/\vk_1 A12=vk_1 A12/\vk_1 A13=vk_1 A13/\vk_1 A11=vk_1 A11/\vk_1 A12=vk_1 A12/\vk_1 A13=vk_1 A13/\(∀(x:Int),g_1.1 x=t'.1 x)/\A23/\Ao g k=Ao g k/\nat_lit 0=nat_lit 0/\A1/\sh.grain=sh.grain/\nat_lit 0=nat_lit 0/\sh.id=sh.id/\sh.colour=sh.colour/\sh.w=sh.w/\sh.h=sh.h/\sh.grain=sh.grain/\A2/\A6/\Ao g k=Ao g t'.2/\k_1+A68<=Bw r/\t'.2<AJ g/\∀(j1:Nat),j1<k_1+A68->CJ w sh.grain g r t'.2 j1=false))/\∀(t:(Int->Bool)×Nat),(Ao g k=Ao g t.2/\Bw r<=Bw r/\t.2<AJ g/\∀(j1:Nat),j1<Bw r->CJ w sh.grain g r t.2 j1=false)->∃(t':Int->Bool),SV.ref A5 A15=SV.ref A5 A15/\SV.ref [I g] A15=SV.ref [I g] A15/\nat_lit 0=nat_lit 0/\vk A11=vk A11/\vk A12=vk A12/\vk A13=vk A13/\(∀(x:Int),t.1 x=t' x)/\(∀(x:Int),t.1 x=true->Aj A9 x=Aj A9 x)/\nat_lit 0=nat_lit 0/\A1/\sh.grain=sh.grain/\nat_lit 0=nat_lit 0/\sh.id=sh.id/\sh.colour=sh.colour/\sh.w=sh.w/\sh.h=sh.h/\sh.grain=sh.grain/\A2/\A6/\k+A68<=AJ g/\∀(k1:Nat),k1<k+A68->∀(j:Nat),j<Bw r->CJ w sh.grain g r k1 j=false)/\∀(t:Int->Bool),(AJ g<=AJ g/\∀(k1:Nat),k1<AJ g->∀(j:Nat),j<Bw r->CJ w sh.grain g r k1 j=false)->∃(u:Int->Bool),A1/\sh.grain=sh.grain/\(∀(x:Int),t x=u x)/\(∀(x:Int),t x=true->Aj A9 x=Aj A9 x)/\nat_lit 0=A27/\sh.id=sh.id/\sh.colour=sh.colour/\sh.w=sh.w/\sh.h=sh.h/\sh.grain=sh.grain/\A16/\A33/\True))) (by kernel_rfl) (by
 conv=>zeta
 have hp:Bv w/\0<=g/\g<=AM w.n/\CQ r/\S.length+3*g.toNat<=1000:=hp;have hmu:g.toNat<rn+1:=hmu;obtain⟨hok,hg0,hga,hA,hS⟩:=hp;have hg15:g<=15:=Int.le_trans hga (MY hok.1);have no0:∀{p:Nat->Prop} (k:Nat),k<0->p k:=fun k h=>absurd h (nT _);have f0:=Acu w sh;have f1:=fun(h:1<=g) (h1:BM g=true)=>Acv w sh r P S h h1;have fn:=fun(h:1<=g) (h1:BM g=false) (hd:EC w sh.grain g r=none)=>Acw w sh P S h h1 hd;have fs:=fun(h:1<=g) (h15:g<=15) (h1:BM g=false) {k j:Nat} (hd:EC w sh.grain g r=some (k,j))=>Acx w sh P S h h15 h1 hd;have fl:=Acy w sh;generalize Dt=lP at *;generalize DP=lS at *;refine⟨fun h0=>?_,fun h0=>⟨EO,fun h1=>?_,fun h1=>?_⟩⟩
 ·have h0:g=0:=of_decide_eq_true h0;subst h0;obtain⟨eP,eS⟩:=f0 r P S;rw[eP,eS];exact⟨dom,(by(try dsimp only);(repeat' with_reducible apply And.intro)<;>first|with_reducible rfl|with_reducible exact fun _=>rfl|with_reducible exact fun _ _=>rfl|with_reducible exact trivial|exact rfl|(intro _;exact rfl)|(intro _ _;exact rfl)|exact trivial|(intro _ h_;exact absurd h_ (nT _)))⟩
 ·have h0:¬ g=0:=of_decide_eq_false h0;have hg1:1<=g:=by omega
  have h1:BM g=true:=h1;obtain⟨ge,gi⟩:=PA hg1 hg15 h1;have gn:=XN hok.1 hg1 hga h1;obtain⟨eP,eS⟩:=f1 hg1 h1;rw[eP,eS];refine⟨⟨0,rfl,AdL _⟩,fun k hk=>⟨Aec _,fun hc=>?_,fun hc=>?_⟩⟩
  ·have hc:1<Ev g k:=of_decide_eq_true hc;have hlt:k<Be g:=by rw[ge]at hc;exact(MZ gi hk).1 hc
   exact⟨EO,k+1,(by(try dsimp only);(repeat' with_reducible apply And.intro)<;>first|with_reducible rfl|with_reducible assumption|with_reducible exact fun _=>rfl|with_reducible exact fun _ _=>rfl|with_reducible exact trivial|exact hlt|exact rfl|(intro _;exact rfl)|(intro _ _;exact rfl)|exact(by omega)|exact trivial|(intro _ h_;exact absurd h_ (nT _)))⟩
  ·have hc:¬ 1<Ev g k:=of_decide_eq_false hc;have hke:k=Be g:=by
    rcases Nat.lt_or_ge k (Be g)with h|h
    ·exact absurd (by rw[ge];exact(MZ gi hk).2 h) hc
    ·omega
   subst hke;have hS1:(Ba S).n<=1000:=by show S.length<=1000;omega
   exact⟨(w,sh,dom,P,S,Be g,r),(by(try dsimp only);(repeat' with_reducible apply And.intro)<;>first|with_reducible rfl|with_reducible assumption|with_reducible exact hok.1|with_reducible exact(hok.2 _ gn)|with_reducible exact fun _=>rfl|with_reducible exact fun _ _=>rfl|with_reducible exact trivial|(intro _ _;exact⟨dom,(by(try dsimp only);(repeat' with_reducible apply And.intro)<;>first|with_reducible rfl|with_reducible exact fun _=>rfl|with_reducible exact fun _ _=>rfl|with_reducible exact trivial|exact rfl|(intro _;exact rfl)|(intro _ _;exact rfl)|exact trivial|(intro _ h_;exact absurd h_ (nT _)))⟩)|exact gn|exact hok.1|exact(hok.2 _ gn)|exact hA|exact hS1|exact rfl|(intro _;exact rfl)|(intro _ _;exact rfl)|exact trivial|(intro _ h_;exact absurd h_ (nT _)))⟩
 ·have h0:¬ g=0:=of_decide_eq_false h0;have hg1:1<=g:=by omega
  have h1:BM g=false:=h1;obtain⟨hp0,hpt⟩:=Hz hg1 hg15 h1;refine⟨trivial,⟨⟨hg0,hg15⟩,dom,(by(try dsimp only);(repeat' with_reducible apply And.intro)<;>first|with_reducible rfl|with_reducible exact AdL _|with_reducible exact fun _=>rfl|with_reducible exact fun _ _=>rfl|with_reducible exact trivial|(intro k1 h;exact absurd h (nT _))|exact AdL _|exact rfl|(intro _;exact rfl)|(intro _ _;exact rfl)|exact trivial|(intro _ h_;exact absurd h_ (nT _)))⟩,fun k d vk hk hinv=>?_,fun d hinv=>?_⟩
  ·obtain⟨hk1,hno⟩:=hinv;obtain⟨p1,p2,p3,p4,p5⟩:=hpt k hk;refine⟨trivial,⟨hA,(d,k),(by(try dsimp only);(repeat' with_reducible apply And.intro)<;>first|with_reducible rfl|with_reducible assumption|with_reducible exact AdL _|with_reducible exact fun _=>rfl|with_reducible exact fun _ _=>rfl|with_reducible exact trivial|(intro k1 h;exact absurd h (nT _))|exact AdL _|exact hk|exact rfl|(intro _;exact rfl)|(intro _ _;exact rfl)|exact trivial|(intro _ h_;exact absurd h_ (nT _)))⟩,fun j t vk1 hj ht=>?_,fun t ht=>?_⟩
   ·obtain⟨d1,k'⟩:=t;obtain⟨hkk,hj1,hk2,hno1⟩:=ht;obtain rfl:=MX hg1 hg15 h1 hk hk2 hkk;obtain⟨b1,b2,b3,b4⟩:=cR hA hj;obtain⟨oA,oB⟩:=Acm hA hj;have c1:0<=AV r j:=by omega
    have c2:AV r j<=4096:=by omega
    have g1:Ao g k<=AM w.n:=by omega
    have g2:AZ g k<=AM w.n:=by omega
    refine⟨⟨hA,c1,c2⟩,⟨(w,sh.grain,d1,Ao g k,(CC r (AW r j) (AV r j)).size),(by(try dsimp only);(repeat' with_reducible apply And.intro)<;>first|with_reducible rfl|with_reducible assumption|with_reducible exact Ae4 p1|with_reducible exact fun _=>rfl|with_reducible exact fun _ _=>rfl|with_reducible exact trivial|(intro u _;exact⟨fun hr1=>⟨(w,sh.grain,u,AZ g k,(Ep r (AW r j) (AV r j)).size),(by(try dsimp only);(repeat' with_reducible apply And.intro)<;>first|with_reducible rfl|with_reducible assumption|with_reducible exact Ae4 p3|with_reducible exact fun _=>rfl|with_reducible exact fun _ _=>rfl|with_reducible exact trivial|(intro u2 _;exact⟨(u2,CJ w sh.grain g r k j,Ao g k,AW r j,AV r j),(by(try dsimp only);(repeat' with_reducible apply And.intro)<;>first|with_reducible rfl|with_reducible exact fun _=>rfl|with_reducible exact fun _ _=>rfl|with_reducible exact trivial|exact rfl|(intro _;exact rfl)|(intro _ _;exact rfl)|exact trivial|(intro _ h_;exact absurd h_ (nT _)))⟩)|exact hok|exact Ae4 p3|exact g2|exact rfl|(intro _;exact rfl)|(intro _ _;exact rfl)|exact trivial|(intro _ h_;exact absurd h_ (nT _)))⟩,fun hr1=>⟨(u,false,Ao g k,AW r j,AV r j),(by(try dsimp only);(repeat' with_reducible apply And.intro)<;>first|with_reducible rfl|with_reducible exact fun _=>rfl|with_reducible exact fun _ _=>rfl|with_reducible exact trivial|exact rfl|(intro _;exact rfl)|(intro _ _;exact rfl)|exact(by rw[hr1];rfl)|exact(by show false=CJ w sh.grain g r k j;unfold CJ;rw[hr1];rfl)|exact trivial|(intro _ h_;exact absurd h_ (nT _)))⟩⟩)|exact hok|exact Ae4 p1|exact g1|exact rfl|(intro _;exact rfl)|(intro _ _;exact rfl)|exact trivial|(intro _ h_;exact absurd h_ (nT _)))⟩,fun x hx=>?_⟩;obtain⟨d2,b,p,up,by_⟩:=x;obtain⟨e1,e2,e3,e4⟩:=hx;subst e1 e2 e3;have e4:b=CJ w sh.grain g r k j:=e4;refine⟨fun hb=>⟨?_,fun x2 hx2=>?_⟩,fun hb=>⟨(d2,k),?_⟩⟩
    ·have sz:((Ba S).n+1)*48<=140737488355328:=by show(S.length+1)*48<=_;omega
     have sq1:=Qa (S:=S) (x:=BU r sh.id (AW r j) (AV r j)) rfl (r:=fun _=>Bh (BU r sh.id (AW r j) (AV r j))) rfl
     repeat' with_reducible apply And.intro
     all_goals first|exact hA|exact c1|exact c2|exact sz|exact⟨(AW r j,AV r j),(by(try dsimp only);(repeat' with_reducible apply And.intro)<;>first|with_reducible rfl|with_reducible exact sq1.1|with_reducible exact sq1.2|with_reducible exact fun _=>rfl|with_reducible exact fun _ _=>rfl|with_reducible exact trivial|exact sq1.1|exact sq1.2|exact rfl|(intro _;exact rfl)|(intro _ _;exact rfl)|exact trivial|(intro _ h_;exact absurd h_ (nT _)))⟩
    ·obtain⟨up2,by2⟩:=x2;obtain⟨e5,e6,_⟩:=hx2;subst e5 e6;have e4:true=CJ w sh.grain g r k j:=hb ▸ e4;have hd:=Ack hk hj e4.symm hno hno1;obtain⟨eP,eS⟩:=fs hg1 hg15 h1 hd;have n1:(Co S (BU r sh.id (AW r j) (AV r j))).length=S.length+1:=Lt _ _;have l1:(Ba (Co S (BU r sh.id (AW r j) (AV r j)))).n+3*(Ao g k).toNat<=1000:=by
      show(Co S _).length+_<=_;omega
     have l2:(Ba (lS w sh (Ao g k) (CC r (AW r j) (AV r j)) P (Co S (BU r sh.id (AW r j) (AV r j))))).n+3*(AZ g k).toNat<=1000:=by
      have:=fl (Ao g k) (CC r (AW r j) (AV r j)) P (Co S (BU r sh.id (AW r j) (AV r j))) (by omega) (by omega);show(lS w sh (Ao g k) (CC r (AW r j) (AV r j)) P (Co S (BU r sh.id (AW r j) (AV r j)))).length+_<=_;omega
     have m1:(Ao g k).toNat<rn:=by omega
     have m2:(AZ g k).toNat<rn:=by omega
     rw[eP,eS];exact⟨(w,sh,d2,P,Co S (BU r sh.id (AW r j) (AV r j)),Ao g k,CC r (AW r j) (AV r j)),(by(try dsimp only);(repeat' with_reducible apply And.intro)<;>first|with_reducible rfl|with_reducible assumption|with_reducible exact Ae4 p1|with_reducible exact fun _=>rfl|with_reducible exact fun _ _=>rfl|with_reducible exact trivial|(intro u _;exact⟨(w,sh,u,lP w sh (Ao g k) (CC r (AW r j) (AV r j)) P (Co S (BU r sh.id (AW r j) (AV r j))),lS w sh (Ao g k) (CC r (AW r j) (AV r j)) P (Co S (BU r sh.id (AW r j) (AV r j))),AZ g k,Ep r (AW r j) (AV r j)),(by(try dsimp only);(repeat' with_reducible apply And.intro)<;>first|with_reducible rfl|with_reducible assumption|with_reducible exact Ae4 p3|with_reducible exact fun _=>rfl|with_reducible exact fun _ _=>rfl|with_reducible exact trivial|(intro u2 _;exact(by(try dsimp only);(repeat' with_reducible apply And.intro)<;>first|with_reducible rfl|with_reducible exact fun _=>rfl|with_reducible exact fun _ _=>rfl|with_reducible exact trivial|exact⟨u2,(by(try dsimp only);(repeat' with_reducible apply And.intro)<;>first|with_reducible rfl|with_reducible exact fun _=>rfl|with_reducible exact fun _ _=>rfl|with_reducible exact trivial|exact rfl|(intro _;exact rfl)|(intro _ _;exact rfl)|exact trivial|(intro _ h_;exact absurd h_ (nT _)))⟩|exact rfl|(intro _;exact rfl)|(intro _ _;exact rfl)|exact trivial|(intro _ h_;exact absurd h_ (nT _))))|exact hok|exact Ae4 p3|exact g2|exact oB|exact l2|exact m2|exact rfl|(intro _;exact rfl)|(intro _ _;exact rfl)|exact trivial|(intro _ h_;exact absurd h_ (nT _)))⟩)|exact hok|exact Ae4 p1|exact g1|exact oA|exact l1|exact m1|exact rfl|(intro _;exact rfl)|(intro _ _;exact rfl)|exact trivial|(intro _ h_;exact absurd h_ (nT _)))⟩
    ·have e4:CJ w sh.grain g r k j=false:=hb ▸ e4.symm;have nx:∀j1,j1<j+1->CJ w sh.grain g r k j1=false:=fun j1 h=>by
      rcases AdZ.1 h with h|rfl
      ·exact hno1 j1 h
      ·exact e4
     exact(by(try dsimp only);(repeat' with_reducible apply And.intro)<;>first|with_reducible rfl|with_reducible assumption|with_reducible exact fun _=>rfl|with_reducible exact fun _ _=>rfl|with_reducible exact trivial|exact hj|exact hk|exact nx|exact rfl|(intro _;exact rfl)|(intro _ _;exact rfl)|exact trivial|(intro _ h_;exact absurd h_ (nT _)))
   ·obtain⟨d1,k'⟩:=t;obtain⟨hkk,hj1,hk2,hno1⟩:=ht;obtain rfl:=MX hg1 hg15 h1 hk hk2 hkk;have nx:∀k1,k1<k+1->∀j,j<Bw r->CJ w sh.grain g r k1 j=false:=fun k1 h=>by
     rcases AdZ.1 h with h|rfl
     ·exact hno k1 h
     ·exact hno1
    exact⟨d1,(by(try dsimp only);(repeat' with_reducible apply And.intro)<;>first|with_reducible rfl|with_reducible assumption|with_reducible exact fun _=>rfl|with_reducible exact fun _ _=>rfl|with_reducible exact trivial|exact hk|exact nx|exact rfl|(intro _;exact rfl)|(intro _ _;exact rfl)|exact trivial|(intro _ h_;exact absurd h_ (nT _)))⟩
  ·have hd:EC w sh.grain g r=none:=Acl hinv.2;obtain⟨eP,eS⟩:=fn hg1 h1 hd;rw[eP,eS];exact⟨d,(by(try dsimp only);(repeat' with_reducible apply And.intro)<;>first|with_reducible rfl|with_reducible exact fun _=>rfl|with_reducible exact fun _ _=>rfl|with_reducible exact trivial|exact rfl|(intro _;exact rfl)|(intro _ _;exact rfl)|exact trivial|(intro _ h_;exact absurd h_ (nT _)))⟩)
theorem cT:As Tryz.prog 86:=fun args w=>by kernel_rfl
theorem Ac0:De Tryz.prog 86 Ij:=KS cS ⟨fun t=>rfl,fun t u=>rfl,fun t u=>rfl,fun t u=>⟨rfl,rfl,rfl⟩,.inr rfl,fun k h=>by have h:=AdY.1 h;subst h;decide⟩ (fun rn ih=>FB (n:=3) Tryz.func86 (c:=Ai Tryz.f86) (by kernel_rfl) mixed ⟨fun t=>rfl,fun t=>rfl,fun t u=>rfl,fun t u=>rfl,fun t u=>rfl,fun t u=>⟨rfl,rfl⟩,by kernel_rfl,by kernel_rfl⟩ (fun⟨w,sh,dom,P,S,g,r⟩ hp=>⟨_,Acz rn w sh dom P S g r hp.1 hp.2,⟨show Aa Tryz.prog _ from(Aa.cons X6 X7 (Aa.cons AaB AaC (Aa.cons Zv Zw (Aa.cons Z8 Z9 Aa.nil)))),rfl,⟨show Af Tryz.prog _ from(Af.cons Xv Xw (Af.cons AaF AaG Af.nil)),⟨AA.no1 (fun _=>rfl),⟨show Bj Tryz.prog _ from(Bj.cons PK PJ (Bj.cons AaO AaN (Bj.cons ih cT Bj.nil))),FamsOk.none (fun _=>rfl)⟩⟩⟩⟩⟩))
end
end Go.Proofs.YtijidjjfkahojaaGreat
