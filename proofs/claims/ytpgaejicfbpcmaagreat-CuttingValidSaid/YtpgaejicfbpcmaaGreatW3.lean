/- A symbolic walk over the model, and what it shows of functions of the program: parts of the proof that the text of the row joins. -/
import Derived.Test.YtpgaejicfbpcmaaGreatW2
import Derived.Test.YtpgaejicfbpcmaaGreatE5
import Derived.KernelRfl
namespace Go.Proofs.YtpgaejicfbpcmaaGreat
open Go.SE Go.RowKit
set_option maxRecDepth 100000
set_option maxHeartbeats 4000000
set_option linter.unusedVariables false
attribute [local irreducible] vc
attribute [local irreducible] L.tabL L.tab
def L.oneK (w:L.Sq L.Want) (gr:Int) (i t:Nat):List L.Size:=(([0,1]:List Int).take t |>.filter fun t=>L.alw (w.g i).grain gr t).map fun t=>L.box (w.g i).ol t
def L.acc (w:L.Sq L.Want) (gr g:Int) (k:Nat):List L.Size:=Cu.stair (L.psK (L.tab w gr) g k)
def L.acA (w:L.Sq L.Want) (gr g:Int) (k i:Nat):List L.Size:=L.acc w gr g k ++ L.prs ((L.tab w gr (L.part g k)).take i) (L.tab w gr (L.cmp_ g k))
def L.acB (w:L.Sq L.Want) (gr g:Int) (k i j:Nat):List L.Size:=L.acA w gr g k i ++ ((L.tab w gr (L.cmp_ g k)).take j).flatMap fun b=>L.mrg ((L.tabF w gr (L.part g k)).g i) b
def L.isT (w:L.Sq L.Want) (gr g:Int) (X:List L.Size):Prop:=Cu.stair X=L.tab w gr g/\X.length <= 1000000
def L.okW (w:L.Sq L.Want):Prop:=w.n <= 4 /\ ∀ i,i<w.n->(w.g i).ol.n <= 1000000
theorem iK {n:Int} (h : -9223372036854775808 <= n:=by omega) (k:n <= 9223372036854775807:=by omega):InK .i64 n:=⟨h,k⟩
def chkI (n:Nat):Bool:=L.isOne n || (List.range (L.partN n)).all (fun k=>(List.range (L.partN n)).all fun k'=>decide (k=k') || !decide (L.part n k=L.part n k'))
theorem chkI_all:((List.range 16).all chkI)=true:=by kernel_rfl
theorem part_inj {g:Int} (h:1 <= g) (h':g <= 15) (h1:L.isOne g=false) {k k':Nat} (hk:k<L.partN g) (hk':k'<L.partN g) (e:L.part g k=L.part g k'):k=k':=by
 obtain ⟨n,rfl⟩:=Int.eq_ofNat_of_zero_le (show 0 <= g by omega)
 have:=List.all_eq_true.1 chkI_all n (List.mem_range.2 (by omega))
 unfold chkI at this
 rw [h1,Bool.false_or,List.all_eq_true] at this
 have:=List.all_eq_true.1 (this k (List.mem_range.2 hk)) k' (List.mem_range.2 hk')
 rw [Bool.or_eq_true,decide_eq_true_eq] at this
 rcases this with h | h
 ·exact h
 ·rw [e] at h;simp at h
theorem all_eq {n:Nat} (h:n <= 4):L.all n=2 ^ n - 1:=by
 have:n=0\/n=1\/n=2\/n=3\/n=4:=by omega
 rcases this with rfl | rfl | rfl | rfl | rfl <;> decide
theorem all_15 {n:Nat} (h:n <= 4):L.all n <= 15:=(all_bd h).2.1
theorem ix1_lt {n:Nat} (h:n <= 4) {g:Int} (h1:1 <= g) (hg:g <= L.all n) (ho:L.isOne g=true):L.ix1 g<n:=by
 obtain ⟨e,hl⟩:=grp_one h1 (Int.le_trans hg (all_15 h)) ho
 rw [e,all_eq h] at hg
 generalize L.ix1 g=i at *
 have h2:n=0\/n=1\/n=2\/n=3\/n=4:=by omega
 have h3:i=0\/i=1\/i=2\/i=3:=by omega
 rcases h2 with rfl | rfl | rfl | rfl | rfl <;> rcases h3 with rfl | rfl | rfl | rfl <;> simp at hg ⊢
theorem shr_one {i k:Nat} (hi:i<4) (hk:k <= i):(1<L.ishr (2 ^ i) k) ↔ k<i:=by
 have h3:i=0\/i=1\/i=2\/i=3:=by omega
 have h4:k=0\/k=1\/k=2\/k=3:=by omega
 rcases h3 with rfl | rfl | rfl | rfl <;> rcases h4 with rfl | rfl | rfl | rfl <;> first | (exfalso;omega) | decide
def L.szC (s:L.Size):List SV:=[.int .i64 s.w,.int .i64 s.h]
theorem row_eq {X Y:List L.Size} (h:X=Y):(L.sqS X).n=(L.sqS Y).n /\ ∀ i,i<(L.sqS X).n->L.szC ((L.sqS X).g i)=L.szC ((L.sqS Y).g i):=by rw [h];exact ⟨rfl,fun _ _=>rfl⟩
theorem row_app {X Y Z:List L.Size} (h:Y=X ++ Z) {r:Nat->List SV} (hr:∀ i,i<Z.length->r i=L.szC (Z.getD i ⟨0,0⟩)):(L.sqS X).n+Z.length=(L.sqS Y).n /\ ∀ i,i<(L.sqS X).n+Z.length->appGet (L.sqS X).n (fun j=>L.szC ((L.sqS X).g j)) r i=L.szC ((L.sqS Y).g i):=by
 subst h
 refine ⟨by simp [L.sqS],fun i hi=>?_⟩
 unfold appGet
 by_cases e:i<(L.sqS X).n
 ·rw [if_pos e]
  have e':i<X.length:=e
  simp [L.sqS,List.getD_eq_getElem?_getD,List.getElem?_append_left e']
 ·rw [if_neg e]
  have e':¬ i<X.length:=e
  have hi:i<X.length+Z.length:=hi
  rw [show (L.sqS X).n=X.length from rfl,hr (i - X.length) (by omega)]
  simp [L.sqS,List.getD_eq_getElem?_getD,List.getElem?_append_right (show X.length <= i by omega)]
theorem scan_row {X:List L.Size} {u:Nat->L.Size} (h:SortedBy L.cmpSz (L.sqS X).n (L.sqS X).g u) {Y:List L.Size} (hY:Cu.stair X=Y):L.scN u (L.sqS X).n=(L.sqS Y).n /\ ∀ i,i<L.scN u (L.sqS X).n->L.szC (L.scG u (L.sqS X).n i)=L.szC ((L.sqS Y).g i):=by
 have e:L.scan u (L.sqS X).n=Y:=by rw [scan_eq h,show (L.sqS X).n=X.length from rfl,sqS_range,hY]
 unfold L.scN L.scG L.sqS at *
 simp only at e ⊢
 rw [e]
 exact ⟨rfl,fun _ _=>rfl⟩
theorem acB_next (w:L.Sq L.Want) (gr g:Int) (k i:Nat) {j:Nat} (hj:j<(L.tabF w gr (L.cmp_ g k)).n):L.acB w gr g k i (j+1)=L.acB w gr g k i j ++ L.mrg ((L.tabF w gr (L.part g k)).g i) ((L.tabF w gr (L.cmp_ g k)).g j):=by
 have hj:j<(L.tab w gr (L.cmp_ g k)).length:=hj
 unfold L.acB
 rw [List.take_add_one,List.getElem?_eq_getElem hj,List.flatMap_append,<- List.append_assoc]
 simp [L.tabF,L.sqS,List.getD_eq_getElem?_getD,hj]
theorem acB_all (w:L.Sq L.Want) (gr g:Int) (k:Nat) {i:Nat} (hi:i<(L.tabF w gr (L.part g k)).n):L.acB w gr g k i (L.tabF w gr (L.cmp_ g k)).n=L.acA w gr g k (i+1):=by
 have hi:i<(L.tab w gr (L.part g k)).length:=hi
 unfold L.acB L.acA
 rw [show (L.tabF w gr (L.cmp_ g k)).n=(L.tab w gr (L.cmp_ g k)).length from rfl,List.take_length,List.take_add_one,List.getElem?_eq_getElem hi]
 unfold L.prs
 rw [List.flatMap_append,<- List.append_assoc]
 simp [L.tabF,L.sqS,List.getD_eq_getElem?_getD,hi]
theorem acA_0 (w:L.Sq L.Want) (gr g:Int) (k:Nat):L.acA w gr g k 0=L.acc w gr g k:=by unfold L.acA L.prs;simp
theorem acB_0 (w:L.Sq L.Want) (gr g:Int) (k i:Nat):L.acB w gr g k i 0=L.acA w gr g k i:=by unfold L.acB;simp
theorem acA_all (w:L.Sq L.Want) (gr g:Int) (k:Nat):Cu.stair (L.acA w gr g k (L.tabF w gr (L.part g k)).n)=L.acc w gr g (k+1):=by
 unfold L.acA L.acc
 rw [show (L.tabF w gr (L.part g k)).n=(L.tab w gr (L.part g k)).length from rfl,List.take_length,stair_app];rfl
theorem oneK_next (w:L.Sq L.Want) (gr:Int) (i:Nat) {t:Nat} (ht:t<2):L.oneK w gr i (t+1)=L.oneK w gr i t ++ (if L.alw (w.g i).grain gr t=true then [L.box (w.g i).ol t] else []):=by
 unfold L.oneK
 have h:t=0\/t=1:=by omega
 rcases h with rfl | rfl
 ·simp only [List.take,List.filter_nil,List.map_nil,List.nil_append]
  show List.map _ (List.filter _ [0])=_
  cases h:L.alw (w.g i).grain gr 0 <;> simp [List.filter,h]
 ·show List.map _ (List.filter _ [0,1])=List.map _ (List.filter _ [0]) ++ _
  cases h:L.alw (w.g i).grain gr 0 <;> cases h2:L.alw (w.g i).grain gr 1 <;> simp [List.filter,h,h2]
theorem acA_len (w:L.Sq L.Want) (gr:Int) {g:Int} (h:1 <= g) (h':g <= 15) (h1:L.isOne g=false) {k i j:Nat} (hk:k<L.partN g):(L.acB w gr g k i j).length <= 10000/\(L.acA w gr g k i).length <= 10000/\(L.acc w gr g k).length <= 2000:=by
 obtain ⟨hp0,hp⟩:=grp_prt h h' h1
 obtain ⟨p1,p2,p3,p4,p5⟩:=hp k hk
 have hc:=cb_le (g:=g) (by omega) h'
 have hT:∀ p,0 <= p->p<g->TabOk (L.tab w gr) p:=fun p hp hpg=>tab_okI w gr hp (by omega)
 have e1:(L.acc w gr g k).length <= 2000:=by
  have h2:=(psK_ok hT hp k (by omega)).1
  have h3:=stair_len (L.psK (L.tab w gr) g k)
  have h4:=cbK_mono g (show k <= L.partN g by omega)
  have h5:=hc.2.2 h h1
  unfold L.acc;omega
 have hpk:2 * (cb (L.part g k) * cb (L.cmp_ g k)) <= 2000:=by
  have h4:=cbK_mono g (show k+1 <= L.partN g by omega)
  rw [cbK_succ] at h4
  have h5:=hc.2.2 h h1
  omega
 have hA:=(hT _ (Int.le_of_lt p1) p2).len
 have hB:=(hT _ (Int.le_of_lt p3) p4).len
 have hc2:=(cb_le (g:=L.cmp_ g k) (by omega) (by omega)).1
 have e2:(L.acA w gr g k i).length <= 4000:=by
  unfold L.acA
  rw [List.length_append,prs_len]
  have:(List.take i (L.tab w gr (L.part g k))).length <= cb (L.part g k):=by rw [List.length_take];omega
  have:=Nat.mul_le_mul this hB
  omega
 refine ⟨?_,by omega,e1⟩
 unfold L.acB
 rw [List.length_append]
 have hfm:∀ (a:L.Size) (B:List L.Size),(B.flatMap fun b=>L.mrg a b).length=2 * B.length:=fun a B=>by
  induction B with
  | nil=>rfl
  | cons b B ih=>rw [List.flatMap_cons,List.length_append,ih,List.length_cons];show 2+_=_;omega
 rw [hfm,List.length_take]
 omega
theorem tab_len_le (w:L.Sq L.Want) (gr:Int) {g:Int} (h:0 <= g) (h':g <= 15):(L.tab w gr g).length <= 2000:=Nat.le_trans (tab_okI w gr h h').len (cb_le h h').1
theorem tabF_mem {w:L.Sq L.Want} {gr g:Int} {i:Nat} (h:i<(L.tabF w gr g).n):(L.tabF w gr g).g i ∈ L.tab w gr g:=by
 have h:i<(L.tab w gr g).length:=h
 show (L.tab w gr g).getD i ⟨0,0⟩ ∈ _
 rw [List.getD_eq_getElem?_getD,List.getElem?_eq_getElem h]
 exact List.getElem_mem h
theorem acc_last (w:L.Sq L.Want) (gr:Int) {g:Int} (h:1 <= g) (h15:g <= 15) (h1:L.isOne g=false):L.isT w gr g (L.acc w gr g (L.partN g)):=by
 have e:L.acc w gr g (L.partN g)=L.tab w gr g:=(tab_2 w gr h h15 h1).symm
 refine ⟨?_,?_⟩
 ·rw [e,tab_2 w gr h h15 h1,stair_stair]
 ·rw [e]
  have:=(tab_okI w gr (by omega) h15 (g:=g)).len
  have:=(cb_le (g:=g) (by omega) h15).1
  omega
section
attribute [local irreducible] L.partN L.part L.all
abbrev c_sizes_mk:Mk:={ T:=(L.Sq L.Want) × (Int) × (Int->Bool) × (Int),U:=Int->Bool,args:=fun t=>(fun w gr dom g=>[.loc 1000 0,.p (.int .i64 g)]) t.1 t.2.1 t.2.2.1 t.2.2.2,lkeys:=[1000,1001],keys:=[],lent:=fun t=>(fun w gr dom g=>[(1000,.blk 162 [.p ((.sl 4 w.n (fun i=>[.int .i64 ((w.g i).id),.int .i64 ((w.g i).colour),.int .i64 ((w.g i).grain),.sl 2 (w.g i).ol.n (fun i1=>[.int .i64 (((w.g i).ol.g i1).x),.int .i64 (((w.g i).ol.g i1).y)])]))),.p (.int .i64 gr),.mapv 1001]),(1001,.mq 3 27 dom (L.memo (L.tabF w gr)))]) t.1 t.2.1 t.2.2.1 t.2.2.2,pre:=fun t=>(fun w gr dom g=>L.okW w/\0 <= g/\g <= L.all w.n) t.1 t.2.1 t.2.2.1 t.2.2.2,post:=fun t u=>(fun w gr dom g=>fun u=>True) t.1 t.2.1 t.2.2.1 t.2.2.2 u,lent':=fun t u=>(fun w gr dom g=>fun u=>[(1000,.blk 162 [.p ((.sl 4 w.n (fun i=>[.int .i64 ((w.g i).id),.int .i64 ((w.g i).colour),.int .i64 ((w.g i).grain),.sl 2 (w.g i).ol.n (fun i1=>[.int .i64 (((w.g i).ol.g i1).x),.int .i64 (((w.g i).ol.g i1).y)])]))),.p (.int .i64 gr),.mapv 1001]),(1001,.mq 3 27 u (L.memo (L.tabF w gr)))]) t.1 t.2.1 t.2.2.1 t.2.2.2 u,own:=fun t u=>(fun w gr dom g=>fun u=>[]) t.1 t.2.1 t.2.2.1 t.2.2.2 u,res:=fun t u=>(fun w gr dom g=>fun u=>.p (L.memo (L.tabF w gr) g)) t.1 t.2.1 t.2.2.1 t.2.2.2 u }
abbrev c_sizes_mu:c_sizes_mk.T->Nat:=fun t=>(fun w gr dom g=>g.toNat) t.1 t.2.1 t.2.2.1 t.2.2.2
theorem c_sizes_vc (rn:Nat) (w:L.Sq L.Want) (gr:Int) (dom:Int->Bool) (g:Int) (hp:c_sizes_mk.pre (w,gr,dom,g)) (hmu:g.toNat<rn+1):vc Tryz.prog ({ muts:=[2,80],frz:=lookN [],specs:=lookS [(114,c_parts_S),(76,c_allowed_S),(77,c_boxOf_S)],loops:=lookL [(21,{ T:=Nat,keep:=[2,3,7],keepO:=[2,7,80,1000,1001],chg:=fun i=>[(8,.p (.int .i64 (i:Int)))],own:=fun _=>[],inv:=fun i=>i <= L.ix1 g,mu:=fun i=>L.ix1 g - i }),(24,{ T:=Nat,keep:=[2,3,7,8],keepO:=[2,1000,1001],chg:=fun i=>[(93,.p (.int .i64 (i:Int)))],own:=fun t=>[(7,.blk 27 [.row 80]),(80,.row 43 2 (L.sqS (L.oneK w gr (L.ix1 g) t)).n (fun j=>[.int .i64 ((L.sqS (L.oneK w gr (L.ix1 g) t)).g j).w,.int .i64 ((L.sqS (L.oneK w gr (L.ix1 g) t)).g j).h]))],inv:=fun i=>i <= 2,mu:=fun i=>2 - i }),(8,{ T:=Nat × (Int->Bool) × Nat,keep:=[2,3,7,10,31,32],keepO:=[2,1000],chg:=fun t=>[(33,.p (.int .i64 (t.1:Int)))],own:=fun t=>[(7,.blk 27 [.row 80]),(80,.row 43 2 (L.sqS (L.acA w gr g t.2.2 t.1)).n (fun j=>[.int .i64 ((L.sqS (L.acA w gr g t.2.2 t.1)).g j).w,.int .i64 ((L.sqS (L.acA w gr g t.2.2 t.1)).g j).h])),(1001,.mq 3 27 t.2.1 (L.memo (L.tabF w gr)))],inv:=fun t=>t.1 <= (L.tabF w gr (L.part g t.2.2)).n/\t.2.2<L.partN g,mu:=fun t=>(L.tabF w gr (L.part g t.2.2)).n - t.1,tie:=fun t=>[(10,.int .i64 (L.part g t.2.2))] }),(11,{ T:=Nat × Nat × Nat,keep:=[2,3,7,10,12,31,32,33,41,42],keepO:=[2,12,1000,1001],chg:=fun t=>[(43,.p (.int .i64 (t.1:Int)))],own:=fun t=>[(7,.blk 27 [.row 80]),(80,.row 43 2 (L.sqS (L.acB w gr g t.2.1 t.2.2 t.1)).n (fun j=>[.int .i64 ((L.sqS (L.acB w gr g t.2.1 t.2.2 t.1)).g j).w,.int .i64 ((L.sqS (L.acB w gr g t.2.1 t.2.2 t.1)).g j).h]))],inv:=fun t=>t.1 <= (L.tabF w gr (L.cmp_ g t.2.1)).n/\t.2.1<L.partN g,mu:=fun t=>(L.tabF w gr (L.cmp_ g t.2.1)).n - t.1,tie:=fun t=>[(10,.int .i64 (L.part g t.2.1)),(33,.int .i64 (t.2.2:Int))] })],iters:=lookI [(157,c_parts1_it)],rfs:=lookR [(6,{ T:=Int->Bool,keep:=[2,3,7],keepO:=[1000,2],own:=fun k d=>[(7,.blk 27 [.row 80]),(80,.row 43 2 (L.sqS (L.acc w gr g k)).n (fun j=>[.int .i64 ((L.sqS (L.acc w gr g k)).g j).w,.int .i64 ((L.sqS (L.acc w gr g k)).g j).h])),(1001,.mq 3 27 d (L.memo (L.tabF w gr)))],inv:=fun k _=>k <= L.partN g })],nils:=lookM [(5,[(7,80,43,2)]),(20,[(7,80,43,2)])],mks:=lookK [(115,c_minimal_mk),(64,Mk.lt c_sizes_mk c_sizes_mu rn)],ren:=fun k=>if k=1010 then 131 else if k=32 then 80 else k,joins:=lookL [(29,{ T:=(Int->Bool) × List L.Size,keep:=[2,3,7],keepO:=[2,1000],chg:=fun _=>[],own:=fun t=>[(7,.blk 27 [.row 80]),(80,.row 43 2 (L.sqS (t.2)).n (fun j=>[.int .i64 ((L.sqS (t.2)).g j).w,.int .i64 ((L.sqS (t.2)).g j).h])),(1001,.mq 3 27 t.1 (L.memo (L.tabF w gr)))],inv:=fun t=>L.isT w gr g t.2,mu:=fun _=>0 }),(30,{ T:=Int->Bool,keep:=[2,3],keepO:=[2,1000],chg:=fun _=>[],own:=fun t=>[(1001,.mq 3 27 t (L.memo (L.tabF w gr)))],inv:=fun t=>t g=true,mu:=fun _=>0 })],anys:=[1,27,29,30],rek:=lookR2 [(16,[(80,131)]),(29,[(80,131)])] }) (bodyOf Tryz.f64) (stTr Tryz.f64 (c_sizes_mk.args (w,gr,dom,g)) (c_sizes_mk.lent (w,gr,dom,g))) (retMk Tryz.prog Tryz.f64 c_sizes_mk (w,gr,dom,g)) :=
 @Eq.mpr _ (let I:=SV.int .i64;let T:=Int.toNat;let A68:=(0:Nat);let A63:=(nat_lit 3);let A62:=(nat_lit 7);let A48:=(nat_lit 2);let A46:=(L.sqS (L.acc w gr g A68));let A42:=(140737488355328:Nat);let A41:=(1000000:Nat);let A32:=(L.ix1 g);let A29:=(L.sqS (L.acc w gr g (L.partN g)));let A26:=(∀ (x:Int),dom x=dom x);let A25:=(0:Int);let A24:=(1
:Int);let A21:=(2:Nat);let A13:=(nat_lit 0);let A12:=(L.tabF w gr);let A10:=(L.tabF w gr g);let A16:=(A10.n=A10.n /\ ∀ (i:Nat),let A76:=[I (A10.g i).w,I (A10.g i).h];i<A10.n->A76=A76);let A7:=(∀ (x:Int),dom x=true->L.memo A12 x=L.memo A12 x);let A2:=(w.n=w.n /\ ∀ (i:Nat),let A20:=[I (w.g i).id,I (w.g i).colour,I (w.g i).grain,SV.sl
 A21 (w.g i).ol.n fun (i1:Nat)=>[I ((w.g i).ol.g i1).x,I ((w.g i).ol.g i1).y]];i<w.n->A20=A20);let A1:=((decide (g=A25)=true -> ∃ (g_1:(Int->Bool) × List L.Size),let A80:=(L.sqS g_1.2);nat_lit 0=nat_lit 0/\SV.ref [I g] A13=SV.ref [I g] A13/\nat_lit 0=nat_lit 0/\(nat_lit 1=A80.n /\ ∀ (i:Nat),i<nat_lit 1->rowsOf [I A25,I A25]
 A48 i = [I (A80.g i).w,I (A80.g i).h])/\(∀ (x:Int),dom x=g_1.1 x)/\A7/\nat_lit 0=nat_lit 0/\A2/\gr=gr/\L.isT w gr g g_1.2)/\(decide (g=A25)=false->InK .i64 (g - A24)/\(decide (L.iand g (g - A24)=A25)=true->(∃ (g_1:Nat),A25=(↑g_1:Int)/\g_1 <= L.ix1 g) /\ ∀ (g_1:Nat),let A18:=(↑g_1:Int);let A71:=(A25 <=
 A18/\A18<(↑w.n:Int));let A9:=(w.g (T A18));let A22:=((∀ (i:Nat),let A69:=[I (A9.ol.g i).x,I (A9.ol.g i).y];i<A9.ol.n->A69=A69)/\A9.ol.n <= A41);g_1 <= L.ix1 g->A25 <= A18/\(decide (A24<L.ishr g A18)=true->InK .i64 (A18+A24) /\ ∃ (g':Nat),A18+A24=(↑g':Int)/\nat_lit 0=nat_lit 0/\SV.ref [I g] A13=SV.ref [I
 g] A13/\nat_lit 0=nat_lit 0/\(nat_lit 0=nat_lit 0 /\ ∀ (i:Nat),i<nat_lit 0->([]:List SV) = [])/\nat_lit 0=nat_lit 0/\A2/\gr=gr/\A26/\A7/\g' <= L.ix1 g/\L.ix1 g - g'<L.ix1 g - g_1)/\(decide (A24<L.ishr g A18)=false->(∃ (g_2:Nat),let A50:=(L.sqS (L.oneK w gr A32 g_2));A25=(↑g_2:Int)/\(nat_lit 0=A50.n /\ ∀ (i:Nat),i<nat_lit 0
 -> [] = [I (A50.g i).w,I (A50.g i).h])/\g_2 <= A21) /\ ∀ (g_2:Nat),let A19:=(↑g_2:Int);let A79:=(A19+A24);let A6:=(L.sqS (L.oneK w gr A32 g_2));let A70:=(A6.n+nat_lit 1);g_2 <= A21->(decide (A19<(2:Int))=true->A71/\True/\(L.alw A9.grain gr A19=true->A71/\(A22/\A70 * nat_lit 16 <= A42/\InK .i64 A79 /\ ∃ (g':Nat),let A54 :=
 (L.sqS (L.oneK w gr A32 g'));A19+A24=(↑g':Int)/\A18=A18/\nat_lit 0=nat_lit 0/\SV.ref [I g] A13=SV.ref [I g] A13/\nat_lit 0=nat_lit 0/\(A6.n+nat_lit 1=A54.n /\ ∀ (i:Nat),let A51:=(L.box (L.Sq.mk A9.ol.n fun (i:Nat)=>A9.ol.g i) A19);i<A6.n+nat_lit 1->appGet A6.n (fun (j:Nat)=>[I (A6.g j).w,I (A6.g j).h]) (fun (x:Nat)=>[I A51.w,I A51.h])
 i = [I (A54.g i).w,I (A54.g i).h])/\nat_lit 0=nat_lit 0/\A2/\gr=gr/\A26/\A7/\g' <= A21/\A21 - g'<A21 - g_2)/\A22/\(A70 * nat_lit 16 <= A42/\InK .i64 A79 /\ ∃ (g':Nat),let A55:=(L.sqS (L.oneK w gr A32 g'));A19+A24=(↑g':Int)/\A18=A18/\nat_lit 0=nat_lit 0/\SV.ref [I g] A13=SV.ref [I g] A13/\nat_lit 0=nat_lit 0/\(A6.n+nat_lit 1 =
 A55.n /\ ∀ (i:Nat),let A52:=(L.box (L.Sq.mk A9.ol.n fun (i:Nat)=>A9.ol.g i) A19);i<A6.n+nat_lit 1->appGet A6.n (fun (j:Nat)=>[I (A6.g j).w,I (A6.g j).h]) (fun (x:Nat)=>[I A52.w,I A52.h]) i = [I (A55.g i).w,I (A55.g i).h])/\nat_lit 0=nat_lit 0/\A2/\gr=gr/\A26/\A7/\g' <= A21/\A21 - g'<A21 - g_2)/\A70 * nat_lit 16 <= A42/\InK .i64 A79 /\ ∃ (g' :
 Nat),let A56:=(L.sqS (L.oneK w gr A32 g'));A19+A24=(↑g':Int)/\A18=A18/\nat_lit 0=nat_lit 0/\SV.ref [I g] A13=SV.ref [I g] A13/\nat_lit 0=nat_lit 0/\(A6.n+nat_lit 1=A56.n /\ ∀ (i:Nat),let A53:=(L.box (L.Sq.mk A9.ol.n fun (i:Nat)=>A9.ol.g i) A19);i<A6.n+nat_lit 1->appGet A6.n (fun (j:Nat)=>[I (A6.g j).w,I (A6.g j).h]) (fun (x:Nat)=>[I
 A53.w,I A53.h]) i = [I (A56.g i).w,I (A56.g i).h])/\nat_lit 0=nat_lit 0/\A2/\gr=gr/\A26/\A7/\g' <= A21/\A21 - g'<A21 - g_2)/\(L.alw A9.grain gr A19=false->InK .i64 A79 /\ ∃ (g':Nat),let A57:=(L.sqS (L.oneK w gr A32 g'));A19+A24=(↑g':Int)/\A18=A18/\nat_lit 0=nat_lit 0/\SV.ref [I g] A13=SV.ref [I g] A13/\nat_lit 0=nat_lit 0 /\
 (A6.n=A57.n /\ ∀ (i:Nat),i<A6.n -> [I (A6.g i).w,I (A6.g i).h] = [I (A57.g i).w,I (A57.g i).h])/\nat_lit 0=nat_lit 0/\A2/\gr=gr/\A26/\A7/\g' <= A21/\A21 - g'<A21 - g_2))/\(decide (A19<(2:Int))=false -> ∃ (g_3:(Int->Bool) × List L.Size),let A81:=(L.sqS g_3.2);nat_lit 0=nat_lit 0/\SV.ref [I g] A13=SV.ref [I g] A13/\nat_lit 0=nat_lit
 0/\(A6.n=A81.n /\ ∀ (i:Nat),i<A6.n -> [I (A6.g i).w,I (A6.g i).h] = [I (A81.g i).w,I (A81.g i).h])/\(∀ (x:Int),dom x=g_3.1 x)/\A7/\nat_lit 0=nat_lit 0/\A2/\gr=gr/\L.isT w gr g g_3.2)))/\(decide (L.iand g (g - A24)=A25)=false->True/\((A25 <= g/\g <= (15:Int)) /\ ∃ (t:Int->Bool),(nat_lit 0=A46.n /\ ∀ (i:Nat),i<nat_lit 0 -> [] = [I (A46.g
 i).w,I (A46.g i).h])/\(∀ (x:Int),dom x=t x)/\A7/\nat_lit 0=nat_lit 0/\A2/\gr=gr/\A68 <= L.partN g)/\(∀ (k:Nat) (t:Int->Bool) (vk:Nat->Go.Value),let A39:=(L.sqS (L.acc w gr g k));let A35:=(L.sqS (L.acc w gr g (k+(1:Nat))));k<L.partN g->k <= L.partN g -> ∃ (t_1:L.Sq L.Want × Int × (Int->Bool) × Int),let A83:=(L.tabF t_1.1 t_1.2.1);let A5:=(L.tabF t_1.1
 t_1.2.1 t_1.snd.2.2);let A43:=(↑A5.n:Int);let A28:=(A5.n=A5.n /\ ∀ (i:Nat),let A77:=[I (A5.g i).w,I (A5.g i).h];i<A5.n->A77=A77);nat_lit 0=A68/\L.part g k=t_1.snd.2.2/\(w.n=t_1.1.n /\ ∀ (i:Nat),let A58:=(t_1.1.g i);i<w.n -> [I (w.g i).id,I (w.g i).colour,I (w.g i).grain,SV.sl A21 (w.g i).ol.n fun (i1:Nat)=>[I ((w.g i).ol.g i1).x,I ((w.g i).ol.g
 i1).y]] = [I A58.id,I A58.colour,I A58.grain,SV.sl A21 A58.ol.n fun (i1:Nat)=>[I (A58.ol.g i1).x,I (A58.ol.g i1).y]])/\gr=t_1.2.1/\(∀ (x:Int),t x=t_1.snd.2.1 x)/\(∀ (x:Int),t x=true->L.memo A12 x=L.memo A83 x)/\((L.okW t_1.1/\A25 <= t_1.snd.2.2/\t_1.snd.2.2 <= L.all t_1.1.n)/\T t_1.snd.2.2<rn) /\ ∀ (u:Int->Bool),True->(∃ (g_1:Nat × (Int->Bool) × Nat),
 let A38:=(L.sqS (L.acA w gr g g_1.2.2 g_1.1));A25=(↑g_1.1:Int)/\(A39.n=A38.n /\ ∀ (i:Nat),i<A39.n -> [I (A39.g i).w,I (A39.g i).h] = [I (A38.g i).w,I (A38.g i).h])/\(∀ (x:Int),u x=g_1.2.1 x)/\(∀ (x:Int),u x=true->L.memo A83 x=L.memo A12 x)/\L.part g k=L.part g g_1.2.2/\g_1.1 <= (L.tabF w gr (L.part g g_1.2.2)).n/\g_1.2.2<L.partN g) /\ ∀ (g_1:Nat × (Int ->
 Bool) × Nat),let A72:=(L.tabF w gr (L.part g g_1.2.2));let A15:=(↑g_1.1:Int);let A27:=(A5.g (T A15));let A14:=(L.sqS (L.acA w gr g g_1.2.2 g_1.1));L.part g k=L.part g g_1.2.2/\g_1.1 <= A72.n/\g_1.2.2<L.partN g->(decide (A15<A43)=true->(A25 <= A15/\A15<A43) /\ ∃ (t_2:L.Sq L.Want × Int × (Int->Bool) × Int),let A47:=(L.tabF t_2.1 t_2.2.1);let A8 :=
 (L.tabF t_2.1 t_2.2.1 t_2.snd.2.2);let A61:=(↑A8.n:Int);nat_lit 0=A68/\L.iandNot g (L.part g k)=t_2.snd.2.2/\(t_1.1.n=t_2.1.n /\ ∀ (i:Nat),let A60:=(t_2.1.g i);let A59:=(t_1.1.g i);i<t_1.1.n -> [I A59.id,I A59.colour,I A59.grain,SV.sl A21 A59.ol.n fun (i1:Nat)=>[I (A59.ol.g i1).x,I (A59.ol.g i1).y]] = [I A60.id,I A60.colour,I A60.grain,SV.sl A21
 A60.ol.n fun (i1:Nat)=>[I (A60.ol.g i1).x,I (A60.ol.g i1).y]])/\t_1.2.1=t_2.2.1/\(∀ (x:Int),g_1.2.1 x=t_2.snd.2.1 x)/\(∀ (x:Int),g_1.2.1 x=true->L.memo A12 x=L.memo A47 x)/\((L.okW t_2.1/\A25 <= t_2.snd.2.2/\t_2.snd.2.2 <= L.all t_2.1.n)/\T t_2.snd.2.2<rn) /\ ∀ (u_1:Int->Bool),True->(∃ (g_2:Nat × Nat × Nat),let A33:=(L.sqS (L.acB w gr g g_2.2.1 g_2.2.2
 g_2.1));A25=(↑g_2.1:Int)/\(A14.n=A33.n /\ ∀ (i:Nat),i<A14.n -> [I (A14.g i).w,I (A14.g i).h] = [I (A33.g i).w,I (A33.g i).h])/\L.part g k=L.part g g_2.2.1/\A15=(↑g_2.2.2:Int)/\g_2.1 <= (L.tabF w gr (L.cmp_ g g_2.2.1)).n/\g_2.2.1<L.partN g) /\ ∀ (g_2:Nat × Nat × Nat),let A73:=(L.tabF w gr (L.cmp_ g g_2.2.1));let A23:=(↑g_2.1:Int);let A49:=(A8.g (T A23));let A11
:=(L.sqS (L.acB w gr g g_2.2.1 g_2.2.2 g_2.1));L.part g k=L.part g g_2.2.1/\A15=(↑g_2.2.2:Int)/\g_2.1 <= A73.n/\g_2.2.1<L.partN g->(decide (A23<A61)=true->(A25 <= A23/\A23<A61)/\InK .i64 (A27.w+A49.w)/\InK .i64 (A27.h+A49.h)/\(A11.n+nat_lit 2) * nat_lit 16 <= A42/\InK .i64 (A23+A24) /\ ∃ (g':Nat × Nat ×
 Nat),let A74:=(L.tabF w gr (L.cmp_ g g'.2.1));let A34:=(L.sqS (L.acB w gr g g'.2.1 g'.2.2 g'.1));A23+A24=(↑g'.1:Int)/\A61=A61/\(A8.n=A8.n /\ ∀ (i:Nat),let A78:=[I (A8.g i).w,I (A8.g i).h];i<A8.n->A78=A78)/\nat_lit 0=nat_lit 0/\A15=A15/\A43=A43/\A28/\L.part g k=L.part g k/\nat_lit 0=nat_lit 0/\SV.ref [I g] A13=SV.ref [I g] A13/\nat_lit 0
 = nat_lit 0/\vk A62=vk A62/\vk A63=vk A63/\vk A48=vk A48/\(A11.n+nat_lit 2=A34.n /\ ∀ (i:Nat),i<A11.n+nat_lit 2->appGet A11.n (fun (j:Nat)=>[I (A11.g j).w,I (A11.g j).h]) (rowsOf [I (A27.w+A49.w),I (Max.max A27.h A49.h),I (Max.max A27.w A49.w),I (A27.h+A49.h)] A48) i = [I (A34.g i).w,I (A34.g i).h])/\A27.w=A27.w/\A27.h=A27.h/\(∀ (x:Int),u_1 x
 = u_1 x)/\(∀ (x:Int),u_1 x=true->L.memo A47 x=L.memo A47 x)/\nat_lit 0=nat_lit 0/\(t_2.1.n=t_2.1.n /\ ∀ (i:Nat),let A64:=(t_2.1.g i);let A17:=[I A64.id,I A64.colour,I A64.grain,SV.sl A21 A64.ol.n fun (i1:Nat)=>[I (A64.ol.g i1).x,I (A64.ol.g i1).y]];i<t_2.1.n->A17=A17)/\t_2.2.1=t_2.2.1/\(L.part g k=L.part g g'.2.1/\A15=(↑g'.2.2:Int)/\g'.1 <=
 A74.n/\g'.2.1<L.partN g)/\A74.n - g'.1<A73.n - g_2.1)/\(decide (A23<A61)=false->InK .i64 (A15+A24) /\ ∃ (g':Nat × (Int->Bool) × Nat),let A75:=(L.tabF w gr (L.part g g'.2.2));let A40:=(L.sqS (L.acA w gr g g'.2.2 g'.1));A15+A24=(↑g'.1:Int)/\A43=A43/\A28/\L.part g k=L.part g k/\nat_lit 0=nat_lit 0/\SV.ref [I g] A13 =
 SV.ref [I g] A13/\nat_lit 0=nat_lit 0/\vk A62=vk A62/\vk A63=vk A63/\vk A48=vk A48/\(A11.n=A40.n /\ ∀ (i:Nat),i<A11.n -> [I (A11.g i).w,I (A11.g i).h] = [I (A40.g i).w,I (A40.g i).h])/\(∀ (x:Int),u_1 x=g'.2.1 x)/\(∀ (x:Int),u_1 x=true->L.memo A47 x=L.memo A12 x)/\nat_lit 0=nat_lit 0/\(t_2.1.n=t_1.1.n /\ ∀ (i:Nat),let A66:=(t_1.1.g i);let A65
:=(t_2.1.g i);i<t_2.1.n -> [I A65.id,I A65.colour,I A65.grain,SV.sl A21 A65.ol.n fun (i1:Nat)=>[I (A65.ol.g i1).x,I (A65.ol.g i1).y]] = [I A66.id,I A66.colour,I A66.grain,SV.sl A21 A66.ol.n fun (i1:Nat)=>[I (A66.ol.g i1).x,I (A66.ol.g i1).y]])/\t_2.2.1=t_1.2.1/\(L.part g k=L.part g g'.2.2/\g'.1 <= A75.n/\g'.2.2<L.partN g)/\A75.n - g'.1<A72.n - g_1.1)) /\
 (decide (A15<A43)=false -> ∃ (t:Nat × (Nat->L.Size)),(A14.n=t.1 /\ ∀ (i:Nat),i<A14.n -> [I (A14.g i).w,I (A14.g i).h] = [I (t.2 i).w,I (t.2 i).h])/\t.1 <= A41 /\ ∀ (u:Nat->L.Size),SortedBy L.cmpSz t.1 t.2 u -> ∃ (t':Int->Bool),nat_lit 0=nat_lit 0/\SV.ref [I g] A13=SV.ref [I g] A13/\nat_lit 0=nat_lit 0/\vk A62=vk A62/\vk A63=vk A63
 /\ vk A48=vk A48/\(L.scN u t.1=A35.n /\ ∀ (i:Nat),i<L.scN u t.1 -> [I (L.scG u t.1 i).w,I (L.scG u t.1 i).h] = [I (A35.g i).w,I (A35.g i).h])/\(∀ (x:Int),g_1.2.1 x=t' x)/\(∀ (x:Int),g_1.2.1 x=true->L.memo A12 x=L.memo A12 x)/\nat_lit 0=nat_lit 0/\(t_1.1.n=w.n /\ ∀ (i:Nat),let A67:=(t_1.1.g i);i<t_1.1.n -> [I A67.id,I A67.colour,I A67.grain,SV.sl
 A21 A67.ol.n fun (i1:Nat)=>[I (A67.ol.g i1).x,I (A67.ol.g i1).y]] = [I (w.g i).id,I (w.g i).colour,I (w.g i).grain,SV.sl A21 (w.g i).ol.n fun (i1:Nat)=>[I ((w.g i).ol.g i1).x,I ((w.g i).ol.g i1).y]])/\t_1.2.1=gr/\k+(1:Nat) <= L.partN g)) /\ ∀ (t:Int->Bool),L.partN g <= L.partN g -> ∃ (g_1:(Int->Bool) × List L.Size),let A82:=(L.sqS g_1.2);nat_lit 0=nat_lit 0 /\
 SV.ref [I g] A13=SV.ref [I g] A13/\nat_lit 0=nat_lit 0/\(A29.n=A82.n /\ ∀ (i:Nat),i<A29.n -> [I (A29.g i).w,I (A29.g i).h] = [I (A82.g i).w,I (A82.g i).h])/\(∀ (x:Int),t x=g_1.1 x)/\(∀ (x:Int),t x=true->L.memo A12 x=L.memo A12 x)/\nat_lit 0=nat_lit 0/\A2/\gr=gr/\L.isT w gr g g_1.2)));(dom g=true->(true=true -> ∃ (u:Int ->
 Bool),A16/\A2/\gr=gr/\(∀ (x:Int),dom x=u x)/\A7/\True)/\(true=false->A1 /\ ∀ (g_1:(Int->Bool) × List L.Size),let A36:=(L.sqS g_1.2);let A30:=(∀ (x:Int),(decide (x=g) || g_1.1 x)=true->L.memo A12 x=L.memo A12 x);let A3:=(∃ (t:Nat × (Nat->L.Size)),(A36.n=t.1 /\ ∀ (i:Nat),i<A36.n -> [I (A36.g i).w,I (A36.g i).h] = [I (t.2 i).w,
 I (t.2 i).h])/\t.1 <= A41 /\ ∀ (u:Nat->L.Size),SortedBy L.cmpSz t.1 t.2 u->(L.scN u t.1=A10.n /\ ∀ (i:Nat),i<L.scN u t.1 -> [I (L.scG u t.1 i).w,I (L.scG u t.1 i).h] = [I (A10.g i).w,I (A10.g i).h]) /\ ∃ (g_2:Int->Bool),SV.ref [I g] A13=SV.ref [I g] A13/\nat_lit 0=nat_lit 0/\(∀ (x:Int),(decide (x=g) || g_1.1 x)=g_2 x)/\A30/\nat_lit 0 =
 nat_lit 0/\A2/\gr=gr/\g_2 g=true);L.isT w gr g g_1.2->(A3/\A3/\A3/\A3/\A3/\A3/\A3/\A3/\A3 /\ ∃ (t:Nat × (Nat->L.Size)),(A36.n=t.1 /\ ∀ (i:Nat),i<A36.n -> [I (A36.g i).w,I (A36.g i).h] = [I (t.2 i).w,I (t.2 i).h])/\t.1 <= A41 /\ ∀ (u:Nat->L.Size),SortedBy L.cmpSz t.1 t.2 u->(L.scN u t.1=A10.n /\ ∀ (i:Nat),i<L.scN u t.1 -> [I (L.scG u t.1 i).w,I (L.scG
 u t.1 i).h] = [I (A10.g i).w,I (A10.g i).h]) /\ ∃ (g_2:Int->Bool),SV.ref [I g] A13=SV.ref [I g] A13/\nat_lit 0=nat_lit 0/\(∀ (x:Int),(decide (x=g) || g_1.1 x)=g_2 x)/\A30/\nat_lit 0=nat_lit 0/\A2/\gr=gr/\g_2 g=true) /\ ∀ (g_2:Int->Bool),let A44:=(∀ (x:Int),g_2 x=true->L.memo A12 x=L.memo A12 x);g_2 g=true->(g_2 g =
 true -> ∃ (u:Int->Bool),A16/\A2/\gr=gr/\(∀ (x:Int),g_2 x=u x)/\A44/\True)/\(g_2 g=false -> ∃ (u:Int->Bool),A10.n=A68/\A2/\gr=gr/\(∀ (x:Int),g_2 x=u x)/\A44/\True)))/\(dom g=false->(false=true -> ∃ (u:Int->Bool),A10.n=A68/\A2/\gr=gr/\(∀ (x:Int),dom x=u x)/\A7/\True)/\(false=false->A1 /\ ∀ (g_1:(Int ->
 Bool) × List L.Size),let A37:=(L.sqS g_1.2);let A31:=(∀ (x:Int),(decide (x=g) || g_1.1 x)=true->L.memo A12 x=L.memo A12 x);let A4:=(∃ (t:Nat × (Nat->L.Size)),(A37.n=t.1 /\ ∀ (i:Nat),i<A37.n -> [I (A37.g i).w,I (A37.g i).h] = [I (t.2 i).w,I (t.2 i).h])/\t.1 <= A41 /\ ∀ (u:Nat->L.Size),SortedBy L.cmpSz t.1 t.2 u->(L.scN u t.1=A10.n /\ ∀ (i :
 Nat),i<L.scN u t.1 -> [I (L.scG u t.1 i).w,I (L.scG u t.1 i).h] = [I (A10.g i).w,I (A10.g i).h]) /\ ∃ (g_2:Int->Bool),SV.ref [I g] A13=SV.ref [I g] A13/\nat_lit 0=nat_lit 0/\(∀ (x:Int),(decide (x=g) || g_1.1 x)=g_2 x)/\A31/\nat_lit 0=nat_lit 0/\A2/\gr=gr/\g_2 g=true);L.isT w gr g g_1.2->(A4/\A4/\A4/\A4/\A4/\A4/\A4/\A4/\A4 /\ ∃ (t :
 Nat × (Nat->L.Size)),(A37.n=t.1 /\ ∀ (i:Nat),i<A37.n -> [I (A37.g i).w,I (A37.g i).h] = [I (t.2 i).w,I (t.2 i).h])/\t.1 <= A41 /\ ∀ (u:Nat->L.Size),SortedBy L.cmpSz t.1 t.2 u->(L.scN u t.1=A10.n /\ ∀ (i:Nat),i<L.scN u t.1 -> [I (L.scG u t.1 i).w,I (L.scG u t.1 i).h] = [I (A10.g i).w,I (A10.g i).h]) /\ ∃ (g_2:Int->Bool),SV.ref [I g] A13=SV.ref [I g] A13 /\
 nat_lit 0=nat_lit 0/\(∀ (x:Int),(decide (x=g) || g_1.1 x)=g_2 x)/\A31/\nat_lit 0=nat_lit 0/\A2/\gr=gr/\g_2 g=true) /\ ∀ (g_2:Int->Bool),let A45:=(∀ (x:Int),g_2 x=true->L.memo A12 x=L.memo A12 x);g_2 g=true->(g_2 g=true -> ∃ (u:Int->Bool),A16/\A2/\gr=gr/\(∀ (x:Int),g_2 x=u x)/\A45/\True)/\(g_2 g=false -> ∃
 (u:Int->Bool),A10.n=A68/\A2/\gr=gr/\(∀ (x:Int),g_2 x=u x)/\A45/\True)))) (by kernel_rfl) (by
  conv=>zeta
  have hp:L.okW w/\0 <= g/\g <= L.all w.n:=hp
  have hmu:g.toNat<rn+1:=hmu
  obtain ⟨⟨hw4,hwl⟩,hg0,hga⟩:=hp
  have hg15:g <= 15:=Int.le_trans hga (all_15 hw4)
  refine ⟨fun hd=>⟨fun _=>?_,fun h=>(by cases h)⟩,fun hd=>⟨fun h=>(by cases h),fun _=>⟨⟨fun h0=>?_,fun h0=>?_⟩,fun x hx=>?_⟩⟩⟩
  ·exact ⟨dom,⟨rfl,fun _ _=>rfl⟩,⟨rfl,fun _ _=>rfl⟩,rfl,fun _=>rfl,fun _ _=>rfl,trivial⟩
  ·have h0:g=0:=of_decide_eq_true h0
   subst h0
   refine ⟨(dom,[⟨0,0⟩]),rfl,rfl,rfl,⟨rfl,fun i hi=>?_⟩,fun _=>rfl,fun _ _=>rfl,rfl,⟨rfl,fun _ _=>rfl⟩,rfl,⟨by rw [tab_0];rfl,show 1 <= 1000000 by decide⟩⟩
   have hi:i<1:=hi
   obtain rfl:i=0:=by omega
   rfl
  ·have h0:¬ g=0:=of_decide_eq_false h0
   have hg1:1 <= g:=by omega
   refine ⟨iK,fun h1=>?_,fun h1=>?_⟩
   ·have h1:L.isOne g=true:=h1
    obtain ⟨ge,gi⟩:=grp_one hg1 hg15 h1
    have gn:=ix1_lt hw4 hg1 hga h1
    refine ⟨⟨0,rfl,Nat.zero_le _⟩,fun k hk=>⟨Int.natCast_nonneg _,fun hc=>?_,fun hc=>?_⟩⟩
    ·have hc:1<L.ishr g k:=of_decide_eq_true hc
     have hlt:k<L.ix1 g:=by rw [ge] at hc;exact (shr_one gi hk).1 hc
     exact ⟨iK,k+1,rfl,rfl,rfl,rfl,⟨rfl,fun _ _=>rfl⟩,rfl,⟨rfl,fun _ _=>rfl⟩,rfl,fun _=>rfl,fun _ _=>rfl,hlt,by omega⟩
    ·have hc:¬ 1<L.ishr g k:=of_decide_eq_false hc
     have hke:k=L.ix1 g:=by
      rcases Nat.lt_or_ge k (L.ix1 g) with h | h
      ·exact absurd (by rw [ge];exact (shr_one gi hk).2 h) hc
      ·omega
     subst hke
     have e1:((L.ix1 g:Nat):Int).toNat=L.ix1 g:=Int.toNat_natCast _
     have kn:0 <= ((L.ix1 g:Nat):Int)/\((L.ix1 g:Nat):Int)<(w.n:Int):=⟨Int.natCast_nonneg _,by omega⟩
     refine ⟨⟨0,rfl,⟨rfl,fun i hi=>absurd hi (Nat.not_lt_zero _)⟩,Nat.zero_le _⟩,fun t ht=>⟨fun hlt=>?_,fun hge=>?_⟩⟩
     ·have hlt:(t:Int)<2:=of_decide_eq_true hlt
      have ht2:t<2:=by omega
      have hl:(L.sqS (L.oneK w gr (L.ix1 g) t)).n <= 2:=by
       show (L.oneK w gr (L.ix1 g) t).length <= 2
       unfold L.oneK
       rw [List.length_map]
       exact Nat.le_trans (List.length_filter_le _ _) (by rw [List.length_take];exact Nat.min_le_right _ _)
      have nx:=oneK_next w gr (L.ix1 g) ht2
      rw [e1]
      refine ⟨kn,trivial,fun ha=>⟨kn,?_⟩,fun ha=>?_⟩
      ·have ha:L.alw (w.g (L.ix1 g)).grain gr t=true:=ha
       rw [if_pos ha] at nx
       have leaf:=row_app (r:=fun _=>L.szC (L.box (w.g (L.ix1 g)).ol t)) nx (fun i hi=>by
        have hi:i<1:=hi
        obtain rfl:i=0:=by omega
        rfl)
       have pb:(∀ i,i<(w.g (L.ix1 g)).ol.n -> [SV.int .i64 ((w.g (L.ix1 g)).ol.g i).x,SV.int .i64 ((w.g (L.ix1 g)).ol.g i).y] = [SV.int .i64 ((w.g (L.ix1 g)).ol.g i).x,SV.int .i64 ((w.g (L.ix1 g)).ol.g i).y])/\(w.g (L.ix1 g)).ol.n <= 1000000:=⟨fun _ _=>rfl,hwl _ gn⟩
       have sz:((L.sqS (L.oneK w gr (L.ix1 g) t)).n+1) * 16 <= 140737488355328:=by omega
       exact ⟨⟨pb,sz,iK,t+1,rfl,rfl,rfl,rfl,rfl,leaf,rfl,⟨rfl,fun _ _=>rfl⟩,rfl,fun _=>rfl,fun _ _=>rfl,by omega,by omega⟩,pb,⟨sz,iK,t+1,rfl,rfl,rfl,rfl,rfl,leaf,rfl,⟨rfl,fun _ _=>rfl⟩,rfl,fun _=>rfl,fun _ _=>rfl,by omega,by omega⟩,⟨sz,iK,t+1,rfl,rfl,rfl,rfl,rfl,leaf,rfl,⟨rfl,fun _ _=>rfl⟩,rfl,fun _=>rfl,fun _ _=>rfl,by omega,by omega⟩⟩
      ·have ha:L.alw (w.g (L.ix1 g)).grain gr t=false:=ha
       rw [if_neg (by rw [ha];decide),List.append_nil] at nx
       exact ⟨iK,t+1,rfl,rfl,rfl,rfl,rfl,row_eq nx.symm,rfl,⟨rfl,fun _ _=>rfl⟩,rfl,fun _=>rfl,fun _ _=>rfl,by omega,by omega⟩
     ·have hge:¬ (t:Int)<2:=of_decide_eq_false hge
      obtain rfl:t=2:=by omega
      have eC:L.oneK w gr (L.ix1 g) 2=L.oneC w gr (L.ix1 g):=rfl
      exact ⟨(dom,L.oneK w gr (L.ix1 g) 2),rfl,rfl,rfl,⟨rfl,fun _ _=>rfl⟩,fun _=>rfl,fun _ _=>rfl,rfl,⟨rfl,fun _ _=>rfl⟩,rfl,⟨by rw [tab_1 w gr hg1 hg15 h1,eC],by have:=oneC_len w gr (L.ix1 g);show (L.oneC w gr (L.ix1 g)).length <= 1000000;omega⟩⟩
   ·have h1:L.isOne g=false:=h1
    obtain ⟨hp0,hpt⟩:=grp_prt hg1 hg15 h1
    refine ⟨trivial,⟨⟨hg0,hg15⟩,dom,⟨rfl,fun i hi=>absurd hi (Nat.not_lt_zero _)⟩,fun _=>rfl,fun _ _=>rfl,rfl,⟨rfl,fun _ _=>rfl⟩,rfl,Nat.zero_le _⟩,fun k d vk hk _=>?_,fun d _=>?_⟩
    ·obtain ⟨p1,p2,p3,p4,p5⟩:=hpt k hk
     refine ⟨(w,gr,d,L.part g k),rfl,rfl,⟨rfl,fun _ _=>rfl⟩,rfl,fun _=>rfl,fun _ _=>rfl,⟨⟨⟨hw4,hwl⟩,Int.le_of_lt p1,by show L.part g k <= L.all w.n;omega⟩,by show (L.part g k).toNat<rn;omega⟩,fun u _=>⟨⟨(0,u,k),rfl,row_eq (acA_0 w gr g k).symm,fun _=>rfl,fun _ _=>rfl,rfl,Nat.zero_le _,hk⟩,fun x hx=>?_⟩⟩
     obtain ⟨i,d1,k'⟩:=x
     obtain ⟨hk1,hi,hk2⟩:=hx
     obtain rfl:=part_inj hg1 hg15 h1 hk hk2 hk1
     have hi:i <= (L.tabF w gr (L.part g k)).n:=hi
     refine ⟨fun hc=>?_,fun hc=>?_⟩
     ·have hc:(i:Int)<((L.tabF w gr (L.part g k)).n:Int):=of_decide_eq_true hc
      have hiA:i<(L.tabF w gr (L.part g k)).n:=by omega
      refine ⟨⟨Int.natCast_nonneg _,hc⟩,(w,gr,d1,L.cmp_ g k),rfl,rfl,⟨rfl,fun _ _=>rfl⟩,rfl,fun _=>rfl,fun _ _=>rfl,⟨⟨⟨hw4,hwl⟩,Int.le_of_lt p3,by show L.cmp_ g k <= L.all w.n;omega⟩,by show (L.cmp_ g k).toNat<rn;omega⟩,fun u1 _=>⟨⟨(0,k,i),rfl,row_eq (acB_0 w gr g k i).symm,rfl,rfl,Nat.zero_le _,hk⟩,fun y hy=>?_⟩⟩
      obtain ⟨j,k2,i2⟩:=y
      obtain ⟨hk3,hi2,hj,hk4⟩:=hy
      obtain rfl:=part_inj hg1 hg15 h1 hk hk4 hk3
      have hi2:(i:Int)=(i2:Int):=hi2
      obtain rfl:i=i2:=by omega
      have hj:j <= (L.tabF w gr (L.cmp_ g k)).n:=hj
      refine ⟨fun hb=>?_,fun hb=>?_⟩
      ·have hb:(j:Int)<((L.tabF w gr (L.cmp_ g k)).n:Int):=of_decide_eq_true hb
       have hjB:j<(L.tabF w gr (L.cmp_ g k)).n:=by omega
       have bA:=(tab_okI w gr (Int.le_of_lt p1) (by omega)).bd _ (tabF_mem hiA)
       have bB:=(tab_okI w gr (Int.le_of_lt p3) (by omega)).bd _ (tabF_mem hjB)
       have ei:((i:Nat):Int).toNat=i:=Int.toNat_natCast i
       have ej:((j:Nat):Int).toNat=j:=Int.toNat_natCast j
       have hl:=(acA_len w gr hg1 hg15 h1 (i:=i) (j:=j) hk).1
       rw [ei,ej]
       refine ⟨⟨Int.natCast_nonneg _,hb⟩,iK (by show _ <= ((L.tabF w gr (L.part g k)).g i).w+((L.tabF w gr (L.cmp_ g k)).g j).w;omega) (by show ((L.tabF w gr (L.part g k)).g i).w+((L.tabF w gr (L.cmp_ g k)).g j).w <= _;omega),iK (by show _ <= ((L.tabF w gr (L.part g k)).g i).h+((L.tabF w gr (L.cmp_ g k)).g j).h;omega) (by show ((L.tabF w gr (L.part g k)).g i).h+((L.tabF w gr (L.cmp_ g k)).g j).h <= _;omega),
        by show ((L.acB w gr g k i j).length+2) * 16 <= 140737488355328;omega,iK (by show _ <= (j:Int)+1;omega) (by show (j:Int)+1 <= _;have:=tab_len_le w gr (Int.le_of_lt p3) (show L.cmp_ g k <= 15 by omega);have hj2:j <= (L.tab w gr (L.cmp_ g k)).length:=hj;omega),(j+1,k,i),rfl,rfl,⟨rfl,fun _ _=>rfl⟩,rfl,rfl,rfl,⟨rfl,fun _ _=>rfl⟩,rfl,rfl,rfl,rfl,rfl,rfl,rfl,?_,rfl,rfl,fun _=>rfl,fun _ _=>rfl,rfl,⟨rfl,fun _ _=>rfl⟩,rfl,⟨rfl,rfl,hjB,hk⟩,by show (L.tabF w gr (L.cmp_ g k)).n - (j+1)<(L.tabF w gr (L.cmp_ g k)).n - j;omega⟩
       exact row_app (acB_next w gr g k i hjB) (fun q hq=>by
        have hq:q<2:=hq
        have:q=0\/q=1:=by omega
        rcases this with rfl | rfl <;> rfl)
      ·have hb:¬ (j:Int)<((L.tabF w gr (L.cmp_ g k)).n:Int):=of_decide_eq_false hb
       obtain rfl:j=(L.tabF w gr (L.cmp_ g k)).n:=by omega
       refine ⟨iK (by show _ <= (i:Int)+1;omega) (by show (i:Int)+1 <= _;have:=tab_len_le w gr (Int.le_of_lt p1) (show L.part g k <= 15 by omega);have hi2:i <= (L.tab w gr (L.part g k)).length:=hi;omega),(i+1,u1,k),rfl,rfl,⟨rfl,fun _ _=>rfl⟩,rfl,rfl,rfl,rfl,rfl,rfl,rfl,row_eq (acB_all w gr g k hiA),fun _=>rfl,fun _ _=>rfl,rfl,⟨rfl,fun _ _=>rfl⟩,rfl,⟨rfl,hiA,hk⟩,by show (L.tabF w gr (L.part g k)).n - (i+1)<(L.tabF w gr (L.part g k)).n - i;omega⟩
     ·have hc:¬ (i:Int)<((L.tabF w gr (L.part g k)).n:Int):=of_decide_eq_false hc
      obtain rfl:i=(L.tabF w gr (L.part g k)).n:=by omega
      have hl:=(acA_len w gr hg1 hg15 h1 (i:=(L.tabF w gr (L.part g k)).n) (j:=0) hk).2.1
      exact ⟨((L.sqS (L.acA w gr g k (L.tabF w gr (L.part g k)).n)).n,(L.sqS (L.acA w gr g k (L.tabF w gr (L.part g k)).n)).g),⟨rfl,fun _ _=>rfl⟩,by show (L.acA w gr g k (L.tabF w gr (L.part g k)).n).length <= 1000000;omega,fun u hu=>⟨d1,rfl,rfl,rfl,rfl,rfl,rfl,scan_row hu (acA_all w gr g k),fun _=>rfl,fun _ _=>rfl,rfl,⟨rfl,fun _ _=>rfl⟩,rfl,hk⟩⟩
    ·exact ⟨(d,L.acc w gr g (L.partN g)),rfl,rfl,rfl,⟨rfl,fun _ _=>rfl⟩,fun _=>rfl,fun _ _=>rfl,rfl,⟨rfl,fun _ _=>rfl⟩,rfl,acc_last w gr hg1 hg15 h1⟩
  ·obtain ⟨d,X⟩:=x
   obtain ⟨hX1,hX2⟩:=hx
   refine ⟨?_,fun e he=>⟨fun _=>⟨e,⟨rfl,fun _ _=>rfl⟩,⟨rfl,fun _ _=>rfl⟩,rfl,fun _=>rfl,fun _ _=>rfl,trivial⟩,fun h=>?_⟩⟩
   ·repeat' apply And.intro
    all_goals exact ⟨((L.sqS X).n,(L.sqS X).g),⟨rfl,fun _ _=>rfl⟩,hX2,fun u hu=>⟨scan_row hu hX1,fun x=>decide (x=g) || d x,rfl,rfl,fun _=>rfl,fun _ _=>rfl,rfl,⟨rfl,fun _ _=>rfl⟩,rfl,by show (decide (g=g) || d g)=true;simp⟩⟩
   ·have he:e g=true:=he
    rw [he] at h;cases h)
theorem c_sizes_en:Enters Tryz.prog 64:=fun args w=>by kernel_rfl
theorem c_sizes_mok:MkOk Tryz.prog 64 c_sizes_mk:=mk_rec c_sizes_mu ⟨fun t=>rfl,fun t u=>rfl,fun t u=>rfl,fun t u=>⟨rfl,rfl,rfl⟩,.inl rfl,fun k h=>(by cases h)⟩ (fun rn ih=>mk_ok (n:=2) Tryz.func64 (c:=bodyOf Tryz.f64) (by kernel_rfl) mixed ⟨fun t=>rfl,fun t=>rfl,fun t u=>rfl,fun t u=>rfl,fun t u=>rfl,fun t u=>⟨rfl,rfl⟩,by kernel_rfl,by kernel_rfl⟩ (fun ⟨w,gr,dom,g⟩ hp=>⟨_,c_sizes_vc rn w gr dom g hp.1 hp.2,⟨show SpecsL Tryz.prog _ from (SpecsL.cons c_parts_ok c_parts_en (SpecsL.cons c_allowed_ok c_allowed_en (SpecsL.cons c_boxOf_ok c_boxOf_en SpecsL.nil))),rfl,⟨show ItersL Tryz.prog _ from (ItersL.cons c_parts1_itok c_parts1_en ItersL.nil),⟨TrsOk.no1 (fun _=>rfl),⟨show MksL Tryz.prog _ from (MksL.cons c_minimal_mok c_minimal_en (MksL.cons ih c_sizes_en MksL.nil)),FamsOk.none (fun _=>rfl)⟩⟩⟩⟩⟩))
end
end Go.Proofs.YtpgaejicfbpcmaaGreat
namespace Go.Proofs.YtpgaejicfbpcmaaGreat
open Go.SE Go.RowKit
set_option maxRecDepth 100000
set_option maxHeartbeats 4000000
set_option linter.unusedVariables false
attribute [local irreducible] vc
def L.fitsB (x r:L.Size):Bool:=bif decide (x.w <= r.w) then decide (x.h <= r.h) else false
def L.roomB (w:L.Sq L.Want) (gr g:Int) (r:L.Size):Bool:=L.anyB (L.tabF w gr g).n fun i=>L.fitsB ((L.tabF w gr g).g i) r
def L.badAt (v:Nat->Bool) (id:Nat->Int) (i:Nat):Bool:=bif !v i then true else bif decide (0<(i:Int)) then decide (id i <= id (i - 1)) else false
def L.vWants (w:L.Sq L.Want):Bool:=L.allB w.n fun i=>!L.badAt (fun i=>L.vWant (w.g i)) (fun i=>(w.g i).id) i
def L.vSheets (s:L.Sq L.Sheet):Bool:=L.allB s.n fun i=>!L.badAt (fun i=>L.vSheet (s.g i)) (fun i=>(s.g i).id) i
def L.badE (w:L.Sq L.Want) (s:L.Sq L.Sheet) (right:Bool):Int:=bif !L.vWants w then 50 else bif (bif !L.vSheets s then true else !right) then 1 else bif (bif decide (7<(w.n:Int)) then true else decide (7<(s.n:Int))) then 2 else 0
def L.preW (w:L.Sq L.Want):Prop:=(w.n <= 4\/7<w.n)/\w.n <= 1000000 /\ ∀ i,i<w.n->(w.g i).ol.n <= 1000000
def L.noSh:L.Sq L.Sheet:=⟨0,fun _=>⟨0,0,0,0,0⟩⟩
def L.oneSh (s:L.Sheet):L.Sq L.Sheet:=⟨1,fun _=>s⟩
def L.szE (w:L.Sq L.Want) (gr:Int):Int:=L.badE w L.noSh (L.within gr 0 2)
def L.szN (w:L.Sq L.Want) (gr:Int):Nat:=bif decide (L.szE w gr=0) then (L.tabF w gr (L.all w.n)).n else 0
def L.fitE (w:L.Sq L.Want) (s:L.Sheet):Int:=L.badE w (L.oneSh s) true
def L.fitB (w:L.Sq L.Want) (s:L.Sheet):Bool:=bif decide (L.fitE w s=0) then L.roomB w s.grain (L.all w.n) ⟨s.w,s.h⟩ else false
theorem not_all_of {n i:Nat} {f:Nat->Bool} (hi:i<n) (h:f i=false):L.allB n f=false:=allB_false hi h
theorem badE_0 {w:L.Sq L.Want} {s:L.Sq L.Sheet} {b:Bool} (h:L.badE w s b=0):L.vWants w=true/\L.vSheets s=true/\b=true/\w.n <= 7/\s.n <= 7:=by
 unfold L.badE at h
 cases h1:L.vWants w
 ·rw [h1] at h;simp at h
 ·cases h2:L.vSheets s
  ·rw [h1,h2] at h;simp at h
  ·cases b
   ·rw [h1,h2] at h;simp at h
   ·rw [h1,h2] at h
    refine ⟨rfl,rfl,rfl,?_⟩
    by_cases h3:(7:Int)<w.n
    ·simp [h3] at h
    ·by_cases h4:(7:Int)<s.n
     ·simp [h4] at h
     ·omega
theorem okW_of {w:L.Sq L.Want} (h:L.preW w) (h7:w.n <= 7):L.okW w:=⟨by have:=h.1;omega,h.2.2⟩
def s_idxFS_p (l:(L.Sq L.Size)) (p:FSpec):Prop:=l.n <= 1000000 /\ ∀ i,i<l.n->p.pre [(.agg [.int .i64 ((l.g i).w),.int .i64 ((l.g i).h)])]
def s_idxFS_r (l:(L.Sq L.Size)) (p:FSpec):SV:=.int .i64 (L.idx l.n (fun i=>L.fbl p [(.agg [.int .i64 ((l.g i).w),.int .i64 ((l.g i).h)])]))
def s_idxFS_s:List EV->Option (Prop × SV)
 | [.p (.sl 2 l_n l_g),.fn p]=>some ((∀ i,i<l_n->l_g i = [.int .i64 ((ofSize (l_g i)).w),.int .i64 ((ofSize (l_g i)).h)])/\isB p/\s_idxFS_p (⟨l_n,fun i=>ofSize (l_g i)⟩:(L.Sq L.Size)) p,s_idxFS_r (⟨l_n,fun i=>ofSize (l_g i)⟩:(L.Sq L.Size)) p)
 | _=>none
abbrev s_idxFS_S:SE.Spec:=(specO s_idxFS_s)
def s_idxFS_C:Cfg:={ muts:=[],frz:=lookN [],specs:=lookS [],loops:=fun _=>none,iters:=lookI [],rfs:=lookR [],nils:=lookM [] }
theorem s_idxFS_vc (l:(L.Sq L.Size)) (p:FSpec) (hp:s_idxFS_p l p):vc Tryz.prog ({ s_idxFS_C with loops:=lookL [(2,{ T:=Nat,keep:=[0,1,6,7],keepO:=[],chg:=fun i=>[(8,.p (.int .i64 i))],own:=fun _=>[],inv:=fun i=>i <= l.n/\(∀ j,j<i->L.fbl p [(.agg [.int .i64 ((l.g j).w),.int .i64 ((l.g j).h)])]=false),mu:=fun i=>l.n - i })],rfs:=lookR [] }) (bodyOf Tryz.f161) (st0 Tryz.f161 [.p (.sl 2 l.n (fun i=>[.int .i64 ((l.g i).w),.int .i64 ((l.g i).h)])),.fn ⟨p.pre,fun xs=>.bool (L.fbl p xs)⟩]) (retFn Tryz.prog Tryz.f161 (s_idxFS_r l p)) :=
 @Eq.mpr _ (let I:=SV.int .i64;let T:=Int.toNat;let A4:=(↑l.n:Int);let A2:=(l.n=l.n /\ ∀ (i:Nat),let A5:=[I (l.g i).w,I (l.g i).h];i<l.n->A5=A5);(∃ (g:Nat),(0:Int)=(↑g:Int)/\g <= l.n /\ ∀ (j:Nat),j<g->L.fbl p [SV.agg [I (l.g j).w,I (l.g j).h]]=false) /\ ∀ (g:Nat),let A3:=(↑g:Int);let A1:=[SV.agg [I (l.g (T A3)).w,I (l.g (T A3)).h]];(g <= l.n /\ ∀ (j:Nat),j<g->L.fbl p [SV.agg [I (l.g j).w,I (l.g j).h]]=false)->(decide (A3<A4)=true->((0:Int) <= A3/\A3<A4)/\p.1 A1/\(L.fbl p A1=true->A3=L.idx l.n fun (i:Nat)=>L.fbl p [SV.agg [I (l.g i).w,I (l.g i).h]])/\(L.fbl p A1=false->InK .i64 (A3+(1:Int)) /\ ∃ (g':Nat),A3+(1:Int)=(↑g':Int)/\A4=A4/\A2/\A2/\((FSpec.mk p.pre fun (xs:List SV)=>SV.bool (L.fbl p xs))=FSpec.mk p.pre fun (xs:List SV)=>SV.bool (L.fbl p xs))/\(g' <= l.n /\ ∀ (j:Nat),j<g'->L.fbl p [SV.agg [I (l.g j).w,I (l.g j).h]]=false)/\l.n - g'<l.n - g))/\(decide (A3<A4)=false->(-1:Int)=L.idx l.n fun (i:Nat)=>L.fbl p [SV.agg [I (l.g i).w,I (l.g i).h]])) (by kernel_rfl) (by
 conv=>zeta
 obtain ⟨hn,hpre⟩:=hp
 refine ⟨⟨(0:Nat),rfl,Nat.zero_le _,fun j hj=>by omega⟩,fun g hg=>⟨fun hlt=>?_,fun hge=>?_⟩⟩
 ·have hb:(g:Int)<(l.n:Int):=by simpa using hlt
  have e0:((g:Int)).toNat=g:=by omega
  rw [e0]
  refine ⟨by omega,hpre g (by omega),fun h=>?_,fun h=>?_⟩
  ·exact (idx_at hg.2 h (by omega)).symm
  ·exact ⟨jK, g + 1, by omega, rfl, ⟨rfl, fun _ _ => rfl⟩, ⟨rfl, fun _ _ => rfl⟩, rfl, ⟨by omega, fun j hj => by
   rcases Nat.lt_succ_iff_lt_or_eq.1 hj with h' | rfl
   ·exact hg.2 j h'
   ·exact h⟩,by omega⟩
 ·have hb:¬ (g:Int)<(l.n:Int):=by simpa using hge
  exact (idx_none (fun j hj=>hg.2 j (by omega))).symm)
theorem s_idxFS_ok:SpecOk Tryz.prog 161 s_idxFS_S:=fnX Tryz.func161 (c:=bodyOf Tryz.f161) (by kernel_rfl) mixed (fun args p r hs hp=>by
 unfold s_idxFS_s at hs
 split at hs
 ·cases hs;exact ⟨_,_,s_idxFS_vc _ _ hp.2.2,(.p (.sl hp.1) (.fn (fun xs h=>⟨h,(fbl_res hp.2.1 h).symm⟩) .nil)),⟨show SpecsL Tryz.prog _ from SpecsL.nil,rfl,⟨show ItersL Tryz.prog _ from ItersL.nil,(TrsOk.none (fun _=>rfl))⟩⟩⟩
 ·cases hs)
theorem s_idxFS_en:Enters Tryz.prog 161:=fun args w=>by kernel_rfl
def s_conFS_p (l:(L.Sq L.Size)) (p:FSpec):Prop:=l.n <= 1000000 /\ ∀ i,i<l.n->p.pre [(.agg [.int .i64 ((l.g i).w),.int .i64 ((l.g i).h)])]
def s_conFS_r (l:(L.Sq L.Size)) (p:FSpec):SV:=.bool (L.anyB l.n (fun i=>L.fbl p [(.agg [.int .i64 ((l.g i).w),.int .i64 ((l.g i).h)])]))
def s_conFS_s:List EV->Option (Prop × SV)
 | [.p (.sl 2 l_n l_g),.fn p]=>some ((∀ i,i<l_n->l_g i = [.int .i64 ((ofSize (l_g i)).w),.int .i64 ((ofSize (l_g i)).h)])/\isB p/\s_conFS_p (⟨l_n,fun i=>ofSize (l_g i)⟩:(L.Sq L.Size)) p,s_conFS_r (⟨l_n,fun i=>ofSize (l_g i)⟩:(L.Sq L.Size)) p)
 | _=>none
abbrev s_conFS_S:SE.Spec:=(specO s_conFS_s)
def s_conFS_C:Cfg:={ cC with specs:=lookS [(161,s_idxFS_S)] }
theorem s_conFS_vc (l:(L.Sq L.Size)) (p:FSpec) (hp:s_conFS_p l p):vc Tryz.prog (s_conFS_C) (bodyOf Tryz.f118) (st0 Tryz.f118 [.p (.sl 2 l.n (fun i=>[.int .i64 ((l.g i).w),.int .i64 ((l.g i).h)])),.fn ⟨p.pre,fun xs=>.bool (L.fbl p xs)⟩]) (retFn Tryz.prog Tryz.f118 (s_conFS_r l p)) :=
 @Eq.mpr _ (let I:=SV.int .i64;let A1:=(FSpec.mk p.pre fun (xs:List SV)=>SV.bool (L.fbl p xs));((∀ (i:Nat),let A2:=[I (l.g i).w,I (l.g i).h];i<l.n->A2=A2)/\isB A1/\l.n <= (1000000:Nat) /\ ∀ (i:Nat),i<l.n->p.1 [SV.agg [I (l.g i).w,I (l.g i).h]])/\decide ((0:Int) <= L.idx l.n fun (i:Nat)=>L.fbl A1 [SV.agg [I (l.g i).w,I (l.g i).h]])=L.anyB l.n fun (i:Nat)=>L.fbl p [SV.agg [I (l.g i).w,I (l.g i).h]]) (by kernel_rfl) (by
 conv=>zeta
 refine ⟨⟨fun _ _=>rfl,fun xs _=>⟨_,rfl⟩,hp⟩,idx_any⟩)
theorem s_conFS_ok:SpecOk Tryz.prog 118 s_conFS_S:=fnX Tryz.func118 (c:=bodyOf Tryz.f118) (by kernel_rfl) mixed (fun args p r hs hp=>by
 unfold s_conFS_s at hs
 split at hs
 ·cases hs;exact ⟨_,_,s_conFS_vc _ _ hp.2.2,(.p (.sl hp.1) (.fn (fun xs h=>⟨h,(fbl_res hp.2.1 h).symm⟩) .nil)),⟨show SpecsL Tryz.prog _ from (SpecsL.cons s_idxFS_ok s_idxFS_en SpecsL.nil),rfl,⟨show ItersL Tryz.prog _ from ItersL.nil,(TrsOk.none (fun _=>rfl))⟩⟩⟩
 ·cases hs)
theorem s_conFS_en:Enters Tryz.prog 118:=fun args w=>by kernel_rfl
def c_room1_p (x:L.Size) (r:L.Size):Prop:=True
def c_room1_r (x:L.Size) (r:L.Size):SV:=.bool (L.fitsB x r)
def c_room1_s:List EV->Option (Prop × SV)
 | [.p (.agg [.int .i64 x_w,.int .i64 x_h]),.p (.ref [.int .i64 r_w,.int .i64 r_h] 0)]=>some (c_room1_p (⟨x_w,x_h⟩:L.Size) (⟨r_w,r_h⟩:L.Size),c_room1_r (⟨x_w,x_h⟩:L.Size) (⟨r_w,r_h⟩:L.Size))
 | _=>none
abbrev c_room1_S:SE.Spec:=(specO c_room1_s)
def c_room1_C:Cfg:={ muts:=[],frz:=lookN [],specs:=lookS [],loops:=lookL [],iters:=lookI [],rfs:=lookR [],nils:=lookM [] }
theorem c_room1_vc (x:L.Size) (r:L.Size) (hp:c_room1_p x r):vc Tryz.prog (c_room1_C) (bodyOf Tryz.f119) (st0 Tryz.f119 [.p (.agg [.int .i64 x.w,.int .i64 x.h]),.p (.ref [.int .i64 r.w,.int .i64 r.h] 0)]) (retFn Tryz.prog Tryz.f119 (c_room1_r x r)) :=
 @Eq.mpr _ ((bif decide (x.w <= r.w) then decide (x.h <= r.h) else false)=L.fitsB x r) (by kernel_rfl) (by
 rfl)
theorem c_room1_ok:SpecOk Tryz.prog 119 c_room1_S:=fnX Tryz.func119 (c:=bodyOf Tryz.f119) (by kernel_rfl) mixed (fun args p r hs hp=>by
 unfold c_room1_s at hs
 split at hs
 ·cases hs;exact ⟨_,_,c_room1_vc _ _ hp,(.same _ (.same _ .nil)),⟨show SpecsL Tryz.prog _ from SpecsL.nil,rfl,⟨show ItersL Tryz.prog _ from ItersL.nil,(TrsOk.none (fun _=>rfl))⟩⟩⟩
 ·cases hs)
theorem c_room1_en:Enters Tryz.prog 119:=fun args w=>by kernel_rfl
theorem c_room1_B:∀ args p r,c_room1_s args=some (p,r) -> ∃ b,r=.bool b:=by
 intro args p r h
 unfold c_room1_s at h
 split at h
 ·cases h;exact ⟨_,rfl⟩
 ·cases h
def c_validWants_p (w:(L.Sq L.Want)):Prop:=w.n <= 1000000 /\ ∀ i,i<w.n->(w.g i).ol.n <= 1000000
def c_validWants_r (w:(L.Sq L.Want)):SV:=.bool (L.vWants w)
def c_validWants_s:List EV->Option (Prop × SV)
 | [.p (.sl 4 w_n w_g)]=>some ((∀ i,i<w_n->okWant (w_g i))/\c_validWants_p (⟨w_n,fun i=>ofWant (w_g i)⟩:(L.Sq L.Want)),c_validWants_r (⟨w_n,fun i=>ofWant (w_g i)⟩:(L.Sq L.Want)))
 | _=>none
abbrev c_validWants_S:SE.Spec:=(specO c_validWants_s)
def c_validWants_C:Cfg:={ cC with specs:=lookS [(40,c_ValidWant_S)] }
theorem c_validWants_vc (w:(L.Sq L.Want)) (hp:c_validWants_p w):vc Tryz.prog ({ c_validWants_C with loops:=lookL [(2,{ T:=Nat,keep:=[0,5,6],keepO:=[],chg:=fun i=>[(7,.p (.int .i64 (i:Int)))],own:=fun _=>[],inv:=fun i=>i <= w.n /\ ∀ j,j<i->L.badAt (fun i=>L.vWant (w.g i)) (fun i=>(w.g i).id) j=false,mu:=fun i=>w.n - i })],rfs:=lookR [] }) (bodyOf Tryz.f112) (st0 Tryz.f112 [.p (.sl 4 w.n (fun i=>[.int .i64 ((w.g i).id),.int .i64 ((w.g i).colour),.int .i64 ((w.g i).grain),.sl 2 (w.g i).ol.n (fun i1=>[.int .i64 (((w.g i).ol.g i1).x),.int .i64 (((w.g i).ol.g i1).y)])]))]) (retFn Tryz.prog Tryz.f112 (c_validWants_r w)) :=
 @Eq.mpr _ (let I:=SV.int .i64;let T:=Int.toNat;let A11:=(0:Int);let A10:=(1:Int);let A8:=(↑w.n:Int);let A2:=(w.n=w.n /\ ∀ (i:Nat),let A5:=[I (w.g i).id,I (w.g i).colour,I (w.g i).grain,SV.sl (2:Nat) (w.g i).ol.n fun (i1:Nat)=>[I ((w.g i).ol.g i1).x,I ((w.g i).ol.g i1).y]];i<w.n->A5=A5);(∃ (g:Nat),A11=(↑g:Int)/\g <= w.n /\ ∀ (j:Nat),j<g->L.badAt (fun (i:Nat)=>L.vWant (w.g i)) (fun (i:Nat)=>(w.g i).id) j=false) /\ ∀ (g:Nat),let A6:=(↑g:Int);let A3:=(w.g (T A6));let A1:=(L.Want.mk A3.id A3.colour A3.grain (L.Sq.mk A3.ol.n fun (i:Nat)=>A3.ol.g i));let A7:=(!!L.vWant A1 && decide (A11<A6));let A4:=(bif !L.vWant A1 then true else bif decide (A11<A6) then decide (A3.id <= (w.g (T (A6 - A10))).id) else false);(g <= w.n /\ ∀ (j:Nat),j<g->L.badAt (fun (i:Nat)=>L.vWant (w.g i)) (fun (i:Nat)=>(w.g i).id) j=false)->(decide (A6<A8)=true->(A11 <= A6/\A6<A8)/\((∀ (i:Nat),let A9:=[I (A3.ol.g i).x,I (A3.ol.g i).y];i<A3.ol.n->A9=A9)/\A3.ol.n <= (1000000:Nat))/\(A7=true->InK .i64 (A6 - A10))/\(A7=true->A11 <= A6 - A10/\A6 - A10<A8)/\(A4=true->false=L.vWants w)/\(A4=false->InK .i64 (A6+A10) /\ ∃ (g':Nat),A6+A10=(↑g':Int)/\A8=A8/\A2/\A2/\(g' <= w.n /\ ∀ (j:Nat),j<g'->L.badAt (fun (i:Nat)=>L.vWant (w.g i)) (fun (i:Nat)=>(w.g i).id) j=false)/\w.n - g'<w.n - g))/\(decide (A6<A8)=false->true=L.vWants w)) (by kernel_rfl) (by
 conv=>zeta
 obtain ⟨hn,hol⟩:=hp
 refine ⟨⟨(0:Nat),rfl,Nat.zero_le _,fun j hj=>absurd hj (Nat.not_lt_zero _)⟩,fun g hg=>⟨fun hlt=>?_,fun hge=>?_⟩⟩
 ·have hb:(g:Int)<(w.n:Int):=of_decide_eq_true hlt
  have e0:((g:Int)).toNat=g:=Int.toNat_natCast g
  have e1:((g:Int) - 1).toNat=g - 1:=by omega
  rw [e0,e1]
  refine ⟨⟨Int.natCast_nonneg _,hb⟩,⟨fun _ _=>rfl,hol g (by omega)⟩,fun _=>jK,fun h=>?_,fun h=>?_,fun h=>?_⟩
  ·have:0<(g:Int):=of_decide_eq_true (Bool.and_eq_true_iff.1 h).2
   omega
  ·exact (not_all_of (i:=g) (f:=fun i=>!L.badAt (fun i=>L.vWant (w.g i)) (fun i=>(w.g i).id) i) (by omega) (by show (!_)=false;rw [show L.badAt (fun i=>L.vWant (w.g i)) (fun i=>(w.g i).id) g=true from h];rfl)).symm
  ·refine ⟨jK,g+1,rfl,rfl,⟨rfl,fun _ _=>rfl⟩,⟨rfl,fun _ _=>rfl⟩,⟨by omega,fun j hj=>?_⟩,by omega⟩
   rcases Nat.lt_succ_iff_lt_or_eq.1 hj with h' | rfl
   ·exact hg.2 j h'
   ·exact h
 ·have hb:¬ (g:Int)<(w.n:Int):=of_decide_eq_false hge
  exact (allB_iff.2 (fun i hi=>by show (!_)=true;rw [hg.2 i (by omega)];rfl)).symm)
theorem c_validWants_ok:SpecOk Tryz.prog 112 c_validWants_S:=fnX Tryz.func112 (c:=bodyOf Tryz.f112) (by kernel_rfl) mixed (fun args p r hs hp=>by
 unfold c_validWants_s at hs
 split at hs
 ·cases hs;exact ⟨_,_,c_validWants_vc _ hp.2,(.p (Want_ext hp.1) .nil),⟨show SpecsL Tryz.prog _ from (SpecsL.cons c_ValidWant_ok c_ValidWant_en SpecsL.nil),rfl,⟨show ItersL Tryz.prog _ from ItersL.nil,(TrsOk.none (fun _=>rfl))⟩⟩⟩
 ·cases hs)
theorem c_validWants_en:Enters Tryz.prog 112:=fun args w=>by kernel_rfl
def c_validSheets_p (s:(L.Sq L.Sheet)):Prop:=s.n <= 1000000
def c_validSheets_r (s:(L.Sq L.Sheet)):SV:=.bool (L.vSheets s)
def c_validSheets_s:List EV->Option (Prop × SV)
 | [.p (.sl 5 s_n s_g)]=>some ((∀ i,i<s_n->s_g i = [.int .i64 ((ofSheet (s_g i)).id),.int .i64 ((ofSheet (s_g i)).colour),.int .i64 ((ofSheet (s_g i)).w),.int .i64 ((ofSheet (s_g i)).h),.int .i64 ((ofSheet (s_g i)).grain)])/\c_validSheets_p (⟨s_n,fun i=>ofSheet (s_g i)⟩:(L.Sq L.Sheet)),c_validSheets_r (⟨s_n,fun i=>ofSheet (s_g i)⟩:(L.Sq L.Sheet)))
 | _=>none
abbrev c_validSheets_S:SE.Spec:=(specO c_validSheets_s)
def c_validSheets_C:Cfg:={ cC with specs:=lookS [(41,c_ValidSheet_S)] }
theorem c_validSheets_vc (s:(L.Sq L.Sheet)) (hp:c_validSheets_p s):vc Tryz.prog ({ c_validSheets_C with loops:=lookL [(2,{ T:=Nat,keep:=[0,5,6],keepO:=[],chg:=fun i=>[(7,.p (.int .i64 (i:Int)))],own:=fun _=>[],inv:=fun i=>i <= s.n /\ ∀ j,j<i->L.badAt (fun i=>L.vSheet (s.g i)) (fun i=>(s.g i).id) j=false,mu:=fun i=>s.n - i })],rfs:=lookR [] }) (bodyOf Tryz.f113) (st0 Tryz.f113 [.p (.sl 5 s.n (fun i=>[.int .i64 ((s.g i).id),.int .i64 ((s.g i).colour),.int .i64 ((s.g i).w),.int .i64 ((s.g i).h),.int .i64 ((s.g i).grain)]))]) (retFn Tryz.prog Tryz.f113 (c_validSheets_r s)) :=
  @Eq.mpr _ (let I:=SV.int .i64;let T:=Int.toNat;let A8:=(0:Int);let A7:=(1:Int);let A6:=(↑s.n:Int);let A2:=(s.n=s.n /\ ∀ (i:Nat),let A4:=[I (s.g i).id,I (s.g i).colour,I (s.g i).w,I (s.g i).h,I (s.g i).grain];i<s.n->A4=A4);(∃ (g:Nat),A8=(↑g:Int)/\g <= s.n /\ ∀ (j:Nat),j<g->L.badAt (fun (i:Nat)=>L.vSheet (s.g i)) (fun (i:Nat)=>(s.g
 i).id) j=false) /\ ∀ (g:Nat),let A3:=(↑g:Int);let A9:=(s.g (T A3));let A5:=(!!L.vSheet A9 && decide (A8<A3));let A1:=(bif !L.vSheet A9 then true else bif decide (A8<A3) then decide (A9.id <= (s.g (T (A3 - A7))).id) else false);(g <= s.n /\ ∀ (j:Nat),j<g->L.badAt (fun (i:Nat)=>L.vSheet (s.g i)) (fun (i:Nat)=>(s.g i).id) j =
 false)->(decide (A3<A6)=true->(A8 <= A3/\A3<A6)/\True/\(A5=true->InK .i64 (A3 - A7))/\(A5=true->A8 <= A3 - A7/\A3 - A7<A6)/\(A1=true->false=L.vSheets s)/\(A1=false->InK .i64 (A3+A7) /\ ∃ (g':Nat),A3+A7=(↑g':Int)/\A6=A6/\A2/\A2/\(g' <= s.n /\ ∀ (j:Nat),j<g'->L.badAt (fun (i
:Nat)=>L.vSheet (s.g i)) (fun (i:Nat)=>(s.g i).id) j=false)/\s.n - g'<s.n - g))/\(decide (A3<A6)=false->true=L.vSheets s)) (by kernel_rfl) (by
 conv=>zeta
 have hn:s.n <= 1000000:=hp
 refine ⟨⟨(0:Nat),rfl,Nat.zero_le _,fun j hj=>absurd hj (Nat.not_lt_zero _)⟩,fun g hg=>⟨fun hlt=>?_,fun hge=>?_⟩⟩
 ·have hb:(g:Int)<(s.n:Int):=of_decide_eq_true hlt
  have e0:((g:Int)).toNat=g:=Int.toNat_natCast g
  have e1:((g:Int) - 1).toNat=g - 1:=by omega
  rw [e0,e1]
  refine ⟨⟨Int.natCast_nonneg _,hb⟩,trivial,fun _=>jK,fun h=>?_,fun h=>?_,fun h=>?_⟩
  ·have:0<(g:Int):=of_decide_eq_true (Bool.and_eq_true_iff.1 h).2
   omega
  ·exact (not_all_of (i:=g) (f:=fun i=>!L.badAt (fun i=>L.vSheet (s.g i)) (fun i=>(s.g i).id) i) (by omega) (by show (!_)=false;rw [show L.badAt (fun i=>L.vSheet (s.g i)) (fun i=>(s.g i).id) g=true from h];rfl)).symm
  ·refine ⟨jK,g+1,rfl,rfl,⟨rfl,fun _ _=>rfl⟩,⟨rfl,fun _ _=>rfl⟩,⟨by omega,fun j hj=>?_⟩,by omega⟩
   rcases Nat.lt_succ_iff_lt_or_eq.1 hj with h' | rfl
   ·exact hg.2 j h'
   ·exact h
 ·have hb:¬ (g:Int)<(s.n:Int):=of_decide_eq_false hge
  exact (allB_iff.2 (fun i hi=>by show (!_)=true;rw [hg.2 i (by omega)];rfl)).symm)
theorem c_validSheets_ok:SpecOk Tryz.prog 113 c_validSheets_S:=fnX Tryz.func113 (c:=bodyOf Tryz.f113) (by kernel_rfl) mixed (fun args p r hs hp=>by
 unfold c_validSheets_s at hs
 split at hs
 ·cases hs;exact ⟨_,_,c_validSheets_vc _ hp.2,(.p (.sl hp.1) .nil),⟨show SpecsL Tryz.prog _ from (SpecsL.cons c_ValidSheet_ok c_ValidSheet_en SpecsL.nil),rfl,⟨show ItersL Tryz.prog _ from ItersL.nil,(TrsOk.none (fun _=>rfl))⟩⟩⟩
 ·cases hs)
theorem c_validSheets_en:Enters Tryz.prog 113:=fun args w=>by kernel_rfl
def c_bad_p (w:(L.Sq L.Want)) (s:(L.Sq L.Sheet)) (r:Bool):Prop:=w.n <= 1000000/\(∀ i,i<w.n->(w.g i).ol.n <= 1000000)/\s.n <= 1000000
def c_bad_r (w:(L.Sq L.Want)) (s:(L.Sq L.Sheet)) (r:Bool):SV:=.int .i64 (L.badE w s r)
def c_bad_s:List EV->Option (Prop × SV)
 | [.p (.sl 4 w_n w_g),.p (.sl 5 s_n s_g),.p (.bool r)]=>some ((∀ i,i<w_n->okWant (w_g i))/\(∀ i,i<s_n->s_g i = [.int .i64 ((ofSheet (s_g i)).id),.int .i64 ((ofSheet (s_g i)).colour),.int .i64 ((ofSheet (s_g i)).w),.int .i64 ((ofSheet (s_g i)).h),.int .i64 ((ofSheet (s_g i)).grain)])/\c_bad_p (⟨w_n,fun i=>ofWant (w_g i)⟩:(L.Sq L.Want)) (⟨s_n,fun i=>ofSheet (s_g i)⟩:(L.Sq L.Sheet)) r,c_bad_r (⟨w_n,fun i=>ofWant (w_g i)⟩:(L.Sq L.Want)) (⟨s_n,fun i=>ofSheet (s_g i)⟩:(L.Sq L.Sheet)) r)
 | _=>none
abbrev c_bad_S:SE.Spec:=(specO c_bad_s)
def c_bad_C:Cfg:={ cC with specs:=lookS [(112,c_validWants_S),(113,c_validSheets_S)] }
theorem c_bad_vc (w:(L.Sq L.Want)) (s:(L.Sq L.Sheet)) (r:Bool) (hp:c_bad_p w s r):vc Tryz.prog (c_bad_C) (bodyOf Tryz.f60) (st0 Tryz.f60 [.p (.sl 4 w.n (fun i=>[.int .i64 ((w.g i).id),.int .i64 ((w.g i).colour),.int .i64 ((w.g i).grain),.sl 2 (w.g i).ol.n (fun i1=>[.int .i64 (((w.g i).ol.g i1).x),.int .i64 (((w.g i).ol.g i1).y)])])),.p (.sl 5 s.n (fun i=>[.int .i64 ((s.g i).id),.int .i64 ((s.g i).colour),.int .i64 ((s.g i).w),.int .i64 ((s.g i).h),.int .i64 ((s.g i).grain)])),.p (.bool r)]) (retFn Tryz.prog Tryz.f60 (c_bad_r w s r)) :=
 @Eq.mpr _ (let I:=SV.int .i64;let A6:=(1000000:Nat);let A4:=(bif !L.vSheets (L.Sq.mk s.n fun (i:Nat)=>s.g i) then true else !r);let A2:=(bif decide ((7:Int)<(↑w.n:Int)) then true else decide ((7:Int)<(↑s.n:Int)));let A1:=(!L.vWants (L.Sq.mk w.n fun (i:Nat)=>L.Want.mk (w.g i).id (w.g i).colour (w.g i).grain (L.Sq.mk (w.g i).ol.n fun (i_1:Nat)=>(w.g i).ol.g i_1)));((∀ (i:Nat),i<w.n -> ∀ (i_1:Nat),let A5:=((w.g i).ol.g i_1);i_1<(w.g i).ol.n -> [I A5.x,I A5.y] = [I A5.x,I A5.y])/\w.n <= A6 /\ ∀ (i:Nat),i<w.n->(w.g i).ol.n <= A6)/\(A1=true->(50:Int)=L.badE w s r)/\(A1=false->((∀ (i:Nat),let A3:=[I (s.g i).id,I (s.g i).colour,I (s.g i).w,I (s.g i).h,I (s.g i).grain];i<s.n->A3=A3)/\s.n <= A6)/\(A4=true->(1:Int)=L.badE w s r)/\(A4=false->(A2=true->(2:Int)=L.badE w s r)/\(A2=false->(0:Int)=L.badE w s r)))) (by kernel_rfl) (by
 conv=>zeta
 obtain ⟨hn,hol,hs⟩:=hp
 refine ⟨⟨fun _ _ _ _=>rfl,hn,hol⟩,fun h=>?_,fun h=>⟨⟨fun _ _=>rfl,hs⟩,fun h2=>?_,fun h2=>⟨fun h3=>?_,fun h3=>?_⟩⟩⟩
 ·have h:(!L.vWants w)=true:=h
  unfold L.badE;rw [h];rfl
 all_goals have h:(!L.vWants w)=false:=h
 ·unfold L.badE;rw [h,h2];rfl
 ·unfold L.badE;rw [h,h2,h3];rfl
 ·unfold L.badE;rw [h,h2,h3];rfl)
theorem c_bad_ok:SpecOk Tryz.prog 60 c_bad_S:=fnX Tryz.func60 (c:=bodyOf Tryz.f60) (by kernel_rfl) mixed (fun args p r hs hp=>by
 unfold c_bad_s at hs
 split at hs
 ·cases hs;exact ⟨_,_,c_bad_vc _ _ _ hp.2.2,(.p (Want_ext hp.1) (.p (.sl hp.2.1) (.same _ .nil))),⟨show SpecsL Tryz.prog _ from (SpecsL.cons c_validWants_ok c_validWants_en (SpecsL.cons c_validSheets_ok c_validSheets_en SpecsL.nil)),rfl,⟨show ItersL Tryz.prog _ from ItersL.nil,(TrsOk.none (fun _=>rfl))⟩⟩⟩
 ·cases hs)
theorem c_bad_en:Enters Tryz.prog 60:=fun args w=>by kernel_rfl
def s_cloneS_p (l:(L.Sq L.Size)):Prop:=l.n <= 1000000
def s_cloneS_q (l:(L.Sq L.Size)):Nat->Prop:=fun _=>True
def s_cloneS_n (l:(L.Sq L.Size)):Nat->Nat:=fun _=>l.n
def s_cloneS_g (l:(L.Sq L.Size)):Nat->Nat->List SV:=fun _ i=>[.int .i64 ((l.g i).w),.int .i64 ((l.g i).h)]
def s_cloneS_s:List EV->Option (Prop × (Nat->Prop) × (Nat->Nat) × (Nat->Nat->List SV))
 | [.p (.sl 2 l_n l_g)]=>some ((∀ i,i<l_n->l_g i = [.int .i64 ((ofSize (l_g i)).w),.int .i64 ((ofSize (l_g i)).h)])/\s_cloneS_p (⟨l_n,fun i=>ofSize (l_g i)⟩:(L.Sq L.Size)),s_cloneS_q (⟨l_n,fun i=>ofSize (l_g i)⟩:(L.Sq L.Size)),s_cloneS_n (⟨l_n,fun i=>ofSize (l_g i)⟩:(L.Sq L.Size)),s_cloneS_g (⟨l_n,fun i=>ofSize (l_g i)⟩:(L.Sq L.Size)))
 | _=>none
abbrev s_cloneS_S:SE.Spec:=(specF Nat 0 43 2 s_cloneS_s)
def s_cloneS_C:Cfg:={ cC with muts:=[5] }
theorem s_cloneS_vc (l:(L.Sq L.Size)) (hp:s_cloneS_p l):vc Tryz.prog (s_cloneS_C) (bodyOf Tryz.f63) (st0 Tryz.f63 [.p (.sl 2 l.n (fun i=>[.int .i64 ((l.g i).w),.int .i64 ((l.g i).h)]))]) (retFresh Tryz.prog Tryz.f63 (Nat) (s_cloneS_q l) 43 2 (s_cloneS_n l) (s_cloneS_g l)) :=
 @Eq.mpr _ (∀ (b:Bool),(b = !false->l.n=(0:Nat))->(b=true -> ∃ (t:Nat),l.n=(0:Nat)/\True)/\(b=false->(nat_lit 0+l.n) * nat_lit 16 <= (140737488355328:Nat) /\ ∃ (t:Nat),(nat_lit 0+l.n=l.n /\ ∀ (i:Nat),i<nat_lit 0+l.n->appGet (nat_lit 0) (rowsOf [] (nat_lit 2)) (fun (i:Nat)=>[SV.int .i64 (l.g i).w,SV.int .i64 (l.g i).h]) i = [SV.int .i64 (l.g i).w,SV.int .i64 (l.g i).h])/\True)) (by kernel_rfl) (by
 have hn:l.n <= 1000000:=hp
 refine fun b hb=>⟨fun h=>⟨(0:Nat),hb h,trivial⟩,fun h=>⟨show (0+l.n) * 16 <= 140737488355328 by omega,(0:Nat),⟨Nat.zero_add _,fun i hi=>?_⟩,trivial⟩⟩
 unfold appGet;rw [if_neg (Nat.not_lt_zero _)];rfl)
theorem s_cloneS_ok:SpecOk Tryz.prog 63 s_cloneS_S:=freshX Tryz.func63 (c:=bodyOf Tryz.f63) (by kernel_rfl) mixed (fun args p q n g hs hp=>by
 unfold s_cloneS_s at hs
 split at hs
 ·cases hs;exact ⟨_,_,s_cloneS_vc _ hp.2,(.p (.sl hp.1) .nil),⟨show SpecsL Tryz.prog _ from SpecsL.nil,rfl,⟨show ItersL Tryz.prog _ from ItersL.nil,(TrsOk.none (fun _=>rfl))⟩⟩⟩
 ·cases hs)
theorem s_cloneS_en:Enters Tryz.prog 63:=fun args w=>by kernel_rfl
abbrev c_room_mk:Mk:={ T:=(L.Sq L.Want) × (Int) × (Int->Bool) × (Int) × (L.Size),U:=Int->Bool,args:=fun t=>(fun w gr dom g r=>[.loc 1000 0,.p (.int .i64 g),.p ((.agg [.int .i64 r.w,.int .i64 r.h]))]) t.1 t.2.1 t.2.2.1 t.2.2.2.1 t.2.2.2.2,lkeys:=[1000,1001],keys:=[],lent:=fun t=>(fun w gr dom g r=>[(1000,.blk 162 [.p ((.sl 4 w.n (fun i=>[.int .i64 ((w.g i).id),.int .i64 ((w.g i).colour),.int .i64 ((w.g i).grain),.sl 2 (w.g i).ol.n (fun i1=>[.int .i64 (((w.g i).ol.g i1).x),.int .i64 (((w.g i).ol.g i1).y)])]))),.p (.int .i64 gr),.mapv 1001]),(1001,.mq 3 27 dom (L.memo (L.tabF w gr)))]) t.1 t.2.1 t.2.2.1 t.2.2.2.1 t.2.2.2.2,pre:=fun t=>(fun w gr dom g r=>L.okW w/\0 <= g/\g <= L.all w.n) t.1 t.2.1 t.2.2.1 t.2.2.2.1 t.2.2.2.2,post:=fun t u=>(fun w gr dom g r=>fun u=>True) t.1 t.2.1 t.2.2.1 t.2.2.2.1 t.2.2.2.2 u,lent':=fun t u=>(fun w gr dom g r=>fun u=>[(1000,.blk 162 [.p ((.sl 4 w.n (fun i=>[.int .i64 ((w.g i).id),.int .i64 ((w.g i).colour),.int .i64 ((w.g i).grain),.sl 2 (w.g i).ol.n (fun i1=>[.int .i64 (((w.g i).ol.g i1).x),.int .i64 (((w.g i).ol.g i1).y)])]))),.p (.int .i64 gr),.mapv 1001]),(1001,.mq 3 27 u (L.memo (L.tabF w gr)))]) t.1 t.2.1 t.2.2.1 t.2.2.2.1 t.2.2.2.2 u,own:=fun t u=>(fun w gr dom g r=>fun u=>[]) t.1 t.2.1 t.2.2.1 t.2.2.2.1 t.2.2.2.2 u,res:=fun t u=>(fun w gr dom g r=>fun u=>.p (.bool (L.roomB w gr g r))) t.1 t.2.1 t.2.2.1 t.2.2.2.1 t.2.2.2.2 u }
theorem c_room_vc (w:L.Sq L.Want) (gr:Int) (dom:Int->Bool) (g:Int) (r:L.Size) (hp:c_room_mk.pre (w,gr,dom,g,r)):vc Tryz.prog ({ cC with specs:=lookS [(118,s_conFS_S),(119,c_room1_S)],mks:=lookK [(64,c_sizes_mk)],ren:=fun k=>k }) (bodyOf Tryz.f69) (stTr Tryz.f69 (c_room_mk.args (w,gr,dom,g,r)) (c_room_mk.lent (w,gr,dom,g,r))) (retMk Tryz.prog Tryz.f69 c_room_mk (w,gr,dom,g,r)) :=
 @Eq.mpr _ (let I:=SV.int .i64;let A7:=(2:Nat);let A3:=[SV.ref [I (w,gr,dom,g,r).snd.snd.snd.snd.w,I (w,gr,dom,g,r).snd.snd.snd.snd.h] (nat_lit 0)];let A1:=(FSpec.mk (fun («as»:List SV)=>preO c_room1_s (List.map EV.p «as» ++ List.map EV.p A3)) fun («as»:List SV)=>resO c_room1_s (List.map EV.p «as» ++ List.map EV.p A3));∃ (t:L.Sq L.Want × Int × (Int->Bool) × Int),let A2:=(L.tabF t.1 t.2.1 t.snd.2.2);nat_lit 0=(0:Nat)/\g=t.snd.2.2/\(w.n=t.1.n /\ ∀ (i:Nat),let A4:=(t.1.g i);i<w.n -> [I (w.g i).id,I (w.g i).colour,I (w.g i).grain,SV.sl A7 (w.g i).ol.n fun (i1:Nat)=>[I ((w.g i).ol.g i1).x,I ((w.g i).ol.g i1).y]] = [I A4.id,I A4.colour,I A4.grain,SV.sl A7 A4.ol.n fun (i1:Nat)=>[I (A4.ol.g i1).x,I (A4.ol.g i1).y]])/\gr=t.2.1/\(∀ (x:Int),dom x=t.snd.2.1 x)/\(∀ (x:Int),dom x=true->L.memo (L.tabF w gr) x=L.memo (L.tabF t.1 t.2.1) x)/\(L.okW t.1/\(0:Int) <= t.snd.2.2/\t.snd.2.2 <= L.all t.1.n) /\ ∀ (u:Int->Bool),True->((∀ (i:Nat),let A6:=[I (A2.g i).w,I (A2.g i).h];i<A2.n->A6=A6)/\isB A1/\A2.n <= (1000000:Nat) /\ ∀ (i:Nat),i<A2.n->True) /\ ∃ (u_1:Int->Bool),(L.anyB A2.n fun (i:Nat)=>L.fbl A1 [SV.agg [I (A2.g i).w,I (A2.g i).h]])=L.roomB w gr g r/\(t.1.n=w.n /\ ∀ (i:Nat),let A5:=(t.1.g i);i<t.1.n -> [I A5.id,I A5.colour,I A5.grain,SV.sl A7 A5.ol.n fun (i1:Nat)=>[I (A5.ol.g i1).x,I (A5.ol.g i1).y]] = [I (w.g i).id,I (w.g i).colour,I (w.g i).grain,SV.sl A7 (w.g i).ol.n fun (i1:Nat)=>[I ((w.g i).ol.g i1).x,I ((w.g i).ol.g i1).y]])/\t.2.1=gr/\(∀ (x:Int),u x=u_1 x)/\(∀ (x:Int),u x=true->L.memo (L.tabF t.1 t.2.1) x=L.memo (L.tabF w gr) x)/\True) (by kernel_rfl) (by
 conv=>zeta
 have hp:L.okW w/\0 <= g/\g <= L.all w.n:=hp
 have hl:(L.tab w gr g).length <= 1000000:=Nat.le_trans (tab_len_le w gr hp.2.1 (Int.le_trans hp.2.2 (all_15 hp.1.1))) (by decide)
 exact ⟨(w,gr,dom,g),rfl,rfl,⟨rfl,fun _ _=>rfl⟩,rfl,fun _=>rfl,fun _ _=>rfl,hp,fun u _=>⟨⟨fun _ _=>rfl,isB_of c_room1_B _,hl,fun _ _=>trivial⟩,u,rfl,⟨rfl,fun _ _=>rfl⟩,rfl,fun _=>rfl,fun _ _=>rfl,trivial⟩⟩)
theorem c_room_en:Enters Tryz.prog 69:=fun args w=>by kernel_rfl
theorem c_room_mok:MkOk Tryz.prog 69 c_room_mk:=mk_ok (n:=3) Tryz.func69 (c:=bodyOf Tryz.f69) (by kernel_rfl) mixed ⟨fun t=>rfl,fun t=>rfl,fun t u=>rfl,fun t u=>rfl,fun t u=>rfl,fun t u=>⟨rfl,rfl⟩,by kernel_rfl,by kernel_rfl⟩ (fun ⟨w,gr,dom,g,r⟩ hp=>⟨_,c_room_vc w gr dom g r hp,⟨show SpecsL Tryz.prog _ from (SpecsL.cons s_conFS_ok s_conFS_en (SpecsL.cons c_room1_ok c_room1_en SpecsL.nil)),rfl,⟨show ItersL Tryz.prog _ from ItersL.nil,⟨TrsOk.no1 (fun _=>rfl),⟨show MksL Tryz.prog _ from (MksL.cons c_sizes_mok c_sizes_en MksL.nil),FamsOk.none (fun _=>rfl)⟩⟩⟩⟩⟩)
def c_Sizes_p (w:(L.Sq L.Want)) (gr:Int):Prop:=L.preW w
def c_Sizes_r (w:(L.Sq L.Want)) (gr:Int):SV:=.tup [.sl 2 (L.szN w gr) (fun k=>[.int .i64 (((L.tabF w gr (L.all w.n)).g k).w),.int .i64 (((L.tabF w gr (L.all w.n)).g k).h)]),.int .i64 (L.szE w gr)]
def c_Sizes_s:List EV->Option (Prop × SV)
 | [.p (.sl 4 w_n w_g),.p (.int .i64 gr)]=>some ((∀ i,i<w_n->okWant (w_g i))/\c_Sizes_p (⟨w_n,fun i=>ofWant (w_g i)⟩:(L.Sq L.Want)) gr,c_Sizes_r (⟨w_n,fun i=>ofWant (w_g i)⟩:(L.Sq L.Want)) gr)
 | _=>none
abbrev c_Sizes_S:SE.Spec:=(specO c_Sizes_s)
def c_Sizes_C:Cfg:={ cC with specs:=lookS [(61,c_within_S),(60,c_bad_S),(63,s_cloneS_S)],mks:=lookK [(62,c_shapesOf_mk),(65,c_full_mk),(64,c_sizes_mk)],ren:=fun k=>if k=1000 then 9 else if k=1001 then 7 else k }
theorem c_Sizes_vc (w:(L.Sq L.Want)) (gr:Int) (hp:c_Sizes_p w gr):vc Tryz.prog (c_Sizes_C) (bodyOf Tryz.f14) (st0 Tryz.f14 [.p (.sl 4 w.n (fun i=>[.int .i64 ((w.g i).id),.int .i64 ((w.g i).colour),.int .i64 ((w.g i).grain),.sl 2 (w.g i).ol.n (fun i1=>[.int .i64 (((w.g i).ol.g i1).x),.int .i64 (((w.g i).ol.g i1).y)])])),.p (.int .i64 gr)]) (retFn Tryz.prog Tryz.f14 (c_Sizes_r w gr)) :=
 @Eq.mpr _ (let I:=SV.int .i64;let A10:=(2:Nat);let A9:=(1000000:Nat);let A4:=(0:Int);let A16:=(L.within gr A4 (2:Int));let A5:=(L.Sq.mk (nat_lit 0) fun (i:Nat)=>L.Sheet.mk A4 A4 A4 A4 A4);let A3:=(L.Sq.mk w.n fun (i:Nat)=>L.Want.mk (w.g i).id (w.g i).colour (w.g i).grain (L.Sq.mk (w.g i).ol.n fun (i_1:Nat)=>(w.g i).ol.g i_1));let A1:=(!decide (L.badE A3 A5 A16=A4));True/\((∀ (i:Nat),i<w.n -> ∀ (i_1:Nat),let A6:=((w.g i).ol.g i_1);i_1<(w.g i).ol.n -> [I A6.x,I A6.y] = [I A6.x,I A6.y])/\(∀ (i:Nat),i<nat_lit 0 -> [] = [I A4,I A4,I A4,I A4,I A4])/\w.n <= A9/\(∀ (i:Nat),i<w.n->(w.g i).ol.n <= A9)/\nat_lit 0 <= A9)/\(A1=true->L.szN w gr=(0:Nat)/\L.badE A3 A5 A16=L.szE w gr)/\(A1=false -> ∃ (t:L.Sq L.Want × Int × (Int->L.Sq L.Size)),(w.n=t.1.n /\ ∀ (i:Nat),let A11:=(t.1.g i);i<w.n -> [I (w.g i).id,I (w.g i).colour,I (w.g i).grain,SV.sl A10 (w.g i).ol.n fun (i1:Nat)=>[I ((w.g i).ol.g i1).x,I ((w.g i).ol.g i1).y]] = [I A11.id,I A11.colour,I A11.grain,SV.sl A10 A11.ol.n fun (i1:Nat)=>[I (A11.ol.g i1).x,I (A11.ol.g i1).y]])/\gr=t.2.1/\True /\ ∀ (u:Nat),True -> ∃ (t_1:L.Sq L.Want × Int × (Int->L.Sq L.Size) × (Int->Bool)),nat_lit 0=(0:Nat)/\(t.1.n=t_1.1.n /\ ∀ (i:Nat),let A12:=(t.1.g i);let A7:=(t_1.1.g i);i<t.1.n -> [I A12.id,I A12.colour,I A12.grain,SV.sl A10 A12.ol.n fun (i1:Nat)=>[I (A12.ol.g i1).x,I (A12.ol.g i1).y]] = [I A7.id,I A7.colour,I A7.grain,SV.sl A10 A7.ol.n fun (i1:Nat)=>[I (A7.ol.g i1).x,I (A7.ol.g i1).y]])/\t.2.1=t_1.2.1/\(∀ (x:Int),false=t_1.snd.2.2 x)/\(∀ (x:Int),false=true->L.memo t.2.2 x=L.memo t_1.snd.2.1 x)/\t_1.1.n <= (4:Nat) /\ ∀ (u:Nat),True -> ∃ (t:L.Sq L.Want × Int × (Int->Bool) × Int),let A2:=(L.tabF t.1 t.2.1 t.snd.2.2);nat_lit 0=(0:Nat)/\L.all t_1.1.n=t.snd.2.2/\(t_1.1.n=t.1.n /\ ∀ (i:Nat),let A13:=(t.1.g i);let A8:=(t_1.1.g i);i<t_1.1.n -> [I A8.id,I A8.colour,I A8.grain,SV.sl A10 A8.ol.n fun (i1:Nat)=>[I (A8.ol.g i1).x,I (A8.ol.g i1).y]] = [I A13.id,I A13.colour,I A13.grain,SV.sl A10 A13.ol.n fun (i1:Nat)=>[I (A13.ol.g i1).x,I (A13.ol.g i1).y]])/\t_1.2.1=t.2.1/\(∀ (x:Int),t_1.snd.2.2 x=t.snd.2.1 x)/\(∀ (x:Int),t_1.snd.2.2 x=true->L.memo t_1.snd.2.1 x=L.memo (L.tabF t.1 t.2.1) x)/\(L.okW t.1/\A4 <= t.snd.2.2/\t.snd.2.2 <= L.all t.1.n) /\ ∀ (u:Int->Bool),True->((∀ (i:Nat),let A15:=[I (A2.g i).w,I (A2.g i).h];i<A2.n->A15=A15)/\A2.n <= A9) /\ ∀ (t_2:Nat),True->(A2.n=L.szN w gr /\ ∀ (i:Nat),let A14:=((L.tabF w gr (L.all w.n)).g i);i<A2.n -> [I (A2.g i).w,I (A2.g i).h] = [I A14.w,I A14.h])/\A4=L.szE w gr)) (by kernel_rfl) (by
 conv=>zeta
 have hp:L.preW w:=hp
 refine ⟨trivial,⟨fun _ _ _ _=>rfl,fun i hi=>absurd hi (Nat.not_lt_zero _),hp.2.1,hp.2.2,Nat.zero_le _⟩,fun h=>?_,fun h=>?_⟩
 ·have h:¬ L.szE w gr=0:=of_decide_eq_false (notT h)
  exact ⟨by unfold L.szN;rw [decide_eq_false h];rfl,rfl⟩
 ·have h:L.szE w gr=0:=of_decide_eq_true (notF h)
  obtain ⟨-,-,-,h7,-⟩:=badE_0 h
  have ok:=okW_of hp h7
  have a15:=all_bd ok.1
  have hl:(L.tab w gr (L.all w.n)).length <= 1000000:=Nat.le_trans (tab_len_le w gr a15.1 a15.2.1) (by decide)
  exact ⟨(w,gr,L.tabF w gr),⟨rfl,fun _ _=>rfl⟩,rfl,trivial,fun _ _=>⟨(w,gr,L.tabF w gr,fun _=>false),rfl,⟨rfl,fun _ _=>rfl⟩,rfl,fun _=>rfl,fun _ _=>rfl,ok.1,fun _ _=>⟨(w,gr,(fun _=>false),L.all w.n),rfl,rfl,⟨rfl,fun _ _=>rfl⟩,rfl,fun _=>rfl,fun _ _=>rfl,⟨ok,a15.1,Int.le_refl _⟩,fun u _=>⟨⟨fun _ _=>rfl,hl⟩,fun _ _=>⟨⟨by unfold L.szN;rw [decide_eq_true h];rfl,fun _ _=>rfl⟩,h.symm⟩⟩⟩⟩⟩)
theorem c_Sizes_ok:SpecOk Tryz.prog 14 c_Sizes_S:=fnX Tryz.func14 (c:=bodyOf Tryz.f14) (by kernel_rfl) mixed (fun args p r hs hp=>by
 unfold c_Sizes_s at hs
 split at hs
 ·cases hs;exact ⟨_,_,c_Sizes_vc _ _ hp.2,(.p (Want_ext hp.1) (.same _ .nil)),⟨show SpecsL Tryz.prog _ from (SpecsL.cons c_within_ok c_within_en (SpecsL.cons c_bad_ok c_bad_en (SpecsL.cons s_cloneS_ok s_cloneS_en SpecsL.nil))),rfl,⟨show ItersL Tryz.prog _ from ItersL.nil,⟨TrsOk.no1 (fun _=>rfl),⟨show MksL Tryz.prog _ from (MksL.cons c_shapesOf_mok c_shapesOf_en (MksL.cons c_full_mok c_full_en (MksL.cons c_sizes_mok c_sizes_en MksL.nil))),FamsOk.none (fun _=>rfl)⟩⟩⟩⟩⟩
 ·cases hs)
theorem c_Sizes_en:Enters Tryz.prog 14:=fun args w=>by kernel_rfl
def c_FitsIn_p (w:(L.Sq L.Want)) (s:L.Sheet):Prop:=L.preW w
def c_FitsIn_r (w:(L.Sq L.Want)) (s:L.Sheet):SV:=.tup [.bool (L.fitB w s),.int .i64 (L.fitE w s)]
def c_FitsIn_s:List EV->Option (Prop × SV)
 | [.p (.sl 4 w_n w_g),.p (.agg [.int .i64 s_id,.int .i64 s_colour,.int .i64 s_w,.int .i64 s_h,.int .i64 s_grain])]=>some ((∀ i,i<w_n->okWant (w_g i))/\c_FitsIn_p (⟨w_n,fun i=>ofWant (w_g i)⟩:(L.Sq L.Want)) (⟨s_id,s_colour,s_w,s_h,s_grain⟩:L.Sheet),c_FitsIn_r (⟨w_n,fun i=>ofWant (w_g i)⟩:(L.Sq L.Want)) (⟨s_id,s_colour,s_w,s_h,s_grain⟩:L.Sheet))
 | _=>none
abbrev c_FitsIn_S:SE.Spec:=(specO c_FitsIn_s)
def c_FitsIn_C:Cfg:={ cC with specs:=lookS [(60,c_bad_S)],anys:=[1005],mks:=lookK [(62,c_shapesOf_mk),(65,c_full_mk),(69,c_room_mk)],ren:=fun k=>if k=1000 then 9 else if k=1001 then 7 else k }
theorem c_FitsIn_vc (w:(L.Sq L.Want)) (s:L.Sheet) (hp:c_FitsIn_p w s):vc Tryz.prog (c_FitsIn_C) (bodyOf Tryz.f16) (st0 Tryz.f16 [.p (.sl 4 w.n (fun i=>[.int .i64 ((w.g i).id),.int .i64 ((w.g i).colour),.int .i64 ((w.g i).grain),.sl 2 (w.g i).ol.n (fun i1=>[.int .i64 (((w.g i).ol.g i1).x),.int .i64 (((w.g i).ol.g i1).y)])])),.p (.agg [.int .i64 s.id,.int .i64 s.colour,.int .i64 s.w,.int .i64 s.h,.int .i64 s.grain])]) (retFn Tryz.prog Tryz.f16 (c_FitsIn_r w s)) :=
 @Eq.mpr _ (let I:=SV.int .i64;let A19:=(0:Nat);let A18:=(1000000:Nat);let A17:=(0:Int);let A11:=(L.Sq.mk (nat_lit 1) fun (i:Nat)=>s);let A6:=[I s.id,I s.colour,I s.w,I s.h,I s.grain];let A4:=(2:Nat);let A2:=(L.Sq.mk w.n fun (i:Nat)=>L.Want.mk (w.g i).id (w.g i).colour (w.g i).grain (L.Sq.mk (w.g i).ol.n fun (i_1:Nat)=>(w.g i).ol.g i_1));let A3:=(!decide (L.badE A2 A11 true=A17));((∀ (i:Nat),i<w.n -> ∀ (i_1:Nat),let A5:=((w.g i).ol.g i_1);i_1<(w.g i).ol.n -> [I A5.x,I A5.y] = [I A5.x,I A5.y])/\(∀ (i:Nat),i<nat_lit 1->A6=A6)/\w.n <= A18/\(∀ (i:Nat),i<w.n->(w.g i).ol.n <= A18)/\nat_lit 1 <= A18)/\(A3=true->false=L.fitB w s/\L.badE A2 A11 true=L.fitE w s)/\(A3=false -> ∃ (t:L.Sq L.Want × Int × (Int->L.Sq L.Size)),(w.n=t.1.n /\ ∀ (i:Nat),let A12:=(t.1.g i);i<w.n -> [I (w.g i).id,I (w.g i).colour,I (w.g i).grain,SV.sl A4 (w.g i).ol.n fun (i1:Nat)=>[I ((w.g i).ol.g i1).x,I ((w.g i).ol.g i1).y]] = [I A12.id,I A12.colour,I A12.grain,SV.sl A4 A12.ol.n fun (i1:Nat)=>[I (A12.ol.g i1).x,I (A12.ol.g i1).y]])/\s.grain=t.2.1/\True /\ ∀ (u:Nat),let A1:=(∃ (t_1:L.Sq L.Want × Int × (Int->L.Sq L.Size) × (Int->Bool)),nat_lit 0=A19/\(t.1.n=t_1.1.n /\ ∀ (i:Nat),let A13:=(t.1.g i);let A7:=(t_1.1.g i);i<t.1.n -> [I A13.id,I A13.colour,I A13.grain,SV.sl A4 A13.ol.n fun (i1:Nat)=>[I (A13.ol.g i1).x,I (A13.ol.g i1).y]] = [I A7.id,I A7.colour,I A7.grain,SV.sl A4 A7.ol.n fun (i1:Nat)=>[I (A7.ol.g i1).x,I (A7.ol.g i1).y]])/\t.2.1=t_1.2.1/\(∀ (x:Int),false=t_1.snd.2.2 x)/\(∀ (x:Int),false=true->L.memo t.2.2 x=L.memo t_1.snd.2.1 x)/\t_1.1.n <= (4:Nat) /\ ∀ (u:Nat),True -> ∃ (t:L.Sq L.Want × Int × (Int->Bool) × Int × L.Size),nat_lit 0=A19/\L.all t_1.1.n=t.snd.snd.2.1/\SV.agg [I s.w,I s.h]=SV.agg [I t.snd.snd.2.2.w,I t.snd.snd.2.2.h]/\(t_1.1.n=t.1.n /\ ∀ (i:Nat),let A14:=(t.1.g i);let A8:=(t_1.1.g i);i<t_1.1.n -> [I A8.id,I A8.colour,I A8.grain,SV.sl A4 A8.ol.n fun (i1:Nat)=>[I (A8.ol.g i1).x,I (A8.ol.g i1).y]] = [I A14.id,I A14.colour,I A14.grain,SV.sl A4 A14.ol.n fun (i1:Nat)=>[I (A14.ol.g i1).x,I (A14.ol.g i1).y]])/\t_1.2.1=t.2.1/\(∀ (x:Int),t_1.snd.2.2 x=t.snd.2.1 x)/\(∀ (x:Int),t_1.snd.2.2 x=true->L.memo t_1.snd.2.1 x=L.memo (L.tabF t.1 t.2.1) x)/\(L.okW t.1/\A17 <= t.snd.snd.2.1/\t.snd.snd.2.1 <= L.all t.1.n) /\ ∀ (u:Int->Bool),True->L.roomB t.1 t.2.1 t.snd.snd.2.1 t.snd.snd.2.2=L.fitB w s/\A17=L.fitE w s);True->A1/\A1/\A1/\A1/\A1/\A1/\A1/\A1/\A1 /\ ∃ (t_1:L.Sq L.Want × Int × (Int->L.Sq L.Size) × (Int->Bool)),nat_lit 0=A19/\(t.1.n=t_1.1.n /\ ∀ (i:Nat),let A15:=(t.1.g i);let A9:=(t_1.1.g i);i<t.1.n -> [I A15.id,I A15.colour,I A15.grain,SV.sl A4 A15.ol.n fun (i1:Nat)=>[I (A15.ol.g i1).x,I (A15.ol.g i1).y]] = [I A9.id,I A9.colour,I A9.grain,SV.sl A4 A9.ol.n fun (i1:Nat)=>[I (A9.ol.g i1).x,I (A9.ol.g i1).y]])/\t.2.1=t_1.2.1/\(∀ (x:Int),false=t_1.snd.2.2 x)/\(∀ (x:Int),false=true->L.memo t.2.2 x=L.memo t_1.snd.2.1 x)/\t_1.1.n <= (4:Nat) /\ ∀ (u:Nat),True -> ∃ (t:L.Sq L.Want × Int × (Int->Bool) × Int × L.Size),nat_lit 0=A19/\L.all t_1.1.n=t.snd.snd.2.1/\SV.agg [I s.w,I s.h]=SV.agg [I t.snd.snd.2.2.w,I t.snd.snd.2.2.h]/\(t_1.1.n=t.1.n /\ ∀ (i:Nat),let A16:=(t.1.g i);let A10:=(t_1.1.g i);i<t_1.1.n -> [I A10.id,I A10.colour,I A10.grain,SV.sl A4 A10.ol.n fun (i1:Nat)=>[I (A10.ol.g i1).x,I (A10.ol.g i1).y]] = [I A16.id,I A16.colour,I A16.grain,SV.sl A4 A16.ol.n fun (i1:Nat)=>[I (A16.ol.g i1).x,I (A16.ol.g i1).y]])/\t_1.2.1=t.2.1/\(∀ (x:Int),t_1.snd.2.2 x=t.snd.2.1 x)/\(∀ (x:Int),t_1.snd.2.2 x=true->L.memo t_1.snd.2.1 x=L.memo (L.tabF t.1 t.2.1) x)/\(L.okW t.1/\A17 <= t.snd.snd.2.1/\t.snd.snd.2.1 <= L.all t.1.n) /\ ∀ (u:Int->Bool),True->L.roomB t.1 t.2.1 t.snd.snd.2.1 t.snd.snd.2.2=L.fitB w s/\A17=L.fitE w s)) (by kernel_rfl) (by
 conv=>zeta
 have hp:L.preW w:=hp
 refine ⟨⟨fun _ _ _ _=>rfl,fun _ _=>rfl,hp.2.1,hp.2.2,by decide⟩,fun h=>?_,fun h=>?_⟩
 ·have h:¬ L.fitE w s=0:=of_decide_eq_false (notT h)
  exact ⟨by unfold L.fitB;rw [decide_eq_false h];rfl,rfl⟩
 ·have h:L.fitE w s=0:=of_decide_eq_true (notF h)
  obtain ⟨-,-,-,h7,-⟩:=badE_0 h
  have ok:=okW_of hp h7
  have a15:=all_bd ok.1
  have hb:L.roomB w s.grain (L.all w.n) ⟨s.w,s.h⟩=L.fitB w s:=by unfold L.fitB;rw [decide_eq_true h];rfl
  refine ⟨(w,s.grain,L.tabF w s.grain),⟨rfl,fun _ _=>rfl⟩,rfl,trivial,fun _ _=>?_⟩
  repeat' apply And.intro
  all_goals exact ⟨(w,s.grain,L.tabF w s.grain,fun _=>false),rfl,⟨rfl,fun _ _=>rfl⟩,rfl,fun _=>rfl,fun _ _=>rfl,ok.1,fun _ _=>⟨(w,s.grain,(fun _=>false),L.all w.n,⟨s.w,s.h⟩),rfl,rfl,rfl,⟨rfl,fun _ _=>rfl⟩,rfl,fun _=>rfl,fun _ _=>rfl,⟨ok,a15.1,Int.le_refl _⟩,fun u _=>⟨hb,h.symm⟩⟩⟩)
theorem c_FitsIn_ok:SpecOk Tryz.prog 16 c_FitsIn_S:=fnX Tryz.func16 (c:=bodyOf Tryz.f16) (by kernel_rfl) mixed (fun args p r hs hp=>by
 unfold c_FitsIn_s at hs
 split at hs
 ·cases hs;exact ⟨_,_,c_FitsIn_vc _ _ hp.2,(.p (Want_ext hp.1) (.same _ .nil)),⟨show SpecsL Tryz.prog _ from (SpecsL.cons c_bad_ok c_bad_en SpecsL.nil),rfl,⟨show ItersL Tryz.prog _ from ItersL.nil,⟨TrsOk.no1 (fun _=>rfl),⟨show MksL Tryz.prog _ from (MksL.cons c_shapesOf_mok c_shapesOf_en (MksL.cons c_full_mok c_full_en (MksL.cons c_room_mok c_room_en MksL.nil))),FamsOk.none (fun _=>rfl)⟩⟩⟩⟩⟩
 ·cases hs)
theorem c_FitsIn_en:Enters Tryz.prog 16:=fun args w=>by kernel_rfl
end Go.Proofs.YtpgaejicfbpcmaaGreat
namespace Go.Proofs.YtpgaejicfbpcmaaGreat
open Go.SE Go.RowKit
set_option maxRecDepth 100000
set_option maxHeartbeats 4000000
set_option linter.unusedVariables false
attribute [local irreducible] vc
structure L.Area where
 at_:L.Pt
 size:L.Size
structure L.Score where
 sheet:Int
 kind:Int
 want:Int
 pts:L.Sq L.Pt
structure L.Placed where
 want:Int
 sheet:Int
 turn:Int
 at_:L.Pt
def L.divA (r:L.Area) (up:Bool) (by_:Int):L.Area:=bif up then ⟨r.at_,⟨by_,r.size.h⟩⟩ else ⟨r.at_,⟨r.size.w,by_⟩⟩
def L.divB (r:L.Area) (up:Bool) (by_:Int):L.Area:=bif up then ⟨⟨r.at_.x+by_,r.at_.y⟩,⟨r.size.w - by_,r.size.h⟩⟩ else ⟨⟨r.at_.x,r.at_.y+by_⟩,⟨r.size.w,r.size.h - by_⟩⟩
def L.spA (r:L.Area) (up:Bool) (by_:Int):L.Pt:=bif up then ⟨r.at_.x+by_,r.at_.y⟩ else ⟨r.at_.x,r.at_.y+by_⟩
def L.spB (r:L.Area) (up:Bool) (by_:Int):L.Pt:=bif up then ⟨r.at_.x+by_,r.at_.y+r.size.h⟩ else ⟨r.at_.x+r.size.w,r.at_.y+by_⟩
def L.two2 (a b:L.Pt):L.Sq L.Pt:=⟨2,fun i=>bif decide (i=0) then a else b⟩
def L.splt (r:L.Area) (id:Int) (up:Bool) (by_:Int):L.Score:=⟨id,1,0,L.two2 (L.spA r up by_) (L.spB r up by_)⟩
def L.okA (r:L.Area):Prop:=0 <= r.at_.x/\0 <= r.at_.y/\0 <= r.size.w/\0 <= r.size.h/\r.at_.x+r.size.w <= 4096/\r.at_.y+r.size.h <= 4096
def L.dvW (r:L.Area):Nat:=(r.size.w - 1).toNat
def L.dvN (r:L.Area):Nat:=L.dvW r+(r.size.h - 1).toNat
def L.dvU (r:L.Area) (k:Nat):Bool:=decide (k<L.dvW r)
def L.dvI (r:L.Area) (k:Nat):Int:=bif L.dvU r k then (k:Int)+1 else ((k - L.dvW r:Nat):Int)+1
structure L.LS where
 pl:Nat->L.Placed
 sc:List L.Score
def L.sqC (l:List L.Score):L.Sq L.Score:=⟨l.length,fun i=>l.getD i ⟨0,0,0,⟨0,fun _=>⟨0,0⟩⟩⟩⟩
def L.scC (x:L.Score):List SV:=[.int .i64 x.sheet,.int .i64 x.kind,.int .i64 x.want,.sl 2 x.pts.n fun i=>[.int .i64 (x.pts.g i).x,.int .i64 (x.pts.g i).y]]
def L.fit0 (w:L.Sq L.Want) (gr:Int) (i:Nat) (r:L.Area) (t:Int):Bool:=bif (bif L.alw (w.g i).grain gr t then decide ((L.box (w.g i).ol t).w <= r.size.w) else false) then decide ((L.box (w.g i).ol t).h <= r.size.h) else false
def L.turnOf (w:L.Sq L.Want) (gr:Int) (i:Nat) (r:L.Area):Int:=bif L.fit0 w gr i r 0 then 0 else 1
def L.setP (P:Nat->L.Placed) (i:Nat) (x:L.Placed):Nat->L.Placed:=fun j=>if j=i then x else P j
def L.oneP (w:L.Sq L.Want) (sh:L.Sheet) (i:Nat) (r:L.Area) (P:Nat->L.Placed):Nat->L.Placed:=L.setP P i ⟨(w.g i).id,sh.id,L.turnOf w sh.grain i r,r.at_⟩
def L.snocC (S:List L.Score) (x:L.Score):List L.Score:=S ++ [x]
def L.oneB (w:L.Sq L.Want) (sh:L.Sheet) (i:Nat) (r:L.Area):L.Size:=L.box (w.g i).ol (L.turnOf w sh.grain i r)
def L.oneS1 (w:L.Sq L.Want) (sh:L.Sheet) (i:Nat) (r:L.Area) (S:List L.Score):List L.Score:=bif decide ((L.oneB w sh i r).w<r.size.w) then L.snocC S (L.splt r sh.id true (L.oneB w sh i r).w) else S
def L.oneR1 (w:L.Sq L.Want) (sh:L.Sheet) (i:Nat) (r:L.Area):L.Area:=bif decide ((L.oneB w sh i r).w<r.size.w) then L.divA r true (L.oneB w sh i r).w else r
def L.oneQ (w:L.Sq L.Want) (sh:L.Sheet) (i:Nat) (r:L.Area) (S:List L.Score):List L.Score:=bif decide ((L.oneB w sh i r).h<(L.oneR1 w sh i r).size.h) then L.snocC (L.oneS1 w sh i r S) (L.splt (L.oneR1 w sh i r) sh.id false (L.oneB w sh i r).h) else L.oneS1 w sh i r S
theorem sqC_same {X Y:List L.Score} (h:X=Y):(L.sqC X).n=(L.sqC Y).n /\ ∀ i,i<(L.sqC X).n->L.scC ((L.sqC X).g i)=L.scC ((L.sqC Y).g i):=by rw [h];exact ⟨rfl,fun _ _=>rfl⟩
theorem snocC_len (S:List L.Score) (x:L.Score):(L.snocC S x).length=S.length+1:=by unfold L.snocC;simp
theorem sqC_app {S Y:List L.Score} {x:L.Score} (h:L.snocC S x=Y) {r:Nat->List SV} (hr:r 0=L.scC x):(L.sqC S).n+1=(L.sqC Y).n /\ ∀ i,i<(L.sqC S).n+1->appGet (L.sqC S).n (fun k=>L.scC ((L.sqC S).g k)) r i=L.scC ((L.sqC Y).g i):=by
 subst h
 refine ⟨(snocC_len S x).symm,fun i hi=>?_⟩
 unfold appGet
 have hi:i<S.length+1:=hi
 by_cases e:i<(L.sqC S).n
 ·rw [if_pos e]
  have e':i<S.length:=e
  simp [L.sqC,L.snocC,List.getD_eq_getElem?_getD,List.getElem?_append_left e']
 ·rw [if_neg e]
  have e':¬ i<S.length:=e
  obtain rfl:i=S.length:=by omega
  rw [show S.length - (L.sqC S).n=0 from Nat.sub_self _,hr]
  simp [L.sqC,L.snocC,List.getD_eq_getElem?_getD]
theorem oneB_bd (w:L.Sq L.Want) (sh:L.Sheet) (i:Nat) (r:L.Area):0 <= (L.oneB w sh i r).w/\(L.oneB w sh i r).w <= 4096/\0 <= (L.oneB w sh i r).h/\(L.oneB w sh i r).h <= 4096:=by
 have hb:=box_bd (w.g i).ol
 have h3:(L.boxL (w.g i).ol).x <= (L.boxH (w.g i).ol).x/\(L.boxL (w.g i).ol).y <= (L.boxH (w.g i).ol).y:=by
  unfold L.boxL L.boxH
  cases hv:L.validOutline (w.g i).ol with
  | false=>simp
  | true =>
    obtain ⟨n3,_⟩:=validOutline_of hv
    have h1:=lowTo_le (l:=(w.g i).ol) (w.g i).ol.n 0 (by omega)
    have h2:=highTo_ge (l:=(w.g i).ol) (w.g i).ol.n 0 (by omega)
    simp only [cond_true];omega
 unfold L.oneB L.box
 cases decide (L.turnOf w sh.grain i r=1) <;> simp only [cond_true,cond_false] <;> omega
theorem okA_one (w:L.Sq L.Want) (sh:L.Sheet) (i:Nat) {r:L.Area} (hA:L.okA r):L.okA (L.oneR1 w sh i r):=by
 obtain ⟨b1,b2,b3,b4⟩:=oneB_bd w sh i r
 obtain ⟨h1,h2,h3,h4,h5,h6⟩:=hA
 unfold L.oneR1
 by_cases e:(L.oneB w sh i r).w<r.size.w
 ·rw [decide_eq_true e]
  refine ⟨h1,h2,b1,h4,?_,h6⟩
  show r.at_.x+(L.oneB w sh i r).w <= 4096
  omega
 ·rw [decide_eq_false e]
  exact ⟨h1,h2,h3,h4,h5,h6⟩
theorem oneS1_len (w:L.Sq L.Want) (sh:L.Sheet) (i:Nat) (r:L.Area) (S:List L.Score):(L.oneS1 w sh i r S).length <= S.length+1:=by
 unfold L.oneS1
 cases decide ((L.oneB w sh i r).w<r.size.w) <;> simp [snocC_len]
theorem InK64 {n:Int} (h : -9223372036854775808 <= n:=by omega) (k:n <= 9223372036854775807:=by omega):InK .i64 n:=⟨h,k⟩
def c_divided_p (r:L.Area) (up:Bool) (b:Int):Prop:=L.okA r/\0 <= b/\b <= 4096
def c_divided_r (r:L.Area) (up:Bool) (b:Int):SV:=.tup [(.agg [.int .i64 ((L.divA r up b).at_.x),.int .i64 ((L.divA r up b).at_.y),.int .i64 ((L.divA r up b).size.w),.int .i64 ((L.divA r up b).size.h)]),(.agg [.int .i64 ((L.divB r up b).at_.x),.int .i64 ((L.divB r up b).at_.y),.int .i64 ((L.divB r up b).size.w),.int .i64 ((L.divB r up b).size.h)])]
def c_divided_s:List EV->Option (Prop × SV)
 | [.p (.agg [.int .i64 r_at__x,.int .i64 r_at__y,.int .i64 r_size_w,.int .i64 r_size_h]),.p (.bool up),.p (.int .i64 b)]=>some (c_divided_p (⟨(⟨r_at__x,r_at__y⟩:L.Pt),(⟨r_size_w,r_size_h⟩:L.Size)⟩:L.Area) up b,c_divided_r (⟨(⟨r_at__x,r_at__y⟩:L.Pt),(⟨r_size_w,r_size_h⟩:L.Size)⟩:L.Area) up b)
 | _=>none
abbrev c_divided_S:SE.Spec:=(specO c_divided_s)
def c_divided_C:Cfg:={ cC with muts:=[6,7,8,9],anys:=[1009] }
theorem c_divided_vc (r:L.Area) (up:Bool) (b:Int) (hp:c_divided_p r up b):vc Tryz.prog (c_divided_C) (bodyOf Tryz.f164) (st0 Tryz.f164 [.p (.agg [.int .i64 r.at_.x,.int .i64 r.at_.y,.int .i64 r.size.w,.int .i64 r.size.h]),.p (.bool up),.p (.int .i64 b)]) (retFn Tryz.prog Tryz.f164 (c_divided_r r up b)) :=
 @Eq.mpr _ (let I:=SV.int .i64;let A8:=[I r.at_.x,I r.at_.y,I r.size.w,I b];let A7:=[I r.at_.x,I r.at_.y,I b,I r.size.h];let A6:=(L.divA r up b);let A5:=(L.divB r up b);let A4:=[I r.at_.x,I (r.at_.y+b),I r.size.w,I (r.size.h - b)];let A3:=[I (r.at_.x+b),I r.at_.y,I (r.size.w - b),I r.size.h];let A2:=[I A5.at_.x,I A5.at_.y,I A5.size.w,I A5.size.h];let A1:=[I A6.at_.x,I A6.at_.y,I A6.size.w,I A6.size.h];(up=true->InK .i64 (r.at_.x+b)/\InK .i64 (r.size.w - b)/\(SV.agg A7=SV.agg A1/\SV.agg A3=SV.agg A2)/\SV.agg A7=SV.agg A1/\SV.agg A3=SV.agg A2)/\(up=false->InK .i64 (r.at_.y+b)/\InK .i64 (r.size.h - b)/\(SV.agg A8=SV.agg A1/\SV.agg A4=SV.agg A2)/\SV.agg A8=SV.agg A1/\SV.agg A4=SV.agg A2)) (by kernel_rfl) (by
 conv=>zeta
 obtain ⟨⟨h1,h2,h3,h4,h5,h6⟩,hb,hb'⟩:=(show L.okA r/\0 <= b/\b <= 4096 from hp)
 exact ⟨fun h=>by subst h;exact ⟨InK64,InK64,⟨rfl,rfl⟩,rfl,rfl⟩,fun h=>by subst h;exact ⟨InK64,InK64,⟨rfl,rfl⟩,rfl,rfl⟩⟩)
theorem c_divided_ok:SpecOk Tryz.prog 164 c_divided_S:=fnX Tryz.func164 (c:=bodyOf Tryz.f164) (by kernel_rfl) mixed (fun args p r hs hp=>by
 unfold c_divided_s at hs
 split at hs
 ·cases hs;exact ⟨_,_,c_divided_vc _ _ _ hp,(.same _ (.same _ (.same _ .nil))),⟨show SpecsL Tryz.prog _ from SpecsL.nil,rfl,⟨show ItersL Tryz.prog _ from ItersL.nil,(TrsOk.none (fun _=>rfl))⟩⟩⟩
 ·cases hs)
theorem c_divided_en:Enters Tryz.prog 164:=fun args w=>by kernel_rfl
def c_divisions_p (r:L.Area):Prop:=True
def c_divisions_r (r:L.Area):SV:=.clo 190 [.ref [.int .i64 r.at_.x,.int .i64 r.at_.y,.int .i64 r.size.w,.int .i64 r.size.h] 0]
def c_divisions_s:List EV->Option (Prop × SV)
 | [.p (.agg [.int .i64 r_at__x,.int .i64 r_at__y,.int .i64 r_size_w,.int .i64 r_size_h])]=>some (c_divisions_p (⟨(⟨r_at__x,r_at__y⟩:L.Pt),(⟨r_size_w,r_size_h⟩:L.Size)⟩:L.Area),c_divisions_r (⟨(⟨r_at__x,r_at__y⟩:L.Pt),(⟨r_size_w,r_size_h⟩:L.Size)⟩:L.Area))
 | _=>none
abbrev c_divisions_S:SE.Spec:=(specO c_divisions_s)
def c_divisions_C:Cfg:={ muts:=[],frz:=lookN [],specs:=lookS [],loops:=lookL [],iters:=lookI [],rfs:=lookR [],nils:=lookM [] }
theorem c_divisions_vc (r:L.Area) (hp:c_divisions_p r):vc Tryz.prog (c_divisions_C) (bodyOf Tryz.f163) (st0 Tryz.f163 [.p (.agg [.int .i64 r.at_.x,.int .i64 r.at_.y,.int .i64 r.size.w,.int .i64 r.size.h])]) (retFn Tryz.prog Tryz.f163 (c_divisions_r r)) :=
 @Eq.mpr _ (let I:=SV.int .i64;let A1:=[SV.ref [I r.at_.x,I r.at_.y,I r.size.w,I r.size.h] (nat_lit 0)];SV.clo (nat_lit 190) A1=SV.clo (nat_lit 190) A1) (by kernel_rfl) (by
 conv=>zeta
 try rfl)
theorem c_divisions_ok:SpecOk Tryz.prog 163 c_divisions_S:=fnX Tryz.func163 (c:=bodyOf Tryz.f163) (by kernel_rfl) mixed (fun args p r hs hp=>by
 unfold c_divisions_s at hs
 split at hs
 ·cases hs;exact ⟨_,_,c_divisions_vc _ hp,(.same _ .nil),⟨show SpecsL Tryz.prog _ from SpecsL.nil,rfl,⟨show ItersL Tryz.prog _ from ItersL.nil,(TrsOk.none (fun _=>rfl))⟩⟩⟩
 ·cases hs)
theorem c_divisions_en:Enters Tryz.prog 163:=fun args w=>by kernel_rfl
def c_divs1_p (r:L.Area):Prop:=L.okA r
def c_divs1_n (r:L.Area):Nat:=L.dvN r
def c_divs1_i (r:L.Area):Nat->List SV:=fun k=>[.bool (L.dvU r k),.int .i64 (L.dvI r k)]
def c_divs1_ic:List SV->Option (Prop × Nat × (Nat->List SV))
 | [.ref [.int .i64 r_at__x,.int .i64 r_at__y,.int .i64 r_size_w,.int .i64 r_size_h] 0]=>some (c_divs1_p (⟨(⟨r_at__x,r_at__y⟩:L.Pt),(⟨r_size_w,r_size_h⟩:L.Size)⟩:L.Area),c_divs1_n (⟨(⟨r_at__x,r_at__y⟩:L.Pt),(⟨r_size_w,r_size_h⟩:L.Size)⟩:L.Area),c_divs1_i (⟨(⟨r_at__x,r_at__y⟩:L.Pt),(⟨r_size_w,r_size_h⟩:L.Size)⟩:L.Area))
 | _=>none
abbrev c_divs1_it:ItSpec:=itOf c_divs1_ic
def c_divs1_C:Cfg:={ muts:=[],frz:=lookN [],specs:=lookS [],loops:=fun _=>none,iters:=lookI [],rfs:=lookR [] }
theorem c_divs1_vc (yl:Nat) (r:L.Area) (hp:c_divs1_p r):vc Tryz.prog { c_divs1_C with loops:=lookL [(1,{ T:=Nat,keep:=[0,1],keepO:=[],chg:=fun i=>[(3,.p (.int .i64 ((i:Int)+1)))],own:=fun _=>[],inv:=fun i=>i <= L.dvW r,mu:=fun i=>L.dvW r - i,yk:=some (fun i=>i) }),(5,{ T:=Nat,keep:=[0,1],keepO:=[],chg:=fun i=>[(4,.p (.int .i64 ((i:Int)+1)))],own:=fun _=>[],inv:=fun i=>L.dvW r+i <= L.dvN r,mu:=fun i=>L.dvN r - i,yk:=some (fun i=>L.dvW r+i) })],yld:=some ⟨yl,c_divs1_n r,c_divs1_i r⟩ } (bodyOf Tryz.f190) (st0 Tryz.f190 (.yield yl :: ([.ref [.int .i64 r.at_.x,.int .i64 r.at_.y,.int .i64 r.size.w,.int .i64 r.size.h] 0]:List SV).map .p)) (retIt Tryz.prog Tryz.f190 (c_divs1_n r)) :=
 @Eq.mpr _ (let I:=SV.int .i64;let A7:=(nat_lit 0);let A3:=(1:Nat);let A4:=(true=true->L.dvN r+A3=L.dvN r\/L.dvN r+A3=L.dvN r+A3);let A2:=[I r.at_.x,I r.at_.y,I r.size.w,I r.size.h];let A1:=(1:Int);(∃ (g:Nat),nat_lit 0=g/\false=false/\A1=(↑g:Int)+A1/\g <= L.dvW r) /\ ∀ (g:Nat),let A6:=(↑g:Int);g <= L.dvW r->(decide (A6+A1<r.size.w)=true->yl=yl/\g<L.dvN r /\ [SV.bool true,I (A6+A1)] = [SV.bool (L.dvU r g),I (L.dvI r g)]/\((false=true->g+A3=L.dvN r\/g+A3=L.dvN r+A3)/\(false=false->InK .i64 (A6+A1+A1) /\ ∃ (g':Nat),g+A3=g'/\false=false/\A6+A1+A1=(↑g':Int)+A1/\yl=yl/\SV.ref A2 A7=SV.ref A2 A7/\g' <= L.dvW r/\L.dvW r - g'<L.dvW r - g))/\A4/\(true=false->InK .i64 (A6+A1+A1) /\ ∃ (g':Nat),L.dvN r+A3=g'/\false=false/\A6+A1+A1=(↑g':Int)+A1/\yl=yl/\False/\g' <= L.dvW r/\L.dvW r - g'<L.dvW r - g))/\(decide (A6+A1<r.size.w)=false->(∃ (g_1:Nat),g=L.dvW r+g_1/\false=false/\A1=(↑g_1:Int)+A1/\L.dvW r+g_1 <= L.dvN r) /\ ∀ (g_1:Nat),let A5:=(↑g_1:Int);L.dvW r+g_1 <= L.dvN r->(decide (A5+A1<r.size.h)=true->yl=yl/\L.dvW r+g_1<L.dvN r /\ [SV.bool false,I (A5+A1)] = [SV.bool (L.dvU r (L.dvW r+g_1)),I (L.dvI r (L.dvW r+g_1))]/\((false=true->L.dvW r+g_1+A3=L.dvN r\/L.dvW r+g_1+A3=L.dvN r+A3)/\(false=false->InK .i64 (A5+A1+A1) /\ ∃ (g':Nat),L.dvW r+g_1+A3=L.dvW r+g'/\false=false/\A5+A1+A1=(↑g':Int)+A1/\yl=yl/\SV.ref A2 A7=SV.ref A2 A7/\L.dvW r+g' <= L.dvN r/\L.dvN r - g'<L.dvN r - g_1))/\A4/\(true=false->InK .i64 (A5+A1+A1) /\ ∃ (g':Nat),L.dvN r+A3=L.dvW r+g'/\false=false/\A5+A1+A1=(↑g':Int)+A1/\yl=yl/\False/\L.dvW r+g' <= L.dvN r/\L.dvN r - g'<L.dvN r - g_1))/\(decide (A5+A1<r.size.h)=false->L.dvW r+g_1=L.dvN r\/L.dvW r+g_1=L.dvN r+A3))) (by kernel_rfl) (by
 conv=>zeta
 obtain ⟨h1,h2,h3,h4,h5,h6⟩:=(show L.okA r from hp)
 have eW:L.dvW r=(r.size.w - 1).toNat:=rfl
 have eN:L.dvN r=(r.size.w - 1).toNat+(r.size.h - 1).toNat:=rfl
 refine ⟨⟨0,rfl,rfl,rfl,Nat.zero_le _⟩,fun k hk=>⟨fun hc=>?_,fun hc=>?_⟩⟩
 ·have hc:(k:Int)+1<r.size.w:=of_decide_eq_true hc
  have hk:k <= L.dvW r:=hk
  have hlt:k<L.dvW r:=by omega
  have eU:L.dvU r k=true:=decide_eq_true hlt
  exact ⟨rfl,by omega,by unfold L.dvI;rw [eU];rfl,⟨(fun h=>by cases h),fun _=>⟨InK64,k+1,rfl,rfl,rfl,rfl,rfl,hlt,by omega⟩⟩,fun _=>.inr rfl,(fun h=>by cases h)⟩
 ·have hc:¬ (k:Int)+1<r.size.w:=of_decide_eq_false hc
  have hk:k <= L.dvW r:=hk
  refine ⟨⟨0,by omega,rfl,rfl,by omega⟩,fun j hj=>⟨fun hc=>?_,fun hc=>?_⟩⟩
  ·have hc:(j:Int)+1<r.size.h:=of_decide_eq_true hc
   have hj:L.dvW r+j <= L.dvN r:=hj
   have eU:L.dvU r (L.dvW r+j)=false:=decide_eq_false (by omega)
   exact ⟨rfl,by omega,by unfold L.dvI;rw [eU,Nat.add_sub_cancel_left];rfl,⟨(fun h=>by cases h),fun _=>⟨InK64,j+1,rfl,rfl,rfl,rfl,rfl,by omega,by omega⟩⟩,fun _=>.inr rfl,(fun h=>by cases h)⟩
  ·have hc:¬ (j:Int)+1<r.size.h:=of_decide_eq_false hc
   have hj:L.dvW r+j <= L.dvN r:=hj
   exact .inl (by omega))
theorem c_divs1_itok:ItOk Tryz.prog 190 c_divs1_it:=iterX Tryz.func190 (c:=bodyOf Tryz.f190) (by kernel_rfl) mixed (fun caps l p n g hs hp=>by
 unfold c_divs1_ic at hs
 split at hs
 ·cases hs;exact ⟨_,_,c_divs1_vc l _ hp,(.cons (Ext.refl _) .nil),rfl,show SpecsL Tryz.prog _ from SpecsL.nil,⟨show ItersL Tryz.prog _ from ItersL.nil,TrsOk.none (fun _=>rfl)⟩⟩
 ·cases hs)
theorem c_divs1_en:Enters Tryz.prog 190:=fun args w=>by kernel_rfl
def c_split_p (r:L.Area) (id:Int) (up:Bool) (b:Int):Prop:=L.okA r/\0 <= b/\b <= 4096
def c_split_r (r:L.Area) (id:Int) (up:Bool) (b:Int):SV:=(.agg [.int .i64 ((L.splt r id up b).sheet),.int .i64 ((L.splt r id up b).kind),.int .i64 ((L.splt r id up b).want),.sl 2 (L.splt r id up b).pts.n (fun i=>[.int .i64 (((L.splt r id up b).pts.g i).x),.int .i64 (((L.splt r id up b).pts.g i).y)])])
def c_split_s:List EV->Option (Prop × SV)
 | [.p (.agg [.int .i64 r_at__x,.int .i64 r_at__y,.int .i64 r_size_w,.int .i64 r_size_h]),.p (.int .i64 id),.p (.bool up),.p (.int .i64 b)]=>some (c_split_p (⟨(⟨r_at__x,r_at__y⟩:L.Pt),(⟨r_size_w,r_size_h⟩:L.Size)⟩:L.Area) id up b,c_split_r (⟨(⟨r_at__x,r_at__y⟩:L.Pt),(⟨r_size_w,r_size_h⟩:L.Size)⟩:L.Area) id up b)
 | _=>none
abbrev c_split_S:SE.Spec:=(specO c_split_s)
def c_split_C:Cfg:={ cC with muts:=[8,9,10] }
theorem c_split_vc (r:L.Area) (id:Int) (up:Bool) (b:Int) (hp:c_split_p r id up b):vc Tryz.prog (c_split_C) (bodyOf Tryz.f165) (st0 Tryz.f165 [.p (.agg [.int .i64 r.at_.x,.int .i64 r.at_.y,.int .i64 r.size.w,.int .i64 r.size.h]),.p (.int .i64 id),.p (.bool up),.p (.int .i64 b)]) (retFn Tryz.prog Tryz.f165 (c_split_r r id up b)) :=
 @Eq.mpr _ (let I:=SV.int .i64;let A3:=(r.at_.y+b);let A2:=(r.at_.x+b);let A1:=(L.splt r id up b);InK .i64 (r.at_.x+r.size.w)/\InK .i64 (r.at_.y+r.size.h)/\(up=true->InK .i64 A2/\id=A1.sheet/\(1:Int)=A1.kind/\(0:Int)=A1.want/\nat_lit 2=A1.pts.n /\ ∀ (i:Nat),i<nat_lit 2->rowsOf [I A2,I r.at_.y,I A2,I (r.at_.y+r.size.h)] (nat_lit 2) i = [I (A1.pts.g i).x,I (A1.pts.g i).y])/\(up=false->InK .i64 A3/\id=A1.sheet/\(1:Int)=A1.kind/\(0:Int)=A1.want/\nat_lit 2=A1.pts.n /\ ∀ (i:Nat),i<nat_lit 2->rowsOf [I r.at_.x,I A3,I (r.at_.x+r.size.w),I A3] (nat_lit 2) i = [I (A1.pts.g i).x,I (A1.pts.g i).y])) (by kernel_rfl) (by
 conv=>zeta
 obtain ⟨⟨h1,h2,h3,h4,h5,h6⟩,hb,hb'⟩:=(show L.okA r/\0 <= b/\b <= 4096 from hp)
 refine ⟨InK64,InK64,fun h=>?_,fun h=>?_⟩ <;> subst h <;> exact ⟨InK64,rfl,rfl,rfl,rfl,fun i hi=>by match i,hi with | 0,_=>rfl | 1,_=>rfl⟩)
theorem c_split_ok:SpecOk Tryz.prog 165 c_split_S:=fnX Tryz.func165 (c:=bodyOf Tryz.f165) (by kernel_rfl) mixed (fun args p r hs hp=>by
 unfold c_split_s at hs
 split at hs
 ·cases hs;exact ⟨_,_,c_split_vc _ _ _ _ hp,(.same _ (.same _ (.same _ (.same _ .nil)))),⟨show SpecsL Tryz.prog _ from SpecsL.nil,rfl,⟨show ItersL Tryz.prog _ from ItersL.nil,(TrsOk.none (fun _=>rfl))⟩⟩⟩
 ·cases hs)
theorem c_split_en:Enters Tryz.prog 165:=fun args w=>by kernel_rfl
abbrev c_one1_tr:Tr:={ T:=(L.Sq L.Want) × (L.Sheet) × (Int->Bool) × (Nat->L.Placed) × (List L.Score) × (Nat) × (L.Area) × (Int),U:=Nat,args:=fun t=>(fun w sh dom P S i r t=>[.p (.int .i64 t),.p (.ref [.int .i64 ((w.g i).id),.int .i64 ((w.g i).colour),.int .i64 ((w.g i).grain),.sl 2 (w.g i).ol.n (fun i1=>[.int .i64 (((w.g i).ol.g i1).x),.int .i64 (((w.g i).ol.g i1).y)])] 0),.loc 1006 0,.loc 1007 0]) t.1 t.2.1 t.2.2.1 t.2.2.2.1 t.2.2.2.2.1 t.2.2.2.2.2.1 t.2.2.2.2.2.2.1 t.2.2.2.2.2.2.2,own:=fun t=>(fun w sh dom P S i r t=>[(1000,.blk 162 [.p ((.sl 4 w.n (fun i=>[.int .i64 ((w.g i).id),.int .i64 ((w.g i).colour),.int .i64 ((w.g i).grain),.sl 2 (w.g i).ol.n (fun i1=>[.int .i64 (((w.g i).ol.g i1).x),.int .i64 (((w.g i).ol.g i1).y)])]))),.p (.int .i64 sh.grain),.mapv 1001]),(1001,.mq 3 27 dom (L.memo (L.tabF w sh.grain))),(1002,.blk 117 [.loc 1000 0,.p (.int .i64 sh.id),.p (.int .i64 sh.colour),.p (.int .i64 sh.w),.p (.int .i64 sh.h),.p (.int .i64 sh.grain),.row 1003,.row 1004]),(1003,.row 57 5 w.n (fun k=>[.int .i64 ((P k).want),.int .i64 ((P k).sheet),.int .i64 ((P k).turn),.int .i64 ((P k).at_.x),.int .i64 ((P k).at_.y)])),(1004,.row 125 4 (L.sqC (S)).n (fun k=>L.scC ((L.sqC (S)).g k))),(1006,.blk 114 [.loc 1002 0]),(1007,.blk 174 [.p (.int .i64 r.at_.x),.p (.int .i64 r.at_.y),.p (.int .i64 r.size.w),.p (.int .i64 r.size.h)])]) t.1 t.2.1 t.2.2.1 t.2.2.2.1 t.2.2.2.2.1 t.2.2.2.2.2.1 t.2.2.2.2.2.2.1 t.2.2.2.2.2.2.2,pre:=fun t=>(fun w sh dom P S i r t=>(w.g i).ol.n <= 1000000) t.1 t.2.1 t.2.2.1 t.2.2.2.1 t.2.2.2.2.1 t.2.2.2.2.2.1 t.2.2.2.2.2.2.1 t.2.2.2.2.2.2.2,post:=fun t u=>(fun w sh dom P S i r t=>fun u=>True) t.1 t.2.1 t.2.2.1 t.2.2.2.1 t.2.2.2.2.1 t.2.2.2.2.2.1 t.2.2.2.2.2.2.1 t.2.2.2.2.2.2.2 u,own':=fun t u=>(fun w sh dom P S i r t=>fun u=>[(1000,.blk 162 [.p ((.sl 4 w.n (fun i=>[.int .i64 ((w.g i).id),.int .i64 ((w.g i).colour),.int .i64 ((w.g i).grain),.sl 2 (w.g i).ol.n (fun i1=>[.int .i64 (((w.g i).ol.g i1).x),.int .i64 (((w.g i).ol.g i1).y)])]))),.p (.int .i64 sh.grain),.mapv 1001]),(1001,.mq 3 27 dom (L.memo (L.tabF w sh.grain))),(1002,.blk 117 [.loc 1000 0,.p (.int .i64 sh.id),.p (.int .i64 sh.colour),.p (.int .i64 sh.w),.p (.int .i64 sh.h),.p (.int .i64 sh.grain),.row 1003,.row 1004]),(1003,.row 57 5 w.n (fun k=>[.int .i64 ((P k).want),.int .i64 ((P k).sheet),.int .i64 ((P k).turn),.int .i64 ((P k).at_.x),.int .i64 ((P k).at_.y)])),(1004,.row 125 4 (L.sqC (S)).n (fun k=>L.scC ((L.sqC (S)).g k))),(1006,.blk 114 [.loc 1002 0]),(1007,.blk 174 [.p (.int .i64 r.at_.x),.p (.int .i64 r.at_.y),.p (.int .i64 r.size.w),.p (.int .i64 r.size.h)])]) t.1 t.2.1 t.2.2.1 t.2.2.2.1 t.2.2.2.2.1 t.2.2.2.2.2.1 t.2.2.2.2.2.2.1 t.2.2.2.2.2.2.2 u,res:=fun t u=>(fun w sh dom P S i r t=>fun u=>.p (.bool (L.fit0 w sh.grain i r t))) t.1 t.2.1 t.2.2.1 t.2.2.2.1 t.2.2.2.2.1 t.2.2.2.2.2.1 t.2.2.2.2.2.2.1 t.2.2.2.2.2.2.2 u }
theorem c_one1_vc (w:L.Sq L.Want) (sh:L.Sheet) (dom:Int->Bool) (P:Nat->L.Placed) (S:List L.Score) (i:Nat) (r:L.Area) (t:Int) (hp:c_one1_tr.pre (w,sh,dom,P,S,i,r,t)):vc Tryz.prog ({ cC with specs:=lookS [(77,c_boxOf_S),(76,c_allowed_S)] }) (bodyOf Tryz.f189) (stTr Tryz.f189 (c_one1_tr.args (w,sh,dom,P,S,i,r,t)) (c_one1_tr.own (w,sh,dom,P,S,i,r,t))) (retTr Tryz.prog Tryz.f189 c_one1_tr (w,sh,dom,P,S,i,r,t)) :=
 @Eq.mpr _ (let I:=SV.int .i64;let A5:=(L.sqC S);let A3:=(L.box (L.Sq.mk (w.g i).ol.n fun (i_1:Nat)=>(w.g i).ol.g i_1) t);((∀ (i_1:Nat),let A4:=((w.g i).ol.g i_1);i_1<(w.g i).ol.n -> [I A4.x,I A4.y] = [I A4.x,I A4.y])/\(w.g i).ol.n <= (1000000:Nat))/\True /\ ∃ (u:Nat),(bif bif L.alw (w.g i).grain sh.grain t then decide (A3.w <= r.size.w) else false then decide (A3.h <= r.size.h) else false)=L.fit0 w sh.grain i r t/\(w.n=w.n /\ ∀ (i:Nat),let A1:=[I (w.g i).id,I (w.g i).colour,I (w.g i).grain,SV.sl (2:Nat) (w.g i).ol.n fun (i1:Nat)=>[I ((w.g i).ol.g i1).x,I ((w.g i).ol.g i1).y]];i<w.n->A1=A1)/\sh.grain=sh.grain/\(∀ (x:Int),dom x=dom x)/\(∀ (x:Int),dom x=true->L.memo (L.tabF w sh.grain) x=L.memo (L.tabF w sh.grain) x)/\nat_lit 0=(0:Nat)/\sh.id=sh.id/\sh.colour=sh.colour/\sh.w=sh.w/\sh.h=sh.h/\sh.grain=sh.grain/\(w.n=w.n /\ ∀ (i:Nat),let A2:=[I (P i).want,I (P i).sheet,I (P i).turn,I (P i).at_.x,I (P i).at_.y];i<w.n->A2=A2)/\(A5.n=A5.n /\ ∀ (i:Nat),i<A5.n->L.scC (A5.g i)=L.scC (A5.g i))/\nat_lit 0=(0:Nat)/\r.at_.x=r.at_.x/\r.at_.y=r.at_.y/\r.size.w=r.size.w/\r.size.h=r.size.h/\True) (by kernel_rfl) (by
 conv=>zeta
 have ho:(w.g i).ol.n <= 1000000:=hp
 exact ⟨⟨fun _ _=>rfl,ho⟩,trivial,(0:Nat),rfl,⟨rfl,fun _ _=>rfl⟩,rfl,fun _=>rfl,fun _ _=>rfl,rfl,rfl,rfl,rfl,rfl,rfl,⟨rfl,fun _ _=>rfl⟩,⟨rfl,fun _ _=>rfl⟩,rfl,rfl,rfl,rfl,rfl,trivial⟩)
theorem c_one1_en:Enters Tryz.prog 189:=fun args w=>by kernel_rfl
theorem c_one1_tok:TrOk Tryz.prog 189 c_one1_tr:=tr_ok (ks:=[1000,1001,1002,1003,1004,1006,1007]) (n:=4) Tryz.func189 (c:=bodyOf Tryz.f189) (by kernel_rfl) mixed ⟨fun t=>rfl,fun t=>rfl,fun t u=>rfl,fun t u=>rfl,fun t u=>rfl,by kernel_rfl⟩ (fun ⟨w,sh,dom,P,S,i,r,t⟩ hp=>⟨_,c_one1_vc w sh dom P S i r t hp,⟨show SpecsL Tryz.prog _ from (SpecsL.cons c_boxOf_ok c_boxOf_en (SpecsL.cons c_allowed_ok c_allowed_en SpecsL.nil)),rfl,⟨show ItersL Tryz.prog _ from ItersL.nil,(TrsOk.none (fun _=>rfl))⟩⟩⟩)
abbrev c_one_mk:Mk:={ T:=(L.Sq L.Want) × (L.Sheet) × (Int->Bool) × (Nat->L.Placed) × (List L.Score) × (Nat) × (L.Area),U:=Nat,args:=fun t=>(fun w sh dom P S i r=>[.loc 1002 0,.p (.int .i64 (i:Int)),.p ((.agg [.int .i64 r.at_.x,.int .i64 r.at_.y,.int .i64 r.size.w,.int .i64 r.size.h]))]) t.1 t.2.1 t.2.2.1 t.2.2.2.1 t.2.2.2.2.1 t.2.2.2.2.2.1 t.2.2.2.2.2.2,lkeys:=[1000,1001,1002,1003,1004],keys:=[],lent:=fun t=>(fun w sh dom P S i r=>[(1000,.blk 162 [.p ((.sl 4 w.n (fun i=>[.int .i64 ((w.g i).id),.int .i64 ((w.g i).colour),.int .i64 ((w.g i).grain),.sl 2 (w.g i).ol.n (fun i1=>[.int .i64 (((w.g i).ol.g i1).x),.int .i64 (((w.g i).ol.g i1).y)])]))),.p (.int .i64 sh.grain),.mapv 1001]),(1001,.mq 3 27 dom (L.memo (L.tabF w sh.grain))),(1002,.blk 117 [.loc 1000 0,.p (.int .i64 sh.id),.p (.int .i64 sh.colour),.p (.int .i64 sh.w),.p (.int .i64 sh.h),.p (.int .i64 sh.grain),.row 1003,.row 1004]),(1003,.row 57 5 w.n (fun k=>[.int .i64 ((P k).want),.int .i64 ((P k).sheet),.int .i64 ((P k).turn),.int .i64 ((P k).at_.x),.int .i64 ((P k).at_.y)])),(1004,.row 125 4 (L.sqC (S)).n (fun k=>L.scC ((L.sqC (S)).g k)))]) t.1 t.2.1 t.2.2.1 t.2.2.2.1 t.2.2.2.2.1 t.2.2.2.2.2.1 t.2.2.2.2.2.2,pre:=fun t=>(fun w sh dom P S i r=>i<w.n/\w.n <= 4/\(w.g i).ol.n <= 1000000/\L.okA r/\(L.sqC S).n <= 1000) t.1 t.2.1 t.2.2.1 t.2.2.2.1 t.2.2.2.2.1 t.2.2.2.2.2.1 t.2.2.2.2.2.2,post:=fun t u=>(fun w sh dom P S i r=>fun uu=>True) t.1 t.2.1 t.2.2.1 t.2.2.2.1 t.2.2.2.2.1 t.2.2.2.2.2.1 t.2.2.2.2.2.2 u,lent':=fun t u=>(fun w sh dom P S i r=>fun uu=>[(1000,.blk 162 [.p ((.sl 4 w.n (fun i=>[.int .i64 ((w.g i).id),.int .i64 ((w.g i).colour),.int .i64 ((w.g i).grain),.sl 2 (w.g i).ol.n (fun i1=>[.int .i64 (((w.g i).ol.g i1).x),.int .i64 (((w.g i).ol.g i1).y)])]))),.p (.int .i64 sh.grain),.mapv 1001]),(1001,.mq 3 27 dom (L.memo (L.tabF w sh.grain))),(1002,.blk 117 [.loc 1000 0,.p (.int .i64 sh.id),.p (.int .i64 sh.colour),.p (.int .i64 sh.w),.p (.int .i64 sh.h),.p (.int .i64 sh.grain),.row 1003,.row 1004]),(1003,.row 57 5 w.n (fun k=>[.int .i64 (((L.oneP w sh i r P) k).want),.int .i64 (((L.oneP w sh i r P) k).sheet),.int .i64 (((L.oneP w sh i r P) k).turn),.int .i64 (((L.oneP w sh i r P) k).at_.x),.int .i64 (((L.oneP w sh i r P) k).at_.y)])),(1004,.row 125 4 (L.sqC (L.oneQ w sh i r S)).n (fun k=>L.scC ((L.sqC (L.oneQ w sh i r S)).g k)))]) t.1 t.2.1 t.2.2.1 t.2.2.2.1 t.2.2.2.2.1 t.2.2.2.2.2.1 t.2.2.2.2.2.2 u,own:=fun t u=>(fun w sh dom P S i r=>fun uu=>[]) t.1 t.2.1 t.2.2.1 t.2.2.2.1 t.2.2.2.2.1 t.2.2.2.2.2.1 t.2.2.2.2.2.2 u,res:=fun t u=>(fun w sh dom P S i r=>fun uu=>.p (.tup [])) t.1 t.2.1 t.2.2.1 t.2.2.2.1 t.2.2.2.2.1 t.2.2.2.2.2.1 t.2.2.2.2.2.2 u,mv:=some (1004,80) }
theorem c_one_vc (w:L.Sq L.Want) (sh:L.Sheet) (dom:Int->Bool) (P:Nat->L.Placed) (S:List L.Score) (i:Nat) (r:L.Area) (hp:c_one_mk.pre (w,sh,dom,P,S,i,r)):vc Tryz.prog ({ cC with muts:=[3,5],frz:=lookN [(3,[6])],specs:=lookS [(77,c_boxOf_S),(165,c_split_S),(164,c_divided_S)],trs:=lookT [(189,c_one1_tr)],ren:=fun k=>if k=1006 then 3 else if k=1007 then 5 else if k=1004 then 80 else k,joins:=lookL [(6,{ T:=Nat,keep:=[1,3,5,6],keepO:=[3,5,80,1000,1001,1002,1003],chg:=fun _=>[(7,.p (.int .i64 (L.turnOf w sh.grain i r)))],own:=fun _=>[],inv:=fun _=>True,mu:=fun _=>0 }),(8,{ T:=Nat,keep:=[3,5,9],keepO:=[3,5,80,1000,1001,1002],chg:=fun _=>[],own:=fun _=>[(9,.blk 43 [.p (.int .i64 (L.oneB w sh i r).w),.p (.int .i64 (L.oneB w sh i r).h)]),(1003,.row 57 5 w.n (fun k=>[.int .i64 (((L.oneP w sh i r P) k).want),.int .i64 (((L.oneP w sh i r P) k).sheet),.int .i64 (((L.oneP w sh i r P) k).turn),.int .i64 (((L.oneP w sh i r P) k).at_.x),.int .i64 (((L.oneP w sh i r P) k).at_.y)]))],inv:=fun _=>True,mu:=fun _=>0 }),(10,{ T:=Nat,keep:=[3,5,9],keepO:=[3,5,9,1000,1001,1002,1003],chg:=fun _=>[],own:=fun _=>[(80,.row 125 4 (L.sqC (L.snocC S (L.splt r sh.id true (L.oneB w sh i r).w))).n (fun k=>L.scC ((L.sqC (L.snocC S (L.splt r sh.id true (L.oneB w sh i r).w))).g k)))],inv:=fun _=>True,mu:=fun _=>0 }),(11,{ T:=Nat,keep:=[3,5,9],keepO:=[3,9,1000,1001,1002,1003],chg:=fun _=>[],own:=fun _=>[(80,.row 125 4 (L.sqC (L.oneS1 w sh i r S)).n (fun k=>L.scC ((L.sqC (L.oneS1 w sh i r S)).g k))),(5,.blk 174 [.p (.int .i64 (L.oneR1 w sh i r).at_.x),.p (.int .i64 (L.oneR1 w sh i r).at_.y),.p (.int .i64 (L.oneR1 w sh i r).size.w),.p (.int .i64 (L.oneR1 w sh i r).size.h)])],inv:=fun _=>True,mu:=fun _=>0 })],anys:=[1009,1012],rek:=lookR2 [(1,[(1004,80)])] }) (bodyOf Tryz.f162) (stTr Tryz.f162 (c_one_mk.args (w,sh,dom,P,S,i,r)) (c_one_mk.lent (w,sh,dom,P,S,i,r))) (retMk Tryz.prog Tryz.f162 c_one_mk (w,sh,dom,P,S,i,r)) :=
 @Eq.mpr _ (let I:=SV.int .i64;let T:=Int.toNat;let A45:=(L.turnOf w sh.grain i r);let A44:=(0:Int);let A41:=(2:Nat);let A37:=(nat_lit 0);let A36:=(0:Nat);let A34:=(L.tabF w sh.grain);let A31:=(140737488355328:Nat);let A28:=(↑i:Int);let A39:=(A44 <= A28/\A28<(↑w.n:Int));let A27:=(L.sqC (L.oneQ w sh i r S));let A19:=(L.sqC S);let A14:=(∀ (x
:Int),dom x=dom x);let A12:=(L.oneR1 w sh i r);let A10:=(w.g (T A28));let A24:=(L.box (L.Sq.mk A10.ol.n fun (i_1:Nat)=>A10.ol.g i_1) A45);let A9:=(L.sqC (L.oneS1 w sh i r S));let A6:=(∀ (x:Int),dom x=true->L.memo A34 x=L.memo A34 x);let A4:=(L.oneB w sh i r);let A35:=(L.okA r/\A44 <= A4.w/\A4.w <= (4096:Int));let A29:=(L.divA r true A4.w);let A16
:=(L.splt A12 sh.id false A4.h);let A7:=(L.splt r sh.id true A4.w);let A20:=(L.sqC (L.snocC S A7));let A21:=(A19.n+nat_lit 1=A20.n /\ ∀ (i_1:Nat),i_1<A19.n+nat_lit 1->appGet A19.n (fun (k:Nat)=>L.scC (A19.g k)) (fun (x:Nat)=>[I A7.sheet,I A7.kind,I A7.want,SV.sl (nat_lit 2) A7.pts.n fun (i_2:Nat)=>[I (A7.pts.g i_2).x,I (A7.pts.g i_2).y]]) i_1
 = L.scC (A20.g i_1));let A3:=[I A10.id,I A10.colour,I A10.grain,SV.sl (nat_lit 2) A10.ol.n fun (i1:Nat)=>[I (A10.ol.g i1).x,I (A10.ol.g i1).y]];let A2:=(w.n=w.n /\ ∀ (i_1:Nat),let A13:=(L.oneP w sh i r P i_1);let A30:=[I A13.want,I A13.sheet,I A13.turn,I A13.at_.x,I A13.at_.y];i_1<w.n->A30=A30);let A1:=(w.n=w.n /\ ∀ (i:Nat),let A18:=[I (w.g i).id,I
 (w.g i).colour,I (w.g i).grain,SV.sl A41 (w.g i).ol.n fun (i1:Nat)=>[I ((w.g i).ol.g i1).x,I ((w.g i).ol.g i1).y]];i<w.n->A18=A18);A39/\(∃ (t:L.Sq L.Want × L.Sheet × (Int->Bool) × (Nat->L.Placed) × List L.Score × Nat × L.Area × Int),let A46:=(L.tabF t.1 t.2.1.grain);let A40:=(∀ (x:Int),t.snd.2.1 x=dom x);let A23:=(!L.fit0 t.1 t.2.1.grain t.snd.snd.snd.snd.2.1
 t.snd.snd.snd.snd.snd.2.1 t.snd.snd.snd.snd.snd.2.2);let A22:=(∀ (x:Int),t.snd.2.1 x=true->L.memo A46 x=L.memo A34 x);let A17:=(L.sqC t.snd.snd.snd.2.1);let A26:=(A17.n=A19.n /\ ∀ (i:Nat),i<A17.n->L.scC (A17.g i)=L.scC (A19.g i));let A15:=(t.1.g t.snd.snd.snd.snd.2.1);let A11:=(t.1.n=w.n /\ ∀ (i:Nat),let A32:=(t.snd.snd.2.1 i);i<t.1.n -> [I A32.want,I
 A32.sheet,I A32.turn,I A32.at_.x,I A32.at_.y] = [I (P i).want,I (P i).sheet,I (P i).turn,I (P i).at_.x,I (P i).at_.y]);let A8:=(t.1.n=w.n /\ ∀ (i:Nat),let A42:=(t.1.g i);i<t.1.n -> [I A42.id,I A42.colour,I A42.grain,SV.sl A41 A42.ol.n fun (i1:Nat)=>[I (A42.ol.g i1).x,I (A42.ol.g i1).y]] = [I (w.g i).id,I (w.g i).colour,I (w.g i).grain,SV.sl A41 (w.g i).ol.n
 fun (i1:Nat)=>[I ((w.g i).ol.g i1).x,I ((w.g i).ol.g i1).y]]);A44=t.snd.snd.snd.snd.snd.2.2/\SV.ref A3 A37=SV.ref [I A15.id,I A15.colour,I A15.grain,SV.sl A41 A15.ol.n fun (i1:Nat)=>[I (A15.ol.g i1).x,I (A15.ol.g i1).y]] A36/\nat_lit 0=A36/\nat_lit 0=A36/\(w.n=t.1.n /\ ∀ (i:Nat),let A43:=(t.1.g i);i<w.n -> [I (w.g i).id,I (w.g i).colour,I (w.g
 i).grain,SV.sl A41 (w.g i).ol.n fun (i1:Nat)=>[I ((w.g i).ol.g i1).x,I ((w.g i).ol.g i1).y]] = [I A43.id,I A43.colour,I A43.grain,SV.sl A41 A43.ol.n fun (i1:Nat)=>[I (A43.ol.g i1).x,I (A43.ol.g i1).y]])/\sh.grain=t.2.1.grain/\(∀ (x:Int),dom x=t.snd.2.1 x)/\(∀ (x:Int),dom x=true->L.memo A34 x=L.memo A46 x)/\nat_lit 0=A36/\sh.id=t.2.1.id /\
 sh.colour=t.2.1.colour/\sh.w=t.2.1.w/\sh.h=t.2.1.h/\sh.grain=t.2.1.grain/\(w.n=t.1.n /\ ∀ (i:Nat),let A33:=(t.snd.snd.2.1 i);i<w.n -> [I (P i).want,I (P i).sheet,I (P i).turn,I (P i).at_.x,I (P i).at_.y] = [I A33.want,I A33.sheet,I A33.turn,I A33.at_.x,I A33.at_.y])/\(A19.n=A17.n /\ ∀ (i:Nat),i<A19.n->L.scC (A19.g i)=L.scC (A17.g i))/\nat_lit 0=A36 /\
 r.at_.x=t.snd.snd.snd.snd.snd.2.1.at_.x/\r.at_.y=t.snd.snd.snd.snd.snd.2.1.at_.y/\r.size.w=t.snd.snd.snd.snd.snd.2.1.size.w/\r.size.h=t.snd.snd.snd.snd.snd.2.1.size.h/\A15.ol.n <= (1000000:Nat) /\ ∀ (u:Nat),True->(A23=true -> ∃ (g:Nat),(1:Int)=L.turnOf w sh.grain i r/\SV.ref A3 A37=SV.ref A3 A37/\nat_lit 0=nat_lit 0/\nat_lit 0=nat_lit 0/\A28=A28
 /\ t.snd.snd.snd.snd.snd.2.1.at_.x=r.at_.x/\t.snd.snd.snd.snd.snd.2.1.at_.y=r.at_.y/\t.snd.snd.snd.snd.snd.2.1.size.w=r.size.w/\t.snd.snd.snd.snd.snd.2.1.size.h=r.size.h/\nat_lit 0=nat_lit 0/\A8/\t.2.1.grain=sh.grain/\A40/\A22/\nat_lit 0=nat_lit 0/\t.2.1.id=sh.id/\t.2.1.colour=sh.colour/\t.2.1.w=sh.w/\t.2.1.h=sh.h/\t.2.1.grain=sh.grain/\A11/\A26/\True) /\
 (A23=false -> ∃ (g:Nat),A44=L.turnOf w sh.grain i r/\SV.ref A3 A37=SV.ref A3 A37/\nat_lit 0=nat_lit 0/\nat_lit 0=nat_lit 0/\A28=A28/\t.snd.snd.snd.snd.snd.2.1.at_.x=r.at_.x/\t.snd.snd.snd.snd.snd.2.1.at_.y=r.at_.y/\t.snd.snd.snd.snd.snd.2.1.size.w=r.size.w/\t.snd.snd.snd.snd.snd.2.1.size.h=r.size.h/\nat_lit 0=nat_lit 0/\A8/\t.2.1.grain=sh.grain
 /\ A40/\A22/\nat_lit 0=nat_lit 0/\t.2.1.id=sh.id/\t.2.1.colour=sh.colour/\t.2.1.w=sh.w/\t.2.1.h=sh.h/\t.2.1.grain=sh.grain/\A11/\A26/\True)) /\ ∀ (g:Nat),True->((∀ (i_1:Nat),let A38:=[I (A10.ol.g i_1).x,I (A10.ol.g i_1).y];i_1<A10.ol.n->A38=A38)/\A10.ol.n <= (1000000:Nat))/\(A39/\T A28<w.n /\ ∃ (g:Nat),nat_lit 0=nat_lit 0/\nat_lit 0=nat_lit 0 /\
 nat_lit 0=nat_lit 0/\A24.w=A4.w/\A24.h=A4.h/\(w.n=w.n /\ ∀ (i_1:Nat),let A25:=(L.oneP w sh i r P i_1);i_1<w.n->setRow (fun (k:Nat)=>[I (P k).want,I (P k).sheet,I (P k).turn,I (P k).at_.x,I (P k).at_.y]) (T A28) A37 [I A10.id,I sh.id,I A45,I r.at_.x,I r.at_.y] i_1 = [I A25.want,I A25.sheet,I A25.turn,I A25.at_.x,I A25.at_.y])/\r.at_.x=r.at_.x/\r.at_.y =
 r.at_.y/\r.size.w=r.size.w/\r.size.h=r.size.h/\nat_lit 0=nat_lit 0/\A1/\sh.grain=sh.grain/\A14/\A6/\nat_lit 0=nat_lit 0/\sh.id=sh.id/\sh.colour=sh.colour/\sh.w=sh.w/\sh.h=sh.h/\sh.grain=sh.grain/\(A19.n=A19.n /\ ∀ (i:Nat),i<A19.n->L.scC (A19.g i)=L.scC (A19.g i))/\True) /\ ∀ (g_1:Nat),True->((decide (A4.w<r.size.w)=true->(A35 /\
 ((A19.n+nat_lit 1) * nat_lit 48 <= A31 /\ ∃ (g:Nat),nat_lit 0=nat_lit 0/\nat_lit 0=nat_lit 0/\nat_lit 0=nat_lit 0/\A21/\A4.w=A4.w/\A4.h=A4.h/\A2/\r.at_.x=r.at_.x/\r.at_.y=r.at_.y/\r.size.w=r.size.w/\r.size.h=r.size.h/\nat_lit 0=nat_lit 0/\A1/\sh.grain=sh.grain/\A14/\A6/\nat_lit 0=nat_lit 0/\sh.id=sh.id/\sh.colour=sh.colour/\sh.w=sh.w/\sh.h =
 sh.h/\sh.grain=sh.grain/\True)/\(A19.n+nat_lit 1) * nat_lit 48 <= A31 /\ ∃ (g:Nat),nat_lit 0=nat_lit 0/\nat_lit 0=nat_lit 0/\nat_lit 0=nat_lit 0/\A21/\A4.w=A4.w/\A4.h=A4.h/\A2/\r.at_.x=r.at_.x/\r.at_.y=r.at_.y/\r.size.w=r.size.w/\r.size.h=r.size.h/\nat_lit 0=nat_lit 0/\A1/\sh.grain=sh.grain/\A14/\A6/\nat_lit 0=nat_lit 0/\sh.id=sh.id/\sh.colour =
 sh.colour/\sh.w=sh.w/\sh.h=sh.h/\sh.grain=sh.grain/\True) /\ ∀ (g_2:Nat),True->A35 /\ ∃ (g:Nat),nat_lit 0=nat_lit 0/\nat_lit 0=nat_lit 0/\nat_lit 0=nat_lit 0/\(A20.n=A9.n /\ ∀ (i_1:Nat),i_1<A20.n->L.scC (A20.g i_1)=L.scC (A9.g i_1))/\A29.at_.x=A12.at_.x/\A29.at_.y=A12.at_.y/\A29.size.w=A12.size.w/\A29.size.h=A12.size.h/\A4.w=A4.w/\A4.h=A4.h/\A2 /\
 nat_lit 0=nat_lit 0/\A1/\sh.grain=sh.grain/\A14/\A6/\nat_lit 0=nat_lit 0/\sh.id=sh.id/\sh.colour=sh.colour/\sh.w=sh.w/\sh.h=sh.h/\sh.grain=sh.grain/\True)/\(decide (A4.w<r.size.w)=false -> ∃ (g:Nat),nat_lit 0=nat_lit 0/\nat_lit 0=nat_lit 0/\nat_lit 0=nat_lit 0/\(A19.n=A9.n /\ ∀ (i_1:Nat),i_1<A19.n->L.scC (A19.g i_1)=L.scC (A9.g
 i_1))/\r.at_.x=A12.at_.x/\r.at_.y=A12.at_.y/\r.size.w=A12.size.w/\r.size.h=A12.size.h/\A4.w=A4.w/\A4.h=A4.h/\A2/\nat_lit 0=nat_lit 0/\A1/\sh.grain=sh.grain/\A14/\A6/\nat_lit 0=nat_lit 0/\sh.id=sh.id/\sh.colour=sh.colour/\sh.w=sh.w/\sh.h=sh.h/\sh.grain=sh.grain/\True)) /\ ∀ (g:Nat),let A5:=(A9.n+nat_lit 1=A27.n /\ ∀ (i_1:Nat),i_1<A9.n +
 nat_lit 1->appGet A9.n (fun (k:Nat)=>L.scC (A9.g k)) (fun (x:Nat)=>[I A16.sheet,I A16.kind,I A16.want,SV.sl (nat_lit 2) A16.pts.n fun (i_2:Nat)=>[I (A16.pts.g i_2).x,I (A16.pts.g i_2).y]]) i_1=L.scC (A27.g i_1));True->(decide (A4.h<A12.size.h)=true->(L.okA A12/\A44 <= A4.h/\A4.h <= (4096:Int))/\((A9.n+nat_lit 1) * nat_lit 48 <= A31 /\ ∃ (u :
 Nat),A1/\sh.grain=sh.grain/\A14/\A6/\nat_lit 0=A36/\sh.id=sh.id/\sh.colour=sh.colour/\sh.w=sh.w/\sh.h=sh.h/\sh.grain=sh.grain/\A2/\A5/\True)/\(A9.n+nat_lit 1) * nat_lit 48 <= A31 /\ ∃ (u:Nat),A1/\sh.grain=sh.grain/\A14/\A6/\nat_lit 0=A36/\sh.id=sh.id/\sh.colour=sh.colour/\sh.w=sh.w/\sh.h=sh.h/\sh.grain=sh.grain/\A2/\A5/\True) /\
 (decide (A4.h<A12.size.h)=false -> ∃ (u:Nat),A1/\sh.grain=sh.grain/\A14/\A6/\nat_lit 0=A36/\sh.id=sh.id/\sh.colour=sh.colour/\sh.w=sh.w/\sh.h=sh.h/\sh.grain=sh.grain/\A2/\(A9.n=A27.n /\ ∀ (i_1:Nat),i_1<A9.n->L.scC (A9.g i_1)=L.scC (A27.g i_1))/\True)) (by kernel_rfl) (by
  conv=>zeta
  have hp:i<w.n/\w.n <= 4/\(w.g i).ol.n <= 1000000/\L.okA r/\S.length <= 1000:=hp
  obtain ⟨hi,hw4,ho,hA,hS⟩:=hp
  have hiw:0 <= (i:Int)/\(i:Int)<(w.n:Int):=⟨Int.natCast_nonneg _,by omega⟩
  obtain ⟨b1,b2,b3,b4⟩:=oneB_bd w sh i r
  have hA1:=okA_one w sh i hA
  have sz:((L.sqC S).n+1) * 48 <= 140737488355328:=by show (S.length+1) * 48 <= _;omega
  have sz1:((L.sqC (L.oneS1 w sh i r S)).n+1) * 48 <= 140737488355328:=by show ((L.oneS1 w sh i r S).length+1) * 48 <= _;have:=oneS1_len w sh i r S;omega
  refine ⟨hiw,⟨(w,sh,dom,P,S,i,r,0),rfl,rfl,rfl,rfl,⟨rfl,fun _ _=>rfl⟩,rfl,fun _=>rfl,fun _ _=>rfl,rfl,rfl,rfl,rfl,rfl,rfl,⟨rfl,fun _ _=>rfl⟩,⟨rfl,fun _ _=>rfl⟩,rfl,rfl,rfl,rfl,rfl,ho,fun u _=>⟨fun hf=>?_,fun hf=>?_⟩⟩,fun _ _=>⟨⟨fun _ _=>rfl,ho⟩,⟨hiw,hi,(0:Nat),rfl,rfl,rfl,rfl,rfl,⟨rfl,fun j hj=>?_⟩,rfl,rfl,rfl,rfl,rfl,⟨rfl,fun _ _=>rfl⟩,rfl,fun _=>rfl,fun _ _=>rfl,rfl,rfl,rfl,rfl,rfl,rfl,⟨rfl,fun _ _=>rfl⟩,trivial⟩,fun _ _=>⟨⟨fun hc=>⟨?_,fun _ _=>?_⟩,fun hc=>?_⟩,fun _ _=>⟨fun hc=>?_,fun hc=>?_⟩⟩⟩⟩
  ·have hf:L.fit0 w sh.grain i r 0=false:=notT hf
   exact ⟨(0:Nat),by unfold L.turnOf;rw [hf];rfl,rfl,rfl,rfl,rfl,rfl,rfl,rfl,rfl,rfl,⟨rfl,fun _ _=>rfl⟩,rfl,fun _=>rfl,fun _ _=>rfl,rfl,rfl,rfl,rfl,rfl,rfl,⟨rfl,fun _ _=>rfl⟩,⟨rfl,fun _ _=>rfl⟩,trivial⟩
  ·have hf:L.fit0 w sh.grain i r 0=true:=notF hf
   exact ⟨(0:Nat),by unfold L.turnOf;rw [hf];rfl,rfl,rfl,rfl,rfl,rfl,rfl,rfl,rfl,rfl,⟨rfl,fun _ _=>rfl⟩,rfl,fun _=>rfl,fun _ _=>rfl,rfl,rfl,rfl,rfl,rfl,rfl,⟨rfl,fun _ _=>rfl⟩,⟨rfl,fun _ _=>rfl⟩,trivial⟩
  ·unfold setRow L.oneP L.setP
   by_cases e:j=i
   ·subst e
    rw [if_pos rfl,if_pos (show j=Int.toNat (j:Int) from rfl)];try rfl
   ·rw [if_neg e,if_neg (show ¬ j=Int.toNat (i:Int) from e)]
  ·repeat' with_reducible apply And.intro
   all_goals first | exact hA | exact b1 | exact b2 | exact sz | exact ⟨(0:Nat),rfl,rfl,rfl,sqC_app rfl rfl,rfl,rfl,⟨rfl,fun _ _=>rfl⟩,rfl,rfl,rfl,rfl,rfl,⟨rfl,fun _ _=>rfl⟩,rfl,fun _=>rfl,fun _ _=>rfl,rfl,rfl,rfl,rfl,rfl,rfl,trivial⟩
  ·have e1:L.oneS1 w sh i r S=L.snocC S (L.splt r sh.id true (L.oneB w sh i r).w):=by unfold L.oneS1;rw [hc];rfl
   have e2:L.oneR1 w sh i r=L.divA r true (L.oneB w sh i r).w:=by unfold L.oneR1;rw [hc];rfl
   rw [e1,e2]
   exact ⟨⟨hA,b1,b2⟩,(0:Nat),rfl,rfl,rfl,⟨rfl,fun _ _=>rfl⟩,rfl,rfl,rfl,rfl,rfl,rfl,⟨rfl,fun _ _=>rfl⟩,rfl,⟨rfl,fun _ _=>rfl⟩,rfl,fun _=>rfl,fun _ _=>rfl,rfl,rfl,rfl,rfl,rfl,rfl,trivial⟩
  ·have e1:L.oneS1 w sh i r S=S:=by unfold L.oneS1;rw [hc];rfl
   have e2:L.oneR1 w sh i r=r:=by unfold L.oneR1;rw [hc];rfl
   rw [e1,e2]
   exact ⟨(0:Nat),rfl,rfl,rfl,⟨rfl,fun _ _=>rfl⟩,rfl,rfl,rfl,rfl,rfl,rfl,⟨rfl,fun _ _=>rfl⟩,rfl,⟨rfl,fun _ _=>rfl⟩,rfl,fun _=>rfl,fun _ _=>rfl,rfl,rfl,rfl,rfl,rfl,rfl,trivial⟩
  ·have e1:L.snocC (L.oneS1 w sh i r S) (L.splt (L.oneR1 w sh i r) sh.id false (L.oneB w sh i r).h)=L.oneQ w sh i r S:=by unfold L.oneQ;rw [hc];rfl
   repeat' with_reducible apply And.intro
   all_goals first | exact hA1 | exact b3 | exact b4 | exact sz1 | exact ⟨(0:Nat),⟨rfl,fun _ _=>rfl⟩,rfl,fun _=>rfl,fun _ _=>rfl,rfl,rfl,rfl,rfl,rfl,rfl,⟨rfl,fun _ _=>rfl⟩,sqC_app e1 rfl,trivial⟩
  ·have e1:L.oneS1 w sh i r S=L.oneQ w sh i r S:=by unfold L.oneQ;rw [hc];rfl
   exact ⟨(0:Nat),⟨rfl,fun _ _=>rfl⟩,rfl,fun _=>rfl,fun _ _=>rfl,rfl,rfl,rfl,rfl,rfl,rfl,⟨rfl,fun _ _=>rfl⟩,sqC_same e1,trivial⟩)
theorem c_one_en:Enters Tryz.prog 162:=fun args w=>by kernel_rfl
theorem c_one_mok:MkOk Tryz.prog 162 c_one_mk:=mk_ok (n:=3) Tryz.func162 (c:=bodyOf Tryz.f162) (by kernel_rfl) mixed ⟨fun t=>rfl,fun t=>rfl,fun t u=>rfl,fun t u=>rfl,fun t u=>rfl,fun t u=>⟨rfl,rfl⟩,by kernel_rfl,by kernel_rfl⟩ (fun ⟨w,sh,dom,P,S,i,r⟩ hp=>⟨_,c_one_vc w sh dom P S i r hp,⟨show SpecsL Tryz.prog _ from (SpecsL.cons c_boxOf_ok c_boxOf_en (SpecsL.cons c_split_ok c_split_en (SpecsL.cons c_divided_ok c_divided_en SpecsL.nil))),rfl,⟨show ItersL Tryz.prog _ from ItersL.nil,⟨show TrsL Tryz.prog _ from (TrsL.cons c_one1_tok c_one1_en TrsL.nil),⟨MksOk.no1 (fun _=>rfl),FamsOk.none (fun _=>rfl)⟩⟩⟩⟩⟩)
end Go.Proofs.YtpgaejicfbpcmaaGreat
namespace Go.Proofs.YtpgaejicfbpcmaaGreat
open Go.SE Go.RowKit
set_option maxRecDepth 100000
set_option maxHeartbeats 4000000
set_option linter.unusedVariables false
attribute [local irreducible] vc
def L.dvOk (w:L.Sq L.Want) (gr g:Int) (r:L.Area) (k j:Nat):Bool:=bif L.roomB w gr (L.part g k) (L.divA r (L.dvU r j) (L.dvI r j)).size then L.roomB w gr (L.cmp_ g k) (L.divB r (L.dvU r j) (L.dvI r j)).size else false
def L.dvOkV (w:L.Sq L.Want) (gr g:Int) (r:L.Area) (p:Int) (up:Bool) (by_:Int):Bool:=bif L.roomB w gr p (L.divA r up by_).size then L.roomB w gr (L.iandNot g p) (L.divB r up by_).size else false
def L.dvF (w:L.Sq L.Want) (gr g:Int) (r:L.Area):Option (Nat × Nat):=(List.range (L.partN g)).findSome? fun k=>((List.range (L.dvN r)).find? (L.dvOk w gr g r k)).map fun j=>(k,j)
def L.lay (w:L.Sq L.Want) (sh:L.Sheet):Nat->Int->L.Area->L.LS->L.LS
 | 0,_,_,s=>s
 | n+1,g,r,s=>if g=0 then s else if L.isOne g=true then ⟨L.oneP w sh (L.ix1 g) r s.pl,L.oneQ w sh (L.ix1 g) r s.sc⟩ else match L.dvF w sh.grain g r with
   | none=>s
   | some (k,j)=>L.lay w sh n (L.cmp_ g k) (L.divB r (L.dvU r j) (L.dvI r j)) (L.lay w sh n (L.part g k) (L.divA r (L.dvU r j) (L.dvI r j)) ⟨s.pl,L.snocC s.sc (L.splt r sh.id (L.dvU r j) (L.dvI r j))⟩)
def L.layF (w:L.Sq L.Want) (sh:L.Sheet) (g:Int) (r:L.Area) (s:L.LS):L.LS:=L.lay w sh 16 g r s
def L.layP (w:L.Sq L.Want) (sh:L.Sheet) (g:Int) (r:L.Area) (P:Nat->L.Placed) (S:List L.Score):Nat->L.Placed:=(L.layF w sh g r ⟨P,S⟩).pl
def L.layS (w:L.Sq L.Want) (sh:L.Sheet) (g:Int) (r:L.Area) (P:Nat->L.Placed) (S:List L.Score):List L.Score:=(L.layF w sh g r ⟨P,S⟩).sc
theorem dvF_some {w:L.Sq L.Want} {gr g:Int} {r:L.Area} {k j:Nat} (h:L.dvF w gr g r=some (k,j)):k<L.partN g/\j<L.dvN r/\L.dvOk w gr g r k j=true:=by
 unfold L.dvF at h
 obtain ⟨k',h1,h2⟩:=List.exists_of_findSome?_eq_some h
 cases h3:(List.range (L.dvN r)).find? (L.dvOk w gr g r k') with
 | none=>rw [h3] at h2;cases h2
 | some j' =>
   rw [h3] at h2
   simp only [Option.map_some,Option.some.injEq,Prod.mk.injEq] at h2
   obtain ⟨rfl,rfl⟩:=h2
   exact ⟨List.mem_range.1 h1,List.mem_range.1 (List.mem_of_find?_eq_some h3),List.find?_some h3⟩
theorem dvF_at {w:L.Sq L.Want} {gr g:Int} {r:L.Area} {k j:Nat} (hk:k<L.partN g) (hj:j<L.dvN r) (h:L.dvOk w gr g r k j=true) (h1:∀ k',k'<k -> ∀ j',j'<L.dvN r->L.dvOk w gr g r k' j'=false) (h2:∀ j',j'<j->L.dvOk w gr g r k j'=false):L.dvF w gr g r=some (k,j):=by
 cases hf:L.dvF w gr g r with
 | none =>
   unfold L.dvF at hf
   have:=List.findSome?_eq_none_iff.1 hf k (List.mem_range.2 hk)
   rw [Option.map_eq_none_iff,List.find?_eq_none] at this
   exact absurd h (this j (List.mem_range.2 hj))
 | some x =>
   obtain ⟨k',j'⟩:=x
   -- the first one
   have hfirst:∀ n,(List.range n).findSome? (fun k=>((List.range (L.dvN r)).find? (L.dvOk w gr g r k)).map fun j=>(k,j))=some (k',j')->k<n->k'=k/\j'=j:=fun n=>by
    induction n with
    | zero=>intro _ h;omega
    | succ n ih =>
      intro hh hlt
      rw [List.range_succ,List.findSome?_append] at hh
      by_cases hkn:k<n
      ·have e : ((List.range n).findSome? (fun k => ((List.range (L.dvN r)).find? (L.dvOk w gr g r k)).map fun j => (k, j))) ≠ none := fun e => by
        have:=List.findSome?_eq_none_iff.1 e k (List.mem_range.2 hkn)
        rw [Option.map_eq_none_iff,List.find?_eq_none] at this
        exact absurd h (this j (List.mem_range.2 hj))
       obtain ⟨y,hy⟩:=Option.ne_none_iff_exists'.1 e
       rw [hy] at hh
       simp only [Option.some_or,Option.some.injEq] at hh
       rw [hh] at hy
       exact ih hy hkn
      ·obtain rfl:k=n:=by omega
       have e:((List.range k).findSome? (fun k=>((List.range (L.dvN r)).find? (L.dvOk w gr g r k)).map fun j=>(k,j)))=none:=List.findSome?_eq_none_iff.2 fun k2 hk2=>by
        rw [Option.map_eq_none_iff,List.find?_eq_none]
        intro j2 hj2
        rw [h1 k2 (List.mem_range.1 hk2) j2 (List.mem_range.1 hj2)];decide
       rw [e] at hh
       simp only [Option.none_or,List.findSome?_cons,List.findSome?_nil] at hh
       cases h3:(List.range (L.dvN r)).find? (L.dvOk w gr g r k) with
       | none=>rw [h3] at hh;cases hh
       | some j2 =>
         rw [h3] at hh
         simp only [Option.map_some,Option.some.injEq,Prod.mk.injEq] at hh
         obtain ⟨rfl,rfl⟩:=hh
         refine ⟨rfl,?_⟩
         have h5:=List.find?_some h3
         rw [List.find?_range_eq_some] at h3
         obtain ⟨_,_,h4⟩:=h3
         rcases Nat.lt_trichotomy j2 j with h6 | h6 | h6
         ·rw [h2 j2 h6] at h5;cases h5
         ·exact h6
         ·have:=h4 j h6
          rw [h] at this;cases this
   obtain ⟨rfl,rfl⟩:=hfirst (L.partN g) hf hk
   rfl
theorem dvF_none {w:L.Sq L.Want} {gr g:Int} {r:L.Area} (h1:∀ k,k<L.partN g -> ∀ j,j<L.dvN r->L.dvOk w gr g r k j=false):L.dvF w gr g r=none:=List.findSome?_eq_none_iff.2 fun k hk=>by
 rw [Option.map_eq_none_iff,List.find?_eq_none]
 intro j hj
 rw [h1 k (List.mem_range.1 hk) j (List.mem_range.1 hj)];decide
theorem dvI_bd {r:L.Area} (h:L.okA r) {j:Nat} (hj:j<L.dvN r):1 <= L.dvI r j/\L.dvI r j<4096/\(L.dvU r j=true->L.dvI r j<r.size.w)/\(L.dvU r j=false->L.dvI r j<r.size.h):=by
 obtain ⟨h1,h2,h3,h4,h5,h6⟩:=h
 have eW:L.dvW r=(r.size.w - 1).toNat:=rfl
 have eN:L.dvN r=(r.size.w - 1).toNat+(r.size.h - 1).toNat:=rfl
 by_cases hl:j<L.dvW r
 ·have e:L.dvU r j=true:=decide_eq_true hl
  unfold L.dvI
  rw [e,cond_true]
  refine ⟨by omega,by omega,fun _=>by omega,(fun h=>by cases h)⟩
 ·have e:L.dvU r j=false:=decide_eq_false hl
  unfold L.dvI
  rw [e,cond_false]
  refine ⟨by omega,by omega,(fun h=>by cases h),fun _=>by omega⟩
theorem okA_div {r:L.Area} (h:L.okA r) {j:Nat} (hj:j<L.dvN r):L.okA (L.divA r (L.dvU r j) (L.dvI r j))/\L.okA (L.divB r (L.dvU r j) (L.dvI r j)):=by
 obtain ⟨b1,b2,b3,b4⟩:=dvI_bd h hj
 obtain ⟨h1,h2,h3,h4,h5,h6⟩:=h
 cases e:L.dvU r j with
 | true =>
   have:=b3 e
   unfold L.divA L.divB L.okA
   simp only [cond_true]
   refine ⟨⟨h1,h2,?_,h4,?_,h6⟩,?_,h2,?_,h4,?_,h6⟩ <;> omega
 | false =>
   have:=b4 e
   unfold L.divA L.divB L.okA
   simp only [cond_false]
   refine ⟨⟨h1,h2,h3,?_,h5,?_⟩,h1,?_,h3,?_,h5,?_⟩ <;> omega
theorem lay_fuel (w:L.Sq L.Want) (sh:L.Sheet):∀ (n m:Nat) (g:Int) (r:L.Area) (s:L.LS),0 <= g->g <= 15->g<n->g<m->L.lay w sh n g r s=L.lay w sh m g r s
 | 0,_,g,r,s,h0,h15,h,_=>by omega
 | n+1,0,g,r,s,h0,h15,_,h=>by omega
 | n+1,m+1,g,r,s,h0,h15,h,h'=>by
   rw [L.lay,L.lay]
   by_cases e:g=0
   ·rw [if_pos e,if_pos e]
   ·rw [if_neg e,if_neg e]
    cases h1:L.isOne g with
    | true=>rfl
    | false =>
      rw [if_neg (by decide),if_neg (by decide)]
      cases hd:L.dvF w sh.grain g r with
      | none=>rfl
      | some x =>
        obtain ⟨k,j⟩:=x
        obtain ⟨p1,p2,p3,p4,_⟩:=(grp_prt (show 1 <= g by omega) h15 h1).2 k (dvF_some hd).1
        simp only
        rw [lay_fuel w sh n m (L.part g k) _ _ (by omega) (by omega) (by omega) (by omega),lay_fuel w sh n m (L.cmp_ g k) _ _ (by omega) (by omega) (by omega) (by omega)]
theorem layF_0 (w:L.Sq L.Want) (sh:L.Sheet) (r:L.Area) (s:L.LS):L.layF w sh 0 r s=s:=by unfold L.layF;rw [L.lay,if_pos rfl]
theorem layF_1 (w:L.Sq L.Want) (sh:L.Sheet) {g:Int} (r:L.Area) (s:L.LS) (h:1 <= g) (h1:L.isOne g=true):L.layF w sh g r s=⟨L.oneP w sh (L.ix1 g) r s.pl,L.oneQ w sh (L.ix1 g) r s.sc⟩:=by
 unfold L.layF;rw [L.lay,if_neg (by omega),if_pos h1]
theorem layF_none (w:L.Sq L.Want) (sh:L.Sheet) {g:Int} {r:L.Area} (s:L.LS) (h:1 <= g) (h1:L.isOne g=false) (hd:L.dvF w sh.grain g r=none):L.layF w sh g r s=s:=by
 unfold L.layF;rw [L.lay,if_neg (by omega),if_neg (by rw [h1];decide),hd]
theorem layF_some (w:L.Sq L.Want) (sh:L.Sheet) {g:Int} {r:L.Area} (s:L.LS) (h:1 <= g) (h15:g <= 15) (h1:L.isOne g=false) {k j:Nat} (hd:L.dvF w sh.grain g r=some (k,j)) :
  L.layF w sh g r s=L.layF w sh (L.cmp_ g k) (L.divB r (L.dvU r j) (L.dvI r j)) (L.layF w sh (L.part g k) (L.divA r (L.dvU r j) (L.dvI r j)) ⟨s.pl,L.snocC s.sc (L.splt r sh.id (L.dvU r j) (L.dvI r j))⟩):=by
 obtain ⟨p1,p2,p3,p4,_⟩:=(grp_prt h h15 h1).2 k (dvF_some hd).1
 have e:L.layF w sh g r s=L.lay w sh (15+1) g r s:=rfl
 rw [e,L.lay,if_neg (by omega),if_neg (by rw [h1];decide),hd]
 simp only
 rw [lay_fuel w sh 15 16 (L.part g k) _ _ (by omega) (by omega) (by omega) (by omega),lay_fuel w sh 15 16 (L.cmp_ g k) _ _ (by omega) (by omega) (by omega) (by omega)]
 rfl
theorem oneQ_len (w:L.Sq L.Want) (sh:L.Sheet) (i:Nat) (r:L.Area) (S:List L.Score):(L.oneQ w sh i r S).length <= S.length+2:=by
 unfold L.oneQ L.oneS1
 cases decide ((L.oneB w sh i r).w<r.size.w) <;> cases decide ((L.oneB w sh i r).h<(L.oneR1 w sh i r).size.h) <;> simp [snocC_len]
theorem lay_len (w:L.Sq L.Want) (sh:L.Sheet):∀ (n:Nat) (g:Int) (r:L.Area) (s:L.LS),0 <= g->g <= 15->g<n->(L.lay w sh n g r s).sc.length <= s.sc.length+(3 * g - 1).toNat
 | 0,g,r,s,h0,h15,h=>by omega
 | n+1,g,r,s,h0,h15,h=>by
   rw [L.lay]
   by_cases e:g=0
   ·rw [if_pos e];omega
   ·rw [if_neg e]
    cases h1:L.isOne g with
    | true =>
      rw [if_pos rfl]
      have:=oneQ_len w sh (L.ix1 g) r s.sc
      simp only;omega
    | false =>
      rw [if_neg (by decide)]
      cases hd:L.dvF w sh.grain g r with
      | none=>simp only;omega
      | some x =>
        obtain ⟨k,j⟩:=x
        obtain ⟨p1,p2,p3,p4,p5⟩:=(grp_prt (show 1 <= g by omega) h15 h1).2 k (dvF_some hd).1
        simp only
        have b1:=lay_len w sh n (L.part g k) (L.divA r (L.dvU r j) (L.dvI r j)) ⟨s.pl,L.snocC s.sc (L.splt r sh.id (L.dvU r j) (L.dvI r j))⟩ (by omega) (by omega) (by omega)
        have b2:=lay_len w sh n (L.cmp_ g k) (L.divB r (L.dvU r j) (L.dvI r j)) (L.lay w sh n (L.part g k) (L.divA r (L.dvU r j) (L.dvI r j)) ⟨s.pl,L.snocC s.sc (L.splt r sh.id (L.dvU r j) (L.dvI r j))⟩) (by omega) (by omega) (by omega)
        simp only [snocC_len] at b1
        omega
theorem layF_len (w:L.Sq L.Want) (sh:L.Sheet) (g:Int) (r:L.Area) (s:L.LS) (h0:0 <= g) (h15:g <= 15):(L.layF w sh g r s).sc.length <= s.sc.length+(3 * g - 1).toNat:=lay_len w sh 16 g r s h0 h15 (by omega)
theorem layPS_0 (w:L.Sq L.Want) (sh:L.Sheet) (r:L.Area) (P:Nat->L.Placed) (S:List L.Score):L.layP w sh 0 r P S=P/\L.layS w sh 0 r P S=S:=by unfold L.layP L.layS;rw [layF_0];exact ⟨rfl,rfl⟩
theorem layPS_1 (w:L.Sq L.Want) (sh:L.Sheet) {g:Int} (r:L.Area) (P:Nat->L.Placed) (S:List L.Score) (h:1 <= g) (h1:L.isOne g=true):L.layP w sh g r P S=L.oneP w sh (L.ix1 g) r P/\L.layS w sh g r P S=L.oneQ w sh (L.ix1 g) r S:=by
 unfold L.layP L.layS;rw [layF_1 w sh r _ h h1];exact ⟨rfl,rfl⟩
theorem layPS_none (w:L.Sq L.Want) (sh:L.Sheet) {g:Int} {r:L.Area} (P:Nat->L.Placed) (S:List L.Score) (h:1 <= g) (h1:L.isOne g=false) (hd:L.dvF w sh.grain g r=none):L.layP w sh g r P S=P/\L.layS w sh g r P S=S:=by
 unfold L.layP L.layS;rw [layF_none w sh _ h h1 hd];exact ⟨rfl,rfl⟩
theorem layPS_some (w:L.Sq L.Want) (sh:L.Sheet) {g:Int} {r:L.Area} (P:Nat->L.Placed) (S:List L.Score) (h:1 <= g) (h15:g <= 15) (h1:L.isOne g=false) {k j:Nat} (hd:L.dvF w sh.grain g r=some (k,j)) :
  L.layP w sh g r P S=L.layP w sh (L.cmp_ g k) (L.divB r (L.dvU r j) (L.dvI r j)) (L.layP w sh (L.part g k) (L.divA r (L.dvU r j) (L.dvI r j)) P (L.snocC S (L.splt r sh.id (L.dvU r j) (L.dvI r j)))) (L.layS w sh (L.part g k) (L.divA r (L.dvU r j) (L.dvI r j)) P (L.snocC S (L.splt r sh.id (L.dvU r j) (L.dvI r j)))) /\
  L.layS w sh g r P S=L.layS w sh (L.cmp_ g k) (L.divB r (L.dvU r j) (L.dvI r j)) (L.layP w sh (L.part g k) (L.divA r (L.dvU r j) (L.dvI r j)) P (L.snocC S (L.splt r sh.id (L.dvU r j) (L.dvI r j)))) (L.layS w sh (L.part g k) (L.divA r (L.dvU r j) (L.dvI r j)) P (L.snocC S (L.splt r sh.id (L.dvU r j) (L.dvI r j)))):=by
 unfold L.layP L.layS
 rw [layF_some w sh _ h h15 h1 hd]
 dsimp only
 generalize L.layF w sh (L.part g k) (L.divA r (L.dvU r j) (L.dvI r j)) _=X
 cases X
 exact ⟨rfl,rfl⟩
theorem layS_len (w:L.Sq L.Want) (sh:L.Sheet) (g:Int) (r:L.Area) (P:Nat->L.Placed) (S:List L.Score) (h0:0 <= g) (h15:g <= 15):(L.layS w sh g r P S).length <= S.length+(3 * g - 1).toNat:=layF_len w sh g r ⟨P,S⟩ h0 h15
section
attribute [local irreducible] L.part L.iandNot L.iand L.ior L.all L.lay L.layF L.roomB L.tabF L.tab L.oneP L.oneQ L.ix1 L.partN L.dvF
abbrev c_lay_mk:Mk:={ T:=(L.Sq L.Want) × (L.Sheet) × (Int->Bool) × (Nat->L.Placed) × (List L.Score) × (Int) × (L.Area),U:=Int->Bool,args:=fun t=>(fun w sh dom P S g r=>[.loc 1002 0,.p (.int .i64 g),.p ((.agg [.int .i64 r.at_.x,.int .i64 r.at_.y,.int .i64 r.size.w,.int .i64 r.size.h]))]) t.1 t.2.1 t.2.2.1 t.2.2.2.1 t.2.2.2.2.1 t.2.2.2.2.2.1 t.2.2.2.2.2.2,lkeys:=[1000,1001,1002,1003,1004],keys:=[],lent:=fun t=>(fun w sh dom P S g r=>[(1000,.blk 162 [.p ((.sl 4 w.n (fun i=>[.int .i64 ((w.g i).id),.int .i64 ((w.g i).colour),.int .i64 ((w.g i).grain),.sl 2 (w.g i).ol.n (fun i1=>[.int .i64 (((w.g i).ol.g i1).x),.int .i64 (((w.g i).ol.g i1).y)])]))),.p (.int .i64 sh.grain),.mapv 1001]),(1001,.mq 3 27 dom (L.memo (L.tabF w sh.grain))),(1002,.blk 117 [.loc 1000 0,.p (.int .i64 sh.id),.p (.int .i64 sh.colour),.p (.int .i64 sh.w),.p (.int .i64 sh.h),.p (.int .i64 sh.grain),.row 1003,.row 1004]),(1003,.row 57 5 w.n (fun k=>[.int .i64 ((P k).want),.int .i64 ((P k).sheet),.int .i64 ((P k).turn),.int .i64 ((P k).at_.x),.int .i64 ((P k).at_.y)])),(1004,.row 125 4 (L.sqC (S)).n (fun k=>L.scC ((L.sqC (S)).g k)))]) t.1 t.2.1 t.2.2.1 t.2.2.2.1 t.2.2.2.2.1 t.2.2.2.2.2.1 t.2.2.2.2.2.2,pre:=fun t=>(fun w sh dom P S g r=>L.okW w/\0 <= g/\g <= L.all w.n/\L.okA r/\(L.sqC S).n+3 * g.toNat <= 1000) t.1 t.2.1 t.2.2.1 t.2.2.2.1 t.2.2.2.2.1 t.2.2.2.2.2.1 t.2.2.2.2.2.2,post:=fun t u=>(fun w sh dom P S g r=>fun u=>True) t.1 t.2.1 t.2.2.1 t.2.2.2.1 t.2.2.2.2.1 t.2.2.2.2.2.1 t.2.2.2.2.2.2 u,lent':=fun t u=>(fun w sh dom P S g r=>fun u=>[(1000,.blk 162 [.p ((.sl 4 w.n (fun i=>[.int .i64 ((w.g i).id),.int .i64 ((w.g i).colour),.int .i64 ((w.g i).grain),.sl 2 (w.g i).ol.n (fun i1=>[.int .i64 (((w.g i).ol.g i1).x),.int .i64 (((w.g i).ol.g i1).y)])]))),.p (.int .i64 sh.grain),.mapv 1001]),(1001,.mq 3 27 u (L.memo (L.tabF w sh.grain))),(1002,.blk 117 [.loc 1000 0,.p (.int .i64 sh.id),.p (.int .i64 sh.colour),.p (.int .i64 sh.w),.p (.int .i64 sh.h),.p (.int .i64 sh.grain),.row 1003,.row 1004]),(1003,.row 57 5 w.n (fun k=>[.int .i64 (((L.layP w sh g r P S) k).want),.int .i64 (((L.layP w sh g r P S) k).sheet),.int .i64 (((L.layP w sh g r P S) k).turn),.int .i64 (((L.layP w sh g r P S) k).at_.x),.int .i64 (((L.layP w sh g r P S) k).at_.y)])),(1004,.row 125 4 (L.sqC (L.layS w sh g r P S)).n (fun k=>L.scC ((L.sqC (L.layS w sh g r P S)).g k)))]) t.1 t.2.1 t.2.2.1 t.2.2.2.1 t.2.2.2.2.1 t.2.2.2.2.2.1 t.2.2.2.2.2.2 u,own:=fun t u=>(fun w sh dom P S g r=>fun u=>[]) t.1 t.2.1 t.2.2.1 t.2.2.2.1 t.2.2.2.2.1 t.2.2.2.2.2.1 t.2.2.2.2.2.2 u,res:=fun t u=>(fun w sh dom P S g r=>fun u=>.p (.tup [])) t.1 t.2.1 t.2.2.1 t.2.2.2.1 t.2.2.2.2.1 t.2.2.2.2.2.1 t.2.2.2.2.2.2 u,mv:=some (1004,80) }
abbrev c_lay_mu:c_lay_mk.T->Nat:=fun t=>(fun w sh dom P S g r=>g.toNat) t.1 t.2.1 t.2.2.1 t.2.2.2.1 t.2.2.2.2.1 t.2.2.2.2.2.1 t.2.2.2.2.2.2
theorem c_lay_vc (rn:Nat) (w:L.Sq L.Want) (sh:L.Sheet) (dom:Int->Bool) (P:Nat->L.Placed) (S:List L.Score) (g:Int) (r:L.Area) (hp:c_lay_mk.pre (w,sh,dom,P,S,g,r)) (hmu:g.toNat<rn+1):vc Tryz.prog ({ muts:=[3],frz:=lookN [],specs:=lookS [(114,c_parts_S),(163,c_divisions_S),(164,c_divided_S),(165,c_split_S)],loops:=lookL [(4,{ T:=Nat,keep:=[3,4,5],keepO:=[3,80,1000,1001,1002,1003],chg:=fun i=>[(6,.p (.int .i64 (i:Int)))],own:=fun _=>[],inv:=fun i=>i <= L.ix1 g,mu:=fun i=>L.ix1 g - i })],iters:=lookI [(157,c_parts1_it),(190,c_divs1_it)],rfs:=lookR [(8,{ T:=Int->Bool,keep:=[3,4,5],keepO:=[3,80,1000,1002,1003],own:=fun _ d=>[(1001,.mq 3 27 d (L.memo (L.tabF w sh.grain)))],inv:=fun k _=>k <= L.partN g /\ ∀ k1,k1<k -> ∀ j,j<L.dvN r->L.dvOk w sh.grain g r k1 j=false }),(10,{ T:=(Int->Bool) × Nat,keep:=[3,4,5,7,31],keepO:=[3,7,80,1000,1002,1003],own:=fun _ t=>[(1001,.mq 3 27 t.1 (L.memo (L.tabF w sh.grain)))],inv:=fun j t=>j <= L.dvN r/\t.2<L.partN g /\ ∀ j1,j1<j->L.dvOk w sh.grain g r t.2 j1=false,tie:=fun t=>[(31,.int .i64 (L.part g t.2))] })],nils:=lookM [],mks:=lookK [(69,c_room_mk),(162,c_one_mk),(121,Mk.lt c_lay_mk c_lay_mu rn)],ren:=fun k=>if k=1004 then 80 else k,joins:=lookL [(14,{ T:=(Int->Bool) × Bool × Int × Bool × Int,keep:=[3,4,5,7,8,9,10,11,31],keepO:=[3,7,10,11,80,1000,1002,1003],chg:=fun t=>[(62,.p (.bool t.2.1))],own:=fun t=>[(1001,.mq 3 27 t.1 (L.memo (L.tabF w sh.grain)))],inv:=fun t=>t.2.1=L.dvOkV w sh.grain g r t.2.2.1 t.2.2.2.1 t.2.2.2.2,mu:=fun _=>0,tie:=fun t=>[(8,.bool t.2.2.2.1),(9,.int .i64 t.2.2.2.2),(31,.int .i64 t.2.2.1)] }),(15,{ T:=Bool × Int,keep:=[3,4,5,7,8,9,10,11,31],keepO:=[3,7,10,11,1000,1001,1002,1003],chg:=fun _=>[],own:=fun t=>[(80,.row 125 4 (L.sqC ((L.snocC S (L.splt r sh.id t.1 t.2)))).n (fun k=>L.scC ((L.sqC ((L.snocC S (L.splt r sh.id t.1 t.2)))).g k)))],inv:=fun _=>True,mu:=fun _=>0,tie:=fun t=>[(8,.bool t.1),(9,.int .i64 t.2)] })],anys:=[1013,1014],rek:=lookR2 [(1,[(1004,80)])] }) (bodyOf Tryz.f121) (stTr Tryz.f121 (c_lay_mk.args (w,sh,dom,P,S,g,r)) (c_lay_mk.lent (w,sh,dom,P,S,g,r))) (retMk Tryz.prog Tryz.f121 c_lay_mk (w,sh,dom,P,S,g,r)) :=
 @Eq.mpr _ (let I:=SV.int .i64;let T:=Int.toNat;let A68:=(1:Nat);let A67:=(1000:Nat);let A65:=(140737488355328:Nat);let A54:=(1:Int);let A34:=(0:Int);let A29:=(nat_lit 7);let A27:=(0:Nat);let A26:=(nat_lit 31);let A25:=(2:Nat);let A22:=(L.sqC S);let A19:=(L.sqC (L.layS w sh g r P S));let A33:=(A22.n=A19.n /\ ∀ (i:Nat),i<A22.n->L.scC (A22.g i)=L.scC (A19.g i));let A16:=(w.n=w.n /\ ∀ (i:Nat),let A30:=(L.layP w sh g r P S i);i<w.n -> [I (P i).want,I (P i).sheet,I (P i).turn,I (P i).at_.x,I (P i).at_.y] = [I A30.want,I A30.sheet,I A30.turn,I A30.at_.x,I A30.at_.y]);let A15:=(nat_lit 0);let A13:=(nat_lit 3);let A12:=(nat_lit 4);let A11:=(nat_lit 5);let A9:=(L.tabF w sh.grain);let A24:=(∀ (x:Int),dom x=true->L.memo A9 x=L.memo A9 x);let A6:=(A22.n=A22.n /\ ∀ (i:Nat),i<A22.n->L.scC (A22.g i)=L.scC (A22.g i));let A5:=[I r.at_.x,I r.at_.y,I r.size.w,I r.size.h];let A2:=(w.n=w.n /\ ∀ (i:Nat),let A35:=[I (P i).want,I (P i).sheet,I (P i).turn,I (P i).at_.x,I (P i).at_.y];i<w.n->A35=A35);let A1:=(w.n=w.n /\ ∀ (i:Nat),let A21:=[I (w.g i).id,I (w.g i).colour,I (w.g i).grain,SV.sl A25 (w.g i).ol.n fun (i1:Nat)=>[I ((w.g i).ol.g i1).x,I ((w.g i).ol.g i1).y]];i<w.n->A21=A21);(decide (g=A34)=true -> ∃ (u:Int->Bool),A1/\sh.grain=sh.grain/\(∀ (x:Int),dom x=u x)/\A24/\nat_lit 0=A27/\sh.id=sh.id/\sh.colour=sh.colour/\sh.w=sh.w/\sh.h=sh.h/\sh.grain=sh.grain/\A16/\A33/\True)/\(decide (g=A34)=false->InK .i64 (g - A54)/\(decide (L.iand g (g - A54)=A34)=true->(∃ (g_1:Nat),A34=(↑g_1:Int)/\g_1 <= L.ix1 g) /\ ∀ (g_1:Nat),let A41:=(↑g_1:Int);g_1 <= L.ix1 g->A34 <= A41/\(decide (A54<L.ishr g A41)=true->InK .i64 (A41+A54) /\ ∃ (g':Nat),A41+A54=(↑g':Int)/\SV.ref A5 A15=SV.ref A5 A15/\SV.ref [I g] A15=SV.ref [I g] A15/\nat_lit 0=nat_lit 0/\nat_lit 0=nat_lit 0/\A1/\sh.grain=sh.grain/\(∀ (x:Int),dom x=dom x)/\A24/\nat_lit 0=nat_lit 0/\sh.id=sh.id/\sh.colour=sh.colour/\sh.w=sh.w/\sh.h=sh.h/\sh.grain=sh.grain/\A2/\A6/\g' <= L.ix1 g/\L.ix1 g - g'<L.ix1 g - g_1)/\(decide (A54<L.ishr g A41)=false -> ∃ (t:L.Sq L.Want × L.Sheet × (Int->Bool) × (Nat->L.Placed) × List L.Score × Nat × L.Area),let A61:=(L.tabF t.1 t.2.1.grain);let A44:=(L.sqC t.snd.snd.snd.2.1);let A20:=(L.sqC (L.oneQ t.1 t.2.1 t.snd.snd.snd.snd.2.1 t.snd.snd.snd.snd.2.2 t.snd.snd.snd.2.1));nat_lit 0=A27/\A41=(↑t.snd.snd.snd.snd.2.1:Int)/\SV.agg A5=SV.agg [I t.snd.snd.snd.snd.2.2.at_.x,I t.snd.snd.snd.snd.2.2.at_.y,I t.snd.snd.snd.snd.2.2.size.w,I t.snd.snd.snd.snd.2.2.size.h]/\(w.n=t.1.n /\ ∀ (i:Nat),let A55:=(t.1.g i);i<w.n -> [I (w.g i).id,I (w.g i).colour,I (w.g i).grain,SV.sl A25 (w.g i).ol.n fun (i1:Nat)=>[I ((w.g i).ol.g i1).x,I ((w.g i).ol.g i1).y]] = [I A55.id,I A55.colour,I A55.grain,SV.sl A25 A55.ol.n fun (i1:Nat)=>[I (A55.ol.g i1).x,I (A55.ol.g i1).y]])/\sh.grain=t.2.1.grain/\(∀ (x:Int),dom x=t.snd.2.1 x)/\(∀ (x:Int),dom x=true->L.memo A9 x=L.memo A61 x)/\nat_lit 0=A27/\sh.id=t.2.1.id/\sh.colour=t.2.1.colour/\sh.w=t.2.1.w/\sh.h=t.2.1.h/\sh.grain=t.2.1.grain/\(w.n=t.1.n /\ ∀ (i:Nat),let A37:=(t.snd.snd.2.1 i);i<w.n -> [I (P i).want,I (P i).sheet,I (P i).turn,I (P i).at_.x,I (P i).at_.y] = [I A37.want,I A37.sheet,I A37.turn,I A37.at_.x,I A37.at_.y])/\(A22.n=A44.n /\ ∀ (i:Nat),i<A22.n->L.scC (A22.g i)=L.scC (A44.g i))/\(t.snd.snd.snd.snd.2.1<t.1.n/\t.1.n <= (4:Nat)/\(t.1.g t.snd.snd.snd.snd.2.1).ol.n <= (1000000:Nat)/\L.okA t.snd.snd.snd.snd.2.2/\A44.n <= A67) /\ ∀ (u:Nat),True -> ∃ (u:Int->Bool),(t.1.n=w.n /\ ∀ (i:Nat),let A56:=(t.1.g i);i<t.1.n -> [I A56.id,I A56.colour,I A56.grain,SV.sl A25 A56.ol.n fun (i1:Nat)=>[I (A56.ol.g i1).x,I (A56.ol.g i1).y]] = [I (w.g i).id,I (w.g i).colour,I (w.g i).grain,SV.sl A25 (w.g i).ol.n fun (i1:Nat)=>[I ((w.g i).ol.g i1).x,I ((w.g i).ol.g i1).y]])/\t.2.1.grain=sh.grain/\(∀ (x:Int),t.snd.2.1 x=u x)/\(∀ (x:Int),t.snd.2.1 x=true->L.memo A61 x=L.memo A9 x)/\nat_lit 0=A27/\t.2.1.id=sh.id/\t.2.1.colour=sh.colour/\t.2.1.w=sh.w/\t.2.1.h=sh.h/\t.2.1.grain=sh.grain/\(t.1.n=w.n /\ ∀ (i:Nat),let A31:=(L.layP w sh g r P S i);let A14:=(L.oneP t.1 t.2.1 t.snd.snd.snd.snd.2.1 t.snd.snd.snd.snd.2.2 t.snd.snd.2.1 i);i<t.1.n -> [I A14.want,I A14.sheet,I A14.turn,I A14.at_.x,I A14.at_.y] = [I A31.want,I A31.sheet,I A31.turn,I A31.at_.x,I A31.at_.y])/\(A20.n=A19.n /\ ∀ (i:Nat),i<A20.n->L.scC (A20.g i)=L.scC (A19.g i))/\True))/\(decide (L.iand g (g - A54)=A34)=false->True/\((A34 <= g/\g <= (15:Int)) /\ ∃ (t:Int->Bool),(∀ (x:Int),dom x=t x)/\A24/\nat_lit 0=nat_lit 0/\A1/\sh.grain=sh.grain/\nat_lit 0=nat_lit 0/\sh.id=sh.id/\sh.colour=sh.colour/\sh.w=sh.w/\sh.h=sh.h/\sh.grain=sh.grain/\A2/\A6/\A27 <= L.partN g /\ ∀ (k1:Nat),k1<A27 -> ∀ (j:Nat),j<L.dvN r->L.dvOk w sh.grain g r k1 j=false)/\(∀ (k:Nat) (t:Int->Bool) (vk:Nat->Go.Value),k<L.partN g->(k <= L.partN g /\ ∀ (k1:Nat),k1<k -> ∀ (j:Nat),j<L.dvN r->L.dvOk w sh.grain g r k1 j=false)->True/\(L.okA r /\ ∃ (t_1:(Int->Bool) × Nat),(∀ (x:Int),t x=t_1.1 x)/\(∀ (x:Int),t x=true->L.memo A9 x=L.memo A9 x)/\L.part g k=L.part g k/\nat_lit 0=nat_lit 0/\A1/\sh.grain=sh.grain/\nat_lit 0=nat_lit 0/\sh.id=sh.id/\sh.colour=sh.colour/\sh.w=sh.w/\sh.h=sh.h/\sh.grain=sh.grain/\A2/\A6/\L.part g k=L.part g t_1.2/\A27 <= L.dvN r/\t_1.2<L.partN g /\ ∀ (j1:Nat),j1<A27->L.dvOk w sh.grain g r t_1.2 j1=false)/\(∀ (k_1:Nat) (t_1:(Int->Bool) × Nat) (vk_1:Nat->Go.Value),let A64:=(L.dvI r k_1);let A63:=(L.dvU r k_1);let A39:=(L.okA r/\A34 <= L.dvI r k_1/\L.dvI r k_1 <= (4096:Int));let A7:=(L.splt r sh.id A63 A64);let A4:=(L.divB r A63 A64);let A3:=(L.divA r A63 A64);k_1<L.dvN r->(L.part g k=L.part g t_1.2/\k_1 <= L.dvN r/\t_1.2<L.partN g /\ ∀ (j1:Nat),j1<k_1->L.dvOk w sh.grain g r t_1.2 j1=false)->A39/\(∃ (t_2:L.Sq L.Want × Int × (Int->Bool) × Int × L.Size),let A53:=(L.tabF t_2.1 t_2.2.1);nat_lit 0=A27/\L.part g k=t_2.snd.snd.2.1/\SV.agg [I A3.size.w,I A3.size.h]=SV.agg [I t_2.snd.snd.2.2.w,I t_2.snd.snd.2.2.h]/\(w.n=t_2.1.n /\ ∀ (i:Nat),let A46:=(t_2.1.g i);i<w.n -> [I (w.g i).id,I (w.g i).colour,I (w.g i).grain,SV.sl A25 (w.g i).ol.n fun (i1:Nat)=>[I ((w.g i).ol.g i1).x,I ((w.g i).ol.g i1).y]] = [I A46.id,I A46.colour,I A46.grain,SV.sl A25 A46.ol.n fun (i1:Nat)=>[I (A46.ol.g i1).x,I (A46.ol.g i1).y]])/\sh.grain=t_2.2.1/\(∀ (x:Int),t_1.1 x=t_2.snd.2.1 x)/\(∀ (x:Int),t_1.1 x=true->L.memo A9 x=L.memo A53 x)/\(L.okW t_2.1/\A34 <= t_2.snd.snd.2.1/\t_2.snd.snd.2.1 <= L.all t_2.1.n) /\ ∀ (u:Int->Bool),True->(L.roomB t_2.1 t_2.2.1 t_2.snd.snd.2.1 t_2.snd.snd.2.2=true -> ∃ (t_3:L.Sq L.Want × Int × (Int->Bool) × Int × L.Size),let A66:=(L.tabF t_3.1 t_3.2.1);nat_lit 0=A27/\L.iandNot g (L.part g k)=t_3.snd.snd.2.1/\SV.agg [I A4.size.w,I A4.size.h]=SV.agg [I t_3.snd.snd.2.2.w,I t_3.snd.snd.2.2.h]/\(t_2.1.n=t_3.1.n /\ ∀ (i:Nat),let A48:=(t_3.1.g i);let A47:=(t_2.1.g i);i<t_2.1.n -> [I A47.id,I A47.colour,I A47.grain,SV.sl A25 A47.ol.n fun (i1:Nat)=>[I (A47.ol.g i1).x,I (A47.ol.g i1).y]] = [I A48.id,I A48.colour,I A48.grain,SV.sl A25 A48.ol.n fun (i1:Nat)=>[I (A48.ol.g i1).x,I (A48.ol.g i1).y]])/\t_2.2.1=t_3.2.1/\(∀ (x:Int),u x=t_3.snd.2.1 x)/\(∀ (x:Int),u x=true->L.memo A53 x=L.memo A66 x)/\(L.okW t_3.1/\A34 <= t_3.snd.snd.2.1/\t_3.snd.snd.2.1 <= L.all t_3.1.n) /\ ∀ (u:Int->Bool),True -> ∃ (g_1:(Int->Bool) × Bool × Int × Bool × Int),(bif L.roomB t_2.1 t_2.2.1 t_2.snd.snd.2.1 t_2.snd.snd.2.2 then L.roomB t_3.1 t_3.2.1 t_3.snd.snd.2.1 t_3.snd.snd.2.2 else false)=g_1.2.1/\nat_lit 0=nat_lit 0/\nat_lit 0=nat_lit 0/\L.dvI r k_1=L.dvI r k_1/\L.dvU r k_1=L.dvU r k_1/\nat_lit 0=nat_lit 0/\L.part g k=L.part g k/\SV.ref A5 A15=SV.ref A5 A15/\SV.ref [I g] A15=SV.ref [I g] A15/\nat_lit 0=nat_lit 0/\vk A11=vk A11/\vk A12=vk A12/\vk A13=vk A13/\vk_1 A29=vk_1 A29/\vk_1 A26=vk_1 A26/\vk_1 A11=vk_1 A11/\vk_1 A12=vk_1 A12/\vk_1 A13=vk_1 A13/\vk_1 A11=vk_1 A11/\vk_1 A12=vk_1 A12/\vk_1 A13=vk_1 A13/\(∀ (x:Int),u x=g_1.1 x)/\(∀ (x:Int),u x=true->L.memo A66 x=L.memo A9 x)/\A4.at_.x=A4.at_.x/\A4.at_.y=A4.at_.y/\A4.size.w=A4.size.w/\A4.size.h=A4.size.h/\A3.at_.x=A3.at_.x/\A3.at_.y=A3.at_.y/\A3.size.w=A3.size.w/\A3.size.h=A3.size.h/\L.part g k=L.part g k/\nat_lit 0=nat_lit 0/\(t_3.1.n=w.n /\ ∀ (i:Nat),let A49:=(t_3.1.g i);i<t_3.1.n -> [I A49.id,I A49.colour,I A49.grain,SV.sl A25 A49.ol.n fun (i1:Nat)=>[I (A49.ol.g i1).x,I (A49.ol.g i1).y]] = [I (w.g i).id,I (w.g i).colour,I (w.g i).grain,SV.sl A25 (w.g i).ol.n fun (i1:Nat)=>[I ((w.g i).ol.g i1).x,I ((w.g i).ol.g i1).y]])/\t_3.2.1=sh.grain/\nat_lit 0=nat_lit 0/\sh.id=sh.id/\sh.colour=sh.colour/\sh.w=sh.w/\sh.h=sh.h/\sh.grain=sh.grain/\A2/\A6/\L.dvU r k_1=g_1.snd.snd.2.1/\L.dvI r k_1=g_1.snd.snd.2.2/\L.part g k=g_1.snd.2.1/\g_1.2.1=L.dvOkV w sh.grain g r g_1.snd.2.1 g_1.snd.snd.2.1 g_1.snd.snd.2.2)/\(L.roomB t_2.1 t_2.2.1 t_2.snd.snd.2.1 t_2.snd.snd.2.2=false -> ∃ (g_1:(Int->Bool) × Bool × Int × Bool × Int),(bif L.roomB t_2.1 t_2.2.1 t_2.snd.snd.2.1 t_2.snd.snd.2.2 then false else false)=g_1.2.1/\nat_lit 0=nat_lit 0/\nat_lit 0=nat_lit 0/\L.dvI r k_1=L.dvI r k_1/\L.dvU r k_1=L.dvU r k_1/\nat_lit 0=nat_lit 0/\L.part g k=L.part g k/\SV.ref A5 A15=SV.ref A5 A15/\SV.ref [I g] A15=SV.ref [I g] A15/\nat_lit 0=nat_lit 0/\vk A11=vk A11/\vk A12=vk A12/\vk A13=vk A13/\vk_1 A29=vk_1 A29/\vk_1 A26=vk_1 A26/\vk_1 A11=vk_1 A11/\vk_1 A12=vk_1 A12/\vk_1 A13=vk_1 A13/\vk_1 A11=vk_1 A11/\vk_1 A12=vk_1 A12/\vk_1 A13=vk_1 A13/\(∀ (x:Int),u x=g_1.1 x)/\(∀ (x:Int),u x=true->L.memo A53 x=L.memo A9 x)/\A4.at_.x=A4.at_.x/\A4.at_.y=A4.at_.y/\A4.size.w=A4.size.w/\A4.size.h=A4.size.h/\A3.at_.x=A3.at_.x/\A3.at_.y=A3.at_.y/\A3.size.w=A3.size.w/\A3.size.h=A3.size.h/\L.part g k=L.part g k/\nat_lit 0=nat_lit 0/\(t_2.1.n=w.n /\ ∀ (i:Nat),let A50:=(t_2.1.g i);i<t_2.1.n -> [I A50.id,I A50.colour,I A50.grain,SV.sl A25 A50.ol.n fun (i1:Nat)=>[I (A50.ol.g i1).x,I (A50.ol.g i1).y]] = [I (w.g i).id,I (w.g i).colour,I (w.g i).grain,SV.sl A25 (w.g i).ol.n fun (i1:Nat)=>[I ((w.g i).ol.g i1).x,I ((w.g i).ol.g i1).y]])/\t_2.2.1=sh.grain/\nat_lit 0=nat_lit 0/\sh.id=sh.id/\sh.colour=sh.colour/\sh.w=sh.w/\sh.h=sh.h/\sh.grain=sh.grain/\A2/\A6/\L.dvU r k_1=g_1.snd.snd.2.1/\L.dvI r k_1=g_1.snd.snd.2.2/\L.part g k=g_1.snd.2.1/\g_1.2.1=L.dvOkV w sh.grain g r g_1.snd.2.1 g_1.snd.snd.2.1 g_1.snd.snd.2.2)) /\ ∀ (g_1:(Int->Bool) × Bool × Int × Bool × Int),let A59:=(∀ (x:Int),g_1.1 x=g_1.1 x);let A23:=(∀ (x:Int),g_1.1 x=true->L.memo A9 x=L.memo A9 x);L.dvU r k_1=g_1.snd.snd.2.1/\L.dvI r k_1=g_1.snd.snd.2.2/\L.part g k=g_1.snd.2.1/\g_1.2.1=L.dvOkV w sh.grain g r g_1.snd.2.1 g_1.snd.snd.2.1 g_1.snd.snd.2.2->(g_1.2.1=true->(A39/\((A22.n+nat_lit 1) * nat_lit 48 <= A65 /\ ∃ (g_2:Bool × Int),let A42:=(L.sqC (L.snocC S (L.splt r sh.id g_2.1 g_2.2)));nat_lit 0=nat_lit 0/\nat_lit 0=nat_lit 0/\L.dvI r k_1=L.dvI r k_1/\L.dvU r k_1=L.dvU r k_1/\nat_lit 0=nat_lit 0/\L.part g k=L.part g k/\SV.ref A5 A15=SV.ref A5 A15/\SV.ref [I g] A15=SV.ref [I g] A15/\nat_lit 0=nat_lit 0/\vk A11=vk A11/\vk A12=vk A12/\vk A13=vk A13/\vk_1 A29=vk_1 A29/\vk_1 A26=vk_1 A26/\vk_1 A11=vk_1 A11/\vk_1 A12=vk_1 A12/\vk_1 A13=vk_1 A13/\vk_1 A11=vk_1 A11/\vk_1 A12=vk_1 A12/\vk_1 A13=vk_1 A13/\(A22.n+nat_lit 1=A42.n /\ ∀ (i:Nat),i<A22.n+nat_lit 1->appGet A22.n (fun (k:Nat)=>L.scC (A22.g k)) (fun (x:Nat)=>[I A7.sheet,I A7.kind,I A7.want,SV.sl (nat_lit 2) A7.pts.n fun (i:Nat)=>[I (A7.pts.g i).x,I (A7.pts.g i).y]]) i=L.scC (A42.g i))/\A59/\A23/\A4.at_.x=A4.at_.x/\A4.at_.y=A4.at_.y/\A4.size.w=A4.size.w/\A4.size.h=A4.size.h/\A3.at_.x=A3.at_.x/\A3.at_.y=A3.at_.y/\A3.size.w=A3.size.w/\A3.size.h=A3.size.h/\L.part g k=L.part g k/\nat_lit 0=nat_lit 0/\A1/\sh.grain=sh.grain/\nat_lit 0=nat_lit 0/\sh.id=sh.id/\sh.colour=sh.colour/\sh.w=sh.w/\sh.h=sh.h/\sh.grain=sh.grain/\A2/\L.dvU r k_1=g_2.1/\L.dvI r k_1=g_2.2/\True)/\(A22.n+nat_lit 1) * nat_lit 48 <= A65 /\ ∃ (g_2:Bool × Int),let A43:=(L.sqC (L.snocC S (L.splt r sh.id g_2.1 g_2.2)));nat_lit 0=nat_lit 0/\nat_lit 0=nat_lit 0/\L.dvI r k_1=L.dvI r k_1/\L.dvU r k_1=L.dvU r k_1/\nat_lit 0=nat_lit 0/\L.part g k=L.part g k/\SV.ref A5 A15=SV.ref A5 A15/\SV.ref [I g] A15=SV.ref [I g] A15/\nat_lit 0=nat_lit 0/\vk A11=vk A11/\vk A12=vk A12/\vk A13=vk A13/\vk_1 A29=vk_1 A29/\vk_1 A26=vk_1 A26/\vk_1 A11=vk_1 A11/\vk_1 A12=vk_1 A12/\vk_1 A13=vk_1 A13/\vk_1 A11=vk_1 A11/\vk_1 A12=vk_1 A12/\vk_1 A13=vk_1 A13/\(A22.n+nat_lit 1=A43.n /\ ∀ (i:Nat),i<A22.n+nat_lit 1->appGet A22.n (fun (k:Nat)=>L.scC (A22.g k)) (fun (x:Nat)=>[I A7.sheet,I A7.kind,I A7.want,SV.sl (nat_lit 2) A7.pts.n fun (i:Nat)=>[I (A7.pts.g i).x,I (A7.pts.g i).y]]) i=L.scC (A43.g i))/\A59/\A23/\A4.at_.x=A4.at_.x/\A4.at_.y=A4.at_.y/\A4.size.w=A4.size.w/\A4.size.h=A4.size.h/\A3.at_.x=A3.at_.x/\A3.at_.y=A3.at_.y/\A3.size.w=A3.size.w/\A3.size.h=A3.size.h/\L.part g k=L.part g k/\nat_lit 0=nat_lit 0/\A1/\sh.grain=sh.grain/\nat_lit 0=nat_lit 0/\sh.id=sh.id/\sh.colour=sh.colour/\sh.w=sh.w/\sh.h=sh.h/\sh.grain=sh.grain/\A2/\L.dvU r k_1=g_2.1/\L.dvI r k_1=g_2.2/\True) /\ ∀ (g_2:Bool × Int),let A28:=(L.sqC (L.snocC S (L.splt r sh.id g_2.1 g_2.2)));L.dvU r k_1=g_2.1/\L.dvI r k_1=g_2.2/\True -> ∃ (t:L.Sq L.Want × L.Sheet × (Int->Bool) × (Nat->L.Placed) × List L.Score × Int × L.Area),let A62:=(L.tabF t.1 t.2.1.grain);let A45:=(L.sqC t.snd.snd.snd.2.1);let A18:=(L.sqC (L.layS t.1 t.2.1 t.snd.snd.snd.snd.2.1 t.snd.snd.snd.snd.2.2 t.snd.snd.2.1 t.snd.snd.snd.2.1));nat_lit 0=A27/\L.part g k=t.snd.snd.snd.snd.2.1/\SV.agg [I A3.at_.x,I A3.at_.y,I A3.size.w,I A3.size.h]=SV.agg [I t.snd.snd.snd.snd.2.2.at_.x,I t.snd.snd.snd.snd.2.2.at_.y,I t.snd.snd.snd.snd.2.2.size.w,I t.snd.snd.snd.snd.2.2.size.h]/\(w.n=t.1.n /\ ∀ (i:Nat),let A57:=(t.1.g i);i<w.n -> [I (w.g i).id,I (w.g i).colour,I (w.g i).grain,SV.sl A25 (w.g i).ol.n fun (i1:Nat)=>[I ((w.g i).ol.g i1).x,I ((w.g i).ol.g i1).y]] = [I A57.id,I A57.colour,I A57.grain,SV.sl A25 A57.ol.n fun (i1:Nat)=>[I (A57.ol.g i1).x,I (A57.ol.g i1).y]])/\sh.grain=t.2.1.grain/\(∀ (x:Int),g_1.1 x=t.snd.2.1 x)/\(∀ (x:Int),g_1.1 x=true->L.memo A9 x=L.memo A62 x)/\nat_lit 0=A27/\sh.id=t.2.1.id/\sh.colour=t.2.1.colour/\sh.w=t.2.1.w/\sh.h=t.2.1.h/\sh.grain=t.2.1.grain/\(w.n=t.1.n /\ ∀ (i:Nat),let A38:=(t.snd.snd.2.1 i);i<w.n -> [I (P i).want,I (P i).sheet,I (P i).turn,I (P i).at_.x,I (P i).at_.y] = [I A38.want,I A38.sheet,I A38.turn,I A38.at_.x,I A38.at_.y])/\(A28.n=A45.n /\ ∀ (i:Nat),i<A28.n->L.scC (A28.g i)=L.scC (A45.g i))/\((L.okW t.1/\A34 <= t.snd.snd.snd.snd.2.1/\t.snd.snd.snd.snd.2.1 <= L.all t.1.n/\L.okA t.snd.snd.snd.snd.2.2/\A45.n+(3:Nat) * T t.snd.snd.snd.snd.2.1 <= A67)/\T t.snd.snd.snd.snd.2.1<rn) /\ ∀ (u:Int->Bool),True -> ∃ (t_2:L.Sq L.Want × L.Sheet × (Int->Bool) × (Nat->L.Placed) × List L.Score × Int × L.Area),let A60:=(L.tabF t_2.1 t_2.2.1.grain);let A40:=(L.sqC t_2.snd.snd.snd.2.1);let A17:=(L.sqC (L.layS t_2.1 t_2.2.1 t_2.snd.snd.snd.snd.2.1 t_2.snd.snd.snd.snd.2.2 t_2.snd.snd.2.1 t_2.snd.snd.snd.2.1));nat_lit 0=A27/\L.iandNot g (L.part g k)=t_2.snd.snd.snd.snd.2.1/\SV.agg [I A4.at_.x,I A4.at_.y,I A4.size.w,I A4.size.h]=SV.agg [I t_2.snd.snd.snd.snd.2.2.at_.x,I t_2.snd.snd.snd.snd.2.2.at_.y,I t_2.snd.snd.snd.snd.2.2.size.w,I t_2.snd.snd.snd.snd.2.2.size.h]/\(t.1.n=t_2.1.n /\ ∀ (i:Nat),let A58:=(t.1.g i);let A51:=(t_2.1.g i);i<t.1.n -> [I A58.id,I A58.colour,I A58.grain,SV.sl A25 A58.ol.n fun (i1:Nat)=>[I (A58.ol.g i1).x,I (A58.ol.g i1).y]] = [I A51.id,I A51.colour,I A51.grain,SV.sl A25 A51.ol.n fun (i1:Nat)=>[I (A51.ol.g i1).x,I (A51.ol.g i1).y]])/\t.2.1.grain=t_2.2.1.grain/\(∀ (x:Int),u x=t_2.snd.2.1 x)/\(∀ (x:Int),u x=true->L.memo A62 x=L.memo A60 x)/\nat_lit 0=A27/\t.2.1.id=t_2.2.1.id/\t.2.1.colour=t_2.2.1.colour/\t.2.1.w=t_2.2.1.w/\t.2.1.h=t_2.2.1.h/\t.2.1.grain=t_2.2.1.grain/\(t.1.n=t_2.1.n /\ ∀ (i:Nat),let A36:=(t_2.snd.snd.2.1 i);let A10:=(L.layP t.1 t.2.1 t.snd.snd.snd.snd.2.1 t.snd.snd.snd.snd.2.2 t.snd.snd.2.1 t.snd.snd.snd.2.1 i);i<t.1.n -> [I A10.want,I A10.sheet,I A10.turn,I A10.at_.x,I A10.at_.y] = [I A36.want,I A36.sheet,I A36.turn,I A36.at_.x,I A36.at_.y])/\(A18.n=A40.n /\ ∀ (i:Nat),i<A18.n->L.scC (A18.g i)=L.scC (A40.g i))/\((L.okW t_2.1/\A34 <= t_2.snd.snd.snd.snd.2.1/\t_2.snd.snd.snd.snd.2.1 <= L.all t_2.1.n/\L.okA t_2.snd.snd.snd.snd.2.2/\A40.n+(3:Nat) * T t_2.snd.snd.snd.snd.2.1 <= A67)/\T t_2.snd.snd.snd.snd.2.1<rn) /\ ∀ (u:Int->Bool),True->nat_lit 0=nat_lit 0/\L.part g k=L.part g k/\SV.ref A5 A15=SV.ref A5 A15/\SV.ref [I g] A15=SV.ref [I g] A15/\nat_lit 0=nat_lit 0/\vk A11=vk A11/\vk A12=vk A12/\vk A13=vk A13/\vk_1 A29=vk_1 A29/\vk_1 A26=vk_1 A26/\vk_1 A11=vk_1 A11/\vk_1 A12=vk_1 A12/\vk_1 A13=vk_1 A13/\vk_1 A11=vk_1 A11/\vk_1 A12=vk_1 A12/\vk_1 A13=vk_1 A13/\SV.ref A5 A15=SV.ref A5 A15/\SV.ref [I g] A15=SV.ref [I g] A15/\nat_lit 0=nat_lit 0/\vk A11=vk A11/\vk A12=vk A12/\vk A13=vk A13 /\ ∃ (u_1:Int->Bool),(t_2.1.n=w.n /\ ∀ (i:Nat),let A52:=(t_2.1.g i);i<t_2.1.n -> [I A52.id,I A52.colour,I A52.grain,SV.sl A25 A52.ol.n fun (i1:Nat)=>[I (A52.ol.g i1).x,I (A52.ol.g i1).y]] = [I (w.g i).id,I (w.g i).colour,I (w.g i).grain,SV.sl A25 (w.g i).ol.n fun (i1:Nat)=>[I ((w.g i).ol.g i1).x,I ((w.g i).ol.g i1).y]])/\t_2.2.1.grain=sh.grain/\(∀ (x:Int),u x=u_1 x)/\(∀ (x:Int),u x=true->L.memo A60 x=L.memo A9 x)/\nat_lit 0=A27/\t_2.2.1.id=sh.id/\t_2.2.1.colour=sh.colour/\t_2.2.1.w=sh.w/\t_2.2.1.h=sh.h/\t_2.2.1.grain=sh.grain/\(t_2.1.n=w.n /\ ∀ (i:Nat),let A32:=(L.layP w sh g r P S i);let A8:=(L.layP t_2.1 t_2.2.1 t_2.snd.snd.snd.snd.2.1 t_2.snd.snd.snd.snd.2.2 t_2.snd.snd.2.1 t_2.snd.snd.snd.2.1 i);i<t_2.1.n -> [I A8.want,I A8.sheet,I A8.turn,I A8.at_.x,I A8.at_.y] = [I A32.want,I A32.sheet,I A32.turn,I A32.at_.x,I A32.at_.y])/\(A17.n=A19.n /\ ∀ (i:Nat),i<A17.n->L.scC (A17.g i)=L.scC (A19.g i))/\True)/\(g_1.2.1=false -> ∃ (t':(Int->Bool) × Nat),nat_lit 0=nat_lit 0/\L.part g k=L.part g k/\SV.ref A5 A15=SV.ref A5 A15/\SV.ref [I g] A15=SV.ref [I g] A15/\nat_lit 0=nat_lit 0/\vk A11=vk A11/\vk A12=vk A12/\vk A13=vk A13/\vk_1 A29=vk_1 A29/\vk_1 A26=vk_1 A26/\vk_1 A11=vk_1 A11/\vk_1 A12=vk_1 A12/\vk_1 A13=vk_1 A13/\vk_1 A11=vk_1 A11/\vk_1 A12=vk_1 A12/\vk_1 A13=vk_1 A13/\(∀ (x:Int),g_1.1 x=t'.1 x)/\A23/\L.part g k=L.part g k/\nat_lit 0=nat_lit 0/\A1/\sh.grain=sh.grain/\nat_lit 0=nat_lit 0/\sh.id=sh.id/\sh.colour=sh.colour/\sh.w=sh.w/\sh.h=sh.h/\sh.grain=sh.grain/\A2/\A6/\L.part g k=L.part g t'.2/\k_1+A68 <= L.dvN r/\t'.2<L.partN g /\ ∀ (j1:Nat),j1<k_1+A68->L.dvOk w sh.grain g r t'.2 j1=false)) /\ ∀ (t:(Int->Bool) × Nat),(L.part g k=L.part g t.2/\L.dvN r <= L.dvN r/\t.2<L.partN g /\ ∀ (j1:Nat),j1<L.dvN r->L.dvOk w sh.grain g r t.2 j1=false) -> ∃ (t':Int->Bool),SV.ref A5 A15=SV.ref A5 A15/\SV.ref [I g] A15=SV.ref [I g] A15/\nat_lit 0=nat_lit 0/\vk A11=vk A11/\vk A12=vk A12/\vk A13=vk A13/\(∀ (x:Int),t.1 x=t' x)/\(∀ (x:Int),t.1 x=true->L.memo A9 x=L.memo A9 x)/\nat_lit 0=nat_lit 0/\A1/\sh.grain=sh.grain/\nat_lit 0=nat_lit 0/\sh.id=sh.id/\sh.colour=sh.colour/\sh.w=sh.w/\sh.h=sh.h/\sh.grain=sh.grain/\A2/\A6/\k+A68 <= L.partN g /\ ∀ (k1:Nat),k1<k+A68 -> ∀ (j:Nat),j<L.dvN r->L.dvOk w sh.grain g r k1 j=false) /\ ∀ (t:Int->Bool),(L.partN g <= L.partN g /\ ∀ (k1:Nat),k1<L.partN g -> ∀ (j:Nat),j<L.dvN r->L.dvOk w sh.grain g r k1 j=false) -> ∃ (u:Int->Bool),A1/\sh.grain=sh.grain/\(∀ (x:Int),t x=u x)/\(∀ (x:Int),t x=true->L.memo A9 x=L.memo A9 x)/\nat_lit 0=A27/\sh.id=sh.id/\sh.colour=sh.colour/\sh.w=sh.w/\sh.h=sh.h/\sh.grain=sh.grain/\A16/\A33/\True))) (by kernel_rfl) (by
 conv=>zeta
 have hp:L.okW w/\0 <= g/\g <= L.all w.n/\L.okA r/\S.length+3 * g.toNat <= 1000:=hp
 have hmu:g.toNat<rn+1:=hmu
 obtain ⟨hok,hg0,hga,hA,hS⟩:=hp
 have hg15:g <= 15:=Int.le_trans hga (all_15 hok.1)
 have no0:∀ {p:Nat->Prop} (k:Nat),k<0->p k:=fun k h=>absurd h (Nat.not_lt_zero _)
 have f0:=layPS_0 w sh
 have f1:=fun (h:1 <= g) (h1:L.isOne g=true)=>layPS_1 w sh r P S h h1
 have fn:=fun (h:1 <= g) (h1:L.isOne g=false) (hd:L.dvF w sh.grain g r=none)=>layPS_none w sh P S h h1 hd
 have fs:=fun (h:1 <= g) (h15:g <= 15) (h1:L.isOne g=false) {k j:Nat} (hd:L.dvF w sh.grain g r=some (k,j))=>layPS_some w sh P S h h15 h1 hd
 have fl:=layS_len w sh
 generalize L.layP=lP at *
 generalize L.layS=lS at *
 refine ⟨fun h0=>?_,fun h0=>⟨InK64,fun h1=>?_,fun h1=>?_⟩⟩
 ·have h0:g=0:=of_decide_eq_true h0
  subst h0
  obtain ⟨eP,eS⟩:=f0 r P S
  rw [eP,eS]
  exact ⟨dom,(by (try dsimp only);(repeat' with_reducible apply And.intro) <;> first | with_reducible rfl | with_reducible exact fun _=>rfl | with_reducible exact fun _ _=>rfl | with_reducible exact trivial | exact rfl | (intro _;exact rfl) | (intro _ _;exact rfl) | exact trivial | (intro _ h_;exact absurd h_ (Nat.not_lt_zero _)))⟩
 ·have h0:¬ g=0:=of_decide_eq_false h0
  have hg1:1 <= g:=by omega
  have h1:L.isOne g=true:=h1
  obtain ⟨ge,gi⟩:=grp_one hg1 hg15 h1
  have gn:=ix1_lt hok.1 hg1 hga h1
  obtain ⟨eP,eS⟩:=f1 hg1 h1
  rw [eP,eS]
  refine ⟨⟨0,rfl,Nat.zero_le _⟩,fun k hk=>⟨Int.natCast_nonneg _,fun hc=>?_,fun hc=>?_⟩⟩
  ·have hc:1<L.ishr g k:=of_decide_eq_true hc
   have hlt:k<L.ix1 g:=by rw [ge] at hc;exact (shr_one gi hk).1 hc
   exact ⟨InK64,k+1,(by (try dsimp only);(repeat' with_reducible apply And.intro) <;> first | with_reducible rfl | with_reducible assumption | with_reducible exact fun _=>rfl | with_reducible exact fun _ _=>rfl | with_reducible exact trivial | exact hlt | exact rfl | (intro _;exact rfl) | (intro _ _;exact rfl) | exact (by omega) | exact trivial | (intro _ h_;exact absurd h_ (Nat.not_lt_zero _)))⟩
  ·have hc:¬ 1<L.ishr g k:=of_decide_eq_false hc
   have hke:k=L.ix1 g:=by
    rcases Nat.lt_or_ge k (L.ix1 g) with h | h
    ·exact absurd (by rw [ge];exact (shr_one gi hk).2 h) hc
    ·omega
   subst hke
   have hS1:(L.sqC S).n <= 1000:=by show S.length <= 1000;omega
   exact ⟨(w,sh,dom,P,S,L.ix1 g,r),(by (try dsimp only);(repeat' with_reducible apply And.intro) <;> first | with_reducible rfl | with_reducible assumption | with_reducible exact hok.1 | with_reducible exact (hok.2 _ gn) | with_reducible exact fun _=>rfl | with_reducible exact fun _ _=>rfl | with_reducible exact trivial | (intro _ _;exact ⟨dom,(by (try dsimp only);(repeat' with_reducible apply And.intro) <;> first | with_reducible rfl | with_reducible exact fun _=>rfl | with_reducible exact fun _ _=>rfl | with_reducible exact trivial | exact rfl | (intro _;exact rfl) | (intro _ _;exact rfl) | exact trivial | (intro _ h_;exact absurd h_ (Nat.not_lt_zero _)))⟩) | exact gn | exact hok.1 | exact (hok.2 _ gn) | exact hA | exact hS1 | exact rfl | (intro _;exact rfl) | (intro _ _;exact rfl) | exact trivial | (intro _ h_;exact absurd h_ (Nat.not_lt_zero _)))⟩
 ·have h0:¬ g=0:=of_decide_eq_false h0
  have hg1:1 <= g:=by omega
  have h1:L.isOne g=false:=h1
  obtain ⟨hp0,hpt⟩:=grp_prt hg1 hg15 h1
  refine ⟨trivial,⟨⟨hg0,hg15⟩,dom,(by (try dsimp only);(repeat' with_reducible apply And.intro) <;> first | with_reducible rfl | with_reducible exact Nat.zero_le _ | with_reducible exact fun _=>rfl | with_reducible exact fun _ _=>rfl | with_reducible exact trivial | (intro k1 h;exact absurd h (Nat.not_lt_zero _)) | exact Nat.zero_le _ | exact rfl | (intro _;exact rfl) | (intro _ _;exact rfl) | exact trivial | (intro _ h_;exact absurd h_ (Nat.not_lt_zero _)))⟩,fun k d vk hk hinv=>?_,fun d hinv=>?_⟩
  ·obtain ⟨hk1,hno⟩:=hinv
   obtain ⟨p1,p2,p3,p4,p5⟩:=hpt k hk
   refine ⟨trivial,⟨hA,(d,k),(by (try dsimp only);(repeat' with_reducible apply And.intro) <;> first | with_reducible rfl | with_reducible assumption | with_reducible exact Nat.zero_le _ | with_reducible exact fun _=>rfl | with_reducible exact fun _ _=>rfl | with_reducible exact trivial | (intro k1 h;exact absurd h (Nat.not_lt_zero _)) | exact Nat.zero_le _ | exact hk | exact rfl | (intro _;exact rfl) | (intro _ _;exact rfl) | exact trivial | (intro _ h_;exact absurd h_ (Nat.not_lt_zero _)))⟩,fun j t vk1 hj ht=>?_,fun t ht=>?_⟩
   ·obtain ⟨d1,k'⟩:=t
    obtain ⟨hkk,hj1,hk2,hno1⟩:=ht
    obtain rfl:=part_inj hg1 hg15 h1 hk hk2 hkk
    obtain ⟨b1,b2,b3,b4⟩:=dvI_bd hA hj
    obtain ⟨oA,oB⟩:=okA_div hA hj
    have c1:0 <= L.dvI r j:=by omega
    have c2:L.dvI r j <= 4096:=by omega
    have g1:L.part g k <= L.all w.n:=by omega
    have g2:L.cmp_ g k <= L.all w.n:=by omega
    refine ⟨⟨hA,c1,c2⟩,⟨(w,sh.grain,d1,L.part g k,(L.divA r (L.dvU r j) (L.dvI r j)).size),(by (try dsimp only);(repeat' with_reducible apply And.intro) <;> first | with_reducible rfl | with_reducible assumption | with_reducible exact Int.le_of_lt p1 | with_reducible exact fun _=>rfl | with_reducible exact fun _ _=>rfl | with_reducible exact trivial | (intro u _;exact ⟨fun hr1=>⟨(w,sh.grain,u,L.cmp_ g k,(L.divB r (L.dvU r j) (L.dvI r j)).size),(by (try dsimp only);(repeat' with_reducible apply And.intro) <;> first | with_reducible rfl | with_reducible assumption | with_reducible exact Int.le_of_lt p3 | with_reducible exact fun _=>rfl | with_reducible exact fun _ _=>rfl | with_reducible exact trivial | (intro u2 _;exact ⟨(u2,L.dvOk w sh.grain g r k j,L.part g k,L.dvU r j,L.dvI r j),(by (try dsimp only);(repeat' with_reducible apply And.intro) <;> first | with_reducible rfl | with_reducible exact fun _=>rfl | with_reducible exact fun _ _=>rfl | with_reducible exact trivial | exact rfl | (intro _;exact rfl) | (intro _ _;exact rfl) | exact trivial | (intro _ h_;exact absurd h_ (Nat.not_lt_zero _)))⟩) | exact hok | exact Int.le_of_lt p3 | exact g2 | exact rfl | (intro _;exact rfl) | (intro _ _;exact rfl) | exact trivial | (intro _ h_;exact absurd h_ (Nat.not_lt_zero _)))⟩,fun hr1=>⟨(u,false,L.part g k,L.dvU r j,L.dvI r j),(by (try dsimp only);(repeat' with_reducible apply And.intro) <;> first | with_reducible rfl | with_reducible exact fun _=>rfl | with_reducible exact fun _ _=>rfl | with_reducible exact trivial | exact rfl | (intro _;exact rfl) | (intro _ _;exact rfl) | exact (by rw [hr1];rfl) | exact (by show false=L.dvOk w sh.grain g r k j;unfold L.dvOk;rw [hr1];rfl) | exact trivial | (intro _ h_;exact absurd h_ (Nat.not_lt_zero _)))⟩⟩) | exact hok | exact Int.le_of_lt p1 | exact g1 | exact rfl | (intro _;exact rfl) | (intro _ _;exact rfl) | exact trivial | (intro _ h_;exact absurd h_ (Nat.not_lt_zero _)))⟩,fun x hx=>?_⟩
    obtain ⟨d2,b,p,up,by_⟩:=x
    obtain ⟨e1,e2,e3,e4⟩:=hx
    subst e1 e2 e3
    have e4:b=L.dvOk w sh.grain g r k j:=e4
    refine ⟨fun hb=>⟨?_,fun x2 hx2=>?_⟩,fun hb=>⟨(d2,k),?_⟩⟩
    ·have sz:((L.sqC S).n+1) * 48 <= 140737488355328:=by show (S.length+1) * 48 <= _;omega
     have sq1:=sqC_app (S:=S) (x:=L.splt r sh.id (L.dvU r j) (L.dvI r j)) rfl (r:=fun _=>L.scC (L.splt r sh.id (L.dvU r j) (L.dvI r j))) rfl
     repeat' with_reducible apply And.intro
     all_goals first | exact hA | exact c1 | exact c2 | exact sz | exact ⟨(L.dvU r j,L.dvI r j),(by (try dsimp only);(repeat' with_reducible apply And.intro) <;> first | with_reducible rfl | with_reducible exact sq1.1 | with_reducible exact sq1.2 | with_reducible exact fun _=>rfl | with_reducible exact fun _ _=>rfl | with_reducible exact trivial | exact sq1.1 | exact sq1.2 | exact rfl | (intro _;exact rfl) | (intro _ _;exact rfl) | exact trivial | (intro _ h_;exact absurd h_ (Nat.not_lt_zero _)))⟩
    ·obtain ⟨up2,by2⟩:=x2
     obtain ⟨e5,e6,_⟩:=hx2
     subst e5 e6
     have e4:true=L.dvOk w sh.grain g r k j:=hb ▸ e4
     have hd:=dvF_at hk hj e4.symm hno hno1
     obtain ⟨eP,eS⟩:=fs hg1 hg15 h1 hd
     have n1:(L.snocC S (L.splt r sh.id (L.dvU r j) (L.dvI r j))).length=S.length+1:=snocC_len _ _
     have l1:(L.sqC (L.snocC S (L.splt r sh.id (L.dvU r j) (L.dvI r j)))).n+3 * (L.part g k).toNat <= 1000:=by
      show (L.snocC S _).length+_ <= _
      omega
     have l2:(L.sqC (lS w sh (L.part g k) (L.divA r (L.dvU r j) (L.dvI r j)) P (L.snocC S (L.splt r sh.id (L.dvU r j) (L.dvI r j))))).n+3 * (L.cmp_ g k).toNat <= 1000:=by
      have:=fl (L.part g k) (L.divA r (L.dvU r j) (L.dvI r j)) P (L.snocC S (L.splt r sh.id (L.dvU r j) (L.dvI r j))) (by omega) (by omega)
      show (lS w sh (L.part g k) (L.divA r (L.dvU r j) (L.dvI r j)) P (L.snocC S (L.splt r sh.id (L.dvU r j) (L.dvI r j)))).length+_ <= _
      omega
     have m1:(L.part g k).toNat<rn:=by omega
     have m2:(L.cmp_ g k).toNat<rn:=by omega
     rw [eP,eS]
     exact ⟨(w,sh,d2,P,L.snocC S (L.splt r sh.id (L.dvU r j) (L.dvI r j)),L.part g k,L.divA r (L.dvU r j) (L.dvI r j)),(by (try dsimp only);(repeat' with_reducible apply And.intro) <;> first | with_reducible rfl | with_reducible assumption | with_reducible exact Int.le_of_lt p1 | with_reducible exact fun _=>rfl | with_reducible exact fun _ _=>rfl | with_reducible exact trivial | (intro u _;exact ⟨(w,sh,u,lP w sh (L.part g k) (L.divA r (L.dvU r j) (L.dvI r j)) P (L.snocC S (L.splt r sh.id (L.dvU r j) (L.dvI r j))),lS w sh (L.part g k) (L.divA r (L.dvU r j) (L.dvI r j)) P (L.snocC S (L.splt r sh.id (L.dvU r j) (L.dvI r j))),L.cmp_ g k,L.divB r (L.dvU r j) (L.dvI r j)),(by (try dsimp only);(repeat' with_reducible apply And.intro) <;> first | with_reducible rfl | with_reducible assumption | with_reducible exact Int.le_of_lt p3 | with_reducible exact fun _=>rfl | with_reducible exact fun _ _=>rfl | with_reducible exact trivial | (intro u2 _;exact (by (try dsimp only);(repeat' with_reducible apply And.intro) <;> first | with_reducible rfl | with_reducible exact fun _=>rfl | with_reducible exact fun _ _=>rfl | with_reducible exact trivial | exact ⟨u2,(by (try dsimp only);(repeat' with_reducible apply And.intro) <;> first | with_reducible rfl | with_reducible exact fun _=>rfl | with_reducible exact fun _ _=>rfl | with_reducible exact trivial | exact rfl | (intro _;exact rfl) | (intro _ _;exact rfl) | exact trivial | (intro _ h_;exact absurd h_ (Nat.not_lt_zero _)))⟩ | exact rfl | (intro _;exact rfl) | (intro _ _;exact rfl) | exact trivial | (intro _ h_;exact absurd h_ (Nat.not_lt_zero _)))) | exact hok | exact Int.le_of_lt p3 | exact g2 | exact oB | exact l2 | exact m2 | exact rfl | (intro _;exact rfl) | (intro _ _;exact rfl) | exact trivial | (intro _ h_;exact absurd h_ (Nat.not_lt_zero _)))⟩) | exact hok | exact Int.le_of_lt p1 | exact g1 | exact oA | exact l1 | exact m1 | exact rfl | (intro _;exact rfl) | (intro _ _;exact rfl) | exact trivial | (intro _ h_;exact absurd h_ (Nat.not_lt_zero _)))⟩
    ·have e4:L.dvOk w sh.grain g r k j=false:=hb ▸ e4.symm
     have nx:∀ j1,j1<j+1->L.dvOk w sh.grain g r k j1=false:=fun j1 h=>by
      rcases Nat.lt_succ_iff_lt_or_eq.1 h with h | rfl
      ·exact hno1 j1 h
      ·exact e4
     exact (by (try dsimp only);(repeat' with_reducible apply And.intro) <;> first | with_reducible rfl | with_reducible assumption | with_reducible exact fun _=>rfl | with_reducible exact fun _ _=>rfl | with_reducible exact trivial | exact hj | exact hk | exact nx | exact rfl | (intro _;exact rfl) | (intro _ _;exact rfl) | exact trivial | (intro _ h_;exact absurd h_ (Nat.not_lt_zero _)))
   ·obtain ⟨d1,k'⟩:=t
    obtain ⟨hkk,hj1,hk2,hno1⟩:=ht
    obtain rfl:=part_inj hg1 hg15 h1 hk hk2 hkk
    have nx:∀ k1,k1<k+1 -> ∀ j,j<L.dvN r->L.dvOk w sh.grain g r k1 j=false:=fun k1 h=>by
     rcases Nat.lt_succ_iff_lt_or_eq.1 h with h | rfl
     ·exact hno k1 h
     ·exact hno1
    exact ⟨d1,(by (try dsimp only);(repeat' with_reducible apply And.intro) <;> first | with_reducible rfl | with_reducible assumption | with_reducible exact fun _=>rfl | with_reducible exact fun _ _=>rfl | with_reducible exact trivial | exact hk | exact nx | exact rfl | (intro _;exact rfl) | (intro _ _;exact rfl) | exact trivial | (intro _ h_;exact absurd h_ (Nat.not_lt_zero _)))⟩
  ·have hd:L.dvF w sh.grain g r=none:=dvF_none hinv.2
   obtain ⟨eP,eS⟩:=fn hg1 h1 hd
   rw [eP,eS]
   exact ⟨d,(by (try dsimp only);(repeat' with_reducible apply And.intro) <;> first | with_reducible rfl | with_reducible exact fun _=>rfl | with_reducible exact fun _ _=>rfl | with_reducible exact trivial | exact rfl | (intro _;exact rfl) | (intro _ _;exact rfl) | exact trivial | (intro _ h_;exact absurd h_ (Nat.not_lt_zero _)))⟩)
theorem c_lay_en:Enters Tryz.prog 121:=fun args w=>by kernel_rfl
theorem c_lay_mok:MkOk Tryz.prog 121 c_lay_mk:=mk_rec c_lay_mu ⟨fun t=>rfl,fun t u=>rfl,fun t u=>rfl,fun t u=>⟨rfl,rfl,rfl⟩,.inr rfl,fun k h=>by have h:=List.mem_singleton.1 h;subst h;decide⟩ (fun rn ih=>mk_ok (n:=3) Tryz.func121 (c:=bodyOf Tryz.f121) (by kernel_rfl) mixed ⟨fun t=>rfl,fun t=>rfl,fun t u=>rfl,fun t u=>rfl,fun t u=>rfl,fun t u=>⟨rfl,rfl⟩,by kernel_rfl,by kernel_rfl⟩ (fun ⟨w,sh,dom,P,S,g,r⟩ hp=>⟨_,c_lay_vc rn w sh dom P S g r hp.1 hp.2,⟨show SpecsL Tryz.prog _ from (SpecsL.cons c_parts_ok c_parts_en (SpecsL.cons c_divisions_ok c_divisions_en (SpecsL.cons c_divided_ok c_divided_en (SpecsL.cons c_split_ok c_split_en SpecsL.nil)))),rfl,⟨show ItersL Tryz.prog _ from (ItersL.cons c_parts1_itok c_parts1_en (ItersL.cons c_divs1_itok c_divs1_en ItersL.nil)),⟨TrsOk.no1 (fun _=>rfl),⟨show MksL Tryz.prog _ from (MksL.cons c_room_mok c_room_en (MksL.cons c_one_mok c_one_en (MksL.cons ih c_lay_en MksL.nil))),FamsOk.none (fun _=>rfl)⟩⟩⟩⟩⟩))
end
end Go.Proofs.YtpgaejicfbpcmaaGreat
namespace Go.Proofs.YtpgaejicfbpcmaaGreat
open Go.SE Go.RowKit
set_option maxRecDepth 100000
set_option maxHeartbeats 40000000
set_option linter.unusedVariables false
attribute [local irreducible] vc
def L.whA (sh:L.Sheet):L.Area:=⟨⟨0,0⟩,⟨sh.w,sh.h⟩⟩
def L.noP:Nat->L.Placed:=fun _=>⟨0,0,0,⟨0,0⟩⟩
def L.laidF (w:L.Sq L.Want) (sh:L.Sheet):L.LS:=L.layF w sh (L.all w.n) (L.whA sh) ⟨L.noP,[]⟩
def L.laidP (w:L.Sq L.Want) (sh:L.Sheet):Nat->L.Placed:=(L.laidF w sh).pl
def L.laidS (w:L.Sq L.Want) (sh:L.Sheet):List L.Score:=(L.laidF w sh).sc
def L.lyE (w:L.Sq L.Want) (sh:L.Sheet):Int:=bif !decide (L.fitE w sh=0) then L.fitE w sh else bif !L.fitB w sh then 52 else 0
def L.lyPn (w:L.Sq L.Want) (sh:L.Sheet):Nat:=bif decide (L.lyE w sh=0) then w.n else 0
def L.lyS (w:L.Sq L.Want) (sh:L.Sheet):L.Sq L.Score:=L.sqC (bif decide (L.lyE w sh=0) then L.laidS w sh else [])
theorem vSheet_bd {s:L.Sheet} (h:L.vSheet s=true):1 <= s.w/\s.w <= 4096/\1 <= s.h/\s.h <= 4096/\0 <= s.grain/\s.grain <= 2/\1 <= s.id/\s.id <= 65535:=by
 unfold L.vSheet at h
 cases h1:L.within s.id 1 65535
 ·rw [h1] at h;cases h
 cases h2:L.within s.colour 1 16
 ·rw [h1,h2] at h;cases h
 cases h3:L.within s.w 1 4096
 ·rw [h1,h2,h3] at h;cases h
 cases h4:L.within s.h 1 4096
 ·rw [h1,h2,h3,h4] at h;cases h
 rw [h1,h2,h3,h4] at h
 have h:L.within s.grain 0 2=true:=h
 unfold L.within at h h1 h3 h4
 rw [Bool.and_eq_true,decide_eq_true_eq,decide_eq_true_eq] at h h1 h3 h4
 omega
theorem vSheets_of {s:L.Sq L.Sheet} (h:L.vSheets s=true) {i:Nat} (hi:i<s.n):L.vSheet (s.g i)=true:=by
 have:=allB_iff.1 h i hi
 simp only [Bool.not_eq_true'] at this
 unfold L.badAt at this
 cases h1:L.vSheet (s.g i)
 ·simp only [h1] at this;cases this
 ·rfl
theorem okA_wh {sh:L.Sheet} (h:L.vSheet sh=true):L.okA (L.whA sh):=by
 obtain ⟨h1,h2,h3,h4,_⟩:=vSheet_bd h
 exact ⟨Int.le_refl _,Int.le_refl _,by show 0 <= sh.w;omega,by show 0 <= sh.h;omega,by show 0+sh.w <= 4096;omega,by show 0+sh.h <= 4096;omega⟩
theorem fitE_0 {w:L.Sq L.Want} {s:L.Sheet} (h:L.fitE w s=0):L.vWants w=true/\L.vSheet s=true/\w.n <= 7:=by
 obtain ⟨h1,h2,-,h4,-⟩:=badE_0 h
 exact ⟨h1,vSheets_of (s:=L.oneSh s) (i:=0) h2 (show 0<1 by decide),h4⟩
section
attribute [local irreducible] L.part L.iandNot L.iand L.ior L.all L.lay L.layF L.roomB L.tabF L.tab
abbrev c_laid_mk:Mk:={ T:=(L.Sq L.Want) × (L.Sheet),U:=Int->Bool,args:=fun t=>(fun w sh=>[.p ((.sl 4 w.n (fun i=>[.int .i64 ((w.g i).id),.int .i64 ((w.g i).colour),.int .i64 ((w.g i).grain),.sl 2 (w.g i).ol.n (fun i1=>[.int .i64 (((w.g i).ol.g i1).x),.int .i64 (((w.g i).ol.g i1).y)])]))),.p ((.agg [.int .i64 sh.id,.int .i64 sh.colour,.int .i64 sh.w,.int .i64 sh.h,.int .i64 sh.grain]))]) t.1 t.2,lkeys:=[],keys:=[9,7,15,13,20],lent:=fun t=>(fun w sh=>[]) t.1 t.2,pre:=fun t=>(fun w sh=>L.okW w/\L.vSheet sh=true) t.1 t.2,post:=fun t u=>(fun w sh=>fun u=>True) t.1 t.2 u,lent':=fun t u=>(fun w sh=>fun u=>[]) t.1 t.2 u,own:=fun t u=>(fun w sh=>fun u=>[(9,.blk 162 [.p ((.sl 4 w.n (fun i=>[.int .i64 ((w.g i).id),.int .i64 ((w.g i).colour),.int .i64 ((w.g i).grain),.sl 2 (w.g i).ol.n (fun i1=>[.int .i64 (((w.g i).ol.g i1).x),.int .i64 (((w.g i).ol.g i1).y)])]))),.p (.int .i64 sh.grain),.mapv 7]),(7,.mq 3 27 u (L.memo (L.tabF w sh.grain))),(15,.blk 117 [.loc 9 0,.p (.int .i64 sh.id),.p (.int .i64 sh.colour),.p (.int .i64 sh.w),.p (.int .i64 sh.h),.p (.int .i64 sh.grain),.row 13,.row 20]),(13,.row 57 5 w.n (fun k=>[.int .i64 ((L.laidP w sh k).want),.int .i64 ((L.laidP w sh k).sheet),.int .i64 ((L.laidP w sh k).turn),.int .i64 ((L.laidP w sh k).at_.x),.int .i64 ((L.laidP w sh k).at_.y)])),(20,.row 125 4 (L.sqC (L.laidS w sh)).n (fun k=>L.scC ((L.sqC (L.laidS w sh)).g k)))]) t.1 t.2 u,res:=fun t u=>(fun w sh=>fun u=>.loc 15 0) t.1 t.2 u }
theorem c_laid_vc (w:L.Sq L.Want) (sh:L.Sheet) (hp:c_laid_mk.pre (w,sh)):vc Tryz.prog ({ cC with muts:=[15],nils:=lookM [(2,[(15,20,125,4)])],mks:=lookK [(62,c_shapesOf_mk),(65,c_full_mk),(121,c_lay_mk)],ren:=fun k=>if k=1000 then 9 else if k=1001 then 7 else if k=1002 then 15 else if k=1003 then 13 else if k=1004 then 20 else k,joins:=lookL [(2,{ T:=Nat,keep:=[0,3],keepO:=[],chg:=fun _=>[(5,.loc 15 0)],own:=fun _=>[(9,.blk 162 [.p ((.sl 4 w.n (fun i=>[.int .i64 ((w.g i).id),.int .i64 ((w.g i).colour),.int .i64 ((w.g i).grain),.sl 2 (w.g i).ol.n (fun i1=>[.int .i64 (((w.g i).ol.g i1).x),.int .i64 (((w.g i).ol.g i1).y)])]))),.p (.int .i64 sh.grain),.mapv 7]),(7,.mq 3 27 (fun _=>false) (L.memo (L.tabF w sh.grain))),(15,.blk 117 [.loc 9 0,.p (.int .i64 sh.id),.p (.int .i64 sh.colour),.p (.int .i64 sh.w),.p (.int .i64 sh.h),.p (.int .i64 sh.grain),.row 13,.p (.raw (.slice none 0 0))]),(13,.row 57 5 w.n (fun k=>[.int .i64 ((L.noP k).want),.int .i64 ((L.noP k).sheet),.int .i64 ((L.noP k).turn),.int .i64 ((L.noP k).at_.x),.int .i64 ((L.noP k).at_.y)]))],inv:=fun _=>True,mu:=fun _=>0 }),(3,{ T:=Int->Bool,keep:=[5],keepO:=[9],chg:=fun _=>[],own:=fun u=>[(7,.mq 3 27 u (L.memo (L.tabF w sh.grain))),(15,.blk 117 [.loc 9 0,.p (.int .i64 sh.id),.p (.int .i64 sh.colour),.p (.int .i64 sh.w),.p (.int .i64 sh.h),.p (.int .i64 sh.grain),.row 13,.row 20]),(13,.row 57 5 w.n (fun k=>[.int .i64 ((L.laidP w sh k).want),.int .i64 ((L.laidP w sh k).sheet),.int .i64 ((L.laidP w sh k).turn),.int .i64 ((L.laidP w sh k).at_.x),.int .i64 ((L.laidP w sh k).at_.y)])),(20,.row 125 4 (L.sqC (L.laidS w sh)).n (fun k=>L.scC ((L.sqC (L.laidS w sh)).g k)))],inv:=fun _=>True,mu:=fun _=>0 })],anys:=[1001,1002] }) (bodyOf Tryz.f72) (stTr Tryz.f72 (c_laid_mk.args (w,sh)) (c_laid_mk.lent (w,sh))) (retMk Tryz.prog Tryz.f72 c_laid_mk (w,sh)) :=
  @Eq.mpr _ (let I:=SV.int .i64;let T:=Int.toNat;let A34:=(↑w.n:Int);let A24:=(0:Int);let A57:=[I A24,I A24,I sh.w,I sh.h];let A22:=(nat_lit 0);let A20:=(L.sqC (L.laidS w sh));let A17:=(L.tabF w sh.grain);let A16:=(2:Nat);let A15:=(∀ (x:Int),false=false);let A12:=(0:Nat);let A9:=[I sh.id,I sh.colour,I sh.w,I sh.h,I sh.grain];let
 A8:=(A24 <= A34/\A34 <= A34/\A34 * (↑(nat_lit 40):Int) <= (140737488355328:Int));let A5:=(T A34=w.n /\ ∀ (i:Nat),let A60:=(L.noP i);i<T A34 -> [I A24,I A24,I A24,I A24,I A24] = [I A60.want,I A60.sheet,I A60.turn,I A60.at_.x,I A60.at_.y]);let A2:=(w.n=w.n /\ ∀ (i:Nat),let A21:=[I (w.g i).id,I (w.g i).colour,I (w.g i).grain,SV.sl A16 (w.g i).ol.n fun (i1 :
 Nat)=>[I ((w.g i).ol.g i1).x,I ((w.g i).ol.g i1).y]];i<w.n->A21=A21);let A7:=(∃ (t:L.Sq L.Want × Int × (Int->L.Sq L.Size)),(w.n=t.1.n /\ ∀ (i:Nat),let A39:=(t.1.g i);i<w.n -> [I (w.g i).id,I (w.g i).colour,I (w.g i).grain,SV.sl A16 (w.g i).ol.n fun (i1:Nat)=>[I ((w.g i).ol.g i1).x,I ((w.g i).ol.g i1).y]] = [I A39.id,I A39.colour,I A39.grain,SV.sl A16
 A39.ol.n fun (i1:Nat)=>[I (A39.ol.g i1).x,I (A39.ol.g i1).y]])/\sh.grain=t.2.1/\True /\ ∀ (u:Nat),True -> ∃ (g:Nat),nat_lit 0=A12/\SV.ref A9 A22=SV.ref A9 A22/\A2/\(t.1.n=w.n /\ ∀ (i:Nat),let A40:=(t.1.g i);i<t.1.n -> [I A40.id,I A40.colour,I A40.grain,SV.sl A16 A40.ol.n fun (i1:Nat)=>[I (A40.ol.g i1).x,I (A40.ol.g i1).y]] = [I (w.g i).id,I (w.g
 i).colour,I (w.g i).grain,SV.sl A16 (w.g i).ol.n fun (i1:Nat)=>[I ((w.g i).ol.g i1).x,I ((w.g i).ol.g i1).y]])/\t.2.1=sh.grain/\A15/\(∀ (x:Int),false=true->L.memo t.2.2 x=L.memo A17 x)/\nat_lit 0=A12/\sh.id=sh.id/\sh.colour=sh.colour/\sh.w=sh.w/\sh.h=sh.h/\sh.grain=sh.grain/\Value.slice Option.none A12 A12=Value.slice Option.none A12
 A12/\A5/\True);let A6:=(∃ (t:L.Sq L.Want × Int × (Int->L.Sq L.Size)),(w.n=t.1.n /\ ∀ (i:Nat),let A41:=(t.1.g i);i<w.n -> [I (w.g i).id,I (w.g i).colour,I (w.g i).grain,SV.sl A16 (w.g i).ol.n fun (i1:Nat)=>[I ((w.g i).ol.g i1).x,I ((w.g i).ol.g i1).y]] = [I A41.id,I A41.colour,I A41.grain,SV.sl A16 A41.ol.n fun (i1:Nat)=>[I (A41.ol.g i1).x,I (A41.ol.g
 i1).y]])/\sh.grain=t.2.1/\True /\ ∀ (u:Nat),True->A8 /\ ∃ (g:Nat),nat_lit 0=A12/\SV.ref A9 A22=SV.ref A9 A22/\A2/\(t.1.n=w.n /\ ∀ (i:Nat),let A42:=(t.1.g i);i<t.1.n -> [I A42.id,I A42.colour,I A42.grain,SV.sl A16 A42.ol.n fun (i1:Nat)=>[I (A42.ol.g i1).x,I (A42.ol.g i1).y]] = [I (w.g i).id,I (w.g i).colour,I (w.g i).grain,SV.sl A16 (w.g
 i).ol.n fun (i1:Nat)=>[I ((w.g i).ol.g i1).x,I ((w.g i).ol.g i1).y]])/\t.2.1=sh.grain/\A15/\(∀ (x:Int),false=true->L.memo t.2.2 x=L.memo A17 x)/\nat_lit 0=A12/\sh.id=sh.id/\sh.colour=sh.colour/\sh.w=sh.w/\sh.h=sh.h/\sh.grain=sh.grain/\Value.slice Option.none A12 A12=Value.slice Option.none A12 A12/\A5/\True);let A4:=(A8/\A7 /\ ∃ (t:L.Sq
 L.Want × Int × (Int->L.Sq L.Size)),(w.n=t.1.n /\ ∀ (i:Nat),let A43:=(t.1.g i);i<w.n -> [I (w.g i).id,I (w.g i).colour,I (w.g i).grain,SV.sl A16 (w.g i).ol.n fun (i1:Nat)=>[I ((w.g i).ol.g i1).x,I ((w.g i).ol.g i1).y]] = [I A43.id,I A43.colour,I A43.grain,SV.sl A16 A43.ol.n fun (i1:Nat)=>[I (A43.ol.g i1).x,I (A43.ol.g i1).y]])/\sh.grain=t.2.1/\True /\ ∀ (u :
 Nat),True -> ∃ (g:Nat),nat_lit 0=A12/\SV.ref A9 A22=SV.ref A9 A22/\A2/\(t.1.n=w.n /\ ∀ (i:Nat),let A44:=(t.1.g i);i<t.1.n -> [I A44.id,I A44.colour,I A44.grain,SV.sl A16 A44.ol.n fun (i1:Nat)=>[I (A44.ol.g i1).x,I (A44.ol.g i1).y]] = [I (w.g i).id,I (w.g i).colour,I (w.g i).grain,SV.sl A16 (w.g i).ol.n fun (i1:Nat)=>[I ((w.g i).ol.g i1).x,I
 ((w.g i).ol.g i1).y]])/\t.2.1=sh.grain/\A15/\(∀ (x:Int),false=true->L.memo t.2.2 x=L.memo A17 x)/\nat_lit 0=A12/\sh.id=sh.id/\sh.colour=sh.colour/\sh.w=sh.w/\sh.h=sh.h/\sh.grain=sh.grain/\Value.slice Option.none A12 A12=Value.slice Option.none A12 A12/\A5/\True);let A3:=(A8 /\ ∃ (t:L.Sq L.Want × Int × (Int->L.Sq L.Size)),(w.n=t.1.n /\ ∀ (i
:Nat),let A45:=(t.1.g i);i<w.n -> [I (w.g i).id,I (w.g i).colour,I (w.g i).grain,SV.sl A16 (w.g i).ol.n fun (i1:Nat)=>[I ((w.g i).ol.g i1).x,I ((w.g i).ol.g i1).y]] = [I A45.id,I A45.colour,I A45.grain,SV.sl A16 A45.ol.n fun (i1:Nat)=>[I (A45.ol.g i1).x,I (A45.ol.g i1).y]])/\sh.grain=t.2.1/\True /\ ∀ (u:Nat),True -> ∃ (g:Nat),nat_lit 0=A12/\SV.ref
 A9 A22=SV.ref A9 A22/\A2/\(t.1.n=w.n /\ ∀ (i:Nat),let A46:=(t.1.g i);i<t.1.n -> [I A46.id,I A46.colour,I A46.grain,SV.sl A16 A46.ol.n fun (i1:Nat)=>[I (A46.ol.g i1).x,I (A46.ol.g i1).y]] = [I (w.g i).id,I (w.g i).colour,I (w.g i).grain,SV.sl A16 (w.g i).ol.n fun (i1:Nat)=>[I ((w.g i).ol.g i1).x,I ((w.g i).ol.g i1).y]])/\t.2.1=sh.grain/\A15/\(∀ (x :
 Int),false=true->L.memo t.2.2 x=L.memo A17 x)/\nat_lit 0=A12/\sh.id=sh.id/\sh.colour=sh.colour/\sh.w=sh.w/\sh.h=sh.h/\sh.grain=sh.grain/\Value.slice Option.none A12 A12=Value.slice Option.none A12 A12/\A5/\True);((A6/\A6/\(∃ (t:L.Sq L.Want × Int × (Int->L.Sq L.Size)),let A25:=(∀ (x:Int),false=true->L.memo t.2.2 x=L.memo A17
 x);let A13:=(t.1.n=w.n /\ ∀ (i:Nat),let A47:=(t.1.g i);i<t.1.n -> [I A47.id,I A47.colour,I A47.grain,SV.sl A16 A47.ol.n fun (i1:Nat)=>[I (A47.ol.g i1).x,I (A47.ol.g i1).y]] = [I (w.g i).id,I (w.g i).colour,I (w.g i).grain,SV.sl A16 (w.g i).ol.n fun (i1:Nat)=>[I ((w.g i).ol.g i1).x,I ((w.g i).ol.g i1).y]]);(w.n=t.1.n /\ ∀ (i:Nat),let A48:=(t.1.g i);i <
 w.n -> [I (w.g i).id,I (w.g i).colour,I (w.g i).grain,SV.sl A16 (w.g i).ol.n fun (i1:Nat)=>[I ((w.g i).ol.g i1).x,I ((w.g i).ol.g i1).y]] = [I A48.id,I A48.colour,I A48.grain,SV.sl A16 A48.ol.n fun (i1:Nat)=>[I (A48.ol.g i1).x,I (A48.ol.g i1).y]])/\sh.grain=t.2.1/\True /\ ∀ (u:Nat),True->(A8 /\ ∃ (g:Nat),nat_lit 0=A12/\SV.ref A9 A22=SV.ref A9 A22
 /\ A2/\A13/\t.2.1=sh.grain/\A15/\A25/\nat_lit 0=A12/\sh.id=sh.id/\sh.colour=sh.colour/\sh.w=sh.w/\sh.h=sh.h/\sh.grain=sh.grain/\Value.slice Option.none A12 A12=Value.slice Option.none A12 A12/\A5/\True)/\A8 /\ ∃ (g:Nat),nat_lit 0=A12/\SV.ref A9 A22=SV.ref A9 A22/\A2/\A13/\t.2.1=sh.grain/\A15/\A25/\nat_lit 0=A12/\sh.id=sh.id /\
 sh.colour=sh.colour/\sh.w=sh.w/\sh.h=sh.h/\sh.grain=sh.grain/\Value.slice Option.none A12 A12=Value.slice Option.none A12 A12/\A5/\True) /\ ∃ (t:L.Sq L.Want × Int × (Int->L.Sq L.Size)),let A26:=(∀ (x:Int),false=true->L.memo t.2.2 x=L.memo A17 x);let A14:=(t.1.n=w.n /\ ∀ (i:Nat),let A49:=(t.1.g i);i<t.1.n -> [I A49.id,I A49.colour,I
 A49.grain,SV.sl A16 A49.ol.n fun (i1:Nat)=>[I (A49.ol.g i1).x,I (A49.ol.g i1).y]] = [I (w.g i).id,I (w.g i).colour,I (w.g i).grain,SV.sl A16 (w.g i).ol.n fun (i1:Nat)=>[I ((w.g i).ol.g i1).x,I ((w.g i).ol.g i1).y]]);(w.n=t.1.n /\ ∀ (i:Nat),let A50:=(t.1.g i);i<w.n -> [I (w.g i).id,I (w.g i).colour,I (w.g i).grain,SV.sl A16 (w.g i).ol.n fun (i1:Nat)=>[I
 ((w.g i).ol.g i1).x,I ((w.g i).ol.g i1).y]] = [I A50.id,I A50.colour,I A50.grain,SV.sl A16 A50.ol.n fun (i1:Nat)=>[I (A50.ol.g i1).x,I (A50.ol.g i1).y]])/\sh.grain=t.2.1/\True /\ ∀ (u:Nat),True->(A8 /\ ∃ (g:Nat),nat_lit 0=A12/\SV.ref A9 A22=SV.ref A9 A22/\A2/\A14/\t.2.1=sh.grain/\A15/\A26/\nat_lit 0=A12/\sh.id=sh.id/\sh.colour=sh.colour /\
 sh.w=sh.w/\sh.h=sh.h/\sh.grain=sh.grain/\Value.slice Option.none A12 A12=Value.slice Option.none A12 A12/\A5/\True)/\A8 /\ ∃ (g:Nat),nat_lit 0=A12/\SV.ref A9 A22=SV.ref A9 A22/\A2/\A14/\t.2.1=sh.grain/\A15/\A26/\nat_lit 0=A12/\sh.id=sh.id/\sh.colour=sh.colour/\sh.w=sh.w/\sh.h=sh.h/\sh.grain=sh.grain/\Value.slice Option.none A12
 A12=Value.slice Option.none A12 A12/\A5/\True)/\A3/\A4/\A3/\A4/\A3/\A8/\A7 /\ ∃ (t:L.Sq L.Want × Int × (Int->L.Sq L.Size)),(w.n=t.1.n /\ ∀ (i:Nat),let A51:=(t.1.g i);i<w.n -> [I (w.g i).id,I (w.g i).colour,I (w.g i).grain,SV.sl A16 (w.g i).ol.n fun (i1:Nat)=>[I ((w.g i).ol.g i1).x,I ((w.g i).ol.g i1).y]] = [I A51.id,I A51.colour,I A51.grain,SV.sl A16
 A51.ol.n fun (i1:Nat)=>[I (A51.ol.g i1).x,I (A51.ol.g i1).y]])/\sh.grain=t.2.1/\True /\ ∀ (u:Nat),True -> ∃ (g:Nat),nat_lit 0=A12/\SV.ref A9 A22=SV.ref A9 A22/\A2/\(t.1.n=w.n /\ ∀ (i:Nat),let A52:=(t.1.g i);i<t.1.n -> [I A52.id,I A52.colour,I A52.grain,SV.sl A16 A52.ol.n fun (i1:Nat)=>[I (A52.ol.g i1).x,I (A52.ol.g i1).y]] = [I (w.g i).id,I (w.g
 i).colour,I (w.g i).grain,SV.sl A16 (w.g i).ol.n fun (i1:Nat)=>[I ((w.g i).ol.g i1).x,I ((w.g i).ol.g i1).y]])/\t.2.1=sh.grain/\A15/\(∀ (x:Int),false=true->L.memo t.2.2 x=L.memo A17 x)/\nat_lit 0=A12/\sh.id=sh.id/\sh.colour=sh.colour/\sh.w=sh.w/\sh.h=sh.h/\sh.grain=sh.grain/\Value.slice Option.none A12 A12=Value.slice Option.none A12
 A12/\A5/\True) /\ ∀ (g:Nat),let A1:=(∃ (t:L.Sq L.Want × Int × (Int->L.Sq L.Size) × (Int->Bool)),nat_lit 0=A12/\(w.n=t.1.n /\ ∀ (i:Nat),let A53:=(t.1.g i);i<w.n -> [I (w.g i).id,I (w.g i).colour,I (w.g i).grain,SV.sl A16 (w.g i).ol.n fun (i1:Nat)=>[I ((w.g i).ol.g i1).x,I ((w.g i).ol.g i1).y]] = [I A53.id,I A53.colour,I A53.grain,SV.sl A16 A53.ol.n fun
 (i1:Nat)=>[I (A53.ol.g i1).x,I (A53.ol.g i1).y]])/\sh.grain=t.2.1/\(∀ (x:Int),false=t.snd.2.2 x)/\(∀ (x:Int),false=true->L.memo A17 x=L.memo t.snd.2.1 x)/\t.1.n <= (4:Nat) /\ ∀ (u:Nat),True -> ∃ (t_1:L.Sq L.Want × L.Sheet × (Int->Bool) × (Nat->L.Placed) × List L.Score × Int × L.Area),let A58:=(L.tabF t_1.1 t_1.2.1.grain);let A32:=(L.sqC
 t_1.snd.snd.snd.2.1);let A18:=(L.sqC (L.layS t_1.1 t_1.2.1 t_1.snd.snd.snd.snd.2.1 t_1.snd.snd.snd.snd.2.2 t_1.snd.snd.2.1 t_1.snd.snd.snd.2.1));nat_lit 0=A12/\L.all t.1.n=t_1.snd.snd.snd.snd.2.1/\SV.agg A57=SV.agg [I t_1.snd.snd.snd.snd.2.2.at_.x,I t_1.snd.snd.snd.snd.2.2.at_.y,I t_1.snd.snd.snd.snd.2.2.size.w,I t_1.snd.snd.snd.snd.2.2.size.h]/\(t.1.n=t_1.1.n /\ ∀ (i
:Nat),let A54:=(t.1.g i);let A35:=(t_1.1.g i);i<t.1.n -> [I A54.id,I A54.colour,I A54.grain,SV.sl A16 A54.ol.n fun (i1:Nat)=>[I (A54.ol.g i1).x,I (A54.ol.g i1).y]] = [I A35.id,I A35.colour,I A35.grain,SV.sl A16 A35.ol.n fun (i1:Nat)=>[I (A35.ol.g i1).x,I (A35.ol.g i1).y]])/\t.2.1=t_1.2.1.grain/\(∀ (x:Int),t.snd.2.2 x=t_1.snd.2.1 x)/\(∀ (x:Int),
 t.snd.2.2 x=true->L.memo t.snd.2.1 x=L.memo A58 x)/\nat_lit 0=A12/\sh.id=t_1.2.1.id/\sh.colour=t_1.2.1.colour/\sh.w=t_1.2.1.w/\sh.h=t_1.2.1.h/\sh.grain=t_1.2.1.grain/\(w.n=t_1.1.n /\ ∀ (i:Nat),let A61:=(L.noP i);let A27:=(t_1.snd.snd.2.1 i);i<w.n -> [I A61.want,I A61.sheet,I A61.turn,I A61.at_.x,I A61.at_.y] = [I A27.want,I A27.sheet,I A27.turn,I
 A27.at_.x,I A27.at_.y])/\(nat_lit 0=A32.n /\ ∀ (i:Nat),i<nat_lit 0 -> []=L.scC (A32.g i))/\(L.okW t_1.1/\A24 <= t_1.snd.snd.snd.snd.2.1/\t_1.snd.snd.snd.snd.2.1 <= L.all t_1.1.n/\L.okA t_1.snd.snd.snd.snd.2.2/\A32.n+(3:Nat) * T t_1.snd.snd.snd.snd.2.1 <= (1000:Nat)) /\ ∀ (u:Int->Bool),True -> ∃ (g:Int->Bool),nat_lit 0=nat_lit 0/\(∀ (x:Int),u x=g x)/\(∀ (x:Int),u
 x=true->L.memo A58 x=L.memo A17 x)/\nat_lit 0=A12/\t_1.2.1.id=sh.id/\t_1.2.1.colour=sh.colour/\t_1.2.1.w=sh.w/\t_1.2.1.h=sh.h/\t_1.2.1.grain=sh.grain/\(t_1.1.n=w.n /\ ∀ (i:Nat),let A29:=(L.laidP w sh i);let A10:=(L.layP t_1.1 t_1.2.1 t_1.snd.snd.snd.snd.2.1 t_1.snd.snd.snd.snd.2.2 t_1.snd.snd.2.1 t_1.snd.snd.snd.2.1 i);i<t_1.1.n -> [I A10.want,I A10.sheet,
 I A10.turn,I A10.at_.x,I A10.at_.y] = [I A29.want,I A29.sheet,I A29.turn,I A29.at_.x,I A29.at_.y])/\(A18.n=A20.n /\ ∀ (i:Nat),i<A18.n->L.scC (A18.g i)=L.scC (A20.g i))/\(t_1.1.n=w.n /\ ∀ (i:Nat),let A36:=(t_1.1.g i);i<t_1.1.n -> [I A36.id,I A36.colour,I A36.grain,SV.sl A16 A36.ol.n fun (i1:Nat)=>[I (A36.ol.g i1).x,I (A36.ol.g i1).y]] = [I (w.g i).id,I (w.g
 i).colour,I (w.g i).grain,SV.sl A16 (w.g i).ol.n fun (i1:Nat)=>[I ((w.g i).ol.g i1).x,I ((w.g i).ol.g i1).y]])/\t_1.2.1.grain=sh.grain/\True);True->(A1/\A1/\A1/\A1/\A1/\A1/\A1/\A1/\A1/\A1 /\ ∃ (t:L.Sq L.Want × Int × (Int->L.Sq L.Size) × (Int->Bool)),nat_lit 0=A12/\(w.n=t.1.n /\ ∀ (i:Nat),let A55:=(t.1.g i);i<w.n -> [I (w.g i).id,I (w.g i).colour,I (w.g
 i).grain,SV.sl A16 (w.g i).ol.n fun (i1:Nat)=>[I ((w.g i).ol.g i1).x,I ((w.g i).ol.g i1).y]] = [I A55.id,I A55.colour,I A55.grain,SV.sl A16 A55.ol.n fun (i1:Nat)=>[I (A55.ol.g i1).x,I (A55.ol.g i1).y]])/\sh.grain=t.2.1/\(∀ (x:Int),false=t.snd.2.2 x)/\(∀ (x:Int),false=true->L.memo A17 x=L.memo t.snd.2.1 x)/\t.1.n <= (4:Nat) /\ ∀ (u:Nat),
 True -> ∃ (t_1:L.Sq L.Want × L.Sheet × (Int->Bool) × (Nat->L.Placed) × List L.Score × Int × L.Area),let A59:=(L.tabF t_1.1 t_1.2.1.grain);let A33:=(L.sqC t_1.snd.snd.snd.2.1);let A19:=(L.sqC (L.layS t_1.1 t_1.2.1 t_1.snd.snd.snd.snd.2.1 t_1.snd.snd.snd.snd.2.2 t_1.snd.snd.2.1 t_1.snd.snd.snd.2.1));nat_lit 0=A12/\L.all t.1.n=t_1.snd.snd.snd.snd.2.1/\SV.agg A57 =
 SV.agg [I t_1.snd.snd.snd.snd.2.2.at_.x,I t_1.snd.snd.snd.snd.2.2.at_.y,I t_1.snd.snd.snd.snd.2.2.size.w,I t_1.snd.snd.snd.snd.2.2.size.h]/\(t.1.n=t_1.1.n /\ ∀ (i:Nat),let A56:=(t.1.g i);let A37:=(t_1.1.g i);i<t.1.n -> [I A56.id,I A56.colour,I A56.grain,SV.sl A16 A56.ol.n fun (i1:Nat)=>[I (A56.ol.g i1).x,I (A56.ol.g i1).y]] = [I A37.id,I A37.colour,I A37.grain,
 SV.sl A16 A37.ol.n fun (i1:Nat)=>[I (A37.ol.g i1).x,I (A37.ol.g i1).y]])/\t.2.1=t_1.2.1.grain/\(∀ (x:Int),t.snd.2.2 x=t_1.snd.2.1 x)/\(∀ (x:Int),t.snd.2.2 x=true->L.memo t.snd.2.1 x=L.memo A59 x)/\nat_lit 0=A12/\sh.id=t_1.2.1.id/\sh.colour=t_1.2.1.colour/\sh.w=t_1.2.1.w/\sh.h=t_1.2.1.h/\sh.grain=t_1.2.1.grain/\(w.n=t_1.1.n /\ ∀ (i:Nat),let
 A62:=(L.noP i);let A28:=(t_1.snd.snd.2.1 i);i<w.n -> [I A62.want,I A62.sheet,I A62.turn,I A62.at_.x,I A62.at_.y] = [I A28.want,I A28.sheet,I A28.turn,I A28.at_.x,I A28.at_.y])/\(nat_lit 0=A33.n /\ ∀ (i:Nat),i<nat_lit 0 -> []=L.scC (A33.g i))/\(L.okW t_1.1/\A24 <= t_1.snd.snd.snd.snd.2.1/\t_1.snd.snd.snd.snd.2.1 <= L.all t_1.1.n/\L.okA t_1.snd.snd.snd.snd.2.2/\A33.n+(3 :
 Nat) * T t_1.snd.snd.snd.snd.2.1 <= (1000:Nat)) /\ ∀ (u:Int->Bool),True -> ∃ (g:Int->Bool),nat_lit 0=nat_lit 0/\(∀ (x:Int),u x=g x)/\(∀ (x:Int),u x=true->L.memo A59 x=L.memo A17 x)/\nat_lit 0=A12/\t_1.2.1.id=sh.id/\t_1.2.1.colour=sh.colour/\t_1.2.1.w=sh.w/\t_1.2.1.h=sh.h/\t_1.2.1.grain=sh.grain/\(t_1.1.n=w.n /\ ∀ (i:Nat),let A30:=(L.laidP w sh
 i);let A11:=(L.layP t_1.1 t_1.2.1 t_1.snd.snd.snd.snd.2.1 t_1.snd.snd.snd.snd.2.2 t_1.snd.snd.2.1 t_1.snd.snd.snd.2.1 i);i<t_1.1.n -> [I A11.want,I A11.sheet,I A11.turn,I A11.at_.x,I A11.at_.y] = [I A30.want,I A30.sheet,I A30.turn,I A30.at_.x,I A30.at_.y])/\(A19.n=A20.n /\ ∀ (i:Nat),i<A19.n->L.scC (A19.g i)=L.scC (A20.g i))/\(t_1.1.n=w.n /\ ∀ (i:Nat),let A38:=(t_1.1.g
 i);i<t_1.1.n -> [I A38.id,I A38.colour,I A38.grain,SV.sl A16 A38.ol.n fun (i1:Nat)=>[I (A38.ol.g i1).x,I (A38.ol.g i1).y]] = [I (w.g i).id,I (w.g i).colour,I (w.g i).grain,SV.sl A16 (w.g i).ol.n fun (i1:Nat)=>[I ((w.g i).ol.g i1).x,I ((w.g i).ol.g i1).y]])/\t_1.2.1.grain=sh.grain/\True) /\ ∀ (g:Int->Bool),True -> ∃ (u:Int->Bool),nat_lit 0=A12/\A2/\sh.grain
 = sh.grain/\(∀ (x:Int),g x=u x)/\(∀ (x:Int),g x=true->L.memo A17 x=L.memo A17 x)/\nat_lit 0=A12/\sh.id=sh.id/\sh.colour=sh.colour/\sh.w=sh.w/\sh.h=sh.h/\sh.grain=sh.grain/\(w.n=w.n /\ ∀ (i:Nat),let A31:=(L.laidP w sh i);let A23:=[I A31.want,I A31.sheet,I A31.turn,I A31.at_.x,I A31.at_.y];i<w.n->A23=A23)/\(A20.n=A20.n /\ ∀ (i:Nat),i <
 A20.n->L.scC (A20.g i)=L.scC (A20.g i))/\True) (by kernel_rfl) (by
  conv=>zeta
  have hp:L.okW w/\L.vSheet sh=true:=hp
  obtain ⟨hok,hsv⟩:=hp
  obtain ⟨a1,a2,_,_⟩:=all_bd hok.1
  have oA:=okA_wh hsv
  have b1:0 <= (w.n:Int):=Int.natCast_nonneg _
  have hw4:=hok.1
  have b2:(w.n:Int) * 40 <= 140737488355328:=by omega
  have l1:(L.sqC []).n+3 * (L.all w.n).toNat <= 1000:=by show 0+_ <= _;omega
  refine ⟨(by (try dsimp only);(repeat' with_reducible apply And.intro) <;> first | with_reducible rfl | with_reducible assumption | with_reducible exact Int.le_refl _ | with_reducible exact fun _=>rfl | with_reducible exact fun _ _=>rfl | with_reducible exact trivial | exact ⟨(0:Nat),(by (try dsimp only);(repeat' with_reducible apply And.intro) <;> first | with_reducible rfl | with_reducible exact fun _=>rfl | with_reducible exact fun _ _=>rfl | with_reducible exact trivial | exact rfl | (intro _;exact rfl) | (intro _ _;exact rfl) | exact trivial | (intro _ h_;exact absurd h_ (Nat.not_lt_zero _)))⟩ | exact ⟨(w,sh.grain,L.tabF w sh.grain),(by (try dsimp only);(repeat' with_reducible apply And.intro) <;> first | with_reducible rfl | with_reducible exact fun _=>rfl | with_reducible exact fun _ _=>rfl | with_reducible exact trivial | (intro u _;exact (by (try dsimp only);(repeat' with_reducible apply And.intro) <;> first | with_reducible rfl | with_reducible assumption | with_reducible exact Int.le_refl _ | with_reducible exact fun _=>rfl | with_reducible exact fun _ _=>rfl | with_reducible exact trivial | exact ⟨(0:Nat),(by (try dsimp only);(repeat' with_reducible apply And.intro) <;> first | with_reducible rfl | with_reducible exact fun _=>rfl | with_reducible exact fun _ _=>rfl | with_reducible exact trivial | exact rfl | (intro _;exact rfl) | (intro _ _;exact rfl) | exact trivial | (intro _ h_;exact absurd h_ (Nat.not_lt_zero _)))⟩ | exact rfl | (intro _;exact rfl) | (intro _ _;exact rfl) | exact b1 | exact b2 | exact Int.le_refl _ | exact trivial | (intro _ h_;exact absurd h_ (Nat.not_lt_zero _)))) | exact rfl | (intro _;exact rfl) | (intro _ _;exact rfl) | exact trivial | (intro _ h_;exact absurd h_ (Nat.not_lt_zero _)))⟩ | exact rfl | (intro _;exact rfl) | (intro _ _;exact rfl) | exact b1 | exact b2 | exact Int.le_refl _ | exact trivial | (intro _ h_;exact absurd h_ (Nat.not_lt_zero _))),fun _ _=>⟨(by (try dsimp only);(repeat' with_reducible apply And.intro) <;> first | with_reducible rfl | with_reducible exact fun _=>rfl | with_reducible exact fun _ _=>rfl | with_reducible exact trivial | exact ⟨(w,sh.grain,L.tabF w sh.grain,fun _=>false),(by (try dsimp only);(repeat' with_reducible apply And.intro) <;> first | with_reducible rfl | with_reducible exact hok.1 | with_reducible exact fun _=>rfl | with_reducible exact fun _ _=>rfl | with_reducible exact trivial | (intro u _;exact ⟨(w,sh,fun _=>false,L.noP,[],L.all w.n,L.whA sh),(by (try dsimp only);(repeat' with_reducible apply And.intro) <;> first | with_reducible rfl | with_reducible assumption | with_reducible exact Int.le_refl _ | with_reducible exact fun _=>rfl | with_reducible exact fun _ _=>rfl | with_reducible exact trivial | (intro u _;exact ⟨u,(by (try dsimp only);(repeat' with_reducible apply And.intro) <;> first | with_reducible rfl | with_reducible exact fun _=>rfl | with_reducible exact fun _ _=>rfl | with_reducible exact trivial | exact rfl | (intro _;exact rfl) | (intro _ _;exact rfl) | exact trivial | (intro _ h_;exact absurd h_ (Nat.not_lt_zero _)))⟩) | exact rfl | (intro _;exact rfl) | (intro _ _;exact rfl) | exact hok | exact a1 | exact Int.le_refl _ | exact oA | exact l1 | exact trivial | (intro _ h_;exact absurd h_ (Nat.not_lt_zero _)))⟩) | exact rfl | (intro _;exact rfl) | (intro _ _;exact rfl) | exact hok.1 | exact trivial | (intro _ h_;exact absurd h_ (Nat.not_lt_zero _)))⟩ | exact rfl | (intro _;exact rfl) | (intro _ _;exact rfl) | exact trivial | (intro _ h_;exact absurd h_ (Nat.not_lt_zero _))),fun u _=>(by (try dsimp only);(repeat' with_reducible apply And.intro) <;> first | with_reducible rfl | with_reducible exact fun _=>rfl | with_reducible exact fun _ _=>rfl | with_reducible exact trivial | exact ⟨u,(by (try dsimp only);(repeat' with_reducible apply And.intro) <;> first | with_reducible rfl | with_reducible exact fun _=>rfl | with_reducible exact fun _ _=>rfl | with_reducible exact trivial | exact rfl | (intro _;exact rfl) | (intro _ _;exact rfl) | exact trivial | (intro _ h_;exact absurd h_ (Nat.not_lt_zero _)))⟩ | exact rfl | (intro _;exact rfl) | (intro _ _;exact rfl) | exact trivial | (intro _ h_;exact absurd h_ (Nat.not_lt_zero _)))⟩⟩)
theorem c_laid_en:Enters Tryz.prog 72:=fun args w=>by kernel_rfl
theorem c_laid_mok:MkOk Tryz.prog 72 c_laid_mk:=mk_ok (n:=2) Tryz.func72 (c:=bodyOf Tryz.f72) (by kernel_rfl) mixed ⟨fun t=>rfl,fun t=>rfl,fun t u=>rfl,fun t u=>rfl,fun t u=>rfl,fun t u=>⟨rfl,rfl⟩,by kernel_rfl,by kernel_rfl⟩ (fun ⟨w,sh⟩ hp=>⟨_,c_laid_vc w sh hp,⟨show SpecsL Tryz.prog _ from SpecsL.nil,rfl,⟨show ItersL Tryz.prog _ from ItersL.nil,⟨TrsOk.no1 (fun _=>rfl),⟨show MksL Tryz.prog _ from (MksL.cons c_shapesOf_mok c_shapesOf_en (MksL.cons c_full_mok c_full_en (MksL.cons c_lay_mok c_lay_en MksL.nil))),FamsOk.none (fun _=>rfl)⟩⟩⟩⟩⟩)
def c_Lay_p (w:(L.Sq L.Want)) (sh:L.Sheet):Prop:=L.preW w
def c_Lay_r (w:(L.Sq L.Want)) (sh:L.Sheet):SV:=.tup [.sl 5 (L.lyPn w sh) (fun k=>[.int .i64 ((L.laidP w sh k).want),.int .i64 ((L.laidP w sh k).sheet),.int .i64 ((L.laidP w sh k).turn),.int .i64 ((L.laidP w sh k).at_.x),.int .i64 ((L.laidP w sh k).at_.y)]),.sl 4 (L.lyS w sh).n (fun k=>L.scC ((L.lyS w sh).g k)),.int .i64 (L.lyE w sh)]
def c_Lay_s:List EV->Option (Prop × SV)
 | [.p (.sl 4 w_n w_g),.p (.agg [.int .i64 sh_id,.int .i64 sh_colour,.int .i64 sh_w,.int .i64 sh_h,.int .i64 sh_grain])]=>some ((∀ i,i<w_n->okWant (w_g i))/\c_Lay_p (⟨w_n,fun i=>ofWant (w_g i)⟩:(L.Sq L.Want)) (⟨sh_id,sh_colour,sh_w,sh_h,sh_grain⟩:L.Sheet),c_Lay_r (⟨w_n,fun i=>ofWant (w_g i)⟩:(L.Sq L.Want)) (⟨sh_id,sh_colour,sh_w,sh_h,sh_grain⟩:L.Sheet))
 | _=>none
abbrev c_Lay_S:SE.Spec:=(specO c_Lay_s)
def c_Lay_C:Cfg:={ cC with frz:=lookN [(7,[7,13,20,9,15])],specs:=lookS [(16,c_FitsIn_S)],mks:=lookK [(72,c_laid_mk)],ren:=fun k=>k }
theorem c_Lay_vc (w:(L.Sq L.Want)) (sh:L.Sheet) (hp:c_Lay_p w sh):vc Tryz.prog (c_Lay_C) (bodyOf Tryz.f19) (st0 Tryz.f19 [.p (.sl 4 w.n (fun i=>[.int .i64 ((w.g i).id),.int .i64 ((w.g i).colour),.int .i64 ((w.g i).grain),.sl 2 (w.g i).ol.n (fun i1=>[.int .i64 (((w.g i).ol.g i1).x),.int .i64 (((w.g i).ol.g i1).y)])])),.p (.agg [.int .i64 sh.id,.int .i64 sh.colour,.int .i64 sh.w,.int .i64 sh.h,.int .i64 sh.grain])]) (retFn Tryz.prog Tryz.f19 (c_Lay_r w sh)) :=
 @Eq.mpr _ (let I:=SV.int .i64;let A9:=(0:Nat);let A8:=(L.lyS w sh);let A1:=(L.Sq.mk w.n fun (i:Nat)=>L.Want.mk (w.g i).id (w.g i).colour (w.g i).grain (L.Sq.mk (w.g i).ol.n fun (i_1:Nat)=>(w.g i).ol.g i_1));let A6:=(!decide (L.fitE A1 sh=(0:Int)));((∀ (i:Nat),i<w.n -> ∀ (i_1:Nat),let A4:=((w.g i).ol.g i_1);i_1<(w.g i).ol.n -> [I A4.x,I A4.y] = [I A4.x,I A4.y])/\L.preW A1)/\(A6=true->L.lyPn w sh=A9/\A8.n=A9/\L.fitE A1 sh=L.lyE w sh)/\(A6=false->((!L.fitB A1 sh)=true->L.lyPn w sh=A9/\A8.n=A9/\(52:Int)=L.lyE w sh)/\((!L.fitB A1 sh)=false -> ∃ (t:L.Sq L.Want × L.Sheet),let A5:=(L.sqC (L.laidS t.1 t.2));(w.n=t.1.n /\ ∀ (i:Nat),let A7:=(t.1.g i);i<w.n -> [I (w.g i).id,I (w.g i).colour,I (w.g i).grain,SV.sl (2:Nat) (w.g i).ol.n fun (i1:Nat)=>[I ((w.g i).ol.g i1).x,I ((w.g i).ol.g i1).y]] = [I A7.id,I A7.colour,I A7.grain,SV.sl (2:Nat) A7.ol.n fun (i1:Nat)=>[I (A7.ol.g i1).x,I (A7.ol.g i1).y]])/\SV.agg [I sh.id,I sh.colour,I sh.w,I sh.h,I sh.grain]=SV.agg [I t.2.id,I t.2.colour,I t.2.w,I t.2.h,I t.2.grain]/\(L.okW t.1/\L.vSheet t.2=true) /\ ∀ (u:Int->Bool),True->(t.1.n=L.lyPn w sh /\ ∀ (i:Nat),let A3:=(L.laidP w sh i);let A2:=(L.laidP t.1 t.2 i);i<t.1.n -> [I A2.want,I A2.sheet,I A2.turn,I A2.at_.x,I A2.at_.y] = [I A3.want,I A3.sheet,I A3.turn,I A3.at_.x,I A3.at_.y])/\(A5.n=A8.n /\ ∀ (i:Nat),i<A5.n->L.scC (A5.g i)=L.scC (A8.g i))/\(0:Int)=L.lyE w sh))) (by kernel_rfl) (by
 conv=>zeta
 have hp:L.preW w:=hp
 refine ⟨⟨fun _ _ _ _=>rfl,hp⟩,fun h=>?_,fun h=>⟨fun h2=>?_,fun h2=>?_⟩⟩
 ·have h:(!decide (L.fitE w sh=0))=true:=h
  have e1:L.lyE w sh=L.fitE w sh:=by unfold L.lyE;rw [h];rfl
  have h0:¬ L.fitE w sh=0:=of_decide_eq_false (notT h)
  have e2:L.lyPn w sh=0:=by unfold L.lyPn;rw [e1,decide_eq_false h0];rfl
  have e3:(L.lyS w sh).n=0:=by unfold L.lyS;rw [e1,decide_eq_false h0];rfl
  exact ⟨e2,e3,e1.symm⟩
 ·have h:(!decide (L.fitE w sh=0))=false:=h
  have h2:(!L.fitB w sh)=true:=h2
  have e1:L.lyE w sh=52:=by unfold L.lyE;rw [h,h2];rfl
  have e2:L.lyPn w sh=0:=by unfold L.lyPn;rw [e1];rfl
  have e3:(L.lyS w sh).n=0:=by unfold L.lyS;rw [e1];rfl
  exact ⟨e2,e3,e1.symm⟩
 ·have h:(!decide (L.fitE w sh=0))=false:=h
  have h2:(!L.fitB w sh)=false:=h2
  have e1:L.lyE w sh=0:=by unfold L.lyE;rw [h,h2];rfl
  have e2:L.lyPn w sh=w.n:=by unfold L.lyPn;rw [e1];rfl
  have e3:L.lyS w sh=L.sqC (L.laidS w sh):=by unfold L.lyS;rw [e1];rfl
  obtain ⟨_,v2,v3⟩:=fitE_0 (of_decide_eq_true (notF h))
  have ok:=okW_of hp v3
  rw [e1,e2,e3]
  exact ⟨(w,sh),(by (try dsimp only);(repeat' with_reducible apply And.intro) <;> first | with_reducible rfl | with_reducible assumption | with_reducible exact fun _=>rfl | with_reducible exact fun _ _=>rfl | with_reducible exact trivial | (intro u _;exact (by (try dsimp only);(repeat' with_reducible apply And.intro) <;> first | with_reducible rfl | with_reducible exact fun _=>rfl | with_reducible exact fun _ _=>rfl | with_reducible exact trivial | exact rfl | (intro _;exact rfl) | (intro _ _;exact rfl) | exact trivial | (intro _ h_;exact absurd h_ (Nat.not_lt_zero _)))) | exact rfl | (intro _;exact rfl) | (intro _ _;exact rfl) | exact ok | exact v2 | exact trivial | (intro _ h_;exact absurd h_ (Nat.not_lt_zero _)))⟩)
theorem c_Lay_ok:SpecOk Tryz.prog 19 c_Lay_S:=fnX Tryz.func19 (c:=bodyOf Tryz.f19) (by kernel_rfl) mixed (fun args p r hs hp=>by
 unfold c_Lay_s at hs
 split at hs
 ·cases hs;exact ⟨_,_,c_Lay_vc _ _ hp.2,(.p (Want_ext hp.1) (.same _ .nil)),⟨show SpecsL Tryz.prog _ from (SpecsL.cons c_FitsIn_ok c_FitsIn_en SpecsL.nil),rfl,⟨show ItersL Tryz.prog _ from ItersL.nil,⟨TrsOk.no1 (fun _=>rfl),⟨show MksL Tryz.prog _ from (MksL.cons c_laid_mok c_laid_en MksL.nil),FamsOk.none (fun _=>rfl)⟩⟩⟩⟩⟩
 ·cases hs)
theorem c_Lay_en:Enters Tryz.prog 19:=fun args w=>by kernel_rfl
end
end Go.Proofs.YtpgaejicfbpcmaaGreat
