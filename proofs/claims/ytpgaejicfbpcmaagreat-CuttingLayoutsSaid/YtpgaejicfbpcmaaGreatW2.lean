/- A symbolic walk over the model, and what it shows of functions of the program: parts of the proof that the text of the row joins. -/
import Derived.Test.YtpgaejicfbpcmaaGreatW1
import Derived.Test.YtpgaejicfbpcmaaGreatE5
import Derived.KernelRfl
namespace Go.Proofs.YtpgaejicfbpcmaaGreat
open Go.SE Go.RowKit
set_option maxRecDepth 100000
set_option maxHeartbeats 4000000
set_option linter.unusedVariables false
attribute [local irreducible] vc
def L.memo (f:Int->L.Sq L.Size) (k:Int):SV:=.sl 2 (f k).n (fun i=>[.int .i64 ((f k).g i).w,.int .i64 ((f k).g i).h])
def L.bit0 (g:Int):Int:=L.iand g (0 - g)
def L.rst (g:Int):Int:=L.iandNot g (L.bit0 g)
def L.subK (g:Int):Nat->Int
 | 0=>0
 | k+1=>L.iand (L.subK g k - L.rst g) (L.rst g)
def L.partN (g:Int):Nat:=((List.range 16).find? (fun k=>decide (L.subK g k=L.rst g))).getD 0
def L.part (g:Int) (k:Nat):Int:=L.ior (L.subK g k) (L.bit0 g)
def chkP (n:Nat):Bool:=decide (L.subK n (L.partN n)=L.rst n) && (List.range (L.partN n)).all (fun k=>!decide (L.subK n k=L.rst n) && decide (-16 <= L.subK n k - L.rst n) && decide (L.subK n k - L.rst n <= 16))
theorem chkP_all:((List.range 16).all chkP)=true:=by kernel_rfl
theorem parts_tab {g:Int} (h:0 <= g) (h':g <= 15):L.subK g (L.partN g)=L.rst g /\ ∀ k,k<L.partN g->L.subK g k ≠ L.rst g /\ -16 <= L.subK g k - L.rst g/\L.subK g k - L.rst g <= 16:=by
 obtain ⟨n,rfl⟩:=Int.eq_ofNat_of_zero_le h
 have hn:n<16:=by omega
 have h1:=List.all_eq_true.1 chkP_all n (List.mem_range.2 hn)
 unfold chkP at h1
 rw [Bool.and_eq_true,decide_eq_true_eq] at h1
 refine ⟨h1.1,fun k hk=>?_⟩
 have h2:=List.all_eq_true.1 h1.2 k (List.mem_range.2 hk)
 rw [Bool.and_eq_true,Bool.and_eq_true,decide_eq_true_eq,decide_eq_true_eq,Bool.not_eq_true',decide_eq_false_iff_not] at h2
 exact ⟨h2.1.1,h2.1.2,h2.2⟩
abbrev c_shapesOf_mk:Mk:={ T:=(L.Sq L.Want) × (Int) × (Int->L.Sq L.Size),U:=Nat,args:=fun t=>(fun w gr f=>[.p ((.sl 4 w.n (fun i=>[.int .i64 ((w.g i).id),.int .i64 ((w.g i).colour),.int .i64 ((w.g i).grain),.sl 2 (w.g i).ol.n (fun i1=>[.int .i64 (((w.g i).ol.g i1).x),.int .i64 (((w.g i).ol.g i1).y)])]))),.p (.int .i64 gr)]) t.1 t.2.1 t.2.2,lkeys:=[],keys:=[9,7],lent:=fun t=>(fun w gr f=>[]) t.1 t.2.1 t.2.2,pre:=fun t=>(fun w gr f=>True) t.1 t.2.1 t.2.2,post:=fun t u=>(fun w gr f=>fun uu=>True) t.1 t.2.1 t.2.2 u,lent':=fun t u=>(fun w gr f=>fun uu=>[]) t.1 t.2.1 t.2.2 u,own:=fun t u=>(fun w gr f=>fun uu=>[(9,.blk 162 [.p ((.sl 4 w.n (fun i=>[.int .i64 ((w.g i).id),.int .i64 ((w.g i).colour),.int .i64 ((w.g i).grain),.sl 2 (w.g i).ol.n (fun i1=>[.int .i64 (((w.g i).ol.g i1).x),.int .i64 (((w.g i).ol.g i1).y)])]))),.p (.int .i64 gr),.mapv 7]),(7,.mq 3 27 (fun _=>false) (L.memo f))]) t.1 t.2.1 t.2.2 u,res:=fun t u=>(fun w gr f=>fun uu=>.loc 9 0) t.1 t.2.1 t.2.2 u }
theorem c_shapesOf_vc (w:L.Sq L.Want) (gr:Int) (f:Int->L.Sq L.Size) (hp:c_shapesOf_mk.pre (w,gr,f)):vc Tryz.prog ({ cC with muts:=[9],mqs:=lookQ [(7,L.memo f)] }) (bodyOf Tryz.f62) (stTr Tryz.f62 (c_shapesOf_mk.args (w,gr,f)) (c_shapesOf_mk.lent (w,gr,f))) (retMk Tryz.prog Tryz.f62 c_shapesOf_mk (w,gr,f)) :=
 @Eq.mpr _ (let I:=SV.int .i64;∃ (u:Nat),nat_lit 0=(0:Nat)/\(w.n=w.n /\ ∀ (i:Nat),let A1:=[I (w.g i).id,I (w.g i).colour,I (w.g i).grain,SV.sl (2:Nat) (w.g i).ol.n fun (i1:Nat)=>[I ((w.g i).ol.g i1).x,I ((w.g i).ol.g i1).y]];i<w.n->A1=A1)/\gr=gr/\(∀ (x:Int),false=false)/\(∀ (x:Int),false=true->L.memo f x=L.memo f x)/\True) (by kernel_rfl) (by
 conv=>zeta
 exact ⟨(0:Nat),rfl,⟨rfl,fun _ _=>rfl⟩,rfl,fun _=>rfl,fun _ _=>rfl,trivial⟩)
theorem c_shapesOf_en:Enters Tryz.prog 62:=fun args w=>by kernel_rfl
theorem c_shapesOf_mok:MkOk Tryz.prog 62 c_shapesOf_mk:=mk_ok (n:=2) Tryz.func62 (c:=bodyOf Tryz.f62) (by kernel_rfl) mixed ⟨fun t=>rfl,fun t=>rfl,fun t u=>rfl,fun t u=>rfl,fun t u=>rfl,fun t u=>⟨rfl,rfl⟩,by kernel_rfl,by kernel_rfl⟩ (fun ⟨w,gr,f⟩ hp=>⟨_,c_shapesOf_vc w gr f hp,⟨show SpecsL Tryz.prog _ from SpecsL.nil,rfl,⟨show ItersL Tryz.prog _ from ItersL.nil,(TrsOk.none (fun _=>rfl))⟩⟩⟩)
def c_parts1_p (g:Int):Prop:=0 <= g/\g <= 15
def c_parts1_n (g:Int):Nat:=L.partN g
def c_parts1_i (g:Int):Nat->List SV:=fun k=>[.int .i64 (L.part g k)]
def c_parts1_ic:List SV->Option (Prop × Nat × (Nat->List SV))
 | [.ref [.int .i64 g] 0]=>some (c_parts1_p g,c_parts1_n g,c_parts1_i g)
 | _=>none
abbrev c_parts1_it:ItSpec:=itOf c_parts1_ic
def c_parts1_C:Cfg:={ muts:=[],frz:=lookN [],specs:=lookS [],loops:=fun _=>none,iters:=lookI [],rfs:=lookR [] }
theorem c_parts1_vc (yl:Nat) (g:Int) (hp:c_parts1_p g):vc Tryz.prog { c_parts1_C with loops:=lookL [(3,{ T:=Nat,keep:=[0,1,3,4],keepO:=[],chg:=fun i=>[(5,.p (.int .i64 (L.subK g i)))],own:=fun _=>[],inv:=fun i=>i <= L.partN g,mu:=fun i=>L.partN g - i,yk:=some (fun i=>i) })],yld:=some ⟨yl,c_parts1_n g,c_parts1_i g⟩ } (bodyOf Tryz.f157) (st0 Tryz.f157 (.yield yl :: ([.ref [.int .i64 g] 0]:List SV).map .p)) (retIt Tryz.prog Tryz.f157 (c_parts1_n g)) :=
 @Eq.mpr _ (let A6:=[SV.int .i64 g];let A5:=(1:Nat);let A3:=((0:Int) - g);let A1:=(L.iand g A3);let A7:=(L.iandNot g A1);InK .i64 A3/\(∃ (g_1:Nat),nat_lit 0=g_1/\false=false/\(0:Int)=L.subK g g_1/\g_1 <= L.partN g) /\ ∀ (g_1:Nat),let A4:=(!decide (L.subK g g_1=L.iandNot g A1));let A2:=(L.subK g g_1 - L.iandNot g A1);g_1 <= L.partN g->(A4=true->yl=yl/\g_1<L.partN g /\ [SV.int .i64 (L.ior (L.subK g g_1) A1)] = [SV.int .i64 (L.part g g_1)]/\((false=true->g_1+A5=L.partN g\/g_1+A5=L.partN g+A5)/\(false=false->InK .i64 A2 /\ ∃ (g':Nat),g_1+A5=g'/\false=false/\L.iand A2 A7=L.subK g g'/\L.iandNot g A1=L.iandNot g A1/\L.iand g A3=L.iand g A3/\yl=yl/\SV.ref A6 (nat_lit 0)=SV.ref A6 (nat_lit 0)/\g' <= L.partN g/\L.partN g - g'<L.partN g - g_1))/\(true=true->L.partN g+A5=L.partN g\/L.partN g+A5=L.partN g+A5)/\(true=false->InK .i64 A2 /\ ∃ (g':Nat),L.partN g+A5=g'/\false=false/\L.iand A2 A7=L.subK g g'/\L.iandNot g A1=L.iandNot g A1/\L.iand g A3=L.iand g A3/\yl=yl/\False/\g' <= L.partN g/\L.partN g - g'<L.partN g - g_1))/\(A4=false->g_1=L.partN g\/g_1=L.partN g+A5)) (by kernel_rfl) (by
 conv=>zeta
 obtain ⟨h1,h2⟩:=hp
 obtain ⟨t1,t2⟩:=parts_tab h1 h2
 refine ⟨jK,⟨(0:Nat),rfl,rfl,rfl,Nat.zero_le _⟩,fun k hk=>⟨fun hne=>?_,fun he=>?_⟩⟩
 ·have hne:¬ L.subK g k=L.rst g:=of_decide_eq_false (notT hne)
  have hlt:k<L.partN g:=by
   rcases Nat.lt_or_ge k (L.partN g) with h | h
   ·exact h
   ·obtain rfl:k=L.partN g:=by omega
    exact absurd t1 hne
  obtain ⟨_,b1,b2⟩:=t2 k hlt
  refine ⟨rfl,hlt,rfl,⟨(fun h=>by cases h),fun _=>⟨InK.of (show _ <= L.subK g k - L.rst g by omega) (show L.subK g k - L.rst g <= _ by omega),k+1,rfl,rfl,rfl,rfl,rfl,rfl,rfl,by omega,by omega⟩⟩,fun _=>.inr rfl,(fun h=>by cases h)⟩
 ·have he:L.subK g k=L.rst g:=of_decide_eq_true (notF he)
  rcases Nat.lt_or_ge k (L.partN g) with h | h
  ·exact absurd he (t2 k h).1
  ·exact .inl (by omega))
theorem c_parts1_itok:ItOk Tryz.prog 157 c_parts1_it:=iterX Tryz.func157 (c:=bodyOf Tryz.f157) (by kernel_rfl) mixed (fun caps l p n g hs hp=>by
 unfold c_parts1_ic at hs
 split at hs
 ·cases hs;exact ⟨_,_,c_parts1_vc l _ hp,(.cons (Ext.refl _) .nil),rfl,show SpecsL Tryz.prog _ from SpecsL.nil,⟨show ItersL Tryz.prog _ from ItersL.nil,TrsOk.none (fun _=>rfl)⟩⟩
 ·cases hs)
theorem c_parts1_en:Enters Tryz.prog 157:=fun args w=>by kernel_rfl
end Go.Proofs.YtpgaejicfbpcmaaGreat
namespace Go.Proofs.YtpgaejicfbpcmaaGreat
open Go.SE Go.RowKit
set_option maxRecDepth 100000
set_option maxHeartbeats 4000000
set_option linter.unusedVariables false
attribute [local irreducible] vc
instance:Inhabited L.Size:=⟨⟨0,0⟩⟩
def encSz (p:L.Size):List Int:=[p.w,p.h]
def L.cmpSz (a b:L.Size):Int:=L.or2 (L.cmp a.w b.w) (L.cmp a.h b.h)
theorem cmpSz_lt {a b:L.Size}:L.cmpSz a b<0 ↔ a.w<b.w\/(a.w=b.w/\a.h<b.h):=by
 unfold L.cmpSz L.or2 L.cmp
 rcases Int.lt_trichotomy a.w b.w with h1 | h1 | h1 <;> rcases Int.lt_trichotomy a.h b.h with h2 | h2 | h2 <;> grind
theorem swoSz:Go.Sort.SWO (Go.Proofs.ltOf L.cmpSz):=by
 have k:∀ x y,Go.Proofs.ltOf L.cmpSz x y=true ↔ x.w<y.w\/(x.w=y.w/\x.h<y.h):=fun x y=>by
  unfold Go.Proofs.ltOf;rw [decide_eq_true_iff,cmpSz_lt]
 have kf:∀ x y,Go.Proofs.ltOf L.cmpSz x y=false ↔ ¬ (x.w<y.w\/(x.w=y.w/\x.h<y.h)):=fun x y=>by
  rw [<- k,Bool.not_eq_true]
 refine ⟨fun x=>?_,fun x y z=>?_,fun x y z=>?_⟩
 ·rw [kf];omega
 ·simp only [k];omega
 ·simp only [kf];omega
def sortSz_ren:Go.Shelf.Ren:=⟨fun | 6=>158 | 15=>179 | 14=>188 | 28=>207 | 29=>208 | 20=>213 | 21=>214 | 22=>215 | 23=>216 | 24=>217 | 25=>218 | 26=>219 | 27=>220 | 46=>231 | 47=>226 | 48=>227 | 49=>232 | 50=>233 | 57=>243 | n=>n,fun | 22=>27 | 24=>43 | 25=>210 | 3=>3 | 39=>232 | 0=>0 | 53=>257 | 55=>259 | 4=>4 | 46=>250 | 45=>249 | 50=>254 | 5=>5 | 9=>9 | 66=>270 | 70=>274 | 76=>283 | 77=>284 | n=>n,fun | n=>n⟩
theorem sortSz_lay:Go.Proofs.SlLaysF0.n6 Tryz.prog sortSz_ren:={
 mixed:=by kernel_rfl
 f6:=⟨Tryz.f158.name,by decide,Tryz.func158.trans (congrArg some (by kernel_rfl))⟩
 f14:=⟨Tryz.f188.name,by decide,Tryz.func188.trans (congrArg some (by kernel_rfl))⟩
 f15:=Tryz.func179.trans (congrArg some (by kernel_rfl))
 f20:=⟨Tryz.f213.name,by decide,Tryz.func213.trans (congrArg some (by kernel_rfl))⟩
 f21:=⟨Tryz.f214.name,by decide,Tryz.func214.trans (congrArg some (by kernel_rfl))⟩
 f22:=⟨Tryz.f215.name,by decide,Tryz.func215.trans (congrArg some (by kernel_rfl))⟩
 f23:=⟨Tryz.f216.name,by decide,Tryz.func216.trans (congrArg some (by kernel_rfl))⟩
 f24:=⟨Tryz.f217.name,by decide,Tryz.func217.trans (congrArg some (by kernel_rfl))⟩
 f25:=⟨Tryz.f218.name,by decide,Tryz.func218.trans (congrArg some (by kernel_rfl))⟩
 f26:=⟨Tryz.f219.name,by decide,Tryz.func219.trans (congrArg some (by kernel_rfl))⟩
 f27:=⟨Tryz.f220.name,by decide,Tryz.func220.trans (congrArg some (by kernel_rfl))⟩
 f28:=Tryz.func207.trans (congrArg some (by kernel_rfl))
 f29:=Tryz.func208.trans (congrArg some (by kernel_rfl))
 f46:=⟨Tryz.f231.name,by decide,Tryz.func231.trans (congrArg some (by kernel_rfl))⟩
 f47:=Tryz.func226.trans (congrArg some (by kernel_rfl))
 f48:=Tryz.func227.trans (congrArg some (by kernel_rfl))
 f49:=⟨Tryz.f232.name,by decide,Tryz.func232.trans (congrArg some (by kernel_rfl))⟩
 f50:=⟨Tryz.f233.name,by decide,Tryz.func233.trans (congrArg some (by kernel_rfl))⟩
 f57:=⟨Tryz.f243.name,by decide,Tryz.func243.trans (congrArg some (by kernel_rfl))⟩
 t0:=Tryz.underlying0
 a0:=Tryz.isAgg0
 z0:=Tryz.sizeOf0
 v0:=Tryz.zeroValue0
 t3:=Tryz.underlying3
 a3:=Tryz.isAgg3
 z3:=Tryz.sizeOf3
 v3:=Tryz.zeroValue3
 t4:=Tryz.underlying4
 a4:=Tryz.isAgg4
 z4:=Tryz.sizeOf4
 v4:=Tryz.zeroValue4
 t5:=Tryz.underlying5
 a5:=Tryz.isAgg5
 z5:=Tryz.sizeOf5
 v5:=Tryz.zeroValue5
 t9:=Tryz.underlying9
 a9:=Tryz.isAgg9
 z9:=Tryz.sizeOf9
 v9:=Tryz.zeroValue9
 t22:=Tryz.underlying27
 a22:=Tryz.isAgg27
 z22:=Tryz.sizeOf27
 v22:=Tryz.zeroValue27
 t25:=Tryz.underlying210
 a25:=Tryz.isAgg210
 z25:=Tryz.sizeOf210
 v25:=Tryz.zeroValue210
 t39:=Tryz.underlying232
 a39:=Tryz.isAgg232
 z39:=Tryz.sizeOf232
 v39:=Tryz.zeroValue232
 t45:=Tryz.underlying249
 a45:=Tryz.isAgg249
 z45:=Tryz.sizeOf249
 v45:=Tryz.zeroValue249
 t46:=Tryz.underlying250
 a46:=Tryz.isAgg250
 z46:=Tryz.sizeOf250
 v46:=Tryz.zeroValue250
 t50:=Tryz.underlying254
 a50:=Tryz.isAgg254
 z50:=Tryz.sizeOf254
 v50:=Tryz.zeroValue254
 t53:=Tryz.underlying257
 a53:=Tryz.isAgg257
 z53:=Tryz.sizeOf257
 v53:=Tryz.zeroValue257
 t55:=Tryz.underlying259
 a55:=Tryz.isAgg259
 z55:=Tryz.sizeOf259
 v55:=Tryz.zeroValue259
 t66:=Tryz.underlying270
 a66:=Tryz.isAgg270
 z66:=Tryz.sizeOf270
 v66:=Tryz.zeroValue270
 t70:=Tryz.underlying274
 a70:=Tryz.isAgg274
 z70:=Tryz.sizeOf274
 v70:=Tryz.zeroValue274
 t76:=Tryz.underlying283
 a76:=Tryz.isAgg283
 z76:=Tryz.sizeOf283
 v76:=Tryz.zeroValue283
 t77:=Tryz.underlying284
 a77:=Tryz.isAgg284
 z77:=Tryz.sizeOf284
 v77:=Tryz.zeroValue284 }
def c_parts_p (g:Int):Prop:=True
def c_parts_r (g:Int):SV:=.clo 157 [.ref [.int .i64 g] 0]
def c_parts_s:List EV->Option (Prop × SV)
 | [.p (.int .i64 g)]=>some (c_parts_p g,c_parts_r g)
 | _=>none
abbrev c_parts_S:SE.Spec:=(specO c_parts_s)
def c_parts_C:Cfg:={ muts:=[],frz:=lookN [],specs:=lookS [],loops:=lookL [],iters:=lookI [],rfs:=lookR [],nils:=lookM [] }
theorem c_parts_vc (g:Int) (hp:c_parts_p g):vc Tryz.prog (c_parts_C) (bodyOf Tryz.f114) (st0 Tryz.f114 [.p (.int .i64 g)]) (retFn Tryz.prog Tryz.f114 (c_parts_r g)) :=
 @Eq.mpr _ (SV.clo (nat_lit 157) [SV.ref [SV.int .i64 g] (nat_lit 0)]=SV.clo (nat_lit 157) [SV.ref [SV.int .i64 g] (nat_lit 0)]) (by kernel_rfl) (by
 rfl)
theorem c_parts_ok:SpecOk Tryz.prog 114 c_parts_S:=fnX Tryz.func114 (c:=bodyOf Tryz.f114) (by kernel_rfl) mixed (fun args p r hs hp=>by
 unfold c_parts_s at hs
 split at hs
 ·cases hs;exact ⟨_,_,c_parts_vc _ hp,(.same _ .nil),⟨show SpecsL Tryz.prog _ from SpecsL.nil,rfl,⟨show ItersL Tryz.prog _ from ItersL.nil,(TrsOk.none (fun _=>rfl))⟩⟩⟩
 ·cases hs)
theorem c_parts_en:Enters Tryz.prog 114:=fun args w=>by kernel_rfl
def c_min1_p (a:L.Size) (b:L.Size):Prop:=True
def c_min1_r (a:L.Size) (b:L.Size):SV:=.int .i64 (L.cmpSz a b)
def c_min1_s:List EV->Option (Prop × SV)
 | [.p (.agg [.int .i64 a_w,.int .i64 a_h]),.p (.agg [.int .i64 b_w,.int .i64 b_h])]=>some (c_min1_p (⟨a_w,a_h⟩:L.Size) (⟨b_w,b_h⟩:L.Size),c_min1_r (⟨a_w,a_h⟩:L.Size) (⟨b_w,b_h⟩:L.Size))
 | _=>none
abbrev c_min1_S:SE.Spec:=(specO c_min1_s)
def c_min1_C:Cfg:={ cC with specs:=lookS [(147,c_cmp_S),(160,c_or_S)] }
theorem c_min1_vc (a:L.Size) (b:L.Size) (hp:c_min1_p a b):vc Tryz.prog (c_min1_C) (bodyOf Tryz.f159) (st0 Tryz.f159 [.p (.agg [.int .i64 a.w,.int .i64 a.h]),.p (.agg [.int .i64 b.w,.int .i64 b.h])]) (retFn Tryz.prog Tryz.f159 (c_min1_r a b)) :=
 @Eq.mpr _ (let I:=SV.int .i64;let A1:=[I (L.cmp a.w b.w),I (L.cmp a.h b.h)];True/\True/\((∀ (i:Nat),i<nat_lit 2->rowsOf A1 (nat_lit 1) i = [I (intOf (rowsOf A1 (nat_lit 1) i))])/\nat_lit 2 <= (1000000:Nat))/\L.firstNZ (fun (i:Nat)=>intOf (rowsOf A1 (nat_lit 1) i)) (2:Nat)=L.cmpSz a b) (by kernel_rfl) (by
 conv=>zeta
 exact ⟨trivial,trivial,⟨fun i hi=>by match i,hi with | 0,_=>rfl | 1,_=>rfl,by decide⟩,rfl⟩)
theorem c_min1_ok:SpecOk Tryz.prog 159 c_min1_S:=fnX Tryz.func159 (c:=bodyOf Tryz.f159) (by kernel_rfl) mixed (fun args p r hs hp=>by
 unfold c_min1_s at hs
 split at hs
 ·cases hs;exact ⟨_,_,c_min1_vc _ _ hp,(.same _ (.same _ .nil)),⟨show SpecsL Tryz.prog _ from (SpecsL.cons c_cmp_ok c_cmp_en (SpecsL.cons c_or_ok c_or_en SpecsL.nil)),rfl,⟨show ItersL Tryz.prog _ from ItersL.nil,(TrsOk.none (fun _=>rfl))⟩⟩⟩
 ·cases hs)
theorem c_min1_en:Enters Tryz.prog 159:=fun args w=>by kernel_rfl
abbrev s_sortSz_tr:Tr:=sortTr 43 2 159 1005 encSz L.cmpSz
theorem s_sortSz_tok:TrOk Tryz.prog 158 s_sortSz_tr:=sortTr_ok (enc:=encSz) sortSz_lay (by decide) (fun w=>Tryz.isAgg43 w) (fun w=>Tryz.sizeOf43 w) (fun _=>rfl) swoSz c_min1_ok c_min1_en (fun x y=>show preO c_min1_s [.p (.agg [.int .i64 x.w,.int .i64 x.h]),.p (.agg [.int .i64 y.w,.int .i64 y.h])] from trivial) (fun x y=>rfl) _ _
theorem s_sortSz_en:Enters Tryz.prog 158:=fun args w=>by kernel_rfl
end Go.Proofs.YtpgaejicfbpcmaaGreat
namespace Go.Proofs.YtpgaejicfbpcmaaGreat
open Go.SE Go.RowKit
set_option maxRecDepth 100000
set_option maxHeartbeats 4000000
set_option linter.unusedVariables false
attribute [local irreducible] vc
def L.scan (u:Nat->L.Size):Nat->List L.Size
 | 0=>[]
 | k+1=>match (L.scan u k).getLast? with
   | none=>L.scan u k ++ [u k]
   | some x=>if (u k).h<x.h then L.scan u k ++ [u k] else L.scan u k
def L.scN (u:Nat->L.Size) (k:Nat):Nat:=(L.scan u k).length
def L.scG (u:Nat->L.Size) (k i:Nat):L.Size:=(L.scan u k).getD i ⟨0,0⟩
theorem scN_le (u:Nat->L.Size):∀ k,L.scN u k <= k
 | 0=>Nat.le_refl _
 | k+1=>by
   have:=scN_le u k
   unfold L.scN at this ⊢
   rw [L.scan]
   split
   ·simp;omega
   ·split
    ·simp;omega
    ·omega
theorem sc_last {u:Nat->L.Size} {k:Nat} {x:L.Size} (h:(L.scan u k).getLast? = some x):L.scN u k ≠ 0/\L.scG u k (((L.scN u k:Nat):Int) - 1).toNat=x:=by
 rw [List.getLast?_eq_getElem?] at h
 obtain ⟨h1,h2⟩:=List.getElem?_eq_some_iff.1 h
 have e:(((L.scN u k:Nat):Int) - 1).toNat=(L.scan u k).length - 1:=by unfold L.scN;omega
 refine ⟨by unfold L.scN;omega,?_⟩
 rw [e]
 unfold L.scG
 rw [List.getD_eq_getElem?_getD,h];rfl
theorem sc_take {u:Nat->L.Size} {k:Nat} (h:(bif decide (((L.scN u k:Nat):Int)=0) then true else decide ((u k).h<(L.scG u k (((L.scN u k:Nat):Int) - 1).toNat).h))=true):L.scan u (k+1)=L.scan u k ++ [u k]:=by
 rw [L.scan]
 cases hl:(L.scan u k).getLast? with
 | none=>rfl
 | some x =>
   obtain ⟨h1,h2⟩:=sc_last hl
   rw [h2,decide_eq_false (show ¬ ((L.scN u k:Nat):Int)=0 by omega),cond_false,decide_eq_true_eq] at h
   exact if_pos h
theorem sc_skip {u:Nat->L.Size} {k:Nat} (h:(bif decide (((L.scN u k:Nat):Int)=0) then true else decide ((u k).h<(L.scG u k (((L.scN u k:Nat):Int) - 1).toNat).h))=false):L.scan u (k+1)=L.scan u k:=by
 rw [L.scan]
 cases hl:(L.scan u k).getLast? with
 | none =>
   have e:L.scan u k = []:=List.getLast?_eq_none_iff.1 hl
   have e2:L.scN u k=0:=by unfold L.scN;rw [e];rfl
   rw [e2] at h
   cases h
 | some x =>
   obtain ⟨h1,h2⟩:=sc_last hl
   rw [h2,decide_eq_false (show ¬ ((L.scN u k:Nat):Int)=0 by omega),cond_false,decide_eq_false_iff_not] at h
   exact if_neg h
theorem scG_app {u:Nat->L.Size} {k:Nat} (h:L.scan u (k+1)=L.scan u k ++ [u k]):L.scN u (k+1)=L.scN u k+1 /\ ∀ i,i<L.scN u k+1->L.scG u (k+1) i=if i<L.scN u k then L.scG u k i else u k:=by
 unfold L.scN L.scG
 rw [h]
 refine ⟨by simp,fun i hi=>?_⟩
 simp only [List.getD_eq_getElem?_getD]
 by_cases e:i<(L.scan u k).length
 ·rw [if_pos e,List.getElem?_append_left e]
 ·rw [if_neg e,List.getElem?_append_right (by omega),show i - (L.scan u k).length=0 by omega]
  rfl
abbrev c_minimal_mk:Mk:={ T:=(Nat) × (Nat->L.Size),U:=Nat->L.Size,args:=fun t=>(fun n f=>[.row 1010]) t.1 t.2,lkeys:=[1010],keys:=[32],lent:=fun t=>(fun n f=>[(1010,.row 43 2 n (fun j=>[.int .i64 (f j).w,.int .i64 (f j).h]))]) t.1 t.2,pre:=fun t=>(fun n f=>n <= 1000000) t.1 t.2,post:=fun t u=>(fun n f=>fun u=>SortedBy L.cmpSz n f u) t.1 t.2 u,lent':=fun t u=>(fun n f=>fun u=>[(1010,.row 43 2 n (fun j=>[.int .i64 (u j).w,.int .i64 (u j).h]))]) t.1 t.2 u,own:=fun t u=>(fun n f=>fun u=>[(32,.row 43 2 (L.scN u n) (fun j=>[.int .i64 (L.scG u n j).w,.int .i64 (L.scG u n j).h]))]) t.1 t.2 u,res:=fun t u=>(fun n f=>fun u=>.row 32) t.1 t.2 u }
theorem c_minimal_vc (n:Nat) (f:Nat->L.Size) (hp:c_minimal_mk.pre (n,f)):vc Tryz.prog ({ muts:=[5,32],frz:=lookN [],specs:=lookS [],loops:=lookL [(4,{ T:=(Nat->L.Size) × Nat,keep:=[0,8,9],keepO:=[],chg:=fun t=>[(10,.p (.int .i64 (t.2:Int))),(3,.row 32)],own:=fun t=>[(1010,.row 43 2 n (fun j=>[.int .i64 (t.1 j).w,.int .i64 (t.1 j).h])),(32,.row 43 2 (L.scN t.1 t.2) (fun j=>[.int .i64 (L.scG t.1 t.2 j).w,.int .i64 (L.scG t.1 t.2 j).h]))],inv:=fun t=>t.2 <= n/\SortedBy L.cmpSz n f t.1,mu:=fun t=>n - t.2 })],iters:=lookI [],rfs:=lookR [],nils:=lookM [],trs:=lookT [(158,s_sortSz_tr)],ren:=fun k=>k+5,nilsL:=lookM [(4,[(3,32,43,2)])] }) (bodyOf Tryz.f115) (stTr Tryz.f115 (c_minimal_mk.args (n,f)) (c_minimal_mk.lent (n,f))) (retMk Tryz.prog Tryz.f115 c_minimal_mk (n,f)) :=
 @Eq.mpr _ (let I:=SV.int .i64;let T:=Int.toNat;let A7:=(0:Int);let A5:=(1:Int);∃ (t:Nat × (Nat->L.Size)),let A6:=(↑t.1:Int);SV.clo (nat_lit 159) []=SV.clo (159:Nat) []/\(n=t.1 /\ ∀ (i:Nat),i<n -> [I (f i).w,I (f i).h] = [I (t.2 i).w,I (t.2 i).h])/\t.1 <= (1000000:Nat) /\ ∀ (u:Nat->L.Size),SortedBy L.cmpSz t.1 t.2 u->(∃ (g:(Nat->L.Size) × Nat),A7=(↑g.2:Int)/\(t.1=n /\ ∀ (i:Nat),i<t.1 -> [I (u i).w,I (u i).h] = [I (g.1 i).w,I (g.1 i).h])/\((0:Nat)=L.scN g.1 g.2 /\ ∀ (i:Nat),i<(0:Nat) -> [] = [I (L.scG g.1 g.2 i).w,I (L.scG g.1 g.2 i).h])/\g.2 <= n/\SortedBy L.cmpSz n f g.1) /\ ∀ (g:(Nat->L.Size) × Nat),let A3:=(↑g.2:Int);let A8:=(g.1 (T A3));let A1:=(↑(L.scN g.1 g.2):Int);let A4:=(!decide (A1=A7));let A2:=(bif decide (A1=A7) then true else decide (A8.h<(L.scG g.1 g.2 (T (A1 - A5))).h));g.2 <= n/\SortedBy L.cmpSz n f g.1->(decide (A3<A6)=true->(A7 <= A3/\A3<(↑n:Int))/\T A3<n/\(A4=true->InK .i64 (A1 - A5))/\(A4=true->A7 <= A1 - A5/\A1 - A5<A1)/\(A4=true->T (A1 - A5)<L.scN g.1 g.2)/\(A2=true->(L.scN g.1 g.2+nat_lit 1) * nat_lit 16 <= (140737488355328:Nat)/\InK .i64 (A3+A5) /\ ∃ (g':(Nat->L.Size) × Nat),A3+A5=(↑g'.2:Int)/\A6=A6/\(n=n /\ ∀ (i:Nat),i<n -> [I (g.1 i).w,I (g.1 i).h] = [I (g'.1 i).w,I (g'.1 i).h])/\(L.scN g.1 g.2+nat_lit 1=L.scN g'.1 g'.2 /\ ∀ (i:Nat),i<L.scN g.1 g.2+nat_lit 1->appGet (L.scN g.1 g.2) (fun (j:Nat)=>[I (L.scG g.1 g.2 j).w,I (L.scG g.1 g.2 j).h]) (fun (x:Nat)=>[I A8.w,I A8.h]) i = [I (L.scG g'.1 g'.2 i).w,I (L.scG g'.1 g'.2 i).h])/\(g'.2 <= n/\SortedBy L.cmpSz n f g'.1)/\n - g'.2<n - g.2)/\(A2=false->InK .i64 (A3+A5) /\ ∃ (g':(Nat->L.Size) × Nat),A3+A5=(↑g'.2:Int)/\A6=A6/\(n=n /\ ∀ (i:Nat),i<n -> [I (g.1 i).w,I (g.1 i).h] = [I (g'.1 i).w,I (g'.1 i).h])/\(L.scN g.1 g.2=L.scN g'.1 g'.2 /\ ∀ (i:Nat),i<L.scN g.1 g.2 -> [I (L.scG g.1 g.2 i).w,I (L.scG g.1 g.2 i).h] = [I (L.scG g'.1 g'.2 i).w,I (L.scG g'.1 g'.2 i).h])/\(g'.2 <= n/\SortedBy L.cmpSz n f g'.1)/\n - g'.2<n - g.2))/\(decide (A3<A6)=false -> ∃ (u:Nat->L.Size),(n=n /\ ∀ (i:Nat),i<n -> [I (g.1 i).w,I (g.1 i).h] = [I (u i).w,I (u i).h])/\(L.scN g.1 g.2=L.scN u n /\ ∀ (i:Nat),i<L.scN g.1 g.2 -> [I (L.scG g.1 g.2 i).w,I (L.scG g.1 g.2 i).h] = [I (L.scG u n i).w,I (L.scG u n i).h])/\SortedBy L.cmpSz n f u)) (by kernel_rfl) (by
 conv=>zeta
 have hp:n <= 1000000:=hp
 refine ⟨(n,f),rfl,⟨rfl,fun _ _=>rfl⟩,hp,fun u hu=>⟨⟨(u,0),rfl,⟨rfl,fun _ _=>rfl⟩,⟨rfl,fun i hi=>absurd hi (Nat.not_lt_zero _)⟩,Nat.zero_le _,hu⟩,fun ⟨v,k⟩ ⟨hk,hv⟩=>⟨fun hlt=>?_,fun hge=>?_⟩⟩⟩
 ·have hlt:(k:Int)<(n:Int):=of_decide_eq_true hlt
  have hk:k<n:=by omega
  have c2:((k:Int)).toNat=k:=Int.toNat_natCast k
  have hs:=scN_le v k
  have nz:(!decide (((L.scN v k:Nat):Int)=0))=true->0<L.scN v k:=fun h=>by
   have:¬ ((L.scN v k:Nat):Int)=0:=of_decide_eq_false (notT h)
   omega
  refine ⟨⟨Int.natCast_nonneg _,hlt⟩,by show (k:Int).toNat<n;omega,fun h=>InK.of (by have:=nz h;show _ <= ((L.scN v k:Nat):Int) - 1;omega) (by show ((L.scN v k:Nat):Int) - 1 <= _;omega),fun h=>⟨by have:=nz h;show _ <= ((L.scN v k:Nat):Int) - 1;omega,by show ((L.scN v k:Nat):Int) - 1<((L.scN v k:Nat):Int);omega⟩,fun h=>by have:=nz h;show (((L.scN v k:Nat):Int) - 1).toNat<L.scN v k;omega,fun h=>?_,fun h=>?_⟩
  ·have e:=sc_take (u:=v) (k:=k) (by have h':(bif decide (((L.scN v k:Nat):Int)=0) then true else decide ((v (k:Int).toNat).h<(L.scG v k (((L.scN v k:Nat):Int) - 1).toNat).h))=true:=h;rw [c2] at h';exact h')
   obtain ⟨e1,e2⟩:=scG_app e
   refine ⟨by show (L.scN v k+1) * 16 <= 140737488355328;omega,InK.of (by show _ <= (k:Int)+1;omega) (by show (k:Int)+1 <= _;omega),(v,k+1),by show (k:Int)+1=((k+1:Nat):Int);omega,rfl,⟨rfl,fun _ _=>rfl⟩,⟨e1.symm,fun i hi=>?_⟩,⟨by show k+1 <= n;omega,hv⟩,by show n - (k+1)<n - k;omega⟩
   have hi:i<L.scN v k+1:=hi
   have e3:=e2 i hi
   show appGet (L.scN v k) _ _ i = [SV.int .i64 (L.scG v (k+1) i).w,SV.int .i64 (L.scG v (k+1) i).h]
   rw [e3]
   unfold appGet
   by_cases h4:i<L.scN v k
   ·rw [if_pos h4,if_pos h4]
   ·rw [if_neg h4,if_neg h4]
    show [SV.int .i64 (v (k:Int).toNat).w,SV.int .i64 (v (k:Int).toNat).h]=_
    rw [c2]
  ·have e:=sc_skip (u:=v) (k:=k) (by have h':(bif decide (((L.scN v k:Nat):Int)=0) then true else decide ((v (k:Int).toNat).h<(L.scG v k (((L.scN v k:Nat):Int) - 1).toNat).h))=false:=h;rw [c2] at h';exact h')
   have e1:L.scN v (k+1)=L.scN v k:=by unfold L.scN;rw [e]
   have e2:∀ i,L.scG v (k+1) i=L.scG v k i:=fun i=>by unfold L.scG;rw [e]
   exact ⟨InK.of (by show _ <= (k:Int)+1;omega) (by show (k:Int)+1 <= _;omega),(v,k+1),by show (k:Int)+1=((k+1:Nat):Int);omega,rfl,⟨rfl,fun _ _=>rfl⟩,⟨e1.symm,fun i _=>by rw [e2]⟩,⟨by show k+1 <= n;omega,hv⟩,by show n - (k+1)<n - k;omega⟩
 ·have hge:¬ (k:Int)<(n:Int):=of_decide_eq_false hge
  have hk:k <= n:=hk
  obtain rfl:k=n:=by omega
  exact ⟨v,⟨rfl,fun _ _=>rfl⟩,⟨rfl,fun _ _=>rfl⟩,hv⟩)
theorem c_minimal_en:Enters Tryz.prog 115:=fun args w=>by kernel_rfl
theorem c_minimal_mok:MkOk Tryz.prog 115 c_minimal_mk:=mk_ok (n:=1) Tryz.func115 (c:=bodyOf Tryz.f115) (by kernel_rfl) mixed ⟨fun t=>rfl,fun t=>rfl,fun t u=>rfl,fun t u=>rfl,fun t u=>rfl,fun t u=>⟨rfl,rfl⟩,by kernel_rfl,by kernel_rfl⟩ (fun ⟨n,f⟩ hp=>⟨_,c_minimal_vc n f hp,⟨show SpecsL Tryz.prog _ from SpecsL.nil,rfl,⟨show ItersL Tryz.prog _ from ItersL.nil,⟨show TrsL Tryz.prog _ from (TrsL.cons s_sortSz_tok s_sortSz_en TrsL.nil),⟨MksOk.no1 (fun _=>rfl),FamsOk.none (fun _=>rfl)⟩⟩⟩⟩⟩)
end Go.Proofs.YtpgaejicfbpcmaaGreat
namespace Go.Proofs.YtpgaejicfbpcmaaGreat
open Go.SE Go.RowKit
set_option maxRecDepth 100000
set_option maxHeartbeats 4000000
set_option linter.unusedVariables false
attribute [local irreducible] vc
def L.all (n:Nat):Int:=L.ishl 1 n - 1
theorem all_bd {n:Nat} (h:n <= 4):0 <= L.all n/\L.all n <= 15/\0 <= L.ishl 1 n/\L.ishl 1 n <= 16:=by
 have:n=0\/n=1\/n=2\/n=3\/n=4:=by omega
 rcases this with rfl | rfl | rfl | rfl | rfl <;> decide
abbrev c_full_mk:Mk:={ T:=(L.Sq L.Want) × (Int) × (Int->L.Sq L.Size) × (Int->Bool),U:=Nat,args:=fun t=>(fun w gr f dom=>[.loc 1000 0]) t.1 t.2.1 t.2.2.1 t.2.2.2,lkeys:=[1000,1001],keys:=[],lent:=fun t=>(fun w gr f dom=>[(1000,.blk 162 [.p ((.sl 4 w.n (fun i=>[.int .i64 ((w.g i).id),.int .i64 ((w.g i).colour),.int .i64 ((w.g i).grain),.sl 2 (w.g i).ol.n (fun i1=>[.int .i64 (((w.g i).ol.g i1).x),.int .i64 (((w.g i).ol.g i1).y)])]))),.p (.int .i64 gr),.mapv 1001]),(1001,.mq 3 27 dom (L.memo f))]) t.1 t.2.1 t.2.2.1 t.2.2.2,pre:=fun t=>(fun w gr f dom=>w.n <= 4) t.1 t.2.1 t.2.2.1 t.2.2.2,post:=fun t u=>(fun w gr f dom=>fun uu=>True) t.1 t.2.1 t.2.2.1 t.2.2.2 u,lent':=fun t u=>(fun w gr f dom=>fun uu=>[(1000,.blk 162 [.p ((.sl 4 w.n (fun i=>[.int .i64 ((w.g i).id),.int .i64 ((w.g i).colour),.int .i64 ((w.g i).grain),.sl 2 (w.g i).ol.n (fun i1=>[.int .i64 (((w.g i).ol.g i1).x),.int .i64 (((w.g i).ol.g i1).y)])]))),.p (.int .i64 gr),.mapv 1001]),(1001,.mq 3 27 dom (L.memo f))]) t.1 t.2.1 t.2.2.1 t.2.2.2 u,own:=fun t u=>(fun w gr f dom=>fun uu=>[]) t.1 t.2.1 t.2.2.1 t.2.2.2 u,res:=fun t u=>(fun w gr f dom=>fun uu=>.p (.int .i64 (L.all w.n))) t.1 t.2.1 t.2.2.1 t.2.2.2 u }
theorem c_full_vc (w:L.Sq L.Want) (gr:Int) (f:Int->L.Sq L.Size) (dom:Int->Bool) (hp:c_full_mk.pre (w,gr,f,dom)):vc Tryz.prog (cC) (bodyOf Tryz.f65) (stTr Tryz.f65 (c_full_mk.args (w,gr,f,dom)) (c_full_mk.lent (w,gr,f,dom))) (retMk Tryz.prog Tryz.f65 c_full_mk (w,gr,f,dom)) :=
 @Eq.mpr _ (let I:=SV.int .i64;let A3:=(1:Int);let A2:=(↑w.n:Int);(0:Int) <= A2/\InK .i64 (L.ishl A3 A2)/\InK .i64 (L.ishl A3 A2 - A3) /\ ∃ (u:Nat),L.ishl A3 A2 - A3=L.all w.n/\(w.n=w.n /\ ∀ (i:Nat),let A1:=[I (w.g i).id,I (w.g i).colour,I (w.g i).grain,SV.sl (2:Nat) (w.g i).ol.n fun (i1:Nat)=>[I ((w.g i).ol.g i1).x,I ((w.g i).ol.g i1).y]];i<w.n->A1=A1)/\gr=gr/\(∀ (x:Int),dom x=dom x)/\(∀ (x:Int),dom x=true->L.memo f x=L.memo f x)/\True) (by kernel_rfl) (by
 conv=>zeta
 obtain ⟨a1,a2,a3,a4⟩:=all_bd (n:=w.n) hp
 exact ⟨Int.natCast_nonneg _,jK,InK.of (by show _ <= L.all w.n;omega) (by show L.all w.n <= _;omega),(0:Nat),rfl,⟨rfl,fun _ _=>rfl⟩,rfl,fun _=>rfl,fun _ _=>rfl,trivial⟩)
theorem c_full_en:Enters Tryz.prog 65:=fun args w=>by kernel_rfl
theorem c_full_mok:MkOk Tryz.prog 65 c_full_mk:=mk_ok (n:=1) Tryz.func65 (c:=bodyOf Tryz.f65) (by kernel_rfl) mixed ⟨fun t=>rfl,fun t=>rfl,fun t u=>rfl,fun t u=>rfl,fun t u=>rfl,fun t u=>⟨rfl,rfl⟩,by kernel_rfl,by kernel_rfl⟩ (fun ⟨w,gr,f,dom⟩ hp=>⟨_,c_full_vc w gr f dom hp,⟨show SpecsL Tryz.prog _ from SpecsL.nil,rfl,⟨show ItersL Tryz.prog _ from ItersL.nil,(TrsOk.none (fun _=>rfl))⟩⟩⟩)
end Go.Proofs.YtpgaejicfbpcmaaGreat
namespace Go.Proofs.YtpgaejicfbpcmaaGreat
open Go.SE Go.RowKit
set_option maxRecDepth 100000
set_option maxHeartbeats 4000000
set_option linter.unusedVariables false
attribute [local irreducible] vc
def Cu.le (a b:L.Size):Prop:=a.w <= b.w/\a.h <= b.h
def Cu.leB (a b:L.Size):Bool:=decide (a.w <= b.w) && decide (a.h <= b.h)
theorem Cu.leB_iff {a b:L.Size}:leB a b=true ↔ le a b:=by unfold leB le;rw [Bool.and_eq_true,decide_eq_true_eq,decide_eq_true_eq]
theorem Cu.le_refl (a:L.Size):le a a:=⟨Int.le_refl _,Int.le_refl _⟩
theorem Cu.le_trans {a b c:L.Size} (h:le a b) (k:le b c):le a c:=⟨Int.le_trans h.1 k.1,Int.le_trans h.2 k.2⟩
theorem Cu.sz_ext {a b:L.Size} (h:a.w=b.w) (k:a.h=b.h):a=b:=by
 cases a;cases b;simp only at h k;subst h k;rfl
def Cu.Stair (l:List L.Size):Prop:=l.Pairwise fun a b=>a.w<b.w/\b.h<a.h
def Cu.cov (l:List L.Size) (s:L.Size):Prop:=∃ x,x ∈ l/\le x s
def Cu.Same (l m:List L.Size):Prop:=∀ s,cov l s ↔ cov m s
theorem Cu.Same.refl (l:List L.Size):Same l l:=fun _=>Iff.rfl
theorem Cu.Same.symm {l m:List L.Size} (h:Same l m):Same m l:=fun s=>(h s).symm
theorem Cu.Same.trans {l m n:List L.Size} (h:Same l m) (k:Same m n):Same l n:=fun s=>(h s).trans (k s)
theorem Cu.cov_append {l m:List L.Size} {s:L.Size}:cov (l ++ m) s ↔ cov l s\/cov m s:=by
 unfold cov
 simp only [List.mem_append]
 constructor
 ·rintro ⟨x,h | h,k⟩
  ·exact .inl ⟨x,h,k⟩
  ·exact .inr ⟨x,h,k⟩
 ·rintro (⟨x,h,k⟩ | ⟨x,h,k⟩)
  ·exact ⟨x,.inl h,k⟩
  ·exact ⟨x,.inr h,k⟩
theorem Cu.Same.append {l l' m m':List L.Size} (h:Same l l') (k:Same m m'):Same (l ++ m) (l' ++ m'):=fun s=>by
 rw [cov_append,cov_append,h s,k s]
theorem Cu.Same.of_mem {l m:List L.Size} (h:∀ x,x ∈ l ↔ x ∈ m):Same l m:=fun s=>by
 unfold cov
 simp only [h]
theorem Cu.cov_mem {l:List L.Size} {x:L.Size} (h:x ∈ l):cov l x:=⟨x,h,le_refl x⟩
theorem Cu.Same.of_sub {l m:List L.Size} (h:∀ x,x ∈ l->cov m x) (k:∀ x,x ∈ m->cov l x):Same l m:=fun s=>by
 constructor
 ·rintro ⟨x,hx,hs⟩
  obtain ⟨y,hy,hyx⟩:=h x hx
  exact ⟨y,hy,le_trans hyx hs⟩
 ·rintro ⟨x,hx,hs⟩
  obtain ⟨y,hy,hyx⟩:=k x hx
  exact ⟨y,hy,le_trans hyx hs⟩
theorem Cu.stair_le {l:List L.Size} (h:Stair l):∀ a,a ∈ l -> ∀ b,b ∈ l->le a b->a=b:=by
 intro a ha b hb hab
 obtain ⟨i,hi,rfl⟩:=List.getElem_of_mem ha
 obtain ⟨j,hj,rfl⟩:=List.getElem_of_mem hb
 have hp:=List.pairwise_iff_getElem.1 h
 rcases Nat.lt_trichotomy i j with hlt | heq | hgt
 ·have:=hp i j hi hj hlt
  have:=hab.2
  omega
 ·subst heq;rfl
 ·have:=hp j i hj hi hgt
  have:=hab.1
  omega
theorem Cu.mem_of_same {l m:List L.Size} (hl:Stair l) (hm:Stair m) (h:Same l m):∀ x,x ∈ l->x ∈ m:=fun x hx=>by
 obtain ⟨y,hy,hyx⟩:=(h x).1 (cov_mem hx)
 obtain ⟨z,hz,hzy⟩:=(h y).2 (cov_mem hy)
 have e1:=stair_le hl z hz x hx (le_trans hzy hyx)
 subst e1
 have:y=z:=sz_ext (Int.le_antisymm hyx.1 hzy.1) (Int.le_antisymm hyx.2 hzy.2)
 exact this ▸ hy
theorem Cu.stair_ext:∀ {l m:List L.Size},Stair l->Stair m->(∀ x,x ∈ l ↔ x ∈ m)->l=m
 | [],[],_,_,_=>rfl
 | [],b :: m,_,_,h=>by have:=(h b).2 (List.mem_cons_self ..);cases this
 | a :: l,[],_,_,h=>by have:=(h a).1 (List.mem_cons_self ..);cases this
 | a :: l,b :: m,hl,hm,h=>by
   unfold Stair at hl hm
   rw [List.pairwise_cons] at hl hm
   have e:a=b:=by
    rcases List.mem_cons.1 ((h a).1 (List.mem_cons_self ..)) with e | e
    ·exact e
    ·rcases List.mem_cons.1 ((h b).2 (List.mem_cons_self ..)) with e2 | e2
     ·exact e2.symm
     ·have:=(hm.1 a e).1
      have:=(hl.1 b e2).1
      omega
   subst e
   rw [stair_ext hl.2 hm.2 (fun x=>?_)]
   constructor
   ·intro hx
    rcases List.mem_cons.1 ((h x).1 (List.mem_cons_of_mem _ hx)) with e | e
    ·subst e;have:=(hl.1 x hx).1;omega
    ·exact e
   ·intro hx
    rcases List.mem_cons.1 ((h x).2 (List.mem_cons_of_mem _ hx)) with e | e
    ·subst e;have:=(hm.1 x hx).1;omega
    ·exact e
theorem Cu.stair_uniq {l m:List L.Size} (hl:Stair l) (hm:Stair m) (h:Same l m):l=m :=
 stair_ext hl hm (fun x=>⟨mem_of_same hl hm h x,mem_of_same hm hl h.symm x⟩)
def Cu.ins (l:List L.Size) (s:L.Size):List L.Size:=if l.any (fun x=>leB x s) then l else l.filter (fun x=>decide (x.w<s.w)) ++ s :: l.filter (fun x=>decide (s.w<x.w) && !leB s x)
theorem Cu.ins_ok {l:List L.Size} (h:Stair l) (s:L.Size):Stair (ins l s)/\Same (ins l s) (l ++ [s]):=by
 unfold ins
 split
 ·rename_i hc
  obtain ⟨x,hx,hxs⟩:=List.any_eq_true.1 hc
  refine ⟨h,Same.of_sub (fun y hy=>cov_mem (List.mem_append_left _ hy)) (fun y hy=>?_)⟩
  rcases List.mem_append.1 hy with hy | hy
  ·exact cov_mem hy
  ·rw [List.mem_singleton.1 hy]
   exact ⟨x,hx,leB_iff.1 hxs⟩
 ·rename_i hc
  have hc:∀ x,x ∈ l->¬ le x s:=fun x hx e=>hc (List.any_eq_true.2 ⟨x,hx,leB_iff.2 e⟩)
  refine ⟨?_,Same.of_sub (fun y hy=>?_) (fun y hy=>?_)⟩
  ·unfold Stair
   rw [List.pairwise_append,List.pairwise_cons]
   refine ⟨List.Pairwise.filter _ h,⟨fun y hy=>?_,List.Pairwise.filter _ h⟩,fun x hx y hy=>?_⟩
   ·obtain ⟨_,q⟩:=List.mem_filter.1 hy
    simp only [Bool.and_eq_true,decide_eq_true_eq,Bool.not_eq_true'] at q
    refine ⟨q.1,?_⟩
    have:¬ le s y:=fun e=>by rw [leB_iff.2 e] at q;cases q.2
    unfold le at this
    omega
   ·obtain ⟨m1,q⟩:=List.mem_filter.1 hx
    have q:x.w<s.w:=by simpa using q
    have hs:s.h<x.h:=by
     have:=hc x m1
     unfold le at this
     omega
    rcases List.mem_cons.1 hy with rfl | hy
    ·exact ⟨q,hs⟩
    ·obtain ⟨_,q2⟩:=List.mem_filter.1 hy
     simp only [Bool.and_eq_true,decide_eq_true_eq,Bool.not_eq_true'] at q2
     have:¬ le s y:=fun e=>by rw [leB_iff.2 e] at q2;cases q2.2
     unfold le at this
     omega
  ·rcases List.mem_append.1 hy with hy | hy
   ·exact cov_mem (List.mem_append_left _ (List.mem_filter.1 hy).1)
   ·rcases List.mem_cons.1 hy with rfl | hy
    ·exact cov_mem (List.mem_append_right _ (List.mem_singleton.2 rfl))
    ·exact cov_mem (List.mem_append_left _ (List.mem_filter.1 hy).1)
  ·rcases List.mem_append.1 hy with hy | hy
   ·by_cases e1:y.w<s.w
    ·exact cov_mem (List.mem_append_left _ (List.mem_filter.2 ⟨hy,by simpa using e1⟩))
    ·by_cases e2:le s y
     ·exact ⟨s,List.mem_append_right _ (List.mem_cons_self ..),e2⟩
     ·have e3 : s.w < y.w := by
       have:=hc y hy
       unfold le at this e2
       omega
      refine cov_mem (List.mem_append_right _ (List.mem_cons_of_mem _ (List.mem_filter.2 ⟨hy,?_⟩)))
      rw [Bool.and_eq_true]
      refine ⟨decide_eq_true e3,?_⟩
      cases h2:leB s y with
      | false=>rfl
      | true=>exact absurd (leB_iff.1 h2) e2
   ·rw [List.mem_singleton.1 hy]
    exact cov_mem (List.mem_append_right _ (List.mem_cons_self ..))
def Cu.stair (l:List L.Size):List L.Size:=l.foldl ins []
theorem Cu.foldl_ok:∀ (l a:List L.Size),Stair a->Stair (l.foldl ins a)/\Same (l.foldl ins a) (a ++ l)
 | [],a,h=>⟨h,by rw [List.append_nil];exact Same.refl _⟩
 | s :: l,a,h=>by
   obtain ⟨h1,h2⟩:=ins_ok h s
   obtain ⟨h3,h4⟩:=foldl_ok l (ins a s) h1
   refine ⟨h3,h4.trans ?_⟩
   have:=h2.append (Same.refl l)
   rwa [List.append_assoc] at this
theorem Cu.stair_ok (l:List L.Size):Stair (stair l)/\Same (stair l) l:=foldl_ok l [] List.Pairwise.nil
theorem Cu.stair_eq {l m:List L.Size} (h:Stair m) (k:Same m l):m=stair l:=stair_uniq h (stair_ok l).1 (k.trans (stair_ok l).2.symm)
theorem Cu.stair_congr {l m:List L.Size} (h:Same l m):stair l=stair m:=stair_eq (stair_ok l).1 ((stair_ok l).2.trans h)
def Cu.scan:List L.Size->List L.Size->List L.Size
 | out,[]=>out
 | out,s :: l=>scan (match out.getLast? with
   | none=>out ++ [s]
   | some x=>if s.h<x.h then out ++ [s] else out) l
def Cu.Asc (l:List L.Size):Prop:=l.Pairwise fun a b=>a.w<b.w\/(a.w=b.w/\a.h <= b.h)
theorem Cu.scan_ok:∀ (l out:List L.Size),Stair out->Asc l->(∀ x,x ∈ out -> ∀ s,s ∈ l->x.w<s.w\/(x.w=s.w/\x.h <= s.h))->Stair (scan out l)/\Same (scan out l) (out ++ l)
 | [],out,h,_,_=>⟨h,by rw [List.append_nil];exact Same.refl _⟩
 | s :: l,out,h,ha,hx=>by
   unfold Asc at ha
   rw [List.pairwise_cons] at ha
   have key:∀ out',Stair out'->Same out' (out ++ [s])->(∀ x,x ∈ out'->x ∈ out\/x=s)->Stair (scan out' l)/\Same (scan out' l) (out ++ s :: l):=fun out' h1 h2 h3=>by
    obtain ⟨k1,k2⟩:=scan_ok l out' h1 ha.2 (fun x hx' y hy=>by
     rcases h3 x hx' with e | rfl
     ·exact hx x e y (List.mem_cons_of_mem _ hy)
     ·exact ha.1 y hy)
    refine ⟨k1,k2.trans ?_⟩
    have:=h2.append (Same.refl l)
    rwa [List.append_assoc] at this
   unfold scan
   cases hl:out.getLast? with
   | none =>
     have e:out = []:=List.getLast?_eq_none_iff.1 hl
     subst e
     exact key [s] (List.pairwise_singleton ..) (Same.refl _) (fun x hx'=>.inr (List.mem_singleton.1 hx'))
   | some x =>
     obtain ⟨pre,hpre⟩:=List.getLast?_eq_some_iff.1 hl
     have hxm:x ∈ out:=by rw [hpre];exact List.mem_append_right _ (List.mem_singleton.2 rfl)
     have hxs:=hx x hxm s (List.mem_cons_self ..)
     show Stair (scan (if s.h<x.h then out ++ [s] else out) l)/\Same (scan (if s.h<x.h then out ++ [s] else out) l) (out ++ s :: l)
     by_cases hh:s.h<x.h
     ·rw [if_pos hh]
      have hlow:∀ y,y ∈ out->x.h <= y.h/\y.w <= x.w:=fun y hy=>by
       rw [hpre] at hy
       rcases List.mem_append.1 hy with hy | hy
       ·have h':=h
        unfold Stair at h'
        rw [hpre,List.pairwise_append] at h'
        have:=h'.2.2 y hy x (List.mem_singleton.2 rfl)
        omega
       ·rw [List.mem_singleton.1 hy];omega
      refine key (out ++ [s]) ?_ (Same.refl _) (fun y hy=>?_)
      ·unfold Stair
       rw [List.pairwise_append]
       refine ⟨h,List.pairwise_singleton ..,fun y hy z hz=>?_⟩
       rw [List.mem_singleton.1 hz]
       have:=hlow y hy
       omega
      ·rcases List.mem_append.1 hy with hy | hy
       ·exact .inl hy
       ·exact .inr (List.mem_singleton.1 hy)
     ·rw [if_neg hh]
      refine key out h (Same.of_sub (fun y hy=>cov_mem (List.mem_append_left _ hy)) (fun y hy=>?_)) (fun y hy=>.inl hy)
      rcases List.mem_append.1 hy with hy | hy
      ·exact cov_mem hy
      ·rw [List.mem_singleton.1 hy]
       exact ⟨x,hxm,by omega,by omega⟩
theorem Cu.scan_stair {l m:List L.Size} (ha:Asc l) (hp:l.Perm m):scan [] l=stair m:=by
 obtain ⟨h1,h2⟩:=scan_ok l [] List.Pairwise.nil ha (fun x hx=>by cases hx)
 exact stair_eq h1 (h2.trans (Same.of_mem (fun x=>hp.mem_iff)))
def L.mrg (a b:L.Size):List L.Size:=[⟨a.w+b.w,max a.h b.h⟩,⟨max a.w b.w,a.h+b.h⟩]
def L.prs (A B:List L.Size):List L.Size:=A.flatMap fun a=>B.flatMap fun b=>L.mrg a b
def L.ix1 (g:Int):Nat:=((List.range 4).find? (fun i=>decide (g=2 ^ i))).getD 0
def L.oneC (w:L.Sq L.Want) (gr:Int) (i:Nat):List L.Size:=([0,1].filter fun t=>L.alw (w.g i).grain gr t).map fun t=>L.box (w.g i).ol t
def L.cmp_ (g:Int) (k:Nat):Int:=L.iandNot g (L.part g k)
def L.psK (T:Int->List L.Size) (g:Int):Nat->List L.Size
 | 0=>[]
 | k+1=>L.psK T g k ++ L.prs (T (L.part g k)) (T (L.cmp_ g k))
def L.isOne (g:Int):Bool:=decide (L.iand g (g - 1)=0)
def L.entry (w:L.Sq L.Want) (gr:Int) (T:Int->List L.Size) (g:Int):List L.Size :=
 if g=0 then [⟨0,0⟩] else if L.isOne g=true then Cu.stair (L.oneC w gr (L.ix1 g)) else Cu.stair (L.psK T g (L.partN g))
def L.tabL (w:L.Sq L.Want) (gr:Int):Nat->List (List L.Size)
 | 0=>[]
 | k+1=>L.tabL w gr k ++ [L.entry w gr (fun g=>(L.tabL w gr k).getD g.toNat []) k]
def L.tab (w:L.Sq L.Want) (gr:Int) (g:Int):List L.Size:=(L.tabL w gr 16).getD g.toNat []
def L.sqS (l:List L.Size):L.Sq L.Size:=⟨l.length,fun i=>l.getD i ⟨0,0⟩⟩
def L.tabF (w:L.Sq L.Want) (gr:Int) (g:Int):L.Sq L.Size:=L.sqS (L.tab w gr g)
def chkG (n:Nat):Bool:=decide (n=0) || (if L.isOne n=true then decide ((n:Int)=2 ^ L.ix1 n) && decide (L.ix1 n<4) else decide (0<L.partN n) && (List.range (L.partN n)).all (fun k=>decide (0<L.part n k) && decide (L.part n k<n) && decide (0<L.cmp_ n k) && decide (L.cmp_ n k<n) && decide (L.part n k+L.cmp_ n k=n)))
theorem chkG_all:((List.range 16).all chkG)=true:=by kernel_rfl
theorem grp_one {g:Int} (h:1 <= g) (h':g <= 15) (h1:L.isOne g=true):g=2 ^ L.ix1 g/\L.ix1 g<4:=by
 obtain ⟨n,rfl⟩:=Int.eq_ofNat_of_zero_le (show 0 <= g by omega)
 have:=List.all_eq_true.1 chkG_all n (List.mem_range.2 (by omega))
 unfold chkG at this
 rw [if_pos h1,Bool.or_eq_true,decide_eq_true_eq,Bool.and_eq_true,decide_eq_true_eq,decide_eq_true_eq] at this
 rcases this with h | h
 ·omega
 ·exact h
theorem grp_prt {g:Int} (h:1 <= g) (h':g <= 15) (h1:L.isOne g=false):0<L.partN g /\ ∀ k,k<L.partN g->0<L.part g k/\L.part g k<g/\0<L.cmp_ g k/\L.cmp_ g k<g/\L.part g k+L.cmp_ g k=g:=by
 obtain ⟨n,rfl⟩:=Int.eq_ofNat_of_zero_le (show 0 <= g by omega)
 have:=List.all_eq_true.1 chkG_all n (List.mem_range.2 (by omega))
 unfold chkG at this
 rw [if_neg (by rw [h1];decide),Bool.or_eq_true,decide_eq_true_eq,Bool.and_eq_true,decide_eq_true_eq,List.all_eq_true] at this
 rcases this with h | ⟨h,hk⟩
 ·omega
 ·refine ⟨h,fun k hkk=>?_⟩
  have:=hk k (List.mem_range.2 hkk)
  simp only [Bool.and_eq_true,decide_eq_true_eq] at this
  exact ⟨this.1.1.1.1,this.1.1.1.2,this.1.1.2,this.1.2,this.2⟩
theorem psK_congr {T T':Int->List L.Size} {g:Int} (h:∀ p,0 <= p->p<g->T p=T' p) (hp:∀ k,k<L.partN g->0<L.part g k/\L.part g k<g/\0<L.cmp_ g k/\L.cmp_ g k<g/\L.part g k+L.cmp_ g k=g):∀ k,k <= L.partN g->L.psK T g k=L.psK T' g k
 | 0,_=>rfl
 | k+1,hk=>by
   obtain ⟨h1,h2,h3,h4,_⟩:=hp k (by omega)
   rw [L.psK,L.psK,psK_congr h hp k (by omega),h _ (by omega) h2,h _ (by omega) h4]
theorem entry_congr {w:L.Sq L.Want} {gr:Int} {T T':Int->List L.Size} {g:Int} (h0:0 <= g) (h15:g <= 15) (h:∀ p,0 <= p->p<g->T p=T' p):L.entry w gr T g=L.entry w gr T' g:=by
 unfold L.entry
 by_cases e:g=0
 ·rw [if_pos e,if_pos e]
 ·rw [if_neg e,if_neg e]
  cases h1:L.isOne g with
  | true=>rfl
  | false =>
    rw [if_neg (by decide),if_neg (by decide),psK_congr h (grp_prt (by omega) h15 h1).2 _ (Nat.le_refl _)]
theorem tabL_len (w:L.Sq L.Want) (gr:Int):∀ k,(L.tabL w gr k).length=k
 | 0=>rfl
 | k+1=>by rw [L.tabL,List.length_append,tabL_len w gr k];rfl
theorem tabL_pre (w:L.Sq L.Want) (gr:Int):∀ k m,m <= k -> ∀ j,j<m->(L.tabL w gr k).getD j []=(L.tabL w gr m).getD j []
 | 0,m,h,j,hj=>by omega
 | k+1,m,h,j,hj=>by
   by_cases e:m=k+1
   ·rw [e]
   ·rw [<- tabL_pre w gr k m (by omega) j hj,L.tabL]
    simp only [List.getD_eq_getElem?_getD]
    rw [List.getElem?_append_left (by rw [tabL_len];omega)]
theorem tab_eq (w:L.Sq L.Want) (gr:Int) {g:Int} (h0:0 <= g) (h15:g <= 15):L.tab w gr g=L.entry w gr (L.tab w gr) g:=by
 obtain ⟨n,rfl⟩:=Int.eq_ofNat_of_zero_le h0
 have e1:L.tab w gr n=L.entry w gr (fun g=>(L.tabL w gr n).getD g.toNat []) n:=by
  unfold L.tab
  rw [Int.toNat_natCast,tabL_pre w gr 16 (n+1) (by omega) n (by omega),L.tabL]
  simp only [List.getD_eq_getElem?_getD]
  rw [List.getElem?_append_right (by rw [tabL_len];omega),tabL_len,Nat.sub_self];rfl
 rw [e1]
 refine entry_congr (by omega) h15 (fun p hp hpg=>?_)
 unfold L.tab
 rw [tabL_pre w gr 16 n (by omega) p.toNat (by omega)]
theorem tab_0 (w:L.Sq L.Want) (gr:Int):L.tab w gr 0 = [⟨0,0⟩]:=by
 rw [tab_eq w gr (by decide) (by decide)];rfl
theorem tab_1 (w:L.Sq L.Want) (gr:Int) {g:Int} (h:1 <= g) (h15:g <= 15) (h1:L.isOne g=true):L.tab w gr g=Cu.stair (L.oneC w gr (L.ix1 g)):=by
 rw [tab_eq w gr (by omega) h15]
 unfold L.entry
 rw [if_neg (by omega),if_pos h1]
theorem tab_2 (w:L.Sq L.Want) (gr:Int) {g:Int} (h:1 <= g) (h15:g <= 15) (h1:L.isOne g=false):L.tab w gr g=Cu.stair (L.psK (L.tab w gr) g (L.partN g)):=by
 rw [tab_eq w gr (by omega) h15]
 unfold L.entry
 rw [if_neg (by omega),if_neg (by rw [h1];decide)]
theorem ins_len (l:List L.Size) (s:L.Size):(Cu.ins l s).length <= l.length+1:=by
 unfold Cu.ins
 split
 ·omega
 ·rw [List.length_append,List.length_cons]
  have h:∀ l:List L.Size,(l.filter (fun x=>decide (x.w<s.w))).length+(l.filter (fun x=>decide (s.w<x.w) && !Cu.leB s x)).length <= l.length:=fun l=>by
   induction l with
   | nil=>simp
   | cons a l ih =>
     by_cases h1:a.w<s.w
     ·rw [List.filter_cons_of_pos (by simpa using h1),List.filter_cons_of_neg (by simp;omega),List.length_cons,List.length_cons];omega
     ·rw [List.filter_cons_of_neg (by simpa using h1),List.length_cons]
      have:=List.length_filter_le (fun x=>decide (s.w<x.w) && !Cu.leB s x) [a]
      rw [show a :: l = [a] ++ l from rfl,List.filter_append,List.length_append]
      simp at this;omega
  have:=h l
  omega
theorem stair_len (l:List L.Size):(Cu.stair l).length <= l.length:=by
 have h:∀ (l a:List L.Size),(l.foldl Cu.ins a).length <= a.length+l.length:=fun l=>by
  induction l with
  | nil=>intro a;simp
  | cons s l ih=>intro a;rw [List.foldl_cons,List.length_cons];have:=ih (Cu.ins a s);have:=ins_len a s;omega
 have:=h l []
 simpa [Cu.stair] using this
theorem ins_mem {l:List L.Size} {s x:L.Size} (h:x ∈ Cu.ins l s):x ∈ l\/x=s:=by
 unfold Cu.ins at h
 split at h
 ·exact .inl h
 ·rcases List.mem_append.1 h with h | h
  ·exact .inl (List.mem_filter.1 h).1
  ·rcases List.mem_cons.1 h with h | h
   ·exact .inr h
   ·exact .inl (List.mem_filter.1 h).1
theorem stair_mem {l:List L.Size} {x:L.Size} (h:x ∈ Cu.stair l):x ∈ l:=by
 have k:∀ (l a:List L.Size),x ∈ l.foldl Cu.ins a->x ∈ a\/x ∈ l:=fun l=>by
  induction l with
  | nil=>intro a h;exact .inl h
  | cons s l ih =>
    intro a h
    rcases ih _ h with h | h
    ·rcases ins_mem h with h | h
     ·exact .inl h
     ·exact .inr (h ▸ List.mem_cons_self ..)
    ·exact .inr (List.mem_cons_of_mem _ h)
 rcases k l [] h with h | h
 ·cases h
 ·exact h
theorem prs_len (A B:List L.Size):(L.prs A B).length=2 * (A.length * B.length):=by
 have h:∀ a:L.Size,(B.flatMap fun b=>L.mrg a b).length=2 * B.length:=fun a=>by
  induction B with
  | nil=>rfl
  | cons b B ih=>rw [List.flatMap_cons,List.length_append,ih,List.length_cons];show 2+_=_;omega
 unfold L.prs
 induction A with
 | nil=>simp
 | cons a A ih=>rw [List.flatMap_cons,List.length_append,h,ih,List.length_cons,Nat.add_mul];omega
def cbL:Nat->List Nat
 | 0=>[]
 | n+1=>let T:=cbL n;T ++ [if n=0 then 1 else if L.isOne n=true then 2 else ((List.range (L.partN n)).map fun k=>2 * (T.getD (L.part n k).toNat 0 * T.getD (L.cmp_ n k).toNat 0)).sum]
def cb (g:Int):Nat:=(cbL 16).getD g.toNat 0
def cbK (g:Int) (k:Nat):Nat:=((List.range k).map fun k=>2 * (cb (L.part g k) * cb (L.cmp_ g k))).sum
def chkC (n:Nat):Bool:=decide (cb n <= 2000) && (decide (n=0) || (if L.isOne n=true then decide (cb n=2) else decide (cb n=cbK n (L.partN n))))
theorem chkC_all:((List.range 16).all chkC)=true:=by kernel_rfl
theorem cb_le {g:Int} (h:0 <= g) (h':g <= 15):cb g <= 2000/\(1 <= g->L.isOne g=true->cb g=2)/\(1 <= g->L.isOne g=false->cb g=cbK g (L.partN g)):=by
 obtain ⟨n,rfl⟩:=Int.eq_ofNat_of_zero_le h
 have:=List.all_eq_true.1 chkC_all n (List.mem_range.2 (by omega))
 unfold chkC at this
 rw [Bool.and_eq_true,decide_eq_true_eq,Bool.or_eq_true,decide_eq_true_eq] at this
 obtain ⟨h1,h2⟩:=this
 refine ⟨h1,fun h3 h4=>?_,fun h3 h4=>?_⟩
 ·rcases h2 with h2 | h2
  ·omega
  ·rw [if_pos h4,decide_eq_true_eq] at h2;exact h2
 ·rcases h2 with h2 | h2
  ·omega
  ·rw [if_neg (by rw [h4];decide),decide_eq_true_eq] at h2;exact h2
theorem sum_succ (f:Nat->Nat) (k:Nat):((List.range (k+1)).map f).sum=((List.range k).map f).sum+f k:=by
 rw [List.range_succ,List.map_append,List.sum_append];simp
theorem cbK_succ (g:Int) (k:Nat):cbK g (k+1)=cbK g k+2 * (cb (L.part g k) * cb (L.cmp_ g k)):=sum_succ _ _
theorem cbK_mono (g:Int):∀ {k m},k <= m->cbK g k <= cbK g m:=fun {k m} h=>by
 induction m with
 | zero=>rw [show k=0 by omega];exact Nat.le_refl _
 | succ m ih =>
   by_cases e:k=m+1
   ·rw [e];exact Nat.le_refl _
   ·rw [cbK_succ];have:=ih (by omega);omega
structure TabOk (T:Int->List L.Size) (g:Int):Prop where
 len:(T g).length <= cb g
 bd:∀ s,s ∈ T g->0 <= s.w/\s.w <= 4096 * g/\0 <= s.h/\s.h <= 4096 * g
theorem prs_bd {A B:List L.Size} {p q g:Int} (hA:∀ s,s ∈ A->0 <= s.w/\s.w <= 4096 * p/\0 <= s.h/\s.h <= 4096 * p) (hB:∀ s,s ∈ B->0 <= s.w/\s.w <= 4096 * q/\0 <= s.h/\s.h <= 4096 * q) (e:p+q=g):∀ s,s ∈ L.prs A B->0 <= s.w/\s.w <= 4096 * g/\0 <= s.h/\s.h <= 4096 * g:=fun s hs=>by
 unfold L.prs at hs
 obtain ⟨a,ha,hs⟩:=List.mem_flatMap.1 hs
 obtain ⟨b,hb,hs⟩:=List.mem_flatMap.1 hs
 have h1:=hA a ha
 have h2:=hB b hb
 unfold L.mrg at hs
 rcases List.mem_cons.1 hs with rfl | hs
 ·simp only;omega
 ·rcases List.mem_cons.1 hs with rfl | hs
  ·simp only;omega
  ·cases hs
theorem box_bd2 (l:L.Sq L.Pt) (t:Int):0 <= (L.box l t).w/\(L.box l t).w <= 4096/\0 <= (L.box l t).h/\(L.box l t).h <= 4096:=by
 have hb:=box_bd l
 have hle:(L.boxL l).x <= (L.boxH l).x/\(L.boxL l).y <= (L.boxH l).y:=by
  unfold L.boxL L.boxH
  cases hv:L.validOutline l with
  | false=>exact ⟨Int.le_refl _,Int.le_refl _⟩
  | true =>
    obtain ⟨n3,_,_,_⟩:=validOutline_of hv
    simp only [cond_true]
    have h1:=lowTo_le (l:=l) l.n 0 (by omega)
    have h2:=highTo_ge (l:=l) l.n 0 (by omega)
    omega
 unfold L.box
 cases decide (t=1) <;> simp only [cond_true,cond_false] <;> omega
theorem psK_ok {T:Int->List L.Size} {g:Int} (hT:∀ p,0 <= p->p<g->TabOk T p) (hp:∀ k,k<L.partN g->0<L.part g k/\L.part g k<g/\0<L.cmp_ g k/\L.cmp_ g k<g/\L.part g k+L.cmp_ g k=g):∀ k,k <= L.partN g->(L.psK T g k).length <= cbK g k /\ ∀ s,s ∈ L.psK T g k->0 <= s.w/\s.w <= 4096 * g/\0 <= s.h/\s.h <= 4096 * g
 | 0,_=>⟨Nat.zero_le _,fun s hs=>by cases hs⟩
 | k+1,hk=>by
   obtain ⟨h1,h2⟩:=psK_ok hT hp k (by omega)
   obtain ⟨p1,p2,p3,p4,p5⟩:=hp k (by omega)
   have hA:=hT _ (Int.le_of_lt p1) p2
   have hB:=hT _ (Int.le_of_lt p3) p4
   rw [L.psK]
   refine ⟨?_,fun s hs=>?_⟩
   ·rw [List.length_append,prs_len,cbK_succ]
    have:=Nat.mul_le_mul hA.len hB.len
    omega
   ·rcases List.mem_append.1 hs with hs | hs
    ·exact h2 s hs
    ·exact prs_bd hA.bd hB.bd p5 s hs
theorem oneC_len (w:L.Sq L.Want) (gr:Int) (i:Nat):(L.oneC w gr i).length <= 2:=by
 unfold L.oneC
 rw [List.length_map]
 exact List.length_filter_le _ _
theorem tab_ok (w:L.Sq L.Want) (gr:Int):∀ (n:Nat),n <= 15->TabOk (L.tab w gr) n:=by
 intro n
 induction n using Nat.strongRecOn with
 | _ n ih =>
   intro hn
   by_cases h0:n=0
   ·subst h0
    refine ⟨by rw [show ((0:Nat):Int)=0 from rfl,tab_0];decide,fun s hs=>?_⟩
    rw [show ((0:Nat):Int)=0 from rfl,tab_0] at hs
    rw [List.mem_singleton.1 hs];decide
   have hc:=cb_le (g:=n) (by omega) (by omega)
   cases h1:L.isOne n with
   | true =>
     have e:=tab_1 w gr (g:=n) (by omega) (by omega) h1
     refine ⟨?_,fun s hs=>?_⟩
     ·rw [e,hc.2.1 (by omega) h1]
      exact Nat.le_trans (stair_len _) (oneC_len _ _ _)
     ·rw [e] at hs
      have hs:=stair_mem hs
      unfold L.oneC at hs
      obtain ⟨t,_,rfl⟩:=List.mem_map.1 hs
      have:=box_bd2 (w.g (L.ix1 n)).ol t
      omega
   | false =>
     have e:=tab_2 w gr (g:=n) (by omega) (by omega) h1
     obtain ⟨h2,h3⟩:=psK_ok (T:=L.tab w gr) (g:=n) (fun p hp hpn=>by
      obtain ⟨m,rfl⟩:=Int.eq_ofNat_of_zero_le hp
      exact ih m (by omega) (by omega)) (grp_prt (by omega) (by omega) h1).2 _ (Nat.le_refl _)
     refine ⟨?_,fun s hs=>?_⟩
     ·rw [e,hc.2.2 (by omega) h1]
      exact Nat.le_trans (stair_len _) h2
     ·rw [e] at hs
      exact h3 s (stair_mem hs)
theorem tab_okI (w:L.Sq L.Want) (gr:Int) {g:Int} (h:0 <= g) (h':g <= 15):TabOk (L.tab w gr) g:=by
 obtain ⟨n,rfl⟩:=Int.eq_ofNat_of_zero_le h
 exact tab_ok w gr n (by omega)
theorem scan_eq {n:Nat} {f u:Nat->L.Size} (h:SortedBy L.cmpSz n f u):L.scan u n=Cu.stair ((List.range n).map f):=by
 have e:∀ k,L.scan u k=Cu.scan [] ((List.range k).map u):=fun k=>by
  have step:∀ (l:List L.Size) (x:L.Size) (out:List L.Size),Cu.scan out (l ++ [x])=(match (Cu.scan out l).getLast? with | none=>Cu.scan out l ++ [x] | some y=>if x.h<y.h then Cu.scan out l ++ [x] else Cu.scan out l):=fun l x=>by
   induction l with
   | nil=>intro out;simp only [List.nil_append,Cu.scan]
   | cons a l ih=>intro out;simp only [List.cons_append,Cu.scan];exact ih _
  induction k with
  | zero=>rfl
  | succ k ih=>rw [L.scan,List.range_succ,List.map_append,List.map_singleton,step,<- ih];all_goals (cases (L.scan u k).getLast? <;> rfl)
 rw [e]
 refine Cu.scan_stair ?_ h.perm
 unfold Cu.Asc
 rw [List.pairwise_iff_getElem]
 intro i j hi hj hij
 simp only [List.length_map,List.length_range] at hi hj
 have:=h.asc i j hij hj
 simp only [List.getElem_map,List.getElem_range]
 rw [cmpSz_lt] at this
 omega
theorem stair_stair (l:List L.Size):Cu.stair (Cu.stair l)=Cu.stair l:=Cu.stair_congr (Cu.stair_ok l).2
theorem stair_app (l m:List L.Size):Cu.stair (Cu.stair l ++ m)=Cu.stair (l ++ m):=Cu.stair_congr ((Cu.stair_ok l).2.append (Cu.Same.refl m))
theorem sqS_range (l:List L.Size):(List.range l.length).map (L.sqS l).g=l:=by
 apply List.ext_getElem
 ·simp
 ·intro i h1 h2
  simp [L.sqS,List.getD_eq_getElem?_getD,h2]
end Go.Proofs.YtpgaejicfbpcmaaGreat
namespace Go.Proofs.YtpgaejicfbpcmaaGreat
open Go.SE Go.RowKit
set_option maxRecDepth 100000
set_option maxHeartbeats 4000000
set_option linter.unusedVariables false
attribute [local irreducible] vc
attribute [local irreducible] L.tabL L.tab
def L.oneK (w:L.Sq L.Want) (gr:Int) (i t:Nat):List L.Size:=(([0,1]:List Int).take t |>.filter fun t=>L.alw (w.g i).grain gr t).map fun t=>L.box (w.g i).ol t
def L.acc (w:L.Sq L.Want) (gr g:Int) (k:Nat):List L.Size:=Cu.stair (L.psK (L.tab w gr) g k)
def L.acA (w:L.Sq L.Want) (gr g:Int) (k i:Nat):List L.Size:=L.acc w gr g k ++ L.prs ((L.tab w gr (L.part g k)).take i) (L.tab w gr (L.cmp_ g k))
def L.acB (w:L.Sq L.Want) (gr g:Int) (k i j:Nat):List L.Size:=L.acA w gr g k i ++ ((L.tab w gr (L.cmp_ g k)).take j).flatMap fun b=>L.mrg ((L.tabF w gr (L.part g k)).g i) b
def L.isT (w:L.Sq L.Want) (gr g:Int) (X:List L.Size):Prop:=Cu.stair X=L.tab w gr g/\X.length <= 1000000
def L.okW (w:L.Sq L.Want):Prop:=w.n <= 4 /\ ∀ i,i<w.n->(w.g i).ol.n <= 1000000
theorem iK {n:Int} (h : -9223372036854775808 <= n:=by omega) (k:n <= 9223372036854775807:=by omega):InK .i64 n:=⟨h,k⟩
def chkI (n:Nat):Bool:=L.isOne n || (List.range (L.partN n)).all (fun k=>(List.range (L.partN n)).all fun k'=>decide (k=k') || !decide (L.part n k=L.part n k'))
theorem chkI_all:((List.range 16).all chkI)=true:=by kernel_rfl
theorem part_inj {g:Int} (h:1 <= g) (h':g <= 15) (h1:L.isOne g=false) {k k':Nat} (hk:k<L.partN g) (hk':k'<L.partN g) (e:L.part g k=L.part g k'):k=k':=by
 obtain ⟨n,rfl⟩:=Int.eq_ofNat_of_zero_le (show 0 <= g by omega)
 have:=List.all_eq_true.1 chkI_all n (List.mem_range.2 (by omega))
 unfold chkI at this
 rw [h1,Bool.false_or,List.all_eq_true] at this
 have:=List.all_eq_true.1 (this k (List.mem_range.2 hk)) k' (List.mem_range.2 hk')
 rw [Bool.or_eq_true,decide_eq_true_eq] at this
 rcases this with h | h
 ·exact h
 ·rw [e] at h;simp at h
theorem all_eq {n:Nat} (h:n <= 4):L.all n=2 ^ n - 1:=by
 have:n=0\/n=1\/n=2\/n=3\/n=4:=by omega
 rcases this with rfl | rfl | rfl | rfl | rfl <;> decide
theorem all_15 {n:Nat} (h:n <= 4):L.all n <= 15:=(all_bd h).2.1
theorem ix1_lt {n:Nat} (h:n <= 4) {g:Int} (h1:1 <= g) (hg:g <= L.all n) (ho:L.isOne g=true):L.ix1 g<n:=by
 obtain ⟨e,hl⟩:=grp_one h1 (Int.le_trans hg (all_15 h)) ho
 rw [e,all_eq h] at hg
 generalize L.ix1 g=i at *
 have h2:n=0\/n=1\/n=2\/n=3\/n=4:=by omega
 have h3:i=0\/i=1\/i=2\/i=3:=by omega
 rcases h2 with rfl | rfl | rfl | rfl | rfl <;> rcases h3 with rfl | rfl | rfl | rfl <;> simp at hg ⊢
theorem shr_one {i k:Nat} (hi:i<4) (hk:k <= i):(1<L.ishr (2 ^ i) k) ↔ k<i:=by
 have h3:i=0\/i=1\/i=2\/i=3:=by omega
 have h4:k=0\/k=1\/k=2\/k=3:=by omega
 rcases h3 with rfl | rfl | rfl | rfl <;> rcases h4 with rfl | rfl | rfl | rfl <;> first | (exfalso;omega) | decide
def L.szC (s:L.Size):List SV:=[.int .i64 s.w,.int .i64 s.h]
theorem row_eq {X Y:List L.Size} (h:X=Y):(L.sqS X).n=(L.sqS Y).n /\ ∀ i,i<(L.sqS X).n->L.szC ((L.sqS X).g i)=L.szC ((L.sqS Y).g i):=by rw [h];exact ⟨rfl,fun _ _=>rfl⟩
theorem row_app {X Y Z:List L.Size} (h:Y=X ++ Z) {r:Nat->List SV} (hr:∀ i,i<Z.length->r i=L.szC (Z.getD i ⟨0,0⟩)):(L.sqS X).n+Z.length=(L.sqS Y).n /\ ∀ i,i<(L.sqS X).n+Z.length->appGet (L.sqS X).n (fun j=>L.szC ((L.sqS X).g j)) r i=L.szC ((L.sqS Y).g i):=by
 subst h
 refine ⟨by simp [L.sqS],fun i hi=>?_⟩
 unfold appGet
 by_cases e:i<(L.sqS X).n
 ·rw [if_pos e]
  have e':i<X.length:=e
  simp [L.sqS,List.getD_eq_getElem?_getD,List.getElem?_append_left e']
 ·rw [if_neg e]
  have e':¬ i<X.length:=e
  have hi:i<X.length+Z.length:=hi
  rw [show (L.sqS X).n=X.length from rfl,hr (i - X.length) (by omega)]
  simp [L.sqS,List.getD_eq_getElem?_getD,List.getElem?_append_right (show X.length <= i by omega)]
theorem scan_row {X:List L.Size} {u:Nat->L.Size} (h:SortedBy L.cmpSz (L.sqS X).n (L.sqS X).g u) {Y:List L.Size} (hY:Cu.stair X=Y):L.scN u (L.sqS X).n=(L.sqS Y).n /\ ∀ i,i<L.scN u (L.sqS X).n->L.szC (L.scG u (L.sqS X).n i)=L.szC ((L.sqS Y).g i):=by
 have e:L.scan u (L.sqS X).n=Y:=by rw [scan_eq h,show (L.sqS X).n=X.length from rfl,sqS_range,hY]
 unfold L.scN L.scG L.sqS at *
 simp only at e ⊢
 rw [e]
 exact ⟨rfl,fun _ _=>rfl⟩
theorem acB_next (w:L.Sq L.Want) (gr g:Int) (k i:Nat) {j:Nat} (hj:j<(L.tabF w gr (L.cmp_ g k)).n):L.acB w gr g k i (j+1)=L.acB w gr g k i j ++ L.mrg ((L.tabF w gr (L.part g k)).g i) ((L.tabF w gr (L.cmp_ g k)).g j):=by
 have hj:j<(L.tab w gr (L.cmp_ g k)).length:=hj
 unfold L.acB
 rw [List.take_add_one,List.getElem?_eq_getElem hj,List.flatMap_append,<- List.append_assoc]
 simp [L.tabF,L.sqS,List.getD_eq_getElem?_getD,hj]
theorem acB_all (w:L.Sq L.Want) (gr g:Int) (k:Nat) {i:Nat} (hi:i<(L.tabF w gr (L.part g k)).n):L.acB w gr g k i (L.tabF w gr (L.cmp_ g k)).n=L.acA w gr g k (i+1):=by
 have hi:i<(L.tab w gr (L.part g k)).length:=hi
 unfold L.acB L.acA
 rw [show (L.tabF w gr (L.cmp_ g k)).n=(L.tab w gr (L.cmp_ g k)).length from rfl,List.take_length,List.take_add_one,List.getElem?_eq_getElem hi]
 unfold L.prs
 rw [List.flatMap_append,<- List.append_assoc]
 simp [L.tabF,L.sqS,List.getD_eq_getElem?_getD,hi]
theorem acA_0 (w:L.Sq L.Want) (gr g:Int) (k:Nat):L.acA w gr g k 0=L.acc w gr g k:=by unfold L.acA L.prs;simp
theorem acB_0 (w:L.Sq L.Want) (gr g:Int) (k i:Nat):L.acB w gr g k i 0=L.acA w gr g k i:=by unfold L.acB;simp
theorem acA_all (w:L.Sq L.Want) (gr g:Int) (k:Nat):Cu.stair (L.acA w gr g k (L.tabF w gr (L.part g k)).n)=L.acc w gr g (k+1):=by
 unfold L.acA L.acc
 rw [show (L.tabF w gr (L.part g k)).n=(L.tab w gr (L.part g k)).length from rfl,List.take_length,stair_app];rfl
theorem oneK_next (w:L.Sq L.Want) (gr:Int) (i:Nat) {t:Nat} (ht:t<2):L.oneK w gr i (t+1)=L.oneK w gr i t ++ (if L.alw (w.g i).grain gr t=true then [L.box (w.g i).ol t] else []):=by
 unfold L.oneK
 have h:t=0\/t=1:=by omega
 rcases h with rfl | rfl
 ·simp only [List.take,List.filter_nil,List.map_nil,List.nil_append]
  show List.map _ (List.filter _ [0])=_
  cases h:L.alw (w.g i).grain gr 0 <;> simp [List.filter,h]
 ·show List.map _ (List.filter _ [0,1])=List.map _ (List.filter _ [0]) ++ _
  cases h:L.alw (w.g i).grain gr 0 <;> cases h2:L.alw (w.g i).grain gr 1 <;> simp [List.filter,h,h2]
theorem acA_len (w:L.Sq L.Want) (gr:Int) {g:Int} (h:1 <= g) (h':g <= 15) (h1:L.isOne g=false) {k i j:Nat} (hk:k<L.partN g):(L.acB w gr g k i j).length <= 10000/\(L.acA w gr g k i).length <= 10000/\(L.acc w gr g k).length <= 2000:=by
 obtain ⟨hp0,hp⟩:=grp_prt h h' h1
 obtain ⟨p1,p2,p3,p4,p5⟩:=hp k hk
 have hc:=cb_le (g:=g) (by omega) h'
 have hT:∀ p,0 <= p->p<g->TabOk (L.tab w gr) p:=fun p hp hpg=>tab_okI w gr hp (by omega)
 have e1:(L.acc w gr g k).length <= 2000:=by
  have h2:=(psK_ok hT hp k (by omega)).1
  have h3:=stair_len (L.psK (L.tab w gr) g k)
  have h4:=cbK_mono g (show k <= L.partN g by omega)
  have h5:=hc.2.2 h h1
  unfold L.acc;omega
 have hpk:2 * (cb (L.part g k) * cb (L.cmp_ g k)) <= 2000:=by
  have h4:=cbK_mono g (show k+1 <= L.partN g by omega)
  rw [cbK_succ] at h4
  have h5:=hc.2.2 h h1
  omega
 have hA:=(hT _ (Int.le_of_lt p1) p2).len
 have hB:=(hT _ (Int.le_of_lt p3) p4).len
 have hc2:=(cb_le (g:=L.cmp_ g k) (by omega) (by omega)).1
 have e2:(L.acA w gr g k i).length <= 4000:=by
  unfold L.acA
  rw [List.length_append,prs_len]
  have:(List.take i (L.tab w gr (L.part g k))).length <= cb (L.part g k):=by rw [List.length_take];omega
  have:=Nat.mul_le_mul this hB
  omega
 refine ⟨?_,by omega,e1⟩
 unfold L.acB
 rw [List.length_append]
 have hfm:∀ (a:L.Size) (B:List L.Size),(B.flatMap fun b=>L.mrg a b).length=2 * B.length:=fun a B=>by
  induction B with
  | nil=>rfl
  | cons b B ih=>rw [List.flatMap_cons,List.length_append,ih,List.length_cons];show 2+_=_;omega
 rw [hfm,List.length_take]
 omega
theorem tab_len_le (w:L.Sq L.Want) (gr:Int) {g:Int} (h:0 <= g) (h':g <= 15):(L.tab w gr g).length <= 2000:=Nat.le_trans (tab_okI w gr h h').len (cb_le h h').1
theorem tabF_mem {w:L.Sq L.Want} {gr g:Int} {i:Nat} (h:i<(L.tabF w gr g).n):(L.tabF w gr g).g i ∈ L.tab w gr g:=by
 have h:i<(L.tab w gr g).length:=h
 show (L.tab w gr g).getD i ⟨0,0⟩ ∈ _
 rw [List.getD_eq_getElem?_getD,List.getElem?_eq_getElem h]
 exact List.getElem_mem h
theorem acc_last (w:L.Sq L.Want) (gr:Int) {g:Int} (h:1 <= g) (h15:g <= 15) (h1:L.isOne g=false):L.isT w gr g (L.acc w gr g (L.partN g)):=by
 have e:L.acc w gr g (L.partN g)=L.tab w gr g:=(tab_2 w gr h h15 h1).symm
 refine ⟨?_,?_⟩
 ·rw [e,tab_2 w gr h h15 h1,stair_stair]
 ·rw [e]
  have:=(tab_okI w gr (by omega) h15 (g:=g)).len
  have:=(cb_le (g:=g) (by omega) h15).1
  omega
section
attribute [local irreducible] L.partN L.part L.all
abbrev c_sizes_mk:Mk:={ T:=(L.Sq L.Want) × (Int) × (Int->Bool) × (Int),U:=Int->Bool,args:=fun t=>(fun w gr dom g=>[.loc 1000 0,.p (.int .i64 g)]) t.1 t.2.1 t.2.2.1 t.2.2.2,lkeys:=[1000,1001],keys:=[],lent:=fun t=>(fun w gr dom g=>[(1000,.blk 162 [.p ((.sl 4 w.n (fun i=>[.int .i64 ((w.g i).id),.int .i64 ((w.g i).colour),.int .i64 ((w.g i).grain),.sl 2 (w.g i).ol.n (fun i1=>[.int .i64 (((w.g i).ol.g i1).x),.int .i64 (((w.g i).ol.g i1).y)])]))),.p (.int .i64 gr),.mapv 1001]),(1001,.mq 3 27 dom (L.memo (L.tabF w gr)))]) t.1 t.2.1 t.2.2.1 t.2.2.2,pre:=fun t=>(fun w gr dom g=>L.okW w/\0 <= g/\g <= L.all w.n) t.1 t.2.1 t.2.2.1 t.2.2.2,post:=fun t u=>(fun w gr dom g=>fun u=>True) t.1 t.2.1 t.2.2.1 t.2.2.2 u,lent':=fun t u=>(fun w gr dom g=>fun u=>[(1000,.blk 162 [.p ((.sl 4 w.n (fun i=>[.int .i64 ((w.g i).id),.int .i64 ((w.g i).colour),.int .i64 ((w.g i).grain),.sl 2 (w.g i).ol.n (fun i1=>[.int .i64 (((w.g i).ol.g i1).x),.int .i64 (((w.g i).ol.g i1).y)])]))),.p (.int .i64 gr),.mapv 1001]),(1001,.mq 3 27 u (L.memo (L.tabF w gr)))]) t.1 t.2.1 t.2.2.1 t.2.2.2 u,own:=fun t u=>(fun w gr dom g=>fun u=>[]) t.1 t.2.1 t.2.2.1 t.2.2.2 u,res:=fun t u=>(fun w gr dom g=>fun u=>.p (L.memo (L.tabF w gr) g)) t.1 t.2.1 t.2.2.1 t.2.2.2 u }
abbrev c_sizes_mu:c_sizes_mk.T->Nat:=fun t=>(fun w gr dom g=>g.toNat) t.1 t.2.1 t.2.2.1 t.2.2.2
theorem c_sizes_vc (rn:Nat) (w:L.Sq L.Want) (gr:Int) (dom:Int->Bool) (g:Int) (hp:c_sizes_mk.pre (w,gr,dom,g)) (hmu:g.toNat<rn+1):vc Tryz.prog ({ muts:=[2,80],frz:=lookN [],specs:=lookS [(114,c_parts_S),(76,c_allowed_S),(77,c_boxOf_S)],loops:=lookL [(21,{ T:=Nat,keep:=[2,3,7],keepO:=[2,7,80,1000,1001],chg:=fun i=>[(8,.p (.int .i64 (i:Int)))],own:=fun _=>[],inv:=fun i=>i <= L.ix1 g,mu:=fun i=>L.ix1 g - i }),(24,{ T:=Nat,keep:=[2,3,7,8],keepO:=[2,1000,1001],chg:=fun i=>[(93,.p (.int .i64 (i:Int)))],own:=fun t=>[(7,.blk 27 [.row 80]),(80,.row 43 2 (L.sqS (L.oneK w gr (L.ix1 g) t)).n (fun j=>[.int .i64 ((L.sqS (L.oneK w gr (L.ix1 g) t)).g j).w,.int .i64 ((L.sqS (L.oneK w gr (L.ix1 g) t)).g j).h]))],inv:=fun i=>i <= 2,mu:=fun i=>2 - i }),(8,{ T:=Nat × (Int->Bool) × Nat,keep:=[2,3,7,10,31,32],keepO:=[2,1000],chg:=fun t=>[(33,.p (.int .i64 (t.1:Int)))],own:=fun t=>[(7,.blk 27 [.row 80]),(80,.row 43 2 (L.sqS (L.acA w gr g t.2.2 t.1)).n (fun j=>[.int .i64 ((L.sqS (L.acA w gr g t.2.2 t.1)).g j).w,.int .i64 ((L.sqS (L.acA w gr g t.2.2 t.1)).g j).h])),(1001,.mq 3 27 t.2.1 (L.memo (L.tabF w gr)))],inv:=fun t=>t.1 <= (L.tabF w gr (L.part g t.2.2)).n/\t.2.2<L.partN g,mu:=fun t=>(L.tabF w gr (L.part g t.2.2)).n - t.1,tie:=fun t=>[(10,.int .i64 (L.part g t.2.2))] }),(11,{ T:=Nat × Nat × Nat,keep:=[2,3,7,10,12,31,32,33,41,42],keepO:=[2,12,1000,1001],chg:=fun t=>[(43,.p (.int .i64 (t.1:Int)))],own:=fun t=>[(7,.blk 27 [.row 80]),(80,.row 43 2 (L.sqS (L.acB w gr g t.2.1 t.2.2 t.1)).n (fun j=>[.int .i64 ((L.sqS (L.acB w gr g t.2.1 t.2.2 t.1)).g j).w,.int .i64 ((L.sqS (L.acB w gr g t.2.1 t.2.2 t.1)).g j).h]))],inv:=fun t=>t.1 <= (L.tabF w gr (L.cmp_ g t.2.1)).n/\t.2.1<L.partN g,mu:=fun t=>(L.tabF w gr (L.cmp_ g t.2.1)).n - t.1,tie:=fun t=>[(10,.int .i64 (L.part g t.2.1)),(33,.int .i64 (t.2.2:Int))] })],iters:=lookI [(157,c_parts1_it)],rfs:=lookR [(6,{ T:=Int->Bool,keep:=[2,3,7],keepO:=[1000,2],own:=fun k d=>[(7,.blk 27 [.row 80]),(80,.row 43 2 (L.sqS (L.acc w gr g k)).n (fun j=>[.int .i64 ((L.sqS (L.acc w gr g k)).g j).w,.int .i64 ((L.sqS (L.acc w gr g k)).g j).h])),(1001,.mq 3 27 d (L.memo (L.tabF w gr)))],inv:=fun k _=>k <= L.partN g })],nils:=lookM [(5,[(7,80,43,2)]),(20,[(7,80,43,2)])],mks:=lookK [(115,c_minimal_mk),(64,Mk.lt c_sizes_mk c_sizes_mu rn)],ren:=fun k=>if k=1010 then 131 else if k=32 then 80 else k,joins:=lookL [(29,{ T:=(Int->Bool) × List L.Size,keep:=[2,3,7],keepO:=[2,1000],chg:=fun _=>[],own:=fun t=>[(7,.blk 27 [.row 80]),(80,.row 43 2 (L.sqS (t.2)).n (fun j=>[.int .i64 ((L.sqS (t.2)).g j).w,.int .i64 ((L.sqS (t.2)).g j).h])),(1001,.mq 3 27 t.1 (L.memo (L.tabF w gr)))],inv:=fun t=>L.isT w gr g t.2,mu:=fun _=>0 }),(30,{ T:=Int->Bool,keep:=[2,3],keepO:=[2,1000],chg:=fun _=>[],own:=fun t=>[(1001,.mq 3 27 t (L.memo (L.tabF w gr)))],inv:=fun t=>t g=true,mu:=fun _=>0 })],anys:=[1,27,29,30],rek:=lookR2 [(16,[(80,131)]),(29,[(80,131)])] }) (bodyOf Tryz.f64) (stTr Tryz.f64 (c_sizes_mk.args (w,gr,dom,g)) (c_sizes_mk.lent (w,gr,dom,g))) (retMk Tryz.prog Tryz.f64 c_sizes_mk (w,gr,dom,g)) :=
 @Eq.mpr _ (let I:=SV.int .i64;let T:=Int.toNat;let A68:=(0:Nat);let A63:=(nat_lit 3);let A62:=(nat_lit 7);let A48:=(nat_lit 2);let A46:=(L.sqS (L.acc w gr g A68));let A42:=(140737488355328:Nat);let A41:=(1000000:Nat);let A32:=(L.ix1 g);let A29:=(L.sqS (L.acc w gr g (L.partN g)));let A26:=(∀ (x:Int),dom x=dom x);let A25:=(0:Int);let A24:=(1
:Int);let A21:=(2:Nat);let A13:=(nat_lit 0);let A12:=(L.tabF w gr);let A10:=(L.tabF w gr g);let A16:=(A10.n=A10.n /\ ∀ (i:Nat),let A76:=[I (A10.g i).w,I (A10.g i).h];i<A10.n->A76=A76);let A7:=(∀ (x:Int),dom x=true->L.memo A12 x=L.memo A12 x);let A2:=(w.n=w.n /\ ∀ (i:Nat),let A20:=[I (w.g i).id,I (w.g i).colour,I (w.g i).grain,SV.sl
 A21 (w.g i).ol.n fun (i1:Nat)=>[I ((w.g i).ol.g i1).x,I ((w.g i).ol.g i1).y]];i<w.n->A20=A20);let A1:=((decide (g=A25)=true -> ∃ (g_1:(Int->Bool) × List L.Size),let A80:=(L.sqS g_1.2);nat_lit 0=nat_lit 0/\SV.ref [I g] A13=SV.ref [I g] A13/\nat_lit 0=nat_lit 0/\(nat_lit 1=A80.n /\ ∀ (i:Nat),i<nat_lit 1->rowsOf [I A25,I A25]
 A48 i = [I (A80.g i).w,I (A80.g i).h])/\(∀ (x:Int),dom x=g_1.1 x)/\A7/\nat_lit 0=nat_lit 0/\A2/\gr=gr/\L.isT w gr g g_1.2)/\(decide (g=A25)=false->InK .i64 (g - A24)/\(decide (L.iand g (g - A24)=A25)=true->(∃ (g_1:Nat),A25=(↑g_1:Int)/\g_1 <= L.ix1 g) /\ ∀ (g_1:Nat),let A18:=(↑g_1:Int);let A71:=(A25 <=
 A18/\A18<(↑w.n:Int));let A9:=(w.g (T A18));let A22:=((∀ (i:Nat),let A69:=[I (A9.ol.g i).x,I (A9.ol.g i).y];i<A9.ol.n->A69=A69)/\A9.ol.n <= A41);g_1 <= L.ix1 g->A25 <= A18/\(decide (A24<L.ishr g A18)=true->InK .i64 (A18+A24) /\ ∃ (g':Nat),A18+A24=(↑g':Int)/\nat_lit 0=nat_lit 0/\SV.ref [I g] A13=SV.ref [I
 g] A13/\nat_lit 0=nat_lit 0/\(nat_lit 0=nat_lit 0 /\ ∀ (i:Nat),i<nat_lit 0->([]:List SV) = [])/\nat_lit 0=nat_lit 0/\A2/\gr=gr/\A26/\A7/\g' <= L.ix1 g/\L.ix1 g - g'<L.ix1 g - g_1)/\(decide (A24<L.ishr g A18)=false->(∃ (g_2:Nat),let A50:=(L.sqS (L.oneK w gr A32 g_2));A25=(↑g_2:Int)/\(nat_lit 0=A50.n /\ ∀ (i:Nat),i<nat_lit 0
 -> [] = [I (A50.g i).w,I (A50.g i).h])/\g_2 <= A21) /\ ∀ (g_2:Nat),let A19:=(↑g_2:Int);let A79:=(A19+A24);let A6:=(L.sqS (L.oneK w gr A32 g_2));let A70:=(A6.n+nat_lit 1);g_2 <= A21->(decide (A19<(2:Int))=true->A71/\True/\(L.alw A9.grain gr A19=true->A71/\(A22/\A70 * nat_lit 16 <= A42/\InK .i64 A79 /\ ∃ (g':Nat),let A54 :=
 (L.sqS (L.oneK w gr A32 g'));A19+A24=(↑g':Int)/\A18=A18/\nat_lit 0=nat_lit 0/\SV.ref [I g] A13=SV.ref [I g] A13/\nat_lit 0=nat_lit 0/\(A6.n+nat_lit 1=A54.n /\ ∀ (i:Nat),let A51:=(L.box (L.Sq.mk A9.ol.n fun (i:Nat)=>A9.ol.g i) A19);i<A6.n+nat_lit 1->appGet A6.n (fun (j:Nat)=>[I (A6.g j).w,I (A6.g j).h]) (fun (x:Nat)=>[I A51.w,I A51.h])
 i = [I (A54.g i).w,I (A54.g i).h])/\nat_lit 0=nat_lit 0/\A2/\gr=gr/\A26/\A7/\g' <= A21/\A21 - g'<A21 - g_2)/\A22/\(A70 * nat_lit 16 <= A42/\InK .i64 A79 /\ ∃ (g':Nat),let A55:=(L.sqS (L.oneK w gr A32 g'));A19+A24=(↑g':Int)/\A18=A18/\nat_lit 0=nat_lit 0/\SV.ref [I g] A13=SV.ref [I g] A13/\nat_lit 0=nat_lit 0/\(A6.n+nat_lit 1 =
 A55.n /\ ∀ (i:Nat),let A52:=(L.box (L.Sq.mk A9.ol.n fun (i:Nat)=>A9.ol.g i) A19);i<A6.n+nat_lit 1->appGet A6.n (fun (j:Nat)=>[I (A6.g j).w,I (A6.g j).h]) (fun (x:Nat)=>[I A52.w,I A52.h]) i = [I (A55.g i).w,I (A55.g i).h])/\nat_lit 0=nat_lit 0/\A2/\gr=gr/\A26/\A7/\g' <= A21/\A21 - g'<A21 - g_2)/\A70 * nat_lit 16 <= A42/\InK .i64 A79 /\ ∃ (g' :
 Nat),let A56:=(L.sqS (L.oneK w gr A32 g'));A19+A24=(↑g':Int)/\A18=A18/\nat_lit 0=nat_lit 0/\SV.ref [I g] A13=SV.ref [I g] A13/\nat_lit 0=nat_lit 0/\(A6.n+nat_lit 1=A56.n /\ ∀ (i:Nat),let A53:=(L.box (L.Sq.mk A9.ol.n fun (i:Nat)=>A9.ol.g i) A19);i<A6.n+nat_lit 1->appGet A6.n (fun (j:Nat)=>[I (A6.g j).w,I (A6.g j).h]) (fun (x:Nat)=>[I
 A53.w,I A53.h]) i = [I (A56.g i).w,I (A56.g i).h])/\nat_lit 0=nat_lit 0/\A2/\gr=gr/\A26/\A7/\g' <= A21/\A21 - g'<A21 - g_2)/\(L.alw A9.grain gr A19=false->InK .i64 A79 /\ ∃ (g':Nat),let A57:=(L.sqS (L.oneK w gr A32 g'));A19+A24=(↑g':Int)/\A18=A18/\nat_lit 0=nat_lit 0/\SV.ref [I g] A13=SV.ref [I g] A13/\nat_lit 0=nat_lit 0 /\
 (A6.n=A57.n /\ ∀ (i:Nat),i<A6.n -> [I (A6.g i).w,I (A6.g i).h] = [I (A57.g i).w,I (A57.g i).h])/\nat_lit 0=nat_lit 0/\A2/\gr=gr/\A26/\A7/\g' <= A21/\A21 - g'<A21 - g_2))/\(decide (A19<(2:Int))=false -> ∃ (g_3:(Int->Bool) × List L.Size),let A81:=(L.sqS g_3.2);nat_lit 0=nat_lit 0/\SV.ref [I g] A13=SV.ref [I g] A13/\nat_lit 0=nat_lit
 0/\(A6.n=A81.n /\ ∀ (i:Nat),i<A6.n -> [I (A6.g i).w,I (A6.g i).h] = [I (A81.g i).w,I (A81.g i).h])/\(∀ (x:Int),dom x=g_3.1 x)/\A7/\nat_lit 0=nat_lit 0/\A2/\gr=gr/\L.isT w gr g g_3.2)))/\(decide (L.iand g (g - A24)=A25)=false->True/\((A25 <= g/\g <= (15:Int)) /\ ∃ (t:Int->Bool),(nat_lit 0=A46.n /\ ∀ (i:Nat),i<nat_lit 0 -> [] = [I (A46.g
 i).w,I (A46.g i).h])/\(∀ (x:Int),dom x=t x)/\A7/\nat_lit 0=nat_lit 0/\A2/\gr=gr/\A68 <= L.partN g)/\(∀ (k:Nat) (t:Int->Bool) (vk:Nat->Go.Value),let A39:=(L.sqS (L.acc w gr g k));let A35:=(L.sqS (L.acc w gr g (k+(1:Nat))));k<L.partN g->k <= L.partN g -> ∃ (t_1:L.Sq L.Want × Int × (Int->Bool) × Int),let A83:=(L.tabF t_1.1 t_1.2.1);let A5:=(L.tabF t_1.1
 t_1.2.1 t_1.snd.2.2);let A43:=(↑A5.n:Int);let A28:=(A5.n=A5.n /\ ∀ (i:Nat),let A77:=[I (A5.g i).w,I (A5.g i).h];i<A5.n->A77=A77);nat_lit 0=A68/\L.part g k=t_1.snd.2.2/\(w.n=t_1.1.n /\ ∀ (i:Nat),let A58:=(t_1.1.g i);i<w.n -> [I (w.g i).id,I (w.g i).colour,I (w.g i).grain,SV.sl A21 (w.g i).ol.n fun (i1:Nat)=>[I ((w.g i).ol.g i1).x,I ((w.g i).ol.g
 i1).y]] = [I A58.id,I A58.colour,I A58.grain,SV.sl A21 A58.ol.n fun (i1:Nat)=>[I (A58.ol.g i1).x,I (A58.ol.g i1).y]])/\gr=t_1.2.1/\(∀ (x:Int),t x=t_1.snd.2.1 x)/\(∀ (x:Int),t x=true->L.memo A12 x=L.memo A83 x)/\((L.okW t_1.1/\A25 <= t_1.snd.2.2/\t_1.snd.2.2 <= L.all t_1.1.n)/\T t_1.snd.2.2<rn) /\ ∀ (u:Int->Bool),True->(∃ (g_1:Nat × (Int->Bool) × Nat),
 let A38:=(L.sqS (L.acA w gr g g_1.2.2 g_1.1));A25=(↑g_1.1:Int)/\(A39.n=A38.n /\ ∀ (i:Nat),i<A39.n -> [I (A39.g i).w,I (A39.g i).h] = [I (A38.g i).w,I (A38.g i).h])/\(∀ (x:Int),u x=g_1.2.1 x)/\(∀ (x:Int),u x=true->L.memo A83 x=L.memo A12 x)/\L.part g k=L.part g g_1.2.2/\g_1.1 <= (L.tabF w gr (L.part g g_1.2.2)).n/\g_1.2.2<L.partN g) /\ ∀ (g_1:Nat × (Int ->
 Bool) × Nat),let A72:=(L.tabF w gr (L.part g g_1.2.2));let A15:=(↑g_1.1:Int);let A27:=(A5.g (T A15));let A14:=(L.sqS (L.acA w gr g g_1.2.2 g_1.1));L.part g k=L.part g g_1.2.2/\g_1.1 <= A72.n/\g_1.2.2<L.partN g->(decide (A15<A43)=true->(A25 <= A15/\A15<A43) /\ ∃ (t_2:L.Sq L.Want × Int × (Int->Bool) × Int),let A47:=(L.tabF t_2.1 t_2.2.1);let A8 :=
 (L.tabF t_2.1 t_2.2.1 t_2.snd.2.2);let A61:=(↑A8.n:Int);nat_lit 0=A68/\L.iandNot g (L.part g k)=t_2.snd.2.2/\(t_1.1.n=t_2.1.n /\ ∀ (i:Nat),let A60:=(t_2.1.g i);let A59:=(t_1.1.g i);i<t_1.1.n -> [I A59.id,I A59.colour,I A59.grain,SV.sl A21 A59.ol.n fun (i1:Nat)=>[I (A59.ol.g i1).x,I (A59.ol.g i1).y]] = [I A60.id,I A60.colour,I A60.grain,SV.sl A21
 A60.ol.n fun (i1:Nat)=>[I (A60.ol.g i1).x,I (A60.ol.g i1).y]])/\t_1.2.1=t_2.2.1/\(∀ (x:Int),g_1.2.1 x=t_2.snd.2.1 x)/\(∀ (x:Int),g_1.2.1 x=true->L.memo A12 x=L.memo A47 x)/\((L.okW t_2.1/\A25 <= t_2.snd.2.2/\t_2.snd.2.2 <= L.all t_2.1.n)/\T t_2.snd.2.2<rn) /\ ∀ (u_1:Int->Bool),True->(∃ (g_2:Nat × Nat × Nat),let A33:=(L.sqS (L.acB w gr g g_2.2.1 g_2.2.2
 g_2.1));A25=(↑g_2.1:Int)/\(A14.n=A33.n /\ ∀ (i:Nat),i<A14.n -> [I (A14.g i).w,I (A14.g i).h] = [I (A33.g i).w,I (A33.g i).h])/\L.part g k=L.part g g_2.2.1/\A15=(↑g_2.2.2:Int)/\g_2.1 <= (L.tabF w gr (L.cmp_ g g_2.2.1)).n/\g_2.2.1<L.partN g) /\ ∀ (g_2:Nat × Nat × Nat),let A73:=(L.tabF w gr (L.cmp_ g g_2.2.1));let A23:=(↑g_2.1:Int);let A49:=(A8.g (T A23));let A11
:=(L.sqS (L.acB w gr g g_2.2.1 g_2.2.2 g_2.1));L.part g k=L.part g g_2.2.1/\A15=(↑g_2.2.2:Int)/\g_2.1 <= A73.n/\g_2.2.1<L.partN g->(decide (A23<A61)=true->(A25 <= A23/\A23<A61)/\InK .i64 (A27.w+A49.w)/\InK .i64 (A27.h+A49.h)/\(A11.n+nat_lit 2) * nat_lit 16 <= A42/\InK .i64 (A23+A24) /\ ∃ (g':Nat × Nat ×
 Nat),let A74:=(L.tabF w gr (L.cmp_ g g'.2.1));let A34:=(L.sqS (L.acB w gr g g'.2.1 g'.2.2 g'.1));A23+A24=(↑g'.1:Int)/\A61=A61/\(A8.n=A8.n /\ ∀ (i:Nat),let A78:=[I (A8.g i).w,I (A8.g i).h];i<A8.n->A78=A78)/\nat_lit 0=nat_lit 0/\A15=A15/\A43=A43/\A28/\L.part g k=L.part g k/\nat_lit 0=nat_lit 0/\SV.ref [I g] A13=SV.ref [I g] A13/\nat_lit 0
 = nat_lit 0/\vk A62=vk A62/\vk A63=vk A63/\vk A48=vk A48/\(A11.n+nat_lit 2=A34.n /\ ∀ (i:Nat),i<A11.n+nat_lit 2->appGet A11.n (fun (j:Nat)=>[I (A11.g j).w,I (A11.g j).h]) (rowsOf [I (A27.w+A49.w),I (Max.max A27.h A49.h),I (Max.max A27.w A49.w),I (A27.h+A49.h)] A48) i = [I (A34.g i).w,I (A34.g i).h])/\A27.w=A27.w/\A27.h=A27.h/\(∀ (x:Int),u_1 x
 = u_1 x)/\(∀ (x:Int),u_1 x=true->L.memo A47 x=L.memo A47 x)/\nat_lit 0=nat_lit 0/\(t_2.1.n=t_2.1.n /\ ∀ (i:Nat),let A64:=(t_2.1.g i);let A17:=[I A64.id,I A64.colour,I A64.grain,SV.sl A21 A64.ol.n fun (i1:Nat)=>[I (A64.ol.g i1).x,I (A64.ol.g i1).y]];i<t_2.1.n->A17=A17)/\t_2.2.1=t_2.2.1/\(L.part g k=L.part g g'.2.1/\A15=(↑g'.2.2:Int)/\g'.1 <=
 A74.n/\g'.2.1<L.partN g)/\A74.n - g'.1<A73.n - g_2.1)/\(decide (A23<A61)=false->InK .i64 (A15+A24) /\ ∃ (g':Nat × (Int->Bool) × Nat),let A75:=(L.tabF w gr (L.part g g'.2.2));let A40:=(L.sqS (L.acA w gr g g'.2.2 g'.1));A15+A24=(↑g'.1:Int)/\A43=A43/\A28/\L.part g k=L.part g k/\nat_lit 0=nat_lit 0/\SV.ref [I g] A13 =
 SV.ref [I g] A13/\nat_lit 0=nat_lit 0/\vk A62=vk A62/\vk A63=vk A63/\vk A48=vk A48/\(A11.n=A40.n /\ ∀ (i:Nat),i<A11.n -> [I (A11.g i).w,I (A11.g i).h] = [I (A40.g i).w,I (A40.g i).h])/\(∀ (x:Int),u_1 x=g'.2.1 x)/\(∀ (x:Int),u_1 x=true->L.memo A47 x=L.memo A12 x)/\nat_lit 0=nat_lit 0/\(t_2.1.n=t_1.1.n /\ ∀ (i:Nat),let A66:=(t_1.1.g i);let A65
:=(t_2.1.g i);i<t_2.1.n -> [I A65.id,I A65.colour,I A65.grain,SV.sl A21 A65.ol.n fun (i1:Nat)=>[I (A65.ol.g i1).x,I (A65.ol.g i1).y]] = [I A66.id,I A66.colour,I A66.grain,SV.sl A21 A66.ol.n fun (i1:Nat)=>[I (A66.ol.g i1).x,I (A66.ol.g i1).y]])/\t_2.2.1=t_1.2.1/\(L.part g k=L.part g g'.2.2/\g'.1 <= A75.n/\g'.2.2<L.partN g)/\A75.n - g'.1<A72.n - g_1.1)) /\
 (decide (A15<A43)=false -> ∃ (t:Nat × (Nat->L.Size)),(A14.n=t.1 /\ ∀ (i:Nat),i<A14.n -> [I (A14.g i).w,I (A14.g i).h] = [I (t.2 i).w,I (t.2 i).h])/\t.1 <= A41 /\ ∀ (u:Nat->L.Size),SortedBy L.cmpSz t.1 t.2 u -> ∃ (t':Int->Bool),nat_lit 0=nat_lit 0/\SV.ref [I g] A13=SV.ref [I g] A13/\nat_lit 0=nat_lit 0/\vk A62=vk A62/\vk A63=vk A63
 /\ vk A48=vk A48/\(L.scN u t.1=A35.n /\ ∀ (i:Nat),i<L.scN u t.1 -> [I (L.scG u t.1 i).w,I (L.scG u t.1 i).h] = [I (A35.g i).w,I (A35.g i).h])/\(∀ (x:Int),g_1.2.1 x=t' x)/\(∀ (x:Int),g_1.2.1 x=true->L.memo A12 x=L.memo A12 x)/\nat_lit 0=nat_lit 0/\(t_1.1.n=w.n /\ ∀ (i:Nat),let A67:=(t_1.1.g i);i<t_1.1.n -> [I A67.id,I A67.colour,I A67.grain,SV.sl
 A21 A67.ol.n fun (i1:Nat)=>[I (A67.ol.g i1).x,I (A67.ol.g i1).y]] = [I (w.g i).id,I (w.g i).colour,I (w.g i).grain,SV.sl A21 (w.g i).ol.n fun (i1:Nat)=>[I ((w.g i).ol.g i1).x,I ((w.g i).ol.g i1).y]])/\t_1.2.1=gr/\k+(1:Nat) <= L.partN g)) /\ ∀ (t:Int->Bool),L.partN g <= L.partN g -> ∃ (g_1:(Int->Bool) × List L.Size),let A82:=(L.sqS g_1.2);nat_lit 0=nat_lit 0 /\
 SV.ref [I g] A13=SV.ref [I g] A13/\nat_lit 0=nat_lit 0/\(A29.n=A82.n /\ ∀ (i:Nat),i<A29.n -> [I (A29.g i).w,I (A29.g i).h] = [I (A82.g i).w,I (A82.g i).h])/\(∀ (x:Int),t x=g_1.1 x)/\(∀ (x:Int),t x=true->L.memo A12 x=L.memo A12 x)/\nat_lit 0=nat_lit 0/\A2/\gr=gr/\L.isT w gr g g_1.2)));(dom g=true->(true=true -> ∃ (u:Int ->
 Bool),A16/\A2/\gr=gr/\(∀ (x:Int),dom x=u x)/\A7/\True)/\(true=false->A1 /\ ∀ (g_1:(Int->Bool) × List L.Size),let A36:=(L.sqS g_1.2);let A30:=(∀ (x:Int),(decide (x=g) || g_1.1 x)=true->L.memo A12 x=L.memo A12 x);let A3:=(∃ (t:Nat × (Nat->L.Size)),(A36.n=t.1 /\ ∀ (i:Nat),i<A36.n -> [I (A36.g i).w,I (A36.g i).h] = [I (t.2 i).w,
 I (t.2 i).h])/\t.1 <= A41 /\ ∀ (u:Nat->L.Size),SortedBy L.cmpSz t.1 t.2 u->(L.scN u t.1=A10.n /\ ∀ (i:Nat),i<L.scN u t.1 -> [I (L.scG u t.1 i).w,I (L.scG u t.1 i).h] = [I (A10.g i).w,I (A10.g i).h]) /\ ∃ (g_2:Int->Bool),SV.ref [I g] A13=SV.ref [I g] A13/\nat_lit 0=nat_lit 0/\(∀ (x:Int),(decide (x=g) || g_1.1 x)=g_2 x)/\A30/\nat_lit 0 =
 nat_lit 0/\A2/\gr=gr/\g_2 g=true);L.isT w gr g g_1.2->(A3/\A3/\A3/\A3/\A3/\A3/\A3/\A3/\A3 /\ ∃ (t:Nat × (Nat->L.Size)),(A36.n=t.1 /\ ∀ (i:Nat),i<A36.n -> [I (A36.g i).w,I (A36.g i).h] = [I (t.2 i).w,I (t.2 i).h])/\t.1 <= A41 /\ ∀ (u:Nat->L.Size),SortedBy L.cmpSz t.1 t.2 u->(L.scN u t.1=A10.n /\ ∀ (i:Nat),i<L.scN u t.1 -> [I (L.scG u t.1 i).w,I (L.scG
 u t.1 i).h] = [I (A10.g i).w,I (A10.g i).h]) /\ ∃ (g_2:Int->Bool),SV.ref [I g] A13=SV.ref [I g] A13/\nat_lit 0=nat_lit 0/\(∀ (x:Int),(decide (x=g) || g_1.1 x)=g_2 x)/\A30/\nat_lit 0=nat_lit 0/\A2/\gr=gr/\g_2 g=true) /\ ∀ (g_2:Int->Bool),let A44:=(∀ (x:Int),g_2 x=true->L.memo A12 x=L.memo A12 x);g_2 g=true->(g_2 g =
 true -> ∃ (u:Int->Bool),A16/\A2/\gr=gr/\(∀ (x:Int),g_2 x=u x)/\A44/\True)/\(g_2 g=false -> ∃ (u:Int->Bool),A10.n=A68/\A2/\gr=gr/\(∀ (x:Int),g_2 x=u x)/\A44/\True)))/\(dom g=false->(false=true -> ∃ (u:Int->Bool),A10.n=A68/\A2/\gr=gr/\(∀ (x:Int),dom x=u x)/\A7/\True)/\(false=false->A1 /\ ∀ (g_1:(Int ->
 Bool) × List L.Size),let A37:=(L.sqS g_1.2);let A31:=(∀ (x:Int),(decide (x=g) || g_1.1 x)=true->L.memo A12 x=L.memo A12 x);let A4:=(∃ (t:Nat × (Nat->L.Size)),(A37.n=t.1 /\ ∀ (i:Nat),i<A37.n -> [I (A37.g i).w,I (A37.g i).h] = [I (t.2 i).w,I (t.2 i).h])/\t.1 <= A41 /\ ∀ (u:Nat->L.Size),SortedBy L.cmpSz t.1 t.2 u->(L.scN u t.1=A10.n /\ ∀ (i :
 Nat),i<L.scN u t.1 -> [I (L.scG u t.1 i).w,I (L.scG u t.1 i).h] = [I (A10.g i).w,I (A10.g i).h]) /\ ∃ (g_2:Int->Bool),SV.ref [I g] A13=SV.ref [I g] A13/\nat_lit 0=nat_lit 0/\(∀ (x:Int),(decide (x=g) || g_1.1 x)=g_2 x)/\A31/\nat_lit 0=nat_lit 0/\A2/\gr=gr/\g_2 g=true);L.isT w gr g g_1.2->(A4/\A4/\A4/\A4/\A4/\A4/\A4/\A4/\A4 /\ ∃ (t :
 Nat × (Nat->L.Size)),(A37.n=t.1 /\ ∀ (i:Nat),i<A37.n -> [I (A37.g i).w,I (A37.g i).h] = [I (t.2 i).w,I (t.2 i).h])/\t.1 <= A41 /\ ∀ (u:Nat->L.Size),SortedBy L.cmpSz t.1 t.2 u->(L.scN u t.1=A10.n /\ ∀ (i:Nat),i<L.scN u t.1 -> [I (L.scG u t.1 i).w,I (L.scG u t.1 i).h] = [I (A10.g i).w,I (A10.g i).h]) /\ ∃ (g_2:Int->Bool),SV.ref [I g] A13=SV.ref [I g] A13 /\
 nat_lit 0=nat_lit 0/\(∀ (x:Int),(decide (x=g) || g_1.1 x)=g_2 x)/\A31/\nat_lit 0=nat_lit 0/\A2/\gr=gr/\g_2 g=true) /\ ∀ (g_2:Int->Bool),let A45:=(∀ (x:Int),g_2 x=true->L.memo A12 x=L.memo A12 x);g_2 g=true->(g_2 g=true -> ∃ (u:Int->Bool),A16/\A2/\gr=gr/\(∀ (x:Int),g_2 x=u x)/\A45/\True)/\(g_2 g=false -> ∃
 (u:Int->Bool),A10.n=A68/\A2/\gr=gr/\(∀ (x:Int),g_2 x=u x)/\A45/\True)))) (by kernel_rfl) (by
  conv=>zeta
  have hp:L.okW w/\0 <= g/\g <= L.all w.n:=hp
  have hmu:g.toNat<rn+1:=hmu
  obtain ⟨⟨hw4,hwl⟩,hg0,hga⟩:=hp
  have hg15:g <= 15:=Int.le_trans hga (all_15 hw4)
  refine ⟨fun hd=>⟨fun _=>?_,fun h=>(by cases h)⟩,fun hd=>⟨fun h=>(by cases h),fun _=>⟨⟨fun h0=>?_,fun h0=>?_⟩,fun x hx=>?_⟩⟩⟩
  ·exact ⟨dom,⟨rfl,fun _ _=>rfl⟩,⟨rfl,fun _ _=>rfl⟩,rfl,fun _=>rfl,fun _ _=>rfl,trivial⟩
  ·have h0:g=0:=of_decide_eq_true h0
   subst h0
   refine ⟨(dom,[⟨0,0⟩]),rfl,rfl,rfl,⟨rfl,fun i hi=>?_⟩,fun _=>rfl,fun _ _=>rfl,rfl,⟨rfl,fun _ _=>rfl⟩,rfl,⟨by rw [tab_0];rfl,show 1 <= 1000000 by decide⟩⟩
   have hi:i<1:=hi
   obtain rfl:i=0:=by omega
   rfl
  ·have h0:¬ g=0:=of_decide_eq_false h0
   have hg1:1 <= g:=by omega
   refine ⟨iK,fun h1=>?_,fun h1=>?_⟩
   ·have h1:L.isOne g=true:=h1
    obtain ⟨ge,gi⟩:=grp_one hg1 hg15 h1
    have gn:=ix1_lt hw4 hg1 hga h1
    refine ⟨⟨0,rfl,Nat.zero_le _⟩,fun k hk=>⟨Int.natCast_nonneg _,fun hc=>?_,fun hc=>?_⟩⟩
    ·have hc:1<L.ishr g k:=of_decide_eq_true hc
     have hlt:k<L.ix1 g:=by rw [ge] at hc;exact (shr_one gi hk).1 hc
     exact ⟨iK,k+1,rfl,rfl,rfl,rfl,⟨rfl,fun _ _=>rfl⟩,rfl,⟨rfl,fun _ _=>rfl⟩,rfl,fun _=>rfl,fun _ _=>rfl,hlt,by omega⟩
    ·have hc:¬ 1<L.ishr g k:=of_decide_eq_false hc
     have hke:k=L.ix1 g:=by
      rcases Nat.lt_or_ge k (L.ix1 g) with h | h
      ·exact absurd (by rw [ge];exact (shr_one gi hk).2 h) hc
      ·omega
     subst hke
     have e1:((L.ix1 g:Nat):Int).toNat=L.ix1 g:=Int.toNat_natCast _
     have kn:0 <= ((L.ix1 g:Nat):Int)/\((L.ix1 g:Nat):Int)<(w.n:Int):=⟨Int.natCast_nonneg _,by omega⟩
     refine ⟨⟨0,rfl,⟨rfl,fun i hi=>absurd hi (Nat.not_lt_zero _)⟩,Nat.zero_le _⟩,fun t ht=>⟨fun hlt=>?_,fun hge=>?_⟩⟩
     ·have hlt:(t:Int)<2:=of_decide_eq_true hlt
      have ht2:t<2:=by omega
      have hl:(L.sqS (L.oneK w gr (L.ix1 g) t)).n <= 2:=by
       show (L.oneK w gr (L.ix1 g) t).length <= 2
       unfold L.oneK
       rw [List.length_map]
       exact Nat.le_trans (List.length_filter_le _ _) (by rw [List.length_take];exact Nat.min_le_right _ _)
      have nx:=oneK_next w gr (L.ix1 g) ht2
      rw [e1]
      refine ⟨kn,trivial,fun ha=>⟨kn,?_⟩,fun ha=>?_⟩
      ·have ha:L.alw (w.g (L.ix1 g)).grain gr t=true:=ha
       rw [if_pos ha] at nx
       have leaf:=row_app (r:=fun _=>L.szC (L.box (w.g (L.ix1 g)).ol t)) nx (fun i hi=>by
        have hi:i<1:=hi
        obtain rfl:i=0:=by omega
        rfl)
       have pb:(∀ i,i<(w.g (L.ix1 g)).ol.n -> [SV.int .i64 ((w.g (L.ix1 g)).ol.g i).x,SV.int .i64 ((w.g (L.ix1 g)).ol.g i).y] = [SV.int .i64 ((w.g (L.ix1 g)).ol.g i).x,SV.int .i64 ((w.g (L.ix1 g)).ol.g i).y])/\(w.g (L.ix1 g)).ol.n <= 1000000:=⟨fun _ _=>rfl,hwl _ gn⟩
       have sz:((L.sqS (L.oneK w gr (L.ix1 g) t)).n+1) * 16 <= 140737488355328:=by omega
       exact ⟨⟨pb,sz,iK,t+1,rfl,rfl,rfl,rfl,rfl,leaf,rfl,⟨rfl,fun _ _=>rfl⟩,rfl,fun _=>rfl,fun _ _=>rfl,by omega,by omega⟩,pb,⟨sz,iK,t+1,rfl,rfl,rfl,rfl,rfl,leaf,rfl,⟨rfl,fun _ _=>rfl⟩,rfl,fun _=>rfl,fun _ _=>rfl,by omega,by omega⟩,⟨sz,iK,t+1,rfl,rfl,rfl,rfl,rfl,leaf,rfl,⟨rfl,fun _ _=>rfl⟩,rfl,fun _=>rfl,fun _ _=>rfl,by omega,by omega⟩⟩
      ·have ha:L.alw (w.g (L.ix1 g)).grain gr t=false:=ha
       rw [if_neg (by rw [ha];decide),List.append_nil] at nx
       exact ⟨iK,t+1,rfl,rfl,rfl,rfl,rfl,row_eq nx.symm,rfl,⟨rfl,fun _ _=>rfl⟩,rfl,fun _=>rfl,fun _ _=>rfl,by omega,by omega⟩
     ·have hge:¬ (t:Int)<2:=of_decide_eq_false hge
      obtain rfl:t=2:=by omega
      have eC:L.oneK w gr (L.ix1 g) 2=L.oneC w gr (L.ix1 g):=rfl
      exact ⟨(dom,L.oneK w gr (L.ix1 g) 2),rfl,rfl,rfl,⟨rfl,fun _ _=>rfl⟩,fun _=>rfl,fun _ _=>rfl,rfl,⟨rfl,fun _ _=>rfl⟩,rfl,⟨by rw [tab_1 w gr hg1 hg15 h1,eC],by have:=oneC_len w gr (L.ix1 g);show (L.oneC w gr (L.ix1 g)).length <= 1000000;omega⟩⟩
   ·have h1:L.isOne g=false:=h1
    obtain ⟨hp0,hpt⟩:=grp_prt hg1 hg15 h1
    refine ⟨trivial,⟨⟨hg0,hg15⟩,dom,⟨rfl,fun i hi=>absurd hi (Nat.not_lt_zero _)⟩,fun _=>rfl,fun _ _=>rfl,rfl,⟨rfl,fun _ _=>rfl⟩,rfl,Nat.zero_le _⟩,fun k d vk hk _=>?_,fun d _=>?_⟩
    ·obtain ⟨p1,p2,p3,p4,p5⟩:=hpt k hk
     refine ⟨(w,gr,d,L.part g k),rfl,rfl,⟨rfl,fun _ _=>rfl⟩,rfl,fun _=>rfl,fun _ _=>rfl,⟨⟨⟨hw4,hwl⟩,Int.le_of_lt p1,by show L.part g k <= L.all w.n;omega⟩,by show (L.part g k).toNat<rn;omega⟩,fun u _=>⟨⟨(0,u,k),rfl,row_eq (acA_0 w gr g k).symm,fun _=>rfl,fun _ _=>rfl,rfl,Nat.zero_le _,hk⟩,fun x hx=>?_⟩⟩
     obtain ⟨i,d1,k'⟩:=x
     obtain ⟨hk1,hi,hk2⟩:=hx
     obtain rfl:=part_inj hg1 hg15 h1 hk hk2 hk1
     have hi:i <= (L.tabF w gr (L.part g k)).n:=hi
     refine ⟨fun hc=>?_,fun hc=>?_⟩
     ·have hc:(i:Int)<((L.tabF w gr (L.part g k)).n:Int):=of_decide_eq_true hc
      have hiA:i<(L.tabF w gr (L.part g k)).n:=by omega
      refine ⟨⟨Int.natCast_nonneg _,hc⟩,(w,gr,d1,L.cmp_ g k),rfl,rfl,⟨rfl,fun _ _=>rfl⟩,rfl,fun _=>rfl,fun _ _=>rfl,⟨⟨⟨hw4,hwl⟩,Int.le_of_lt p3,by show L.cmp_ g k <= L.all w.n;omega⟩,by show (L.cmp_ g k).toNat<rn;omega⟩,fun u1 _=>⟨⟨(0,k,i),rfl,row_eq (acB_0 w gr g k i).symm,rfl,rfl,Nat.zero_le _,hk⟩,fun y hy=>?_⟩⟩
      obtain ⟨j,k2,i2⟩:=y
      obtain ⟨hk3,hi2,hj,hk4⟩:=hy
      obtain rfl:=part_inj hg1 hg15 h1 hk hk4 hk3
      have hi2:(i:Int)=(i2:Int):=hi2
      obtain rfl:i=i2:=by omega
      have hj:j <= (L.tabF w gr (L.cmp_ g k)).n:=hj
      refine ⟨fun hb=>?_,fun hb=>?_⟩
      ·have hb:(j:Int)<((L.tabF w gr (L.cmp_ g k)).n:Int):=of_decide_eq_true hb
       have hjB:j<(L.tabF w gr (L.cmp_ g k)).n:=by omega
       have bA:=(tab_okI w gr (Int.le_of_lt p1) (by omega)).bd _ (tabF_mem hiA)
       have bB:=(tab_okI w gr (Int.le_of_lt p3) (by omega)).bd _ (tabF_mem hjB)
       have ei:((i:Nat):Int).toNat=i:=Int.toNat_natCast i
       have ej:((j:Nat):Int).toNat=j:=Int.toNat_natCast j
       have hl:=(acA_len w gr hg1 hg15 h1 (i:=i) (j:=j) hk).1
       rw [ei,ej]
       refine ⟨⟨Int.natCast_nonneg _,hb⟩,iK (by show _ <= ((L.tabF w gr (L.part g k)).g i).w+((L.tabF w gr (L.cmp_ g k)).g j).w;omega) (by show ((L.tabF w gr (L.part g k)).g i).w+((L.tabF w gr (L.cmp_ g k)).g j).w <= _;omega),iK (by show _ <= ((L.tabF w gr (L.part g k)).g i).h+((L.tabF w gr (L.cmp_ g k)).g j).h;omega) (by show ((L.tabF w gr (L.part g k)).g i).h+((L.tabF w gr (L.cmp_ g k)).g j).h <= _;omega),
        by show ((L.acB w gr g k i j).length+2) * 16 <= 140737488355328;omega,iK (by show _ <= (j:Int)+1;omega) (by show (j:Int)+1 <= _;have:=tab_len_le w gr (Int.le_of_lt p3) (show L.cmp_ g k <= 15 by omega);have hj2:j <= (L.tab w gr (L.cmp_ g k)).length:=hj;omega),(j+1,k,i),rfl,rfl,⟨rfl,fun _ _=>rfl⟩,rfl,rfl,rfl,⟨rfl,fun _ _=>rfl⟩,rfl,rfl,rfl,rfl,rfl,rfl,rfl,?_,rfl,rfl,fun _=>rfl,fun _ _=>rfl,rfl,⟨rfl,fun _ _=>rfl⟩,rfl,⟨rfl,rfl,hjB,hk⟩,by show (L.tabF w gr (L.cmp_ g k)).n - (j+1)<(L.tabF w gr (L.cmp_ g k)).n - j;omega⟩
       exact row_app (acB_next w gr g k i hjB) (fun q hq=>by
        have hq:q<2:=hq
        have:q=0\/q=1:=by omega
        rcases this with rfl | rfl <;> rfl)
      ·have hb:¬ (j:Int)<((L.tabF w gr (L.cmp_ g k)).n:Int):=of_decide_eq_false hb
       obtain rfl:j=(L.tabF w gr (L.cmp_ g k)).n:=by omega
       refine ⟨iK (by show _ <= (i:Int)+1;omega) (by show (i:Int)+1 <= _;have:=tab_len_le w gr (Int.le_of_lt p1) (show L.part g k <= 15 by omega);have hi2:i <= (L.tab w gr (L.part g k)).length:=hi;omega),(i+1,u1,k),rfl,rfl,⟨rfl,fun _ _=>rfl⟩,rfl,rfl,rfl,rfl,rfl,rfl,rfl,row_eq (acB_all w gr g k hiA),fun _=>rfl,fun _ _=>rfl,rfl,⟨rfl,fun _ _=>rfl⟩,rfl,⟨rfl,hiA,hk⟩,by show (L.tabF w gr (L.part g k)).n - (i+1)<(L.tabF w gr (L.part g k)).n - i;omega⟩
     ·have hc:¬ (i:Int)<((L.tabF w gr (L.part g k)).n:Int):=of_decide_eq_false hc
      obtain rfl:i=(L.tabF w gr (L.part g k)).n:=by omega
      have hl:=(acA_len w gr hg1 hg15 h1 (i:=(L.tabF w gr (L.part g k)).n) (j:=0) hk).2.1
      exact ⟨((L.sqS (L.acA w gr g k (L.tabF w gr (L.part g k)).n)).n,(L.sqS (L.acA w gr g k (L.tabF w gr (L.part g k)).n)).g),⟨rfl,fun _ _=>rfl⟩,by show (L.acA w gr g k (L.tabF w gr (L.part g k)).n).length <= 1000000;omega,fun u hu=>⟨d1,rfl,rfl,rfl,rfl,rfl,rfl,scan_row hu (acA_all w gr g k),fun _=>rfl,fun _ _=>rfl,rfl,⟨rfl,fun _ _=>rfl⟩,rfl,hk⟩⟩
    ·exact ⟨(d,L.acc w gr g (L.partN g)),rfl,rfl,rfl,⟨rfl,fun _ _=>rfl⟩,fun _=>rfl,fun _ _=>rfl,rfl,⟨rfl,fun _ _=>rfl⟩,rfl,acc_last w gr hg1 hg15 h1⟩
  ·obtain ⟨d,X⟩:=x
   obtain ⟨hX1,hX2⟩:=hx
   refine ⟨?_,fun e he=>⟨fun _=>⟨e,⟨rfl,fun _ _=>rfl⟩,⟨rfl,fun _ _=>rfl⟩,rfl,fun _=>rfl,fun _ _=>rfl,trivial⟩,fun h=>?_⟩⟩
   ·repeat' apply And.intro
    all_goals exact ⟨((L.sqS X).n,(L.sqS X).g),⟨rfl,fun _ _=>rfl⟩,hX2,fun u hu=>⟨scan_row hu hX1,fun x=>decide (x=g) || d x,rfl,rfl,fun _=>rfl,fun _ _=>rfl,rfl,⟨rfl,fun _ _=>rfl⟩,rfl,by show (decide (g=g) || d g)=true;simp⟩⟩
   ·have he:e g=true:=he
    rw [he] at h;cases h)
theorem c_sizes_en:Enters Tryz.prog 64:=fun args w=>by kernel_rfl
theorem c_sizes_mok:MkOk Tryz.prog 64 c_sizes_mk:=mk_rec c_sizes_mu ⟨fun t=>rfl,fun t u=>rfl,fun t u=>rfl,fun t u=>⟨rfl,rfl,rfl⟩,.inl rfl,fun k h=>(by cases h)⟩ (fun rn ih=>mk_ok (n:=2) Tryz.func64 (c:=bodyOf Tryz.f64) (by kernel_rfl) mixed ⟨fun t=>rfl,fun t=>rfl,fun t u=>rfl,fun t u=>rfl,fun t u=>rfl,fun t u=>⟨rfl,rfl⟩,by kernel_rfl,by kernel_rfl⟩ (fun ⟨w,gr,dom,g⟩ hp=>⟨_,c_sizes_vc rn w gr dom g hp.1 hp.2,⟨show SpecsL Tryz.prog _ from (SpecsL.cons c_parts_ok c_parts_en (SpecsL.cons c_allowed_ok c_allowed_en (SpecsL.cons c_boxOf_ok c_boxOf_en SpecsL.nil))),rfl,⟨show ItersL Tryz.prog _ from (ItersL.cons c_parts1_itok c_parts1_en ItersL.nil),⟨TrsOk.no1 (fun _=>rfl),⟨show MksL Tryz.prog _ from (MksL.cons c_minimal_mok c_minimal_en (MksL.cons ih c_sizes_en MksL.nil)),FamsOk.none (fun _=>rfl)⟩⟩⟩⟩⟩))
end
end Go.Proofs.YtpgaejicfbpcmaaGreat
namespace Go.Proofs.YtpgaejicfbpcmaaGreat
open Go.SE Go.RowKit
set_option maxRecDepth 100000
set_option maxHeartbeats 4000000
set_option linter.unusedVariables false
attribute [local irreducible] vc
def L.fitsB (x r:L.Size):Bool:=bif decide (x.w <= r.w) then decide (x.h <= r.h) else false
def L.roomB (w:L.Sq L.Want) (gr g:Int) (r:L.Size):Bool:=L.anyB (L.tabF w gr g).n fun i=>L.fitsB ((L.tabF w gr g).g i) r
def L.badAt (v:Nat->Bool) (id:Nat->Int) (i:Nat):Bool:=bif !v i then true else bif decide (0<(i:Int)) then decide (id i <= id (i - 1)) else false
def L.vWants (w:L.Sq L.Want):Bool:=L.allB w.n fun i=>!L.badAt (fun i=>L.vWant (w.g i)) (fun i=>(w.g i).id) i
def L.vSheets (s:L.Sq L.Sheet):Bool:=L.allB s.n fun i=>!L.badAt (fun i=>L.vSheet (s.g i)) (fun i=>(s.g i).id) i
def L.badE (w:L.Sq L.Want) (s:L.Sq L.Sheet) (right:Bool):Int:=bif !L.vWants w then 50 else bif (bif !L.vSheets s then true else !right) then 1 else bif (bif decide (7<(w.n:Int)) then true else decide (7<(s.n:Int))) then 2 else 0
def L.preW (w:L.Sq L.Want):Prop:=(w.n <= 4\/7<w.n)/\w.n <= 1000000 /\ ∀ i,i<w.n->(w.g i).ol.n <= 1000000
def L.noSh:L.Sq L.Sheet:=⟨0,fun _=>⟨0,0,0,0,0⟩⟩
def L.oneSh (s:L.Sheet):L.Sq L.Sheet:=⟨1,fun _=>s⟩
def L.szE (w:L.Sq L.Want) (gr:Int):Int:=L.badE w L.noSh (L.within gr 0 2)
def L.szN (w:L.Sq L.Want) (gr:Int):Nat:=bif decide (L.szE w gr=0) then (L.tabF w gr (L.all w.n)).n else 0
def L.fitE (w:L.Sq L.Want) (s:L.Sheet):Int:=L.badE w (L.oneSh s) true
def L.fitB (w:L.Sq L.Want) (s:L.Sheet):Bool:=bif decide (L.fitE w s=0) then L.roomB w s.grain (L.all w.n) ⟨s.w,s.h⟩ else false
theorem not_all_of {n i:Nat} {f:Nat->Bool} (hi:i<n) (h:f i=false):L.allB n f=false:=allB_false hi h
theorem badE_0 {w:L.Sq L.Want} {s:L.Sq L.Sheet} {b:Bool} (h:L.badE w s b=0):L.vWants w=true/\L.vSheets s=true/\b=true/\w.n <= 7/\s.n <= 7:=by
 unfold L.badE at h
 cases h1:L.vWants w
 ·rw [h1] at h;simp at h
 ·cases h2:L.vSheets s
  ·rw [h1,h2] at h;simp at h
  ·cases b
   ·rw [h1,h2] at h;simp at h
   ·rw [h1,h2] at h
    refine ⟨rfl,rfl,rfl,?_⟩
    by_cases h3:(7:Int)<w.n
    ·simp [h3] at h
    ·by_cases h4:(7:Int)<s.n
     ·simp [h4] at h
     ·omega
theorem okW_of {w:L.Sq L.Want} (h:L.preW w) (h7:w.n <= 7):L.okW w:=⟨by have:=h.1;omega,h.2.2⟩
def s_idxFS_p (l:(L.Sq L.Size)) (p:FSpec):Prop:=l.n <= 1000000 /\ ∀ i,i<l.n->p.pre [(.agg [.int .i64 ((l.g i).w),.int .i64 ((l.g i).h)])]
def s_idxFS_r (l:(L.Sq L.Size)) (p:FSpec):SV:=.int .i64 (L.idx l.n (fun i=>L.fbl p [(.agg [.int .i64 ((l.g i).w),.int .i64 ((l.g i).h)])]))
def s_idxFS_s:List EV->Option (Prop × SV)
 | [.p (.sl 2 l_n l_g),.fn p]=>some ((∀ i,i<l_n->l_g i = [.int .i64 ((ofSize (l_g i)).w),.int .i64 ((ofSize (l_g i)).h)])/\isB p/\s_idxFS_p (⟨l_n,fun i=>ofSize (l_g i)⟩:(L.Sq L.Size)) p,s_idxFS_r (⟨l_n,fun i=>ofSize (l_g i)⟩:(L.Sq L.Size)) p)
 | _=>none
abbrev s_idxFS_S:SE.Spec:=(specO s_idxFS_s)
def s_idxFS_C:Cfg:={ muts:=[],frz:=lookN [],specs:=lookS [],loops:=fun _=>none,iters:=lookI [],rfs:=lookR [],nils:=lookM [] }
theorem s_idxFS_vc (l:(L.Sq L.Size)) (p:FSpec) (hp:s_idxFS_p l p):vc Tryz.prog ({ s_idxFS_C with loops:=lookL [(2,{ T:=Nat,keep:=[0,1,6,7],keepO:=[],chg:=fun i=>[(8,.p (.int .i64 i))],own:=fun _=>[],inv:=fun i=>i <= l.n/\(∀ j,j<i->L.fbl p [(.agg [.int .i64 ((l.g j).w),.int .i64 ((l.g j).h)])]=false),mu:=fun i=>l.n - i })],rfs:=lookR [] }) (bodyOf Tryz.f161) (st0 Tryz.f161 [.p (.sl 2 l.n (fun i=>[.int .i64 ((l.g i).w),.int .i64 ((l.g i).h)])),.fn ⟨p.pre,fun xs=>.bool (L.fbl p xs)⟩]) (retFn Tryz.prog Tryz.f161 (s_idxFS_r l p)) :=
 @Eq.mpr _ (let I:=SV.int .i64;let T:=Int.toNat;let A4:=(↑l.n:Int);let A2:=(l.n=l.n /\ ∀ (i:Nat),let A5:=[I (l.g i).w,I (l.g i).h];i<l.n->A5=A5);(∃ (g:Nat),(0:Int)=(↑g:Int)/\g <= l.n /\ ∀ (j:Nat),j<g->L.fbl p [SV.agg [I (l.g j).w,I (l.g j).h]]=false) /\ ∀ (g:Nat),let A3:=(↑g:Int);let A1:=[SV.agg [I (l.g (T A3)).w,I (l.g (T A3)).h]];(g <= l.n /\ ∀ (j:Nat),j<g->L.fbl p [SV.agg [I (l.g j).w,I (l.g j).h]]=false)->(decide (A3<A4)=true->((0:Int) <= A3/\A3<A4)/\p.1 A1/\(L.fbl p A1=true->A3=L.idx l.n fun (i:Nat)=>L.fbl p [SV.agg [I (l.g i).w,I (l.g i).h]])/\(L.fbl p A1=false->InK .i64 (A3+(1:Int)) /\ ∃ (g':Nat),A3+(1:Int)=(↑g':Int)/\A4=A4/\A2/\A2/\((FSpec.mk p.pre fun (xs:List SV)=>SV.bool (L.fbl p xs))=FSpec.mk p.pre fun (xs:List SV)=>SV.bool (L.fbl p xs))/\(g' <= l.n /\ ∀ (j:Nat),j<g'->L.fbl p [SV.agg [I (l.g j).w,I (l.g j).h]]=false)/\l.n - g'<l.n - g))/\(decide (A3<A4)=false->(-1:Int)=L.idx l.n fun (i:Nat)=>L.fbl p [SV.agg [I (l.g i).w,I (l.g i).h]])) (by kernel_rfl) (by
 conv=>zeta
 obtain ⟨hn,hpre⟩:=hp
 refine ⟨⟨(0:Nat),rfl,Nat.zero_le _,fun j hj=>by omega⟩,fun g hg=>⟨fun hlt=>?_,fun hge=>?_⟩⟩
 ·have hb:(g:Int)<(l.n:Int):=by simpa using hlt
  have e0:((g:Int)).toNat=g:=by omega
  rw [e0]
  refine ⟨by omega,hpre g (by omega),fun h=>?_,fun h=>?_⟩
  ·exact (idx_at hg.2 h (by omega)).symm
  ·exact ⟨jK, g + 1, by omega, rfl, ⟨rfl, fun _ _ => rfl⟩, ⟨rfl, fun _ _ => rfl⟩, rfl, ⟨by omega, fun j hj => by
   rcases Nat.lt_succ_iff_lt_or_eq.1 hj with h' | rfl
   ·exact hg.2 j h'
   ·exact h⟩,by omega⟩
 ·have hb:¬ (g:Int)<(l.n:Int):=by simpa using hge
  exact (idx_none (fun j hj=>hg.2 j (by omega))).symm)
theorem s_idxFS_ok:SpecOk Tryz.prog 161 s_idxFS_S:=fnX Tryz.func161 (c:=bodyOf Tryz.f161) (by kernel_rfl) mixed (fun args p r hs hp=>by
 unfold s_idxFS_s at hs
 split at hs
 ·cases hs;exact ⟨_,_,s_idxFS_vc _ _ hp.2.2,(.p (.sl hp.1) (.fn (fun xs h=>⟨h,(fbl_res hp.2.1 h).symm⟩) .nil)),⟨show SpecsL Tryz.prog _ from SpecsL.nil,rfl,⟨show ItersL Tryz.prog _ from ItersL.nil,(TrsOk.none (fun _=>rfl))⟩⟩⟩
 ·cases hs)
theorem s_idxFS_en:Enters Tryz.prog 161:=fun args w=>by kernel_rfl
def s_conFS_p (l:(L.Sq L.Size)) (p:FSpec):Prop:=l.n <= 1000000 /\ ∀ i,i<l.n->p.pre [(.agg [.int .i64 ((l.g i).w),.int .i64 ((l.g i).h)])]
def s_conFS_r (l:(L.Sq L.Size)) (p:FSpec):SV:=.bool (L.anyB l.n (fun i=>L.fbl p [(.agg [.int .i64 ((l.g i).w),.int .i64 ((l.g i).h)])]))
def s_conFS_s:List EV->Option (Prop × SV)
 | [.p (.sl 2 l_n l_g),.fn p]=>some ((∀ i,i<l_n->l_g i = [.int .i64 ((ofSize (l_g i)).w),.int .i64 ((ofSize (l_g i)).h)])/\isB p/\s_conFS_p (⟨l_n,fun i=>ofSize (l_g i)⟩:(L.Sq L.Size)) p,s_conFS_r (⟨l_n,fun i=>ofSize (l_g i)⟩:(L.Sq L.Size)) p)
 | _=>none
abbrev s_conFS_S:SE.Spec:=(specO s_conFS_s)
def s_conFS_C:Cfg:={ cC with specs:=lookS [(161,s_idxFS_S)] }
theorem s_conFS_vc (l:(L.Sq L.Size)) (p:FSpec) (hp:s_conFS_p l p):vc Tryz.prog (s_conFS_C) (bodyOf Tryz.f118) (st0 Tryz.f118 [.p (.sl 2 l.n (fun i=>[.int .i64 ((l.g i).w),.int .i64 ((l.g i).h)])),.fn ⟨p.pre,fun xs=>.bool (L.fbl p xs)⟩]) (retFn Tryz.prog Tryz.f118 (s_conFS_r l p)) :=
 @Eq.mpr _ (let I:=SV.int .i64;let A1:=(FSpec.mk p.pre fun (xs:List SV)=>SV.bool (L.fbl p xs));((∀ (i:Nat),let A2:=[I (l.g i).w,I (l.g i).h];i<l.n->A2=A2)/\isB A1/\l.n <= (1000000:Nat) /\ ∀ (i:Nat),i<l.n->p.1 [SV.agg [I (l.g i).w,I (l.g i).h]])/\decide ((0:Int) <= L.idx l.n fun (i:Nat)=>L.fbl A1 [SV.agg [I (l.g i).w,I (l.g i).h]])=L.anyB l.n fun (i:Nat)=>L.fbl p [SV.agg [I (l.g i).w,I (l.g i).h]]) (by kernel_rfl) (by
 conv=>zeta
 refine ⟨⟨fun _ _=>rfl,fun xs _=>⟨_,rfl⟩,hp⟩,idx_any⟩)
theorem s_conFS_ok:SpecOk Tryz.prog 118 s_conFS_S:=fnX Tryz.func118 (c:=bodyOf Tryz.f118) (by kernel_rfl) mixed (fun args p r hs hp=>by
 unfold s_conFS_s at hs
 split at hs
 ·cases hs;exact ⟨_,_,s_conFS_vc _ _ hp.2.2,(.p (.sl hp.1) (.fn (fun xs h=>⟨h,(fbl_res hp.2.1 h).symm⟩) .nil)),⟨show SpecsL Tryz.prog _ from (SpecsL.cons s_idxFS_ok s_idxFS_en SpecsL.nil),rfl,⟨show ItersL Tryz.prog _ from ItersL.nil,(TrsOk.none (fun _=>rfl))⟩⟩⟩
 ·cases hs)
theorem s_conFS_en:Enters Tryz.prog 118:=fun args w=>by kernel_rfl
def c_room1_p (x:L.Size) (r:L.Size):Prop:=True
def c_room1_r (x:L.Size) (r:L.Size):SV:=.bool (L.fitsB x r)
def c_room1_s:List EV->Option (Prop × SV)
 | [.p (.agg [.int .i64 x_w,.int .i64 x_h]),.p (.ref [.int .i64 r_w,.int .i64 r_h] 0)]=>some (c_room1_p (⟨x_w,x_h⟩:L.Size) (⟨r_w,r_h⟩:L.Size),c_room1_r (⟨x_w,x_h⟩:L.Size) (⟨r_w,r_h⟩:L.Size))
 | _=>none
abbrev c_room1_S:SE.Spec:=(specO c_room1_s)
def c_room1_C:Cfg:={ muts:=[],frz:=lookN [],specs:=lookS [],loops:=lookL [],iters:=lookI [],rfs:=lookR [],nils:=lookM [] }
theorem c_room1_vc (x:L.Size) (r:L.Size) (hp:c_room1_p x r):vc Tryz.prog (c_room1_C) (bodyOf Tryz.f119) (st0 Tryz.f119 [.p (.agg [.int .i64 x.w,.int .i64 x.h]),.p (.ref [.int .i64 r.w,.int .i64 r.h] 0)]) (retFn Tryz.prog Tryz.f119 (c_room1_r x r)) :=
 @Eq.mpr _ ((bif decide (x.w <= r.w) then decide (x.h <= r.h) else false)=L.fitsB x r) (by kernel_rfl) (by
 rfl)
theorem c_room1_ok:SpecOk Tryz.prog 119 c_room1_S:=fnX Tryz.func119 (c:=bodyOf Tryz.f119) (by kernel_rfl) mixed (fun args p r hs hp=>by
 unfold c_room1_s at hs
 split at hs
 ·cases hs;exact ⟨_,_,c_room1_vc _ _ hp,(.same _ (.same _ .nil)),⟨show SpecsL Tryz.prog _ from SpecsL.nil,rfl,⟨show ItersL Tryz.prog _ from ItersL.nil,(TrsOk.none (fun _=>rfl))⟩⟩⟩
 ·cases hs)
theorem c_room1_en:Enters Tryz.prog 119:=fun args w=>by kernel_rfl
theorem c_room1_B:∀ args p r,c_room1_s args=some (p,r) -> ∃ b,r=.bool b:=by
 intro args p r h
 unfold c_room1_s at h
 split at h
 ·cases h;exact ⟨_,rfl⟩
 ·cases h
def c_validWants_p (w:(L.Sq L.Want)):Prop:=w.n <= 1000000 /\ ∀ i,i<w.n->(w.g i).ol.n <= 1000000
def c_validWants_r (w:(L.Sq L.Want)):SV:=.bool (L.vWants w)
def c_validWants_s:List EV->Option (Prop × SV)
 | [.p (.sl 4 w_n w_g)]=>some ((∀ i,i<w_n->okWant (w_g i))/\c_validWants_p (⟨w_n,fun i=>ofWant (w_g i)⟩:(L.Sq L.Want)),c_validWants_r (⟨w_n,fun i=>ofWant (w_g i)⟩:(L.Sq L.Want)))
 | _=>none
abbrev c_validWants_S:SE.Spec:=(specO c_validWants_s)
def c_validWants_C:Cfg:={ cC with specs:=lookS [(40,c_ValidWant_S)] }
theorem c_validWants_vc (w:(L.Sq L.Want)) (hp:c_validWants_p w):vc Tryz.prog ({ c_validWants_C with loops:=lookL [(2,{ T:=Nat,keep:=[0,5,6],keepO:=[],chg:=fun i=>[(7,.p (.int .i64 (i:Int)))],own:=fun _=>[],inv:=fun i=>i <= w.n /\ ∀ j,j<i->L.badAt (fun i=>L.vWant (w.g i)) (fun i=>(w.g i).id) j=false,mu:=fun i=>w.n - i })],rfs:=lookR [] }) (bodyOf Tryz.f112) (st0 Tryz.f112 [.p (.sl 4 w.n (fun i=>[.int .i64 ((w.g i).id),.int .i64 ((w.g i).colour),.int .i64 ((w.g i).grain),.sl 2 (w.g i).ol.n (fun i1=>[.int .i64 (((w.g i).ol.g i1).x),.int .i64 (((w.g i).ol.g i1).y)])]))]) (retFn Tryz.prog Tryz.f112 (c_validWants_r w)) :=
 @Eq.mpr _ (let I:=SV.int .i64;let T:=Int.toNat;let A11:=(0:Int);let A10:=(1:Int);let A8:=(↑w.n:Int);let A2:=(w.n=w.n /\ ∀ (i:Nat),let A5:=[I (w.g i).id,I (w.g i).colour,I (w.g i).grain,SV.sl (2:Nat) (w.g i).ol.n fun (i1:Nat)=>[I ((w.g i).ol.g i1).x,I ((w.g i).ol.g i1).y]];i<w.n->A5=A5);(∃ (g:Nat),A11=(↑g:Int)/\g <= w.n /\ ∀ (j:Nat),j<g->L.badAt (fun (i:Nat)=>L.vWant (w.g i)) (fun (i:Nat)=>(w.g i).id) j=false) /\ ∀ (g:Nat),let A6:=(↑g:Int);let A3:=(w.g (T A6));let A1:=(L.Want.mk A3.id A3.colour A3.grain (L.Sq.mk A3.ol.n fun (i:Nat)=>A3.ol.g i));let A7:=(!!L.vWant A1 && decide (A11<A6));let A4:=(bif !L.vWant A1 then true else bif decide (A11<A6) then decide (A3.id <= (w.g (T (A6 - A10))).id) else false);(g <= w.n /\ ∀ (j:Nat),j<g->L.badAt (fun (i:Nat)=>L.vWant (w.g i)) (fun (i:Nat)=>(w.g i).id) j=false)->(decide (A6<A8)=true->(A11 <= A6/\A6<A8)/\((∀ (i:Nat),let A9:=[I (A3.ol.g i).x,I (A3.ol.g i).y];i<A3.ol.n->A9=A9)/\A3.ol.n <= (1000000:Nat))/\(A7=true->InK .i64 (A6 - A10))/\(A7=true->A11 <= A6 - A10/\A6 - A10<A8)/\(A4=true->false=L.vWants w)/\(A4=false->InK .i64 (A6+A10) /\ ∃ (g':Nat),A6+A10=(↑g':Int)/\A8=A8/\A2/\A2/\(g' <= w.n /\ ∀ (j:Nat),j<g'->L.badAt (fun (i:Nat)=>L.vWant (w.g i)) (fun (i:Nat)=>(w.g i).id) j=false)/\w.n - g'<w.n - g))/\(decide (A6<A8)=false->true=L.vWants w)) (by kernel_rfl) (by
 conv=>zeta
 obtain ⟨hn,hol⟩:=hp
 refine ⟨⟨(0:Nat),rfl,Nat.zero_le _,fun j hj=>absurd hj (Nat.not_lt_zero _)⟩,fun g hg=>⟨fun hlt=>?_,fun hge=>?_⟩⟩
 ·have hb:(g:Int)<(w.n:Int):=of_decide_eq_true hlt
  have e0:((g:Int)).toNat=g:=Int.toNat_natCast g
  have e1:((g:Int) - 1).toNat=g - 1:=by omega
  rw [e0,e1]
  refine ⟨⟨Int.natCast_nonneg _,hb⟩,⟨fun _ _=>rfl,hol g (by omega)⟩,fun _=>jK,fun h=>?_,fun h=>?_,fun h=>?_⟩
  ·have:0<(g:Int):=of_decide_eq_true (Bool.and_eq_true_iff.1 h).2
   omega
  ·exact (not_all_of (i:=g) (f:=fun i=>!L.badAt (fun i=>L.vWant (w.g i)) (fun i=>(w.g i).id) i) (by omega) (by show (!_)=false;rw [show L.badAt (fun i=>L.vWant (w.g i)) (fun i=>(w.g i).id) g=true from h];rfl)).symm
  ·refine ⟨jK,g+1,rfl,rfl,⟨rfl,fun _ _=>rfl⟩,⟨rfl,fun _ _=>rfl⟩,⟨by omega,fun j hj=>?_⟩,by omega⟩
   rcases Nat.lt_succ_iff_lt_or_eq.1 hj with h' | rfl
   ·exact hg.2 j h'
   ·exact h
 ·have hb:¬ (g:Int)<(w.n:Int):=of_decide_eq_false hge
  exact (allB_iff.2 (fun i hi=>by show (!_)=true;rw [hg.2 i (by omega)];rfl)).symm)
theorem c_validWants_ok:SpecOk Tryz.prog 112 c_validWants_S:=fnX Tryz.func112 (c:=bodyOf Tryz.f112) (by kernel_rfl) mixed (fun args p r hs hp=>by
 unfold c_validWants_s at hs
 split at hs
 ·cases hs;exact ⟨_,_,c_validWants_vc _ hp.2,(.p (Want_ext hp.1) .nil),⟨show SpecsL Tryz.prog _ from (SpecsL.cons c_ValidWant_ok c_ValidWant_en SpecsL.nil),rfl,⟨show ItersL Tryz.prog _ from ItersL.nil,(TrsOk.none (fun _=>rfl))⟩⟩⟩
 ·cases hs)
theorem c_validWants_en:Enters Tryz.prog 112:=fun args w=>by kernel_rfl
def c_validSheets_p (s:(L.Sq L.Sheet)):Prop:=s.n <= 1000000
def c_validSheets_r (s:(L.Sq L.Sheet)):SV:=.bool (L.vSheets s)
def c_validSheets_s:List EV->Option (Prop × SV)
 | [.p (.sl 5 s_n s_g)]=>some ((∀ i,i<s_n->s_g i = [.int .i64 ((ofSheet (s_g i)).id),.int .i64 ((ofSheet (s_g i)).colour),.int .i64 ((ofSheet (s_g i)).w),.int .i64 ((ofSheet (s_g i)).h),.int .i64 ((ofSheet (s_g i)).grain)])/\c_validSheets_p (⟨s_n,fun i=>ofSheet (s_g i)⟩:(L.Sq L.Sheet)),c_validSheets_r (⟨s_n,fun i=>ofSheet (s_g i)⟩:(L.Sq L.Sheet)))
 | _=>none
abbrev c_validSheets_S:SE.Spec:=(specO c_validSheets_s)
def c_validSheets_C:Cfg:={ cC with specs:=lookS [(41,c_ValidSheet_S)] }
theorem c_validSheets_vc (s:(L.Sq L.Sheet)) (hp:c_validSheets_p s):vc Tryz.prog ({ c_validSheets_C with loops:=lookL [(2,{ T:=Nat,keep:=[0,5,6],keepO:=[],chg:=fun i=>[(7,.p (.int .i64 (i:Int)))],own:=fun _=>[],inv:=fun i=>i <= s.n /\ ∀ j,j<i->L.badAt (fun i=>L.vSheet (s.g i)) (fun i=>(s.g i).id) j=false,mu:=fun i=>s.n - i })],rfs:=lookR [] }) (bodyOf Tryz.f113) (st0 Tryz.f113 [.p (.sl 5 s.n (fun i=>[.int .i64 ((s.g i).id),.int .i64 ((s.g i).colour),.int .i64 ((s.g i).w),.int .i64 ((s.g i).h),.int .i64 ((s.g i).grain)]))]) (retFn Tryz.prog Tryz.f113 (c_validSheets_r s)) :=
  @Eq.mpr _ (let I:=SV.int .i64;let T:=Int.toNat;let A8:=(0:Int);let A7:=(1:Int);let A6:=(↑s.n:Int);let A2:=(s.n=s.n /\ ∀ (i:Nat),let A4:=[I (s.g i).id,I (s.g i).colour,I (s.g i).w,I (s.g i).h,I (s.g i).grain];i<s.n->A4=A4);(∃ (g:Nat),A8=(↑g:Int)/\g <= s.n /\ ∀ (j:Nat),j<g->L.badAt (fun (i:Nat)=>L.vSheet (s.g i)) (fun (i:Nat)=>(s.g
 i).id) j=false) /\ ∀ (g:Nat),let A3:=(↑g:Int);let A9:=(s.g (T A3));let A5:=(!!L.vSheet A9 && decide (A8<A3));let A1:=(bif !L.vSheet A9 then true else bif decide (A8<A3) then decide (A9.id <= (s.g (T (A3 - A7))).id) else false);(g <= s.n /\ ∀ (j:Nat),j<g->L.badAt (fun (i:Nat)=>L.vSheet (s.g i)) (fun (i:Nat)=>(s.g i).id) j =
 false)->(decide (A3<A6)=true->(A8 <= A3/\A3<A6)/\True/\(A5=true->InK .i64 (A3 - A7))/\(A5=true->A8 <= A3 - A7/\A3 - A7<A6)/\(A1=true->false=L.vSheets s)/\(A1=false->InK .i64 (A3+A7) /\ ∃ (g':Nat),A3+A7=(↑g':Int)/\A6=A6/\A2/\A2/\(g' <= s.n /\ ∀ (j:Nat),j<g'->L.badAt (fun (i
:Nat)=>L.vSheet (s.g i)) (fun (i:Nat)=>(s.g i).id) j=false)/\s.n - g'<s.n - g))/\(decide (A3<A6)=false->true=L.vSheets s)) (by kernel_rfl) (by
 conv=>zeta
 have hn:s.n <= 1000000:=hp
 refine ⟨⟨(0:Nat),rfl,Nat.zero_le _,fun j hj=>absurd hj (Nat.not_lt_zero _)⟩,fun g hg=>⟨fun hlt=>?_,fun hge=>?_⟩⟩
 ·have hb:(g:Int)<(s.n:Int):=of_decide_eq_true hlt
  have e0:((g:Int)).toNat=g:=Int.toNat_natCast g
  have e1:((g:Int) - 1).toNat=g - 1:=by omega
  rw [e0,e1]
  refine ⟨⟨Int.natCast_nonneg _,hb⟩,trivial,fun _=>jK,fun h=>?_,fun h=>?_,fun h=>?_⟩
  ·have:0<(g:Int):=of_decide_eq_true (Bool.and_eq_true_iff.1 h).2
   omega
  ·exact (not_all_of (i:=g) (f:=fun i=>!L.badAt (fun i=>L.vSheet (s.g i)) (fun i=>(s.g i).id) i) (by omega) (by show (!_)=false;rw [show L.badAt (fun i=>L.vSheet (s.g i)) (fun i=>(s.g i).id) g=true from h];rfl)).symm
  ·refine ⟨jK,g+1,rfl,rfl,⟨rfl,fun _ _=>rfl⟩,⟨rfl,fun _ _=>rfl⟩,⟨by omega,fun j hj=>?_⟩,by omega⟩
   rcases Nat.lt_succ_iff_lt_or_eq.1 hj with h' | rfl
   ·exact hg.2 j h'
   ·exact h
 ·have hb:¬ (g:Int)<(s.n:Int):=of_decide_eq_false hge
  exact (allB_iff.2 (fun i hi=>by show (!_)=true;rw [hg.2 i (by omega)];rfl)).symm)
theorem c_validSheets_ok:SpecOk Tryz.prog 113 c_validSheets_S:=fnX Tryz.func113 (c:=bodyOf Tryz.f113) (by kernel_rfl) mixed (fun args p r hs hp=>by
 unfold c_validSheets_s at hs
 split at hs
 ·cases hs;exact ⟨_,_,c_validSheets_vc _ hp.2,(.p (.sl hp.1) .nil),⟨show SpecsL Tryz.prog _ from (SpecsL.cons c_ValidSheet_ok c_ValidSheet_en SpecsL.nil),rfl,⟨show ItersL Tryz.prog _ from ItersL.nil,(TrsOk.none (fun _=>rfl))⟩⟩⟩
 ·cases hs)
theorem c_validSheets_en:Enters Tryz.prog 113:=fun args w=>by kernel_rfl
def c_bad_p (w:(L.Sq L.Want)) (s:(L.Sq L.Sheet)) (r:Bool):Prop:=w.n <= 1000000/\(∀ i,i<w.n->(w.g i).ol.n <= 1000000)/\s.n <= 1000000
def c_bad_r (w:(L.Sq L.Want)) (s:(L.Sq L.Sheet)) (r:Bool):SV:=.int .i64 (L.badE w s r)
def c_bad_s:List EV->Option (Prop × SV)
 | [.p (.sl 4 w_n w_g),.p (.sl 5 s_n s_g),.p (.bool r)]=>some ((∀ i,i<w_n->okWant (w_g i))/\(∀ i,i<s_n->s_g i = [.int .i64 ((ofSheet (s_g i)).id),.int .i64 ((ofSheet (s_g i)).colour),.int .i64 ((ofSheet (s_g i)).w),.int .i64 ((ofSheet (s_g i)).h),.int .i64 ((ofSheet (s_g i)).grain)])/\c_bad_p (⟨w_n,fun i=>ofWant (w_g i)⟩:(L.Sq L.Want)) (⟨s_n,fun i=>ofSheet (s_g i)⟩:(L.Sq L.Sheet)) r,c_bad_r (⟨w_n,fun i=>ofWant (w_g i)⟩:(L.Sq L.Want)) (⟨s_n,fun i=>ofSheet (s_g i)⟩:(L.Sq L.Sheet)) r)
 | _=>none
abbrev c_bad_S:SE.Spec:=(specO c_bad_s)
def c_bad_C:Cfg:={ cC with specs:=lookS [(112,c_validWants_S),(113,c_validSheets_S)] }
theorem c_bad_vc (w:(L.Sq L.Want)) (s:(L.Sq L.Sheet)) (r:Bool) (hp:c_bad_p w s r):vc Tryz.prog (c_bad_C) (bodyOf Tryz.f60) (st0 Tryz.f60 [.p (.sl 4 w.n (fun i=>[.int .i64 ((w.g i).id),.int .i64 ((w.g i).colour),.int .i64 ((w.g i).grain),.sl 2 (w.g i).ol.n (fun i1=>[.int .i64 (((w.g i).ol.g i1).x),.int .i64 (((w.g i).ol.g i1).y)])])),.p (.sl 5 s.n (fun i=>[.int .i64 ((s.g i).id),.int .i64 ((s.g i).colour),.int .i64 ((s.g i).w),.int .i64 ((s.g i).h),.int .i64 ((s.g i).grain)])),.p (.bool r)]) (retFn Tryz.prog Tryz.f60 (c_bad_r w s r)) :=
 @Eq.mpr _ (let I:=SV.int .i64;let A6:=(1000000:Nat);let A4:=(bif !L.vSheets (L.Sq.mk s.n fun (i:Nat)=>s.g i) then true else !r);let A2:=(bif decide ((7:Int)<(↑w.n:Int)) then true else decide ((7:Int)<(↑s.n:Int)));let A1:=(!L.vWants (L.Sq.mk w.n fun (i:Nat)=>L.Want.mk (w.g i).id (w.g i).colour (w.g i).grain (L.Sq.mk (w.g i).ol.n fun (i_1:Nat)=>(w.g i).ol.g i_1)));((∀ (i:Nat),i<w.n -> ∀ (i_1:Nat),let A5:=((w.g i).ol.g i_1);i_1<(w.g i).ol.n -> [I A5.x,I A5.y] = [I A5.x,I A5.y])/\w.n <= A6 /\ ∀ (i:Nat),i<w.n->(w.g i).ol.n <= A6)/\(A1=true->(50:Int)=L.badE w s r)/\(A1=false->((∀ (i:Nat),let A3:=[I (s.g i).id,I (s.g i).colour,I (s.g i).w,I (s.g i).h,I (s.g i).grain];i<s.n->A3=A3)/\s.n <= A6)/\(A4=true->(1:Int)=L.badE w s r)/\(A4=false->(A2=true->(2:Int)=L.badE w s r)/\(A2=false->(0:Int)=L.badE w s r)))) (by kernel_rfl) (by
 conv=>zeta
 obtain ⟨hn,hol,hs⟩:=hp
 refine ⟨⟨fun _ _ _ _=>rfl,hn,hol⟩,fun h=>?_,fun h=>⟨⟨fun _ _=>rfl,hs⟩,fun h2=>?_,fun h2=>⟨fun h3=>?_,fun h3=>?_⟩⟩⟩
 ·have h:(!L.vWants w)=true:=h
  unfold L.badE;rw [h];rfl
 all_goals have h:(!L.vWants w)=false:=h
 ·unfold L.badE;rw [h,h2];rfl
 ·unfold L.badE;rw [h,h2,h3];rfl
 ·unfold L.badE;rw [h,h2,h3];rfl)
theorem c_bad_ok:SpecOk Tryz.prog 60 c_bad_S:=fnX Tryz.func60 (c:=bodyOf Tryz.f60) (by kernel_rfl) mixed (fun args p r hs hp=>by
 unfold c_bad_s at hs
 split at hs
 ·cases hs;exact ⟨_,_,c_bad_vc _ _ _ hp.2.2,(.p (Want_ext hp.1) (.p (.sl hp.2.1) (.same _ .nil))),⟨show SpecsL Tryz.prog _ from (SpecsL.cons c_validWants_ok c_validWants_en (SpecsL.cons c_validSheets_ok c_validSheets_en SpecsL.nil)),rfl,⟨show ItersL Tryz.prog _ from ItersL.nil,(TrsOk.none (fun _=>rfl))⟩⟩⟩
 ·cases hs)
theorem c_bad_en:Enters Tryz.prog 60:=fun args w=>by kernel_rfl
def s_cloneS_p (l:(L.Sq L.Size)):Prop:=l.n <= 1000000
def s_cloneS_q (l:(L.Sq L.Size)):Nat->Prop:=fun _=>True
def s_cloneS_n (l:(L.Sq L.Size)):Nat->Nat:=fun _=>l.n
def s_cloneS_g (l:(L.Sq L.Size)):Nat->Nat->List SV:=fun _ i=>[.int .i64 ((l.g i).w),.int .i64 ((l.g i).h)]
def s_cloneS_s:List EV->Option (Prop × (Nat->Prop) × (Nat->Nat) × (Nat->Nat->List SV))
 | [.p (.sl 2 l_n l_g)]=>some ((∀ i,i<l_n->l_g i = [.int .i64 ((ofSize (l_g i)).w),.int .i64 ((ofSize (l_g i)).h)])/\s_cloneS_p (⟨l_n,fun i=>ofSize (l_g i)⟩:(L.Sq L.Size)),s_cloneS_q (⟨l_n,fun i=>ofSize (l_g i)⟩:(L.Sq L.Size)),s_cloneS_n (⟨l_n,fun i=>ofSize (l_g i)⟩:(L.Sq L.Size)),s_cloneS_g (⟨l_n,fun i=>ofSize (l_g i)⟩:(L.Sq L.Size)))
 | _=>none
abbrev s_cloneS_S:SE.Spec:=(specF Nat 0 43 2 s_cloneS_s)
def s_cloneS_C:Cfg:={ cC with muts:=[5] }
theorem s_cloneS_vc (l:(L.Sq L.Size)) (hp:s_cloneS_p l):vc Tryz.prog (s_cloneS_C) (bodyOf Tryz.f63) (st0 Tryz.f63 [.p (.sl 2 l.n (fun i=>[.int .i64 ((l.g i).w),.int .i64 ((l.g i).h)]))]) (retFresh Tryz.prog Tryz.f63 (Nat) (s_cloneS_q l) 43 2 (s_cloneS_n l) (s_cloneS_g l)) :=
 @Eq.mpr _ (∀ (b:Bool),(b = !false->l.n=(0:Nat))->(b=true -> ∃ (t:Nat),l.n=(0:Nat)/\True)/\(b=false->(nat_lit 0+l.n) * nat_lit 16 <= (140737488355328:Nat) /\ ∃ (t:Nat),(nat_lit 0+l.n=l.n /\ ∀ (i:Nat),i<nat_lit 0+l.n->appGet (nat_lit 0) (rowsOf [] (nat_lit 2)) (fun (i:Nat)=>[SV.int .i64 (l.g i).w,SV.int .i64 (l.g i).h]) i = [SV.int .i64 (l.g i).w,SV.int .i64 (l.g i).h])/\True)) (by kernel_rfl) (by
 have hn:l.n <= 1000000:=hp
 refine fun b hb=>⟨fun h=>⟨(0:Nat),hb h,trivial⟩,fun h=>⟨show (0+l.n) * 16 <= 140737488355328 by omega,(0:Nat),⟨Nat.zero_add _,fun i hi=>?_⟩,trivial⟩⟩
 unfold appGet;rw [if_neg (Nat.not_lt_zero _)];rfl)
theorem s_cloneS_ok:SpecOk Tryz.prog 63 s_cloneS_S:=freshX Tryz.func63 (c:=bodyOf Tryz.f63) (by kernel_rfl) mixed (fun args p q n g hs hp=>by
 unfold s_cloneS_s at hs
 split at hs
 ·cases hs;exact ⟨_,_,s_cloneS_vc _ hp.2,(.p (.sl hp.1) .nil),⟨show SpecsL Tryz.prog _ from SpecsL.nil,rfl,⟨show ItersL Tryz.prog _ from ItersL.nil,(TrsOk.none (fun _=>rfl))⟩⟩⟩
 ·cases hs)
theorem s_cloneS_en:Enters Tryz.prog 63:=fun args w=>by kernel_rfl
abbrev c_room_mk:Mk:={ T:=(L.Sq L.Want) × (Int) × (Int->Bool) × (Int) × (L.Size),U:=Int->Bool,args:=fun t=>(fun w gr dom g r=>[.loc 1000 0,.p (.int .i64 g),.p ((.agg [.int .i64 r.w,.int .i64 r.h]))]) t.1 t.2.1 t.2.2.1 t.2.2.2.1 t.2.2.2.2,lkeys:=[1000,1001],keys:=[],lent:=fun t=>(fun w gr dom g r=>[(1000,.blk 162 [.p ((.sl 4 w.n (fun i=>[.int .i64 ((w.g i).id),.int .i64 ((w.g i).colour),.int .i64 ((w.g i).grain),.sl 2 (w.g i).ol.n (fun i1=>[.int .i64 (((w.g i).ol.g i1).x),.int .i64 (((w.g i).ol.g i1).y)])]))),.p (.int .i64 gr),.mapv 1001]),(1001,.mq 3 27 dom (L.memo (L.tabF w gr)))]) t.1 t.2.1 t.2.2.1 t.2.2.2.1 t.2.2.2.2,pre:=fun t=>(fun w gr dom g r=>L.okW w/\0 <= g/\g <= L.all w.n) t.1 t.2.1 t.2.2.1 t.2.2.2.1 t.2.2.2.2,post:=fun t u=>(fun w gr dom g r=>fun u=>True) t.1 t.2.1 t.2.2.1 t.2.2.2.1 t.2.2.2.2 u,lent':=fun t u=>(fun w gr dom g r=>fun u=>[(1000,.blk 162 [.p ((.sl 4 w.n (fun i=>[.int .i64 ((w.g i).id),.int .i64 ((w.g i).colour),.int .i64 ((w.g i).grain),.sl 2 (w.g i).ol.n (fun i1=>[.int .i64 (((w.g i).ol.g i1).x),.int .i64 (((w.g i).ol.g i1).y)])]))),.p (.int .i64 gr),.mapv 1001]),(1001,.mq 3 27 u (L.memo (L.tabF w gr)))]) t.1 t.2.1 t.2.2.1 t.2.2.2.1 t.2.2.2.2 u,own:=fun t u=>(fun w gr dom g r=>fun u=>[]) t.1 t.2.1 t.2.2.1 t.2.2.2.1 t.2.2.2.2 u,res:=fun t u=>(fun w gr dom g r=>fun u=>.p (.bool (L.roomB w gr g r))) t.1 t.2.1 t.2.2.1 t.2.2.2.1 t.2.2.2.2 u }
theorem c_room_vc (w:L.Sq L.Want) (gr:Int) (dom:Int->Bool) (g:Int) (r:L.Size) (hp:c_room_mk.pre (w,gr,dom,g,r)):vc Tryz.prog ({ cC with specs:=lookS [(118,s_conFS_S),(119,c_room1_S)],mks:=lookK [(64,c_sizes_mk)],ren:=fun k=>k }) (bodyOf Tryz.f69) (stTr Tryz.f69 (c_room_mk.args (w,gr,dom,g,r)) (c_room_mk.lent (w,gr,dom,g,r))) (retMk Tryz.prog Tryz.f69 c_room_mk (w,gr,dom,g,r)) :=
 @Eq.mpr _ (let I:=SV.int .i64;let A7:=(2:Nat);let A3:=[SV.ref [I (w,gr,dom,g,r).snd.snd.snd.snd.w,I (w,gr,dom,g,r).snd.snd.snd.snd.h] (nat_lit 0)];let A1:=(FSpec.mk (fun («as»:List SV)=>preO c_room1_s (List.map EV.p «as» ++ List.map EV.p A3)) fun («as»:List SV)=>resO c_room1_s (List.map EV.p «as» ++ List.map EV.p A3));∃ (t:L.Sq L.Want × Int × (Int->Bool) × Int),let A2:=(L.tabF t.1 t.2.1 t.snd.2.2);nat_lit 0=(0:Nat)/\g=t.snd.2.2/\(w.n=t.1.n /\ ∀ (i:Nat),let A4:=(t.1.g i);i<w.n -> [I (w.g i).id,I (w.g i).colour,I (w.g i).grain,SV.sl A7 (w.g i).ol.n fun (i1:Nat)=>[I ((w.g i).ol.g i1).x,I ((w.g i).ol.g i1).y]] = [I A4.id,I A4.colour,I A4.grain,SV.sl A7 A4.ol.n fun (i1:Nat)=>[I (A4.ol.g i1).x,I (A4.ol.g i1).y]])/\gr=t.2.1/\(∀ (x:Int),dom x=t.snd.2.1 x)/\(∀ (x:Int),dom x=true->L.memo (L.tabF w gr) x=L.memo (L.tabF t.1 t.2.1) x)/\(L.okW t.1/\(0:Int) <= t.snd.2.2/\t.snd.2.2 <= L.all t.1.n) /\ ∀ (u:Int->Bool),True->((∀ (i:Nat),let A6:=[I (A2.g i).w,I (A2.g i).h];i<A2.n->A6=A6)/\isB A1/\A2.n <= (1000000:Nat) /\ ∀ (i:Nat),i<A2.n->True) /\ ∃ (u_1:Int->Bool),(L.anyB A2.n fun (i:Nat)=>L.fbl A1 [SV.agg [I (A2.g i).w,I (A2.g i).h]])=L.roomB w gr g r/\(t.1.n=w.n /\ ∀ (i:Nat),let A5:=(t.1.g i);i<t.1.n -> [I A5.id,I A5.colour,I A5.grain,SV.sl A7 A5.ol.n fun (i1:Nat)=>[I (A5.ol.g i1).x,I (A5.ol.g i1).y]] = [I (w.g i).id,I (w.g i).colour,I (w.g i).grain,SV.sl A7 (w.g i).ol.n fun (i1:Nat)=>[I ((w.g i).ol.g i1).x,I ((w.g i).ol.g i1).y]])/\t.2.1=gr/\(∀ (x:Int),u x=u_1 x)/\(∀ (x:Int),u x=true->L.memo (L.tabF t.1 t.2.1) x=L.memo (L.tabF w gr) x)/\True) (by kernel_rfl) (by
 conv=>zeta
 have hp:L.okW w/\0 <= g/\g <= L.all w.n:=hp
 have hl:(L.tab w gr g).length <= 1000000:=Nat.le_trans (tab_len_le w gr hp.2.1 (Int.le_trans hp.2.2 (all_15 hp.1.1))) (by decide)
 exact ⟨(w,gr,dom,g),rfl,rfl,⟨rfl,fun _ _=>rfl⟩,rfl,fun _=>rfl,fun _ _=>rfl,hp,fun u _=>⟨⟨fun _ _=>rfl,isB_of c_room1_B _,hl,fun _ _=>trivial⟩,u,rfl,⟨rfl,fun _ _=>rfl⟩,rfl,fun _=>rfl,fun _ _=>rfl,trivial⟩⟩)
theorem c_room_en:Enters Tryz.prog 69:=fun args w=>by kernel_rfl
theorem c_room_mok:MkOk Tryz.prog 69 c_room_mk:=mk_ok (n:=3) Tryz.func69 (c:=bodyOf Tryz.f69) (by kernel_rfl) mixed ⟨fun t=>rfl,fun t=>rfl,fun t u=>rfl,fun t u=>rfl,fun t u=>rfl,fun t u=>⟨rfl,rfl⟩,by kernel_rfl,by kernel_rfl⟩ (fun ⟨w,gr,dom,g,r⟩ hp=>⟨_,c_room_vc w gr dom g r hp,⟨show SpecsL Tryz.prog _ from (SpecsL.cons s_conFS_ok s_conFS_en (SpecsL.cons c_room1_ok c_room1_en SpecsL.nil)),rfl,⟨show ItersL Tryz.prog _ from ItersL.nil,⟨TrsOk.no1 (fun _=>rfl),⟨show MksL Tryz.prog _ from (MksL.cons c_sizes_mok c_sizes_en MksL.nil),FamsOk.none (fun _=>rfl)⟩⟩⟩⟩⟩)
def c_Sizes_p (w:(L.Sq L.Want)) (gr:Int):Prop:=L.preW w
def c_Sizes_r (w:(L.Sq L.Want)) (gr:Int):SV:=.tup [.sl 2 (L.szN w gr) (fun k=>[.int .i64 (((L.tabF w gr (L.all w.n)).g k).w),.int .i64 (((L.tabF w gr (L.all w.n)).g k).h)]),.int .i64 (L.szE w gr)]
def c_Sizes_s:List EV->Option (Prop × SV)
 | [.p (.sl 4 w_n w_g),.p (.int .i64 gr)]=>some ((∀ i,i<w_n->okWant (w_g i))/\c_Sizes_p (⟨w_n,fun i=>ofWant (w_g i)⟩:(L.Sq L.Want)) gr,c_Sizes_r (⟨w_n,fun i=>ofWant (w_g i)⟩:(L.Sq L.Want)) gr)
 | _=>none
abbrev c_Sizes_S:SE.Spec:=(specO c_Sizes_s)
def c_Sizes_C:Cfg:={ cC with specs:=lookS [(61,c_within_S),(60,c_bad_S),(63,s_cloneS_S)],mks:=lookK [(62,c_shapesOf_mk),(65,c_full_mk),(64,c_sizes_mk)],ren:=fun k=>if k=1000 then 9 else if k=1001 then 7 else k }
theorem c_Sizes_vc (w:(L.Sq L.Want)) (gr:Int) (hp:c_Sizes_p w gr):vc Tryz.prog (c_Sizes_C) (bodyOf Tryz.f14) (st0 Tryz.f14 [.p (.sl 4 w.n (fun i=>[.int .i64 ((w.g i).id),.int .i64 ((w.g i).colour),.int .i64 ((w.g i).grain),.sl 2 (w.g i).ol.n (fun i1=>[.int .i64 (((w.g i).ol.g i1).x),.int .i64 (((w.g i).ol.g i1).y)])])),.p (.int .i64 gr)]) (retFn Tryz.prog Tryz.f14 (c_Sizes_r w gr)) :=
 @Eq.mpr _ (let I:=SV.int .i64;let A10:=(2:Nat);let A9:=(1000000:Nat);let A4:=(0:Int);let A16:=(L.within gr A4 (2:Int));let A5:=(L.Sq.mk (nat_lit 0) fun (i:Nat)=>L.Sheet.mk A4 A4 A4 A4 A4);let A3:=(L.Sq.mk w.n fun (i:Nat)=>L.Want.mk (w.g i).id (w.g i).colour (w.g i).grain (L.Sq.mk (w.g i).ol.n fun (i_1:Nat)=>(w.g i).ol.g i_1));let A1:=(!decide (L.badE A3 A5 A16=A4));True/\((∀ (i:Nat),i<w.n -> ∀ (i_1:Nat),let A6:=((w.g i).ol.g i_1);i_1<(w.g i).ol.n -> [I A6.x,I A6.y] = [I A6.x,I A6.y])/\(∀ (i:Nat),i<nat_lit 0 -> [] = [I A4,I A4,I A4,I A4,I A4])/\w.n <= A9/\(∀ (i:Nat),i<w.n->(w.g i).ol.n <= A9)/\nat_lit 0 <= A9)/\(A1=true->L.szN w gr=(0:Nat)/\L.badE A3 A5 A16=L.szE w gr)/\(A1=false -> ∃ (t:L.Sq L.Want × Int × (Int->L.Sq L.Size)),(w.n=t.1.n /\ ∀ (i:Nat),let A11:=(t.1.g i);i<w.n -> [I (w.g i).id,I (w.g i).colour,I (w.g i).grain,SV.sl A10 (w.g i).ol.n fun (i1:Nat)=>[I ((w.g i).ol.g i1).x,I ((w.g i).ol.g i1).y]] = [I A11.id,I A11.colour,I A11.grain,SV.sl A10 A11.ol.n fun (i1:Nat)=>[I (A11.ol.g i1).x,I (A11.ol.g i1).y]])/\gr=t.2.1/\True /\ ∀ (u:Nat),True -> ∃ (t_1:L.Sq L.Want × Int × (Int->L.Sq L.Size) × (Int->Bool)),nat_lit 0=(0:Nat)/\(t.1.n=t_1.1.n /\ ∀ (i:Nat),let A12:=(t.1.g i);let A7:=(t_1.1.g i);i<t.1.n -> [I A12.id,I A12.colour,I A12.grain,SV.sl A10 A12.ol.n fun (i1:Nat)=>[I (A12.ol.g i1).x,I (A12.ol.g i1).y]] = [I A7.id,I A7.colour,I A7.grain,SV.sl A10 A7.ol.n fun (i1:Nat)=>[I (A7.ol.g i1).x,I (A7.ol.g i1).y]])/\t.2.1=t_1.2.1/\(∀ (x:Int),false=t_1.snd.2.2 x)/\(∀ (x:Int),false=true->L.memo t.2.2 x=L.memo t_1.snd.2.1 x)/\t_1.1.n <= (4:Nat) /\ ∀ (u:Nat),True -> ∃ (t:L.Sq L.Want × Int × (Int->Bool) × Int),let A2:=(L.tabF t.1 t.2.1 t.snd.2.2);nat_lit 0=(0:Nat)/\L.all t_1.1.n=t.snd.2.2/\(t_1.1.n=t.1.n /\ ∀ (i:Nat),let A13:=(t.1.g i);let A8:=(t_1.1.g i);i<t_1.1.n -> [I A8.id,I A8.colour,I A8.grain,SV.sl A10 A8.ol.n fun (i1:Nat)=>[I (A8.ol.g i1).x,I (A8.ol.g i1).y]] = [I A13.id,I A13.colour,I A13.grain,SV.sl A10 A13.ol.n fun (i1:Nat)=>[I (A13.ol.g i1).x,I (A13.ol.g i1).y]])/\t_1.2.1=t.2.1/\(∀ (x:Int),t_1.snd.2.2 x=t.snd.2.1 x)/\(∀ (x:Int),t_1.snd.2.2 x=true->L.memo t_1.snd.2.1 x=L.memo (L.tabF t.1 t.2.1) x)/\(L.okW t.1/\A4 <= t.snd.2.2/\t.snd.2.2 <= L.all t.1.n) /\ ∀ (u:Int->Bool),True->((∀ (i:Nat),let A15:=[I (A2.g i).w,I (A2.g i).h];i<A2.n->A15=A15)/\A2.n <= A9) /\ ∀ (t_2:Nat),True->(A2.n=L.szN w gr /\ ∀ (i:Nat),let A14:=((L.tabF w gr (L.all w.n)).g i);i<A2.n -> [I (A2.g i).w,I (A2.g i).h] = [I A14.w,I A14.h])/\A4=L.szE w gr)) (by kernel_rfl) (by
 conv=>zeta
 have hp:L.preW w:=hp
 refine ⟨trivial,⟨fun _ _ _ _=>rfl,fun i hi=>absurd hi (Nat.not_lt_zero _),hp.2.1,hp.2.2,Nat.zero_le _⟩,fun h=>?_,fun h=>?_⟩
 ·have h:¬ L.szE w gr=0:=of_decide_eq_false (notT h)
  exact ⟨by unfold L.szN;rw [decide_eq_false h];rfl,rfl⟩
 ·have h:L.szE w gr=0:=of_decide_eq_true (notF h)
  obtain ⟨-,-,-,h7,-⟩:=badE_0 h
  have ok:=okW_of hp h7
  have a15:=all_bd ok.1
  have hl:(L.tab w gr (L.all w.n)).length <= 1000000:=Nat.le_trans (tab_len_le w gr a15.1 a15.2.1) (by decide)
  exact ⟨(w,gr,L.tabF w gr),⟨rfl,fun _ _=>rfl⟩,rfl,trivial,fun _ _=>⟨(w,gr,L.tabF w gr,fun _=>false),rfl,⟨rfl,fun _ _=>rfl⟩,rfl,fun _=>rfl,fun _ _=>rfl,ok.1,fun _ _=>⟨(w,gr,(fun _=>false),L.all w.n),rfl,rfl,⟨rfl,fun _ _=>rfl⟩,rfl,fun _=>rfl,fun _ _=>rfl,⟨ok,a15.1,Int.le_refl _⟩,fun u _=>⟨⟨fun _ _=>rfl,hl⟩,fun _ _=>⟨⟨by unfold L.szN;rw [decide_eq_true h];rfl,fun _ _=>rfl⟩,h.symm⟩⟩⟩⟩⟩)
theorem c_Sizes_ok:SpecOk Tryz.prog 14 c_Sizes_S:=fnX Tryz.func14 (c:=bodyOf Tryz.f14) (by kernel_rfl) mixed (fun args p r hs hp=>by
 unfold c_Sizes_s at hs
 split at hs
 ·cases hs;exact ⟨_,_,c_Sizes_vc _ _ hp.2,(.p (Want_ext hp.1) (.same _ .nil)),⟨show SpecsL Tryz.prog _ from (SpecsL.cons c_within_ok c_within_en (SpecsL.cons c_bad_ok c_bad_en (SpecsL.cons s_cloneS_ok s_cloneS_en SpecsL.nil))),rfl,⟨show ItersL Tryz.prog _ from ItersL.nil,⟨TrsOk.no1 (fun _=>rfl),⟨show MksL Tryz.prog _ from (MksL.cons c_shapesOf_mok c_shapesOf_en (MksL.cons c_full_mok c_full_en (MksL.cons c_sizes_mok c_sizes_en MksL.nil))),FamsOk.none (fun _=>rfl)⟩⟩⟩⟩⟩
 ·cases hs)
theorem c_Sizes_en:Enters Tryz.prog 14:=fun args w=>by kernel_rfl
def c_FitsIn_p (w:(L.Sq L.Want)) (s:L.Sheet):Prop:=L.preW w
def c_FitsIn_r (w:(L.Sq L.Want)) (s:L.Sheet):SV:=.tup [.bool (L.fitB w s),.int .i64 (L.fitE w s)]
def c_FitsIn_s:List EV->Option (Prop × SV)
 | [.p (.sl 4 w_n w_g),.p (.agg [.int .i64 s_id,.int .i64 s_colour,.int .i64 s_w,.int .i64 s_h,.int .i64 s_grain])]=>some ((∀ i,i<w_n->okWant (w_g i))/\c_FitsIn_p (⟨w_n,fun i=>ofWant (w_g i)⟩:(L.Sq L.Want)) (⟨s_id,s_colour,s_w,s_h,s_grain⟩:L.Sheet),c_FitsIn_r (⟨w_n,fun i=>ofWant (w_g i)⟩:(L.Sq L.Want)) (⟨s_id,s_colour,s_w,s_h,s_grain⟩:L.Sheet))
 | _=>none
abbrev c_FitsIn_S:SE.Spec:=(specO c_FitsIn_s)
def c_FitsIn_C:Cfg:={ cC with specs:=lookS [(60,c_bad_S)],anys:=[1005],mks:=lookK [(62,c_shapesOf_mk),(65,c_full_mk),(69,c_room_mk)],ren:=fun k=>if k=1000 then 9 else if k=1001 then 7 else k }
theorem c_FitsIn_vc (w:(L.Sq L.Want)) (s:L.Sheet) (hp:c_FitsIn_p w s):vc Tryz.prog (c_FitsIn_C) (bodyOf Tryz.f16) (st0 Tryz.f16 [.p (.sl 4 w.n (fun i=>[.int .i64 ((w.g i).id),.int .i64 ((w.g i).colour),.int .i64 ((w.g i).grain),.sl 2 (w.g i).ol.n (fun i1=>[.int .i64 (((w.g i).ol.g i1).x),.int .i64 (((w.g i).ol.g i1).y)])])),.p (.agg [.int .i64 s.id,.int .i64 s.colour,.int .i64 s.w,.int .i64 s.h,.int .i64 s.grain])]) (retFn Tryz.prog Tryz.f16 (c_FitsIn_r w s)) :=
 @Eq.mpr _ (let I:=SV.int .i64;let A19:=(0:Nat);let A18:=(1000000:Nat);let A17:=(0:Int);let A11:=(L.Sq.mk (nat_lit 1) fun (i:Nat)=>s);let A6:=[I s.id,I s.colour,I s.w,I s.h,I s.grain];let A4:=(2:Nat);let A2:=(L.Sq.mk w.n fun (i:Nat)=>L.Want.mk (w.g i).id (w.g i).colour (w.g i).grain (L.Sq.mk (w.g i).ol.n fun (i_1:Nat)=>(w.g i).ol.g i_1));let A3:=(!decide (L.badE A2 A11 true=A17));((∀ (i:Nat),i<w.n -> ∀ (i_1:Nat),let A5:=((w.g i).ol.g i_1);i_1<(w.g i).ol.n -> [I A5.x,I A5.y] = [I A5.x,I A5.y])/\(∀ (i:Nat),i<nat_lit 1->A6=A6)/\w.n <= A18/\(∀ (i:Nat),i<w.n->(w.g i).ol.n <= A18)/\nat_lit 1 <= A18)/\(A3=true->false=L.fitB w s/\L.badE A2 A11 true=L.fitE w s)/\(A3=false -> ∃ (t:L.Sq L.Want × Int × (Int->L.Sq L.Size)),(w.n=t.1.n /\ ∀ (i:Nat),let A12:=(t.1.g i);i<w.n -> [I (w.g i).id,I (w.g i).colour,I (w.g i).grain,SV.sl A4 (w.g i).ol.n fun (i1:Nat)=>[I ((w.g i).ol.g i1).x,I ((w.g i).ol.g i1).y]] = [I A12.id,I A12.colour,I A12.grain,SV.sl A4 A12.ol.n fun (i1:Nat)=>[I (A12.ol.g i1).x,I (A12.ol.g i1).y]])/\s.grain=t.2.1/\True /\ ∀ (u:Nat),let A1:=(∃ (t_1:L.Sq L.Want × Int × (Int->L.Sq L.Size) × (Int->Bool)),nat_lit 0=A19/\(t.1.n=t_1.1.n /\ ∀ (i:Nat),let A13:=(t.1.g i);let A7:=(t_1.1.g i);i<t.1.n -> [I A13.id,I A13.colour,I A13.grain,SV.sl A4 A13.ol.n fun (i1:Nat)=>[I (A13.ol.g i1).x,I (A13.ol.g i1).y]] = [I A7.id,I A7.colour,I A7.grain,SV.sl A4 A7.ol.n fun (i1:Nat)=>[I (A7.ol.g i1).x,I (A7.ol.g i1).y]])/\t.2.1=t_1.2.1/\(∀ (x:Int),false=t_1.snd.2.2 x)/\(∀ (x:Int),false=true->L.memo t.2.2 x=L.memo t_1.snd.2.1 x)/\t_1.1.n <= (4:Nat) /\ ∀ (u:Nat),True -> ∃ (t:L.Sq L.Want × Int × (Int->Bool) × Int × L.Size),nat_lit 0=A19/\L.all t_1.1.n=t.snd.snd.2.1/\SV.agg [I s.w,I s.h]=SV.agg [I t.snd.snd.2.2.w,I t.snd.snd.2.2.h]/\(t_1.1.n=t.1.n /\ ∀ (i:Nat),let A14:=(t.1.g i);let A8:=(t_1.1.g i);i<t_1.1.n -> [I A8.id,I A8.colour,I A8.grain,SV.sl A4 A8.ol.n fun (i1:Nat)=>[I (A8.ol.g i1).x,I (A8.ol.g i1).y]] = [I A14.id,I A14.colour,I A14.grain,SV.sl A4 A14.ol.n fun (i1:Nat)=>[I (A14.ol.g i1).x,I (A14.ol.g i1).y]])/\t_1.2.1=t.2.1/\(∀ (x:Int),t_1.snd.2.2 x=t.snd.2.1 x)/\(∀ (x:Int),t_1.snd.2.2 x=true->L.memo t_1.snd.2.1 x=L.memo (L.tabF t.1 t.2.1) x)/\(L.okW t.1/\A17 <= t.snd.snd.2.1/\t.snd.snd.2.1 <= L.all t.1.n) /\ ∀ (u:Int->Bool),True->L.roomB t.1 t.2.1 t.snd.snd.2.1 t.snd.snd.2.2=L.fitB w s/\A17=L.fitE w s);True->A1/\A1/\A1/\A1/\A1/\A1/\A1/\A1/\A1 /\ ∃ (t_1:L.Sq L.Want × Int × (Int->L.Sq L.Size) × (Int->Bool)),nat_lit 0=A19/\(t.1.n=t_1.1.n /\ ∀ (i:Nat),let A15:=(t.1.g i);let A9:=(t_1.1.g i);i<t.1.n -> [I A15.id,I A15.colour,I A15.grain,SV.sl A4 A15.ol.n fun (i1:Nat)=>[I (A15.ol.g i1).x,I (A15.ol.g i1).y]] = [I A9.id,I A9.colour,I A9.grain,SV.sl A4 A9.ol.n fun (i1:Nat)=>[I (A9.ol.g i1).x,I (A9.ol.g i1).y]])/\t.2.1=t_1.2.1/\(∀ (x:Int),false=t_1.snd.2.2 x)/\(∀ (x:Int),false=true->L.memo t.2.2 x=L.memo t_1.snd.2.1 x)/\t_1.1.n <= (4:Nat) /\ ∀ (u:Nat),True -> ∃ (t:L.Sq L.Want × Int × (Int->Bool) × Int × L.Size),nat_lit 0=A19/\L.all t_1.1.n=t.snd.snd.2.1/\SV.agg [I s.w,I s.h]=SV.agg [I t.snd.snd.2.2.w,I t.snd.snd.2.2.h]/\(t_1.1.n=t.1.n /\ ∀ (i:Nat),let A16:=(t.1.g i);let A10:=(t_1.1.g i);i<t_1.1.n -> [I A10.id,I A10.colour,I A10.grain,SV.sl A4 A10.ol.n fun (i1:Nat)=>[I (A10.ol.g i1).x,I (A10.ol.g i1).y]] = [I A16.id,I A16.colour,I A16.grain,SV.sl A4 A16.ol.n fun (i1:Nat)=>[I (A16.ol.g i1).x,I (A16.ol.g i1).y]])/\t_1.2.1=t.2.1/\(∀ (x:Int),t_1.snd.2.2 x=t.snd.2.1 x)/\(∀ (x:Int),t_1.snd.2.2 x=true->L.memo t_1.snd.2.1 x=L.memo (L.tabF t.1 t.2.1) x)/\(L.okW t.1/\A17 <= t.snd.snd.2.1/\t.snd.snd.2.1 <= L.all t.1.n) /\ ∀ (u:Int->Bool),True->L.roomB t.1 t.2.1 t.snd.snd.2.1 t.snd.snd.2.2=L.fitB w s/\A17=L.fitE w s)) (by kernel_rfl) (by
 conv=>zeta
 have hp:L.preW w:=hp
 refine ⟨⟨fun _ _ _ _=>rfl,fun _ _=>rfl,hp.2.1,hp.2.2,by decide⟩,fun h=>?_,fun h=>?_⟩
 ·have h:¬ L.fitE w s=0:=of_decide_eq_false (notT h)
  exact ⟨by unfold L.fitB;rw [decide_eq_false h];rfl,rfl⟩
 ·have h:L.fitE w s=0:=of_decide_eq_true (notF h)
  obtain ⟨-,-,-,h7,-⟩:=badE_0 h
  have ok:=okW_of hp h7
  have a15:=all_bd ok.1
  have hb:L.roomB w s.grain (L.all w.n) ⟨s.w,s.h⟩=L.fitB w s:=by unfold L.fitB;rw [decide_eq_true h];rfl
  refine ⟨(w,s.grain,L.tabF w s.grain),⟨rfl,fun _ _=>rfl⟩,rfl,trivial,fun _ _=>?_⟩
  repeat' apply And.intro
  all_goals exact ⟨(w,s.grain,L.tabF w s.grain,fun _=>false),rfl,⟨rfl,fun _ _=>rfl⟩,rfl,fun _=>rfl,fun _ _=>rfl,ok.1,fun _ _=>⟨(w,s.grain,(fun _=>false),L.all w.n,⟨s.w,s.h⟩),rfl,rfl,rfl,⟨rfl,fun _ _=>rfl⟩,rfl,fun _=>rfl,fun _ _=>rfl,⟨ok,a15.1,Int.le_refl _⟩,fun u _=>⟨hb,h.symm⟩⟩⟩)
theorem c_FitsIn_ok:SpecOk Tryz.prog 16 c_FitsIn_S:=fnX Tryz.func16 (c:=bodyOf Tryz.f16) (by kernel_rfl) mixed (fun args p r hs hp=>by
 unfold c_FitsIn_s at hs
 split at hs
 ·cases hs;exact ⟨_,_,c_FitsIn_vc _ _ hp.2,(.p (Want_ext hp.1) (.same _ .nil)),⟨show SpecsL Tryz.prog _ from (SpecsL.cons c_bad_ok c_bad_en SpecsL.nil),rfl,⟨show ItersL Tryz.prog _ from ItersL.nil,⟨TrsOk.no1 (fun _=>rfl),⟨show MksL Tryz.prog _ from (MksL.cons c_shapesOf_mok c_shapesOf_en (MksL.cons c_full_mok c_full_en (MksL.cons c_room_mok c_room_en MksL.nil))),FamsOk.none (fun _=>rfl)⟩⟩⟩⟩⟩
 ·cases hs)
theorem c_FitsIn_en:Enters Tryz.prog 16:=fun args w=>by kernel_rfl
end Go.Proofs.YtpgaejicfbpcmaaGreat
namespace Go.Proofs.YtpgaejicfbpcmaaGreat
open Go.SE Go.RowKit
set_option maxRecDepth 100000
set_option maxHeartbeats 4000000
set_option linter.unusedVariables false
attribute [local irreducible] vc
structure L.Area where
 at_:L.Pt
 size:L.Size
structure L.Score where
 sheet:Int
 kind:Int
 want:Int
 pts:L.Sq L.Pt
structure L.Placed where
 want:Int
 sheet:Int
 turn:Int
 at_:L.Pt
def L.divA (r:L.Area) (up:Bool) (by_:Int):L.Area:=bif up then ⟨r.at_,⟨by_,r.size.h⟩⟩ else ⟨r.at_,⟨r.size.w,by_⟩⟩
def L.divB (r:L.Area) (up:Bool) (by_:Int):L.Area:=bif up then ⟨⟨r.at_.x+by_,r.at_.y⟩,⟨r.size.w - by_,r.size.h⟩⟩ else ⟨⟨r.at_.x,r.at_.y+by_⟩,⟨r.size.w,r.size.h - by_⟩⟩
def L.spA (r:L.Area) (up:Bool) (by_:Int):L.Pt:=bif up then ⟨r.at_.x+by_,r.at_.y⟩ else ⟨r.at_.x,r.at_.y+by_⟩
def L.spB (r:L.Area) (up:Bool) (by_:Int):L.Pt:=bif up then ⟨r.at_.x+by_,r.at_.y+r.size.h⟩ else ⟨r.at_.x+r.size.w,r.at_.y+by_⟩
def L.two2 (a b:L.Pt):L.Sq L.Pt:=⟨2,fun i=>bif decide (i=0) then a else b⟩
def L.splt (r:L.Area) (id:Int) (up:Bool) (by_:Int):L.Score:=⟨id,1,0,L.two2 (L.spA r up by_) (L.spB r up by_)⟩
def L.okA (r:L.Area):Prop:=0 <= r.at_.x/\0 <= r.at_.y/\0 <= r.size.w/\0 <= r.size.h/\r.at_.x+r.size.w <= 4096/\r.at_.y+r.size.h <= 4096
def L.dvW (r:L.Area):Nat:=(r.size.w - 1).toNat
def L.dvN (r:L.Area):Nat:=L.dvW r+(r.size.h - 1).toNat
def L.dvU (r:L.Area) (k:Nat):Bool:=decide (k<L.dvW r)
def L.dvI (r:L.Area) (k:Nat):Int:=bif L.dvU r k then (k:Int)+1 else ((k - L.dvW r:Nat):Int)+1
structure L.LS where
 pl:Nat->L.Placed
 sc:List L.Score
def L.sqC (l:List L.Score):L.Sq L.Score:=⟨l.length,fun i=>l.getD i ⟨0,0,0,⟨0,fun _=>⟨0,0⟩⟩⟩⟩
def L.scC (x:L.Score):List SV:=[.int .i64 x.sheet,.int .i64 x.kind,.int .i64 x.want,.sl 2 x.pts.n fun i=>[.int .i64 (x.pts.g i).x,.int .i64 (x.pts.g i).y]]
def L.fit0 (w:L.Sq L.Want) (gr:Int) (i:Nat) (r:L.Area) (t:Int):Bool:=bif (bif L.alw (w.g i).grain gr t then decide ((L.box (w.g i).ol t).w <= r.size.w) else false) then decide ((L.box (w.g i).ol t).h <= r.size.h) else false
def L.turnOf (w:L.Sq L.Want) (gr:Int) (i:Nat) (r:L.Area):Int:=bif L.fit0 w gr i r 0 then 0 else 1
def L.setP (P:Nat->L.Placed) (i:Nat) (x:L.Placed):Nat->L.Placed:=fun j=>if j=i then x else P j
def L.oneP (w:L.Sq L.Want) (sh:L.Sheet) (i:Nat) (r:L.Area) (P:Nat->L.Placed):Nat->L.Placed:=L.setP P i ⟨(w.g i).id,sh.id,L.turnOf w sh.grain i r,r.at_⟩
def L.snocC (S:List L.Score) (x:L.Score):List L.Score:=S ++ [x]
def L.oneB (w:L.Sq L.Want) (sh:L.Sheet) (i:Nat) (r:L.Area):L.Size:=L.box (w.g i).ol (L.turnOf w sh.grain i r)
def L.oneS1 (w:L.Sq L.Want) (sh:L.Sheet) (i:Nat) (r:L.Area) (S:List L.Score):List L.Score:=bif decide ((L.oneB w sh i r).w<r.size.w) then L.snocC S (L.splt r sh.id true (L.oneB w sh i r).w) else S
def L.oneR1 (w:L.Sq L.Want) (sh:L.Sheet) (i:Nat) (r:L.Area):L.Area:=bif decide ((L.oneB w sh i r).w<r.size.w) then L.divA r true (L.oneB w sh i r).w else r
def L.oneQ (w:L.Sq L.Want) (sh:L.Sheet) (i:Nat) (r:L.Area) (S:List L.Score):List L.Score:=bif decide ((L.oneB w sh i r).h<(L.oneR1 w sh i r).size.h) then L.snocC (L.oneS1 w sh i r S) (L.splt (L.oneR1 w sh i r) sh.id false (L.oneB w sh i r).h) else L.oneS1 w sh i r S
theorem sqC_same {X Y:List L.Score} (h:X=Y):(L.sqC X).n=(L.sqC Y).n /\ ∀ i,i<(L.sqC X).n->L.scC ((L.sqC X).g i)=L.scC ((L.sqC Y).g i):=by rw [h];exact ⟨rfl,fun _ _=>rfl⟩
theorem snocC_len (S:List L.Score) (x:L.Score):(L.snocC S x).length=S.length+1:=by unfold L.snocC;simp
theorem sqC_app {S Y:List L.Score} {x:L.Score} (h:L.snocC S x=Y) {r:Nat->List SV} (hr:r 0=L.scC x):(L.sqC S).n+1=(L.sqC Y).n /\ ∀ i,i<(L.sqC S).n+1->appGet (L.sqC S).n (fun k=>L.scC ((L.sqC S).g k)) r i=L.scC ((L.sqC Y).g i):=by
 subst h
 refine ⟨(snocC_len S x).symm,fun i hi=>?_⟩
 unfold appGet
 have hi:i<S.length+1:=hi
 by_cases e:i<(L.sqC S).n
 ·rw [if_pos e]
  have e':i<S.length:=e
  simp [L.sqC,L.snocC,List.getD_eq_getElem?_getD,List.getElem?_append_left e']
 ·rw [if_neg e]
  have e':¬ i<S.length:=e
  obtain rfl:i=S.length:=by omega
  rw [show S.length - (L.sqC S).n=0 from Nat.sub_self _,hr]
  simp [L.sqC,L.snocC,List.getD_eq_getElem?_getD]
theorem oneB_bd (w:L.Sq L.Want) (sh:L.Sheet) (i:Nat) (r:L.Area):0 <= (L.oneB w sh i r).w/\(L.oneB w sh i r).w <= 4096/\0 <= (L.oneB w sh i r).h/\(L.oneB w sh i r).h <= 4096:=by
 have hb:=box_bd (w.g i).ol
 have h3:(L.boxL (w.g i).ol).x <= (L.boxH (w.g i).ol).x/\(L.boxL (w.g i).ol).y <= (L.boxH (w.g i).ol).y:=by
  unfold L.boxL L.boxH
  cases hv:L.validOutline (w.g i).ol with
  | false=>simp
  | true =>
    obtain ⟨n3,_⟩:=validOutline_of hv
    have h1:=lowTo_le (l:=(w.g i).ol) (w.g i).ol.n 0 (by omega)
    have h2:=highTo_ge (l:=(w.g i).ol) (w.g i).ol.n 0 (by omega)
    simp only [cond_true];omega
 unfold L.oneB L.box
 cases decide (L.turnOf w sh.grain i r=1) <;> simp only [cond_true,cond_false] <;> omega
theorem okA_one (w:L.Sq L.Want) (sh:L.Sheet) (i:Nat) {r:L.Area} (hA:L.okA r):L.okA (L.oneR1 w sh i r):=by
 obtain ⟨b1,b2,b3,b4⟩:=oneB_bd w sh i r
 obtain ⟨h1,h2,h3,h4,h5,h6⟩:=hA
 unfold L.oneR1
 by_cases e:(L.oneB w sh i r).w<r.size.w
 ·rw [decide_eq_true e]
  refine ⟨h1,h2,b1,h4,?_,h6⟩
  show r.at_.x+(L.oneB w sh i r).w <= 4096
  omega
 ·rw [decide_eq_false e]
  exact ⟨h1,h2,h3,h4,h5,h6⟩
theorem oneS1_len (w:L.Sq L.Want) (sh:L.Sheet) (i:Nat) (r:L.Area) (S:List L.Score):(L.oneS1 w sh i r S).length <= S.length+1:=by
 unfold L.oneS1
 cases decide ((L.oneB w sh i r).w<r.size.w) <;> simp [snocC_len]
theorem InK64 {n:Int} (h : -9223372036854775808 <= n:=by omega) (k:n <= 9223372036854775807:=by omega):InK .i64 n:=⟨h,k⟩
def c_divided_p (r:L.Area) (up:Bool) (b:Int):Prop:=L.okA r/\0 <= b/\b <= 4096
def c_divided_r (r:L.Area) (up:Bool) (b:Int):SV:=.tup [(.agg [.int .i64 ((L.divA r up b).at_.x),.int .i64 ((L.divA r up b).at_.y),.int .i64 ((L.divA r up b).size.w),.int .i64 ((L.divA r up b).size.h)]),(.agg [.int .i64 ((L.divB r up b).at_.x),.int .i64 ((L.divB r up b).at_.y),.int .i64 ((L.divB r up b).size.w),.int .i64 ((L.divB r up b).size.h)])]
def c_divided_s:List EV->Option (Prop × SV)
 | [.p (.agg [.int .i64 r_at__x,.int .i64 r_at__y,.int .i64 r_size_w,.int .i64 r_size_h]),.p (.bool up),.p (.int .i64 b)]=>some (c_divided_p (⟨(⟨r_at__x,r_at__y⟩:L.Pt),(⟨r_size_w,r_size_h⟩:L.Size)⟩:L.Area) up b,c_divided_r (⟨(⟨r_at__x,r_at__y⟩:L.Pt),(⟨r_size_w,r_size_h⟩:L.Size)⟩:L.Area) up b)
 | _=>none
abbrev c_divided_S:SE.Spec:=(specO c_divided_s)
def c_divided_C:Cfg:={ cC with muts:=[6,7,8,9],anys:=[1009] }
theorem c_divided_vc (r:L.Area) (up:Bool) (b:Int) (hp:c_divided_p r up b):vc Tryz.prog (c_divided_C) (bodyOf Tryz.f164) (st0 Tryz.f164 [.p (.agg [.int .i64 r.at_.x,.int .i64 r.at_.y,.int .i64 r.size.w,.int .i64 r.size.h]),.p (.bool up),.p (.int .i64 b)]) (retFn Tryz.prog Tryz.f164 (c_divided_r r up b)) :=
 @Eq.mpr _ (let I:=SV.int .i64;let A8:=[I r.at_.x,I r.at_.y,I r.size.w,I b];let A7:=[I r.at_.x,I r.at_.y,I b,I r.size.h];let A6:=(L.divA r up b);let A5:=(L.divB r up b);let A4:=[I r.at_.x,I (r.at_.y+b),I r.size.w,I (r.size.h - b)];let A3:=[I (r.at_.x+b),I r.at_.y,I (r.size.w - b),I r.size.h];let A2:=[I A5.at_.x,I A5.at_.y,I A5.size.w,I A5.size.h];let A1:=[I A6.at_.x,I A6.at_.y,I A6.size.w,I A6.size.h];(up=true->InK .i64 (r.at_.x+b)/\InK .i64 (r.size.w - b)/\(SV.agg A7=SV.agg A1/\SV.agg A3=SV.agg A2)/\SV.agg A7=SV.agg A1/\SV.agg A3=SV.agg A2)/\(up=false->InK .i64 (r.at_.y+b)/\InK .i64 (r.size.h - b)/\(SV.agg A8=SV.agg A1/\SV.agg A4=SV.agg A2)/\SV.agg A8=SV.agg A1/\SV.agg A4=SV.agg A2)) (by kernel_rfl) (by
 conv=>zeta
 obtain ⟨⟨h1,h2,h3,h4,h5,h6⟩,hb,hb'⟩:=(show L.okA r/\0 <= b/\b <= 4096 from hp)
 exact ⟨fun h=>by subst h;exact ⟨InK64,InK64,⟨rfl,rfl⟩,rfl,rfl⟩,fun h=>by subst h;exact ⟨InK64,InK64,⟨rfl,rfl⟩,rfl,rfl⟩⟩)
theorem c_divided_ok:SpecOk Tryz.prog 164 c_divided_S:=fnX Tryz.func164 (c:=bodyOf Tryz.f164) (by kernel_rfl) mixed (fun args p r hs hp=>by
 unfold c_divided_s at hs
 split at hs
 ·cases hs;exact ⟨_,_,c_divided_vc _ _ _ hp,(.same _ (.same _ (.same _ .nil))),⟨show SpecsL Tryz.prog _ from SpecsL.nil,rfl,⟨show ItersL Tryz.prog _ from ItersL.nil,(TrsOk.none (fun _=>rfl))⟩⟩⟩
 ·cases hs)
theorem c_divided_en:Enters Tryz.prog 164:=fun args w=>by kernel_rfl
def c_divisions_p (r:L.Area):Prop:=True
def c_divisions_r (r:L.Area):SV:=.clo 190 [.ref [.int .i64 r.at_.x,.int .i64 r.at_.y,.int .i64 r.size.w,.int .i64 r.size.h] 0]
def c_divisions_s:List EV->Option (Prop × SV)
 | [.p (.agg [.int .i64 r_at__x,.int .i64 r_at__y,.int .i64 r_size_w,.int .i64 r_size_h])]=>some (c_divisions_p (⟨(⟨r_at__x,r_at__y⟩:L.Pt),(⟨r_size_w,r_size_h⟩:L.Size)⟩:L.Area),c_divisions_r (⟨(⟨r_at__x,r_at__y⟩:L.Pt),(⟨r_size_w,r_size_h⟩:L.Size)⟩:L.Area))
 | _=>none
abbrev c_divisions_S:SE.Spec:=(specO c_divisions_s)
def c_divisions_C:Cfg:={ muts:=[],frz:=lookN [],specs:=lookS [],loops:=lookL [],iters:=lookI [],rfs:=lookR [],nils:=lookM [] }
theorem c_divisions_vc (r:L.Area) (hp:c_divisions_p r):vc Tryz.prog (c_divisions_C) (bodyOf Tryz.f163) (st0 Tryz.f163 [.p (.agg [.int .i64 r.at_.x,.int .i64 r.at_.y,.int .i64 r.size.w,.int .i64 r.size.h])]) (retFn Tryz.prog Tryz.f163 (c_divisions_r r)) :=
 @Eq.mpr _ (let I:=SV.int .i64;let A1:=[SV.ref [I r.at_.x,I r.at_.y,I r.size.w,I r.size.h] (nat_lit 0)];SV.clo (nat_lit 190) A1=SV.clo (nat_lit 190) A1) (by kernel_rfl) (by
 conv=>zeta
 try rfl)
theorem c_divisions_ok:SpecOk Tryz.prog 163 c_divisions_S:=fnX Tryz.func163 (c:=bodyOf Tryz.f163) (by kernel_rfl) mixed (fun args p r hs hp=>by
 unfold c_divisions_s at hs
 split at hs
 ·cases hs;exact ⟨_,_,c_divisions_vc _ hp,(.same _ .nil),⟨show SpecsL Tryz.prog _ from SpecsL.nil,rfl,⟨show ItersL Tryz.prog _ from ItersL.nil,(TrsOk.none (fun _=>rfl))⟩⟩⟩
 ·cases hs)
theorem c_divisions_en:Enters Tryz.prog 163:=fun args w=>by kernel_rfl
def c_divs1_p (r:L.Area):Prop:=L.okA r
def c_divs1_n (r:L.Area):Nat:=L.dvN r
def c_divs1_i (r:L.Area):Nat->List SV:=fun k=>[.bool (L.dvU r k),.int .i64 (L.dvI r k)]
def c_divs1_ic:List SV->Option (Prop × Nat × (Nat->List SV))
 | [.ref [.int .i64 r_at__x,.int .i64 r_at__y,.int .i64 r_size_w,.int .i64 r_size_h] 0]=>some (c_divs1_p (⟨(⟨r_at__x,r_at__y⟩:L.Pt),(⟨r_size_w,r_size_h⟩:L.Size)⟩:L.Area),c_divs1_n (⟨(⟨r_at__x,r_at__y⟩:L.Pt),(⟨r_size_w,r_size_h⟩:L.Size)⟩:L.Area),c_divs1_i (⟨(⟨r_at__x,r_at__y⟩:L.Pt),(⟨r_size_w,r_size_h⟩:L.Size)⟩:L.Area))
 | _=>none
abbrev c_divs1_it:ItSpec:=itOf c_divs1_ic
def c_divs1_C:Cfg:={ muts:=[],frz:=lookN [],specs:=lookS [],loops:=fun _=>none,iters:=lookI [],rfs:=lookR [] }
theorem c_divs1_vc (yl:Nat) (r:L.Area) (hp:c_divs1_p r):vc Tryz.prog { c_divs1_C with loops:=lookL [(1,{ T:=Nat,keep:=[0,1],keepO:=[],chg:=fun i=>[(3,.p (.int .i64 ((i:Int)+1)))],own:=fun _=>[],inv:=fun i=>i <= L.dvW r,mu:=fun i=>L.dvW r - i,yk:=some (fun i=>i) }),(5,{ T:=Nat,keep:=[0,1],keepO:=[],chg:=fun i=>[(4,.p (.int .i64 ((i:Int)+1)))],own:=fun _=>[],inv:=fun i=>L.dvW r+i <= L.dvN r,mu:=fun i=>L.dvN r - i,yk:=some (fun i=>L.dvW r+i) })],yld:=some ⟨yl,c_divs1_n r,c_divs1_i r⟩ } (bodyOf Tryz.f190) (st0 Tryz.f190 (.yield yl :: ([.ref [.int .i64 r.at_.x,.int .i64 r.at_.y,.int .i64 r.size.w,.int .i64 r.size.h] 0]:List SV).map .p)) (retIt Tryz.prog Tryz.f190 (c_divs1_n r)) :=
 @Eq.mpr _ (let I:=SV.int .i64;let A7:=(nat_lit 0);let A3:=(1:Nat);let A4:=(true=true->L.dvN r+A3=L.dvN r\/L.dvN r+A3=L.dvN r+A3);let A2:=[I r.at_.x,I r.at_.y,I r.size.w,I r.size.h];let A1:=(1:Int);(∃ (g:Nat),nat_lit 0=g/\false=false/\A1=(↑g:Int)+A1/\g <= L.dvW r) /\ ∀ (g:Nat),let A6:=(↑g:Int);g <= L.dvW r->(decide (A6+A1<r.size.w)=true->yl=yl/\g<L.dvN r /\ [SV.bool true,I (A6+A1)] = [SV.bool (L.dvU r g),I (L.dvI r g)]/\((false=true->g+A3=L.dvN r\/g+A3=L.dvN r+A3)/\(false=false->InK .i64 (A6+A1+A1) /\ ∃ (g':Nat),g+A3=g'/\false=false/\A6+A1+A1=(↑g':Int)+A1/\yl=yl/\SV.ref A2 A7=SV.ref A2 A7/\g' <= L.dvW r/\L.dvW r - g'<L.dvW r - g))/\A4/\(true=false->InK .i64 (A6+A1+A1) /\ ∃ (g':Nat),L.dvN r+A3=g'/\false=false/\A6+A1+A1=(↑g':Int)+A1/\yl=yl/\False/\g' <= L.dvW r/\L.dvW r - g'<L.dvW r - g))/\(decide (A6+A1<r.size.w)=false->(∃ (g_1:Nat),g=L.dvW r+g_1/\false=false/\A1=(↑g_1:Int)+A1/\L.dvW r+g_1 <= L.dvN r) /\ ∀ (g_1:Nat),let A5:=(↑g_1:Int);L.dvW r+g_1 <= L.dvN r->(decide (A5+A1<r.size.h)=true->yl=yl/\L.dvW r+g_1<L.dvN r /\ [SV.bool false,I (A5+A1)] = [SV.bool (L.dvU r (L.dvW r+g_1)),I (L.dvI r (L.dvW r+g_1))]/\((false=true->L.dvW r+g_1+A3=L.dvN r\/L.dvW r+g_1+A3=L.dvN r+A3)/\(false=false->InK .i64 (A5+A1+A1) /\ ∃ (g':Nat),L.dvW r+g_1+A3=L.dvW r+g'/\false=false/\A5+A1+A1=(↑g':Int)+A1/\yl=yl/\SV.ref A2 A7=SV.ref A2 A7/\L.dvW r+g' <= L.dvN r/\L.dvN r - g'<L.dvN r - g_1))/\A4/\(true=false->InK .i64 (A5+A1+A1) /\ ∃ (g':Nat),L.dvN r+A3=L.dvW r+g'/\false=false/\A5+A1+A1=(↑g':Int)+A1/\yl=yl/\False/\L.dvW r+g' <= L.dvN r/\L.dvN r - g'<L.dvN r - g_1))/\(decide (A5+A1<r.size.h)=false->L.dvW r+g_1=L.dvN r\/L.dvW r+g_1=L.dvN r+A3))) (by kernel_rfl) (by
 conv=>zeta
 obtain ⟨h1,h2,h3,h4,h5,h6⟩:=(show L.okA r from hp)
 have eW:L.dvW r=(r.size.w - 1).toNat:=rfl
 have eN:L.dvN r=(r.size.w - 1).toNat+(r.size.h - 1).toNat:=rfl
 refine ⟨⟨0,rfl,rfl,rfl,Nat.zero_le _⟩,fun k hk=>⟨fun hc=>?_,fun hc=>?_⟩⟩
 ·have hc:(k:Int)+1<r.size.w:=of_decide_eq_true hc
  have hk:k <= L.dvW r:=hk
  have hlt:k<L.dvW r:=by omega
  have eU:L.dvU r k=true:=decide_eq_true hlt
  exact ⟨rfl,by omega,by unfold L.dvI;rw [eU];rfl,⟨(fun h=>by cases h),fun _=>⟨InK64,k+1,rfl,rfl,rfl,rfl,rfl,hlt,by omega⟩⟩,fun _=>.inr rfl,(fun h=>by cases h)⟩
 ·have hc:¬ (k:Int)+1<r.size.w:=of_decide_eq_false hc
  have hk:k <= L.dvW r:=hk
  refine ⟨⟨0,by omega,rfl,rfl,by omega⟩,fun j hj=>⟨fun hc=>?_,fun hc=>?_⟩⟩
  ·have hc:(j:Int)+1<r.size.h:=of_decide_eq_true hc
   have hj:L.dvW r+j <= L.dvN r:=hj
   have eU:L.dvU r (L.dvW r+j)=false:=decide_eq_false (by omega)
   exact ⟨rfl,by omega,by unfold L.dvI;rw [eU,Nat.add_sub_cancel_left];rfl,⟨(fun h=>by cases h),fun _=>⟨InK64,j+1,rfl,rfl,rfl,rfl,rfl,by omega,by omega⟩⟩,fun _=>.inr rfl,(fun h=>by cases h)⟩
  ·have hc:¬ (j:Int)+1<r.size.h:=of_decide_eq_false hc
   have hj:L.dvW r+j <= L.dvN r:=hj
   exact .inl (by omega))
theorem c_divs1_itok:ItOk Tryz.prog 190 c_divs1_it:=iterX Tryz.func190 (c:=bodyOf Tryz.f190) (by kernel_rfl) mixed (fun caps l p n g hs hp=>by
 unfold c_divs1_ic at hs
 split at hs
 ·cases hs;exact ⟨_,_,c_divs1_vc l _ hp,(.cons (Ext.refl _) .nil),rfl,show SpecsL Tryz.prog _ from SpecsL.nil,⟨show ItersL Tryz.prog _ from ItersL.nil,TrsOk.none (fun _=>rfl)⟩⟩
 ·cases hs)
theorem c_divs1_en:Enters Tryz.prog 190:=fun args w=>by kernel_rfl
def c_split_p (r:L.Area) (id:Int) (up:Bool) (b:Int):Prop:=L.okA r/\0 <= b/\b <= 4096
def c_split_r (r:L.Area) (id:Int) (up:Bool) (b:Int):SV:=(.agg [.int .i64 ((L.splt r id up b).sheet),.int .i64 ((L.splt r id up b).kind),.int .i64 ((L.splt r id up b).want),.sl 2 (L.splt r id up b).pts.n (fun i=>[.int .i64 (((L.splt r id up b).pts.g i).x),.int .i64 (((L.splt r id up b).pts.g i).y)])])
def c_split_s:List EV->Option (Prop × SV)
 | [.p (.agg [.int .i64 r_at__x,.int .i64 r_at__y,.int .i64 r_size_w,.int .i64 r_size_h]),.p (.int .i64 id),.p (.bool up),.p (.int .i64 b)]=>some (c_split_p (⟨(⟨r_at__x,r_at__y⟩:L.Pt),(⟨r_size_w,r_size_h⟩:L.Size)⟩:L.Area) id up b,c_split_r (⟨(⟨r_at__x,r_at__y⟩:L.Pt),(⟨r_size_w,r_size_h⟩:L.Size)⟩:L.Area) id up b)
 | _=>none
abbrev c_split_S:SE.Spec:=(specO c_split_s)
def c_split_C:Cfg:={ cC with muts:=[8,9,10] }
theorem c_split_vc (r:L.Area) (id:Int) (up:Bool) (b:Int) (hp:c_split_p r id up b):vc Tryz.prog (c_split_C) (bodyOf Tryz.f165) (st0 Tryz.f165 [.p (.agg [.int .i64 r.at_.x,.int .i64 r.at_.y,.int .i64 r.size.w,.int .i64 r.size.h]),.p (.int .i64 id),.p (.bool up),.p (.int .i64 b)]) (retFn Tryz.prog Tryz.f165 (c_split_r r id up b)) :=
 @Eq.mpr _ (let I:=SV.int .i64;let A3:=(r.at_.y+b);let A2:=(r.at_.x+b);let A1:=(L.splt r id up b);InK .i64 (r.at_.x+r.size.w)/\InK .i64 (r.at_.y+r.size.h)/\(up=true->InK .i64 A2/\id=A1.sheet/\(1:Int)=A1.kind/\(0:Int)=A1.want/\nat_lit 2=A1.pts.n /\ ∀ (i:Nat),i<nat_lit 2->rowsOf [I A2,I r.at_.y,I A2,I (r.at_.y+r.size.h)] (nat_lit 2) i = [I (A1.pts.g i).x,I (A1.pts.g i).y])/\(up=false->InK .i64 A3/\id=A1.sheet/\(1:Int)=A1.kind/\(0:Int)=A1.want/\nat_lit 2=A1.pts.n /\ ∀ (i:Nat),i<nat_lit 2->rowsOf [I r.at_.x,I A3,I (r.at_.x+r.size.w),I A3] (nat_lit 2) i = [I (A1.pts.g i).x,I (A1.pts.g i).y])) (by kernel_rfl) (by
 conv=>zeta
 obtain ⟨⟨h1,h2,h3,h4,h5,h6⟩,hb,hb'⟩:=(show L.okA r/\0 <= b/\b <= 4096 from hp)
 refine ⟨InK64,InK64,fun h=>?_,fun h=>?_⟩ <;> subst h <;> exact ⟨InK64,rfl,rfl,rfl,rfl,fun i hi=>by match i,hi with | 0,_=>rfl | 1,_=>rfl⟩)
theorem c_split_ok:SpecOk Tryz.prog 165 c_split_S:=fnX Tryz.func165 (c:=bodyOf Tryz.f165) (by kernel_rfl) mixed (fun args p r hs hp=>by
 unfold c_split_s at hs
 split at hs
 ·cases hs;exact ⟨_,_,c_split_vc _ _ _ _ hp,(.same _ (.same _ (.same _ (.same _ .nil)))),⟨show SpecsL Tryz.prog _ from SpecsL.nil,rfl,⟨show ItersL Tryz.prog _ from ItersL.nil,(TrsOk.none (fun _=>rfl))⟩⟩⟩
 ·cases hs)
theorem c_split_en:Enters Tryz.prog 165:=fun args w=>by kernel_rfl
abbrev c_one1_tr:Tr:={ T:=(L.Sq L.Want) × (L.Sheet) × (Int->Bool) × (Nat->L.Placed) × (List L.Score) × (Nat) × (L.Area) × (Int),U:=Nat,args:=fun t=>(fun w sh dom P S i r t=>[.p (.int .i64 t),.p (.ref [.int .i64 ((w.g i).id),.int .i64 ((w.g i).colour),.int .i64 ((w.g i).grain),.sl 2 (w.g i).ol.n (fun i1=>[.int .i64 (((w.g i).ol.g i1).x),.int .i64 (((w.g i).ol.g i1).y)])] 0),.loc 1006 0,.loc 1007 0]) t.1 t.2.1 t.2.2.1 t.2.2.2.1 t.2.2.2.2.1 t.2.2.2.2.2.1 t.2.2.2.2.2.2.1 t.2.2.2.2.2.2.2,own:=fun t=>(fun w sh dom P S i r t=>[(1000,.blk 162 [.p ((.sl 4 w.n (fun i=>[.int .i64 ((w.g i).id),.int .i64 ((w.g i).colour),.int .i64 ((w.g i).grain),.sl 2 (w.g i).ol.n (fun i1=>[.int .i64 (((w.g i).ol.g i1).x),.int .i64 (((w.g i).ol.g i1).y)])]))),.p (.int .i64 sh.grain),.mapv 1001]),(1001,.mq 3 27 dom (L.memo (L.tabF w sh.grain))),(1002,.blk 117 [.loc 1000 0,.p (.int .i64 sh.id),.p (.int .i64 sh.colour),.p (.int .i64 sh.w),.p (.int .i64 sh.h),.p (.int .i64 sh.grain),.row 1003,.row 1004]),(1003,.row 57 5 w.n (fun k=>[.int .i64 ((P k).want),.int .i64 ((P k).sheet),.int .i64 ((P k).turn),.int .i64 ((P k).at_.x),.int .i64 ((P k).at_.y)])),(1004,.row 125 4 (L.sqC (S)).n (fun k=>L.scC ((L.sqC (S)).g k))),(1006,.blk 114 [.loc 1002 0]),(1007,.blk 174 [.p (.int .i64 r.at_.x),.p (.int .i64 r.at_.y),.p (.int .i64 r.size.w),.p (.int .i64 r.size.h)])]) t.1 t.2.1 t.2.2.1 t.2.2.2.1 t.2.2.2.2.1 t.2.2.2.2.2.1 t.2.2.2.2.2.2.1 t.2.2.2.2.2.2.2,pre:=fun t=>(fun w sh dom P S i r t=>(w.g i).ol.n <= 1000000) t.1 t.2.1 t.2.2.1 t.2.2.2.1 t.2.2.2.2.1 t.2.2.2.2.2.1 t.2.2.2.2.2.2.1 t.2.2.2.2.2.2.2,post:=fun t u=>(fun w sh dom P S i r t=>fun u=>True) t.1 t.2.1 t.2.2.1 t.2.2.2.1 t.2.2.2.2.1 t.2.2.2.2.2.1 t.2.2.2.2.2.2.1 t.2.2.2.2.2.2.2 u,own':=fun t u=>(fun w sh dom P S i r t=>fun u=>[(1000,.blk 162 [.p ((.sl 4 w.n (fun i=>[.int .i64 ((w.g i).id),.int .i64 ((w.g i).colour),.int .i64 ((w.g i).grain),.sl 2 (w.g i).ol.n (fun i1=>[.int .i64 (((w.g i).ol.g i1).x),.int .i64 (((w.g i).ol.g i1).y)])]))),.p (.int .i64 sh.grain),.mapv 1001]),(1001,.mq 3 27 dom (L.memo (L.tabF w sh.grain))),(1002,.blk 117 [.loc 1000 0,.p (.int .i64 sh.id),.p (.int .i64 sh.colour),.p (.int .i64 sh.w),.p (.int .i64 sh.h),.p (.int .i64 sh.grain),.row 1003,.row 1004]),(1003,.row 57 5 w.n (fun k=>[.int .i64 ((P k).want),.int .i64 ((P k).sheet),.int .i64 ((P k).turn),.int .i64 ((P k).at_.x),.int .i64 ((P k).at_.y)])),(1004,.row 125 4 (L.sqC (S)).n (fun k=>L.scC ((L.sqC (S)).g k))),(1006,.blk 114 [.loc 1002 0]),(1007,.blk 174 [.p (.int .i64 r.at_.x),.p (.int .i64 r.at_.y),.p (.int .i64 r.size.w),.p (.int .i64 r.size.h)])]) t.1 t.2.1 t.2.2.1 t.2.2.2.1 t.2.2.2.2.1 t.2.2.2.2.2.1 t.2.2.2.2.2.2.1 t.2.2.2.2.2.2.2 u,res:=fun t u=>(fun w sh dom P S i r t=>fun u=>.p (.bool (L.fit0 w sh.grain i r t))) t.1 t.2.1 t.2.2.1 t.2.2.2.1 t.2.2.2.2.1 t.2.2.2.2.2.1 t.2.2.2.2.2.2.1 t.2.2.2.2.2.2.2 u }
theorem c_one1_vc (w:L.Sq L.Want) (sh:L.Sheet) (dom:Int->Bool) (P:Nat->L.Placed) (S:List L.Score) (i:Nat) (r:L.Area) (t:Int) (hp:c_one1_tr.pre (w,sh,dom,P,S,i,r,t)):vc Tryz.prog ({ cC with specs:=lookS [(77,c_boxOf_S),(76,c_allowed_S)] }) (bodyOf Tryz.f189) (stTr Tryz.f189 (c_one1_tr.args (w,sh,dom,P,S,i,r,t)) (c_one1_tr.own (w,sh,dom,P,S,i,r,t))) (retTr Tryz.prog Tryz.f189 c_one1_tr (w,sh,dom,P,S,i,r,t)) :=
 @Eq.mpr _ (let I:=SV.int .i64;let A5:=(L.sqC S);let A3:=(L.box (L.Sq.mk (w.g i).ol.n fun (i_1:Nat)=>(w.g i).ol.g i_1) t);((∀ (i_1:Nat),let A4:=((w.g i).ol.g i_1);i_1<(w.g i).ol.n -> [I A4.x,I A4.y] = [I A4.x,I A4.y])/\(w.g i).ol.n <= (1000000:Nat))/\True /\ ∃ (u:Nat),(bif bif L.alw (w.g i).grain sh.grain t then decide (A3.w <= r.size.w) else false then decide (A3.h <= r.size.h) else false)=L.fit0 w sh.grain i r t/\(w.n=w.n /\ ∀ (i:Nat),let A1:=[I (w.g i).id,I (w.g i).colour,I (w.g i).grain,SV.sl (2:Nat) (w.g i).ol.n fun (i1:Nat)=>[I ((w.g i).ol.g i1).x,I ((w.g i).ol.g i1).y]];i<w.n->A1=A1)/\sh.grain=sh.grain/\(∀ (x:Int),dom x=dom x)/\(∀ (x:Int),dom x=true->L.memo (L.tabF w sh.grain) x=L.memo (L.tabF w sh.grain) x)/\nat_lit 0=(0:Nat)/\sh.id=sh.id/\sh.colour=sh.colour/\sh.w=sh.w/\sh.h=sh.h/\sh.grain=sh.grain/\(w.n=w.n /\ ∀ (i:Nat),let A2:=[I (P i).want,I (P i).sheet,I (P i).turn,I (P i).at_.x,I (P i).at_.y];i<w.n->A2=A2)/\(A5.n=A5.n /\ ∀ (i:Nat),i<A5.n->L.scC (A5.g i)=L.scC (A5.g i))/\nat_lit 0=(0:Nat)/\r.at_.x=r.at_.x/\r.at_.y=r.at_.y/\r.size.w=r.size.w/\r.size.h=r.size.h/\True) (by kernel_rfl) (by
 conv=>zeta
 have ho:(w.g i).ol.n <= 1000000:=hp
 exact ⟨⟨fun _ _=>rfl,ho⟩,trivial,(0:Nat),rfl,⟨rfl,fun _ _=>rfl⟩,rfl,fun _=>rfl,fun _ _=>rfl,rfl,rfl,rfl,rfl,rfl,rfl,⟨rfl,fun _ _=>rfl⟩,⟨rfl,fun _ _=>rfl⟩,rfl,rfl,rfl,rfl,rfl,trivial⟩)
theorem c_one1_en:Enters Tryz.prog 189:=fun args w=>by kernel_rfl
theorem c_one1_tok:TrOk Tryz.prog 189 c_one1_tr:=tr_ok (ks:=[1000,1001,1002,1003,1004,1006,1007]) (n:=4) Tryz.func189 (c:=bodyOf Tryz.f189) (by kernel_rfl) mixed ⟨fun t=>rfl,fun t=>rfl,fun t u=>rfl,fun t u=>rfl,fun t u=>rfl,by kernel_rfl⟩ (fun ⟨w,sh,dom,P,S,i,r,t⟩ hp=>⟨_,c_one1_vc w sh dom P S i r t hp,⟨show SpecsL Tryz.prog _ from (SpecsL.cons c_boxOf_ok c_boxOf_en (SpecsL.cons c_allowed_ok c_allowed_en SpecsL.nil)),rfl,⟨show ItersL Tryz.prog _ from ItersL.nil,(TrsOk.none (fun _=>rfl))⟩⟩⟩)
abbrev c_one_mk:Mk:={ T:=(L.Sq L.Want) × (L.Sheet) × (Int->Bool) × (Nat->L.Placed) × (List L.Score) × (Nat) × (L.Area),U:=Nat,args:=fun t=>(fun w sh dom P S i r=>[.loc 1002 0,.p (.int .i64 (i:Int)),.p ((.agg [.int .i64 r.at_.x,.int .i64 r.at_.y,.int .i64 r.size.w,.int .i64 r.size.h]))]) t.1 t.2.1 t.2.2.1 t.2.2.2.1 t.2.2.2.2.1 t.2.2.2.2.2.1 t.2.2.2.2.2.2,lkeys:=[1000,1001,1002,1003,1004],keys:=[],lent:=fun t=>(fun w sh dom P S i r=>[(1000,.blk 162 [.p ((.sl 4 w.n (fun i=>[.int .i64 ((w.g i).id),.int .i64 ((w.g i).colour),.int .i64 ((w.g i).grain),.sl 2 (w.g i).ol.n (fun i1=>[.int .i64 (((w.g i).ol.g i1).x),.int .i64 (((w.g i).ol.g i1).y)])]))),.p (.int .i64 sh.grain),.mapv 1001]),(1001,.mq 3 27 dom (L.memo (L.tabF w sh.grain))),(1002,.blk 117 [.loc 1000 0,.p (.int .i64 sh.id),.p (.int .i64 sh.colour),.p (.int .i64 sh.w),.p (.int .i64 sh.h),.p (.int .i64 sh.grain),.row 1003,.row 1004]),(1003,.row 57 5 w.n (fun k=>[.int .i64 ((P k).want),.int .i64 ((P k).sheet),.int .i64 ((P k).turn),.int .i64 ((P k).at_.x),.int .i64 ((P k).at_.y)])),(1004,.row 125 4 (L.sqC (S)).n (fun k=>L.scC ((L.sqC (S)).g k)))]) t.1 t.2.1 t.2.2.1 t.2.2.2.1 t.2.2.2.2.1 t.2.2.2.2.2.1 t.2.2.2.2.2.2,pre:=fun t=>(fun w sh dom P S i r=>i<w.n/\w.n <= 4/\(w.g i).ol.n <= 1000000/\L.okA r/\(L.sqC S).n <= 1000) t.1 t.2.1 t.2.2.1 t.2.2.2.1 t.2.2.2.2.1 t.2.2.2.2.2.1 t.2.2.2.2.2.2,post:=fun t u=>(fun w sh dom P S i r=>fun uu=>True) t.1 t.2.1 t.2.2.1 t.2.2.2.1 t.2.2.2.2.1 t.2.2.2.2.2.1 t.2.2.2.2.2.2 u,lent':=fun t u=>(fun w sh dom P S i r=>fun uu=>[(1000,.blk 162 [.p ((.sl 4 w.n (fun i=>[.int .i64 ((w.g i).id),.int .i64 ((w.g i).colour),.int .i64 ((w.g i).grain),.sl 2 (w.g i).ol.n (fun i1=>[.int .i64 (((w.g i).ol.g i1).x),.int .i64 (((w.g i).ol.g i1).y)])]))),.p (.int .i64 sh.grain),.mapv 1001]),(1001,.mq 3 27 dom (L.memo (L.tabF w sh.grain))),(1002,.blk 117 [.loc 1000 0,.p (.int .i64 sh.id),.p (.int .i64 sh.colour),.p (.int .i64 sh.w),.p (.int .i64 sh.h),.p (.int .i64 sh.grain),.row 1003,.row 1004]),(1003,.row 57 5 w.n (fun k=>[.int .i64 (((L.oneP w sh i r P) k).want),.int .i64 (((L.oneP w sh i r P) k).sheet),.int .i64 (((L.oneP w sh i r P) k).turn),.int .i64 (((L.oneP w sh i r P) k).at_.x),.int .i64 (((L.oneP w sh i r P) k).at_.y)])),(1004,.row 125 4 (L.sqC (L.oneQ w sh i r S)).n (fun k=>L.scC ((L.sqC (L.oneQ w sh i r S)).g k)))]) t.1 t.2.1 t.2.2.1 t.2.2.2.1 t.2.2.2.2.1 t.2.2.2.2.2.1 t.2.2.2.2.2.2 u,own:=fun t u=>(fun w sh dom P S i r=>fun uu=>[]) t.1 t.2.1 t.2.2.1 t.2.2.2.1 t.2.2.2.2.1 t.2.2.2.2.2.1 t.2.2.2.2.2.2 u,res:=fun t u=>(fun w sh dom P S i r=>fun uu=>.p (.tup [])) t.1 t.2.1 t.2.2.1 t.2.2.2.1 t.2.2.2.2.1 t.2.2.2.2.2.1 t.2.2.2.2.2.2 u,mv:=some (1004,80) }
theorem c_one_vc (w:L.Sq L.Want) (sh:L.Sheet) (dom:Int->Bool) (P:Nat->L.Placed) (S:List L.Score) (i:Nat) (r:L.Area) (hp:c_one_mk.pre (w,sh,dom,P,S,i,r)):vc Tryz.prog ({ cC with muts:=[3,5],frz:=lookN [(3,[6])],specs:=lookS [(77,c_boxOf_S),(165,c_split_S),(164,c_divided_S)],trs:=lookT [(189,c_one1_tr)],ren:=fun k=>if k=1006 then 3 else if k=1007 then 5 else if k=1004 then 80 else k,joins:=lookL [(6,{ T:=Nat,keep:=[1,3,5,6],keepO:=[3,5,80,1000,1001,1002,1003],chg:=fun _=>[(7,.p (.int .i64 (L.turnOf w sh.grain i r)))],own:=fun _=>[],inv:=fun _=>True,mu:=fun _=>0 }),(8,{ T:=Nat,keep:=[3,5,9],keepO:=[3,5,80,1000,1001,1002],chg:=fun _=>[],own:=fun _=>[(9,.blk 43 [.p (.int .i64 (L.oneB w sh i r).w),.p (.int .i64 (L.oneB w sh i r).h)]),(1003,.row 57 5 w.n (fun k=>[.int .i64 (((L.oneP w sh i r P) k).want),.int .i64 (((L.oneP w sh i r P) k).sheet),.int .i64 (((L.oneP w sh i r P) k).turn),.int .i64 (((L.oneP w sh i r P) k).at_.x),.int .i64 (((L.oneP w sh i r P) k).at_.y)]))],inv:=fun _=>True,mu:=fun _=>0 }),(10,{ T:=Nat,keep:=[3,5,9],keepO:=[3,5,9,1000,1001,1002,1003],chg:=fun _=>[],own:=fun _=>[(80,.row 125 4 (L.sqC (L.snocC S (L.splt r sh.id true (L.oneB w sh i r).w))).n (fun k=>L.scC ((L.sqC (L.snocC S (L.splt r sh.id true (L.oneB w sh i r).w))).g k)))],inv:=fun _=>True,mu:=fun _=>0 }),(11,{ T:=Nat,keep:=[3,5,9],keepO:=[3,9,1000,1001,1002,1003],chg:=fun _=>[],own:=fun _=>[(80,.row 125 4 (L.sqC (L.oneS1 w sh i r S)).n (fun k=>L.scC ((L.sqC (L.oneS1 w sh i r S)).g k))),(5,.blk 174 [.p (.int .i64 (L.oneR1 w sh i r).at_.x),.p (.int .i64 (L.oneR1 w sh i r).at_.y),.p (.int .i64 (L.oneR1 w sh i r).size.w),.p (.int .i64 (L.oneR1 w sh i r).size.h)])],inv:=fun _=>True,mu:=fun _=>0 })],anys:=[1009,1012],rek:=lookR2 [(1,[(1004,80)])] }) (bodyOf Tryz.f162) (stTr Tryz.f162 (c_one_mk.args (w,sh,dom,P,S,i,r)) (c_one_mk.lent (w,sh,dom,P,S,i,r))) (retMk Tryz.prog Tryz.f162 c_one_mk (w,sh,dom,P,S,i,r)) :=
 @Eq.mpr _ (let I:=SV.int .i64;let T:=Int.toNat;let A45:=(L.turnOf w sh.grain i r);let A44:=(0:Int);let A41:=(2:Nat);let A37:=(nat_lit 0);let A36:=(0:Nat);let A34:=(L.tabF w sh.grain);let A31:=(140737488355328:Nat);let A28:=(↑i:Int);let A39:=(A44 <= A28/\A28<(↑w.n:Int));let A27:=(L.sqC (L.oneQ w sh i r S));let A19:=(L.sqC S);let A14:=(∀ (x
:Int),dom x=dom x);let A12:=(L.oneR1 w sh i r);let A10:=(w.g (T A28));let A24:=(L.box (L.Sq.mk A10.ol.n fun (i_1:Nat)=>A10.ol.g i_1) A45);let A9:=(L.sqC (L.oneS1 w sh i r S));let A6:=(∀ (x:Int),dom x=true->L.memo A34 x=L.memo A34 x);let A4:=(L.oneB w sh i r);let A35:=(L.okA r/\A44 <= A4.w/\A4.w <= (4096:Int));let A29:=(L.divA r true A4.w);let A16
:=(L.splt A12 sh.id false A4.h);let A7:=(L.splt r sh.id true A4.w);let A20:=(L.sqC (L.snocC S A7));let A21:=(A19.n+nat_lit 1=A20.n /\ ∀ (i_1:Nat),i_1<A19.n+nat_lit 1->appGet A19.n (fun (k:Nat)=>L.scC (A19.g k)) (fun (x:Nat)=>[I A7.sheet,I A7.kind,I A7.want,SV.sl (nat_lit 2) A7.pts.n fun (i_2:Nat)=>[I (A7.pts.g i_2).x,I (A7.pts.g i_2).y]]) i_1
 = L.scC (A20.g i_1));let A3:=[I A10.id,I A10.colour,I A10.grain,SV.sl (nat_lit 2) A10.ol.n fun (i1:Nat)=>[I (A10.ol.g i1).x,I (A10.ol.g i1).y]];let A2:=(w.n=w.n /\ ∀ (i_1:Nat),let A13:=(L.oneP w sh i r P i_1);let A30:=[I A13.want,I A13.sheet,I A13.turn,I A13.at_.x,I A13.at_.y];i_1<w.n->A30=A30);let A1:=(w.n=w.n /\ ∀ (i:Nat),let A18:=[I (w.g i).id,I
 (w.g i).colour,I (w.g i).grain,SV.sl A41 (w.g i).ol.n fun (i1:Nat)=>[I ((w.g i).ol.g i1).x,I ((w.g i).ol.g i1).y]];i<w.n->A18=A18);A39/\(∃ (t:L.Sq L.Want × L.Sheet × (Int->Bool) × (Nat->L.Placed) × List L.Score × Nat × L.Area × Int),let A46:=(L.tabF t.1 t.2.1.grain);let A40:=(∀ (x:Int),t.snd.2.1 x=dom x);let A23:=(!L.fit0 t.1 t.2.1.grain t.snd.snd.snd.snd.2.1
 t.snd.snd.snd.snd.snd.2.1 t.snd.snd.snd.snd.snd.2.2);let A22:=(∀ (x:Int),t.snd.2.1 x=true->L.memo A46 x=L.memo A34 x);let A17:=(L.sqC t.snd.snd.snd.2.1);let A26:=(A17.n=A19.n /\ ∀ (i:Nat),i<A17.n->L.scC (A17.g i)=L.scC (A19.g i));let A15:=(t.1.g t.snd.snd.snd.snd.2.1);let A11:=(t.1.n=w.n /\ ∀ (i:Nat),let A32:=(t.snd.snd.2.1 i);i<t.1.n -> [I A32.want,I
 A32.sheet,I A32.turn,I A32.at_.x,I A32.at_.y] = [I (P i).want,I (P i).sheet,I (P i).turn,I (P i).at_.x,I (P i).at_.y]);let A8:=(t.1.n=w.n /\ ∀ (i:Nat),let A42:=(t.1.g i);i<t.1.n -> [I A42.id,I A42.colour,I A42.grain,SV.sl A41 A42.ol.n fun (i1:Nat)=>[I (A42.ol.g i1).x,I (A42.ol.g i1).y]] = [I (w.g i).id,I (w.g i).colour,I (w.g i).grain,SV.sl A41 (w.g i).ol.n
 fun (i1:Nat)=>[I ((w.g i).ol.g i1).x,I ((w.g i).ol.g i1).y]]);A44=t.snd.snd.snd.snd.snd.2.2/\SV.ref A3 A37=SV.ref [I A15.id,I A15.colour,I A15.grain,SV.sl A41 A15.ol.n fun (i1:Nat)=>[I (A15.ol.g i1).x,I (A15.ol.g i1).y]] A36/\nat_lit 0=A36/\nat_lit 0=A36/\(w.n=t.1.n /\ ∀ (i:Nat),let A43:=(t.1.g i);i<w.n -> [I (w.g i).id,I (w.g i).colour,I (w.g
 i).grain,SV.sl A41 (w.g i).ol.n fun (i1:Nat)=>[I ((w.g i).ol.g i1).x,I ((w.g i).ol.g i1).y]] = [I A43.id,I A43.colour,I A43.grain,SV.sl A41 A43.ol.n fun (i1:Nat)=>[I (A43.ol.g i1).x,I (A43.ol.g i1).y]])/\sh.grain=t.2.1.grain/\(∀ (x:Int),dom x=t.snd.2.1 x)/\(∀ (x:Int),dom x=true->L.memo A34 x=L.memo A46 x)/\nat_lit 0=A36/\sh.id=t.2.1.id /\
 sh.colour=t.2.1.colour/\sh.w=t.2.1.w/\sh.h=t.2.1.h/\sh.grain=t.2.1.grain/\(w.n=t.1.n /\ ∀ (i:Nat),let A33:=(t.snd.snd.2.1 i);i<w.n -> [I (P i).want,I (P i).sheet,I (P i).turn,I (P i).at_.x,I (P i).at_.y] = [I A33.want,I A33.sheet,I A33.turn,I A33.at_.x,I A33.at_.y])/\(A19.n=A17.n /\ ∀ (i:Nat),i<A19.n->L.scC (A19.g i)=L.scC (A17.g i))/\nat_lit 0=A36 /\
 r.at_.x=t.snd.snd.snd.snd.snd.2.1.at_.x/\r.at_.y=t.snd.snd.snd.snd.snd.2.1.at_.y/\r.size.w=t.snd.snd.snd.snd.snd.2.1.size.w/\r.size.h=t.snd.snd.snd.snd.snd.2.1.size.h/\A15.ol.n <= (1000000:Nat) /\ ∀ (u:Nat),True->(A23=true -> ∃ (g:Nat),(1:Int)=L.turnOf w sh.grain i r/\SV.ref A3 A37=SV.ref A3 A37/\nat_lit 0=nat_lit 0/\nat_lit 0=nat_lit 0/\A28=A28
 /\ t.snd.snd.snd.snd.snd.2.1.at_.x=r.at_.x/\t.snd.snd.snd.snd.snd.2.1.at_.y=r.at_.y/\t.snd.snd.snd.snd.snd.2.1.size.w=r.size.w/\t.snd.snd.snd.snd.snd.2.1.size.h=r.size.h/\nat_lit 0=nat_lit 0/\A8/\t.2.1.grain=sh.grain/\A40/\A22/\nat_lit 0=nat_lit 0/\t.2.1.id=sh.id/\t.2.1.colour=sh.colour/\t.2.1.w=sh.w/\t.2.1.h=sh.h/\t.2.1.grain=sh.grain/\A11/\A26/\True) /\
 (A23=false -> ∃ (g:Nat),A44=L.turnOf w sh.grain i r/\SV.ref A3 A37=SV.ref A3 A37/\nat_lit 0=nat_lit 0/\nat_lit 0=nat_lit 0/\A28=A28/\t.snd.snd.snd.snd.snd.2.1.at_.x=r.at_.x/\t.snd.snd.snd.snd.snd.2.1.at_.y=r.at_.y/\t.snd.snd.snd.snd.snd.2.1.size.w=r.size.w/\t.snd.snd.snd.snd.snd.2.1.size.h=r.size.h/\nat_lit 0=nat_lit 0/\A8/\t.2.1.grain=sh.grain
 /\ A40/\A22/\nat_lit 0=nat_lit 0/\t.2.1.id=sh.id/\t.2.1.colour=sh.colour/\t.2.1.w=sh.w/\t.2.1.h=sh.h/\t.2.1.grain=sh.grain/\A11/\A26/\True)) /\ ∀ (g:Nat),True->((∀ (i_1:Nat),let A38:=[I (A10.ol.g i_1).x,I (A10.ol.g i_1).y];i_1<A10.ol.n->A38=A38)/\A10.ol.n <= (1000000:Nat))/\(A39/\T A28<w.n /\ ∃ (g:Nat),nat_lit 0=nat_lit 0/\nat_lit 0=nat_lit 0 /\
 nat_lit 0=nat_lit 0/\A24.w=A4.w/\A24.h=A4.h/\(w.n=w.n /\ ∀ (i_1:Nat),let A25:=(L.oneP w sh i r P i_1);i_1<w.n->setRow (fun (k:Nat)=>[I (P k).want,I (P k).sheet,I (P k).turn,I (P k).at_.x,I (P k).at_.y]) (T A28) A37 [I A10.id,I sh.id,I A45,I r.at_.x,I r.at_.y] i_1 = [I A25.want,I A25.sheet,I A25.turn,I A25.at_.x,I A25.at_.y])/\r.at_.x=r.at_.x/\r.at_.y =
 r.at_.y/\r.size.w=r.size.w/\r.size.h=r.size.h/\nat_lit 0=nat_lit 0/\A1/\sh.grain=sh.grain/\A14/\A6/\nat_lit 0=nat_lit 0/\sh.id=sh.id/\sh.colour=sh.colour/\sh.w=sh.w/\sh.h=sh.h/\sh.grain=sh.grain/\(A19.n=A19.n /\ ∀ (i:Nat),i<A19.n->L.scC (A19.g i)=L.scC (A19.g i))/\True) /\ ∀ (g_1:Nat),True->((decide (A4.w<r.size.w)=true->(A35 /\
 ((A19.n+nat_lit 1) * nat_lit 48 <= A31 /\ ∃ (g:Nat),nat_lit 0=nat_lit 0/\nat_lit 0=nat_lit 0/\nat_lit 0=nat_lit 0/\A21/\A4.w=A4.w/\A4.h=A4.h/\A2/\r.at_.x=r.at_.x/\r.at_.y=r.at_.y/\r.size.w=r.size.w/\r.size.h=r.size.h/\nat_lit 0=nat_lit 0/\A1/\sh.grain=sh.grain/\A14/\A6/\nat_lit 0=nat_lit 0/\sh.id=sh.id/\sh.colour=sh.colour/\sh.w=sh.w/\sh.h =
 sh.h/\sh.grain=sh.grain/\True)/\(A19.n+nat_lit 1) * nat_lit 48 <= A31 /\ ∃ (g:Nat),nat_lit 0=nat_lit 0/\nat_lit 0=nat_lit 0/\nat_lit 0=nat_lit 0/\A21/\A4.w=A4.w/\A4.h=A4.h/\A2/\r.at_.x=r.at_.x/\r.at_.y=r.at_.y/\r.size.w=r.size.w/\r.size.h=r.size.h/\nat_lit 0=nat_lit 0/\A1/\sh.grain=sh.grain/\A14/\A6/\nat_lit 0=nat_lit 0/\sh.id=sh.id/\sh.colour =
 sh.colour/\sh.w=sh.w/\sh.h=sh.h/\sh.grain=sh.grain/\True) /\ ∀ (g_2:Nat),True->A35 /\ ∃ (g:Nat),nat_lit 0=nat_lit 0/\nat_lit 0=nat_lit 0/\nat_lit 0=nat_lit 0/\(A20.n=A9.n /\ ∀ (i_1:Nat),i_1<A20.n->L.scC (A20.g i_1)=L.scC (A9.g i_1))/\A29.at_.x=A12.at_.x/\A29.at_.y=A12.at_.y/\A29.size.w=A12.size.w/\A29.size.h=A12.size.h/\A4.w=A4.w/\A4.h=A4.h/\A2 /\
 nat_lit 0=nat_lit 0/\A1/\sh.grain=sh.grain/\A14/\A6/\nat_lit 0=nat_lit 0/\sh.id=sh.id/\sh.colour=sh.colour/\sh.w=sh.w/\sh.h=sh.h/\sh.grain=sh.grain/\True)/\(decide (A4.w<r.size.w)=false -> ∃ (g:Nat),nat_lit 0=nat_lit 0/\nat_lit 0=nat_lit 0/\nat_lit 0=nat_lit 0/\(A19.n=A9.n /\ ∀ (i_1:Nat),i_1<A19.n->L.scC (A19.g i_1)=L.scC (A9.g
 i_1))/\r.at_.x=A12.at_.x/\r.at_.y=A12.at_.y/\r.size.w=A12.size.w/\r.size.h=A12.size.h/\A4.w=A4.w/\A4.h=A4.h/\A2/\nat_lit 0=nat_lit 0/\A1/\sh.grain=sh.grain/\A14/\A6/\nat_lit 0=nat_lit 0/\sh.id=sh.id/\sh.colour=sh.colour/\sh.w=sh.w/\sh.h=sh.h/\sh.grain=sh.grain/\True)) /\ ∀ (g:Nat),let A5:=(A9.n+nat_lit 1=A27.n /\ ∀ (i_1:Nat),i_1<A9.n +
 nat_lit 1->appGet A9.n (fun (k:Nat)=>L.scC (A9.g k)) (fun (x:Nat)=>[I A16.sheet,I A16.kind,I A16.want,SV.sl (nat_lit 2) A16.pts.n fun (i_2:Nat)=>[I (A16.pts.g i_2).x,I (A16.pts.g i_2).y]]) i_1=L.scC (A27.g i_1));True->(decide (A4.h<A12.size.h)=true->(L.okA A12/\A44 <= A4.h/\A4.h <= (4096:Int))/\((A9.n+nat_lit 1) * nat_lit 48 <= A31 /\ ∃ (u :
 Nat),A1/\sh.grain=sh.grain/\A14/\A6/\nat_lit 0=A36/\sh.id=sh.id/\sh.colour=sh.colour/\sh.w=sh.w/\sh.h=sh.h/\sh.grain=sh.grain/\A2/\A5/\True)/\(A9.n+nat_lit 1) * nat_lit 48 <= A31 /\ ∃ (u:Nat),A1/\sh.grain=sh.grain/\A14/\A6/\nat_lit 0=A36/\sh.id=sh.id/\sh.colour=sh.colour/\sh.w=sh.w/\sh.h=sh.h/\sh.grain=sh.grain/\A2/\A5/\True) /\
 (decide (A4.h<A12.size.h)=false -> ∃ (u:Nat),A1/\sh.grain=sh.grain/\A14/\A6/\nat_lit 0=A36/\sh.id=sh.id/\sh.colour=sh.colour/\sh.w=sh.w/\sh.h=sh.h/\sh.grain=sh.grain/\A2/\(A9.n=A27.n /\ ∀ (i_1:Nat),i_1<A9.n->L.scC (A9.g i_1)=L.scC (A27.g i_1))/\True)) (by kernel_rfl) (by
  conv=>zeta
  have hp:i<w.n/\w.n <= 4/\(w.g i).ol.n <= 1000000/\L.okA r/\S.length <= 1000:=hp
  obtain ⟨hi,hw4,ho,hA,hS⟩:=hp
  have hiw:0 <= (i:Int)/\(i:Int)<(w.n:Int):=⟨Int.natCast_nonneg _,by omega⟩
  obtain ⟨b1,b2,b3,b4⟩:=oneB_bd w sh i r
  have hA1:=okA_one w sh i hA
  have sz:((L.sqC S).n+1) * 48 <= 140737488355328:=by show (S.length+1) * 48 <= _;omega
  have sz1:((L.sqC (L.oneS1 w sh i r S)).n+1) * 48 <= 140737488355328:=by show ((L.oneS1 w sh i r S).length+1) * 48 <= _;have:=oneS1_len w sh i r S;omega
  refine ⟨hiw,⟨(w,sh,dom,P,S,i,r,0),rfl,rfl,rfl,rfl,⟨rfl,fun _ _=>rfl⟩,rfl,fun _=>rfl,fun _ _=>rfl,rfl,rfl,rfl,rfl,rfl,rfl,⟨rfl,fun _ _=>rfl⟩,⟨rfl,fun _ _=>rfl⟩,rfl,rfl,rfl,rfl,rfl,ho,fun u _=>⟨fun hf=>?_,fun hf=>?_⟩⟩,fun _ _=>⟨⟨fun _ _=>rfl,ho⟩,⟨hiw,hi,(0:Nat),rfl,rfl,rfl,rfl,rfl,⟨rfl,fun j hj=>?_⟩,rfl,rfl,rfl,rfl,rfl,⟨rfl,fun _ _=>rfl⟩,rfl,fun _=>rfl,fun _ _=>rfl,rfl,rfl,rfl,rfl,rfl,rfl,⟨rfl,fun _ _=>rfl⟩,trivial⟩,fun _ _=>⟨⟨fun hc=>⟨?_,fun _ _=>?_⟩,fun hc=>?_⟩,fun _ _=>⟨fun hc=>?_,fun hc=>?_⟩⟩⟩⟩
  ·have hf:L.fit0 w sh.grain i r 0=false:=notT hf
   exact ⟨(0:Nat),by unfold L.turnOf;rw [hf];rfl,rfl,rfl,rfl,rfl,rfl,rfl,rfl,rfl,rfl,⟨rfl,fun _ _=>rfl⟩,rfl,fun _=>rfl,fun _ _=>rfl,rfl,rfl,rfl,rfl,rfl,rfl,⟨rfl,fun _ _=>rfl⟩,⟨rfl,fun _ _=>rfl⟩,trivial⟩
  ·have hf:L.fit0 w sh.grain i r 0=true:=notF hf
   exact ⟨(0:Nat),by unfold L.turnOf;rw [hf];rfl,rfl,rfl,rfl,rfl,rfl,rfl,rfl,rfl,rfl,⟨rfl,fun _ _=>rfl⟩,rfl,fun _=>rfl,fun _ _=>rfl,rfl,rfl,rfl,rfl,rfl,rfl,⟨rfl,fun _ _=>rfl⟩,⟨rfl,fun _ _=>rfl⟩,trivial⟩
  ·unfold setRow L.oneP L.setP
   by_cases e:j=i
   ·subst e
    rw [if_pos rfl,if_pos (show j=Int.toNat (j:Int) from rfl)];try rfl
   ·rw [if_neg e,if_neg (show ¬ j=Int.toNat (i:Int) from e)]
  ·repeat' with_reducible apply And.intro
   all_goals first | exact hA | exact b1 | exact b2 | exact sz | exact ⟨(0:Nat),rfl,rfl,rfl,sqC_app rfl rfl,rfl,rfl,⟨rfl,fun _ _=>rfl⟩,rfl,rfl,rfl,rfl,rfl,⟨rfl,fun _ _=>rfl⟩,rfl,fun _=>rfl,fun _ _=>rfl,rfl,rfl,rfl,rfl,rfl,rfl,trivial⟩
  ·have e1:L.oneS1 w sh i r S=L.snocC S (L.splt r sh.id true (L.oneB w sh i r).w):=by unfold L.oneS1;rw [hc];rfl
   have e2:L.oneR1 w sh i r=L.divA r true (L.oneB w sh i r).w:=by unfold L.oneR1;rw [hc];rfl
   rw [e1,e2]
   exact ⟨⟨hA,b1,b2⟩,(0:Nat),rfl,rfl,rfl,⟨rfl,fun _ _=>rfl⟩,rfl,rfl,rfl,rfl,rfl,rfl,⟨rfl,fun _ _=>rfl⟩,rfl,⟨rfl,fun _ _=>rfl⟩,rfl,fun _=>rfl,fun _ _=>rfl,rfl,rfl,rfl,rfl,rfl,rfl,trivial⟩
  ·have e1:L.oneS1 w sh i r S=S:=by unfold L.oneS1;rw [hc];rfl
   have e2:L.oneR1 w sh i r=r:=by unfold L.oneR1;rw [hc];rfl
   rw [e1,e2]
   exact ⟨(0:Nat),rfl,rfl,rfl,⟨rfl,fun _ _=>rfl⟩,rfl,rfl,rfl,rfl,rfl,rfl,⟨rfl,fun _ _=>rfl⟩,rfl,⟨rfl,fun _ _=>rfl⟩,rfl,fun _=>rfl,fun _ _=>rfl,rfl,rfl,rfl,rfl,rfl,rfl,trivial⟩
  ·have e1:L.snocC (L.oneS1 w sh i r S) (L.splt (L.oneR1 w sh i r) sh.id false (L.oneB w sh i r).h)=L.oneQ w sh i r S:=by unfold L.oneQ;rw [hc];rfl
   repeat' with_reducible apply And.intro
   all_goals first | exact hA1 | exact b3 | exact b4 | exact sz1 | exact ⟨(0:Nat),⟨rfl,fun _ _=>rfl⟩,rfl,fun _=>rfl,fun _ _=>rfl,rfl,rfl,rfl,rfl,rfl,rfl,⟨rfl,fun _ _=>rfl⟩,sqC_app e1 rfl,trivial⟩
  ·have e1:L.oneS1 w sh i r S=L.oneQ w sh i r S:=by unfold L.oneQ;rw [hc];rfl
   exact ⟨(0:Nat),⟨rfl,fun _ _=>rfl⟩,rfl,fun _=>rfl,fun _ _=>rfl,rfl,rfl,rfl,rfl,rfl,rfl,⟨rfl,fun _ _=>rfl⟩,sqC_same e1,trivial⟩)
theorem c_one_en:Enters Tryz.prog 162:=fun args w=>by kernel_rfl
theorem c_one_mok:MkOk Tryz.prog 162 c_one_mk:=mk_ok (n:=3) Tryz.func162 (c:=bodyOf Tryz.f162) (by kernel_rfl) mixed ⟨fun t=>rfl,fun t=>rfl,fun t u=>rfl,fun t u=>rfl,fun t u=>rfl,fun t u=>⟨rfl,rfl⟩,by kernel_rfl,by kernel_rfl⟩ (fun ⟨w,sh,dom,P,S,i,r⟩ hp=>⟨_,c_one_vc w sh dom P S i r hp,⟨show SpecsL Tryz.prog _ from (SpecsL.cons c_boxOf_ok c_boxOf_en (SpecsL.cons c_split_ok c_split_en (SpecsL.cons c_divided_ok c_divided_en SpecsL.nil))),rfl,⟨show ItersL Tryz.prog _ from ItersL.nil,⟨show TrsL Tryz.prog _ from (TrsL.cons c_one1_tok c_one1_en TrsL.nil),⟨MksOk.no1 (fun _=>rfl),FamsOk.none (fun _=>rfl)⟩⟩⟩⟩⟩)
end Go.Proofs.YtpgaejicfbpcmaaGreat
