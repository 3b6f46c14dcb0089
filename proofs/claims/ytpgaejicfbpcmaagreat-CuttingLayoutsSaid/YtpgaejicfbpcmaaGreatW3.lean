/- A symbolic walk over the model, and what it shows of functions of the program: parts of the proof that the text of the row joins. -/
import Derived.Test.YtpgaejicfbpcmaaGreatW2
import Derived.Test.YtpgaejicfbpcmaaGreatE5
import Derived.KernelRfl
import Derived.Test.YtpgaejicfbpcmaaGreatW1
namespace Go.Proofs.YtpgaejicfbpcmaaGreat
open Go.SE Go.RowKit
set_option maxRecDepth 100000
set_option maxHeartbeats 4000000
set_option linter.unusedVariables false
attribute [local irreducible] vc
def L.dvOk (w:L.Sq L.Want) (gr g:Int) (r:L.Area) (k j:Nat):Bool:=bif L.roomB w gr (L.part g k) (L.divA r (L.dvU r j) (L.dvI r j)).size then L.roomB w gr (L.cmp_ g k) (L.divB r (L.dvU r j) (L.dvI r j)).size else false
def L.dvOkV (w:L.Sq L.Want) (gr g:Int) (r:L.Area) (p:Int) (up:Bool) (by_:Int):Bool:=bif L.roomB w gr p (L.divA r up by_).size then L.roomB w gr (L.iandNot g p) (L.divB r up by_).size else false
def L.dvF (w:L.Sq L.Want) (gr g:Int) (r:L.Area):Option (Nat × Nat):=(List.range (L.partN g)).findSome? fun k=>((List.range (L.dvN r)).find? (L.dvOk w gr g r k)).map fun j=>(k,j)
def L.lay (w:L.Sq L.Want) (sh:L.Sheet):Nat->Int->L.Area->L.LS->L.LS
 | 0,_,_,s=>s
 | n+1,g,r,s=>if g=0 then s else if L.isOne g=true then ⟨L.oneP w sh (L.ix1 g) r s.pl,L.oneQ w sh (L.ix1 g) r s.sc⟩ else match L.dvF w sh.grain g r with
   | none=>s
   | some (k,j)=>L.lay w sh n (L.cmp_ g k) (L.divB r (L.dvU r j) (L.dvI r j)) (L.lay w sh n (L.part g k) (L.divA r (L.dvU r j) (L.dvI r j)) ⟨s.pl,L.snocC s.sc (L.splt r sh.id (L.dvU r j) (L.dvI r j))⟩)
def L.layF (w:L.Sq L.Want) (sh:L.Sheet) (g:Int) (r:L.Area) (s:L.LS):L.LS:=L.lay w sh 16 g r s
def L.layP (w:L.Sq L.Want) (sh:L.Sheet) (g:Int) (r:L.Area) (P:Nat->L.Placed) (S:List L.Score):Nat->L.Placed:=(L.layF w sh g r ⟨P,S⟩).pl
def L.layS (w:L.Sq L.Want) (sh:L.Sheet) (g:Int) (r:L.Area) (P:Nat->L.Placed) (S:List L.Score):List L.Score:=(L.layF w sh g r ⟨P,S⟩).sc
theorem dvF_some {w:L.Sq L.Want} {gr g:Int} {r:L.Area} {k j:Nat} (h:L.dvF w gr g r=some (k,j)):k<L.partN g/\j<L.dvN r/\L.dvOk w gr g r k j=true:=by
 unfold L.dvF at h
 obtain ⟨k',h1,h2⟩:=List.exists_of_findSome?_eq_some h
 cases h3:(List.range (L.dvN r)).find? (L.dvOk w gr g r k') with
 | none=>rw [h3] at h2;cases h2
 | some j' =>
   rw [h3] at h2
   simp only [Option.map_some,Option.some.injEq,Prod.mk.injEq] at h2
   obtain ⟨rfl,rfl⟩:=h2
   exact ⟨List.mem_range.1 h1,List.mem_range.1 (List.mem_of_find?_eq_some h3),List.find?_some h3⟩
theorem dvF_at {w:L.Sq L.Want} {gr g:Int} {r:L.Area} {k j:Nat} (hk:k<L.partN g) (hj:j<L.dvN r) (h:L.dvOk w gr g r k j=true) (h1:∀ k',k'<k -> ∀ j',j'<L.dvN r->L.dvOk w gr g r k' j'=false) (h2:∀ j',j'<j->L.dvOk w gr g r k j'=false):L.dvF w gr g r=some (k,j):=by
 cases hf:L.dvF w gr g r with
 | none =>
   unfold L.dvF at hf
   have:=List.findSome?_eq_none_iff.1 hf k (List.mem_range.2 hk)
   rw [Option.map_eq_none_iff,List.find?_eq_none] at this
   exact absurd h (this j (List.mem_range.2 hj))
 | some x =>
   obtain ⟨k',j'⟩:=x
   -- the first one
   have hfirst:∀ n,(List.range n).findSome? (fun k=>((List.range (L.dvN r)).find? (L.dvOk w gr g r k)).map fun j=>(k,j))=some (k',j')->k<n->k'=k/\j'=j:=fun n=>by
    induction n with
    | zero=>intro _ h;omega
    | succ n ih =>
      intro hh hlt
      rw [List.range_succ,List.findSome?_append] at hh
      by_cases hkn:k<n
      ·have e : ((List.range n).findSome? (fun k => ((List.range (L.dvN r)).find? (L.dvOk w gr g r k)).map fun j => (k, j))) ≠ none := fun e => by
        have:=List.findSome?_eq_none_iff.1 e k (List.mem_range.2 hkn)
        rw [Option.map_eq_none_iff,List.find?_eq_none] at this
        exact absurd h (this j (List.mem_range.2 hj))
       obtain ⟨y,hy⟩:=Option.ne_none_iff_exists'.1 e
       rw [hy] at hh
       simp only [Option.some_or,Option.some.injEq] at hh
       rw [hh] at hy
       exact ih hy hkn
      ·obtain rfl:k=n:=by omega
       have e:((List.range k).findSome? (fun k=>((List.range (L.dvN r)).find? (L.dvOk w gr g r k)).map fun j=>(k,j)))=none:=List.findSome?_eq_none_iff.2 fun k2 hk2=>by
        rw [Option.map_eq_none_iff,List.find?_eq_none]
        intro j2 hj2
        rw [h1 k2 (List.mem_range.1 hk2) j2 (List.mem_range.1 hj2)];decide
       rw [e] at hh
       simp only [Option.none_or,List.findSome?_cons,List.findSome?_nil] at hh
       cases h3:(List.range (L.dvN r)).find? (L.dvOk w gr g r k) with
       | none=>rw [h3] at hh;cases hh
       | some j2 =>
         rw [h3] at hh
         simp only [Option.map_some,Option.some.injEq,Prod.mk.injEq] at hh
         obtain ⟨rfl,rfl⟩:=hh
         refine ⟨rfl,?_⟩
         have h5:=List.find?_some h3
         rw [List.find?_range_eq_some] at h3
         obtain ⟨_,_,h4⟩:=h3
         rcases Nat.lt_trichotomy j2 j with h6 | h6 | h6
         ·rw [h2 j2 h6] at h5;cases h5
         ·exact h6
         ·have:=h4 j h6
          rw [h] at this;cases this
   obtain ⟨rfl,rfl⟩:=hfirst (L.partN g) hf hk
   rfl
theorem dvF_none {w:L.Sq L.Want} {gr g:Int} {r:L.Area} (h1:∀ k,k<L.partN g -> ∀ j,j<L.dvN r->L.dvOk w gr g r k j=false):L.dvF w gr g r=none:=List.findSome?_eq_none_iff.2 fun k hk=>by
 rw [Option.map_eq_none_iff,List.find?_eq_none]
 intro j hj
 rw [h1 k (List.mem_range.1 hk) j (List.mem_range.1 hj)];decide
theorem dvI_bd {r:L.Area} (h:L.okA r) {j:Nat} (hj:j<L.dvN r):1 <= L.dvI r j/\L.dvI r j<4096/\(L.dvU r j=true->L.dvI r j<r.size.w)/\(L.dvU r j=false->L.dvI r j<r.size.h):=by
 obtain ⟨h1,h2,h3,h4,h5,h6⟩:=h
 have eW:L.dvW r=(r.size.w - 1).toNat:=rfl
 have eN:L.dvN r=(r.size.w - 1).toNat+(r.size.h - 1).toNat:=rfl
 by_cases hl:j<L.dvW r
 ·have e:L.dvU r j=true:=decide_eq_true hl
  unfold L.dvI
  rw [e,cond_true]
  refine ⟨by omega,by omega,fun _=>by omega,(fun h=>by cases h)⟩
 ·have e:L.dvU r j=false:=decide_eq_false hl
  unfold L.dvI
  rw [e,cond_false]
  refine ⟨by omega,by omega,(fun h=>by cases h),fun _=>by omega⟩
theorem okA_div {r:L.Area} (h:L.okA r) {j:Nat} (hj:j<L.dvN r):L.okA (L.divA r (L.dvU r j) (L.dvI r j))/\L.okA (L.divB r (L.dvU r j) (L.dvI r j)):=by
 obtain ⟨b1,b2,b3,b4⟩:=dvI_bd h hj
 obtain ⟨h1,h2,h3,h4,h5,h6⟩:=h
 cases e:L.dvU r j with
 | true =>
   have:=b3 e
   unfold L.divA L.divB L.okA
   simp only [cond_true]
   refine ⟨⟨h1,h2,?_,h4,?_,h6⟩,?_,h2,?_,h4,?_,h6⟩ <;> omega
 | false =>
   have:=b4 e
   unfold L.divA L.divB L.okA
   simp only [cond_false]
   refine ⟨⟨h1,h2,h3,?_,h5,?_⟩,h1,?_,h3,?_,h5,?_⟩ <;> omega
theorem lay_fuel (w:L.Sq L.Want) (sh:L.Sheet):∀ (n m:Nat) (g:Int) (r:L.Area) (s:L.LS),0 <= g->g <= 15->g<n->g<m->L.lay w sh n g r s=L.lay w sh m g r s
 | 0,_,g,r,s,h0,h15,h,_=>by omega
 | n+1,0,g,r,s,h0,h15,_,h=>by omega
 | n+1,m+1,g,r,s,h0,h15,h,h'=>by
   rw [L.lay,L.lay]
   by_cases e:g=0
   ·rw [if_pos e,if_pos e]
   ·rw [if_neg e,if_neg e]
    cases h1:L.isOne g with
    | true=>rfl
    | false =>
      rw [if_neg (by decide),if_neg (by decide)]
      cases hd:L.dvF w sh.grain g r with
      | none=>rfl
      | some x =>
        obtain ⟨k,j⟩:=x
        obtain ⟨p1,p2,p3,p4,_⟩:=(grp_prt (show 1 <= g by omega) h15 h1).2 k (dvF_some hd).1
        simp only
        rw [lay_fuel w sh n m (L.part g k) _ _ (by omega) (by omega) (by omega) (by omega),lay_fuel w sh n m (L.cmp_ g k) _ _ (by omega) (by omega) (by omega) (by omega)]
theorem layF_0 (w:L.Sq L.Want) (sh:L.Sheet) (r:L.Area) (s:L.LS):L.layF w sh 0 r s=s:=by unfold L.layF;rw [L.lay,if_pos rfl]
theorem layF_1 (w:L.Sq L.Want) (sh:L.Sheet) {g:Int} (r:L.Area) (s:L.LS) (h:1 <= g) (h1:L.isOne g=true):L.layF w sh g r s=⟨L.oneP w sh (L.ix1 g) r s.pl,L.oneQ w sh (L.ix1 g) r s.sc⟩:=by
 unfold L.layF;rw [L.lay,if_neg (by omega),if_pos h1]
theorem layF_none (w:L.Sq L.Want) (sh:L.Sheet) {g:Int} {r:L.Area} (s:L.LS) (h:1 <= g) (h1:L.isOne g=false) (hd:L.dvF w sh.grain g r=none):L.layF w sh g r s=s:=by
 unfold L.layF;rw [L.lay,if_neg (by omega),if_neg (by rw [h1];decide),hd]
theorem layF_some (w:L.Sq L.Want) (sh:L.Sheet) {g:Int} {r:L.Area} (s:L.LS) (h:1 <= g) (h15:g <= 15) (h1:L.isOne g=false) {k j:Nat} (hd:L.dvF w sh.grain g r=some (k,j)) :
  L.layF w sh g r s=L.layF w sh (L.cmp_ g k) (L.divB r (L.dvU r j) (L.dvI r j)) (L.layF w sh (L.part g k) (L.divA r (L.dvU r j) (L.dvI r j)) ⟨s.pl,L.snocC s.sc (L.splt r sh.id (L.dvU r j) (L.dvI r j))⟩):=by
 obtain ⟨p1,p2,p3,p4,_⟩:=(grp_prt h h15 h1).2 k (dvF_some hd).1
 have e:L.layF w sh g r s=L.lay w sh (15+1) g r s:=rfl
 rw [e,L.lay,if_neg (by omega),if_neg (by rw [h1];decide),hd]
 simp only
 rw [lay_fuel w sh 15 16 (L.part g k) _ _ (by omega) (by omega) (by omega) (by omega),lay_fuel w sh 15 16 (L.cmp_ g k) _ _ (by omega) (by omega) (by omega) (by omega)]
 rfl
theorem oneQ_len (w:L.Sq L.Want) (sh:L.Sheet) (i:Nat) (r:L.Area) (S:List L.Score):(L.oneQ w sh i r S).length <= S.length+2:=by
 unfold L.oneQ L.oneS1
 cases decide ((L.oneB w sh i r).w<r.size.w) <;> cases decide ((L.oneB w sh i r).h<(L.oneR1 w sh i r).size.h) <;> simp [snocC_len]
theorem lay_len (w:L.Sq L.Want) (sh:L.Sheet):∀ (n:Nat) (g:Int) (r:L.Area) (s:L.LS),0 <= g->g <= 15->g<n->(L.lay w sh n g r s).sc.length <= s.sc.length+(3 * g - 1).toNat
 | 0,g,r,s,h0,h15,h=>by omega
 | n+1,g,r,s,h0,h15,h=>by
   rw [L.lay]
   by_cases e:g=0
   ·rw [if_pos e];omega
   ·rw [if_neg e]
    cases h1:L.isOne g with
    | true =>
      rw [if_pos rfl]
      have:=oneQ_len w sh (L.ix1 g) r s.sc
      simp only;omega
    | false =>
      rw [if_neg (by decide)]
      cases hd:L.dvF w sh.grain g r with
      | none=>simp only;omega
      | some x =>
        obtain ⟨k,j⟩:=x
        obtain ⟨p1,p2,p3,p4,p5⟩:=(grp_prt (show 1 <= g by omega) h15 h1).2 k (dvF_some hd).1
        simp only
        have b1:=lay_len w sh n (L.part g k) (L.divA r (L.dvU r j) (L.dvI r j)) ⟨s.pl,L.snocC s.sc (L.splt r sh.id (L.dvU r j) (L.dvI r j))⟩ (by omega) (by omega) (by omega)
        have b2:=lay_len w sh n (L.cmp_ g k) (L.divB r (L.dvU r j) (L.dvI r j)) (L.lay w sh n (L.part g k) (L.divA r (L.dvU r j) (L.dvI r j)) ⟨s.pl,L.snocC s.sc (L.splt r sh.id (L.dvU r j) (L.dvI r j))⟩) (by omega) (by omega) (by omega)
        simp only [snocC_len] at b1
        omega
theorem layF_len (w:L.Sq L.Want) (sh:L.Sheet) (g:Int) (r:L.Area) (s:L.LS) (h0:0 <= g) (h15:g <= 15):(L.layF w sh g r s).sc.length <= s.sc.length+(3 * g - 1).toNat:=lay_len w sh 16 g r s h0 h15 (by omega)
theorem layPS_0 (w:L.Sq L.Want) (sh:L.Sheet) (r:L.Area) (P:Nat->L.Placed) (S:List L.Score):L.layP w sh 0 r P S=P/\L.layS w sh 0 r P S=S:=by unfold L.layP L.layS;rw [layF_0];exact ⟨rfl,rfl⟩
theorem layPS_1 (w:L.Sq L.Want) (sh:L.Sheet) {g:Int} (r:L.Area) (P:Nat->L.Placed) (S:List L.Score) (h:1 <= g) (h1:L.isOne g=true):L.layP w sh g r P S=L.oneP w sh (L.ix1 g) r P/\L.layS w sh g r P S=L.oneQ w sh (L.ix1 g) r S:=by
 unfold L.layP L.layS;rw [layF_1 w sh r _ h h1];exact ⟨rfl,rfl⟩
theorem layPS_none (w:L.Sq L.Want) (sh:L.Sheet) {g:Int} {r:L.Area} (P:Nat->L.Placed) (S:List L.Score) (h:1 <= g) (h1:L.isOne g=false) (hd:L.dvF w sh.grain g r=none):L.layP w sh g r P S=P/\L.layS w sh g r P S=S:=by
 unfold L.layP L.layS;rw [layF_none w sh _ h h1 hd];exact ⟨rfl,rfl⟩
theorem layPS_some (w:L.Sq L.Want) (sh:L.Sheet) {g:Int} {r:L.Area} (P:Nat->L.Placed) (S:List L.Score) (h:1 <= g) (h15:g <= 15) (h1:L.isOne g=false) {k j:Nat} (hd:L.dvF w sh.grain g r=some (k,j)) :
  L.layP w sh g r P S=L.layP w sh (L.cmp_ g k) (L.divB r (L.dvU r j) (L.dvI r j)) (L.layP w sh (L.part g k) (L.divA r (L.dvU r j) (L.dvI r j)) P (L.snocC S (L.splt r sh.id (L.dvU r j) (L.dvI r j)))) (L.layS w sh (L.part g k) (L.divA r (L.dvU r j) (L.dvI r j)) P (L.snocC S (L.splt r sh.id (L.dvU r j) (L.dvI r j)))) /\
  L.layS w sh g r P S=L.layS w sh (L.cmp_ g k) (L.divB r (L.dvU r j) (L.dvI r j)) (L.layP w sh (L.part g k) (L.divA r (L.dvU r j) (L.dvI r j)) P (L.snocC S (L.splt r sh.id (L.dvU r j) (L.dvI r j)))) (L.layS w sh (L.part g k) (L.divA r (L.dvU r j) (L.dvI r j)) P (L.snocC S (L.splt r sh.id (L.dvU r j) (L.dvI r j)))):=by
 unfold L.layP L.layS
 rw [layF_some w sh _ h h15 h1 hd]
 dsimp only
 generalize L.layF w sh (L.part g k) (L.divA r (L.dvU r j) (L.dvI r j)) _=X
 cases X
 exact ⟨rfl,rfl⟩
theorem layS_len (w:L.Sq L.Want) (sh:L.Sheet) (g:Int) (r:L.Area) (P:Nat->L.Placed) (S:List L.Score) (h0:0 <= g) (h15:g <= 15):(L.layS w sh g r P S).length <= S.length+(3 * g - 1).toNat:=layF_len w sh g r ⟨P,S⟩ h0 h15
section
attribute [local irreducible] L.part L.iandNot L.iand L.ior L.all L.lay L.layF L.roomB L.tabF L.tab L.oneP L.oneQ L.ix1 L.partN L.dvF
abbrev c_lay_mk:Mk:={ T:=(L.Sq L.Want) × (L.Sheet) × (Int->Bool) × (Nat->L.Placed) × (List L.Score) × (Int) × (L.Area),U:=Int->Bool,args:=fun t=>(fun w sh dom P S g r=>[.loc 1002 0,.p (.int .i64 g),.p ((.agg [.int .i64 r.at_.x,.int .i64 r.at_.y,.int .i64 r.size.w,.int .i64 r.size.h]))]) t.1 t.2.1 t.2.2.1 t.2.2.2.1 t.2.2.2.2.1 t.2.2.2.2.2.1 t.2.2.2.2.2.2,lkeys:=[1000,1001,1002,1003,1004],keys:=[],lent:=fun t=>(fun w sh dom P S g r=>[(1000,.blk 162 [.p ((.sl 4 w.n (fun i=>[.int .i64 ((w.g i).id),.int .i64 ((w.g i).colour),.int .i64 ((w.g i).grain),.sl 2 (w.g i).ol.n (fun i1=>[.int .i64 (((w.g i).ol.g i1).x),.int .i64 (((w.g i).ol.g i1).y)])]))),.p (.int .i64 sh.grain),.mapv 1001]),(1001,.mq 3 27 dom (L.memo (L.tabF w sh.grain))),(1002,.blk 117 [.loc 1000 0,.p (.int .i64 sh.id),.p (.int .i64 sh.colour),.p (.int .i64 sh.w),.p (.int .i64 sh.h),.p (.int .i64 sh.grain),.row 1003,.row 1004]),(1003,.row 57 5 w.n (fun k=>[.int .i64 ((P k).want),.int .i64 ((P k).sheet),.int .i64 ((P k).turn),.int .i64 ((P k).at_.x),.int .i64 ((P k).at_.y)])),(1004,.row 125 4 (L.sqC (S)).n (fun k=>L.scC ((L.sqC (S)).g k)))]) t.1 t.2.1 t.2.2.1 t.2.2.2.1 t.2.2.2.2.1 t.2.2.2.2.2.1 t.2.2.2.2.2.2,pre:=fun t=>(fun w sh dom P S g r=>L.okW w/\0 <= g/\g <= L.all w.n/\L.okA r/\(L.sqC S).n+3 * g.toNat <= 1000) t.1 t.2.1 t.2.2.1 t.2.2.2.1 t.2.2.2.2.1 t.2.2.2.2.2.1 t.2.2.2.2.2.2,post:=fun t u=>(fun w sh dom P S g r=>fun u=>True) t.1 t.2.1 t.2.2.1 t.2.2.2.1 t.2.2.2.2.1 t.2.2.2.2.2.1 t.2.2.2.2.2.2 u,lent':=fun t u=>(fun w sh dom P S g r=>fun u=>[(1000,.blk 162 [.p ((.sl 4 w.n (fun i=>[.int .i64 ((w.g i).id),.int .i64 ((w.g i).colour),.int .i64 ((w.g i).grain),.sl 2 (w.g i).ol.n (fun i1=>[.int .i64 (((w.g i).ol.g i1).x),.int .i64 (((w.g i).ol.g i1).y)])]))),.p (.int .i64 sh.grain),.mapv 1001]),(1001,.mq 3 27 u (L.memo (L.tabF w sh.grain))),(1002,.blk 117 [.loc 1000 0,.p (.int .i64 sh.id),.p (.int .i64 sh.colour),.p (.int .i64 sh.w),.p (.int .i64 sh.h),.p (.int .i64 sh.grain),.row 1003,.row 1004]),(1003,.row 57 5 w.n (fun k=>[.int .i64 (((L.layP w sh g r P S) k).want),.int .i64 (((L.layP w sh g r P S) k).sheet),.int .i64 (((L.layP w sh g r P S) k).turn),.int .i64 (((L.layP w sh g r P S) k).at_.x),.int .i64 (((L.layP w sh g r P S) k).at_.y)])),(1004,.row 125 4 (L.sqC (L.layS w sh g r P S)).n (fun k=>L.scC ((L.sqC (L.layS w sh g r P S)).g k)))]) t.1 t.2.1 t.2.2.1 t.2.2.2.1 t.2.2.2.2.1 t.2.2.2.2.2.1 t.2.2.2.2.2.2 u,own:=fun t u=>(fun w sh dom P S g r=>fun u=>[]) t.1 t.2.1 t.2.2.1 t.2.2.2.1 t.2.2.2.2.1 t.2.2.2.2.2.1 t.2.2.2.2.2.2 u,res:=fun t u=>(fun w sh dom P S g r=>fun u=>.p (.tup [])) t.1 t.2.1 t.2.2.1 t.2.2.2.1 t.2.2.2.2.1 t.2.2.2.2.2.1 t.2.2.2.2.2.2 u,mv:=some (1004,80) }
abbrev c_lay_mu:c_lay_mk.T->Nat:=fun t=>(fun w sh dom P S g r=>g.toNat) t.1 t.2.1 t.2.2.1 t.2.2.2.1 t.2.2.2.2.1 t.2.2.2.2.2.1 t.2.2.2.2.2.2
theorem c_lay_vc (rn:Nat) (w:L.Sq L.Want) (sh:L.Sheet) (dom:Int->Bool) (P:Nat->L.Placed) (S:List L.Score) (g:Int) (r:L.Area) (hp:c_lay_mk.pre (w,sh,dom,P,S,g,r)) (hmu:g.toNat<rn+1):vc Tryz.prog ({ muts:=[3],frz:=lookN [],specs:=lookS [(114,c_parts_S),(163,c_divisions_S),(164,c_divided_S),(165,c_split_S)],loops:=lookL [(4,{ T:=Nat,keep:=[3,4,5],keepO:=[3,80,1000,1001,1002,1003],chg:=fun i=>[(6,.p (.int .i64 (i:Int)))],own:=fun _=>[],inv:=fun i=>i <= L.ix1 g,mu:=fun i=>L.ix1 g - i })],iters:=lookI [(157,c_parts1_it),(190,c_divs1_it)],rfs:=lookR [(8,{ T:=Int->Bool,keep:=[3,4,5],keepO:=[3,80,1000,1002,1003],own:=fun _ d=>[(1001,.mq 3 27 d (L.memo (L.tabF w sh.grain)))],inv:=fun k _=>k <= L.partN g /\ ∀ k1,k1<k -> ∀ j,j<L.dvN r->L.dvOk w sh.grain g r k1 j=false }),(10,{ T:=(Int->Bool) × Nat,keep:=[3,4,5,7,31],keepO:=[3,7,80,1000,1002,1003],own:=fun _ t=>[(1001,.mq 3 27 t.1 (L.memo (L.tabF w sh.grain)))],inv:=fun j t=>j <= L.dvN r/\t.2<L.partN g /\ ∀ j1,j1<j->L.dvOk w sh.grain g r t.2 j1=false,tie:=fun t=>[(31,.int .i64 (L.part g t.2))] })],nils:=lookM [],mks:=lookK [(69,c_room_mk),(162,c_one_mk),(121,Mk.lt c_lay_mk c_lay_mu rn)],ren:=fun k=>if k=1004 then 80 else k,joins:=lookL [(14,{ T:=(Int->Bool) × Bool × Int × Bool × Int,keep:=[3,4,5,7,8,9,10,11,31],keepO:=[3,7,10,11,80,1000,1002,1003],chg:=fun t=>[(62,.p (.bool t.2.1))],own:=fun t=>[(1001,.mq 3 27 t.1 (L.memo (L.tabF w sh.grain)))],inv:=fun t=>t.2.1=L.dvOkV w sh.grain g r t.2.2.1 t.2.2.2.1 t.2.2.2.2,mu:=fun _=>0,tie:=fun t=>[(8,.bool t.2.2.2.1),(9,.int .i64 t.2.2.2.2),(31,.int .i64 t.2.2.1)] }),(15,{ T:=Bool × Int,keep:=[3,4,5,7,8,9,10,11,31],keepO:=[3,7,10,11,1000,1001,1002,1003],chg:=fun _=>[],own:=fun t=>[(80,.row 125 4 (L.sqC ((L.snocC S (L.splt r sh.id t.1 t.2)))).n (fun k=>L.scC ((L.sqC ((L.snocC S (L.splt r sh.id t.1 t.2)))).g k)))],inv:=fun _=>True,mu:=fun _=>0,tie:=fun t=>[(8,.bool t.1),(9,.int .i64 t.2)] })],anys:=[1013,1014],rek:=lookR2 [(1,[(1004,80)])] }) (bodyOf Tryz.f121) (stTr Tryz.f121 (c_lay_mk.args (w,sh,dom,P,S,g,r)) (c_lay_mk.lent (w,sh,dom,P,S,g,r))) (retMk Tryz.prog Tryz.f121 c_lay_mk (w,sh,dom,P,S,g,r)) :=
 @Eq.mpr _ (let I:=SV.int .i64;let T:=Int.toNat;let A68:=(1:Nat);let A67:=(1000:Nat);let A65:=(140737488355328:Nat);let A54:=(1:Int);let A34:=(0:Int);let A29:=(nat_lit 7);let A27:=(0:Nat);let A26:=(nat_lit 31);let A25:=(2:Nat);let A22:=(L.sqC S);let A19:=(L.sqC (L.layS w sh g r P S));let A33:=(A22.n=A19.n /\ ∀ (i:Nat),i<A22.n->L.scC (A22.g i)=L.scC (A19.g i));let A16:=(w.n=w.n /\ ∀ (i:Nat),let A30:=(L.layP w sh g r P S i);i<w.n -> [I (P i).want,I (P i).sheet,I (P i).turn,I (P i).at_.x,I (P i).at_.y] = [I A30.want,I A30.sheet,I A30.turn,I A30.at_.x,I A30.at_.y]);let A15:=(nat_lit 0);let A13:=(nat_lit 3);let A12:=(nat_lit 4);let A11:=(nat_lit 5);let A9:=(L.tabF w sh.grain);let A24:=(∀ (x:Int),dom x=true->L.memo A9 x=L.memo A9 x);let A6:=(A22.n=A22.n /\ ∀ (i:Nat),i<A22.n->L.scC (A22.g i)=L.scC (A22.g i));let A5:=[I r.at_.x,I r.at_.y,I r.size.w,I r.size.h];let A2:=(w.n=w.n /\ ∀ (i:Nat),let A35:=[I (P i).want,I (P i).sheet,I (P i).turn,I (P i).at_.x,I (P i).at_.y];i<w.n->A35=A35);let A1:=(w.n=w.n /\ ∀ (i:Nat),let A21:=[I (w.g i).id,I (w.g i).colour,I (w.g i).grain,SV.sl A25 (w.g i).ol.n fun (i1:Nat)=>[I ((w.g i).ol.g i1).x,I ((w.g i).ol.g i1).y]];i<w.n->A21=A21);(decide (g=A34)=true -> ∃ (u:Int->Bool),A1/\sh.grain=sh.grain/\(∀ (x:Int),dom x=u x)/\A24/\nat_lit 0=A27/\sh.id=sh.id/\sh.colour=sh.colour/\sh.w=sh.w/\sh.h=sh.h/\sh.grain=sh.grain/\A16/\A33/\True)/\(decide (g=A34)=false->InK .i64 (g - A54)/\(decide (L.iand g (g - A54)=A34)=true->(∃ (g_1:Nat),A34=(↑g_1:Int)/\g_1 <= L.ix1 g) /\ ∀ (g_1:Nat),let A41:=(↑g_1:Int);g_1 <= L.ix1 g->A34 <= A41/\(decide (A54<L.ishr g A41)=true->InK .i64 (A41+A54) /\ ∃ (g':Nat),A41+A54=(↑g':Int)/\SV.ref A5 A15=SV.ref A5 A15/\SV.ref [I g] A15=SV.ref [I g] A15/\nat_lit 0=nat_lit 0/\nat_lit 0=nat_lit 0/\A1/\sh.grain=sh.grain/\(∀ (x:Int),dom x=dom x)/\A24/\nat_lit 0=nat_lit 0/\sh.id=sh.id/\sh.colour=sh.colour/\sh.w=sh.w/\sh.h=sh.h/\sh.grain=sh.grain/\A2/\A6/\g' <= L.ix1 g/\L.ix1 g - g'<L.ix1 g - g_1)/\(decide (A54<L.ishr g A41)=false -> ∃ (t:L.Sq L.Want × L.Sheet × (Int->Bool) × (Nat->L.Placed) × List L.Score × Nat × L.Area),let A61:=(L.tabF t.1 t.2.1.grain);let A44:=(L.sqC t.snd.snd.snd.2.1);let A20:=(L.sqC (L.oneQ t.1 t.2.1 t.snd.snd.snd.snd.2.1 t.snd.snd.snd.snd.2.2 t.snd.snd.snd.2.1));nat_lit 0=A27/\A41=(↑t.snd.snd.snd.snd.2.1:Int)/\SV.agg A5=SV.agg [I t.snd.snd.snd.snd.2.2.at_.x,I t.snd.snd.snd.snd.2.2.at_.y,I t.snd.snd.snd.snd.2.2.size.w,I t.snd.snd.snd.snd.2.2.size.h]/\(w.n=t.1.n /\ ∀ (i:Nat),let A55:=(t.1.g i);i<w.n -> [I (w.g i).id,I (w.g i).colour,I (w.g i).grain,SV.sl A25 (w.g i).ol.n fun (i1:Nat)=>[I ((w.g i).ol.g i1).x,I ((w.g i).ol.g i1).y]] = [I A55.id,I A55.colour,I A55.grain,SV.sl A25 A55.ol.n fun (i1:Nat)=>[I (A55.ol.g i1).x,I (A55.ol.g i1).y]])/\sh.grain=t.2.1.grain/\(∀ (x:Int),dom x=t.snd.2.1 x)/\(∀ (x:Int),dom x=true->L.memo A9 x=L.memo A61 x)/\nat_lit 0=A27/\sh.id=t.2.1.id/\sh.colour=t.2.1.colour/\sh.w=t.2.1.w/\sh.h=t.2.1.h/\sh.grain=t.2.1.grain/\(w.n=t.1.n /\ ∀ (i:Nat),let A37:=(t.snd.snd.2.1 i);i<w.n -> [I (P i).want,I (P i).sheet,I (P i).turn,I (P i).at_.x,I (P i).at_.y] = [I A37.want,I A37.sheet,I A37.turn,I A37.at_.x,I A37.at_.y])/\(A22.n=A44.n /\ ∀ (i:Nat),i<A22.n->L.scC (A22.g i)=L.scC (A44.g i))/\(t.snd.snd.snd.snd.2.1<t.1.n/\t.1.n <= (4:Nat)/\(t.1.g t.snd.snd.snd.snd.2.1).ol.n <= (1000000:Nat)/\L.okA t.snd.snd.snd.snd.2.2/\A44.n <= A67) /\ ∀ (u:Nat),True -> ∃ (u:Int->Bool),(t.1.n=w.n /\ ∀ (i:Nat),let A56:=(t.1.g i);i<t.1.n -> [I A56.id,I A56.colour,I A56.grain,SV.sl A25 A56.ol.n fun (i1:Nat)=>[I (A56.ol.g i1).x,I (A56.ol.g i1).y]] = [I (w.g i).id,I (w.g i).colour,I (w.g i).grain,SV.sl A25 (w.g i).ol.n fun (i1:Nat)=>[I ((w.g i).ol.g i1).x,I ((w.g i).ol.g i1).y]])/\t.2.1.grain=sh.grain/\(∀ (x:Int),t.snd.2.1 x=u x)/\(∀ (x:Int),t.snd.2.1 x=true->L.memo A61 x=L.memo A9 x)/\nat_lit 0=A27/\t.2.1.id=sh.id/\t.2.1.colour=sh.colour/\t.2.1.w=sh.w/\t.2.1.h=sh.h/\t.2.1.grain=sh.grain/\(t.1.n=w.n /\ ∀ (i:Nat),let A31:=(L.layP w sh g r P S i);let A14:=(L.oneP t.1 t.2.1 t.snd.snd.snd.snd.2.1 t.snd.snd.snd.snd.2.2 t.snd.snd.2.1 i);i<t.1.n -> [I A14.want,I A14.sheet,I A14.turn,I A14.at_.x,I A14.at_.y] = [I A31.want,I A31.sheet,I A31.turn,I A31.at_.x,I A31.at_.y])/\(A20.n=A19.n /\ ∀ (i:Nat),i<A20.n->L.scC (A20.g i)=L.scC (A19.g i))/\True))/\(decide (L.iand g (g - A54)=A34)=false->True/\((A34 <= g/\g <= (15:Int)) /\ ∃ (t:Int->Bool),(∀ (x:Int),dom x=t x)/\A24/\nat_lit 0=nat_lit 0/\A1/\sh.grain=sh.grain/\nat_lit 0=nat_lit 0/\sh.id=sh.id/\sh.colour=sh.colour/\sh.w=sh.w/\sh.h=sh.h/\sh.grain=sh.grain/\A2/\A6/\A27 <= L.partN g /\ ∀ (k1:Nat),k1<A27 -> ∀ (j:Nat),j<L.dvN r->L.dvOk w sh.grain g r k1 j=false)/\(∀ (k:Nat) (t:Int->Bool) (vk:Nat->Go.Value),k<L.partN g->(k <= L.partN g /\ ∀ (k1:Nat),k1<k -> ∀ (j:Nat),j<L.dvN r->L.dvOk w sh.grain g r k1 j=false)->True/\(L.okA r /\ ∃ (t_1:(Int->Bool) × Nat),(∀ (x:Int),t x=t_1.1 x)/\(∀ (x:Int),t x=true->L.memo A9 x=L.memo A9 x)/\L.part g k=L.part g k/\nat_lit 0=nat_lit 0/\A1/\sh.grain=sh.grain/\nat_lit 0=nat_lit 0/\sh.id=sh.id/\sh.colour=sh.colour/\sh.w=sh.w/\sh.h=sh.h/\sh.grain=sh.grain/\A2/\A6/\L.part g k=L.part g t_1.2/\A27 <= L.dvN r/\t_1.2<L.partN g /\ ∀ (j1:Nat),j1<A27->L.dvOk w sh.grain g r t_1.2 j1=false)/\(∀ (k_1:Nat) (t_1:(Int->Bool) × Nat) (vk_1:Nat->Go.Value),let A64:=(L.dvI r k_1);let A63:=(L.dvU r k_1);let A39:=(L.okA r/\A34 <= L.dvI r k_1/\L.dvI r k_1 <= (4096:Int));let A7:=(L.splt r sh.id A63 A64);let A4:=(L.divB r A63 A64);let A3:=(L.divA r A63 A64);k_1<L.dvN r->(L.part g k=L.part g t_1.2/\k_1 <= L.dvN r/\t_1.2<L.partN g /\ ∀ (j1:Nat),j1<k_1->L.dvOk w sh.grain g r t_1.2 j1=false)->A39/\(∃ (t_2:L.Sq L.Want × Int × (Int->Bool) × Int × L.Size),let A53:=(L.tabF t_2.1 t_2.2.1);nat_lit 0=A27/\L.part g k=t_2.snd.snd.2.1/\SV.agg [I A3.size.w,I A3.size.h]=SV.agg [I t_2.snd.snd.2.2.w,I t_2.snd.snd.2.2.h]/\(w.n=t_2.1.n /\ ∀ (i:Nat),let A46:=(t_2.1.g i);i<w.n -> [I (w.g i).id,I (w.g i).colour,I (w.g i).grain,SV.sl A25 (w.g i).ol.n fun (i1:Nat)=>[I ((w.g i).ol.g i1).x,I ((w.g i).ol.g i1).y]] = [I A46.id,I A46.colour,I A46.grain,SV.sl A25 A46.ol.n fun (i1:Nat)=>[I (A46.ol.g i1).x,I (A46.ol.g i1).y]])/\sh.grain=t_2.2.1/\(∀ (x:Int),t_1.1 x=t_2.snd.2.1 x)/\(∀ (x:Int),t_1.1 x=true->L.memo A9 x=L.memo A53 x)/\(L.okW t_2.1/\A34 <= t_2.snd.snd.2.1/\t_2.snd.snd.2.1 <= L.all t_2.1.n) /\ ∀ (u:Int->Bool),True->(L.roomB t_2.1 t_2.2.1 t_2.snd.snd.2.1 t_2.snd.snd.2.2=true -> ∃ (t_3:L.Sq L.Want × Int × (Int->Bool) × Int × L.Size),let A66:=(L.tabF t_3.1 t_3.2.1);nat_lit 0=A27/\L.iandNot g (L.part g k)=t_3.snd.snd.2.1/\SV.agg [I A4.size.w,I A4.size.h]=SV.agg [I t_3.snd.snd.2.2.w,I t_3.snd.snd.2.2.h]/\(t_2.1.n=t_3.1.n /\ ∀ (i:Nat),let A48:=(t_3.1.g i);let A47:=(t_2.1.g i);i<t_2.1.n -> [I A47.id,I A47.colour,I A47.grain,SV.sl A25 A47.ol.n fun (i1:Nat)=>[I (A47.ol.g i1).x,I (A47.ol.g i1).y]] = [I A48.id,I A48.colour,I A48.grain,SV.sl A25 A48.ol.n fun (i1:Nat)=>[I (A48.ol.g i1).x,I (A48.ol.g i1).y]])/\t_2.2.1=t_3.2.1/\(∀ (x:Int),u x=t_3.snd.2.1 x)/\(∀ (x:Int),u x=true->L.memo A53 x=L.memo A66 x)/\(L.okW t_3.1/\A34 <= t_3.snd.snd.2.1/\t_3.snd.snd.2.1 <= L.all t_3.1.n) /\ ∀ (u:Int->Bool),True -> ∃ (g_1:(Int->Bool) × Bool × Int × Bool × Int),(bif L.roomB t_2.1 t_2.2.1 t_2.snd.snd.2.1 t_2.snd.snd.2.2 then L.roomB t_3.1 t_3.2.1 t_3.snd.snd.2.1 t_3.snd.snd.2.2 else false)=g_1.2.1/\nat_lit 0=nat_lit 0/\nat_lit 0=nat_lit 0/\L.dvI r k_1=L.dvI r k_1/\L.dvU r k_1=L.dvU r k_1/\nat_lit 0=nat_lit 0/\L.part g k=L.part g k/\SV.ref A5 A15=SV.ref A5 A15/\SV.ref [I g] A15=SV.ref [I g] A15/\nat_lit 0=nat_lit 0/\vk A11=vk A11/\vk A12=vk A12/\vk A13=vk A13/\vk_1 A29=vk_1 A29/\vk_1 A26=vk_1 A26/\vk_1 A11=vk_1 A11/\vk_1 A12=vk_1 A12/\vk_1 A13=vk_1 A13/\vk_1 A11=vk_1 A11/\vk_1 A12=vk_1 A12/\vk_1 A13=vk_1 A13/\(∀ (x:Int),u x=g_1.1 x)/\(∀ (x:Int),u x=true->L.memo A66 x=L.memo A9 x)/\A4.at_.x=A4.at_.x/\A4.at_.y=A4.at_.y/\A4.size.w=A4.size.w/\A4.size.h=A4.size.h/\A3.at_.x=A3.at_.x/\A3.at_.y=A3.at_.y/\A3.size.w=A3.size.w/\A3.size.h=A3.size.h/\L.part g k=L.part g k/\nat_lit 0=nat_lit 0/\(t_3.1.n=w.n /\ ∀ (i:Nat),let A49:=(t_3.1.g i);i<t_3.1.n -> [I A49.id,I A49.colour,I A49.grain,SV.sl A25 A49.ol.n fun (i1:Nat)=>[I (A49.ol.g i1).x,I (A49.ol.g i1).y]] = [I (w.g i).id,I (w.g i).colour,I (w.g i).grain,SV.sl A25 (w.g i).ol.n fun (i1:Nat)=>[I ((w.g i).ol.g i1).x,I ((w.g i).ol.g i1).y]])/\t_3.2.1=sh.grain/\nat_lit 0=nat_lit 0/\sh.id=sh.id/\sh.colour=sh.colour/\sh.w=sh.w/\sh.h=sh.h/\sh.grain=sh.grain/\A2/\A6/\L.dvU r k_1=g_1.snd.snd.2.1/\L.dvI r k_1=g_1.snd.snd.2.2/\L.part g k=g_1.snd.2.1/\g_1.2.1=L.dvOkV w sh.grain g r g_1.snd.2.1 g_1.snd.snd.2.1 g_1.snd.snd.2.2)/\(L.roomB t_2.1 t_2.2.1 t_2.snd.snd.2.1 t_2.snd.snd.2.2=false -> ∃ (g_1:(Int->Bool) × Bool × Int × Bool × Int),(bif L.roomB t_2.1 t_2.2.1 t_2.snd.snd.2.1 t_2.snd.snd.2.2 then false else false)=g_1.2.1/\nat_lit 0=nat_lit 0/\nat_lit 0=nat_lit 0/\L.dvI r k_1=L.dvI r k_1/\L.dvU r k_1=L.dvU r k_1/\nat_lit 0=nat_lit 0/\L.part g k=L.part g k/\SV.ref A5 A15=SV.ref A5 A15/\SV.ref [I g] A15=SV.ref [I g] A15/\nat_lit 0=nat_lit 0/\vk A11=vk A11/\vk A12=vk A12/\vk A13=vk A13/\vk_1 A29=vk_1 A29/\vk_1 A26=vk_1 A26/\vk_1 A11=vk_1 A11/\vk_1 A12=vk_1 A12/\vk_1 A13=vk_1 A13/\vk_1 A11=vk_1 A11/\vk_1 A12=vk_1 A12/\vk_1 A13=vk_1 A13/\(∀ (x:Int),u x=g_1.1 x)/\(∀ (x:Int),u x=true->L.memo A53 x=L.memo A9 x)/\A4.at_.x=A4.at_.x/\A4.at_.y=A4.at_.y/\A4.size.w=A4.size.w/\A4.size.h=A4.size.h/\A3.at_.x=A3.at_.x/\A3.at_.y=A3.at_.y/\A3.size.w=A3.size.w/\A3.size.h=A3.size.h/\L.part g k=L.part g k/\nat_lit 0=nat_lit 0/\(t_2.1.n=w.n /\ ∀ (i:Nat),let A50:=(t_2.1.g i);i<t_2.1.n -> [I A50.id,I A50.colour,I A50.grain,SV.sl A25 A50.ol.n fun (i1:Nat)=>[I (A50.ol.g i1).x,I (A50.ol.g i1).y]] = [I (w.g i).id,I (w.g i).colour,I (w.g i).grain,SV.sl A25 (w.g i).ol.n fun (i1:Nat)=>[I ((w.g i).ol.g i1).x,I ((w.g i).ol.g i1).y]])/\t_2.2.1=sh.grain/\nat_lit 0=nat_lit 0/\sh.id=sh.id/\sh.colour=sh.colour/\sh.w=sh.w/\sh.h=sh.h/\sh.grain=sh.grain/\A2/\A6/\L.dvU r k_1=g_1.snd.snd.2.1/\L.dvI r k_1=g_1.snd.snd.2.2/\L.part g k=g_1.snd.2.1/\g_1.2.1=L.dvOkV w sh.grain g r g_1.snd.2.1 g_1.snd.snd.2.1 g_1.snd.snd.2.2)) /\ ∀ (g_1:(Int->Bool) × Bool × Int × Bool × Int),let A59:=(∀ (x:Int),g_1.1 x=g_1.1 x);let A23:=(∀ (x:Int),g_1.1 x=true->L.memo A9 x=L.memo A9 x);L.dvU r k_1=g_1.snd.snd.2.1/\L.dvI r k_1=g_1.snd.snd.2.2/\L.part g k=g_1.snd.2.1/\g_1.2.1=L.dvOkV w sh.grain g r g_1.snd.2.1 g_1.snd.snd.2.1 g_1.snd.snd.2.2->(g_1.2.1=true->(A39/\((A22.n+nat_lit 1) * nat_lit 48 <= A65 /\ ∃ (g_2:Bool × Int),let A42:=(L.sqC (L.snocC S (L.splt r sh.id g_2.1 g_2.2)));nat_lit 0=nat_lit 0/\nat_lit 0=nat_lit 0/\L.dvI r k_1=L.dvI r k_1/\L.dvU r k_1=L.dvU r k_1/\nat_lit 0=nat_lit 0/\L.part g k=L.part g k/\SV.ref A5 A15=SV.ref A5 A15/\SV.ref [I g] A15=SV.ref [I g] A15/\nat_lit 0=nat_lit 0/\vk A11=vk A11/\vk A12=vk A12/\vk A13=vk A13/\vk_1 A29=vk_1 A29/\vk_1 A26=vk_1 A26/\vk_1 A11=vk_1 A11/\vk_1 A12=vk_1 A12/\vk_1 A13=vk_1 A13/\vk_1 A11=vk_1 A11/\vk_1 A12=vk_1 A12/\vk_1 A13=vk_1 A13/\(A22.n+nat_lit 1=A42.n /\ ∀ (i:Nat),i<A22.n+nat_lit 1->appGet A22.n (fun (k:Nat)=>L.scC (A22.g k)) (fun (x:Nat)=>[I A7.sheet,I A7.kind,I A7.want,SV.sl (nat_lit 2) A7.pts.n fun (i:Nat)=>[I (A7.pts.g i).x,I (A7.pts.g i).y]]) i=L.scC (A42.g i))/\A59/\A23/\A4.at_.x=A4.at_.x/\A4.at_.y=A4.at_.y/\A4.size.w=A4.size.w/\A4.size.h=A4.size.h/\A3.at_.x=A3.at_.x/\A3.at_.y=A3.at_.y/\A3.size.w=A3.size.w/\A3.size.h=A3.size.h/\L.part g k=L.part g k/\nat_lit 0=nat_lit 0/\A1/\sh.grain=sh.grain/\nat_lit 0=nat_lit 0/\sh.id=sh.id/\sh.colour=sh.colour/\sh.w=sh.w/\sh.h=sh.h/\sh.grain=sh.grain/\A2/\L.dvU r k_1=g_2.1/\L.dvI r k_1=g_2.2/\True)/\(A22.n+nat_lit 1) * nat_lit 48 <= A65 /\ ∃ (g_2:Bool × Int),let A43:=(L.sqC (L.snocC S (L.splt r sh.id g_2.1 g_2.2)));nat_lit 0=nat_lit 0/\nat_lit 0=nat_lit 0/\L.dvI r k_1=L.dvI r k_1/\L.dvU r k_1=L.dvU r k_1/\nat_lit 0=nat_lit 0/\L.part g k=L.part g k/\SV.ref A5 A15=SV.ref A5 A15/\SV.ref [I g] A15=SV.ref [I g] A15/\nat_lit 0=nat_lit 0/\vk A11=vk A11/\vk A12=vk A12/\vk A13=vk A13/\vk_1 A29=vk_1 A29/\vk_1 A26=vk_1 A26/\vk_1 A11=vk_1 A11/\vk_1 A12=vk_1 A12/\vk_1 A13=vk_1 A13/\vk_1 A11=vk_1 A11/\vk_1 A12=vk_1 A12/\vk_1 A13=vk_1 A13/\(A22.n+nat_lit 1=A43.n /\ ∀ (i:Nat),i<A22.n+nat_lit 1->appGet A22.n (fun (k:Nat)=>L.scC (A22.g k)) (fun (x:Nat)=>[I A7.sheet,I A7.kind,I A7.want,SV.sl (nat_lit 2) A7.pts.n fun (i:Nat)=>[I (A7.pts.g i).x,I (A7.pts.g i).y]]) i=L.scC (A43.g i))/\A59/\A23/\A4.at_.x=A4.at_.x/\A4.at_.y=A4.at_.y/\A4.size.w=A4.size.w/\A4.size.h=A4.size.h/\A3.at_.x=A3.at_.x/\A3.at_.y=A3.at_.y/\A3.size.w=A3.size.w/\A3.size.h=A3.size.h/\L.part g k=L.part g k/\nat_lit 0=nat_lit 0/\A1/\sh.grain=sh.grain/\nat_lit 0=nat_lit 0/\sh.id=sh.id/\sh.colour=sh.colour/\sh.w=sh.w/\sh.h=sh.h/\sh.grain=sh.grain/\A2/\L.dvU r k_1=g_2.1/\L.dvI r k_1=g_2.2/\True) /\ ∀ (g_2:Bool × Int),let A28:=(L.sqC (L.snocC S (L.splt r sh.id g_2.1 g_2.2)));L.dvU r k_1=g_2.1/\L.dvI r k_1=g_2.2/\True -> ∃ (t:L.Sq L.Want × L.Sheet × (Int->Bool) × (Nat->L.Placed) × List L.Score × Int × L.Area),let A62:=(L.tabF t.1 t.2.1.grain);let A45:=(L.sqC t.snd.snd.snd.2.1);let A18:=(L.sqC (L.layS t.1 t.2.1 t.snd.snd.snd.snd.2.1 t.snd.snd.snd.snd.2.2 t.snd.snd.2.1 t.snd.snd.snd.2.1));nat_lit 0=A27/\L.part g k=t.snd.snd.snd.snd.2.1/\SV.agg [I A3.at_.x,I A3.at_.y,I A3.size.w,I A3.size.h]=SV.agg [I t.snd.snd.snd.snd.2.2.at_.x,I t.snd.snd.snd.snd.2.2.at_.y,I t.snd.snd.snd.snd.2.2.size.w,I t.snd.snd.snd.snd.2.2.size.h]/\(w.n=t.1.n /\ ∀ (i:Nat),let A57:=(t.1.g i);i<w.n -> [I (w.g i).id,I (w.g i).colour,I (w.g i).grain,SV.sl A25 (w.g i).ol.n fun (i1:Nat)=>[I ((w.g i).ol.g i1).x,I ((w.g i).ol.g i1).y]] = [I A57.id,I A57.colour,I A57.grain,SV.sl A25 A57.ol.n fun (i1:Nat)=>[I (A57.ol.g i1).x,I (A57.ol.g i1).y]])/\sh.grain=t.2.1.grain/\(∀ (x:Int),g_1.1 x=t.snd.2.1 x)/\(∀ (x:Int),g_1.1 x=true->L.memo A9 x=L.memo A62 x)/\nat_lit 0=A27/\sh.id=t.2.1.id/\sh.colour=t.2.1.colour/\sh.w=t.2.1.w/\sh.h=t.2.1.h/\sh.grain=t.2.1.grain/\(w.n=t.1.n /\ ∀ (i:Nat),let A38:=(t.snd.snd.2.1 i);i<w.n -> [I (P i).want,I (P i).sheet,I (P i).turn,I (P i).at_.x,I (P i).at_.y] = [I A38.want,I A38.sheet,I A38.turn,I A38.at_.x,I A38.at_.y])/\(A28.n=A45.n /\ ∀ (i:Nat),i<A28.n->L.scC (A28.g i)=L.scC (A45.g i))/\((L.okW t.1/\A34 <= t.snd.snd.snd.snd.2.1/\t.snd.snd.snd.snd.2.1 <= L.all t.1.n/\L.okA t.snd.snd.snd.snd.2.2/\A45.n+(3:Nat) * T t.snd.snd.snd.snd.2.1 <= A67)/\T t.snd.snd.snd.snd.2.1<rn) /\ ∀ (u:Int->Bool),True -> ∃ (t_2:L.Sq L.Want × L.Sheet × (Int->Bool) × (Nat->L.Placed) × List L.Score × Int × L.Area),let A60:=(L.tabF t_2.1 t_2.2.1.grain);let A40:=(L.sqC t_2.snd.snd.snd.2.1);let A17:=(L.sqC (L.layS t_2.1 t_2.2.1 t_2.snd.snd.snd.snd.2.1 t_2.snd.snd.snd.snd.2.2 t_2.snd.snd.2.1 t_2.snd.snd.snd.2.1));nat_lit 0=A27/\L.iandNot g (L.part g k)=t_2.snd.snd.snd.snd.2.1/\SV.agg [I A4.at_.x,I A4.at_.y,I A4.size.w,I A4.size.h]=SV.agg [I t_2.snd.snd.snd.snd.2.2.at_.x,I t_2.snd.snd.snd.snd.2.2.at_.y,I t_2.snd.snd.snd.snd.2.2.size.w,I t_2.snd.snd.snd.snd.2.2.size.h]/\(t.1.n=t_2.1.n /\ ∀ (i:Nat),let A58:=(t.1.g i);let A51:=(t_2.1.g i);i<t.1.n -> [I A58.id,I A58.colour,I A58.grain,SV.sl A25 A58.ol.n fun (i1:Nat)=>[I (A58.ol.g i1).x,I (A58.ol.g i1).y]] = [I A51.id,I A51.colour,I A51.grain,SV.sl A25 A51.ol.n fun (i1:Nat)=>[I (A51.ol.g i1).x,I (A51.ol.g i1).y]])/\t.2.1.grain=t_2.2.1.grain/\(∀ (x:Int),u x=t_2.snd.2.1 x)/\(∀ (x:Int),u x=true->L.memo A62 x=L.memo A60 x)/\nat_lit 0=A27/\t.2.1.id=t_2.2.1.id/\t.2.1.colour=t_2.2.1.colour/\t.2.1.w=t_2.2.1.w/\t.2.1.h=t_2.2.1.h/\t.2.1.grain=t_2.2.1.grain/\(t.1.n=t_2.1.n /\ ∀ (i:Nat),let A36:=(t_2.snd.snd.2.1 i);let A10:=(L.layP t.1 t.2.1 t.snd.snd.snd.snd.2.1 t.snd.snd.snd.snd.2.2 t.snd.snd.2.1 t.snd.snd.snd.2.1 i);i<t.1.n -> [I A10.want,I A10.sheet,I A10.turn,I A10.at_.x,I A10.at_.y] = [I A36.want,I A36.sheet,I A36.turn,I A36.at_.x,I A36.at_.y])/\(A18.n=A40.n /\ ∀ (i:Nat),i<A18.n->L.scC (A18.g i)=L.scC (A40.g i))/\((L.okW t_2.1/\A34 <= t_2.snd.snd.snd.snd.2.1/\t_2.snd.snd.snd.snd.2.1 <= L.all t_2.1.n/\L.okA t_2.snd.snd.snd.snd.2.2/\A40.n+(3:Nat) * T t_2.snd.snd.snd.snd.2.1 <= A67)/\T t_2.snd.snd.snd.snd.2.1<rn) /\ ∀ (u:Int->Bool),True->nat_lit 0=nat_lit 0/\L.part g k=L.part g k/\SV.ref A5 A15=SV.ref A5 A15/\SV.ref [I g] A15=SV.ref [I g] A15/\nat_lit 0=nat_lit 0/\vk A11=vk A11/\vk A12=vk A12/\vk A13=vk A13/\vk_1 A29=vk_1 A29/\vk_1 A26=vk_1 A26/\vk_1 A11=vk_1 A11/\vk_1 A12=vk_1 A12/\vk_1 A13=vk_1 A13/\vk_1 A11=vk_1 A11/\vk_1 A12=vk_1 A12/\vk_1 A13=vk_1 A13/\SV.ref A5 A15=SV.ref A5 A15/\SV.ref [I g] A15=SV.ref [I g] A15/\nat_lit 0=nat_lit 0/\vk A11=vk A11/\vk A12=vk A12/\vk A13=vk A13 /\ ∃ (u_1:Int->Bool),(t_2.1.n=w.n /\ ∀ (i:Nat),let A52:=(t_2.1.g i);i<t_2.1.n -> [I A52.id,I A52.colour,I A52.grain,SV.sl A25 A52.ol.n fun (i1:Nat)=>[I (A52.ol.g i1).x,I (A52.ol.g i1).y]] = [I (w.g i).id,I (w.g i).colour,I (w.g i).grain,SV.sl A25 (w.g i).ol.n fun (i1:Nat)=>[I ((w.g i).ol.g i1).x,I ((w.g i).ol.g i1).y]])/\t_2.2.1.grain=sh.grain/\(∀ (x:Int),u x=u_1 x)/\(∀ (x:Int),u x=true->L.memo A60 x=L.memo A9 x)/\nat_lit 0=A27/\t_2.2.1.id=sh.id/\t_2.2.1.colour=sh.colour/\t_2.2.1.w=sh.w/\t_2.2.1.h=sh.h/\t_2.2.1.grain=sh.grain/\(t_2.1.n=w.n /\ ∀ (i:Nat),let A32:=(L.layP w sh g r P S i);let A8:=(L.layP t_2.1 t_2.2.1 t_2.snd.snd.snd.snd.2.1 t_2.snd.snd.snd.snd.2.2 t_2.snd.snd.2.1 t_2.snd.snd.snd.2.1 i);i<t_2.1.n -> [I A8.want,I A8.sheet,I A8.turn,I A8.at_.x,I A8.at_.y] = [I A32.want,I A32.sheet,I A32.turn,I A32.at_.x,I A32.at_.y])/\(A17.n=A19.n /\ ∀ (i:Nat),i<A17.n->L.scC (A17.g i)=L.scC (A19.g i))/\True)/\(g_1.2.1=false -> ∃ (t':(Int->Bool) × Nat),nat_lit 0=nat_lit 0/\L.part g k=L.part g k/\SV.ref A5 A15=SV.ref A5 A15/\SV.ref [I g] A15=SV.ref [I g] A15/\nat_lit 0=nat_lit 0/\vk A11=vk A11/\vk A12=vk A12/\vk A13=vk A13/\vk_1 A29=vk_1 A29/\vk_1 A26=vk_1 A26/\vk_1 A11=vk_1 A11/\vk_1 A12=vk_1 A12/\vk_1 A13=vk_1 A13/\vk_1 A11=vk_1 A11/\vk_1 A12=vk_1 A12/\vk_1 A13=vk_1 A13/\(∀ (x:Int),g_1.1 x=t'.1 x)/\A23/\L.part g k=L.part g k/\nat_lit 0=nat_lit 0/\A1/\sh.grain=sh.grain/\nat_lit 0=nat_lit 0/\sh.id=sh.id/\sh.colour=sh.colour/\sh.w=sh.w/\sh.h=sh.h/\sh.grain=sh.grain/\A2/\A6/\L.part g k=L.part g t'.2/\k_1+A68 <= L.dvN r/\t'.2<L.partN g /\ ∀ (j1:Nat),j1<k_1+A68->L.dvOk w sh.grain g r t'.2 j1=false)) /\ ∀ (t:(Int->Bool) × Nat),(L.part g k=L.part g t.2/\L.dvN r <= L.dvN r/\t.2<L.partN g /\ ∀ (j1:Nat),j1<L.dvN r->L.dvOk w sh.grain g r t.2 j1=false) -> ∃ (t':Int->Bool),SV.ref A5 A15=SV.ref A5 A15/\SV.ref [I g] A15=SV.ref [I g] A15/\nat_lit 0=nat_lit 0/\vk A11=vk A11/\vk A12=vk A12/\vk A13=vk A13/\(∀ (x:Int),t.1 x=t' x)/\(∀ (x:Int),t.1 x=true->L.memo A9 x=L.memo A9 x)/\nat_lit 0=nat_lit 0/\A1/\sh.grain=sh.grain/\nat_lit 0=nat_lit 0/\sh.id=sh.id/\sh.colour=sh.colour/\sh.w=sh.w/\sh.h=sh.h/\sh.grain=sh.grain/\A2/\A6/\k+A68 <= L.partN g /\ ∀ (k1:Nat),k1<k+A68 -> ∀ (j:Nat),j<L.dvN r->L.dvOk w sh.grain g r k1 j=false) /\ ∀ (t:Int->Bool),(L.partN g <= L.partN g /\ ∀ (k1:Nat),k1<L.partN g -> ∀ (j:Nat),j<L.dvN r->L.dvOk w sh.grain g r k1 j=false) -> ∃ (u:Int->Bool),A1/\sh.grain=sh.grain/\(∀ (x:Int),t x=u x)/\(∀ (x:Int),t x=true->L.memo A9 x=L.memo A9 x)/\nat_lit 0=A27/\sh.id=sh.id/\sh.colour=sh.colour/\sh.w=sh.w/\sh.h=sh.h/\sh.grain=sh.grain/\A16/\A33/\True))) (by kernel_rfl) (by
 conv=>zeta
 have hp:L.okW w/\0 <= g/\g <= L.all w.n/\L.okA r/\S.length+3 * g.toNat <= 1000:=hp
 have hmu:g.toNat<rn+1:=hmu
 obtain ⟨hok,hg0,hga,hA,hS⟩:=hp
 have hg15:g <= 15:=Int.le_trans hga (all_15 hok.1)
 have no0:∀ {p:Nat->Prop} (k:Nat),k<0->p k:=fun k h=>absurd h (Nat.not_lt_zero _)
 have f0:=layPS_0 w sh
 have f1:=fun (h:1 <= g) (h1:L.isOne g=true)=>layPS_1 w sh r P S h h1
 have fn:=fun (h:1 <= g) (h1:L.isOne g=false) (hd:L.dvF w sh.grain g r=none)=>layPS_none w sh P S h h1 hd
 have fs:=fun (h:1 <= g) (h15:g <= 15) (h1:L.isOne g=false) {k j:Nat} (hd:L.dvF w sh.grain g r=some (k,j))=>layPS_some w sh P S h h15 h1 hd
 have fl:=layS_len w sh
 generalize L.layP=lP at *
 generalize L.layS=lS at *
 refine ⟨fun h0=>?_,fun h0=>⟨InK64,fun h1=>?_,fun h1=>?_⟩⟩
 ·have h0:g=0:=of_decide_eq_true h0
  subst h0
  obtain ⟨eP,eS⟩:=f0 r P S
  rw [eP,eS]
  exact ⟨dom,(by (try dsimp only);(repeat' with_reducible apply And.intro) <;> first | with_reducible rfl | with_reducible exact fun _=>rfl | with_reducible exact fun _ _=>rfl | with_reducible exact trivial | exact rfl | (intro _;exact rfl) | (intro _ _;exact rfl) | exact trivial | (intro _ h_;exact absurd h_ (Nat.not_lt_zero _)))⟩
 ·have h0:¬ g=0:=of_decide_eq_false h0
  have hg1:1 <= g:=by omega
  have h1:L.isOne g=true:=h1
  obtain ⟨ge,gi⟩:=grp_one hg1 hg15 h1
  have gn:=ix1_lt hok.1 hg1 hga h1
  obtain ⟨eP,eS⟩:=f1 hg1 h1
  rw [eP,eS]
  refine ⟨⟨0,rfl,Nat.zero_le _⟩,fun k hk=>⟨Int.natCast_nonneg _,fun hc=>?_,fun hc=>?_⟩⟩
  ·have hc:1<L.ishr g k:=of_decide_eq_true hc
   have hlt:k<L.ix1 g:=by rw [ge] at hc;exact (shr_one gi hk).1 hc
   exact ⟨InK64,k+1,(by (try dsimp only);(repeat' with_reducible apply And.intro) <;> first | with_reducible rfl | with_reducible assumption | with_reducible exact fun _=>rfl | with_reducible exact fun _ _=>rfl | with_reducible exact trivial | exact hlt | exact rfl | (intro _;exact rfl) | (intro _ _;exact rfl) | exact (by omega) | exact trivial | (intro _ h_;exact absurd h_ (Nat.not_lt_zero _)))⟩
  ·have hc:¬ 1<L.ishr g k:=of_decide_eq_false hc
   have hke:k=L.ix1 g:=by
    rcases Nat.lt_or_ge k (L.ix1 g) with h | h
    ·exact absurd (by rw [ge];exact (shr_one gi hk).2 h) hc
    ·omega
   subst hke
   have hS1:(L.sqC S).n <= 1000:=by show S.length <= 1000;omega
   exact ⟨(w,sh,dom,P,S,L.ix1 g,r),(by (try dsimp only);(repeat' with_reducible apply And.intro) <;> first | with_reducible rfl | with_reducible assumption | with_reducible exact hok.1 | with_reducible exact (hok.2 _ gn) | with_reducible exact fun _=>rfl | with_reducible exact fun _ _=>rfl | with_reducible exact trivial | (intro _ _;exact ⟨dom,(by (try dsimp only);(repeat' with_reducible apply And.intro) <;> first | with_reducible rfl | with_reducible exact fun _=>rfl | with_reducible exact fun _ _=>rfl | with_reducible exact trivial | exact rfl | (intro _;exact rfl) | (intro _ _;exact rfl) | exact trivial | (intro _ h_;exact absurd h_ (Nat.not_lt_zero _)))⟩) | exact gn | exact hok.1 | exact (hok.2 _ gn) | exact hA | exact hS1 | exact rfl | (intro _;exact rfl) | (intro _ _;exact rfl) | exact trivial | (intro _ h_;exact absurd h_ (Nat.not_lt_zero _)))⟩
 ·have h0:¬ g=0:=of_decide_eq_false h0
  have hg1:1 <= g:=by omega
  have h1:L.isOne g=false:=h1
  obtain ⟨hp0,hpt⟩:=grp_prt hg1 hg15 h1
  refine ⟨trivial,⟨⟨hg0,hg15⟩,dom,(by (try dsimp only);(repeat' with_reducible apply And.intro) <;> first | with_reducible rfl | with_reducible exact Nat.zero_le _ | with_reducible exact fun _=>rfl | with_reducible exact fun _ _=>rfl | with_reducible exact trivial | (intro k1 h;exact absurd h (Nat.not_lt_zero _)) | exact Nat.zero_le _ | exact rfl | (intro _;exact rfl) | (intro _ _;exact rfl) | exact trivial | (intro _ h_;exact absurd h_ (Nat.not_lt_zero _)))⟩,fun k d vk hk hinv=>?_,fun d hinv=>?_⟩
  ·obtain ⟨hk1,hno⟩:=hinv
   obtain ⟨p1,p2,p3,p4,p5⟩:=hpt k hk
   refine ⟨trivial,⟨hA,(d,k),(by (try dsimp only);(repeat' with_reducible apply And.intro) <;> first | with_reducible rfl | with_reducible assumption | with_reducible exact Nat.zero_le _ | with_reducible exact fun _=>rfl | with_reducible exact fun _ _=>rfl | with_reducible exact trivial | (intro k1 h;exact absurd h (Nat.not_lt_zero _)) | exact Nat.zero_le _ | exact hk | exact rfl | (intro _;exact rfl) | (intro _ _;exact rfl) | exact trivial | (intro _ h_;exact absurd h_ (Nat.not_lt_zero _)))⟩,fun j t vk1 hj ht=>?_,fun t ht=>?_⟩
   ·obtain ⟨d1,k'⟩:=t
    obtain ⟨hkk,hj1,hk2,hno1⟩:=ht
    obtain rfl:=part_inj hg1 hg15 h1 hk hk2 hkk
    obtain ⟨b1,b2,b3,b4⟩:=dvI_bd hA hj
    obtain ⟨oA,oB⟩:=okA_div hA hj
    have c1:0 <= L.dvI r j:=by omega
    have c2:L.dvI r j <= 4096:=by omega
    have g1:L.part g k <= L.all w.n:=by omega
    have g2:L.cmp_ g k <= L.all w.n:=by omega
    refine ⟨⟨hA,c1,c2⟩,⟨(w,sh.grain,d1,L.part g k,(L.divA r (L.dvU r j) (L.dvI r j)).size),(by (try dsimp only);(repeat' with_reducible apply And.intro) <;> first | with_reducible rfl | with_reducible assumption | with_reducible exact Int.le_of_lt p1 | with_reducible exact fun _=>rfl | with_reducible exact fun _ _=>rfl | with_reducible exact trivial | (intro u _;exact ⟨fun hr1=>⟨(w,sh.grain,u,L.cmp_ g k,(L.divB r (L.dvU r j) (L.dvI r j)).size),(by (try dsimp only);(repeat' with_reducible apply And.intro) <;> first | with_reducible rfl | with_reducible assumption | with_reducible exact Int.le_of_lt p3 | with_reducible exact fun _=>rfl | with_reducible exact fun _ _=>rfl | with_reducible exact trivial | (intro u2 _;exact ⟨(u2,L.dvOk w sh.grain g r k j,L.part g k,L.dvU r j,L.dvI r j),(by (try dsimp only);(repeat' with_reducible apply And.intro) <;> first | with_reducible rfl | with_reducible exact fun _=>rfl | with_reducible exact fun _ _=>rfl | with_reducible exact trivial | exact rfl | (intro _;exact rfl) | (intro _ _;exact rfl) | exact trivial | (intro _ h_;exact absurd h_ (Nat.not_lt_zero _)))⟩) | exact hok | exact Int.le_of_lt p3 | exact g2 | exact rfl | (intro _;exact rfl) | (intro _ _;exact rfl) | exact trivial | (intro _ h_;exact absurd h_ (Nat.not_lt_zero _)))⟩,fun hr1=>⟨(u,false,L.part g k,L.dvU r j,L.dvI r j),(by (try dsimp only);(repeat' with_reducible apply And.intro) <;> first | with_reducible rfl | with_reducible exact fun _=>rfl | with_reducible exact fun _ _=>rfl | with_reducible exact trivial | exact rfl | (intro _;exact rfl) | (intro _ _;exact rfl) | exact (by rw [hr1];rfl) | exact (by show false=L.dvOk w sh.grain g r k j;unfold L.dvOk;rw [hr1];rfl) | exact trivial | (intro _ h_;exact absurd h_ (Nat.not_lt_zero _)))⟩⟩) | exact hok | exact Int.le_of_lt p1 | exact g1 | exact rfl | (intro _;exact rfl) | (intro _ _;exact rfl) | exact trivial | (intro _ h_;exact absurd h_ (Nat.not_lt_zero _)))⟩,fun x hx=>?_⟩
    obtain ⟨d2,b,p,up,by_⟩:=x
    obtain ⟨e1,e2,e3,e4⟩:=hx
    subst e1 e2 e3
    have e4:b=L.dvOk w sh.grain g r k j:=e4
    refine ⟨fun hb=>⟨?_,fun x2 hx2=>?_⟩,fun hb=>⟨(d2,k),?_⟩⟩
    ·have sz:((L.sqC S).n+1) * 48 <= 140737488355328:=by show (S.length+1) * 48 <= _;omega
     have sq1:=sqC_app (S:=S) (x:=L.splt r sh.id (L.dvU r j) (L.dvI r j)) rfl (r:=fun _=>L.scC (L.splt r sh.id (L.dvU r j) (L.dvI r j))) rfl
     repeat' with_reducible apply And.intro
     all_goals first | exact hA | exact c1 | exact c2 | exact sz | exact ⟨(L.dvU r j,L.dvI r j),(by (try dsimp only);(repeat' with_reducible apply And.intro) <;> first | with_reducible rfl | with_reducible exact sq1.1 | with_reducible exact sq1.2 | with_reducible exact fun _=>rfl | with_reducible exact fun _ _=>rfl | with_reducible exact trivial | exact sq1.1 | exact sq1.2 | exact rfl | (intro _;exact rfl) | (intro _ _;exact rfl) | exact trivial | (intro _ h_;exact absurd h_ (Nat.not_lt_zero _)))⟩
    ·obtain ⟨up2,by2⟩:=x2
     obtain ⟨e5,e6,_⟩:=hx2
     subst e5 e6
     have e4:true=L.dvOk w sh.grain g r k j:=hb ▸ e4
     have hd:=dvF_at hk hj e4.symm hno hno1
     obtain ⟨eP,eS⟩:=fs hg1 hg15 h1 hd
     have n1:(L.snocC S (L.splt r sh.id (L.dvU r j) (L.dvI r j))).length=S.length+1:=snocC_len _ _
     have l1:(L.sqC (L.snocC S (L.splt r sh.id (L.dvU r j) (L.dvI r j)))).n+3 * (L.part g k).toNat <= 1000:=by
      show (L.snocC S _).length+_ <= _
      omega
     have l2:(L.sqC (lS w sh (L.part g k) (L.divA r (L.dvU r j) (L.dvI r j)) P (L.snocC S (L.splt r sh.id (L.dvU r j) (L.dvI r j))))).n+3 * (L.cmp_ g k).toNat <= 1000:=by
      have:=fl (L.part g k) (L.divA r (L.dvU r j) (L.dvI r j)) P (L.snocC S (L.splt r sh.id (L.dvU r j) (L.dvI r j))) (by omega) (by omega)
      show (lS w sh (L.part g k) (L.divA r (L.dvU r j) (L.dvI r j)) P (L.snocC S (L.splt r sh.id (L.dvU r j) (L.dvI r j)))).length+_ <= _
      omega
     have m1:(L.part g k).toNat<rn:=by omega
     have m2:(L.cmp_ g k).toNat<rn:=by omega
     rw [eP,eS]
     exact ⟨(w,sh,d2,P,L.snocC S (L.splt r sh.id (L.dvU r j) (L.dvI r j)),L.part g k,L.divA r (L.dvU r j) (L.dvI r j)),(by (try dsimp only);(repeat' with_reducible apply And.intro) <;> first | with_reducible rfl | with_reducible assumption | with_reducible exact Int.le_of_lt p1 | with_reducible exact fun _=>rfl | with_reducible exact fun _ _=>rfl | with_reducible exact trivial | (intro u _;exact ⟨(w,sh,u,lP w sh (L.part g k) (L.divA r (L.dvU r j) (L.dvI r j)) P (L.snocC S (L.splt r sh.id (L.dvU r j) (L.dvI r j))),lS w sh (L.part g k) (L.divA r (L.dvU r j) (L.dvI r j)) P (L.snocC S (L.splt r sh.id (L.dvU r j) (L.dvI r j))),L.cmp_ g k,L.divB r (L.dvU r j) (L.dvI r j)),(by (try dsimp only);(repeat' with_reducible apply And.intro) <;> first | with_reducible rfl | with_reducible assumption | with_reducible exact Int.le_of_lt p3 | with_reducible exact fun _=>rfl | with_reducible exact fun _ _=>rfl | with_reducible exact trivial | (intro u2 _;exact (by (try dsimp only);(repeat' with_reducible apply And.intro) <;> first | with_reducible rfl | with_reducible exact fun _=>rfl | with_reducible exact fun _ _=>rfl | with_reducible exact trivial | exact ⟨u2,(by (try dsimp only);(repeat' with_reducible apply And.intro) <;> first | with_reducible rfl | with_reducible exact fun _=>rfl | with_reducible exact fun _ _=>rfl | with_reducible exact trivial | exact rfl | (intro _;exact rfl) | (intro _ _;exact rfl) | exact trivial | (intro _ h_;exact absurd h_ (Nat.not_lt_zero _)))⟩ | exact rfl | (intro _;exact rfl) | (intro _ _;exact rfl) | exact trivial | (intro _ h_;exact absurd h_ (Nat.not_lt_zero _)))) | exact hok | exact Int.le_of_lt p3 | exact g2 | exact oB | exact l2 | exact m2 | exact rfl | (intro _;exact rfl) | (intro _ _;exact rfl) | exact trivial | (intro _ h_;exact absurd h_ (Nat.not_lt_zero _)))⟩) | exact hok | exact Int.le_of_lt p1 | exact g1 | exact oA | exact l1 | exact m1 | exact rfl | (intro _;exact rfl) | (intro _ _;exact rfl) | exact trivial | (intro _ h_;exact absurd h_ (Nat.not_lt_zero _)))⟩
    ·have e4:L.dvOk w sh.grain g r k j=false:=hb ▸ e4.symm
     have nx:∀ j1,j1<j+1->L.dvOk w sh.grain g r k j1=false:=fun j1 h=>by
      rcases Nat.lt_succ_iff_lt_or_eq.1 h with h | rfl
      ·exact hno1 j1 h
      ·exact e4
     exact (by (try dsimp only);(repeat' with_reducible apply And.intro) <;> first | with_reducible rfl | with_reducible assumption | with_reducible exact fun _=>rfl | with_reducible exact fun _ _=>rfl | with_reducible exact trivial | exact hj | exact hk | exact nx | exact rfl | (intro _;exact rfl) | (intro _ _;exact rfl) | exact trivial | (intro _ h_;exact absurd h_ (Nat.not_lt_zero _)))
   ·obtain ⟨d1,k'⟩:=t
    obtain ⟨hkk,hj1,hk2,hno1⟩:=ht
    obtain rfl:=part_inj hg1 hg15 h1 hk hk2 hkk
    have nx:∀ k1,k1<k+1 -> ∀ j,j<L.dvN r->L.dvOk w sh.grain g r k1 j=false:=fun k1 h=>by
     rcases Nat.lt_succ_iff_lt_or_eq.1 h with h | rfl
     ·exact hno k1 h
     ·exact hno1
    exact ⟨d1,(by (try dsimp only);(repeat' with_reducible apply And.intro) <;> first | with_reducible rfl | with_reducible assumption | with_reducible exact fun _=>rfl | with_reducible exact fun _ _=>rfl | with_reducible exact trivial | exact hk | exact nx | exact rfl | (intro _;exact rfl) | (intro _ _;exact rfl) | exact trivial | (intro _ h_;exact absurd h_ (Nat.not_lt_zero _)))⟩
  ·have hd:L.dvF w sh.grain g r=none:=dvF_none hinv.2
   obtain ⟨eP,eS⟩:=fn hg1 h1 hd
   rw [eP,eS]
   exact ⟨d,(by (try dsimp only);(repeat' with_reducible apply And.intro) <;> first | with_reducible rfl | with_reducible exact fun _=>rfl | with_reducible exact fun _ _=>rfl | with_reducible exact trivial | exact rfl | (intro _;exact rfl) | (intro _ _;exact rfl) | exact trivial | (intro _ h_;exact absurd h_ (Nat.not_lt_zero _)))⟩)
theorem c_lay_en:Enters Tryz.prog 121:=fun args w=>by kernel_rfl
theorem c_lay_mok:MkOk Tryz.prog 121 c_lay_mk:=mk_rec c_lay_mu ⟨fun t=>rfl,fun t u=>rfl,fun t u=>rfl,fun t u=>⟨rfl,rfl,rfl⟩,.inr rfl,fun k h=>by have h:=List.mem_singleton.1 h;subst h;decide⟩ (fun rn ih=>mk_ok (n:=3) Tryz.func121 (c:=bodyOf Tryz.f121) (by kernel_rfl) mixed ⟨fun t=>rfl,fun t=>rfl,fun t u=>rfl,fun t u=>rfl,fun t u=>rfl,fun t u=>⟨rfl,rfl⟩,by kernel_rfl,by kernel_rfl⟩ (fun ⟨w,sh,dom,P,S,g,r⟩ hp=>⟨_,c_lay_vc rn w sh dom P S g r hp.1 hp.2,⟨show SpecsL Tryz.prog _ from (SpecsL.cons c_parts_ok c_parts_en (SpecsL.cons c_divisions_ok c_divisions_en (SpecsL.cons c_divided_ok c_divided_en (SpecsL.cons c_split_ok c_split_en SpecsL.nil)))),rfl,⟨show ItersL Tryz.prog _ from (ItersL.cons c_parts1_itok c_parts1_en (ItersL.cons c_divs1_itok c_divs1_en ItersL.nil)),⟨TrsOk.no1 (fun _=>rfl),⟨show MksL Tryz.prog _ from (MksL.cons c_room_mok c_room_en (MksL.cons c_one_mok c_one_en (MksL.cons ih c_lay_en MksL.nil))),FamsOk.none (fun _=>rfl)⟩⟩⟩⟩⟩))
end
end Go.Proofs.YtpgaejicfbpcmaaGreat
namespace Go.Proofs.YtpgaejicfbpcmaaGreat
open Go.SE Go.RowKit
set_option maxRecDepth 100000
set_option maxHeartbeats 40000000
set_option linter.unusedVariables false
attribute [local irreducible] vc
def L.whA (sh:L.Sheet):L.Area:=⟨⟨0,0⟩,⟨sh.w,sh.h⟩⟩
def L.noP:Nat->L.Placed:=fun _=>⟨0,0,0,⟨0,0⟩⟩
def L.laidF (w:L.Sq L.Want) (sh:L.Sheet):L.LS:=L.layF w sh (L.all w.n) (L.whA sh) ⟨L.noP,[]⟩
def L.laidP (w:L.Sq L.Want) (sh:L.Sheet):Nat->L.Placed:=(L.laidF w sh).pl
def L.laidS (w:L.Sq L.Want) (sh:L.Sheet):List L.Score:=(L.laidF w sh).sc
def L.lyE (w:L.Sq L.Want) (sh:L.Sheet):Int:=bif !decide (L.fitE w sh=0) then L.fitE w sh else bif !L.fitB w sh then 52 else 0
def L.lyPn (w:L.Sq L.Want) (sh:L.Sheet):Nat:=bif decide (L.lyE w sh=0) then w.n else 0
def L.lyS (w:L.Sq L.Want) (sh:L.Sheet):L.Sq L.Score:=L.sqC (bif decide (L.lyE w sh=0) then L.laidS w sh else [])
theorem vSheet_bd {s:L.Sheet} (h:L.vSheet s=true):1 <= s.w/\s.w <= 4096/\1 <= s.h/\s.h <= 4096/\0 <= s.grain/\s.grain <= 2/\1 <= s.id/\s.id <= 65535:=by
 unfold L.vSheet at h
 cases h1:L.within s.id 1 65535
 ·rw [h1] at h;cases h
 cases h2:L.within s.colour 1 16
 ·rw [h1,h2] at h;cases h
 cases h3:L.within s.w 1 4096
 ·rw [h1,h2,h3] at h;cases h
 cases h4:L.within s.h 1 4096
 ·rw [h1,h2,h3,h4] at h;cases h
 rw [h1,h2,h3,h4] at h
 have h:L.within s.grain 0 2=true:=h
 unfold L.within at h h1 h3 h4
 rw [Bool.and_eq_true,decide_eq_true_eq,decide_eq_true_eq] at h h1 h3 h4
 omega
theorem vSheets_of {s:L.Sq L.Sheet} (h:L.vSheets s=true) {i:Nat} (hi:i<s.n):L.vSheet (s.g i)=true:=by
 have:=allB_iff.1 h i hi
 simp only [Bool.not_eq_true'] at this
 unfold L.badAt at this
 cases h1:L.vSheet (s.g i)
 ·simp only [h1] at this;cases this
 ·rfl
theorem okA_wh {sh:L.Sheet} (h:L.vSheet sh=true):L.okA (L.whA sh):=by
 obtain ⟨h1,h2,h3,h4,_⟩:=vSheet_bd h
 exact ⟨Int.le_refl _,Int.le_refl _,by show 0 <= sh.w;omega,by show 0 <= sh.h;omega,by show 0+sh.w <= 4096;omega,by show 0+sh.h <= 4096;omega⟩
theorem fitE_0 {w:L.Sq L.Want} {s:L.Sheet} (h:L.fitE w s=0):L.vWants w=true/\L.vSheet s=true/\w.n <= 7:=by
 obtain ⟨h1,h2,-,h4,-⟩:=badE_0 h
 exact ⟨h1,vSheets_of (s:=L.oneSh s) (i:=0) h2 (show 0<1 by decide),h4⟩
section
attribute [local irreducible] L.part L.iandNot L.iand L.ior L.all L.lay L.layF L.roomB L.tabF L.tab
abbrev c_laid_mk:Mk:={ T:=(L.Sq L.Want) × (L.Sheet),U:=Int->Bool,args:=fun t=>(fun w sh=>[.p ((.sl 4 w.n (fun i=>[.int .i64 ((w.g i).id),.int .i64 ((w.g i).colour),.int .i64 ((w.g i).grain),.sl 2 (w.g i).ol.n (fun i1=>[.int .i64 (((w.g i).ol.g i1).x),.int .i64 (((w.g i).ol.g i1).y)])]))),.p ((.agg [.int .i64 sh.id,.int .i64 sh.colour,.int .i64 sh.w,.int .i64 sh.h,.int .i64 sh.grain]))]) t.1 t.2,lkeys:=[],keys:=[9,7,15,13,20],lent:=fun t=>(fun w sh=>[]) t.1 t.2,pre:=fun t=>(fun w sh=>L.okW w/\L.vSheet sh=true) t.1 t.2,post:=fun t u=>(fun w sh=>fun u=>True) t.1 t.2 u,lent':=fun t u=>(fun w sh=>fun u=>[]) t.1 t.2 u,own:=fun t u=>(fun w sh=>fun u=>[(9,.blk 162 [.p ((.sl 4 w.n (fun i=>[.int .i64 ((w.g i).id),.int .i64 ((w.g i).colour),.int .i64 ((w.g i).grain),.sl 2 (w.g i).ol.n (fun i1=>[.int .i64 (((w.g i).ol.g i1).x),.int .i64 (((w.g i).ol.g i1).y)])]))),.p (.int .i64 sh.grain),.mapv 7]),(7,.mq 3 27 u (L.memo (L.tabF w sh.grain))),(15,.blk 117 [.loc 9 0,.p (.int .i64 sh.id),.p (.int .i64 sh.colour),.p (.int .i64 sh.w),.p (.int .i64 sh.h),.p (.int .i64 sh.grain),.row 13,.row 20]),(13,.row 57 5 w.n (fun k=>[.int .i64 ((L.laidP w sh k).want),.int .i64 ((L.laidP w sh k).sheet),.int .i64 ((L.laidP w sh k).turn),.int .i64 ((L.laidP w sh k).at_.x),.int .i64 ((L.laidP w sh k).at_.y)])),(20,.row 125 4 (L.sqC (L.laidS w sh)).n (fun k=>L.scC ((L.sqC (L.laidS w sh)).g k)))]) t.1 t.2 u,res:=fun t u=>(fun w sh=>fun u=>.loc 15 0) t.1 t.2 u }
theorem c_laid_vc (w:L.Sq L.Want) (sh:L.Sheet) (hp:c_laid_mk.pre (w,sh)):vc Tryz.prog ({ cC with muts:=[15],nils:=lookM [(2,[(15,20,125,4)])],mks:=lookK [(62,c_shapesOf_mk),(65,c_full_mk),(121,c_lay_mk)],ren:=fun k=>if k=1000 then 9 else if k=1001 then 7 else if k=1002 then 15 else if k=1003 then 13 else if k=1004 then 20 else k,joins:=lookL [(2,{ T:=Nat,keep:=[0,3],keepO:=[],chg:=fun _=>[(5,.loc 15 0)],own:=fun _=>[(9,.blk 162 [.p ((.sl 4 w.n (fun i=>[.int .i64 ((w.g i).id),.int .i64 ((w.g i).colour),.int .i64 ((w.g i).grain),.sl 2 (w.g i).ol.n (fun i1=>[.int .i64 (((w.g i).ol.g i1).x),.int .i64 (((w.g i).ol.g i1).y)])]))),.p (.int .i64 sh.grain),.mapv 7]),(7,.mq 3 27 (fun _=>false) (L.memo (L.tabF w sh.grain))),(15,.blk 117 [.loc 9 0,.p (.int .i64 sh.id),.p (.int .i64 sh.colour),.p (.int .i64 sh.w),.p (.int .i64 sh.h),.p (.int .i64 sh.grain),.row 13,.p (.raw (.slice none 0 0))]),(13,.row 57 5 w.n (fun k=>[.int .i64 ((L.noP k).want),.int .i64 ((L.noP k).sheet),.int .i64 ((L.noP k).turn),.int .i64 ((L.noP k).at_.x),.int .i64 ((L.noP k).at_.y)]))],inv:=fun _=>True,mu:=fun _=>0 }),(3,{ T:=Int->Bool,keep:=[5],keepO:=[9],chg:=fun _=>[],own:=fun u=>[(7,.mq 3 27 u (L.memo (L.tabF w sh.grain))),(15,.blk 117 [.loc 9 0,.p (.int .i64 sh.id),.p (.int .i64 sh.colour),.p (.int .i64 sh.w),.p (.int .i64 sh.h),.p (.int .i64 sh.grain),.row 13,.row 20]),(13,.row 57 5 w.n (fun k=>[.int .i64 ((L.laidP w sh k).want),.int .i64 ((L.laidP w sh k).sheet),.int .i64 ((L.laidP w sh k).turn),.int .i64 ((L.laidP w sh k).at_.x),.int .i64 ((L.laidP w sh k).at_.y)])),(20,.row 125 4 (L.sqC (L.laidS w sh)).n (fun k=>L.scC ((L.sqC (L.laidS w sh)).g k)))],inv:=fun _=>True,mu:=fun _=>0 })],anys:=[1001,1002] }) (bodyOf Tryz.f72) (stTr Tryz.f72 (c_laid_mk.args (w,sh)) (c_laid_mk.lent (w,sh))) (retMk Tryz.prog Tryz.f72 c_laid_mk (w,sh)) :=
  @Eq.mpr _ (let I:=SV.int .i64;let T:=Int.toNat;let A34:=(↑w.n:Int);let A24:=(0:Int);let A57:=[I A24,I A24,I sh.w,I sh.h];let A22:=(nat_lit 0);let A20:=(L.sqC (L.laidS w sh));let A17:=(L.tabF w sh.grain);let A16:=(2:Nat);let A15:=(∀ (x:Int),false=false);let A12:=(0:Nat);let A9:=[I sh.id,I sh.colour,I sh.w,I sh.h,I sh.grain];let
 A8:=(A24 <= A34/\A34 <= A34/\A34 * (↑(nat_lit 40):Int) <= (140737488355328:Int));let A5:=(T A34=w.n /\ ∀ (i:Nat),let A60:=(L.noP i);i<T A34 -> [I A24,I A24,I A24,I A24,I A24] = [I A60.want,I A60.sheet,I A60.turn,I A60.at_.x,I A60.at_.y]);let A2:=(w.n=w.n /\ ∀ (i:Nat),let A21:=[I (w.g i).id,I (w.g i).colour,I (w.g i).grain,SV.sl A16 (w.g i).ol.n fun (i1 :
 Nat)=>[I ((w.g i).ol.g i1).x,I ((w.g i).ol.g i1).y]];i<w.n->A21=A21);let A7:=(∃ (t:L.Sq L.Want × Int × (Int->L.Sq L.Size)),(w.n=t.1.n /\ ∀ (i:Nat),let A39:=(t.1.g i);i<w.n -> [I (w.g i).id,I (w.g i).colour,I (w.g i).grain,SV.sl A16 (w.g i).ol.n fun (i1:Nat)=>[I ((w.g i).ol.g i1).x,I ((w.g i).ol.g i1).y]] = [I A39.id,I A39.colour,I A39.grain,SV.sl A16
 A39.ol.n fun (i1:Nat)=>[I (A39.ol.g i1).x,I (A39.ol.g i1).y]])/\sh.grain=t.2.1/\True /\ ∀ (u:Nat),True -> ∃ (g:Nat),nat_lit 0=A12/\SV.ref A9 A22=SV.ref A9 A22/\A2/\(t.1.n=w.n /\ ∀ (i:Nat),let A40:=(t.1.g i);i<t.1.n -> [I A40.id,I A40.colour,I A40.grain,SV.sl A16 A40.ol.n fun (i1:Nat)=>[I (A40.ol.g i1).x,I (A40.ol.g i1).y]] = [I (w.g i).id,I (w.g
 i).colour,I (w.g i).grain,SV.sl A16 (w.g i).ol.n fun (i1:Nat)=>[I ((w.g i).ol.g i1).x,I ((w.g i).ol.g i1).y]])/\t.2.1=sh.grain/\A15/\(∀ (x:Int),false=true->L.memo t.2.2 x=L.memo A17 x)/\nat_lit 0=A12/\sh.id=sh.id/\sh.colour=sh.colour/\sh.w=sh.w/\sh.h=sh.h/\sh.grain=sh.grain/\Value.slice Option.none A12 A12=Value.slice Option.none A12
 A12/\A5/\True);let A6:=(∃ (t:L.Sq L.Want × Int × (Int->L.Sq L.Size)),(w.n=t.1.n /\ ∀ (i:Nat),let A41:=(t.1.g i);i<w.n -> [I (w.g i).id,I (w.g i).colour,I (w.g i).grain,SV.sl A16 (w.g i).ol.n fun (i1:Nat)=>[I ((w.g i).ol.g i1).x,I ((w.g i).ol.g i1).y]] = [I A41.id,I A41.colour,I A41.grain,SV.sl A16 A41.ol.n fun (i1:Nat)=>[I (A41.ol.g i1).x,I (A41.ol.g
 i1).y]])/\sh.grain=t.2.1/\True /\ ∀ (u:Nat),True->A8 /\ ∃ (g:Nat),nat_lit 0=A12/\SV.ref A9 A22=SV.ref A9 A22/\A2/\(t.1.n=w.n /\ ∀ (i:Nat),let A42:=(t.1.g i);i<t.1.n -> [I A42.id,I A42.colour,I A42.grain,SV.sl A16 A42.ol.n fun (i1:Nat)=>[I (A42.ol.g i1).x,I (A42.ol.g i1).y]] = [I (w.g i).id,I (w.g i).colour,I (w.g i).grain,SV.sl A16 (w.g
 i).ol.n fun (i1:Nat)=>[I ((w.g i).ol.g i1).x,I ((w.g i).ol.g i1).y]])/\t.2.1=sh.grain/\A15/\(∀ (x:Int),false=true->L.memo t.2.2 x=L.memo A17 x)/\nat_lit 0=A12/\sh.id=sh.id/\sh.colour=sh.colour/\sh.w=sh.w/\sh.h=sh.h/\sh.grain=sh.grain/\Value.slice Option.none A12 A12=Value.slice Option.none A12 A12/\A5/\True);let A4:=(A8/\A7 /\ ∃ (t:L.Sq
 L.Want × Int × (Int->L.Sq L.Size)),(w.n=t.1.n /\ ∀ (i:Nat),let A43:=(t.1.g i);i<w.n -> [I (w.g i).id,I (w.g i).colour,I (w.g i).grain,SV.sl A16 (w.g i).ol.n fun (i1:Nat)=>[I ((w.g i).ol.g i1).x,I ((w.g i).ol.g i1).y]] = [I A43.id,I A43.colour,I A43.grain,SV.sl A16 A43.ol.n fun (i1:Nat)=>[I (A43.ol.g i1).x,I (A43.ol.g i1).y]])/\sh.grain=t.2.1/\True /\ ∀ (u :
 Nat),True -> ∃ (g:Nat),nat_lit 0=A12/\SV.ref A9 A22=SV.ref A9 A22/\A2/\(t.1.n=w.n /\ ∀ (i:Nat),let A44:=(t.1.g i);i<t.1.n -> [I A44.id,I A44.colour,I A44.grain,SV.sl A16 A44.ol.n fun (i1:Nat)=>[I (A44.ol.g i1).x,I (A44.ol.g i1).y]] = [I (w.g i).id,I (w.g i).colour,I (w.g i).grain,SV.sl A16 (w.g i).ol.n fun (i1:Nat)=>[I ((w.g i).ol.g i1).x,I
 ((w.g i).ol.g i1).y]])/\t.2.1=sh.grain/\A15/\(∀ (x:Int),false=true->L.memo t.2.2 x=L.memo A17 x)/\nat_lit 0=A12/\sh.id=sh.id/\sh.colour=sh.colour/\sh.w=sh.w/\sh.h=sh.h/\sh.grain=sh.grain/\Value.slice Option.none A12 A12=Value.slice Option.none A12 A12/\A5/\True);let A3:=(A8 /\ ∃ (t:L.Sq L.Want × Int × (Int->L.Sq L.Size)),(w.n=t.1.n /\ ∀ (i
:Nat),let A45:=(t.1.g i);i<w.n -> [I (w.g i).id,I (w.g i).colour,I (w.g i).grain,SV.sl A16 (w.g i).ol.n fun (i1:Nat)=>[I ((w.g i).ol.g i1).x,I ((w.g i).ol.g i1).y]] = [I A45.id,I A45.colour,I A45.grain,SV.sl A16 A45.ol.n fun (i1:Nat)=>[I (A45.ol.g i1).x,I (A45.ol.g i1).y]])/\sh.grain=t.2.1/\True /\ ∀ (u:Nat),True -> ∃ (g:Nat),nat_lit 0=A12/\SV.ref
 A9 A22=SV.ref A9 A22/\A2/\(t.1.n=w.n /\ ∀ (i:Nat),let A46:=(t.1.g i);i<t.1.n -> [I A46.id,I A46.colour,I A46.grain,SV.sl A16 A46.ol.n fun (i1:Nat)=>[I (A46.ol.g i1).x,I (A46.ol.g i1).y]] = [I (w.g i).id,I (w.g i).colour,I (w.g i).grain,SV.sl A16 (w.g i).ol.n fun (i1:Nat)=>[I ((w.g i).ol.g i1).x,I ((w.g i).ol.g i1).y]])/\t.2.1=sh.grain/\A15/\(∀ (x :
 Int),false=true->L.memo t.2.2 x=L.memo A17 x)/\nat_lit 0=A12/\sh.id=sh.id/\sh.colour=sh.colour/\sh.w=sh.w/\sh.h=sh.h/\sh.grain=sh.grain/\Value.slice Option.none A12 A12=Value.slice Option.none A12 A12/\A5/\True);((A6/\A6/\(∃ (t:L.Sq L.Want × Int × (Int->L.Sq L.Size)),let A25:=(∀ (x:Int),false=true->L.memo t.2.2 x=L.memo A17
 x);let A13:=(t.1.n=w.n /\ ∀ (i:Nat),let A47:=(t.1.g i);i<t.1.n -> [I A47.id,I A47.colour,I A47.grain,SV.sl A16 A47.ol.n fun (i1:Nat)=>[I (A47.ol.g i1).x,I (A47.ol.g i1).y]] = [I (w.g i).id,I (w.g i).colour,I (w.g i).grain,SV.sl A16 (w.g i).ol.n fun (i1:Nat)=>[I ((w.g i).ol.g i1).x,I ((w.g i).ol.g i1).y]]);(w.n=t.1.n /\ ∀ (i:Nat),let A48:=(t.1.g i);i <
 w.n -> [I (w.g i).id,I (w.g i).colour,I (w.g i).grain,SV.sl A16 (w.g i).ol.n fun (i1:Nat)=>[I ((w.g i).ol.g i1).x,I ((w.g i).ol.g i1).y]] = [I A48.id,I A48.colour,I A48.grain,SV.sl A16 A48.ol.n fun (i1:Nat)=>[I (A48.ol.g i1).x,I (A48.ol.g i1).y]])/\sh.grain=t.2.1/\True /\ ∀ (u:Nat),True->(A8 /\ ∃ (g:Nat),nat_lit 0=A12/\SV.ref A9 A22=SV.ref A9 A22
 /\ A2/\A13/\t.2.1=sh.grain/\A15/\A25/\nat_lit 0=A12/\sh.id=sh.id/\sh.colour=sh.colour/\sh.w=sh.w/\sh.h=sh.h/\sh.grain=sh.grain/\Value.slice Option.none A12 A12=Value.slice Option.none A12 A12/\A5/\True)/\A8 /\ ∃ (g:Nat),nat_lit 0=A12/\SV.ref A9 A22=SV.ref A9 A22/\A2/\A13/\t.2.1=sh.grain/\A15/\A25/\nat_lit 0=A12/\sh.id=sh.id /\
 sh.colour=sh.colour/\sh.w=sh.w/\sh.h=sh.h/\sh.grain=sh.grain/\Value.slice Option.none A12 A12=Value.slice Option.none A12 A12/\A5/\True) /\ ∃ (t:L.Sq L.Want × Int × (Int->L.Sq L.Size)),let A26:=(∀ (x:Int),false=true->L.memo t.2.2 x=L.memo A17 x);let A14:=(t.1.n=w.n /\ ∀ (i:Nat),let A49:=(t.1.g i);i<t.1.n -> [I A49.id,I A49.colour,I
 A49.grain,SV.sl A16 A49.ol.n fun (i1:Nat)=>[I (A49.ol.g i1).x,I (A49.ol.g i1).y]] = [I (w.g i).id,I (w.g i).colour,I (w.g i).grain,SV.sl A16 (w.g i).ol.n fun (i1:Nat)=>[I ((w.g i).ol.g i1).x,I ((w.g i).ol.g i1).y]]);(w.n=t.1.n /\ ∀ (i:Nat),let A50:=(t.1.g i);i<w.n -> [I (w.g i).id,I (w.g i).colour,I (w.g i).grain,SV.sl A16 (w.g i).ol.n fun (i1:Nat)=>[I
 ((w.g i).ol.g i1).x,I ((w.g i).ol.g i1).y]] = [I A50.id,I A50.colour,I A50.grain,SV.sl A16 A50.ol.n fun (i1:Nat)=>[I (A50.ol.g i1).x,I (A50.ol.g i1).y]])/\sh.grain=t.2.1/\True /\ ∀ (u:Nat),True->(A8 /\ ∃ (g:Nat),nat_lit 0=A12/\SV.ref A9 A22=SV.ref A9 A22/\A2/\A14/\t.2.1=sh.grain/\A15/\A26/\nat_lit 0=A12/\sh.id=sh.id/\sh.colour=sh.colour /\
 sh.w=sh.w/\sh.h=sh.h/\sh.grain=sh.grain/\Value.slice Option.none A12 A12=Value.slice Option.none A12 A12/\A5/\True)/\A8 /\ ∃ (g:Nat),nat_lit 0=A12/\SV.ref A9 A22=SV.ref A9 A22/\A2/\A14/\t.2.1=sh.grain/\A15/\A26/\nat_lit 0=A12/\sh.id=sh.id/\sh.colour=sh.colour/\sh.w=sh.w/\sh.h=sh.h/\sh.grain=sh.grain/\Value.slice Option.none A12
 A12=Value.slice Option.none A12 A12/\A5/\True)/\A3/\A4/\A3/\A4/\A3/\A8/\A7 /\ ∃ (t:L.Sq L.Want × Int × (Int->L.Sq L.Size)),(w.n=t.1.n /\ ∀ (i:Nat),let A51:=(t.1.g i);i<w.n -> [I (w.g i).id,I (w.g i).colour,I (w.g i).grain,SV.sl A16 (w.g i).ol.n fun (i1:Nat)=>[I ((w.g i).ol.g i1).x,I ((w.g i).ol.g i1).y]] = [I A51.id,I A51.colour,I A51.grain,SV.sl A16
 A51.ol.n fun (i1:Nat)=>[I (A51.ol.g i1).x,I (A51.ol.g i1).y]])/\sh.grain=t.2.1/\True /\ ∀ (u:Nat),True -> ∃ (g:Nat),nat_lit 0=A12/\SV.ref A9 A22=SV.ref A9 A22/\A2/\(t.1.n=w.n /\ ∀ (i:Nat),let A52:=(t.1.g i);i<t.1.n -> [I A52.id,I A52.colour,I A52.grain,SV.sl A16 A52.ol.n fun (i1:Nat)=>[I (A52.ol.g i1).x,I (A52.ol.g i1).y]] = [I (w.g i).id,I (w.g
 i).colour,I (w.g i).grain,SV.sl A16 (w.g i).ol.n fun (i1:Nat)=>[I ((w.g i).ol.g i1).x,I ((w.g i).ol.g i1).y]])/\t.2.1=sh.grain/\A15/\(∀ (x:Int),false=true->L.memo t.2.2 x=L.memo A17 x)/\nat_lit 0=A12/\sh.id=sh.id/\sh.colour=sh.colour/\sh.w=sh.w/\sh.h=sh.h/\sh.grain=sh.grain/\Value.slice Option.none A12 A12=Value.slice Option.none A12
 A12/\A5/\True) /\ ∀ (g:Nat),let A1:=(∃ (t:L.Sq L.Want × Int × (Int->L.Sq L.Size) × (Int->Bool)),nat_lit 0=A12/\(w.n=t.1.n /\ ∀ (i:Nat),let A53:=(t.1.g i);i<w.n -> [I (w.g i).id,I (w.g i).colour,I (w.g i).grain,SV.sl A16 (w.g i).ol.n fun (i1:Nat)=>[I ((w.g i).ol.g i1).x,I ((w.g i).ol.g i1).y]] = [I A53.id,I A53.colour,I A53.grain,SV.sl A16 A53.ol.n fun
 (i1:Nat)=>[I (A53.ol.g i1).x,I (A53.ol.g i1).y]])/\sh.grain=t.2.1/\(∀ (x:Int),false=t.snd.2.2 x)/\(∀ (x:Int),false=true->L.memo A17 x=L.memo t.snd.2.1 x)/\t.1.n <= (4:Nat) /\ ∀ (u:Nat),True -> ∃ (t_1:L.Sq L.Want × L.Sheet × (Int->Bool) × (Nat->L.Placed) × List L.Score × Int × L.Area),let A58:=(L.tabF t_1.1 t_1.2.1.grain);let A32:=(L.sqC
 t_1.snd.snd.snd.2.1);let A18:=(L.sqC (L.layS t_1.1 t_1.2.1 t_1.snd.snd.snd.snd.2.1 t_1.snd.snd.snd.snd.2.2 t_1.snd.snd.2.1 t_1.snd.snd.snd.2.1));nat_lit 0=A12/\L.all t.1.n=t_1.snd.snd.snd.snd.2.1/\SV.agg A57=SV.agg [I t_1.snd.snd.snd.snd.2.2.at_.x,I t_1.snd.snd.snd.snd.2.2.at_.y,I t_1.snd.snd.snd.snd.2.2.size.w,I t_1.snd.snd.snd.snd.2.2.size.h]/\(t.1.n=t_1.1.n /\ ∀ (i
:Nat),let A54:=(t.1.g i);let A35:=(t_1.1.g i);i<t.1.n -> [I A54.id,I A54.colour,I A54.grain,SV.sl A16 A54.ol.n fun (i1:Nat)=>[I (A54.ol.g i1).x,I (A54.ol.g i1).y]] = [I A35.id,I A35.colour,I A35.grain,SV.sl A16 A35.ol.n fun (i1:Nat)=>[I (A35.ol.g i1).x,I (A35.ol.g i1).y]])/\t.2.1=t_1.2.1.grain/\(∀ (x:Int),t.snd.2.2 x=t_1.snd.2.1 x)/\(∀ (x:Int),
 t.snd.2.2 x=true->L.memo t.snd.2.1 x=L.memo A58 x)/\nat_lit 0=A12/\sh.id=t_1.2.1.id/\sh.colour=t_1.2.1.colour/\sh.w=t_1.2.1.w/\sh.h=t_1.2.1.h/\sh.grain=t_1.2.1.grain/\(w.n=t_1.1.n /\ ∀ (i:Nat),let A61:=(L.noP i);let A27:=(t_1.snd.snd.2.1 i);i<w.n -> [I A61.want,I A61.sheet,I A61.turn,I A61.at_.x,I A61.at_.y] = [I A27.want,I A27.sheet,I A27.turn,I
 A27.at_.x,I A27.at_.y])/\(nat_lit 0=A32.n /\ ∀ (i:Nat),i<nat_lit 0 -> []=L.scC (A32.g i))/\(L.okW t_1.1/\A24 <= t_1.snd.snd.snd.snd.2.1/\t_1.snd.snd.snd.snd.2.1 <= L.all t_1.1.n/\L.okA t_1.snd.snd.snd.snd.2.2/\A32.n+(3:Nat) * T t_1.snd.snd.snd.snd.2.1 <= (1000:Nat)) /\ ∀ (u:Int->Bool),True -> ∃ (g:Int->Bool),nat_lit 0=nat_lit 0/\(∀ (x:Int),u x=g x)/\(∀ (x:Int),u
 x=true->L.memo A58 x=L.memo A17 x)/\nat_lit 0=A12/\t_1.2.1.id=sh.id/\t_1.2.1.colour=sh.colour/\t_1.2.1.w=sh.w/\t_1.2.1.h=sh.h/\t_1.2.1.grain=sh.grain/\(t_1.1.n=w.n /\ ∀ (i:Nat),let A29:=(L.laidP w sh i);let A10:=(L.layP t_1.1 t_1.2.1 t_1.snd.snd.snd.snd.2.1 t_1.snd.snd.snd.snd.2.2 t_1.snd.snd.2.1 t_1.snd.snd.snd.2.1 i);i<t_1.1.n -> [I A10.want,I A10.sheet,
 I A10.turn,I A10.at_.x,I A10.at_.y] = [I A29.want,I A29.sheet,I A29.turn,I A29.at_.x,I A29.at_.y])/\(A18.n=A20.n /\ ∀ (i:Nat),i<A18.n->L.scC (A18.g i)=L.scC (A20.g i))/\(t_1.1.n=w.n /\ ∀ (i:Nat),let A36:=(t_1.1.g i);i<t_1.1.n -> [I A36.id,I A36.colour,I A36.grain,SV.sl A16 A36.ol.n fun (i1:Nat)=>[I (A36.ol.g i1).x,I (A36.ol.g i1).y]] = [I (w.g i).id,I (w.g
 i).colour,I (w.g i).grain,SV.sl A16 (w.g i).ol.n fun (i1:Nat)=>[I ((w.g i).ol.g i1).x,I ((w.g i).ol.g i1).y]])/\t_1.2.1.grain=sh.grain/\True);True->(A1/\A1/\A1/\A1/\A1/\A1/\A1/\A1/\A1/\A1 /\ ∃ (t:L.Sq L.Want × Int × (Int->L.Sq L.Size) × (Int->Bool)),nat_lit 0=A12/\(w.n=t.1.n /\ ∀ (i:Nat),let A55:=(t.1.g i);i<w.n -> [I (w.g i).id,I (w.g i).colour,I (w.g
 i).grain,SV.sl A16 (w.g i).ol.n fun (i1:Nat)=>[I ((w.g i).ol.g i1).x,I ((w.g i).ol.g i1).y]] = [I A55.id,I A55.colour,I A55.grain,SV.sl A16 A55.ol.n fun (i1:Nat)=>[I (A55.ol.g i1).x,I (A55.ol.g i1).y]])/\sh.grain=t.2.1/\(∀ (x:Int),false=t.snd.2.2 x)/\(∀ (x:Int),false=true->L.memo A17 x=L.memo t.snd.2.1 x)/\t.1.n <= (4:Nat) /\ ∀ (u:Nat),
 True -> ∃ (t_1:L.Sq L.Want × L.Sheet × (Int->Bool) × (Nat->L.Placed) × List L.Score × Int × L.Area),let A59:=(L.tabF t_1.1 t_1.2.1.grain);let A33:=(L.sqC t_1.snd.snd.snd.2.1);let A19:=(L.sqC (L.layS t_1.1 t_1.2.1 t_1.snd.snd.snd.snd.2.1 t_1.snd.snd.snd.snd.2.2 t_1.snd.snd.2.1 t_1.snd.snd.snd.2.1));nat_lit 0=A12/\L.all t.1.n=t_1.snd.snd.snd.snd.2.1/\SV.agg A57 =
 SV.agg [I t_1.snd.snd.snd.snd.2.2.at_.x,I t_1.snd.snd.snd.snd.2.2.at_.y,I t_1.snd.snd.snd.snd.2.2.size.w,I t_1.snd.snd.snd.snd.2.2.size.h]/\(t.1.n=t_1.1.n /\ ∀ (i:Nat),let A56:=(t.1.g i);let A37:=(t_1.1.g i);i<t.1.n -> [I A56.id,I A56.colour,I A56.grain,SV.sl A16 A56.ol.n fun (i1:Nat)=>[I (A56.ol.g i1).x,I (A56.ol.g i1).y]] = [I A37.id,I A37.colour,I A37.grain,
 SV.sl A16 A37.ol.n fun (i1:Nat)=>[I (A37.ol.g i1).x,I (A37.ol.g i1).y]])/\t.2.1=t_1.2.1.grain/\(∀ (x:Int),t.snd.2.2 x=t_1.snd.2.1 x)/\(∀ (x:Int),t.snd.2.2 x=true->L.memo t.snd.2.1 x=L.memo A59 x)/\nat_lit 0=A12/\sh.id=t_1.2.1.id/\sh.colour=t_1.2.1.colour/\sh.w=t_1.2.1.w/\sh.h=t_1.2.1.h/\sh.grain=t_1.2.1.grain/\(w.n=t_1.1.n /\ ∀ (i:Nat),let
 A62:=(L.noP i);let A28:=(t_1.snd.snd.2.1 i);i<w.n -> [I A62.want,I A62.sheet,I A62.turn,I A62.at_.x,I A62.at_.y] = [I A28.want,I A28.sheet,I A28.turn,I A28.at_.x,I A28.at_.y])/\(nat_lit 0=A33.n /\ ∀ (i:Nat),i<nat_lit 0 -> []=L.scC (A33.g i))/\(L.okW t_1.1/\A24 <= t_1.snd.snd.snd.snd.2.1/\t_1.snd.snd.snd.snd.2.1 <= L.all t_1.1.n/\L.okA t_1.snd.snd.snd.snd.2.2/\A33.n+(3 :
 Nat) * T t_1.snd.snd.snd.snd.2.1 <= (1000:Nat)) /\ ∀ (u:Int->Bool),True -> ∃ (g:Int->Bool),nat_lit 0=nat_lit 0/\(∀ (x:Int),u x=g x)/\(∀ (x:Int),u x=true->L.memo A59 x=L.memo A17 x)/\nat_lit 0=A12/\t_1.2.1.id=sh.id/\t_1.2.1.colour=sh.colour/\t_1.2.1.w=sh.w/\t_1.2.1.h=sh.h/\t_1.2.1.grain=sh.grain/\(t_1.1.n=w.n /\ ∀ (i:Nat),let A30:=(L.laidP w sh
 i);let A11:=(L.layP t_1.1 t_1.2.1 t_1.snd.snd.snd.snd.2.1 t_1.snd.snd.snd.snd.2.2 t_1.snd.snd.2.1 t_1.snd.snd.snd.2.1 i);i<t_1.1.n -> [I A11.want,I A11.sheet,I A11.turn,I A11.at_.x,I A11.at_.y] = [I A30.want,I A30.sheet,I A30.turn,I A30.at_.x,I A30.at_.y])/\(A19.n=A20.n /\ ∀ (i:Nat),i<A19.n->L.scC (A19.g i)=L.scC (A20.g i))/\(t_1.1.n=w.n /\ ∀ (i:Nat),let A38:=(t_1.1.g
 i);i<t_1.1.n -> [I A38.id,I A38.colour,I A38.grain,SV.sl A16 A38.ol.n fun (i1:Nat)=>[I (A38.ol.g i1).x,I (A38.ol.g i1).y]] = [I (w.g i).id,I (w.g i).colour,I (w.g i).grain,SV.sl A16 (w.g i).ol.n fun (i1:Nat)=>[I ((w.g i).ol.g i1).x,I ((w.g i).ol.g i1).y]])/\t_1.2.1.grain=sh.grain/\True) /\ ∀ (g:Int->Bool),True -> ∃ (u:Int->Bool),nat_lit 0=A12/\A2/\sh.grain
 = sh.grain/\(∀ (x:Int),g x=u x)/\(∀ (x:Int),g x=true->L.memo A17 x=L.memo A17 x)/\nat_lit 0=A12/\sh.id=sh.id/\sh.colour=sh.colour/\sh.w=sh.w/\sh.h=sh.h/\sh.grain=sh.grain/\(w.n=w.n /\ ∀ (i:Nat),let A31:=(L.laidP w sh i);let A23:=[I A31.want,I A31.sheet,I A31.turn,I A31.at_.x,I A31.at_.y];i<w.n->A23=A23)/\(A20.n=A20.n /\ ∀ (i:Nat),i <
 A20.n->L.scC (A20.g i)=L.scC (A20.g i))/\True) (by kernel_rfl) (by
  conv=>zeta
  have hp:L.okW w/\L.vSheet sh=true:=hp
  obtain ⟨hok,hsv⟩:=hp
  obtain ⟨a1,a2,_,_⟩:=all_bd hok.1
  have oA:=okA_wh hsv
  have b1:0 <= (w.n:Int):=Int.natCast_nonneg _
  have hw4:=hok.1
  have b2:(w.n:Int) * 40 <= 140737488355328:=by omega
  have l1:(L.sqC []).n+3 * (L.all w.n).toNat <= 1000:=by show 0+_ <= _;omega
  refine ⟨(by (try dsimp only);(repeat' with_reducible apply And.intro) <;> first | with_reducible rfl | with_reducible assumption | with_reducible exact Int.le_refl _ | with_reducible exact fun _=>rfl | with_reducible exact fun _ _=>rfl | with_reducible exact trivial | exact ⟨(0:Nat),(by (try dsimp only);(repeat' with_reducible apply And.intro) <;> first | with_reducible rfl | with_reducible exact fun _=>rfl | with_reducible exact fun _ _=>rfl | with_reducible exact trivial | exact rfl | (intro _;exact rfl) | (intro _ _;exact rfl) | exact trivial | (intro _ h_;exact absurd h_ (Nat.not_lt_zero _)))⟩ | exact ⟨(w,sh.grain,L.tabF w sh.grain),(by (try dsimp only);(repeat' with_reducible apply And.intro) <;> first | with_reducible rfl | with_reducible exact fun _=>rfl | with_reducible exact fun _ _=>rfl | with_reducible exact trivial | (intro u _;exact (by (try dsimp only);(repeat' with_reducible apply And.intro) <;> first | with_reducible rfl | with_reducible assumption | with_reducible exact Int.le_refl _ | with_reducible exact fun _=>rfl | with_reducible exact fun _ _=>rfl | with_reducible exact trivial | exact ⟨(0:Nat),(by (try dsimp only);(repeat' with_reducible apply And.intro) <;> first | with_reducible rfl | with_reducible exact fun _=>rfl | with_reducible exact fun _ _=>rfl | with_reducible exact trivial | exact rfl | (intro _;exact rfl) | (intro _ _;exact rfl) | exact trivial | (intro _ h_;exact absurd h_ (Nat.not_lt_zero _)))⟩ | exact rfl | (intro _;exact rfl) | (intro _ _;exact rfl) | exact b1 | exact b2 | exact Int.le_refl _ | exact trivial | (intro _ h_;exact absurd h_ (Nat.not_lt_zero _)))) | exact rfl | (intro _;exact rfl) | (intro _ _;exact rfl) | exact trivial | (intro _ h_;exact absurd h_ (Nat.not_lt_zero _)))⟩ | exact rfl | (intro _;exact rfl) | (intro _ _;exact rfl) | exact b1 | exact b2 | exact Int.le_refl _ | exact trivial | (intro _ h_;exact absurd h_ (Nat.not_lt_zero _))),fun _ _=>⟨(by (try dsimp only);(repeat' with_reducible apply And.intro) <;> first | with_reducible rfl | with_reducible exact fun _=>rfl | with_reducible exact fun _ _=>rfl | with_reducible exact trivial | exact ⟨(w,sh.grain,L.tabF w sh.grain,fun _=>false),(by (try dsimp only);(repeat' with_reducible apply And.intro) <;> first | with_reducible rfl | with_reducible exact hok.1 | with_reducible exact fun _=>rfl | with_reducible exact fun _ _=>rfl | with_reducible exact trivial | (intro u _;exact ⟨(w,sh,fun _=>false,L.noP,[],L.all w.n,L.whA sh),(by (try dsimp only);(repeat' with_reducible apply And.intro) <;> first | with_reducible rfl | with_reducible assumption | with_reducible exact Int.le_refl _ | with_reducible exact fun _=>rfl | with_reducible exact fun _ _=>rfl | with_reducible exact trivial | (intro u _;exact ⟨u,(by (try dsimp only);(repeat' with_reducible apply And.intro) <;> first | with_reducible rfl | with_reducible exact fun _=>rfl | with_reducible exact fun _ _=>rfl | with_reducible exact trivial | exact rfl | (intro _;exact rfl) | (intro _ _;exact rfl) | exact trivial | (intro _ h_;exact absurd h_ (Nat.not_lt_zero _)))⟩) | exact rfl | (intro _;exact rfl) | (intro _ _;exact rfl) | exact hok | exact a1 | exact Int.le_refl _ | exact oA | exact l1 | exact trivial | (intro _ h_;exact absurd h_ (Nat.not_lt_zero _)))⟩) | exact rfl | (intro _;exact rfl) | (intro _ _;exact rfl) | exact hok.1 | exact trivial | (intro _ h_;exact absurd h_ (Nat.not_lt_zero _)))⟩ | exact rfl | (intro _;exact rfl) | (intro _ _;exact rfl) | exact trivial | (intro _ h_;exact absurd h_ (Nat.not_lt_zero _))),fun u _=>(by (try dsimp only);(repeat' with_reducible apply And.intro) <;> first | with_reducible rfl | with_reducible exact fun _=>rfl | with_reducible exact fun _ _=>rfl | with_reducible exact trivial | exact ⟨u,(by (try dsimp only);(repeat' with_reducible apply And.intro) <;> first | with_reducible rfl | with_reducible exact fun _=>rfl | with_reducible exact fun _ _=>rfl | with_reducible exact trivial | exact rfl | (intro _;exact rfl) | (intro _ _;exact rfl) | exact trivial | (intro _ h_;exact absurd h_ (Nat.not_lt_zero _)))⟩ | exact rfl | (intro _;exact rfl) | (intro _ _;exact rfl) | exact trivial | (intro _ h_;exact absurd h_ (Nat.not_lt_zero _)))⟩⟩)
theorem c_laid_en:Enters Tryz.prog 72:=fun args w=>by kernel_rfl
theorem c_laid_mok:MkOk Tryz.prog 72 c_laid_mk:=mk_ok (n:=2) Tryz.func72 (c:=bodyOf Tryz.f72) (by kernel_rfl) mixed ⟨fun t=>rfl,fun t=>rfl,fun t u=>rfl,fun t u=>rfl,fun t u=>rfl,fun t u=>⟨rfl,rfl⟩,by kernel_rfl,by kernel_rfl⟩ (fun ⟨w,sh⟩ hp=>⟨_,c_laid_vc w sh hp,⟨show SpecsL Tryz.prog _ from SpecsL.nil,rfl,⟨show ItersL Tryz.prog _ from ItersL.nil,⟨TrsOk.no1 (fun _=>rfl),⟨show MksL Tryz.prog _ from (MksL.cons c_shapesOf_mok c_shapesOf_en (MksL.cons c_full_mok c_full_en (MksL.cons c_lay_mok c_lay_en MksL.nil))),FamsOk.none (fun _=>rfl)⟩⟩⟩⟩⟩)
def c_Lay_p (w:(L.Sq L.Want)) (sh:L.Sheet):Prop:=L.preW w
def c_Lay_r (w:(L.Sq L.Want)) (sh:L.Sheet):SV:=.tup [.sl 5 (L.lyPn w sh) (fun k=>[.int .i64 ((L.laidP w sh k).want),.int .i64 ((L.laidP w sh k).sheet),.int .i64 ((L.laidP w sh k).turn),.int .i64 ((L.laidP w sh k).at_.x),.int .i64 ((L.laidP w sh k).at_.y)]),.sl 4 (L.lyS w sh).n (fun k=>L.scC ((L.lyS w sh).g k)),.int .i64 (L.lyE w sh)]
def c_Lay_s:List EV->Option (Prop × SV)
 | [.p (.sl 4 w_n w_g),.p (.agg [.int .i64 sh_id,.int .i64 sh_colour,.int .i64 sh_w,.int .i64 sh_h,.int .i64 sh_grain])]=>some ((∀ i,i<w_n->okWant (w_g i))/\c_Lay_p (⟨w_n,fun i=>ofWant (w_g i)⟩:(L.Sq L.Want)) (⟨sh_id,sh_colour,sh_w,sh_h,sh_grain⟩:L.Sheet),c_Lay_r (⟨w_n,fun i=>ofWant (w_g i)⟩:(L.Sq L.Want)) (⟨sh_id,sh_colour,sh_w,sh_h,sh_grain⟩:L.Sheet))
 | _=>none
abbrev c_Lay_S:SE.Spec:=(specO c_Lay_s)
def c_Lay_C:Cfg:={ cC with frz:=lookN [(7,[7,13,20,9,15])],specs:=lookS [(16,c_FitsIn_S)],mks:=lookK [(72,c_laid_mk)],ren:=fun k=>k }
theorem c_Lay_vc (w:(L.Sq L.Want)) (sh:L.Sheet) (hp:c_Lay_p w sh):vc Tryz.prog (c_Lay_C) (bodyOf Tryz.f19) (st0 Tryz.f19 [.p (.sl 4 w.n (fun i=>[.int .i64 ((w.g i).id),.int .i64 ((w.g i).colour),.int .i64 ((w.g i).grain),.sl 2 (w.g i).ol.n (fun i1=>[.int .i64 (((w.g i).ol.g i1).x),.int .i64 (((w.g i).ol.g i1).y)])])),.p (.agg [.int .i64 sh.id,.int .i64 sh.colour,.int .i64 sh.w,.int .i64 sh.h,.int .i64 sh.grain])]) (retFn Tryz.prog Tryz.f19 (c_Lay_r w sh)) :=
 @Eq.mpr _ (let I:=SV.int .i64;let A9:=(0:Nat);let A8:=(L.lyS w sh);let A1:=(L.Sq.mk w.n fun (i:Nat)=>L.Want.mk (w.g i).id (w.g i).colour (w.g i).grain (L.Sq.mk (w.g i).ol.n fun (i_1:Nat)=>(w.g i).ol.g i_1));let A6:=(!decide (L.fitE A1 sh=(0:Int)));((∀ (i:Nat),i<w.n -> ∀ (i_1:Nat),let A4:=((w.g i).ol.g i_1);i_1<(w.g i).ol.n -> [I A4.x,I A4.y] = [I A4.x,I A4.y])/\L.preW A1)/\(A6=true->L.lyPn w sh=A9/\A8.n=A9/\L.fitE A1 sh=L.lyE w sh)/\(A6=false->((!L.fitB A1 sh)=true->L.lyPn w sh=A9/\A8.n=A9/\(52:Int)=L.lyE w sh)/\((!L.fitB A1 sh)=false -> ∃ (t:L.Sq L.Want × L.Sheet),let A5:=(L.sqC (L.laidS t.1 t.2));(w.n=t.1.n /\ ∀ (i:Nat),let A7:=(t.1.g i);i<w.n -> [I (w.g i).id,I (w.g i).colour,I (w.g i).grain,SV.sl (2:Nat) (w.g i).ol.n fun (i1:Nat)=>[I ((w.g i).ol.g i1).x,I ((w.g i).ol.g i1).y]] = [I A7.id,I A7.colour,I A7.grain,SV.sl (2:Nat) A7.ol.n fun (i1:Nat)=>[I (A7.ol.g i1).x,I (A7.ol.g i1).y]])/\SV.agg [I sh.id,I sh.colour,I sh.w,I sh.h,I sh.grain]=SV.agg [I t.2.id,I t.2.colour,I t.2.w,I t.2.h,I t.2.grain]/\(L.okW t.1/\L.vSheet t.2=true) /\ ∀ (u:Int->Bool),True->(t.1.n=L.lyPn w sh /\ ∀ (i:Nat),let A3:=(L.laidP w sh i);let A2:=(L.laidP t.1 t.2 i);i<t.1.n -> [I A2.want,I A2.sheet,I A2.turn,I A2.at_.x,I A2.at_.y] = [I A3.want,I A3.sheet,I A3.turn,I A3.at_.x,I A3.at_.y])/\(A5.n=A8.n /\ ∀ (i:Nat),i<A5.n->L.scC (A5.g i)=L.scC (A8.g i))/\(0:Int)=L.lyE w sh))) (by kernel_rfl) (by
 conv=>zeta
 have hp:L.preW w:=hp
 refine ⟨⟨fun _ _ _ _=>rfl,hp⟩,fun h=>?_,fun h=>⟨fun h2=>?_,fun h2=>?_⟩⟩
 ·have h:(!decide (L.fitE w sh=0))=true:=h
  have e1:L.lyE w sh=L.fitE w sh:=by unfold L.lyE;rw [h];rfl
  have h0:¬ L.fitE w sh=0:=of_decide_eq_false (notT h)
  have e2:L.lyPn w sh=0:=by unfold L.lyPn;rw [e1,decide_eq_false h0];rfl
  have e3:(L.lyS w sh).n=0:=by unfold L.lyS;rw [e1,decide_eq_false h0];rfl
  exact ⟨e2,e3,e1.symm⟩
 ·have h:(!decide (L.fitE w sh=0))=false:=h
  have h2:(!L.fitB w sh)=true:=h2
  have e1:L.lyE w sh=52:=by unfold L.lyE;rw [h,h2];rfl
  have e2:L.lyPn w sh=0:=by unfold L.lyPn;rw [e1];rfl
  have e3:(L.lyS w sh).n=0:=by unfold L.lyS;rw [e1];rfl
  exact ⟨e2,e3,e1.symm⟩
 ·have h:(!decide (L.fitE w sh=0))=false:=h
  have h2:(!L.fitB w sh)=false:=h2
  have e1:L.lyE w sh=0:=by unfold L.lyE;rw [h,h2];rfl
  have e2:L.lyPn w sh=w.n:=by unfold L.lyPn;rw [e1];rfl
  have e3:L.lyS w sh=L.sqC (L.laidS w sh):=by unfold L.lyS;rw [e1];rfl
  obtain ⟨_,v2,v3⟩:=fitE_0 (of_decide_eq_true (notF h))
  have ok:=okW_of hp v3
  rw [e1,e2,e3]
  exact ⟨(w,sh),(by (try dsimp only);(repeat' with_reducible apply And.intro) <;> first | with_reducible rfl | with_reducible assumption | with_reducible exact fun _=>rfl | with_reducible exact fun _ _=>rfl | with_reducible exact trivial | (intro u _;exact (by (try dsimp only);(repeat' with_reducible apply And.intro) <;> first | with_reducible rfl | with_reducible exact fun _=>rfl | with_reducible exact fun _ _=>rfl | with_reducible exact trivial | exact rfl | (intro _;exact rfl) | (intro _ _;exact rfl) | exact trivial | (intro _ h_;exact absurd h_ (Nat.not_lt_zero _)))) | exact rfl | (intro _;exact rfl) | (intro _ _;exact rfl) | exact ok | exact v2 | exact trivial | (intro _ h_;exact absurd h_ (Nat.not_lt_zero _)))⟩)
theorem c_Lay_ok:SpecOk Tryz.prog 19 c_Lay_S:=fnX Tryz.func19 (c:=bodyOf Tryz.f19) (by kernel_rfl) mixed (fun args p r hs hp=>by
 unfold c_Lay_s at hs
 split at hs
 ·cases hs;exact ⟨_,_,c_Lay_vc _ _ hp.2,(.p (Want_ext hp.1) (.same _ .nil)),⟨show SpecsL Tryz.prog _ from (SpecsL.cons c_FitsIn_ok c_FitsIn_en SpecsL.nil),rfl,⟨show ItersL Tryz.prog _ from ItersL.nil,⟨TrsOk.no1 (fun _=>rfl),⟨show MksL Tryz.prog _ from (MksL.cons c_laid_mok c_laid_en MksL.nil),FamsOk.none (fun _=>rfl)⟩⟩⟩⟩⟩
 ·cases hs)
theorem c_Lay_en:Enters Tryz.prog 19:=fun args w=>by kernel_rfl
end
end Go.Proofs.YtpgaejicfbpcmaaGreat
namespace Go.Proofs.YtpgaejicfbpcmaaGreat
open Go.SE Go.RowKit
set_option maxRecDepth 100000
set_option maxHeartbeats 4000000
set_option linter.unusedVariables false
attribute [local irreducible] vc
structure L.Trg where
 a:Int
 b:Int
 c:Int
def ofTrg:List SV->L.Trg
 | [.int _ a,.int _ b,.int _ c]=>⟨a,b,c⟩
 | _=>⟨0,0,0⟩
def ofSqTrg:List SV->L.Sq L.Trg
 | [.sl _ n g]=>⟨n,fun i=>ofTrg (g i)⟩
 | _=>⟨0,fun _=>⟨0,0,0⟩⟩
def rowTrg:List SV->Prop
 | [.sl 3 n g]=>∀ i,i<n->g i = [.int .i64 (ofTrg (g i)).a,.int .i64 (ofTrg (g i)).b,.int .i64 (ofTrg (g i)).c]
 | _=>False
theorem rowT_len {l:List SV} (h:rowTrg l):l.length=1/\Ext (SV.at l 0) (.sl 3 (ofSqTrg l).n (fun k=>[.int .i64 ((ofSqTrg l).g k).a,.int .i64 ((ofSqTrg l).g k).b,.int .i64 ((ofSqTrg l).g k).c])):=by
 unfold rowTrg at h
 split at h
 ·rename_i n g
  exact ⟨rfl,.sl h⟩
 ·exact h.elim
def L.thr (a b c:L.Sq L.Trg) (i:Nat):L.Sq L.Trg:=bif decide (i=0) then a else bif decide (i=1) then b else c
theorem rows3_ext {g:Nat->List SV} (h:rowTrg (g 0)/\rowTrg (g 1)/\rowTrg (g 2)):Ext (.sl 1 3 g) (.sl 1 3 (fun i=>[.sl 3 (L.thr (ofSqTrg (g 0)) (ofSqTrg (g 1)) (ofSqTrg (g 2)) i).n (fun k=>[.int .i64 ((L.thr (ofSqTrg (g 0)) (ofSqTrg (g 1)) (ofSqTrg (g 2)) i).g k).a,.int .i64 ((L.thr (ofSqTrg (g 0)) (ofSqTrg (g 1)) (ofSqTrg (g 2)) i).g k).b,.int .i64 ((L.thr (ofSqTrg (g 0)) (ofSqTrg (g 1)) (ofSqTrg (g 2)) i).g k).c])])):=by
 have key:∀ i,i<3->rowTrg (g i)/\L.thr (ofSqTrg (g 0)) (ofSqTrg (g 1)) (ofSqTrg (g 2)) i=ofSqTrg (g i):=fun i hi=>by
  match i,hi with
  | 0,_=>exact ⟨h.1,rfl⟩
  | 1,_=>exact ⟨h.2.1,rfl⟩
  | 2,_=>exact ⟨h.2.2,rfl⟩
 refine .sl2 (fun i hi=>(rowT_len (key i hi).1).1.symm) (fun i hi j hj=>?_)
 rw [(rowT_len (key i hi).1).1] at hj
 obtain rfl:j=0:=by omega
 rw [(key i hi).2]
 exact (rowT_len (key i hi).1).2
def L.catT (c:Nat->L.Sq L.Trg):Nat->L.Sq L.Trg
 | 0=>⟨0,fun _=>⟨0,0,0⟩⟩
 | i+1=>⟨(L.catT c i).n+(c i).n,fun k=>bif decide (k<(L.catT c i).n) then (L.catT c i).g k else (c i).g (k - (L.catT c i).n)⟩
def L.bdP (p:L.Pt):Prop:=0 <= p.x/\p.x <= 4096/\0 <= p.y/\p.y <= 4096
def L.lfC (u m v:L.Pt):Int:=(v.x - u.x) * (m.y - u.y) - (v.y - u.y) * (m.x - u.x)
def L.lfD (u m v:L.Pt):Int:=(m.x - u.x) * (v.x - m.x)+(m.y - u.y) * (v.y - m.y)
def L.lfF (u v:L.Pt):Int:=(v.x - u.x) * (v.x - u.x)+(v.y - u.y) * (v.y - u.y)
def L.lawf (u m v:L.Pt) (bite:Int):Bool:=bif bif !decide (L.lfC u m v=0) then decide (max (L.lfC u m v) (0 - L.lfC u m v) <= L.lfD u m v) else false then decide (L.lfC u m v * L.lfC u m v <= bite * bite * L.lfF u v) else false
def L.rowD (n:Int) (p:L.Pocket):Nat:=((p.to_ - p.fr) % n).toNat
def L.rowI (n:Int) (p:L.Pocket) (i:Nat):Int:=(p.fr+(i:Int)) % n
def L.okPk (n:Int) (p:L.Pocket):Prop:=(0 <= p.fr/\p.fr<n)/\(0 <= p.to_/\p.to_<n)/\p.fr ≠ p.to_
theorem rowI_cases {n:Int} {p:L.Pocket} (h:L.okPk n p) {i:Nat} (hi:(i:Int)<n):L.rowI n p i=if p.fr+(i:Int)<n then p.fr+(i:Int) else p.fr+(i:Int) - n:=by
 obtain ⟨⟨h1,h2⟩,_⟩:=h
 unfold L.rowI
 split
 ·exact Int.emod_eq_of_lt (by omega) (by omega)
 ·rw [show p.fr+(i:Int)=p.fr+(i:Int) - n+n by omega,Int.add_emod_right,Int.emod_eq_of_lt (by omega) (by omega)];omega
theorem rowD_cases {n:Int} {p:L.Pocket} (h:L.okPk n p):(L.rowD n p:Int)=if p.fr<p.to_ then p.to_ - p.fr else p.to_ - p.fr+n:=by
 obtain ⟨⟨h1,h2⟩,⟨h3,h4⟩,h5⟩:=h
 unfold L.rowD
 rw [Int.toNat_of_nonneg (Int.emod_nonneg _ (by omega))]
 split
 ·exact Int.emod_eq_of_lt (by omega) (by omega)
 ·have e:(p.to_ - p.fr) % n=(p.to_ - p.fr+n) % n:=(Int.add_emod_right _ _).symm
  rw [e,Int.emod_eq_of_lt (by omega) (by omega)]
theorem row_facts {n:Int} {p:L.Pocket} (h:L.okPk n p):1 <= L.rowD n p/\(L.rowD n p:Int)<n/\L.rowI n p 0=p.fr/\L.rowI n p (L.rowD n p)=p.to_/\(∀ i,i <= L.rowD n p->0 <= L.rowI n p i/\L.rowI n p i<n)/\(∀ i,i <= L.rowD n p->L.rowI n p i=p.to_->i=L.rowD n p) /\ ∀ i,i<L.rowD n p->Int.tmod (L.rowI n p i+1) n=L.rowI n p (i+1):=by
 have hD:=rowD_cases h
 obtain ⟨⟨h1,h2⟩,⟨h3,h4⟩,h5⟩:=h
 have hlt:(L.rowD n p:Int)<n:=by split at hD <;> omega
 have h1':1 <= L.rowD n p:=by split at hD <;> omega
 have hr:∀ i,i <= L.rowD n p->0 <= L.rowI n p i/\L.rowI n p i<n:=fun i hi=>⟨Int.emod_nonneg _ (by omega),Int.emod_lt_of_pos _ (by omega)⟩
 refine ⟨h1',hlt,?_,?_,hr,fun i hi e=>?_,fun i hi=>?_⟩
 ·rw [rowI_cases ⟨⟨h1,h2⟩,⟨h3,h4⟩,h5⟩ (by omega)];split <;> omega
 ·rw [rowI_cases ⟨⟨h1,h2⟩,⟨h3,h4⟩,h5⟩ hlt];split <;> split at hD <;> omega
 ·rw [rowI_cases ⟨⟨h1,h2⟩,⟨h3,h4⟩,h5⟩ (by omega)] at e
  split at e <;> split at hD <;> omega
 ·have:=hr i (by omega)
  rw [Int.tmod_eq_emod_of_nonneg (by omega)]
  unfold L.rowI
  rw [Int.emod_add_emod]
  congr 1
  push_cast;omega
def L.hol (l:L.Sq L.Pt) (p:L.Pocket):Bool:=!L.anyB (L.rowD l.n p - 1) fun i=>decide (0<L.bend l (L.rowI l.n p (1+i)).toNat)
def L.fs {α:Type} (f:Nat->Option α):Nat->Option α
 | 0=>none
 | n+1=>match L.fs f n with
   | some x=>some x
   | none=>f n
theorem fs_none {α:Type} {f:Nat->Option α}:∀ {n},(∀ k,k<n->f k=none)->L.fs f n=none
 | 0,_=>rfl
 | n+1,h=>by rw [L.fs,fs_none (fun k hk=>h k (by omega))];exact h n (by omega)
theorem fs_at {α:Type} {f:Nat->Option α} {k:Nat} {x:α} (hf:f k=some x) (h:∀ j,j<k->f j=none):∀ {n},k<n->L.fs f n=some x
 | 0,hk=>by omega
 | n+1,hk=>by
   rw [L.fs]
   by_cases e:k=n
   ·subst e;rw [fs_none h];exact hf
   ·rw [fs_at hf h (n:=n) (by omega)]
theorem fs_congr {α:Type} {f g:Nat->Option α}:∀ {n},(∀ k,k<n->f k=g k)->L.fs f n=L.fs g n
 | 0,_=>rfl
 | n+1,h=>by rw [L.fs,L.fs,fs_congr (fun k hk=>h k (by omega)),h n (by omega)]
def L.dvdM (f:Nat->Nat->Option (List L.Trg)) (lw:Nat->Nat->Nat->Bool) (r:Nat->Int) (a b m:Nat):Option (List L.Trg):=bif lw a m b then (match f a m with | none=>none | some x=>match f m b with | none=>none | some y=>some (⟨r a,r m,r b⟩ :: (x ++ y))) else none
def L.dvd (lw:Nat->Nat->Nat->Bool) (r:Nat->Int):Nat->Nat->Nat->Option (List L.Trg)
 | 0,_,_=>none
 | n+1,a,b=>if b=a+1 then some [] else L.fs (fun k=>L.dvdM (L.dvd lw r n) lw r a b (a+1+k)) (b - a - 1)
theorem dvd_fuel (lw:Nat->Nat->Nat->Bool) (r:Nat->Int):∀ (n m a b:Nat),a<b->b - a <= n->b - a <= m->L.dvd lw r n a b=L.dvd lw r m a b
 | 0,_,a,b,h,h1,_=>by omega
 | n+1,0,a,b,h,_,h1=>by omega
 | n+1,m+1,a,b,h,h1,h2=>by
   rw [L.dvd,L.dvd]
   by_cases e:b=a+1
   ·rw [if_pos e,if_pos e]
   ·rw [if_neg e,if_neg e]
    refine fs_congr fun k hk=>?_
    unfold L.dvdM
    rw [dvd_fuel lw r n m a (a+1+k) (by omega) (by omega) (by omega),dvd_fuel lw r n m (a+1+k) b (by omega) (by omega) (by omega)]
def L.dvL (l:L.Sq L.Pt) (r:L.Sq Int) (bite:Int) (a m b:Nat):Bool:=L.lawf (l.g (r.g a).toNat) (l.g (r.g m).toNat) (l.g (r.g b).toNat) bite
def L.dvF2 (l:L.Sq L.Pt) (r:L.Sq Int) (bite:Int) (a b:Nat):Option (List L.Trg):=L.dvd (L.dvL l r bite) r.g r.n a b
def L.dvM2 (l:L.Sq L.Pt) (r:L.Sq Int) (bite:Int) (a b m:Nat):Option (List L.Trg):=L.dvdM (L.dvF2 l r bite) (L.dvL l r bite) r.g a b m
theorem dvF2_1 (l:L.Sq L.Pt) (r:L.Sq Int) (bite:Int) {a b:Nat} (h:b=a+1) (hb:b<r.n):L.dvF2 l r bite a b=some []:=by
 unfold L.dvF2
 obtain ⟨n,e⟩:∃ n,r.n=n+1:=⟨r.n - 1,by omega⟩
 rw [e,L.dvd,if_pos h]
theorem dvF2_go (l:L.Sq L.Pt) (r:L.Sq Int) (bite:Int) {a b:Nat} (hab:a<b) (h:b ≠ a+1) (hb:b<r.n):L.dvF2 l r bite a b=L.fs (fun k=>L.dvM2 l r bite a b (a+1+k)) (b - a - 1):=by
 unfold L.dvF2
 obtain ⟨n,e⟩:∃ n,r.n=n+1:=⟨r.n - 1,by omega⟩
 rw [e,L.dvd,if_neg h]
 refine fs_congr fun k hk=>?_
 unfold L.dvM2 L.dvdM L.dvF2
 rw [e,dvd_fuel _ _ n (n+1) a (a+1+k) (by omega) (by omega) (by omega),dvd_fuel _ _ n (n+1) (a+1+k) b (by omega) (by omega) (by omega)]
def L.noDv (l:L.Sq L.Pt) (r:L.Sq Int) (bite:Int) (a b:Int):Prop:=L.dvF2 l r bite a.toNat b.toNat=none
theorem dvd_len (lw:Nat->Nat->Nat->Bool) (r:Nat->Int):∀ (n a b:Nat),a<b -> ∀ x,L.dvd lw r n a b=some x->x.length+1=b - a
 | 0,a,b,_,x,e=>by cases e
 | n+1,a,b,hab,x,e=>by
   rw [L.dvd] at e
   by_cases e1:b=a+1
   ·rw [if_pos e1] at e;cases e;simp;omega
   ·rw [if_neg e1] at e
    have key:∀ m,a<m->m<b -> ∀ x,L.dvdM (L.dvd lw r n) lw r a b m=some x->x.length+1=b - a:=fun m h1 h2 x e=>by
     unfold L.dvdM at e
     cases h3:lw a m b
     ·rw [h3] at e;cases e
     ·rw [h3,cond_true] at e
      cases h4:L.dvd lw r n a m with
      | none=>rw [h4] at e;cases e
      | some y =>
        cases h5:L.dvd lw r n m b with
        | none=>rw [h4,h5] at e;cases e
        | some z =>
          rw [h4,h5] at e
          cases e
          have:=dvd_len lw r n a m h1 y h4
          have:=dvd_len lw r n m b h2 z h5
          simp only [List.length_cons,List.length_append];omega
    have:∀ m,m <= b - a - 1 -> ∀ x,L.fs (fun k=>L.dvdM (L.dvd lw r n) lw r a b (a+1+k)) m=some x->x.length+1=b - a:=fun m=>by
     induction m with
     | zero=>intro _ x e;cases e
     | succ m ih =>
       intro hm x e
       rw [L.fs] at e
       cases e2:L.fs (fun k=>L.dvdM (L.dvd lw r n) lw r a b (a+1+k)) m with
       | some y=>rw [e2] at e;cases e;exact ih (by omega) _ e2
       | none=>rw [e2] at e;exact key _ (by omega) (by omega) x e
    exact this _ (Nat.le_refl _) x e
def L.hasO (x:Option (List L.Trg)):Bool:=x.isSome
def L.optL (x:Option (List L.Trg)):L.Sq L.Trg:=⟨(x.getD []).length,fun i=>(x.getD []).getD i ⟨0,0,0⟩⟩
theorem optL_len {l:L.Sq L.Pt} {r:L.Sq Int} {bite:Int} {a b:Nat} (h:a<b):(L.optL (L.dvF2 l r bite a b)).n <= b - a:=by
 unfold L.optL
 cases e:L.dvF2 l r bite a b with
 | none=>simp
 | some x=>have:=dvd_len _ _ _ _ _ h x e;simp;omega
theorem catT_opt (t:L.Trg) (x y:List L.Trg):(L.catT (L.thr ⟨1,fun _=>t⟩ (L.optL (some x)) (L.optL (some y))) 3).n=(L.optL (some (t :: (x ++ y)))).n /\ ∀ i,i<(L.catT (L.thr ⟨1,fun _=>t⟩ (L.optL (some x)) (L.optL (some y))) 3).n->(L.catT (L.thr ⟨1,fun _=>t⟩ (L.optL (some x)) (L.optL (some y))) 3).g i=(L.optL (some (t :: (x ++ y)))).g i:=by
 have e1:(L.catT (L.thr ⟨1,fun _=>t⟩ (L.optL (some x)) (L.optL (some y))) 3).n=0+1+x.length+y.length:=rfl
 refine ⟨by rw [e1];show _=(t :: (x ++ y)).length;simp;omega,fun i hi=>?_⟩
 rw [e1] at hi
 show (bif decide (i<0+1+x.length) then (bif decide (i<0+1) then (bif decide (i<0) then (⟨0,0,0⟩:L.Trg) else t) else x.getD (i - (0+1)) ⟨0,0,0⟩) else y.getD (i - (0+1+x.length)) ⟨0,0,0⟩)=(t :: (x ++ y)).getD i ⟨0,0,0⟩
 by_cases h1:i<0+1+x.length
 ·rw [decide_eq_true h1,cond_true]
  by_cases h2:i<0+1
  ·rw [decide_eq_true h2,cond_true]
   obtain rfl:i=0:=by omega
   rfl
  ·rw [decide_eq_false h2,cond_false]
   obtain ⟨j,rfl⟩:∃ j,i=j+1:=⟨i - 1,by omega⟩
   rw [List.getD_cons_succ,show j+1 - (0+1)=j by omega,List.getD_eq_getElem?_getD,List.getD_eq_getElem?_getD,List.getElem?_append_left (by omega)]
 ·rw [decide_eq_false h1,cond_false]
  obtain ⟨j,rfl⟩:∃ j,i=j+1:=⟨i - 1,by omega⟩
  rw [List.getD_cons_succ,show j+1 - (0+1+x.length)=j - x.length by omega,List.getD_eq_getElem?_getD,List.getD_eq_getElem?_getD,List.getElem?_append_right (by omega)]
def L.btR (l:L.Sq L.Pt) (r:L.Sq Int) (bite:Int):Option (List L.Trg):=L.dvF2 l r bite 0 (r.n - 1)
def L.pkRw (l:L.Sq L.Pt) (p:L.Pocket):L.Sq Int:=⟨L.rowD l.n p+1,L.rowI l.n p⟩
def L.pkB (l:L.Sq L.Pt) (p:L.Pocket) (bite:Int):Option (List L.Trg):=bif !L.hol l p then none else L.btR l (L.pkRw l p) bite
def L.trC (x:L.Trg):List SV:=[.int .i64 x.a,.int .i64 x.b,.int .i64 x.c]
def L.okRow (l:L.Sq L.Pt) (r:L.Sq Int) (bite:Int):Prop:=(l.n <= 1000/\r.n <= 1000/\0 <= bite/\bite <= 4096)/\(∀ i,i<r.n->0 <= r.g i/\r.g i<(l.n:Int)) /\ ∀ i,i<l.n->L.bdP (l.g i)
def c_lawful_p (u:L.Pt) (m:L.Pt) (v:L.Pt) (b:Int):Prop:=L.bdP u/\L.bdP m/\L.bdP v/\0 <= b/\b <= 4096
def c_lawful_r (u:L.Pt) (m:L.Pt) (v:L.Pt) (b:Int):SV:=.bool (L.lawf u m v b)
def c_lawful_s:List EV->Option (Prop × SV)
 | [.p (.agg [.int .i64 u_x,.int .i64 u_y]),.p (.agg [.int .i64 m_x,.int .i64 m_y]),.p (.agg [.int .i64 v_x,.int .i64 v_y]),.p (.int .i64 b)]=>some (c_lawful_p (⟨u_x,u_y⟩:L.Pt) (⟨m_x,m_y⟩:L.Pt) (⟨v_x,v_y⟩:L.Pt) b,c_lawful_r (⟨u_x,u_y⟩:L.Pt) (⟨m_x,m_y⟩:L.Pt) (⟨v_x,v_y⟩:L.Pt) b)
 | _=>none
abbrev c_lawful_S:SE.Spec:=(specO c_lawful_s)
def c_lawful_C:Cfg:={ muts:=[],frz:=lookN [],specs:=lookS [],loops:=lookL [],iters:=lookI [],rfs:=lookR [],nils:=lookM [] }
theorem c_lawful_vc (u:L.Pt) (m:L.Pt) (v:L.Pt) (b:Int) (hp:c_lawful_p u m v b):vc Tryz.prog (c_lawful_C) (bodyOf Tryz.f106) (st0 Tryz.f106 [.p (.agg [.int .i64 u.x,.int .i64 u.y]),.p (.agg [.int .i64 m.x,.int .i64 m.y]),.p (.agg [.int .i64 v.x,.int .i64 v.y]),.p (.int .i64 b)]) (retFn Tryz.prog Tryz.f106 (c_lawful_r u m v b)) :=
 @Eq.mpr _ (let A10:=(0:Int);let A8:=(v.y - m.y);let A7:=(v.x - m.x);let A6:=(m.x - u.x);let A5:=(m.y - u.y);let A4:=(v.y - u.y);let A3:=(v.x - u.x);let A9:=(A3 * A3+A4 * A4);let A1:=(A3 * A5 - A4 * A6);let A2:=(bif !decide (A3 * A5 - A4 * A6=A10) then decide (Max.max A1 (A10 - A1) <= A6 * A7+A5 * A8) else false);InK .i64 A3/\InK .i64 A5/\InK .i64 (A3 * A5)/\InK .i64 A4/\InK .i64 A6/\InK .i64 (A4 * A6)/\InK .i64 A1/\InK .i64 A6/\InK .i64 A7/\InK .i64 (A6 * A7)/\InK .i64 A5/\InK .i64 A8/\InK .i64 (A5 * A8)/\InK .i64 (A6 * A7+A5 * A8)/\InK .i64 A3/\InK .i64 A3/\InK .i64 (A3 * A3)/\InK .i64 A4/\InK .i64 A4/\InK .i64 (A4 * A4)/\InK .i64 A9/\((!decide (A3 * A5 - A4 * A6=A10))=true->InK .i64 (A10 - A1))/\(A2=true->InK .i64 (A1 * A1))/\(A2=true->InK .i64 (b * b))/\(A2=true->InK .i64 (b * b * A9))/\(bif bif !decide (A3 * A5 - A4 * A6=A10) then decide (Max.max A1 (A10 - A1) <= A6 * A7+A5 * A8) else false then decide (A1 * A1 <= b * b * A9) else false)=L.lawf u m v b) (by kernel_rfl) (by
 conv=>zeta
 obtain ⟨h1,h2,h3,b0,b1⟩:=hp
 unfold L.bdP at h1 h2 h3
 have m1:=mul_bd (a:=v.x - u.x) (b:=m.y - u.y) (m:=4096) (n:=4096) (by omega) (by omega) (by omega) (by omega)
 have m2:=mul_bd (a:=v.y - u.y) (b:=m.x - u.x) (m:=4096) (n:=4096) (by omega) (by omega) (by omega) (by omega)
 have m3:=mul_bd (a:=m.x - u.x) (b:=v.x - m.x) (m:=4096) (n:=4096) (by omega) (by omega) (by omega) (by omega)
 have m4:=mul_bd (a:=m.y - u.y) (b:=v.y - m.y) (m:=4096) (n:=4096) (by omega) (by omega) (by omega) (by omega)
 have m5:=mul_bd (a:=v.x - u.x) (b:=v.x - u.x) (m:=4096) (n:=4096) (by omega) (by omega) (by omega) (by omega)
 have m6:=mul_bd (a:=v.y - u.y) (b:=v.y - u.y) (m:=4096) (n:=4096) (by omega) (by omega) (by omega) (by omega)
 have m7:=mul_bd (a:=(v.x - u.x) * (m.y - u.y) - (v.y - u.y) * (m.x - u.x)) (b:=(v.x - u.x) * (m.y - u.y) - (v.y - u.y) * (m.x - u.x)) (m:=33554432) (n:=33554432) (by omega) (by omega) (by omega) (by omega)
 have m8:=mul_bd (a:=b) (b:=b) (m:=4096) (n:=4096) (by omega) (by omega) (by omega) (by omega)
 have m9:=mul_bd (a:=b * b) (b:=(v.x - u.x) * (v.x - u.x)+(v.y - u.y) * (v.y - u.y)) (m:=16777216) (n:=33554432) (by omega) (by omega) (by omega) (by omega)
 repeat' with_reducible apply And.intro
 all_goals first | exact rfl | exact jK | exact fun _=>jK)
theorem c_lawful_ok:SpecOk Tryz.prog 106 c_lawful_S:=fnX Tryz.func106 (c:=bodyOf Tryz.f106) (by kernel_rfl) mixed (fun args p r hs hp=>by
 unfold c_lawful_s at hs
 split at hs
 ·cases hs;exact ⟨_,_,c_lawful_vc _ _ _ _ hp,(.same _ (.same _ (.same _ (.same _ .nil)))),⟨show SpecsL Tryz.prog _ from SpecsL.nil,rfl,⟨show ItersL Tryz.prog _ from ItersL.nil,(TrsOk.none (fun _=>rfl))⟩⟩⟩
 ·cases hs)
theorem c_lawful_en:Enters Tryz.prog 106:=fun args w=>by kernel_rfl
def c_row_p (n:Int) (p:L.Pocket):Prop:=n <= 1000/\L.okPk n p
def c_row_r (n:Int) (p:L.Pocket):SV:=.sl 1 (L.rowD n p+1) (fun i=>[.int .i64 (L.rowI n p i)])
def c_row_s:List EV->Option (Prop × SV)
 | [.p (.int .i64 n),.p (.agg [.int .i64 p_fr,.int .i64 p_to_,.int .i64 p_area])]=>some (c_row_p n (⟨p_fr,p_to_,p_area⟩:L.Pocket),c_row_r n (⟨p_fr,p_to_,p_area⟩:L.Pocket))
 | _=>none
abbrev c_row_S:SE.Spec:=(specO c_row_s)
def c_row_C:Cfg:={ cC with muts:=[9],frz:=lookN [(6,[9])] }
theorem c_row_vc (n:Int) (p:L.Pocket) (hp:c_row_p n p):vc Tryz.prog ({ c_row_C with loops:=lookL [(3,{ T:=Nat,keep:=[0,3,5],keepO:=[],chg:=fun i=>[(6,.p (.int .i64 (L.rowI n p i)))],own:=fun i=>[(9,.row 3 1 (i+1) (fun j=>[.int .i64 (L.rowI n p j)]))],inv:=fun i=>i <= L.rowD n p,mu:=fun i=>L.rowD n p - i })],rfs:=lookR [] }) (bodyOf Tryz.f151) (st0 Tryz.f151 [.p (.int .i64 n),.p (.agg [.int .i64 p.fr,.int .i64 p.to_,.int .i64 p.area])]) (retFn Tryz.prog Tryz.f151 (c_row_r n p)) :=
 @Eq.mpr _ (let I:=SV.int .i64;let A4:=[I p.fr,I p.to_,I p.area];let A1:=(1:Nat);(∃ (g:Nat),p.fr=L.rowI n p g/\(nat_lit 1=g+A1 /\ ∀ (i:Nat),i<nat_lit 1->rowsOf [I p.fr] (nat_lit 1) i = [I (L.rowI n p i)])/\g <= L.rowD n p) /\ ∀ (g:Nat),let A3:=(!decide (L.rowI n p g=p.to_));let A2:=(L.rowI n p g+(1:Int));g <= L.rowD n p->(A3=true->InK .i64 A2/\n ≠ (0:Int)/\(g+A1+nat_lit 1) * nat_lit 8 <= (140737488355328:Nat) /\ ∃ (g':Nat),Int.tmod A2 n=L.rowI n p g'/\SV.ref A4 (nat_lit 0)=SV.ref A4 (nat_lit 0)/\n=n/\(g+A1+nat_lit 1=g'+A1 /\ ∀ (i:Nat),i<g+A1+nat_lit 1->appGet (g+A1) (fun (j:Nat)=>[I (L.rowI n p j)]) (fun (x:Nat)=>[I (Int.tmod A2 n)]) i = [I (L.rowI n p i)])/\g' <= L.rowD n p/\L.rowD n p - g'<L.rowD n p - g)/\(A3=false->g+A1=L.rowD n p+A1 /\ ∀ (i:Nat),i<g+A1 -> [I (L.rowI n p i)] = [I (L.rowI n p i)])) (by kernel_rfl) (by
 conv=>zeta
 obtain ⟨hn,hk⟩:=(show n <= 1000/\L.okPk n p from hp)
 obtain ⟨d1,d2,f0,f1,fr,fe,fs⟩:=row_facts hk
 refine ⟨⟨(0:Nat),f0.symm,⟨rfl,fun i hi=>?_⟩,Nat.zero_le _⟩,fun g hg=>⟨fun hc=>?_,fun hc=>?_⟩⟩
 ·have hi:i<1:=hi
  obtain rfl:i=0:=by omega
  rw [f0];rfl
 ·have hc:¬ L.rowI n p g=p.to_:=of_decide_eq_false (notT hc)
  have hlt:g<L.rowD n p:=by
   rcases Nat.lt_or_ge g (L.rowD n p) with h | h
   ·exact h
   ·obtain rfl:g=L.rowD n p:=by omega
    exact absurd f1 hc
  have hr:=fr g hg
  refine ⟨jK,by omega,by show (g+1+1) * 8 <= 140737488355328;omega,g+1,fs g hlt,rfl,rfl,⟨rfl,fun i hi=>?_⟩,hlt,by omega⟩
  have hi:i<g+1+1:=hi
  unfold appGet
  by_cases e:i<g+1
  ·rw [if_pos e]
  ·rw [if_neg e]
   obtain rfl:i=g+1:=by omega
   rw [fs g hlt]
 ·have hc:L.rowI n p g=p.to_:=of_decide_eq_true (notF hc)
  obtain rfl:=fe g hg hc
  exact ⟨rfl,fun _ _=>rfl⟩)
theorem c_row_ok:SpecOk Tryz.prog 151 c_row_S:=fnX Tryz.func151 (c:=bodyOf Tryz.f151) (by kernel_rfl) mixed (fun args p r hs hp=>by
 unfold c_row_s at hs
 split at hs
 ·cases hs;exact ⟨_,_,c_row_vc _ _ hp,(.same _ (.same _ .nil)),⟨show SpecsL Tryz.prog _ from SpecsL.nil,rfl,⟨show ItersL Tryz.prog _ from ItersL.nil,(TrsOk.none (fun _=>rfl))⟩⟩⟩
 ·cases hs)
theorem c_row_en:Enters Tryz.prog 151:=fun args w=>by kernel_rfl
def c_hol1_p (i:Int) (b:(L.Sq Int)):Prop:=0 <= i/\i<(b.n:Int)
def c_hol1_r (i:Int) (b:(L.Sq Int)):SV:=.bool (decide (0<b.g i.toNat))
def c_hol1_s:List EV->Option (Prop × SV)
 | [.p (.int .i64 i),.p (.ref [.sl 1 b_n b_g] 0)]=>some ((∀ i,i<b_n->b_g i = [.int .i64 ((intOf (b_g i)))])/\c_hol1_p i (⟨b_n,fun i=>intOf (b_g i)⟩:(L.Sq Int)),c_hol1_r i (⟨b_n,fun i=>intOf (b_g i)⟩:(L.Sq Int)))
 | _=>none
abbrev c_hol1_S:SE.Spec:=(specO c_hol1_s)
def c_hol1_C:Cfg:={ muts:=[],frz:=lookN [],specs:=lookS [],loops:=lookL [],iters:=lookI [],rfs:=lookR [],nils:=lookM [] }
theorem c_hol1_vc (i:Int) (b:(L.Sq Int)) (hp:c_hol1_p i b):vc Tryz.prog (c_hol1_C) (bodyOf Tryz.f183) (st0 Tryz.f183 [.p (.int .i64 i),.p (.ref [.sl 1 b.n (fun i=>[.int .i64 ((b.g i))])] 0)]) (retFn Tryz.prog Tryz.f183 (c_hol1_r i b)) :=
 @Eq.mpr _ (((0:Int) <= i/\i<(↑b.n:Int))/\decide ((0:Int)<b.g (Int.toNat i))=decide ((0:Int)<b.g (Int.toNat i))) (by kernel_rfl) (by
 exact ⟨hp,rfl⟩)
theorem c_hol1_ok:SpecOk Tryz.prog 183 c_hol1_S:=fnX Tryz.func183 (c:=bodyOf Tryz.f183) (by kernel_rfl) mixed (fun args p r hs hp=>by
 unfold c_hol1_s at hs
 split at hs
 ·cases hs; exact ⟨_, _, c_hol1_vc _ _ hp.2, (.same _ (.p (Ext.ref rfl (fun i hi => by
  rcases i with _ | i
  ·show Ext (SV.sl _ _ _) (SV.sl _ _ _);exact (Ext.sl hp.1)
  exact absurd hi (by simp;try omega))) .nil)),⟨show SpecsL Tryz.prog _ from SpecsL.nil,rfl,⟨show ItersL Tryz.prog _ from ItersL.nil,(TrsOk.none (fun _=>rfl))⟩⟩⟩
 ·cases hs)
theorem c_hol1_en:Enters Tryz.prog 183:=fun args w=>by kernel_rfl
theorem c_hol1_B:∀ args p r,c_hol1_s args=some (p,r) -> ∃ b,r=.bool b:=by
 intro args p r h
 unfold c_hol1_s at h
 split at h
 ·cases h;exact ⟨_,rfl⟩
 ·cases h
def c_hollow_p (l:(L.Sq L.Pt)) (p:L.Pocket):Prop:=L.validOutline l=true/\L.okPk l.n p
def c_hollow_r (l:(L.Sq L.Pt)) (p:L.Pocket):SV:=.bool (L.hol l p)
def c_hollow_s:List EV->Option (Prop × SV)
 | [.p (.sl 2 l_n l_g),.p (.agg [.int .i64 p_fr,.int .i64 p_to_,.int .i64 p_area])]=>some ((∀ i,i<l_n->l_g i = [.int .i64 ((ofPt (l_g i)).x),.int .i64 ((ofPt (l_g i)).y)])/\c_hollow_p (⟨l_n,fun i=>ofPt (l_g i)⟩:(L.Sq L.Pt)) (⟨p_fr,p_to_,p_area⟩:L.Pocket),c_hollow_r (⟨l_n,fun i=>ofPt (l_g i)⟩:(L.Sq L.Pt)) (⟨p_fr,p_to_,p_area⟩:L.Pocket))
 | _=>none
abbrev c_hollow_S:SE.Spec:=(specO c_hollow_s)
def c_hollow_C:Cfg:={ cC with muts:=[5],frz:=lookN [(3,[5])],specs:=lookS [(181,p_Bends_S),(151,c_row_S),(182,s_conFI_S),(183,c_hol1_S)] }
theorem c_hollow_vc (l:(L.Sq L.Pt)) (p:L.Pocket) (hp:c_hollow_p l p):vc Tryz.prog (c_hollow_C) (bodyOf Tryz.f149) (st0 Tryz.f149 [.p (.sl 2 l.n (fun i=>[.int .i64 ((l.g i).x),.int .i64 ((l.g i).y)])),.p (.agg [.int .i64 p.fr,.int .i64 p.to_,.int .i64 p.area])]) (retFn Tryz.prog Tryz.f149 (c_hollow_r l p)) :=
 @Eq.mpr _ (let I:=SV.int .i64;let T:=Int.toNat;let A12:=(0:Nat);let A8:=(↑l.n:Int);let A6:=(1:Int);let A3:=(↑(L.rowD A8 p+(1:Nat)):Int);let A9:=(A3 - A6 - A6);let A1:=(L.Sq.mk l.n fun (i:Nat)=>ofPt ((fun (i:Nat)=>[I (l.g i).x,I (l.g i).y]) i));let A4:=[SV.ref [SV.sl (nat_lit 1) (bif L.validOutline A1 then A1.n else A12) fun (k:Nat)=>[I (L.bend A1 k)]] (nat_lit 0)];((∀ (i:Nat),let A11:=[I (l.g i).x,I (l.g i).y];i<l.n->A11=A11)/\l.n <= (1000000:Nat))/\(A8 <= (1000:Int)/\L.okPk A8 p)/\InK .i64 (A3 - A6)/\((0:Int) <= A6/\A6 <= A3 - A6/\A3 - A6 <= A3)/\((∀ (i:Nat),let A10:=[I (L.rowI A8 p (T A6+i))];i<T A9->A10=A10)/\isB (FSpec.mk (fun («as»:List SV)=>preO c_hol1_s (List.map EV.p «as» ++ List.map EV.p A4)) fun («as»:List SV)=>resO c_hol1_s (List.map EV.p «as» ++ List.map EV.p A4))/\T A9 <= (1000000:Nat) /\ ∀ (i:Nat),i<T A9->(∀ (i:Nat),let A7:=(L.Sq.mk l.n fun (i:Nat)=>l.g i);(i<bif L.validOutline A7 then l.n else A12) -> [I (L.bend A7 i)] = [I (L.bend A7 i)])/\(0:Int) <= L.rowI A8 p (T A6+i)/\L.rowI A8 p (T A6+i)<(↑(bif L.validOutline (L.Sq.mk l.n fun (i:Nat)=>l.g i) then l.n else A12):Int))/\(!L.anyB (T A9) fun (i:Nat)=>let A2:=(L.Sq.mk l.n fun (i:Nat)=>ofPt ((fun (i:Nat)=>[I (l.g i).x,I (l.g i).y]) i));let A5:=[SV.ref [SV.sl (nat_lit 1) (bif L.validOutline A2 then A2.n else A12) fun (k:Nat)=>[I (L.bend A2 k)]] (nat_lit 0)];L.fbl (FSpec.mk (fun («as»:List SV)=>preO c_hol1_s (List.map EV.p «as» ++ List.map EV.p A5)) fun («as»:List SV)=>resO c_hol1_s (List.map EV.p «as» ++ List.map EV.p A5)) [I (L.rowI A8 p (T A6+i))])=L.hol l p) (by kernel_rfl) (by
 conv=>zeta
 obtain ⟨hv,hk⟩:=(show L.validOutline l=true/\L.okPk l.n p from hp)
 obtain ⟨n3,n24,_,_⟩:=validOutline_of hv
 obtain ⟨d1,d2,f0,f1,fr,fe,fs⟩:=row_facts hk
 have eN:(((L.rowD l.n p+1:Nat):Int) - 1 - 1).toNat=L.rowD l.n p - 1:=by omega
 have eB:(bif L.validOutline l then l.n else 0)=l.n:=by rw [hv];rfl
 refine ⟨⟨fun _ _=>rfl,by omega⟩,⟨by omega,hk⟩,jK,⟨by omega,by omega,by omega⟩,⟨fun _ _=>rfl,isB_of c_hol1_B _,by omega,fun i hi=>⟨fun _ _=>rfl,?_⟩⟩,?_⟩
 ·rw [eB]
  rw [eN] at hi
  exact fr (1+i) (by omega)
 ·rw [eN]
  unfold L.hol
  rfl)
theorem c_hollow_ok:SpecOk Tryz.prog 149 c_hollow_S:=fnX Tryz.func149 (c:=bodyOf Tryz.f149) (by kernel_rfl) mixed (fun args p r hs hp=>by
 unfold c_hollow_s at hs
 split at hs
 ·cases hs;exact ⟨_,_,c_hollow_vc _ _ hp.2,(.p (.sl hp.1) (.same _ .nil)),⟨show SpecsL Tryz.prog _ from (SpecsL.cons p_Bends_ok p_Bends_en (SpecsL.cons c_row_ok c_row_en (SpecsL.cons s_conFI_ok s_conFI_en (SpecsL.cons c_hol1_ok c_hol1_en SpecsL.nil)))),rfl,⟨show ItersL Tryz.prog _ from ItersL.nil,(TrsOk.none (fun _=>rfl))⟩⟩⟩
 ·cases hs)
theorem c_hollow_en:Enters Tryz.prog 149:=fun args w=>by kernel_rfl
def s_growT_p (s:Nat) (n:Int):Prop:=1 <= n/\n <= 2000000
def s_growT_q (s:Nat) (n:Int):Nat->Prop:=fun _=>True
def s_growT_n (s:Nat) (n:Int):Nat->Nat:=fun _=>0
def s_growT_g (s:Nat) (n:Int):Nat->Nat->List SV:=fun _ _=>[]
def s_growT_s:List EV->Option (Prop × (Nat->Prop) × (Nat->Nat) × (Nat->Nat->List SV))
 | [.p (.raw (.slice none 0 0)),.p (.int .i64 n)]=>some (s_growT_p (0:Nat) n,s_growT_q (0:Nat) n,s_growT_n (0:Nat) n,s_growT_g (0:Nat) n)
 | _=>none
abbrev s_growT_S:SE.Spec:=(specF Nat 0 91 3 s_growT_s)
def s_growT_C:Cfg:={ cC with muts:=[22],cuts:=[25] }
theorem s_growT_vc (s:Nat) (n:Int) (hp:s_growT_p s n):vc Tryz.prog (s_growT_C) (bodyOf Tryz.f210) (st0 Tryz.f210 [.p (.raw (.slice none 0 0)),.p (.int .i64 n)]) (retFresh Tryz.prog Tryz.f210 (Nat) (s_growT_q s n) 91 3 (s_growT_n s n) (s_growT_g s n)) :=
 @Eq.mpr _ (let A4:=(0:Nat);let A2:=(0:Int);let A1:=(↑A4:Int);let A3:=(A1 - A1);(decide (n<A2)=true->False)/\(decide (n<A2)=false->InK .i64 A3/\InK .i64 (n - A3)/\(decide (A2<n - A3)=true->(A2 <= A2/\A2 <= A1/\A1 <= A2)/\(A2<n - A3/\(n - A3) * (↑(nat_lit 24):Int) <= (140737488355328:Int))/\(A2 <= A1/\A1 <= (↑(Int.toNat (n - A3)):Int)) /\ ∃ (t:Nat),(nat_lit 0=A4 /\ ∀ (i:Nat),i<nat_lit 0 -> [SV.int .i64 A2,SV.int .i64 A2,SV.int .i64 A2] = [])/\True)/\(decide (A2<n - A3)=false -> ∃ (t:Nat),A4=A4/\True))) (by kernel_rfl) (by
 conv=>zeta
 obtain ⟨h1,h2⟩:=hp
 refine ⟨fun h=>?_,fun _=>⟨jK,jK,fun h=>⟨⟨by omega,by omega,by omega⟩,⟨by omega,show (n - (((0:Nat):Int) - ((0:Nat):Int))) * 24 <= 140737488355328 by omega⟩,⟨by omega,by omega⟩,(0:Nat),⟨rfl,fun i hi=>absurd hi (Nat.not_lt_zero _)⟩,trivial⟩,fun h=>⟨(0:Nat),rfl,trivial⟩⟩⟩
 have:=of_decide_eq_true h
 omega)
theorem s_growT_ok:SpecOk Tryz.prog 210 s_growT_S:=freshX Tryz.func210 (c:=bodyOf Tryz.f210) (by kernel_rfl) mixed (fun args p q n g hs hp=>by
 unfold s_growT_s at hs
 split at hs
 ·cases hs;exact ⟨_,_,s_growT_vc _ _ hp,(.same _ (.same _ .nil)),⟨show SpecsL Tryz.prog _ from SpecsL.nil,rfl,⟨show ItersL Tryz.prog _ from ItersL.nil,(TrsOk.none (fun _=>rfl))⟩⟩⟩
 ·cases hs)
theorem s_growT_en:Enters Tryz.prog 210:=fun args w=>by kernel_rfl
def s_catT_p (c:(Nat->L.Sq L.Trg)):Prop:=(1 <= (c 0).n/\(c 0).n <= 10000)/\(c 1).n <= 10000/\(c 2).n <= 10000
def s_catT_q (c:(Nat->L.Sq L.Trg)):Nat->Prop:=fun _=>True
def s_catT_n (c:(Nat->L.Sq L.Trg)):Nat->Nat:=fun _=>(L.catT c 3).n
def s_catT_g (c:(Nat->L.Sq L.Trg)):Nat->Nat->List SV:=fun _ k=>[.int .i64 (((L.catT c 3).g k).a),.int .i64 (((L.catT c 3).g k).b),.int .i64 (((L.catT c 3).g k).c)]
def s_catT_s:List EV->Option (Prop × (Nat->Prop) × (Nat->Nat) × (Nat->Nat->List SV))
 | [.p (.sl 1 3 c_g)]=>some ((rowTrg (c_g 0)/\rowTrg (c_g 1)/\rowTrg (c_g 2))/\s_catT_p (L.thr (ofSqTrg (c_g 0)) (ofSqTrg (c_g 1)) (ofSqTrg (c_g 2))),s_catT_q (L.thr (ofSqTrg (c_g 0)) (ofSqTrg (c_g 1)) (ofSqTrg (c_g 2))),s_catT_n (L.thr (ofSqTrg (c_g 0)) (ofSqTrg (c_g 1)) (ofSqTrg (c_g 2))),s_catT_g (L.thr (ofSqTrg (c_g 0)) (ofSqTrg (c_g 1)) (ofSqTrg (c_g 2))))
 | _=>none
abbrev s_catT_S:SE.Spec:=(specF Nat 0 91 3 s_catT_s)
def s_catT_C:Cfg:={ cC with muts:=[24],specs:=lookS [(210,s_growT_S)],raws:=[210] }
theorem s_catT_vc (c:(Nat->L.Sq L.Trg)) (hp:s_catT_p c):vc Tryz.prog ({ s_catT_C with loops:=lookL [(3,{ T:=Nat,keep:=[0,9,10],keepO:=[],chg:=fun i=>[(3,.p (.int .i64 ((L.catT c i).n:Int))),(11,.p (.int .i64 (i:Int)))],own:=fun _=>[],inv:=fun i=>i <= 3,mu:=fun i=>3 - i }),(11,{ T:=Nat,keep:=[0,6,25,26],keepO:=[],chg:=fun i=>[(27,.p (.int .i64 (i:Int)))],own:=fun i=>[(24,.row 91 3 (L.catT c i).n (fun k=>[.int .i64 (((L.catT c i).g k).a),.int .i64 (((L.catT c i).g k).b),.int .i64 (((L.catT c i).g k).c)]))],inv:=fun i=>i <= 3,mu:=fun i=>3 - i })],rfs:=lookR [] }) (bodyOf Tryz.f185) (st0 Tryz.f185 [.p (.sl 1 3 (fun i=>[.sl 3 (c i).n (fun k=>[.int .i64 ((c i).g k).a,.int .i64 ((c i).g k).b,.int .i64 ((c i).g k).c])]))]) (retFresh Tryz.prog Tryz.f185 (Nat) (s_catT_q c) 91 3 (s_catT_n c) (s_catT_g c)) :=
  @Eq.mpr _ (let I:=SV.int .i64;let T:=Int.toNat;let A14:=(1:Int);let A13:=(0:Int);let A6:=(3:Nat);let A2:=(↑(nat_lit 3):Int);(∃ (g:Nat),A13=(↑(L.catT c g).n:Int)/\A13=(↑g:Int)/\g <= A6) /\ ∀ (g:Nat),let A8:=(↑g:Int);let A15:=(↑(c (T A8)).n:Int);let A7:=(↑(L.catT c g).n:Int);let A1:=(nat_lit 3=nat_lit 3 /\ ∀ (i:Nat),let A5 :=
 [SV.sl A6 (c i).n fun (k:Nat)=>[I ((c i).g k).a,I ((c i).g k).b,I ((c i).g k).c]];i<nat_lit 3->A5=A5);g <= A6->(decide (A8<A2)=true->(A13 <= A8/\A8<A2)/\InK .i64 (A7+A15)/\(false=true->False)/\(false=false->InK .i64 (A8+A14) /\ ∃ (g':Nat),A7+A15=(↑(L.catT c g').n:Int)/\A8+A14=(↑g'
:Int)/\A2=A2/\A1/\A1/\g' <= A6/\A6 - g'<A6 - g))/\(decide (A8<A2)=false->(A14 <= A7/\A7 <= (2000000:Int)) /\ ∀ (t:Nat),True->(∃ (g:Nat),A13=(↑g:Int)/\((0:Nat)=(L.catT c g).n /\ ∀ (i:Nat),let A12:=((L.catT c g).g i);i<(0:Nat) -> [] = [I A12.a,I A12.b,I A12.c])/\g <= A6) /\ ∀ (g_1:Nat),let A4:=(↑g_1:Int);let A9:=(c (T A4));let A3 :=
 (L.catT c g_1);g_1 <= A6->(decide (A4<A2)=true->(A13 <= A4/\A4<A2)/\(A3.n+A9.n) * nat_lit 24 <= (140737488355328:Nat)/\InK .i64 (A4+A14) /\ ∃ (g':Nat),A4+A14=(↑g':Int)/\A2=A2/\A1/\A1/\(A3.n+A9.n=(L.catT c g').n /\ ∀ (i:Nat),let A10:=((L.catT c g').g i);i<A3.n+A9.n->appGet A3.n (fun (k:Nat)=>[I (A3.g k).a,I (A3.g
 k).b,I (A3.g k).c]) (fun (k:Nat)=>[I (A9.g k).a,I (A9.g k).b,I (A9.g k).c]) i = [I A10.a,I A10.b,I A10.c])/\g' <= A6/\A6 - g'<A6 - g_1)/\(decide (A4<A2)=false -> ∃ (t:Nat),(A3.n=(L.catT c A6).n /\ ∀ (i:Nat),let A11:=((L.catT c A6).g i);i<A3.n -> [I (A3.g i).a,I (A3.g i).b,I (A3.g i).c] = [I A11.a,I A11.b,I A11.c])/\True))) (by kernel_rfl) (by
  conv=>zeta
  obtain ⟨⟨h0,h1⟩,h2,h3⟩:=hp
  have hc:∀ i,i<3->(c i).n <= 10000:=fun i hi=>by
   match i,hi with
   | 0,_=>exact h1
   | 1,_=>exact h2
   | 2,_=>exact h3
  have e1:(L.catT c 1).n=0+(c 0).n:=rfl
  have e2:(L.catT c 2).n=0+(c 0).n+(c 1).n:=rfl
  have e3:(L.catT c 3).n=0+(c 0).n+(c 1).n+(c 2).n:=rfl
  have ht:∀ i,i <= 3->(L.catT c i).n <= 30000:=fun i hi=>by
   match i,hi with
   | 0,_=>exact Nat.zero_le _
   | 1,_=>omega
   | 2,_=>omega
   | 3,_=>omega
  refine ⟨⟨(0:Nat),rfl,rfl,Nat.zero_le _⟩,fun g hg=>⟨fun hlt=>?_,fun hge=>?_⟩⟩
  ·have hb:(g:Int)<3:=of_decide_eq_true hlt
   have e0:((g:Int)).toNat=g:=by omega
   have hcg:=hc g (by omega)
   have htg:=ht g hg
   rw [e0]
   exact ⟨⟨by omega,hb⟩,jK,fun h=>Bool.false_ne_true h,fun _=>⟨jK,g+1,by show ((L.catT c g).n:Int)+((c g).n:Int)=(((L.catT c g).n+(c g).n:Nat):Int);omega,by omega,rfl,⟨rfl,fun _ _=>rfl⟩,⟨rfl,fun _ _=>rfl⟩,by omega,by omega⟩⟩
  ·have hb:¬ (g:Int)<3:=of_decide_eq_false hge
   obtain rfl:g=3:=by omega
   refine ⟨⟨by omega,by omega⟩,fun _ _=>⟨⟨(0:Nat),rfl,⟨rfl,fun i hi=>absurd hi (Nat.not_lt_zero _)⟩,Nat.zero_le _⟩,fun k hk=>⟨fun hlt=>?_,fun hge=>?_⟩⟩⟩
   ·have hb:(k:Int)<3:=of_decide_eq_true hlt
    have e0:((k:Int)).toNat=k:=by omega
    have hck:=hc k (by omega)
    have htk:=ht k hk
    rw [e0]
    refine ⟨⟨by omega,hb⟩,show ((L.catT c k).n+(c k).n) * 24 <= 140737488355328 by omega,jK,k+1,by omega,rfl,⟨rfl,fun _ _=>rfl⟩,⟨rfl,fun _ _=>rfl⟩,⟨rfl,fun i hi=>?_⟩,by omega,by omega⟩
    unfold appGet
    by_cases h:i<(L.catT c k).n
    ·have w : (L.catT c (k + 1)).g i = (L.catT c k).g i := by
      show (bif decide (i<(L.catT c k).n) then _ else _)=_
      rw [decide_eq_true h];rfl
     rw [if_pos h,w]
    ·have w : (L.catT c (k + 1)).g i = (c k).g (i - (L.catT c k).n) := by
      show (bif decide (i<(L.catT c k).n) then _ else _)=_
      rw [decide_eq_false h];rfl
     rw [if_neg h,w]
   ·have hb:¬ (k:Int)<3:=of_decide_eq_false hge
    obtain rfl:k=3:=by omega
    exact ⟨(0:Nat),⟨rfl,fun _ _=>rfl⟩,trivial⟩)
theorem s_catT_ok:SpecOk Tryz.prog 185 s_catT_S:=freshX Tryz.func185 (c:=bodyOf Tryz.f185) (by kernel_rfl) mixed (fun args p q n g hs hp=>by
 unfold s_catT_s at hs
 split at hs
 ·cases hs;exact ⟨_,_,s_catT_vc _ hp.2,(.p (rows3_ext hp.1) .nil),⟨show SpecsL Tryz.prog _ from (SpecsL.cons s_growT_ok s_growT_en SpecsL.nil),rfl,⟨show ItersL Tryz.prog _ from ItersL.nil,(TrsOk.none (fun _=>rfl))⟩⟩⟩
 ·cases hs)
theorem s_catT_en:Enters Tryz.prog 185:=fun args w=>by kernel_rfl
abbrev c_bt1_mk:Mk:={ T:=(L.Sq L.Pt) × (L.Sq Int) × (Int) × (Nat) × (Nat),U:=Nat,args:=fun t=>(fun l r bite a b=>[.p (.int .i64 (a:Int)),.p (.int .i64 (b:Int))] ++ [.loc 1000 0,.p (.ref [(.sl 2 l.n (fun i=>[.int .i64 ((l.g i).x),.int .i64 ((l.g i).y)]))] 0),.p (.ref [(.sl 1 r.n (fun i=>[.int .i64 ((r.g i))]))] 0),.p (.ref [.int .i64 bite] 0),.loc 1001 0]) t.1 t.2.1 t.2.2.1 t.2.2.2.1 t.2.2.2.2,lkeys:=[1000,1001,1002],keys:=[],lent:=fun t=>(fun l r bite a b=>[(1000,.blk 236 [.mapv 1002]),(1001,.blk 237 [.cl 184 [.loc 1000 0,.p (.ref [(.sl 2 l.n (fun i=>[.int .i64 ((l.g i).x),.int .i64 ((l.g i).y)]))] 0),.p (.ref [(.sl 1 r.n (fun i=>[.int .i64 ((r.g i))]))] 0),.p (.ref [.int .i64 bite] 0),.loc 1001 0]]),(1002,.ms 238 4 (L.noDv l r bite))]) t.1 t.2.1 t.2.2.1 t.2.2.2.1 t.2.2.2.2,pre:=fun t=>(fun l r bite a b=>L.okRow l r bite/\a<b/\b<r.n) t.1 t.2.1 t.2.2.1 t.2.2.2.1 t.2.2.2.2,post:=fun t u=>(fun l r bite a b=>fun uu=>True) t.1 t.2.1 t.2.2.1 t.2.2.2.1 t.2.2.2.2 u,lent':=fun t u=>(fun l r bite a b=>fun uu=>[(1000,.blk 236 [.mapv 1002]),(1001,.blk 237 [.cl 184 [.loc 1000 0,.p (.ref [(.sl 2 l.n (fun i=>[.int .i64 ((l.g i).x),.int .i64 ((l.g i).y)]))] 0),.p (.ref [(.sl 1 r.n (fun i=>[.int .i64 ((r.g i))]))] 0),.p (.ref [.int .i64 bite] 0),.loc 1001 0]]),(1002,.ms 238 4 (L.noDv l r bite))]) t.1 t.2.1 t.2.2.1 t.2.2.2.1 t.2.2.2.2 u,own:=fun t u=>(fun l r bite a b=>fun uu=>[]) t.1 t.2.1 t.2.2.1 t.2.2.2.1 t.2.2.2.2 u,res:=fun t u=>(fun l r bite a b=>fun uu=>.p (.tup [.sl 3 (L.optL (L.dvF2 l r bite a b)).n (fun i=>[.int .i64 (((L.optL (L.dvF2 l r bite a b)).g i).a),.int .i64 (((L.optL (L.dvF2 l r bite a b)).g i).b),.int .i64 (((L.optL (L.dvF2 l r bite a b)).g i).c)]),.bool (L.hasO (L.dvF2 l r bite a b))])) t.1 t.2.1 t.2.2.1 t.2.2.2.1 t.2.2.2.2 u }
abbrev c_bt1_mu:c_bt1_mk.T->Nat:=fun t=>(fun l r bite a b=>b - a) t.1 t.2.1 t.2.2.1 t.2.2.2.1 t.2.2.2.2
theorem c_bt1_vc (rn:Nat) (l:L.Sq L.Pt) (r:L.Sq Int) (bite:Int) (a:Nat) (b:Nat) (hp:c_bt1_mk.pre (l,r,bite,a,b)) (hmu:b - a<rn+1):vc Tryz.prog ({ muts:=[],frz:=lookN [],specs:=lookS [(106,c_lawful_S),(185,s_catT_S)],loops:=lookL [(6,{ T:=Nat,keep:=[0,1,2,3,4,5,6],keepO:=[1000,1001,1002],chg:=fun i=>[(11,.p (.int .i64 ((a+1+i:Nat):Int)))],own:=fun _=>[],inv:=fun i=>i <= b - a - 1 /\ ∀ j,j<i->L.dvM2 l r bite a b (a+1+j)=none,mu:=fun i=>b - a - i })],iters:=lookI [],rfs:=lookR [],nils:=lookM [],mks:=lookK [(184,Mk.lt c_bt1_mk c_bt1_mu rn)],ren:=fun k=>k }) (bodyOf Tryz.f184) (stTr Tryz.f184 (c_bt1_mk.args (l,r,bite,a,b)) (c_bt1_mk.lent (l,r,bite,a,b))) (retMk Tryz.prog Tryz.f184 c_bt1_mk (l,r,bite,a,b)) :=
 @Eq.mpr _ (let I:=SV.int .i64;let T:=Int.toNat;let A87:=(3:Nat);let A78:=(1001:Nat);let A77:=(1000:Nat);let A73:=(2:Nat);let A69:=(nat_lit 2);let A62:=(nat_lit 1001);let A61:=(nat_lit 1000);let A60:=(↑l.n:Int);let A57:=(10000:Nat);let A52:=(nat_lit 1);let A49:=(184:Nat);let A44:=(↑r.n:Int);let A43:=(1:Int);let A39:=(0:Int);let A25:=(0:Nat);let A24:=(nat_lit 184);let A23:=(1:Nat);let A18:=(∀ (a b:Int),L.noDv l r bite a b->L.noDv l r bite a b);let A15:=(L.dvF2 l r bite a b);let A40:=(L.optL A15);let A14:=(↑b:Int);let A68:=(A39 <= r.g (T A14)/\r.g (T A14)<A60);let A56:=(A39 <= A14/\A14<A44);let A34:=(r.g (T A14));let A71:=(l.g (T A34));let A13:=(↑a:Int);let A67:=(A39 <= r.g (T A13)/\r.g (T A13)<A60);let A55:=(A39 <= A13/\A13<A44);let A33:=(r.g (T A13));let A70:=(l.g (T A33));let A28:=(∃ (g:Nat),A13+A43=(↑(a+A23+g):Int)/\g <= b - a - A23 /\ ∀ (j:Nat),j<g->L.dvM2 l r bite a b (a+A23+j)=Option.none);let A8:=[SV.sl A52 r.n fun (i:Nat)=>[I (r.g i)]];let A7:=(nat_lit 0);let A6:=[SV.sl A69 l.n fun (i:Nat)=>[I (l.g i).x,I (l.g i).y]];let A1:=[EV.loc A61 A7,EV.p (SV.ref A6 A7),EV.p (SV.ref A8 A7),EV.p (SV.ref [I bite] A7),EV.loc A62 A7];InK .i64 (A13+A43)/\(decide (A14=A13+A43)=true -> ∃ (u:Nat),A40.n=A25/\true=L.hasO A15/\EV.cl A24 A1=EV.cl A49 A1/\A18/\True)/\(decide (A14=A13+A43)=false->(L.noDv l r bite A13 A14->(true=true -> ∃ (u:Nat),A40.n=A25/\false=L.hasO A15/\EV.cl A24 A1=EV.cl A49 A1/\A18/\True)/\(true=false->InK .i64 (A13+A43)/\A28 /\ ∀ (g:Nat),let A9:=(↑(a+A23+g):Int);let A82:=(A39 <= A9/\A9<A44);let A59:=(r.g (T A9));let A86:=[I A33,I A59,I A34];let A54:=(!L.lawf A70 (l.g (T A59)) A71 bite);let A17:=(L.Sq.mk A52 fun (i:Nat)=>L.Trg.mk A33 A59 A34);(g <= b - a - A23 /\ ∀ (j:Nat),j<g->L.dvM2 l r bite a b (a+A23+j)=Option.none)->(decide (A9<A14)=true->A55/\A67/\A82/\(A39 <= r.g (T A9)/\r.g (T A9)<A60)/\A56/\A68/\(L.bdP A70/\L.bdP (l.g (T A59))/\L.bdP A71/\A39 <= bite/\bite <= (4096:Int))/\(A54=true->InK .i64 (A9+A43) /\ ∃ (g':Nat),A9+A43=(↑(a+A23+g'):Int)/\A13=A13/\A14=A14/\nat_lit 0=nat_lit 0/\SV.ref A6 A7=SV.ref A6 A7/\SV.ref A8 A7=SV.ref A8 A7/\SV.ref [I bite] A7=SV.ref [I bite] A7/\nat_lit 0=nat_lit 0/\EV.cl A24 A1=EV.cl A24 A1/\A18/\(g' <= b - a - A23 /\ ∀ (j:Nat),j<g'->L.dvM2 l r bite a b (a+A23+j)=Option.none)/\b - a - g'<b - a - g)/\(A54=false -> ∃ (t:L.Sq L.Pt × L.Sq Int × Int × Nat × Nat),let A72:=[I t.snd.2.1];let A85:=(SV.ref A72 A7);let A41:=(L.dvF2 t.1 t.2.1 t.snd.2.1 t.snd.snd.2.1 t.snd.snd.2.2);let A37:=[SV.sl A52 t.2.1.n fun (i:Nat)=>[I (t.2.1.g i)]];let A84:=(SV.ref A37 A7);let A26:=[SV.sl A69 t.1.n fun (i:Nat)=>[I (t.1.g i).x,I (t.1.g i).y]];let A83:=(SV.ref A26 A7);let A21:=[EV.loc A77 A7,EV.p A83,EV.p A84,EV.p A85,EV.loc A78 A7];let A4:=(L.optL A41);let A29:=(L.Sq.mk A4.n fun (i:Nat)=>A4.g i);A13=(↑t.snd.snd.2.1:Int)/\A9=(↑t.snd.snd.2.2:Int)/\nat_lit 0=A25/\SV.ref A6 A7=SV.ref [SV.sl A73 t.1.n fun (i:Nat)=>[I (t.1.g i).x,I (t.1.g i).y]] A25/\SV.ref A8 A7=SV.ref [SV.sl A23 t.2.1.n fun (i:Nat)=>[I (t.2.1.g i)]] A25/\SV.ref [I bite] A7=SV.ref A72 A25/\nat_lit 0=A25/\EV.cl A24 A1=EV.cl A49 [EV.loc A61 A7,EV.p A83,EV.p A84,EV.p A85,EV.loc A62 A7]/\(∀ (a b:Int),L.noDv l r bite a b->L.noDv t.1 t.2.1 t.snd.2.1 a b)/\((L.okRow t.1 t.2.1 t.snd.2.1/\t.snd.snd.2.1<t.snd.snd.2.2/\t.snd.snd.2.2<t.2.1.n)/\t.snd.snd.2.2 - t.snd.snd.2.1<rn) /\ ∀ (u:Nat),True->((!L.hasO A41)=true->InK .i64 (A9+A43) /\ ∃ (g':Nat),A9+A43=(↑(a+A23+g'):Int)/\A13=A13/\A14=A14/\nat_lit 0=nat_lit 0/\SV.ref A6 A7=SV.ref A6 A7/\SV.ref A8 A7=SV.ref A8 A7/\SV.ref [I bite] A7=SV.ref [I bite] A7/\nat_lit 0=nat_lit 0/\EV.cl A24 A21=EV.cl A24 A1/\(∀ (a b:Int),L.noDv t.1 t.2.1 t.snd.2.1 a b->L.noDv l r bite a b)/\(g' <= b - a - A23 /\ ∀ (j:Nat),j<g'->L.dvM2 l r bite a b (a+A23+j)=Option.none)/\b - a - g'<b - a - g)/\((!L.hasO A41)=false -> ∃ (t_1:L.Sq L.Pt × L.Sq Int × Int × Nat × Nat),let A74:=(SV.ref [I t_1.snd.2.1] A7);let A50:=(∀ (a b:Int),L.noDv t_1.1 t_1.2.1 t_1.snd.2.1 a b->L.noDv l r bite a b);let A47:=(SV.ref [SV.sl A52 t_1.2.1.n fun (i:Nat)=>[I (t_1.2.1.g i)]] A7);let A45:=(SV.ref [SV.sl A69 t_1.1.n fun (i:Nat)=>[I (t_1.1.g i).x,I (t_1.1.g i).y]] A7);let A35:=(L.dvF2 t_1.1 t_1.2.1 t_1.snd.2.1 t_1.snd.snd.2.1 t_1.snd.snd.2.2);let A19:=[EV.loc A77 A7,EV.p A45,EV.p A47,EV.p A74,EV.loc A78 A7];let A2:=(L.optL A35);let A30:=(L.Sq.mk A2.n fun (i:Nat)=>A2.g i);let A79:=(L.thr A17 A29 A30 A25);A9=(↑t_1.snd.snd.2.1:Int)/\A14=(↑t_1.snd.snd.2.2:Int)/\nat_lit 0=A25/\SV.ref A26 A7=SV.ref [SV.sl A73 t_1.1.n fun (i:Nat)=>[I (t_1.1.g i).x,I (t_1.1.g i).y]] A25/\SV.ref A37 A7=SV.ref [SV.sl A23 t_1.2.1.n fun (i:Nat)=>[I (t_1.2.1.g i)]] A25/\SV.ref A72 A7=SV.ref [I t_1.snd.2.1] A25/\nat_lit 0=A25/\EV.cl A24 A21=EV.cl A49 [EV.loc A61 A7,EV.p A45,EV.p A47,EV.p A74,EV.loc A62 A7]/\(∀ (a b:Int),L.noDv t.1 t.2.1 t.snd.2.1 a b->L.noDv t_1.1 t_1.2.1 t_1.snd.2.1 a b)/\((L.okRow t_1.1 t_1.2.1 t_1.snd.2.1/\t_1.snd.snd.2.1<t_1.snd.snd.2.2/\t_1.snd.snd.2.2<t_1.2.1.n)/\t_1.snd.snd.2.2 - t_1.snd.snd.2.1<rn) /\ ∀ (u:Nat),True->(L.hasO A35=true->A55/\A82/\A56/\(((∀ (i:Nat),i<nat_lit 1->A86=A86)/\(∀ (i:Nat),let A63:=[I (A4.g i).a,I (A4.g i).b,I (A4.g i).c];i<A4.n->A63=A63) /\ ∀ (i:Nat),let A64:=[I (A2.g i).a,I (A2.g i).b,I (A2.g i).c];i<A2.n->A64=A64)/\(A23 <= A79.n/\A79.n <= A57)/\(L.thr A17 A29 A30 A23).n <= A57/\(L.thr A17 A29 A30 A73).n <= A57) /\ ∀ (t_2:Nat),True -> ∃ (u:Nat),((L.catT (L.thr A17 A29 A30) A87).n=A40.n /\ ∀ (i:Nat),let A12:=(L.catT (L.thr (L.Sq.mk A52 fun (i:Nat)=>L.Trg.mk A33 A59 A34) (L.Sq.mk A4.n fun (i:Nat)=>A4.g i) (L.Sq.mk A2.n fun (i:Nat)=>A2.g i)) A87);i<A12.n -> [I (A12.g i).a,I (A12.g i).b,I (A12.g i).c] = [I (A40.g i).a,I (A40.g i).b,I (A40.g i).c])/\true=L.hasO A15/\EV.cl A24 A19=EV.cl A49 A1/\A50/\True)/\(L.hasO A35=false->InK .i64 (A9+A43) /\ ∃ (g':Nat),A9+A43=(↑(a+A23+g'):Int)/\A13=A13/\A14=A14/\nat_lit 0=nat_lit 0/\SV.ref A6 A7=SV.ref A6 A7/\SV.ref A8 A7=SV.ref A8 A7/\SV.ref [I bite] A7=SV.ref [I bite] A7/\nat_lit 0=nat_lit 0/\EV.cl A24 A19=EV.cl A24 A1/\A50/\(g' <= b - a - A23 /\ ∀ (j:Nat),j<g'->L.dvM2 l r bite a b (a+A23+j)=Option.none)/\b - a - g'<b - a - g))))/\(decide (A9<A14)=false->true=true/\L.noDv l r bite A13 A14 /\ ∃ (u:Nat),A40.n=A25/\false=L.hasO A15/\EV.cl A24 A1=EV.cl A49 A1/\A18/\True)))/\(false=true -> ∃ (u:Nat),A40.n=A25/\false=L.hasO A15/\EV.cl A24 A1=EV.cl A49 A1/\A18/\True)/\(false=false->InK .i64 (A13+A43)/\A28 /\ ∀ (g:Nat),let A10:=(↑(a+A23+g):Int);let A80:=(A39 <= A10/\A10<A44);let A58:=(r.g (T A10));let A91:=[I A33,I A58,I A34];let A53:=(!L.lawf A70 (l.g (T A58)) A71 bite);let A16:=(L.Sq.mk A52 fun (i:Nat)=>L.Trg.mk A33 A58 A34);(g <= b - a - A23 /\ ∀ (j:Nat),j<g->L.dvM2 l r bite a b (a+A23+j)=Option.none)->(decide (A10<A14)=true->A55/\A67/\A80/\(A39 <= r.g (T A10)/\r.g (T A10)<A60)/\A56/\A68/\(L.bdP A70/\L.bdP (l.g (T A58))/\L.bdP A71/\A39 <= bite/\bite <= (4096:Int))/\(A53=true->InK .i64 (A10+A43) /\ ∃ (g':Nat),A10+A43=(↑(a+A23+g'):Int)/\A13=A13/\A14=A14/\nat_lit 0=nat_lit 0/\SV.ref A6 A7=SV.ref A6 A7/\SV.ref A8 A7=SV.ref A8 A7/\SV.ref [I bite] A7=SV.ref [I bite] A7/\nat_lit 0=nat_lit 0/\EV.cl A24 A1=EV.cl A24 A1/\A18/\(g' <= b - a - A23 /\ ∀ (j:Nat),j<g'->L.dvM2 l r bite a b (a+A23+j)=Option.none)/\b - a - g'<b - a - g)/\(A53=false -> ∃ (t:L.Sq L.Pt × L.Sq Int × Int × Nat × Nat),let A75:=[I t.snd.2.1];let A90:=(SV.ref A75 A7);let A42:=(L.dvF2 t.1 t.2.1 t.snd.2.1 t.snd.snd.2.1 t.snd.snd.2.2);let A38:=[SV.sl A52 t.2.1.n fun (i:Nat)=>[I (t.2.1.g i)]];let A89:=(SV.ref A38 A7);let A27:=[SV.sl A69 t.1.n fun (i:Nat)=>[I (t.1.g i).x,I (t.1.g i).y]];let A88:=(SV.ref A27 A7);let A22:=[EV.loc A77 A7,EV.p A88,EV.p A89,EV.p A90,EV.loc A78 A7];let A5:=(L.optL A42);let A31:=(L.Sq.mk A5.n fun (i:Nat)=>A5.g i);A13=(↑t.snd.snd.2.1:Int)/\A10=(↑t.snd.snd.2.2:Int)/\nat_lit 0=A25/\SV.ref A6 A7=SV.ref [SV.sl A73 t.1.n fun (i:Nat)=>[I (t.1.g i).x,I (t.1.g i).y]] A25/\SV.ref A8 A7=SV.ref [SV.sl A23 t.2.1.n fun (i:Nat)=>[I (t.2.1.g i)]] A25/\SV.ref [I bite] A7=SV.ref A75 A25/\nat_lit 0=A25/\EV.cl A24 A1=EV.cl A49 [EV.loc A61 A7,EV.p A88,EV.p A89,EV.p A90,EV.loc A62 A7]/\(∀ (a b:Int),L.noDv l r bite a b->L.noDv t.1 t.2.1 t.snd.2.1 a b)/\((L.okRow t.1 t.2.1 t.snd.2.1/\t.snd.snd.2.1<t.snd.snd.2.2/\t.snd.snd.2.2<t.2.1.n)/\t.snd.snd.2.2 - t.snd.snd.2.1<rn) /\ ∀ (u:Nat),True->((!L.hasO A42)=true->InK .i64 (A10+A43) /\ ∃ (g':Nat),A10+A43=(↑(a+A23+g'):Int)/\A13=A13/\A14=A14/\nat_lit 0=nat_lit 0/\SV.ref A6 A7=SV.ref A6 A7/\SV.ref A8 A7=SV.ref A8 A7/\SV.ref [I bite] A7=SV.ref [I bite] A7/\nat_lit 0=nat_lit 0/\EV.cl A24 A22=EV.cl A24 A1/\(∀ (a b:Int),L.noDv t.1 t.2.1 t.snd.2.1 a b->L.noDv l r bite a b)/\(g' <= b - a - A23 /\ ∀ (j:Nat),j<g'->L.dvM2 l r bite a b (a+A23+j)=Option.none)/\b - a - g'<b - a - g)/\((!L.hasO A42)=false -> ∃ (t_1:L.Sq L.Pt × L.Sq Int × Int × Nat × Nat),let A76:=(SV.ref [I t_1.snd.2.1] A7);let A51:=(∀ (a b:Int),L.noDv t_1.1 t_1.2.1 t_1.snd.2.1 a b->L.noDv l r bite a b);let A48:=(SV.ref [SV.sl A52 t_1.2.1.n fun (i:Nat)=>[I (t_1.2.1.g i)]] A7);let A46:=(SV.ref [SV.sl A69 t_1.1.n fun (i:Nat)=>[I (t_1.1.g i).x,I (t_1.1.g i).y]] A7);let A36:=(L.dvF2 t_1.1 t_1.2.1 t_1.snd.2.1 t_1.snd.snd.2.1 t_1.snd.snd.2.2);let A20:=[EV.loc A77 A7,EV.p A46,EV.p A48,EV.p A76,EV.loc A78 A7];let A3:=(L.optL A36);let A32:=(L.Sq.mk A3.n fun (i:Nat)=>A3.g i);let A81:=(L.thr A16 A31 A32 A25);A10=(↑t_1.snd.snd.2.1:Int)/\A14=(↑t_1.snd.snd.2.2:Int)/\nat_lit 0=A25/\SV.ref A27 A7=SV.ref [SV.sl A73 t_1.1.n fun (i:Nat)=>[I (t_1.1.g i).x,I (t_1.1.g i).y]] A25/\SV.ref A38 A7=SV.ref [SV.sl A23 t_1.2.1.n fun (i:Nat)=>[I (t_1.2.1.g i)]] A25/\SV.ref A75 A7=SV.ref [I t_1.snd.2.1] A25/\nat_lit 0=A25/\EV.cl A24 A22=EV.cl A49 [EV.loc A61 A7,EV.p A46,EV.p A48,EV.p A76,EV.loc A62 A7]/\(∀ (a b:Int),L.noDv t.1 t.2.1 t.snd.2.1 a b->L.noDv t_1.1 t_1.2.1 t_1.snd.2.1 a b)/\((L.okRow t_1.1 t_1.2.1 t_1.snd.2.1/\t_1.snd.snd.2.1<t_1.snd.snd.2.2/\t_1.snd.snd.2.2<t_1.2.1.n)/\t_1.snd.snd.2.2 - t_1.snd.snd.2.1<rn) /\ ∀ (u:Nat),True->(L.hasO A36=true->A55/\A80/\A56/\(((∀ (i:Nat),i<nat_lit 1->A91=A91)/\(∀ (i:Nat),let A65:=[I (A5.g i).a,I (A5.g i).b,I (A5.g i).c];i<A5.n->A65=A65) /\ ∀ (i:Nat),let A66:=[I (A3.g i).a,I (A3.g i).b,I (A3.g i).c];i<A3.n->A66=A66)/\(A23 <= A81.n/\A81.n <= A57)/\(L.thr A16 A31 A32 A23).n <= A57/\(L.thr A16 A31 A32 A73).n <= A57) /\ ∀ (t_2:Nat),True -> ∃ (u:Nat),((L.catT (L.thr A16 A31 A32) A87).n=A40.n /\ ∀ (i:Nat),let A11:=(L.catT (L.thr (L.Sq.mk A52 fun (i:Nat)=>L.Trg.mk A33 A58 A34) (L.Sq.mk A5.n fun (i:Nat)=>A5.g i) (L.Sq.mk A3.n fun (i:Nat)=>A3.g i)) A87);i<A11.n -> [I (A11.g i).a,I (A11.g i).b,I (A11.g i).c] = [I (A40.g i).a,I (A40.g i).b,I (A40.g i).c])/\true=L.hasO A15/\EV.cl A24 A20=EV.cl A49 A1/\A51/\True)/\(L.hasO A36=false->InK .i64 (A10+A43) /\ ∃ (g':Nat),A10+A43=(↑(a+A23+g'):Int)/\A13=A13/\A14=A14/\nat_lit 0=nat_lit 0/\SV.ref A6 A7=SV.ref A6 A7/\SV.ref A8 A7=SV.ref A8 A7/\SV.ref [I bite] A7=SV.ref [I bite] A7/\nat_lit 0=nat_lit 0/\EV.cl A24 A20=EV.cl A24 A1/\A51/\(g' <= b - a - A23 /\ ∀ (j:Nat),j<g'->L.dvM2 l r bite a b (a+A23+j)=Option.none)/\b - a - g'<b - a - g))))/\(decide (A10<A14)=false->true=true/\L.noDv l r bite A13 A14 /\ ∃ (u:Nat),A40.n=A25/\false=L.hasO A15/\EV.cl A24 A1=EV.cl A49 A1/\A18/\True)))) (by kernel_rfl) (by
 conv=>zeta
 have hp:L.okRow l r bite/\a<b/\b<r.n:=hp
 have hmu:b - a<rn+1:=hmu
 obtain ⟨hok,hab,hbr⟩:=hp
 obtain ⟨⟨hln,hrn,q0,q1⟩,hri,hli⟩:=id hok
 have ea:((a:Int)).toNat=a:=Int.toNat_natCast a
 have eb:((b:Int)).toNat=b:=Int.toNat_natCast b
 have no:∀ x y,L.noDv l r bite x y->L.noDv l r bite x y:=fun _ _ h=>h
 refine ⟨jK,fun h1=>?_,fun h1=>⟨fun hn=>⟨fun _=>?_,fun h=>(by cases h)⟩,(fun h=>by cases h),fun _=>⟨jK,⟨(0:Nat),by omega,Nat.zero_le _,fun j hj=>absurd hj (Nat.not_lt_zero _)⟩,fun g hg=>⟨fun hc=>?_,fun hc=>?_⟩⟩⟩⟩
 ·have h1:(b:Int)=(a:Int)+1:=of_decide_eq_true h1
  rw [dvF2_1 l r bite (show b=a+1 by omega) hbr]
  exact ⟨(0:Nat),rfl,rfl,rfl,no,trivial⟩
 ·have e : L.dvF2 l r bite a b = none := by
   have:=hn
   unfold L.noDv at this
   rwa [ea,eb] at this
  rw [e]
  exact ⟨(0:Nat),rfl,rfl,rfl,no,trivial⟩
 ·have h1:¬ (b:Int)=(a:Int)+1:=of_decide_eq_false h1
  have hc:((a+1+g:Nat):Int)<(b:Int):=of_decide_eq_true hc
  have hm:a+1+g<b:=by omega
  obtain ⟨hg1,hg2⟩:=hg
  have em:(((a+1+g:Nat):Int)).toNat=a+1+g:=Int.toNat_natCast _
  rw [ea,eb,em]
  have ra:=hri a (by omega)
  have rm:=hri (a+1+g) (by omega)
  have rb:=hri b hbr
  have cst:((a+1+g:Nat):Int)+1=((a+1+(g+1):Nat):Int):=by omega
  have w1:InK .i64 (((a+1+g:Nat):Int)+1):=jK
  have w2:g+1 <= b - a - 1:=by omega
  have w3:b - a - (g+1)<b - a - g:=by omega
  have nx:L.dvM2 l r bite a b (a+1+g)=none -> ∀ j,j<g+1->L.dvM2 l r bite a b (a+1+j)=none:=fun h j hj=>by
   rcases Nat.lt_succ_iff_lt_or_eq.1 hj with h' | rfl
   ·exact hg2 j h'
   ·exact h
  have i1:0 <= (a:Int)/\(a:Int)<(r.n:Int):=by omega
  have i2:0 <= ((a+1+g:Nat):Int)/\((a+1+g:Nat):Int)<(r.n:Int):=by omega
  have i3:0 <= (b:Int)/\(b:Int)<(r.n:Int):=by omega
  refine ⟨i1,ra,i2,rm,i3,rb,⟨hli _ (by omega),hli _ (by omega),hli _ (by omega),q0,q1⟩,fun hl=>?_,fun hl=>?_⟩
  ·have hl:L.dvL l r bite a (a+1+g) b=false:=notT hl
   have dn:L.dvM2 l r bite a b (a+1+g)=none:=by unfold L.dvM2 L.dvdM;rw [hl];rfl
   exact ⟨w1,g+1,cst,rfl,rfl,rfl,rfl,rfl,rfl,rfl,rfl,no,⟨w2,nx dn⟩,w3⟩
  have hl:L.dvL l r bite a (a+1+g) b=true:=notF hl
  have m1:a<a+1+g:=by omega
  have m2:a+1+g<r.n:=by omega
  have m3:a+1+g - a<rn:=by omega
  have m4:b - (a+1+g)<rn:=by omega
  refine ⟨(l,r,bite,a,a+1+g),rfl,rfl,rfl,rfl,rfl,rfl,rfl,rfl,no,⟨⟨hok,m1,m2⟩,m3⟩,fun u _=>⟨fun h2=>?_,fun h2=>?_⟩⟩
  ·have h2:L.hasO (L.dvF2 l r bite a (a+1+g))=false:=notT h2
   have dn:L.dvM2 l r bite a b (a+1+g)=none:=by
    unfold L.dvM2 L.dvdM
    rw [hl]
    cases hx:L.dvF2 l r bite a (a+1+g) with
    | none=>rfl
    | some x=>rw [hx] at h2;cases h2
   exact ⟨w1,g+1,cst,rfl,rfl,rfl,rfl,rfl,rfl,rfl,rfl,no,⟨w2,nx dn⟩,w3⟩
  have h2:L.hasO (L.dvF2 l r bite a (a+1+g))=true:=notF h2
  refine ⟨(l,r,bite,a+1+g,b),rfl,rfl,rfl,rfl,rfl,rfl,rfl,rfl,no,⟨⟨hok,hm,hbr⟩,m4⟩,fun u2 _=>⟨fun h3=>?_,fun h3=>?_⟩⟩
  ·have h3:L.hasO (L.dvF2 l r bite (a+1+g) b)=true:=h3
   have o1:=optL_len (l:=l) (r:=r) (bite:=bite) m1
   have o2:=optL_len (l:=l) (r:=r) (bite:=bite) hm
   have o3:(L.optL (L.dvF2 l r bite a (a+1+g))).n <= 10000:=by omega
   have o4:(L.optL (L.dvF2 l r bite (a+1+g) b)).n <= 10000:=by omega
   have key:((L.catT (L.thr ⟨1,fun _=>⟨r.g a,r.g (a+1+g),r.g b⟩⟩ (L.optL (L.dvF2 l r bite a (a+1+g))) (L.optL (L.dvF2 l r bite (a+1+g) b))) 3).n=(L.optL (L.dvF2 l r bite a b)).n /\ ∀ i,i<(L.catT (L.thr ⟨1,fun _=>⟨r.g a,r.g (a+1+g),r.g b⟩⟩ (L.optL (L.dvF2 l r bite a (a+1+g))) (L.optL (L.dvF2 l r bite (a+1+g) b))) 3).n->(L.catT (L.thr ⟨1,fun _=>⟨r.g a,r.g (a+1+g),r.g b⟩⟩ (L.optL (L.dvF2 l r bite a (a+1+g))) (L.optL (L.dvF2 l r bite (a+1+g) b))) 3).g i=(L.optL (L.dvF2 l r bite a b)).g i)/\L.hasO (L.dvF2 l r bite a b)=true:=by
    cases hx:L.dvF2 l r bite a (a+1+g) with
    | none=>rw [hx] at h2;cases h2
    | some x =>
      cases hy:L.dvF2 l r bite (a+1+g) b with
      | none=>rw [hy] at h3;cases h3
      | some y =>
        have e:L.dvF2 l r bite a b=some (⟨r.g a,r.g (a+1+g),r.g b⟩ :: (x ++ y)):=by
         rw [dvF2_go l r bite hab (by omega) hbr]
         refine fs_at (k:=g) ?_ hg2 (by omega)
         unfold L.dvM2 L.dvdM
         rw [hl,hx,hy];rfl
        rw [e]
        exact ⟨catT_opt _ x y,rfl⟩
   exact ⟨i1,i2,i3,⟨⟨fun _ _=>rfl,fun _ _=>rfl,fun _ _=>rfl⟩,⟨⟨by show 1 <= 1;omega,by show 1 <= 10000;omega⟩,o3,o4⟩⟩,fun _ _=>⟨(0:Nat),⟨key.1.1,fun i hi=>congrArg L.trC (key.1.2 i hi)⟩,key.2.symm,rfl,no,trivial⟩⟩
  ·have h3:L.hasO (L.dvF2 l r bite (a+1+g) b)=false:=h3
   have dn:L.dvM2 l r bite a b (a+1+g)=none:=by
    unfold L.dvM2 L.dvdM
    rw [hl]
    cases hx:L.dvF2 l r bite a (a+1+g) with
    | none=>rfl
    | some x =>
      cases hy:L.dvF2 l r bite (a+1+g) b with
      | none=>rfl
      | some y=>rw [hy] at h3;cases h3
   exact ⟨w1,g+1,cst,rfl,rfl,rfl,rfl,rfl,rfl,rfl,rfl,no,⟨w2,nx dn⟩,w3⟩
 ·have h1:¬ (b:Int)=(a:Int)+1:=of_decide_eq_false h1
  have hc:¬ ((a+1+g:Nat):Int)<(b:Int):=of_decide_eq_false hc
  obtain ⟨hg1,hg2⟩:=hg
  obtain rfl:g=b - a - 1:=by omega
  have e:L.dvF2 l r bite a b=none:=by
   rw [dvF2_go l r bite hab (by omega) hbr]
   exact fs_none hg2
  have e2:L.noDv l r bite a b:=by unfold L.noDv;rw [ea,eb];exact e
  rw [e]
  exact ⟨rfl,e2,(0:Nat),rfl,rfl,rfl,no,trivial⟩)
theorem c_bt1_en:Enters Tryz.prog 184:=fun args w=>by kernel_rfl
theorem c_bt1_mok:MkOk Tryz.prog 184 c_bt1_mk:=mk_rec c_bt1_mu ⟨fun t=>rfl,fun t u=>rfl,fun t u=>rfl,fun t u=>⟨rfl,rfl,rfl⟩,.inl rfl,fun k h=>(by cases h)⟩ (fun rn ih=>mk_ok (n:=7) Tryz.func184 (c:=bodyOf Tryz.f184) (by kernel_rfl) mixed ⟨fun t=>rfl,fun t=>rfl,fun t u=>rfl,fun t u=>rfl,fun t u=>rfl,fun t u=>⟨rfl,rfl⟩,by kernel_rfl,by kernel_rfl⟩ (fun ⟨l,r,bite,a,b⟩ hp=>⟨_,c_bt1_vc rn l r bite a b hp.1 hp.2,⟨show SpecsL Tryz.prog _ from (SpecsL.cons c_lawful_ok c_lawful_en (SpecsL.cons s_catT_ok s_catT_en SpecsL.nil)),rfl,⟨show ItersL Tryz.prog _ from ItersL.nil,⟨TrsOk.no1 (fun _=>rfl),⟨show MksL Tryz.prog _ from (MksL.cons ih c_bt1_en MksL.nil),FamsOk.none (fun _=>rfl)⟩⟩⟩⟩⟩))
abbrev c_bites_mk:Mk:={ T:=(L.Sq L.Pt) × (L.Sq Int) × (Int),U:=Nat,args:=fun t=>(fun l r bite=>[.p ((.sl 2 l.n (fun i=>[.int .i64 ((l.g i).x),.int .i64 ((l.g i).y)]))),.p ((.sl 1 r.n (fun i=>[.int .i64 ((r.g i))]))),.p (.int .i64 bite)]) t.1 t.2.1 t.2.2,lkeys:=[],keys:=[],lent:=fun t=>(fun l r bite=>[]) t.1 t.2.1 t.2.2,pre:=fun t=>(fun l r bite=>L.okRow l r bite/\2 <= r.n) t.1 t.2.1 t.2.2,post:=fun t u=>(fun l r bite=>fun uu=>True) t.1 t.2.1 t.2.2 u,lent':=fun t u=>(fun l r bite=>fun uu=>[]) t.1 t.2.1 t.2.2 u,own:=fun t u=>(fun l r bite=>fun uu=>[]) t.1 t.2.1 t.2.2 u,res:=fun t u=>(fun l r bite=>fun uu=>.p (.tup [.sl 3 (L.optL (L.btR l r bite)).n (fun i=>[.int .i64 (((L.optL (L.btR l r bite)).g i).a),.int .i64 (((L.optL (L.btR l r bite)).g i).b),.int .i64 (((L.optL (L.btR l r bite)).g i).c)]),.bool (L.hasO (L.btR l r bite))])) t.1 t.2.1 t.2.2 u }
theorem c_bites_vc (l:L.Sq L.Pt) (r:L.Sq Int) (bite:Int) (hp:c_bites_mk.pre (l,r,bite)):vc Tryz.prog ({ cC with muts:=[8,9],mks:=lookK [(184,c_bt1_mk)],ren:=fun k=>if k=1000 then 8 else if k=1001 then 9 else if k=1002 then 10 else k,mss:=lookMs [(10,L.noDv l r bite)] }) (bodyOf Tryz.f150) (stTr Tryz.f150 (c_bites_mk.args (l,r,bite)) (c_bites_mk.lent (l,r,bite))) (retMk Tryz.prog Tryz.f150 c_bites_mk (l,r,bite)) :=
 @Eq.mpr _ (let I:=SV.int .i64;let A7:=(0:Nat);let A5:=[SV.sl (nat_lit 1) r.n fun (i:Nat)=>[I (r.g i)]];let A4:=(L.optL (L.btR l r bite));let A3:=[SV.sl (nat_lit 2) l.n fun (i:Nat)=>[I (l.g i).x,I (l.g i).y]];let A2:=(nat_lit 0);InK .i64 ((↑r.n:Int) - (1:Int)) /\ ∃ (t:L.Sq L.Pt × L.Sq Int × Int × Nat × Nat),let A1:=(L.dvF2 t.1 t.2.1 t.snd.2.1 t.snd.snd.2.1 t.snd.snd.2.2);let A6:=(L.optL A1);(0:Int)=(↑t.snd.snd.2.1:Int)/\(↑r.n:Int) - (1:Int)=(↑t.snd.snd.2.2:Int)/\nat_lit 0=A7/\SV.ref A3 A2=SV.ref [SV.sl (2:Nat) t.1.n fun (i:Nat)=>[I (t.1.g i).x,I (t.1.g i).y]] A7/\SV.ref A5 A2=SV.ref [SV.sl (1:Nat) t.2.1.n fun (i:Nat)=>[I (t.2.1.g i)]] A7/\SV.ref [I bite] A2=SV.ref [I t.snd.2.1] A7/\nat_lit 0=A7/\EV.cl (nat_lit 184) [EV.loc (nat_lit 8) A2,EV.p (SV.ref A3 A2),EV.p (SV.ref A5 A2),EV.p (SV.ref [I bite] A2),EV.loc (nat_lit 9) A2]=EV.cl (184:Nat) [EV.loc (8:Nat) A2,EV.p (SV.ref [SV.sl (nat_lit 2) t.1.n fun (i:Nat)=>[I (t.1.g i).x,I (t.1.g i).y]] A2),EV.p (SV.ref [SV.sl (nat_lit 1) t.2.1.n fun (i:Nat)=>[I (t.2.1.g i)]] A2),EV.p (SV.ref [I t.snd.2.1] A2),EV.loc (9:Nat) A2]/\(∀ (a b:Int),L.noDv l r bite a b->L.noDv t.1 t.2.1 t.snd.2.1 a b)/\(L.okRow t.1 t.2.1 t.snd.2.1/\t.snd.snd.2.1<t.snd.snd.2.2/\t.snd.snd.2.2<t.2.1.n) /\ ∀ (u:Nat),True -> ∃ (u:Nat),(A6.n=A4.n /\ ∀ (i:Nat),i<A6.n -> [I (A6.g i).a,I (A6.g i).b,I (A6.g i).c] = [I (A4.g i).a,I (A4.g i).b,I (A4.g i).c])/\L.hasO A1=L.hasO (L.btR l r bite)/\True) (by kernel_rfl) (by
 conv=>zeta
 have hp:L.okRow l r bite/\2 <= r.n:=hp
 obtain ⟨hok,h2⟩:=hp
 obtain ⟨⟨hln,hrn,q0,q1⟩,hri,hli⟩:=id hok
 exact ⟨jK,(l,r,bite,0,r.n - 1),rfl,by show (r.n:Int) - 1=((r.n - 1:Nat):Int);omega,rfl,rfl,rfl,rfl,rfl,rfl,fun _ _ h=>h,⟨hok,by show 0<r.n - 1;omega,by show r.n - 1<r.n;omega⟩,fun _ _=>⟨(0:Nat),⟨rfl,fun _ _=>rfl⟩,rfl,trivial⟩⟩)
theorem c_bites_en:Enters Tryz.prog 150:=fun args w=>by kernel_rfl
theorem c_bites_mok:MkOk Tryz.prog 150 c_bites_mk:=mk_ok (n:=3) Tryz.func150 (c:=bodyOf Tryz.f150) (by kernel_rfl) mixed ⟨fun t=>rfl,fun t=>rfl,fun t u=>rfl,fun t u=>rfl,fun t u=>rfl,fun t u=>⟨rfl,rfl⟩,by kernel_rfl,by kernel_rfl⟩ (fun ⟨l,r,bite⟩ hp=>⟨_,c_bites_vc l r bite hp,⟨show SpecsL Tryz.prog _ from SpecsL.nil,rfl,⟨show ItersL Tryz.prog _ from ItersL.nil,⟨TrsOk.no1 (fun _=>rfl),⟨show MksL Tryz.prog _ from (MksL.cons c_bt1_mok c_bt1_en MksL.nil),FamsOk.none (fun _=>rfl)⟩⟩⟩⟩⟩)
end Go.Proofs.YtpgaejicfbpcmaaGreat
namespace Go.Proofs.YtpgaejicfbpcmaaGreat
open Go.SE Go.RowKit
set_option maxRecDepth 100000
set_option maxHeartbeats 4000000
set_option linter.unusedVariables false
attribute [local irreducible] vc
def L.pkEq (a b:L.Pocket):Bool:=decide (a.fr=b.fr) && (decide (a.to_=b.to_) && decide (a.area=b.area))
def L.pkIdx (l:L.Sq L.Pocket) (v:L.Pocket):Int:=L.idx l.n (fun i=>L.pkEq v (l.g i))
def L.pkHas (l:L.Sq L.Pt) (p:L.Pocket):Bool:=L.anyB (L.pkN l) fun i=>L.pkEq p ((L.pks l).g i)
def L.pocE (l:L.Sq L.Pt) (p:L.Pocket) (bite:Int):Int:=bif (bif (bif !decide ((bif L.validOutline l then (0:Int) else 1)=0) then true else !L.within bite 0 4096) then true else !L.pkHas l p) then 1 else bif !L.hasO (L.pkB l p bite) then 51 else 0
def L.pocR (l:L.Sq L.Pt) (p:L.Pocket) (bite:Int):L.Sq L.Trg:=L.optL (bif decide (L.pocE l p bite=0) then L.pkB l p bite else none)
def L.okPks (l:L.Sq L.Pt):Prop:=∀ i,i<(L.pks l).n->L.okPk l.n ((L.pks l).g i)
theorem pkEq_eq {a b:L.Pocket} (h:L.pkEq a b=true):a=b:=by
 unfold L.pkEq at h
 simp only [Bool.and_eq_true,decide_eq_true_eq] at h
 cases a;cases b
 simp only [L.Pocket.mk.injEq]
 exact h
theorem anyB_perm {α:Type} {n:Nat} {f u:Nat->α} {q:α->Bool} (h:((List.range n).map u).Perm ((List.range n).map f)):L.anyB n (fun i=>q (u i))=L.anyB n (fun i=>q (f i)):=by
 rw [Bool.eq_iff_iff,anyB_iff,anyB_iff]
 have k:∀ g:Nat->α,(∃ i,i<n/\q (g i)=true) ↔ ∃ x,x ∈ (List.range n).map g/\q x=true:=fun g=>by
  constructor
  ·rintro ⟨i,hi,h⟩;exact ⟨g i,List.mem_map.2 ⟨i,List.mem_range.2 hi,rfl⟩,h⟩
  ·rintro ⟨x,hx,h⟩
   obtain ⟨i,hi,rfl⟩:=List.mem_map.1 hx
   exact ⟨i,List.mem_range.1 hi,h⟩
 rw [k,k]
 exact ⟨fun ⟨x,hx,h1⟩=>⟨x,h.mem_iff.1 hx,h1⟩,fun ⟨x,hx,h1⟩=>⟨x,h.mem_iff.2 hx,h1⟩⟩
theorem okRow_pk {l:L.Sq L.Pt} {p:L.Pocket} {bite:Int} (hv:L.validOutline l=true) (hk:L.okPk l.n p) (h0:0 <= bite) (h1:bite <= 4096):L.okRow l (L.pkRw l p) bite/\2 <= (L.pkRw l p).n:=by
 obtain ⟨n3,n24,_,_⟩:=validOutline_of hv
 obtain ⟨d1,d2,f0,f1,fr,fe,fs⟩:=row_facts hk
 refine ⟨⟨⟨by omega,by show L.rowD l.n p+1 <= 1000;omega,h0,h1⟩,fun i hi=>fr i (by have hi:i<L.rowD l.n p+1:=hi;omega),fun i hi=>vPt_iff.1 (vPts_of hv i hi)⟩,by show 2 <= L.rowD l.n p+1;omega⟩
theorem pks_len {l:L.Sq L.Pt} (hv:L.validOutline l=true):(L.pks l).n <= 1000:=by
 obtain ⟨n3,n24,_,_⟩:=validOutline_of hv
 have cl:∀ m:L.Sq L.Pt,(L.chain m).n <= m.n:=fun m=>by
  have:=chainTo_len m m.n
  show (L.chainTo m m.n).length - 1 <= m.n
  omega
 have c1:(L.chain (L.sorted l)).n <= l.n:=cl (L.sorted l)
 have c2:(L.chain (L.revd (L.sorted l))).n <= l.n:=cl (L.revd (L.sorted l))
 have h1:(L.hull l).n <= 1000:=by
  show 0+(L.chain (L.sorted l)).n+(L.chain (L.revd (L.sorted l))).n <= 1000
  omega
 have h2:(L.pks l).n <= (L.hull l).n:=cnt_le
 omega
def s_idxPk_p (l:(L.Sq L.Pocket)) (v:L.Pocket):Prop:=l.n <= 1000000
def s_idxPk_r (l:(L.Sq L.Pocket)) (v:L.Pocket):SV:=.int .i64 (L.pkIdx l v)
def s_idxPk_s:List EV->Option (Prop × SV)
 | [.p (.sl 3 l_n l_g),.p (.agg [.int .i64 v_fr,.int .i64 v_to_,.int .i64 v_area])]=>some ((∀ i,i<l_n->l_g i = [.int .i64 ((ofPocket (l_g i)).fr),.int .i64 ((ofPocket (l_g i)).to_),.int .i64 ((ofPocket (l_g i)).area)])/\s_idxPk_p (⟨l_n,fun i=>ofPocket (l_g i)⟩:(L.Sq L.Pocket)) (⟨v_fr,v_to_,v_area⟩:L.Pocket),s_idxPk_r (⟨l_n,fun i=>ofPocket (l_g i)⟩:(L.Sq L.Pocket)) (⟨v_fr,v_to_,v_area⟩:L.Pocket))
 | _=>none
abbrev s_idxPk_S:SE.Spec:=(specO s_idxPk_s)
def s_idxPk_C:Cfg:={ muts:=[],frz:=lookN [],specs:=lookS [],loops:=fun _=>none,iters:=lookI [],rfs:=lookR [],nils:=lookM [] }
theorem s_idxPk_vc (l:(L.Sq L.Pocket)) (v:L.Pocket) (hp:s_idxPk_p l v):vc Tryz.prog ({ s_idxPk_C with loops:=lookL [(2,{ T:=Nat,keep:=[0,3,6,7],keepO:=[],chg:=fun i=>[(8,.p (.int .i64 i))],own:=fun _=>[],inv:=fun i=>i <= l.n/\(∀ j,j<i->L.pkEq v (l.g j)=false),mu:=fun i=>l.n - i })],rfs:=lookR [] }) (bodyOf Tryz.f148) (st0 Tryz.f148 [.p (.sl 3 l.n (fun i=>[.int .i64 ((l.g i).fr),.int .i64 ((l.g i).to_),.int .i64 ((l.g i).area)])),.p (.agg [.int .i64 v.fr,.int .i64 v.to_,.int .i64 v.area])]) (retFn Tryz.prog Tryz.f148 (s_idxPk_r l v)) :=
 @Eq.mpr _ (let I:=SV.int .i64;let T:=Int.toNat;let A6:=[I v.fr,I v.to_,I v.area];let A5:=(↑l.n:Int);let A2:=(l.n=l.n /\ ∀ (i:Nat),let A4:=[I (l.g i).fr,I (l.g i).to_,I (l.g i).area];i<l.n->A4=A4);(∃ (g:Nat),(0:Int)=(↑g:Int)/\g <= l.n /\ ∀ (j:Nat),j<g->L.pkEq v (l.g j)=false) /\ ∀ (g:Nat),let A3:=(↑g:Int);let A7:=(l.g (T A3));let A1:=(decide (v.fr=A7.fr) && (decide (v.to_=A7.to_) && decide (v.area=A7.area)));(g <= l.n /\ ∀ (j:Nat),j<g->L.pkEq v (l.g j)=false)->(decide (A3<A5)=true->((0:Int) <= A3/\A3<A5)/\(A1=true->A3=L.pkIdx l v)/\(A1=false->InK .i64 (A3+(1:Int)) /\ ∃ (g':Nat),A3+(1:Int)=(↑g':Int)/\A5=A5/\A2/\SV.ref A6 (nat_lit 0)=SV.ref A6 (nat_lit 0)/\A2/\(g' <= l.n /\ ∀ (j:Nat),j<g'->L.pkEq v (l.g j)=false)/\l.n - g'<l.n - g))/\(decide (A3<A5)=false->(-1:Int)=L.pkIdx l v)) (by kernel_rfl) (by
 conv=>zeta
 have hn:l.n <= 1000000:=hp
 refine ⟨⟨(0:Nat),rfl,Nat.zero_le _,fun j hj=>absurd hj (Nat.not_lt_zero _)⟩,fun g hg=>⟨fun hlt=>?_,fun hge=>?_⟩⟩
 ·have hb:(g:Int)<(l.n:Int):=of_decide_eq_true hlt
  have e0:((g:Int)).toNat=g:=by omega
  rw [e0]
  refine ⟨⟨by omega,hb⟩,fun h=>?_,fun h=>?_⟩
  ·have h:L.pkEq v (l.g g)=true:=h
   exact (idx_at (f:=fun i=>L.pkEq v (l.g i)) hg.2 h (by omega)).symm
  ·have h:L.pkEq v (l.g g)=false:=h
   exact ⟨jK,g+1,by omega,rfl,⟨rfl,fun _ _=>rfl⟩,rfl,⟨rfl,fun _ _=>rfl⟩,⟨by omega,fun j hj=>by
    rcases Nat.lt_succ_iff_lt_or_eq.1 hj with h' | rfl
    ·exact hg.2 j h'
    ·exact h⟩,by omega⟩
 ·have hb:¬ (g:Int)<(l.n:Int):=of_decide_eq_false hge
  exact (idx_none (f:=fun i=>L.pkEq v (l.g i)) (fun j hj=>hg.2 j (by omega))).symm)
theorem s_idxPk_ok:SpecOk Tryz.prog 148 s_idxPk_S:=fnX Tryz.func148 (c:=bodyOf Tryz.f148) (by kernel_rfl) mixed (fun args p r hs hp=>by
 unfold s_idxPk_s at hs
 split at hs
 ·cases hs;exact ⟨_,_,s_idxPk_vc _ _ hp.2,(.p (.sl hp.1) (.same _ .nil)),⟨show SpecsL Tryz.prog _ from SpecsL.nil,rfl,⟨show ItersL Tryz.prog _ from ItersL.nil,(TrsOk.none (fun _=>rfl))⟩⟩⟩
 ·cases hs)
theorem s_idxPk_en:Enters Tryz.prog 148:=fun args w=>by kernel_rfl
def s_conPk_p (l:(L.Sq L.Pocket)) (v:L.Pocket):Prop:=l.n <= 1000000
def s_conPk_r (l:(L.Sq L.Pocket)) (v:L.Pocket):SV:=.bool (L.anyB l.n fun i=>L.pkEq v (l.g i))
def s_conPk_s:List EV->Option (Prop × SV)
 | [.p (.sl 3 l_n l_g),.p (.agg [.int .i64 v_fr,.int .i64 v_to_,.int .i64 v_area])]=>some ((∀ i,i<l_n->l_g i = [.int .i64 ((ofPocket (l_g i)).fr),.int .i64 ((ofPocket (l_g i)).to_),.int .i64 ((ofPocket (l_g i)).area)])/\s_conPk_p (⟨l_n,fun i=>ofPocket (l_g i)⟩:(L.Sq L.Pocket)) (⟨v_fr,v_to_,v_area⟩:L.Pocket),s_conPk_r (⟨l_n,fun i=>ofPocket (l_g i)⟩:(L.Sq L.Pocket)) (⟨v_fr,v_to_,v_area⟩:L.Pocket))
 | _=>none
abbrev s_conPk_S:SE.Spec:=(specO s_conPk_s)
def s_conPk_C:Cfg:={ cC with specs:=lookS [(148,s_idxPk_S)] }
theorem s_conPk_vc (l:(L.Sq L.Pocket)) (v:L.Pocket) (hp:s_conPk_p l v):vc Tryz.prog (s_conPk_C) (bodyOf Tryz.f104) (st0 Tryz.f104 [.p (.sl 3 l.n (fun i=>[.int .i64 ((l.g i).fr),.int .i64 ((l.g i).to_),.int .i64 ((l.g i).area)])),.p (.agg [.int .i64 v.fr,.int .i64 v.to_,.int .i64 v.area])]) (retFn Tryz.prog Tryz.f104 (s_conPk_r l v)) :=
 @Eq.mpr _ (let I:=SV.int .i64;((∀ (i:Nat),let A1:=[I (l.g i).fr,I (l.g i).to_,I (l.g i).area];i<l.n->A1=A1)/\l.n <= (1000000:Nat))/\decide ((0:Int) <= L.pkIdx (L.Sq.mk l.n fun (i:Nat)=>l.g i) v)=L.anyB l.n fun (i:Nat)=>L.pkEq v (l.g i)) (by kernel_rfl) (by
 conv=>zeta
 refine ⟨⟨fun _ _=>rfl,hp⟩,idx_any⟩)
theorem s_conPk_ok:SpecOk Tryz.prog 104 s_conPk_S:=fnX Tryz.func104 (c:=bodyOf Tryz.f104) (by kernel_rfl) mixed (fun args p r hs hp=>by
 unfold s_conPk_s at hs
 split at hs
 ·cases hs;exact ⟨_,_,s_conPk_vc _ _ hp.2,(.p (.sl hp.1) (.same _ .nil)),⟨show SpecsL Tryz.prog _ from (SpecsL.cons s_idxPk_ok s_idxPk_en SpecsL.nil),rfl,⟨show ItersL Tryz.prog _ from ItersL.nil,(TrsOk.none (fun _=>rfl))⟩⟩⟩
 ·cases hs)
theorem s_conPk_en:Enters Tryz.prog 104:=fun args w=>by kernel_rfl
def c_pocket_p (l:(L.Sq L.Pt)) (p:L.Pocket) (b:Int):Prop:=L.validOutline l=true/\L.okPk l.n p/\0 <= b/\b <= 4096
def c_pocket_r (l:(L.Sq L.Pt)) (p:L.Pocket) (b:Int):SV:=.tup [.sl 3 (L.optL (L.pkB l p b)).n (fun i=>[.int .i64 (((L.optL (L.pkB l p b)).g i).a),.int .i64 (((L.optL (L.pkB l p b)).g i).b),.int .i64 (((L.optL (L.pkB l p b)).g i).c)]),.bool (L.hasO (L.pkB l p b))]
def c_pocket_s:List EV->Option (Prop × SV)
 | [.p (.sl 2 l_n l_g),.p (.agg [.int .i64 p_fr,.int .i64 p_to_,.int .i64 p_area]),.p (.int .i64 b)]=>some ((∀ i,i<l_n->l_g i = [.int .i64 ((ofPt (l_g i)).x),.int .i64 ((ofPt (l_g i)).y)])/\c_pocket_p (⟨l_n,fun i=>ofPt (l_g i)⟩:(L.Sq L.Pt)) (⟨p_fr,p_to_,p_area⟩:L.Pocket) b,c_pocket_r (⟨l_n,fun i=>ofPt (l_g i)⟩:(L.Sq L.Pt)) (⟨p_fr,p_to_,p_area⟩:L.Pocket) b)
 | _=>none
abbrev c_pocket_S:SE.Spec:=(specO c_pocket_s)
def c_pocket_C:Cfg:={ cC with specs:=lookS [(149,c_hollow_S),(151,c_row_S)],mks:=lookK [(150,c_bites_mk)],ren:=fun k=>k - 1000 }
theorem c_pocket_vc (l:(L.Sq L.Pt)) (p:L.Pocket) (b:Int) (hp:c_pocket_p l p b):vc Tryz.prog (c_pocket_C) (bodyOf Tryz.f105) (st0 Tryz.f105 [.p (.sl 2 l.n (fun i=>[.int .i64 ((l.g i).x),.int .i64 ((l.g i).y)])),.p (.agg [.int .i64 p.fr,.int .i64 p.to_,.int .i64 p.area]),.p (.int .i64 b)]) (retFn Tryz.prog Tryz.f105 (c_pocket_r l p b)) :=
  @Eq.mpr _ (let I:=SV.int .i64;let A6:=(L.pkB l p b);let A4:=(↑l.n:Int);let A3:=(L.Sq.mk l.n fun (i:Nat)=>l.g i);let A2:=(L.optL A6);((∀ (i:Nat),let A5:=[I (l.g i).x,I (l.g i).y];i<l.n->A5=A5)/\L.validOutline A3=true/\L.okPk A4 p)/\((!L.hol A3 p)=true->A2.n=(0:Nat)/\false=L.hasO A6)/\((!L.hol A3 p)=false->(A4 <= (1000:Int)
 /\ L.okPk A4 p) /\ ∃ (t:L.Sq L.Pt × L.Sq Int × Int),let A7:=(L.btR t.1 t.2.1 t.2.2);let A1:=(L.optL A7);(l.n=t.1.n /\ ∀ (i:Nat),i<l.n -> [I (l.g i).x,I (l.g i).y] = [I (t.1.g i).x,I (t.1.g i).y])/\(L.rowD A4 p+(1:Nat)=t.2.1.n /\ ∀ (i:Nat),i<L.rowD A4 p+(1:Nat) -> [I (L.rowI A4 p i)] = [I (t.2.1.g i)])/\b=t.2.2/\(L.okRow t.1 t.2.1 t.2.2/\(2:Nat) <= t.2.1.n) /\ ∀ (u
:Nat),True->(A1.n=A2.n /\ ∀ (i:Nat),i<A1.n -> [I (A1.g i).a,I (A1.g i).b,I (A1.g i).c] = [I (A2.g i).a,I (A2.g i).b,I (A2.g i).c])/\L.hasO A7=L.hasO A6)) (by kernel_rfl) (by
 conv=>zeta
 obtain ⟨hv,hk,h0,h1⟩:=(show L.validOutline l=true/\L.okPk l.n p/\0 <= b/\b <= 4096 from hp)
 obtain ⟨ok,h2⟩:=okRow_pk hv hk h0 h1
 obtain ⟨n3,n24,_,_⟩:=validOutline_of hv
 refine ⟨⟨fun _ _=>rfl,hv,hk⟩,fun h=>?_,fun h=>⟨⟨by omega,hk⟩,(l,L.pkRw l p,b),⟨rfl,fun _ _=>rfl⟩,⟨rfl,fun _ _=>rfl⟩,rfl,⟨ok,h2⟩,fun _ _=>?_⟩⟩
 ·have h:(!L.hol l p)=true:=h
  have e:L.pkB l p b=none:=by unfold L.pkB;rw [h];rfl
  rw [e];exact ⟨rfl,rfl⟩
 ·have h:(!L.hol l p)=false:=h
  have e:L.pkB l p b=L.btR l (L.pkRw l p) b:=by unfold L.pkB;rw [h];rfl
  rw [e];exact ⟨⟨rfl,fun _ _=>rfl⟩,rfl⟩)
theorem c_pocket_ok:SpecOk Tryz.prog 105 c_pocket_S:=fnX Tryz.func105 (c:=bodyOf Tryz.f105) (by kernel_rfl) mixed (fun args p r hs hp=>by
 unfold c_pocket_s at hs
 split at hs
 ·cases hs;exact ⟨_,_,c_pocket_vc _ _ _ hp.2,(.p (.sl hp.1) (.same _ (.same _ .nil))),⟨show SpecsL Tryz.prog _ from (SpecsL.cons c_hollow_ok c_hollow_en (SpecsL.cons c_row_ok c_row_en SpecsL.nil)),rfl,⟨show ItersL Tryz.prog _ from ItersL.nil,⟨TrsOk.no1 (fun _=>rfl),⟨show MksL Tryz.prog _ from (MksL.cons c_bites_mok c_bites_en MksL.nil),FamsOk.none (fun _=>rfl)⟩⟩⟩⟩⟩
 ·cases hs)
theorem c_pocket_en:Enters Tryz.prog 105:=fun args w=>by kernel_rfl
def c_Pocket_p (l:(L.Sq L.Pt)) (p:L.Pocket) (b:Int):Prop:=l.n <= 1000000/\(L.validOutline l=true->L.okPks l)
def c_Pocket_r (l:(L.Sq L.Pt)) (p:L.Pocket) (b:Int):SV:=.tup [.sl 3 (L.pocR l p b).n (fun i=>[.int .i64 (((L.pocR l p b).g i).a),.int .i64 (((L.pocR l p b).g i).b),.int .i64 (((L.pocR l p b).g i).c)]),.int .i64 (L.pocE l p b)]
def c_Pocket_s:List EV->Option (Prop × SV)
 | [.p (.sl 2 l_n l_g),.p (.agg [.int .i64 p_fr,.int .i64 p_to_,.int .i64 p_area]),.p (.int .i64 b)]=>some ((∀ i,i<l_n->l_g i = [.int .i64 ((ofPt (l_g i)).x),.int .i64 ((ofPt (l_g i)).y)])/\c_Pocket_p (⟨l_n,fun i=>ofPt (l_g i)⟩:(L.Sq L.Pt)) (⟨p_fr,p_to_,p_area⟩:L.Pocket) b,c_Pocket_r (⟨l_n,fun i=>ofPt (l_g i)⟩:(L.Sq L.Pt)) (⟨p_fr,p_to_,p_area⟩:L.Pocket) b)
 | _=>none
abbrev c_Pocket_S:SE.Spec:=(specO c_Pocket_s)
def c_Pocket_C:Cfg:={ cC with specs:=lookS [(103,p_Pockets_S),(61,c_within_S),(104,s_conPk_S),(105,c_pocket_S)] }
theorem c_Pocket_vc (l:(L.Sq L.Pt)) (p:L.Pocket) (b:Int) (hp:c_Pocket_p l p b):vc Tryz.prog (c_Pocket_C) (bodyOf Tryz.f47) (st0 Tryz.f47 [.p (.sl 2 l.n (fun i=>[.int .i64 ((l.g i).x),.int .i64 ((l.g i).y)])),.p (.agg [.int .i64 p.fr,.int .i64 p.to_,.int .i64 p.area]),.p (.int .i64 b)]) (retFn Tryz.prog Tryz.f47 (c_Pocket_r l p b)) :=
 @Eq.mpr _ (let I:=SV.int .i64;let A11:=(4096:Int);let A7:=(0:Int);let A6:=(L.pocR l p b);let A5:=(∀ (i:Nat),let A9:=[I (l.g i).x,I (l.g i).y];i<l.n->A9=A9);let A1:=(L.Sq.mk l.n fun (i:Nat)=>l.g i);let A10:=(L.pkB A1 p b);let A4:=(bif L.validOutline A1 then A7 else (1:Int));(A5/\l.n <= (1000000:Nat)) /\ ∀ (t:Nat->L.Pocket),let A2:=(bif bif !decide (A4=A7) then true else !L.within b A7 A11 then true else !L.anyB (L.pkN A1) fun (i:Nat)=>L.pkEq p (t i));(L.validOutline A1=true->SortedBy L.cmpFr (L.pks A1).n (L.pks A1).g t)->((!!decide (A4=A7))=true->True)/\((!bif !decide (A4=A7) then true else !L.within b A7 A11)=true->(∀ (i:Nat),let A8:=[I (t i).fr,I (t i).to_,I (t i).area];i<L.pkN (L.Sq.mk l.n fun (i:Nat)=>l.g i)->A8=A8)/\L.pkN A1 <= (1000000:Nat))/\(A2=true->A6.n=(0:Nat)/\(1:Int)=L.pocE l p b)/\(A2=false->(A5/\L.validOutline A1=true/\L.okPk (↑l.n:Int) p/\A7 <= b/\b <= A11)/\((!L.hasO A10)=true->A6.n=(0:Nat)/\(51:Int)=L.pocE l p b)/\((!L.hasO A10)=false->((L.optL A10).n=A6.n /\ ∀ (i:Nat),let A3:=(L.optL (L.pkB (L.Sq.mk l.n fun (i:Nat)=>l.g i) p b));i<A3.n -> [I (A3.g i).a,I (A3.g i).b,I (A3.g i).c] = [I (A6.g i).a,I (A6.g i).b,I (A6.g i).c])/\A7=L.pocE l p b))) (by kernel_rfl) (by
 conv=>zeta
 obtain ⟨hn,hok⟩:=(show l.n <= 1000000/\(L.validOutline l=true->L.okPks l) from hp)
 refine ⟨⟨fun _ _=>rfl,hn⟩,fun t ht=>?_⟩
 have eN:∀ hv:L.validOutline l=true,L.pkN l=(L.pks l).n:=fun hv=>by unfold L.pkN;rw [hv];rfl
 have eZ:L.validOutline l=false->L.pkN l=0:=fun hv=>by unfold L.pkN;rw [hv];rfl
 have eH:(L.anyB (L.pkN l) fun i=>L.pkEq p (t i))=L.pkHas l p:=by
  unfold L.pkHas
  cases hv:L.validOutline l with
  | true=>rw [eN hv];exact anyB_perm (q:=fun x=>L.pkEq p x) (ht hv).perm
  | false=>rw [eZ hv];rfl
 have hl:L.pkN l <= 1000000:=by
  cases hv:L.validOutline l with
  | true=>rw [eN hv];have:=pks_len hv;omega
  | false=>rw [eZ hv];exact Nat.zero_le _
 rw [eH]
 refine ⟨fun _=>trivial,fun h=>⟨fun _ _=>rfl,hl⟩,fun h=>?_,fun h=>?_⟩
 ·have e:L.pocE l p b=1:=by unfold L.pocE;rw [h];rfl
  have e2:L.pocR l p b=L.optL none:=by unfold L.pocR;rw [e];rfl
  rw [e,e2];exact ⟨rfl,rfl⟩
 ·have hv : L.validOutline l = true := by
   cases hv:L.validOutline l with
   | true=>rfl
   | false=>rw [hv] at h;cases h
  have hw:L.within b 0 4096=true:=by
   cases hw:L.within b 0 4096 with
   | true=>rfl
   | false=>rw [hv,hw] at h;cases h
  have hh:L.pkHas l p=true:=by
   cases hh:L.pkHas l p with
   | true=>rfl
   | false=>rw [hv,hw,hh] at h;cases h
  have hb:0 <= b/\b <= 4096:=by
   unfold L.within at hw
   rw [Bool.and_eq_true,decide_eq_true_eq,decide_eq_true_eq] at hw
   exact ⟨by omega,by omega⟩
  have hk:L.okPk l.n p:=by
   have hh:=hh
   unfold L.pkHas at hh
   rw [anyB_iff,eN hv] at hh
   obtain ⟨i,hi,h⟩:=hh
   rw [pkEq_eq h]
   exact hok hv i hi
  have e0:L.pocE l p b=bif !L.hasO (L.pkB l p b) then 51 else 0:=by unfold L.pocE;rw [h];rfl
  refine ⟨⟨fun _ _=>rfl,hv,hk,hb⟩,fun h2=>?_,fun h2=>?_⟩
  ·have h2:(!L.hasO (L.pkB l p b))=true:=h2
   rw [h2] at e0
   have e2:L.pocR l p b=L.optL none:=by unfold L.pocR;rw [e0];rfl
   rw [e0,e2];exact ⟨rfl,rfl⟩
  ·have h2:(!L.hasO (L.pkB l p b))=false:=h2
   rw [h2] at e0
   have e2:L.pocR l p b=L.optL (L.pkB l p b):=by unfold L.pocR;rw [e0];rfl
   rw [e0,e2];exact ⟨⟨rfl,fun _ _=>rfl⟩,rfl⟩)
theorem c_Pocket_ok:SpecOk Tryz.prog 47 c_Pocket_S:=fnX Tryz.func47 (c:=bodyOf Tryz.f47) (by kernel_rfl) mixed (fun args p r hs hp=>by
 unfold c_Pocket_s at hs
 split at hs
 ·cases hs;exact ⟨_,_,c_Pocket_vc _ _ _ hp.2,(.p (.sl hp.1) (.same _ (.same _ .nil))),⟨show SpecsL Tryz.prog _ from (SpecsL.cons p_Pockets_ok p_Pockets_en (SpecsL.cons c_within_ok c_within_en (SpecsL.cons s_conPk_ok s_conPk_en (SpecsL.cons c_pocket_ok c_pocket_en SpecsL.nil)))),rfl,⟨show ItersL Tryz.prog _ from ItersL.nil,(TrsOk.none (fun _=>rfl))⟩⟩⟩
 ·cases hs)
theorem c_Pocket_en:Enters Tryz.prog 47:=fun args w=>by kernel_rfl
end Go.Proofs.YtpgaejicfbpcmaaGreat
