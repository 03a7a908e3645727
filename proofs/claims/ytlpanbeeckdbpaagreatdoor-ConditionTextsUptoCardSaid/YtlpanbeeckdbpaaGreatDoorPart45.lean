/- Part 45 of the common texts: Y0 YW. -/
import Derived.Lib.LaidU8
import Derived.MakeChecks
import Derived.Test.YtlpanbeeckdbpaaGreatDoorRows
import Derived.ProofKit
import Derived.OpenShut
import Derived.JoinedCond
import Derived.Deep.DeepHandedRow
import Derived.LaidMore
import Derived.LaidHandle
import Derived.LaidLaws
import Derived.Shelf.Vars
import Derived.Deep.DeepWitnessRowRef
import Derived.Test.YtlpanbeeckdbpaaGreatDoorPart44
import Derived.Test.YtlpanbeeckdbpaaGreatDoorPart3
set_option linter.all false
set_option maxRecDepth 100000
set_option maxHeartbeats 16000000

section
namespace Go.VC.T07
open Go Go.VC Go.Proofs
open Go.ChangeShapes Go.WideShapes Go.ChangeAt Go.RowKit
namespace Bk
open YtlpanbeeckdbpaaGreatDoor
theorem one_le {H:Type} (d:DataW H):1≤Rows.uptoBulk d:=by
 cases d with
 |lit l=>cases l<;>simp [Rows.uptoBulk]
 |nil=>simp [Rows.uptoBulk]
 |ptr d=>simp [Rows.uptoBulk]
 |slice elems spare=>simp [Rows.uptoBulk]
 |agg parts=>simp [Rows.uptoBulk]
 |iface t d=>simp [Rows.uptoBulk]
 |map entries=>simp [Rows.uptoBulk]
 |held h=>simp [Rows.uptoBulk]
theorem part_le {H:Type} {d:DataW H}:∀ {l:List (DataW H)},d∈l→Rows.uptoBulk d≤Rows.uptoBulkAll l
 |x::r,h=>by
  simp only [Rows.uptoBulkAll]
  rcases List.mem_cons.1 h with rfl|h
  ·omega
  ·have:=part_le h;omega
theorem len_le {H:Type}:∀ (l:List (DataW H)),l.length≤Rows.uptoBulkAll l
 |[]=>by simp
 |x::r=>by have:=one_le x;have:=len_le r;simp only [Rows.uptoBulkAll,List.length_cons];omega
theorem sum_le {H:Type}:∀ (l:List (DataW H)),(l.map Rows.uptoBulk).sum=Rows.uptoBulkAll l
 |[]=>by simp [Rows.uptoBulkAll]
 |x::r=>by simp only [List.map_cons,List.sum_cons,Rows.uptoBulkAll,sum_le r]
theorem ok {H:Type}:BulkOk (H:=H) Rows.uptoBulk where
 str s:=by simp [Rows.uptoBulk]
 slice es sp:=⟨by have:=len_le es;simp only [Rows.uptoBulk];omega,fun e he=>by have:=part_le he;simp only [Rows.uptoBulk];omega⟩
 agg ps e he:=by have:=part_le he;simp only [Rows.uptoBulk];omega
 ptr d:=by simp only [Rows.uptoBulk];omega
 one d:=one_le d
 sums es sp:=by rw [sum_le];simp only [Rows.uptoBulk];omega
 suma ps:=by rw [sum_le];simp only [Rows.uptoBulk];omega
end Bk
theorem own:ownKnob Tryz.prog.godebug=none:=by kernel_rfl
theorem laid:laidOutB Tryz.prog=true:=by kernel_rfl
abbrev TS:List TypeId:=[3,4,9,22,23,24,26,28,63,81]
theorem dat:TS.all (dataB tt TS)=true:=by kernel_rfl
theorem cks28:cksOf tt 28=[.int .i64,.str,.str,.int .i64,.slice 63,.int .i64,.str,.str,.slice 26,.slice 81,.int .i64,.str,.str,.slice 26,.slice 81]:=by kernel_rfl
theorem vr_int {Pp:Per} {k:IntKind} {v:Value} {d:D} (h:RD tt Pp (.int k) v d):∃ z,VR tt [] Pp v (.int k z):=by cases h;exact ⟨_,.int _ _⟩
theorem vr_str {Pp:Per} {v:Value} {d:D} (h:RD tt Pp .str v d):∃ z,VR tt [] Pp v (.str z):=by cases h;exact ⟨_,.str _⟩
section
variable {H:Type} {enc:TypeId×Value→H} {W:World} {n base:Nat} {v:Value} {d:DataW H} {p:List MemPlace}
theorem argK (hv:Value.okWide Tryz.prog W .any base 28 v) (h:DataW.Trod enc Tryz.prog W 0 (fun _=>true) true 28 v d p) (hb:YtlpanbeeckdbpaaGreatDoor.Rows.uptoBulk d≤1048576):
 ∃ (k ix s0 t0:Int) (m n s1 s2 t1 t2:S) (dp d1 d2 d3 d4:D) (pl:Nat),VR tt [] (AllP W) v (.agg [.int .i64 k,.str m,.str n,.int .i64 ix,.lst 63 dp,.int .i64 s0,.str s1,.str s2,.lst 26 d1,.lst 81 d2,.int .i64 t0,.str t1,.str t2,.lst 26 d3,.lst 81 d4])∧Std.len dp=(pl:Int):=by
 obtain ⟨cs,rfl,_⟩:=okWide_struct Tryz.underlying28 hv
 obtain ⟨fuel,hf⟩:=h
 obtain ⟨ds,hds,hw⟩:=trod_row (n:=1048576) tt_ok dat (bulk:=YtlpanbeeckdbpaaGreatDoor.Rows.uptoBulk) Bk.ok fuel 28 _ _ (by decide) hf hb
 rw [cks28] at hds
 generalize hx:(Value.agg cs).cells.toList=vs at hds
 have hcs:cs=⟨vs⟩:=by rw [← hx];rfl
 subst hcs
 clear hx hf
 cases hds with
 |cons _ _ d0 _ _ _ g0 c0 s0=>
 cases s0 with
 |cons _ _ d1 _ _ _ g1 c1 s1=>
 cases s1 with
 |cons _ _ d2 _ _ _ g2 c2 s2=>
 cases s2 with
 |cons _ _ d3 _ _ _ g3 c3 s3=>
 cases s3 with
 |cons _ _ d4 _ _ _ g4 c4 s4=>
 cases s4 with
 |cons _ _ d5 _ _ _ g5 c5 s5=>
 cases s5 with
 |cons _ _ d6 _ _ _ g6 c6 s6=>
 cases s6 with
 |cons _ _ d7 _ _ _ g7 c7 s7=>
 cases s7 with
 |cons _ _ d8 _ _ _ g8 c8 s8=>
 cases s8 with
 |cons _ _ d9 _ _ _ g9 c9 s9=>
 cases s9 with
 |cons _ _ d10 _ _ _ g10 c10 s10=>
 cases s10 with
 |cons _ _ d11 _ _ _ g11 c11 s11=>
 cases s11 with
 |cons _ _ d12 _ _ _ g12 c12 s12=>
 cases s12 with
 |cons _ _ d13 _ _ _ g13 c13 s13=>
 cases s13 with
 |cons _ _ d14 _ _ _ g14 c14 s14=>
 cases s14
 obtain ⟨z0,v0⟩:=vr_int g0
 obtain ⟨z3,v3⟩:=vr_int g3
 obtain ⟨z5,v5⟩:=vr_int g5
 obtain ⟨z10,v10⟩:=vr_int g10
 obtain ⟨z1,v1⟩:=vr_str g1
 obtain ⟨z2,v2⟩:=vr_str g2
 obtain ⟨z6,v6⟩:=vr_str g6
 obtain ⟨z7,v7⟩:=vr_str g7
 obtain ⟨z11,v11⟩:=vr_str g11
 obtain ⟨z12,v12⟩:=vr_str g12
 obtain ⟨rows,e4,hl,_⟩:=RD.rows g4 c4
 exact ⟨z0,z3,z5,z10,z1,z2,z6,z7,z11,z12,d4,d8,d9,d13,d14,rows.length,.agg _ _ (.cons _ _ _ _ v0 (.cons _ _ _ _ v1 (.cons _ _ _ _ v2 (.cons _ _ _ _ v3 (.cons _ _ _ _ (.lst _ _ _ g4) (.cons _ _ _ _ v5 (.cons _ _ _ _ v6 (.cons _ _ _ _ v7 (.cons _ _ _ _ (.lst _ _ _ g8) (.cons _ _ _ _ (.lst _ _ _ g9) (.cons _ _ _ _ v10 (.cons _ _ _ _ v11 (.cons _ _ _ _ v12 (.cons _ _ _ _ (.lst _ _ _ g13) (.cons _ _ _ _ (.lst _ _ _ g14) .nil))))))))))))))),by rw [e4];rfl⟩
end
theorem globs {W:World} (h:W.ShapedOpen Tryz.prog):GlW tt W:=by
 refine ⟨?_,?_⟩
 ·intro b hb
  rw [show globOf tt=some 3 by kernel_rfl] at hb
  cases hb
  exact cell_of_shapedOpen_int (t:=3) (zero:= #[.int .i64 0]) h (of_decide_eq_true (by kernel_rfl)) (by kernel_rfl) rfl (by kernel_rfl) (by kernel_rfl) Tryz.underlying3
 ·intro g hg
  rw [show gtabOf tt=[] by kernel_rfl] at hg
  cases hg
end Go.VC.T07
end

section
namespace Go.Proofs.YtlpanbeeckdbpaaGreatDoor
open Go Go.VC Go.VC.T07
open Go.ChangeShapes Go.WideShapes Go.ChangeAt Go.RowKit
def cells1:DataW Unit→List Value
 | .lit (.int k n)=>[.int k n]
 |_=>[]
def cells2:DataW Unit→List Value
 | .agg ds=>ds.flatMap cells1
 |d=>cells1 d
def cells3:DataW Unit→List Value
 | .agg ds=>ds.flatMap cells2
 |d=>cells2 d
def putCells (h:Array Obj) (g:Nat) (cs:List Value):Array Obj:=h.modify g fun
 | .cells _ t frozen=>.cells ⟨cs⟩ t frozen
 |o=>o
noncomputable def laidWorld (os:Os):World:=
 let w0:=World.holding Tryz.prog os ⟨#[],#[],[]⟩
 { w0 with heap:=putCells (putCells (putCells (putCells (putCells w0.heap 4 (cells3 Rows.laid_math_bits_deBruijn32tab)) 5 (cells3 Rows.laid_math_bits_deBruijn64tab)) 2 (cells3 Rows.laid_internal_strconv_uint64pow10)) 7 (cells3 Rows.laid_unicode_utf8_acceptRanges)) 6 (cells3 Rows.laid_unicode_utf8_first) }
theorem laid_met (os:Os) (args:Array Value):laidMetH Tryz.prog Rows.conditionTextsUptoRow.laid ((laidWorld os).forCall (fun _ _=>0) ⟨#[],args,[]⟩).memory:=
 laidMetH_of_parts3 (fuel:=8) (laidMet_of_run' 8 (by kernel_rfl) (by kernel_rfl)) (by kernel_rfl) (by kernel_rfl)
end Go.Proofs.YtlpanbeeckdbpaaGreatDoor
end
