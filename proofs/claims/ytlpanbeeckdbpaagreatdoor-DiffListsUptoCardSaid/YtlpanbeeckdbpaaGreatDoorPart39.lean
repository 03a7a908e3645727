/- Part 39 of the common texts: Y0 YW. -/
import Derived.Lib.LaidTab
import Derived.Lib.LaidU8
import Derived.MakeChecks
import Derived.Test.YtlpanbeeckdbpaaGreatDoorRows
import Derived.ProofKit
import Derived.OpenShut
import Derived.JoinedCond
import Derived.Deep.DeepHandedRow
import Derived.LaidMore
import Derived.LaidHandle
import Derived.LaidLaws
import Derived.Shelf.Vars
import Derived.Deep.DeepWitnessRowRef
import Derived.Lay
import Derived.Test.YtlpanbeeckdbpaaGreatDoorPart38
import Derived.Test.YtlpanbeeckdbpaaGreatDoorPart3
set_option linter.all false
set_option maxRecDepth 100000
set_option maxHeartbeats 16000000

section
namespace Go.VC.T07
open Go Go.VC Go.Proofs
open Go.ChangeShapes Go.WideShapes Go.ChangeAt Go.RowKit
namespace Bk
open YtlpanbeeckdbpaaGreatDoor
theorem one_le {H:Type} (d:DataW H):1≤Rows.uptoBulk d:=by
 cases d with
 |lit l=>cases l<;>simp [Rows.uptoBulk]
 |nil=>simp [Rows.uptoBulk]
 |ptr d=>simp [Rows.uptoBulk]
 |slice elems spare=>simp [Rows.uptoBulk]
 |agg parts=>simp [Rows.uptoBulk]
 |iface t d=>simp [Rows.uptoBulk]
 |map entries=>simp [Rows.uptoBulk]
 |held h=>simp [Rows.uptoBulk]
theorem part_le {H:Type} {d:DataW H}:∀ {l:List (DataW H)},d∈l→Rows.uptoBulk d≤Rows.uptoBulkAll l
 |x::r,h=>by
  simp only [Rows.uptoBulkAll]
  rcases List.mem_cons.1 h with rfl|h
  ·omega
  ·have:=part_le h;omega
theorem len_le {H:Type}:∀ (l:List (DataW H)),l.length≤Rows.uptoBulkAll l
 |[]=>by simp
 |x::r=>by have:=one_le x;have:=len_le r;simp only [Rows.uptoBulkAll,List.length_cons];omega
theorem sum_le {H:Type}:∀ (l:List (DataW H)),(l.map Rows.uptoBulk).sum=Rows.uptoBulkAll l
 |[]=>by simp [Rows.uptoBulkAll]
 |x::r=>by simp only [List.map_cons,List.sum_cons,Rows.uptoBulkAll,sum_le r]
theorem ok {H:Type}:BulkOk (H:=H) Rows.uptoBulk where
 str s:=by simp [Rows.uptoBulk]
 slice es sp:=⟨by have:=len_le es;simp only [Rows.uptoBulk];omega,fun e he=>by have:=part_le he;simp only [Rows.uptoBulk];omega⟩
 agg ps e he:=by have:=part_le he;simp only [Rows.uptoBulk];omega
 ptr d:=by simp only [Rows.uptoBulk];omega
 one d:=one_le d
 sums es sp:=by rw [sum_le];simp only [Rows.uptoBulk];omega
 suma ps:=by rw [sum_le];simp only [Rows.uptoBulk];omega
end Bk
theorem own:ownKnob Tryz.prog.godebug=none:=by kernel_rfl
theorem laid:laidOutB Tryz.prog=true:=by kernel_rfl
abbrev TS:List TypeId:=[3,4,9,32,34]
theorem dat:TS.all (dataB tt TS)=true:=by kernel_rfl
theorem noU:TS.all (noU64 tt)=true:=by kernel_rfl
theorem cks32:cksOf tt 32=[.slice 34]:=by kernel_rfl
theorem cks34:cksOf tt 34=[.int .i64,.str,.str,.int .i64,.int .i64,.bool,.bool]:=by kernel_rfl
section
variable {Pp:Per} {n:Nat}
theorem rd_int {k:IntKind} {v:Value} {d:D} (h:RD tt Pp (.int k) v d) (hb:Bd n d):∃ z:Int,d= .int z∧ -9223372036854775808≤z∧z≤9223372036854775807:=by
 cases h;cases hb with|int _ h=>exact ⟨_,rfl,h⟩
theorem rd_str {v:Value} {d:D} (h:RD tt Pp .str v d):∃ z,d= .str z:=by cases h;exact ⟨_,rfl⟩
theorem rd_bool {v:Value} {d:D} (h:RD tt Pp .bool v d):∃ z,d= .bool z:=by cases h;exact ⟨_,rfl⟩
theorem decCh {vs:List Value} {ds:List D} (h:RowRD tt Pp n [.int .i64,.str,.str,.int .i64,.int .i64,.bool,.bool] vs ds):∃ x:Ch,ds=encCh x∧x.ok:=by
 cases h with
 |cons _ _ d0 _ _ _ g0 c0 s0=>
 cases s0 with
 |cons _ _ d1 _ _ _ g1 c1 s1=>
 cases s1 with
 |cons _ _ d2 _ _ _ g2 c2 s2=>
 cases s2 with
 |cons _ _ d3 _ _ _ g3 c3 s3=>
 cases s3 with
 |cons _ _ d4 _ _ _ g4 c4 s4=>
 cases s4 with
 |cons _ _ d5 _ _ _ g5 c5 s5=>
 cases s5 with
 |cons _ _ d6 _ _ _ g6 c6 s6=>
 cases s6
 obtain ⟨z0,rfl,_⟩:=rd_int g0 c0
 obtain ⟨z1,rfl⟩:=rd_str g1
 obtain ⟨z2,rfl⟩:=rd_str g2
 obtain ⟨z3,rfl,r3⟩:=rd_int g3 c3
 obtain ⟨z4,rfl,_⟩:=rd_int g4 c4
 obtain ⟨z5,rfl⟩:=rd_bool g5
 obtain ⟨z6,rfl⟩:=rd_bool g6
 exact ⟨⟨z0,z1,z2,z3,z4,z5,z6⟩,rfl,r3⟩
theorem decChs {v:Value} {e:D} (h:RD tt Pp (.slice 34) v e) (hb:Bd n e):∃ l:List Ch,e=encL encCh l∧l.length≤n∧∀ x∈l,x.ok:=by
 obtain ⟨rows,rfl,hl,hr⟩:=RD.rows h hb
 obtain ⟨l,rfl,hp⟩:=lift_map (f:=encCh) (p:=Ch.ok) (rows:=rows) (fun r hr'=>by
  obtain ⟨vs,hv⟩:=hr r hr'
  rw [cks34] at hv
  exact decCh hv)
 exact ⟨l,rfl,by simpa using hl,hp⟩
end
section
variable {H:Type} {enc:TypeId×Value→H} {W:World} {base:Nat} {v:Value} {d:DataW H} {p:List MemPlace}
theorem argL (hv:Value.okWide Tryz.prog W .any base 32 v) (h:DataW.Trod enc Tryz.prog W 0 (fun _=>true) true 32 v d p) (hb:YtlpanbeeckdbpaaGreatDoor.Rows.uptoBulk d≤1048576):
 ∃ (e:D) (l:List Ch),VR tt [] (AllP W) v (.lst 34 e)∧e=encL encCh l∧l.length≤1048576∧∀ x∈l,x.ok:=by
 obtain ⟨a,len,cap,rfl⟩:=okWide_slice Tryz.underlying32 hv
 obtain ⟨fuel,hf⟩:=h
 obtain ⟨ds,hds,hw⟩:=trod_row (n:=1048576) tt_ok dat noU (bulk:=YtlpanbeeckdbpaaGreatDoor.Rows.uptoBulk) Bk.ok fuel 32 _ _ (by decide) hf hb
 rw [cks32] at hds
 cases hds with
 |cons _ _ e _ _ _ h1 h2 t1=>
  cases t1
  obtain ⟨l,he,hl,hf⟩:=decChs h1 h2
  exact ⟨e,l,.lst _ _ _ h1,he,hl,hf⟩
end
theorem var_cells {P:Program} {w:World} {n:String} {g:Nat} {cs:Array Value} (hg:P.globalNamed n=some g) (h:w.var? P n=some cs):∃ T f,w.heap[g]? =some (.cells cs T f):=by
 unfold World.var? at h
 rw [hg] at h
 simp only [Option.bind_some] at h
 split at h
 ·rename_i c T f hc
  cases h
  exact ⟨T,f,hc⟩
 ·cases h
theorem tab_cells {w:World} {n:String} {g:Nat} {t e:TypeId} {m:Nat} {k:IntKind} {zs:List Int} (hg:Tryz.prog.globalNamed n=some g) (hty:(Tryz.prog.globals[g]?).map (·.type)=some t)
 (ht:Tryz.prog.underlying t=some (.array m e)) (he:Tryz.prog.underlying e=some (.int k)) (hce:Tryz.prog.cellsOf e=1) (hct:Tryz.prog.cellsOf t=m) (h:Go.Lib.VarReads Tryz.prog w n (Go.Lib.tabData k zs)):
 ∃ T f,w.heap[g]? =some (.cells (zs.map (Value.int k)).toArray T f):=by
 obtain ⟨g',t',cs,fuel,p,hg',ht',hvar,hd⟩:=h
 obtain rfl:=Option.some.inj (hg.symm.trans hg')
 obtain rfl:=Option.some.inj (hty.symm.trans ht')
 obtain ⟨T,f,hh⟩:=var_cells hg hvar
 have:=Go.Lib.cells_of_tab ht he hce hct hd
 refine ⟨T,f,?_⟩
 rw [hh,←this]
theorem laidN {W:World} (hl:laidMetH Tryz.prog YtlpanbeeckdbpaaGreatDoor.Rows.diffListsUptoRow.laid W):laidMet Tryz.prog YtlpanbeeckdbpaaGreatDoor.Rows.diffListsUptoRow.laid W:=by
 unfold laidMetH at hl
 split at hl
 ·exact hl
 ·rename_i h hs he
  rw [show (YtlpanbeeckdbpaaGreatDoor.Rows.diffListsUptoRow.laid.filter fun x=>x.2.handleName?.isSome)=[] by kernel_rfl] at he
  cases he
theorem globs {W:World} (h:W.ShapedOpen Tryz.prog) (hl:laidMetH Tryz.prog YtlpanbeeckdbpaaGreatDoor.Rows.diffListsUptoRow.laid W):GlW tt W:=by
 refine ⟨?_,?_⟩
 ·intro b hb
  rw [show globOf tt=some 3 by kernel_rfl] at hb
  cases hb
  exact cell_of_shapedOpen_int (t:=3) (zero:= #[.int .i64 0]) h (of_decide_eq_true (by kernel_rfl)) (by kernel_rfl) rfl (by kernel_rfl) (by kernel_rfl) Tryz.underlying3
 ·intro g hg
  rw [show gtabOf tt=[(0,.u8,Lib.asciiSpaceTab),(2,.u64,Lib.pow10Tab)] by kernel_rfl] at hg
  simp only [List.mem_cons,List.mem_nil_iff,or_false] at hg
  rcases hg with rfl|rfl
  ·exact tab_cells (n:= "strings.asciiSpace") (t:=114) (e:=5) (m:=256) (by kernel_rfl) (by kernel_rfl) (by kernel_rfl) (by kernel_rfl) (by kernel_rfl) (by kernel_rfl)
    (Go.Lib.laidMet.reads (laidN hl) (by rw [show Go.Lib.tabData .u8 Lib.asciiSpaceTab=YtlpanbeeckdbpaaGreatDoor.Rows.laid_strings_asciiSpace by kernel_rfl];simp [YtlpanbeeckdbpaaGreatDoor.Rows.diffListsUptoRow]))
  ·exact tab_cells (n:= "internal/strconv.uint64pow10") (t:=292) (e:=223) (m:=20) (by kernel_rfl) (by kernel_rfl) (by kernel_rfl) (by kernel_rfl) (by kernel_rfl) (by kernel_rfl)
    (Go.Lib.laidMet.reads (laidN hl) (by rw [show Go.Lib.tabData .u64 Lib.pow10Tab=YtlpanbeeckdbpaaGreatDoor.Rows.laid_internal_strconv_uint64pow10 by kernel_rfl];simp [YtlpanbeeckdbpaaGreatDoor.Rows.diffListsUptoRow]))
end Go.VC.T07
end

section
namespace Go.Proofs.YtlpanbeeckdbpaaGreatDoor
open Go Go.VC Go.VC.T07
open Go.ChangeShapes Go.WideShapes Go.ChangeAt Go.RowKit
noncomputable def laidWorld (os:Os):World:=World.laidAll Tryz.prog os Rows.diffListsUptoRow.laid
theorem laid_met (os:Os) (args:Array Value):laidMetH Tryz.prog Rows.diffListsUptoRow.laid ((laidWorld os).forCall (fun _ _=>0) ⟨#[],args,[]⟩).memory:=by
 have h:=laidMet_laidAll (P:=Tryz.prog) (os:=os) (laid:=Rows.diffListsUptoRow.laid) args (by kernel_rfl) (by kernel_rfl)
 unfold laidMetH
 split
 ·exact h
 ·rename_i h hs he
  rw [show (Rows.diffListsUptoRow.laid.filter fun x=>x.2.handleName?.isSome)=[] by kernel_rfl] at he
  cases he
end Go.Proofs.YtlpanbeeckdbpaaGreatDoor
end
