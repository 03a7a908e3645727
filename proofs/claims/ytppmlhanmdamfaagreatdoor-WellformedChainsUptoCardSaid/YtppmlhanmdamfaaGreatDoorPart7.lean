/- Part 7 of the common texts: Y0 YW P1 P2 P3 P4 P5 P6 R2 R4 TB W8 A1 N2 AA AB CA CB. -/
import Derived.Test.YtppmlhanmdamfaaGreatDoorRows
import Derived.ProofKit
import Derived.OpenShut
import Derived.JoinedCond
import Derived.Deep.DeepHandedRow
import Derived.LaidMore
import Derived.LaidHandle
import Derived.LaidLaws
import Derived.Shelf.Vars
import Derived.Deep.DeepWitnessRowRef
import Derived.Test.YtppmlhanmdamfaaGreatDoorPart1
import Derived.Test.YtppmlhanmdamfaaGreatDoorPart2
import Derived.Test.YtppmlhanmdamfaaGreatDoorPart3
import Derived.Test.YtppmlhanmdamfaaGreatDoorPart4
import Derived.Test.YtppmlhanmdamfaaGreatDoorPart5
import Derived.Test.YtppmlhanmdamfaaGreatDoorPart6
set_option linter.all false
set_option maxRecDepth 100000
set_option maxHeartbeats 16000000

section
namespace Go.VC.T07
open Go Go.VC Go.Proofs
open Go.ChangeShapes Go.WideShapes Go.ChangeAt Go.RowKit
namespace Bk
open YtppmlhanmdamfaaGreatDoor
theorem one_le {H:Type} (d:DataW H):1≤Rows.uptoBulk d:=by
 cases d with
 |lit l=>cases l<;>simp [Rows.uptoBulk]
 |nil=>simp [Rows.uptoBulk]
 |ptr d=>simp [Rows.uptoBulk]
 |slice elems spare=>simp [Rows.uptoBulk]
 |agg parts=>simp [Rows.uptoBulk]
 |iface t d=>simp [Rows.uptoBulk]
 |map entries=>simp [Rows.uptoBulk]
 |held h=>simp [Rows.uptoBulk]
theorem part_le {H:Type} {d:DataW H}:∀ {l:List (DataW H)},d∈l→Rows.uptoBulk d≤Rows.uptoBulkAll l
 |x::r,h=>by
  simp only [Rows.uptoBulkAll]
  rcases List.mem_cons.1 h with rfl|h
  ·omega
  ·have:=part_le h;omega
theorem len_le {H:Type}:∀ (l:List (DataW H)),l.length≤Rows.uptoBulkAll l
 |[]=>by simp
 |x::r=>by have:=one_le x;have:=len_le r;simp only [Rows.uptoBulkAll,List.length_cons];omega
theorem sum_le {H:Type}:∀ (l:List (DataW H)),(l.map Rows.uptoBulk).sum=Rows.uptoBulkAll l
 |[]=>by simp [Rows.uptoBulkAll]
 |x::r=>by simp only [List.map_cons,List.sum_cons,Rows.uptoBulkAll,sum_le r]
theorem ok {H:Type}:BulkOk (H:=H) Rows.uptoBulk where
 str s:=by simp [Rows.uptoBulk]
 slice es sp:=⟨by have:=len_le es;simp only [Rows.uptoBulk];omega,fun e he=>by have:=part_le he;simp only [Rows.uptoBulk];omega⟩
 agg ps e he:=by have:=part_le he;simp only [Rows.uptoBulk];omega
 ptr d:=by simp only [Rows.uptoBulk];omega
 one d:=one_le d
 sums es sp:=by rw [sum_le];simp only [Rows.uptoBulk];omega
 suma ps:=by rw [sum_le];simp only [Rows.uptoBulk];omega
end Bk
theorem own:ownKnob Tryz.prog.godebug=none:=by kernel_rfl
theorem laid:laidOutB Tryz.prog=true:=by kernel_rfl
abbrev TS:List TypeId:=[3,4,9,23,24,25,26,28,35,36,37,38,40,49,51,53,65,101,106,119]
theorem dat:TS.all (dataB tt TS)=true:=by kernel_rfl
theorem sum_ones {α:Type} {l:List α}:(l.map fun _=>1).sum=l.length:=by
 induction l with
 |nil=>simp
 |cons x l ih=>simp only [List.map_cons,List.sum_cons,List.length_cons];omega
section
variable {n:Nat} {Pp:Per}
theorem list_dec {e:TypeId} {α:Type} {f:α→List D} {p:α→Prop} {g:α→Nat} {m:Nat} (hrow:∀ vs row,RowRD tt Pp n (cksOf tt e) vs row→wDs row≤m→∃ x,row=f x∧p x∧g x≤wDs row)
  {v:Value} {d:D} (h:RD tt Pp (.slice e) v d) (hb:Bd n d) (hm:wD d≤m+1):∃ l:List α,d=encL f l∧l.length≤n∧(∀ x∈l,p x)∧(l.map g).sum+1≤wD d:=by
 obtain ⟨rows,rfl,hl,hr⟩:=RD.rows h hb
 simp only [wD] at hm
 obtain ⟨l,rfl,hp⟩:=lift_map (f:=f) (p:=fun x=>p x∧g x≤wDs (f x)) (rows:=rows) (fun r hr'=>by
  obtain ⟨vs,hv⟩:=hr r hr'
  obtain ⟨x,e1,e2,e3⟩:=hrow vs r hv (by have:=wDr_mem hr';omega)
  exact ⟨x,e1,e2,by rw [← e1];exact e3⟩)
 refine ⟨l,rfl,by simpa using hl,fun x hx=>(hp x hx).1,?_⟩
 simp only [wD,wDr_sum,List.map_map]
 have:∀ l:List α,(∀ x∈l,g x≤wDs (f x))→(l.map g).sum≤(l.map (wDs∘f)).sum:=by
  intro l
  induction l with
  |nil=>simp
  |cons x l ih=>
   intro h
   have a:=h x (by simp)
   have b:=ih fun y hy=>h y (by simp [hy])
   simp only [List.map_cons,List.sum_cons,Function.comp];omega
 have:=this l fun x hx=>(hp x hx).2
 omega
theorem cks28:cksOf tt 28=[.int .i64,.str,.str,.slice 28,.slice 65]:=by kernel_rfl
theorem cks65:cksOf tt 65=[.str,.int .i64,.str,.str,.slice 28,.slice 65,.bool]:=by kernel_rfl
theorem decTy:∀ (m:Nat) {vs:List Value} {row:List D},wDs row≤m→m≤1048578→RowRD tt Pp 1048576 [.int .i64,.str,.str,.slice 28,.slice 65] vs row→∃ t:Ty,row=encTy t∧t.fit∧t.size+3≤wDs row
 |0,vs,row,hm,_,h=>by
  cases h with
  |cons _ _ d _ _ _ h1 _ t1=>
  cases h1
  simp only [wDs,wD] at hm;omega
 |m+1,vs,row,hm,hm2,h=>by
  have ih:=fun {vs row} (h1:wDs row≤m)=>decTy m (vs:=vs) (row:=row) h1 (by omega)
  cases h with
  |cons _ _ _ _ _ _ h1 _ t1=>
  cases t1 with
  |cons _ _ _ _ _ _ h2 b2 t2=>
  cases t2 with
  |cons _ _ _ _ _ _ h3 b3 t3=>
  cases t3 with
  |cons _ _ d4 _ _ _ h4 b4 t4=>
  cases t4 with
  |cons _ _ d5 _ _ _ h5 b5 t5=>
  cases t5
  cases h1 with
  |int _ z1=>
  cases h2 with
  |str z2=>
  cases h3 with
  |str z3=>
  cases b2 with
  |str _ bb2=>
  cases b3 with
  |str _ bb3=>
  have hm0:=hm
  simp only [wDs,wD] at hm
  obtain ⟨la,rfl,ha1,ha2,ha3⟩:=list_dec (f:=encTy) (p:=Ty.fit) (g:=Ty.size) (m:=m) (fun vs row hr hmr=>by
   rw [cks28] at hr
   obtain ⟨t,a,b,c⟩:=ih hmr hr
   exact ⟨t,a,b,by omega⟩) h4 b4 (by omega)
  obtain ⟨lf,rfl,hf1,hf2,hf3⟩:=list_dec (f:=encFd) (p:=fun f=>f.t.fit∧f.s.length≤1048576) (g:=fun f=>f.t.size) (m:=m) (fun vs row hr hmr=>by
   rw [cks65] at hr
   cases hr with
   |cons _ _ _ _ _ _ g0 c0 s0=>
   cases s0 with
   |cons _ _ _ _ _ _ g1 c1 s1=>
   cases s1 with
   |cons _ _ _ _ _ _ g2 c2 s2=>
   cases s2 with
   |cons _ _ _ _ _ _ g3 c3 s3=>
   cases s3 with
   |cons _ _ _ _ _ _ g4 c4 s4=>
   cases s4 with
   |cons _ _ _ _ _ _ g5 c5 s5=>
   cases s5 with
   |cons _ _ _ _ _ _ g6 _ s6=>
   cases s6
   cases g0 with
   |str sb=>
   cases c0 with
   |str _ bsb=>
   cases g6 with
   |bool bb=>
   have hin:=RowRD.cons _ _ _ _ _ _ g1 c1 (.cons _ _ _ _ _ _ g2 c2 (.cons _ _ _ _ _ _ g3 c3 (.cons _ _ _ _ _ _ g4 c4 (.cons _ _ _ _ _ _ g5 c5 .nil))))
   simp only [wDs,wD] at hmr
   obtain ⟨t,a,b,c⟩:=ih (by simp only [wDs];omega) hin
   refine ⟨.mk sb.data.toList t bb,?_,⟨b,bsb⟩,?_⟩
   ·show _=D.str _::(encTy t++[D.bool _])
    rw [← a];rfl
   ·simp only [wDs,wD] at c ⊢;show t.size≤_;omega) h5 b5 (by omega)
  have hsz:(Ty.mk z1 z2.data.toList z3.data.toList la lf).size+3≤wDs [D.int z1,D.str z2.data.toList,D.str z3.data.toList,encL encTy la,encL encFd lf]:=by
   rw [size_eq]
   show 1+(((la++lf.map Fe.t).map Ty.size).sum)+3≤_
   simp only [wDs,wD] at*
   rw [List.map_append,List.sum_append,List.map_map]
   have:(lf.map (Ty.size∘Fe.t)).sum=(lf.map fun f=>f.t.size).sum:=rfl
   omega
  refine ⟨.mk z1 z2.data.toList z3.data.toList la lf,?_,⟨?_,?_,?_⟩,hsz⟩
  ·rw [encTy_eq];rfl
  ·exact .mk _ (Nat.le_trans ha1 (by decide)) (Nat.le_trans hf1 (by decide)) (fun u hu=>(ha2 u hu).le) (fun f hf=>(hf2 f hf).1.le)
  ·omega
  ·intro u hu
   rw [all_eq] at hu
   rcases List.mem_cons.1 hu with rfl|hu
   ·exact ⟨bb2,bb3,fun x hx=>(hf2 x hx).2⟩
   ·obtain ⟨v,hv,hu⟩:=List.mem_flatMap.1 hu
    rcases List.mem_append.1 (show v∈la++lf.map Fe.t from hv) with hv|hv
    ·exact (ha2 v hv).nod u hu
    ·obtain ⟨f,hf,rfl⟩:=List.mem_map.1 hv
     exact (hf2 f hf).1.nod u hu
theorem cks53:cksOf tt 53=[.str,.int .i64,.int .i64,.str,.str,.slice 28,.slice 65]:=by kernel_rfl
theorem cks51:cksOf tt 51=[.str,.slice 53,.int .i64,.str,.str,.slice 28,.slice 65,.int .i64,.str,.str,.slice 28,.slice 65]:=by kernel_rfl
theorem cks101:cksOf tt 101=[.str,.slice 53,.int .i64,.str,.str,.slice 28,.slice 65]:=by kernel_rfl
theorem cks106:cksOf tt 106=[.str,.str,.str]:=by kernel_rfl
theorem cks119:cksOf tt 119=[.str,.str]:=by kernel_rfl
theorem cks40:cksOf tt 40=[.str,.slice 51,.slice 101,.slice 106,.slice 119]:=by kernel_rfl
theorem decPm {vs:List Value} {row:List D} (h:RowRD tt Pp 1048576 (cksOf tt 53) vs row) (hw:wDs row≤1048576):∃ x:Pm,row=encPm x∧x.bound.fit∧x.wt≤wDs row:=by
 rw [cks53] at h
 cases h with
 |cons _ _ d0 _ _ _ g0 c0 s0=>
 cases s0 with
 |cons _ _ d1 _ _ _ g1 c1 s1=>
 cases s1 with
 |cons _ _ d2 _ _ _ g2 c2 s2=>
 cases s2 with
 |cons _ _ d3 _ _ _ g3 c3 s3=>
 cases s3 with
 |cons _ _ d4 _ _ _ g4 c4 s4=>
 cases s4 with
 |cons _ _ d5 _ _ _ g5 c5 s5=>
 cases s5 with
 |cons _ _ d6 _ _ _ g6 c6 s6=>
 cases s6
 cases g0 with
 |str z0=>
 cases g1 with
 |int _ z1=>
 have hin:=RowRD.cons _ _ _ _ _ _ g2 c2 (.cons _ _ _ _ _ _ g3 c3 (.cons _ _ _ _ _ _ g4 c4 (.cons _ _ _ _ _ _ g5 c5 (.cons _ _ _ _ _ _ g6 c6 .nil))))
 simp only [wDs,wD] at hw
 obtain ⟨t,e,fit,sz⟩:=decTy 1048576 (by simp only [wDs];omega) (by decide) hin
 refine ⟨⟨z0.data.toList,z1,t⟩,?_,fit,?_⟩
 ·unfold encPm;rw [← e]
 ·simp only [wDs,wD,Pm.wt] at sz ⊢;omega
theorem decPms {v:Value} {d:D} (h:RD tt Pp (.slice 53) v d) (hb:Bd 1048576 d) (hw:wD d≤1048576):∃ l:List Pm,d=encL encPm l∧l.length≤1048576∧(∀ x∈l,x.bound.fit)∧(l.map Pm.wt).sum+1≤wD d:=
 list_dec (m:=1048576) (fun vs row hr hm=>decPm hr hm) h hb (by omega)
theorem decAE {vs:List Value} {row:List D} (h:RowRD tt Pp 1048576 (cksOf tt 106) vs row):∃ x:AE,row=encAE x∧x.fit∧1≤wDs row:=by
 rw [cks106] at h
 cases h with
 |cons _ _ d0 _ _ _ g0 c0 s0=>
 cases s0 with
 |cons _ _ d1 _ _ _ g1 c1 s1=>
 cases s1 with
 |cons _ _ d2 _ _ _ g2 c2 s2=>
 cases s2
 cases g0 with
 |str z0=>
 cases g1 with
 |str z1=>
 cases g2 with
 |str z2=>
 cases c0 with
 |str _ b0=>
 cases c2 with
 |str _ b2=>
 exact ⟨⟨_,_,_⟩,rfl,⟨b0,b2⟩,by simp only [wDs,wD];omega⟩
theorem decDE {vs:List Value} {row:List D} (h:RowRD tt Pp 1048576 (cksOf tt 119) vs row):∃ x:DE,row=encDE x∧x.fit∧1≤wDs row:=by
 rw [cks119] at h
 cases h with
 |cons _ _ d0 _ _ _ g0 c0 s0=>
 cases s0 with
 |cons _ _ d1 _ _ _ g1 c1 s1=>
 cases s1
 cases g0 with
 |str z0=>
 cases g1 with
 |str z1=>
 cases c0 with
 |str _ b0=>
 exact ⟨⟨_,_⟩,rfl,⟨b0⟩,by simp only [wDs,wD];omega⟩
theorem decTE {vs:List Value} {row:List D} (h:RowRD tt Pp 1048576 (cksOf tt 51) vs row) (hw:wDs row≤1048576):∃ x:TE,row=encTE x∧(x.ok∧x.fit)∧x.wt≤wDs row:=by
 rw [cks51] at h
 cases h with
 |cons _ _ d0 _ _ _ g0 c0 s0=>
 cases s0 with
 |cons _ _ d1 _ _ _ g1 c1 s1=>
 cases s1 with
 |cons _ _ d2 _ _ _ g2 c2 s2=>
 cases s2 with
 |cons _ _ d3 _ _ _ g3 c3 s3=>
 cases s3 with
 |cons _ _ d4 _ _ _ g4 c4 s4=>
 cases s4 with
 |cons _ _ d5 _ _ _ g5 c5 s5=>
 cases s5 with
 |cons _ _ d6 _ _ _ g6 c6 s6=>
 cases s6 with
 |cons _ _ d7 _ _ _ g7 c7 s7=>
 cases s7 with
 |cons _ _ d8 _ _ _ g8 c8 s8=>
 cases s8 with
 |cons _ _ d9 _ _ _ g9 c9 s9=>
 cases s9 with
 |cons _ _ d10 _ _ _ g10 c10 s10=>
 cases s10 with
 |cons _ _ d11 _ _ _ g11 c11 s11=>
 cases s11
 cases g0 with
 |str z0=>
 cases c0 with
 |str _ b0=>
 simp only [wDs,wD] at hw
 obtain ⟨lp,rfl,hp1,hp2,hp3⟩:=decPms g1 c1 (by omega)
 have hin:=RowRD.cons _ _ _ _ _ _ g2 c2 (.cons _ _ _ _ _ _ g3 c3 (.cons _ _ _ _ _ _ g4 c4 (.cons _ _ _ _ _ _ g5 c5 (.cons _ _ _ _ _ _ g6 c6 .nil))))
 obtain ⟨t,e,f1,sz⟩:=decTy 1048576 (by simp only [wDs];omega) (by decide) hin
 have hin2:=RowRD.cons _ _ _ _ _ _ g7 c7 (.cons _ _ _ _ _ _ g8 c8 (.cons _ _ _ _ _ _ g9 c9 (.cons _ _ _ _ _ _ g10 c10 (.cons _ _ _ _ _ _ g11 c11 .nil))))
 obtain ⟨t2,e2,f2,sz2⟩:=decTy 1048576 (by simp only [wDs];omega) (by decide) hin2
 refine ⟨⟨z0.data.toList,lp,t,t2⟩,?_,⟨⟨by simp only;omega,fun p hp=>(hp2 p hp).le,f1.le,f2.le⟩,⟨b0,hp1,hp2,f1,f2⟩⟩,?_⟩
 ·unfold encTE;rw [← e,←e2];rfl
 ·simp only [wDs,wD,TE.wt] at sz sz2 hp3 ⊢;omega
theorem decVE {vs:List Value} {row:List D} (h:RowRD tt Pp 1048576 (cksOf tt 101) vs row) (hw:wDs row≤1048576):∃ x:VE,row=encVE x∧(x.ok∧x.fit)∧x.wt≤wDs row:=by
 rw [cks101] at h
 cases h with
 |cons _ _ d0 _ _ _ g0 c0 s0=>
 cases s0 with
 |cons _ _ d1 _ _ _ g1 c1 s1=>
 cases s1 with
 |cons _ _ d2 _ _ _ g2 c2 s2=>
 cases s2 with
 |cons _ _ d3 _ _ _ g3 c3 s3=>
 cases s3 with
 |cons _ _ d4 _ _ _ g4 c4 s4=>
 cases s4 with
 |cons _ _ d5 _ _ _ g5 c5 s5=>
 cases s5 with
 |cons _ _ d6 _ _ _ g6 c6 s6=>
 cases s6
 cases g0 with
 |str z0=>
 cases c0 with
 |str _ b0=>
 simp only [wDs,wD] at hw
 obtain ⟨lp,rfl,hp1,hp2,hp3⟩:=decPms g1 c1 (by omega)
 have hin:=RowRD.cons _ _ _ _ _ _ g2 c2 (.cons _ _ _ _ _ _ g3 c3 (.cons _ _ _ _ _ _ g4 c4 (.cons _ _ _ _ _ _ g5 c5 (.cons _ _ _ _ _ _ g6 c6 .nil))))
 obtain ⟨t,e,f1,sz⟩:=decTy 1048576 (by simp only [wDs];omega) (by decide) hin
 refine ⟨⟨z0.data.toList,lp,t⟩,?_,⟨⟨by simp only;omega,fun p hp=>(hp2 p hp).le,f1.le⟩,⟨b0,hp1,hp2,f1⟩⟩,?_⟩
 ·unfold encVE;rw [← e]
 ·simp only [wDs,wD,VE.wt] at sz hp3 ⊢;omega
theorem rf_wt (x:IF):refsSz x≤x.wt:=by
 have:∀ l:List TE,(l.map fun x=>x.lower.size+x.upper.size).sum≤(l.map TE.wt).sum:=by
  intro l
  induction l with
  |nil=>simp
  |cons y l ih=>simp only [List.map_cons,List.sum_cons,TE.wt] at ih ⊢;omega
 have:=this x.types
 unfold refsSz IF.wt;omega
theorem decIF {vs:List Value} {row:List D} (h:RowRD tt Pp 1048576 (cksOf tt 40) vs row) (hw:wDs row≤1048576):∃ x:IF,row=encIF x∧x.fit∧x.wt≤wDs row:=by
 rw [cks40] at h
 cases h with
 |cons _ _ d0 _ _ _ g0 c0 s0=>
 cases s0 with
 |cons _ _ d1 _ _ _ g1 c1 s1=>
 cases s1 with
 |cons _ _ d2 _ _ _ g2 c2 s2=>
 cases s2 with
 |cons _ _ d3 _ _ _ g3 c3 s3=>
 cases s3 with
 |cons _ _ d4 _ _ _ g4 c4 s4=>
 cases s4
 cases g0 with
 |str z0=>
 cases c0 with
 |str _ b0=>
 have hw0:=hw
 simp only [wDs,wD] at hw
 obtain ⟨l1,rfl,a1,a2,a3⟩:=list_dec (m:=1048576) (f:=encTE) (fun vs row hr hm=>decTE hr hm) g1 c1 (by omega)
 obtain ⟨l2,rfl,b1,b2,b3⟩:=list_dec (m:=1048576) (f:=encVE) (fun vs row hr hm=>decVE hr hm) g2 c2 (by omega)
 obtain ⟨l3,rfl,y1,y2,y3⟩:=list_dec (m:=1048576) (f:=encAE) (g:=fun _=>1) (fun vs row hr _=>decAE hr) g3 c3 (by omega)
 obtain ⟨l4,rfl,w1,w2,w3⟩:=list_dec (m:=1048576) (f:=encDE) (g:=fun _=>1) (fun vs row hr _=>decDE hr) g4 c4 (by omega)
 have hwt:(IF.mk z0.data.toList l1 l2 l3 l4).wt≤wDs [D.str z0.data.toList,encL encTE l1,encL encVE l2,encL encAE l3,encL encDE l4]:=by
  rw [sum_ones] at y3 w3
  simp only [wDs,wD,IF.wt] at a3 b3 y3 w3 ⊢;omega
 refine ⟨⟨z0.data.toList,l1,l2,l3,l4⟩,rfl,⟨⟨by simp only;omega,by simp only;omega,by simp only;omega,by simp only;omega,fun y hy=>(a2 y hy).1,fun y hy=>(b2 y hy).1⟩,b0,Nat.le_trans (rf_wt _) (Nat.le_trans hwt hw0),a1,b1,y1,w1,fun y hy=>(a2 y hy).2,fun y hy=>(b2 y hy).2,y2,w2⟩,hwt⟩
theorem decEnv {v:Value} {d:D} (h:RD tt Pp (.slice 40) v d) (hb:Bd 1048576 d) (hw:wD d≤1048576):∃ l:List IF,d=encL encIF l∧envOk l∧(∀ i∈l,i.fit)∧(l.map IF.wt).sum+1≤wD d:=by
 obtain ⟨l,e,a,b,c⟩:=list_dec (m:=1048576) (f:=encIF) (fun vs row hr hm=>decIF hr hm) h hb (by omega)
 exact ⟨l,e,⟨by omega,fun i hi=>(b i hi).ok⟩,b,c⟩
end
theorem vr_int {Pp:Per} {k:IntKind} {v:Value} {z:Int} (h:RD tt Pp (.int k) v (.int z)):VR tt [] Pp v (.int k z):=by cases h;exact .int _ _
theorem vr_str {Pp:Per} {v:Value} {z:S} (h:RD tt Pp .str v (.str z)):VR tt [] Pp v (.str z):=by cases h;exact .str _
section
variable {H:Type} {enc:TypeId×Value→H} {W:World} {n base:Nat} {v:Value} {d:DataW H} {p:List MemPlace}
theorem one_row {t:TypeId} {ck:CK} (ht:TS.contains t=true) (hck:cksOf tt t=[ck]) {a:Option Addr} {l c:Nat} (h:DataW.Trod enc Tryz.prog W 0 (fun _=>true) true t (.slice a l c) d p) (hb:YtppmlhanmdamfaaGreatDoor.Rows.uptoBulk d≤1048576):
  ∃ e,RD tt (AllP W) ck (.slice a l c) e∧Bd 1048576 e∧wD e≤YtppmlhanmdamfaaGreatDoor.Rows.uptoBulk d:=by
 obtain ⟨fuel,hf⟩:=h
 obtain ⟨ds,hds,hw⟩:=trod_row (n:=1048576) tt_ok dat (bulk:=YtppmlhanmdamfaaGreatDoor.Rows.uptoBulk) Bk.ok fuel t _ _ ht hf hb
 rw [hck] at hds
 cases hds with
 |cons _ _ e _ _ _ h1 h2 t1=>
  cases t1
  simp only [wDs] at hw
  exact ⟨e,h1,h2,by omega⟩
theorem argE {t:TypeId} (ht:t=23) (hv:Value.okWide Tryz.prog W .any base t v) (h:DataW.Trod enc Tryz.prog W 0 (fun _=>true) true t v d p) (hb:YtppmlhanmdamfaaGreatDoor.Rows.uptoBulk d≤1048576):
  ∃ (e:D) (l:List IF),VR tt [] (AllP W) v (.lst 40 e)∧e=encL encIF l∧envOk l∧(∀ i∈l,i.fit)∧(l.map IF.wt).sum≤1048576:=by
 subst ht
 obtain ⟨a,len,cap,rfl⟩:=okWide_slice Tryz.underlying23 hv
 obtain ⟨e,h1,h2,h3⟩:=one_row (by decide) (by kernel_rfl) h hb
 obtain ⟨l,he,hl,hf,hw⟩:=decEnv h1 h2 (by omega)
 exact ⟨e,l,.lst _ _ _ h1,he,hl,hf,by omega⟩
theorem cks9s:cksOf tt 9=[.str]:=by kernel_rfl
theorem argNs {t:TypeId} (ht:t=24) (hv:Value.okWide Tryz.prog W .any base t v) (h:DataW.Trod enc Tryz.prog W 0 (fun _=>true) true t v d p) (hb:YtppmlhanmdamfaaGreatDoor.Rows.uptoBulk d≤1048576):
  ∃ (e:D) (l:List S),VR tt [] (AllP W) v (.lst 9 e)∧e=encL encS l∧l.length≤4294967295:=by
 subst ht
 obtain ⟨a,len,cap,rfl⟩:=okWide_slice Tryz.underlying24 hv
 obtain ⟨e,h1,h2,h3⟩:=one_row (by decide) (by kernel_rfl) h hb
 obtain ⟨l,he,hl,hp,hw⟩:=list_dec (m:=wD e) (f:=encS) (p:=fun _=>True) (g:=fun _=>0) (fun vs row hr _=>by
  rw [cks9s] at hr
  cases hr with
  |cons _ _ d0 _ _ _ g0 c0 s0=>
  cases s0
  cases g0 with
  |str z0=>exact ⟨_,rfl,trivial,Nat.zero_le _⟩) h1 h2 (by omega)
 exact ⟨e,l,.lst _ _ _ h1,he,by omega⟩
theorem argT (hv:Value.okWide Tryz.prog W .any base 28 v) (h:DataW.Trod enc Tryz.prog W 0 (fun _=>true) true 28 v d p) (hb:YtppmlhanmdamfaaGreatDoor.Rows.uptoBulk d≤1048576):
  ∃ (t:Ty) (c0:Int) (c1 c2:S) (c3 c4:D),VR tt [] (AllP W) v (tyPV c0 c1 c2 c3 c4)∧tyIs t c0 c1 c2 c3 c4∧t.fit:=by
 obtain ⟨cs,rfl,_⟩:=okWide_struct Tryz.underlying28 hv
 obtain ⟨fuel,hf⟩:=h
 obtain ⟨ds,hds,hw⟩:=trod_row (n:=1048576) tt_ok dat (bulk:=YtppmlhanmdamfaaGreatDoor.Rows.uptoBulk) Bk.ok fuel 28 _ _ (by decide) hf hb
 rw [cks28] at hds
 generalize hx:(Value.agg cs).cells.toList=vs at hds
 have hcs:cs=⟨vs⟩:=by rw [← hx];rfl
 subst hcs
 clear hx hf
 obtain ⟨t,e,fit,sz⟩:=decTy 1048576 (Nat.le_trans hw hb) (by decide) hds
 subst e
 rw [encTy_eq] at hds
 cases hds with
 |cons _ _ _ _ _ _ g0 _ s0=>
 cases s0 with
 |cons _ _ _ _ _ _ g1 _ s1=>
 cases s1 with
 |cons _ _ _ _ _ _ g2 _ s2=>
 cases s2 with
 |cons _ _ _ _ _ _ g3 _ s3=>
 cases s3 with
 |cons _ _ _ _ _ _ g4 _ s4=>
 cases s4
 exact ⟨t,t.k,t.m,t.n,_,_,.agg _ _ (.cons _ _ _ _ (vr_int g0) (.cons _ _ _ _ (vr_str g1) (.cons _ _ _ _ (vr_str g2) (.cons _ _ _ _ (.lst _ _ _ g3) (.cons _ _ _ _ (.lst _ _ _ g4) .nil))))),⟨rfl,rfl,rfl,rfl,rfl⟩,fit⟩
theorem argI (hv:Value.okWide Tryz.prog W .any base 40 v) (h:DataW.Trod enc Tryz.prog W 0 (fun _=>true) true 40 v d p) (hb:YtppmlhanmdamfaaGreatDoor.Rows.uptoBulk d≤1048576):
  ∃ (x:IF) (c0:S) (c1 c2 c3 c4:D),VR tt [] (AllP W) v (ifPV c0 c1 c2 c3 c4)∧ifIs x c0 c1 c2 c3 c4∧x.fit∧x.wt≤1048576:=by
 obtain ⟨cs,rfl,_⟩:=okWide_struct Tryz.underlying40 hv
 obtain ⟨fuel,hf⟩:=h
 obtain ⟨ds,hds,hw⟩:=trod_row (n:=1048576) tt_ok dat (bulk:=YtppmlhanmdamfaaGreatDoor.Rows.uptoBulk) Bk.ok fuel 40 _ _ (by decide) hf hb
 generalize hx:(Value.agg cs).cells.toList=vs at hds
 have hcs:cs=⟨vs⟩:=by rw [← hx];rfl
 subst hcs
 clear hx hf
 have hw2:=Nat.le_trans hw hb
 obtain ⟨x,e,fit,wt⟩:=decIF hds hw2
 subst e
 rw [cks40] at hds
 cases hds with
 |cons _ _ _ _ _ _ g0 _ s0=>
 cases s0 with
 |cons _ _ _ _ _ _ g1 _ s1=>
 cases s1 with
 |cons _ _ _ _ _ _ g2 _ s2=>
 cases s2 with
 |cons _ _ _ _ _ _ g3 _ s3=>
 cases s3 with
 |cons _ _ _ _ _ _ g4 _ s4=>
 cases s4
 exact ⟨x,x.path,_,_,_,_,.agg _ _ (.cons _ _ _ _ (vr_str g0) (.cons _ _ _ _ (.lst _ _ _ g1) (.cons _ _ _ _ (.lst _ _ _ g2) (.cons _ _ _ _ (.lst _ _ _ g3) (.cons _ _ _ _ (.lst _ _ _ g4) .nil))))),⟨rfl,rfl,rfl,rfl,rfl⟩,fit,Nat.le_trans wt hw2⟩
end
theorem globs {W:World} (h:W.ShapedOpen Tryz.prog):∀ b,globOf tt=some b→∃ m:Int,W.cell? ⟨b,0,none⟩=some (.int .i64 m):=by
 intro b hb
 rw [show globOf tt=some 0 by kernel_rfl] at hb
 cases hb
 exact cell_of_shapedOpen_int (t:=3) (zero:= #[.int .i64 0]) h (of_decide_eq_true (by kernel_rfl)) (by kernel_rfl) rfl (by kernel_rfl) (by kernel_rfl) Tryz.underlying3
end Go.VC.T07
end

section
namespace Go.Proofs.YtppmlhanmdamfaaGreatDoor
open Go Go.VC Go.VC.T07
open Go.ChangeShapes Go.WideShapes Go.ChangeAt Go.RowKit
def cells1:DataW Unit→List Value
 | .lit (.int k n)=>[.int k n]
 |_=>[]
def cells2:DataW Unit→List Value
 | .agg ds=>ds.flatMap cells1
 |d=>cells1 d
def cells3:DataW Unit→List Value
 | .agg ds=>ds.flatMap cells2
 |d=>cells2 d
def putCells (h:Array Obj) (g:Nat) (cs:List Value):Array Obj:=h.modify g fun
 | .cells _ t frozen=>.cells ⟨cs⟩ t frozen
 |o=>o
noncomputable def laidWorld (os:Os):World:=
 let w0:=World.holding Tryz.prog os ⟨#[],#[],[]⟩
 { w0 with heap:=putCells (putCells (putCells (putCells (putCells w0.heap 4 (cells3 Rows.laid_math_bits_deBruijn32tab)) 5 (cells3 Rows.laid_math_bits_deBruijn64tab)) 1 (cells3 Rows.laid_internal_strconv_uint64pow10)) 3 (cells3 Rows.laid_unicode_utf8_acceptRanges)) 2 (cells3 Rows.laid_unicode_utf8_first) }
theorem laid_met (os:Os) (args:Array Value):laidMetH Tryz.prog Rows.wellformedMembersUptoRow.laid ((laidWorld os).forCall (fun _ _=>0) ⟨#[],args,[]⟩).memory:=
 laidMetH_of_parts3 (fuel:=8) (laidMet_of_run' 8 (by kernel_rfl) (by kernel_rfl)) (by kernel_rfl) (by kernel_rfl)
end Go.Proofs.YtppmlhanmdamfaaGreatDoor
end

section
namespace Go.VC
def kws:List S:=[[97,110,100],[97,110,121],[97,115],[98,111,111,108],[100,101,112,114,101,99,97,116,101,100],[101,108,115,101],[101,120,112,111,114,116],[102,97,108,115,101],[102,110],[102,111,108,100],[102,114,111,109],[105,102],[105,109,112,111,114,116],[105,110],[105,110,116],[108,101,110,103,116,104],[108,101,116],[108,105,115,116],[109,97,116,99,104],[109,111,100,117,108,101],[110,111,110,101],[110,111,116],[111,114],[116,101,120,116],[116,104,101,110],[116,114,117,101],[116,121,112,101],[117,115,101]]
def joinK:List S→S
 |[]=>[]
 |w::l=>w++32::joinK l
theorem kw_join:kwS=32::joinK kws:=by decide
theorem occ_drop (s sub:S) (i:Nat) (h:i≤s.length):Lib.occAt s sub i=sub.isPrefixOf (s.drop i):=by
 induction s generalizing i with
 |nil=>simp at h;subst h;simp [Lib.occAt]
 |cons c l ih=>
  cases i with
  |zero=>simp [Lib.occAt]
  |succ i=>simp at h;simpa [Lib.occAt] using ih i h
theorem contains_infix (s sub:S):Lib.contains s sub=true↔sub <:+: s:=by
 unfold Lib.contains
 rw [decide_eq_true_eq]
 rcases Lib.index_spec s sub with ⟨h1,h2⟩|⟨i,h1,h2,h3,_⟩
 ·rw [h1]
  constructor
  ·intro h;omega
  ·rintro ⟨a,b,rfl⟩
   have:=h2 a.length (by simp)
   rw [occ_drop _ _ _ (by simp),List.append_assoc,List.drop_left] at this
   have h4:sub.isPrefixOf (sub++b)=true:=List.isPrefixOf_iff_prefix.2 (List.prefix_append _ _)
   rw [h4] at this;cases this
 ·rw [h1]
  refine ⟨fun _=> ?_,fun _=>by omega⟩
  rw [occ_drop _ _ _ h2,List.isPrefixOf_iff_prefix] at h3
  exact h3.isInfix.trans (List.drop_suffix i s).isInfix
theorem pre_word:∀ {s w r:S},(∀ c∈s,c≠32)→(∀ c∈w,c≠32)→(s++[32] <+: w++32::r↔s=w)
 |[],[],r,_,_=>by simp
 |[],y::w,r,_,hw=>by
  have:=hw y (by simp)
  simp [Ne.symm this]
 |x::s,[],r,hs,_=>by
  have:=hs x (by simp)
  simp [this]
 |x::s,y::w,r,hs,hw=>by
  rw [List.cons_append,List.cons_append,List.cons_prefix_cons,pre_word (fun c hc=>hs c (by simp [hc])) (fun c hc=>hw c (by simp [hc]))]
  simp
theorem skip_word {x r:S}:∀ {w:S},(∀ c∈w,c≠32)→32::x <:+: w++r→32::x <:+: r
 |[],_,h=>h
 |y::w,hw,h=>by
  rw [List.cons_append,List.infix_cons_iff] at h
  rcases h with h|h
  ·rw [List.cons_prefix_cons] at h
   exact absurd h.1.symm (hw y (by simp))
  ·exact skip_word (fun c hc=>hw c (by simp [hc])) h
theorem key_words {s:S} (hs:∀ c∈s,c≠32):∀ {ws:List S},(∀ w∈ws,∀ c∈w,c≠32)→((32::s++[32]) <:+: 32::joinK ws↔s∈ws)
 |[],_=>by
  simp only [joinK,List.not_mem_nil,iff_false]
  intro h
  have:=h.length_le
  simp at this
 |w::ws,hw=>by
  have ih:=key_words hs (ws:=ws) fun w h=>hw w (by simp [h])
  rw [joinK,List.infix_cons_iff,List.cons_append,List.cons_prefix_cons,pre_word hs (hw w (by simp)),List.mem_cons]
  constructor
  ·rintro (⟨_,h⟩|h)
   ·exact .inl h
   ·exact .inr (ih.1 (skip_word (hw w (by simp)) h))
  ·rintro (h|h)
   ·exact .inl ⟨rfl,h⟩
   ·exact .inr ((ih.2 h).trans (List.suffix_append _ _).isInfix)
theorem word_32 {s:S} (h:allB wordB s=true):∀ c∈s,c≠32:=by
 intro c hc e
 subst e
 have:=List.all_eq_true.1 h _ hc
 revert this;decide
theorem key_has {s:S} (h:allB wordB s=true):keyB s=kws.contains s:=by
 have h1:keyB s=true↔s∈kws:=by
  unfold keyB
  rw [contains_infix,kw_join]
  exact key_words (word_32 h) (by decide)
 cases hk:keyB s with
 |true=>exact (List.contains_iff_mem.2 (h1.1 hk)).symm
 |false=>
  cases hc:kws.contains s with
  |false=>rfl
  |true=>rw [h1.2 (List.contains_iff_mem.1 hc)] at hk;cases hk
end Go.VC
namespace Go.VC.T07
open Go Go.VC Go.Proofs
theorem F209 {c:Int} {K:PV→List Ob→Prop} (h:∀ b,b=smallB c→K (.bool b) []):FC Tryz.prog tt 209 [] [.int .u8 c] K:=by
 refine FC.enter (G:=g209) tt_ok mixed ⟨Tryz.func209,by rfl,rfl⟩ rfl rfl rfl ?_
 intro A C L X
 cbv
 repeat' (first|apply And.intro|exact fun (_:FF)=>by kernel_rfl|(intro h2;cbv)|apply Or.inl)
 all_goals (refine h _ ?_;obtain rfl:=X.a;simp only [SD,bNot] at *;simp [smallB,h2])
theorem F207 {c:Int} {K:PV→List Ob→Prop} (h:∀ b,b=capB c→K (.bool b) []):FC Tryz.prog tt 207 [] [.int .u8 c] K:=by
 refine FC.enter (G:=g207) tt_ok mixed ⟨Tryz.func207,by rfl,rfl⟩ rfl rfl rfl ?_
 intro A C L X
 cbv
 repeat' (first|apply And.intro|exact fun (_:FF)=>by kernel_rfl|(intro h2;cbv)|apply Or.inl)
 all_goals (refine h _ ?_;obtain rfl:=X.a;simp only [SD,bNot] at *;simp [capB,h2])
theorem F247 {c:Int} {K:PV→List Ob→Prop} (h:∀ b,b=digB c→K (.bool b) []):FC Tryz.prog tt 247 [] [.int .u8 c] K:=by
 refine FC.enter (G:=g247) tt_ok mixed ⟨Tryz.func247,by rfl,rfl⟩ rfl rfl rfl ?_
 intro A C L X
 cbv
 repeat' (first|apply And.intro|exact fun (_:FF)=>by kernel_rfl|(intro h2;cbv)|apply Or.inl)
 all_goals (refine h _ ?_;obtain rfl:=X.a;simp only [SD,bNot] at *;simp [digB,h2])
theorem F226 {c:Int} {K:PV→List Ob→Prop} (h:∀ b,b=wordB c→K (.bool b) []):FC Tryz.prog tt 226 [] [.int .u8 c] K:=by
 refine FC.enter (G:=g226) tt_ok mixed ⟨Tryz.func226,by rfl,rfl⟩ rfl rfl rfl ?_
 intro A C L X
 cbv
 refine X.call (F209 fun b1 hb1=> ?_)
 cbv
 repeat' (first|apply And.intro|exact fun (_:FF)=>by kernel_rfl|(intro h2;cbv)|apply Or.inl|(refine X.call (F207 fun b2 hb2=> ?_);cbv)|(refine X.call (F247 fun b3 hb3=> ?_);cbv))
 all_goals (refine h _ ?_;obtain rfl:=X.a;simp only [SD,bNot,Std_eq] at *;simp_all [wordB])
theorem F208 {s:S} (hs:s.length≤4294967295) {K:PV→List Ob→Prop} (h:∀ b,b=allB wordB s→K (.bool b) []):FC Tryz.prog tt 208 [] [.str s] K:=by
 refine FC.enter (G:=g208) tt_ok mixed ⟨Tryz.func208,by rfl,rfl⟩ rfl rfl rfl ?_
 intro A C L X
 obtain ⟨n,hn⟩:∃ n,n=s.length:=⟨_,rfl⟩
 have hlen:A.slen s=Int.ofNat n:=by rw [X.a,hn];rfl
 cbv
 refine X.loop (fun (i:Nat)=>⟨[(3,.int .i64 i),(0,.str s)],[]⟩)
  (fun i=>i≤n∧allB wordB (s.take i)=true) (fun i=>n-i) 0 ⟨Nat.zero_le _,rfl⟩ ?_ ?_
 ·(cbv;repeat' apply And.intro);all_goals try first|trivial|rfl|(rw [X.a];rfl)
 rintro i ⟨hi,ha⟩
 cbv
 refine ⟨fun h1=> ?_,fun h1=> ?_⟩
 ·have h5:i<s.length:=by obtain rfl:=X.a;simp only [SD,bNot] at h1 hlen;omega
  have hid:A.idx (Int.ofNat i) (A.slen s):=by rw [hlen,X.a,hn];exact ⟨Int.natCast_nonneg _,Int.ofNat_lt.2 h5⟩
  have hin:A.inr .i64 (A.add (Int.ofNat i) 1):=by rw [X.a];exact leaf_inc h5 (by omega)
  have hget:A.sget s (Int.ofNat i)=(s[i].toNat:Int):=by rw [X.a];simp [Std,std,List.getD,h5]
  have hneg:=negA X.a
  cbv
  repeat' (first|apply And.intro|exact fun (_:FF)=>by kernel_rfl|(intro h2;cbv)|apply Or.inl)
  any_goals exact hid
  refine X.call (F226 fun b hb=> ?_)
  have hb:b=wordB (A.sget s (Int.ofNat i)):=hb
  rw [hget] at hb
  cbv
  repeat' (first|apply And.intro|exact fun (_:FF)=>by kernel_rfl|(intro h2;cbv)|apply Or.inl)
  any_goals exact hin
  ·exact h _ (by
    have h2:A.not b=true:=by assumption
    have h2:=(hneg b).symm.trans h2
    rw [allB_false h5];rw [← hb];simpa using h2)
  ·refine ⟨i+1,⟨?_,?_⟩,?_,?_⟩
   ·omega
   ·exact allB_take h5 ha (by
     have h2:A.not b=false:=by assumption
     have h2:=(hneg b).symm.trans h2;rw [← hb];simpa using h2)
   ·omega
   (cbv;repeat' apply And.intro);all_goals try first|trivial|rfl|(rw [X.a];rfl)
 ·have h5:i=n:=by obtain rfl:=X.a;simp only [SD,bNot] at h1 hlen;omega
  cbv
  exact h _ (by rw [h5,hn,List.take_length] at ha;exact ha.symm)
theorem F110 {l:List S} {d:D} {s:S} {K:PV→List Ob→Prop} (hd:d=encL encS l) (hl:l.length≤4294967295)
  (h:∀ b,b=l.contains s→K (.bool b) []):FC Tryz.prog tt 110 [] [.lst 9 d,.str s] K:=by
 refine FC.enter (G:=g110) tt_ok mixed ⟨Tryz.func110,by rfl,rfl⟩ rfl rfl rfl ?_
 intro A C L X
 obtain ⟨n_d,hn_d,hlen_d⟩:=lenOf hd
 cbv
 refine X.loop (fun (i:Nat)=>⟨[(5,.int .i64 i),(1,.str s),(0,.lst 9 d)],[]⟩) (fun i=>i≤n_d∧∀ y∈l.take i,y≠s) (fun i=>n_d-i) 0 ⟨Nat.zero_le _,by simp⟩ ?_ ?_
 ·(cbv;repeat' apply And.intro);all_goals try first|trivial|rfl|(rw [X.a];rfl)
 rintro i ⟨hi,ha⟩
 cbv
 refine ⟨fun h1=> ?_,fun h1=> ?_⟩
 ·have h5:i<l.length:=by obtain rfl:=X.a;simp only [hlen_d,SD,bNot] at h1;omega
  have k1:=strAt X.a hd h5
  have hid:A.idx (Int.ofNat i) (A.len d):=by rw [X.a,hd];exact leaf_idx h5
  have hin:A.inr .i64 (A.add (Int.ofNat i) 1):=by rw [X.a];exact leaf_inc h5 (by omega)
  have hsq:A.seq (A.asStr (A.cell d (Int.ofNat i) 0)) s=(l[i]==s):=by rw [k1,X.a];rfl
  cbv
  repeat' (first|apply And.intro|exact fun (_:FF)=>by kernel_rfl|(intro h2;cbv)|apply Or.inl)
  any_goals exact hid
  any_goals exact hin
  ·have e:=hsq.symm.trans h2
   refine h _ ?_
   rw [← (by simpa using e:l[i]=s)]
   exact (List.contains_iff_mem.2 (List.getElem_mem h5)).symm
  ·have e:(l[i]==s)=false:=hsq.symm.trans (by assumption)
   refine ⟨i+1,⟨by omega,?_⟩,by omega,?_⟩
   ·rw [take_succ' h5];intro y hy
    rcases List.mem_append.1 hy with hy|hy
    ·exact ha y hy
    ·simp at hy;subst hy;simpa using e
   (cbv;repeat' apply And.intro);all_goals try first|trivial|rfl|(rw [X.a];rfl)
 ·have h5:i=n_d:=by obtain rfl:=X.a;simp only [hlen_d,SD,bNot] at h1;omega
  subst h5
  rw [hn_d,List.take_length] at ha
  cbv
  refine h _ ?_
  cases hc:l.contains s with
  |false=>exact hc.symm
  |true=>exact absurd rfl (ha s (List.contains_iff_mem.1 hc))
theorem F210 {K:PV→List Ob→Prop} (h:∀ r,r=encL encS kws→K (.lst 9 r) []):FC Tryz.prog tt 210 [] [] K:=by
 refine FC.enter (G:=g210) tt_ok mixed ⟨Tryz.func210,by rfl,rfl⟩ rfl rfl rfl ?_
 intro A C L X
 have q:=h (A.lit (kws.map encS)) (by rw [X.a];rfl)
 cbv
 exact q
theorem one_le_pos {A:Alg} (ha:A=Std) {s:S} (h:A.le 1 (A.slen s)=true):A.idx 0 (A.slen s):=by
 subst ha
 have h2:=of_decide_eq_true (p:=(1:Int)≤(s.length:Int)) h
 exact ⟨Int.le_refl 0,by rw [Std_slen];omega⟩
theorem ne_len {s:S}:(s != [])=decide ((1:Int)≤(s.length:Int)):=by
 cases s with
 |nil=>rfl
 |cons c l=>rw [List.length_cons,decide_eq_true (by omega)];rfl
theorem F162 {s:S} (hs:s.length≤4294967295) {K:PV→List Ob→Prop} (h:∀ b,b=typeB s→K (.bool b) []):FC Tryz.prog tt 162 [] [.str s] K:=by
 refine FC.enter (G:=g162) tt_ok mixed ⟨Tryz.func162,by rfl,rfl⟩ rfl rfl rfl ?_
 intro A C L X
 have hp:=fun h=>one_le_pos X.a (s:=s) h
 have hne:=ne_len (s:=s)
 cbv
 repeat' (first|apply And.intro|exact fun (_:FF)=>by kernel_rfl|(intro h2;cbv)|apply Or.inl|(refine X.call (F207 fun b1 hb1=> ?_);cbv)|(refine X.call (F208 hs fun b2 hb2=> ?_);cbv))
 any_goals exact hp (by assumption)
 all_goals (refine h _ ?_;obtain rfl:=X.a;unfold typeB;rw [hne];simp only [Std_sget0,SD,bNot] at* <;>simp_all<;>omega)
theorem F163 {s:S} (hs:s.length≤4294967295) {K:PV→List Ob→Prop} (h:∀ b,b=nameB s→K (.bool b) []):FC Tryz.prog tt 163 [] [.str s] K:=by
 refine FC.enter (G:=g163) tt_ok mixed ⟨Tryz.func163,by rfl,rfl⟩ rfl rfl rfl ?_
 intro A C L X
 have hp:=fun h=>one_le_pos X.a (s:=s) h
 have hne:=ne_len (s:=s)
 have hk:=fun h=>key_has (s:=s) h
 cbv
 repeat' (first|apply And.intro|exact fun (_:FF)=>by kernel_rfl|(intro h2;cbv)|apply Or.inl|(refine X.call (F209 fun b1 hb1=> ?_);cbv)|(refine X.call (F208 hs fun b2 hb2=> ?_);cbv)|(refine X.call (F210 fun r hr=> ?_);cbv)|(refine X.call (F110 hr (by decide) fun b3 hb3=> ?_);cbv))
 any_goals exact hp (by assumption)
 all_goals (refine h _ ?_;obtain rfl:=X.a;unfold nameB;rw [hne];simp only [Std_sget0,SD,bNot] at* <;>simp_all<;>omega)
end Go.VC.T07
end

section
namespace Go.VC
theorem segs_cons (c:UInt8) (l:S):segs (c::l)=if c=47 then []::segs l else match segs l with|[]=>[[c]]|x::xs=>(c::x)::xs:=by rw [segs];rfl
theorem segs_slash:∀ s:S,segs (s++[47])=segs s++[[]]
 |[]=>by decide
 |c::l=>by
  rw [List.cons_append,segs_cons,segs_cons,segs_slash l]
  split
  ·rfl
  ·cases h:segs l with
   |nil=>exact absurd h (segs_ne l)
   |cons x xs=>rfl
theorem segs_char {c:UInt8} (hc:c≠47):∀ s:S,segs (s++[c])=(segs s).dropLast++[(segs s).getLast?.getD []++[c]]
 |[]=>by simp [segs,hc]
 |a::l=>by
  rw [List.cons_append,segs_cons,segs_cons,segs_char hc l]
  cases h:segs l with
  |nil=>exact absurd h (segs_ne l)
  |cons x xs=>
   split
   ·simp [List.getLast?_cons]
   ·cases xs with
    |nil=>rfl
    |cons y ys=>simp [List.getLast?_cons]
theorem set_last {α:Type} {l:List α} {y:α} (h:l≠[]):l.set (l.length-1) y=l.dropLast++[y]:=by
 have hp:=List.length_pos_iff.2 h
 apply List.ext_getElem
 ·simp;omega
 ·intro i h1 h2
  simp at h1 h2
  rw [List.getElem_set,List.getElem_append]
  simp only [List.length_dropLast,List.getElem_dropLast]
  by_cases e:i<l.length-1
  ·rw [dif_pos e,if_neg (by omega)]
  ·rw [dif_neg e,if_pos (by omega)];simp
theorem take_snoc {s:S} {i:Nat} (h:i<s.length):s.take (i+1)=s.take i++[s[i]]:=take_succ' h
theorem sget_at {A:Alg} (ha:A=Std) {s:S} {i:Nat} (h:i<s.length):A.sget s (Int.ofNat i)=(s[i].toNat:Int):=by rw [ha];simp [Std,std,List.getD,h]
theorem u8_ne {a b:UInt8} (h:((a.toNat:Int)==(b.toNat:Int))=false):a≠b:=fun e=>by rw [e] at h;simp at h
theorem u8_eq {a b:UInt8} (h:((a.toNat:Int)==(b.toNat:Int))=true):a=b:=by
 have:=eq_of_beq h
 exact UInt8.toNat_inj.1 (by omega)
def verQ (s:S):Bool:= !(decide ((s.length:Int)<2)||decide ((4:Int)<s.length)|| !(hdB s==118)||((((s.getD 1 0).toNat:Int)==48)&&decide ((2:Int)<s.length)))&&allB digB (s.drop 1)
theorem verQ_eq (s:S):verQ s=verB s:=by
 unfold verQ verB
 cases s with
 |nil=>decide
 |cons c l=>
  have h1:Lib.hasPrefix (c::l) [118]=(c==118):=by
   simp [Lib.hasPrefix,List.isPrefixOf,BEq.comm]
  rw [h1]
  by_cases hc:c=118
  ·subst hc
   have h2:Lib.trimPrefix (118::l) [118]=l:=by simp [Lib.trimPrefix,Lib.hasPrefix,List.isPrefixOf]
   rw [h2]
   cases l with
   |nil=>decide
   |cons x m=>
    have e1:(hdB (118::x::m)==118)=true:=rfl
    simp only [verR,e1,List.length_cons,List.getD_cons_succ,List.drop_succ_cons,List.drop_zero]
    have e2:((x::m) != [])=true:=rfl
    have e3:hdB (x::m)=(((x::m).getD 0 0).toNat:Int):=rfl
    rw [e2,e3,Bool.eq_iff_iff]
    simp
    intro hd
    constructor
    ·rintro ⟨⟨a,b⟩,c⟩;exact ⟨by omega,by grind⟩
    ·rintro ⟨a,b⟩;exact ⟨⟨by omega,by omega⟩,by grind⟩
  ·have:((hdB (c::l))==118)=false:=by
    simp only [hdB,List.getD_cons_zero,beq_eq_false_iff_ne]
    intro e
    exact hc (UInt8.toNat_inj.1 (by have:(118:UInt8).toNat=118:=rfl;omega))
   rw [this];simp [hc]
end Go.VC
namespace Go.VC.T07
open Go Go.VC Go.Proofs
def g244a:Cfg:={tt:=tt,n:=37,own:=[5],sch:=g244.sch}
theorem F244 {s:S} (hs:s.length≤4294967200) {K:PV→List Ob→Prop} (h:∀ r,r=encL encS (segs s)→K (.lst 9 r) []):FC Tryz.prog tt 244 [] [.str s] K:=by
 refine FC.enter (G:=g244a) tt_ok mixed ⟨Tryz.func244,by rfl,rfl⟩ rfl rfl rfl ?_
 intro A C L X
 obtain ⟨n,hn⟩:∃ n,n=s.length:=⟨_,rfl⟩
 have hlen:A.slen s=Int.ofNat n:=by rw [X.a,hn];rfl
 cbv
 refine X.loopP (fun (y:Nat×D)=>⟨[(4,.int .i64 y.1),(0,.str s),(3,.row 9 0)],[.row 9 y.2 true]⟩)
  (fun y=>y.1≤n∧y.2=encL encS (segs (s.take y.1))) (fun y=>n-y.1) (0,A.lit [[.str []]]) ⟨Nat.zero_le _,by rw [X.a];rfl⟩ ?_ ?_
 ·refine ⟨[0],rfl,?_⟩
  (cbv;repeat' apply And.intro);all_goals try first|trivial|rfl|(rw [X.a];rfl)
 rintro ⟨i,r⟩ ⟨hi,hr⟩
 simp only at hi hr
 cbv
 refine ⟨fun h1=> ?_,fun h1=> ?_⟩
 ·have h5:i<s.length:=by obtain rfl:=X.a;simp only [SD,bNot] at h1 hlen;omega
  have hid:A.idx (Int.ofNat i) (A.slen s):=by rw [hlen,X.a,hn];exact ⟨Int.natCast_nonneg _,Int.ofNat_lt.2 h5⟩
  have hin:A.inr .i64 (A.add (Int.ofNat i) 1):=by rw [X.a];exact leaf_inc h5 (by omega)
  have hget:=sget_at X.a h5
  obtain ⟨l,hl⟩:∃ l,l=segs (s.take i):=⟨_,rfl⟩
  have hne:l≠[]:=by rw [hl];exact segs_ne _
  have hpos:0<l.length:=List.length_pos_iff.2 hne
  have hsl:=segs_len (s.take i)
  rw [← hl] at hsl
  have htl:(s.take i).length≤i:=by simp;omega
  have hlr:A.len r=Int.ofNat l.length:=lenIs X.a (by rw [hr,hl])
  have hm1:A.sub (A.len r) 1=Int.ofNat (l.length-1):=by rw [hlr,X.a,Std_sub];simp only [Int.ofNat_eq_natCast];omega
  have hin1:A.inr .i64 (A.sub (A.len r) 1):=by rw [hm1,X.a,Std_inr64];simp only [Int.ofNat_eq_natCast];omega
  have hid1:A.idx (A.sub (A.len r) 1) (A.len r):=by rw [hm1,X.a,hr,←hl];exact leaf_idx (by omega)
  have hla:l[l.length-1]'(by omega)=l.getLast?.getD []:=by rw [List.getLast?_eq_getElem?,List.getElem?_eq_getElem (by omega)];rfl
  have hce:A.asStr (A.cell r (A.sub (A.len r) 1) 0)=l.getLast?.getD []:=by
   rw [hm1,strAt X.a (by rw [hr,hl]:r=encL encS l) (by omega),hla]
  have hby:A.bstr (A.lit [[.int (A.sget s (Int.ofNat i))]])=[s[i]]:=by
   rw [hget,X.a];simp [Std,std,rowsD,byteR]
  have hll:(l.getLast?.getD []).length≤i:=by rw [← hla];exact Nat.le_trans (hsl.2 _ (List.getElem_mem _)) htl
  have hinS:A.inr .i64 (A.add (A.slen (A.asStr (A.cell r (A.sub (A.len r) 1) 0))) (A.slen (A.bstr (A.lit [[.int (A.sget s (Int.ofNat i))]])))):=by
   rw [hce,hby,X.a,Std_inr64,Std_add,Std_slen,Std_slen];simp;omega
  have hb2:A.bnd (A.add (A.len r) (A.len (A.lit [[.str []]]))) 4294967296:=by rw [hlr,X.a,Std_len_lit];simp only [SD,bNot];simp;omega
  have q1:A.eq (A.sget s (Int.ofNat i)) 47=true→A.app r (A.lit [[.str []]])=encL encS (segs (s.take (i+1))):=by
   intro e
   rw [hget,X.a] at e
   have e:s[i]=47:=u8_eq (b:=47) e
   rw [take_snoc h5,e,segs_slash,hr,X.a]
   exact Std_app (k:=[[]])
  have q2:A.eq (A.sget s (Int.ofNat i)) 47=false→A.setc r (A.sub (A.len r) 1) 0 [.str (A.sapp (A.asStr (A.cell r (A.sub (A.len r) 1) 0)) (A.bstr (A.lit [[.int (A.sget s (Int.ofNat i))]])))]=encL encS (segs (s.take (i+1))):=by
   intro e
   rw [hce,hby]
   rw [hget,X.a] at e
   have e:s[i]≠47:=u8_ne (b:=47) e
   rw [take_snoc h5,segs_char e,←hl,←set_last hne,hm1,hr,←hl,X.a]
   exact Std_setc (y:=l.getLast?.getD []++[s[i]]) rfl (by omega) rfl
  cbv
  repeat' (first|apply And.intro|exact fun (_:FF)=>by kernel_rfl|(intro h2;cbv)|apply Or.inl)
  any_goals first|exact hid|exact hin|exact hin1|exact hid1|exact hinS|exact hb2
  ·have h2:A.eq (A.sget s (Int.ofNat i)) 47=true:=by assumption
   refine ⟨(i+1,_),⟨?_,q1 h2⟩,?_,[0],rfl,?_⟩
   ·simp only;omega
   ·simp only;omega
   (cbv;repeat' apply And.intro);all_goals try first|trivial|rfl|(rw [X.a];rfl)
  ·have h2:A.eq (A.sget s (Int.ofNat i)) 47=false:=by assumption
   refine ⟨(i+1,_),⟨?_,q2 h2⟩,?_,[0],rfl,?_⟩
   ·simp only;omega
   ·simp only;omega
   (cbv;repeat' apply And.intro);all_goals try first|trivial|rfl|(rw [X.a];rfl)
 ·have h5:i=n:=by obtain rfl:=X.a;simp only [SD,bNot] at h1 hlen;omega
  rw [h5,hn,List.take_length] at hr
  cbv
  exact h r hr
theorem F245 {s:S} (hs:s.length≤4294967295) {K:PV→List Ob→Prop} (h:∀ b,b=segB s→K (.bool b) []):FC Tryz.prog tt 245 [] [.str s] K:=by
 refine FC.enter (G:=g245) tt_ok mixed ⟨Tryz.func245,by rfl,rfl⟩ rfl rfl rfl ?_
 intro A C L X
 obtain ⟨n,hn⟩:∃ n,n=s.length:=⟨_,rfl⟩
 have hlen:A.slen s=Int.ofNat n:=by rw [X.a,hn];rfl
 cbv
 refine X.loop (fun (i:Nat)=>⟨[(3,.int .i64 i),(0,.str s)],[]⟩)
  (fun i=>i≤n∧allB sdB (s.take i)=true) (fun i=>n-i) 0 ⟨Nat.zero_le _,rfl⟩ ?_ ?_
 ·(cbv;repeat' apply And.intro);all_goals try first|trivial|rfl|(rw [X.a];rfl)
 rintro i ⟨hi,ha⟩
 cbv
 refine ⟨fun h1=> ?_,fun h1=> ?_⟩
 ·have h5:i<s.length:=by obtain rfl:=X.a;simp only [SD,bNot] at h1 hlen;omega
  have hid:A.idx (Int.ofNat i) (A.slen s):=by rw [hlen,X.a,hn];exact ⟨Int.natCast_nonneg _,Int.ofNat_lt.2 h5⟩
  have hin:A.inr .i64 (A.add (Int.ofNat i) 1):=by rw [X.a];exact leaf_inc h5 (by omega)
  have hget:=sget_at X.a h5
  have hneg:=negA X.a
  have hbad:sdB (A.sget s (Int.ofNat i))=false→false=segB s:=by
   intro e;rw [hget] at e
   rw [segB,allB_false h5 e];simp
  have hgood:sdB (A.sget s (Int.ofNat i))=true→allB sdB (s.take (i+1))=true:=by
   intro e;rw [hget] at e
   exact allB_take h5 ha e
  cbv
  repeat' (first|apply And.intro|exact fun (_:FF)=>by kernel_rfl|(intro h2;cbv)|apply Or.inl|(refine X.call (F209 fun b1 hb1=> ?_);cbv)|(refine X.call (F247 fun b2 hb2=> ?_);cbv))
  any_goals first|exact hid|exact hin
  ·refine h _ (hbad ?_)
   have h2:A.not b2=true:=by assumption
   have h3:A.not b1=true:=by assumption
   rw [hneg] at h2 h3
   simp at h2 h3
   rw [sdB]
   have hb1:b1=smallB (A.sget s (Int.ofNat i)):=hb1
   have hb2:b2=digB (A.sget s (Int.ofNat i)):=hb2
   rw [← hb1,←hb2,h2,h3];rfl
  ·have h2:A.not b2=false:=by assumption
   rw [hneg] at h2
   have hb2:b2=digB (A.sget s (Int.ofNat i)):=hb2
   refine ⟨i+1,⟨by omega,hgood ?_⟩,by omega,?_⟩
   ·rw [sdB,←hb2];simp at h2;simp [h2]
   (cbv;repeat' apply And.intro);all_goals try first|trivial|rfl|(rw [X.a];rfl)
  ·have h2:A.not b1=false:=by assumption
   rw [hneg] at h2
   have hb1:b1=smallB (A.sget s (Int.ofNat i)):=hb1
   refine ⟨i+1,⟨by omega,hgood ?_⟩,by omega,?_⟩
   ·rw [sdB,←hb1];simp at h2;simp [h2]
   (cbv;repeat' apply And.intro);all_goals try first|trivial|rfl|(rw [X.a];rfl)
 ·have h5:i=n:=by obtain rfl:=X.a;simp only [SD,bNot] at h1 hlen;omega
  rw [h5,hn,List.take_length] at ha
  cbv
  refine X.call (F163 hs fun b hb=> ?_)
  cbv
  exact h _ (by rw [segB,ha,hb];simp)
end Go.VC.T07
end

section
namespace Go.VC
def verC (s:S):Bool:=decide ((s.length:Int)<2)||decide ((4:Int)<s.length)|| !(hdB s==118)||((((s.getD 1 0).toNat:Int)==48)&&decide ((2:Int)<s.length))
theorem ver_bad1 {s:S} (h:verC s=true):verB s=false:=by rw [← verQ_eq];show (!verC s&&allB digB (s.drop 1))=false;rw [h];rfl
theorem ver_bad2 {s:S} (h:allB digB (s.drop 1)=false):verB s=false:=by rw [← verQ_eq];show (!verC s&&allB digB (s.drop 1))=false;rw [h,Bool.and_false]
theorem ver_ok {s:S} (h:verC s=false) (h2:allB digB (s.drop 1)=true):verB s=true:=by rw [← verQ_eq];show (!verC s&&allB digB (s.drop 1))=true;rw [h,h2];rfl
theorem dig_false {s:S} {i:Nat} (h0:1≤i) (h:i<s.length) (hp:digB (s[i].toNat:Int)=false):allB digB (s.drop 1)=false:=by
 rw [allB,List.all_eq_false]
 refine ⟨s[i],?_,by simp [hp]⟩
 rw [List.mem_drop_iff_getElem]
 exact ⟨i-1,by omega,by congr 1;omega⟩
theorem Std_sget1 {a:S}:Std.sget a 1=((a.getD 1 0).toNat:Int):=rfl
theorem inr_of {A:Alg} (ha:A=Std) {k:IntKind} {n:Int} (h:k.min≤n∧n≤k.max):A.inr k n:=by subst ha;exact h
theorem inr64_of {A:Alg} (ha:A=Std) {n:Int} (h: -9223372036854775808≤n∧n≤9223372036854775807):A.inr .i64 n:=by subst ha;exact (cast Std_inr64.symm h)
theorem lt_1000 {z:Int} {p:Nat} (h:z<Int.ofNat p) (hp:p≤1000):z<1000:=by
 simp only [Int.ofNat_eq_natCast] at h;omega
theorem step_10 {z w:Int} {p p':Nat} (h:z<Int.ofNat p) (h2:p'=10*p) (hw:w≤9):10*z+w<Int.ofNat p':=by
 simp only [Int.ofNat_eq_natCast] at h ⊢;omega
theorem verC_len {s:S} (h:verC s=false):2≤s.length∧s.length≤4:=by
 unfold verC at h;simp at h;omega
end Go.VC
namespace Go.VC.T07
open Go Go.VC Go.Proofs
theorem F246 {s:S} {K:PV→List Ob→Prop} (hs:s.length≤4294967200) (h:∀ n:Int,decide (n<0)= !verB s→K (.int .i64 n) []):FC Tryz.prog tt 246 [] [.str s] K:=by
 refine FC.enter (G:=g246) tt_ok mixed ⟨Tryz.func246,by rfl,rfl⟩ rfl rfl rfl ?_
 intro A C L X
 obtain ⟨n,hn⟩:∃ n,n=s.length:=⟨_,rfl⟩
 have hlen:A.slen s=Int.ofNat n:=by rw [X.a,hn];rfl
 have hi0:A.lt (A.slen s) 2=false→A.idx 0 (A.slen s):=by rw [hlen,X.a,Std_lt];intro e;have e:=of_decide_eq_false e;exact ⟨by omega,by omega⟩
 have hi1:A.lt (A.slen s) 2=false→A.idx 1 (A.slen s):=by rw [hlen,X.a,Std_lt];intro e;have e:=of_decide_eq_false e;exact ⟨by omega,by omega⟩
 have hbad:verC s=true→K (.int .i64 (-1)) []:=fun e=>h _ (by rw [ver_bad1 e];rfl)
 have hbad2:allB digB (s.drop 1)=false→K (.int .i64 (-1)) []:=fun e=>h _ (by rw [ver_bad2 e];rfl)
 have hC:∀ b,b=verC s→b=verC s:=fun _ e=>e
 unfold verC at hC
 have hgo:verC s=false→FF→True:=fun _ _=>trivial
 cbv
 repeat' (first|apply And.intro|exact fun (_:FF)=>by kernel_rfl|(intro h2;cbv)|apply Or.inl)
 any_goals first|exact hi0 (by assumption)|exact hi1 (by assumption)
 all_goals try (refine hbad ?_;obtain rfl:=X.a;clear hbad hbad2 hC hgo h hi0 hi1;unfold verC;simp only [Std_sget0,Std_sget1,SD,bNot] at* <;>simp_all<;>omega)
 all_goals (
  have hver:verC s=false:=by
   obtain rfl:=X.a
   clear hbad hbad2 hC hgo h hi0 hi1
   unfold verC
   simp only [Std_sget0,Std_sget1,SD,bNot] at* <;>simp_all<;>omega
  have h24:=verC_len hver
  clear hbad hC hgo hi0 hi1
  refine X.loop (fun (y:Nat×Int)=>⟨[(4,.int .i64 y.1),(3,.int .i64 y.2),(0,.str s)],[]⟩)
   (fun y=>1≤y.1∧y.1≤n∧allB digB ((s.take y.1).drop 1)=true∧0≤y.2∧y.2<Int.ofNat (10 ^ (y.1-1))) (fun y=>n-y.1) (1,0) ⟨Nat.le_refl _,by omega,by simp [allB],Int.le_refl _,by decide⟩ ?_ ?_
  ·(cbv;repeat' apply And.intro);all_goals try first|trivial|rfl|(rw [X.a];rfl)
  rintro ⟨i,z⟩ ⟨h0,hi,ha,hz0,hz1⟩
  simp only at h0 hi ha hz0 hz1
  cbv
  refine ⟨fun h1=> ?_,fun h1=> ?_⟩
  ·have h5:i<s.length:=by obtain rfl:=X.a;simp only [SD,bNot] at h1 hlen;omega
   have hid:A.idx (Int.ofNat i) (A.slen s):=by rw [hlen,X.a,hn];exact ⟨Int.natCast_nonneg _,Int.ofNat_lt.2 h5⟩
   have hin:A.inr .i64 (A.add (Int.ofNat i) 1):=by rw [X.a];exact leaf_inc h5 (by omega)
   have hget:=sget_at X.a h5
   have hneg:=negA X.a
   have hp:(10 ^ (i-1):Nat)≤1000:=Nat.le_trans (Nat.pow_le_pow_right (by decide) (by omega:i-1≤3)) (by decide)
   have hps:(10 ^ i:Nat)=10*10 ^ (i-1):=by rw [show i=(i-1)+1 by omega,Nat.pow_succ];simp;omega
   obtain ⟨p,hpp⟩:∃ p:Nat,p=10 ^ (i-1):=⟨_,rfl⟩
   obtain ⟨p',hpp'⟩:∃ p':Nat,p'=10 ^ i:=⟨_,rfl⟩
   rw [← hpp] at hp hps hz1
   rw [← hpp'] at hps
   clear hpp
   have hz9:=lt_1000 hz1 hp
   cbv
   repeat' (first|apply And.intro|exact fun (_:FF)=>by kernel_rfl|(intro h2;cbv)|apply Or.inl)
   all_goals (try exact hid)
   refine X.call (F247 fun b hb=> ?_)
   have hb:b=digB (A.sget s (Int.ofNat i)):=hb
   have hb0:=hb
   rw [hget] at hb
   have e1:A.sub (A.sget s (Int.ofNat i)) 48=A.sget s (Int.ofNat i)-48:=by rw [X.a];rfl
   have e2:A.mul 10 z=10*z:=by rw [X.a];rfl
   have e3:A.add (A.mul 10 z) (A.sub (A.sget s (Int.ofNat i)) 48)=10*z+(A.sget s (Int.ofNat i)-48):=by rw [e1,e2,X.a];rfl
   have hd:A.not b=false→digB (A.sget s (Int.ofNat i))=true:=by rw [hneg,hb0];simp
   have hd2:A.not b=false→48≤A.sget s (Int.ofNat i)∧A.sget s (Int.ofNat i)≤57:=by
    intro e;have hd:=hd e;unfold digB at hd;simpa using hd
   have r1:A.not b=false→A.inr .u8 (A.sub (A.sget s (Int.ofNat i)) 48):=by
    intro e;have hd2:=hd2 e;rw [e1];exact inr_of X.a ⟨by show (0:Int)≤_;omega,by show _≤(255:Int);omega⟩
   have r2:A.not b=false→A.inr .i64 (A.mul 10 z):=by intro e;rw [e2];exact inr64_of X.a (by omega)
   have r3:A.not b=false→A.inr .i64 (A.sub (A.sget s (Int.ofNat i)) 48):=by intro e;have hd2:=hd2 e;rw [e1];exact inr64_of X.a (by omega)
   have r4:A.not b=false→A.inr .i64 (A.add (A.mul 10 z) (A.sub (A.sget s (Int.ofNat i)) 48)):=by intro e;have hd2:=hd2 e;rw [e3];exact inr64_of X.a (by omega)
   have q:A.not b=false→allB digB ((s.take (i+1)).drop 1)=true∧0≤A.add (A.mul 10 z) (A.sub (A.sget s (Int.ofNat i)) 48)∧A.add (A.mul 10 z) (A.sub (A.sget s (Int.ofNat i)) 48)<Int.ofNat (10 ^ (i+1-1)):=by
    intro e
    have hd:=hd e
    have hd2:=hd2 e
    refine ⟨?_,by rw [e3];omega,by rw [e3,Nat.add_sub_cancel,←hpp'];exact step_10 hz1 hps (by omega)⟩
    rw [take_snoc h5,List.drop_append_of_le_length (by simp;omega),allB,List.all_append,Bool.and_eq_true]
    exact ⟨ha,by rw [hget] at hd;simpa using hd⟩
   have qb:A.not b=true→allB digB (s.drop 1)=false:=by
    intro e;rw [hneg] at e
    exact dig_false h0 h5 (by rw [← hb];simpa using e)
   clear hpp' e1 e2 e3 hd hd2
   cbv
   repeat' (first|apply And.intro|exact fun (_:FF)=>by kernel_rfl|(intro h2;cbv)|apply Or.inl)
   all_goals (try first|exact hid|exact hin|exact r1 (by assumption)|exact r2 (by assumption)|exact r3 (by assumption)|exact r4 (by assumption)|exact hbad2 (qb (by assumption)))
   refine ⟨(i+1,_),⟨?_,?_,q (by assumption)⟩,?_,?_⟩
   ·exact Nat.le_add_left 1 i
   ·exact Nat.lt_of_lt_of_eq h5 hn.symm
   ·show n-(i+1)<n-i;omega
   (cbv;repeat' apply And.intro);all_goals try first|trivial|rfl|(rw [X.a];rfl)
  ·have h5:i=n:=by obtain rfl:=X.a;simp only [SD,bNot] at h1 hlen;omega
   rw [h5,hn,List.take_length] at ha
   have q:=h z (by rw [ver_ok hver ha];simp;omega)
   cbv
   exact q)
theorem F225 {s:S} (hs:s.length≤4294967200) {K:PV→List Ob→Prop} (h:∀ n e,e=majE s→K (.tup [.int .i64 n,.int .i64 e]) []):FC Tryz.prog tt 225 [] [.str s] K:=by
 have hne:=segs_ne s
 have hsl:=segs_len s
 have hgl:(segs s).getLast?.getD []=(segs s)[(segs s).length-1]'(by have:=List.length_pos_iff.2 hne;omega):=by
  rw [List.getLast?_eq_getElem?,List.getElem?_eq_getElem (by have:=List.length_pos_iff.2 hne;omega)];rfl
 obtain ⟨l,hl⟩:∃ l,l=segs s:=⟨_,rfl⟩
 have hpos:0<l.length:=by rw [hl];exact List.length_pos_iff.2 hne
 have hgl:(segs s).getLast?.getD []=l[l.length-1]'(by omega):=by rw [hgl];simp only [hl]
 rw [← hl] at hsl
 have hmaj:majE s=if verB (l[l.length-1]'(by omega))&&decide (s.length≤64)&&decide (2≤l.length)&&l.all segB then 0 else 4:=by
  unfold majE;rw [hgl,←hl]
 have hbad1:(64:Int)<(s.length:Int)→4=majE s:=fun e=>by
  rw [hmaj,decide_eq_false (by omega:¬s.length≤64)];simp
 have hbad2:∀ i (hi:i<l.length),segB l[i]=false→4=majE s:=fun i hi e=>by
  rw [hmaj,all_false hi e];simp
 have hbad3:verB (l[l.length-1]'(by omega))=false→4=majE s:=fun e=>by rw [hmaj,e];simp
 have hbad4:((l.length:Nat):Int)<2→4=majE s:=fun e=>by
  rw [hmaj,decide_eq_false (by omega:¬2≤l.length)];simp
 have hok:¬(64:Int)<(s.length:Int)→(∀ x∈l,segB x=true)→verB (l[l.length-1]'(by omega))=true→¬((l.length:Nat):Int)<2→0=majE s:=fun a b c d=>by
  rw [hmaj,c,List.all_eq_true.2 b,decide_eq_true (by omega:s.length≤64),decide_eq_true (by omega:2≤l.length)];rfl
 clear hmaj
 refine FC.enter (G:=g225) tt_ok mixed ⟨Tryz.func225,by rfl,rfl⟩ rfl rfl rfl ?_
 intro A C L X
 have hneg:=negA X.a
 have hlt:=ltA X.a
 have hslen:A.slen s=(s.length:Int):=by rw [X.a];rfl
 cbv
 repeat' (first|apply And.intro|exact fun (_:FF)=>by kernel_rfl|(intro h2;cbv)|apply Or.inl)
 ·have h2:A.lt 64 (A.slen s)=true:=h2
  rw [hlt,hslen] at h2
  exact h _ _ (hbad1 (of_decide_eq_true h2))
 have h64:A.lt 64 (A.slen s)=false:=by assumption
 rw [hlt,hslen] at h64
 have h64:=of_decide_eq_false h64
 refine X.call (F244 hs fun d hd=> ?_)
 rw [← hl] at hd
 obtain ⟨n_d,hn_d,hlen_d⟩:=lenOf hd
 cbv
 refine X.loop (fun (i:Nat)=>⟨[(5,.int .i64 i),(4,.lst 9 d)],[]⟩)
  (fun i=>i≤n_d∧∀ x∈l.take i,segB x=true) (fun i=>n_d-i) 0 ⟨Nat.zero_le _,by simp⟩ ?_ ?_
 ·(cbv;repeat' apply And.intro);all_goals try first|trivial|rfl|(rw [X.a];rfl)
 rintro i ⟨hi,ha⟩
 cbv
 refine ⟨fun h1=> ?_,fun h1=> ?_⟩
 ·have h5:i<l.length:=by obtain rfl:=X.a;simp only [hlen_d,SD,bNot] at h1;omega
  have k1:=strAt X.a hd h5
  have hid:A.idx (Int.ofNat i) (A.len d):=by rw [X.a,hd];exact leaf_idx h5
  have hin:A.inr .i64 (A.add (Int.ofNat i) 1):=by rw [X.a];exact leaf_inc h5 (by omega)
  have hxl:(A.asStr (A.cell d (Int.ofNat i) 0)).length≤s.length:=by rw [k1];exact hsl.2 _ (List.getElem_mem h5)
  cbv
  repeat' (first|apply And.intro|exact fun (_:FF)=>by kernel_rfl|(intro h2;cbv)|apply Or.inl)
  any_goals exact hid
  refine X.call (F245 (Nat.le_trans hxl (by omega)) fun b hb=> ?_)
  have hb:b=segB (A.asStr (A.cell d (Int.ofNat i) 0)):=hb
  rw [k1] at hb
  cbv
  repeat' (first|apply And.intro|exact fun (_:FF)=>by kernel_rfl|(intro h2;cbv)|apply Or.inl)
  any_goals exact hin
  ·have h2:A.not b=true:=by assumption
   rw [hneg] at h2
   exact h _ _ (hbad2 i h5 (by rw [← hb];simpa using h2))
  ·have h2:A.not b=false:=by assumption
   rw [hneg] at h2
   refine ⟨i+1,⟨by omega,?_⟩,by omega,?_⟩
   ·rw [take_succ' h5];intro y hy
    rcases List.mem_append.1 hy with hy|hy
    ·exact ha y hy
    ·simp at hy;subst hy;rw [← hb];simpa using h2
   (cbv;repeat' apply And.intro);all_goals try first|trivial|rfl|(rw [X.a];rfl)
 ·have h5:i=n_d:=by obtain rfl:=X.a;simp only [hlen_d,SD,bNot] at h1;omega
  rw [h5,hn_d,List.take_length] at ha
  clear h1 h5
  have hlen_d:A.len d=Int.ofNat n_d:=by rw [X.a];exact hlen_d
  have hm1:A.sub (A.len d) 1=Int.ofNat (l.length-1):=by rw [hlen_d,X.a,Std_sub,hn_d];simp only [Int.ofNat_eq_natCast];omega
  have hin1:A.inr .i64 (A.sub (A.len d) 1):=by rw [hm1,X.a,Std_inr64];simp only [Int.ofNat_eq_natCast];omega
  have hid1:A.idx (A.sub (A.len d) 1) (A.len d):=by rw [hm1,X.a,hd];exact leaf_idx (by omega)
  have hlst:A.asStr (A.cell d (A.sub (A.len d) 1) 0)=l[l.length-1]'(by omega):=by rw [hm1,strAt X.a hd (by omega)]
  have hll:(A.asStr (A.cell d (A.sub (A.len d) 1) 0)).length≤s.length:=by rw [hlst];exact hsl.2 _ (List.getElem_mem _)
  cbv
  repeat' (first|apply And.intro|exact fun (_:FF)=>by kernel_rfl|(intro h2;cbv)|apply Or.inl)
  any_goals first|exact hin1|exact hid1
  refine X.call (F246 (Nat.le_trans hll hs) fun n hnv=> ?_)
  have hnv:decide (n<0)= !verB (A.asStr (A.cell d (A.sub (A.len d) 1) 0)):=hnv
  rw [hlst] at hnv
  have e1:A.lt (A.len d) 2=true→((l.length:Nat):Int)<2:=by rw [hlt,hlen_d,hn_d];exact fun e=>of_decide_eq_true e
  have e1':A.lt (A.len d) 2=false→¬((l.length:Nat):Int)<2:=by rw [hlt,hlen_d,hn_d];exact fun e=>of_decide_eq_false e
  have e2:A.lt n 0=true→verB (l[l.length-1]'(by omega))=false:=by rw [hlt,hnv];simp
  have e2':A.lt n 0=false→verB (l[l.length-1]'(by omega))=true:=by rw [hlt,hnv];simp
  cbv
  repeat' (first|apply And.intro|exact fun (_:FF)=>by kernel_rfl|(intro h2;cbv)|apply Or.inl)
  all_goals first
   |exact h _ _ (hbad4 (e1 (by assumption)))
   |exact h _ _ (hbad3 (e2 (by assumption)))
   |exact h _ _ (hok h64 ha (e2' (by assumption)) (e1' (by assumption)))
theorem F206 {s:S} (hs:s.length≤4294967200) {K:PV→List Ob→Prop} (h:∀ b,b=pathB s→K (.bool b) []):FC Tryz.prog tt 206 [] [.str s] K:=by
 refine FC.enter (G:=g206) tt_ok mixed ⟨Tryz.func206,by rfl,rfl⟩ rfl rfl rfl ?_
 intro A C L X
 cbv
 refine X.call (F225 hs fun n e he=> ?_)
 cbv
 exact h _ (by rw [pathB,←he];obtain rfl:=X.a;rfl)
end Go.VC.T07
end

section
namespace Go.VC
def preB (t:Ty):Bool:=decide (0≤t.k)&&decide (t.k≤10)&&(t.k==10||(decide (Int.ofNat t.ar.length=if t.k==5||t.k==8 then 1 else 0)&&t.m==[]))&&((t.k==6||t.k==7||t.k==8)|| !decide (0<Int.ofNat t.fl.length))&&(t.k==10||t.k==9||t.n==[])
theorem shaped_pre (t:Ty):shapedB t=(!(t.k != 8&&t.fl.any Fe.b)&&preB t):=by
 have hk:t.k<0∨10<t.k∨t.k=0∨t.k=1∨t.k=2∨t.k=3∨t.k=4∨t.k=5∨t.k=6∨t.k=7∨t.k=8∨t.k=9∨t.k=10:=by omega
 have hz:∀ l:List Fe,(!decide (0<Int.ofNat l.length))=decide (l.length=0):=fun l=>by cases l<;>simp
 have ha:∀ n:Nat,((n:Int)=0)=(n=0)∧((n:Int)=1)=(n=1):=fun n=>⟨by apply propext;omega,by apply propext;omega⟩
 unfold shapedB preB
 rw [hz]
 generalize (t.m==[])=bm
 generalize (t.n==[])=bn
 generalize t.fl.any Fe.b=bf
 generalize t.ar.length=na
 generalize t.fl.length=nf
 generalize t.k=k at hk
 rcases hk with h|h|rfl|rfl|rfl|rfl|rfl|rfl|rfl|rfl|rfl|rfl|rfl
 ·have e:∀ j:Int,0≤j→¬k=j:=fun j hj=>by omega
  simp [e,h];intro _;omega
 ·have e:∀ j:Int,j≤10→¬k=j:=fun j hj=>by omega
  simp [e,h];intro _;omega
 all_goals simp [(ha na).1,(ha na).2]<;>cases bf<;>cases bm<;>cases bn<;>simp
def nbE (a b:S):Int:=if a=b then 5 else if slt b a then 1 else 0
theorem tn_pre {t:Ty} (h:preB t=false):1=tnE t:=by unfold tnE;rw [shaped_pre,h];simp
theorem tn_opt {t:Ty} (h:(t.k != 8&&t.fl.any Fe.b)=true):1=tnE t:=by unfold tnE;rw [shaped_pre,h];simp
theorem sh_ok {t:Ty} (h:preB t=true) (h2:(t.k != 8&&t.fl.any Fe.b)=false):shapedB t=true:=by rw [shaped_pre,h,h2];rfl
theorem tn_big {t:Ty} (hs:shapedB t=true) (h:32<t.fl.length∨8<t.ar.length):7=tnE t:=by unfold tnE;rw [hs,if_pos h];simp
theorem pre_ar {t:Ty} (h:preB t=true) (hk:t.k≠10):t.ar.length≤1:=by
 unfold preB at h
 simp only [Bool.and_eq_true,Bool.or_eq_true,beq_iff_eq,decide_eq_true_eq,hk,false_or] at h
 have:=h.1.1.2.1
 simp only [Int.ofNat_eq_natCast] at this
 split at this<;>omega
theorem tn_name {t:Ty} (hs:shapedB t=true) (h:¬(32<t.fl.length∨8<t.ar.length)) (h4:(t.k=9∧varB t.n=false)∨(t.k=10∧(modB t.m=false∨typeB t.n=false))):4=tnE t:=by unfold tnE;rw [hs,if_neg h,if_pos h4];simp
theorem tn_fld {t:Ty} (hs:shapedB t=true) (h:¬(32<t.fl.length∨8<t.ar.length)) {i:Nat} (hi:i<t.fl.length) (hn:nameB t.fl[i].s=false):4=tnE t:=by
 have:t.fl.any (fun f=> !nameB f.s)=true:=List.any_eq_true.2 ⟨_,List.getElem_mem hi,by simp [hn]⟩
 unfold tnE;rw [hs,if_neg h,this];simp
theorem tn_inc {t:Ty} (hs:shapedB t=true) (h:¬(32<t.fl.length∨8<t.ar.length)) (h4:¬((t.k=9∧varB t.n=false)∨(t.k=10∧(modB t.m=false∨typeB t.n=false)))) (hn:∀ f∈t.fl,nameB f.s=true):tnE t=incE (t.fl.map Fe.s):=by
 have:t.fl.any (fun f=> !nameB f.s)=false:=List.any_eq_false.2 fun f hf=>by simp [hn f hf]
 unfold tnE;rw [hs,if_neg h,if_neg h4,this];simp
end Go.VC
namespace Go.VC.T07
open Go Go.VC Go.Proofs
theorem F160 {s:S} (hs:s.length≤4294967295) {K:PV→List Ob→Prop} (h:∀ b,b=varB s→K (.bool b) []):FC Tryz.prog tt 160 [] [.str s] K:=by
 refine FC.enter (G:=g160) tt_ok mixed ⟨Tryz.func160,by rfl,rfl⟩ rfl rfl rfl ?_
 intro A C L X
 have hp:A.eq (A.slen s) 2=true→A.idx 0 (A.slen s)∧A.idx 1 (A.slen s):=by
  rw [X.a];intro e
  have e:(s.length:Int)=2:=eq_of_beq e
  exact ⟨⟨Int.le_refl 0,by rw [Std_slen];omega⟩,⟨by decide,by rw [Std_slen];omega⟩⟩
 cbv
 refine X.call (F162 hs fun b1 hb1=> ?_)
 cbv
 repeat' (first|apply And.intro|exact fun (_:FF)=>by kernel_rfl|(intro h2;cbv)|apply Or.inl)
 any_goals first|exact (hp (by assumption)).1|exact (hp (by assumption)).2
 all_goals (refine h _ ?_;obtain rfl:=X.a;clear hp;unfold varB;rw [← hb1,dec_of];(try simp only [Std_sget0,Std_sget1,SD,bNot] at *)<;>simp_all<;>(intros;omega))
theorem F161 {s:S} (hs:s.length≤4294967200) {K:PV→List Ob→Prop} (h:∀ b,b=modB s→K (.bool b) []):FC Tryz.prog tt 161 [] [.str s] K:=by
 refine FC.enter (G:=g161) tt_ok mixed ⟨Tryz.func161,by rfl,rfl⟩ rfl rfl rfl ?_
 intro A C L X
 have hs2:s.length≤4294967295:=by omega
 cbv
 repeat' (first|apply And.intro|exact fun (_:FF)=>by kernel_rfl|(intro h2;cbv)|apply Or.inl|(refine X.call (F163 hs2 fun b1 hb1=> ?_);cbv)|(refine X.call (F206 hs fun b2 hb2=> ?_);cbv))
 all_goals (refine h _ ?_;obtain rfl:=X.a;unfold modB;(try simp only [SD,bNot] at *);simp_all)
theorem F164 {a b:S} {K:PV→List Ob→Prop} (h:∀ r:Int,r=nbE a b→K (.int .i64 r) []):FC Tryz.prog tt 164 [] [.str a,.str b] K:=by
 refine FC.enter (G:=g164) tt_ok mixed ⟨Tryz.func164,by rfl,rfl⟩ rfl rfl rfl ?_
 intro A C L X
 have q5:A.seq a b=true→5=nbE a b:=by rw [X.a];intro e;unfold nbE;rw [if_pos (eq_of_beq e)]
 have q1:A.seq a b=false→A.slt b a=true→1=nbE a b:=by rw [X.a];intro e e2;unfold nbE;rw [if_neg (beq_eq_false_iff_ne.1 e)];exact (if_pos e2).symm
 have q0:A.seq a b=false→A.slt b a=false→0=nbE a b:=by rw [X.a];intro e e2;unfold nbE;rw [if_neg (beq_eq_false_iff_ne.1 e)];exact (if_neg (fun e3=>Bool.noConfusion (e3.symm.trans e2))).symm
 cbv
 repeat' (first|apply And.intro|exact fun (_:FF)=>by kernel_rfl|(intro h2;cbv)|apply Or.inl)
 ·exact h _ (q5 (by assumption))
 ·exact h _ (q1 (by assumption) (by assumption))
 ·exact h _ (q0 (by assumption) (by assumption))
end Go.VC.T07
end

section
namespace Go.VC
theorem pre_std (t:Ty):preB t=(!Std.lt t.k 0&& !Std.lt 10 t.k&&(Std.eq t.k 10||(Std.eq (Int.ofNat t.ar.length) (if Std.eq t.k 5||Std.eq t.k 8 then 1 else 0)&&Std.seq t.m []))&&((Std.eq t.k 6||Std.eq t.k 7||Std.eq t.k 8)|| !Std.lt 0 (Int.ofNat t.fl.length))&&(Std.eq t.k 10||Std.eq t.k 9||Std.seq t.n [])):=by
 have h1:(!Std.lt t.k 0)=decide (0≤t.k):=by
  show (!decide (t.k<0))=_
  by_cases h:t.k<0
  ·simp [h]
  ·simp [h];omega
 have h2:(!Std.lt 10 t.k)=decide (t.k≤10):=by
  show (!decide (10<t.k))=_
  by_cases h:10<t.k
  ·simp [h]
  ·simp [h];omega
 have h3:∀ a b:Int,decide (a=b)=Std.eq a b:=fun a b=>by
  show _=(a==b)
  by_cases e:a=b<;>simp [e]
 rw [h1,h2]
 unfold preB
 rw [h3]
 rfl
theorem incE_all {l:List S} {i:Nat} (h:incE l=incE (l.drop (i-1))) (hi:l.length≤i):incE l=0:=by
 rw [h]
 cases hl:l.drop (i-1) with
 |nil=>rfl
 |cons x m=>
  cases m with
  |nil=>rfl
  |cons y k=>have:=congrArg List.length hl;simp at this;omega
end Go.VC
namespace Go.VC.T07
open Go Go.VC Go.Proofs
theorem F109 {t:Ty} (hle:Ty.le 4294967295 t) (hn:t.nod) {c0:Int} {c1 c2:S} {c3 c4:D} {K:PV→List Ob→Prop} (ht:tyIs t c0 c1 c2 c3 c4) (h:∀ e,e=tnE t→K (.int .i64 e) []):FC Tryz.prog tt 109 [] [tyPV c0 c1 c2 c3 c4] K:=by
 obtain ⟨t0,t1,t2,hc3,hc4⟩:=ht
 have hfl:t.fl.length≤4294967295:=by cases hle;assumption
 have hl1:c1.length≤4294967200:=by rw [t1];exact Nat.le_trans hn.m (by decide)
 have hl2:c2.length≤4294967295:=by rw [t2];exact Nat.le_trans hn.n (by decide)
 refine FC.enter (G:=g109) tt_ok mixed ⟨Tryz.func109,by rfl,rfl⟩ rfl rfl rfl ?_
 intro A C L X
 have l3:A.len c3=Int.ofNat t.ar.length:=lenIs X.a hc3
 have l4:A.len c4=Int.ofNat t.fl.length:=lenIs X.a hc4
 have heq:=eqA X.a
 cases e5:A.eq c0 5<;>cases e8:A.eq c0 8<;>cases e6:A.eq c0 6<;>cases e7:A.eq c0 7<;>cases e10:A.eq c0 10<;>cases e9:A.eq c0 9
 all_goals (
  have k5:=e5
  have k8:=e8
  have k6:=e6
  have k7:=e7
  have k10:=e10
  have k9:=e9
  rw [heq] at k5 k8 k6 k7 k10 k9
  try (exfalso;simp only [beq_iff_eq,beq_eq_false_iff_ne] at k5 k8 k6 k7 k10 k9;omega))
 all_goals (
  have hneg:=negA X.a
  have m10:=(hneg (A.eq c0 10)).trans (congrArg Bool.not e10)
  have m9:=(hneg (A.eq c0 9)).trans (congrArg Bool.not e9)
  have hp:preB t=(!A.lt c0 0&& !A.lt 10 c0&&(A.eq c0 10||(A.eq (A.len c3) (if A.eq c0 5||A.eq c0 8 then 1 else 0)&&A.seq c1 []))&&((A.eq c0 6||A.eq c0 7||A.eq c0 8)|| !A.lt 0 (A.len c4))&&(A.eq c0 10||A.eq c0 9||A.seq c2 [])):=by
   rw [l3,l4,t0,t1,t2,X.a];exact pre_std t
  rw [e5,e8,e6,e7,e10,e9] at hp
  simp only [Bool.or_false,Bool.false_or,Bool.or_true,Bool.true_or,Bool.and_true,if_true,Bool.false_eq_true,if_false] at hp
  have hK:preB t=false→K (.int .i64 1) []:=fun e=>h _ (tn_pre e)
  cbv
  repeat' (first|apply And.intro|exact fun (_:FF)=>by kernel_rfl|(intro h2;first|exact absurd ((e5).symm.trans h2) (by decide)|exact absurd ((e8).symm.trans h2) (by decide)|exact absurd ((e6).symm.trans h2) (by decide)|exact absurd ((e7).symm.trans h2) (by decide)|exact absurd ((e10).symm.trans h2) (by decide)|exact absurd ((e9).symm.trans h2) (by decide)|exact absurd ((m10).symm.trans h2) (by decide)|exact absurd ((m9).symm.trans h2) (by decide)|cbv)|apply Or.inl)
  all_goals simp only [hneg,Bool.not_eq_true',Bool.not_eq_false',bNot,cond_true,cond_false] at*
  all_goals try exact hK (by rw [hp];clear hp hK t0 t1 t2 hc3 hc4 l3 l4 heq hneg k5 k8 k6 k7 k10 k9;simp [*]))
 all_goals (
  have hneg:=negA X.a
  have hpt:preB t=true:=by rw [hp];clear hp hK t0 t1 t2 hc3 hc4 l3 l4 heq hneg k5 k8 k6 k7 k10 k9;simp [*]
  clear hp hK
  have hb1:A.lt 32 (A.len c4)=decide (32<t.fl.length):=by rw [l4,X.a,Std_lt];exact decide_eq_decide.2 (by simp only [Int.ofNat_eq_natCast];omega)
  have hb2:A.lt 8 (A.len c3)=decide (8<t.ar.length):=by rw [l3,X.a,Std_lt];exact decide_eq_decide.2 (by simp only [Int.ofNat_eq_natCast];omega)
  obtain ⟨n_c4,hn_c4,hlen_c4⟩:=lenOf hc4
  refine X.loop (fun (i:Nat)=>⟨[(5,.int .i64 i),(1,.box 0 0)],[.box [.int .i64 c0,.str c1,.str c2,.lst 28 c3,.lst 65 c4]]⟩)
   (fun i=>i≤n_c4∧∀ f∈t.fl.take i,(t.k != 8&&f.b)=false) (fun i=>n_c4-i) 0 ⟨Nat.zero_le _,by simp⟩ ?_ ?_
  ·(cbv;repeat' apply And.intro);all_goals try first|trivial|rfl|(rw [X.a];rfl)
  rintro i ⟨hi,ha⟩
  cbv
  refine ⟨fun h1=> ?_,fun h1=> ?_⟩
  ·have h5:i<t.fl.length:=by obtain rfl:=X.a;simp only [hlen_c4,SD,bNot] at h1;omega
   have kb:=(fdAt X.a hc4 h5).2
   have hid:A.idx (Int.ofNat i) (A.len c4):=by rw [X.a,hc4];exact leaf_idx h5
   have hin:A.inr .i64 (A.add (Int.ofNat i) 1):=by rw [X.a];exact leaf_inc h5 (by omega)
   have m8:=(hneg (A.eq c0 8)).trans (congrArg Bool.not e8)
   have hn8:(t.k != 8)= !(A.eq c0 8):=by rw [← t0,heq];rfl
   have hbad:A.asBool (A.cell c4 (Int.ofNat i) 6)=true→A.eq c0 8=false→K (.int .i64 1) []:=fun e e'=>h _ (tn_opt (by
    rw [hn8,e']
    exact List.any_eq_true.2 ⟨_,List.getElem_mem h5,kb▸e⟩))
   have hgo:(t.k != 8&&(t.fl[i]).b)=false→∀ f∈t.fl.take (i+1),(t.k != 8&&f.b)=false:=by
    intro e f hf
    rw [take_succ' h5] at hf
    rcases List.mem_append.1 hf with hf|hf
    ·exact ha f hf
    ·simp at hf;subst hf;exact e
   rw [← kb] at hgo
   have hgo1:=fun e:A.asBool (A.cell c4 (Int.ofNat i) 6)=false=>hgo (by rw [e,Bool.and_false])
   have hgo2:=fun e:A.eq c0 8=true=>hgo (by rw [hn8,e];rfl)
   clear hgo
   cbv
   repeat' (first|apply And.intro|exact fun (_:FF)=>by kernel_rfl|(intro h2;first|exact absurd ((m8).symm.trans h2) (by decide)|cbv)|apply Or.inl)
   all_goals (try first|exact hid|exact hin)
   all_goals first
    |exact hbad (by assumption) e8
    |(refine ⟨i+1,⟨by omega,by first|exact hgo1 (by assumption)|exact hgo2 e8⟩,by omega,?_⟩;(cbv;repeat' apply And.intro);all_goals try first|trivial|rfl|(rw [X.a];rfl))
  have h5:i=n_c4:=by obtain rfl:=X.a;simp only [hlen_c4,SD,bNot] at h1;omega
  rw [h5,hn_c4,List.take_length] at ha
  have hany:(t.k != 8&&t.fl.any Fe.b)=false:=by
   cases h8:(t.k != 8) with
   |false=>rfl
   |true=>
    rw [Bool.true_and,List.any_eq_false]
    intro f hf;have:=ha f hf;rw [h8] at this;simpa using this
  have hsh:=sh_ok hpt hany
  clear ha h1 h5 hany
  have hbig:32<t.fl.length∨8<t.ar.length→K (.int .i64 7) []:=fun e=>h _ (tn_big hsh e)
  have hnb:A.lt 32 (A.len c4)=false→(A.eq c0 10=true→A.lt 8 (A.len c3)=false)→¬(32<t.fl.length∨8<t.ar.length):=by
   rw [hb1,hb2,heq]
   intro a b
   rintro (e|e)
   ·exact of_decide_eq_false a e
   ·by_cases k:t.k=10
    ·exact of_decide_eq_false (b (by rw [t0,k];rfl)) e
    ·have:=pre_ar hpt k;omega
  rw [e10] at hnb
  have h4:¬(32<t.fl.length∨8<t.ar.length)→(t.k=9∧varB t.n=false)∨(t.k=10∧(modB t.m=false∨typeB t.n=false))→K (.int .i64 4) []:=fun a b=>h _ (tn_name hsh a b)
  rw [← t1,←t2] at h4
  have kk9:t.k=9↔A.eq c0 9=true:=by rw [heq,t0];simp
  have kk10:t.k=10↔A.eq c0 10=true:=by rw [heq,t0];simp
  rw [e9] at kk9
  rw [e10] at kk10
  cbv
  repeat' (first|apply And.intro|exact fun (_:FF)=>by kernel_rfl|(intro h2;first|exact absurd ((e10).symm.trans h2) (by decide)|exact absurd ((e9).symm.trans h2) (by decide)|cbv)|apply Or.inl|(refine X.call (F160 hl2 fun b hb=> ?_);cbv)|(refine X.call (F161 hl1 fun b hb=> ?_);cbv)|(refine X.call (F162 hl2 fun b hb=> ?_);cbv)))
 all_goals (
  have hneg:=negA X.a
  first
   |exact hbig (.inl (of_decide_eq_true (hb1.symm.trans (by assumption))))
   |exact hbig (.inr (of_decide_eq_true (hb2.symm.trans (by assumption))))
   |(refine h4 (hnb (by assumption) (by first|(intro e;cases e;done)|(intro _;assumption))) ?_
     simp only [hneg,Bool.not_eq_true',Bool.not_eq_false',bNot,cond_true,cond_false] at*
     clear hbig hnb h4
     simp_all
     done)
   |skip)
 all_goals (
  have hnb:=hnb (by assumption) (by first|(intro e;cases e;done)|(intro _;assumption))
  have hn4:¬((t.k=9∧varB t.n=false)∨(t.k=10∧(modB t.m=false∨typeB t.n=false))):=by
   rw [← t1,←t2]
   simp only [hneg,Bool.not_eq_true',Bool.not_eq_false',bNot,cond_true,cond_false] at*
   clear hbig hnb h4 t0 t1 t2 hc3 hc4 l3 l4
   simp_all
  clear h4 hbig kk9 kk10
  have hfb:∀ i (hi:i<t.fl.length),nameB (t.fl[i]).s=false→K (.int .i64 4) []:=fun i hi e=>h _ (tn_fld hsh hnb hi e)
  have hfin:(∀ f∈t.fl,nameB f.s=true)→∀ r,r=incE (t.fl.map Fe.s)→K (.int .i64 r) []:=fun e r hr=>h _ (by rw [tn_inc hsh hnb hn4 e,hr])
  refine X.loop (fun (i:Nat)=>⟨[(6,.int .i64 i),(1,.box 0 0)],[.box [.int .i64 c0,.str c1,.str c2,.lst 28 c3,.lst 65 c4]]⟩)
   (fun i=>i≤n_c4∧∀ f∈t.fl.take i,nameB f.s=true) (fun i=>n_c4-i) 0 ⟨Nat.zero_le _,by simp⟩ ?_ ?_
  ·(cbv;repeat' apply And.intro);all_goals try first|trivial|rfl|(rw [X.a];rfl)
  rintro i ⟨hi,ha⟩
  cbv
  refine ⟨fun h1=> ?_,fun h1=> ?_⟩
  ·have h5:i<t.fl.length:=by obtain rfl:=X.a;simp only [hlen_c4,SD,bNot] at h1;omega
   have kb:=(fdAt X.a hc4 h5).1
   have hid:A.idx (Int.ofNat i) (A.len c4):=by rw [X.a,hc4];exact leaf_idx h5
   have hin:A.inr .i64 (A.add (Int.ofNat i) 1):=by rw [X.a];exact leaf_inc h5 (by omega)
   have hsl:(A.asStr (A.cell c4 (Int.ofNat i) 0)).length≤4294967295:=by rw [kb];exact Nat.le_trans (hn.f _ (List.getElem_mem h5)) (by decide)
   cbv
   repeat' (first|apply And.intro|exact fun (_:FF)=>by kernel_rfl|(intro h2;cbv)|apply Or.inl)
   all_goals (try exact hid)
   refine X.call (F163 hsl fun b hb=> ?_)
   have hb:b=nameB (A.asStr (A.cell c4 (Int.ofNat i) 0)):=hb
   rw [kb] at hb
   have q0:A.not b=true→K (.int .i64 4) []:=fun e=>hfb i h5 (by rw [← hb];rw [hneg] at e;simpa using e)
   have q1:A.not b=false→∀ f∈t.fl.take (i+1),nameB f.s=true:=by
    intro e f hf
    rw [take_succ' h5] at hf
    rcases List.mem_append.1 hf with hf|hf
    ·exact ha f hf
    ·simp at hf;subst hf;rw [← hb];rw [hneg] at e;simpa using e
   cbv
   repeat' (first|apply And.intro|exact fun (_:FF)=>by kernel_rfl|(intro h2;cbv)|apply Or.inl)
   all_goals (try first|exact hid|exact hin)
   all_goals first
    |exact q0 (by assumption)
    |(refine ⟨i+1,⟨by omega,q1 (by assumption)⟩,by omega,?_⟩;(cbv;repeat' apply And.intro);all_goals try first|trivial|rfl|(rw [X.a];rfl))
  have h5:i=n_c4:=by obtain rfl:=X.a;simp only [hlen_c4,SD,bNot] at h1;omega
  rw [h5,hn_c4,List.take_length] at ha
  have hfin:=hfin ha
  clear ha h1 h5 hfb
  obtain ⟨ns,hns⟩:∃ ns,ns=t.fl.map Fe.s:=⟨_,rfl⟩
  have hnl:ns.length=t.fl.length:=by rw [hns,List.length_map]
  have hnget:∀ i (h:i<t.fl.length),(t.fl[i]).s=ns[i]'(by omega):=fun i h=>by simp [hns]
  rw [← hns] at hfin
  clear hns
  cbv
  refine X.loop (fun (i:Nat)=>⟨[(7,.int .i64 i),(1,.box 0 0)],[.box [.int .i64 c0,.str c1,.str c2,.lst 28 c3,.lst 65 c4]]⟩)
   (fun i=>1≤i∧(i≤n_c4∨i=1)∧incE ns=incE (ns.drop (i-1))) (fun i=>n_c4-i) 1 ⟨Nat.le_refl _,.inr rfl,rfl⟩ ?_ ?_
  ·(cbv;repeat' apply And.intro);all_goals try first|trivial|rfl|(rw [X.a];rfl)
  rintro i ⟨h1i,hi,he⟩
  cbv
  refine ⟨fun h1=> ?_,fun h1=> ?_⟩
  ·have h5:i<t.fl.length:=by obtain rfl:=X.a;simp only [hlen_c4,SD,bNot] at h1;omega
   have hm:A.sub (Int.ofNat i) 1=Int.ofNat (i-1):=by rw [X.a,Std_sub];simp only [Int.ofNat_eq_natCast];omega
   have hinm:A.inr .i64 (A.sub (Int.ofNat i) 1):=by rw [hm];exact inr64_of X.a (by simp only [Int.ofNat_eq_natCast];omega)
   have k1:=(fdAt X.a hc4 h5).1
   have k0:=(fdAt X.a hc4 (show i-1<t.fl.length by omega)).1
   rw [← hm] at k0
   have hid:A.idx (Int.ofNat i) (A.len c4):=by rw [X.a,hc4];exact leaf_idx h5
   have hid0:A.idx (A.sub (Int.ofNat i) 1) (A.len c4):=by rw [hm,X.a,hc4];exact leaf_idx (by omega)
   have hin:A.inr .i64 (A.add (Int.ofNat i) 1):=by rw [X.a];exact leaf_inc h5 (by omega)
   have hst:=incE_drop h1i (show i<ns.length by omega)
   rw [← hnget i h5,←hnget (i-1) (by omega),←k0,←k1] at hst
   cbv
   repeat' (first|apply And.intro|exact fun (_:FF)=>by kernel_rfl|(intro h2;cbv)|apply Or.inl)
   all_goals (try first|exact hinm|exact hid0|exact hid)
   refine X.call (F164 fun r hr=> ?_)
   have hr:r=nbE (A.asStr (A.cell c4 (A.sub (Int.ofNat i) 1) 0)) (A.asStr (A.cell c4 (Int.ofNat i) 0)):=hr
   unfold nbE at hr
   have q0:A.not (A.eq r 0)=true→r=incE ns:=by
    rw [hneg,heq,he,hst]
    intro e
    by_cases c1:A.asStr (A.cell c4 (A.sub (Int.ofNat i) 1) 0)=A.asStr (A.cell c4 (Int.ofNat i) 0)
    ·rw [if_pos c1] at hr ⊢;exact hr
    ·rw [if_neg c1] at hr ⊢
     split at hr
     ·rename_i c2;rw [if_pos c2];exact hr
     ·rw [hr] at e;cases e
   have q1:A.not (A.eq r 0)=false→incE ns=incE (ns.drop (i+1-1)):=by
    rw [hneg,heq,he,hst]
    intro e
    by_cases c1:A.asStr (A.cell c4 (A.sub (Int.ofNat i) 1) 0)=A.asStr (A.cell c4 (Int.ofNat i) 0)
    ·rw [if_pos c1] at hr;rw [hr] at e;cases e
    ·rw [if_neg c1] at hr ⊢
     split at hr
     ·rw [hr] at e;cases e
     ·rename_i c2;rw [if_neg c2];rfl
   cbv
   repeat' (first|apply And.intro|exact fun (_:FF)=>by kernel_rfl|(intro h2;cbv)|apply Or.inl)
   all_goals (try first|exact hin|exact hinm|exact hid0|exact hid)
   all_goals first
    |exact hfin _ (q0 (by assumption))
    |(refine ⟨i+1,⟨by omega,by omega,q1 (by assumption)⟩,by omega,?_⟩;(cbv;repeat' apply And.intro);all_goals try first|trivial|rfl|(rw [X.a];rfl))
  have h5:n_c4≤i:=by obtain rfl:=X.a;simp only [hlen_c4,SD,bNot] at h1;omega
  have q:=hfin 0 (incE_all he (by omega)).symm
  cbv
  exact q)
end Go.VC.T07
end

section
namespace Go.VC.T07
open Go Go.VC Go.Proofs
theorem F65:∀ (t:Ty),Ty.le 4294967295 t→t.size≤4294967295→∀ {c0:Int} {c1 c2:S} {c3 c4:D} {K:PV→List Ob→Prop},tyIs t c0 c1 c2 c3 c4→(∀ r:Int,r=Int.ofNat t.dep→K (.int .i64 r) [])→FC Tryz.prog tt 65 [] [tyPV c0 c1 c2 c3 c4] K:=by
 refine Ty.pinduct fun t ih=> ?_
 intro hle hs c0 c1 c2 c3 c4 K ht h
 have hdl:=dep_le t
 obtain ⟨hszs,hpl⟩:=size_pts hs
 obtain ⟨f,hf⟩:∃ f:Nat→Nat,f=fun i=>maxN ((t.pts.take i).map Ty.dep):=⟨_,rfl⟩
 have f0:f 0=0:=by rw [hf];rfl
 have fs:∀ i (h:i<t.pts.length),f (i+1)=max (f i) t.pts[i].dep:=fun i h=>by
  rw [hf];simp only;rw [take_succ' h,List.map_append,maxN_append];simp [maxN]
 have fn:t.dep=1+f t.pts.length:=by rw [dep_eq,hf];simp only;rw [List.take_length]
 clear hf
 rw [fn] at h hdl
 refine FC.enter (G:=g65) tt_ok mixed ⟨Tryz.func65,by rfl,rfl⟩ rfl rfl rfl ?_
 intro A C L X
 cbv
 refine X.call (F26 hle hpl ht fun r hr=> ?_)
 obtain ⟨n_r,hn_r,hlen_r⟩:=lenOf hr
 cbv
 refine X.loop (fun (y:Nat×Int)=>⟨[(5,.int .i64 y.1),(3,.int .i64 y.2),(4,.lst 28 r)],[]⟩)
  (fun y=>y.1≤n_r∧y.2=Int.ofNat (f y.1)) (fun y=>n_r-y.1) (0,0) ⟨Nat.zero_le _,by rw [f0];rfl⟩ ?_ ?_
 ·(cbv;repeat' apply And.intro);all_goals try first|trivial|rfl|(rw [X.a];rfl)
 rintro ⟨i,m⟩ ⟨hi,hm⟩
 simp only at hi hm
 cbv
 refine ⟨fun h1=> ?_,fun h1=> ?_⟩
 ·have h5:i<t.pts.length:=by obtain rfl:=X.a;simp only [hlen_r,SD,bNot] at h1;omega
  have k1:=tyAt X.a hr h5
  have hid:A.idx (Int.ofNat i) (A.len r):=by rw [X.a,hr];exact leaf_idx h5
  have hin:A.inr .i64 (A.add (Int.ofNat i) 1):=by rw [X.a];exact leaf_inc h5 (by omega)
  have hst:=fs i h5
  cbv
  repeat' (first|apply And.intro|exact fun (_:FF)=>by kernel_rfl|(intro h2;cbv)|apply Or.inl)
  any_goals exact hid
  refine X.call (ih _ (List.getElem_mem h5) (pts_le hle _ (List.getElem_mem h5)) (hszs _ (List.getElem_mem h5)) k1 fun z hz=> ?_)
  have q:A.max m z=Int.ofNat (f (i+1)):=by rw [X.a,Std_max',hst,hm,hz];simp only [Int.ofNat_eq_natCast];omega
  cbv
  repeat' (first|apply And.intro|exact fun (_:FF)=>by kernel_rfl|(intro h2;cbv)|apply Or.inl)
  any_goals exact hin
  refine ⟨(i+1,_),⟨?_,q⟩,?_,?_⟩
  ·simp only;omega
  ·simp only;omega
  (cbv;repeat' apply And.intro);all_goals try first|trivial|rfl|(rw [X.a];rfl)
 have h5:i=n_r:=by obtain rfl:=X.a;simp only [hlen_r,SD,bNot] at h1;omega
 rw [h5,hn_r] at hm
 have hin:A.inr .i64 (A.add m 1):=by rw [X.a,hm,Std_inr64,Std_add];simp only [Int.ofNat_eq_natCast];omega
 have q:=h (A.add m 1) (by rw [X.a,hm,Std_add];simp only [Int.ofNat_eq_natCast];omega)
 cbv
 refine .inl ⟨hin,fun _=> ?_⟩
 cbv
 exact q
theorem F66:∀ (t:Ty),Ty.le 4294967295 t→t.size≤4294967295→(∀ u∈t.all,u.nod)→∀ {c0:Int} {c1 c2:S} {c3 c4:D} {K:PV→List Ob→Prop},tyIs t c0 c1 c2 c3 c4→(∀ r:Int,r=firstE (t.all.map tnE)→K (.int .i64 r) [])→FC Tryz.prog tt 66 [] [tyPV c0 c1 c2 c3 c4] K:=by
 refine Ty.pinduct fun t ih=> ?_
 intro hle hs hn c0 c1 c2 c3 c4 K ht h
 obtain ⟨hszs,hpl⟩:=size_pts hs
 have hdef:firstE (t.all.map tnE)=if tnE t=0 then firstE ((t.pts.flatMap Ty.all).map tnE) else tnE t:=by rw [all_eq,List.map_cons,firstE_cons]
 refine FC.enter (G:=g66) tt_ok mixed ⟨Tryz.func66,by rfl,rfl⟩ rfl rfl rfl ?_
 intro A C L X
 have hneg:=negA X.a
 have heq:=eqA X.a
 cbv
 refine X.call (F109 hle (hn t (self_all t)) ht fun e0 he0=> ?_)
 rw [hdef,←he0] at h
 cbv
 repeat' (first|apply And.intro|exact fun (_:FF)=>by kernel_rfl|(intro h2;cbv)|apply Or.inl)
 ·have h2:A.not (A.eq e0 0)=true:=h2
  rw [hneg,heq] at h2
  refine h _ ?_
  rw [if_neg (by simpa using h2)]
 have h2:A.not (A.eq e0 0)=false:=h2
 rw [hneg,heq] at h2
 rw [if_pos (by simpa using h2)] at h
 refine X.call (F26 hle hpl ht fun rp hrp=> ?_)
 obtain ⟨n_rp,hn_rp,hlen_rp⟩:=lenOf hrp
 cbv
 refine X.loop (fun (i:Nat)=>⟨[(5,.int .i64 i),(4,.lst 28 rp)],[]⟩)
  (fun i=>i≤n_rp∧firstE (((t.pts.take i).flatMap Ty.all).map tnE)=0) (fun i=>n_rp-i) 0 ⟨Nat.zero_le _,rfl⟩ ?_ ?_
 ·(cbv;repeat' apply And.intro);all_goals try first|trivial|rfl|(rw [X.a];rfl)
 rintro i ⟨hi,ha⟩
 cbv
 refine ⟨fun h1=> ?_,fun h1=> ?_⟩
 ·have h5:i<t.pts.length:=by obtain rfl:=X.a;simp only [hlen_rp,SD,bNot] at h1;omega
  have k1:=tyAt X.a hrp h5
  have hid:A.idx (Int.ofNat i) (A.len rp):=by rw [X.a,hrp];exact leaf_idx h5
  have hin:A.inr .i64 (A.add (Int.ofNat i) 1):=by rw [X.a];exact leaf_inc h5 (by omega)
  have e2:t.pts.flatMap Ty.all=(t.pts.take (i+1)).flatMap Ty.all++(t.pts.drop (i+1)).flatMap Ty.all:=by rw [← List.flatMap_append,List.take_append_drop]
  have hst:firstE (((t.pts.take (i+1)).flatMap Ty.all).map tnE)=firstE (t.pts[i].all.map tnE):=by
   rw [flat_take h5,List.map_append,firstE_app,ha,if_pos rfl]
  cbv
  repeat' (first|apply And.intro|exact fun (_:FF)=>by kernel_rfl|(intro h2;cbv)|apply Or.inl)
  any_goals exact hid
  refine X.call (ih _ (List.getElem_mem h5) (pts_le hle _ (List.getElem_mem h5)) (hszs _ (List.getElem_mem h5)) (fun u hu=>hn u (pts_all (List.getElem_mem h5) hu)) k1 fun e1 he1=> ?_)
  rw [← he1] at hst
  cbv
  repeat' (first|apply And.intro|exact fun (_:FF)=>by kernel_rfl|(intro h2;cbv)|apply Or.inl)
  any_goals exact hin
  ·have h2:A.not (A.eq e1 0)=true:=by assumption
   rw [hneg,heq] at h2
   refine h _ ?_
   rw [e2,List.map_append,firstE_app,hst,if_neg (by simpa using h2)]
  ·have h2:A.not (A.eq e1 0)=false:=by assumption
   rw [hneg,heq] at h2
   refine ⟨i+1,⟨by omega,?_⟩,by omega,?_⟩
   ·rw [hst];simpa using h2
   (cbv;repeat' apply And.intro);all_goals try first|trivial|rfl|(rw [X.a];rfl)
 ·have h5:i=n_rp:=by obtain rfl:=X.a;simp only [hlen_rp,SD,bNot] at h1;omega
  cbv
  refine h 0 ?_
  rw [h5,hn_rp,List.take_length] at ha
  exact ha.symm
theorem F29 {t:Ty} (hle:Ty.le 4294967295 t) (hs:t.size≤4294967295) (hn:∀ u∈t.all,u.nod) {c0:Int} {c1 c2:S} {c3 c4:D} {K:PV→List Ob→Prop} (ht:tyIs t c0 c1 c2 c3 c4)
  (h:∀ r:Int,r=ckE t→K (.int .i64 r) []):FC Tryz.prog tt 29 [] [tyPV c0 c1 c2 c3 c4] K:=by
 have hb1:(4096:Int)<Int.ofNat t.size→7=ckE t:=fun e=>by rw [ckE,if_pos (.inl (by simp only [Int.ofNat_eq_natCast] at e;omega))]
 have hb2:(32:Int)<Int.ofNat t.dep→7=ckE t:=fun e=>by rw [ckE,if_pos (.inr (by simp only [Int.ofNat_eq_natCast] at e;omega))]
 have hsm:¬(4096:Int)<Int.ofNat t.size→¬(32:Int)<Int.ofNat t.dep→∀ r,r=firstE (t.all.map tnE)→r=ckE t:=fun a b r hr=>by rw [ckE,if_neg (by simp only [Int.ofNat_eq_natCast] at a b;omega),hr]
 refine FC.enter (G:=g29) tt_ok mixed ⟨Tryz.func29,by rfl,rfl⟩ rfl rfl rfl ?_
 intro A C L X
 have hlt:=ltA X.a
 cbv
 refine X.call (F9c hle hs ht fun r1 hr1=> ?_)
 have hr1:r1=Int.ofNat t.size:=hr1
 rw [← hr1] at hb1 hsm
 have g1:A.lt 4096 r1=true→7=ckE t:=fun e=>hb1 (by rw [hlt] at e;exact of_decide_eq_true e)
 cbv
 repeat' (first|apply And.intro|exact fun (_:FF)=>by kernel_rfl|(intro h2;cbv)|apply Or.inl|(refine X.call (F65 t hle hs ht fun r2 hr2=> ?_);cbv))
 ·have e:A.lt 32 r2=true:=by assumption
  exact h _ (hb2 (by rw [hlt,hr2] at e;exact of_decide_eq_true e))
 ·have e:A.lt 32 r2=false:=by assumption
  have e1:A.lt 4096 r1=false:=by assumption
  rw [hlt,hr2] at e
  rw [hlt] at e1
  have hsm:=hsm (of_decide_eq_false e1) (of_decide_eq_false e)
  refine X.call (F66 t hle hs hn ht fun r hr=> ?_)
  cbv
  exact h _ (hsm _ hr)
 ·exact h _ (g1 (by assumption))
theorem F67 {l:List S} {d:D} {s:S} {K:PV→List Ob→Prop} (hd:d=encL encS l) (hl:l.length≤4294967295)
  (h:∀ b,b=l.contains s→K (.bool b) []):FC Tryz.prog tt 67 [] [.lst 9 d,.str s] K:=by
 refine FC.enter (G:=g67) tt_ok mixed ⟨Tryz.func67,by rfl,rfl⟩ rfl rfl rfl ?_
 intro A C L X
 cbv
 refine X.call (F110 hd hl fun b hb=> ?_)
 cbv
 exact h _ hb
end Go.VC.T07
end

section
namespace Go.VC
theorem idxS_at {l:List S} {s:S} {i:Nat} (h:i<l.length) (ha:∀ x∈l.take i,(x==s)=false) (hp:l[i]=s):idxS l s=(i:Int):=idxF_some h ha (by simp [hp])
theorem idxS_ge {l:List S} {s:S} {i:Nat} (ha:∀ x∈l.take i,(x==s)=false):idxS l s= -1∨(i:Int)≤idxS l s:=by
 rcases idxF_cases (fun x=>x==s) l with ⟨e1,_⟩|⟨j,h5,e1,e2,e3⟩
 ·exact .inl e1
 ·refine .inr ?_
  rw [idxS,e1]
  rcases Nat.lt_or_ge j i with h|h
  ·have h9:(l[j]==s)=false:=ha l[j] (by rw [List.mem_take_iff_getElem];exact ⟨j,by omega,rfl⟩)
   have h8:(l[j]==s)=true:=e2
   rw [h8] at h9;cases h9
  ·omega
end Go.VC
namespace Go.VC.T07
open Go Go.VC Go.Proofs
theorem F42 {ns:List S} {ts:List Ty} {dn dt:D} (hn:dn=encL encS ns) (hts:dt=encL encTy ts) (hl1:ns.length≤4294967295) (hl2:ts.length≤4294967295):
  ∀ (t:Ty),Ty.le 4294967295 t→∀ {c0:Int} {c1 c2:S} {c3 c4:D} {K:PV→List Ob→Prop},tyIs t c0 c1 c2 c3 c4→(∀ e0 e1 e2 e3 e4,tyIs (t.sub ns ts) e0 e1 e2 e3 e4→K (tyPV e0 e1 e2 e3 e4) [])→FC Tryz.prog tt 42 [] [tyPV c0 c1 c2 c3 c4,.lst 9 dn,.lst 28 dt] K:=by
 refine Ty.parts fun t iha ihf=> ?_
 intro hle c0 c1 c2 c3 c4 K ht h
 obtain ⟨t0,t1,t2,hc3,hc4⟩:=ht
 have hla:=tyLe_ar hle
 have hlf:=tyLe_fl hle
 refine FC.enter (G:=g42) tt_ok mixed ⟨Tryz.func42,by rfl,rfl⟩ rfl rfl rfl ?_
 intro A C L X
 obtain ⟨n_dn,hn_dn,hlen_dn⟩:=lenOf hn
 obtain ⟨n_dt,hn_dt,hlen_dt⟩:=lenOf hts
 obtain ⟨n_c3,hn_c3,hlen_c3⟩:=lenOf hc3
 obtain ⟨n_c4,hn_c4,hlen_c4⟩:=lenOf hc4
 cbv
 repeat' (first|apply And.intro|exact fun (_:FF)=>by kernel_rfl|(intro h2;cbv)|apply Or.inl)
 ·refine X.loop (fun (y:Nat)=>⟨[(7,.int .i64 y),(1,.lst 9 dn),(2,.lst 28 dt),(3,.box 0 0),(6,.box 1 0)],[.box [.int .i64 c0,.str c1,.str c2,.lst 28 c3,.lst 65 c4],.box [.undef,.undef,.undef,.undef,.undef]]⟩)
   (fun y=>y≤n_dn∧∀ x∈ns.take y,(x==t.n)=false) (fun y=>n_dn-y) 0 ⟨Nat.zero_le _,by simp⟩ ?_ ?_
  ·(cbv;repeat' apply And.intro);all_goals try first|trivial|rfl|(rw [X.a];rfl)
  rintro i ⟨hi,ha⟩
  cbv
  repeat' (first|apply And.intro|exact fun (_:FF)=>by kernel_rfl|(intro h2;cbv)|apply Or.inl)
  ·have h5:i<ns.length:=by obtain rfl:=X.a;simp only [hlen_dn,SD,bNot] at *;omega
   have h6:i<ts.length:=by obtain rfl:=X.a;simp only [hlen_dt,SD,bNot] at *;omega
   rw [X.a,hn];exact leaf_idx h5
  ·have h5:i<ns.length:=by obtain rfl:=X.a;simp only [hlen_dn,SD,bNot] at *;omega
   have h6:i<ts.length:=by obtain rfl:=X.a;simp only [hlen_dt,SD,bNot] at *;omega
   rw [X.a,hts];exact leaf_idx h6
  ·have h5:i<ns.length:=by obtain rfl:=X.a;simp only [hlen_dn,SD,bNot] at *;omega
   have h6:i<ts.length:=by obtain rfl:=X.a;simp only [hlen_dt,SD,bNot] at *;omega
   have k1:=tyAt X.a hts h6
   have k2:=strAt X.a hn h5
   have hk:t.k=9:=by rw [← t0];obtain rfl:=X.a;simp only [SD,bNot] at *;omega
   have hs:ns[i]=t.n:=by rw [← k2,←t2];obtain rfl:=X.a;simpa only [SD,bNot] using h2
   refine h _ _ _ _ _ ?_
   rw [sub_var hk (idxS_at h5 ha hs) h6]
   exact k1
  ·have h5:i<ns.length:=by obtain rfl:=X.a;simp only [hlen_dn,SD,bNot] at *;omega
   have h6:i<ts.length:=by obtain rfl:=X.a;simp only [hlen_dt,SD,bNot] at *;omega
   rw [X.a];exact leaf_inc h5 (by omega)
  ·have h5:i<ns.length:=by obtain rfl:=X.a;simp only [hlen_dn,SD,bNot] at *;omega
   have h6:i<ts.length:=by obtain rfl:=X.a;simp only [hlen_dt,SD,bNot] at *;omega
   have k2:=strAt X.a hn h5
   have hs:¬ns[i]=t.n:=by rename_i g3;rw [← k2,←t2];obtain rfl:=X.a;simpa only [SD,bNot] using g3
   refine ⟨i+1,⟨by omega,?_⟩,by omega,?_⟩
   ·rw [take_succ' h5];intro x hx
    rcases List.mem_append.1 hx with hx|hx
    ·exact ha x hx
    ·simp at hx;subst hx;simpa using hs
   (cbv;repeat' apply And.intro);all_goals try first|trivial|rfl|(rw [X.a];rfl)
  ·have hno:¬(t.k=9∧0≤idxS ns t.n∧idxS ns t.n<ts.length):=by
    have h6:ts.length≤i:=by obtain rfl:=X.a;simp only [hlen_dt,SD,bNot] at h2;omega
    rcases idxS_ge ha with e|e<;>omega
   clear ha hi
   refine X.loopP (fun (y:Nat×D)=>⟨[(9,.int .i64 y.1),(1,.lst 9 dn),(2,.lst 28 dt),(3,.box 0 0),(6,.box 1 0),(8,.box 4 0)],[.box [.int .i64 c0,.str c1,.str c2,.lst 28 c3,.lst 65 c4],.box [.undef,.undef,.undef,.undef,.undef],.row 28 y.2 true,.row 65 (.list []) true,.box [.int .i64 c0,.str c1,.str c2,.row 28 2,.row 65 3]]⟩)
    (fun y=>y.1≤n_c3∧y.2=encL encTy ((t.ar.take y.1).map (Ty.sub ns ts))) (fun y=>n_c3-y.1) (0,.list []) ⟨Nat.zero_le _,rfl⟩ ?_ ?_
   ·refine ⟨[0,1,2,3,4],rfl,?_⟩
    (cbv;repeat' apply And.intro);all_goals try first|trivial|rfl|(rw [X.a];rfl)
   rintro ⟨i,r⟩ ⟨hi,hr⟩
   simp only at hi hr
   cbv
   refine ⟨fun h1=> ?_,fun h1=> ?_⟩
   ·have h5:i<t.ar.length:=by obtain rfl:=X.a;simp only [hlen_c3,SD,bNot] at h1;omega
    have k1:=tyAt X.a hc3 h5
    have hid:A.idx (Int.ofNat i) (A.len c3):=by rw [X.a,hc3];exact leaf_idx h5
    have hin:A.inr .i64 (A.add (Int.ofNat i) 1):=by rw [X.a];exact leaf_inc h5 (by omega)
    cbv
    repeat' (first|apply And.intro|exact fun (_:FF)=>by kernel_rfl|(intro h2;cbv)|apply Or.inl)
    any_goals exact hid
    refine X.call (iha _ (List.getElem_mem h5) (tyLe_a hle _ (List.getElem_mem h5)) k1 fun e0 e1 e2 e3 e4 he=> ?_)
    obtain ⟨he0,he1,he2,he3,he4⟩:=he
    have hb2:A.bnd (A.add (A.len r) (A.len (A.lit [[.int e0,.str e1,.str e2,e3,e4]]))) 4294967296:=by
     rw [X.a,hr];simp only [SD,bNot,List.length_map];omega
    have q1:A.app r (A.lit [[.int e0,.str e1,.str e2,e3,e4]])=encL encTy ((t.ar.take (i+1)).map (Ty.sub ns ts)):=by
     rw [he0,he1,he2,he3,he4,X.a,hr,map_take h5,←encTy_eq]
     exact Std_app (k:=[t.ar[i].sub ns ts])
    cbv
    repeat' (first|apply And.intro|exact fun (_:FF)=>by kernel_rfl|(intro h2;cbv)|apply Or.inl)
    any_goals exact hb2
    any_goals exact hin
    refine ⟨(i+1,_),⟨?_,q1⟩,?_,[0,1,2,3,4],rfl,?_⟩
    ·simp only;omega
    ·simp only;omega
    (cbv;repeat' apply And.intro);all_goals try first|trivial|rfl|(rw [X.a];rfl)
   have h5:i=n_c3:=by obtain rfl:=X.a;simp only [hlen_c3,SD,bNot] at h1;omega
   subst h5
   rw [hn_c3,List.take_length] at hr
   cbv
   refine X.loopP (fun (y:Nat×D)=>⟨[(10,.int .i64 y.1),(1,.lst 9 dn),(2,.lst 28 dt),(3,.box 0 0),(6,.box 1 0),(8,.box 4 0)],[.box [.int .i64 c0,.str c1,.str c2,.lst 28 c3,.lst 65 c4],.box [.undef,.undef,.undef,.undef,.undef],.row 28 r true,.row 65 y.2 true,.box [.int .i64 c0,.str c1,.str c2,.row 28 2,.row 65 3]]⟩)
    (fun y=>y.1≤n_c4∧y.2=encL encFd ((t.fl.take y.1).map (Fe.sub ns ts))) (fun y=>n_c4-y.1) (0,.list []) ⟨Nat.zero_le _,rfl⟩ ?_ ?_
   ·refine ⟨[0,1,2,3,4],rfl,?_⟩
    (cbv;repeat' apply And.intro);all_goals try first|trivial|rfl|(rw [X.a];rfl)
   rintro ⟨i,r2⟩ ⟨hi,hr2⟩
   simp only at hi hr2
   cbv
   refine ⟨fun h1=> ?_,fun h1=> ?_⟩
   ·have h5:i<t.fl.length:=by obtain rfl:=X.a;simp only [hlen_c4,SD,bNot] at h1;omega
    have k1:=fdTyAt X.a hc4 h5
    have k2:=fdAt X.a hc4 h5
    have hid:A.idx (Int.ofNat i) (A.len c4):=by rw [X.a,hc4];exact leaf_idx h5
    have hin:A.inr .i64 (A.add (Int.ofNat i) 1):=by rw [X.a];exact leaf_inc h5 (by omega)
    cbv
    repeat' (first|apply And.intro|exact fun (_:FF)=>by kernel_rfl|(intro h2;cbv)|apply Or.inl)
    any_goals exact hid
    refine X.call (ihf _ (List.getElem_mem h5) (tyLe_f hle _ (List.getElem_mem h5)) k1 fun e0 e1 e2 e3 e4 he=> ?_)
    obtain ⟨he0,he1,he2,he3,he4⟩:=he
    have hb2:A.bnd (A.add (A.len r2) (A.len (A.lit [[.str (A.asStr (A.cell c4 (Int.ofNat i) 0)),.int e0,.str e1,.str e2,e3,e4,.bool (A.asBool (A.cell c4 (Int.ofNat i) 6))]]))) 4294967296:=by
     rw [X.a,hr2];simp only [SD,bNot,List.length_map];omega
    have q1:A.app r2 (A.lit [[.str (A.asStr (A.cell c4 (Int.ofNat i) 0)),.int e0,.str e1,.str e2,e3,e4,.bool (A.asBool (A.cell c4 (Int.ofNat i) 6))]])=encL encFd ((t.fl.take (i+1)).map (Fe.sub ns ts)):=by
     rw [he0,he1,he2,he3,he4,k2.1,k2.2,X.a,hr2,map_take h5]
     refine Eq.trans ?_ (Std_app (k:=[Fe.sub ns ts t.fl[i]]))
     congr 1
     refine lit1 ?_
     rw [encFd_eq,Fe.sub_eq];rfl
    cbv
    repeat' (first|apply And.intro|exact fun (_:FF)=>by kernel_rfl|(intro h2;cbv)|apply Or.inl)
    any_goals exact hb2
    any_goals exact hin
    refine ⟨(i+1,_),⟨?_,q1⟩,?_,[0,1,2,3,4],rfl,?_⟩
    ·simp only;omega
    ·simp only;omega
    (cbv;repeat' apply And.intro);all_goals try first|trivial|rfl|(rw [X.a];rfl)
   have h5:i=n_c4:=by obtain rfl:=X.a;simp only [hlen_c4,SD,bNot] at h1;omega
   subst h5
   rw [hn_c4,List.take_length] at hr2
   cbv
   refine h _ _ _ _ _ ?_
   rw [sub_node hno]
   exact ⟨t0,t1,t2,hr,hr2⟩
  ·have hno:¬(t.k=9∧0≤idxS ns t.n∧idxS ns t.n<ts.length):=by
    have h6:ns.length≤i:=by obtain rfl:=X.a;simp only [hlen_dn,SD,bNot] at h2;omega
    rw [List.take_of_length_le h6] at ha
    rw [idxS,idxF_none ha];omega
   clear ha hi
   refine X.loopP (fun (y:Nat×D)=>⟨[(9,.int .i64 y.1),(1,.lst 9 dn),(2,.lst 28 dt),(3,.box 0 0),(6,.box 1 0),(8,.box 4 0)],[.box [.int .i64 c0,.str c1,.str c2,.lst 28 c3,.lst 65 c4],.box [.undef,.undef,.undef,.undef,.undef],.row 28 y.2 true,.row 65 (.list []) true,.box [.int .i64 c0,.str c1,.str c2,.row 28 2,.row 65 3]]⟩)
    (fun y=>y.1≤n_c3∧y.2=encL encTy ((t.ar.take y.1).map (Ty.sub ns ts))) (fun y=>n_c3-y.1) (0,.list []) ⟨Nat.zero_le _,rfl⟩ ?_ ?_
   ·refine ⟨[0,1,2,3,4],rfl,?_⟩
    (cbv;repeat' apply And.intro);all_goals try first|trivial|rfl|(rw [X.a];rfl)
   rintro ⟨i,r⟩ ⟨hi,hr⟩
   simp only at hi hr
   cbv
   refine ⟨fun h1=> ?_,fun h1=> ?_⟩
   ·have h5:i<t.ar.length:=by obtain rfl:=X.a;simp only [hlen_c3,SD,bNot] at h1;omega
    have k1:=tyAt X.a hc3 h5
    have hid:A.idx (Int.ofNat i) (A.len c3):=by rw [X.a,hc3];exact leaf_idx h5
    have hin:A.inr .i64 (A.add (Int.ofNat i) 1):=by rw [X.a];exact leaf_inc h5 (by omega)
    cbv
    repeat' (first|apply And.intro|exact fun (_:FF)=>by kernel_rfl|(intro h2;cbv)|apply Or.inl)
    any_goals exact hid
    refine X.call (iha _ (List.getElem_mem h5) (tyLe_a hle _ (List.getElem_mem h5)) k1 fun e0 e1 e2 e3 e4 he=> ?_)
    obtain ⟨he0,he1,he2,he3,he4⟩:=he
    have hb2:A.bnd (A.add (A.len r) (A.len (A.lit [[.int e0,.str e1,.str e2,e3,e4]]))) 4294967296:=by
     rw [X.a,hr];simp only [SD,bNot,List.length_map];omega
    have q1:A.app r (A.lit [[.int e0,.str e1,.str e2,e3,e4]])=encL encTy ((t.ar.take (i+1)).map (Ty.sub ns ts)):=by
     rw [he0,he1,he2,he3,he4,X.a,hr,map_take h5,←encTy_eq]
     exact Std_app (k:=[t.ar[i].sub ns ts])
    cbv
    repeat' (first|apply And.intro|exact fun (_:FF)=>by kernel_rfl|(intro h2;cbv)|apply Or.inl)
    any_goals exact hb2
    any_goals exact hin
    refine ⟨(i+1,_),⟨?_,q1⟩,?_,[0,1,2,3,4],rfl,?_⟩
    ·simp only;omega
    ·simp only;omega
    (cbv;repeat' apply And.intro);all_goals try first|trivial|rfl|(rw [X.a];rfl)
   have h5:i=n_c3:=by obtain rfl:=X.a;simp only [hlen_c3,SD,bNot] at h1;omega
   subst h5
   rw [hn_c3,List.take_length] at hr
   cbv
   refine X.loopP (fun (y:Nat×D)=>⟨[(10,.int .i64 y.1),(1,.lst 9 dn),(2,.lst 28 dt),(3,.box 0 0),(6,.box 1 0),(8,.box 4 0)],[.box [.int .i64 c0,.str c1,.str c2,.lst 28 c3,.lst 65 c4],.box [.undef,.undef,.undef,.undef,.undef],.row 28 r true,.row 65 y.2 true,.box [.int .i64 c0,.str c1,.str c2,.row 28 2,.row 65 3]]⟩)
    (fun y=>y.1≤n_c4∧y.2=encL encFd ((t.fl.take y.1).map (Fe.sub ns ts))) (fun y=>n_c4-y.1) (0,.list []) ⟨Nat.zero_le _,rfl⟩ ?_ ?_
   ·refine ⟨[0,1,2,3,4],rfl,?_⟩
    (cbv;repeat' apply And.intro);all_goals try first|trivial|rfl|(rw [X.a];rfl)
   rintro ⟨i,r2⟩ ⟨hi,hr2⟩
   simp only at hi hr2
   cbv
   refine ⟨fun h1=> ?_,fun h1=> ?_⟩
   ·have h5:i<t.fl.length:=by obtain rfl:=X.a;simp only [hlen_c4,SD,bNot] at h1;omega
    have k1:=fdTyAt X.a hc4 h5
    have k2:=fdAt X.a hc4 h5
    have hid:A.idx (Int.ofNat i) (A.len c4):=by rw [X.a,hc4];exact leaf_idx h5
    have hin:A.inr .i64 (A.add (Int.ofNat i) 1):=by rw [X.a];exact leaf_inc h5 (by omega)
    cbv
    repeat' (first|apply And.intro|exact fun (_:FF)=>by kernel_rfl|(intro h2;cbv)|apply Or.inl)
    any_goals exact hid
    refine X.call (ihf _ (List.getElem_mem h5) (tyLe_f hle _ (List.getElem_mem h5)) k1 fun e0 e1 e2 e3 e4 he=> ?_)
    obtain ⟨he0,he1,he2,he3,he4⟩:=he
    have hb2:A.bnd (A.add (A.len r2) (A.len (A.lit [[.str (A.asStr (A.cell c4 (Int.ofNat i) 0)),.int e0,.str e1,.str e2,e3,e4,.bool (A.asBool (A.cell c4 (Int.ofNat i) 6))]]))) 4294967296:=by
     rw [X.a,hr2];simp only [SD,bNot,List.length_map];omega
    have q1:A.app r2 (A.lit [[.str (A.asStr (A.cell c4 (Int.ofNat i) 0)),.int e0,.str e1,.str e2,e3,e4,.bool (A.asBool (A.cell c4 (Int.ofNat i) 6))]])=encL encFd ((t.fl.take (i+1)).map (Fe.sub ns ts)):=by
     rw [he0,he1,he2,he3,he4,k2.1,k2.2,X.a,hr2,map_take h5]
     refine Eq.trans ?_ (Std_app (k:=[Fe.sub ns ts t.fl[i]]))
     congr 1
     refine lit1 ?_
     rw [encFd_eq,Fe.sub_eq];rfl
    cbv
    repeat' (first|apply And.intro|exact fun (_:FF)=>by kernel_rfl|(intro h2;cbv)|apply Or.inl)
    any_goals exact hb2
    any_goals exact hin
    refine ⟨(i+1,_),⟨?_,q1⟩,?_,[0,1,2,3,4],rfl,?_⟩
    ·simp only;omega
    ·simp only;omega
    (cbv;repeat' apply And.intro);all_goals try first|trivial|rfl|(rw [X.a];rfl)
   have h5:i=n_c4:=by obtain rfl:=X.a;simp only [hlen_c4,SD,bNot] at h1;omega
   subst h5
   rw [hn_c4,List.take_length] at hr2
   cbv
   refine h _ _ _ _ _ ?_
   rw [sub_node hno]
   exact ⟨t0,t1,t2,hr,hr2⟩
 ·have hno:¬(t.k=9∧0≤idxS ns t.n∧idxS ns t.n<ts.length):=by
   rw [← t0];rintro ⟨e,_⟩;obtain rfl:=X.a;simp only [SD,bNot] at h2;simp [e] at h2
  refine X.loopP (fun (y:Nat×D)=>⟨[(9,.int .i64 y.1),(1,.lst 9 dn),(2,.lst 28 dt),(3,.box 0 0),(6,.box 1 0),(8,.box 4 0)],[.box [.int .i64 c0,.str c1,.str c2,.lst 28 c3,.lst 65 c4],.box [.undef,.undef,.undef,.undef,.undef],.row 28 y.2 true,.row 65 (.list []) true,.box [.int .i64 c0,.str c1,.str c2,.row 28 2,.row 65 3]]⟩)
   (fun y=>y.1≤n_c3∧y.2=encL encTy ((t.ar.take y.1).map (Ty.sub ns ts))) (fun y=>n_c3-y.1) (0,.list []) ⟨Nat.zero_le _,rfl⟩ ?_ ?_
  ·refine ⟨[0,1,2,3,4],rfl,?_⟩
   (cbv;repeat' apply And.intro);all_goals try first|trivial|rfl|(rw [X.a];rfl)
  rintro ⟨i,r⟩ ⟨hi,hr⟩
  simp only at hi hr
  cbv
  refine ⟨fun h1=> ?_,fun h1=> ?_⟩
  ·have h5:i<t.ar.length:=by obtain rfl:=X.a;simp only [hlen_c3,SD,bNot] at h1;omega
   have k1:=tyAt X.a hc3 h5
   have hid:A.idx (Int.ofNat i) (A.len c3):=by rw [X.a,hc3];exact leaf_idx h5
   have hin:A.inr .i64 (A.add (Int.ofNat i) 1):=by rw [X.a];exact leaf_inc h5 (by omega)
   cbv
   repeat' (first|apply And.intro|exact fun (_:FF)=>by kernel_rfl|(intro h2;cbv)|apply Or.inl)
   any_goals exact hid
   refine X.call (iha _ (List.getElem_mem h5) (tyLe_a hle _ (List.getElem_mem h5)) k1 fun e0 e1 e2 e3 e4 he=> ?_)
   obtain ⟨he0,he1,he2,he3,he4⟩:=he
   have hb2:A.bnd (A.add (A.len r) (A.len (A.lit [[.int e0,.str e1,.str e2,e3,e4]]))) 4294967296:=by
    rw [X.a,hr];simp only [SD,bNot,List.length_map];omega
   have q1:A.app r (A.lit [[.int e0,.str e1,.str e2,e3,e4]])=encL encTy ((t.ar.take (i+1)).map (Ty.sub ns ts)):=by
    rw [he0,he1,he2,he3,he4,X.a,hr,map_take h5,←encTy_eq]
    exact Std_app (k:=[t.ar[i].sub ns ts])
   cbv
   repeat' (first|apply And.intro|exact fun (_:FF)=>by kernel_rfl|(intro h2;cbv)|apply Or.inl)
   any_goals exact hb2
   any_goals exact hin
   refine ⟨(i+1,_),⟨?_,q1⟩,?_,[0,1,2,3,4],rfl,?_⟩
   ·simp only;omega
   ·simp only;omega
   (cbv;repeat' apply And.intro);all_goals try first|trivial|rfl|(rw [X.a];rfl)
  have h5:i=n_c3:=by obtain rfl:=X.a;simp only [hlen_c3,SD,bNot] at h1;omega
  subst h5
  rw [hn_c3,List.take_length] at hr
  cbv
  refine X.loopP (fun (y:Nat×D)=>⟨[(10,.int .i64 y.1),(1,.lst 9 dn),(2,.lst 28 dt),(3,.box 0 0),(6,.box 1 0),(8,.box 4 0)],[.box [.int .i64 c0,.str c1,.str c2,.lst 28 c3,.lst 65 c4],.box [.undef,.undef,.undef,.undef,.undef],.row 28 r true,.row 65 y.2 true,.box [.int .i64 c0,.str c1,.str c2,.row 28 2,.row 65 3]]⟩)
   (fun y=>y.1≤n_c4∧y.2=encL encFd ((t.fl.take y.1).map (Fe.sub ns ts))) (fun y=>n_c4-y.1) (0,.list []) ⟨Nat.zero_le _,rfl⟩ ?_ ?_
  ·refine ⟨[0,1,2,3,4],rfl,?_⟩
   (cbv;repeat' apply And.intro);all_goals try first|trivial|rfl|(rw [X.a];rfl)
  rintro ⟨i,r2⟩ ⟨hi,hr2⟩
  simp only at hi hr2
  cbv
  refine ⟨fun h1=> ?_,fun h1=> ?_⟩
  ·have h5:i<t.fl.length:=by obtain rfl:=X.a;simp only [hlen_c4,SD,bNot] at h1;omega
   have k1:=fdTyAt X.a hc4 h5
   have k2:=fdAt X.a hc4 h5
   have hid:A.idx (Int.ofNat i) (A.len c4):=by rw [X.a,hc4];exact leaf_idx h5
   have hin:A.inr .i64 (A.add (Int.ofNat i) 1):=by rw [X.a];exact leaf_inc h5 (by omega)
   cbv
   repeat' (first|apply And.intro|exact fun (_:FF)=>by kernel_rfl|(intro h2;cbv)|apply Or.inl)
   any_goals exact hid
   refine X.call (ihf _ (List.getElem_mem h5) (tyLe_f hle _ (List.getElem_mem h5)) k1 fun e0 e1 e2 e3 e4 he=> ?_)
   obtain ⟨he0,he1,he2,he3,he4⟩:=he
   have hb2:A.bnd (A.add (A.len r2) (A.len (A.lit [[.str (A.asStr (A.cell c4 (Int.ofNat i) 0)),.int e0,.str e1,.str e2,e3,e4,.bool (A.asBool (A.cell c4 (Int.ofNat i) 6))]]))) 4294967296:=by
    rw [X.a,hr2];simp only [SD,bNot,List.length_map];omega
   have q1:A.app r2 (A.lit [[.str (A.asStr (A.cell c4 (Int.ofNat i) 0)),.int e0,.str e1,.str e2,e3,e4,.bool (A.asBool (A.cell c4 (Int.ofNat i) 6))]])=encL encFd ((t.fl.take (i+1)).map (Fe.sub ns ts)):=by
    rw [he0,he1,he2,he3,he4,k2.1,k2.2,X.a,hr2,map_take h5]
    refine Eq.trans ?_ (Std_app (k:=[Fe.sub ns ts t.fl[i]]))
    congr 1
    refine lit1 ?_
    rw [encFd_eq,Fe.sub_eq];rfl
   cbv
   repeat' (first|apply And.intro|exact fun (_:FF)=>by kernel_rfl|(intro h2;cbv)|apply Or.inl)
   any_goals exact hb2
   any_goals exact hin
   refine ⟨(i+1,_),⟨?_,q1⟩,?_,[0,1,2,3,4],rfl,?_⟩
   ·simp only;omega
   ·simp only;omega
   (cbv;repeat' apply And.intro);all_goals try first|trivial|rfl|(rw [X.a];rfl)
  have h5:i=n_c4:=by obtain rfl:=X.a;simp only [hlen_c4,SD,bNot] at h1;omega
  subst h5
  rw [hn_c4,List.take_length] at hr2
  cbv
  refine h _ _ _ _ _ ?_
  rw [sub_node hno]
  exact ⟨t0,t1,t2,hr,hr2⟩
end Go.VC.T07
end

section
namespace Go.VC
def resolveR (env:List IF) (m n:S):S×S×Int:=match endO env m n with| .nf=>([],[],6)| .loop=>([],[],14)| .typ m' n' _=>(m',n',0)| .val m' n' _=>(m',n',0)
theorem lookI_spec {i:IF} {n:S}:(∀ x,lookI i n= .typ x→i.types.find? (fun y=>y.name==n)=some x)∧(∀ x,lookI i n= .val x→i.types.find? (fun y=>y.name==n)=none∧i.values.find? (fun y=>y.name==n)=some x):=by
 unfold lookI
 cases h1:i.types.find? (fun y=>y.name==n) with
 |some y=>exact ⟨fun x e=>by cases e;rfl,fun x e=>by cases e⟩
 |none=>
  cases h2:i.values.find? (fun y=>y.name==n) with
  |some y=>exact ⟨fun x e=>(by cases e),fun x e=>by cases e;exact ⟨rfl,rfl⟩⟩
  |none=>
   simp only
   cases i.aliases.find? (fun y=>y.name==n) with
   |some y=>exact ⟨fun x e=>(by cases e),fun x e=>(by cases e)⟩
   |none=>exact ⟨fun x e=>(by cases e),fun x e=>(by cases e)⟩
theorem endI_spec {env:List IF}:∀ (k:Nat) (m n:S),(∀ m' n' x,endI env k m n= .typ m' n' x→∃ i,findI env m'=some i∧i.types.find? (fun y=>y.name==n')=some x)∧(∀ m' n' x,endI env k m n= .val m' n' x→∃ i,findI env m'=some i∧i.types.find? (fun y=>y.name==n')=none∧i.values.find? (fun y=>y.name==n')=some x)
 |0,m,n=>by simp [endI]
 |k+1,m,n=>by
  have hk:=fun m n=>endI_spec (env:=env) k m n
  simp only [endI]
  unfold look'
  cases hf:findI env m with
  |none=>simp
  |some i=>
   have hs:=lookI_spec (i:=i) (n:=n)
   simp only
   cases hl:lookI i n with
   |none=>simp
   |noali=>simp
   |typ x=>refine ⟨fun m' n' y e=> ?_,fun _ _ _ e=>(by cases e)⟩;cases e;exact ⟨i,hf,hs.1 _ hl⟩
   |val x=>refine ⟨fun _ _ _ e=>(by cases e),fun m' n' y e=> ?_⟩;cases e;exact ⟨i,hf,hs.2 _ hl⟩
   |ali x=>exact hk _ _
end Go.VC
namespace Go.VC.T07
open Go Go.VC Go.Proofs
theorem F79 {env:List IF} {d:D} {m n:S} {K:PV→List Ob→Prop} (hd:d=encL encIF env) (hl:envOk env)
  (h:∀ r0 r1 r2,(r0,r1,r2)=resolveR env m n→K (.tup [.str r0,.str r1,.int .i64 r2]) []):
  FC Tryz.prog tt 79 [] [.lst 40 d,.str m,.str n] K:=by
 unfold resolveR at h
 refine FC.enter (G:=g79) tt_ok mixed ⟨Tryz.func79,by rfl,rfl⟩ rfl rfl rfl ?_
 intro A C L X
 cbv
 refine X.loop (fun (y:Nat×S×S)=>⟨[(9,.int .i64 y.1),(0,.lst 40 d),(1,.str y.2.1),(2,.str y.2.2)],[]⟩)
  (fun y=>y.1≤65∧endI env (65-y.1) y.2.1 y.2.2=endO env m n) (fun y=>65-y.1) (0,m,n) ⟨Nat.zero_le _,rfl⟩ ?_ ?_
 ·(cbv;repeat' apply And.intro);all_goals try first|trivial|rfl|(rw [X.a];rfl)
 rintro ⟨i,m',n'⟩ ⟨hi,he⟩
 simp only at hi he
 cbv
 refine ⟨fun h1=> ?_,fun h1=> ?_⟩
 ·have h5:i<65:=by obtain rfl:=X.a;simp only [SD,bNot] at h1;omega
  obtain ⟨k,hk⟩:∃ k,65-i=k+1:=⟨64-i,by omega⟩
  have hk':65-(i+1)=k:=by omega
  rw [hk] at he
  simp only [endI] at he
  have hin:A.inr .i64 (A.add (Int.ofNat i) 1):=by rw [X.a];exact leaf_inc h5 (by omega)
  cbv
  refine X.call (F13 hd hl.1 rfl fun e0 e1 e2 e3 e4 b hx hb=> ?_)
  cases hf:findI env m' with
  |none=>
   rw [hf] at hb
   obtain rfl:b=false:=hb
   rw [show look' env m' n'= .none by rw [look',hf]] at he
   rw [← he] at h
   have q:=h _ _ _ rfl
   cbv
   repeat' (first|apply And.intro|exact fun (_:FF)=>by kernel_rfl|(intro h2;cbv)|apply Or.inl)
   ·exact q
   ·obtain rfl:=X.a;cases h2
  |some x=>
   rw [hf] at hb hx
   simp only [Option.getD_some] at hx
   obtain rfl:b=true:=hb
   have hok:=findI_ok hl hf
   have hL:look' env m' n'=lookI x n':=by rw [look',hf]
   rw [hL] at he
   cbv
   repeat' (first|apply And.intro|exact fun (_:FF)=>by kernel_rfl|(intro h2;cbv)|apply Or.inl)
   ·obtain rfl:=X.a;cases h2
   clear h2
   refine X.call (F20 hx hok.nt rfl fun c0 c1 c2 c3 c4 c5 c6 c7 c8 c9 c10 c11 b1 hc hb1=> ?_)
   cbv
   refine X.call (F127 hx hok.nv rfl fun u0 u1 u2 u3 u4 u5 u6 b2 hu hb2=> ?_)
   cbv
   refine X.call (F128 hx hok.na rfl fun a0 a1 a2 b3 ha hb3=> ?_)
   cases hft:x.types.find? (fun y=>y.name==n') with
   |some y=>
    rw [hft] at hb1
    obtain rfl:b1=true:=hb1
    rw [lookI,hft] at he
    rw [← he] at h
    have q:=h _ _ _ rfl
    cbv
    repeat' (first|apply And.intro|exact fun (_:FF)=>by kernel_rfl|(intro h2;cbv)|apply Or.inl)
    all_goals first
     |exact q
     |(exfalso;obtain rfl:=X.a;simp [Std_eq,Std_not,bNot] at *;done)
   |none=>
    rw [hft] at hb1
    obtain rfl:b1=false:=hb1
    cases hfv:x.values.find? (fun y=>y.name==n') with
    |some y=>
     rw [hfv] at hb2
     obtain rfl:b2=true:=hb2
     rw [lookI,hft] at he
     simp only [hfv] at he
     rw [← he] at h
     have q:=h _ _ _ rfl
     cbv
     repeat' (first|apply And.intro|exact fun (_:FF)=>by kernel_rfl|(intro h2;cbv)|apply Or.inl)
     all_goals first
      |exact q
      |(exfalso;obtain rfl:=X.a;simp [Std_eq,Std_not,bNot] at *;done)
    |none=>
     rw [hfv] at hb2
     obtain rfl:b2=false:=hb2
     cases hfa:x.aliases.find? (fun y=>y.name==n') with
     |none=>
      rw [hfa] at hb3
      obtain rfl:b3=false:=hb3
      rw [lookI,hft] at he
      simp only [hfv,hfa] at he
      rw [← he] at h
      have q:=h _ _ _ rfl
      cbv
      repeat' (first|apply And.intro|exact fun (_:FF)=>by kernel_rfl|(intro h2;cbv)|apply Or.inl)
      all_goals first
       |exact q
       |(exfalso;obtain rfl:=X.a;simp [Std_eq,Std_not,bNot] at *;done)
     |some y=>
      rw [hfa] at hb3 ha
      obtain rfl:b3=true:=hb3
      rw [lookI,hft] at he
      simp only [hfv,hfa] at he
      simp only [Option.getD_some] at ha
      obtain ⟨ha0,ha1,ha2⟩:=ha
      cbv
      repeat' (first|apply And.intro|exact fun (_:FF)=>by kernel_rfl|(intro h2;cbv)|apply Or.inl)
      all_goals first
       |exact hin
       |(exfalso;obtain rfl:=X.a;simp [Std_eq,Std_not,bNot] at *;done)
       |(refine ⟨(i+1,y.module,y.target),⟨?_,?_⟩,?_,?_⟩)
      ·simp only;omega
      ·simp only [hk'];exact he
      ·simp only;omega
      ·rw [← ha1,←ha2]
       (cbv;repeat' apply And.intro);all_goals try first|trivial|rfl|(rw [X.a];rfl)
 ·have h5:i=65:=by obtain rfl:=X.a;simp only [SD,bNot] at h1;omega
  subst h5
  rw [← he] at h
  have q:=h _ _ _ rfl
  cbv
  exact q
theorem F40 {env:List IF} {d:D} {m n:S} {K:PV→List Ob→Prop} (hd:d=encL encIF env) (hl:envOk env)
  (h:∀ e0 e1 e2 e3 e4 e5 e6 e7 e8 e9 e10 e11 r1 r2,teIs (typeR env m n).1 e0 e1 e2 e3 e4 e5 e6 e7 e8 e9 e10 e11→r1=(typeR env m n).2.1→r2=(typeR env m n).2.2→K (.tup [tePV e0 e1 e2 e3 e4 e5 e6 e7 e8 e9 e10 e11,.str r1,.int .i64 r2]) []):
  FC Tryz.prog tt 40 [] [.lst 40 d,.str m,.str n] K:=by
 have hsp:=endI_spec (env:=env) 65 m n
 refine FC.enter (G:=g40) tt_ok mixed ⟨Tryz.func40,by rfl,rfl⟩ rfl rfl rfl ?_
 intro A C L X
 cbv
 refine X.call (F79 hd hl fun r0 r1 r2 hr=> ?_)
 unfold resolveR at hr
 have bad:∀ (e:Int),e≠0→typeR env m n=(TE.zero,[],e)→(r0,r1,r2)=(([],[],e):S×S×Int)→A.eq r2 0=false∧K (.tup [tePV [] (.list []) 0 [] [] (.list []) (.list []) 0 [] [] (.list []) (.list []),.str [],.int .i64 r2]) []:=by
  intro e h0 hT he
  simp only [Prod.mk.injEq] at he
  obtain ⟨rfl,rfl,rfl⟩:=he
  rw [hT] at h
  refine ⟨?_,h _ _ _ _ _ _ _ _ _ _ _ _ _ _ ⟨rfl,rfl,⟨rfl,rfl,rfl,rfl,rfl⟩,rfl,rfl,rfl,rfl,rfl⟩ rfl rfl⟩
  rw [X.a,Std_eq];simpa using h0
 cases he:endO env m n with
 |nf=>
  rw [he] at hr
  obtain ⟨g1,g2⟩:=bad 6 (by simp) (by unfold typeR;rw [show endI env 65 m n=endO env m n from rfl,he]) hr
  cbv
  repeat' (first|apply And.intro|exact fun (_:FF)=>by kernel_rfl|(intro h2;cbv)|apply Or.inl)
  all_goals first
   |exact g2
   |(exfalso;rw [g1] at h2;obtain rfl:=X.a;simp [Std_eq,Std_not,bNot] at *;done)
 |loop=>
  rw [he] at hr
  obtain ⟨g1,g2⟩:=bad 14 (by simp) (by unfold typeR;rw [show endI env 65 m n=endO env m n from rfl,he]) hr
  cbv
  repeat' (first|apply And.intro|exact fun (_:FF)=>by kernel_rfl|(intro h2;cbv)|apply Or.inl)
  all_goals first
   |exact g2
   |(exfalso;rw [g1] at h2;obtain rfl:=X.a;simp [Std_eq,Std_not,bNot] at *;done)
 |typ m' n' x=>
  rw [he] at hr
  simp only [Prod.mk.injEq] at hr
  obtain ⟨hr0,hr1,hr2⟩:=hr
  obtain ⟨i,hi,hx⟩:=hsp.1 m' n' x he
  have hT:typeR env m n=(x,m',0):=by unfold typeR;rw [show endI env 65 m n=endO env m n from rfl,he]
  rw [hT,←hr0] at h
  clear bad
  cbv
  repeat' (first|apply And.intro|exact fun (_:FF)=>by kernel_rfl|(intro h2;cbv)|apply Or.inl)
  ·exfalso;obtain rfl:=X.a;simp only [SD,bNot] at h2;omega
  refine X.call (F13 hd hl.1 hr0 fun e0 e1 e2 e3 e4 b hx1 hb=> ?_)
  rw [hi] at hx1 hb
  simp only [Option.getD_some] at hx1
  cbv
  refine X.call (F20 hx1 (findI_ok hl hi).nt hr1 fun c0 c1 c2 c3 c4 c5 c6 c7 c8 c9 c10 c11 b1 hc hb1=> ?_)
  rw [hx] at hc hb1
  simp only [Option.getD_some] at hc
  obtain rfl:b1=true:=hb1
  clear hb
  cbv
  repeat' (first|apply And.intro|exact fun (_:FF)=>by kernel_rfl|(intro h2;cbv)|apply Or.inl)
  ·exfalso;obtain rfl:=X.a;simp [Std_not] at*
  exact h _ _ _ _ _ _ _ _ _ _ _ _ _ _ hc rfl rfl
 |val m' n' x=>
  rw [he] at hr
  simp only [Prod.mk.injEq] at hr
  obtain ⟨hr0,hr1,hr2⟩:=hr
  obtain ⟨i,hi,hx,hv⟩:=hsp.2 m' n' x he
  have hT:typeR env m n=(TE.zero,[],6):=by unfold typeR;rw [show endI env 65 m n=endO env m n from rfl,he]
  rw [hT] at h
  clear bad
  cbv
  repeat' (first|apply And.intro|exact fun (_:FF)=>by kernel_rfl|(intro h2;cbv)|apply Or.inl)
  ·exfalso;obtain rfl:=X.a;simp only [SD,bNot] at h2;omega
  refine X.call (F13 hd hl.1 hr0 fun e0 e1 e2 e3 e4 b hx1 hb=> ?_)
  rw [hi] at hx1 hb
  simp only [Option.getD_some] at hx1
  cbv
  refine X.call (F20 hx1 (findI_ok hl hi).nt hr1 fun c0 c1 c2 c3 c4 c5 c6 c7 c8 c9 c10 c11 b1 hc hb1=> ?_)
  rw [hx] at hc hb1
  obtain rfl:b1=false:=hb1
  clear hb
  cbv
  repeat' (first|apply And.intro|exact fun (_:FF)=>by kernel_rfl|(intro h2;cbv)|apply Or.inl)
  ·exact h _ _ _ _ _ _ _ _ _ _ _ _ _ _ ⟨rfl,rfl,⟨rfl,rfl,rfl,rfl,rfl⟩,rfl,rfl,rfl,rfl,rfl⟩ rfl rfl
  ·exfalso;obtain rfl:=X.a;simp [Std_not] at*
theorem F17 {env:List IF} {t:Ty} {d:D} {c0:Int} {c1 c2:S} {c3 c4:D} {K:PV→List Ob→Prop} (hd:d=encL encIF env) (hl:envOk env) (hle:Ty.le 4294967295 t) (ht:tyIs t c0 c1 c2 c3 c4)
  (h:∀ e0 e1 e2 e3 e4 g0 g1 g2 g3 g4 r,tyIs (boundsR env t).1 e0 e1 e2 e3 e4→tyIs (boundsR env t).2.1 g0 g1 g2 g3 g4→r=(boundsR env t).2.2→K (.tup [tyPV e0 e1 e2 e3 e4,tyPV g0 g1 g2 g3 g4,.int .i64 r]) []):
  FC Tryz.prog tt 17 [] [.lst 40 d,tyPV c0 c1 c2 c3 c4] K:=by
 obtain ⟨t0,t1,t2,hc3,hc4⟩:=ht
 have hla:=tyLe_ar hle
 have hx:=typeR_ok hl (m:=t.m) (n:=t.n)
 unfold boundsR at h
 rw [← t0] at h
 rw [← t1,←t2] at h hx
 obtain ⟨R,hR⟩:∃ R,R=typeR env c1 c2:=⟨_,rfl⟩
 rw [← hR] at h hx
 have hnp:=hx.np
 refine FC.enter (G:=g17) tt_ok mixed ⟨Tryz.func17,by rfl,rfl⟩ rfl rfl rfl ?_
 intro A C L X
 obtain ⟨n_c3,hn_c3,hlen_c3⟩:=lenOf hc3
 cbv
 repeat' (first|apply And.intro|exact fun (_:FF)=>by kernel_rfl|(intro h2;cbv)|apply Or.inl)
 ·rw [if_pos (by obtain rfl:=X.a;simp only [SD,bNot] at h2;exact h2)] at h
  exact h _ _ _ _ _ _ _ _ _ _ _ ⟨rfl,rfl,rfl,rfl,rfl⟩ ⟨rfl,rfl,rfl,rfl,rfl⟩ rfl
 rw [if_neg (by obtain rfl:=X.a;simp only [SD,bNot] at h2;simp [h2])] at h
 clear h2
 refine X.call (F40 hd hl fun e0 e1 e2 e3 e4 e5 e6 e7 e8 e9 e10 e11 r1 r2 he hr1 hr2=> ?_)
 rw [← hR] at he hr1 hr2
 rw [← hr2] at h
 obtain ⟨a0,a1,alo,aup⟩:=he
 obtain ⟨n_e1,hn_e1,hlen_e1⟩:=lenOf a1
 cbv
 repeat' (first|apply And.intro|exact fun (_:FF)=>by kernel_rfl|(intro h2;cbv)|apply Or.inl)
 ·rw [if_pos (by obtain rfl:=X.a;simp only [SD,bNot] at h2;omega)] at h
  exact h _ _ _ _ _ _ _ _ _ _ _ ⟨rfl,rfl,rfl,rfl,rfl⟩ ⟨rfl,rfl,rfl,rfl,rfl⟩ rfl
 ·rename_i g0
  rw [if_neg (by obtain rfl:=X.a;simp only [SD,bNot] at g0;simp [g0]),if_pos (by obtain rfl:=X.a;simp only [hlen_c3,hlen_e1,SD,bNot] at h2;omega)] at h
  exact h _ _ _ _ _ _ _ _ _ _ _ ⟨rfl,rfl,rfl,rfl,rfl⟩ ⟨rfl,rfl,rfl,rfl,rfl⟩ rfl
 rename_i g0
 have hlen:t.ar.length=R.1.params.length:=by obtain rfl:=X.a;simp only [hlen_c3,hlen_e1,SD,bNot] at h2;omega
 rw [if_neg (by obtain rfl:=X.a;simp only [SD,bNot] at g0;simp [g0]),if_neg (by simp [hlen])] at h
 clear g0 h2
 refine X.call (F41 a1 hnp fun r hr=> ?_)
 cbv
 repeat' (first|apply And.intro|exact fun (_:FF)=>by kernel_rfl|(intro h2;cbv)|apply Or.inl)
 refine X.call (F42 hr hc3 (by simpa using hnp) hla _ hx.lo alo fun g0 g1 g2 g3 g4 hg=> ?_)
 cbv
 repeat' (first|apply And.intro|exact fun (_:FF)=>by kernel_rfl|(intro h2;cbv)|apply Or.inl)
 refine X.call (F42 hr hc3 (by simpa using hnp) hla _ hx.up aup fun k0 k1 k2 k3 k4 hk=> ?_)
 cbv
 repeat' (first|apply And.intro|exact fun (_:FF)=>by kernel_rfl|(intro h2;cbv)|apply Or.inl)
 exact h _ _ _ _ _ _ _ _ _ _ _ hg hk rfl
end Go.VC.T07
end

section
namespace Go.VC.T07
open Go Go.VC Go.Proofs
theorem F30 {env:List IF} {de dv:D} {vs:List S} (he:de=encL encIF env) (hok:envOk env) (hv:dv=encL encS vs) (hvl:vs.length≤4294967295):
  ∀ (t:Ty),Ty.le 4294967295 t→t.size≤4294967295→∀ {c0:Int} {c1 c2:S} {c3 c4:D} {K:PV→List Ob→Prop},tyIs t c0 c1 c2 c3 c4→(∀ r:Int,r=nodesE env vs t→K (.int .i64 r) [])→FC Tryz.prog tt 30 [] [.lst 40 de,.lst 9 dv,tyPV c0 c1 c2 c3 c4] K:=by
 refine Ty.pinduct fun t ih=> ?_
 intro hle hs c0 c1 c2 c3 c4 K ht h
 obtain ⟨hszs,hpl⟩:=size_pts hs
 have ht':=ht
 obtain ⟨t0,t1,t2,hc3,hc4⟩:=ht
 refine FC.enter (G:=g30) tt_ok mixed ⟨Tryz.func30,by rfl,rfl⟩ rfl rfl rfl ?_
 intro A C L X
 have hneg:=negA X.a
 have heq:=eqA X.a
 have l3:A.len c3=Int.ofNat t.ar.length:=lenIs X.a hc3
 have hplE:∀ d':D,d'=encL encPm (typeR env c1 c2).1.params→A.len d'=Int.ofNat (typeR env c1 c2).1.params.length:=fun d' h=>lenIs X.a h
 obtain ⟨e,hne⟩:∃ e,e=nodeE env vs t:=⟨_,rfl⟩
 have hne':=hne
 unfold nodeE at hne'
 rw [← t0,←t1,←t2] at hne'
 rw [nodesE_eq,←hne] at h
 have hK:e≠0→K (.int .i64 e) []:=fun z=>h e (by rw [if_neg z])
 have q9:A.eq c0 9=true→c0=9:=by rw [heq];exact fun e=>eq_of_beq e
 have q9':A.eq c0 9=false→¬c0=9:=by rw [heq];exact fun e=>beq_eq_false_iff_ne.1 e
 have q10:A.eq c0 10=true→c0=10:=by rw [heq];exact fun e=>eq_of_beq e
 have q10':A.eq c0 10=false→¬c0=10:=by rw [heq];exact fun e=>beq_eq_false_iff_ne.1 e
 cases e9:A.eq c0 9<;>cases e10:A.eq c0 10
 all_goals try (exfalso;have:=q9 e9;have:=q10 e10;omega)
 all_goals (
  cbv
  repeat' (first|apply And.intro|exact fun (_:FF)=>by kernel_rfl|(intro h2;first|exact absurd ((e9).symm.trans h2) (by decide)|exact absurd ((e10).symm.trans h2) (by decide)|cbv)|apply Or.inl|(refine X.call (F67 hv hvl fun b hb=> ?_);cbv)|(refine X.call (F40 he hok fun _ p1 _ _ _ _ _ _ _ _ _ _ r1 r2 hx hr1 hr2=> ?_);cbv))
  all_goals try (
   have e2:A.not b=true:=by assumption
   have q:e=4:=by rw [hne',if_pos (q9 e9),←hb];rw [hneg] at e2;rw [if_neg (by intro z;rw [z] at e2;cases e2)]
   have q2:K (.int .i64 4) []:=by rw [← q];exact hK (by rw [q];decide)
   exact q2)
  all_goals try (
   have e2:A.not (A.eq r2 0)=true:=by assumption
   rw [hneg,heq,hr2] at e2
   have q:e=r2:=by rw [hne',if_neg (q9' (by assumption)),if_pos (q10 (by assumption)),if_pos (by simpa using e2),hr2]
   have q2:K (.int .i64 r2) []:=by rw [← q];exact hK (by rw [q,hr2];simpa using e2)
   exact q2)
  all_goals try (
   have e2:A.not (A.eq (A.len p1) (A.len c3))=true:=by assumption
   have e3:A.not (A.eq r2 0)=false:=by assumption
   rw [hneg,heq,hr2] at e3;rw [hneg,heq,hplE _ hx.2.1,l3] at e2
   have q:e=11:=by
    rw [hne',if_neg (q9' (by assumption)),if_pos (q10 (by assumption)),if_neg (by simpa using e3),if_pos (by intro z;rw [z] at e2;simp at e2)]
   have q2:K (.int .i64 11) []:=by rw [← q];exact hK (by rw [q];decide)
   exact q2))
 all_goals (
  have hE:e=0:=by
   rw [hne']
   first
    |rw [if_neg (q9' (by assumption)),if_neg (q10' (by assumption))]
    |(have e2:A.not b=false:=by assumption
      rw [if_pos (q9 (by assumption)),←hb];rw [hneg] at e2;rw [if_pos (by simpa using e2)])
    |(have e2:A.not (A.eq (A.len p1) (A.len c3))=false:=by assumption
      have e3:A.not (A.eq r2 0)=false:=by assumption
      rw [hneg,heq,hr2] at e3;rw [hneg,heq,hplE _ hx.2.1,l3] at e2
      rw [if_neg (q9' (by assumption)),if_pos (q10 (by assumption)),if_neg (by simpa using e3),if_neg (by
       have h2:(Int.ofNat (typeR env c1 c2).1.params.length==Int.ofNat t.ar.length)=true:=by simpa using e2
       have:=eq_of_beq h2
       simp only [Int.ofNat_eq_natCast] at this
       omega)])
  rw [if_pos hE] at h
  clear hE hK hne hne' q9 q9' q10 q10' hplE
  refine X.call (F26 hle hpl ht' fun rp hrp=> ?_)
  obtain ⟨n_rp,hn_rp,hlen_rp⟩:=lenOf hrp
  cbv
  refine X.loop (fun (i:Nat)=>⟨[(11,.int .i64 i),(10,.lst 28 rp),(1,.lst 9 dv),(0,.lst 40 de)],[]⟩)
   (fun i=>i≤n_rp∧firstE (((t.pts.take i).flatMap Ty.all).map (nodeE env vs))=0) (fun i=>n_rp-i) 0 ⟨Nat.zero_le _,rfl⟩ ?_ ?_
  ·(cbv;repeat' apply And.intro);all_goals try first|trivial|rfl|(rw [X.a];rfl)
  rintro i ⟨hi,ha⟩
  cbv
  refine ⟨fun h1=> ?_,fun h1=> ?_⟩
  ·have h5:i<t.pts.length:=by obtain rfl:=X.a;simp only [hlen_rp,SD,bNot] at h1;omega
   have k1:=tyAt X.a hrp h5
   have hid:A.idx (Int.ofNat i) (A.len rp):=by rw [X.a,hrp];exact leaf_idx h5
   have hin:A.inr .i64 (A.add (Int.ofNat i) 1):=by rw [X.a];exact leaf_inc h5 (by omega)
   have e2:t.pts.flatMap Ty.all=(t.pts.take (i+1)).flatMap Ty.all++(t.pts.drop (i+1)).flatMap Ty.all:=by rw [← List.flatMap_append,List.take_append_drop]
   have hst:firstE (((t.pts.take (i+1)).flatMap Ty.all).map (nodeE env vs))=nodesE env vs t.pts[i]:=by
    rw [flat_take h5,List.map_append,firstE_app,ha,if_pos rfl];rfl
   cbv
   repeat' (first|apply And.intro|exact fun (_:FF)=>by kernel_rfl|(intro h2;cbv)|apply Or.inl)
   all_goals (try exact hid)
   refine X.call (ih _ (List.getElem_mem h5) (pts_le hle _ (List.getElem_mem h5)) (hszs _ (List.getElem_mem h5)) k1 fun e1 he1=> ?_)
   rw [← he1] at hst
   have g1:A.not (A.eq e1 0)=true→K (.int .i64 e1) []:=by
    rw [hneg,heq]
    intro z
    exact h _ (by rw [e2,List.map_append,firstE_app,hst,if_neg (by simpa using z)])
   have g2:A.not (A.eq e1 0)=false→e1=0:=by rw [hneg,heq];intro z;simpa using z
   cbv
   repeat' (first|apply And.intro|exact fun (_:FF)=>by kernel_rfl|(intro h2;cbv)|apply Or.inl)
   all_goals (try exact hin)
   all_goals first
    |exact g1 (by assumption)
    |(refine ⟨i+1,⟨by omega,hst.trans (g2 (by assumption))⟩,by omega,?_⟩;(cbv;repeat' apply And.intro);all_goals try first|trivial|rfl|(rw [X.a];rfl))
  ·have h5:i=n_rp:=by obtain rfl:=X.a;simp only [hlen_rp,SD,bNot] at h1;omega
   have q:=h 0 (by rw [h5,hn_rp,List.take_length] at ha;exact ha.symm)
   cbv
   exact q)
theorem F11 {env:List IF} {de dv:D} {vs:List S} (he:de=encL encIF env) (hok:envOk env) (hv:dv=encL encS vs) (hvl:vs.length≤4294967295)
  {t:Ty} (hle:Ty.le 4294967295 t) (hs:t.size≤4294967295) (hn:∀ u∈t.all,u.nod) {c0:Int} {c1 c2:S} {c3 c4:D} {K:PV→List Ob→Prop} (ht:tyIs t c0 c1 c2 c3 c4) (h:∀ r:Int,r=wfE env vs t→K (.int .i64 r) []):
  FC Tryz.prog tt 11 [] [.lst 40 de,.lst 9 dv,tyPV c0 c1 c2 c3 c4] K:=by
 refine FC.enter (G:=g11) tt_ok mixed ⟨Tryz.func11,by rfl,rfl⟩ rfl rfl rfl ?_
 intro A C L X
 have hneg:=negA X.a
 have heq:=eqA X.a
 cbv
 refine X.call (F29 hle hs hn ht fun e0 he0=> ?_)
 rw [wfE,←he0] at h
 cbv
 repeat' (first|apply And.intro|exact fun (_:FF)=>by kernel_rfl|(intro h2;cbv)|apply Or.inl)
 ·have h2:A.not (A.eq e0 0)=true:=h2
  rw [hneg,heq] at h2
  exact h _ (by rw [if_pos (by simpa using h2)])
 have h2:A.not (A.eq e0 0)=false:=h2
 rw [hneg,heq] at h2
 rw [if_neg (by simpa using h2)] at h
 refine X.call (F30 he hok hv hvl t hle hs ht fun e1 he1=> ?_)
 cbv
 exact h _ he1
theorem F3 {env:List IF} {de:D} (he:de=encL encIF env) (hok:envOk env) (hfit:∀ i∈env,i.fit) {vs:List S} {dv:D} (hv:dv=encL encS vs) (hvl:vs.length≤4294967295)
  {t:Ty} {b0:Int} {b1 b2:S} {b3 b4:D} (ht:tyIs t b0 b1 b2 b3 b4) (htf:t.fit) (hwt:(env.map IF.wt).sum≤268435456) {K:PV→List Ob→Prop} (h:K (.bool true) []):
  FC Tryz.prog tt 3 [] [.lst 40 de,.lst 9 dv,tyPV b0 b1 b2 b3 b4] K:=by
 have hts:t.size≤4294967295:=Nat.le_trans htf.sz (by decide)
 refine FC.enter (G:=g3) tt_ok mixed ⟨Tryz.func3,by rfl,rfl⟩ rfl rfl rfl ?_
 intro A C L X
 have hneg:=negA X.a
 have heq:=eqA X.a
 have hnt:A.not true=false:=by rw [X.a];rfl
 cbv
 refine X.call (F7 ?_)
 cbv
 repeat' (first|apply And.intro|exact fun (_:FF)=>by kernel_rfl|(intro h2;first|exact absurd ((hnt).symm.trans h2) (by decide)|cbv)|apply Or.inl|(refine X.call (F8 he hok (Nat.le_trans hwt (by decide)) fun r hr=> ?_);cbv)|(refine X.call (F9c htf.le hts ht fun r2 hr2=> ?_);cbv)|(refine X.call (F9c htf.le hts ht fun r3 hr3=> ?_);cbv))
 all_goals first
  |exact h
  |(refine X.call (F10 he hok hv hvl htf.le hts htf.nod ht fun x hx=> ?_)
    cbv
    refine X.call (F11 he hok hv hvl htf.le hts htf.nod ht fun y hy=> ?_)
    have q:K (.bool (A.eq x y)) []:=by rw [heq,hx,hy,beq_self_eq_true];exact h
    cbv
    exact q)
end Go.VC.T07
end

section
namespace Go.VC
theorem filt_take {α:Type} {p:α→Bool} {l:List α} {i:Nat} (h:i<l.length):(l.take (i+1)).filter p=(l.take i).filter p++(if p l[i] then [l[i]] else []):=by
 rw [take_succ' h,List.filter_append];simp [List.filter_cons]
end Go.VC
namespace Go.VC.T07
open Go Go.VC Go.Proofs
end Go.VC.T07
end

section
namespace Go.VC
def atI (l:List IF) (i:IF):Nat:=(l.findIdx? fun x=>slt i.path x.path).getD l.length
def addI (env:List IF) (i:IF):List IF:=(env.filter fun x=>x.path != i.path).take (atI (env.filter fun x=>x.path != i.path) i)++i::(env.filter fun x=>x.path != i.path).drop (atI (env.filter fun x=>x.path != i.path) i)
end Go.VC
namespace Go.VC.T07
open Go Go.VC Go.Proofs
end Go.VC.T07
end

section
namespace Go.VC
theorem atI_of {l:List IF} {x:IF} {i:Nat} (hi:i≤l.length) (hne:∀ y∈l,y.path≠x.path) (ha:∀ y∈l.take i,slt y.path x.path=true) (hb:∀ hi:i<l.length,slt l[i].path x.path=false):atI l x=i:=by
 unfold atI
 rcases Nat.lt_or_eq_of_le hi with h|rfl
 ·have:l.findIdx? (fun y=>slt x.path y.path)=some i:=by
   rw [List.findIdx?_eq_some_iff_getElem]
   refine ⟨h,?_,fun j hj=> ?_⟩
   ·cases hs:slt x.path l[i].path with
    |true=>rfl
    |false=>exact absurd (slt_tri (hb h) hs) (hne _ (List.getElem_mem h))
   ·have:=slt_asymm (ha l[j] (by rw [List.mem_take_iff_getElem];exact ⟨j,by omega,rfl⟩))
    simp [this]
  rw [this];rfl
 ·have:l.findIdx? (fun y=>slt x.path y.path)=none:=by
   rw [List.findIdx?_eq_none_iff]
   intro y hy
   exact slt_asymm (ha y (by rw [List.take_length];exact hy))
  rw [this];rfl
theorem addI_of {env l:List IF} {x:IF} {i:Nat} (hi:i≤l.length) (hl:l=env.filter fun y=>y.path != x.path) (ha:∀ y∈l.take i,slt y.path x.path=true) (hb:∀ hi:i<l.length,slt l[i].path x.path=false):
  l.take i++x::l.drop i=addI env x:=by
 unfold addI
 rw [← hl,atI_of hi (fun y hy=>by rw [hl,List.mem_filter] at hy;simpa using hy.2) ha hb]
end Go.VC
namespace Go.VC.T07
open Go Go.VC Go.Proofs
def g31a:Cfg:={tt:=tt,n:=29,own:=[7]}
theorem F31 {env:List IF} {d:D} {s:S} {K:PV→List Ob→Prop} (hd:d=encL encIF env) (hn:env.length≤4294967290)
  (h:∀ r,r=encL encIF (env.filter fun i=>i.path != s)→K (.lst 40 r) []):
  FC Tryz.prog tt 31 [] [.lst 40 d,.str s] K:=by
 refine FC.enter (G:=g31a) tt_ok mixed ⟨Tryz.func31,by rfl,rfl⟩ rfl rfl rfl ?_
 intro A C L X
 obtain ⟨n_d,hn_d,hlen_d⟩:=lenOf hd
 cbv
 refine X.loopP (fun (y:Nat×D)=>⟨[(6,.int .i64 y.1),(0,.lst 40 d),(1,.str s),(5,.row 40 0)],[.row 40 y.2 true]⟩)
  (fun y=>y.1≤n_d∧y.2=encL encIF ((env.take y.1).filter fun i=>i.path != s)) (fun y=>n_d-y.1) (0,A.lit []) ⟨Nat.zero_le _,by rw [X.a];rfl⟩ ?_ ?_
 ·refine ⟨[0],rfl,?_⟩
  (cbv;repeat' apply And.intro);all_goals try first|trivial|rfl|(rw [X.a];rfl)
 rintro ⟨i,r⟩ ⟨hi,hr⟩
 simp only at hi hr
 cbv
 refine ⟨fun h1=> ?_,fun h1=> ?_⟩
 ·have h5:i<env.length:=by obtain rfl:=X.a;simp only [hlen_d,SD,bNot] at h1;omega
  have k1:=ifIsAt X.a hd h5
  have hid:A.idx (Int.ofNat i) (A.len d):=by rw [X.a,hd];exact leaf_idx h5
  have hin:A.inr .i64 (A.add (Int.ofNat i) 1):=by rw [X.a];exact leaf_inc h5 (by omega)
  have hft:=filt_take (p:=fun i=>i.path != s) h5
  have hfl:((env.take i).filter fun i=>i.path != s).length≤i:=Nat.le_trans (List.length_filter_le _ _) (by simp;omega)
  have heq:A.seq (A.asStr (A.cell d (Int.ofNat i) 0)) s=(env[i].path==s):=by rw [k1.1,X.a];rfl
  obtain ⟨he0,he1,he2,he3,he4⟩:=k1
  have hb2:A.bnd (A.add (A.len r) (A.len (A.lit [[.str (A.asStr (A.cell d (Int.ofNat i) 0)),A.cell d (Int.ofNat i) 1,A.cell d (Int.ofNat i) 2,A.cell d (Int.ofNat i) 3,A.cell d (Int.ofNat i) 4]]))) 4294967296:=by
   rw [X.a,hr];simp only [SD,bNot];omega
  have q1:A.app r (A.lit [[.str (A.asStr (A.cell d (Int.ofNat i) 0)),A.cell d (Int.ofNat i) 1,A.cell d (Int.ofNat i) 2,A.cell d (Int.ofNat i) 3,A.cell d (Int.ofNat i) 4]])=encL encIF ((env.take i).filter (fun i=>i.path != s)++[env[i]]):=by
   rw [he0,he1,he2,he3,he4,X.a,hr]
   exact Std_app (k:=[env[i]])
  cbv
  repeat' (first|apply And.intro|exact fun (_:FF)=>by kernel_rfl|(intro h2;cbv)|apply Or.inl)
  any_goals exact hid
  any_goals exact hin
  any_goals exact hb2
  ·have e:(env[i].path != s)=true:=by rw [bne,←heq];obtain rfl:=X.a;simpa only [SD,bNot] using h2
   rw [if_pos e] at hft
   have q2:=q1.trans (by rw [← hft])
   refine ⟨(i+1,_),⟨?_,q2⟩,?_,[0],rfl,?_⟩
   ·simp only;omega
   ·simp only;omega
   (cbv;repeat' apply And.intro);all_goals try first|trivial|rfl|(rw [X.a];rfl)
  ·rename_i g1
   have e:(env[i].path != s)=false:=by rw [bne,←heq];obtain rfl:=X.a;simpa only [SD,bNot] using g1
   rw [e] at hft
   refine ⟨(i+1,r),⟨?_,?_⟩,?_,[0],rfl,?_⟩
   ·simp only;omega
   ·simp only;rw [hr,hft];simp
   ·simp only;omega
   (cbv;repeat' apply And.intro);all_goals try first|trivial|rfl|(rw [X.a];rfl)
 have h5:i=n_d:=by obtain rfl:=X.a;simp only [hlen_d,SD,bNot] at h1;omega
 subst h5
 rw [hn_d,List.take_length] at hr
 have q:=h r hr
 cbv
 exact q
def g14a:Cfg:={tt:=tt,n:=39,sch:=g14.sch,own:=[27]}
theorem F14 {env:List IF} {d:D} {x:IF} {c0:S} {c1 c2 c3 c4:D} {K:PV→List Ob→Prop} (hd:d=encL encIF env) (hn:env.length≤4294967290) (hx:ifIs x c0 c1 c2 c3 c4)
  (h:∀ r,r=encL encIF (addI env x)→K (.lst 40 r) []):
  FC Tryz.prog tt 14 [] [.lst 40 d,ifPV c0 c1 c2 c3 c4] K:=by
 have k0:=hx.1
 refine FC.enter (G:=g14a) tt_ok mixed ⟨Tryz.func14,by rfl,rfl⟩ rfl rfl rfl ?_
 intro A C L X
 obtain ⟨l,hl0⟩:∃ l,l=env.filter fun y=>y.path != x.path:=⟨_,rfl⟩
 have hll:l.length≤env.length:=by rw [hl0];exact List.length_filter_le _ _
 cbv
 refine X.call (F31 (s:=c0) hd hn fun r hr=> ?_)
 rw [k0,←hl0] at hr
 obtain ⟨n_r,hn_r,hlen_r⟩:=lenOf hr
 cbv
 refine X.loop (fun (i:Nat)=>⟨[(6,.int .i64 i),(5,.lst 40 r),(3,.box 0 0)],[.box [.str c0,.lst 51 c1,.lst 101 c2,.lst 106 c3,.lst 119 c4]]⟩) (fun i=>i≤n_r∧∀ y∈l.take i,slt y.path x.path=true) (fun i=>n_r-i) 0 ⟨Nat.zero_le _,by simp⟩ ?_ ?_
 ·(cbv;repeat' apply And.intro);all_goals try first|trivial|rfl|(rw [X.a];rfl)
 rintro i ⟨hi,ha⟩
 cbv
 have b1:A.bnd (Int.ofNat i) (A.len r):=by rw [X.a,hlen_r];simp only [SD,bNot];omega
 have b2:A.bnd 0 (Int.ofNat i):=by rw [X.a];simp only [SD,bNot];omega
 have b3:A.bnd (A.len r) (A.len r):=by rw [X.a,hlen_r];simp only [SD,bNot];omega
 have hys:([.str c0,c1,c2,c3,c4]:List D)=encIF x:=by obtain ⟨a0,a1,a2,a3,a4⟩:=hx;rw [a0,a1,a2,a3,a4];rfl
 have b4:=bnd1 (i:=i) X.a hr (by omega)
 have b5:=bnd2 (i:=i) (ys:=[.str c0,c1,c2,c3,c4]) X.a hr (by omega)
 have b6:=bnd3 X.a hr (by omega:i≤l.length) (by omega) hys
 have e3:=app3 (i:=i) X.a hr hys
 have q:=fun h1=>h _ (e3.trans (by rw [addI_of (by omega) hl0 ha h1]))
 refine ⟨fun (_:False→False)=>by kernel_rfl,fun h1=> ?_,fun h1=> ?_⟩
 ·have h5:i<l.length:=by obtain rfl:=X.a;simp only [hlen_r,SD,bNot] at h1;omega
  have k1:=ifIsAt X.a hr h5
  have hlt:A.slt (A.asStr (A.cell r (Int.ofNat i) 0)) c0=slt l[i].path x.path:=by rw [k1.1,k0,X.a];rfl
  have hlt0:A.lt (Int.ofNat i) (A.len r)=true:=h1
  have hid:A.idx (Int.ofNat i) (A.len r):=by rw [X.a,hr];exact leaf_idx h5
  have hin:A.inr .i64 (A.add (Int.ofNat i) 1):=by rw [X.a];exact leaf_inc h5 (by omega)
  cbv
  repeat' (first|apply And.intro|exact fun (_:FF)=>by kernel_rfl|(intro h2;cbv)|apply Or.inl)
  any_goals exact hid
  any_goals exact hin
  any_goals exact b1
  any_goals exact b2
  any_goals exact b3
  any_goals exact b4
  any_goals exact b5
  any_goals exact b6
  ·refine ⟨i+1,⟨by omega,?_⟩,by omega,?_⟩
   ·rename_i h3
    have h4:slt l[i].path x.path=true:=hlt.symm.trans h3
    rw [take_succ' h5];intro y hy
    rcases List.mem_append.1 hy with hy|hy
    ·exact ha y hy
    ·simp at hy;subst hy;exact h4
   (cbv;repeat' apply And.intro);all_goals try first|trivial|rfl|(rw [X.a];rfl)
  all_goals first
   |exact q (fun _=>hlt.symm.trans h2)
   |trace_state
 ·have h5:i=n_r:=by obtain rfl:=X.a;simp only [hlen_r,SD,bNot] at h1;omega
  have q:=q (fun _=>by omega)
  cbv
  repeat' (first|apply And.intro|exact fun (_:FF)=>by kernel_rfl|(intro h2;cbv)|apply Or.inl)
  any_goals exact b1
  any_goals exact b2
  any_goals exact b3
  any_goals exact b4
  any_goals exact b5
  any_goals exact b6
  all_goals first
   |exact q
   |trace_state
end Go.VC.T07
end

section
namespace Go.VC
theorem firstE_z:∀ {l:List Int},firstE l=0↔∀ e∈l,e=0
 |[]=>by simp [firstE]
 |e::l=>by
  rw [firstE_cons]
  by_cases h:e=0
  ·rw [if_pos h,firstE_z];simp [h]
  ·rw [if_neg h];simp [h]
theorem find_filt {env:List IF} {p q:S} (h:q≠p):findI (env.filter fun y=>y.path != p) q=findI env q:=by
 unfold findI
 induction env with
 |nil=>rfl
 |cons y l ih=>
  rw [List.filter_cons,List.find?_cons]
  by_cases hy:y.path=q
  ·have h1:(y.path==q)=true:=by simpa using hy
   have h2:(y.path != p)=true:=by rw [hy];simpa using h
   rw [if_pos h2,List.find?_cons,h1]
  ·have h1:(y.path==q)=false:=by simpa using hy
   rw [h1]
   by_cases h2:(y.path != p)=true
   ·rw [if_pos h2,List.find?_cons,h1];exact ih
   ·rw [if_neg h2];exact ih
theorem find_app {l m:List IF} {q:S}:findI (l++m) q=(findI l q).or (findI m q):=by unfold findI;rw [List.find?_append]
theorem find_addI_ne {env:List IF} {x:IF} {q:S} (h:q≠x.path):findI (addI env x) q=findI env q:=by
 refine Eq.trans ?_ (find_filt (p:=x.path) h)
 unfold addI
 obtain ⟨l,hl⟩:∃ l,l=env.filter fun y=>y.path != x.path:=⟨_,rfl⟩
 rw [← hl]
 have hx:findI (x::l.drop (atI l x)) q=findI (l.drop (atI l x)) q:=by
  unfold findI
  rw [List.find?_cons,show (x.path==q)=false by simp;exact fun e=>h e.symm]
 rw [find_app,hx,←find_app,List.take_append_drop]
def Sube (env more:List IF):Prop:=∀ p i,findI env p=some i→findI more p=some i
theorem sube_add {env:List IF} {x:IF} (h:findI env x.path=none):Sube env (addI env x):=by
 intro p i hp
 have:p≠x.path:=fun e=>by rw [e,h] at hp;cases hp
 rw [find_addI_ne this,hp]
def Endd:End→Bool
 | .typ _ _ _=>true
 | .val _ _ _=>true
 |_=>false
theorem endI_mono {env more:List IF} (h:Sube env more):∀ (k:Nat) (m n:S),Endd (endI env k m n)=true→endI more k m n=endI env k m n
 |0,m,n,he=>by rw [endI] at he;cases he
 |k+1,m,n,he=>by
  have hl:look' more m n=look' env m n:=by
   cases hf:findI env m with
   |none=>
    have:look' env m n= .none:=by unfold look';rw [hf]
    rw [endI,this] at he;cases he
   |some i=>unfold look';rw [hf,h _ _ hf]
  rw [endI,endI,hl]
  rw [endI] at he
  cases hx:look' env m n with
  |none=>rfl
  |noali=>rfl
  |typ x=>rfl
  |val x=>rfl
  |ali x=>rw [hx] at he;exact endI_mono h k _ _ he
theorem typeR_mono {env more:List IF} (h:Sube env more) {m n:S} (he:(typeR env m n).2.2=0):typeR more m n=typeR env m n:=by
 have hd:Endd (endI env 65 m n)=true:=by
  unfold typeR at he
  cases hx:endI env 65 m n<;>rw [hx] at he<;>first|rfl|cases he
 unfold typeR
 rw [endI_mono h _ _ _ hd]
theorem valueR_mono {env more:List IF} (h:Sube env more) {m n:S} (he:(valueR env m n).2.2=0):valueR more m n=valueR env m n:=by
 have hd:Endd (endI env 65 m n)=true:=by
  unfold valueR at he
  cases hx:endI env 65 m n<;>rw [hx] at he<;>first|rfl|cases he
 unfold valueR
 rw [endI_mono h _ _ _ hd]
def RefOk (env more:List IF) (t:Ty):Prop:=∀ u∈t.all,u.k=10→typeR more u.m u.n=typeR env u.m u.n
theorem nodesE_z {env:List IF} {vs:List S} {t:Ty} (h:nodesE env vs t=0):∀ u∈t.all,nodeE env vs u=0:=by
 intro u hu
 exact firstE_z.1 h _ (List.mem_map.2 ⟨u,hu,rfl⟩)
theorem nodeE_ref {env:List IF} {vs:List S} {u:Ty} (h:nodeE env vs u=0) (hk:u.k=10):(typeR env u.m u.n).2.2=0∧(typeR env u.m u.n).1.params.length=u.ar.length:=by
 unfold nodeE at h
 rw [if_neg (by rw [hk];decide),if_pos hk] at h
 by_cases e:(typeR env u.m u.n).2.2=0
 ·rw [if_neg (by simpa using e)] at h
  by_cases e2:(typeR env u.m u.n).1.params.length=u.ar.length
  ·exact ⟨e,e2⟩
  ·rw [if_pos e2] at h;cases h
 ·rw [if_pos e] at h;exact absurd h e
theorem wfE_0 {env:List IF} {vs:List S} {t:Ty}:wfE env vs t=0↔ckE t=0∧nodesE env vs t=0:=by
 unfold wfE
 by_cases e:ckE t=0
 ·rw [if_neg (by simpa using e)];simp [e]
 ·rw [if_pos e];simp [e]
theorem wfE_ref {env more:List IF} (hs:Sube env more) {vs:List S} {t:Ty} (h:wfE env vs t=0):RefOk env more t:=by
 intro u hu hk
 exact typeR_mono hs (nodeE_ref (nodesE_z (wfE_0.1 h).2 u hu) hk).1
theorem wfE_mono {env more:List IF} (hs:Sube env more) {vs:List S} {t:Ty} (h:wfE env vs t=0):wfE more vs t=0:=by
 have hr:=wfE_ref hs h
 obtain ⟨h1,h2⟩:=wfE_0.1 h
 refine wfE_0.2 ⟨h1,?_⟩
 refine firstE_z.2 fun e he=> ?_
 obtain ⟨u,hu,rfl⟩:=List.mem_map.1 he
 have h3:=nodesE_z h2 u hu
 unfold nodeE at h3 ⊢
 by_cases hk:u.k=10
 ·rw [hr u hu hk];exact h3
 ·by_cases h9:u.k=9
  ·rw [if_pos h9] at h3 ⊢;exact h3
  ·rw [if_neg h9,if_neg hk]
theorem occL_congr {env more:List IF} {x:S}:∀ {l:List Ty},(∀ t∈l,occ more x t=occ env x t)→occL more x l=occL env x l
 |[],_=>rfl
 |t::l,h=>by rw [occL,occL,h t (by simp),occL_congr fun u hu=>h u (by simp [hu])]
theorem occA_congr {env more:List IF} {x:S} {ps:List Pm}:∀ {i:Nat} {l:List Ty},(∀ t∈l,occ more x t=occ env x t)→occA more x ps i l=occA env x ps i l
 |_,[],_=>rfl
 |i,t::l,h=>by rw [occA,occA,h t (by simp),occA_congr fun u hu=>h u (by simp [hu])]
theorem occF_congr {env more:List IF} {x:S} {sw:Bool}:∀ {l:List Fe},(∀ f∈l,occ more x f.t=occ env x f.t)→occF more x sw l=occF env x sw l
 |[],_=>rfl
 | .mk s t b::l,h=>by
  have h1:occ more x t=occ env x t:=h (.mk s t b) (by simp)
  rw [occF,occF,h1,occF_congr fun u hu=>h u (by simp [hu])]
theorem occ_congr {env more:List IF} {x:S}:∀ (t:Ty),RefOk env more t→occ more x t=occ env x t:=by
 refine Ty.pinduct fun t ih=> ?_
 intro hr
 have hp:∀ u∈t.pts,occ more x u=occ env x u:=fun u hu=>ih u hu fun v hv=>hr v (pts_all hu hv)
 cases t with
 |mk k m n ar fl=>
  rw [occ,occ]
  by_cases h9:k=9
  ·rw [if_pos h9,if_pos h9]
  ·rw [if_neg h9,if_neg h9]
   have ha:∀ u∈ar,occ more x u=occ env x u:=fun u hu=>hp u (List.mem_append_left _ hu)
   have hf:∀ f∈fl,occ more x f.t=occ env x f.t:=fun f hf=>hp f.t (List.mem_append_right _ (List.mem_map.2 ⟨f,hf,rfl⟩))
   by_cases h10:k=10
   ·rw [if_pos h10,if_pos h10,show typeR more m n=typeR env m n from hr _ (self_all _) h10]
    exact occA_congr ha
   ·rw [if_neg h10,if_neg h10,occL_congr ha,occF_congr hf]
theorem respF_congr {env more:List IF} {t:Ty} (h:RefOk env more t):∀ {ps:List Pm} {seen:List S},respF more t seen ps=respF env t seen ps
 |[],_=>rfl
 |p::l,seen=>by rw [respF,respF,occ_congr t h,respF_congr h,respF_congr h]
theorem valL_mono {env more:List IF} (hs:Sube env more) {vs:List S}:∀ {k:Nat} {l:List Pm},valL env vs k l=0→valL more vs k l=0
 |_,[],_=>rfl
 |k,p::l,h=>by
  rw [valL] at h ⊢
  by_cases e:wfE env (vs.take k) p.bound=0
  ·rw [if_neg (by simpa using e)] at h
   rw [if_neg (by simpa using wfE_mono hs e)]
   exact valL_mono hs h
  ·rw [if_pos e] at h;exact absurd h e
theorem typE_mono {env more:List IF} (hs:Sube env more) {i:IF} {x:TE} (h:typE env i x=0):typE more i x=0:=by
 obtain ⟨h1,h2,h3,h4,h5,h6⟩:=typE_0 h
 unfold typE
 rw [if_neg (by simpa using h6)]
 rw [show firstE [wfE more (x.params.map Pm.name) x.lower,wfE more (x.params.map Pm.name) x.upper]=0 by rw [wfE_mono hs h1,wfE_mono hs h2];rfl,if_neg (by decide)]
 rw [respF_congr (wfE_ref hs h1),respF_congr (wfE_ref hs h2),h3,h4,h5]
 rfl
theorem valE_mono {env more:List IF} (hs:Sube env more) {x:VE} (h:valE env x=0):valE more x=0:=by
 unfold valE at h ⊢
 by_cases e:paramE wrongV x.params=0
 ·rw [if_neg (by simpa using e)] at h ⊢
  by_cases e2:valL env (x.params.map Pm.name) 0 x.params=0
  ·rw [if_neg (by simpa using e2)] at h
   rw [if_neg (by simpa using valL_mono hs e2)]
   exact wfE_mono hs h
  ·rw [if_pos e2] at h;exact absurd h e2
 ·rw [if_pos e] at h;exact absurd h e
theorem aliasE_mono {env more:List IF} (hs:Sube env more) {x:AE} (h:aliasE env x=0):aliasE more x=0:=by
 unfold aliasE at h ⊢
 split
 ·rename_i e;rw [if_pos e] at h;rw [typeR_mono hs h];exact h
 ·rename_i e;rw [if_neg e] at h
  split
  ·rename_i e2;rw [if_pos e2] at h;rw [valueR_mono hs h];exact h
  ·rename_i e2;rw [if_neg e2] at h;cases h
theorem IfOk.mono {env more:List IF} (hs:Sube env more) {i:IF} (h:IfOk env i):IfOk more i:=
 ⟨h.head,h.names,h.diff,fun x hx=>typE_mono hs (h.t x hx),fun x hx=>valE_mono hs (h.v x hx),fun x hx=>aliasE_mono hs (h.a x hx),h.notes⟩
theorem ifaceE_mono {env more:List IF} (hs:Sube env more) {p:S} (h:(ifaceE env p).2=0):(ifaceE more p).2=0:=by
 unfold ifaceE at h ⊢
 cases hf:findI env p with
 |none=>rw [hf] at h;cases h
 |some i=>
  rw [hf] at h
  rw [hs _ _ hf]
  show (ifaceI more i).2=0
  rw [((ifaceI_0 h).1.mono hs).iface]
end Go.VC
end

section
namespace Go.VC
theorem addI_mem {env:List IF} {x y:IF} (h:y∈addI env x):y=x∨y∈env:=by
 unfold addI at h
 rcases List.mem_append.1 h with h|h
 ·exact .inr (List.mem_filter.1 (List.mem_of_mem_take h)).1
 ·rcases List.mem_cons.1 h with h|h
  ·exact .inl h
  ·exact .inr (List.mem_filter.1 (List.mem_of_mem_drop h)).1
theorem addI_len (env:List IF) (x:IF):(addI env x).length≤env.length+1:=by
 unfold addI
 have:=List.length_filter_le (fun y:IF=>y.path != x.path) env
 simp only [List.length_append,List.length_take,List.length_cons,List.length_drop]
 omega
end Go.VC
namespace Go.VC.T07
open Go Go.VC Go.Proofs
def g12a:Cfg:={tt:=tt,n:=8,own:=[2,5]}
theorem F12 {α:Type} {f:α→List D} {l:List α} {d:D} {K:PV→List Ob→Prop} (hd:d=encL f l) (hl:l.length<4294967296)
  (h:∀ r,r=encL f l→K (.row 40 0) [.row 40 r true]):
  FC Tryz.prog tt 12 [] [.lst 40 d] K:=by
 refine FC.enterOwn (G:=g12a) tt_ok mixed ⟨Tryz.func12,by rfl,rfl⟩ rfl rfl rfl ?_
 intro A C L X
 obtain ⟨n_d,hn_d,hlen_d⟩:=lenOf hd
 cbv
 intro b hb
 cbv
 repeat' (first|apply And.intro|exact fun (_:FF)=>by kernel_rfl|(intro h2;cbv)|apply Or.inl)
 ·refine h _ ?_
  obtain rfl:=X.a
  have hb:=hb h2
  rw [Std_same,hlen_d,hn_d] at hb
  have:l=[]:=List.eq_nil_of_length_eq_zero (by simp only [Int.ofNat_eq_natCast] at hb;omega)
  rw [this];rfl
 ·obtain rfl:=X.a;simp only [SD,bNot,hlen_d];omega
 ·refine h _ ?_
  obtain rfl:=X.a
  rw [hd]
  exact Std_app (l:=[])
theorem F4 {env:List IF} {de:D} (he:de=encL encIF env) (hok:envOk env) (hfit:∀ i∈env,i.fit) (hwt:(env.map IF.wt).sum≤268435456) {i:IF} {c0:S} {c1 c2 c3 c4:D} (hx:ifIs i c0 c1 c2 c3 c4) (hif:i.fit) (hiw:i.wt≤268435456)
  {vs:List S} {dv:D} (hv:dv=encL encS vs) (hvl:vs.length≤4294967295) {t:Ty} {b0:Int} {b1 b2:S} {b3 b4:D} (ht:tyIs t b0 b1 b2 b3 b4) (htf:t.fit) {K:PV→List Ob→Prop} (h:K (.bool true) []):
  FC Tryz.prog tt 4 [] [.lst 40 de,ifPV c0 c1 c2 c3 c4,.lst 9 dv,tyPV b0 b1 b2 b3 b4] K:=by
 have hln:env.length≤268435456:=by
  refine Nat.le_trans ?_ hwt
  have:∀ l:List IF,l.length≤(l.map IF.wt).sum:=by
   intro l
   induction l with
   |nil=>simp
   |cons x l ih=>simp only [List.map_cons,List.sum_cons,List.length_cons,IF.wt] at ih ⊢;omega
  exact this env
 have hts:t.size≤4294967295:=Nat.le_trans htf.sz (by decide)
 have hok2:envOk (env++[i]):=⟨by simp;omega,fun y hy=>by
  rcases List.mem_append.1 hy with hy|hy
  ·exact hok.2 y hy
  ·simp at hy;subst hy;exact hif.ok⟩
 have hwt2:((env++[i]).map IF.wt).sum≤4294967280:=by simp only [List.map_append,List.sum_append,List.map_cons,List.map_nil,List.sum_cons,List.sum_nil];omega
 have hokm:envOk (addI env i):=⟨by have:=addI_len env i;omega,fun y hy=>by
  rcases addI_mem hy with rfl|hy
  ·exact hif.ok
  ·exact hok.2 y hy⟩
 have hfitm:∀ y∈addI env i,y.fit:=fun y hy=>by
  rcases addI_mem hy with rfl|hy
  ·exact hif
  ·exact hfit y hy
 refine FC.enter (G:=g4) tt_ok mixed ⟨Tryz.func4,by rfl,rfl⟩ rfl rfl rfl ?_
 intro A C L X
 have hneg:=negA X.a
 have heq:=eqA X.a
 have hnt:A.not true=false:=by rw [X.a];rfl
 have hlit:A.lit [[.str c0,c1,c2,c3,c4]]=encL encIF [i]:=by
  obtain ⟨rfl,rfl,rfl,rfl,rfl⟩:=hx
  rw [X.a];rfl
 have hA:∀ r0,r0=encL encIF env→A.app r0 (A.lit [[.str c0,c1,c2,c3,c4]])=encL encIF (env++[i]):=by
  intro r0 e;rw [e,hlit,X.a];exact Std_app
 have hB:∀ r0,r0=encL encIF env→A.bnd (A.add (A.len r0) (A.len (A.lit [[.str c0,c1,c2,c3,c4]]))) 4294967296:=by
  intro r0 e;rw [e,hlit];exact bndOf X.a rfl rfl (by simp;omega)
 cbv
 refine X.call (F7 ?_)
 cbv
 repeat' (first|apply And.intro|exact fun (_:FF)=>by kernel_rfl|(intro h2;first|exact absurd ((hnt).symm.trans h2) (by decide)|cbv)|apply Or.inl)
 refine X.cut (fun (z:Bool)=>⟨[(36,.bool z),(5,.box 0 0),(7,.box 1 0),(0,.lst 40 de),(2,.lst 9 dv)],[.box [.str c0,.lst 51 c1,.lst 101 c2,.lst 106 c3,.lst 119 c4],.box [.int .i64 b0,.str b1,.str b2,.lst 28 b3,.lst 65 b4]]⟩) (fun _=>True) ?_ ?_
 ·cbv
  repeat' (first|apply And.intro|exact fun (_:FF)=>by kernel_rfl|(intro h2;cbv)|apply Or.inl|(refine X.call (F12 he (by omega) fun r0 hr0=> ?_);cbv)|(refine X.call (F8 (hA _ hr0) hok2 hwt2 fun r1 hr1=> ?_);cbv)|(refine X.call (F9c htf.le hts ht fun r2 hr2=> ?_);cbv))
  all_goals (try exact hB _ hr0)
  all_goals first
   |((refine ⟨A.lt 8 (A.len dv),trivial,[0,1],rfl,?_⟩;(cbv;repeat' apply And.intro);all_goals try first|trivial|rfl|(rw [X.a];rfl));done)
   |((refine ⟨true,trivial,[0,1],rfl,?_⟩;(cbv;repeat' apply And.intro);all_goals try first|trivial|rfl|(rw [X.a];rfl));done)
   |((refine ⟨false,trivial,[0,1],rfl,?_⟩;(cbv;repeat' apply And.intro);all_goals try first|trivial|rfl|(rw [X.a];rfl));done)
 rintro z-
 cbv
 repeat' (first|apply And.intro|exact fun (_:FF)=>by kernel_rfl|(intro h2;cbv)|apply Or.inl)
 ·exact h
 refine X.call (F13 he hok.1 hx.1 fun e0 e1 e2 e3 e4 b hb1 hb=> ?_)
 cbv
 repeat' (first|apply And.intro|exact fun (_:FF)=>by kernel_rfl|(intro h2;cbv)|apply Or.inl)
 ·exact h
 have hnone:findI env i.path=none:=by
  have:b=false:=by assumption
  rw [hb] at this;simpa using this
 have hsub:=sube_add hnone
 have hl:=fun e:wfE env vs t=0=>wfE_mono hsub e
 have hln:=addI_len env i
 refine X.call (F14 he (by omega) hx fun r hr=> ?_)
 cbv
 repeat' (first|apply And.intro|exact fun (_:FF)=>by kernel_rfl|(intro h2;cbv)|apply Or.inl|(refine X.call (F10 he hok hv hvl htf.le hts htf.nod ht fun x hx1=> ?_);cbv))
 ·have e0:A.eq x 0=true:=by assumption
  rw [heq,hx1] at e0
  have hwf:=hl (by simpa using e0)
  refine X.call (F10 hr hokm hv hvl htf.le hts htf.nod ht fun x2 hx2=> ?_)
  rw [hwf] at hx2
  have hx2':A.not (A.eq x2 0)=false:=by rw [hneg,heq,hx2];rfl
  cbv
  repeat' (first|apply And.intro|exact fun (_:FF)=>by kernel_rfl|(intro h2;first|exact absurd ((hx2').symm.trans h2) (by decide)|cbv)|apply Or.inl)
  obtain ⟨n_de,hn_de,hlen_de⟩:=lenOf he
  refine X.loopP (fun (k:Nat)=>⟨[(62,.int .i64 k),(61,.int .i64 (A.len de)),(60,.lst 40 de),(11,.lst 40 r),(0,.lst 40 de)],[]⟩) (fun k=>k≤n_de) (fun k=>n_de-k) 0 (Nat.zero_le _) ?_ ?_
  ·refine ⟨[],rfl,?_⟩
   (cbv;repeat' apply And.intro);all_goals try first|trivial|rfl|(rw [X.a];rfl)
  rintro k hk
  cbv
  refine ⟨fun h1=> ?_,fun h1=> ?_⟩
  ·have h5:k<env.length:=ltOf X.a he h1
   have k1:=ifIsAt X.a he h5
   have hid:=idxOf X.a he h5
   have hin:=incOf X.a h5 hok.1
   have hmem:=List.getElem_mem h5
   cbv
   repeat' (first|apply And.intro|exact fun (_:FF)=>by kernel_rfl|(intro h2;cbv)|apply Or.inl)
   all_goals (try exact hid)
   refine X.call (F15 he hok hfit fun s e hse=> ?_)
   cbv
   repeat' (first|apply And.intro|exact fun (_:FF)=>by kernel_rfl|(intro h2;cbv)|apply Or.inl)
   all_goals (try exact hin)
   all_goals first
    |(refine ⟨k+1,by omega,by omega,[],rfl,?_⟩;(cbv;repeat' apply And.intro);all_goals try first|trivial|rfl|(rw [X.a];rfl))
    |skip
   have e0:A.not (A.eq e 0)=false:=by assumption
   rw [hneg,heq] at e0
   have hz:(ifaceE env (A.asStr (A.cell de (Int.ofNat k) 0))).2=0:=by rw [← hse];simpa using e0
   have hz2:=ifaceE_mono hsub hz
   refine X.call (F15 hr hokm hfitm fun s2 e2 hse2=> ?_)
   have hse2:(s2,e2)=ifaceE (addI env i) (A.asStr (A.cell de (Int.ofNat k) 0)):=hse2
   rw [← hse2] at hz2
   have hz3:A.not (A.eq e2 0)=false:=by rw [hneg,heq,show e2=0 from hz2];rfl
   cbv
   repeat' (first|apply And.intro|exact fun (_:FF)=>by kernel_rfl|(intro h2;first|exact absurd ((hz3).symm.trans h2) (by decide)|cbv)|apply Or.inl)
   all_goals (try exact hin)
   refine ⟨k+1,by omega,by omega,[],rfl,?_⟩
   (cbv;repeat' apply And.intro);all_goals try first|trivial|rfl|(rw [X.a];rfl)
  ·cbv
   exact h
 ·skip
  obtain ⟨n_de,hn_de,hlen_de⟩:=lenOf he
  refine X.loopP (fun (k:Nat)=>⟨[(62,.int .i64 k),(61,.int .i64 (A.len de)),(60,.lst 40 de),(11,.lst 40 r),(0,.lst 40 de)],[]⟩) (fun k=>k≤n_de) (fun k=>n_de-k) 0 (Nat.zero_le _) ?_ ?_
  ·refine ⟨[],rfl,?_⟩
   (cbv;repeat' apply And.intro);all_goals try first|trivial|rfl|(rw [X.a];rfl)
  rintro k hk
  cbv
  refine ⟨fun h1=> ?_,fun h1=> ?_⟩
  ·have h5:k<env.length:=ltOf X.a he h1
   have k1:=ifIsAt X.a he h5
   have hid:=idxOf X.a he h5
   have hin:=incOf X.a h5 hok.1
   have hmem:=List.getElem_mem h5
   cbv
   repeat' (first|apply And.intro|exact fun (_:FF)=>by kernel_rfl|(intro h2;cbv)|apply Or.inl)
   all_goals (try exact hid)
   refine X.call (F15 he hok hfit fun s e hse=> ?_)
   cbv
   repeat' (first|apply And.intro|exact fun (_:FF)=>by kernel_rfl|(intro h2;cbv)|apply Or.inl)
   all_goals (try exact hin)
   all_goals first
    |(refine ⟨k+1,by omega,by omega,[],rfl,?_⟩;(cbv;repeat' apply And.intro);all_goals try first|trivial|rfl|(rw [X.a];rfl))
    |skip
   have e0:A.not (A.eq e 0)=false:=by assumption
   rw [hneg,heq] at e0
   have hz:(ifaceE env (A.asStr (A.cell de (Int.ofNat k) 0))).2=0:=by rw [← hse];simpa using e0
   have hz2:=ifaceE_mono hsub hz
   refine X.call (F15 hr hokm hfitm fun s2 e2 hse2=> ?_)
   have hse2:(s2,e2)=ifaceE (addI env i) (A.asStr (A.cell de (Int.ofNat k) 0)):=hse2
   rw [← hse2] at hz2
   have hz3:A.not (A.eq e2 0)=false:=by rw [hneg,heq,show e2=0 from hz2];rfl
   cbv
   repeat' (first|apply And.intro|exact fun (_:FF)=>by kernel_rfl|(intro h2;first|exact absurd ((hz3).symm.trans h2) (by decide)|cbv)|apply Or.inl)
   all_goals (try exact hin)
   refine ⟨k+1,by omega,by omega,[],rfl,?_⟩
   (cbv;repeat' apply And.intro);all_goals try first|trivial|rfl|(rw [X.a];rfl)
  ·cbv
   exact h
end Go.VC.T07
end

section
namespace Go.VC
theorem sub_pts {ns:List S} {ts:List Ty} {t:Ty} (h:¬(t.k=9∧0≤idxS ns t.n∧idxS ns t.n<ts.length)):(t.sub ns ts).pts=t.pts.map (Ty.sub ns ts):=by
 rw [sub_node h]
 have:∀ l:List Fe,(l.map (Fe.sub ns ts)).map Fe.t=(l.map Fe.t).map (Ty.sub ns ts):=by
  intro l
  induction l with
  |nil=>rfl
  |cons f l ih=>simp only [List.map_cons,ih];cases f;rfl
 simp only [Ty.pts,Ty.ar,Ty.fl,List.map_append,this]
theorem sub_hit {ns:List S} {ts:List Ty} {t:Ty} (h:t.k=9∧0≤idxS ns t.n∧idxS ns t.n<ts.length):t.sub ns ts∈ts:=by
 obtain ⟨a,b,c⟩:=h
 rw [sub_var a (i:=(idxS ns t.n).toNat) (by omega) (by omega)]
 exact List.getElem_mem _
theorem sub_all {P Q:Ty→Prop} {ns:List S} {ts:List Ty} (hts:∀ u∈ts,∀ v∈u.all,Q v)
  (hstep:∀ v,P v→¬(v.k=9∧0≤idxS ns v.n∧idxS ns v.n<ts.length)→Q (v.sub ns ts)):∀ t:Ty,(∀ v∈t.all,P v)→∀ v∈(t.sub ns ts).all,Q v:=by
 refine Ty.pinduct fun t ih=> ?_
 intro hP v hv
 by_cases h:t.k=9∧0≤idxS ns t.n∧idxS ns t.n<ts.length
 ·exact hts _ (sub_hit h) v hv
 ·rw [all_eq,sub_pts h] at hv
  rcases List.mem_cons.1 hv with rfl|hv
  ·exact hstep t (hP t (self_all t)) h
  ·obtain ⟨u,hu,hv⟩:=List.mem_flatMap.1 hv
   obtain ⟨w,hw,rfl⟩:=List.mem_map.1 hu
   exact ih w hw (fun x hx=>hP x (pts_all hw hx)) v hv
theorem sub_size {ns:List S} {ts:List Ty} {B:Nat} (h1:1≤B) (hB:∀ u∈ts,u.size≤B):∀ t:Ty,(t.sub ns ts).size≤t.size*B:=by
 refine Ty.pinduct fun t ih=> ?_
 have ht:=size_eq t
 by_cases h:t.k=9∧0≤idxS ns t.n∧idxS ns t.n<ts.length
 ·have:=hB _ (sub_hit h)
  have h2:B≤t.size*B:=Nat.le_mul_of_pos_left B (by omega)
  omega
 ·have hs:∀ l:List Ty,(∀ u∈l,(u.sub ns ts).size≤u.size*B)→((l.map (Ty.sub ns ts)).map Ty.size).sum≤(l.map Ty.size).sum*B:=by
   intro l
   induction l with
   |nil=>intro _;simp
   |cons u l ihl=>
    intro hl
    have a:=hl u (by simp)
    have b:=ihl fun v hv=>hl v (by simp [hv])
    simp only [List.map_cons,List.sum_cons,Nat.add_mul];omega
  have:=hs t.pts ih
  rw [size_eq (t.sub ns ts),sub_pts h,ht,Nat.add_mul]
  omega
theorem sub_le {n:Nat} {ns:List S} {ts:List Ty} (hts:∀ u∈ts,Ty.le n u):∀ t:Ty,Ty.le n t→Ty.le n (t.sub ns ts):=by
 refine Ty.pinduct fun t ih=> ?_
 intro hle
 by_cases h:t.k=9∧0≤idxS ns t.n∧idxS ns t.n<ts.length
 ·exact hts _ (sub_hit h)
 ·rw [sub_node h]
  cases hle with
  |mk _ a b c d=>
   refine .mk _ (by simpa [Ty.ar] using a) (by simpa [Ty.fl] using b) (fun u hu=> ?_) (fun f hf=> ?_)
   ·obtain ⟨w,hw,rfl⟩:=List.mem_map.1 hu
    exact ih w (List.mem_append_left _ hw) (c w hw)
   ·obtain ⟨w,hw,rfl⟩:=List.mem_map.1 hf
    have:=ih w.t (List.mem_append_right _ (List.mem_map.2 ⟨w,hw,rfl⟩)) (d w hw)
    cases w;exact this
theorem nodesE_0 {env:List IF} {vs:List S} {t:Ty} (h:∀ u∈t.all,nodeE env vs u=0):nodesE env vs t=0:=
 firstE_z.2 fun e he=>by obtain ⟨u,hu,rfl⟩:=List.mem_map.1 he;exact h u hu
theorem idx_has {ns:List S} {s:S} (h:ns.contains s=true):0≤idxS ns s∧idxS ns s<ns.length:=by
 have h1:(ns.any fun x=>s==x)=true:=by rw [← contains_any];exact h
 rw [idxS_any] at h1
 have h1:=of_decide_eq_true h1
 refine ⟨h1,?_⟩
 unfold idxS at h1 ⊢
 rcases idxF_cases (fun x=>x==s) ns with ⟨e,_⟩|⟨i,hi,e,_⟩
 ·omega
 ·rw [e];omega
theorem sub_nodes {env:List IF} {vs ns:List S} {ts:List Ty} (hl:ns.length=ts.length) (hts:∀ u∈ts,nodesE env vs u=0) {t:Ty} (h:nodesE env ns t=0):nodesE env vs (t.sub ns ts)=0:=by
 refine nodesE_0 (sub_all (P:=fun v=>nodeE env ns v=0) (fun u hu=>nodesE_z (hts u hu)) (fun v hv hn=> ?_) t (nodesE_z h))
 by_cases h9:v.k=9
 ·exfalso
  unfold nodeE at hv
  rw [if_pos h9] at hv
  by_cases hc:ns.contains v.n=true
  ·have:=idx_has hc
   exact hn ⟨h9,this.1,by omega⟩
  ·rw [if_neg hc] at hv;cases hv
 ·rw [sub_node hn]
  unfold nodeE at hv
  rw [if_neg h9] at hv
  have e:∀ (k:Int) (m n:S) (ar:List Ty) (fl:List Fe),nodeE env vs (.mk k m n ar fl)=if k=9 then (if vs.contains n then 0 else 4) else
    if k=10 then (if (typeR env m n).2.2≠0 then (typeR env m n).2.2 else if (typeR env m n).1.params.length≠ar.length then 11 else 0) else 0:=fun _ _ _ _ _=>rfl
  rw [e,if_neg h9,List.length_map]
  exact hv
theorem sub_nod {ns:List S} {ts:List Ty} (hts:∀ u∈ts,∀ v∈u.all,v.nod) {t:Ty} (h:∀ v∈t.all,v.nod):∀ v∈(t.sub ns ts).all,v.nod:=by
 refine sub_all (P:=Ty.nod) hts (fun v hv hn=> ?_) t h
 rw [sub_node hn]
 refine ⟨hv.m,hv.n,fun x hx=> ?_⟩
 obtain ⟨f,hf,rfl⟩:=List.mem_map.1 hx
 have:=hv.f f hf
 cases f;exact this
structure ChOk (env:List IF) (vs:List S) (t:Ty):Prop where
 le:Ty.le 4294967295 t
 nod:∀ u∈t.all,u.nod
 nodes:nodesE env vs t=0
 sz:t.size≤4294967295
theorem typeR_in {env:List IF} {m n:S} (h:(typeR env m n).2.2=0):∃ i∈env,(typeR env m n).1∈i.types:=by
 unfold typeR at h ⊢
 have hsp:=endI_spec (env:=env) 65 m n
 cases hx:endI env 65 m n with
 |typ m' n' x=>
  obtain ⟨i,h1,h2⟩:=hsp.1 m' n' x hx
  exact ⟨i,List.mem_of_find?_eq_some h1,List.mem_of_find?_eq_some h2⟩
 |_=>rw [hx] at h;cases h
theorem chain_step {env:List IF} (hE:EnvOk env) (hfit:∀ i∈env,i.fit) {vs:List S} {t:Ty} (ht:ChOk env vs t) (hk:t.k=10) (hs:t.size<2000):
  (boundsR env t).2.2=0∧ChOk env vs (boundsR env t).1∧ChOk env vs (boundsR env t).2.1:=by
 obtain ⟨h1,h2⟩:=nodeE_ref (nodesE_z ht.nodes t (self_all t)) hk
 obtain ⟨i,hi,hx⟩:=typeR_in h1
 obtain ⟨x,hxx⟩:∃ x,x=(typeR env t.m t.n).1:=⟨_,rfl⟩
 rw [← hxx] at hx h2
 have hxf:=(hfit i hi).t x hx
 obtain ⟨w1,w2,_,_,_,_⟩:=typE_0 ((hE.ok i hi).t x hx)
 have hb:boundsR env t=(x.lower.sub (x.params.map Pm.name) t.ar,x.upper.sub (x.params.map Pm.name) t.ar,0):=by
  unfold boundsR
  rw [if_neg (by simp [hk]),if_neg (by simp [h1]),←hxx,if_neg (by omega)]
 have hp:∀ u∈t.ar,u∈t.pts:=fun u hu=>List.mem_append_left _ hu
 have hsz:∀ u∈t.ar,u.size≤2000:=fun u hu=>by
  have:=size_eq t
  have h2:u.size≤(t.pts.map Ty.size).sum:=le_sum (List.mem_map.2 ⟨u,hp u hu,rfl⟩)
  omega
 have go:∀ y:Ty,y.fit→wfE env (x.params.map Pm.name) y=0→ChOk env vs (y.sub (x.params.map Pm.name) t.ar):=fun y hy hw=>{
  le:=sub_le (fun u hu=>pts_le ht.le u (hp u hu)) y hy.le
  nod:=sub_nod (fun u hu v hv=>ht.nod v (pts_all (hp u hu) hv)) hy.nod
  nodes:=sub_nodes (by simpa using h2) (fun u hu=>nodesE_0 fun v hv=>nodesE_z ht.nodes v (pts_all (hp u hu) hv)) (wfE_0.1 hw).2
  sz:=by
   have:=sub_size (ns:=x.params.map Pm.name) (by decide:1≤2000) hsz y
   have:=hy.sz
   omega }
 rw [hb]
 exact ⟨rfl,go _ hxf.lo w1,go _ hxf.up w2⟩
theorem nameL_srt {f:S→Bool}:∀ {l:List S} {p:Option S},(nameL f p l).2=0→(∀ q,p=some q→∀ x∈l,slt q x=true)∧l.Pairwise (fun a b=>slt a b=true)
 |[],p,_=>⟨by simp,by simp⟩
 |s::l,none,h=>by
  rw [nameL] at h
  split at h
  ·cases h
  ·obtain ⟨a,b⟩:=nameL_srt h
   exact ⟨by simp,List.pairwise_cons.2 ⟨a s rfl,b⟩⟩
 |s::l,some p,h=>by
  rw [nameL] at h
  split at h
  ·cases h
  ·split at h
   ·cases h
   ·rename_i hsp
    split at h
    ·cases h
    ·rename_i hlt
     obtain ⟨a,b⟩:=nameL_srt h
     have hps:slt p s=true:=by
      cases hh:slt p s with
      |true=>rfl
      |false=>exact absurd (slt_tri (by simpa using hlt) hh) hsp
     refine ⟨fun q hq x hx=> ?_,List.pairwise_cons.2 ⟨a s rfl,b⟩⟩
     cases hq
     rcases List.mem_cons.1 hx with rfl|hx
     ·exact hps
     ·exact slt_trans hps (a s rfl x hx)
theorem types_find {env:List IF} {i:IF} (hi:IfOk env i) {x:TE} (hx:x∈i.types):i.types.find? (fun y=>y.name==x.name)=some x:=by
 have h0:=hi.names
 unfold namesE at h0
 have hs:=(nameL_srt (orE_0 h0).1).2
 unfold nmT at hs
 rw [List.pairwise_map] at hs
 obtain ⟨l,hl⟩:∃ l,l=i.types:=⟨_,rfl⟩
 rw [← hl] at hs hx ⊢
 clear hl
 induction l with
 |nil=>simp at hx
 |cons y l ih=>
  rw [List.pairwise_cons] at hs
  rw [List.find?_cons]
  rcases List.mem_cons.1 hx with rfl|hx
  ·simp
  ·have:(y.name==x.name)=false:=by
    rw [beq_eq_false_iff_ne];intro e
    have:=hs.1 x hx
    rw [e,slt_irrefl] at this;cases this
   rw [this];exact ih hx hs.2
def varT (s:S):Ty:=.mk 9 [] s [] []
def refT (i:IF) (x:TE):Ty:=.mk 10 i.path x.name (x.params.map fun p=>varT p.name) []
theorem typeR_self {env:List IF} (hE:EnvOk env) {i:IF} (hi:i∈env) {x:TE} (hx:x∈i.types):typeR env i.path x.name=(x,i.path,0):=by
 have h1:=types_find (hE.ok i hi) hx
 have:endI env 65 i.path x.name= .typ i.path x.name x:=by
  have hl:look' env i.path x.name= .typ x:=by
   unfold look'
   rw [findI_self hE.srt hi]
   simp only [lookI,h1]
  rw [endI,hl]
 unfold typeR
 rw [this]
theorem chain_start {env:List IF} (hE:EnvOk env) (hfit:∀ i∈env,i.fit) {i:IF} (hi:i∈env) {x:TE} (hx:x∈i.types) (hpn:∀ p∈x.params,p.name.length≤1048576):ChOk env (x.params.map Pm.name) (refT i x):=by
 have hif:=hfit i hi
 have hxf:=hif.t x hx
 have hav:∀ s,(varT s).all=[varT s]:=fun s=>by rw [all_eq];rfl
 have hal:(refT i x).all=refT i x::x.params.map fun p=>varT p.name:=by
  rw [all_eq]
  have:(refT i x).pts=x.params.map fun p=>varT p.name:=by simp [refT,Ty.pts,Ty.ar,Ty.fl]
  rw [this]
  congr 1
  induction x.params with
  |nil=>rfl
  |cons p l ih=>simp only [List.map_cons,List.flatMap_cons,hav,ih];rfl
 have hmem:∀ u∈(refT i x).all,u=refT i x∨∃ p∈x.params,u=varT p.name:=fun u hu=>by
  rw [hal] at hu
  rcases List.mem_cons.1 hu with h|h
  ·exact .inl h
  ·obtain ⟨p,hp,rfl⟩:=List.mem_map.1 h;exact .inr ⟨p,hp,rfl⟩
 refine ⟨.mk _ ?_ (by simp [refT,Ty.fl]) (fun u hu=> ?_) (by simp [refT,Ty.fl]),fun u hu=> ?_,nodesE_0 fun u hu=> ?_,?_⟩
 ·have:=hxf.np;simp [refT,Ty.ar];omega
 ·simp only [refT,Ty.ar] at hu
  obtain ⟨p,hp,rfl⟩:=List.mem_map.1 hu
  exact .mk _ (by simp [varT,Ty.ar]) (by simp [varT,Ty.fl]) (by simp [varT,Ty.ar]) (by simp [varT,Ty.fl])
 ·rcases hmem u hu with rfl|⟨p,hp,rfl⟩
  ·exact ⟨hif.path,hxf.n,by simp [refT,Ty.fl]⟩
  ·exact ⟨by simp [varT,Ty.m],hpn p hp,by simp [varT,Ty.fl]⟩
 ·rcases hmem u hu with rfl|⟨p,hp,rfl⟩
  ·unfold nodeE
   rw [if_neg (by simp [refT,Ty.k]),if_pos (by rfl)]
   show (if (typeR env i.path x.name).2.2≠0 then _ else _)=_
   rw [typeR_self hE hi hx,if_neg (by simp)]
   exact if_neg (by show ¬(typeR env i.path x.name).1.params.length≠(x.params.map fun p=>varT p.name).length;rw [typeR_self hE hi hx,List.length_map];simp)
  ·unfold nodeE
   rw [if_pos (by rfl)]
   have:(x.params.map Pm.name).contains (varT p.name).n=true:=List.contains_iff_mem.2 (List.mem_map.2 ⟨p,hp,rfl⟩)
   rw [if_pos this]
 ·rw [← all_len,hal]
  have:=hxf.np
  simp;omega
theorem wf_not6 {env:List IF} {vs:List S} {t:Ty} (h:nodesE env vs t=0):wfE env vs t≠6:=by
 unfold wfE
 split
 ·unfold ckE
  split
  ·decide
  ·intro e
   have h2:∀ l:List Ty,firstE (l.map tnE)≠6:=by
    intro l
    induction l with
    |nil=>simp [firstE]
    |cons u l ih=>
     rw [List.map_cons,firstE_cons]
     split
     ·exact ih
     ·unfold tnE
      have hinc:∀ l:List S,incE l≠6:=by
       intro l
       induction l with
       |nil=>simp [incE]
       |cons a l ih=>
        cases l with
        |nil=>simp [incE]
        |cons b l=>
         unfold incE
         split
         ·decide
         ·split
          ·decide
          ·exact ih
      repeat' split
      all_goals first|decide|exact hinc _
   exact h2 _ e
 ·rw [h];decide
end Go.VC
end

section
namespace Go.VC
theorem pmNm_len (k:Nat) (h:k≤8):(pmNm k).length≤1048576:=by
 have:(Go.Lib.decDigits k).length=1:=by rw [Go.Lib.decDigits,dif_pos (by omega)];rfl
 unfold pmNm;simp [this]
theorem paramL_len {w:Pm→Bool}:∀ {l:List Pm} {k:Nat},k+l.length≤9→paramL w k l=0→∀ p∈l,p.name.length≤1048576
 |[],_,_,_,p,hp=>by simp at hp
 |p::l,k,hk,h,q,hq=>by
  simp only [List.length_cons] at hk
  rw [paramL] at h
  split at h
  ·cases h
  ·rename_i e
   split at h
   ·cases h
   ·rcases List.mem_cons.1 hq with rfl|hq
    ·rw [show q.name=pmNm k by simpa using e];exact pmNm_len k (by omega)
    ·exact paramL_len (by omega) h q hq
theorem paramE_len {w:Pm→Bool} {l:List Pm} (h:paramE w l=0):∀ p∈l,p.name.length≤1048576:=by
 unfold paramE at h
 split at h
 ·cases h
 ·exact paramL_len (by omega) h
end Go.VC
namespace Go.VC.T07
open Go Go.VC Go.Proofs
def g5a:Cfg:={tt:=tt,n:=110,own:=[9,10]}
theorem F5 {env:List IF} {de:D} (he:de=encL encIF env) (hok:envOk env) (hfit:∀ i∈env,i.fit) (hwt:(env.map IF.wt).sum≤268435456) {K:PV→List Ob→Prop} (h:K (.bool true) []):
  FC Tryz.prog tt 5 [] [.lst 40 de] K:=by
 refine FC.enter (G:=g5a) tt_ok mixed ⟨Tryz.func5,by rfl,rfl⟩ rfl rfl rfl ?_
 intro A C L X
 have hneg:=negA X.a
 have heq:=eqA X.a
 have hlt:=ltA X.a
 have hnt:A.not true=false:=by rw [X.a];rfl
 obtain ⟨n_de,hn_de,hlen_de⟩:=lenOf he
 cbv
 refine X.call (F7 ?_)
 cbv
 repeat' (first|apply And.intro|exact fun (_:FF)=>by kernel_rfl|(intro h2;first|exact absurd ((hnt).symm.trans h2) (by decide)|cbv)|apply Or.inl|(refine X.call (F8 he hok (Nat.le_trans hwt (by decide)) fun r0 hr0=> ?_);cbv))
 ·exact h
 refine X.call (F16 he hok hfit hwt fun s r hsr=> ?_)
 cbv
 repeat' (first|apply And.intro|exact fun (_:FF)=>by kernel_rfl|(intro h2;cbv)|apply Or.inl)
 ·exact h
 have h2:A.not (A.eq r 0)=false:=by assumption
 rw [hneg,heq] at h2
 have hE:EnvOk env:=envE_0 (by rw [← hsr];simpa using h2)
 clear h2 hsr hr0
 cbv
 refine X.loop (fun (k:Nat)=>⟨[(34,.int .i64 k),(33,.int .i64 (A.len de)),(32,.lst 40 de),(0,.lst 40 de)],[]⟩) (fun k=>k≤n_de) (fun k=>n_de-k) 0 (Nat.zero_le _) ?_ ?_
 ·(cbv;repeat' apply And.intro);all_goals try first|trivial|rfl|(rw [X.a];rfl)
 rintro k hk
 cbv
 refine ⟨fun h1=> ?_,fun h1=> ?_⟩
 rotate_left
 ·cbv;exact h
 have h5:k<env.length:=ltOf X.a he h1
 have k1:=ifIsAt X.a he h5
 have hid:=idxOf X.a he h5
 have hin:=incOf X.a h5 hok.1
 have hmem:=List.getElem_mem h5
 have hif:=hfit _ hmem
 have hio:=hE.ok _ hmem
 clear h1
 cbv
 repeat' (first|apply And.intro|exact fun (_:FF)=>by kernel_rfl|(intro h2;cbv)|apply Or.inl)
 any_goals exact hid
 obtain ⟨q0,hq0⟩:∃ q0,q0=A.asStr (A.cell de (Int.ofNat k) 0):=⟨_,rfl⟩
 refine X.loopP (fun (j:Nat)=>⟨[(41,.int .i64 j),(40,.int .i64 (A.len (A.cell de (Int.ofNat k) 1))),(39,.lst 51 (A.cell de (Int.ofNat k) 1)),(6,.box 0 0),(34,.int .i64 k),(33,.int .i64 (A.len de)),(32,.lst 40 de),(0,.lst 40 de)],[.box [.str (A.asStr (A.cell de (Int.ofNat k) 0)),.lst 51 (A.cell de (Int.ofNat k) 1),.lst 101 (A.cell de (Int.ofNat k) 2),.lst 106 (A.cell de (Int.ofNat k) 3),.lst 119 (A.cell de (Int.ofNat k) 4)]]⟩) (fun j=>j≤env[k].types.length) (fun j=>env[k].types.length-j) 0 (Nat.zero_le _) ?_ ?_
 ·refine ⟨[0],rfl,?_⟩
  (cbv;repeat' apply And.intro);all_goals try first|trivial|rfl|(rw [X.a];rfl)
 rintro j hj
 cbv
 refine ⟨fun h1=> ?_,fun h1=> ?_⟩
 rotate_left
 ·cbv
  repeat' (first|apply And.intro|exact fun (_:FF)=>by kernel_rfl|(intro h2;cbv)|apply Or.inl)
  any_goals exact hin
  refine ⟨k+1,by omega,by omega,?_⟩
  (cbv;repeat' apply And.intro);all_goals try first|trivial|rfl|(rw [X.a];rfl)
 have h6:j<env[k].types.length:=ltOf X.a k1.2.1 h1
 have k2:=teIsAt X.a k1.2.1 h6
 have hidj:=idxOf X.a k1.2.1 h6
 have hinj:=incOf X.a h6 (Nat.le_trans hif.nt (by decide))
 have hxm:=List.getElem_mem h6
 have hxf:=hif.t _ hxm
 have hnp:=hxf.np
 have hpn:=paramE_len (typE_0 (hio.t _ hxm)).2.2.2.2.2
 have hst:=chain_start hE hfit hmem hxm hpn
 obtain ⟨x,hx⟩:∃ x,x=env[k].types[j]:=⟨_,rfl⟩
 rw [← hx] at k2 hxm hxf hnp hpn hst
 clear h1
 cbv
 repeat' (first|apply And.intro|exact fun (_:FF)=>by kernel_rfl|(intro h2;cbv)|apply Or.inl)
 any_goals exact hidj
 refine X.loopP (fun (y:Nat×D×D)=>⟨[(48,.int .i64 y.1),(47,.int .i64 (A.len (A.cell (A.cell de (Int.ofNat k) 1) (Int.ofNat j) 1))),(46,.lst 53 (A.cell (A.cell de (Int.ofNat k) 1) (Int.ofNat j) 1)),(9,.row 28 2),(10,.row 9 3),(8,.box 1 0),(41,.int .i64 j),(40,.int .i64 (A.len (A.cell de (Int.ofNat k) 1))),(39,.lst 51 (A.cell de (Int.ofNat k) 1)),(6,.box 0 0),(34,.int .i64 k),(33,.int .i64 (A.len de)),(32,.lst 40 de),(0,.lst 40 de)],[.box [.str (A.asStr (A.cell de (Int.ofNat k) 0)),.lst 51 (A.cell de (Int.ofNat k) 1),.lst 101 (A.cell de (Int.ofNat k) 2),.lst 106 (A.cell de (Int.ofNat k) 3),.lst 119 (A.cell de (Int.ofNat k) 4)],.box [.str (A.asStr (A.cell (A.cell de (Int.ofNat k) 1) (Int.ofNat j) 0)),.lst 53 (A.cell (A.cell de (Int.ofNat k) 1) (Int.ofNat j) 1),.int .i64 (A.asInt (A.cell (A.cell de (Int.ofNat k) 1) (Int.ofNat j) 2)),.str (A.asStr (A.cell (A.cell de (Int.ofNat k) 1) (Int.ofNat j) 3)),.str (A.asStr (A.cell (A.cell de (Int.ofNat k) 1) (Int.ofNat j) 4)),.lst 28 (A.cell (A.cell de (Int.ofNat k) 1) (Int.ofNat j) 5),.lst 65 (A.cell (A.cell de (Int.ofNat k) 1) (Int.ofNat j) 6),.int .i64 (A.asInt (A.cell (A.cell de (Int.ofNat k) 1) (Int.ofNat j) 7)),.str (A.asStr (A.cell (A.cell de (Int.ofNat k) 1) (Int.ofNat j) 8)),.str (A.asStr (A.cell (A.cell de (Int.ofNat k) 1) (Int.ofNat j) 9)),.lst 28 (A.cell (A.cell de (Int.ofNat k) 1) (Int.ofNat j) 10),.lst 65 (A.cell (A.cell de (Int.ofNat k) 1) (Int.ofNat j) 11)],.row 28 y.2.1 true,.row 9 y.2.2 true]⟩)
  (fun y=>y.1≤x.params.length∧y.2.1=encL encTy ((x.params.take y.1).map fun p=>varT p.name)∧y.2.2=encL encS ((x.params.take y.1).map Pm.name)) (fun y=>x.params.length-y.1) (0,.list [],.list []) ⟨Nat.zero_le _,rfl,rfl⟩ ?_ ?_
 ·refine ⟨[0,1,2,3],rfl,?_⟩
  (cbv;repeat' apply And.intro);all_goals try first|trivial|rfl|(rw [X.a];rfl)
 rintro ⟨q,ra,rn⟩ ⟨hq,hra,hrn⟩
 simp only at hq hra hrn
 cbv
 refine ⟨fun h1=> ?_,fun h1=> ?_⟩
 ·have h7:=ltOf X.a k2.2.1 h1
  have k3:=pmIsAt X.a k2.2.1 h7
  have k30:=k3.1
  have hidq:=idxOf X.a k2.2.1 h7
  have hinq:=incOf X.a h7 (Nat.le_trans hnp (by decide))
  have hlit:A.lit [[.str (A.asStr (A.cell (A.cell (A.cell de (Int.ofNat k) 1) (Int.ofNat j) 1) (Int.ofNat q) 0))]]=encL encS [(x.params[q]).name]:=by rw [k30,X.a];rfl
  have hlit2:A.lit [[.int 9,.str [],.str (A.asStr (A.cell (A.cell (A.cell de (Int.ofNat k) 1) (Int.ofNat j) 1) (Int.ofNat q) 0)),.list [],.list []]]=encL encTy [varT (x.params[q]).name]:=by rw [k30,X.a];rfl
  have hb1:A.bnd (A.add (A.len ra) (A.len (A.lit [[.int 9,.str [],.str (A.asStr (A.cell (A.cell (A.cell de (Int.ofNat k) 1) (Int.ofNat j) 1) (Int.ofNat q) 0)),.list [],.list []]]))) 4294967296:=bndOf X.a hra hlit2 (by simp only [List.length_map,List.length_take,List.length_singleton];omega)
  have hb2:A.bnd (A.add (A.len rn) (A.len (A.lit [[.str (A.asStr (A.cell (A.cell (A.cell de (Int.ofNat k) 1) (Int.ofNat j) 1) (Int.ofNat q) 0))]]))) 4294967296:=bndOf X.a hrn hlit (by simp only [List.length_map,List.length_take,List.length_singleton];omega)
  have q1:A.app ra (A.lit [[.int 9,.str [],.str (A.asStr (A.cell (A.cell (A.cell de (Int.ofNat k) 1) (Int.ofNat j) 1) (Int.ofNat q) 0)),.list [],.list []]])=encL encTy ((x.params.take (q+1)).map fun p=>varT p.name):=by
   rw [map_take h7];exact appOf X.a hra hlit2
  have q2:A.app rn (A.lit [[.str (A.asStr (A.cell (A.cell (A.cell de (Int.ofNat k) 1) (Int.ofNat j) 1) (Int.ofNat q) 0))]])=encL encS ((x.params.take (q+1)).map Pm.name):=by
   rw [map_take h7];exact appOf X.a hrn hlit
  clear h1
  cbv
  repeat' (first|apply And.intro|exact fun (_:FF)=>by kernel_rfl|(intro h2;cbv)|apply Or.inl)
  any_goals first|exact hidq|exact hinq|exact hb1|exact hb2
  refine ⟨(q+1,_,_),⟨by simp only;omega,q1,q2⟩,by simp only;omega,[0,1,2,3],rfl,?_⟩
  (cbv;repeat' apply And.intro);all_goals try first|trivial|rfl|(rw [X.a];rfl)
 have h7:q=x.params.length:=Nat.le_antisymm hq (geOf X.a k2.2.1 h1)
 rw [h7,List.take_length] at hra hrn
 clear h1 hq h7
 have hvl:(x.params.map Pm.name).length≤4294967295:=by rw [List.length_map];exact Nat.le_trans hnp (by decide)
 have hl2:A.len (A.lit [[.bool true],[.bool false]])=Int.ofNat 2:=by rw [X.a];rfl
 cbv
 refine X.loopP (fun (y:Nat×Bool×Bool)=>⟨[(66,.int .i64 y.1),(65,.int .i64 (A.len (A.lit [[.bool true],[.bool false]]))),(64,.lst 4 (A.lit [[.bool true],[.bool false]])),(9,.row 28 2),(10,.row 9 3),(8,.box 1 0),(41,.int .i64 j),(40,.int .i64 (A.len (A.cell de (Int.ofNat k) 1))),(39,.lst 51 (A.cell de (Int.ofNat k) 1)),(6,.box 0 0),(34,.int .i64 k),(33,.int .i64 (A.len de)),(32,.lst 40 de),(0,.lst 40 de)],[.box [.str (A.asStr (A.cell de (Int.ofNat k) 0)),.lst 51 (A.cell de (Int.ofNat k) 1),.lst 101 (A.cell de (Int.ofNat k) 2),.lst 106 (A.cell de (Int.ofNat k) 3),.lst 119 (A.cell de (Int.ofNat k) 4)],.box [.str (A.asStr (A.cell (A.cell de (Int.ofNat k) 1) (Int.ofNat j) 0)),.lst 53 (A.cell (A.cell de (Int.ofNat k) 1) (Int.ofNat j) 1),.int .i64 (A.asInt (A.cell (A.cell de (Int.ofNat k) 1) (Int.ofNat j) 2)),.str (A.asStr (A.cell (A.cell de (Int.ofNat k) 1) (Int.ofNat j) 3)),.str (A.asStr (A.cell (A.cell de (Int.ofNat k) 1) (Int.ofNat j) 4)),.lst 28 (A.cell (A.cell de (Int.ofNat k) 1) (Int.ofNat j) 5),.lst 65 (A.cell (A.cell de (Int.ofNat k) 1) (Int.ofNat j) 6),.int .i64 (A.asInt (A.cell (A.cell de (Int.ofNat k) 1) (Int.ofNat j) 7)),.str (A.asStr (A.cell (A.cell de (Int.ofNat k) 1) (Int.ofNat j) 8)),.str (A.asStr (A.cell (A.cell de (Int.ofNat k) 1) (Int.ofNat j) 9)),.lst 28 (A.cell (A.cell de (Int.ofNat k) 1) (Int.ofNat j) 10),.lst 65 (A.cell (A.cell de (Int.ofNat k) 1) (Int.ofNat j) 11)],.row 28 ra y.2.1,.row 9 rn y.2.2]⟩) (fun y=>y.1≤2) (fun y=>2-y.1) (0,true,true) (Nat.zero_le _) ?_ ?_
 ·refine ⟨[0,1,2,3],rfl,?_⟩
  (cbv;repeat' apply And.intro);all_goals try first|trivial|rfl|(rw [X.a];rfl)
 rintro ⟨m,fa,fn⟩ hm
 simp only at hm
 cbv
 refine ⟨fun h1=> ?_,fun h1=> ?_⟩
 ·have h8:m<2:=by have h1:A.lt (Int.ofNat m) (A.len (A.lit [[.bool true],[.bool false]]))=true:=h1;rw [hlt,hl2] at h1;have:=of_decide_eq_true h1;simp only [Int.ofNat_eq_natCast] at this;omega
  have hidm:A.idx (Int.ofNat m) (A.len (A.lit [[.bool true],[.bool false]])):=by rw [hl2,X.a];exact ⟨by simp,by simp only [Int.ofNat_eq_natCast];omega⟩
  have hinm:A.inr .i64 (A.add (Int.ofNat m) 1):=by rw [X.a];exact leaf_inc h8 (by omega)
  clear h1
  cbv
  repeat' (first|apply And.intro|exact fun (_:FF)=>by kernel_rfl|(intro h2;cbv)|apply Or.inl)
  any_goals exact hidm
  refine X.loopP (fun (z:Option (Nat×Int×S×S×D×D))=>match z with
   |none=>⟨[(16,.int .i64 0),(15,.box 4 0),(14,.bool (A.asBool (A.cell (A.lit [[.bool true],[.bool false]]) (Int.ofNat m) 0))),(66,.int .i64 m),(65,.int .i64 (A.len (A.lit [[.bool true],[.bool false]]))),(64,.lst 4 (A.lit [[.bool true],[.bool false]])),(9,.row 28 2),(10,.row 9 3),(8,.box 1 0),(41,.int .i64 j),(40,.int .i64 (A.len (A.cell de (Int.ofNat k) 1))),(39,.lst 51 (A.cell de (Int.ofNat k) 1)),(6,.box 0 0),(34,.int .i64 k),(33,.int .i64 (A.len de)),(32,.lst 40 de),(0,.lst 40 de)],[.box [.str (A.asStr (A.cell de (Int.ofNat k) 0)),.lst 51 (A.cell de (Int.ofNat k) 1),.lst 101 (A.cell de (Int.ofNat k) 2),.lst 106 (A.cell de (Int.ofNat k) 3),.lst 119 (A.cell de (Int.ofNat k) 4)],.box [.str (A.asStr (A.cell (A.cell de (Int.ofNat k) 1) (Int.ofNat j) 0)),.lst 53 (A.cell (A.cell de (Int.ofNat k) 1) (Int.ofNat j) 1),.int .i64 (A.asInt (A.cell (A.cell de (Int.ofNat k) 1) (Int.ofNat j) 2)),.str (A.asStr (A.cell (A.cell de (Int.ofNat k) 1) (Int.ofNat j) 3)),.str (A.asStr (A.cell (A.cell de (Int.ofNat k) 1) (Int.ofNat j) 4)),.lst 28 (A.cell (A.cell de (Int.ofNat k) 1) (Int.ofNat j) 5),.lst 65 (A.cell (A.cell de (Int.ofNat k) 1) (Int.ofNat j) 6),.int .i64 (A.asInt (A.cell (A.cell de (Int.ofNat k) 1) (Int.ofNat j) 7)),.str (A.asStr (A.cell (A.cell de (Int.ofNat k) 1) (Int.ofNat j) 8)),.str (A.asStr (A.cell (A.cell de (Int.ofNat k) 1) (Int.ofNat j) 9)),.lst 28 (A.cell (A.cell de (Int.ofNat k) 1) (Int.ofNat j) 10),.lst 65 (A.cell (A.cell de (Int.ofNat k) 1) (Int.ofNat j) 11)],.row 28 ra fa,.row 9 rn fn,.box [.int .i64 10,.str (A.asStr (A.cell de (Int.ofNat k) 0)),.str (A.asStr (A.cell (A.cell de (Int.ofNat k) 1) (Int.ofNat j) 0)),.row 28 2,.lst 65 (.list [])]]⟩
   |some (n,c0,c1,c2,c3,c4)=>⟨[(16,.int .i64 n),(15,.box 4 0),(14,.bool (A.asBool (A.cell (A.lit [[.bool true],[.bool false]]) (Int.ofNat m) 0))),(66,.int .i64 m),(65,.int .i64 (A.len (A.lit [[.bool true],[.bool false]]))),(64,.lst 4 (A.lit [[.bool true],[.bool false]])),(9,.row 28 2),(10,.row 9 3),(8,.box 1 0),(41,.int .i64 j),(40,.int .i64 (A.len (A.cell de (Int.ofNat k) 1))),(39,.lst 51 (A.cell de (Int.ofNat k) 1)),(6,.box 0 0),(34,.int .i64 k),(33,.int .i64 (A.len de)),(32,.lst 40 de),(0,.lst 40 de)],[.box [.str (A.asStr (A.cell de (Int.ofNat k) 0)),.lst 51 (A.cell de (Int.ofNat k) 1),.lst 101 (A.cell de (Int.ofNat k) 2),.lst 106 (A.cell de (Int.ofNat k) 3),.lst 119 (A.cell de (Int.ofNat k) 4)],.box [.str (A.asStr (A.cell (A.cell de (Int.ofNat k) 1) (Int.ofNat j) 0)),.lst 53 (A.cell (A.cell de (Int.ofNat k) 1) (Int.ofNat j) 1),.int .i64 (A.asInt (A.cell (A.cell de (Int.ofNat k) 1) (Int.ofNat j) 2)),.str (A.asStr (A.cell (A.cell de (Int.ofNat k) 1) (Int.ofNat j) 3)),.str (A.asStr (A.cell (A.cell de (Int.ofNat k) 1) (Int.ofNat j) 4)),.lst 28 (A.cell (A.cell de (Int.ofNat k) 1) (Int.ofNat j) 5),.lst 65 (A.cell (A.cell de (Int.ofNat k) 1) (Int.ofNat j) 6),.int .i64 (A.asInt (A.cell (A.cell de (Int.ofNat k) 1) (Int.ofNat j) 7)),.str (A.asStr (A.cell (A.cell de (Int.ofNat k) 1) (Int.ofNat j) 8)),.str (A.asStr (A.cell (A.cell de (Int.ofNat k) 1) (Int.ofNat j) 9)),.lst 28 (A.cell (A.cell de (Int.ofNat k) 1) (Int.ofNat j) 10),.lst 65 (A.cell (A.cell de (Int.ofNat k) 1) (Int.ofNat j) 11)],.row 28 ra false,.row 9 rn fn,.box [.int .i64 c0,.str c1,.str c2,.lst 28 c3,.lst 65 c4]]⟩)
   (fun z=>match z with
   |none=>True
   |some (n,c0,c1,c2,c3,c4)=>n≤2000∧∃ t:Ty,tyIs t c0 c1 c2 c3 c4∧ChOk env (x.params.map Pm.name) t) (fun z=>match z with|none=>2001|some z=>2000-z.1) none trivial ?_ ?_
  ·refine ⟨[0,1,2,3,4],rfl,?_⟩
   (cbv;repeat' apply And.intro);all_goals try first|trivial|rfl|(rw [X.a];rfl)
  rintro (_|⟨n,c0,c1,c2,c3,c4⟩) hphi
  ·have ht:tyIs (refT env[k] x) 10 (A.asStr (A.cell de (Int.ofNat k) 0)) (A.asStr (A.cell (A.cell de (Int.ofNat k) 1) (Int.ofNat j) 0)) ra (.list []):=⟨rfl,k1.1,k2.1,hra,rfl⟩
   have hin1:A.inr .i64 (A.add 0 1):=by rw [X.a,Std_inr64,Std_add];decide
   have hlt1:A.lt 0 2000=true→(1:Nat)≤2000:=fun _=>by decide
   have hcs:A.eq 10 10=true→∀ r:Int,r=(refT env[k] x).size→A.lt r 2000=true→(boundsR env (refT env[k] x)).2.2=0∧ChOk env (x.params.map Pm.name) (boundsR env (refT env[k] x)).1∧ChOk env (x.params.map Pm.name) (boundsR env (refT env[k] x)).2.1:=by
    intro e1 r e2 e3
    have e2:r=Int.ofNat (refT env[k] x).size:=e2
    rw [hlt,e2] at e3
    rw [heq,ht.1] at e1
    have e3:=of_decide_eq_true e3
    exact chain_step hE hfit hst (eq_of_beq e1) (by simp only [Int.ofNat_eq_natCast] at e3;omega)
   have hn6:∀ r:Int,r=wfE env (x.params.map Pm.name) (refT env[k] x)→A.eq r 6=true→False:=by
    intro r e1 e2
    rw [heq,e1] at e2
    exact wf_not6 hst.nodes (eq_of_beq e2)
   have hb0:∀ r:Int,A.eq 10 10=true→∀ z:Int,z=(refT env[k] x).size→A.lt z 2000=true→r=(boundsR env (refT env[k] x)).2.2→A.not (A.eq r 0)=true→False:=by
    intro r e1 z e2 e3 e4 e5
    rw [e4,(hcs e1 z e2 e3).1,hneg,heq] at e5
    cases e5
   cbv
   repeat' (first|apply And.intro|exact fun (_:FF)=>by kernel_rfl|(intro h2;cbv)|apply Or.inl|(refine X.call (F9c hst.le hst.sz ht fun rz hrz=> ?_);cbv)|(refine X.call (F11 he hok hrn hvl hst.le hst.sz hst.nod ht fun r6 hr6=> ?_);cbv)|(refine X.call (F17 he hok hst.le ht fun e0 e1 e2 e3 e4 g0 g1 g2 g3 g4 rB hlo hup hrB=> ?_);cbv))
   all_goals (try first|exact hinm|exact hin1)
   all_goals first
    |exact (hn6 _ hr6 (by assumption)).elim
    |exact (hb0 _ (by assumption) _ hrz (by assumption) hrB (by assumption)).elim
    |(refine ⟨some (1,e0,e1,e2,e3,e4),⟨hlt1 (by assumption),_,hlo,(hcs (by assumption) _ hrz (by assumption)).2.1⟩,by have hq1:=hlt1 (by assumption);show 2000-1<2001;omega,[0,1,2,3,4],rfl,?_⟩;(have hbb:A.asBool (A.cell (A.lit [[.bool true],[.bool false]]) (Int.ofNat m) 0)=true:=by assumption);(cbv;repeat' apply And.intro);all_goals try first|trivial|rfl|(rw [X.a];rfl))
    |(refine ⟨some (1,g0,g1,g2,g3,g4),⟨hlt1 (by assumption),_,hup,(hcs (by assumption) _ hrz (by assumption)).2.2⟩,by have hq1:=hlt1 (by assumption);show 2000-1<2001;omega,[0,1,2,3,4],rfl,?_⟩;(cbv;repeat' apply And.intro);all_goals try first|trivial|rfl|(rw [X.a];rfl))
    |(refine ⟨(m+1,fa,fn),by show m+1≤2;omega,by show 2-(m+1)<2-m;omega,[0,1,2,3],rfl,?_⟩;(cbv;repeat' apply And.intro);all_goals try first|trivial|rfl|(rw [X.a];rfl))
  ·obtain ⟨hn,t,ht,hc⟩:=hphi
   have hin1:A.inr .i64 (A.add (Int.ofNat n) 1):=by rw [X.a];exact leaf_inc (by omega:n<2001) (by omega)
   have hlt1:A.lt (Int.ofNat n) 2000=true→n+1≤2000:=by rw [hlt];intro e;have:=of_decide_eq_true e;simp only [Int.ofNat_eq_natCast] at this;omega
   have hcs:A.eq c0 10=true→∀ r:Int,r=(t).size→A.lt r 2000=true→(boundsR env (t)).2.2=0∧ChOk env (x.params.map Pm.name) (boundsR env (t)).1∧ChOk env (x.params.map Pm.name) (boundsR env (t)).2.1:=by
    intro e1 r e2 e3
    have e2:r=Int.ofNat (t).size:=e2
    rw [hlt,e2] at e3
    rw [heq,ht.1] at e1
    have e3:=of_decide_eq_true e3
    exact chain_step hE hfit hc (eq_of_beq e1) (by simp only [Int.ofNat_eq_natCast] at e3;omega)
   have hn6:∀ r:Int,r=wfE env (x.params.map Pm.name) (t)→A.eq r 6=true→False:=by
    intro r e1 e2
    rw [heq,e1] at e2
    exact wf_not6 hc.nodes (eq_of_beq e2)
   have hb0:∀ r:Int,A.eq c0 10=true→∀ z:Int,z=(t).size→A.lt z 2000=true→r=(boundsR env (t)).2.2→A.not (A.eq r 0)=true→False:=by
    intro r e1 z e2 e3 e4 e5
    rw [e4,(hcs e1 z e2 e3).1,hneg,heq] at e5
    cases e5
   cbv
   repeat' (first|apply And.intro|exact fun (_:FF)=>by kernel_rfl|(intro h2;cbv)|apply Or.inl|(refine X.call (F9c hc.le hc.sz ht fun rz hrz=> ?_);cbv)|(refine X.call (F11 he hok hrn hvl hc.le hc.sz hc.nod ht fun r6 hr6=> ?_);cbv)|(refine X.call (F17 he hok hc.le ht fun e0 e1 e2 e3 e4 g0 g1 g2 g3 g4 rB hlo hup hrB=> ?_);cbv))
   all_goals (try first|exact hinm|exact hin1)
   all_goals first
    |exact (hn6 _ hr6 (by assumption)).elim
    |exact (hb0 _ (by assumption) _ hrz (by assumption) hrB (by assumption)).elim
    |(refine ⟨some (n+1,e0,e1,e2,e3,e4),⟨hlt1 (by assumption),_,hlo,(hcs (by assumption) _ hrz (by assumption)).2.1⟩,by have hq1:=hlt1 (by assumption);show 2000-(n+1)<2000-n;omega,[0,1,2,3,4],rfl,?_⟩;(have hbb:A.asBool (A.cell (A.lit [[.bool true],[.bool false]]) (Int.ofNat m) 0)=true:=by assumption);(cbv;repeat' apply And.intro);all_goals try first|trivial|rfl|(rw [X.a];rfl))
    |(refine ⟨some (n+1,g0,g1,g2,g3,g4),⟨hlt1 (by assumption),_,hup,(hcs (by assumption) _ hrz (by assumption)).2.2⟩,by have hq1:=hlt1 (by assumption);show 2000-(n+1)<2000-n;omega,[0,1,2,3,4],rfl,?_⟩;(cbv;repeat' apply And.intro);all_goals try first|trivial|rfl|(rw [X.a];rfl))
    |(refine ⟨(m+1,false,fn),by show m+1≤2;omega,by show 2-(m+1)<2-m;omega,[0,1,2,3],rfl,?_⟩;(cbv;repeat' apply And.intro);all_goals try first|trivial|rfl|(rw [X.a];rfl))
 ·clear h1
  cbv
  repeat' (first|apply And.intro|exact fun (_:FF)=>by kernel_rfl|(intro h2;cbv)|apply Or.inl)
  any_goals exact hinj
  refine ⟨j+1,by omega,by omega,[0],rfl,?_⟩
  (cbv;repeat' apply And.intro);all_goals try first|trivial|rfl|(rw [X.a];rfl)
end Go.VC.T07
end
