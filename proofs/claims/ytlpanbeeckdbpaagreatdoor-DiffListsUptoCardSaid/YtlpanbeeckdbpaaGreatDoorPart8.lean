/- Part 8 of the common texts: L2 LG TE. -/
import Derived.Shelf.Small.Strs
import Derived.Shelf.Small.Wraps
import Derived.Shelf.Strconv.Itoa3
import Derived.Shelf.Strings.Search3
import Derived.Shelf.Strings.Split
import Derived.Shelf.Strings.Builder1
import Derived.Shelf.Strings.OnBuilder
import Derived.Shelf.Strings.Fields
import Derived.Shelf.Spec.SlicesGrow
import Derived.Test.YtlpanbeeckdbpaaGreatDoorPart5
import Derived.Test.YtlpanbeeckdbpaaGreatDoorPart3
import Derived.Test.YtlpanbeeckdbpaaGreatDoorPart7
set_option linter.all false
set_option maxRecDepth 100000
set_option maxHeartbeats 16000000

section
namespace Go.Proofs
open Go.Shelf
def Tryz.laysM171_ren:Go.Shelf.Ren:=⟨fun|171=>24|243=>54|246=>101|283=>144|284=>145|285=>146|286=>147|129=>163|317=>206|318=>207|319=>208|320=>209|337=>249|338=>250|n=>n,fun|3=>3|9=>9|2=>2|4=>4|171=>222|0=>0|53=>223|37=>104|5=>5|173=>226|212=>292|51=>183|20=>20|213=>293|46=>171|232=>364|233=>365|n=>n,fun|17=>2|18=>4|19=>5|n=>n⟩
theorem Tryz.laysM171:Go.Proofs.LaysM.n171 Tryz.prog Tryz.laysM171_ren:=by constructor<;>first|kernel_rfl|(intro w;kernel_rfl)|(constructor<;>first|kernel_rfl|(intro w;kernel_rfl))
open Go.RowKit Go.Sort Go.Lib in
theorem Tryz.strconv_Itoa (n:Int) (h0: -9223372036854775808≤n) (h1:n≤9223372036854775807) (w:World) (htab:Lib.TabIs Tryz.prog w "internal/strconv.uint64pow10" .u64 Lib.pow10Tab):
 Calls Tryz.prog 24 #[.int .i64 n] w fun e w'=>e= .returned (.string ⟨(Lib.itoa n).toArray⟩)∧∃ k os,w'=grow (w.drewN k) os:=Any.strconv_Itoa Tryz.laysM171 n h0 h1 w htab
def Tryz.lays171_ren:Go.Shelf.Ren:=⟨fun|171=>24|243=>54|246=>101|283=>144|284=>145|285=>146|286=>147|129=>163|317=>206|318=>207|319=>208|320=>209|337=>249|338=>250|n=>n,fun|3=>3|9=>9|2=>2|4=>4|171=>222|0=>0|53=>223|37=>104|5=>5|173=>226|212=>292|51=>183|20=>20|213=>293|46=>171|232=>364|233=>365|n=>n,fun|17=>2|18=>4|19=>5|n=>n⟩
theorem Tryz.lays171:Go.Proofs.Lays.n171 Tryz.prog Tryz.lays171_ren:=by constructor<;>first|kernel_rfl|(intro w;kernel_rfl)|(constructor<;>first|kernel_rfl|(intro w;kernel_rfl))
open Go.RowKit Go.Sort Go.Lib in
theorem Tryz.strconv_Itoa_small (i:Nat) (hi:i<100) (w:World):
 Calls Tryz.prog 24 #[.int .i64 i] w fun e w'=>e= .returned (.string ⟨(Lib.decDigits i).toArray⟩)∧w'=w:=Any.strconv_Itoa_small Tryz.lays171 i hi w
def Tryz.lays144_ren:Go.Shelf.Ren:=⟨fun|144=>349|143=>365|219=>372|217=>377|225=>378|224=>379|267=>380|266=>382|314=>383|n=>n,fun|9=>9|4=>4|3=>3|5=>5|46=>171|146=>433|51=>183|n=>n,fun|1=>3|n=>n⟩
theorem Tryz.lays144:Go.Proofs.Lays.n144 Tryz.prog Tryz.lays144_ren:=by constructor<;>first|kernel_rfl|(intro w;kernel_rfl)|(constructor<;>first|kernel_rfl|(intro w;kernel_rfl))
open Go.RowKit Go.Lib in
theorem Tryz.strings_Contains (s sub:ByteArray) (m:Int) (w:World) (hs:s.size<4294967281) (hm:w.cell? ⟨3,0,none⟩=some (.int .i64 m)):
 Calls Tryz.prog 349 #[.string s,.string sub] w fun e w'=>e= .returned (.bool (Lib.contains s.data.toList sub.data.toList))∧w'=w:=Any.strings_Contains Tryz.lays144 s sub m w hs hm
def Tryz.lays146_ren:Go.Shelf.Ren:=⟨fun|146=>332|221=>352|268=>367|138=>368|143=>365|195=>373|197=>374|218=>375|219=>372|260=>381|217=>377|225=>378|224=>379|267=>380|266=>382|314=>383|n=>n,fun|9=>9|31=>46|3=>3|4=>4|0=>0|105=>430|21=>21|5=>5|46=>171|119=>114|139=>437|138=>436|146=>433|51=>183|n=>n,fun|1=>3|3=>6|4=>7|n=>n⟩
theorem Tryz.lays146:Go.Proofs.Lays.n146 Tryz.prog Tryz.lays146_ren:=by constructor<;>first|kernel_rfl|(intro w;kernel_rfl)|(constructor<;>first|kernel_rfl|(intro w;kernel_rfl))
open Go.RowKit Go.Lib in
theorem Tryz.strings_Split (s sep:ByteArray) (m:Int) (w:World) (hs:s.size<4294967281) (hm:w.cell? ⟨3,0,none⟩=some (.int .i64 m)) (h1:1≤sep.size):
 Calls Tryz.prog 332 #[.string s,.string sep] w fun e w'=>
  e= .returned (.slice (some ⟨w.heap.size,0,none⟩) (Lib.countB s sep+1) (Lib.countB s sep+1))∧w'=w.alloc (.cells ((Lib.splitB sep 0 (Lib.countB s sep) s).map Value.string).toArray 9):=Any.strings_Split Tryz.lays146 (by kernel_rfl) s sep m w hs hm h1
def Tryz.lays106_ren:Go.Shelf.Ren:=⟨fun|106=>325|213=>350|265=>366|n=>n,fun|9=>9|3=>3|n=>n,fun|n=>n⟩
theorem Tryz.lays106:Go.Proofs.Lays.n106 Tryz.prog Tryz.lays106_ren:=by constructor<;>first|kernel_rfl|(intro w;kernel_rfl)|(constructor<;>first|kernel_rfl|(intro w;kernel_rfl))
open Go.RowKit in
theorem Tryz.strings_Compare (a b:ByteArray) (w:World):
 Calls Tryz.prog 325 #[.string a,.string b] w fun e w'=>e= .returned (.int .i64 (Lib.compareBytes a.data.toList b.data.toList))∧w'=w:=Any.strings_Compare Tryz.lays106 a b w
def Tryz.lays157_ren:Go.Shelf.Ren:=⟨fun|157=>30|229=>64|199=>65|261=>109|311=>177|312=>178|n=>n,fun|9=>9|31=>46|3=>3|5=>5|4=>4|119=>114|0=>0|40=>116|152=>180|21=>21|154=>182|51=>183|141=>185|196=>255|193=>252|198=>258|49=>256|194=>253|201=>261|226=>310|46=>171|227=>311|n=>n,fun|0=>0|6=>1|n=>n⟩
theorem Tryz.lays157:Go.Proofs.Lays.n157 Tryz.prog Tryz.lays157_ren:=by constructor<;>first|kernel_rfl|(intro w;kernel_rfl)|(constructor<;>first|kernel_rfl|(intro w;kernel_rfl))
open Go.RowKit Go.Lib in
theorem Tryz.strings_Fields (s:ByteArray) (w:World) (hs:s.size<4294967281) (hascii:∀ (j:Nat) b,s.data.toList[j]? =some b→b.toNat<128) (htab:Lib.TabIs Tryz.prog w "strings.asciiSpace" .u8 Lib.asciiSpaceTab):
 Calls Tryz.prog 30 #[.string s] w fun e w'=>
  e= .returned (.slice (some ⟨w.heap.size,0,none⟩) (Lib.fields s.data.toList).length (Lib.fields s.data.toList).length)∧w'=w.alloc (.cells ((Lib.fields s.data.toList).map fun l=>Value.string ⟨l.toArray⟩).toArray 9):=Any.strings_Fields Tryz.lays157 (by kernel_rfl) (by kernel_rfl) s w hs hascii htab
def Tryz.lays156_ren:Go.Shelf.Ren:=⟨fun|156=>32|165=>67|166=>68|169=>69|240=>110|241=>111|276=>179|277=>180|n=>n,fun|31=>46|9=>9|3=>3|4=>4|0=>0|20=>20|72=>120|76=>124|70=>118|37=>104|75=>123|127=>186|164=>263|5=>5|80=>126|n=>n,fun|n=>n⟩
theorem Tryz.lays156:Go.Proofs.Lays.n156 Tryz.prog Tryz.lays156_ren:=by constructor<;>first|kernel_rfl|(intro w;kernel_rfl)|(constructor<;>first|kernel_rfl|(intro w;kernel_rfl))
def Tryz.lays169_ren:Go.Shelf.Ren:=⟨fun|169=>69|n=>n,fun|70=>118|9=>9|0=>0|72=>120|37=>104|127=>186|3=>3|5=>5|n=>n,fun|n=>n⟩
theorem Tryz.lays169:Go.Proofs.Lays.n169 Tryz.prog Tryz.lays169_ren:=by constructor<;>first|kernel_rfl|(intro w;kernel_rfl)|(constructor<;>first|kernel_rfl|(intro w;kernel_rfl))
theorem Tryz.Builder_Extra_169:Builder.Extra Tryz.prog Tryz.lays169_ren:={
 sizeBuilder:=by kernel_rfl
 liesBuilder:=by kernel_rfl
 t5:=Tryz.underlying5
 a5:=Tryz.isAgg5
 z5:=Tryz.sizeOf5
 v5:=Tryz.zeroValue5
 infoByte:=by kernel_rfl
 cellsByte:=by kernel_rfl
 sizeByte:=by kernel_rfl
 neB5:=by decide }
def Tryz.lays240_ren:Go.Shelf.Ren:=⟨fun|240=>110|276=>179|n=>n,fun|0=>0|4=>4|9=>9|20=>20|70=>118|72=>120|164=>263|37=>104|n=>n,fun|n=>n⟩
theorem Tryz.lays240:Go.Proofs.Lays.n240 Tryz.prog Tryz.lays240_ren:=by constructor<;>first|kernel_rfl|(intro w;kernel_rfl)|(constructor<;>first|kernel_rfl|(intro w;kernel_rfl))
theorem Tryz.Builder_X72_240:Builder.X72 Tryz.prog Tryz.lays240_ren:={
 sizeBuilder:=by kernel_rfl
 liesBuilder:=by kernel_rfl }
theorem Tryz.Builder_Extra_156:Builder.Extra Tryz.prog Tryz.lays156_ren:={
 sizeBuilder:=by kernel_rfl
 liesBuilder:=by kernel_rfl
 t5:=Tryz.underlying5
 a5:=Tryz.isAgg5
 z5:=Tryz.sizeOf5
 v5:=Tryz.zeroValue5
 infoByte:=by kernel_rfl
 cellsByte:=by kernel_rfl
 sizeByte:=by kernel_rfl
 neB5:=by decide }
def Tryz.laysGrow_ren:Go.Shelf.Ren:=⟨fun|4=>351|n=>n,fun|22=>24|25=>81|3=>3|4=>4|9=>9|20=>20|0=>0|n=>n,fun|n=>n⟩
theorem Tryz.laysGrow:Go.Proofs.Lays8.n4 Tryz.prog Tryz.laysGrow_ren:=by constructor<;>first|kernel_rfl|(intro w;kernel_rfl)|exact ⟨Tryz.f351.name,by decide,by kernel_rfl⟩
end Go.Proofs
end

section
namespace Go.VC
open Go
section
variable {P:Program} {tt:TypeId→Option TI} {f:FuncId} {args:List PV} {K:PV→List Ob→Prop}
theorem FC.plain (hE:∀ args w,(callFunc f args).run P w= .ok (.enter f args) w)
 (h:∀ E Pp w vals,WR tt E Pp [] w→VRL tt E Pp vals args→Calls P f ⟨vals⟩ w fun e w'=>w'=w∧∃ v pv,e= .returned v∧VR tt E Pp v pv∧K pv []):FC P tt f [] args K:=by
 intro E Pp w vals hw hv
 refine .inl ⟨hE _ _,(h E Pp w vals hw hv).mono ?_⟩
 rintro e w' ⟨rfl,v,pv,rfl,hvr,hk⟩
 exact ⟨v,E,Pp,[],pv,rfl,.refl _,fun _ _ h=>h,hw,hvr,hk,Fr.refl _ _,fun _ _ h=>.inl h,fun i o ri b ho=>by simp at ho⟩
theorem FC.newRow {e:TypeId} {rows:List (List D)} (hE:∀ args w,(callFunc f args).run P w= .ok (.enter f args) w)
 (h:∀ E Pp w vals,WR tt E Pp [] w→VRL tt E Pp vals args→Calls P f ⟨vals⟩ w fun e' w'=>∃ us q cap,e'= .returned (.slice (some ⟨w.heap.size,0,none⟩) rows.length cap)∧w'=(w.drewN q).alloc (.cells ⟨us⟩ e)∧rows.length≤cap∧
   cap*(cksOf tt e).length≤us.length∧RowAt tt Pp e us 0 rows) (hK:K (.row e 0) [.row e (.list rows) true]):FC P tt f [] args K:=by
 intro E Pp w vals hw hv
 refine .inl ⟨hE _ _,(h E Pp w vals hw hv).mono ?_⟩
 rintro e' w' ⟨us,q,cap,rfl,rfl,hcap,hus,hrow⟩
 have hE0:E=[]:=List.eq_nil_of_length_eq_zero (by have:=hw.len;simpa using this)
 subst hE0
 have hhs:(w.drewN q).heap=w.heap:=rfl
 have hget:((w.drewN q).alloc (.cells ⟨us⟩ e)).heap[w.heap.size]? =some (.cells ⟨us⟩ e (0,0)):=by
  show (((w.drewN q).heap).push _)[w.heap.size]? =_
  rw [hhs];simp
 have hold:∀ k,k<w.heap.size→((w.drewN q).alloc (.cells ⟨us⟩ e)).heap[k]? =w.heap[k]? :=by
  intro k hk
  show (((w.drewN q).heap).push _)[k]? =_
  rw [hhs,Array.getElem?_push,if_neg (by omega)]
 have hnopi:∀ ad v,Pp ad v→ad.block≠w.heap.size:=nopi_new hw
 refine ⟨_,[.row w.heap.size 0 rows.length cap],Pp,[.row e (.list rows) true],.row e 0,rfl,fun i x hx=>by simp at hx,fun _ _ h=>h,?_,.row _ _ _ _ _ _ rfl,hK,?_,fun _ _ h=>.inl h,?_⟩
 ·refine ⟨rfl,?_,?_,?_,hw.gl⟩
  ·intro ad v hp
   have:=hw.pi ad v hp
   rw [pc_same (hold _ (pc_lt this))];exact this
  ·intro i o ho hl
   cases i with
   |succ i=>simp at ho
   |zero=>
    simp at ho;subst ho
    refine ⟨_,rfl,us,e,rows,hget,rfl,rfl,hcap,by rw [Nat.zero_add];exact hus,hrow,fun _=>hnopi,fun h=>by cases h⟩
  ·intro i j oi oj ri rj b hi hj _ _ _ _ _ _
   cases i<;>cases j<;>simp at hi hj ⊢
 ·refine ⟨rfl,rfl,rfl,?_,fun k hk _=>hold k hk⟩
  show w.heap.size≤((w.drewN q).heap.push _).size
  rw [hhs];simp
 ·intro i o ri b ho hl hr hb
  cases i with
  |succ i=>simp at ho
  |zero=>simp at hr;subst hr;simp [RI.block?] at hb;subst hb;exact .inl (Nat.le_refl _)
end
def segs:S→List S
 |[]=>[[]]
 |c::l=>if c=47 then []::segs l else match segs l with|[]=>[[c]]|x::xs=>(c::x)::xs
theorem segs_miss:∀ {l:S},Lib.indexByte l 47= -1→segs l=[l]
 |[],_=>rfl
 |c::l,h=>by
  unfold Lib.indexByte at h
  by_cases hc:c=47
  ·subst hc;simp at h
  ·rw [if_neg (by simpa using hc)] at h
   have:Lib.indexByte l 47= -1:=by
    have:=Lib.indexByte_ge l 47
    split at h
    ·rename_i h2;simpa using h2
    ·omega
   simp [segs,hc,segs_miss this]
theorem segs_hit:∀ {l:S} {i:Nat},Lib.indexByte l 47=(i:Int)→segs l=l.take i::segs (l.drop (i+1))
 |[],i,h=>by simp [Lib.indexByte] at h
 |c::l,i,h=>by
  unfold Lib.indexByte at h
  by_cases hc:c=47
  ·subst hc
   have:i=0:=by simp at h;omega
   subst this
   simp [segs]
  ·rw [if_neg (by simpa using hc)] at h
   split at h
   ·omega
   ·rename_i h2
    cases i with
    |zero=>
     have:=Lib.indexByte_ge l 47
     have h2:Lib.indexByte l 47≠ -1:=by simpa using h2
     omega
    |succ i=>
     have:=segs_hit (l:=l) (i:=i) (by omega)
     simp [segs,hc,this]
theorem split_segs (sep:ByteArray) (hsep:sep.data.toList=[47]):∀ (k:Nat) (s:ByteArray),Lib.countB s sep≤k→(Lib.splitB sep 0 k s).map (·.data.toList)=segs s.data.toList:=by
 have hsz:sep.size=1:=by rw [Lib.size_eq,hsep];rfl
 have hidx:∀ s,Lib.indexB s sep=Lib.indexByte s.data.toList 47:=fun s=>by
  rw [Lib.one s sep hsz]
  have h0:=Lib.data_getElem? sep 0 (by omega)
  rw [hsep] at h0
  simp at h0
  rw [← h0]
  rfl
 intro k
 induction k with
 |zero=>
  intro s h
  rw [Lib.splitB_zero]
  rcases Lib.indexB_cases s sep with h1|⟨i,h1,_⟩
  ·rw [hidx] at h1;rw [segs_miss h1];rfl
  ·have:=Lib.countB_hit s sep i (by omega) h1
   omega
 |succ k ih=>
  intro s h
  rcases Lib.indexB_cases s sep with h1|⟨i,h1,h2⟩
  ·rw [Lib.splitB_miss _ _ _ _ h1]
   rw [hidx] at h1;rw [segs_miss h1];rfl
  ·have:=Lib.countB_hit s sep i (by omega) h1
   rw [Lib.splitB_hit _ _ _ _ _ h1,List.map_cons,ih _ (by omega),Nat.add_zero,Lib.extract_from_zero]
   rw [hidx] at h1
   rw [segs_hit h1,hsz]
   congr 2
   simp only [ByteArray.data_extract,Array.toList_extract,List.extract_eq_drop_take]
   rw [List.take_of_length_le]
   rw [List.length_drop,Lib.size_eq];exact Nat.le_refl _
theorem TabP.var {Pp:Per} {g:Nat×IntKind×List Int} (h:TabP Pp g) {w:World} (hp:∀ ad v,Pp ad v→pc w ad=some v):∃ T f,w.heap[g.1]? =some (.cells (g.2.2.map (Value.int g.2.1)).toArray T f):=by
 have h0:=hp _ _ h.1
 cases hx:w.heap[g.1]? with
 |none=>simp only [pc,hx] at h0;cases h0
 |some x=>
  cases x with
  |cells c T f=>
   simp only [pc,hx,if_true,Option.some.injEq,Value.int.injEq,true_and] at h0
   have hsz:c.size=g.2.2.length:=by exact_mod_cast h0
   refine ⟨T,f,?_⟩
   congr 2
   apply Array.ext
   ·simp [hsz]
   ·intro i h1 h2
    have hi:i<g.2.2.length:=by omega
    have h3:=hp _ _ (h.2 i g.2.2[i] (List.getElem?_eq_getElem hi))
    rw [pc_none] at h3
    simp only [World.cell?,hx] at h3
    simp only [Option.isSome_none,Bool.false_eq_true,if_false] at h3
    rw [Array.getElem?_eq_getElem h1] at h3
    simp at h3
    simp [h3]
  |_=>simp [pc,hx] at h0
section
variable {P:Program} {tt:TypeId→Option TI} {f:FuncId}
theorem FC.grown {args:List PV} {K:PV→List Ob→Prop} (hE:∀ args w,(callFunc f args).run P w= .ok (.enter f args) w)
 (h:∀ E Pp w vals,WR tt E Pp [] w→VRL tt E Pp vals args→Calls P f ⟨vals⟩ w fun e w'=>(∃ k os,w'=Go.Sort.grow (w.drewN k) os)∧∃ v pv,e= .returned v∧VR tt E Pp v pv∧K pv []):FC P tt f [] args K:=by
 intro E Pp w vals hw hv
 refine .inl ⟨hE _ _,(h E Pp w vals hw hv).mono ?_⟩
 rintro e w' ⟨⟨k,os,rfl⟩,v,pv,rfl,hvr,hk⟩
 have hold:∀ b,b<w.heap.size→(Go.Sort.grow (w.drewN k) os).heap[b]? =w.heap[b]? :=fun b hb=>by
  show (w.heap++os)[b]? =_
  rw [Array.getElem?_append_left hb]
 refine ⟨v,E,Pp,[],pv,rfl,.refl _,fun _ _ h=>h,⟨hw.len,fun ad u hp=> ?_,fun i o ho=>by simp at ho,fun i j oi oj ri rj b ho=>by simp at ho,hw.gl⟩,hvr,hk,⟨rfl,rfl,rfl,?_,fun b hb _=>hold b hb⟩,fun _ _ h=>.inl h,fun i o ri b ho=>by simp at ho⟩
 ·rw [pc_same (hold _ (pc_lt (hw.pi ad u hp)))];exact hw.pi ad u hp
 show w.heap.size≤(w.heap++os).size
 simp
theorem FC.below {args:List PV} {K:PV→List Ob→Prop} (hE:∀ args w,(callFunc f args).run P w= .ok (.enter f args) w)
 (h:∀ E Pp w vals,WR tt E Pp [] w→VRL tt E Pp vals args→Calls P f ⟨vals⟩ w fun e w'=>Go.RowKit.Below w.heap.size w w'∧∃ v pv,e= .returned v∧VR tt E Pp v pv∧K pv []):FC P tt f [] args K:=by
 intro E Pp w vals hw hv
 refine .inl ⟨hE _ _,(h E Pp w vals hw hv).mono ?_⟩
 rintro e w' ⟨hB,v,pv,rfl,hvr,hk⟩
 exact ⟨v,E,Pp,[],pv,rfl,.refl _,fun _ _ h=>h,⟨hw.len,fun ad u hp=>by rw [pc_same (hB.block _ (pc_lt (hw.pi ad u hp)))];exact hw.pi ad u hp,fun i o ho=>by simp at ho,fun i j oi oj ri rj b ho=>by simp at ho,hw.gl⟩,hvr,hk,
  ⟨hB.os,hB.tape,hB.output,hB.size,fun b hb _=>hB.block b hb⟩,fun _ _ h=>.inl h,fun i o ri b ho=>by simp at ho⟩
end
section
variable {P:Program} {tt:TypeId→Option TI} {f:FuncId} {args:List PV} {K:PV→List Ob→Prop}
theorem FC.newRow0 {e:TypeId} (hE:∀ args w,(callFunc f args).run P w= .ok (.enter f args) w)
 (h:∀ E Pp w vals,WR tt E Pp [] w→VRL tt E Pp vals args→Calls P f ⟨vals⟩ w fun e' w'=>e'= .returned (.slice none 0 0)∧w'=w) (hK:K (.row e 0) [.row e (.list []) true]):FC P tt f [] args K:=by
 intro E Pp w vals hw hv
 refine .inl ⟨hE _ _,(h E Pp w vals hw hv).mono ?_⟩
 rintro e' w' ⟨rfl,rfl⟩
 have hE0:E=[]:=List.eq_nil_of_length_eq_zero (by have:=hw.len;simpa using this)
 subst hE0
 refine ⟨_,[.row0],Pp,[.row e (.list []) true],.row e 0,rfl,fun i x hx=>by simp at hx,fun _ _ h=>h,?_,.row0 _ _ rfl,hK,Fr.refl _ _,fun _ _ h=>.inl h,?_⟩
 ·refine ⟨rfl,hw.pi,?_,?_,hw.gl⟩
  ·intro i o ho hl
   cases i with
   |succ i=>simp at ho
   |zero=>
    simp at ho;subst ho
    exact ⟨_,rfl,rfl⟩
  ·intro i j oi oj ri rj b hi hj _ _ _ _ _ _
   cases i<;>cases j<;>simp at hi hj ⊢
 ·intro i o ri b ho hl hr hb
  cases i with
  |succ i=>simp at ho
  |zero=>simp at hr;subst hr;simp [RI.block?] at hb
end
def isEmptyS:S→Bool|[]=>true|_=>false
def digs (n:Nat):S:=if n<10 then [UInt8.ofNat (48+n)] else [UInt8.ofNat (48+n/10),UInt8.ofNat (48+n % 10)]
theorem digs_eq {n:Nat} (h:n<100):Lib.decDigits n=digs n:=by
 unfold digs
 rw [Lib.decDigits]
 split
 ·rfl
 ·rw [Lib.decDigits,dif_pos (by omega)];rfl
end Go.VC
namespace Go.VC.T07
open Go Go.VC Go.Proofs Go.Shelf
theorem glob0:globOf tt=some 3:=by kernel_rfl
theorem F24 {i:Nat} (hi:i<100) {K:PV→List Ob→Prop} (h:K (.str (digs i)) []):FC Tryz.prog tt 24 [] [.int .i64 (Int.ofNat i)] K:=by
 refine FC.plain (enters_of Tryz.func24 (by kernel_rfl) rfl) fun E Pp w vals hw hv=> ?_
 cases hv with|cons _ _ _ _ h1 hv=>
 cases hv;cases h1
 exact (Tryz.strconv_Itoa_small i hi w).mono fun e w' ⟨h1,h2⟩=>⟨h2,_,_,h1,.str _,by rw [digs_eq hi];exact h⟩
theorem F349 {a b:S} (ha:a.length<4294967281) {K:PV→List Ob→Prop} (h:K (.bool (Lib.contains a b)) []):FC Tryz.prog tt 349 [] [.str a,.str b] K:=by
 refine FC.plain (enters_of Tryz.func349 (by kernel_rfl) rfl) fun E Pp w vals hw hv=> ?_
 obtain ⟨m,hm⟩:=hw.gl.1 3 glob0
 cases hv with|cons _ _ _ _ h1 hv=>cases hv with|cons _ _ _ _ h2 hv=>
 cases hv;cases h1;cases h2
 exact (Tryz.strings_Contains _ _ m w (by rw [Lib.size_eq];exact ha) (hw.piN hm)).mono fun e w' ⟨h1,h2⟩=>⟨h2,_,_,h1,.bool _,h⟩
theorem cks9':cksOf tt 9=[.str]:=by kernel_rfl
theorem rowAt_strs {Pp:Per} {bs:List ByteArray} {zs:List Value}:RowAt tt Pp 9 (bs.map Value.string++zs) 0 ((bs.map fun b=>b.data.toList).map encS):=by
 intro i row hi
 rw [List.getElem?_map,List.getElem?_map] at hi
 cases hx:bs[i]? with
 |none=>rw [hx] at hi;cases hi
 |some b=>
  rw [hx] at hi;cases hi
  rw [cks9']
  refine ⟨rfl,fun j d ck hj hck=> ?_⟩
  cases j with
  |succ j=>simp at hck
  |zero=>
   simp [encS] at hj hck;subst hj hck
   have hi:=(List.getElem?_eq_some_iff.1 hx).1
   refine ⟨.string b,?_,.str b⟩
   rw [List.getElem?_append_left (by simp;exact hi)]
   simp [hx]
theorem F332 {a:S} (ha:a.length<4294967281) {K:PV→List Ob→Prop} (h:K (.row 9 0) [.row 9 (.list ((segs a).map encS)) true]):FC Tryz.prog tt 332 [] [.str a,.str [47]] K:=by
 refine FC.newRow (e:=9) (rows:=(segs a).map encS) (enters_of Tryz.func332 (by kernel_rfl) rfl) (fun E Pp w vals hw hv=> ?_) h
 obtain ⟨m,hm⟩:=hw.gl.1 3 glob0
 cases hv with|cons v1 _ _ _ h1 hv=>cases hv with|cons v2 _ _ _ h2 hv=>
 cases hv
 obtain ⟨s,rfl,hs⟩:∃ b,v1= .string b∧a=b.data.toList:=by cases h1;exact ⟨_,rfl,rfl⟩
 obtain ⟨sep,rfl,hsep⟩:∃ b,v2= .string b∧[47]=b.data.toList:=by
  generalize ([47]:S)=z at h2
  cases h2;exact ⟨_,rfl,rfl⟩
 subst hs
 have hsz:sep.size=1:=by rw [Lib.size_eq,←hsep];rfl
 refine (Tryz.strings_Split s sep m w (by rw [Lib.size_eq];exact ha) (hw.piN hm) (by omega)).mono ?_
 rintro e w' ⟨rfl,rfl⟩
 have e1:=split_segs sep hsep.symm (Lib.countB s sep) s (Nat.le_refl _)
 have e2:((Lib.splitB sep 0 (Lib.countB s sep) s)).length=Lib.countB s sep+1:=Lib.splitB_all sep (by omega) 0 _ s rfl
 have e3:(segs s.data.toList).length=Lib.countB s sep+1:=by rw [← e1,List.length_map,e2]
 refine ⟨(Lib.splitB sep 0 (Lib.countB s sep) s).map Value.string,0,Lib.countB s sep+1,?_,rfl,?_,?_,?_⟩
 ·rw [List.length_map,e3]
 ·rw [List.length_map,e3];exact Nat.le_refl _
 ·rw [cks9',List.length_map,e2];simp
 ·have:=rowAt_strs (Pp:=Pp) (bs:=Lib.splitB sep 0 (Lib.countB s sep) s) (zs:=[])
  rw [e1,List.append_nil] at this
  exact this
theorem bld1:∀ t ti,tt t=some ti→ti.bld=true→t=120:=by
 intro t ti h hb
 have key:∀ l:List (TypeId×TI),(∀ x∈l,x.2.bld=true→x.1=120)→∀ t ti,findT l t=some ti→ti.bld=true→t=120:=by
  intro l
  induction l with
  |nil=>intro _ t ti h;simp [findT] at h
  |cons x r ih=>
   obtain ⟨k,i⟩:=x
   intro hx t ti h hb
   simp only [findT] at h
   cases hk:nb k t with
   |true=>
    rw [hk] at h
    simp only [cond_true,Option.some.injEq] at h
    subst h
    have hkt:k=t:=nb_of hk
    rw [← hkt];exact hx (k,i) (by simp) hb
   |false=>
    rw [hk] at h
    exact ih (fun y hy=>hx y (by simp [hy])) t ti h hb
 have g:(tab.all fun x=> !x.2.bld||x.1==120)=true:=by kernel_rfl
 exact key tab (fun x hx hb=>by simpa [hb] using List.all_eq_true.1 g x hx) t ti h hb
theorem F110 {d:D} {p:PV} (hp:p= .nilp∨p= .box 0 0) {K:PV→List Ob→Prop} (h:K (.tup []) [.box [.box 0 0,.row 5 1],.row 5 d true]):
 FC Tryz.prog tt 110 [.box [p,.row 5 1],.row 5 d true] [.box 0 0] K:=
 FC_copyCheck (T:=120) bld1 (enters_of Tryz.func110 (by kernel_rfl) rfl) (fun b w h0=>Any.Builder_copyCheck_used Tryz.lays240 Tryz.Builder_X72_240 b w h0)
  (fun b w h0 hs hf=>Any.Builder_copyCheck_fresh Tryz.lays240 Tryz.Builder_X72_240 b w h0 hs hf) hp h
theorem F69 {s:List UInt8} (h0:s≠[]) (hl:s.length≤4294967296) {d:D} (hd:d= .list (strRows s)) {p:PV} (hp:ptrLike p=true) {K:PV→List Ob→Prop} (h:K (.str s) [.dead,.dead]):
 FC Tryz.prog tt 69 [.box [p,.row 5 1],.row 5 d true] [.box 0 0] K:=
 FC_String (T:=120) (e:=5) bld1 (by kernel_rfl) (enters_of Tryz.func69 (by kernel_rfl) rfl) (fun b g o cap p cur l w a1 a2 a3 a4 a5 a6 a7=>Bld_String Tryz.lays169 Tryz.Builder_Extra_169 b g o cap p cur l w a1 a2 a3 a4 a5 a6 a7) h0 hl hd hp h
theorem F325 {a b:S} {K:PV→List Ob→Prop} (h:K (.int .i64 (Lib.compareBytes a b)) []):FC Tryz.prog tt 325 [] [.str a,.str b] K:=by
 refine FC.plain (enters_of Tryz.func325 (by kernel_rfl) rfl) fun E Pp w vals hw hv=> ?_
 cases hv with|cons _ _ _ _ h1 hv=>cases hv with|cons _ _ _ _ h2 hv=>
 cases hv;cases h1;cases h2
 exact (Tryz.strings_Compare _ _ w).mono fun e w' ⟨h1,h2⟩=>⟨h2,_,_,h1,.int _ _,h⟩
theorem F351 {n:Nat} (hn:n≤1048576) {K:PV→List Ob→Prop} (h:K (.row 81 0) [.row 81 (.list []) true]):FC Tryz.prog tt 351 [] [.nils,.int .i64 (Int.ofNat n)] K:=by
 by_cases h0:n=0
 ·subst h0
  refine FC.newRow0 (enters_of Tryz.func351 (by kernel_rfl) rfl) (fun E Pp w vals hw hv=> ?_) h
  cases hv with|cons v1 _ _ _ h1 hv=>cases hv with|cons v2 _ _ _ h2 hv=>
  cases hv;cases h1;cases h2
  refine (Any8.slices_Grow_room Tryz.laysGrow none 0 0 0 w (by decide) (by decide) (by decide) (by decide)).mono ?_
  rintro e w' ⟨rfl,rfl⟩
  exact ⟨rfl,rfl⟩
 ·refine FC.newRow (e:=81) (rows:=[]) (enters_of Tryz.func351 (by kernel_rfl) rfl) (fun E Pp w vals hw hv=> ?_) h
  cases hv with|cons v1 _ _ _ h1 hv=>cases hv with|cons v2 _ _ _ h2 hv=>
  cases hv;cases h1;cases h2
  obtain ⟨ti,hti,hck,hby⟩:∃ ti,tt 81=some ti∧ti.cks.length=7∧ti.bytes=112:=⟨_,rfl,rfl,rfl⟩
  obtain ⟨i0,z,_,hi0,hs,hb,hz,hzc,hza,_⟩:=(tt_ok 81 ti hti).info
  have hs1:i0.size=7:=by rw [hs,hck]
  have hz1:z.cells.size=7:=by rw [← Array.length_toList,hzc,List.length_map,hck]
  refine (Any8.slices_Grow_grow Tryz.laysGrow i0 z hi0 hz (by rw [hs1];decide) none 0 0 n [] w (by decide) (by omega) ?_ (by omega) (by simp) (fun _=>rfl) (fun a ha=>by cases ha)).mono ?_
  ·rw [hb,hby];omega
  rintro e w' ⟨rfl,rfl⟩
  refine ⟨_,1,_,rfl,rfl,Nat.zero_le _,?_,?_⟩
  ·rw [show (cksOf tt 81).length=7 by kernel_rfl]
   have h9:=grownCap_ge w (0+n) 0 81
   show grownCap w (0+n) 0 81*7≤Array.size ([].toArray++Builtin.zeroCells z.cells (0+n-0)++Builtin.zeroCells z.cells (grownCap w (0+n) 0 81-(0+n)))
   generalize grownCap w (0+n) 0 81=G at h9 ⊢
   simp only [Array.size_append,Builtin.zeroCells,Array.size_map,Array.size_range,hz1]
   simp;omega
  ·intro i row hi
   simp at hi
theorem tabA {w:World} {Pp:Per} (h:GlF tt Pp) (hp:∀ ad v,Pp ad v→pc w ad=some v):Lib.TabIs Tryz.prog w "strings.asciiSpace" .u8 Lib.asciiSpaceTab:=by
 obtain ⟨T,f,hc⟩:=(h.2 (0,.u8,Lib.asciiSpaceTab) (by rw [show gtabOf tt=[(0,.u8,Lib.asciiSpaceTab),(2,.u64,Lib.pow10Tab)] by kernel_rfl];simp)).var hp
 show World.var? Tryz.prog w "strings.asciiSpace" =_
 unfold World.var?
 rw [show Tryz.prog.globalNamed "strings.asciiSpace" =some 0 by kernel_rfl]
 simp only [Option.bind_some]
 rw [hc]
theorem tabT {w:World} {Pp:Per} (h:GlF tt Pp) (hp:∀ ad v,Pp ad v→pc w ad=some v):Lib.TabIs Tryz.prog w "internal/strconv.uint64pow10" .u64 Lib.pow10Tab:=by
 obtain ⟨T,f,hc⟩:=(h.2 (2,.u64,Lib.pow10Tab) (by rw [show gtabOf tt=[(0,.u8,Lib.asciiSpaceTab),(2,.u64,Lib.pow10Tab)] by kernel_rfl];simp)).var hp
 show World.var? Tryz.prog w "internal/strconv.uint64pow10" =_
 unfold World.var?
 rw [show Tryz.prog.globalNamed "internal/strconv.uint64pow10" =some 2 by kernel_rfl]
 simp only [Option.bind_some]
 rw [hc]
theorem F24z {i:Int} (h0: -9223372036854775808≤i) (hi:i≤9223372036854775807) {K:PV→List Ob→Prop} (h:K (.str (Lib.itoa i)) []):FC Tryz.prog tt 24 [] [.int .i64 i] K:=by
 refine FC.grown (enters_of Tryz.func24 (by kernel_rfl) rfl) fun E Pp w vals hw hv=> ?_
 cases hv with|cons _ _ _ _ h1 hv=>
 cases hv;cases h1
 exact (Tryz.strconv_Itoa i h0 hi w (tabT hw.gl hw.pi)).mono fun e w' ⟨h1,h2⟩=>⟨h2,_,_,h1,.str _,h⟩
theorem F30 {a:S} (ha:a.length<4294967281) (hasc:(a.all fun b=>Nat.blt b.toNat 128)=true) {K:PV→List Ob→Prop} (h:K (.row 9 0) [.row 9 (.list ((Lib.fields a).map encS)) true]):FC Tryz.prog tt 30 [] [.str a] K:=by
 refine FC.newRow (e:=9) (rows:=(Lib.fields a).map encS) (enters_of Tryz.func30 (by kernel_rfl) rfl) (fun E Pp w vals hw hv=> ?_) h
 cases hv with|cons v1 _ _ _ h1 hv=>
 cases hv
 obtain ⟨s,rfl,hs⟩:∃ b,v1= .string b∧a=b.data.toList:=by cases h1;exact ⟨_,rfl,rfl⟩
 subst hs
 refine (Tryz.strings_Fields s w (by rw [Lib.size_eq];exact ha) (fun j b hj=>by
  have:=List.all_eq_true.1 hasc b (List.mem_of_getElem? hj)
  simpa using this) (tabA hw.gl hw.pi)).mono ?_
 rintro e w' ⟨rfl,rfl⟩
 have hm:((Lib.fields s.data.toList).map fun l=>(⟨l.toArray⟩:ByteArray)).map (fun b=>b.data.toList)=Lib.fields s.data.toList:=by
  rw [List.map_map]
  exact (List.map_congr_left fun _ _=>rfl).trans (List.map_id _)
 refine ⟨(Lib.fields s.data.toList).map fun l=>Value.string ⟨l.toArray⟩,0,(Lib.fields s.data.toList).length,?_,rfl,?_,?_,?_⟩
 ·rw [List.length_map]
 ·rw [List.length_map];exact Nat.le_refl _
 ·rw [cks9',List.length_map];simp
 ·have:=rowAt_strs (Pp:=Pp) (bs:=(Lib.fields s.data.toList).map fun l=>(⟨l.toArray⟩:ByteArray)) (zs:=[])
  rw [hm,List.append_nil,List.map_map] at this
  exact this
theorem F32 {ws:List S} {sep:S} (hN:ws.length≤1048576) (hl:(Lib.join ws sep).length≤140737488355328) {K:PV→List Ob→Prop} (h:K (.str (Lib.join ws sep)) []):
 FC Tryz.prog tt 32 [] [.lst 9 (.list (ws.map encS)),.str sep] K:=by
 refine FC.below (enters_of Tryz.func32 (by kernel_rfl) rfl) fun E Pp w vals hw hv=> ?_
 cases hv with|cons v1 _ _ _ h1 hv=>cases hv with|cons v2 _ _ _ h2 hv=>
 cases hv
 obtain ⟨sp,rfl,rfl⟩:∃ b:ByteArray,v2= .string b∧sep=b.data.toList:=by cases h2;exact ⟨_,rfl,rfl⟩
 have nn (a:Option Addr) (cc:Nat) (he:ws=[]):Calls Tryz.prog 32 #[.slice a 0 cc,.string sp] w fun e w'=>Go.RowKit.Below w.heap.size w w'∧∃ v pv,e= .returned v∧VR tt E Pp v pv∧K pv []:=by
  subst he
  refine (Any.strings_Join_none Tryz.lays156 Tryz.Builder_Extra_156 a cc sp w).mono ?_
  rintro e w' ⟨rfl,rfl⟩
  exact ⟨.refl _ _,_,_,rfl,.str _,h⟩
 have hr:RD tt Pp (.slice 9) v1 (.list (ws.map encS)):=by cases h1 with|lst _ _ _ hr=>exact hr
 generalize hd:D.list (ws.map encS)=d at hr
 cases hr with
 |slnil=>exact nn _ _ (by simpa using hd)
 |sl0=>exact nn _ _ (by simpa using hd)
 |sl _ b o len cap rows vf hln hc hrow hpi hrd=>
  obtain rfl:ws.map encS=rows:=by injection hd
  have hk:(cksOf tt 9).length=1:=by kernel_rfl
  have hk0:(cksOf tt 9)[0]? =some .str:=by kernel_rfl
  rw [List.length_map] at hln
  have each (i:Nat) (x:S) (hx:ws[i]? =some x):∃ bs:ByteArray,vf i 0= .string bs∧bs.data.toList=x:=by
   have:=hrd i 0 (encS x) (.str x) .str (by rw [List.getElem?_map,hx];rfl) rfl hk0
   generalize vf i 0=u at this
   cases this
   exact ⟨_,rfl,rfl⟩
  by_cases h0:ws=[]
  ·have:len=0:=by rw [← hln,h0];rfl
   subst this
   exact nn _ _ h0
  obtain ⟨xs,hxs⟩:∃ xs:List ByteArray,xs=(List.range len).map fun i=>match vf i 0 with| .string bs=>bs|_=>ByteArray.empty:=⟨_,rfl⟩
  have hxl:xs.length=len:=by rw [hxs];simp
  have hxe:xs.map (fun b=>b.data.toList)=ws:=by
   apply List.ext_getElem?
   intro i
   rw [List.getElem?_map,hxs,List.getElem?_map]
   by_cases hi:i<len
   ·have hx:ws[i]? =some ws[i]:=List.getElem?_eq_getElem (by omega)
    obtain ⟨bs,e1,e2⟩:=each i _ hx
    rw [List.getElem?_range hi,hx]
    simp only [Option.map_some,e1,e2]
   ·rw [List.getElem?_eq_none (by simp;omega),List.getElem?_eq_none (by omega)];rfl
  have hcell (j:Nat) (x:ByteArray) (hx:xs[j]? =some x):w.cell? ⟨b,o+j,none⟩=some (.string x):=by
   have hj:j<len:=by have:=(List.getElem?_eq_some_iff.1 hx).1;omega
   have h3:=hpi j 0 hj (by rw [hk];decide)
   rw [hk,Nat.mul_one,Nat.add_zero] at h3
   obtain ⟨bs,e1,_⟩:=each j _ (List.getElem?_eq_getElem (by omega))
   rw [hxs,List.getElem?_map,List.getElem?_range hj] at hx
   simp only [Option.map_some,e1,Option.some.injEq] at hx
   rw [← hx,←e1]
   exact hw.piN h3
  have hb:b<w.heap.size:=by
   have hp:0<len:=by rw [← hln];exact List.length_pos_iff.2 h0
   have h3:=hpi 0 0 hp (by rw [hk];decide)
   exact pc_lt (hw.pi _ _ h3)
  have:=Any.strings_Join Tryz.lays156 Tryz.Builder_Extra_156 b o cap xs sp w hcell hb (by omega) (by omega) (by rw [hxe];exact hl)
  rw [hxl,hxe] at this
  refine this.mono ?_
  rintro e w' ⟨rfl,hB⟩
  exact ⟨hB,_,_,rfl,.str _,h⟩
def orcK (f:FuncId) (o:List Ob) (a:List PV):Option { r:PV×List Ob // ∀ K:PV→List Ob→Prop,K r.1 r.2→FC Tryz.prog tt f o a K }:=
 match f,o,a with
 |24,[],[.int .i64 (.ofNat n)]=>if h:n<100 then some ⟨(.str (digs n),[]),fun _ hk=>F24 h hk⟩ else none
 |332,[],[.str s,.str [47]]=>if h:s.length<4294967281 then some ⟨(.row 9 0,[.row 9 (.list ((segs s).map encS)) true]),fun _ hk=>F332 h hk⟩ else none
 |349,[],[.str s,.str t]=>if h:s.length<4294967281 then some ⟨(.bool (Lib.contains s t),[]),fun _ hk=>F349 h hk⟩ else none
 |110,[.box [.nilp,.row 5 1],.row 5 d true],[.box 0 0]=>some ⟨(.tup [],[.box [.box 0 0,.row 5 1],.row 5 d true]),fun _ hk=>F110 (.inl rfl) hk⟩
 |110,[.box [.box 0 0,.row 5 1],.row 5 d true],[.box 0 0]=>some ⟨(.tup [],[.box [.box 0 0,.row 5 1],.row 5 d true]),fun _ hk=>F110 (.inr rfl) hk⟩
 |69,[.box [.box 0 0,.row 5 1],.row 5 d true],[.box 0 0]=>
  match he:(match d with| .list l=>l.map (fun x=>match x with|[.int n]=>UInt8.ofNat n.toNat|_=>0)|_=>[]) with
  |s=>if h:(isEmptyS s=false∧s.length≤4294967296∧eqD d (.list (strRows s))=true) then some ⟨(.str s,[.dead,.dead]),fun _ hk=>F69 (by intro e;rw [e] at h;cases h.1) h.2.1 (eqD_ok h.2.2) rfl hk⟩ else none
 |325,[],[.str s,.str t]=>some ⟨(.int .i64 (Lib.compareBytes s t),[]),fun _ hk=>F325 hk⟩
 |351,[],[.nils,.int .i64 (.ofNat n)]=>if h:n≤1048576 then some ⟨(.row 81 0,[.row 81 (.list []) true]),fun _ hk=>F351 h hk⟩ else none
 |30,[],[.str s]=>if h:s.length<4294967281∧(s.all fun b=>Nat.blt b.toNat 128)=true then some ⟨(.row 9 0,[.row 9 (.list ((Lib.fields s).map encS)) true]),fun _ hk=>F30 h.1 h.2 hk⟩ else none
 |32,[],[.lst 9 (.list l),.str sep]=>
  match he:(l.map fun r=>match r with|[.str s]=>s|_=>[]) with
  |ws=>if h:eqDss l (ws.map encS)=true∧ws.length≤1048576∧(Lib.join ws sep).length≤140737488355328 then some ⟨(.str (Lib.join ws sep),[]),fun _ hk=>by rw [eqDss_ok h.1];exact F32 h.2.1 h.2.2 hk⟩ else none
 |_,_,_=>none
end Go.VC.T07
end

section
namespace Go.VC
def kwL:List S:=[[97,100,100,101,100],[114,101,109,111,118,101,100],[109,111,118,101,100],[107,105,110,100],[102,97,99,97,100,101],[97,114,105,116,121],[118,97,114,105,97,110,99,101],[111,112,101,110,101,100],[99,108,111,115,101,100],[117,112,112,101,114],[108,111,119,101,114],[98,111,117,110,100],[115,105,103,110,97,116,117,114,101],[100,101,112,114,101,99,97,116,101,100],[114,101,115,116,111,114,101,100]]
def kwT:S:=[97,100,100,101,100,32,114,101,109,111,118,101,100,32,109,111,118,101,100,32,107,105,110,100,32,102,97,99,97,100,101,32,97,114,105,116,121,32,118,97,114,105,97,110,99,101,32,111,112,101,110,101,100,32,99,108,111,115,101,100,32,117,112,112,101,114,32,108,111,119,101,114,32,98,111,117,110,100,32,115,105,103,110,97,116,117,114,101,32,100,101,112,114,101,99,97,116,101,100,32,114,101,115,116,111,114,101,100]
def dN:S:=[110,97,114,114,111,119,101,100]
def dW:S:=[119,105,100,101,110,101,100]
def dR:S:=[114,101,112,108,97,99,101,100]
def eA:S:=[98,114,101,97,107,115,32,97,108,108]
def eC:S:=[98,114,101,97,107,115,32,99,97,108,108,101,114,115]
def eI:S:=[98,114,101,97,107,115,32,105,109,112,108,101,109,101,110,116,101,114,115]
def endW (ca im:Bool):List S:=bif !ca&& !im then [eA] else bif !ca then [eC] else bif !im then [eI] else []
def dirW (dr:Int):S:=if dr=2 then dN else if dr=3 then dW else dR
def restW (k:Int) (t:S) (ix dr:Int) (ca im:Bool):List S:=
 (if k=2 then [t] else [])++((if k=6∨k=11 then [decN ix.toNat] else [])++((if k=9∨k=10∨k=11∨k=12 then [dirW dr] else [])++endW ca im))
def textC (k:Int) (n t:S) (ix dr:Int) (ca im:Bool):S:=
 if k<0∨15≤k then [] else if (k=6∨k=11)∧ix<0 then [] else if (k=9∨k=10∨k=11∨k=12)∧(dr<2∨4<dr) then [] else
  joinW (kwL.getD k.toNat []::n::restW k t ix dr ca im)
section
variable {k:Int} {n t:S} {ix dr:Int} {ca im:Bool}
theorem textC0 (h:k<0∨15≤k):textC k n t ix dr ca im=[]:=by rw [textC,if_pos h]
theorem textC1 (h:k=6∨k=11) (h2:ix<0):textC k n t ix dr ca im=[]:=by
 rw [textC];split;· rfl
 rw [if_pos ⟨h,h2⟩]
theorem textC2 (h:k=9∨k=10∨k=11∨k=12) (h2:dr<2∨4<dr):textC k n t ix dr ca im=[]:=by
 rw [textC];split;· rfl
 split;· rfl
 rw [if_pos ⟨h,h2⟩]
theorem textC3 (h:¬(k<0∨15≤k)) (h2:k=6∨k=11→¬ix<0) (h3:k=9∨k=10∨k=11∨k=12→¬(dr<2∨4<dr)):
 textC k n t ix dr ca im=joinW (kwL.getD k.toNat []::n::restW k t ix dr ca im):=by
 rw [textC,if_neg h,if_neg (fun e=>h2 e.1 e.2),if_neg (fun e=>h3 e.1 e.2)]
end
theorem kw_fields:Lib.fields kwT=kwL:=by decide +kernel
theorem kw_at {k:Int} (h0:0≤k) (h9:k<15):Std.asStr (Std.cell (.list (kwL.map encS)) k 0)=kwL.getD k.toNat []:=by
 obtain ⟨n,rfl⟩:=Int.eq_ofNat_of_zero_le h0
 have:n<kwL.length:=by show n<15;omega
 have:=strAt (A:=Std) rfl (l:=kwL) (d:=.list (kwL.map encS)) rfl this
 rw [show ((n:Nat):Int)=Int.ofNat n from rfl,this,show (Int.ofNat n).toNat=n from rfl,List.getD_eq_getElem?_getD,List.getElem?_eq_getElem];rfl
theorem kw_ne {k:Int} (h0:0≤k) (h9:k<15):kwL.getD k.toNat []≠[]:=by
 obtain ⟨n,rfl⟩:=Int.eq_ofNat_of_zero_le h0
 match n,h9 with
 |0,_|1,_|2,_|3,_|4,_|5,_|6,_|7,_|8,_|9,_|10,_|11,_|12,_|13,_|14,_=>decide
 |n+15,h=>omega
theorem kw_lb (n:Nat):(kwL.getD n []).length≤10:=by
 match n with
 |0|1|2|3|4|5|6|7|8|9|10|11|12|13|14=>decide
 |n+15=>show ([]:S).length≤10;decide
theorem join_len (ws:List S) (sep:S):(Lib.join ws sep).length≤(ws.map fun w=>w.length+sep.length).sum:=by
 have key:∀ l:List S,(List.intercalate sep l).length≤(l.map fun w=>w.length+sep.length).sum:=by
  intro l
  induction l with
  |nil=>simp [List.intercalate]
  |cons x l ih=>
   cases l with
   |nil=>simp [List.intercalate]
   |cons y l=>simp [List.intercalate,List.intersperse] at ih ⊢;omega
 unfold Lib.join
 exact key ws
end Go.VC
namespace Go.VC
theorem filter_sum {α:Type} {f:α→Nat} {p:α→Bool}:∀ l:List α,((l.filter p).map f).sum≤(l.map f).sum
 |[]=>by simp
 |x::l=>by
  have:=filter_sum (f:=f) (p:=p) l
  rw [List.filter_cons];split<;>simp<;>omega
theorem dirW_len (dr:Int):(dirW dr).length≤8:=by
 unfold dirW
 split
 ·decide
 ·split<;>decide
theorem endW_sum (ca im:Bool):((endW ca im).map fun w=>w.length+1).sum≤20:=by cases ca<;>cases im<;>decide
theorem words_sum {k:Int} {n t:S} {ix dr:Int} {ca im:Bool} (hn:n.length≤300) (ht:t.length≤300) (hi:ix≤9223372036854775807):((kwL.getD k.toNat []::n::restW k t ix dr ca im).map fun w=>w.length+1).sum≤2000:=by
 have h1:=kw_lb k.toNat
 have h2:=decN_len 18 ix.toNat (by omega)
 have h3:=dirW_len dr
 have h4:=endW_sum ca im
 unfold restW
 simp only [List.map_cons,List.sum_cons,List.map_append,List.sum_append]
 split<;>split<;>split<;>simp only [List.map_cons,List.sum_cons,List.map_nil,List.sum_nil]<;>omega
theorem joinW_len {k:Int} {n t:S} {ix dr:Int} {ca im:Bool} (hn:n.length≤300) (ht:t.length≤300) (hi:ix≤9223372036854775807):(joinW (kwL.getD k.toNat []::n::restW k t ix dr ca im)).length≤2000:=
 Nat.le_trans (join_len _ _) (Nat.le_trans (filter_sum _) (words_sum hn ht hi))
def dirD:D:=.list [[.int 2,.str dN],[.int 3,.str dW],[.int 4,.str dR]]
theorem dir_has {dr:Int} (h:¬(dr<2∨4<dr)):Std.mhas dirD (.int dr)=true∧Std.asStr (Std.mget dirD (.int dr) 0)=dirW dr:=by
 have:dr=2∨dr=3∨dr=4:=by omega
 rcases this with rfl|rfl|rfl<;>exact ⟨rfl,rfl⟩
theorem dir_no {dr:Int} (h:dr<2∨4<dr):Std.mhas dirD (.int dr)=false:=by
 have h2:dr≠2:=by omega
 have h3:dr≠3:=by omega
 have h4:dr≠4:=by omega
 simp [Std,std,dirD,rowsD,hasKey,keyEq,h2,h3,h4]
end Go.VC
end
