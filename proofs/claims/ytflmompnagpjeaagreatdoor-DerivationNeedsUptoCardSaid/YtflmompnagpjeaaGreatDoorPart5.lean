/- Part 5 of the common texts. -/
import Derived.Shelf.Small.Strs
import Derived.Shelf.Small.Wraps
import Derived.Shelf.Strconv.Itoa3
import Derived.Shelf.Strings.Search3
import Derived.Shelf.Strings.Split
import Derived.Ground.SlsfProg
import Derived.Shelf.SlSortCmp.NoneTotal
import Derived.Shelf.Spec.SlicesGrow
import Derived.Shelf.Small.Bits
import Derived.Shelf.Sort.Plain
import Derived.Shelf.Slices.In.SortNone
import Derived.Test.YtflmompnagpjeaaGreatDoorPart4
set_option linter.all false
set_option maxRecDepth 100000
set_option maxHeartbeats 16000000
open And renaming intro→bq
open Array renaming extract_eq_self_of_le→jn,getElem?_push→JZ,length_toList→ey
open Bool renaming and_eq_true→bw,and_false→iI,eq_iff_iff→cM,true_and→ka
open ByteArray renaming data_extract→Cx
open Int renaming natCast_nonneg→dS,ofNat→bk,ofNat_eq_natCast→bz,ofNat_lt→lz
open List renaming all_eq_true→eF,append_assoc→bI,append_nil→cA,cons_append→dP,drop_eq_getElem_cons→bF,drop_eq_nil_of_le→fo,drop_length→cd,eq_nil_of_length_eq_zero→bY,find?_cons→cH,find?_eq_none→eN,flatMap_append→eD,flatMap_cons→fP,foldl_append→PD,foldl_cons→fB,getD→cc,getElem?_append_left→bS,getElem?_eq_getElem→bx,getElem?_eq_some_iff→dx,getElem?_map→cu,getElem_append_right→EU,getElem_map→zy,getElem_mem→bu,length_append→bt,length_cons→bM,length_drop→jO,length_erase_of_mem→E7,length_flatMap→nj,length_map→bL,length_pos_iff→gx,length_pos_of_mem→Ii,map_append→cj,map_congr_left→gw,map_cons→bJ,map_map→ia,map_nil→hZ,mem_append→bG,mem_cons→bN,mem_cons_of_mem→jC,mem_erase_of_ne→JU,mem_flatMap→dp,mem_map→bP,mem_of_find?_eq_some→eb,mem_range→te,mem_singleton→df,mem_take_iff_getElem→jU,nil_append→jg,nodup_append→cV,nodup_cons→cw,pairwise_cons→fD,pairwise_iff_getElem→hJ,perm_ext_iff_of_nodup→n1,range→fb,set_cons_zero→NA,sum_append→dQ,sum_cons→cm,take_append_drop→cX,take_length→bD,take_of_length_le→db,take_succ_eq_append_getElem→k8
open List.Pairwise renaming nil→CF
open List.cons renaming injEq→gN
open Nat renaming add_zero→iq,le_of_lt→JI,le_refl→cg,le_trans→bQ,lt_or_ge→bV,min_eq_left→Cv,zero_add→dW,zero_le→bB
open Ne renaming symm→dy
open Option renaming getD_some→eR
open Or renaming inl→bE
open Prod renaming ext→dR
open Prod.mk renaming inj→rV
open UInt8 renaming lt_irrefl→rP
namespace Go.Proofs
open Go.Shelf
def Tryz.DZ:Go.Shelf.Ren:=⟨fun|106=>290|213=>308|265=>327|n=>n,fun|9=>9|3=>3|n=>n,fun|n=>n⟩
def Tryz.Oz:Go.Proofs.Lays.n106 Tryz.prog Tryz.DZ:=by constructor<;>first|kernel_rfl|(intro w;kernel_rfl)
open Go.RowKit in
def Tryz.strings_Compare(a b:ByteArray)(w:World):
 Calls Tryz.prog 290 #[.string a,.string b] w λe w'=>e= .returned (.int .i64 (Lib.compareBytes a.data.toList b.data.toList))/\w'=w:=Any.strings_Compare Tryz.Oz a b w
def Tryz.D0:Go.Shelf.Ren:=⟨fun|103=>329|210=>344|206=>354|n=>n,fun|9=>9|4=>4|24=>379|3=>3|n=>n,fun|n=>n⟩
def Tryz.OA:Go.Proofs.Lays.n103 Tryz.prog Tryz.D0:=by constructor<;>first|kernel_rfl|(intro w;kernel_rfl)
open Go.RowKit in
def Tryz.strings_CutPrefix(s p:ByteArray)(w:World):
 Calls Tryz.prog 329 #[.string s,.string p] w λe w'=>e= .returned (.tuple #[.string ⟨(Lib.trimPrefix s.data.toList p.data.toList).toArray⟩,.bool (Lib.hasPrefix s.data.toList p.data.toList)])/\w'=w:=Any.strings_CutPrefix Tryz.OA s p w
def Tryz.DY:Go.Shelf.Ren:=⟨fun|121=>131|214=>187|n=>n,fun|4=>4|9=>9|n=>n,fun|n=>n⟩
def Tryz.Oy:Go.Proofs.Lays.n121 Tryz.prog Tryz.DY:=by constructor<;>first|kernel_rfl|(intro w;kernel_rfl)
open Go.RowKit in
def Tryz.strconv_FormatBool(b:Bool)(w:World):
 Calls Tryz.prog 131 #[.bool b] w λe w'=>e= .returned (.string ⟨(Lib.formatBool b).toArray⟩)/\w'=w:=Any.strconv_FormatBool Tryz.Oy b w
def Tryz.BY:Go.Shelf.Ren:=⟨fun|171=>73|243=>139|246=>190|283=>223|284=>224|285=>225|286=>226|129=>238|317=>266|318=>267|319=>268|320=>269|337=>291|338=>292|n=>n,fun|3=>3|9=>9|2=>2|4=>4|171=>280|0=>0|53=>281|37=>191|5=>5|173=>284|212=>320|51=>296|20=>20|213=>321|46=>250|232=>360|233=>361|n=>n,fun|17=>0|18=>1|19=>2|n=>n⟩
def Tryz.Lo:Go.Proofs.LaysM.n171 Tryz.prog Tryz.BY:=by constructor<;>first|kernel_rfl|(intro w;kernel_rfl)|(constructor<;>first|kernel_rfl|(intro w;kernel_rfl))
open Go.RowKit Go.Sort Go.Lib in
def Tryz.strconv_Itoa(n:Int)(h0: -9223372036854775808<=n)(h1:n<=9223372036854775807)(w:World)(a:Lib.TabIs Tryz.prog w "internal/strconv.uint64pow10" .u64 Lib.pow10Tab):
 Calls Tryz.prog 73 #[.int .i64 n] w λe w'=>e= .returned (.string ⟨(Lib.itoa n).toArray⟩)/\∃k os,w'=grow (w.drewN k) os:=Any.strconv_Itoa Tryz.Lo n h0 h1 w a
def Tryz.DV:Go.Shelf.Ren:=⟨fun|171=>73|243=>139|246=>190|283=>223|284=>224|285=>225|286=>226|129=>238|317=>266|318=>267|319=>268|320=>269|337=>291|338=>292|n=>n,fun|3=>3|9=>9|2=>2|4=>4|171=>280|0=>0|53=>281|37=>191|5=>5|173=>284|212=>320|51=>296|20=>20|213=>321|46=>250|232=>360|233=>361|n=>n,fun|17=>0|18=>1|19=>2|n=>n⟩
def Tryz.Ou:Go.Proofs.Lays.n171 Tryz.prog Tryz.DV:=by constructor<;>first|kernel_rfl|(intro w;kernel_rfl)
open Go.RowKit Go.Sort Go.Lib in
def Tryz.strconv_Itoa_small(i:Nat)(a:i<100)(w:World):
 Calls Tryz.prog 73 #[.int .i64 i] w λe w'=>e= .returned (.string ⟨(Lib.decDigits i).toArray⟩)/\w'=w:=Any.strconv_Itoa_small Tryz.Ou i a w
def Tryz.DX:Go.Shelf.Ren:=⟨fun|144=>307|143=>326|219=>341|217=>347|225=>348|224=>349|267=>350|266=>355|314=>356|n=>n,fun|9=>9|4=>4|3=>3|5=>5|46=>250|146=>393|51=>296|n=>n,fun|1=>3|n=>n⟩
def Tryz.Ox:Go.Proofs.Lays.n144 Tryz.prog Tryz.DX:=by constructor<;>first|kernel_rfl|(intro w;kernel_rfl)
open Go.RowKit Go.Lib in
def Tryz.strings_Contains(s sub:ByteArray)(m:Int)(w:World)(hs:s.size<4294967281)(a:w.cell? ⟨3,0,none⟩=some (.int .i64 m)):
 Calls Tryz.prog 307 #[.string s,.string sub] w λe w'=>e= .returned (.bool (Lib.contains s.data.toList sub.data.toList))/\w'=w:=Any.strings_Contains Tryz.Ox s sub m w hs a
def Tryz.DW:Go.Shelf.Ren:=⟨fun|146=>309|221=>328|268=>342|138=>343|143=>326|195=>351|197=>352|218=>353|219=>341|260=>357|217=>347|225=>348|224=>349|267=>350|266=>355|314=>356|n=>n,fun|9=>9|31=>68|3=>3|4=>4|0=>0|105=>391|21=>21|5=>5|46=>250|119=>395|139=>398|138=>397|146=>393|51=>296|n=>n,fun|1=>3|3=>4|4=>5|n=>n⟩
def Tryz.Ow:Go.Proofs.Lays.n146 Tryz.prog Tryz.DW:=by constructor<;>first|kernel_rfl|(intro w;kernel_rfl)
open Go.RowKit Go.Lib in
def Tryz.strings_Split(s sep:ByteArray)(m:Int)(w:World)(hs:s.size<4294967281)(a:w.cell? ⟨3,0,none⟩=some (.int .i64 m))(h1:1<=sep.size):
 Calls Tryz.prog 309 #[.string s,.string sep] w λe w'=>e= .returned (.slice (some ⟨w.heap.size,0,none⟩) (Lib.countB s sep+1) (Lib.countB s sep+1))/\w'=w.alloc (.cells ((Lib.splitB sep 0 (Lib.countB s sep) s).map Value.string).toArray 9):=Any.strings_Split Tryz.Ow (by kernel_rfl) s sep m w hs a h1
def Tryz.BZ:Go.Shelf.Ren:=⟨fun|4=>304|n=>n,fun|22=>68|25=>9|3=>3|4=>4|9=>9|20=>20|0=>0|n=>n,fun|n=>n⟩
def Tryz.DT:Go.Proofs.Lays8.n4 Tryz.prog Tryz.BZ:=by constructor<;>first|kernel_rfl|(intro w;kernel_rfl)|exact⟨Tryz.f304.name,by decide,by kernel_rfl⟩
def Tryz.DU:Go.Shelf.Ren:=⟨fun|190=>150|125=>196|258=>195|128=>237|129=>238|302=>228|303=>229|304=>230|305=>231|306=>232|307=>233|308=>234|309=>235|310=>236|333=>270|329=>271|330=>272|334=>273|335=>274|336=>275|344=>293|n=>n,fun|31=>68|9=>9|3=>3|46=>250|0=>0|51=>296|53=>281|4=>4|183=>288|182=>287|131=>293|5=>5|218=>323|222=>327|228=>344|229=>345|n=>n,fun|n=>n⟩
def Tryz.HU:Go.Proofs.Lays.n190 Tryz.prog Tryz.DU:=by constructor<;>first|kernel_rfl|(intro w;kernel_rfl)
open Go.Sort Go.RowKit in
def Tryz.slices_Sort_string(gv off cap:Nat)(b:List (List UInt8))(w:World)(c:Holds encStr w gv off b.toArray)(a:gv<w.heap.size)(fh:b.length<4611686018427387904):
 Calls Tryz.prog 150 #[.slice (some ⟨gv,off,none⟩) b.length cap] w λe w'=>e= .returned (.tuple #[])/\∃n os,w'=grow (putRow encStr (Sort.ahead w n) gv off (b.mergeSort λx y=>decide (x<=y)).toArray) os:=Any.slices_Sort_string Tryz.HU gv off cap b w c a fh
open Go.RowKit Go.Sort in
def Tryz.slices_Sort_string_none(p:Option Addr)(cap:Nat)(w:World):
 Calls Tryz.prog 150 #[.slice p 0 cap] w λe w'=>e= .returned (.tuple #[])/\w'=w:=Any.slices_Sort_string_none Tryz.HU p cap w
end Go.Proofs
namespace Go.VC.cG
open Go Go.VC Go.Proofs
section
variable {α:Type}{d:D}{K:PV->List Ob->Prop}
def Sl{f:α->List D}{l:List α}(e:d=bA f l)(hl:l.length<4294967296)
 (h:∀r,r=bA f l->K (.row 29 0) [.row 29 r true]):
 FT 206 [] [.lst 29 d] K:=by
 refine eo Xs Tryz.func206 λA C L X=>?_;obtain⟨g,c,a⟩:=lenOf e;cbv;intro b hb;refine p3 (λJ=>?_) (λJ=>?_) (λJ=>?_)
 ·refine h _ ?_;obtain rfl:=X.a;have hb:=hb J;rw[kB,a,c]at hb;have:l=[]:=bY (by simp only[bz]at hb;omega);rw[this];rfl
 ·obtain rfl:=X.a;simp only[SD,a];omega
 ·refine h _ ?_;obtain rfl:=X.a;rw[e];exact cB (l:=[])
def VZ{f:α->List D}{l:List α}(e:d=bA f l)(hl:l.length<4294967296)
 (h:∀r,r=bA f l->K (.row 57 0) [.row 57 r true]):
 FT 137 [] [.lst 57 d] K:=by
 refine eo XK Tryz.func137 λA C L X=>?_;obtain⟨g,c,a⟩:=lenOf e;cbv;intro b hb;refine p3 (λJ=>?_) (λJ=>?_) (λJ=>?_)
 ·refine h _ ?_;obtain rfl:=X.a;have hb:=hb J;rw[kB,a,c]at hb;have:l=[]:=bY (by simp only[bz]at hb;omega);rw[this];rfl
 ·obtain rfl:=X.a;simp only[SD,a];omega
 ·refine h _ ?_;obtain rfl:=X.a;rw[e];exact cB (l:=[])
def YZ{f:α->List D}{l:List α}(e:d=bA f l)(hl:l.length<4294967296)
 (h:∀r,r=bA f l->K (.row 73 0) [.row 73 r true]):
 FT 227 [] [.lst 73 d] K:=by
 refine eo Xr Tryz.func227 λA C L X=>?_;obtain⟨g,c,a⟩:=lenOf e;cbv;intro b hb;refine p3 (λJ=>?_) (λJ=>?_) (λJ=>?_)
 ·refine h _ ?_;obtain rfl:=X.a;have hb:=hb J;rw[kB,a,c]at hb;have:l=[]:=bY (by simp only[bz]at hb;omega);rw[this];rfl
 ·obtain rfl:=X.a;simp only[SD,a];omega
 ·refine h _ ?_;obtain rfl:=X.a;rw[e];exact cB (l:=[])
def Zr{f:α->List D}{l:List α}(e:d=bA f l)(hl:l.length<4294967296)
 (h:∀r,r=bA f l->K (.row 136 0) [.row 136 r true]):
 FT 143 [] [.lst 136 d] K:=by
 refine eo XJ Tryz.func143 λA C L X=>?_;obtain⟨g,c,a⟩:=lenOf e;cbv;intro b hb;refine p3 (λJ=>?_) (λJ=>?_) (λJ=>?_)
 ·refine h _ ?_;obtain rfl:=X.a;have hb:=hb J;rw[kB,a,c]at hb;have:l=[]:=bY (by simp only[bz]at hb;omega);rw[this];rfl
 ·obtain rfl:=X.a;simp only[SD,a];omega
 ·refine h _ ?_;obtain rfl:=X.a;rw[e];exact cB (l:=[])
def Zq{f:α->List D}{l:List α}(e:d=bA f l)(hl:l.length<4294967296)
 (h:∀r,r=bA f l->K (.row 91 0) [.row 91 r true]):
 FT 144 [] [.lst 91 d] K:=by
 refine eo XI Tryz.func144 λA C L X=>?_;obtain⟨g,c,a⟩:=lenOf e;cbv;intro b hb;refine p3 (λJ=>?_) (λJ=>?_) (λJ=>?_)
 ·refine h _ ?_;obtain rfl:=X.a;have hb:=hb J;rw[kB,a,c]at hb;have:l=[]:=bY (by simp only[bz]at hb;omega);rw[this];rfl
 ·obtain rfl:=X.a;simp only[SD,a];omega
 ·refine h _ ?_;obtain rfl:=X.a;rw[e];exact cB (l:=[])
def Zp{f:α->List D}{l:List α}(e:d=bA f l)(hl:l.length<4294967296)
 (h:∀r,r=bA f l->K (.row 210 0) [.row 210 r true]):
 FT 147 [] [.lst 210 d] K:=by
 refine eo XF Tryz.func147 λA C L X=>?_;obtain⟨g,c,a⟩:=lenOf e;cbv;intro b hb;refine p3 (λJ=>?_) (λJ=>?_) (λJ=>?_)
 ·refine h _ ?_;obtain rfl:=X.a;have hb:=hb J;rw[kB,a,c]at hb;have:l=[]:=bY (by simp only[bz]at hb;omega);rw[this];rfl
 ·obtain rfl:=X.a;simp only[SD,a];omega
 ·refine h _ ?_;obtain rfl:=X.a;rw[e];exact cB (l:=[])
def Zo{f:α->List D}{l:List α}(e:d=bA f l)(hl:l.length<4294967296)
 (h:∀r,r=bA f l->K (.row 213 0) [.row 213 r true]):
 FT 148 [] [.lst 213 d] K:=by
 refine eo XE Tryz.func148 λA C L X=>?_;obtain⟨g,c,a⟩:=lenOf e;cbv;intro b hb;refine p3 (λJ=>?_) (λJ=>?_) (λJ=>?_)
 ·refine h _ ?_;obtain rfl:=X.a;have hb:=hb J;rw[kB,a,c]at hb;have:l=[]:=bY (by simp only[bz]at hb;omega);rw[this];rfl
 ·obtain rfl:=X.a;simp only[SD,a];omega
 ·refine h _ ?_;obtain rfl:=X.a;rw[e];exact cB (l:=[])
end
end Go.VC.cG
namespace Go.VC
section
def jb(l:List S)(s:S):Int:=jA (λx=>x==s) l
mutual
def Ty.sub(ns:List S)(ts:List Ty):Ty->Ty
 | .mk k m n ar fl=>if k=9/\0<=jb ns n/\jb ns n<ts.length then ts.getD (jb ns n).toNat (.mk k m n ar fl)else .mk k m n (Ty.Kg ns ts ar) (Ty.Kh ns ts fl)
def Fe.sub(ns:List S)(ts:List Ty):Fe->Fe| .mk s t b=>.mk s (Ty.sub ns ts t) b
def Ty.Kg(ns:List S)(ts:List Ty):List Ty->List Ty|[]=>[]|t::l=>Ty.sub ns ts t::Ty.Kg ns ts l
def Ty.Kh(ns:List S)(ts:List Ty):List Fe->List Fe|[]=>[]|t::l=>Fe.sub ns ts t::Ty.Kh ns ts l
end
variable {ns:List S}{ts:List Ty}{t:Ty}
def Hg:∀l:List Ty,Ty.Kg ns ts l=l.map (Ty.sub ns ts)
 |[]=>by simp[Ty.Kg]
 |t::l=>by simp[Ty.Kg,Hg l]
def Hh:∀l:List Fe,Ty.Kh ns ts l=l.map (Fe.sub ns ts)
 |[]=>by simp[Ty.Kh]
 |t::l=>by simp[Ty.Kh,Hh l]
def By(hk:t.k=9){i:Nat}(a:jb ns t.n=(i:Int))(h:i<ts.length):t.sub ns ts=ts[i]:=by
 cases t with
 |mk k m n ar fl=>simp only[Ty.k,Ty.n]at hk a;rw[Ty.sub,if_pos ⟨hk,yO,yO⟩,a];simp[h]
def jD(h:¬(t.k=9/\0<=jb ns t.n/\jb ns t.n<ts.length)):t.sub ns ts= .mk t.k t.m t.n (t.ar.map (Ty.sub ns ts)) (t.fl.map (Fe.sub ns ts)):=by
 cases t with
 |mk k m n ar fl=>rw[Ty.sub,if_neg (by exact h),Hg,Hh];rfl
def Fe.sub_eq{f:Fe}:Fe.sub ns ts f= .mk f.s (f.t.sub ns ts) f.b:=by cases f;rw[Fe.sub];rfl
def NO:∀t:Ty,t.sub [] []=t:=by
 refine Ty.parts λt h1 J=>?_;rw[jD yS];refine Ty.ext rfl rfl rfl ?_ ?_
 ·show t.ar.map _=t.ar;rw[gw h1,List.map_id']
 ·show t.fl.map _=t.fl;rw[gw (g:=λf=>f) λf hf=>?_,List.map_id'];rw[Fe.sub_eq,J f hf];cases f;rfl
end
end Go.VC
namespace Go.VC.cG
open Go Go.VC Go.Proofs
def VY{l:List S}{d:D}{s c:S}{K:PV->List Ob->Prop}(j:d=bA encS l)(hl:l.length<4294967296)(hs:c=s)
 (h:∀r:Int,r=jb l s->K (.int .i64 r) []):
 FT 140 [] [.lst 9 d,.str c] K:=by
 refine en (cf 19) Tryz.func140 λA C L X=>?_;obtain⟨b,g,a⟩:=lenOf j;cbv;refine lu X (λi=>i<=b/\∀x∈l.take i,(x==s)=false) (λi=>b-i) 0 ⟨bB _,yS⟩ (λ(i:Nat)=>[(8,.int .i64 i)]) ?_;rintro i ⟨o,ha⟩;cbv;constructor<;>intro h1
 ·have h5:i<l.length:=lY X.a a h1;have n:=tv X.a j h5;have m:=iX X.a j h5;have k:=jX X.a h5;cbv;repeat' (first|apply bq|exact zf|(intro J;cbv)|apply bE)
  any_goals exact m
  any_goals exact k
  ·refine h i ?_;have:l[i]=s:=by rw[<- hs,<-n];obtain rfl:=X.a;simp only[SD]at J;exact J.symm
   exact(fp h5 ha (by simp[this])).symm
  ·have:¬l[i]=s:=by rw[<- hs,<-n];obtain rfl:=X.a;simp only[SD,dL]at J;exactλe=>J e.symm
   refine⟨i+1,⟨by omega,?_⟩,by omega,?_⟩
   ·rw[cb h5];intro x f;rcases bG.1 f with f|f
    ·exact ha x f
    ·simp at f;subst f;simpa using this
   exact yc
 ·have h5:i=b:=gY X.a a h1;subst h5;cbv;refine h (-1) ?_;rw[g,bD]at ha;exact(fq ha).symm
end Go.VC.cG
namespace Go.VC
open Go
def thin:Nat->PV->PV
 |0,p=>p
 |n+1,p=>match p with
  | .nx e d=>.lst e d
  | .agg cs=>.agg (cS (thin n) cs)
  | .bl b=>.bool b
  |p=>p
def S2(l:List PV):List PV:=cS (thin 3) l
theorem eJ.cS {tt E Pp}{f:PV->PV} (hf:∀v p,VR tt E Pp v p->VR tt E Pp v (f p)):∀{vs ps},eJ tt E Pp vs ps->eJ tt E Pp vs (cS f ps)
 |_,_,.nil=>.nil
 |_,_,.cons v p vs ps h t=>.cons _ _ _ _ (hf _ _ h) (eJ.cS hf t)
theorem VR.thin {tt E Pp}:∀(n:Nat) {v p},VR tt E Pp v p->VR tt E Pp v (thin n p)
 |0,_,_,h=>h
 |n+1,v,p,h=>by
  match p,h with
  | .nx e d,h=>cases h with|nx e a n d h=>exact .lst _ _ _ h
  | .agg cs,h=>cases h with|agg vs cs h=>exact .agg _ _ (eJ.cS (λ_ _=>VR.thin n) h)
  | .bl b,h=>cases h;exact .bool b
  | .undef,h| .int _ _,h| .bool _,h| .str _,h| .lst _ _,h| .tup _,h| .box _ _,h| .row _ _,h| .fH _ _ _ _,h| .js _ _ _ _,h| .cP _ _,h| .dptr _ _,h| .rK _ _ _,h| .cy _ _,h| .nilp,h| .nilm,h| .nilf,h| .lf,h| .mp _,h| .dmp _ _,h| .it _,h| .j9 _,h=>exact h
def FC.thin{P:Program}{tt:TypeId->Option TI}{f:FuncId}{objs:List Ob}{args a:List PV}{K:PV->List Ob->Prop}(ha:S2 args=a)(h:FC P tt f objs a K):FC P tt f objs args K:=by subst ha;exactλE Pp w vals b c=>h E Pp w vals b (eJ.cS (λ_ _=>VR.thin 3) c)
end Go.VC
namespace Go.VC
section
variable {α:Type}{j:Nat}
def P4(f:α->α){l:List α}(h:j<l.length)(a:j<((l.take j).map f++l.drop j).length):((l.take j).map f++l.drop j)[j]=l[j]:=by rw[EU yQ];simp[Cv (JI h)]
def K7(f:α->α){l:List α}(h:j<l.length):((l.take j).map f++l.drop j).set j (f l[j])=(l.take (j+1)).map f++l.drop (j+1):=by rw[cb h,List.set_append,if_neg yQ,bF h];have:j-((l.take j).map f).length=0:=yQ;rw[this];simp only[NA,cj,bJ,hZ,bI,dP,jg]
end
end Go.VC
namespace Go.VC.cG
open Go Go.VC Go.Proofs
section
variable {b:Int}{c1 c2:S}{c d g e:D}{K:PV->List Ob->Prop}{ns:List S}{ts:List Ty}
def Qn(hn:g=bA encS ns)(P:e=bA cq ts)(an:ns.length<4294967296)(aA:ts.length<4294967296)
 (hc:∀j (h:j<ts.length) b c1 c2 c d (K:PV->List Ob->Prop),cD ts[j] b c1 c2 c d->(∀o e1 e2 e3 p,cD ts[j] o e1 e2 e3 p->K (dO o e1 e2 e3 p) [])->FT 162 [] [dO b c1 c2 c d,.lst 9 (.list []),.lst 29 (.list [])] K):
 ∀(t:Ty),Ty.le 4294967295 t->∀{b:Int}{c1 c2:S}{c d:D}{K:PV->List Ob->Prop},cD t b c1 c2 c d->(∀o e1 e2 e3 p,cD (t.sub ns ts) o e1 e2 e3 p->K (dO o e1 e2 e3 p) [])->FT 162 [] [dO b c1 c2 c d,.lst 9 g,.lst 29 e] K:=by
 refine Ty.parts λt ai af=>?_;intro v b c1 c2 c d K ht h;obtain⟨t0,t1,t2,aa,U⟩:=ht;have aD:=q9 v;have aB:=wB v;refine en Xy Tryz.func162 λA C L X=>?_;obtain⟨ar,ad,W⟩:=lenOf hn;obtain⟨ax,ae,k⟩:=lenOf P;obtain⟨ap,al,T⟩:=lenOf aa;obtain⟨au,ak,V⟩:=lenOf U;cbv;refine X.call (VY hn an t2 λi hi=>?_);cbv;repeat' (first|apply bq|exact zf|(intro J;cbv)|apply bE)
 rotate_left 2
 iterate 3
  ·have ac:¬(t.k=9/\0<=jb ns t.n/\jb ns t.n<ts.length):=by rw[<- t0,<-hi];obtain rfl:=X.a;simp only[k,SD]at*;omega
   refine X.cut (λ(z:D×D)=>⟨[(2,.lst 29 e),(1,.lst 9 g),(3,.box 0 0),(6,.box 1 0)],[.box [.int .i64 b,.str c1,.str c2,.row 29 2,.row 57 3],.box [.undef,.undef,.undef,.undef,.undef],.row 29 z.1 true,.row 57 z.2 true]⟩) (λz=>z.1=bA cq t.ar/\z.2=bA eZ t.fl) ?_ ?_
   ·cbv;repeat' (first|apply bq|exact zf|(intro J;cbv)|apply bE|(refine X.call (Sl aa yO λr1 am=>?_);cbv)|(refine X.call (VZ U yO λr2 l=>?_);cbv))
    all_goals (refine⟨(r1,r2),⟨am,l⟩,[0,1,2,3],rfl,?_⟩;exact yc)
   ·rintro⟨z1,z2⟩ ⟨F,G⟩;simp only at F G;obtain⟨s,I,n⟩:=lenOf F;obtain⟨q,E,m⟩:=lenOf G;cbv;refine lP X (λx=>x.1<=s/\x.2=bA cq ((t.ar.take x.1).map (Ty.sub ns ts)++t.ar.drop x.1)) (λx=>s-x.1) (0,z1) ⟨bB _,yU F⟩ [0,1,2,3] (λ(x:Nat×D)=>⟨[(45,.int .i64 x.1),(44,.int .i64 (A.len z1)),(43,.row 29 2),(2,.lst 29 e),(1,.lst 9 g),(3,.box 0 0),(6,.box 1 0)],[.box [.int .i64 b,.str c1,.str c2,.row 29 2,.row 57 3],.box [.undef,.undef,.undef,.undef,.undef],.row 29 x.2 true,.row 57 z2 true]⟩) ?_;rintro⟨j,r⟩ ⟨Q,hr⟩;simp only at Q hr;cbv;constructor<;>intro h1
    ·have h5:j<t.ar.length:=lY X.a n h1;have h6:j<((t.ar.take j).map (Ty.sub ns ts)++t.ar.drop j).length:=yQ;have hq:=P4 (Ty.sub ns ts) h5 h6;have R:=gT X.a hr h6;rw[hq]at R;have u:=iX X.a hr h6;have M:=jX X.a h5;cbv;repeat' (first|apply bq|exact zf|(intro J;cbv)|apply bE)
     any_goals exact u
     refine X.call (ai _ (bu h5) (qd v _ (bu h5)) R λo e1 e2 e3 p he=>?_);obtain⟨w,O,N,H,B⟩:=he
     have q1:A.mY r (bk j) 0 [.int o,.str e1,.str e2,e3,p]=bA cq ((t.ar.take (j+1)).map (Ty.sub ns ts)++t.ar.drop (j+1)):=by
      rw[X.a,hr];refine(qQ (a:=bk j) (f:=cq) (y:=t.ar[j].sub ns ts) (i:=j) rfl h6 ?_).trans ?_
      ·rw[dk,dk,w,O,N,H,B];rfl
      ·rw[K7 _ h5]
     cbv;repeat' (first|apply bq|exact zf|(intro J;cbv)|apply bE)
     any_goals exact u
     any_goals exact M
     exact⟨(j+1,A.mY r (bk j) 0 [.int o,.str e1,.str e2,e3,p]),⟨yP,q1⟩,yP,[0,1,2,3],rfl,yc⟩
    have h5:j=s:=gY X.a n h1;subst h5;rw[I,bD,cd,cA]at hr;cbv;refine lP X (λx=>x.1<=q/\x.2=bA eZ ((t.fl.take x.1).map (Fe.sub ns ts)++t.fl.drop x.1)) (λx=>q-x.1) (0,z2) ⟨bB _,yU G⟩ [0,1,2,3] (λ(x:Nat×D)=>⟨[(62,.int .i64 x.1),(61,.int .i64 (A.len z2)),(60,.row 57 3),(2,.lst 29 e),(1,.lst 9 g),(3,.box 0 0),(6,.box 1 0)],[.box [.int .i64 b,.str c1,.str c2,.row 29 2,.row 57 3],.box [.undef,.undef,.undef,.undef,.undef],.row 29 r true,.row 57 x.2 true]⟩) ?_;rintro⟨j,r2⟩ ⟨Q,l⟩;simp only at Q l;cbv;constructor<;>intro h1
    ·have h5:j<t.fl.length:=lY X.a m h1;have h6:j<((t.fl.take j).map (Fe.sub ns ts)++t.fl.drop j).length:=yQ;have hq:=P4 (Fe.sub ns ts) h5 h6;have R:=jS X.a l h6;rw[hq]at R;have u:=iX X.a l h6;have M:=jX X.a h5;cbv;repeat' (first|apply bq|exact zf|(intro J;cbv)|apply bE)
     any_goals exact u
     refine X.call (af _ (bu h5) (sB v _ (bu h5)) R λo e1 e2 e3 p he=>?_);obtain⟨w,O,N,H,B⟩:=he
     have q1:A.mY r2 (bk j) 1 [.int o,.str e1,.str e2,e3,p]=bA eZ ((t.fl.take (j+1)).map (Fe.sub ns ts)++t.fl.drop (j+1)):=by
      rw[X.a,l];refine(qQ (a:=bk j) (f:=eZ) (y:=Fe.sub ns ts t.fl[j]) (i:=j) rfl h6 ?_).trans ?_
      ·rw[ku,ku,hq,Fe.sub_eq,w,O,N,H,B];rfl
      ·rw[K7 _ h5]
     cbv;repeat' (first|apply bq|exact zf|(intro J;cbv)|apply bE)
     any_goals exact u
     any_goals exact M
     exact⟨(j+1,A.mY r2 (bk j) 1 [.int o,.str e1,.str e2,e3,p]),⟨yP,q1⟩,yP,[0,1,2,3],rfl,yc⟩
    have h5:j=q:=gY X.a m h1;subst h5;rw[E,bD,cd,cA]at l;cbv;refine h _ _ _ _ _ ?_;rw[jD ac];exact⟨t0,t1,t2,hr,l⟩
 ·obtain⟨j,Q⟩:∃j:Nat,i=(j:Int):=⟨i.toNat,by obtain rfl:=X.a;simp only[k,SD]at *;omega⟩;subst Q;have c8:j<ts.length:=by obtain rfl:=X.a;simp only[k,SD]at *;omega
  rw[X.a,P];exact cY c8
 ·obtain⟨j,Q⟩:∃j:Nat,i=bk j:=⟨i.toNat,by obtain rfl:=X.a;simp only[k,SD]at *;omega⟩;subst Q;have c8:j<ts.length:=by obtain rfl:=X.a;simp only[k,SD]at *;omega
  have hk:t.k=9:=by rw[<- t0];obtain rfl:=X.a;simp only[k,SD]at *;omega
  refine X.call (hc j c8 _ _ _ _ _ _ (gT X.a P c8) λo e1 e2 e3 p he=>?_);cbv;refine h _ _ _ _ _ ?_;rw[By hk hi.symm c8];exact he
def Qo(t:Ty)(a:Ty.le 4294967295 t)(k:cD t b c1 c2 c d)(h:∀f e1 e2 e3 i,cD t f e1 e2 e3 i->K (dO f e1 e2 e3 i) []):FT 162 [] [dO b c1 c2 c d,.lst 9 (.list []),.lst 29 (.list [])] K:=by refine Qn (ns:=[]) (ts:=[]) rfl rfl yS yS (λj h=>absurd h yS) t a k ?_;rw[NO];exact h
def VQ(p:g=bA encS ns)(a:e=bA cq ts)(i:ns.length<4294967296)(f:ts.length<4294967296)(c8:∀t∈ts,Ty.le 4294967295 t)
 (t:Ty) (k:Ty.le 4294967295 t) (o:cD t b c1 c2 c d) (h:∀l e1 e2 e3 m,cD (t.sub ns ts) l e1 e2 e3 m->K (dO l e1 e2 e3 m) []):FT 162 [] [dO b c1 c2 c d,.lst 9 g,.lst 29 e] K:=
 Qn p a i f (λj n b c1 c2 c d K hc hK=>Qo _ (c8 _ (bu n)) hc hK) t k o h
def Pt(t:Ty)(i:Ty.le 4294967295 t)(k:cD t b c1 c2 c d)(h:∀a e1 e2 e3 f,cD t a e1 e2 e3 f->K (dO a e1 e2 e3 f) []):FT 193 [] [dO b c1 c2 c d] K:=by refine en (cf 5) Tryz.func193 λA C L X=>?_;cbv;refine X.call (Qo t i k λa e1 e2 e3 f he=>?_);cbv;exact h _ _ _ _ _ he
end
end Go.VC.cG
namespace Go.VC
section
def Pm.ok(p:Pm):Prop:=Ty.le 4294967295 p.bound
structure TE.ok (x:TE):Prop where
 np:x.params.length<=4294967295
 p:∀p∈x.params,p.ok
 lo:Ty.le 4294967295 x.lower
 up:Ty.le 4294967295 x.upper
structure VE.ok (x:VE):Prop where
 np:x.params.length<=4294967295
 p:∀p∈x.params,p.ok
 ty:Ty.le 4294967295 x.ty
structure IF.ok (x:IF):Prop where
 nt:x.types.length<=4294967295
 nv:x.values.length<=4294967295
 na:x.aliases.length<=4294967295
 nd:x.deprecated.length<=4294967295
 t:∀y∈x.types,y.ok
 v:∀y∈x.values,y.ok
abbrev KP(f:S)(c1 c2:Int)(a e:S)(b c:D):PV:=.agg [.str f,.int .i64 c1,.int .i64 c2,.str a,.str e,.lst 29 b,.lst 57 c]
abbrev tn(l:S)(c1:D)(c2:Int)(e k:S)(h j:D)(f:Int)(g c:S)(a b:D):PV:=.agg [.str l,.lst 73 c1,.int .i64 c2,.str e,.str k,.lst 29 h,.lst 57 j,.int .i64 f,.str g,.str c,.lst 29 a,.lst 57 b]
abbrev Bs(f:S)(c1:D)(c2:Int)(a e:S)(b c:D):PV:=.agg [.str f,.lst 73 c1,.int .i64 c2,.str a,.str e,.lst 29 b,.lst 57 c]
abbrev Jx(a c1 c2:S):PV:=.agg [.str a,.str c1,.str c2]
abbrev nR(b:S)(c1 c2 c a:D):PV:=.agg [.str b,.lst 136 c1,.lst 91 c2,.lst 210 c,.lst 213 a]
def IT(x:Pm)(f:S)(c1 c2:Int)(a e:S)(b c:D):Prop:=f=x.name/\c1=x.var/\cD x.bound c2 a e b c
def o4(x:TE)(l:S)(c1:D)(c2:Int)(e k:S)(h j:D)(f:Int)(g c:S)(a b:D):Prop:=l=x.name/\c1=bA eU x.params/\cD x.lower c2 e k h j/\cD x.upper f g c a b
def uD(x:VE)(f:S)(c1:D)(c2:Int)(a e:S)(b c:D):Prop:=f=x.name/\c1=bA eU x.params/\cD x.ty c2 a e b c
def EI(x:AE)(a c1 c2:S):Prop:=a=x.name/\c1=x.module/\c2=x.target
def XW(x:DE)(a c1:S):Prop:=a=x.name/\c1=x.note
def kn(x:IF)(b:S)(c1 c2 c a:D):Prop:=b=x.path/\c1=bA fY x.types/\c2=bA lS x.values/\c=bA qI x.aliases/\a=bA ui x.deprecated
section
variable {A:pM}{d:D}{i:Nat}
def kh{l:List Pm}(ha:A=Std)(a:d=bA eU l)(h:i<l.length):IT l[i] (A.bH (A.cell d (bk i) 0)) (A.asInt (A.cell d (bk i) 1)) (A.asInt (A.cell d (bk i) 2)) (A.bH (A.cell d (bk i) 3)) (A.bH (A.cell d (bk i) 4)) (A.cell d (bk i) 5) (A.cell d (bk i) 6):=⟨(Dv ha a h).1,(Dv ha a h).2,FO ha a h⟩
def mz{l:List TE}(ha:A=Std)(a:d=bA fY l)(h:i<l.length):o4 l[i] (A.bH (A.cell d (bk i) 0)) (A.cell d (bk i) 1) (A.asInt (A.cell d (bk i) 2)) (A.bH (A.cell d (bk i) 3)) (A.bH (A.cell d (bk i) 4)) (A.cell d (bk i) 5) (A.cell d (bk i) 6) (A.asInt (A.cell d (bk i) 7)) (A.bH (A.cell d (bk i) 8)) (A.bH (A.cell d (bk i) 9)) (A.cell d (bk i) 10) (A.cell d (bk i) 11):=⟨(S3 ha a h).1,(S3 ha a h).2,QE ha a h,QD ha a h⟩
def oX{l:List VE}(ha:A=Std)(a:d=bA lS l)(h:i<l.length):uD l[i] (A.bH (A.cell d (bk i) 0)) (A.cell d (bk i) 1) (A.asInt (A.cell d (bk i) 2)) (A.bH (A.cell d (bk i) 3)) (A.bH (A.cell d (bk i) 4)) (A.cell d (bk i) 5) (A.cell d (bk i) 6):=⟨(SY ha a h).1,(SY ha a h).2,Qy ha a h⟩
def zr{l:List AE}(ha:A=Std)(a:d=bA qI l)(h:i<l.length):EI l[i] (A.bH (A.cell d (bk i) 0)) (A.bH (A.cell d (bk i) 1)) (A.bH (A.cell d (bk i) 2)):=UP ha a h
def Mc{l:List DE}(ha:A=Std)(a:d=bA ui l)(h:i<l.length):XW l[i] (A.bH (A.cell d (bk i) 0)) (A.bH (A.cell d (bk i) 1)):=XX ha a h
def mL{l:List IF}(ha:A=Std)(a:d=bA dC l)(h:i<l.length):kn l[i] (A.bH (A.cell d (bk i) 0)) (A.cell d (bk i) 1) (A.cell d (bk i) 2) (A.cell d (bk i) 3) (A.cell d (bk i) 4):=WI ha a h
end
def re{A:pM}{α:Type}{f:α->List D}{l:List α}{d:D}{i off:Nat}{vs:List D}(ha:A=Std)(b:d=bA f l)(h:i<l.length)(c:(f l[i]).take off++vs++(f l[i]).drop (off+vs.length)=f l[i]):A.mY d (bk i) off vs=d:=by subst ha b;refine(qQ (a:=bk i) (f:=f) (y:=l[i]) (i:=i) rfl h c).trans ?_;rw[List.set_getElem_self]
end
end Go.VC
namespace Go.VC
open Go
section
section
variable {P:Program}{tt:TypeId->Option TI}{f:FuncId}{args:List PV}{K:PV->List Ob->Prop}
def FC.plain(g:∀args w,(callFunc f args).run P w= .ok (.enter f args) w)
 (h:∀E Pp w vals,WR tt E Pp [] w->eJ tt E Pp vals args->Calls P f ⟨vals⟩ w λe w'=>w'=w/\∃v pv,e= .returned v/\VR tt E Pp v pv/\K pv []):FC P tt f [] args K:=by
 intro E Pp w vals d k;refine .inl ⟨g _ _,(h E Pp w vals d k).mono ?_⟩;rintro e w' ⟨rfl,v,pv,rfl,c,hk⟩;exact⟨v,E,Pp,[],pv,rfl,.refl _,λ_ _ h=>h,d,c,hk,Fr.refl _ _,λ_ _ h=>.inl h,λi o ri b j=>yE j⟩
def FC.newRow{e:TypeId}{rows:List (List D)}(t:∀args w,(callFunc f args).run P w= .ok (.enter f args) w)
 (h:∀E Pp w vals,WR tt E Pp [] w->eJ tt E Pp vals args->Calls P f ⟨vals⟩ w λe' w'=>∃us q cap,e'= .returned (.slice (some ⟨w.heap.size,0,none⟩) rows.length cap)/\w'=(w.drewN q).alloc (.cells ⟨us⟩ e)/\rows.length<=cap/\
   cap*(bR tt e).length<=us.length/\wi tt Pp e us 0 rows) (hK:K (.row e 0) [.row e (.list rows) true]):FC P tt f [] args K:=by
 intro E Pp w vals l y;refine .inl ⟨t _ _,(h E Pp w vals l y).mono ?_⟩;rintro e' w' ⟨us,q,cap,rfl,rfl,n,s,dG⟩;have r:E=[]:=bY (by have:=l.len;simpa using this);subst r;have d:(w.drewN q).heap=w.heap:=rfl;have p:((w.drewN q).alloc (.cells ⟨us⟩ e)).heap[w.heap.size]? =some (.cells ⟨us⟩ e (0,0)):=by show (((w.drewN q).heap).push _)[w.heap.size]? =_;rw[d];simp
 have c:∀k,k<w.heap.size->((w.drewN q).alloc (.cells ⟨us⟩ e)).heap[k]? =w.heap[k]? :=by intro k hk;show (((w.drewN q).heap).push _)[k]? =_;rw[d,JZ,if_neg yO]
 have g:∀ad v,Pp ad v->ad.block≠w.heap.size:=kj l;refine⟨_,[.row w.heap.size 0 rows.length cap],Pp,[.row e (.list rows) true],.row e 0,rfl,λi x B=>yE B,λ_ _ h=>h,?_,.row _ _ _ _ _ _ rfl,hK,?_,λ_ _ h=>.inl h,?_⟩
 ·refine⟨rfl,?_,?_,?_,l.gl⟩
  ·intro ad v u;have:=l.pi ad v u;rw[gF (c _ (xY this))];exact this
  ·intro i o m hl;cases i with
   |succ i=>simp at m
   |zero=>simp at m;subst m;refine⟨_,rfl,us,e,rows,p,rfl,rfl,n,by rw[dW];exact s,dG,λ_=>g,λh=>yC h⟩
  ·intro i j oi oj ri rj b A z _ _ _ _ _ _;cases i<;>cases j<;>simp at A z ⊢
 ·refine⟨rfl,rfl,rfl,?_,?_,λk hk _=>c k hk⟩
  ·show w.heap.size<=((w.drewN q).heap.push _).size;rw[d];simp
  ·intro _;show w.drawn<=(w.drewN q).drawn;simp[World.drewN]
 ·intro i o ri b m hl hr hb;cases i with
  |succ i=>simp at m
  |zero=>simp at hr;subst hr;simp[RI.cZ]at hb;subst hb;exact .inl (cg _)
end
def jE:S->List S
 |[]=>[[]]
 |c::l=>if c=47 then []::jE l else match jE l with|[]=>[[c]]|x::xs=>(c::x)::xs
def uO:∀{l:S},Lib.indexByte l 47= -1->jE l=[l]
 |[],_=>rfl
 |c::l,h=>by
  unfold Lib.indexByte at h;by_cases hc:c=47
  ·subst hc;simp at h
  ·rw[if_neg (yU hc)]at h
   have:Lib.indexByte l 47= -1:=by
    have:=Lib.indexByte_ge l 47;split at h
    ·rename_i J;simpa using J
    ·omega
   simp[jE,hc,uO this]
def Db:∀{l:S}{i:Nat},Lib.indexByte l 47=(i:Int)->jE l=l.take i::jE (l.drop (i+1))
 |[],i,h=>by simp[Lib.indexByte]at h
 |c::l,i,h=>by
  unfold Lib.indexByte at h;by_cases hc:c=47
  ·subst hc;have:i=0:=by simp at h;omega
   subst this;simp[jE]
  ·rw[if_neg (yU hc)]at h;split at h
   ·omega
   ·rename_i J;cases i with
    |zero=>have:=Lib.indexByte_ge l 47;have J:Lib.indexByte l 47≠ -1:=yU J;omega
    |succ i=>have:=Db (l:=l) (i:=i) yO;simp[jE,hc,this]
def Fs(sep:ByteArray)(d:sep.data.toList=[47]):∀(k:Nat)(s:ByteArray),Lib.countB s sep<=k->(Lib.splitB sep 0 k s).map (·.data.toList)=jE s.data.toList:=by
 have fh:sep.size=1:=by rw[Lib.size_eq,d];rfl
 have c:∀s,Lib.indexB s sep=Lib.indexByte s.data.toList 47:=λs=>by rw[Lib.one s sep fh];have h0:=Lib.data_getElem? sep 0 yO;rw[d]at h0;simp at h0;rw[<- h0];rfl
 intro k;induction k with
 |zero=>
  intro s h;rw[Lib.splitB_zero];rcases Lib.indexB_cases s sep with h1|⟨i,h1,_⟩
  ·rw[c]at h1;rw[uO h1];rfl
  ·have:=Lib.countB_hit s sep i yO h1;omega
 |succ k e=>
  intro s h;rcases Lib.indexB_cases s sep with h1|⟨i,h1,J⟩
  ·rw[Lib.splitB_miss _ _ _ _ h1];rw[c]at h1;rw[uO h1];rfl
  ·have:=Lib.countB_hit s sep i yO h1;rw[Lib.splitB_hit _ _ _ _ _ h1,bJ,e _ yO,iq,Lib.extract_from_zero];rw[c]at h1;rw[Db h1,fh]
   congr 2
   simp only[Cx,Array.toList_extract,List.extract_eq_drop_take];rw[db];rw[jO,Lib.size_eq];exact cg _
end
end Go.VC
namespace Go.VC.cG
open Go Go.VC Go.Proofs
section
variable {K:PV->List Ob->Prop}{a b:S}
def Qa:vj tt=some 3:=by kernel_rfl
def Vz(h:∀r:Int,r=Lib.compareBytes a b->K (.int .i64 r) []):FT 290 [] [.str a,.str b] K:=by
 refine FC.plain (enters_of Tryz.func290 (by kernel_rfl) rfl) λE Pp w vals d c=>?_;cases c with|cons _ _ _ _ h1 c=>cases c with|cons _ _ _ _ J c=>
 cases c;cases h1;cases J;exact(Tryz.strings_Compare _ _ w).mono λe w' ⟨h1,J⟩=>⟨J,_,_,h1,.int _ _,h _ rfl⟩
def Ye(h:∀(r:S)(b':Bool),r=Lib.trimPrefix a b->b'=Lib.hasPrefix a b->K (.tup [.str r,.bool b']) []):FT 329 [] [.str a,.str b] K:=by
 refine FC.plain (enters_of Tryz.func329 (by kernel_rfl) rfl) λE Pp w vals d c=>?_;cases c with|cons _ _ _ _ h1 c=>cases c with|cons _ _ _ _ J c=>
 cases c;cases h1;cases J;exact(Tryz.strings_CutPrefix _ _ w).mono λe w' ⟨h1,J⟩=>⟨J,_,_,h1,.tup _ _ (.cons _ _ _ _ (.str _) (.cons _ _ _ _ (.bool _) .nil)),h _ _ rfl rfl⟩
def X8{i:Nat}(d:i<100)(h:∀r:S,r=Lib.decDigits i->K (.str r) []):FT 73 [] [.int .i64 (bk i)] K:=by
 refine FC.plain (enters_of Tryz.func73 (by kernel_rfl) rfl) λE Pp w vals g c=>?_;cases c with|cons _ _ _ _ h1 c=>
 cases c;cases h1;exact(Tryz.strconv_Itoa_small i d w).mono λe w' ⟨h1,J⟩=>⟨J,_,_,h1,.str _,h _ rfl⟩
def Vv(ha:a.length<4294967281)(h:∀r:Bool,r=Lib.contains a b->K (.bool r) []):FT 307 [] [.str a,.str b] K:=by
 refine FC.plain (enters_of Tryz.func307 (by kernel_rfl) rfl) λE Pp w vals d c=>?_;obtain⟨m,g⟩:=d.gl.1 3 Qa;cases c with|cons _ _ _ _ h1 c=>cases c with|cons _ _ _ _ J c=>
 cases c;cases h1;cases J;exact(Tryz.strings_Contains _ _ m w (by rw[Lib.size_eq];exact ha) (d.PY g)).mono λe w' ⟨h1,J⟩=>⟨J,_,_,h1,.bool _,h _ rfl⟩
def Mf:bR tt 9=[.str]:=by kernel_rfl
def FD{Pp:fE}{bs:List ByteArray}{zs:List Value}:wi tt Pp 9 (bs.map Value.string++zs) 0 ((bs.map λb=>b.data.toList).map encS):=by
 intro i row e;rw[cu,cu]at e;cases g:bs[i]? with
 |none=>rw[g]at e;cases e
 |some b=>
  rw[g]at e;cases e;rw[Mf];refine⟨rfl,λj d ck h c=>?_⟩;cases j with
  |succ j=>simp at c
  |zero=>simp[encS]at h c;subst h c;have e:=(dx.1 g).1;refine⟨.string b,?_,.str b⟩;rw[bS (by simp;exact e)];simp[g]
def Ym(ha:a.length<4294967281)(h:∀d,d=bA encS (jE a)->K (.row 9 0) [.row 9 d true]):FT 309 [] [.str a,.str [47]] K:=by
 refine FC.newRow (e:=9) (rows:=(jE a).map encS) (enters_of Tryz.func309 (by kernel_rfl) rfl) (λE Pp w vals i g=>?_) (h _ rfl);obtain⟨m,j⟩:=i.gl.1 3 Qa;cases g with|cons v1 _ _ _ h1 g=>cases g with|cons v2 _ _ _ J g=>
 cases g;obtain⟨s,rfl,hs⟩:∃b,v1= .string b/\a=b.data.toList:=by cases h1;exact⟨_,rfl,rfl⟩
 obtain⟨sep,rfl,c⟩:∃b,v2= .string b/\[47]=b.data.toList:=by generalize ([47]:S)=z at J;cases J;exact⟨_,rfl,rfl⟩
 subst hs;have fh:sep.size=1:=by rw[Lib.size_eq,<-c];rfl
 refine(Tryz.strings_Split s sep m w (by rw[Lib.size_eq];exact ha) (i.PY j) yO).mono ?_;rintro e w' ⟨rfl,rfl⟩;have e1:=Fs sep c.symm (Lib.countB s sep) s (cg _);have e2:((Lib.splitB sep 0 (Lib.countB s sep) s)).length=Lib.countB s sep+1:=Lib.splitB_all sep yO 0 _ s rfl;have e3:(jE s.data.toList).length=Lib.countB s sep+1:=by rw[<- e1,bL,e2]
 refine⟨(Lib.splitB sep 0 (Lib.countB s sep) s).map Value.string,0,Lib.countB s sep+1,?_,rfl,?_,?_,?_⟩
 ·rw[bL,e3]
 ·rw[bL,e3];exact cg _
 ·rw[Mf,bL,e2];simp
 ·have:=FD (Pp:=Pp) (bs:=Lib.splitB sep 0 (Lib.countB s sep) s) (zs:=[]);rw[e1,cA]at this;exact this
end
end Go.VC.cG
namespace Go.VC
section
variable {p:Int->Bool}{s:S}{i:Nat}
def xo(c:Int):Bool:=decide (97<=c)&&decide (c<=122)
def OX(c:Int):Bool:=decide (65<=c)&&decide (c<=90)
def Ep(c:Int):Bool:=decide (48<=c)&&decide (c<=57)
def xa(c:Int):Bool:=xo c||OX c||Ep c||c==95
def PT(c:Int):Bool:=xo c||Ep c
def s4(p:Int->Bool)(s:S):Bool:=s.all λc=>p (c.toNat:Int)
def vw(h:i<s.length)(ha:s4 p (s.take i)=true)(a:p (s[i].toNat:Int)=true):s4 p (s.take (i+1))=true:=mW h ha a
def s3(h:i<s.length)(a:p (s[i].toNat:Int)=false):s4 p s=false:=all_false h a
end
end Go.VC
namespace Go.VC.cG
open Go Go.VC Go.Proofs
section
variable {K:PV->List Ob->Prop}{c:Int}{s:S}
def Sk(h:∀b,b=xo c->K (.bool b) []):FT 257 [] [.int .u8 c] K:=by
 refine en (cf 9) Tryz.func257 λA C L X=>?_;cbv;repeat' (first|apply bq|exact zf|(intro J;cbv)|apply bE)
 all_goals (refine h _ ?_;obtain rfl:=X.a;simp only[SD]at *;simp[xo,J])
def VJ(h:∀b,b=OX c->K (.bool b) []):FT 216 [] [.int .u8 c] K:=by
 refine en (cf 9) Tryz.func216 λA C L X=>?_;cbv;repeat' (first|apply bq|exact zf|(intro J;cbv)|apply bE)
 all_goals (refine h _ ?_;obtain rfl:=X.a;simp only[SD]at *;simp[OX,J])
def Sj(h:∀b,b=Ep c->K (.bool b) []):FT 258 [] [.int .u8 c] K:=by
 refine en (cf 9) Tryz.func258 λA C L X=>?_;cbv;repeat' (first|apply bq|exact zf|(intro J;cbv)|apply bE)
 all_goals (refine h _ ?_;obtain rfl:=X.a;simp only[SD]at *;simp[Ep,J])
def Y2(h:∀b,b=xa c->K (.bool b) []):FT 218 [] [.int .u8 c] K:=by
 refine en (cf 17) Tryz.func218 λA C L X=>?_;cbv;refine X.call (Sk λb1 e=>?_);cbv;repeat' (first|apply bq|exact zf|(intro J;cbv)|apply bE|(refine X.call (VJ λb2 a=>?_);cbv)|(refine X.call (Sj λf d=>?_);cbv))
 all_goals (refine h _ ?_;obtain rfl:=X.a;simp only[SD,gq]at *;simp_all[xa])
def Yj(h:∀b,b=PT c->K (.bool b) []):FT 311 [] [.int .u8 c] K:=by
 refine en (cf 9) Tryz.func311 λA C L X=>?_;cbv;refine X.call (Sk λb1 d=>?_);cbv;repeat' (first|apply bq|exact zf|(intro J;cbv)|apply bE|(refine X.call (Sj λe a=>?_);cbv))
 all_goals (refine h _ ?_;obtain rfl:=X.a;(try simp only[SD]at J);simp_all[PT])
def EP(hs:s.length<=4294967295)(h:∀b,b=s4 xa s->K (.bool b) []):FT 217 [] [.str s,.cy 218 []] K:=by
 refine en Rh Tryz.func217 λA C L X=>?_;obtain⟨n,f⟩:∃n,n=s.length:=⟨_,rfl⟩;have a:A.dr s=bk n:=by rw[X.a,f];rfl
 cbv;refine lu X (λi=>i<=n/\s4 xa (s.take i)=true) (λi=>n-i) 0 ⟨bB _,rfl⟩ (λ(i:Nat)=>[(8,.int .i64 i)]) ?_;rintro i ⟨j,ha⟩;cbv;constructor<;>intro h1
 ·have h5:i<s.length:=by obtain rfl:=X.a;simp only[SD]at h1 a;omega
  have g:A.idx (bk i) (A.dr s):=by rw[a,X.a,f];exact⟨dS _,lz.2 h5⟩
  have e:=jX X.a h5;have d:A.xv s (bk i)=(s[i].toNat:Int):=by rw[X.a];simp[Std,dz,cc,h5]
  have Y:=fz X.a;refine p1 ?_;refine X.call (Y2 λb hb=>?_);have hb:b=xa (A.xv s (bk i)):=hb;rw[d]at hb;cbv;repeat' (first|apply bq|exact zf|(intro J;cbv)|apply bE)
  any_goals exact e
  ·exact h _ (by have J:A.not b=true:=yA;have J:=(Y b).symm.trans J;rw[s3 h5];rw[<- hb];simpa using J)
  ·refine⟨i+1,⟨?_,?_⟩,?_,?_⟩
   ·omega
   ·exact vw h5 ha (by have J:A.not b=false:=yA;have J:=(Y b).symm.trans J;rw[<- hb];simpa using J)
   ·omega
   exact yc
 ·have h5:i=n:=by obtain rfl:=X.a;simp only[SD]at h1 a;omega
  cbv;exact h _ (by rw[h5,f,bD]at ha;exact ha.symm)
def M3(hs:s.length<=4294967295)(h:∀b,b=s4 PT s->K (.bool b) []):FT 217 [] [.str s,.cy 311 []] K:=by
 refine en Rh Tryz.func217 λA C L X=>?_;obtain⟨n,f⟩:∃n,n=s.length:=⟨_,rfl⟩;have a:A.dr s=bk n:=by rw[X.a,f];rfl
 cbv;refine lu X (λi=>i<=n/\s4 PT (s.take i)=true) (λi=>n-i) 0 ⟨bB _,rfl⟩ (λ(i:Nat)=>[(8,.int .i64 i)]) ?_;rintro i ⟨j,ha⟩;cbv;constructor<;>intro h1
 ·have h5:i<s.length:=by obtain rfl:=X.a;simp only[SD]at h1 a;omega
  have g:A.idx (bk i) (A.dr s):=by rw[a,X.a,f];exact⟨dS _,lz.2 h5⟩
  have e:=jX X.a h5;have d:A.xv s (bk i)=(s[i].toNat:Int):=by rw[X.a];simp[Std,dz,cc,h5]
  have Y:=fz X.a;refine p1 ?_;refine X.call (Yj λb hb=>?_);have hb:b=PT (A.xv s (bk i)):=hb;rw[d]at hb;cbv;repeat' (first|apply bq|exact zf|(intro J;cbv)|apply bE)
  any_goals exact e
  ·exact h _ (by have J:A.not b=true:=yA;have J:=(Y b).symm.trans J;rw[s3 h5];rw[<- hb];simpa using J)
  ·refine⟨i+1,⟨?_,?_⟩,?_,?_⟩
   ·omega
   ·exact vw h5 ha (by have J:A.not b=false:=yA;have J:=(Y b).symm.trans J;rw[<- hb];simpa using J)
   ·omega
   exact yc
 ·have h5:i=n:=by obtain rfl:=X.a;simp only[SD]at h1 a;omega
  cbv;exact h _ (by rw[h5,f,bD]at ha;exact ha.symm)
def M4(hs:s.length<=4294967295)(h:∀b,b=s4 Ep s->K (.bool b) []):FT 217 [] [.str s,.cy 258 []] K:=by
 refine en Rh Tryz.func217 λA C L X=>?_;obtain⟨n,f⟩:∃n,n=s.length:=⟨_,rfl⟩;have a:A.dr s=bk n:=by rw[X.a,f];rfl
 cbv;refine lu X (λi=>i<=n/\s4 Ep (s.take i)=true) (λi=>n-i) 0 ⟨bB _,rfl⟩ (λ(i:Nat)=>[(8,.int .i64 i)]) ?_;rintro i ⟨j,ha⟩;cbv;constructor<;>intro h1
 ·have h5:i<s.length:=by obtain rfl:=X.a;simp only[SD]at h1 a;omega
  have g:A.idx (bk i) (A.dr s):=by rw[a,X.a,f];exact⟨dS _,lz.2 h5⟩
  have e:=jX X.a h5;have d:A.xv s (bk i)=(s[i].toNat:Int):=by rw[X.a];simp[Std,dz,cc,h5]
  have Y:=fz X.a;refine p1 ?_;refine X.call (Sj λb hb=>?_);have hb:b=Ep (A.xv s (bk i)):=hb;rw[d]at hb;cbv;repeat' (first|apply bq|exact zf|(intro J;cbv)|apply bE)
  any_goals exact e
  ·exact h _ (by have J:A.not b=true:=yA;have J:=(Y b).symm.trans J;rw[s3 h5];rw[<- hb];simpa using J)
  ·refine⟨i+1,⟨?_,?_⟩,?_,?_⟩
   ·omega
   ·exact vw h5 ha (by have J:A.not b=false:=yA;have J:=(Y b).symm.trans J;rw[<- hb];simpa using J)
   ·omega
   exact yc
 ·have h5:i=n:=by obtain rfl:=X.a;simp only[SD]at h1 a;omega
  cbv;exact h _ (by rw[h5,f,bD]at ha;exact ha.symm)
end
end Go.VC.cG
namespace Go.VC
def Wh:S:=[32,97,110,100,32,97,110,121,32,97,115,32,98,111,111,108,32,100,101,112,114,101,99,97,116,101,100,32,101,108,115,101,32,101,120,112,111,114,116,32,102,97,108,115,101,32,102,110,32,102,111,108,100,32,102,114,111,109,32,105,102,32,105,109,112,111,114,116,32,105,110,32,105,110,116,32,108,101,110,103,116,104,32,108,101,116,32,108,105,115,116,32,109,97,116,99,104,32,109,111,100,117,108,101,32,110,111,110,101,32,110,111,116,32,111,114,32,116,101,120,116,32,116,104,101,110,32,116,114,117,101,32,116,121,112,101,32,117,115,101,32]
def Tx(s:S):Bool:=Lib.contains Wh ([32]++s++[32])
def SM(s:S):Int:=((s.getD 0 0).toNat:Int)
def lg(s:S):Bool:=s != []&&decide (s.length<=32)&&xo (SM s)&&s4 xa s&& !Tx s
def my(s:S):Bool:=s != []&&decide (s.length<=32)&&OX (SM s)&&s4 xa s
def MJ{a b:S}:Std.jy a b=a++b:=rfl
def oP{a:S}:Std.xv a 0=SM a:=rfl
end Go.VC
namespace Go.VC.cG
open Go Go.VC Go.Proofs
section
variable {s:S}{K:PV->List Ob->Prop}
def Yt(hs:s.length<=4294967295)(h:∀b,b=Tx s->K (.bool b) []):FT 289 [] [.str s] K:=by
 refine en (cf 7) Tryz.func289 λA C L X=>?_;have f:∀a:S,A.jy a [32]=a++[32]:=by rw[X.a];exactλ_=>rfl
 have d:A.jy [32] s=[32]++s:=yX;have c:A.inr .i64 (A.add (A.dr [32]) (A.dr s)):=by rw[X.a,fu,fy,gu,gu];simp;omega
 have e:A.inr .i64 (A.add (A.dr (A.jy [32] s)) (A.dr [32])):=by rw[X.a,fu,fy,gu,gu,MJ];simp;omega
 cbv;refine⟨c,e,?_⟩;refine X.call (Vv (a:=Wh) ?_ λb hb=>?_)
 ·simp[Wh]
 cbv;have hb:b=Lib.contains Wh (A.jy (A.jy [32] s) [32]):=hb;rw[f,d]at hb;exact h _ hb
def FN{A:pM}(ha:A=Std)(h:A.not (A.seq s [])=true):A.idx 0 (A.dr s):=by
 subst ha;cases s with
 |nil=>simp[fA,Cm]at h
 |cons c l=>exact⟨Int.le_refl 0,by rw[gu,bM];omega⟩
def JG(hs:s.length<=4294967295)(h:∀b,b=my s->K (.bool b) []):FT 185 [] [.str s] K:=by
 refine en (cf 19) Tryz.func185 λA C L X=>?_;have a:=λh=>FN X.a (s:=s) h;cbv;repeat' (first|apply bq|exact zf|(intro J;cbv)|apply bE|(refine X.call (VJ λb1 d=>?_);cbv)|(refine X.call (EP hs λb2 c=>?_);cbv))
 any_goals exact a yA
 all_goals (refine h _ ?_;obtain rfl:=X.a;simp only[oP,SD]at* <;>simp_all[my]<;>omega)
def GP(hs:s.length<=4294967295)(h:∀b,b=lg s->K (.bool b) []):FT 263 [] [.str s] K:=by
 refine en (cf 24) Tryz.func263 λA C L X=>?_;have a:=λh=>FN X.a (s:=s) h;cbv;repeat' (first|apply bq|exact zf|(intro J;cbv)|apply bE|(refine X.call (Sk λb1 c=>?_);cbv)|(refine X.call (EP hs λb2 e=>?_);cbv)|(refine X.call (Yt hs λf d=>?_);cbv))
 any_goals exact a yA
 all_goals (refine h _ ?_;obtain rfl:=X.a;simp only[oP,SD]at* <;>simp_all[lg]<;>omega)
def Vy(hs:s.length<=4294967295)(h:∀b,b=(lg s||my s)->K (.bool b) []):FT 295 [] [.str s] K:=by
 refine en (cf 9) Tryz.func295 λA C L X=>?_;cbv;refine X.call (GP hs λb1 c=>?_);cbv;repeat' (first|apply bq|exact zf|(intro J;cbv)|apply bE|(refine X.call (JG hs λb2 a=>?_);cbv))
 all_goals (refine h _ ?_;obtain rfl:=X.a;(try simp only[SD]at J);simp_all)
end
end Go.VC.cG
namespace Go.VC
def J4(r:S):Bool:=r != []&&decide (r.length<=3)&& !(decide (1<r.length)&&SM r==48)&&s4 Ep r
def ND(s:S):Bool:=Lib.hasPrefix s [118]&&J4 (Lib.trimPrefix s [118])
def Dc(s:S):Bool:=lg s&&s4 PT s
def DN(s:S):Int:=if ND ((jE s).getLast?.getD [])&&decide (s.length<=64)&&decide (2<=(jE s).length)&&(jE s).all Dc then 0 else 4
def HA(s:S):Bool:=DN s==0
def NX(s:S):jE s≠[]:=by
 induction s with
 |nil=>simp[jE]
 |cons c l a=>
  unfold jE;split
  ·simp
  ·cases h:jE l with
   |nil=>simp
   |cons x xs=>simp
def Ky(s:S):(jE s).length<=s.length+1/\∀x∈jE s,x.length<=s.length:=by
 induction s with
 |nil=>simp[jE]
 |cons c l b=>
  unfold jE;split
  ·refine⟨yQ,λx a=>?_⟩;rcases bN.1 a with rfl|a
   ·simp
   ·have:=b.2 x a;simp;omega
  ·cases h:jE l with
   |nil=>simp
   |cons y ys=>
    rw[h]at b;refine⟨by simp at b ⊢;omega,λx a=>?_⟩;rcases bN.1 a with rfl|a
    ·have:=b.2 y yS;simp;omega
    ·have:=b.2 x (by simp[a]);simp;omega
end Go.VC
namespace Go.VC.cG
open Go Go.VC Go.Proofs
section
variable {s:S}{K:PV->List Ob->Prop}
def Yk(hs:s.length<=4294967290)(h:∀n b,b=ND s->K (.tup [.int .i64 n,.bool b]) []):FT 310 [] [.str s] K:=by
 refine en (cf 53) Tryz.func310 λA C L X=>?_;cbv;refine X.call (Ye λr l hr e=>?_);have p:r.length<=4294967290:=by rw[hr,Lib.trimPrefix];split<;>(try simp)<;>omega
 obtain⟨n,k⟩:∃n,n=r.length:=⟨_,rfl⟩;have a:A.dr r=bk n:=by rw[X.a,k];rfl
 have m:=λh=>FN X.a (s:=r) h;have d:A.lt 1 (A.dr r)=true->A.idx 0 (A.dr r):=by rw[X.a];intro J;rw[im,gu]at J;have J:=of_decide_eq_true J;exact⟨Int.le_refl 0,by rw[gu];omega⟩
 have g:∀b,b=(l&&J4 r)->b=ND s:=λb hb=>by rw[hb,e,hr];rfl
 cbv;repeat' (first|apply bq|exact zf|(intro J;cbv)|apply bE|(refine X.call (M4 yO λb1 o=>?_);cbv))
 any_goals exact d yA
 all_goals try (refine h _ _ (g _ ?_);obtain rfl:=X.a;subst k;clear m d g a h;simp only[oP,SD]at* <;>simp_all[J4]<;>(intros;omega))
 all_goals (
  have c:true=(l&&J4 r):=by obtain rfl:=X.a;simp only[oP,SD]at* <;>simp_all[J4]<;>(intros;omega)
  refine lp X (λy=>y.1<=n) (λy=>n-y.1) (0,0) (bB _) (λ(y:Nat×Int)=>⟨[(40,.int .i64 y.1),(39,.int .i64 (A.dr r)),(5,.int .i64 y.2),(0,.str r)],[]⟩) ?_;rintro⟨i,z⟩ q;simp only at q;cbv;constructor<;>intro h1
  ·have h5:i<r.length:=by obtain rfl:=X.a;simp only[SD]at h1 a;omega
   have j:A.idx (bk i) (A.dr r):=by rw[a,X.a,k];exact⟨dS _,lz.2 h5⟩
   have f:=jX X.a h5;cbv;refine .inr λ_=>?_;cbv;refine⟨j,?_⟩;refine .inr λ_=>?_;cbv;refine .inr λ_=>?_;cbv;refine .inr λ_=>?_;cbv;refine .inl ⟨f,λ_=>?_⟩;cbv;refine⟨(i+1,A.wrap .i64 (A.add (A.wrap .i64 (A.mul 10 z)) (A.wrap .i64 (A.wrap .u8 (A.sub (A.xv r (bk i)) 48))))),?_,?_,?_⟩
   ·simp only;omega
   ·simp only;omega
   exact yc
  ·cbv;exact h _ _ (g _ c))
def Ys(hs:s.length<=4294967200)(h:∀n e,e=DN s->K (.tup [.int .i64 n,.int .i64 e]) []):FT 294 [] [.str s] K:=by
 have u:=NX s;have v:=Ky s;have k:∀i (w:i<(jE s).length),(jE s)[i]∈jE s:=λi w=>bu w;have y:(jE s).getLast?.getD []=(jE s)[(jE s).length-1]'(by have:=gx.2 u;omega):=by rw[List.getLast?_eq_getElem?,bx (by have:=gx.2 u;omega)];rfl
 obtain⟨l,hl⟩:∃l,l=jE s:=⟨_,rfl⟩;have H:0<l.length:=by rw[hl];exact gx.2 u
 rw[<- hl]at v;refine en (cf 49) Tryz.func294 λA C L X=>?_;cbv;refine X.call (Ym yO λd t=>?_);rw[<- hl]at t;obtain⟨j,r,a⟩:=lenOf t;have a:A.len d=bk j:=by rw[X.a];exact a
 have q:A.sub (A.len d) 1=bk (l.length-1):=by rw[a,X.a,pA,r];simp only[bz];omega
 have M:A.inr .i64 (A.sub (A.len d) 1):=by rw[q,X.a,fu];simp only[bz];omega
 have I:A.idx (A.sub (A.len d) 1) (A.len d):=by rw[q,X.a,t];exact cY yO
 have m:A.bH (A.cell d (A.sub (A.len d) 1) 0)=(jE s).getLast?.getD []:=by rw[q,tv X.a t yO,y];simp only[hl]
 have E:(A.bH (A.cell d (A.sub (A.len d) 1) 0)).length<=s.length:=by rw[q,tv X.a t yO];exact v.2 _ (bu _)
 refine p1 ?_;refine X.call (Yk (bQ E yO) λn b hb=>?_);have hb:b=ND (A.bH (A.cell d (A.sub (A.len d) 1) 0)):=hb;rw[m]at hb;have g:∀i,i<=j->(∀x∈l.take i,Dc x=true)->i=j->(b&&decide (s.length<=64)&&decide (2<=l.length))=true->0=DN s:=by intro i _ h1 J h3;rw[J,r,bD]at h1;unfold DN;rw[<- hb,<-hl,h3,ka,if_pos (eF.2 h1)]
 have o:(b&&decide (s.length<=64)&&decide (2<=l.length))=false->4=DN s:=by intro h3;unfold DN;rw[<- hb,<-hl,h3];rfl
 have c:∀i (w:i<l.length),Dc l[i]=false->4=DN s:=by intro i w h3;unfold DN;rw[<- hl];have:l.all Dc=false:=all_false w h3;rw[this,iI];rfl
 cbv;repeat' (first|apply bq|exact zf|(intro J;cbv)|apply bE)
 all_goals try (refine h _ _ (o ?_);obtain rfl:=X.a;clear o c g h m y k;simp only[a,SD]at* <;>simp_all<;>(intros;omega))
 have ek:(b&&decide (s.length<=64)&&decide (2<=l.length))=true:=by obtain rfl:=X.a;clear o c g h m y k;simp only[a,SD]at* <;>simp_all<;>(intros;omega)
 refine lp X (λi=>i<=j/\∀x∈l.take i,Dc x=true) (λi=>j-i) 0 ⟨bB _,yS⟩ (λ(i:Nat)=>⟨[(35,.int .i64 i),(34,.int .i64 (A.len d)),(33,.row 9 0),(5,.int .i64 n)],[.row 9 d true]⟩) ?_;rintro i ⟨w,ha⟩;cbv;constructor<;>intro h1
 ·have h5:i<l.length:=by obtain rfl:=X.a;simp only[a,SD]at h1;omega
  have D:=tv X.a t h5;have G:=iX X.a t h5;have F:=jX X.a h5;have B:(A.bH (A.cell d (bk i) 0)).length<=s.length:=by rw[D];exact v.2 _ (bu h5)
  have Y:=fz X.a;cbv;repeat' (first|apply bq|exact zf|(intro J;cbv)|apply bE)
  any_goals exact G
  refine X.call (GP (bQ B yO) λb1 p=>?_);have p:b1=lg (A.bH (A.cell d (bk i) 0)):=p;rw[D]at p;cbv;repeat' (first|apply bq|exact zf|(intro J;cbv)|apply bE|(refine X.call (M3 (bQ B yO) λb2 f=>?_);cbv))
  any_goals exact F
  ·have f:b2=s4 PT (A.bH (A.cell d (bk i) 0)):=f;rw[D]at f;refine h _ _ (c i h5 ?_);have J:=(Y _).symm.trans J;rw[Dc,<-f];simp at J;simp[J]
  ·have f:b2=s4 PT (A.bH (A.cell d (bk i) 0)):=f;rw[D]at f;have e1:A.not b1=false:=yA;have e2:A.not b2=false:=yA;rw[Y]at e1 e2;refine⟨i+1,⟨?_,?_⟩,?_,?_⟩
   ·omega
   ·rw[cb h5];intro x z;rcases bG.1 z with z|z
    ·exact ha x z
    ·rw[df]at z;rw[z,Dc,<-p,<-f];simp_all
   ·omega
   exact yc
  ·refine h _ _ (c i h5 ?_);have J:A.not b1=true:=J;rw[Y]at J;rw[Dc,<-p];simp at J;simp[J]
 ·have h5:i=j:=by obtain rfl:=X.a;simp only[a,SD]at h1;omega
  cbv;exact h _ _ (g i w ha h5 ek)
def VA(hs:s.length<=4294967200)(h:∀b,b=HA s->K (.bool b) []):FT 279 [] [.str s] K:=by refine en (cf 12) Tryz.func279 λA C L X=>?_;cbv;refine X.call (Ys hs λn e he=>?_);cbv;exact h _ (by rw[HA,<-he];obtain rfl:=X.a;rfl)
end
end Go.VC.cG
namespace Go.Proofs
open Go.Shelf
def Tryz.C6:Go.Shelf.Ren:=⟨fun|6=>286|15=>196|14=>306|28=>237|29=>238|20=>318|21=>319|22=>320|23=>321|24=>322|25=>323|26=>324|27=>325|46=>338|47=>271|48=>272|49=>339|50=>340|57=>346|n=>n,fun|22=>256|24=>259|25=>314|3=>3|39=>250|0=>0|53=>296|55=>281|4=>4|46=>288|45=>287|50=>293|5=>5|9=>9|66=>323|70=>327|76=>344|77=>345|n=>n,fun|n=>n⟩
def Tryz.Hk:Go.Proofs.SlLaysF0.n6 Tryz.prog Tryz.C6:={
 mixed:=by kernel_rfl
 f6:=⟨Tryz.f286.name,by decide,Tryz.func286.trans (congrArg some (by kernel_rfl))⟩
 f14:=⟨Tryz.f306.name,by decide,Tryz.func306.trans (congrArg some (by kernel_rfl))⟩
 f15:=Tryz.func196.trans (congrArg some (by kernel_rfl))
 f20:=⟨Tryz.f318.name,by decide,Tryz.func318.trans (congrArg some (by kernel_rfl))⟩
 f21:=⟨Tryz.f319.name,by decide,Tryz.func319.trans (congrArg some (by kernel_rfl))⟩
 f22:=⟨Tryz.f320.name,by decide,Tryz.func320.trans (congrArg some (by kernel_rfl))⟩
 f23:=⟨Tryz.f321.name,by decide,Tryz.func321.trans (congrArg some (by kernel_rfl))⟩
 f24:=⟨Tryz.f322.name,by decide,Tryz.func322.trans (congrArg some (by kernel_rfl))⟩
 f25:=⟨Tryz.f323.name,by decide,Tryz.func323.trans (congrArg some (by kernel_rfl))⟩
 f26:=⟨Tryz.f324.name,by decide,Tryz.func324.trans (congrArg some (by kernel_rfl))⟩
 f27:=⟨Tryz.f325.name,by decide,Tryz.func325.trans (congrArg some (by kernel_rfl))⟩
 f28:=Tryz.func237.trans (congrArg some (by kernel_rfl))
 f29:=Tryz.func238.trans (congrArg some (by kernel_rfl))
 f46:=⟨Tryz.f338.name,by decide,Tryz.func338.trans (congrArg some (by kernel_rfl))⟩
 f47:=Tryz.func271.trans (congrArg some (by kernel_rfl))
 f48:=Tryz.func272.trans (congrArg some (by kernel_rfl))
 f49:=⟨Tryz.f339.name,by decide,Tryz.func339.trans (congrArg some (by kernel_rfl))⟩
 f50:=⟨Tryz.f340.name,by decide,Tryz.func340.trans (congrArg some (by kernel_rfl))⟩
 f57:=⟨Tryz.f346.name,by decide,Tryz.func346.trans (congrArg some (by kernel_rfl))⟩
 t0:=Tryz.underlying0
 a0:=Tryz.isAgg0
 z0:=Tryz.sizeOf0
 v0:=Tryz.zeroValue0
 t3:=Tryz.underlying3
 a3:=Tryz.isAgg3
 z3:=Tryz.sizeOf3
 v3:=Tryz.zeroValue3
 t4:=Tryz.underlying4
 a4:=Tryz.isAgg4
 z4:=Tryz.sizeOf4
 v4:=Tryz.zeroValue4
 t5:=Tryz.underlying5
 a5:=Tryz.isAgg5
 z5:=Tryz.sizeOf5
 v5:=Tryz.zeroValue5
 t9:=Tryz.underlying9
 a9:=Tryz.isAgg9
 z9:=Tryz.sizeOf9
 v9:=Tryz.zeroValue9
 t22:=Tryz.underlying256
 a22:=Tryz.isAgg256
 z22:=Tryz.sizeOf256
 v22:=Tryz.zeroValue256
 t25:=Tryz.underlying314
 a25:=Tryz.isAgg314
 z25:=Tryz.sizeOf314
 v25:=Tryz.zeroValue314
 t39:=Tryz.underlying250
 a39:=Tryz.isAgg250
 z39:=Tryz.sizeOf250
 v39:=Tryz.zeroValue250
 t45:=Tryz.underlying287
 a45:=Tryz.isAgg287
 z45:=Tryz.sizeOf287
 v45:=Tryz.zeroValue287
 t46:=Tryz.underlying288
 a46:=Tryz.isAgg288
 z46:=Tryz.sizeOf288
 v46:=Tryz.zeroValue288
 t50:=Tryz.underlying293
 a50:=Tryz.isAgg293
 z50:=Tryz.sizeOf293
 v50:=Tryz.zeroValue293
 t53:=Tryz.underlying296
 a53:=Tryz.isAgg296
 z53:=Tryz.sizeOf296
 v53:=Tryz.zeroValue296
 t55:=Tryz.underlying281
 a55:=Tryz.isAgg281
 z55:=Tryz.sizeOf281
 v55:=Tryz.zeroValue281
 t66:=Tryz.underlying323
 a66:=Tryz.isAgg323
 z66:=Tryz.sizeOf323
 v66:=Tryz.zeroValue323
 t70:=Tryz.underlying327
 a70:=Tryz.isAgg327
 z70:=Tryz.sizeOf327
 v70:=Tryz.zeroValue327
 t76:=Tryz.underlying344
 a76:=Tryz.isAgg344
 z76:=Tryz.sizeOf344
 v76:=Tryz.zeroValue344
 t77:=Tryz.underlying345
 a77:=Tryz.isAgg345
 z77:=Tryz.sizeOf345
 v77:=Tryz.zeroValue345 }
end Go.Proofs
namespace Go.VC
def Dw{α β:Type}{f:α->β}{l:List α}{r:List β}(h:r.Perm (l.map f)):∃S:List α,S.Perm l/\r=S.map f:=by
 have h0:pC (λ(b:β) (a:α)=>b=f a) (l.map f) l:=pC.mG yS λi h1 J=>yS;obtain⟨S,h1,J⟩:=pC.perm h h0;refine⟨S,h1,?_⟩;clear h h0 h1;induction J with
 |nil=>rfl
 |cons h t c=>rw[h,c];rfl
end Go.VC
namespace Go.Proofs
open Go.Shelf Go.RowKit Go.Lib Go.Sort
def AX(x:List UInt8):List Value:=[encStr x]
def Wm(x y:List UInt8):Int:=if x<y then -1 else 1
def P5(x y:List UInt8):ltOf Wm x y=decide (x<y):=by unfold ltOf Wm;by_cases h:x<y<;>simp[h]
def QJ(gv off cap:Nat)(d:Array (List UInt8))(w:World)(m:HoldsK AX 1 w gv off d)(f:gv<w.heap.size)(fh:d.size<4611686018427387904):
 Calls Tryz.prog 150 #[.slice (some ⟨gv,off,none⟩) d.size cap] w λe w'=>e= .returned (.tuple #[])/\∃d' n os,PermIn 0 d.size d d'/\SortedIn (ltOf Wm) 0 d.size d'/\w'=sortWorldK AX 1 w gv off n d' os:=by
 have h:=Tryz.slices_Sort_string gv off cap d.toList w (by simpa using Go.VC.holds_one m) f (by simpa using fh);rw[ey]at h;refine h.mono ?_;rintro e w' ⟨rfl,n,os,rfl⟩;have g:=List.mergeSort_perm d.toList λx y=>decide (x<=y);have hs:=List.pairwise_mergeSort (le:=λx y:List UInt8=>decide (x<=y)) (by intro a b c;simp;exact List.le_trans) (by intro a b;simp;exact List.le_total a b) d.toList;obtain⟨S,l⟩:∃S,S=d.toList.mergeSort λx y=>decide (x<=y):=⟨_,rfl⟩;rw[<- l]at g hs ⊢;have hl:S.length=d.size:=by rw[g.length_eq];simp
 refine⟨rfl,S.toArray,n,os,⟨by simp[hl],?_,?_⟩,?_,?_⟩
 ·intro i o;have o:d.size<=i:=by omega
  rw[getElem!_neg _ i (by simp;omega),getElem!_neg d i (by omega)]
 ·rw[jn (by simp;omega),jn (by omega)];simpa using g
 ·intro i j _ k p;rw[getElem!_pos _ i (by simp;omega),getElem!_pos _ j (by simp;omega),P5];have:=hJ.1 hs i j (by omega) (by omega) k;simp at this ⊢;exact this
 ·unfold sortWorldK putRowK;rw[Go.VC.FK];rfl
def C7(p:Option Addr)(cap:Nat)(w:World):Calls Tryz.prog 150 #[.slice p 0 cap] w λe w'=>e= .returned (.tuple #[])/\w'=w:=Tryz.slices_Sort_string_none p cap w
end Go.Proofs
namespace Go.VC.cG
open Go Go.VC Go.Proofs Go.Sort
def RB:bR tt 9=[.str]:=by kernel_rfl
def FI{Pp:fE}{v:Value}{d:D}(h:RD tt Pp .str v d):∃b:ByteArray,v= .string b/\d= .str b.data.toList:=by cases h;exact⟨_,rfl,rfl⟩
def Tt(x y:List D):Bool:=slt (Std.bH (x.getD 0 .nil)) (Std.bH (y.getD 0 .nil))
def VV{l:List S}{d:D}{K:PV->List Ob->Prop}(o:d=bA encS l)(C:l.length<4294967296)
 (h:∀(m:List S) r,m.Perm l->m.Pairwise (λa b=>slt b a=false)->r=bA encS m->K (.tup []) [.row 9 r true]):FT 150 [.row 9 d true] [.row 9 0] K:=by
 subst o
 have c:∀{Pp:fE}{us:List Value}{row:List D},zT tt Pp 9 us row->∃b:ByteArray,us=[.string b]/\row=[.str b.data.toList]:=by
  intro Pp us row h;obtain⟨h1,J,h3⟩:=h;rw[RB]at h1 J h3
  match us,row,h1,J with
  |[v],[r0],_,_=>obtain⟨z,n,q⟩:=h3 0 r0 _ rfl rfl;simp at n;subst n;obtain⟨b,rfl,rfl⟩:=FI q;exact⟨b,rfl,rfl⟩
 have rT:∀{x:S}{b:ByteArray},AX x=[.string b]->x=b.data.toList:=by intro x b h;simp only[AX,encStr,gN,Value.string.injEq,and_true]at h;rw[<- h]
 refine Hj (e:=9) AX Wm Tt [] [] Ro (λx=>by rw[RB];rfl) ?_ ?_ (enters_of Tryz.func150 (by kernel_rfl) rfl) (l.map encS) yQ ?_ ?_ ?_
 ·rw[RB];exactλgv off cap d w h1 J h3 _=>QJ gv off cap d w h1 J h3
 ·exact C7
 ·intro Pp us row hr f;obtain⟨b,rfl,_⟩:=c f;exact⟨b.data.toList,by simp[AX,encStr]⟩
 ·intro Pp x y A B h1 J;obtain⟨a,e1,rfl⟩:=c h1;obtain⟨u,e2,rfl⟩:=c J;rw[P5,rT e1,rT e2,<-xp];rfl
 ·intro k p hs;obtain⟨m,h1,rfl⟩:=Dw p;refine h m _ h1 ?_ rfl;rw[hJ];intro i j t s g;have:=hs i j (yU t) (yU s) g;simpa[Tt,encS,nF]using this
end Go.VC.cG
namespace Go.VC
abbrev U:=S×S
def vp(x:U):List D:=[.str x.1,.str x.2]
def AI(a b:U):Bool:=if a.1=b.1 then slt a.2 b.2 else slt a.1 b.1
def Ch(a b:S):Int:=if slt a b then -1 else if slt b a then 1 else 0
def OW(a b:U):Int:=if Ch a.1 b.1≠0 then Ch a.1 b.1 else Ch a.2 b.2
def H6{a b:S}:Ch a b=0↔a=b:=by
 unfold Ch;split
 ·rename_i h;constructor
  ·intro e;omega
  ·intro e;subst e;rw[iA]at h;cases h
 ·rename_i h;split
  ·rename_i J;constructor
   ·intro e;omega
   ·intro e;subst e;rw[iA]at J;cases J
  ·rename_i J;simp only[true_iff];exact o5 (yU h) (yU J)
def wR{a b:S}:(Ch a b<0)↔slt a b=true:=by
 unfold Ch;split
 ·rename_i h;simp[h]
 ·rename_i h;split<;>simp[h]
def OV{a b:U}:decide (OW a b<0)=AI a b:=by
 unfold OW AI;by_cases h:a.1=b.1
 ·rw[if_neg (by simp[H6.2 h]),if_pos h];cases hb:slt a.2 b.2 with
  |true=>rw[decide_eq_true_iff];exact wR.2 hb
  |false=>rw[decide_eq_false_iff_not];intro J;rw[wR.1 J]at hb;cases hb
 ·rw[if_pos (λe=>h (H6.1 e)),if_neg h];cases hb:slt a.1 b.1 with
  |true=>rw[decide_eq_true_iff];exact wR.2 hb
  |false=>rw[decide_eq_false_iff_not];intro J;rw[wR.1 J]at hb;cases hb
def yi(a:U):AI a a=false:=by unfold AI;rw[if_pos rfl,iA]
def AH{a b c:U}(h:AI a b=true)(d:AI b c=true):AI a c=true:=by
 unfold AI at*;by_cases e1:a.1=b.1
 ·rw[if_pos e1]at h;by_cases e2:b.1=c.1
  ·rw[if_pos e2]at d;rw[if_pos (e1.trans e2)];exact oh h d
  ·rw[if_neg e2]at d;rw[if_neg (λe=>e2 (e1.symm.trans e)),e1];exact d
 ·rw[if_neg e1]at h;by_cases e2:b.1=c.1
  ·rw[if_pos e2]at d;rw[if_neg (λe=>e1 (e.trans e2.symm)),<-e2];exact h
  ·rw[if_neg e2]at d;have f:=oh h d;rw[if_neg (λe=>by rw[e,iA]at f;cases f)];exact f
def HL{a b:U}(h:AI a b=false)(c:AI b a=false):a=b:=by
 unfold AI at*;by_cases e1:a.1=b.1
 ·rw[if_pos e1]at h;rw[if_pos e1.symm]at c;exact dR e1 (o5 h c)
 ·rw[if_neg e1]at h;rw[if_neg (λe=>e1 e.symm)]at c;exact absurd (o5 h c) e1
def QI:Go.Sort.SWO AI where
 irrefl x:=yi x
 trans x y z h1 h2:=AH h1 h2
 ntrans x y z h1 h2:=by
  cases hb:AI x z with
  |false=>rfl
  |true=>
   exfalso;cases h3:AI y x with
   |true=>have:=AH h3 hb;rw[this]at h2;cases h2
   |false=>have:=HL h1 h3;subst this;rw[hb]at h2;cases h2
end Go.VC
namespace Go.VC.cG
open Go Go.VC Go.Proofs Go.Sort
section
variable {K:PV->List Ob->Prop}
def VB{s:S}(h:∀b,b=false->K (.bool b) []):FT 275 [] [.str s] K:=by refine en (cf 6) Tryz.func275 λA C L X=>?_;have q:=h (A.not (A.seq s s)) (by rw[X.a,fA,Cm];simp);cbv;exact q
def VG{a b:S}(h:∀r,r=Ch a b->K (.int .i64 r) []):FT 254 [] [.str a,.str b] K:=by
 refine en (cf 20) Tryz.func254 λA C L X=>?_;cbv;refine X.call (VB λb1 h1=>?_);obtain rfl:=h1;cbv;refine X.call (VB λb2 h1=>?_);obtain rfl:=h1;cbv;repeat' (first|apply bq|exact zf|(intro J;cbv)|apply bE)
 all_goals first
  |contradiction
  |(refine h _ ?_;unfold Ch;obtain rfl:=X.a;simp only[SD]at *;simp[*];done)
  |(exfalso;obtain rfl:=X.a;simp only[SD]at *;simp at *;done)
  |skip
def YK{l:List Int}{d:D}{x y:Int}(j:d=kq [x,y])(h:∀r,r=(if x≠0 then x else y)->K (.int .i64 r) []):FT 253 [] [.lst 3 d] K:=by
 have a:Std.len d=bk 2:=by rw[j,oL];rfl
 have ha:∀A:pM,A=Std->A.asInt (A.cell d (bk 0) 0)=x/\A.asInt (A.cell d (bk 1) 0)=y:=by intro A n;subst n j;simp only[oM];exact⟨rfl,rfl⟩
 refine en (cf 18) Tryz.func253 λA C L X=>?_;obtain⟨m,k⟩:=ha A X.a;cbv;refine lu X (λi=>i<=2/\(1<=i->x=0)/\(2<=i->y=0)) (λi=>2-i) 0 ⟨bB _,yO,yO⟩ (λ(i:Nat)=>[(8,.int .i64 i)]) ?_;rintro i ⟨o,h5,h6⟩;cbv;constructor<;>intro h1
 ·have h7:i<2:=lY X.a a h1;have g:A.idx (bk i) (A.len d):=by obtain rfl:=X.a;rw[a,kC];simp only[bz];omega
  have c:=jX X.a h7
  have f:A.asInt (A.cell d (bk i) 0)=(if i=0 then x else y):=by
   rcases(by omega:i=0\/i=1)with rfl|rfl
   ·exact m
   ·exact k
  cbv;repeat' (first|apply bq|exact zf|(intro J;cbv)|apply bE)
  any_goals exact g
  any_goals exact c
  ·have e:¬(if i=0 then x else y)=0:=by rw[<- f];obtain rfl:=X.a;simpa only[SD]using J
   refine h _ ?_;refine f.trans ?_;by_cases b:i=0
   ·rw[if_pos b]at e ⊢;rw[if_pos e]
   ·rw[if_neg b]at e ⊢;rw[if_neg (by simp[h5 yO])]
  ·have e:(if i=0 then x else y)=0:=by rename_i g3;rw[<- f];obtain rfl:=X.a;simpa only[SD,dL]using g3
   refine⟨i+1,⟨yO,λ_=>?_,λ_=>?_⟩,yO,?_⟩
   ·by_cases b:i=0
    ·rw[if_pos b]at e;exact e
    ·exact h5 yO
   ·rw[if_neg yO]at e;exact e
   exact yc
 ·have h7:i=2:=gY X.a a h1;cbv;refine h 0 ?_;rw[if_neg (by simp[h5 yO]),h6 yO]
def YL{a b:U}(h:∀r,r=OW a b->K (.int .i64 r) []):FT 252 [] [.agg [.str a.1,.str a.2],.agg [.str b.1,.str b.2]] K:=by obtain⟨a1,a2⟩:=a;obtain⟨b1,b2⟩:=b;refine en Xo Tryz.func252 λA C L X=>?_;refine p1 ?_;refine X.call (VG λd h1=>?_);refine p1 ?_;refine X.call (VG λr2 c=>?_);have e:A.lit [[.int d],[.int r2]]=kq [d,r2]:=yX;refine p1 ?_;refine X.call (YK (l:=[]) e λr hr=>?_);refine p1 ?_;refine h _ ?_;rw[hr,h1,c];rfl
end
end Go.VC.cG
namespace Go.Proofs
open Go.Shelf Go.RowKit Go.Lib Go.Sort Go.VC
abbrev UB:=ByteArray×ByteArray
instance:Inhabited UB:=⟨(⟨#[]⟩,⟨#[]⟩)⟩
def UB.u(x:UB):U:=(x.1.data.toList,x.2.data.toList)
def y7(x:UB):List Value:=[.string x.1,.string x.2]
def RG(x y:UB):Int:=OW x.u y.u
def HN(x y:UB):ltOf RG x y=AI x.u y.u:=OV
def S4:SWO (ltOf RG) where
 irrefl x:=by rw[HN];exact QI.irrefl _
 trans x y z h1 h2:=by rw[HN]at *;exact QI.trans _ _ _ h1 h2
 ntrans x y z h1 h2:=by rw[HN]at *;exact QI.ntrans _ _ _ h1 h2
def NT(gv off cap:Nat)(d:Array UB)(w:World)(i:HoldsK y7 2 w gv off d)(f:gv<w.heap.size)(fh:d.size<4611686018427387904)(h:R5 cG.tt gv w):
 Calls Tryz.prog 286 #[.slice (some ⟨gv,off,none⟩) d.size cap,.func (.func 252) #[] #[]] w λe w'=>e= .returned (.tuple #[])/\∃d' n os,PermIn 0 d.size d d'/\SortedIn (ltOf RG) 0 d.size d'/\w'=sortWorldK y7 2 w gv off n d' os:=by
 have j:∀args w,(callFunc 252 args).run Tryz.prog w= .ok (.enter 252 args) w:=enters_of Tryz.func252 (by kernel_rfl) rfl
 have c:CmpLays Tryz.prog 252 #[] y7 2 RG gv off d.size w:=by
  intro m os k _ x y;refine Jp trivial (r:=RG x y) ⟨Tryz.func252,by rfl,rfl⟩ (cG.YL (a:=x.u) (b:=y.u) λr hr=>?_) (LJ h) (LK h) ?_
  ·rw[hr];rfl
  ·exact .cons _ _ _ _ (.agg _ _ (.cons _ _ _ _ (.str _) (.cons _ _ _ _ (.str _) .nil))) (.cons _ _ _ _ (.agg _ _ (.cons _ _ _ _ (.str _) (.cons _ _ _ _ (.str _) .nil))) .nil)
 exact AnyQ.slices_SortFunc Tryz.Hk 2 Tryz.isAgg259 Tryz.sizeOf259 y7 (λ_=>rfl) (λx v g=>by simp[y7]at g;rcases g with rfl|rfl<;>rfl) RG S4 252 #[] gv off cap d w j c i f fh
def BF(p:Option Addr)(cap:Nat)(w:World):Calls Tryz.prog 286 #[.slice p 0 cap,.func (.func 252) #[] #[]] w λe w'=>e= .returned (.tuple #[])/\w'=w:=AnyF.slices_SortFunc_none Tryz.Hk p cap _ w
end Go.Proofs
namespace Go.VC.cG
open Go Go.VC Go.Proofs Go.Sort
def Me:bR tt 259=[.str,.str]:=by kernel_rfl
def Ts(x y:List D):Bool:=AI (Std.bH (x.getD 0 .nil),Std.bH (x.getD 1 .nil)) (Std.bH (y.getD 0 .nil),Std.bH (y.getD 1 .nil))
def Yw{l:List U}{d:D}{K:PV->List Ob->Prop}(o:d=bA vp l)(L:l.length<4294967296)
 (h:∀(m:List U) r,m.Perm l->m.Pairwise (λa b=>AI b a=false)->r=bA vp m->K (.tup []) [.row 259 r true]):FT 286 [.row 259 d true] [.row 259 0,.cy 252 []] K:=by
 subst o
 have c:∀{Pp:fE}{us:List Value}{row:List D},zT tt Pp 259 us row->∃a b:ByteArray,us=[.string a,.string b]/\row=[.str a.data.toList,.str b.data.toList]:=by
  intro Pp us row h;obtain⟨h1,J,h3⟩:=h;rw[Me]at h1 J h3
  match us,row,h1,J with
  |[C,F],[r0,q],_,_=>obtain⟨N,n,p⟩:=h3 0 r0 _ rfl rfl;obtain⟨E,e1,t⟩:=h3 1 q _ rfl rfl;simp at n e1;subst n;subst e1;obtain⟨a,rfl,rfl⟩:=FI p;obtain⟨b,rfl,rfl⟩:=FI t;exact⟨a,b,rfl,rfl⟩
 refine Hj (e:=259) y7 RG Ts [.cy 252 []] [.func (.func 252) #[] #[]] (ON rfl) (λx=>by rw[Me];rfl) ?_ ?_ (enters_of Tryz.func286 (by kernel_rfl) rfl) (l.map vp) yQ ?_ ?_ ?_
 ·rw[Me];exactλgv off cap d w h1 J h3 s=>NT gv off cap d w h1 J h3 s
 ·exact BF
 ·intro Pp us row hr f;obtain⟨a,b,rfl,_⟩:=c f;exact⟨(a,b),rfl⟩
 ·intro Pp x y G H h1 J;obtain⟨a,b,e1,rfl⟩:=c h1;obtain⟨B,b',e2,rfl⟩:=c J;simp only[y7,gN,Value.string.injEq,and_true]at e1 e2;obtain⟨M,I⟩:=x;obtain⟨A,O⟩:=y;simp only at e1 e2;obtain⟨rfl,rfl⟩:=e1;obtain⟨rfl,rfl⟩:=e2;rw[HN];rfl
 ·intro g u hs;obtain⟨m,h1,rfl⟩:=Dw u;refine h m _ h1 ?_ rfl;rw[hJ];intro i j v z k;have:=hs i j (yU v) (yU z) k;simpa[Ts,vp,nF]using this
end Go.VC.cG
namespace Go.VC
def cO(x:S×Bool):List D:=[.str x.1,.bool x.2]
def keys_perm{α β:Type}{m:List α}{e:α}{f:α->β}{c:List Int}(fR:c.Nodup)(hb:∀j∈c,0<=j/\j<m.length)(ha:∀j:Nat,j<m.length->(j:Int)∈c):(c.map λj=>f (m.getD j.toNat e)).Perm (m.map f):=by
 have l:c.Perm ((fb m.length).map λj:Nat=>(j:Int)):=by
  rw[n1 fR]
  ·intro j;simp only[bP,te];constructor
   ·intro n;have:=hb j n;exact⟨j.toNat,yO,yO⟩
   ·rintro⟨k,hk,rfl⟩;exact ha k hk
  ·refine List.Pairwise.map _ ?_ List.nodup_range;intro a b g h;exact g yO
 have J:=l.map λj=>f (m.getD j.toNat e);rw[ia]at J;have h3:(fb m.length).map ((λj:Int=>f (m.getD j.toNat e))∘λj:Nat=>(j:Int))=m.map f:=by apply List.ext_getElem yS;intro i h1 J;simp at h1;simp[h1]
 rw[h3]at J;exact J
def P2:∀(n:Nat)(l:List Int),l.Nodup->(∀j∈l,0<=j/\j<(n:Int))->l.length<=n
 |0,[],_,_=>cg _
 |0,x::l,_,h=>by have:=h x yS;omega
 |n+1,l,fR,h=>by
  have h1:=P2 n (l.erase (n:Int)) (fR.erase _) (λj b=>by
   have J:=h j (List.mem_of_mem_erase b);have h3:j≠(n:Int):=λe=>by subst e;exact(List.Nodup.not_mem_erase fR) b
   omega)
  have:=List.le_length_erase (a:=(n:Int)) (l:=l);omega
def HV{a:List Int}{n:Nat}(fR:a.Nodup)(hb:∀j∈a,0<=j/\j<(n:Int)){i:Nat}(c:i<n)(e:(bk i)∉a):a.length<n:=by
 have h1:(bk i::a).Nodup:=cw.2 ⟨e,fR⟩
 have J:(bk i::a) ⊆ (fb n).map λj:Nat=>(j:Int):=by
  intro j b;rw[bP];rcases bN.1 b with rfl|b
  ·exact⟨i,yU c,rfl⟩
  ·have:=hb j b;exact⟨j.toNat,yQ,yO⟩
 have h3:=P2 n _ h1 (λj b=>by obtain⟨k,hk,rfl⟩:=bP.1 (J b);simp at hk;omega);simp at h3;omega
end Go.VC
namespace Go.VC.cG
open Go Go.VC Go.Proofs
section
variable {d:D}{K:PV->List Ob->Prop}{m:List (S×Bool)}
def F80(h:K (.cy 151 [.box 1 0]) [.map .str 4 d,.box [.mp 0]]):FT 80 [.map .str 4 d] [.mp 0] K:=by refine el WT Tryz.func80 λA C L X=>?_;cbv;exact h
def Zm{c1 c2:Code}(p:d=bA cO m)
 (y:∀(k:S)(l:List S)(r:D)(w:PV->List Ob->Prop),r=bA encS l->l.length<m.length->(∀r',r'=bA encS (l++[k])->w (.bl true) [.loop 13 [7] c1 c2 [(2,.box 1 0)] .ready,.box [.row 9 3],.dead,.row 9 r' true])->YC Tryz.prog tt [.loop 13 [7] c1 c2 [(2,.box 1 0)] .ready,.box [.row 9 2],.row 9 r true] [.str k] w)
 (h:∀(l:List S)(r:D),r=bA encS l->l.Perm (m.map (·.1))->K (.tup []) [.loop 13 [7] c1 c2 [(2,.box 2 0)] .ready,.box [.mp 3],.box [.row 9 5],.map .str 4 d,.dead,.row 9 r true]):
 FT 151 [.loop 13 [7] c1 c2 [(2,.box 2 0)] .ready,.box [.mp 3],.box [.row 9 4],.map .str 4 d,.row 9 (.list []) true] [.j9 0,.box 1 0] K:=by
 refine el Uf Tryz.func151 λA C L X=>?_;have E:(A=Std):=X.a;cbv
 refine X.j0 (λ(x:List Int×D×D)=>⟨[(5,.it 6),(4,.mp 3),(0,.j9 0),(1,.box 1 0)],[.loop 13 [7] c1 c2 [(2,.box 2 0)] .ready,.box [.mp 3],.box [.row 9 5],.map .str 4 d,.dead,.row 9 x.2.2 true,.iter 3 x.2.1]⟩)
  (λx=>x.2.1=kq x.1/\x.2.2=bA encS (x.1.map λj=>(m.getD j.toNat ([],false)).1)/\x.1.Nodup/\∀j∈x.1,0<=j/\j<m.length) (λx=>m.length-x.1.length) ([],.list [],.list []) ⟨rfl,rfl,by simp,by simp⟩ ?_ ?_
 ·exact⟨[0,1,2,3,4,5,6],rfl,yc⟩
 rintro⟨o,z,r⟩ ⟨hz,hr,fR,hb⟩;simp only at hz hr fR hb;cbv;refine⟨λh1=>?_,λj h1=>?_⟩
 ·cbv;have ha:=qS (m:=m) (f:=cO) (l:=o) (by rw[<- p,<-hz,<-X.a];exact h1);refine h _ r hr ?_;exact keys_perm fR hb ha
 ·obtain⟨B,v,u⟩:0<=j/\j<m.length/\j∉o:=s5 (by rw[<- p,<-hz,<-X.a];exact h1);have g:A.nL z j=kq (o++[j]):=by rw[X.a,hz,wU]
  have c:A.last (A.nL z j)=j:=by rw[g,X.a,uv]
  obtain⟨i,rfl⟩:∃i:Nat,j=bk i:=⟨j.toNat,yL⟩;have q:i<m.length:=by simp only[bz]at v;omega
  have hk:A.bH (A.cell d (A.last (A.nL z (bk i))) 0)=(m.getD i ([],false)).1:=by rw[c,cellAt X.a p q,X.a];simp[cO,nF,q]
  have g1:A.idx 0 (A.len (A.nL z (bk i))):=by rw[g,X.a,oL,kC];simp
  have g2:A.idx (A.last (A.nL z (bk i))) (A.len d):=by rw[c,X.a,p];exact cY q
  cbv;refine⟨g1,g2,?_⟩;have s:(o.map λj=>(m.getD j.toNat ([],false)).1).length<m.length:=by rw[bL];exact HV fR hb (i:=i) q u
  refine X.round (y _ _ _ _ hr s λr' t=>?_);cbv;refine⟨(o++[bk i],A.nL z (bk i),r'),⟨g,?_,?_,?_⟩,?_,[0,1,2,3,4,7,6],rfl,?_⟩
  ·show r'=_;rw[t,hk];simp
  ·rw[cV];exact⟨fR,yS,λa ha b hb=>by simp at hb;subst hb;exactλe=>u (show (i:Int)∈o from e▸ha)⟩
  ·intro j n;rcases bG.1 n with n|n
   ·exact hb j n
   ·simp only[df]at n;subst n;exact⟨B,v⟩
  ·simp only[bt,bL]at *;simp;omega
  ·exact yc
def Za(a:d=bA cO m)(c:m.length<4294967296)
 (h:∀(l:List S)(r:D),r=bA encS l->l.Perm (m.map (·.1))->K (.row 9 3) [.dead,.box [.mp 2],.map .str 4 d,.row 9 r true]):
 FT 194 [.row 9 (.list []) true,.box [.mp 2],.map .str 4 d] [.row 9 0,.cy 151 [.box 1 0]] K:=by
 refine el T6 Tryz.func194 λA C L X=>?_;cbv;refine X.range rfl ⟨Tryz.func151,by rfl,rfl⟩ rfl [(2,.box 4 0)] ?_ ?_
 ·cbv
 cbv;refine X.call (Zm a ?_ ?_)
 ·intro k l r e hr hl hK;refine YC.enter (G:=T5) k9 mixed rfl rfl rfl rfl rfl ?_;intro A C L X;have hb:A.gh (A.add (A.len r) (A.len (A.lit [[.str k]]))) 4294967296:=by obtain rfl:=X.a;rw[hr];simp only[SD];omega
  have q:=hK (A.app r (A.lit [[.str k]])) (by rw[X.a,hr];exact cB (k:=[k]));cbv;exact⟨hb,q⟩
 ·intro l r hr b;cbv;exact h l r hr b
def Zn(a:d=bA cO m)(c:m.length<4294967296)
 (h:∀(l:List S)(r:D),r=bA encS l->l.Perm (m.map (·.1))->K (.row 9 2) [.box [.mp 1],.map .str 4 d,.row 9 r true]):
 FT 149 [.box [.mp 1],.map .str 4 d] [.cy 151 [.box 0 0]] K:=by
 refine el XD Tryz.func149 λA C L X=>?_;cbv;refine X.call (Za a c λl r hr b=>?_);cbv;exact h l r hr b
end
end Go.VC.cG
namespace Go.VC
section
variable {m:List (S×Bool)}{k:S}{l:List S}
def oO(m:List (S×Bool))(k:S):List (S×Bool):=match m with
 |[]=>[(k,true)]
 |x::r=>if k=x.1 then(k,true)::r else x::oO r k
def qT:Std.lU (bA cO m) (.str k) [.bool true]=bA cO (oO m k):=by
 simp only[Std,dz,bA,cn]
 congr 1
 induction m with
 |nil=>rfl
 |cons x m a=>
  have hk:eP (.str k) (cO x)=(k==x.1):=rfl;simp only[bJ,iO,oO];rw[hk];by_cases h:k=x.1
  ·rw[if_pos (by simp[h]),if_pos h];rfl
  ·rw[if_neg (by simp[h]),if_neg h,bJ,<-a]
def qN(m:List (S×Bool))(l:List S):List (S×Bool):=l.foldl oO m
def GJ:qN m (l++[k])=oO (qN m l) k:=by simp[qN]
def vz{s:S}:s∈(oO m k).map (·.1)↔s=k\/s∈m.map (·.1):=by
 induction m with
 |nil=>simp[oO]
 |cons x m a=>
  simp only[oO];split
  ·rename_i h;simp only[bJ,bN,<-h];constructor
   ·rintro(h1|h1);exact .inl h1;exact .inr (.inr h1)
   ·rintro(h1|h1|h1);exact .inl h1;exact .inl h1;exact .inr h1
  ·simp only[bJ,bN,a];constructor
   ·rintro(h1|h1|h1);exact .inr (.inl h1);exact .inl h1;exact .inr (.inr h1)
   ·rintro(h1|h1|h1);exact .inr (.inl h1);exact .inl h1;exact .inr (.inr h1)
def zt(h:(m.map (·.1)).Nodup):((oO m k).map (·.1)).Nodup:=by
 induction m with
 |nil=>simp[oO]
 |cons x m a=>
  rw[bJ,cw]at h;simp only[oO];split
  ·rename_i hk;rw[bJ,cw];subst hk;exact h
  ·rename_i hk;rw[bJ,cw,vz];exact⟨λh1=>by rcases h1 with h1|h1;exact hk h1.symm;exact h.1 h1,a h.2⟩
def GK:∀{m:List (S×Bool)}{s:S},s∈(qN m l).map (·.1)↔s∈l\/s∈m.map (·.1):=by
 induction l with
 |nil=>intro m s;simp[qN]
 |cons x l a=>
  intro m s;show s∈(qN (oO m x) l).map (·.1)↔_;rw[a,vz,bN];constructor
  ·rintro(h|h|h);exact .inl (.inr h);exact .inl (.inl h);exact .inr h
  ·rintro((h|h)|h);exact .inr (.inl h);exact .inl h;exact .inr (.inr h)
def EK:∀{m:List (S×Bool)},(m.map (·.1)).Nodup->((qN m l).map (·.1)).Nodup:=by
 induction l with
 |nil=>intro m h;exact h
 |cons x l a=>intro m h;exact a (zt h)
def zu(l:List S):Prop:=l.Pairwise λa b=>slt a b=true
def Pj(h:l.Pairwise λa b=>slt b a=false)(c:l.Nodup):zu l:=by
 induction l with
 |nil=>exact CF
 |cons x l f=>
  rw[fD]at h;rw[cw]at c;refine fD.2 ⟨λy d=>?_,f h.2 c.2⟩;cases hb:slt x y with
  |true=>rfl
  |false=>exact absurd (o5 hb (h.1 y d)) λe=>c.1 (e▸d)
end
end Go.VC
namespace Go.VC.cG
open Go Go.VC Go.Proofs
def F79{m:List (S×Bool)}{d:D}{K:PV->List Ob->Prop}(g:d=bA cO m)(f:m.length<4294967296)(j:(m.map (·.1)).Nodup)
 (h:∀(l:List S)(r:D),r=bA encS l->zu l->(∀s,s∈l↔s∈m.map (·.1))->K (.row 9 2) [.box [.mp 1],.map .str 4 d,.row 9 r true]):
 FT 79 [.box [.mp 1],.map .str 4 d] [.cy 151 [.box 0 0]] K:=by
 refine el g79 Tryz.func79 λA C L X=>?_;cbv;refine X.call (Zn g f λl r hr e=>?_);cbv;refine X.call (VV hr (by rw[e.length_eq];simpa using f) λi r' b hs c=>?_);cbv;have a:=b.trans e;exact h i r' c (Pj hs (a.nodup_iff.2 j)) λs=>a.mem_iff
end Go.VC.cG
namespace Go.VC
section
variable {m:List (U×Bool)}{l:List U}{k:U}
def j8(x:U×Bool):List D:=[.ptr [.str x.1.1,.str x.1.2],.bool x.2]
def Bg{l:List D}{i:Nat}:Std.qu (.ptr l) i=l.getD i .nil:=rfl
def rU(m:List (U×Bool))(k:U):List (U×Bool):=match m with
 |[]=>[(k,true)]
 |x::r=>if k=x.1 then(k,true)::r else x::rU r k
def MQ:Std.lU (bA j8 m) (.ptr [.str k.1,.str k.2]) [.bool true]=bA j8 (rU m k):=by
 simp only[Std,dz,bA,cn]
 congr 1
 induction m with
 |nil=>rfl
 |cons x m a=>
  have hk:eP (.ptr [.str k.1,.str k.2]) (j8 x)=(k==x.1):=rfl;simp only[bJ,iO,rU];rw[hk];by_cases h:k=x.1
  ·rw[if_pos (by simp[h]),if_pos h];rfl
  ·rw[if_neg (by simp[h]),if_neg h,bJ,<-a]
def kA(m:List (U×Bool))(l:List U):List (U×Bool):=l.foldl rU m
def Be{k:List U}:kA m (l++k)=kA (kA m l) k:=by simp[kA]
def Bf{s:U}:s∈(rU m k).map (·.1)↔s=k\/s∈m.map (·.1):=by
 induction m with
 |nil=>simp[rU]
 |cons x m a=>
  simp only[rU];split
  ·rename_i h;simp only[bJ,bN,<-h];constructor
   ·rintro(h1|h1);exact .inl h1;exact .inr (.inr h1)
   ·rintro(h1|h1|h1);exact .inl h1;exact .inl h1;exact .inr h1
  ·simp only[bJ,bN,a];constructor
   ·rintro(h1|h1|h1);exact .inr (.inl h1);exact .inl h1;exact .inr (.inr h1)
   ·rintro(h1|h1|h1);exact .inr (.inl h1);exact .inl h1;exact .inr (.inr h1)
def GI(h:(m.map (·.1)).Nodup):((rU m k).map (·.1)).Nodup:=by
 induction m with
 |nil=>simp[rU]
 |cons x m a=>
  rw[bJ,cw]at h;simp only[rU];split
  ·rename_i hk;rw[bJ,cw];subst hk;exact h
  ·rename_i hk;rw[bJ,cw,Bf];exact⟨λh1=>by rcases h1 with h1|h1;exact hk h1.symm;exact h.1 h1,a h.2⟩
def MF:(rU m k).length<=m.length+1:=by
 induction m with
 |nil=>simp[rU]
 |cons x m a=>simp only[rU];split<;>simp;omega
def GH:∀{m:List (U×Bool)}{s:U},s∈(kA m l).map (·.1)↔s∈l\/s∈m.map (·.1):=by
 induction l with
 |nil=>intro m s;simp[kA]
 |cons x l a=>
  intro m s;show s∈(kA (rU m x) l).map (·.1)↔_;rw[a,Bf,bN];constructor
  ·rintro(h|h|h);exact .inl (.inr h);exact .inl (.inl h);exact .inr h
  ·rintro((h|h)|h);exact .inr (.inl h);exact .inl h;exact .inr (.inr h)
def EJ:∀{m:List (U×Bool)},(m.map (·.1)).Nodup->((kA m l).map (·.1)).Nodup:=by
 induction l with
 |nil=>intro m h;exact h
 |cons x l a=>intro m h;exact a (GI h)
def Jy:∀{m:List (U×Bool)},(kA m l).length<=m.length+l.length:=by
 induction l with
 |nil=>intro m;simp[kA]
 |cons x l a=>intro m;have h1:=a (m:=rU m x);have J:=MF (m:=m) (k:=x);show (kA (rU m x) l).length<=_;simp;omega
def MR(l:List U):Prop:=l.Pairwise λa b=>AI a b=true
def Ph(h:l.Pairwise λa b=>AI b a=false)(c:l.Nodup):MR l:=by
 induction l with
 |nil=>exact CF
 |cons x l g=>
  rw[fD]at h;rw[cw]at c;refine fD.2 ⟨λy f=>?_,g h.2 c.2⟩;cases hb:AI x y with
  |true=>rfl
  |false=>exact absurd (HL hb (h.1 y f)) λe=>c.1 (e▸f)
end
end Go.VC
namespace Go.VC.cG
open Go Go.VC Go.Proofs
section
variable {d:D}{K:PV->List Ob->Prop}{m:List (U×Bool)}
def YM(h:K (.cy 287 [.box 1 0]) [.map .ic 4 d,.box [.mp 0]]):FT 251 [.map .ic 4 d] [.mp 0] K:=by refine el T0 Tryz.func251 λA C L X=>?_;cbv;exact h
def Yv{c1 c2:Code}(q:d=bA j8 m)
 (E:∀(k:U)(l:List U)(r:D)(B:PV->List Ob->Prop),r=bA vp l->l.length<m.length->(∀r',r'=bA vp (l++[k])->B (.bl true) [.loop 13 [7] c1 c2 [(2,.box 1 0)] .ready,.box [.row 259 3],.dead,.row 259 r' true])->YC Tryz.prog tt [.loop 13 [7] c1 c2 [(2,.box 1 0)] .ready,.box [.row 259 2],.row 259 r true] [.agg [.str k.1,.str k.2]] B)
 (h:∀(l:List U)(r:D),r=bA vp l->l.Perm (m.map (·.1))->K (.tup []) [.loop 13 [7] c1 c2 [(2,.box 2 0)] .ready,.box [.mp 3],.box [.row 259 5],.map .ic 4 d,.dead,.row 259 r true]):
 FT 287 [.loop 13 [7] c1 c2 [(2,.box 2 0)] .ready,.box [.mp 3],.box [.row 259 4],.map .ic 4 d,.row 259 (.list []) true] [.j9 0,.box 1 0] K:=by
 refine el TU Tryz.func287 λA C L X=>?_;have G:(A=Std):=X.a;cbv
 refine X.j0 (λ(x:List Int×D×D)=>⟨[(5,.it 6),(4,.mp 3),(0,.j9 0),(1,.box 1 0)],[.loop 13 [7] c1 c2 [(2,.box 2 0)] .ready,.box [.mp 3],.box [.row 259 5],.map .ic 4 d,.dead,.row 259 x.2.2 true,.iter 3 x.2.1]⟩)
  (λx=>x.2.1=kq x.1/\x.2.2=bA vp (x.1.map λj=>(m.getD j.toNat (([],[]),false)).1)/\x.1.Nodup/\∀j∈x.1,0<=j/\j<m.length) (λx=>m.length-x.1.length) ([],.list [],.list []) ⟨rfl,rfl,by simp,by simp⟩ ?_ ?_
 ·exact⟨[0,1,2,3,4,5,6],rfl,yc⟩
 rintro⟨o,z,r⟩ ⟨hz,hr,fR,hb⟩;simp only at hz hr fR hb;cbv;refine⟨λh1=>?_,λj h1=>?_⟩
 ·cbv;have ha:=qS (m:=m) (f:=j8) (l:=o) (by rw[<- q,<-hz,<-X.a];exact h1);refine h _ r hr ?_;exact keys_perm fR hb ha
 ·obtain⟨F,y,w⟩:0<=j/\j<m.length/\j∉o:=s5 (by rw[<- q,<-hz,<-X.a];exact h1);have g:A.nL z j=kq (o++[j]):=by rw[X.a,hz,wU]
  have c:A.last (A.nL z j)=j:=by rw[g,X.a,uv]
  obtain⟨i,rfl⟩:∃i:Nat,j=bk i:=⟨j.toNat,yL⟩;have p:i<m.length:=by simp only[bz]at y;omega
  have t:A.bH (A.qu (A.cell d (A.last (A.nL z (bk i))) 0) 0)=(m.getD i (([],[]),false)).1.1:=by rw[c,cellAt X.a q p,X.a];simp[j8,nF,Bg,p]
  have s:A.bH (A.qu (A.cell d (A.last (A.nL z (bk i))) 0) 1)=(m.getD i (([],[]),false)).1.2:=by rw[c,cellAt X.a q p,X.a];simp[j8,nF,Bg,p]
  have hk:(A.bH (A.qu (A.cell d (A.last (A.nL z (bk i))) 0) 0),A.bH (A.qu (A.cell d (A.last (A.nL z (bk i))) 0) 1))=(m.getD i (([],[]),false)).1:=dR t s;have g1:A.idx 0 (A.len (A.nL z (bk i))):=by rw[g,X.a,oL,kC];simp
  have g2:A.idx (A.last (A.nL z (bk i))) (A.len d):=by rw[c,X.a,q];exact cY p
  cbv;refine⟨g1,g2,?_⟩;have u:(o.map λj=>(m.getD j.toNat (([],[]),false)).1).length<m.length:=by rw[bL];exact HV fR hb (i:=i) p w
  refine X.round (E (A.bH (A.qu (A.cell d (A.last (A.nL z (bk i))) 0) 0),A.bH (A.qu (A.cell d (A.last (A.nL z (bk i))) 0) 1)) _ _ _ hr u λr' v=>?_);cbv;refine⟨(o++[bk i],A.nL z (bk i),r'),⟨g,?_,?_,?_⟩,?_,[0,1,2,3,4,8,6],rfl,?_⟩
  ·show r'=_;rw[v,hk];simp
  ·rw[cV];exact⟨fR,yS,λa ha b hb=>by simp at hb;subst hb;exactλe=>w (show (i:Int)∈o from e▸ha)⟩
  ·intro j n;rcases bG.1 n with n|n
   ·exact hb j n
   ·simp only[df]at n;subst n;exact⟨F,y⟩
  ·simp only[bt,bL]at *;simp;omega
  ·exact yc
def Yn(a:d=bA j8 m)(c:m.length<4294967296)
 (h:∀(l:List U)(r:D),r=bA vp l->l.Perm (m.map (·.1))->K (.row 259 3) [.dead,.box [.mp 2],.map .ic 4 d,.row 259 r true]):
 FT 305 [.row 259 (.list []) true,.box [.mp 2],.map .ic 4 d] [.row 259 0,.cy 287 [.box 1 0]] K:=by
 refine el TP Tryz.func305 λA C L X=>?_;cbv;refine X.range rfl ⟨Tryz.func287,by rfl,rfl⟩ rfl [(2,.box 4 0)] ?_ ?_
 ·cbv
 cbv;refine X.call (Yv a ?_ ?_)
 ·intro k l r e hr hl hK;refine YC.enter (G:=TO) k9 mixed rfl rfl rfl rfl rfl ?_;intro A C L X;have hb:A.gh (A.add (A.len r) (A.len (A.lit [[.str k.1,.str k.2]]))) 4294967296:=by obtain rfl:=X.a;rw[hr];simp only[SD];omega
  have q:=hK (A.app r (A.lit [[.str k.1,.str k.2]])) (by rw[X.a,hr];exact cB (k:=[k]));cbv;exact⟨hb,q⟩
 ·intro l r hr b;cbv;exact h l r hr b
def Yx(a:d=bA j8 m)(c:m.length<4294967296)
 (h:∀(l:List U)(r:D),r=bA vp l->l.Perm (m.map (·.1))->K (.row 259 2) [.box [.mp 1],.map .ic 4 d,.row 259 r true]):
 FT 285 [.box [.mp 1],.map .ic 4 d] [.cy 287 [.box 0 0]] K:=by
 refine el Xg Tryz.func285 λA C L X=>?_;cbv;refine X.call (Yn a c λl r hr b=>?_);cbv;exact h l r hr b
def YN(g:d=bA j8 m)(f:m.length<4294967296)(j:(m.map (·.1)).Nodup)
 (h:∀(l:List U)(r:D),r=bA vp l->MR l->(∀s,s∈l↔s∈m.map (·.1))->K (.row 259 2) [.box [.mp 1],.map .ic 4 d,.row 259 r true]):
 FT 250 [.box [.mp 1],.map .ic 4 d] [.cy 287 [.box 0 0],.cy 252 []] K:=by
 refine el Xp Tryz.func250 λA C L X=>?_;cbv;refine X.call (Yx g f λl r hr e=>?_);cbv;refine X.call (Yw hr (by rw[e.length_eq];simpa using f) λi r' b hs c=>?_);cbv;have a:=b.trans e;exact h i r' c (Ph hs (a.nodup_iff.2 j)) λs=>a.mem_iff
end
end Go.VC.cG
namespace Go.VC
def map_take{α β:Type}{f:α->β}{l:List α}{i:Nat}(h:i<l.length):(l.take (i+1)).map f=(l.take i).map f++[f l[i]]:=by rw[cb h,cj];rfl
end Go.VC
namespace Go.VC.cG
open Go Go.VC Go.Proofs
end Go.VC.cG
namespace Go.VC
section
def Ty.er(t:Ty):List Ty:=t.ar++t.fl.map Fe.t
mutual
def Ty.size:Ty->Nat| .mk _ _ _ ar fl=>1+Ty.r7 ar+Ty.r8 fl
def Fe.size:Fe->Nat| .mk _ t _=>Ty.size t
def Ty.r7:List Ty->Nat|[]=>0|t::l=>Ty.size t+Ty.r7 l
def Ty.r8:List Fe->Nat|[]=>0|t::l=>Fe.size t+Ty.r8 l
end
variable {t:Ty}{l:List Nat}{i:Nat}
def C8:∀l:List Ty,Ty.r7 l=(l.map Ty.size).sum
 |[]=>by simp[Ty.r7]
 |t::l=>by simp[Ty.r7,C8 l]
def C9:∀l:List Fe,Ty.r8 l=((l.map Fe.t).map Ty.size).sum
 |[]=>by simp[Ty.r8]
 | .mk s t b::l=>by simp[Ty.r8,C9 l,Fe.size,Fe.t]
def size_eq(t:Ty):t.size=1+(t.er.map Ty.size).sum:=by cases t;simp only[Ty.size,C8,C9,Ty.er,cj,dQ,Ty.ar,Ty.fl];omega
def Ht{u:Ty}(h:u∈t.er):(u∈t.ar)\/∃f∈t.fl,f.t=u:=by
 rcases bG.1 h with h|h
 ·exact .inl h
 ·obtain⟨f,h1,J⟩:=bP.1 h;exact .inr ⟨f,h1,J⟩
def Ty.gj{P:Ty->Prop}(h:∀t:Ty,(∀u∈t.er,P u)->P t):∀t,P t:=
 Ty.parts λt h1 J=>h t λu hu=>by
  rcases Ht hu with hu|⟨f,hf,rfl⟩
  ·exact h1 u hu
  ·exact J f hf
def ie{n:Nat}(h:Ty.le n t):∀u∈t.er,Ty.le n u:=λu hu=>by
 rcases Ht hu with hu|⟨f,hf,rfl⟩
 ·exact qd h _ hu
 ·exact sB h _ hf
def Ke(h:i<l.length):(l.take (i+1)).sum=(l.take i).sum+l[i]:=by rw[k8 h,dQ];simp
def vH:(l.take i).sum<=l.sum:=by
 conv=>rhs;rw[<- cX i l,dQ]
 omega
end
end Go.VC
namespace Go.VC.cG
open Go Go.VC Go.Proofs
def Z2{t:Ty}(M:Ty.le 4294967295 t)(n:t.er.length<=4294967295){p:Int}{c1 c2:S}{j b:D}{K:PV->List Ob->Prop}(w:cD t p c1 c2 j b)
 (h:∀r,r=bA cq t.er->K (.lst 29 r) []):FT 61 [] [dO p c1 c2 j b] K:=by
 obtain⟨P,Q,O,m,g⟩:=w;have s:t.ar.length+t.fl.length<=4294967295:=by simpa[Ty.er]using n
 refine en g61 Tryz.func61 λA C L X=>?_;obtain⟨q,o,c⟩:=lenOf m;obtain⟨d,e,a⟩:=lenOf g;have hb:A.gh (A.add (A.len (A.lit [])) (A.len j)) 4294967296:=by rw[X.a];simp only[SD,c];omega
 have v:A.app (A.lit []) j=bA cq (t.ar++(t.fl.take 0).map Fe.t):=by rw[X.a,m];exact(cB (f:=cq) (l:=[]) (k:=t.ar)).trans yS
 cbv;refine⟨hb,?_⟩;refine lP X (λy=>y.1<=d/\y.2=bA cq (t.ar++(t.fl.take y.1).map Fe.t)) (λy=>d-y.1) (0,A.app (A.lit []) j) ⟨bB _,v⟩ [0,1] (λ(y:Nat×D)=>⟨[(4,.int .i64 y.1),(3,.row 29 1),(1,.box 0 0)],[.box [.int .i64 p,.str c1,.str c2,.lst 29 j,.lst 57 b],.row 29 y.2 true]⟩) ?_;rintro⟨i,r⟩ ⟨H,hr⟩;simp only at H hr;cbv;constructor<;>intro h1
 ·have h5:i<t.fl.length:=lY X.a a h1;obtain⟨z,u,I,x,B⟩:=jS X.a g h5;have N:=iX X.a g h5;have F:=jX X.a h5;have G:A.gh (A.add (A.len r) (A.len (A.lit [[.int (A.asInt (A.cell b (bk i) 1)),.str (A.bH (A.cell b (bk i) 2)),.str (A.bH (A.cell b (bk i) 3)),A.cell b (bk i) 4,A.cell b (bk i) 5]]))) 4294967296:=by rw[X.a,hr];simp only[SD,bL];omega
  have E:A.app r (A.lit [[.int (A.asInt (A.cell b (bk i) 1)),.str (A.bH (A.cell b (bk i) 2)),.str (A.bH (A.cell b (bk i) 3)),A.cell b (bk i) 4,A.cell b (bk i) 5]])=bA cq (t.ar++(t.fl.take (i+1)).map Fe.t):=by rw[z,u,I,x,B,X.a,hr,map_take h5,<-bI,<-dk];exact cB (k:=[t.fl[i].t])
  refine p1 ?_;exact⟨(i+1,_),⟨yP,E⟩,yP,[0,1],rfl,yc⟩
 have h5:i=d:=gY X.a a h1;subst h5;rw[e,bD]at hr;cbv;exact h r hr
def Wn:∀(t:Ty),Ty.le 4294967295 t->t.size<=4294967295->∀{s:Int}{c1 c2:S}{o p:D}{K:PV->List Ob->Prop},cD t s c1 c2 o p->(∀r:Int,r=t.size->K (.int .i64 r) [])->FT 25 [] [dO s c1 c2 o p] K:=by
 refine Ty.gj λt u=>?_;intro e hs s c1 c2 o p K E h;obtain⟨f,hf⟩:∃f:Nat->Nat,f=λi=>((t.er.map Ty.size).take i).sum:=⟨_,rfl⟩;obtain⟨PM,a⟩:∃n:Nat,n=(t.er.map Ty.size).sum:=⟨_,rfl⟩;have F:f 0=0:=by rw[hf];simp
 have fs:∀i (h:i<t.er.length),f (i+1)=f i+t.er[i].size:=λi h=>by rw[hf];simp only;rw[Ke (l:=t.er.map Ty.size) (i:=i) (yU h),zy]
 have fl:∀i,f i<=PM:=λi=>by rw[hf,a];exact vH
 have fn:f t.er.length=PM:=by rw[hf,a];simp only;rw[db yS]
 have fh:t.size=1+PM:=by rw[size_eq,a]
 rw[fh]at hs h
 have B:t.er.length<=PM:=by
  rw[a]
  have:∀l:List Ty,l.length<=(l.map Ty.size).sum:=by
   intro l;induction l with
   |nil=>simp
   |cons x l u=>simp only[bM,bJ,cm];have:=size_eq x;omega
  exact this _
 refine en (cf 22) Tryz.func25 λA C L X=>?_;cbv;refine X.call (Z2 e yO E λr hr=>?_);obtain⟨c,d,b⟩:=lenOf hr;cbv;refine lu X (λy=>y.1<=c/\y.2=bk (1+f y.1)) (λy=>c-y.1) (0,1) ⟨bB _,by simp[F]⟩ (λ(y:Nat×Int)=>[(5,.int .i64 y.1),(3,.int .i64 y.2)]) ?_;rintro⟨i,m⟩ ⟨I,j⟩;simp only at I j;cbv;constructor<;>intro h1
 ·have h5:i<t.er.length:=lY X.a b h1;have w:=gT X.a hr h5;have M:=iX X.a hr h5;have H:=jX X.a h5;have k:=fs i h5;have G:=fl (i+1);refine p1 ?_;refine X.call (u _ (bu h5) (ie e _ (bu h5)) yO w λz hz=>?_);have g:z=t.er[i].size:=hz;clear hz;have v:A.inr .i64 (A.add m z):=by rw[X.a,fu,fy,j,g];simp only[bz];omega
  have q:A.add m z=bk (1+f (i+1)):=by rw[X.a,fy,k,j,g];simp only[bz];omega
  refine p1 ?_;exact⟨(i+1,_),⟨yP,q⟩,yP,yc⟩
 have h5:i=c:=gY X.a b h1;subst h5;cbv;refine h m ?_;rw[j,d,fn];rfl
end Go.VC.cG
namespace Go.VC
mutual
def Ty.gS:Ty->List U| .mk k m n ar fl=>(if k=10 then [(m,n)]else [])++(Ty.z8 ar++Ty.Aa fl)
def Fe.gS:Fe->List U| .mk _ t _=>Ty.gS t
def Ty.z8:List Ty->List U|[]=>[]|t::l=>Ty.gS t++Ty.z8 l
def Ty.Aa:List Fe->List U|[]=>[]|t::l=>Fe.gS t++Ty.Aa l
end
def CO:∀l:List Ty,Ty.z8 l=l.flatMap Ty.gS
 |[]=>by simp[Ty.z8]
 |t::l=>by simp[Ty.z8,CO l]
def CP:∀l:List Fe,Ty.Aa l=(l.map Fe.t).flatMap Ty.gS
 |[]=>by simp[Ty.Aa]
 | .mk s t b::l=>by simp[Ty.Aa,CP l,Fe.gS,Fe.t]
def Ty.self(t:Ty):List U:=if t.k=10 then [(t.m,t.n)]else []
def G7(t:Ty):t.gS=t.self++t.er.flatMap Ty.gS:=by cases t;simp only[Ty.gS,CO,CP,Ty.er,Ty.self,eD,Ty.ar,Ty.fl,Ty.k,Ty.m,Ty.n];rfl
def ph{l:List Nat}{x:Nat}(h:x∈l):x<=l.sum:=by
 induction l with
 |nil=>simp at h
 |cons y l b=>rw[cm];rcases bN.1 h with rfl|h;omega;have:=b h;omega
def gk{α β:Type}{f:α->List β}{l:List α}{i:Nat}(h:i<l.length):(l.take (i+1)).flatMap f=(l.take i).flatMap f++f l[i]:=by rw[cb h,eD];simp
end Go.VC
namespace Go.VC.cG
open Go Go.VC Go.Proofs
section
variable {e:Int}{c1 c2:S}{c a:D}{K:PV->List Ob->Prop}{t:Ty}{C1 C2:Code}
def Sm(E:Ty.le 4294967295 t)(j:t.er.length<=4294967295)(q:cD t e c1 c2 c a)
 (h:∀r,r=bA cq t.er->K (.lst 29 r) []):FT 205 [] [dO e c1 c2 c a] K:=by
 obtain⟨I,M,H,m,g⟩:=q;have n:t.ar.length+t.fl.length<=4294967295:=by simpa[Ty.er]using j
 refine en (cf 23) Tryz.func205 λA C L X=>?_;obtain⟨d,f,b⟩:=lenOf g;cbv;refine X.call (Sl m yO λp l=>?_);cbv;refine lP X (λy=>y.1<=d/\y.2=bA cq (t.ar++(t.fl.take y.1).map Fe.t)) (λy=>d-y.1) (0,p) ⟨bB _,yU l⟩ [0,1] (λ(y:Nat×D)=>⟨[(12,.int .i64 y.1),(11,.int .i64 (A.len a)),(10,.lst 57 a),(3,.row 29 1),(1,.box 0 0)],[.box [.int .i64 e,.str c1,.str c2,.lst 29 c,.lst 57 a],.row 29 y.2 true]⟩) ?_;rintro⟨i,r⟩ ⟨z,hr⟩;simp only at z hr;cbv;constructor<;>intro h1
 ·have h5:i<t.fl.length:=lY X.a b h1;obtain⟨u,o,B,s,G⟩:=jS X.a g h5;have F:=iX X.a g h5;have w:=jX X.a h5;have x:A.gh (A.add (A.len r) (A.len (A.lit [[.int (A.asInt (A.cell a (bk i) 1)),.str (A.bH (A.cell a (bk i) 2)),.str (A.bH (A.cell a (bk i) 3)),A.cell a (bk i) 4,A.cell a (bk i) 5]]))) 4294967296:=by rw[X.a,hr];simp only[SD,bL];omega
  have v:A.app r (A.lit [[.int (A.asInt (A.cell a (bk i) 1)),.str (A.bH (A.cell a (bk i) 2)),.str (A.bH (A.cell a (bk i) 3)),A.cell a (bk i) 4,A.cell a (bk i) 5]])=bA cq (t.ar++(t.fl.take (i+1)).map Fe.t):=by rw[u,o,B,s,G,X.a,hr,map_take h5,<-bI,<-dk];exact cB (k:=[t.fl[i].t])
  refine p1 ?_;exact⟨(i+1,_),⟨yP,v⟩,yP,[0,1],rfl,yc⟩
 have h5:i=d:=gY X.a b h1;subst h5;rw[f,bD]at hr;cbv;exact h r hr
def Sn(h:K (.cy 255 [.cP [.int .i64 e,.str c1,.str c2,.lst 29 c,.lst 57 a] 0]) []):FT 204 [] [dO e c1 c2 c a] K:=by refine en (cf 4) Tryz.func204 λA C L X=>?_;cbv;exact h
def YI
 (H:∀(t:Ty)(m:List (U×Bool))(d:D)(e:Int)(c1 c2:S)(c a:D)(z:PV->List Ob->Prop),cD t e c1 c2 c a->d=bA j8 m->(∀r,r=bA j8 (kA m t.self)->z (.bl true) [.loop 21 [8] C1 C2 [(3,.box 1 0)] .ready,.box [.mp 2],.map .ic 4 r])->YC Tryz.prog tt [.loop 21 [8] C1 C2 [(3,.box 1 0)] .ready,.box [.mp 2],.map .ic 4 d] [dO e c1 c2 c a] z):
 ∀(t:Ty),Ty.le 4294967295 t->t.size<=4294967295->∀{m:List (U×Bool)}{d:D}{e:Int}{c1 c2:S}{c a:D}{K:PV->List Ob->Prop},cD t e c1 c2 c a->d=bA j8 m->
  (∀r,r=bA j8 (kA m t.gS)->K (.bool true) [.box [.j9 2],.box [.cy 256 [.box 0 0,.box 1 0]],.loop 21 [8] C1 C2 [(3,.box 3 0)] .ready,.box [.mp 4],.map .ic 4 r])->
  FT 256 [.box [.j9 2],.box [.cy 256 [.box 0 0,.box 1 0]],.loop 21 [8] C1 C2 [(3,.box 3 0)] .ready,.box [.mp 4],.map .ic 4 d] [dO e c1 c2 c a,.box 0 0,.box 1 0] K:=by
 refine Ty.gj λt w=>?_;intro n hs m d e c1 c2 c a K v B h;have k:∀u∈t.er,u.size<=4294967295:=by intro u hu;have:=size_eq t;have J:u.size<=(t.er.map Ty.size).sum:=ph (bP.2 ⟨u,hu,rfl⟩);omega
 have p:t.er.length<=4294967295:=by
  have:∀l:List Ty,l.length<=(l.map Ty.size).sum:=by
   intro l;induction l with
   |nil=>simp
   |cons x l w=>simp only[bM,bJ,cm];have:=size_eq x;omega
  have h1:=this t.er;have J:=size_eq t;omega
 refine el Xm Tryz.func256 λA C L X=>?_;cbv;refine X.round (H t m d _ _ _ _ _ _ v B λF q=>?_);cbv;refine X.call (Sm n p v λs g=>?_);obtain⟨f,j,b⟩:=lenOf g;cbv;refine lP X (λy=>y.1<=f/\y.2=bA j8 (kA (kA m t.self) ((t.er.take y.1).flatMap Ty.gS))) (λy=>f-y.1) (0,F) ⟨bB _,by simpa[kA]using q⟩ [0,1,2,3,4] (λ(y:Nat×D)=>⟨[(14,.int .i64 y.1),(13,.int .i64 (A.len s)),(12,.lst 29 s),(1,.box 0 0),(2,.box 1 0)],[.box [.j9 2],.box [.cy 256 [.box 0 0,.box 1 0]],.loop 21 [8] C1 C2 [(3,.box 3 0)] .ready,.box [.mp 4],.map .ic 4 y.2]⟩) ?_;rintro⟨i,r⟩ ⟨I,hr⟩;simp only at I hr;cbv;constructor<;>intro h1
 ·have h5:i<t.er.length:=lY X.a b h1;have E:=gT X.a g h5;have M:=iX X.a g h5;have G:=jX X.a h5;refine p1 ?_;refine X.call (w _ (bu h5) (ie n _ (bu h5)) (k _ (bu h5)) E hr λr' o=>?_);refine p2 (λJ=>?_) (λJ=>?_)
  ·exfalso;obtain rfl:=X.a;simp[fA]at J
  refine⟨(i+1,r'),⟨?_,?_⟩,?_,[0,1,2,3,4],rfl,?_⟩
  ·simp only;omega
  ·simp only;rw[o,gk h5,Be]
  ·simp only;omega
  exact yc
 have h5:i=f:=gY X.a b h1;subst h5;rw[j,bD]at hr;cbv;refine h r ?_;rw[hr,G7,Be]
def YJ(b:Ty.le 4294967295 t)(hs:t.size<=4294967295){m:List (U×Bool)}{d:D}(j:cD t e c1 c2 c a)(g:d=bA j8 m)
 (i:∀(t:Ty)(m:List (U×Bool))(d:D)(e:Int)(c1 c2:S)(c a:D)(f:PV->List Ob->Prop),cD t e c1 c2 c a->d=bA j8 m->(∀r,r=bA j8 (kA m t.self)->f (.bl true) [.loop 21 [8] C1 C2 [(3,.box 1 0)] .ready,.box [.mp 2],.map .ic 4 r])->YC Tryz.prog tt [.loop 21 [8] C1 C2 [(3,.box 1 0)] .ready,.box [.mp 2],.map .ic 4 d] [dO e c1 c2 c a] f)
 (h:∀r,r=bA j8 (kA m t.gS)->K (.tup []) [.loop 21 [8] C1 C2 [(3,.box 1 0)] .ready,.box [.mp 2],.map .ic 4 r]):
 FT 255 [.loop 21 [8] C1 C2 [(3,.box 1 0)] .ready,.box [.mp 2],.map .ic 4 d] [.j9 0,.cP [.int .i64 e,.str c1,.str c2,.lst 29 c,.lst 57 a] 0] K:=by
 refine el Xn Tryz.func255 λA C L X=>?_;cbv;refine X.call (YI i t b hs j g λr hr=>?_);cbv;exact h r hr
end
end Go.VC.cG
namespace Go.VC
def kf:∀t:Ty,t.gS.length<=t.size:=by
 refine Ty.gj λt d=>?_;rw[G7,size_eq,bt];have h1:t.self.length<=1:=by unfold Ty.self;split<;>simp
 have J:∀l:List Ty,(∀u∈l,u.gS.length<=u.size)->(l.flatMap Ty.gS).length<=(l.map Ty.size).sum:=by
  intro l;induction l with
  |nil=>simp
  |cons x l c=>intro h;simp only[fP,bt,bJ,cm];have a:=h x yS;have b:=c λu hu=>h u (by simp[hu]);omega
 have:=J _ d;omega
def s6{l:List U}(h:MR l):l.Nodup:=by unfold MR at h;exact h.imp λ{a b} c e=>by rw[e,yi]at c;cases c
def fv{α:Type}[DecidableEq α]:∀{l m:List α},l.Nodup->(∀x∈l,x∈m)->l.length<=m.length
 |[],m,_,_=>yS
 |x::l,m,h,hs=>by
  rw[cw]at h;have:=fv (l:=l) (m:=m.erase x) h.2 λy b=>by have d:=hs y (by simp[b]);have a:y≠x:=λe=>h.1 (by rw[<- e];exact b);exact(JU a).2 d
  have c:=hs x yS;rw[E7 c]at this;have h0:0<m.length:=Ii c;simp only[bM];omega
end Go.VC
namespace Go.VC.cG
open Go Go.VC Go.Proofs
def Sp{t:Ty}(c:Ty.le 4294967295 t)(hs:t.size<=4294967295){n:Int}{c1 c2:S}{i j:D}{K:PV->List Ob->Prop}(p:cD t n c1 c2 i j)
 (h:∀(l:List U) r,r=bA vp l->MR l->(∀u,u∈l↔u∈t.gS)->K (.lst 259 r) []):FT 201 [] [dO n c1 c2 i j] K:=by
 have q:=kf t;refine en Xu Tryz.func201 λA C L X=>?_;cbv;refine X.call (Sn ?_);cbv;refine X.range rfl ⟨Tryz.func255,by rfl,rfl⟩ rfl [(3,.box 2 0)] ?_ ?_
 ·cbv
 cbv;refine X.call (YJ (m:=[]) c hs p rfl ?_ ?_)
 ·intro u m d F b1 b2 E M o hu f hK;obtain⟨g,x,v,I,H⟩:=hu;refine YC.enter (G:=T3) k9 mixed rfl rfl rfl rfl rfl ?_;intro A C L X;have w:A.lU d (.ptr [.str b1,.str b2]) [.bool true]=bA j8 (kA m [(u.m,u.n)]):=by rw[X.a,f,x,v];exact MQ (k:=(u.m,u.n))
  have y:u.k=10->o (.bl true) [.loop 21 [8] _ _ [(3,.box 1 0)] .ready,.box [.mp 2],.map .ic 4 (A.lU d (.ptr [.str b1,.str b2]) [.bool true])]:=λe=>hK _ (by rw[w,Ty.self,if_pos e]);have z:¬u.k=10->o (.bl true) [.loop 21 [8] _ _ [(3,.box 1 0)] .ready,.box [.mp 2],.map .ic 4 d]:=λe=>hK _ (by rw[f,Ty.self,if_neg e];rfl);refine p2 (λJ=>?_) (λJ=>?_)
  ·exact y (by rw[<- g];obtain rfl:=X.a;simpa only[SD]using J)
  ·exact z (by rw[<- g];obtain rfl:=X.a;simpa only[SD]using J)
 ·intro r hr;cbv;refine X.call (YM ?_);cbv;refine X.call (YN hr ?_ ?_ λl r' a b B=>?_)
  ·have:=Jy (l:=t.gS) (m:=[]);simp at this;omega
  ·exact EJ yS
  cbv;refine h l r' a b λs=>?_;rw[B,GH];simp
end Go.VC.cG
namespace Go.VC
abbrev mO(f:S)(c1:Int)(c2 b:S)(e c:D)(d:Bool):PV:=.agg [.str f,.int .i64 c1,.str c2,.str b,.lst 29 e,.lst 57 c,.bool d]
def l9(x:Fe)(f:S)(c1:Int)(c2 b:S)(e c:D)(d:Bool):Prop:=f=x.s/\cD x.t c1 c2 b e c/\d=x.b
def iR{A:pM}{d:D}{i:Nat}{l:List Fe}(ha:A=Std)(b:d=bA eZ l)(h:i<l.length):l9 l[i] (A.bH (A.cell d (bk i) 0)) (A.asInt (A.cell d (bk i) 1)) (A.bH (A.cell d (bk i) 2)) (A.bH (A.cell d (bk i) 3)) (A.cell d (bk i) 4) (A.cell d (bk i) 5) (A.asBool (A.cell d (bk i) 6)):=⟨(zK ha b h).1,jS ha b h,(zK ha b h).2⟩
end Go.VC
namespace Go.VC.cG
open Go Go.VC Go.Proofs
section
variable {a d2:D}{K:PV->List Ob->Prop}
def ZC{l m:List Ty}(k:a=bA cq l)(g:d2=bA cq m)(hl:l.length<=4294967295)
 (F:∀x∈l,∀y (z:Int) (c1:S) (c2:S) (u:D) (w:D) (d0:Int) (a:S) (d2:S) (s:D) (v:D) (B:PV->List Ob->Prop),cD x z c1 c2 u w->cD y d0 a d2 s v->(∀b,b=same x y->B (.bool b) [])->FT 52 [] [dO z c1 c2 u w,dO d0 a d2 s v] B)
 (h:∀b,b=same l m->K (.bool b) []):
 FT 111 [] [.lst 29 a,.lst 29 d2,.cy 52 []] K:=by
 refine en (cf 32) Tryz.func111 λA C L X=>?_;obtain⟨f,j,c⟩:=lenOf k;obtain⟨t,r,d⟩:=lenOf g;refine p2 (λJ=>?_) (λJ=>?_)
 ·refine h _ ?_;refine(tC ?_).symm;obtain rfl:=X.a;simp only[c,d,SD]at J;omega
 have G:m.length=f:=by obtain rfl:=X.a;simp only[c,d,SD]at J;omega
 refine lu X (λi=>i<=f/\l.take i=m.take i) (λi=>f-i) 0 ⟨bB _,yS⟩ (λ(i:Nat)=>[(17,.int .i64 i)]) ?_;rintro i ⟨N,ha⟩;cbv;constructor<;>intro h1
 ·have h5:i<l.length:=lY X.a c h1;have h6:i<m.length:=yO;have E:=gT X.a k h5;have H:=gT X.a g h6;have M:=iX X.a k h5;have I:=iX X.a g h6;have q:=jX X.a h5;have o:l[i]≠m[i]->same l m=false:=λe=>tD h5 h6 e;refine p1 ?_;refine X.call (F _ (bu h5) _ _ _ _ _ _ _ _ _ _ _ _ E H λb hb=>?_);have n:b=same l[i] m[i]:=hb;clear hb;cbv;repeat' (first|apply bq|exact zf|(intro J;cbv)|apply bE)
  any_goals exact q
  ·refine h _ ?_;have:same l[i] m[i]=false:=by rw[<- n];obtain rfl:=X.a;simpa only[SD]using J
   exact(o λe=>by rw[e,jW]at this;cases this).symm
  ·have p:same l[i] m[i]=true:=by rw[<- n];obtain rfl:=X.a;simpa only[SD,dL]using J
   refine⟨i+1,⟨by omega,by rw[cb h5,cb h6,ha,fX.1 p]⟩,by omega,?_⟩;exact yc
 ·have h5:i=f:=gY X.a c h1;subst h5;have e:=uG (l:=l) (m:=m) yO (by rw[<- j];exact ha);cbv;refine h _ ?_;rw[e,jW]
def ZB{l m:List Fe}(k:a=bA eZ l)(g:d2=bA eZ m)(hl:l.length<=4294967295)
 (M:∀x∈l,∀y (G:S) (c1:Int) (c2:S) (v:S) (F:D) (w:D) (E:Bool) (d0:S) (a:Int) (d2:S) (s:S) (B:D) (z:D) (u:Bool) (H:PV->List Ob->Prop),l9 x G c1 c2 v F w E->l9 y d0 a d2 s B z u->(∀b,b=same x y->H (.bool b) [])->FT 113 [] [mO G c1 c2 v F w E,mO d0 a d2 s B z u] H)
 (h:∀b,b=same l m->K (.bool b) []):
 FT 112 [] [.lst 57 a,.lst 57 d2,.cy 113 []] K:=by
 refine en (cf 32) Tryz.func112 λA C L X=>?_;obtain⟨f,j,c⟩:=lenOf k;obtain⟨t,r,d⟩:=lenOf g;refine p2 (λJ=>?_) (λJ=>?_)
 ·refine h _ ?_;refine(tC ?_).symm;obtain rfl:=X.a;simp only[c,d,SD]at J;omega
 have N:m.length=f:=by obtain rfl:=X.a;simp only[c,d,SD]at J;omega
 refine lu X (λi=>i<=f/\l.take i=m.take i) (λi=>f-i) 0 ⟨bB _,yS⟩ (λ(i:Nat)=>[(17,.int .i64 i)]) ?_;rintro i ⟨R,ha⟩;cbv;constructor<;>intro h1
 ·have h5:i<l.length:=lY X.a c h1;have h6:i<m.length:=yO;have I:=iR X.a k h5;have O:=iR X.a g h6;have Q:=iX X.a k h5;have P:=iX X.a g h6;have q:=jX X.a h5;have o:l[i]≠m[i]->same l m=false:=λe=>tD h5 h6 e;refine p1 ?_;refine X.call (M _ (bu h5) _ _ _ _ _ _ _ _ _ _ _ _ _ _ _ _ I O λb hb=>?_);have n:b=same l[i] m[i]:=hb;clear hb;cbv;repeat' (first|apply bq|exact zf|(intro J;cbv)|apply bE)
  any_goals exact q
  ·refine h _ ?_;have:same l[i] m[i]=false:=by rw[<- n];obtain rfl:=X.a;simpa only[SD]using J
   exact(o λe=>by rw[e,jW]at this;cases this).symm
  ·have p:same l[i] m[i]=true:=by rw[<- n];obtain rfl:=X.a;simpa only[SD,dL]using J
   refine⟨i+1,⟨by omega,by rw[cb h5,cb h6,ha,fX.1 p]⟩,by omega,?_⟩;exact yc
 ·have h5:i=f:=gY X.a c h1;subst h5;have e:=uG (l:=l) (m:=m) yO (by rw[<- j];exact ha);cbv;refine h _ ?_;rw[e,jW]
end
end Go.VC.cG
namespace Go.VC
def NZ{x y:Fe}:same x y=((x.s==y.s)&&(x.b==y.b)&&same x.t y.t):=by rw[cM];simp only[fX,bw,beq_iff_eq];exact⟨λe=>by subst e;exact⟨⟨rfl,rfl⟩,rfl⟩,λ⟨⟨h1,J⟩,h3⟩=>Fe.ext h1 h3 J⟩
def KE{x y:Ty}:same x y=(((((x.k==y.k)&&(x.m==y.m))&&(x.n==y.n))&&same x.ar y.ar)&&same x.fl y.fl):=by rw[cM];simp only[fX,bw,beq_iff_eq];exact⟨λe=>by subst e;exact⟨⟨⟨⟨rfl,rfl⟩,rfl⟩,rfl⟩,rfl⟩,λ⟨⟨⟨⟨h1,J⟩,h3⟩,h4⟩,h5⟩=>Ty.ext h1 J h3 h4 h5⟩
end Go.VC
namespace Go.VC.cG
open Go Go.VC Go.Proofs
def V3{x y:Fe}{m:S}{c1:Int}{c2 d:S}{i f:D}{l:Bool}{d0:S}{e:Int}{d2 c:S}{a g:D}{o:Bool}{K:PV->List Ob->Prop}
 (r:l9 x m c1 c2 d i f l) (p:l9 y d0 e d2 c a g o)
 (q:∀{n:PV->List Ob->Prop},(∀b,b=same x.t y.t->n (.bool b) [])->FT 52 [] [dO c1 c2 d i f,dO e d2 c a g] n)
 (h:∀b,b=same x y->K (.bool b) []):FT 113 [] [mO m c1 c2 d i f l,mO d0 e d2 c a g o] K:=by
 obtain⟨j,a1,a2⟩:=r;obtain⟨k,b1,b2⟩:=p;have hs:=NZ (x:=x) (y:=y);rw[<- j,<-k,<-a2,<-b2]at hs;clear j k a2 b2 a1 b1;refine en (cf 24) Tryz.func113 λA C L X=>?_;cbv;repeat' (first|apply bq|exact zf|(intro J;cbv)|apply bE|(refine X.call (q λb hb=>?_);cbv))
 all_goals (refine h _ ?_;rw[hs];obtain rfl:=X.a;(try subst hb);simp only[SD]at *;simp[*])
def Z3:∀(t:Ty),Ty.le 4294967295 t->∀{u:Ty}{w:Int}{c1 c2:S}{o v:D}{d0:Int}{l d2:S}{f q:D}{K:PV->List Ob->Prop},cD t w c1 c2 o v->cD u d0 l d2 f q->(∀b,b=same t u->K (.bool b) [])->FT 52 [] [dO w c1 c2 o v,dO d0 l d2 f q] K:=by
 refine Ty.parts λt m i=>?_;intro a u w c1 c2 o v d0 l d2 f q K I hu h;obtain⟨G,H,z,r,n⟩:=I;obtain⟨E,F,B,g,j⟩:=hu;have hs:=KE (x:=t) (y:=u);rw[<- G,<-E,<-H,<-F,<-z,<-B]at hs;clear G H z E F B;refine en (cf 38) Tryz.func52 λA C L X=>?_;cbv;repeat' (first|apply bq|exact zf|(intro J;cbv)|apply bE|(refine X.call (ZC r g (q9 a) (λx c y _ _ _ _ _ _ _ _ _ _ O d e hK=>m x c (qd a x c) d e hK) λb1 s=>?_);cbv)|(refine X.call (ZB n j (wB a) (λx c y _ _ _ _ _ _ _ _ _ _ _ _ _ _ O d e hK=>V3 d e (λk=>i x c (sB a x c) d.2.1 e.2.1 k) hK) λb2 p=>?_);cbv))
 all_goals (refine h _ ?_;rw[hs];obtain rfl:=X.a;(try subst s);(try subst p);(try subst N);(try subst M);simp only[SD]at *;simp[*])
end Go.VC.cG
namespace Go.VC
def Ty.zero:Ty:=.mk 0 [] [] [] []
def TE.zero:TE:=⟨[],[],Ty.zero,Ty.zero⟩
def VE.zero:VE:=⟨[],[],Ty.zero⟩
def AE.zero:AE:=⟨[],[],[]⟩
def IF.zero:IF:=⟨[],[],[],[],[]⟩
def iD{α:Type}{p:α->Bool}{l:List α}{i:Nat}(h:i<l.length)(b:p l[i]=true)(ha:∀x∈l.take i,p x=false):l.find? p=some l[i]:=by rw[List.find?_eq_some_iff_getElem];refine⟨b,i,h,rfl,λj k=>?_⟩;have:=ha l[j] (by rw[jU];exact⟨j,yO,rfl⟩);simp[this]
end Go.VC
namespace Go.VC.cG
open Go Go.VC Go.Proofs
section
variable {s a e c:S}{K:PV->List Ob->Prop}{d c1 f g:D}{l:List IF}{p:IF->Bool}{c2:Int}
def Nd(q:d=bA dC l)(hl:l.length<=4294967295)
 (y:∀x∈l,∀(a:S)(c1:D)(c2:D)(e:D)(c:D)(u:PV->List Ob->Prop),kn x a c1 c2 e c->(∀b,b=p x->u (.bool b) [])->FT 142 [] [nR a c1 c2 e c,.cP [.str s] 0] u)
 (h:∀r:Int,r=jA p l->K (.int .i64 r) []):
 FT 191 [] [.lst 97 d,.cy 142 [.cP [.str s] 0]] K:=by
 refine en (cf 19) Tryz.func191 λA C L X=>?_;obtain⟨k,o,j⟩:=lenOf q;cbv;refine lu X (λi=>i<=k/\∀x∈l.take i,p x=false) (λi=>k-i) 0 ⟨bB _,yS⟩ (λ(i:Nat)=>[(8,.int .i64 i)]) ?_;rintro i ⟨z,ha⟩;cbv;constructor<;>intro h1
 ·have h5:i<l.length:=lY X.a j h1;have v:=mL X.a q h5;have w:=iX X.a q h5;have t:=jX X.a h5;refine p1 ?_;refine X.call (y _ (bu h5) _ _ _ _ _ _ v λb hb=>?_);have n:b=p l[i]:=hb;clear hb;cbv;repeat' (first|apply bq|exact zf|(intro J;cbv)|apply bE)
  any_goals exact t
  ·refine h i ?_;exact(fp h5 ha (by rw[<- n];obtain rfl:=X.a;simpa only[SD]using J)).symm
  ·have hf:p l[i]=false:=by rename_i h3;rw[<- n];obtain rfl:=X.a;simpa only[SD,dL]using h3
   refine⟨i+1,⟨yO,?_⟩,yO,?_⟩
   ·rw[cb h5];intro x m;rcases bG.1 m with m|m
    ·exact ha x m
    ·simp at m;subst m;exact hf
   exact yc
 ·have h5:i=k:=gY X.a j h1;subst h5;cbv;refine h (-1) ?_;rw[o,bD]at ha;exact(fq ha).symm
def Zt(j:d=bA dC l)(hl:l.length<=4294967295)
 (v:∀x∈l,∀(a:S)(c1:D)(c2:D)(e:D)(c:D)(q:PV->List Ob->Prop),kn x a c1 c2 e c->(∀b,b=p x->q (.bool b) [])->FT 142 [] [nR a c1 c2 e c,.cP [.str s] 0] q)
 (h:∀m e1 e2 e3 n b,kn ((l.find? p).getD IF.zero) m e1 e2 e3 n->b=(l.find? p).isSome->K (.tup [nR m e1 e2 e3 n,.bool b]) []):
 FT 141 [] [.lst 97 d,.cy 142 [.cP [.str s] 0]] K:=by
 refine en (cf 18) Tryz.func141 λA C L X=>?_;obtain⟨w,o,k⟩:=lenOf j;cbv;refine X.call (Nd j hl v λr hr=>?_);rcases kR p l with⟨e1,e2⟩|⟨i,h5,e1,e2,e3⟩
 ·have hz:l.find? p=none:=by rw[eN];intro x y;simp[e2 x y]
  refine p3 (λJ=>?_) (λJ=>?_) (λJ=>?_)
  ·exfalso;rw[e1]at hr;subst hr;obtain rfl:=X.a;simp only[SD]at J;omega
  ·exfalso;rw[e1]at hr;subst hr;obtain rfl:=X.a;simp only[SD]at J;omega
  ·refine h _ _ _ _ _ _ ?_ ?_
   ·rw[hz];exact⟨rfl,rfl,rfl,rfl,rfl⟩
   ·rw[hz];rfl
 ·have hz:l.find? p=some l[i]:=iD h5 e2 e3;rw[e1]at hr;obtain rfl:r=bk i:=hr;have t:=mL X.a j h5;have u:=iX X.a j h5;refine p2 (λJ=>?_) (λJ=>?_)
  ·refine h _ _ _ _ _ _ ?_ ?_
   ·rw[hz];exact t
   ·rw[hz];rfl
  ·exfalso;obtain rfl:=X.a;simp only[SD]at J;omega
def Zs{x:IF}{c2:D}{e:D}{c:D}(i:kn x a c1 c2 e c)(h:∀b,b=(x.path==s)->K (.bool b) []):
 FT 142 [] [nR a c1 c2 e c,.cP [.str s] 0] K:=by
 have k:=i.1;refine en (cf 8) Tryz.func142 λA C L X=>?_;have q:=h (A.seq a s) (by rw[X.a,<-k];rfl);cbv;exact q
def M0{l:List TE}{p:TE->Bool}(u:d=bA fY l)(hl:l.length<=4294967295)
 (G:∀x∈l,∀(a:S)(c1:D)(c2:Int)(e:S)(c:S)(f:D)(g:D)(y:Int)(z:S)(w:S)(o:D)(q:D)(B:PV->List Ob->Prop),o4 x a c1 c2 e c f g y z w o q->(∀b,b=p x->B (.bool b) [])->FT 240 [] [tn a c1 c2 e c f g y z w o q,.cP [.str s] 0] B)
 (h:∀r:Int,r=jA p l->K (.int .i64 r) []):
 FT 276 [] [.lst 136 d,.cy 240 [.cP [.str s] 0]] K:=by
 refine en (cf 19) Tryz.func276 λA C L X=>?_;obtain⟨k,t,j⟩:=lenOf u;cbv;refine lu X (λi=>i<=k/\∀x∈l.take i,p x=false) (λi=>k-i) 0 ⟨bB _,yS⟩ (λ(i:Nat)=>[(8,.int .i64 i)]) ?_;rintro i ⟨H,ha⟩;cbv;constructor<;>intro h1
 ·have h5:i<l.length:=lY X.a j h1;have E:=mz X.a u h5;have F:=iX X.a u h5;have v:=jX X.a h5;refine p1 ?_;refine X.call (G _ (bu h5) _ _ _ _ _ _ _ _ _ _ _ _ _ E λb hb=>?_);have n:b=p l[i]:=hb;clear hb;cbv;repeat' (first|apply bq|exact zf|(intro J;cbv)|apply bE)
  any_goals exact v
  ·refine h i ?_;exact(fp h5 ha (by rw[<- n];obtain rfl:=X.a;simpa only[SD]using J)).symm
  ·have hf:p l[i]=false:=by rename_i h3;rw[<- n];obtain rfl:=X.a;simpa only[SD,dL]using h3
   refine⟨i+1,⟨yO,?_⟩,yO,?_⟩
   ·rw[cb h5];intro x m;rcases bG.1 m with m|m
    ·exact ha x m
    ·simp at m;subst m;exact hf
   exact yc
 ·have h5:i=k:=gY X.a j h1;subst h5;cbv;refine h (-1) ?_;rw[t,bD]at ha;exact(fq ha).symm
def YY{l:List TE}{p:TE->Bool}(o:d=bA fY l)(hl:l.length<=4294967295)
 (N:∀x∈l,∀(a:S)(c1:D)(c2:Int)(e:S)(c:S)(f:D)(g:D)(E:Int)(v:S)(z:S)(n:D)(k:D)(I:PV->List Ob->Prop),o4 x a c1 c2 e c f g E v z n k->(∀b,b=p x->I (.bool b) [])->FT 240 [] [tn a c1 c2 e c f g E v z n k,.cP [.str s] 0] I)
 (h:∀t e1 e2 e3 H u B w F y m j b,o4 ((l.find? p).getD TE.zero) t e1 e2 e3 H u B w F y m j->b=(l.find? p).isSome->K (.tup [tn t e1 e2 e3 H u B w F y m j,.bool b]) []):
 FT 239 [] [.lst 136 d,.cy 240 [.cP [.str s] 0]] K:=by
 refine en (cf 18) Tryz.func239 λA C L X=>?_;obtain⟨O,G,q⟩:=lenOf o;cbv;refine X.call (M0 o hl N λr hr=>?_);rcases kR p l with⟨e1,e2⟩|⟨i,h5,e1,e2,e3⟩
 ·have hz:l.find? p=none:=by rw[eN];intro x P;simp[e2 x P]
  refine p3 (λJ=>?_) (λJ=>?_) (λJ=>?_)
  ·exfalso;rw[e1]at hr;subst hr;obtain rfl:=X.a;simp only[SD]at J;omega
  ·exfalso;rw[e1]at hr;subst hr;obtain rfl:=X.a;simp only[SD]at J;omega
  ·refine h _ _ _ _ _ _ _ _ _ _ _ _ _ ?_ ?_
   ·rw[hz];exact⟨rfl,rfl,⟨rfl,rfl,rfl,rfl,rfl⟩,rfl,rfl,rfl,rfl,rfl⟩
   ·rw[hz];rfl
 ·have hz:l.find? p=some l[i]:=iD h5 e2 e3;rw[e1]at hr;obtain rfl:r=bk i:=hr;have M:=mz X.a o h5;have Q:=iX X.a o h5;refine p2 (λJ=>?_) (λJ=>?_)
  ·refine h _ _ _ _ _ _ _ _ _ _ _ _ _ ?_ ?_
   ·rw[hz];exact M
   ·rw[hz];rfl
  ·exfalso;obtain rfl:=X.a;simp only[SD]at J;omega
def YX{x:TE}{n:Int}{o:S}{m:S}{i:D}{j:D}(r:o4 x a c1 c2 e c f g n o m i j)(h:∀b,b=(x.name==s)->K (.bool b) []):
 FT 240 [] [tn a c1 c2 e c f g n o m i j,.cP [.str s] 0] K:=by
 have k:=r.1;refine en (cf 8) Tryz.func240 λA C L X=>?_;have q:=h (A.seq a s) (by rw[X.a,<-k];rfl);cbv;exact q
def MZ{l:List VE}{p:VE->Bool}(q:d=bA lS l)(hl:l.length<=4294967295)
 (y:∀x∈l,∀(a:S)(c1:D)(c2:Int)(e:S)(c:S)(f:D)(g:D)(u:PV->List Ob->Prop),uD x a c1 c2 e c f g->(∀b,b=p x->u (.bool b) [])->FT 242 [] [Bs a c1 c2 e c f g,.cP [.str s] 0] u)
 (h:∀r:Int,r=jA p l->K (.int .i64 r) []):
 FT 277 [] [.lst 91 d,.cy 242 [.cP [.str s] 0]] K:=by
 refine en (cf 19) Tryz.func277 λA C L X=>?_;obtain⟨k,o,j⟩:=lenOf q;cbv;refine lu X (λi=>i<=k/\∀x∈l.take i,p x=false) (λi=>k-i) 0 ⟨bB _,yS⟩ (λ(i:Nat)=>[(8,.int .i64 i)]) ?_;rintro i ⟨z,ha⟩;cbv;constructor<;>intro h1
 ·have h5:i<l.length:=lY X.a j h1;have v:=oX X.a q h5;have w:=iX X.a q h5;have t:=jX X.a h5;refine p1 ?_;refine X.call (y _ (bu h5) _ _ _ _ _ _ _ _ v λb hb=>?_);have n:b=p l[i]:=hb;clear hb;cbv;repeat' (first|apply bq|exact zf|(intro J;cbv)|apply bE)
  any_goals exact t
  ·refine h i ?_;exact(fp h5 ha (by rw[<- n];obtain rfl:=X.a;simpa only[SD]using J)).symm
  ·have hf:p l[i]=false:=by rename_i h3;rw[<- n];obtain rfl:=X.a;simpa only[SD,dL]using h3
   refine⟨i+1,⟨yO,?_⟩,yO,?_⟩
   ·rw[cb h5];intro x m;rcases bG.1 m with m|m
    ·exact ha x m
    ·simp at m;subst m;exact hf
   exact yc
 ·have h5:i=k:=gY X.a j h1;subst h5;cbv;refine h (-1) ?_;rw[o,bD]at ha;exact(fq ha).symm
def YW{l:List VE}{p:VE->Bool}(j:d=bA lS l)(hl:l.length<=4294967295)
 (y:∀x∈l,∀(a:S)(c1:D)(c2:Int)(e:S)(c:S)(f:D)(g:D)(u:PV->List Ob->Prop),uD x a c1 c2 e c f g->(∀b,b=p x->u (.bool b) [])->FT 242 [] [Bs a c1 c2 e c f g,.cP [.str s] 0] u)
 (h:∀m e1 e2 e3 q n o b,uD ((l.find? p).getD VE.zero) m e1 e2 e3 q n o->b=(l.find? p).isSome->K (.tup [Bs m e1 e2 e3 q n o,.bool b]) []):
 FT 241 [] [.lst 91 d,.cy 242 [.cP [.str s] 0]] K:=by
 refine en (cf 18) Tryz.func241 λA C L X=>?_;obtain⟨z,t,k⟩:=lenOf j;cbv;refine X.call (MZ j hl y λr hr=>?_);rcases kR p l with⟨e1,e2⟩|⟨i,h5,e1,e2,e3⟩
 ·have hz:l.find? p=none:=by rw[eN];intro x B;simp[e2 x B]
  refine p3 (λJ=>?_) (λJ=>?_) (λJ=>?_)
  ·exfalso;rw[e1]at hr;subst hr;obtain rfl:=X.a;simp only[SD]at J;omega
  ·exfalso;rw[e1]at hr;subst hr;obtain rfl:=X.a;simp only[SD]at J;omega
  ·refine h _ _ _ _ _ _ _ _ ?_ ?_
   ·rw[hz];exact⟨rfl,rfl,rfl,rfl,rfl,rfl,rfl⟩
   ·rw[hz];rfl
 ·have hz:l.find? p=some l[i]:=iD h5 e2 e3;rw[e1]at hr;obtain rfl:r=bk i:=hr;have v:=oX X.a j h5;have w:=iX X.a j h5;refine p2 (λJ=>?_) (λJ=>?_)
  ·refine h _ _ _ _ _ _ _ _ ?_ ?_
   ·rw[hz];exact v
   ·rw[hz];rfl
  ·exfalso;obtain rfl:=X.a;simp only[SD]at J;omega
def YV{x:VE}(i:uD x a c1 c2 e c f g)(h:∀b,b=(x.name==s)->K (.bool b) []):
 FT 242 [] [Bs a c1 c2 e c f g,.cP [.str s] 0] K:=by
 have k:=i.1;refine en (cf 8) Tryz.func242 λA C L X=>?_;have q:=h (A.seq a s) (by rw[X.a,<-k];rfl);cbv;exact q
def MY{l:List AE}{p:AE->Bool}(q:d=bA qI l)(hl:l.length<=4294967295)
 (y:∀x∈l,∀(a:S)(c1:S)(c2:S)(u:PV->List Ob->Prop),EI x a c1 c2->(∀b,b=p x->u (.bool b) [])->FT 244 [] [Jx a c1 c2,.cP [.str s] 0] u)
 (h:∀r:Int,r=jA p l->K (.int .i64 r) []):
 FT 278 [] [.lst 210 d,.cy 244 [.cP [.str s] 0]] K:=by
 refine en (cf 19) Tryz.func278 λA C L X=>?_;obtain⟨k,o,j⟩:=lenOf q;cbv;refine lu X (λi=>i<=k/\∀x∈l.take i,p x=false) (λi=>k-i) 0 ⟨bB _,yS⟩ (λ(i:Nat)=>[(8,.int .i64 i)]) ?_;rintro i ⟨z,ha⟩;cbv;constructor<;>intro h1
 ·have h5:i<l.length:=lY X.a j h1;have v:=zr X.a q h5;have w:=iX X.a q h5;have t:=jX X.a h5;refine p1 ?_;refine X.call (y _ (bu h5) _ _ _ _ v λb hb=>?_);have n:b=p l[i]:=hb;clear hb;cbv;repeat' (first|apply bq|exact zf|(intro J;cbv)|apply bE)
  any_goals exact t
  ·refine h i ?_;exact(fp h5 ha (by rw[<- n];obtain rfl:=X.a;simpa only[SD]using J)).symm
  ·have hf:p l[i]=false:=by rename_i h3;rw[<- n];obtain rfl:=X.a;simpa only[SD,dL]using h3
   refine⟨i+1,⟨yO,?_⟩,yO,?_⟩
   ·rw[cb h5];intro x m;rcases bG.1 m with m|m
    ·exact ha x m
    ·simp at m;subst m;exact hf
   exact yc
 ·have h5:i=k:=gY X.a j h1;subst h5;cbv;refine h (-1) ?_;rw[o,bD]at ha;exact(fq ha).symm
def YU{l:List AE}{p:AE->Bool}(j:d=bA qI l)(hl:l.length<=4294967295)
 (u:∀x∈l,∀(a:S)(c1:S)(c2:S)(o:PV->List Ob->Prop),EI x a c1 c2->(∀b,b=p x->o (.bool b) [])->FT 244 [] [Jx a c1 c2,.cP [.str s] 0] o)
 (h:∀m e1 e2 b,EI ((l.find? p).getD AE.zero) m e1 e2->b=(l.find? p).isSome->K (.tup [Jx m e1 e2,.bool b]) []):
 FT 243 [] [.lst 210 d,.cy 244 [.cP [.str s] 0]] K:=by
 refine en (cf 18) Tryz.func243 λA C L X=>?_;obtain⟨v,n,k⟩:=lenOf j;cbv;refine X.call (MY j hl u λr hr=>?_);rcases kR p l with⟨e1,e2⟩|⟨i,h5,e1,e2,e3⟩
 ·have hz:l.find? p=none:=by rw[eN];intro x w;simp[e2 x w]
  refine p3 (λJ=>?_) (λJ=>?_) (λJ=>?_)
  ·exfalso;rw[e1]at hr;subst hr;obtain rfl:=X.a;simp only[SD]at J;omega
  ·exfalso;rw[e1]at hr;subst hr;obtain rfl:=X.a;simp only[SD]at J;omega
  ·refine h _ _ _ _ ?_ ?_
   ·rw[hz];exact⟨rfl,rfl,rfl⟩
   ·rw[hz];rfl
 ·have hz:l.find? p=some l[i]:=iD h5 e2 e3;rw[e1]at hr;obtain rfl:r=bk i:=hr;have q:=zr X.a j h5;have t:=iX X.a j h5;refine p2 (λJ=>?_) (λJ=>?_)
  ·refine h _ _ _ _ ?_ ?_
   ·rw[hz];exact q
   ·rw[hz];rfl
  ·exfalso;obtain rfl:=X.a;simp only[SD]at J;omega
def YT{x:AE}{c1:S}{c2:S}(i:EI x a c1 c2)(h:∀b,b=(x.name==s)->K (.bool b) []):
 FT 244 [] [Jx a c1 c2,.cP [.str s] 0] K:=by
 have k:=i.1;refine en (cf 8) Tryz.func244 λA C L X=>?_;have q:=h (A.seq a s) (by rw[X.a,<-k];rfl);cbv;exact q
end
section
variable {K:PV->List Ob->Prop}{f b a:S}{c1 c e:D}{c2:Int}
def VM{l:List Pm}{d:D}(v:d=bA eU l)(hl:l.length<=4294967295)(ek:∀p∈l,p.ok)(h:∀r,r=bA eU l->K (.lst 73 r) []):FT 192 [] [.lst 73 d] K:=by
 refine en (cf 23) Tryz.func192 λA C L X=>?_;cbv;refine X.call (YZ v yO λr hr=>?_);obtain⟨j,t,g⟩:=lenOf hr;cbv;refine lP X (λx=>x.1<=j/\x.2=bA eU l) (λx=>j-x.1) (0,r) ⟨bB _,hr⟩ [0] (λ(x:Nat×D)=>⟨[(8,.int .i64 x.1),(7,.int .i64 (A.len r)),(0,.row 73 0)],[.row 73 x.2 true]⟩) ?_;rintro⟨i,z⟩ ⟨F,hz⟩;simp only at F hz;cbv;constructor<;>intro h1
 ·have h5:i<l.length:=lY X.a g h1;have w:=FO X.a hz h5;have E:=iX X.a hz h5;have y:=jX X.a h5;refine p1 ?_;refine X.call (Pt _ (ek _ (bu h5)) w λs e1 e2 e3 u he=>?_);obtain⟨m,o,n,k,q⟩:=he;have B:A.mY z (bk i) 2 [.int s,.str e1,.str e2,e3,u]=z:=re X.a hz h5 (by rw[y8,m,o,n,k,q];rfl);refine p1 ?_;exact⟨(i+1,A.mY z (bk i) 2 [.int s,.str e1,.str e2,e3,u]),⟨yP,B.trans hz⟩,yP,[0],rfl,yc⟩
 cbv;exact h z hz
def VX{x:TE}(k:x.ok){u:Int}{o s:S}{j g:D}(hc:o4 x f c1 c2 b a c e u o s j g)
 (h:∀l e1 e2 e3 m n t p v q i d,o4 x l e1 e2 e3 m n t p v q i d->K (tn l e1 e2 e3 m n t p v q i d) []):
 FT 145 [] [tn f c1 c2 b a c e u o s j g] K:=by
 obtain⟨B,w,E,z⟩:=hc;refine en XH Tryz.func145 λA C L X=>?_;refine p1 ?_;refine X.call (VM w k.np k.p λr hr=>?_);refine p1 ?_;refine X.call (Pt _ k.lo E λl e1 e2 e3 m he=>?_);refine p1 ?_;refine X.call (Pt _ k.up z λg0 g1 g2 g3 g4 y=>?_);refine p1 ?_;exact h _ _ _ _ _ _ _ _ _ _ _ _ ⟨B,hr,he,y⟩
def VW{x:VE}(i:x.ok)(hc:uD x f c1 c2 b a c e)
 (h:∀d e1 e2 e3 g j k,uD x d e1 e2 e3 g j k->K (Bs d e1 e2 e3 g j k) []):
 FT 146 [] [Bs f c1 c2 b a c e] K:=by
 obtain⟨n,l,m⟩:=hc;refine en XG Tryz.func146 λA C L X=>?_;refine p1 ?_;refine X.call (VM l i.np i.p λr hr=>?_);refine p1 ?_;refine X.call (Pt _ i.ty m λd e1 e2 e3 g he=>?_);refine p1 ?_;exact h _ _ _ _ _ _ _ ⟨n,hr,he⟩
end
def F76{x:IF}(o:x.ok){p:S}{c1 c2 w E:D}{K:PV->List Ob->Prop}(hc:kn x p c1 c2 w E)
 (h:∀d e1 e2 e3 g,kn x d e1 e2 e3 g->K (nR d e1 e2 e3 g) []):
 FT 76 [] [nR p c1 c2 w E] K:=by
 obtain⟨k0,U,P,R,N⟩:=hc;have nt:=o.nt;have nv:=o.nv;have na:=o.na;have nd:=o.nd;refine en g76 Tryz.func76 λA C L X=>?_;cbv;refine X.cut (λ(z:D×D)=>⟨[(1,.box 0 0),(2,.box 1 0)],[.box [.str p,.row 136 2,.row 91 3,.lst 210 w,.lst 213 E],.box [.undef,.undef,.undef,.undef,.undef],.row 136 z.1 true,.row 91 z.2 true]⟩) (λz=>z.1=bA fY x.types/\z.2=bA lS x.values) ?_ ?_
 ·cbv;repeat' (first|apply bq|exact zf|(intro J;cbv)|apply bE|(refine X.call (Zr U yO λV n=>?_);cbv)|(refine X.call (Zq P yO λr2 a=>?_);cbv))
  all_goals (refine⟨(V,r2),⟨n,a⟩,[0,1,2,3],rfl,?_⟩;exact yc)
 rintro⟨z1,H⟩ ⟨k,l⟩;simp only at k l;obtain⟨f,M,c⟩:=lenOf k;obtain⟨e,G,b⟩:=lenOf l;cbv;refine lP X (λy=>y.1<=f/\y.2=bA fY x.types) (λy=>f-y.1) (0,z1) ⟨bB _,k⟩ [0,1,2,3] (λ(y:Nat×D)=>⟨[(18,.int .i64 y.1),(17,.int .i64 (A.len z1)),(16,.row 136 2),(1,.box 0 0),(2,.box 1 0)],[.box [.str p,.row 136 2,.row 91 3,.lst 210 w,.lst 213 E],.box [.undef,.undef,.undef,.undef,.undef],.row 136 y.2 true,.row 91 H true]⟩) ?_;rintro⟨j,r⟩ ⟨hj,hr⟩;simp only at hj hr;cbv;constructor<;>intro h1
 ·have h5:j<x.types.length:=lY X.a c h1;have F:=mz X.a hr h5;have Q:=iX X.a hr h5;have O:=jX X.a h5;refine p1 ?_;refine X.call (VX (o.t _ (bu h5)) F λd e1 e2 e3 g q t W e8 e9 u s he=>?_);obtain⟨i,m,⟨l0,l1,l2,l3,l4⟩,u0,u1,u2,u3,u4⟩:=he;have I:A.mY r (bk j) 0 [.str d,e1,.int e2,.str e3,.str g,q,t,.int W,.str e8,.str e9,u,s]=r:=re X.a hr h5 (by rw[oK,i,m,l0,l1,l2,l3,l4,u0,u1,u2,u3,u4];rfl);refine p1 ?_;exact⟨(j+1,A.mY r (bk j) 0 [.str d,e1,.int e2,.str e3,.str g,q,t,.int W,.str e8,.str e9,u,s]),⟨yP,I.trans hr⟩,yP,[0,1,2,3],rfl,yc⟩
 cbv;refine lP X (λy=>y.1<=e/\y.2=bA lS x.values) (λy=>e-y.1) (0,H) ⟨bB _,l⟩ [0,1,2,3] (λ(y:Nat×D)=>⟨[(33,.int .i64 y.1),(32,.int .i64 (A.len H)),(31,.row 91 3),(1,.box 0 0),(2,.box 1 0)],[.box [.str p,.row 136 2,.row 91 3,.lst 210 w,.lst 213 E],.box [.undef,.undef,.undef,.undef,.undef],.row 136 r true,.row 91 y.2 true]⟩) ?_;rintro⟨j2,r2⟩ ⟨T,a⟩;simp only at T a;cbv;constructor<;>intro h1
 ·have h5:j2<x.values.length:=lY X.a b h1;have F:=oX X.a a h5;have Q:=iX X.a a h5;have O:=jX X.a h5;refine p1 ?_;refine X.call (VW (o.v _ (bu h5)) F λd e1 e2 e3 g q t he=>?_);obtain⟨i,m,l0,l1,l2,l3,l4⟩:=he;have I:A.mY r2 (bk j2) 0 [.str d,e1,.int e2,.str e3,.str g,q,t]=r2:=re X.a a h5 (by rw[y5,i,m,l0,l1,l2,l3,l4];rfl);refine p1 ?_;exact⟨(j2+1,A.mY r2 (bk j2) 0 [.str d,e1,.int e2,.str e3,.str g,q,t]),⟨yP,I.trans a⟩,yP,[0,1,2,3],rfl,yc⟩
 cbv;refine X.cut (λ(z:D×D)=>⟨[(1,.box 0 0),(2,.box 1 0)],[.box [.str p,.row 136 2,.row 91 3,.row 210 4,.row 213 5],.box [.undef,.undef,.undef,.undef,.undef],.row 136 r true,.row 91 r2 true,.row 210 z.1 true,.row 213 z.2 true]⟩) (λz=>z.1=bA qI x.aliases/\z.2=bA ui x.deprecated) ?_ ?_
 ·cbv;repeat' (first|apply bq|exact zf|(intro J;cbv)|apply bE|(refine X.call (Zp R yO λV n=>?_);cbv)|(refine X.call (Zo N yO λr2 a=>?_);cbv))
  all_goals (refine⟨(_,_),⟨n,a⟩,[0,1,2,3,4,5],rfl,?_⟩;exact yc)
 rintro⟨z3,z4⟩ ⟨B,v⟩;simp only at B v;cbv;exact h _ _ _ _ _ ⟨k0,hr,a,B,v⟩
end Go.VC.cG
namespace Go.VC
def ik(env:List IF)(path:S):Option IF:=env.find? λi=>i.path==path
inductive Vm where|none|uF (x:TE)|val (x:VE)|SO (x:AE)|Az
def kl(i:IF)(n:S):Vm:=match i.types.find? λx=>x.name==n with
 |some x=>.uF x
 |none=>match i.values.find? λx=>x.name==n with
  |some x=>.val x
  |none=>match i.aliases.find? λx=>x.name==n with
   |some x=>.SO x
   |none=>.Az
def iV(env:List IF)(m n:S):Vm:=match ik env m with
 |none=>.none
 |some i=>kl i n
def oI{α:Type}{p:α->Bool}{l:List α}{x:α}(h:l.find? p=some x):x∈l:=eb h
def eH(env:List IF):Prop:=env.length<=4294967295/\∀i∈env,i.ok
def oJ{env:List IF}(h:eH env){s:S}{i:IF}(a:ik env s=some i):i.ok:=h.2 i (oI a)
def NC:IF.zero.ok:=⟨by simp[IF.zero],by simp[IF.zero],by simp[IF.zero],by simp[IF.zero],by simp[IF.zero],by simp[IF.zero]⟩
end Go.VC
namespace Go.VC.cG
open Go Go.VC Go.Proofs
section
variable {env:List IF}{d:D}{K:PV->List Ob->Prop}{s c:S}
def Z0(f:d=bA dC env)(hl:eH env)(hs:c=s)
 (h:∀a e1 e2 e3 e b,kn ((ik env s).getD IF.zero) a e1 e2 e3 e->b=(ik env s).isSome->K (.tup [nR a e1 e2 e3 e,.bool b]) []):
 FT 75 [] [.lst 97 d,.str c] K:=by
 subst hs;refine en (cf 11) Tryz.func75 λA C L X=>?_;cbv;refine X.call (Zt (p:=λi=>i.path==c) f hl.1 (λx j _ _ _ _ _ k g hK=>Zs g hK) λa e1 e2 e3 e b he hb=>?_);cbv;exact h _ _ _ _ _ _ he hb
def F43(f:d=bA dC env)(hl:eH env)(hs:c=s)
 (h:∀a e1 e2 e3 e b,kn ((ik env s).getD IF.zero) a e1 e2 e3 e->b=(ik env s).isSome->K (.tup [nR a e1 e2 e3 e,.bool b]) []):
 FT 43 [] [.lst 97 d,.str c] K:=by
 refine en (cf 17) Tryz.func43 λA C L X=>?_;cbv;refine X.call (Z0 f hl hs λa e1 e2 e3 e b he hb=>?_);cbv
 have ek:((ik env s).getD IF.zero).ok:=by
  cases hf:ik env s with
  |none=>exact NC
  |some i=>exact oJ hl hf
 refine X.call (F76 ek he λg0 g1 g2 g3 g4 g=>?_);cbv;exact h _ _ _ _ _ _ g hb
abbrev uh(m n:S)(a b c:PV):PV:=.agg [.str m,.str n,a,b,c]
def Y9{m n:S}(M:d=bA dC env)(hl:eH env)
 (h0:iV env m n= .none->K (.tup [uh m n .nilp .nilp .nilp,.bool false]) [])
 (h1:∀x f c1 c2 k r l o z w y j h,iV env m n= .uF x->x.ok->o4 x f c1 c2 k r l o z w y j h->K (.tup [uh m n (.cP [.str f,.lst 73 c1,.int .i64 c2,.str k,.str r,.lst 29 l,.lst 57 o,.int .i64 z,.str w,.str y,.lst 29 j,.lst 57 h] 0) .nilp .nilp,.bool true]) [])
 (v:∀x f c1 c2 k r l o,iV env m n= .val x->x.ok->uD x f c1 c2 k r l o->K (.tup [uh m n .nilp (.cP [.str f,.lst 73 c1,.int .i64 c2,.str k,.str r,.lst 29 l,.lst 57 o] 0) .nilp,.bool true]) [])
 (h3:∀x f c1 c2 b,(iV env m n= .SO x/\b=true\/iV env m n= .Az/\b=false)->EI x f c1 c2->K (.tup [uh m n .nilp .nilp (.cP [.str f,.str c1,.str c2] 0),.bool b]) []):
 FT 197 [] [.lst 97 d,.str m,.str n] K:=by
 refine en (cf 58) Tryz.func197 λA C L X=>?_;cbv;refine X.call (Z0 M hl rfl λe0 e1 e2 e3 e4 b he hb=>?_);cases hf:ik env m with
 |none=>
  rw[hf]at hb;obtain rfl:b=false:=hb;have q:=h0 (by rw[iV,hf]);cbv;repeat' (first|apply bq|exact zf|(intro J;cbv)|apply bE)
  ·exact q
  ·obtain rfl:=X.a;cases J
 |some i=>
  rw[hf]at hb he;simp only[eR]at he;obtain rfl:b=true:=hb;have ek:=oJ hl hf;obtain⟨N,F,E,B,O⟩:=he;have H:iV env m n=kl i n:=by rw[iV,hf]
  rw[H]at h0 h1 v h3;clear H;cbv;repeat' (first|apply bq|exact zf|(intro J;cbv)|apply bE)
  ·obtain rfl:=X.a;cases J
  clear J;refine X.call (YY (p:=λx=>x.name==n) F ek.nt (λx t _ _ _ _ _ _ _ _ _ _ _ _ I u hK=>YX u hK) λf c1 c2 k r l o z w y j h b t hb=>?_);cases a:i.types.find? (λx=>x.name==n)with
  |some x=>
   rw[a]at t hb;obtain rfl:b=true:=hb;have q:=h1 x f c1 c2 k r l o z w y j h (by rw[kl,a]) (ek.t _ (oI a)) t;cbv;repeat' (first|apply bq|exact zf|(intro J;cbv)|apply bE)
   ·exact q
   ·obtain rfl:=X.a;cases J
  |none=>
   rw[a]at t hb;obtain rfl:b=false:=hb;cbv;repeat' (first|apply bq|exact zf|(intro J;cbv)|apply bE)
   ·obtain rfl:=X.a;cases J
   clear J;refine X.call (YW (p:=λx=>x.name==n) E ek.nv (λx t _ _ _ _ _ _ _ I u hK=>YV u hK) λQ U P V R T W b G hb=>?_);cases e:i.values.find? (λx=>x.name==n)with
   |some x=>
    rw[e]at G hb;obtain rfl:b=true:=hb;have q:=v x Q U P V R T W (by rw[kl,a];simp only[e]) (ek.v _ (oI e)) G;cbv;repeat' (first|apply bq|exact zf|(intro J;cbv)|apply bE)
    ·exact q
    ·obtain rfl:=X.a;cases J
   |none=>
    rw[e]at G hb;obtain rfl:b=false:=hb;refine p2 (λJ=>?_) (λJ=>?_)
    ·obtain rfl:=X.a;cases J
    clear J;refine X.call (YU (p:=λx=>x.name==n) B ek.na (λx t _ _ _ I u hK=>YT u hK) λa0 a1 a2 b ha hb=>?_)
    have q:=h3 ((i.aliases.find? (λx=>x.name==n)).getD AE.zero) a0 a1 a2 b (by
     cases g:i.aliases.find? (λx=>x.name==n)with
     |some x=>rw[g]at hb;exact .inl ⟨by rw[kl,a];simp only[e,g];rfl,hb⟩
     |none=>rw[g]at hb;exact .inr ⟨by rw[kl,a];simp only[e,g],hb⟩) ha
    cbv;repeat' (first|apply bq|exact zf|(intro J;cbv)|apply bE)
    exact q
end
section
variable {K:PV->List Ob->Prop}{s c g:S}{x:IF}{c1 c2 f a d:D}
def Sq(G:kn x g c1 c2 f a)(hl:x.types.length<=4294967295)(hs:c=s)
 (h:∀t e1 e2 e3 F u z v E w o n b,o4 ((x.types.find? λy=>y.name==s).getD TE.zero) t e1 e2 e3 F u z v E w o n->b=(x.types.find? λy=>y.name==s).isSome->K (.tup [tn t e1 e2 e3 F u z v E w o n,.bool b]) []):
 FT 184 [] [nR g c1 c2 f a,.str c] K:=by
 subst hs;obtain⟨I,a1,a2,a3,a4⟩:=G;refine en (cf 28) Tryz.func184 λA C L X=>?_;obtain⟨k,m,j⟩:=lenOf a1;cbv;refine lu X (λi=>i<=k/\∀y∈x.types.take i,(y.name==c)=false) (λi=>k-i) 0 ⟨bB _,yS⟩ (λ(i:Nat)=>[(6,.int .i64 i)]) ?_;rintro i ⟨H,ha⟩;cbv;constructor<;>intro h1
 ·have h5:i<x.types.length:=lY X.a j h1;have r:=mz X.a a1 h5;have B:=r.1;have q:=iX X.a a1 h5;have p:=jX X.a h5;cbv;repeat' (first|apply bq|exact zf|(intro J;cbv)|apply bE)
  any_goals exact q
  any_goals exact p
  ·have e:x.types[i].name=c:=by rw[<- B];obtain rfl:=X.a;simpa only[SD]using J
   have hz:(x.types.find? λy=>y.name==c)=some x.types[i]:=iD h5 (by simp[e]) ha;refine h _ _ _ _ _ _ _ _ _ _ _ _ _ ?_ ?_
   ·rw[hz];exact r
   ·rw[hz];rfl
  ·have e:¬x.types[i].name=c:=by rename_i g3;rw[<- B];obtain rfl:=X.a;simpa only[SD,dL]using g3
   refine⟨i+1,⟨yO,?_⟩,yO,?_⟩
   ·rw[cb h5];intro y l;rcases bG.1 l with l|l
    ·exact ha y l
    ·simp at l;subst l;simpa using e
   exact yc
 have h5:i=k:=gY X.a j h1;subst h5;rw[m,bD]at ha;have hz:(x.types.find? λy=>y.name==c)=none:=by rw[eN];intro y l;simp[ha y l]
 cbv;refine h _ _ _ _ _ _ _ _ _ _ _ _ _ ?_ ?_
 ·rw[hz];exact⟨rfl,rfl,⟨rfl,rfl,rfl,rfl,rfl⟩,rfl,rfl,rfl,rfl,rfl⟩
 ·rw[hz];rfl
def Y4(w:kn x g c1 c2 f a)(hl:x.values.length<=4294967295)(hs:c=s)
 (h:∀q e1 e2 e3 u r t b,uD ((x.values.find? λy=>y.name==s).getD VE.zero) q e1 e2 e3 u r t->b=(x.values.find? λy=>y.name==s).isSome->K (.tup [Bs q e1 e2 e3 u r t,.bool b]) []):
 FT 214 [] [nR g c1 c2 f a,.str c] K:=by
 subst hs;obtain⟨z,a1,a2,a3,a4⟩:=w;refine en (cf 28) Tryz.func214 λA C L X=>?_;obtain⟨k,m,j⟩:=lenOf a2;cbv;refine lu X (λi=>i<=k/\∀y∈x.values.take i,(y.name==c)=false) (λi=>k-i) 0 ⟨bB _,yS⟩ (λ(i:Nat)=>[(6,.int .i64 i)]) ?_;rintro i ⟨B,ha⟩;cbv;constructor<;>intro h1
 ·have h5:i<x.values.length:=lY X.a j h1;have p:=oX X.a a2 h5;have v:=p.1;have o:=iX X.a a2 h5;have n:=jX X.a h5;cbv;repeat' (first|apply bq|exact zf|(intro J;cbv)|apply bE)
  any_goals exact o
  any_goals exact n
  ·have e:x.values[i].name=c:=by rw[<- v];obtain rfl:=X.a;simpa only[SD]using J
   have hz:(x.values.find? λy=>y.name==c)=some x.values[i]:=iD h5 (by simp[e]) ha;refine h _ _ _ _ _ _ _ _ ?_ ?_
   ·rw[hz];exact p
   ·rw[hz];rfl
  ·have e:¬x.values[i].name=c:=by rename_i g3;rw[<- v];obtain rfl:=X.a;simpa only[SD,dL]using g3
   refine⟨i+1,⟨yO,?_⟩,yO,?_⟩
   ·rw[cb h5];intro y l;rcases bG.1 l with l|l
    ·exact ha y l
    ·simp at l;subst l;simpa using e
   exact yc
 have h5:i=k:=gY X.a j h1;subst h5;rw[m,bD]at ha;have hz:(x.values.find? λy=>y.name==c)=none:=by rw[eN];intro y l;simp[ha y l]
 cbv;refine h _ _ _ _ _ _ _ _ ?_ ?_
 ·rw[hz];exact⟨rfl,rfl,rfl,rfl,rfl,rfl,rfl⟩
 ·rw[hz];rfl
def Y3(t:kn x g c1 c2 f a)(hl:x.aliases.length<=4294967295)(hs:c=s)
 (h:∀q e1 e2 b,EI ((x.aliases.find? λy=>y.name==s).getD AE.zero) q e1 e2->b=(x.aliases.find? λy=>y.name==s).isSome->K (.tup [Jx q e1 e2,.bool b]) []):
 FT 215 [] [nR g c1 c2 f a,.str c] K:=by
 subst hs;obtain⟨u,a1,a2,a3,a4⟩:=t;refine en (cf 28) Tryz.func215 λA C L X=>?_;obtain⟨k,m,j⟩:=lenOf a3;cbv;refine lu X (λi=>i<=k/\∀y∈x.aliases.take i,(y.name==c)=false) (λi=>k-i) 0 ⟨bB _,yS⟩ (λ(i:Nat)=>[(6,.int .i64 i)]) ?_;rintro i ⟨v,ha⟩;cbv;constructor<;>intro h1
 ·have h5:i<x.aliases.length:=lY X.a j h1;have p:=zr X.a a3 h5;have r:=p.1;have o:=iX X.a a3 h5;have n:=jX X.a h5;cbv;repeat' (first|apply bq|exact zf|(intro J;cbv)|apply bE)
  any_goals exact o
  any_goals exact n
  ·have e:x.aliases[i].name=c:=by rw[<- r];obtain rfl:=X.a;simpa only[SD]using J
   have hz:(x.aliases.find? λy=>y.name==c)=some x.aliases[i]:=iD h5 (by simp[e]) ha;refine h _ _ _ _ ?_ ?_
   ·rw[hz];exact p
   ·rw[hz];rfl
  ·have e:¬x.aliases[i].name=c:=by rename_i g3;rw[<- r];obtain rfl:=X.a;simpa only[SD,dL]using g3
   refine⟨i+1,⟨yO,?_⟩,yO,?_⟩
   ·rw[cb h5];intro y l;rcases bG.1 l with l|l
    ·exact ha y l
    ·simp at l;subst l;simpa using e
   exact yc
 have h5:i=k:=gY X.a j h1;subst h5;rw[m,bD]at ha;have hz:(x.aliases.find? λy=>y.name==c)=none:=by rw[eN];intro y l;simp[ha y l]
 cbv;refine h _ _ _ _ ?_ ?_
 ·rw[hz];exact⟨rfl,rfl,rfl⟩
 ·rw[hz];rfl
def Sr{env:List IF}(n:d=bA dC env)(hl:env.length<=4294967295)(hs:c=s)
 (h:∀r e1 e2 e3 t b,kn ((ik env s).getD IF.zero) r e1 e2 e3 t->b=(ik env s).isSome->K (.tup [nR r e1 e2 e3 t,.bool b]) []):
 FT 183 [] [.lst 97 d,.str c] K:=by
 subst hs;refine en (cf 25) Tryz.func183 λA C L X=>?_;obtain⟨l,m,j⟩:=lenOf n;cbv;refine lu X (λi=>i<=l/\∀y∈env.take i,(y.path==c)=false) (λi=>l-i) 0 ⟨bB _,yS⟩ (λ(i:Nat)=>[(6,.int .i64 i)]) ?_;rintro i ⟨v,ha⟩;cbv;constructor<;>intro h1
 ·have h5:i<env.length:=lY X.a j h1;have q:=mL X.a n h5;have u:=q.1;have p:=iX X.a n h5;have o:=jX X.a h5;cbv;repeat' (first|apply bq|exact zf|(intro J;cbv)|apply bE)
  any_goals exact p
  any_goals exact o
  ·have e:env[i].path=c:=by rw[<- u];obtain rfl:=X.a;simpa only[SD]using J
   have hz:ik env c=some env[i]:=iD h5 (by simp[e]) ha;refine h _ _ _ _ _ _ ?_ ?_
   ·rw[hz];exact q
   ·rw[hz];rfl
  ·have e:¬env[i].path=c:=by rename_i g3;rw[<- u];obtain rfl:=X.a;simpa only[SD,dL]using g3
   refine⟨i+1,⟨yO,?_⟩,yO,?_⟩
   ·rw[cb h5];intro y k;rcases bG.1 k with k|k
    ·exact ha y k
    ·simp at k;subst k;simpa using e
   exact yc
 have h5:i=l:=gY X.a j h1;subst h5;rw[m,bD]at ha;have hz:ik env c=none:=by rw[ik,eN];intro y k;simp[ha y k]
 cbv;refine h _ _ _ _ _ _ ?_ ?_
 ·rw[hz];exact⟨rfl,rfl,rfl,rfl,rfl⟩
 ·rw[hz];rfl
def Zx{l:List Pm}(m:d=bA eU l)(hl:l.length<=4294967295)
 (h:∀r,r=bA encS (l.map (·.name))->K (.lst 9 r) []):FT 126 [] [.lst 73 d] K:=by
 refine en XO Tryz.func126 λA C L X=>?_;obtain⟨e,j,b⟩:=lenOf m;cbv;refine lP X (λy=>y.1<=e/\y.2=bA encS ((l.take y.1).map (·.name))) (λy=>e-y.1) (0,A.lit []) ⟨bB _,yX⟩ [0] (λ(y:Nat×D)=>⟨[(4,.int .i64 y.1),(3,.row 9 0),(0,.lst 73 d)],[.row 9 y.2 true]⟩) ?_;rintro⟨i,r⟩ ⟨t,hr⟩;simp only at t hr;cbv;constructor<;>intro h1
 ·have h5:i<l.length:=lY X.a b h1;have n:=(Dv X.a m h5).1;have q:=iX X.a m h5;have o:=jX X.a h5;have hb:A.gh (A.add (A.len r) (A.len (A.lit [[.str (A.bH (A.cell d (bk i) 0))]]))) 4294967296:=by rw[X.a,hr];simp only[SD,bL];omega
  have p:A.app r (A.lit [[.str (A.bH (A.cell d (bk i) 0))]])=bA encS ((l.take (i+1)).map (·.name)):=by rw[n,X.a,hr,map_take h5];exact cB (k:=[l[i].name])
  refine p1 ?_;exact⟨(i+1,_),⟨yP,p⟩,yP,[0],rfl,yc⟩
 have h5:i=e:=gY X.a b h1;subst h5;rw[j,bD]at hr;cbv;exact h r hr
end
end Go.VC.cG
namespace Go.VC
mutual
def Ty.all:Ty->List Ty| .mk k m n ar fl=>.mk k m n ar fl::(Ty.uo ar++Ty.uq fl)
def Fe.all:Fe->List Ty| .mk _ t _=>Ty.all t
def Ty.uo:List Ty->List Ty|[]=>[]|t::l=>Ty.all t++Ty.uo l
def Ty.uq:List Fe->List Ty|[]=>[]|t::l=>Fe.all t++Ty.uq l
end
def Ia:∀l:List Ty,Ty.uo l=l.flatMap Ty.all
 |[]=>by simp[Ty.uo]
 |t::l=>by simp[Ty.uo,Ia l]
def Ib:∀l:List Fe,Ty.uq l=(l.map Fe.t).flatMap Ty.all
 |[]=>by simp[Ty.uq]
 | .mk s t b::l=>by simp[Ty.uq,Ib l,Fe.all,Fe.t]
def all_eq(t:Ty):t.all=t::t.er.flatMap Ty.all:=by cases t;simp only[Ty.all,Ia,Ib,Ty.er,eD,Ty.ar,Ty.fl]
def Ic:∀t:Ty,t.all.length=t.size:=by refine Ty.gj λt a=>?_;rw[all_eq,size_eq,bM,nj];have:(t.er.map λu=>u.all.length)=t.er.map Ty.size:=gw a;rw[this];omega
def gz(go:Ty->Int->Int)(ok:Ty->Bool):List Ty->Int->Int×Bool
 |[],s=>(s,true)
 |t::l,s=>if ok t then gz go ok l (go t s)else(go t s,false)
def o7{go:Ty->Int->Int}{ok:Ty->Bool}:∀(l k:List Ty)(s:Int),gz go ok (l++k) s=if(gz go ok l s).2 then gz go ok k (gz go ok l s).1 else gz go ok l s
 |[],k,s=>by simp[gz]
 |t::l,k,s=>by
  simp only[dP,gz];split
  ·exact o7 l k _
  ·simp
end Go.VC
namespace Go.VC.cG
open Go Go.VC Go.Proofs
section
variable {Q:Ty->Prop}{C1 C2:Code}{n q:Nat}{ps:List Nat}{go:Ty->Int->Int}{ok:Ty->Bool}
def TY:ea:={tt:=tt,n:=23,live:=[256],n0:=4}
def TZ:ea:={tt:=tt,n:=8,live:=[256],n0:=2}
def VF
 (P:∀(t:Ty)(s:Int)(k:Int)(c1 c2:S)(m p:D)(G:PV->List Ob->Prop),Q t->cD t k c1 c2 m p->(ok t=true->∀s',s'=go t s->G (.bl true) [.loop n ps C1 C2 [(q,.box 1 0)] .ready,.box [.int .i64 s']])->
   (ok t=false->∀s',s'=go t s->G (.bl false) [.loop n ps C1 C2 [(q,.box 1 0)] (.done .ret),.box [.int .i64 s']])->YC Tryz.prog tt [.loop n ps C1 C2 [(q,.box 1 0)] .ready,.box [.int .i64 s]] [dO k c1 c2 m p] G):
 ∀(t:Ty),Ty.le 4294967295 t->t.size<=4294967295->(∀u∈t.all,Q u)->∀{s:Int}{k:Int}{c1 c2:S}{m p:D}{K:PV->List Ob->Prop},cD t k c1 c2 m p->
  (∀s',gz go ok t.all s=(s',true)->K (.bool true) [.box [.j9 2],.box [.cy 256 [.box 0 0,.box 1 0]],.loop n ps C1 C2 [(q,.box 3 0)] .ready,.box [.int .i64 s']])->
  (∀s',gz go ok t.all s=(s',false)->K (.bool false) [.box [.j9 2],.box [.cy 256 [.box 0 0,.box 1 0]],.loop n ps C1 C2 [(q,.box 3 0)] (.done .ret),.box [.int .i64 s']])->
  FT 256 [.box [.j9 2],.box [.cy 256 [.box 0 0,.box 1 0]],.loop n ps C1 C2 [(q,.box 3 0)] .ready,.box [.int .i64 s]] [dO k c1 c2 m p,.box 0 0,.box 1 0] K:=by
 refine Ty.gj λt N=>?_;intro B hs M s k c1 c2 m p K I h1 h0;have w:∀u∈t.er,u.size<=4294967295:=by intro u hu;have:=size_eq t;have J:u.size<=(t.er.map Ty.size).sum:=ph (bP.2 ⟨u,hu,rfl⟩);omega
 have E:t.er.length<=4294967295:=by
  have:∀l:List Ty,l.length<=(l.map Ty.size).sum:=by
   intro l;induction l with
   |nil=>simp
   |cons x l N=>simp only[bM,bJ,cm];have:=size_eq x;omega
  have h1:=this t.er;have J:=size_eq t;omega
 have F:∀v∈t.er,∀u∈v.all,Q u:=λv T u hu=>M u (by rw[all_eq];exact jC _ (dp.2 ⟨v,T,hu⟩));rw[all_eq]at h1 h0;refine el TY Tryz.func256 λA C L X=>?_;cbv;refine X.round (P t s _ _ _ _ _ _ (M t (by rw[all_eq];simp)) I (λek o g=>?_) (λek o g=>?_))
 ·have e1:∀l,gz go ok (t::l) s=gz go ok l o:=λl=>by rw[gz,if_pos ek,g]
  rw[e1]at h1 h0;cbv;refine X.call (Sm B E I λH c=>?_);obtain⟨b,j,a⟩:=lenOf c;cbv;refine lP X (λy=>y.1<=b/\gz go ok ((t.er.take y.1).flatMap Ty.all) o=(y.2,true)) (λy=>b-y.1) (0,o) ⟨bB _,rfl⟩ [0,1,2,3] (λ(y:Nat×Int)=>⟨[(14,.int .i64 y.1),(13,.int .i64 (A.len H)),(12,.lst 29 H),(1,.box 0 0),(2,.box 1 0)],[.box [.j9 2],.box [.cy 256 [.box 0 0,.box 1 0]],.loop n ps C1 C2 [(q,.box 3 0)] .ready,.box [.int .i64 y.2]]⟩) ?_;rintro⟨i,r⟩ ⟨R,hr⟩;simp only at R hr;cbv;refine⟨λh=>?_,λh=>?_⟩
  ·have h5:i<t.er.length:=lY X.a a h;have O:=gT X.a c h5;have U:=iX X.a c h5;have z:=jX X.a h5;have e:A.not true=false:=yX;have f:A.not false=true:=yX;refine p1 ?_;refine X.call (N _ (bu h5) (ie B _ (bu h5)) (w _ (bu h5)) (F _ (bu h5)) O (λr' d=>?_) (λr' d=>?_))
   ·cbv;repeat' (first|apply bq|exact zf|(intro J;cbv)|apply bE)
    any_goals exact z
    ·exact absurd (e.symm.trans J) yD
    refine⟨(i+1,r'),⟨?_,?_⟩,?_,[0,1,2,3],rfl,?_⟩
    ·simp only;omega
    ·simp only;rw[gk h5,o7,hr,if_pos rfl];exact d
    ·simp only;omega
    exact yc
   ·cbv;repeat' (first|apply bq|exact zf|(intro J;cbv)|apply bE)
    any_goals exact z
    ·refine h0 r' ?_;have e2:t.er.flatMap Ty.all=(t.er.take (i+1)).flatMap Ty.all++(t.er.drop (i+1)).flatMap Ty.all:=by rw[<- eD,cX]
     have e3:gz go ok ((t.er.take (i+1)).flatMap Ty.all) o=(r',false):=by rw[gk h5,o7,hr,if_pos rfl];exact d
     rw[e2,o7,e3];rfl
    ·have J:A.not false=false:=yA;exact absurd (f.symm.trans J) (by decide)
  have h5:i=b:=gY X.a a h;subst h5;rw[j,bD]at hr;cbv;exact h1 r hr
 ·cbv;exact h0 o (by rw[gz,if_neg (by simp[ek]),g])
def Qm{t:Ty}(d:Ty.le 4294967295 t)(hs:t.size<=4294967295)(f:∀u∈t.all,Q u){s:Int}{c:Int}{c1 c2:S}{a b:D}{K:PV->List Ob->Prop}(h:cD t c c1 c2 a b)
 (g:∀(t:Ty)(s:Int)(c:Int)(c1 c2:S)(a b:D)(e:PV->List Ob->Prop),Q t->cD t c c1 c2 a b->(ok t=true->∀s',s'=go t s->e (.bl true) [.loop n ps C1 C2 [(q,.box 1 0)] .ready,.box [.int .i64 s']])->
   (ok t=false->∀s',s'=go t s->e (.bl false) [.loop n ps C1 C2 [(q,.box 1 0)] (.done .ret),.box [.int .i64 s']])->YC Tryz.prog tt [.loop n ps C1 C2 [(q,.box 1 0)] .ready,.box [.int .i64 s]] [dO c c1 c2 a b] e)
 (h1:∀s',gz go ok t.all s=(s',true)->K (.tup []) [.loop n ps C1 C2 [(q,.box 1 0)] .ready,.box [.int .i64 s']])
 (h0:∀s',gz go ok t.all s=(s',false)->K (.tup []) [.loop n ps C1 C2 [(q,.box 1 0)] (.done .ret),.box [.int .i64 s']]):
 FT 255 [.loop n ps C1 C2 [(q,.box 1 0)] .ready,.box [.int .i64 s]] [.j9 0,.cP [.int .i64 c,.str c1,.str c2,.lst 29 a,.lst 57 b] 0] K:=by
 refine el TZ Tryz.func255 λA C L X=>?_;cbv;refine X.call (VF g t d hs f h (λr hr=>?_) (λr hr=>?_))
 ·cbv;exact h1 r hr
 ·cbv;exact h0 r hr
def Uc:ea:={tt:=tt,n:=10,n0:=2,Cz:=true}
end
end Go.VC.cG
namespace Go.VC
mutual
def Ty.zb:Ty->Nat| .mk _ _ _ ar fl=>1+max (Ty.L8 ar) (Ty.L9 fl)
def Fe.zb:Fe->Nat| .mk _ t _=>Ty.zb t
def Ty.L8:List Ty->Nat|[]=>0|t::l=>max (Ty.zb t) (Ty.L8 l)
def Ty.L9:List Fe->Nat|[]=>0|t::l=>max (Fe.zb t) (Ty.L9 l)
end
def nP(l:List Nat):Nat:=l.foldl max 0
def foldl_max:∀(l:List Nat)(a:Nat),l.foldl max a=max a (nP l)
 |[],a=>by simp[nP]
 |x::l,a=>by unfold nP;simp only[fB];rw[foldl_max l (max a x),foldl_max l (max 0 x)];omega
def uZ(x:Nat)(l:List Nat):nP (x::l)=max x (nP l):=by unfold nP;rw[fB,foldl_max];unfold nP;omega
def vV(l k:List Nat):nP (l++k)=max (nP l) (nP k):=by unfold nP;rw[PD,foldl_max];rfl
def H2:∀l:List Ty,Ty.L8 l=nP (l.map Ty.zb)
 |[]=>by simp[Ty.L8,nP]
 |t::l=>by rw[Ty.L8,H2 l,bJ,uZ]
def H3:∀l:List Fe,Ty.L9 l=nP ((l.map Fe.t).map Ty.zb)
 |[]=>by simp[Ty.L9,nP]
 | .mk s t b::l=>by rw[Ty.L9,H3 l,bJ,bJ,uZ];rfl
def Ma(t:Ty):t.zb=1+nP (t.er.map Ty.zb):=by cases t;simp only[Ty.zb,H2,H3,Ty.er,cj,vV,Ty.ar,Ty.fl]
def Om{l:List Nat}{n:Nat}(h:∀x∈l,x<=n):nP l<=n:=by
 induction l with
 |nil=>simp[nP]
 |cons x l c=>rw[uZ];have a:=h x yS;have b:=c λy d=>h y (by simp[d]);omega
def Rz:∀t:Ty,t.zb<=t.size:=by
 refine Ty.gj λt a=>?_;rw[Ma,size_eq];have:nP (t.er.map Ty.zb)<=(t.er.map Ty.size).sum:=Om λx b=>by obtain⟨u,hu,rfl⟩:=bP.1 b;have:=a u hu;have J:u.size<=(t.er.map Ty.size).sum:=ph (bP.2 ⟨u,hu,rfl⟩);omega
 omega
def PH(s:Int):Int:=if -9223372036854775808<=s/\s<=9223372036854775807 then s else Std.wrap .i64 s
def xC:∀(l:List Ty)(s:Nat),s+l.length<=4294967296->gz (λ_ s=>PH (s+1)) (λ_=>true) l (bk s)=(bk (s+l.length),true)
 |[],s,_=>by simp[gz]
 |t::l,s,h=>by
  simp only[bM]at h;rw[gz,if_pos rfl];have e:PH (bk s+1)=bk (s+1):=by unfold PH;rw[if_pos yL];rfl
  rw[e,xC l (s+1) yO];rw[show s+1+l.length=s+(l.length+1)by omega];rfl
end Go.VC
namespace Go.VC.cG
open Go Go.VC Go.Proofs
def VT{t:Ty}(d:Ty.le 4294967295 t)(hs:t.size<=4294967295){i:Int}{c1 c2:S}{f g:D}{K:PV->List Ob->Prop}(j:cD t i c1 c2 f g)
 (h:∀r:Int,r=bk t.size->K (.int .i64 r) []):FT 159 [] [dO i c1 c2 f g] K:=by
 have c:=xC t.all 0 (by rw[Ic];omega);rw[Ic]at c;refine en (cf 10) Tryz.func159 λA C L X=>?_;cbv;refine X.call (Sn ?_);cbv;refine X.range rfl ⟨Tryz.func255,by rfl,rfl⟩ rfl [(3,.box 1 0)] ?_ ?_
 ·cbv
 cbv;refine X.call (Qm (Q:=λ_=>True) (s:=0) (go:=λ_ s=>PH (s+1)) (ok:=λ_=>true) d hs (λ_ _=>trivial) j ?_ ?_ ?_)
 ·intro u s k b1 b2 m l n _ hu h1 h0;refine YC.enter (G:=Uc) k9 mixed rfl rfl rfl rfl rfl ?_;intro A C L X;have e1:A.inr .i64 (A.add s 1)->A.add s 1=PH (s+1):=by rw[X.a,fu,fy];intro h;rw[PH,if_pos h]
  have e2:¬A.inr .i64 (A.add s 1)->A.wrap .i64 (A.add s 1)=PH (s+1):=by rw[X.a,fu,fy];intro h;rw[PH,if_neg h]
  by_cases a:A.inr .i64 (A.add s 1)
  ·have q:=h1 rfl _ (e1 a);cbv;refine .inl ⟨a,λ_=>?_⟩;cbv;exact q
  ·have q:=h1 rfl _ (e2 a);cbv;refine .inr λ_=>?_;cbv;exact q
 ·intro s' b;have e:s'=bk t.size:=by have:=b.symm.trans c;rw[dW]at this;exact(rV this).1
  cbv;exact h _ e
 ·intro s' b;have:=b.symm.trans c;exact absurd (rV this).2 yD
def VS:∀(t:Ty),Ty.le 4294967295 t->t.size<=4294967295->∀{v:Int}{c1 c2:S}{o s:D}{K:PV->List Ob->Prop},cD t v c1 c2 o s->(∀r:Int,r=bk t.zb->K (.int .i64 r) [])->FT 160 [] [dO v c1 c2 o s] K:=by
 refine Ty.gj λt w=>?_;intro j hs v c1 c2 o s K E h;have p:=Rz t;have d:∀u∈t.er,u.size<=4294967295:=by intro u hu;have:=size_eq t;have J:u.size<=(t.er.map Ty.size).sum:=ph (bP.2 ⟨u,hu,rfl⟩);omega
 have k:t.er.length<=4294967295:=by
  have:∀l:List Ty,l.length<=(l.map Ty.size).sum:=by
   intro l;induction l with
   |nil=>simp
   |cons x l w=>simp only[bM,bJ,cm];have:=size_eq x;omega
  have h1:=this t.er;have J:=size_eq t;omega
 obtain⟨f,hf⟩:∃f:Nat->Nat,f=λi=>nP ((t.er.take i).map Ty.zb):=⟨_,rfl⟩;have F:f 0=0:=by rw[hf];rfl
 have fs:∀i (h:i<t.er.length),f (i+1)=max (f i) t.er[i].zb:=λi h=>by rw[hf];simp only;rw[cb h,cj,vV];simp[nP]
 have fn:t.zb=1+f t.er.length:=by rw[Ma,hf];simp only;rw[bD]
 clear hf;rw[fn]at h p;refine en (cf 20) Tryz.func160 λA C L X=>?_;cbv;refine X.call (Sm j k E λr hr=>?_);obtain⟨b,c,a⟩:=lenOf hr;cbv;refine lu X (λy=>y.1<=b/\y.2=bk (f y.1)) (λy=>b-y.1) (0,0) ⟨bB _,by rw[F];rfl⟩ (λ(y:Nat×Int)=>[(9,.int .i64 y.1),(3,.int .i64 y.2)]) ?_;rintro⟨i,m⟩ ⟨G,g⟩;simp only at G g;cbv;constructor<;>intro h1
 ·have h5:i<t.er.length:=lY X.a a h1;have B:=gT X.a hr h5;have H:=iX X.a hr h5;have e:=jX X.a h5;have n:=fs i h5;refine p1 ?_;refine X.call (w _ (bu h5) (ie j _ (bu h5)) (d _ (bu h5)) B λz hz=>?_);have q:A.max m z=bk (f (i+1)):=by rw[X.a,EL,n,g,hz];simp only[bz];omega
  refine p1 ?_;exact⟨(i+1,_),⟨yP,q⟩,yP,yc⟩
 have h5:i=b:=gY X.a a h1;rw[h5,c]at g;have e:A.inr .i64 (A.add m 1):=by rw[X.a,g,fu,fy];simp only[bz];omega
 have q:=h (A.add m 1) (by rw[X.a,g,fy];simp only[bz];omega);cbv;refine .inl ⟨e,λ_=>?_⟩;cbv;exact q
end Go.VC.cG
namespace Go.VC
def yF:List S->Int
 |a::b::l=>if a=b then 5 else if slt b a then 1 else yF (b::l)
 |_=>0
def ze:∀(a b:S),(Lib.compareBytes a b=0↔a=b)/\(0<Lib.compareBytes a b↔slt b a=true)
 |[],[]=>by simp[Lib.compareBytes,slt,Op.bytesLess]
 |[],_::_=>by simp[Lib.compareBytes,slt,Op.bytesLess]
 |_::_,[]=>by simp[Lib.compareBytes,slt,Op.bytesLess]
 |x::a,y::b=>by
  have e:=ze a b;simp only[Lib.compareBytes,xp,List.cons_lt_cons_iff]at*;by_cases h1:x<y
  ·have J:¬y<x:=λh=>absurd (UInt8.lt_trans h1 h) (rP x);have h3:x≠y:=λh=>by subst h;exact rP x h1
   simp[h1,J,h3,dy h3]
  ·by_cases J:y<x
   ·have h3:x≠y:=λh=>by subst h;exact rP x J
    simp[h1,J,h3]
   ·have h3:x=y:=UInt8.le_antisymm (UInt8.not_lt.1 J) (UInt8.not_lt.1 h1);subst h3;simp[rP,e]
def Je{l:List S}{i:Nat}(h0:1<=i)(h:i<l.length):yF (l.drop (i-1))=if l[i-1]=l[i]then 5 else if slt l[i] l[i-1]then 1 else yF (l.drop i):=by rw[bF (by omega:i-1<l.length),show i-1+1=i by omega,bF h];rfl
def Fg(s:S):Bool:=my s||(decide (s.length=2)&&SM s==35&&decide (48<=((s.getD 1 0).toNat:Int))&&decide (((s.getD 1 0).toNat:Int)<=55))
def K6(s:S):Bool:=s==[]||lg s||HA s
def eA(t:Ty):Bool:=
 if t.k != 8&&t.fl.any Fe.b then false else
 if t.k=0\/t.k=1\/t.k=2\/t.k=3\/t.k=4 then t.m==[]&&t.n==[]&&decide (t.ar.length=0)&&decide (t.fl.length=0)else
 if t.k=5 then t.m==[]&&t.n==[]&&decide (t.ar.length=1)&&decide (t.fl.length=0)else
 if t.k=6\/t.k=7 then t.m==[]&&t.n==[]&&decide (t.ar.length=0)else
 if t.k=8 then t.m==[]&&t.n==[]&&decide (t.ar.length=1)else
 if t.k=9 then t.m==[]&&decide (t.ar.length=0)&&decide (t.fl.length=0)else
 if t.k=10 then decide (t.fl.length=0)else false
def CU(t:Ty):Int:=
 if !eA t then 1 else
 if 32<t.fl.length\/8<t.ar.length then 7 else
 if(t.k=9/\Fg t.n=false)\/(t.k=10/\(K6 t.m=false\/my t.n=false))then 4 else
 if t.fl.any (λf=> !lg f.s)then 4 else yF (t.fl.map Fe.s)
structure Ty.mi (u:Ty):Prop where
 m:u.m.length<=1048576
 n:u.n.length<=1048576
 f:∀x∈u.fl,x.s.length<=1048576
end Go.VC
namespace Go.VC.cG
open Go Go.VC Go.Proofs
section
variable {K:PV->List Ob->Prop}{l:List Fe}{d k g:D}{p:Fe->Bool}{o c2 c s:S}{c1:Int}{j:Bool}
def M6(q:d=bA eZ l)(hl:l.length<=4294967295)
 (y:∀x∈l,∀(o:S)(c1:Int)(c2:S)(c:S)(k:D)(g:D)(j:Bool)(u:PV->List Ob->Prop),l9 x o c1 c2 c k g j->(∀b,b=p x->u (.bool b) [])->FT 288 [] [mO o c1 c2 c k g j] u)
 (h:∀r:Int,r=jA p l->K (.int .i64 r) []):
 FT 208 [] [.lst 57 d,.cy 288 []] K:=by
 refine en OJ Tryz.func208 λA C L X=>?_;obtain⟨e,n,a⟩:=lenOf q;cbv;refine lu X (λi=>i<=e/\∀x∈l.take i,p x=false) (λi=>e-i) 0 ⟨bB _,yS⟩ (λ(i:Nat)=>[(8,.int .i64 i)]) ?_;rintro i ⟨z,ha⟩;cbv;constructor<;>intro h1
 ·have h5:i<l.length:=lY X.a a h1;have v:=iR X.a q h5;have w:=iX X.a q h5;have t:=jX X.a h5;refine p1 ?_;refine X.call (y _ (bu h5) _ _ _ _ _ _ _ _ v λb hb=>?_);have m:b=p l[i]:=hb;clear hb;cbv;repeat' (first|apply bq|exact zf|(intro J;cbv)|apply bE)
  any_goals exact t
  ·refine h i ?_;exact(fp h5 ha (by rw[<- m];obtain rfl:=X.a;simpa only[SD]using J)).symm
  ·have hf:p l[i]=false:=by rename_i h3;rw[<- m];obtain rfl:=X.a;simpa only[SD,dL]using h3
   refine⟨i+1,⟨yO,?_⟩,yO,?_⟩
   ·rw[cb h5];intro x f;rcases bG.1 f with f|f
    ·exact ha x f
    ·simp at f;subst f;exact hf
   exact yc
 ·have h5:i=e:=gY X.a a h1;subst h5;cbv;refine h (-1) ?_;rw[n,bD]at ha;exact(fq ha).symm
def M1(e:d=bA eZ l)(hl:l.length<=4294967295)
 (f:∀x∈l,∀(o:S)(c1:Int)(c2:S)(c:S)(k:D)(g:D)(j:Bool)(a:PV->List Ob->Prop),l9 x o c1 c2 c k g j->(∀b,b=p x->a (.bool b) [])->FT 288 [] [mO o c1 c2 c k g j] a)
 (h:∀b,b=l.any p->K (.bool b) []):
 FT 261 [] [.lst 57 d,.cy 288 []] K:=by
 refine en TX Tryz.func261 λA C L X=>?_;cbv;refine X.call (M6 e hl f λr hr=>?_);have q:=h (A.le 0 r) (by rw[X.a,lL,jH,hr]);cbv;exact q
def M7(q:d=bA eZ l)(hl:l.length<=4294967295)
 (y:∀x∈l,∀(o:S)(c1:Int)(c2:S)(c:S)(k:D)(g:D)(j:Bool)(u:PV->List Ob->Prop),l9 x o c1 c2 c k g j->(∀b,b=p x->u (.bool b) [])->FT 262 [] [mO o c1 c2 c k g j] u)
 (h:∀r:Int,r=jA p l->K (.int .i64 r) []):
 FT 208 [] [.lst 57 d,.cy 262 []] K:=by
 refine en OJ Tryz.func208 λA C L X=>?_;obtain⟨e,n,a⟩:=lenOf q;cbv;refine lu X (λi=>i<=e/\∀x∈l.take i,p x=false) (λi=>e-i) 0 ⟨bB _,yS⟩ (λ(i:Nat)=>[(8,.int .i64 i)]) ?_;rintro i ⟨z,ha⟩;cbv;constructor<;>intro h1
 ·have h5:i<l.length:=lY X.a a h1;have v:=iR X.a q h5;have w:=iX X.a q h5;have t:=jX X.a h5;refine p1 ?_;refine X.call (y _ (bu h5) _ _ _ _ _ _ _ _ v λb hb=>?_);have m:b=p l[i]:=hb;clear hb;cbv;repeat' (first|apply bq|exact zf|(intro J;cbv)|apply bE)
  any_goals exact t
  ·refine h i ?_;exact(fp h5 ha (by rw[<- m];obtain rfl:=X.a;simpa only[SD]using J)).symm
  ·have hf:p l[i]=false:=by rename_i h3;rw[<- m];obtain rfl:=X.a;simpa only[SD,dL]using h3
   refine⟨i+1,⟨yO,?_⟩,yO,?_⟩
   ·rw[cb h5];intro x f;rcases bG.1 f with f|f
    ·exact ha x f
    ·simp at f;subst f;exact hf
   exact yc
 ·have h5:i=e:=gY X.a a h1;subst h5;cbv;refine h (-1) ?_;rw[n,bD]at ha;exact(fq ha).symm
def M2(e:d=bA eZ l)(hl:l.length<=4294967295)
 (f:∀x∈l,∀(o:S)(c1:Int)(c2:S)(c:S)(k:D)(g:D)(j:Bool)(a:PV->List Ob->Prop),l9 x o c1 c2 c k g j->(∀b,b=p x->a (.bool b) [])->FT 262 [] [mO o c1 c2 c k g j] a)
 (h:∀b,b=l.any p->K (.bool b) []):
 FT 261 [] [.lst 57 d,.cy 262 []] K:=by
 refine en TX Tryz.func261 λA C L X=>?_;cbv;refine X.call (M7 e hl f λr hr=>?_);have q:=h (A.le 0 r) (by rw[X.a,lL,jH,hr]);cbv;exact q
def Yu{x:Fe}(a:l9 x o c1 c2 c k g j)(h:∀b,b=x.b->K (.bool b) []):FT 288 [] [mO o c1 c2 c k g j] K:=by refine en (cf 5) Tryz.func288 λA C L X=>?_;cbv;exact h _ a.2.2
def YE{x:Fe}(hs:x.s.length<=4294967295)(a:l9 x o c1 c2 c k g j)(h:∀b,b= !lg x.s->K (.bool b) []):FT 262 [] [mO o c1 c2 c k g j] K:=by have e:=a.1;refine en (cf 7) Tryz.func262 λA C L X=>?_;cbv;refine X.call (GP (by rw[e];exact hs) λb hb=>?_);have q:=h (A.not b) (by rw[X.a,fA,hb,e]);cbv;exact q
def VD{x:Fe}(a:l9 x o c1 c2 c k g j)(h:∀s,s=x.s->K (.str s) []):FT 265 [] [mO o c1 c2 c k g j] K:=by refine en (cf 5) Tryz.func265 λA C L X=>?_;cbv;exact h _ a.1
def V0(hs:s.length<=4294967295)(h:∀b,b=Fg s->K (.bool b) []):FT 128 [] [.str s] K:=by
 refine en (cf 25) Tryz.func128 λA C L X=>?_;have e:A.eq (A.dr s) 2=true->A.idx 0 (A.dr s):=by rw[X.a];intro h;rw[gq,gu]at h;have h:=eq_of_beq h;exact⟨yD,by rw[gu,h];decide⟩
 have a:A.eq (A.dr s) 2=true->A.idx 1 (A.dr s):=by rw[X.a];intro h;rw[gq,gu]at h;have h:=eq_of_beq h;exact⟨yD,by rw[gu,h];decide⟩
 obtain⟨y,f⟩:∃y,y=((s.getD 1 0).toNat:Int):=⟨_,rfl⟩;have i:Fg s=(my s||(decide (s.length=2)&&SM s==35&&decide (48<=y)&&decide (y<=55))):=by rw[f];rfl
 have g1:Std.xv s 1=y:=by rw[f];rfl
 clear f;cbv;refine X.call (JG hs λb hb=>?_);cbv;repeat' (first|apply bq|exact zf|(intro J;cbv)|apply bE)
 any_goals first|exact e yA|exact a yA
 all_goals (refine h _ ?_;rw[i];obtain rfl:=X.a;clear e a h i;simp only[oP,g1,SD]at* <;>simp_all<;>(intros;omega))
def YF(hs:s.length<=4294967200)(h:∀b,b=K6 s->K (.bool b) []):FT 260 [] [.str s] K:=by
 refine en (cf 13) Tryz.func260 λA C L X=>?_;cbv;repeat' (first|apply bq|exact zf|(intro J;cbv)|apply bE|(refine X.call (GP yO λb1 e=>?_);cbv)|(refine X.call (VA hs λb2 a=>?_);cbv))
 all_goals (refine h _ ?_;obtain rfl:=X.a;clear h;simp only[SD]at* <;>simp_all[K6])
def YD(m:d=bA eZ l)(hl:l.length<=4294967295)(h:∀r:Int,r=yF (l.map Fe.s)->K (.int .i64 r) []):FT 264 [] [.lst 57 d,.cy 265 []] K:=by
 obtain⟨ns,b⟩:∃ns,ns=l.map Fe.s:=⟨_,rfl⟩;have I:ns.length=l.length:=by rw[b,bL]
 have f:∀i (h:i<l.length),l[i].s=ns[i]'yO:=λi h=>by simp[b]
 rw[<- b]at h;clear b;refine en Xk Tryz.func264 λA C L X=>?_;obtain⟨n,E,a⟩:=lenOf m;cbv;refine lu X (λi=>1<=i/\(i<=n\/i=1)/\yF ns=yF (ns.drop (i-1))) (λi=>n-i) 1 ⟨cg _,.inr rfl,rfl⟩ (λ(i:Nat)=>[(5,.int .i64 i)]) ?_;rintro i ⟨w,O,he⟩;cbv;constructor<;>intro h1
 ·have h5:i<l.length:=lY X.a a h1;have y:A.sub (bk i) 1=bk (i-1):=by rw[X.a,pA];simp only[bz];omega
  have F:A.inr .i64 (A.sub (bk i) 1):=by rw[y,X.a,fu];simp only[bz];omega
  have G:=iR X.a m h5;have B:=iR X.a m (show i-1<l.length by omega);rw[<- y]at B;have N:=iX X.a m h5;have z:A.idx (A.sub (bk i) 1) (A.len d):=by rw[y,X.a,m];exact cY yO
  have v:=jX X.a h5;have u:=Je w (show i<ns.length by omega);rw[u]at he;refine p1 ?_;refine X.call (VD B λH q=>?_);cbv;refine X.call (VD G λM t=>?_);rw[f]at q t;cbv;refine X.call (Vz λr hr=>?_);rw[<- q,<-t]at he;have hc:=ze H M;rw[<- hr]at hc;cbv;repeat' (first|apply bq|exact zf|(intro J;cbv)|apply bE)
  any_goals exact v
  ·have J:A.eq r 0=true:=yA;refine h 5 ?_;rw[he,if_pos (hc.1.1 (by rw[X.a,gq]at J;exact eq_of_beq J))]
  ·have J:A.eq r 0=false:=yA;have h3:A.lt 0 r=true:=yA;refine h 1 ?_;rw[X.a]at J h3;rw[he,if_neg (λe=>by rw[gq,hc.1.2 e]at J;cases J),if_pos (hc.2.1 (of_decide_eq_true h3))]
  ·have J:A.eq r 0=false:=yA;have h3:A.lt 0 r=false:=yA;refine⟨i+1,⟨yO,.inl yO,?_⟩,yO,?_⟩
   ·rw[X.a]at J h3;rw[he,if_neg (λe=>by rw[gq,hc.1.2 e]at J;cases J),if_neg (λe=>(of_decide_eq_false h3) (hc.2.2 e))];rfl
   exact yc
 ·have h5:l.length<=i:=by obtain rfl:=X.a;simp only[a,SD]at h1;omega
  cbv;refine h 0 ?_;rw[he]
  have:ns.drop (i-1)=[]\/∃x,ns.drop (i-1)=[x]:=by
   rcases bV (i-1) ns.length with h6|h6
   ·right;refine⟨ns[i-1],?_⟩;rw[bF h6,fo yO]
   ·left;exact fo h6
  rcases this with e|⟨x,e⟩<;>rw[e]<;>rfl
end
end Go.VC.cG
namespace Go.VC
def gp(l:List Int):Int:=(l.find? λe=>e != 0).getD 0
def iw(e:Int)(l:List Int):gp (e::l)=if e=0 then gp l else e:=by
 unfold gp;rw[cH];by_cases h:e=0
 ·subst h;simp
 ·have:(e != 0)=true:=yU h;rw[this,if_neg h];rfl
def sU:∀(a b:List Int),gp (a++b)=if gp a=0 then gp b else gp a
 |[],b=>by simp[gp]
 |e::a,b=>by
  rw[dP,iw,iw,sU a b];by_cases h:e=0
  ·simp[h]
  ·simp[h]
def tE{f:Ty->Int}:∀(l:List Ty),gz (λt s=>if f t=0 then s else f t) (λt=>f t==0) l 0=(gp (l.map f),gp (l.map f)==0)
 |[]=>rfl
 |t::l=>by
  rw[gz,bJ,iw];by_cases h:f t=0
  ·rw[if_pos (yU h),if_pos h,if_pos h];exact tE l
  ·rw[if_neg (yU h),if_neg h,if_neg h];simp[h]
def NV(k:Int)(d a n0 c e1 b:Bool):Bool:=
 if k != 8&&d then false else
 if k=0\/k=1\/k=2\/k=3\/k=4 then a&&n0&&c&&b else
 if k=5 then a&&n0&&e1&&b else
 if k=6\/k=7 then a&&n0&&c else
 if k=8 then a&&n0&&e1 else
 if k=9 then a&&c&&b else
 if k=10 then b else false
def Gx(n m:Nat):decide (n=m)=(bk n==(m:Int)):=by
 by_cases h:n=m
 ·subst h;simp
 ·have:¬(bk n=(m:Int)):=λe=>h (by simp only[bz]at e;omega);simp only[h,decide_false];exact(beq_eq_false_iff_ne.2 this).symm
def Fu(t:Ty):eA t=NV t.k (t.fl.any Fe.b) (t.m==[]) (t.n==[]) (bk t.ar.length==0) (bk t.ar.length==1) (bk t.fl.length==0):=by unfold eA NV;rw[Gx,Gx,Gx];rfl
def Mg(t:Ty):Int:=if 4096<t.size\/32<t.zb then 7 else gp (t.all.map CU)
end Go.VC
namespace Go.VC.cG
open Go Go.VC Go.Proofs
def YH{t:Ty}(m:Ty.le 4294967295 t){p:Int}{c1 c2:S}{j n:D}{K:PV->List Ob->Prop}(y:cD t p c1 c2 j n)(h:∀b,b=eA t->K (.bool b) []):FT 259 [] [dO p c1 c2 j n] K:=by
 obtain⟨u,v,s,o,f⟩:=y;have k:t.fl.length<=4294967295:=by cases m;assumption
 refine en Xl Tryz.func259 λA C L X=>?_;have l3:A.len j=bk t.ar.length:=iW X.a o;have l4:A.len n=bk t.fl.length:=iW X.a f;obtain⟨B,e⟩:∃b,b=A.seq c1 []:=⟨_,rfl⟩;obtain⟨n0,i⟩:∃b,b=A.seq c2 []:=⟨_,rfl⟩;obtain⟨w,c⟩:∃b,b=(A.eq (A.len j) 0):=⟨_,rfl⟩;obtain⟨e1,g⟩:∃b,b=(A.eq (A.len j) 1):=⟨_,rfl⟩;obtain⟨z,d⟩:∃b,b=(A.eq (A.len n) 0):=⟨_,rfl⟩;obtain⟨E,a⟩:∃b,b=t.fl.any Fe.b:=⟨_,rfl⟩;have l:eA t=NV p E B n0 w e1 z:=by rw[Fu,c,g,d,a,e,i,u,v,s,l3,l4,X.a];rfl
 have Y:=fz X.a;have Z:=qH X.a;rw[l]at h;clear l u v s l3 l4;cbv;repeat' (first|apply bq|exact zf|(intro J;cbv)|apply bE|(refine X.call (M1 f k (λx G p c1 c2 j n F H I q r=>Yu q r) λb hb=>?_);cbv))
 all_goals (refine h _ ?_;clear h m;simp only[dL,Y,<-e,<-i,<-c,<-g,<-d,<-a]at *;clear e i c g d a;simp only[Z]at *;clear X Y Z o f k;simp_all[NV])
end Go.VC.cG
