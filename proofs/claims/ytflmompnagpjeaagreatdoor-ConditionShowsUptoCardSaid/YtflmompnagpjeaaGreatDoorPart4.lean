/- Part 4 of the common texts. -/
import Derived.Shelf.Small.Strs
import Derived.Shelf.Small.Wraps
import Derived.Shelf.Strconv.Itoa3
import Derived.Shelf.Strings.Search3
import Derived.Shelf.Strings.Split
import Derived.Ground.SlsfProg
import Derived.Shelf.SlSortCmp.NoneTotal
import Derived.Shelf.Spec.SlicesGrow
import Derived.Shelf.Small.Bits
import Derived.Shelf.Sort.Plain
import Derived.Shelf.Slices.In.SortNone
import Derived.Test.YtflmompnagpjeaaGreatDoorPart3
set_option linter.all false
set_option maxRecDepth 100000
set_option maxHeartbeats 16000000
open And renaming intro→bk
open Array renaming ext→QJ,extract_eq_self_of_le→jq,getElem?_append_left→gK,getElem?_eq_getElem→pd,length_toList→fI
open Bool renaming and_eq_true→bn,and_false→oE,eq_iff_iff→cn,false_eq_true→cA,true_and→iA
open ByteArray renaming data_extract→Dz
open Eq renaming trans→gv
open Int renaming natCast_nonneg→eO,ofNat→bj,ofNat_eq_natCast→bD,ofNat_lt→sf
open List renaming all_eq_true→dE,append_assoc→bL,append_nil→cz,cons_append→dL,drop_eq_getElem_cons→bJ,drop_eq_nil_of_le→fH,drop_length→ch,eq_nil_of_length_eq_zero→cm,ext_getElem→Ak,find?_cons→cI,find?_eq_none→gg,flatMap_append→ea,flatMap_cons→eJ,foldl_append→pQ,foldl_cons→fy,getD→cx,getElem?_append_left→bO,getElem?_eq_getElem→bu,getElem?_eq_some_iff→dr,getElem?_map→cC,getElem_append_right→F5,getElem_map→jT,getElem_mem→br,length_append→bp,length_cons→bI,length_drop→qi,length_erase_of_mem→Gd,length_flatMap→uQ,length_map→bA,length_pos_iff→gz,length_pos_of_mem→Jr,map_append→bS,map_congr_left→eF,map_cons→bF,map_map→ep,map_nil→ie,mem_append→bE,mem_cons→bx,mem_cons_of_mem→jI,mem_erase_of_ne→K2,mem_flatMap→cb,mem_map→bH,mem_of_find?_eq_some→cE,mem_range→k9,mem_singleton→cU,mem_take_iff_getElem→jY,nil_append→jd,nodup_append→dk,nodup_cons→cq,pairwise_cons→dG,pairwise_iff_getElem→hX,perm_ext_iff_of_nodup→oB,range→dF,set_cons_zero→Oq,sum_append→dO,sum_cons→bV,take_append_drop→cV,take_length→bz,take_of_length_le→ek,take_succ_eq_append_getElem→k8
open List.Pairwise renaming nil→DH
open List.cons renaming injEq→lW
open Nat renaming add_zero→iw,le_of_lt→KO,le_refl→bX,le_trans→bM,lt_or_ge→bR,min_eq_left→Dy,zero_add→dY,zero_le→bw
open Ne renaming symm→dZ
open Option renaming bind_some→iG,getD_some→eR,isSome_none→n9
open Option.some renaming injEq→cw
open Or renaming inl→bB
open Prod renaming ext→fq
open Prod.mk renaming inj→sc,injEq→gf
open UInt8 renaming lt_irrefl→rV
namespace Go.Proofs
open Go.Shelf
def Tryz.EX:Go.Shelf.Ren:=⟨fun|106=>290|213=>308|265=>327|n=>n,fun|9=>9|3=>3|n=>n,fun|n=>n⟩
def Tryz.PE:Go.Proofs.Lays.n106 Tryz.prog Tryz.EX:=by constructor<;>first|kernel_rfl|(intro w;kernel_rfl)
open Go.RowKit in
def Tryz.strings_Compare(a b:ByteArray)(w:World):
 Calls Tryz.prog 290 #[.string a,.string b] w λe w'=>e= .returned (.int .i64 (Lib.compareBytes a.data.toList b.data.toList))/\w'=w:=Any.strings_Compare Tryz.PE a b w
def Tryz.EY:Go.Shelf.Ren:=⟨fun|103=>329|210=>344|206=>354|n=>n,fun|9=>9|4=>4|24=>379|3=>3|n=>n,fun|n=>n⟩
def Tryz.PF:Go.Proofs.Lays.n103 Tryz.prog Tryz.EY:=by constructor<;>first|kernel_rfl|(intro w;kernel_rfl)
open Go.RowKit in
def Tryz.strings_CutPrefix(s p:ByteArray)(w:World):
 Calls Tryz.prog 329 #[.string s,.string p] w λe w'=>e= .returned (.tuple #[.string ⟨(Lib.trimPrefix s.data.toList p.data.toList).toArray⟩,.bool (Lib.hasPrefix s.data.toList p.data.toList)])/\w'=w:=Any.strings_CutPrefix Tryz.PF s p w
def Tryz.EW:Go.Shelf.Ren:=⟨fun|121=>131|214=>187|n=>n,fun|4=>4|9=>9|n=>n,fun|n=>n⟩
def Tryz.PD:Go.Proofs.Lays.n121 Tryz.prog Tryz.EW:=by constructor<;>first|kernel_rfl|(intro w;kernel_rfl)
open Go.RowKit in
def Tryz.strconv_FormatBool(b:Bool)(w:World):
 Calls Tryz.prog 131 #[.bool b] w λe w'=>e= .returned (.string ⟨(Lib.formatBool b).toArray⟩)/\w'=w:=Any.strconv_FormatBool Tryz.PD b w
def Tryz.CV:Go.Shelf.Ren:=⟨fun|171=>73|243=>139|246=>190|283=>223|284=>224|285=>225|286=>226|129=>238|317=>266|318=>267|319=>268|320=>269|337=>291|338=>292|n=>n,fun|3=>3|9=>9|2=>2|4=>4|171=>280|0=>0|53=>281|37=>191|5=>5|173=>284|212=>320|51=>296|20=>20|213=>321|46=>250|232=>360|233=>361|n=>n,fun|17=>0|18=>1|19=>2|n=>n⟩
def Tryz.MB:Go.Proofs.LaysM.n171 Tryz.prog Tryz.CV:=by constructor<;>first|kernel_rfl|(intro w;kernel_rfl)|(constructor<;>first|kernel_rfl|(intro w;kernel_rfl))
open Go.RowKit Go.Sort Go.Lib in
def Tryz.strconv_Itoa(n:Int)(h0: -9223372036854775808<=n)(h1:n<=9223372036854775807)(w:World)(a:Lib.TabIs Tryz.prog w "internal/strconv.uint64pow10" .u64 Lib.pow10Tab):
 Calls Tryz.prog 73 #[.int .i64 n] w λe w'=>e= .returned (.string ⟨(Lib.itoa n).toArray⟩)/\∃k os,w'=grow (w.drewN k) os:=Any.strconv_Itoa Tryz.MB n h0 h1 w a
def Tryz.ET:Go.Shelf.Ren:=⟨fun|171=>73|243=>139|246=>190|283=>223|284=>224|285=>225|286=>226|129=>238|317=>266|318=>267|319=>268|320=>269|337=>291|338=>292|n=>n,fun|3=>3|9=>9|2=>2|4=>4|171=>280|0=>0|53=>281|37=>191|5=>5|173=>284|212=>320|51=>296|20=>20|213=>321|46=>250|232=>360|233=>361|n=>n,fun|17=>0|18=>1|19=>2|n=>n⟩
def Tryz.Pz:Go.Proofs.Lays.n171 Tryz.prog Tryz.ET:=by constructor<;>first|kernel_rfl|(intro w;kernel_rfl)
open Go.RowKit Go.Sort Go.Lib in
def Tryz.strconv_Itoa_small(i:Nat)(a:i<100)(w:World):
 Calls Tryz.prog 73 #[.int .i64 i] w λe w'=>e= .returned (.string ⟨(Lib.decDigits i).toArray⟩)/\w'=w:=Any.strconv_Itoa_small Tryz.Pz i a w
def Tryz.EV:Go.Shelf.Ren:=⟨fun|144=>307|143=>326|219=>341|217=>347|225=>348|224=>349|267=>350|266=>355|314=>356|n=>n,fun|9=>9|4=>4|3=>3|5=>5|46=>250|146=>393|51=>296|n=>n,fun|1=>3|n=>n⟩
def Tryz.PC:Go.Proofs.Lays.n144 Tryz.prog Tryz.EV:=by constructor<;>first|kernel_rfl|(intro w;kernel_rfl)
open Go.RowKit Go.Lib in
def Tryz.strings_Contains(s sub:ByteArray)(m:Int)(w:World)(hs:s.size<4294967281)(a:w.cell? ⟨3,0,none⟩=some (.int .i64 m)):
 Calls Tryz.prog 307 #[.string s,.string sub] w λe w'=>e= .returned (.bool (Lib.contains s.data.toList sub.data.toList))/\w'=w:=Any.strings_Contains Tryz.PC s sub m w hs a
def Tryz.EU:Go.Shelf.Ren:=⟨fun|146=>309|221=>328|268=>342|138=>343|143=>326|195=>351|197=>352|218=>353|219=>341|260=>357|217=>347|225=>348|224=>349|267=>350|266=>355|314=>356|n=>n,fun|9=>9|31=>68|3=>3|4=>4|0=>0|105=>391|21=>21|5=>5|46=>250|119=>395|139=>398|138=>397|146=>393|51=>296|n=>n,fun|1=>3|3=>4|4=>5|n=>n⟩
def Tryz.PB:Go.Proofs.Lays.n146 Tryz.prog Tryz.EU:=by constructor<;>first|kernel_rfl|(intro w;kernel_rfl)
open Go.RowKit Go.Lib in
def Tryz.strings_Split(s sep:ByteArray)(m:Int)(w:World)(hs:s.size<4294967281)(a:w.cell? ⟨3,0,none⟩=some (.int .i64 m))(h1:1<=sep.size):
 Calls Tryz.prog 309 #[.string s,.string sep] w λe w'=>e= .returned (.slice (some ⟨w.heap.size,0,none⟩) (Lib.countB s sep+1) (Lib.countB s sep+1))/\w'=w.alloc (.cells ((Lib.splitB sep 0 (Lib.countB s sep) s).map Value.string).toArray 9):=Any.strings_Split Tryz.PB (by kernel_rfl) s sep m w hs a h1
def Tryz.CW:Go.Shelf.Ren:=⟨fun|4=>304|n=>n,fun|22=>68|25=>9|3=>3|4=>4|9=>9|20=>20|0=>0|n=>n,fun|n=>n⟩
def Tryz.ER:Go.Proofs.Lays8.n4 Tryz.prog Tryz.CW:=by constructor<;>first|kernel_rfl|(intro w;kernel_rfl)|exact⟨Tryz.f304.name,by decide,by kernel_rfl⟩
def Tryz.ES:Go.Shelf.Ren:=⟨fun|190=>150|125=>196|258=>195|128=>237|129=>238|302=>228|303=>229|304=>230|305=>231|306=>232|307=>233|308=>234|309=>235|310=>236|333=>270|329=>271|330=>272|334=>273|335=>274|336=>275|344=>293|n=>n,fun|31=>68|9=>9|3=>3|46=>250|0=>0|51=>296|53=>281|4=>4|183=>288|182=>287|131=>293|5=>5|218=>323|222=>327|228=>344|229=>345|n=>n,fun|n=>n⟩
def Tryz.I2:Go.Proofs.Lays.n190 Tryz.prog Tryz.ES:=by constructor<;>first|kernel_rfl|(intro w;kernel_rfl)
open Go.Sort Go.RowKit in
def Tryz.slices_Sort_string(gu off cap:Nat)(b:List (List UInt8))(w:World)(c:Holds encStr w gu off b.toArray)(a:gu<w.heap.size)(fW:b.length<4611686018427387904):
 Calls Tryz.prog 150 #[.slice (some ⟨gu,off,none⟩) b.length cap] w λe w'=>e= .returned (.tuple #[])/\∃n os,w'=grow (putRow encStr (Sort.ahead w n) gu off (b.mergeSort λx y=>decide (x<=y)).toArray) os:=Any.slices_Sort_string Tryz.I2 gu off cap b w c a fW
open Go.RowKit Go.Sort in
def Tryz.slices_Sort_string_none(p:Option Addr)(cap:Nat)(w:World):
 Calls Tryz.prog 150 #[.slice p 0 cap] w λe w'=>e= .returned (.tuple #[])/\w'=w:=Any.slices_Sort_string_none Tryz.I2 p cap w
end Go.Proofs
namespace Go.VC.cc
open Go Go.VC Go.Proofs
def Pt:(∀{α:Type}{f:α->List D}{l:List α}{d:D}{K:PV->List Ob->Prop}(c:d=bt f l)(hl:l.length<4294967296)(h:∀ r,r=bt f l->K (.row 29 0) [.row 29 r true]),FT 206 [] [.lst 29 d] K)/\
 (∀{α:Type}{f:α->List D}{l:List α}{d:D}{K:PV->List Ob->Prop}(c:d=bt f l)(hl:l.length<4294967296)(h:∀ r,r=bt f l->K (.row 57 0) [.row 57 r true]),FT 137 [] [.lst 57 d] K)/\
 (∀{α:Type}{f:α->List D}{l:List α}{d:D}{K:PV->List Ob->Prop}(c:d=bt f l)(hl:l.length<4294967296)(h:∀ r,r=bt f l->K (.row 73 0) [.row 73 r true]),FT 227 [] [.lst 73 d] K)/\
 (∀{α:Type}{f:α->List D}{l:List α}{d:D}{K:PV->List Ob->Prop}(c:d=bt f l)(hl:l.length<4294967296)(h:∀ r,r=bt f l->K (.row 136 0) [.row 136 r true]),FT 143 [] [.lst 136 d] K)/\
 (∀{α:Type}{f:α->List D}{l:List α}{d:D}{K:PV->List Ob->Prop}(c:d=bt f l)(hl:l.length<4294967296)(h:∀ r,r=bt f l->K (.row 91 0) [.row 91 r true]),FT 144 [] [.lst 91 d] K)/\
 (∀{α:Type}{f:α->List D}{l:List α}{d:D}{K:PV->List Ob->Prop}(c:d=bt f l)(hl:l.length<4294967296)(h:∀ r,r=bt f l->K (.row 210 0) [.row 210 r true]),FT 147 [] [.lst 210 d] K)/\
 (∀{α:Type}{f:α->List D}{l:List α}{d:D}{K:PV->List Ob->Prop}(c:d=bt f l)(hl:l.length<4294967296)(h:∀ r,r=bt f l->K (.row 213 0) [.row 213 r true]),FT 148 [] [.lst 213 d] K):=by
 refine⟨?_,?_,?_,?_,?_,?_,?_⟩;have j:=trivial
 rotate_left
 have p:=trivial
 rotate_left
 have i:=trivial
 rotate_left
 have m:=trivial
 rotate_left
 have n:=trivial
 rotate_left
 have k:=trivial
 rotate_left
 have q:=trivial
 rotate_left
 all_goals (
  intro α f l d K c hl h
  first
   |(have e:=j
     refine FC.jN (G:=Zy) fD mixed ⟨Tryz.func206,by rfl,rfl⟩ rfl rfl rfl ?_)
   |(have e:=p
     refine FC.jN (G:=ZU) fD mixed ⟨Tryz.func137,by rfl,rfl⟩ rfl rfl rfl ?_)
   |(have e:=i
     refine FC.jN (G:=Zx) fD mixed ⟨Tryz.func227,by rfl,rfl⟩ rfl rfl rfl ?_)
   |(have e:=m
     refine FC.jN (G:=ZT) fD mixed ⟨Tryz.func143,by rfl,rfl⟩ rfl rfl rfl ?_)
   |(have e:=n
     refine FC.jN (G:=ZS) fD mixed ⟨Tryz.func144,by rfl,rfl⟩ rfl rfl rfl ?_)
   |(have e:=k
     refine FC.jN (G:=ZP) fD mixed ⟨Tryz.func147,by rfl,rfl⟩ rfl rfl rfl ?_)
   |(refine FC.jN (G:=ZO) fD mixed ⟨Tryz.func148,by rfl,rfl⟩ rfl rfl rfl ?_)
  intro A C L X;obtain⟨o,g,a⟩:=lenOf c;cbv;intro b hb;refine p3 (λJ=>?_) (λJ=>?_) (λJ=>?_)
  ·refine h _ ?_;obtain rfl:=X.a;have hb:=hb J;rw[Ac,a,g]at hb;have:l=[]:=cm (by simp only[bD]at hb;omega);rw[this];rfl
  ·obtain rfl:=X.a;simp only[SD,a];omega
  ·refine h _ ?_;obtain rfl:=X.a;rw[c];exact cD (l:=[]))
end Go.VC.cc
namespace Go.VC
section
def gI(l:List S)(s:S):Int:=ou (λx=>x==s) l
mutual
def Ty.sub(ns:List S)(ts:List Ty):Ty->Ty
 | .mk k m n ar fl=>if k=9/\0<=gI ns n/\gI ns n<ts.length then ts.getD (gI ns n).toNat (.mk k m n ar fl)else .mk k m n (Ty.Lq ns ts ar) (Ty.Lr ns ts fl)
def Fe.sub(ns:List S)(ts:List Ty):Fe->Fe| .mk s t b=>.mk s (Ty.sub ns ts t) b
def Ty.Lq(ns:List S)(ts:List Ty):List Ty->List Ty|[]=>[]|t::l=>Ty.sub ns ts t::Ty.Lq ns ts l
def Ty.Lr(ns:List S)(ts:List Ty):List Fe->List Fe|[]=>[]|t::l=>Fe.sub ns ts t::Ty.Lr ns ts l
end
variable {ns:List S}{ts:List Ty}{t:Ty}
def Ik:∀l:List Ty,Ty.Lq ns ts l=l.map (Ty.sub ns ts)
 |[]=>by simp[Ty.Lq]
 |t::l=>by simp[Ty.Lq,Ik l]
def Il:∀l:List Fe,Ty.Lr ns ts l=l.map (Fe.sub ns ts)
 |[]=>by simp[Ty.Lr]
 |t::l=>by simp[Ty.Lr,Il l]
def Cn(hk:t.k=9){i:Nat}(a:gI ns t.n=(i:Int))(h:i<ts.length):t.sub ns ts=ts[i]:=by
 cases t with
 |mk k m n ar fl=>simp only[Ty.k,Ty.n]at hk a;rw[Ty.sub,if_pos ⟨hk,yO,yO⟩,a];simp[h]
def jg(h:¬(t.k=9/\0<=gI ns t.n/\gI ns t.n<ts.length)):t.sub ns ts= .mk t.k t.m t.n (t.ar.map (Ty.sub ns ts)) (t.fl.map (Fe.sub ns ts)):=by
 cases t with
 |mk k m n ar fl=>rw[Ty.sub,if_neg (by exact h),Ik,Il];rfl
def Fe.sub_eq{f:Fe}:Fe.sub ns ts f= .mk f.s (f.t.sub ns ts) f.b:=by cases f;rw[Fe.sub];rfl
def OL:∀t:Ty,t.sub [] []=t:=by
 refine Ty.parts λt h1 J=>?_;rw[jg yS];refine Ty.ext rfl rfl rfl ?_ ?_
 ·show t.ar.map _=t.ar;rw[eF h1,List.map_id']
 ·show t.fl.map _=t.fl;rw[eF (g:=λf=>f) λf hf=>?_,List.map_id'];rw[Fe.sub_eq,J f hf];cases f;rfl
end
end Go.VC
namespace Go.VC.cc
open Go Go.VC Go.Proofs
def Xr{l:List S}{d:D}{s c:S}{K:PV->List Ob->Prop}(j:d=bt cT l)(hl:l.length<4294967296)(hs:c=s)
 (h:∀r:Int,r=gI l s->K (.int .i64 r) []):
 FT 140 [] [.lst 9 d,.str c] K:=by
 refine en (cf 19) Tryz.func140 λA C L X=>?_;obtain⟨b,g,a⟩:=lenOf j;cbv;refine lu X (λi=>i<=b/\∀x∈l.take i,(x==s)=false) (λi=>b-i) 0 ⟨bw _,yS⟩ (λ(i:Nat)=>[(8,.int .i64 i)]) ?_;rintro i ⟨o,ha⟩;cbv;constructor<;>intro h1
 ·have h5:i<l.length:=lY X.a a h1;have n:=pT X.a j h5;have m:=iX X.a j h5;have k:=jX X.a h5;cbv;repeat' (first|apply bk|exact zf|(intro J;cbv)|apply bB)
  any_goals exact m
  any_goals exact k
  ·refine h i ?_;have:l[i]=s:=by rw[<- hs,<-n];obtain rfl:=X.a;simp only[SD]at J;exact J.symm
   exact(mH h5 ha (by simp[this])).symm
  ·have:¬l[i]=s:=by rw[<- hs,<-n];obtain rfl:=X.a;simp only[SD,fP]at J;exactλe=>J e.symm
   refine⟨i+1,⟨by omega,?_⟩,by omega,?_⟩
   ·rw[cj h5];intro x f;rcases bE.1 f with f|f
    ·exact ha x f
    ·simp at f;subst f;simpa using this
   exact yc
 ·have h5:i=b:=gY X.a a h1;subst h5;cbv;refine h (-1) ?_;rw[g,bz]at ha;exact(mI ha).symm
end Go.VC.cc
namespace Go.VC
open Go
def thin:Nat->PV->PV
 |0,p=>p
 |n+1,p=>match p with
  | .om e d=>.lst e d
  | .agg cs=>.agg (cQ (thin n) cs)
  | .bl b=>.bool b
  |p=>p
def Uc(l:List PV):List PV:=cQ (thin 3) l
theorem eM.cQ {tt E Pp}{f:PV->PV} (hf:∀v p,VR tt E Pp v p->VR tt E Pp v (f p)):∀{vs ps},eM tt E Pp vs ps->eM tt E Pp vs (cQ f ps)
 |_,_,.nil=>.nil
 |_,_,.cons v p vs ps h t=>.cons _ _ _ _ (hf _ _ h) (eM.cQ hf t)
theorem VR.thin {tt E Pp}:∀(n:Nat) {v p},VR tt E Pp v p->VR tt E Pp v (thin n p)
 |0,_,_,h=>h
 |n+1,v,p,h=>by
  match p,h with
  | .om e d,h=>cases h with|om e a n d h=>exact .lst _ _ _ h
  | .agg cs,h=>cases h with|agg vs cs h=>exact .agg _ _ (eM.cQ (λ_ _=>VR.thin n) h)
  | .bl b,h=>cases h;exact .bool b
  | .undef,h| .int _ _,h| .bool _,h| .str _,h| .lst _ _,h| .tup _,h| .box _ _,h| .row _ _,h| .fM _ _ _ _,h| .jv _ _ _ _,h| .du _ _,h| .dptr _ _,h| .rP _ _ _,h| .cu _ _,h| .nilp,h| .nilm,h| .nilf,h| .lj,h| .mp _,h| .dmp _ _,h| .it _,h| .kF _,h=>exact h
def FC.thin{P:Program}{tt:TypeId->Option TI}{f:FuncId}{objs:List Ob}{args a:List PV}{K:PV->List Ob->Prop}(ha:Uc args=a)(h:FC P tt f objs a K):FC P tt f objs args K:=by subst ha;exactλE Pp w vals b c=>h E Pp w vals b (eM.cQ (λ_ _=>VR.thin 3) c)
end Go.VC
namespace Go.VC
section
variable {α:Type}{j:Nat}
def Q3(f:α->α){l:List α}(h:j<l.length)(a:j<((l.take j).map f++l.drop j).length):((l.take j).map f++l.drop j)[j]=l[j]:=by rw[F5 yQ];simp[Dy (KO h)]
def Mj(f:α->α){l:List α}(h:j<l.length):((l.take j).map f++l.drop j).set j (f l[j])=(l.take (j+1)).map f++l.drop (j+1):=by rw[cj h,List.set_append,if_neg yQ,bJ h];have:j-((l.take j).map f).length=0:=yQ;rw[this];simp only[Oq,bS,bF,ie,bL,dL,jd]
end
end Go.VC
namespace Go.VC.cc
open Go Go.VC Go.Proofs
section
variable {b:Int}{c1 c2:S}{c d g e:D}{K:PV->List Ob->Prop}{ns:List S}{ts:List Ty}
def Ru(hn:g=bt cT ns)(N:e=bt ca ts)(al:ns.length<4294967296)(ay:ts.length<4294967296)
 (hc:∀j (h:j<ts.length) b c1 c2 c d (K:PV->List Ob->Prop),cr ts[j] b c1 c2 c d->(∀e0 e1 e2 e3 e4,cr ts[j] e0 e1 e2 e3 e4->K (dQ e0 e1 e2 e3 e4) [])->FT 162 [] [dQ b c1 c2 c d,.lst 9 (.list []),.lst 29 (.list [])] K):
 ∀(t:Ty),Ty.le 4294967295 t->∀{b:Int}{c1 c2:S}{c d:D}{K:PV->List Ob->Prop},cr t b c1 c2 c d->(∀e0 e1 e2 e3 e4,cr (t.sub ns ts) e0 e1 e2 e3 e4->K (dQ e0 e1 e2 e3 e4) [])->FT 162 [] [dQ b c1 c2 c d,.lst 9 g,.lst 29 e] K:=by
 refine Ty.parts λt ag ad=>?_;intro s b c1 c2 c d K ht h;obtain⟨t0,t1,t2,V,R⟩:=ht;have aB:=ru s;have az:=xf s;refine en ZG Tryz.func162 λA C L X=>?_;obtain⟨ap,ab,U⟩:=lenOf hn;obtain⟨av,ac,k⟩:=lenOf N;obtain⟨an,aj,Q⟩:=lenOf V;obtain⟨aq,ai,T⟩:=lenOf R;cbv;refine X.call (Xr hn al t2 λi hi=>?_);cbv;repeat' (first|apply bk|exact zf|(intro J;cbv)|apply bB)
 rotate_left 2
 iterate 3
  ·have aa:¬(t.k=9/\0<=gI ns t.n/\gI ns t.n<ts.length):=by rw[<- t0,<-hi];obtain rfl:=X.a;simp only[k,SD]at*;omega
   refine X.cut (λ(z:D×D)=>⟨[(2,.lst 29 e),(1,.lst 9 g),(3,.box 0 0),(6,.box 1 0)],[.box [.int .i64 b,.str c1,.str c2,.row 29 2,.row 57 3],.box [.undef,.undef,.undef,.undef,.undef],.row 29 z.1 true,.row 57 z.2 true]⟩) (λz=>z.1=bt ca t.ar/\z.2=bt fj t.fl) ?_ ?_
   ·cbv;repeat' (first|apply bk|exact zf|(intro J;cbv)|apply bB|(refine X.call (Pt.1 V yO λr1 ak=>?_);cbv)|(refine X.call (Pt.2.1 R yO λr2 l=>?_);cbv))
    all_goals (refine⟨(r1,r2),⟨ak,l⟩,[0,1,2,3],rfl,?_⟩;exact yc)
   ·rintro⟨z1,z2⟩ ⟨B,E⟩;simp only at B E;obtain⟨p,F,n⟩:=lenOf B;obtain⟨o,w,m⟩:=lenOf E;cbv;refine lP X (λx=>x.1<=p/\x.2=bt ca ((t.ar.take x.1).map (Ty.sub ns ts)++t.ar.drop x.1)) (λx=>p-x.1) (0,z1) ⟨bw _,yU B⟩ [0,1,2,3] (λ(x:Nat×D)=>⟨[(45,.int .i64 x.1),(44,.int .i64 (A.len z1)),(43,.row 29 2),(2,.lst 29 e),(1,.lst 9 g),(3,.box 0 0),(6,.box 1 0)],[.box [.int .i64 b,.str c1,.str c2,.row 29 2,.row 57 3],.box [.undef,.undef,.undef,.undef,.undef],.row 29 x.2 true,.row 57 z2 true]⟩) ?_;rintro⟨j,r⟩ ⟨O,hr⟩;simp only at O hr;cbv;constructor<;>intro h1
    ·have h5:j<t.ar.length:=lY X.a n h1;have h6:j<((t.ar.take j).map (Ty.sub ns ts)++t.ar.drop j).length:=yQ;have W:=Q3 (Ty.sub ns ts) h5 h6;have P:=iS X.a hr h6;rw[W]at P;have q:=iX X.a hr h6;have H:=jX X.a h5;cbv;repeat' (first|apply bk|exact zf|(intro J;cbv)|apply bB)
     any_goals exact q
     refine X.call (ag _ (br h5) (u7 s _ (br h5)) P λe0 e1 e2 e3 e4 he=>?_);obtain⟨u,M,I,G,v⟩:=he
     have q1:A.nK r (bj j) 0 [.int e0,.str e1,.str e2,e3,e4]=bt ca ((t.ar.take (j+1)).map (Ty.sub ns ts)++t.ar.drop (j+1)):=by
      rw[X.a,hr];refine(re (a:=bj j) (f:=ca) (y:=t.ar[j].sub ns ts) (i:=j) rfl h6 ?_).trans ?_
      ·rw[dn,dn,u,M,I,G,v];rfl
      ·rw[Mj _ h5]
     cbv;repeat' (first|apply bk|exact zf|(intro J;cbv)|apply bB)
     any_goals exact q
     any_goals exact H
     exact⟨(j+1,A.nK r (bj j) 0 [.int e0,.str e1,.str e2,e3,e4]),⟨yP,q1⟩,yP,[0,1,2,3],rfl,yc⟩
    have h5:j=p:=gY X.a n h1;subst h5;rw[F,bz,ch,cz]at hr;cbv;refine lP X (λx=>x.1<=o/\x.2=bt fj ((t.fl.take x.1).map (Fe.sub ns ts)++t.fl.drop x.1)) (λx=>o-x.1) (0,z2) ⟨bw _,yU E⟩ [0,1,2,3] (λ(x:Nat×D)=>⟨[(62,.int .i64 x.1),(61,.int .i64 (A.len z2)),(60,.row 57 3),(2,.lst 29 e),(1,.lst 9 g),(3,.box 0 0),(6,.box 1 0)],[.box [.int .i64 b,.str c1,.str c2,.row 29 2,.row 57 3],.box [.undef,.undef,.undef,.undef,.undef],.row 29 r true,.row 57 x.2 true]⟩) ?_;rintro⟨j,r2⟩ ⟨O,l⟩;simp only at O l;cbv;constructor<;>intro h1
    ·have h5:j<t.fl.length:=lY X.a m h1;have h6:j<((t.fl.take j).map (Fe.sub ns ts)++t.fl.drop j).length:=yQ;have W:=Q3 (Fe.sub ns ts) h5 h6;have P:=nq X.a l h6;rw[W]at P;have q:=iX X.a l h6;have H:=jX X.a h5;cbv;repeat' (first|apply bk|exact zf|(intro J;cbv)|apply bB)
     any_goals exact q
     refine X.call (ad _ (br h5) (xJ s _ (br h5)) P λe0 e1 e2 e3 e4 he=>?_);obtain⟨u,M,I,G,v⟩:=he
     have q1:A.nK r2 (bj j) 1 [.int e0,.str e1,.str e2,e3,e4]=bt fj ((t.fl.take (j+1)).map (Fe.sub ns ts)++t.fl.drop (j+1)):=by
      rw[X.a,l];refine(re (a:=bj j) (f:=fj) (y:=Fe.sub ns ts t.fl[j]) (i:=j) rfl h6 ?_).trans ?_
      ·rw[nx,nx,W,Fe.sub_eq,u,M,I,G,v];rfl
      ·rw[Mj _ h5]
     cbv;repeat' (first|apply bk|exact zf|(intro J;cbv)|apply bB)
     any_goals exact q
     any_goals exact H
     exact⟨(j+1,A.nK r2 (bj j) 1 [.int e0,.str e1,.str e2,e3,e4]),⟨yP,q1⟩,yP,[0,1,2,3],rfl,yc⟩
    have h5:j=o:=gY X.a m h1;subst h5;rw[w,bz,ch,cz]at l;cbv;refine h _ _ _ _ _ ?_;rw[jg aa];exact⟨t0,t1,t2,hr,l⟩
 ·obtain⟨j,O⟩:∃j:Nat,i=(j:Int):=⟨i.toNat,by obtain rfl:=X.a;simp only[k,SD]at *;omega⟩;subst O;have dA:j<ts.length:=by obtain rfl:=X.a;simp only[k,SD]at *;omega
  rw[X.a,N];exact cY dA
 ·obtain⟨j,O⟩:∃j:Nat,i=bj j:=⟨i.toNat,by obtain rfl:=X.a;simp only[k,SD]at *;omega⟩;subst O;have dA:j<ts.length:=by obtain rfl:=X.a;simp only[k,SD]at *;omega
  have hk:t.k=9:=by rw[<- t0];obtain rfl:=X.a;simp only[k,SD]at *;omega
  refine X.call (hc j dA _ _ _ _ _ _ (iS X.a N dA) λe0 e1 e2 e3 e4 he=>?_);cbv;refine h _ _ _ _ _ ?_;rw[Cn hk hi.symm dA];exact he
def Rv(t:Ty)(a:Ty.le 4294967295 t)(f:cr t b c1 c2 c d)(h:∀e0 e1 e2 e3 e4,cr t e0 e1 e2 e3 e4->K (dQ e0 e1 e2 e3 e4) []):FT 162 [] [dQ b c1 c2 c d,.lst 9 (.list []),.lst 29 (.list [])] K:=by refine Ru (ns:=[]) (ts:=[]) rfl rfl yS yS (λj h=>absurd h yS) t a f ?_;rw[OL];exact h
def QD(n:g=bt cT ns)(a:e=bt ca ts)(i:ns.length<4294967296)(f:ts.length<4294967296)(dA:∀t∈ts,Ty.le 4294967295 t)
 (t:Ty) (k:Ty.le 4294967295 t) (m:cr t b c1 c2 c d) (h:∀e0 e1 e2 e3 e4,cr (t.sub ns ts) e0 e1 e2 e3 e4->K (dQ e0 e1 e2 e3 e4) []):FT 162 [] [dQ b c1 c2 c d,.lst 9 g,.lst 29 e] K:=
 Ru n a i f (λj l b c1 c2 c d K hc hK=>Rv _ (dA _ (br l)) hc hK) t k m h
def QB(t:Ty)(a:Ty.le 4294967295 t)(f:cr t b c1 c2 c d)(h:∀e0 e1 e2 e3 e4,cr t e0 e1 e2 e3 e4->K (dQ e0 e1 e2 e3 e4) []):FT 193 [] [dQ b c1 c2 c d] K:=by refine en (cf 5) Tryz.func193 λA C L X=>?_;cbv;refine X.call (Rv t a f λe0 e1 e2 e3 e4 he=>?_);cbv;exact h _ _ _ _ _ he
end
end Go.VC.cc
namespace Go.VC
section
def Pm.ok(p:Pm):Prop:=Ty.le 4294967295 p.bound
structure TE.ok (x:TE):Prop where
 np:x.params.length<=4294967295
 p:∀p∈x.params,p.ok
 lo:Ty.le 4294967295 x.lower
 up:Ty.le 4294967295 x.upper
structure VE.ok (x:VE):Prop where
 np:x.params.length<=4294967295
 p:∀p∈x.params,p.ok
 ty:Ty.le 4294967295 x.ty
structure IF.ok (x:IF):Prop where
 nt:x.types.length<=4294967295
 nv:x.values.length<=4294967295
 na:x.aliases.length<=4294967295
 nd:x.deprecated.length<=4294967295
 t:∀y∈x.types,y.ok
 v:∀y∈x.values,y.ok
abbrev L2(f:S)(c1 c2:Int)(a e:S)(b c:D):PV:=.agg [.str f,.int .i64 c1,.int .i64 c2,.str a,.str e,.lst 29 b,.lst 57 c]
abbrev tE(l:S)(c1:D)(c2:Int)(e k:S)(h j:D)(f:Int)(g c:S)(a b:D):PV:=.agg [.str l,.lst 73 c1,.int .i64 c2,.str e,.str k,.lst 29 h,.lst 57 j,.int .i64 f,.str g,.str c,.lst 29 a,.lst 57 b]
abbrev Cc(f:S)(c1:D)(c2:Int)(a e:S)(b c:D):PV:=.agg [.str f,.lst 73 c1,.int .i64 c2,.str a,.str e,.lst 29 b,.lst 57 c]
abbrev Qi(a c1 c2:S):PV:=.agg [.str a,.str c1,.str c2]
abbrev qN(b:S)(c1 c2 c a:D):PV:=.agg [.str b,.lst 136 c1,.lst 91 c2,.lst 210 c,.lst 213 a]
def J0(x:Pm)(f:S)(c1 c2:Int)(a e:S)(b c:D):Prop:=f=x.name/\c1=x.var/\cr x.bound c2 a e b c
def p8(x:TE)(l:S)(c1:D)(c2:Int)(e k:S)(h j:D)(f:Int)(g c:S)(a b:D):Prop:=l=x.name/\c1=bt dB x.params/\cr x.lower c2 e k h j/\cr x.upper f g c a b
def wT(x:VE)(f:S)(c1:D)(c2:Int)(a e:S)(b c:D):Prop:=f=x.name/\c1=bt dB x.params/\cr x.ty c2 a e b c
def KE(x:AE)(a c1 c2:S):Prop:=a=x.name/\c1=x.module/\c2=x.target
def Z8(x:DE)(a c1:S):Prop:=a=x.name/\c1=x.note
def lQ(x:IF)(b:S)(c1 c2 c a:D):Prop:=b=x.path/\c1=bt fZ x.types/\c2=bt mj x.values/\c=bt qW x.aliases/\a=bt uy x.deprecated
section
variable {A:pP}{d:D}{i:Nat}
def im{l:List Pm}(ha:A=Std)(a:d=bt dB l)(h:i<l.length):J0 l[i] (A.bG (A.cell d (bj i) 0)) (A.asInt (A.cell d (bj i) 1)) (A.asInt (A.cell d (bj i) 2)) (A.bG (A.cell d (bj i) 3)) (A.bG (A.cell d (bj i) 4)) (A.cell d (bj i) 5) (A.cell d (bj i) 6):=⟨(Es ha a h).1,(Es ha a h).2,GX ha a h⟩
def mQ{l:List TE}(ha:A=Std)(a:d=bt fZ l)(h:i<l.length):p8 l[i] (A.bG (A.cell d (bj i) 0)) (A.cell d (bj i) 1) (A.asInt (A.cell d (bj i) 2)) (A.bG (A.cell d (bj i) 3)) (A.bG (A.cell d (bj i) 4)) (A.cell d (bj i) 5) (A.cell d (bj i) 6) (A.asInt (A.cell d (bj i) 7)) (A.bG (A.cell d (bj i) 8)) (A.bG (A.cell d (bj i) 9)) (A.cell d (bj i) 10) (A.cell d (bj i) 11):=⟨(RO ha a h).1,(RO ha a h).2,RN ha a h,RM ha a h⟩
def pg{l:List VE}(ha:A=Std)(a:d=bt mj l)(h:i<l.length):wT l[i] (A.bG (A.cell d (bj i) 0)) (A.cell d (bj i) 1) (A.asInt (A.cell d (bj i) 2)) (A.bG (A.cell d (bj i) 3)) (A.bG (A.cell d (bj i) 4)) (A.cell d (bj i) 5) (A.cell d (bj i) 6):=⟨(RF ha a h).1,(RF ha a h).2,RE ha a h⟩
def z8{l:List AE}(ha:A=Std)(a:d=bt qW l)(h:i<l.length):KE l[i] (A.bG (A.cell d (bj i) 0)) (A.bG (A.cell d (bj i) 1)) (A.bG (A.cell d (bj i) 2)):=SU ha a h
def Nn{l:List DE}(ha:A=Std)(a:d=bt uy l)(h:i<l.length):Z8 l[i] (A.bG (A.cell d (bj i) 0)) (A.bG (A.cell d (bj i) 1)):=Z9 ha a h
def ot{l:List IF}(ha:A=Std)(a:d=bt dy l)(h:i<l.length):lQ l[i] (A.bG (A.cell d (bj i) 0)) (A.cell d (bj i) 1) (A.cell d (bj i) 2) (A.cell d (bj i) 3) (A.cell d (bj i) 4):=Yo ha a h
end
def rA{A:pP}{α:Type}{f:α->List D}{l:List α}{d:D}{i off:Nat}{vs:List D}(ha:A=Std)(b:d=bt f l)(h:i<l.length)(c:(f l[i]).take off++vs++(f l[i]).drop (off+vs.length)=f l[i]):A.nK d (bj i) off vs=d:=by subst ha b;refine(re (a:=bj i) (f:=f) (y:=l[i]) (i:=i) rfl h c).trans ?_;rw[List.set_getElem_self]
end
end Go.VC
namespace Go.VC
open Go
section
section
variable {P:Program}{tt:TypeId->Option TI}{f:FuncId}{args:List PV}{K:PV->List Ob->Prop}
def FC.plain(g:∀args w,(callFunc f args).run P w= .ok (.enter f args) w)
 (h:∀E Pp w vals,WR tt E Pp [] w->eM tt E Pp vals args->Calls P f ⟨vals⟩ w λe w'=>w'=w/\∃v pv,e= .returned v/\VR tt E Pp v pv/\K pv []):FC P tt f [] args K:=by
 intro E Pp w vals d k;refine .inl ⟨g _ _,(h E Pp w vals d k).mono ?_⟩;rintro e w' ⟨rfl,v,pv,rfl,c,hk⟩;exact⟨v,E,Pp,[],pv,rfl,.refl _,λ_ _ h=>h,d,c,hk,Fr.refl _ _,λ_ _ h=>.inl h,λi o ri b j=>yE j⟩
def FC.newRow{e:TypeId}{rows:List (List D)}(t:∀args w,(callFunc f args).run P w= .ok (.enter f args) w)
 (h:∀E Pp w vals,WR tt E Pp [] w->eM tt E Pp vals args->Calls P f ⟨vals⟩ w λe' w'=>∃us q cap,e'= .returned (.slice (some ⟨w.heap.size,0,none⟩) rows.length cap)/\w'=(w.drewN q).alloc (.cells ⟨us⟩ e)/\rows.length<=cap/\
   cap*(bN tt e).length<=us.length/\wR tt Pp e us 0 rows) (hK:K (.row e 0) [.row e (.list rows) true]):FC P tt f [] args K:=by
 intro E Pp w vals l y;refine .inl ⟨t _ _,(h E Pp w vals l y).mono ?_⟩;rintro e' w' ⟨us,q,cap,rfl,rfl,n,s,dN⟩;have r:E=[]:=cm (by have:=l.len;simpa using this);subst r;have d:(w.drewN q).heap=w.heap:=rfl;have p:((w.drewN q).alloc (.cells ⟨us⟩ e)).heap[w.heap.size]? =some (.cells ⟨us⟩ e (0,0)):=by show (((w.drewN q).heap).push _)[w.heap.size]? =_;rw[d];simp
 have c:∀k,k<w.heap.size->((w.drewN q).alloc (.cells ⟨us⟩ e)).heap[k]? =w.heap[k]? :=by intro k hk;show (((w.drewN q).heap).push _)[k]? =_;rw[d,Array.getElem?_push,if_neg yO]
 have g:∀ad v,Pp ad v->ad.block≠w.heap.size:=km l;refine⟨_,[.row w.heap.size 0 rows.length cap],Pp,[.row e (.list rows) true],.row e 0,rfl,λi x B=>yE B,λ_ _ h=>h,?_,.row _ _ _ _ _ _ rfl,hK,?_,λ_ _ h=>.inl h,?_⟩
 ·refine⟨rfl,?_,?_,?_,l.gl⟩
  ·intro ad v u;have:=l.pi ad v u;rw[ia (c _ (yu this))];exact this
  ·intro i o m hl;cases i with
   |succ i=>simp at m
   |zero=>simp at m;subst m;refine⟨_,rfl,us,e,rows,p,rfl,rfl,n,by rw[dY];exact s,dN,λ_=>g,λh=>yC h⟩
  ·intro i j oi oj ri rj b A z _ _ _ _ _ _;cases i<;>cases j<;>simp at A z ⊢
 ·refine⟨rfl,rfl,rfl,?_,?_,λk hk _=>c k hk⟩
  ·show w.heap.size<=((w.drewN q).heap.push _).size;rw[d];simp
  ·intro _;show w.drawn<=(w.drewN q).drawn;simp[World.drewN]
 ·intro i o ri b m hl hr hb;cases i with
  |succ i=>simp at m
  |zero=>simp at hr;subst hr;simp[RI.cZ]at hb;subst hb;exact .inl (bX _)
end
def jC:S->List S
 |[]=>[[]]
 |c::l=>if c=47 then []::jC l else match jC l with|[]=>[[c]]|x::xs=>(c::x)::xs
def vn:∀{l:S},Lib.indexByte l 47= -1->jC l=[l]
 |[],_=>rfl
 |c::l,h=>by
  unfold Lib.indexByte at h;by_cases hc:c=47
  ·subst hc;simp at h
  ·rw[if_neg (yU hc)]at h
   have:Lib.indexByte l 47= -1:=by
    have:=Lib.indexByte_ge l 47;split at h
    ·rename_i J;simpa using J
    ·omega
   simp[jC,hc,vn this]
def D7:∀{l:S}{i:Nat},Lib.indexByte l 47=(i:Int)->jC l=l.take i::jC (l.drop (i+1))
 |[],i,h=>by simp[Lib.indexByte]at h
 |c::l,i,h=>by
  unfold Lib.indexByte at h;by_cases hc:c=47
  ·subst hc;have:i=0:=by simp at h;omega
   subst this;simp[jC]
  ·rw[if_neg (yU hc)]at h;split at h
   ·omega
   ·rename_i J;cases i with
    |zero=>have:=Lib.indexByte_ge l 47;have J:Lib.indexByte l 47≠ -1:=yU J;omega
    |succ i=>have:=D7 (l:=l) (i:=i) yO;simp[jC,hc,this]
def Gx(sep:ByteArray)(d:sep.data.toList=[47]):∀(k:Nat)(s:ByteArray),Lib.countB s sep<=k->(Lib.splitB sep 0 k s).map (·.data.toList)=jC s.data.toList:=by
 have fW:sep.size=1:=by rw[Lib.size_eq,d];rfl
 have c:∀s,Lib.indexB s sep=Lib.indexByte s.data.toList 47:=λs=>by rw[Lib.one s sep fW];have h0:=Lib.data_getElem? sep 0 yO;rw[d]at h0;simp at h0;rw[<- h0];rfl
 intro k;induction k with
 |zero=>
  intro s h;rw[Lib.splitB_zero];rcases Lib.indexB_cases s sep with h1|⟨i,h1,_⟩
  ·rw[c]at h1;rw[vn h1];rfl
  ·have:=Lib.countB_hit s sep i yO h1;omega
 |succ k e=>
  intro s h;rcases Lib.indexB_cases s sep with h1|⟨i,h1,J⟩
  ·rw[Lib.splitB_miss _ _ _ _ h1];rw[c]at h1;rw[vn h1];rfl
  ·have:=Lib.countB_hit s sep i yO h1;rw[Lib.splitB_hit _ _ _ _ _ h1,bF,e _ yO,iw,Lib.extract_from_zero];rw[c]at h1;rw[D7 h1,fW]
   congr 2
   simp only[Dz,Array.toList_extract,List.extract_eq_drop_take];rw[ek];rw[qi,Lib.size_eq];exact bX _
end
end Go.VC
namespace Go.VC.cc
open Go Go.VC Go.Proofs
section
variable {K:PV->List Ob->Prop}{a b:S}
def Rc:vM tt=some 3:=by kernel_rfl
def W6(h:∀r:Int,r=Lib.compareBytes a b->K (.int .i64 r) []):FT 290 [] [.str a,.str b] K:=by
 refine FC.plain (enters_of Tryz.func290 (by kernel_rfl) rfl) λE Pp w vals d c=>?_;cases c with|cons _ _ _ _ h1 c=>cases c with|cons _ _ _ _ J c=>
 cases c;cases h1;cases J;exact(Tryz.strings_Compare _ _ w).mono λe w' ⟨h1,J⟩=>⟨J,_,_,h1,.int _ _,h _ rfl⟩
def aaB(h:∀(r:S)(b':Bool),r=Lib.trimPrefix a b->b'=Lib.hasPrefix a b->K (.tup [.str r,.bool b']) []):FT 329 [] [.str a,.str b] K:=by
 refine FC.plain (enters_of Tryz.func329 (by kernel_rfl) rfl) λE Pp w vals d c=>?_;cases c with|cons _ _ _ _ h1 c=>cases c with|cons _ _ _ _ J c=>
 cases c;cases h1;cases J;exact(Tryz.strings_CutPrefix _ _ w).mono λe w' ⟨h1,J⟩=>⟨J,_,_,h1,.tup _ _ (.cons _ _ _ _ (.str _) (.cons _ _ _ _ (.bool _) .nil)),h _ _ rfl rfl⟩
def F73{i:Nat}(d:i<100)(h:∀r:S,r=Lib.decDigits i->K (.str r) []):FT 73 [] [.int .i64 (bj i)] K:=by
 refine FC.plain (enters_of Tryz.func73 (by kernel_rfl) rfl) λE Pp w vals g c=>?_;cases c with|cons _ _ _ _ h1 c=>
 cases c;cases h1;exact(Tryz.strconv_Itoa_small i d w).mono λe w' ⟨h1,J⟩=>⟨J,_,_,h1,.str _,h _ rfl⟩
def W3(ha:a.length<4294967281)(h:∀r:Bool,r=Lib.contains a b->K (.bool r) []):FT 307 [] [.str a,.str b] K:=by
 refine FC.plain (enters_of Tryz.func307 (by kernel_rfl) rfl) λE Pp w vals d c=>?_;obtain⟨m,g⟩:=d.gl.1 3 Rc;cases c with|cons _ _ _ _ h1 c=>cases c with|cons _ _ _ _ J c=>
 cases c;cases h1;cases J;exact(Tryz.strings_Contains _ _ m w (by rw[Lib.size_eq];exact ha) (d.R7 g)).mono λe w' ⟨h1,J⟩=>⟨J,_,_,h1,.bool _,h _ rfl⟩
def Np:bN tt 9=[.str]:=by kernel_rfl
def GJ{Pp:fQ}{bs:List ByteArray}{zs:List Value}:wR tt Pp 9 (bs.map Value.string++zs) 0 ((bs.map λb=>b.data.toList).map cT):=by
 intro i row e;rw[cC,cC]at e;cases g:bs[i]? with
 |none=>rw[g]at e;cases e
 |some b=>
  rw[g]at e;cases e;rw[Np];refine⟨rfl,λj d ck h c=>?_⟩;cases j with
  |succ j=>simp at c
  |zero=>simp[cT]at h c;subst h c;have e:=(dr.1 g).1;refine⟨.string b,?_,.str b⟩;rw[bO (by simp;exact e)];simp[g]
def W2(ha:a.length<4294967281)(h:∀d,d=bt cT (jC a)->K (.row 9 0) [.row 9 d true]):FT 309 [] [.str a,.str [47]] K:=by
 refine FC.newRow (e:=9) (rows:=(jC a).map cT) (enters_of Tryz.func309 (by kernel_rfl) rfl) (λE Pp w vals i g=>?_) (h _ rfl);obtain⟨m,j⟩:=i.gl.1 3 Rc;cases g with|cons v1 _ _ _ h1 g=>cases g with|cons v2 _ _ _ J g=>
 cases g;obtain⟨s,rfl,hs⟩:∃b,v1= .string b/\a=b.data.toList:=by cases h1;exact⟨_,rfl,rfl⟩
 obtain⟨sep,rfl,c⟩:∃b,v2= .string b/\[47]=b.data.toList:=by generalize ([47]:S)=z at J;cases J;exact⟨_,rfl,rfl⟩
 subst hs;have fW:sep.size=1:=by rw[Lib.size_eq,<-c];rfl
 refine(Tryz.strings_Split s sep m w (by rw[Lib.size_eq];exact ha) (i.R7 j) yO).mono ?_;rintro e w' ⟨rfl,rfl⟩;have e1:=Gx sep c.symm (Lib.countB s sep) s (bX _);have e2:((Lib.splitB sep 0 (Lib.countB s sep) s)).length=Lib.countB s sep+1:=Lib.splitB_all sep yO 0 _ s rfl;have e3:(jC s.data.toList).length=Lib.countB s sep+1:=by rw[<- e1,bA,e2]
 refine⟨(Lib.splitB sep 0 (Lib.countB s sep) s).map Value.string,0,Lib.countB s sep+1,?_,rfl,?_,?_,?_⟩
 ·rw[bA,e3]
 ·rw[bA,e3];exact bX _
 ·rw[Np,bA,e2];simp
 ·have:=GJ (Pp:=Pp) (bs:=Lib.splitB sep 0 (Lib.countB s sep) s) (zs:=[]);rw[e1,cz]at this;exact this
end
end Go.VC.cc
namespace Go.VC
section
variable {p:Int->Bool}{s:S}{i:Nat}
def xN(c:Int):Bool:=decide (97<=c)&&decide (c<=122)
def P6(c:Int):Bool:=decide (65<=c)&&decide (c<=90)
def Fy(c:Int):Bool:=decide (48<=c)&&decide (c<=57)
def xD(c:Int):Bool:=xN c||P6 c||Fy c||c==95
def QW(c:Int):Bool:=xN c||Fy c
def td(p:Int->Bool)(s:S):Bool:=s.all λc=>p (c.toNat:Int)
def KC(h:i<s.length)(ha:td p (s.take i)=true)(a:p (s[i].toNat:Int)=true):td p (s.take (i+1))=true:=lz h ha a
def HJ(h:i<s.length)(a:p (s[i].toNat:Int)=false):td p s=false:=all_false h a
end
end Go.VC
namespace Go.VC.cc
open Go Go.VC Go.Proofs
section
variable {c:Int}{K:PV->List Ob->Prop}
def Tx(h:∀b,b=xN c->K (.bool b) []):FT 257 [] [.int .u8 c] K:=by
 refine en (cf 9) Tryz.func257 λA C L X=>?_;cbv;repeat' (first|apply bk|exact zf|(intro J;cbv)|apply bB)
 all_goals (refine h _ ?_;obtain rfl:=X.a;simp only[SD]at *;simp[xN,J])
def Xc(h:∀b,b=P6 c->K (.bool b) []):FT 216 [] [.int .u8 c] K:=by
 refine en (cf 9) Tryz.func216 λA C L X=>?_;cbv;repeat' (first|apply bk|exact zf|(intro J;cbv)|apply bB)
 all_goals (refine h _ ?_;obtain rfl:=X.a;simp only[SD]at *;simp[P6,J])
def Tw(h:∀b,b=Fy c->K (.bool b) []):FT 258 [] [.int .u8 c] K:=by
 refine en (cf 9) Tryz.func258 λA C L X=>?_;cbv;repeat' (first|apply bk|exact zf|(intro J;cbv)|apply bB)
 all_goals (refine h _ ?_;obtain rfl:=X.a;simp only[SD]at *;simp[Fy,J])
def abl(h:∀b,b=xD c->K (.bool b) []):FT 218 [] [.int .u8 c] K:=by
 refine en (cf 17) Tryz.func218 λA C L X=>?_;cbv;refine X.call (Tx λb1 a=>?_);cbv;repeat' (first|apply bk|exact zf|(intro J;cbv)|apply bB|(refine X.call (Xc λb2 e=>?_);cbv)|(refine X.call (Tw λf d=>?_);cbv))
 all_goals (refine h _ ?_;obtain rfl:=X.a;simp only[SD,gV]at *;simp_all[xD])
def aaG(h:∀b,b=QW c->K (.bool b) []):FT 311 [] [.int .u8 c] K:=by
 refine en (cf 9) Tryz.func311 λA C L X=>?_;cbv;refine X.call (Tx λb1 d=>?_);cbv;repeat' (first|apply bk|exact zf|(intro J;cbv)|apply bB|(refine X.call (Tw λe a=>?_);cbv))
 all_goals (refine h _ ?_;obtain rfl:=X.a;(try simp only[SD]at J);simp_all[QW])
def Pu:(∀{s:S}(hs:s.length<=4294967295){K:PV->List Ob->Prop}(h:∀ b,b=td QW s->K (.bool b) []),FT 217 [] [.str s,.cu 311 []] K)/\
 (∀{s:S}(hs:s.length<=4294967295){K:PV->List Ob->Prop}(h:∀ b,b=td Fy s->K (.bool b) []),FT 217 [] [.str s,.cu 258 []] K)/\
 (∀{s:S}(hs:s.length<=4294967295){K:PV->List Ob->Prop}(h:∀ b,b=td xD s->K (.bool b) []),FT 217 [] [.str s,.cu 218 []] K):=by
 refine⟨?_,?_,?_⟩;have l:=trivial
 rotate_left
 have k:=trivial
 rotate_left
 have m:=trivial
 rotate_left
 all_goals (
  intro s hs K h;refine en (cf 18) Tryz.func217 λA C L X=>?_;obtain⟨n,j⟩:∃n,n=s.length:=⟨_,rfl⟩;have a:A.fe s=bj n:=by rw[X.a,j];rfl
  cbv
  first
   |(have e:=l
     refine X.loop (λ(i:Nat)=>⟨[(8,.int .i64 i),(7,.int .i64 (A.fe s)),(1,.cu 311 []),(0,.str s)],[]⟩)
      (λi=>i<=n/\td QW (s.take i)=true) (λi=>n-i) 0 ⟨bw _,rfl⟩ ?_ ?_)
   |(have e:=k
     refine X.loop (λ(i:Nat)=>⟨[(8,.int .i64 i),(7,.int .i64 (A.fe s)),(1,.cu 258 []),(0,.str s)],[]⟩)
      (λi=>i<=n/\td Fy (s.take i)=true) (λi=>n-i) 0 ⟨bw _,rfl⟩ ?_ ?_)
   |(refine X.loop (λ(i:Nat)=>⟨[(8,.int .i64 i),(7,.int .i64 (A.fe s)),(1,.cu 218 []),(0,.str s)],[]⟩)
      (λi=>i<=n/\td xD (s.take i)=true) (λi=>n-i) 0 ⟨bw _,rfl⟩ ?_ ?_)
  ·exact yc
  rintro i ⟨o,ha⟩;cbv;refine⟨λh1=>?_,λh1=>?_⟩
  ·have h5:i<s.length:=by obtain rfl:=X.a;simp only[SD,fP]at h1 a;omega
   have g:A.idx (bj i) (A.fe s):=by rw[a,X.a,j];exact⟨eO _,sf.2 h5⟩
   have f:=jX X.a h5;have d:A.Cv s (bj i)=(s[i].toNat:Int):=by rw[X.a];simp[Std,dS,cx,h5]
   have Y:=fg X.a;cbv;repeat' (first|apply bk|exact zf|(intro J;cbv)|apply bB)
   any_goals exact g
   first
    |(have e:=l
      refine X.call (aaG λb hb=>?_);have hb:b=QW (A.Cv s (bj i)):=hb)
    |(have e:=k
      refine X.call (Tw λb hb=>?_);have hb:b=Fy (A.Cv s (bj i)):=hb)
    |(refine X.call (abl λb hb=>?_)
      have hb:b=xD (A.Cv s (bj i)):=hb)
   rw[d]at hb;cbv;repeat' (first|apply bk|exact zf|(intro J;cbv)|apply bB)
   any_goals exact f
   ·exact h _ (by have J:A.not b=true:=yA;have J:=(Y b).symm.trans J;rw[HJ h5];rw[<- hb];simpa using J)
   ·refine⟨i+1,⟨?_,?_⟩,?_,?_⟩
    ·omega
    ·exact KC h5 ha (by have J:A.not b=false:=yA;have J:=(Y b).symm.trans J;rw[<- hb];simpa using J)
    ·omega
    exact yc
  ·have h5:i=n:=by obtain rfl:=X.a;simp only[SD,fP]at h1 a;omega
   cbv;exact h _ (by rw[h5,j,bz]at ha;exact ha.symm))
end
end Go.VC.cc
namespace Go.VC
def XO:S:=[32,97,110,100,32,97,110,121,32,97,115,32,98,111,111,108,32,100,101,112,114,101,99,97,116,101,100,32,101,108,115,101,32,101,120,112,111,114,116,32,102,97,108,115,101,32,102,110,32,102,111,108,100,32,102,114,111,109,32,105,102,32,105,109,112,111,114,116,32,105,110,32,105,110,116,32,108,101,110,103,116,104,32,108,101,116,32,108,105,115,116,32,109,97,116,99,104,32,109,111,100,117,108,101,32,110,111,110,101,32,110,111,116,32,111,114,32,116,101,120,116,32,116,104,101,110,32,116,114,117,101,32,116,121,112,101,32,117,115,101,32]
def UL(s:S):Bool:=Lib.contains XO ([32]++s++[32])
def TW(s:S):Int:=((s.getD 0 0).toNat:Int)
def kn(s:S):Bool:=s != []&&decide (s.length<=32)&&xN (TW s)&&td xD s&& !UL s
def oH(s:S):Bool:=s != []&&decide (s.length<=32)&&P6 (TW s)&&td xD s
def NW{a b:S}:Std.kM a b=a++b:=rfl
def o8{a:S}:Std.Cv a 0=TW a:=rfl
end Go.VC
namespace Go.VC.cc
open Go Go.VC Go.Proofs
section
variable {s:S}{K:PV->List Ob->Prop}
def aaQ(hs:s.length<=4294967295)(h:∀b,b=UL s->K (.bool b) []):FT 289 [] [.str s] K:=by
 refine en (cf 7) Tryz.func289 λA C L X=>?_;have d:∀a:S,A.kM a [32]=a++[32]:=by rw[X.a];exactλ_=>rfl
 have e:A.kM [32] s=[32]++s:=yX;have c:A.inr .i64 (A.add (A.fe [32]) (A.fe s)):=by rw[X.a,fw,fx,gR,gR];simp;omega
 have f:A.inr .i64 (A.add (A.fe (A.kM [32] s)) (A.fe [32])):=by rw[X.a,fw,fx,gR,gR,NW];simp;omega
 cbv;refine⟨c,f,?_⟩;refine X.call (W3 (a:=XO) ?_ λb hb=>?_)
 ·simp[XO]
 cbv;have hb:b=Lib.contains XO (A.kM (A.kM [32] s) [32]):=hb;rw[d,e]at hb;exact h _ hb
def GW{A:pP}(ha:A=Std)(h:A.not (A.seq s [])=true):A.idx 0 (A.fe s):=by
 subst ha;cases s with
 |nil=>simp[gj,Dr]at h
 |cons c l=>exact⟨Int.le_refl 0,by rw[gR,bI];omega⟩
def KN(hs:s.length<=4294967295)(h:∀b,b=oH s->K (.bool b) []):FT 185 [] [.str s] K:=by
 refine en (cf 19) Tryz.func185 λA C L X=>?_;have a:=λh=>GW X.a (s:=s) h;cbv;repeat' (first|apply bk|exact zf|(intro J;cbv)|apply bB|(refine X.call (Xc λb1 d=>?_);cbv)|(refine X.call (Pu.2.2 hs λb2 c=>?_);cbv))
 any_goals exact a yA
 all_goals (refine h _ ?_;obtain rfl:=X.a;simp only[o8,SD]at* <;>simp_all[oH]<;>omega)
def HR(hs:s.length<=4294967295)(h:∀b,b=kn s->K (.bool b) []):FT 263 [] [.str s] K:=by
 refine en (cf 24) Tryz.func263 λA C L X=>?_;have a:=λh=>GW X.a (s:=s) h;cbv;repeat' (first|apply bk|exact zf|(intro J;cbv)|apply bB|(refine X.call (Tx λb1 c=>?_);cbv)|(refine X.call (Pu.2.2 hs λb2 e=>?_);cbv)|(refine X.call (aaQ hs λf d=>?_);cbv))
 any_goals exact a yA
 all_goals (refine h _ ?_;obtain rfl:=X.a;simp only[o8,SD]at* <;>simp_all[kn]<;>omega)
def aaO(hs:s.length<=4294967295)(h:∀b,b=(kn s||oH s)->K (.bool b) []):FT 295 [] [.str s] K:=by
 refine en (cf 9) Tryz.func295 λA C L X=>?_;cbv;refine X.call (HR hs λb1 c=>?_);cbv;repeat' (first|apply bk|exact zf|(intro J;cbv)|apply bB|(refine X.call (KN hs λb2 a=>?_);cbv))
 all_goals (refine h _ ?_;obtain rfl:=X.a;(try simp only[SD]at J);simp_all)
end
end Go.VC.cc
namespace Go.VC
def Lc(r:S):Bool:=r != []&&decide (r.length<=3)&& !(decide (1<r.length)&&TW r==48)&&td Fy r
def OA(s:S):Bool:=Lib.hasPrefix s [118]&&Lc (Lib.trimPrefix s [118])
def D8(s:S):Bool:=kn s&&td QW s
def EM(s:S):Int:=if OA ((jC s).getLast?.getD [])&&decide (s.length<=64)&&decide (2<=(jC s).length)&&(jC s).all D8 then 0 else 4
def IG(s:S):Bool:=EM s==0
def OY(s:S):jC s≠[]:=by
 induction s with
 |nil=>simp[jC]
 |cons c l a=>
  unfold jC;split
  ·simp
  ·cases h:jC l with
   |nil=>simp
   |cons x xs=>simp
def LK(s:S):(jC s).length<=s.length+1/\∀x∈jC s,x.length<=s.length:=by
 induction s with
 |nil=>simp[jC]
 |cons c l b=>
  unfold jC;split
  ·refine⟨yQ,λx a=>?_⟩;rcases bx.1 a with rfl|a
   ·simp
   ·have:=b.2 x a;simp;omega
  ·cases h:jC l with
   |nil=>simp
   |cons y ys=>
    rw[h]at b;refine⟨by simp at b ⊢;omega,λx a=>?_⟩;rcases bx.1 a with rfl|a
    ·have:=b.2 y yS;simp;omega
    ·have:=b.2 x (by simp[a]);simp;omega
end Go.VC
namespace Go.VC.cc
open Go Go.VC Go.Proofs
section
variable {s:S}{K:PV->List Ob->Prop}
def aaH(hs:s.length<=4294967290)(h:∀n b,b=OA s->K (.tup [.int .i64 n,.bool b]) []):FT 310 [] [.str s] K:=by
 refine en (cf 53) Tryz.func310 λA C L X=>?_;cbv;refine X.call (aaB λr l hr e=>?_);have p:r.length<=4294967290:=by rw[hr,Lib.trimPrefix];split<;>(try simp)<;>omega
 obtain⟨n,k⟩:∃n,n=r.length:=⟨_,rfl⟩;have a:A.fe r=bj n:=by rw[X.a,k];rfl
 have m:=λh=>GW X.a (s:=r) h;have d:A.lt 1 (A.fe r)=true->A.idx 0 (A.fe r):=by rw[X.a];intro J;rw[kU,gR]at J;have J:=of_decide_eq_true J;exact⟨Int.le_refl 0,by rw[gR];omega⟩
 have g:∀b,b=(l&&Lc r)->b=OA s:=λb hb=>by rw[hb,e,hr];rfl
 cbv;repeat' (first|apply bk|exact zf|(intro J;cbv)|apply bB|(refine X.call (Pu.2.1 yO λb1 o=>?_);cbv))
 any_goals exact d yA
 all_goals try (refine h _ _ (g _ ?_);obtain rfl:=X.a;subst k;clear m d g a h;simp only[o8,SD]at* <;>simp_all[Lc]<;>(intros;omega))
 all_goals (
  have c:true=(l&&Lc r):=by obtain rfl:=X.a;simp only[o8,SD]at* <;>simp_all[Lc]<;>(intros;omega)
  refine lp X (λy=>y.1<=n) (λy=>n-y.1) (0,0) (bw _) (λ(y:Nat×Int)=>⟨[(40,.int .i64 y.1),(39,.int .i64 (A.fe r)),(5,.int .i64 y.2),(0,.str r)],[]⟩) ?_;rintro⟨i,z⟩ q;simp only at q;cbv;constructor<;>intro h1
  ·have h5:i<r.length:=by obtain rfl:=X.a;simp only[SD]at h1 a;omega
   have j:A.idx (bj i) (A.fe r):=by rw[a,X.a,k];exact⟨eO _,sf.2 h5⟩
   have f:=jX X.a h5;cbv;refine .inr λ_=>?_;cbv;refine⟨j,?_⟩;refine .inr λ_=>?_;cbv;refine .inr λ_=>?_;cbv;refine .inr λ_=>?_;cbv;refine .inl ⟨f,λ_=>?_⟩;cbv;refine⟨(i+1,A.wrap .i64 (A.add (A.wrap .i64 (A.mul 10 z)) (A.wrap .i64 (A.wrap .u8 (A.sub (A.Cv r (bj i)) 48))))),?_,?_,?_⟩
   ·simp only;omega
   ·simp only;omega
   exact yc
  ·cbv;exact h _ _ (g _ c))
def aaP(hs:s.length<=4294967200)(h:∀n e,e=EM s->K (.tup [.int .i64 n,.int .i64 e]) []):FT 294 [] [.str s] K:=by
 have u:=OY s;have v:=LK s;have k:∀i (w:i<(jC s).length),(jC s)[i]∈jC s:=λi w=>br w;have y:(jC s).getLast?.getD []=(jC s)[(jC s).length-1]'(by have:=gz.2 u;omega):=by rw[List.getLast?_eq_getElem?,bu (by have:=gz.2 u;omega)];rfl
 obtain⟨l,hl⟩:∃l,l=jC s:=⟨_,rfl⟩;have H:0<l.length:=by rw[hl];exact gz.2 u
 rw[<- hl]at v;refine en (cf 49) Tryz.func294 λA C L X=>?_;cbv;refine X.call (W2 yO λd t=>?_);rw[<- hl]at t;obtain⟨j,r,a⟩:=lenOf t;have a:A.len d=bj j:=by rw[X.a];exact a
 have q:A.sub (A.len d) 1=bj (l.length-1):=by rw[a,X.a,pL,r];simp only[bD];omega
 have M:A.inr .i64 (A.sub (A.len d) 1):=by rw[q,X.a,fw];simp only[bD];omega
 have I:A.idx (A.sub (A.len d) 1) (A.len d):=by rw[q,X.a,t];exact cY yO
 have m:A.bG (A.cell d (A.sub (A.len d) 1) 0)=(jC s).getLast?.getD []:=by rw[q,pT X.a t yO,y];simp only[hl]
 have E:(A.bG (A.cell d (A.sub (A.len d) 1) 0)).length<=s.length:=by rw[q,pT X.a t yO];exact v.2 _ (br _)
 refine p1 ?_;refine X.call (aaH (bM E yO) λn b hb=>?_);have hb:b=OA (A.bG (A.cell d (A.sub (A.len d) 1) 0)):=hb;rw[m]at hb;have g:∀i,i<=j->(∀x∈l.take i,D8 x=true)->i=j->(b&&decide (s.length<=64)&&decide (2<=l.length))=true->0=EM s:=by intro i _ h1 J h3;rw[J,r,bz]at h1;unfold EM;rw[<- hb,<-hl,h3,iA,if_pos (dE.2 h1)]
 have o:(b&&decide (s.length<=64)&&decide (2<=l.length))=false->4=EM s:=by intro h3;unfold EM;rw[<- hb,<-hl,h3];rfl
 have c:∀i (w:i<l.length),D8 l[i]=false->4=EM s:=by intro i w h3;unfold EM;rw[<- hl];have:l.all D8=false:=all_false w h3;rw[this,oE];rfl
 cbv;repeat' (first|apply bk|exact zf|(intro J;cbv)|apply bB)
 all_goals try (refine h _ _ (o ?_);obtain rfl:=X.a;clear o c g h m y k;simp only[a,SD]at* <;>simp_all<;>(intros;omega))
 have dJ:(b&&decide (s.length<=64)&&decide (2<=l.length))=true:=by obtain rfl:=X.a;clear o c g h m y k;simp only[a,SD]at* <;>simp_all<;>(intros;omega)
 refine lp X (λi=>i<=j/\∀x∈l.take i,D8 x=true) (λi=>j-i) 0 ⟨bw _,yS⟩ (λ(i:Nat)=>⟨[(35,.int .i64 i),(34,.int .i64 (A.len d)),(33,.row 9 0),(5,.int .i64 n)],[.row 9 d true]⟩) ?_;rintro i ⟨w,ha⟩;cbv;constructor<;>intro h1
 ·have h5:i<l.length:=by obtain rfl:=X.a;simp only[a,SD]at h1;omega
  have D:=pT X.a t h5;have G:=iX X.a t h5;have F:=jX X.a h5;have B:(A.bG (A.cell d (bj i) 0)).length<=s.length:=by rw[D];exact v.2 _ (br h5)
  have Y:=fg X.a;cbv;repeat' (first|apply bk|exact zf|(intro J;cbv)|apply bB)
  any_goals exact G
  refine X.call (HR (bM B yO) λb1 p=>?_);have p:b1=kn (A.bG (A.cell d (bj i) 0)):=p;rw[D]at p;cbv;repeat' (first|apply bk|exact zf|(intro J;cbv)|apply bB|(refine X.call (Pu.1 (bM B yO) λb2 f=>?_);cbv))
  any_goals exact F
  ·have f:b2=td QW (A.bG (A.cell d (bj i) 0)):=f;rw[D]at f;refine h _ _ (c i h5 ?_);have J:=(Y _).symm.trans J;rw[D8,<-f];simp at J;simp[J]
  ·have f:b2=td QW (A.bG (A.cell d (bj i) 0)):=f;rw[D]at f;have e1:A.not b1=false:=yA;have e2:A.not b2=false:=yA;rw[Y]at e1 e2;refine⟨i+1,⟨?_,?_⟩,?_,?_⟩
   ·omega
   ·rw[cj h5];intro x z;rcases bE.1 z with z|z
    ·exact ha x z
    ·rw[cU]at z;rw[z,D8,<-p,<-f];simp_all
   ·omega
   exact yc
  ·refine h _ _ (c i h5 ?_);have J:A.not b1=true:=J;rw[Y]at J;rw[D8,<-p];simp at J;simp[J]
 ·have h5:i=j:=by obtain rfl:=X.a;simp only[a,SD]at h1;omega
  cbv;exact h _ _ (g i w ha h5 dJ)
def W7(hs:s.length<=4294967200)(h:∀b,b=IG s->K (.bool b) []):FT 279 [] [.str s] K:=by refine en (cf 12) Tryz.func279 λA C L X=>?_;cbv;refine X.call (aaP hs λn e he=>?_);cbv;exact h _ (by rw[IG,<-he];obtain rfl:=X.a;rfl)
end
end Go.VC.cc
namespace Go.Proofs
open Go.Shelf
def Tryz.D2:Go.Shelf.Ren:=⟨fun|6=>286|15=>196|14=>306|28=>237|29=>238|20=>318|21=>319|22=>320|23=>321|24=>322|25=>323|26=>324|27=>325|46=>338|47=>271|48=>272|49=>339|50=>340|57=>346|n=>n,fun|22=>256|24=>259|25=>314|3=>3|39=>250|0=>0|53=>296|55=>281|4=>4|46=>288|45=>287|50=>293|5=>5|9=>9|66=>323|70=>327|76=>344|77=>345|n=>n,fun|n=>n⟩
def Tryz.Ip:Go.Proofs.SlLaysF0.n6 Tryz.prog Tryz.D2:={
 mixed:=by kernel_rfl
 f6:=⟨Tryz.f286.name,by decide,Tryz.func286.trans (congrArg some (by kernel_rfl))⟩
 f14:=⟨Tryz.f306.name,by decide,Tryz.func306.trans (congrArg some (by kernel_rfl))⟩
 f15:=Tryz.func196.trans (congrArg some (by kernel_rfl))
 f20:=⟨Tryz.f318.name,by decide,Tryz.func318.trans (congrArg some (by kernel_rfl))⟩
 f21:=⟨Tryz.f319.name,by decide,Tryz.func319.trans (congrArg some (by kernel_rfl))⟩
 f22:=⟨Tryz.f320.name,by decide,Tryz.func320.trans (congrArg some (by kernel_rfl))⟩
 f23:=⟨Tryz.f321.name,by decide,Tryz.func321.trans (congrArg some (by kernel_rfl))⟩
 f24:=⟨Tryz.f322.name,by decide,Tryz.func322.trans (congrArg some (by kernel_rfl))⟩
 f25:=⟨Tryz.f323.name,by decide,Tryz.func323.trans (congrArg some (by kernel_rfl))⟩
 f26:=⟨Tryz.f324.name,by decide,Tryz.func324.trans (congrArg some (by kernel_rfl))⟩
 f27:=⟨Tryz.f325.name,by decide,Tryz.func325.trans (congrArg some (by kernel_rfl))⟩
 f28:=Tryz.func237.trans (congrArg some (by kernel_rfl))
 f29:=Tryz.func238.trans (congrArg some (by kernel_rfl))
 f46:=⟨Tryz.f338.name,by decide,Tryz.func338.trans (congrArg some (by kernel_rfl))⟩
 f47:=Tryz.func271.trans (congrArg some (by kernel_rfl))
 f48:=Tryz.func272.trans (congrArg some (by kernel_rfl))
 f49:=⟨Tryz.f339.name,by decide,Tryz.func339.trans (congrArg some (by kernel_rfl))⟩
 f50:=⟨Tryz.f340.name,by decide,Tryz.func340.trans (congrArg some (by kernel_rfl))⟩
 f57:=⟨Tryz.f346.name,by decide,Tryz.func346.trans (congrArg some (by kernel_rfl))⟩
 t0:=Tryz.underlying0
 a0:=Tryz.isAgg0
 z0:=Tryz.sizeOf0
 v0:=Tryz.zeroValue0
 t3:=Tryz.underlying3
 a3:=Tryz.isAgg3
 z3:=Tryz.sizeOf3
 v3:=Tryz.zeroValue3
 t4:=Tryz.underlying4
 a4:=Tryz.isAgg4
 z4:=Tryz.sizeOf4
 v4:=Tryz.zeroValue4
 t5:=Tryz.underlying5
 a5:=Tryz.isAgg5
 z5:=Tryz.sizeOf5
 v5:=Tryz.zeroValue5
 t9:=Tryz.underlying9
 a9:=Tryz.isAgg9
 z9:=Tryz.sizeOf9
 v9:=Tryz.zeroValue9
 t22:=Tryz.underlying256
 a22:=Tryz.isAgg256
 z22:=Tryz.sizeOf256
 v22:=Tryz.zeroValue256
 t25:=Tryz.underlying314
 a25:=Tryz.isAgg314
 z25:=Tryz.sizeOf314
 v25:=Tryz.zeroValue314
 t39:=Tryz.underlying250
 a39:=Tryz.isAgg250
 z39:=Tryz.sizeOf250
 v39:=Tryz.zeroValue250
 t45:=Tryz.underlying287
 a45:=Tryz.isAgg287
 z45:=Tryz.sizeOf287
 v45:=Tryz.zeroValue287
 t46:=Tryz.underlying288
 a46:=Tryz.isAgg288
 z46:=Tryz.sizeOf288
 v46:=Tryz.zeroValue288
 t50:=Tryz.underlying293
 a50:=Tryz.isAgg293
 z50:=Tryz.sizeOf293
 v50:=Tryz.zeroValue293
 t53:=Tryz.underlying296
 a53:=Tryz.isAgg296
 z53:=Tryz.sizeOf296
 v53:=Tryz.zeroValue296
 t55:=Tryz.underlying281
 a55:=Tryz.isAgg281
 z55:=Tryz.sizeOf281
 v55:=Tryz.zeroValue281
 t66:=Tryz.underlying323
 a66:=Tryz.isAgg323
 z66:=Tryz.sizeOf323
 v66:=Tryz.zeroValue323
 t70:=Tryz.underlying327
 a70:=Tryz.isAgg327
 z70:=Tryz.sizeOf327
 v70:=Tryz.zeroValue327
 t76:=Tryz.underlying344
 a76:=Tryz.isAgg344
 z76:=Tryz.sizeOf344
 v76:=Tryz.zeroValue344
 t77:=Tryz.underlying345
 a77:=Tryz.isAgg345
 z77:=Tryz.sizeOf345
 v77:=Tryz.zeroValue345 }
end Go.Proofs
namespace Go.VC
def Et{α β:Type}{f:α->β}{l:List α}{r:List β}(h:r.Perm (l.map f)):∃S:List α,S.Perm l/\r=S.map f:=by
 have h0:pN (λ(b:β) (a:α)=>b=f a) (l.map f) l:=pN.mX yS λi h1 J=>yS;obtain⟨S,h1,J⟩:=pN.perm h h0;refine⟨S,h1,?_⟩;clear h h0 h1;induction J with
 |nil=>rfl
 |cons h t c=>rw[h,c];rfl
end Go.VC
namespace Go.Proofs
open Go.Shelf Go.RowKit Go.Lib Go.Sort
def BK(x:List UInt8):List Value:=[encStr x]
def X0(x y:List UInt8):Int:=if x<y then -1 else 1
def Q4(x y:List UInt8):ltOf X0 x y=decide (x<y):=by unfold ltOf X0;by_cases h:x<y<;>simp[h]
def RV(gu off cap:Nat)(d:Array (List UInt8))(w:World)(m:HoldsK BK 1 w gu off d)(f:gu<w.heap.size)(fW:d.size<4611686018427387904):
 Calls Tryz.prog 150 #[.slice (some ⟨gu,off,none⟩) d.size cap] w λe w'=>e= .returned (.tuple #[])/\∃d' n os,PermIn 0 d.size d d'/\SortedIn (ltOf X0) 0 d.size d'/\w'=sortWorldK BK 1 w gu off n d' os:=by
 have h:=Tryz.slices_Sort_string gu off cap d.toList w (by simpa using Go.VC.holds_one m) f (by simpa using fW);rw[fI]at h;refine h.mono ?_;rintro e w' ⟨rfl,n,os,rfl⟩;have g:=List.mergeSort_perm d.toList λx y=>decide (x<=y);have hs:=List.pairwise_mergeSort (le:=λx y:List UInt8=>decide (x<=y)) (by intro a b c;simp;exact List.le_trans) (by intro a b;simp;exact List.le_total a b) d.toList;obtain⟨S,l⟩:∃S,S=d.toList.mergeSort λx y=>decide (x<=y):=⟨_,rfl⟩;rw[<- l]at g hs ⊢;have hl:S.length=d.size:=by rw[g.length_eq];simp
 refine⟨rfl,S.toArray,n,os,⟨by simp[hl],?_,?_⟩,?_,?_⟩
 ·intro i o;have o:d.size<=i:=by omega
  rw[getElem!_neg _ i (by simp;omega),getElem!_neg d i (by omega)]
 ·rw[jq (by simp;omega),jq (by omega)];simpa using g
 ·intro i j _ k p;rw[getElem!_pos _ i (by simp;omega),getElem!_pos _ j (by simp;omega),Q4];have:=hX.1 hs i j (by omega) (by omega) k;simp at this ⊢;exact this
 ·unfold sortWorldK putRowK;rw[Go.VC.GS];rfl
def D4(p:Option Addr)(cap:Nat)(w:World):Calls Tryz.prog 150 #[.slice p 0 cap] w λe w'=>e= .returned (.tuple #[])/\w'=w:=Tryz.slices_Sort_string_none p cap w
end Go.Proofs
namespace Go.VC.cc
open Go Go.VC Go.Proofs Go.Sort
def SL:bN tt 9=[.str]:=by kernel_rfl
def GQ{Pp:fQ}{v:Value}{d:D}(h:RD tt Pp .str v d):∃b:ByteArray,v= .string b/\d= .str b.data.toList:=by cases h;exact⟨_,rfl,rfl⟩
def UI(x y:List D):Bool:=slt (Std.bG (x.getD 0 .nil)) (Std.bG (y.getD 0 .nil))
def Xo{l:List S}{d:D}{K:PV->List Ob->Prop}(n:d=bt cT l)(B:l.length<4294967296)
 (h:∀(m:List S) r,m.Perm l->m.Pairwise (λa b=>slt b a=false)->r=bt cT m->K (.tup []) [.row 9 r true]):FT 150 [.row 9 d true] [.row 9 0] K:=by
 subst n
 have c:∀{Pp:fQ}{us:List Value}{row:List D},AG tt Pp 9 us row->∃b:ByteArray,us=[.string b]/\row=[.str b.data.toList]:=by
  intro Pp us row h;obtain⟨h1,J,h3⟩:=h;rw[SL]at h1 J h3
  match us,row,h1,J with
  |[u],[r0],_,_=>obtain⟨v,e0,p⟩:=h3 0 r0 _ rfl rfl;simp at e0;subst e0;obtain⟨b,rfl,rfl⟩:=GQ p;exact⟨b,rfl,rfl⟩
 have r8:∀{x:S}{b:ByteArray},BK x=[.string b]->x=b.data.toList:=by intro x b h;simp only[BK,encStr,lW,Value.string.injEq,and_true]at h;rw[<- h]
 refine Io (e:=9) BK X0 UI [] [] SA (λx=>by rw[SL];rfl) ?_ ?_ (enters_of Tryz.func150 (by kernel_rfl) rfl) (l.map cT) yQ ?_ ?_ ?_
 ·rw[SL];exactλgu off cap d w h1 J h3 _=>RV gu off cap d w h1 J h3
 ·exact D4
 ·intro Pp us row hr f;obtain⟨b,rfl,_⟩:=c f;exact⟨b.data.toList,by simp[BK,encStr]⟩
 ·intro Pp x y z A h1 J;obtain⟨a,e1,rfl⟩:=c h1;obtain⟨t,e2,rfl⟩:=c J;rw[Q4,r8 e1,r8 e2,<-vh];rfl
 ·intro k o hs;obtain⟨m,h1,rfl⟩:=Et o;refine h m _ h1 ?_ rfl;rw[hX];intro i j s q g;have:=hs i j (yU s) (yU q) g;simpa[UI,cT,n2]using this
end Go.VC.cc
namespace Go.VC
abbrev U:=S×S
def vQ(x:U):List D:=[.str x.1,.str x.2]
def Bq(a b:U):Bool:=if a.1=b.1 then slt a.2 b.2 else slt a.1 b.1
def Dj(a b:S):Int:=if slt a b then -1 else if slt b a then 1 else 0
def P4(a b:U):Int:=if Dj a.1 b.1≠0 then Dj a.1 b.1 else Dj a.2 b.2
def Jf{a b:S}:Dj a b=0↔a=b:=by
 unfold Dj;split
 ·rename_i h;constructor
  ·intro e;omega
  ·intro e;subst e;rw[gk]at h;cases h
 ·rename_i h;split
  ·rename_i J;constructor
   ·intro e;omega
   ·intro e;subst e;rw[gk]at J;cases J
  ·rename_i J;simp only[true_iff];exact nP (yU h) (yU J)
def xp{a b:S}:(Dj a b<0)↔slt a b=true:=by
 unfold Dj;split
 ·rename_i h;simp[h]
 ·rename_i h;split<;>simp[h]
def P3{a b:U}:decide (P4 a b<0)=Bq a b:=by
 unfold P4 Bq;by_cases h:a.1=b.1
 ·rw[if_neg (by simp[Jf.2 h]),if_pos h];cases hb:slt a.2 b.2 with
  |true=>rw[decide_eq_true_iff];exact xp.2 hb
  |false=>rw[decide_eq_false_iff_not];intro J;rw[xp.1 J]at hb;cases hb
 ·rw[if_pos (λe=>h (Jf.1 e)),if_neg h];cases hb:slt a.1 b.1 with
  |true=>rw[decide_eq_true_iff];exact xp.2 hb
  |false=>rw[decide_eq_false_iff_not];intro J;rw[xp.1 J]at hb;cases hb
def y7(a:U):Bq a a=false:=by unfold Bq;rw[if_pos rfl,gk]
def Bp{a b c:U}(h:Bq a b=true)(d:Bq b c=true):Bq a c=true:=by
 unfold Bq at*;by_cases e1:a.1=b.1
 ·rw[if_pos e1]at h;by_cases e2:b.1=c.1
  ·rw[if_pos e2]at d;rw[if_pos (e1.trans e2)];exact mC h d
  ·rw[if_neg e2]at d;rw[if_neg (λe=>e2 (e1.symm.trans e)),e1];exact d
 ·rw[if_neg e1]at h;by_cases e2:b.1=c.1
  ·rw[if_pos e2]at d;rw[if_neg (λe=>e1 (e.trans e2.symm)),<-e2];exact h
  ·rw[if_neg e2]at d;have f:=mC h d;rw[if_neg (λe=>by rw[e,gk]at f;cases f)];exact f
def IT{a b:U}(h:Bq a b=false)(c:Bq b a=false):a=b:=by
 unfold Bq at*;by_cases e1:a.1=b.1
 ·rw[if_pos e1]at h;rw[if_pos e1.symm]at c;exact fq e1 (nP h c)
 ·rw[if_neg e1]at h;rw[if_neg (λe=>e1 e.symm)]at c;exact absurd (nP h c) e1
def RS:Go.Sort.SWO Bq where
 irrefl x:=y7 x
 trans x y z h1 h2:=Bp h1 h2
 ntrans x y z h1 h2:=by
  cases hb:Bq x z with
  |false=>rfl
  |true=>
   exfalso;cases h3:Bq y x with
   |true=>have:=Bp h3 hb;rw[this]at h2;cases h2
   |false=>have:=IT h1 h3;subst this;rw[hb]at h2;cases h2
end Go.VC
namespace Go.VC.cc
open Go Go.VC Go.Proofs Go.Sort
section
variable {K:PV->List Ob->Prop}
def W8{s:S}(h:∀b,b=false->K (.bool b) []):FT 275 [] [.str s] K:=by refine en (cf 6) Tryz.func275 λA C L X=>?_;have q:=h (A.not (A.seq s s)) (by rw[X.a,gj,Dr];simp);cbv;exact q
def Xb{a b:S}(h:∀r,r=Dj a b->K (.int .i64 r) []):FT 254 [] [.str a,.str b] K:=by
 refine en (cf 20) Tryz.func254 λA C L X=>?_;cbv;refine X.call (W8 λb1 h1=>?_);obtain rfl:=h1;cbv;refine X.call (W8 λb2 h1=>?_);obtain rfl:=h1;cbv;repeat' (first|apply bk|exact zf|(intro J;cbv)|apply bB)
 all_goals first
  |contradiction
  |(refine h _ ?_;unfold Dj;obtain rfl:=X.a;simp only[SD]at *;simp[*];done)
  |(exfalso;obtain rfl:=X.a;simp only[SD]at *;simp at *;done)
  |skip
def aa7{l:List Int}{d:D}{x y:Int}(j:d=kA [x,y])(h:∀r,r=(if x≠0 then x else y)->K (.int .i64 r) []):FT 253 [] [.lst 3 d] K:=by
 have a:Std.len d=bj 2:=by rw[j,o6];rfl
 have ha:∀A:pP,A=Std->A.asInt (A.cell d (bj 0) 0)=x/\A.asInt (A.cell d (bj 1) 0)=y:=by intro A n;subst n j;simp only[BL];exact⟨rfl,rfl⟩
 refine en (cf 18) Tryz.func253 λA C L X=>?_;obtain⟨m,k⟩:=ha A X.a;cbv;refine lu X (λi=>i<=2/\(1<=i->x=0)/\(2<=i->y=0)) (λi=>2-i) 0 ⟨bw _,yO,yO⟩ (λ(i:Nat)=>[(8,.int .i64 i)]) ?_;rintro i ⟨o,h5,h6⟩;cbv;constructor<;>intro h1
 ·have h7:i<2:=lY X.a a h1;have g:A.idx (bj i) (A.len d):=by obtain rfl:=X.a;rw[a,n5];simp only[bD];omega
  have c:=jX X.a h7
  have f:A.asInt (A.cell d (bj i) 0)=(if i=0 then x else y):=by
   rcases(by omega:i=0\/i=1)with rfl|rfl
   ·exact m
   ·exact k
  cbv;repeat' (first|apply bk|exact zf|(intro J;cbv)|apply bB)
  any_goals exact g
  any_goals exact c
  ·have e:¬(if i=0 then x else y)=0:=by rw[<- f];obtain rfl:=X.a;simpa only[SD]using J
   refine h _ ?_;refine f.trans ?_;by_cases b:i=0
   ·rw[if_pos b]at e ⊢;rw[if_pos e]
   ·rw[if_neg b]at e ⊢;rw[if_neg (by simp[h5 yO])]
  ·have e:(if i=0 then x else y)=0:=by rename_i g3;rw[<- f];obtain rfl:=X.a;simpa only[SD,fP]using g3
   refine⟨i+1,⟨yO,λ_=>?_,λ_=>?_⟩,yO,?_⟩
   ·by_cases b:i=0
    ·rw[if_pos b]at e;exact e
    ·exact h5 yO
   ·rw[if_neg yO]at e;exact e
   exact yc
 ·have h7:i=2:=gY X.a a h1;cbv;refine h 0 ?_;rw[if_neg (by simp[h5 yO]),h6 yO]
def aa8{a b:U}(h:∀r,r=P4 a b->K (.int .i64 r) []):FT 252 [] [.agg [.str a.1,.str a.2],.agg [.str b.1,.str b.2]] K:=by obtain⟨a1,a2⟩:=a;obtain⟨b1,b2⟩:=b;refine en Zu Tryz.func252 λA C L X=>?_;refine p1 ?_;refine X.call (Xb λd h1=>?_);refine p1 ?_;refine X.call (Xb λr2 c=>?_);have e:A.lit [[.int d],[.int r2]]=kA [d,r2]:=yX;refine p1 ?_;refine X.call (aa7 (l:=[]) e λr hr=>?_);refine p1 ?_;refine h _ ?_;rw[hr,h1,c];rfl
end
end Go.VC.cc
namespace Go.Proofs
open Go.Shelf Go.RowKit Go.Lib Go.Sort Go.VC
abbrev UB:=ByteArray×ByteArray
instance:Inhabited UB:=⟨(⟨#[]⟩,⟨#[]⟩)⟩
def UB.u(x:UB):U:=(x.1.data.toList,x.2.data.toList)
def zK(x:UB):List Value:=[.string x.1,.string x.2]
def SP(x y:UB):Int:=P4 x.u y.u
def IU(x y:UB):ltOf SP x y=Bq x.u y.u:=P3
def Ud:SWO (ltOf SP) where
 irrefl x:=by rw[IU];exact RS.irrefl _
 trans x y z h1 h2:=by rw[IU]at *;exact RS.trans _ _ _ h1 h2
 ntrans x y z h1 h2:=by rw[IU]at *;exact RS.ntrans _ _ _ h1 h2
def OU(gu off cap:Nat)(d:Array UB)(w:World)(i:HoldsK zK 2 w gu off d)(f:gu<w.heap.size)(fW:d.size<4611686018427387904)(h:Tq cc.tt gu w):
 Calls Tryz.prog 286 #[.slice (some ⟨gu,off,none⟩) d.size cap,.func (.func 252) #[] #[]] w λe w'=>e= .returned (.tuple #[])/\∃d' n os,PermIn 0 d.size d d'/\SortedIn (ltOf SP) 0 d.size d'/\w'=sortWorldK zK 2 w gu off n d' os:=by
 have j:∀args w,(callFunc 252 args).run Tryz.prog w= .ok (.enter 252 args) w:=enters_of Tryz.func252 (by kernel_rfl) rfl
 have c:CmpLays Tryz.prog 252 #[] zK 2 SP gu off d.size w:=by
  intro m os k _ x y;refine Kv trivial (r:=SP x y) ⟨Tryz.func252,by rfl,rfl⟩ (cc.aa8 (a:=x.u) (b:=y.u) λr hr=>?_) (MY h) (MZ h) ?_
  ·rw[hr];rfl
  ·exact .cons _ _ _ _ (.agg _ _ (.cons _ _ _ _ (.str _) (.cons _ _ _ _ (.str _) .nil))) (.cons _ _ _ _ (.agg _ _ (.cons _ _ _ _ (.str _) (.cons _ _ _ _ (.str _) .nil))) .nil)
 exact AnyQ.slices_SortFunc Tryz.Ip 2 Tryz.isAgg259 Tryz.sizeOf259 zK (λ_=>rfl) (λx v g=>by simp[zK]at g;rcases g with rfl|rfl<;>rfl) SP Ud 252 #[] gu off cap d w j c i f fW
def Cu(p:Option Addr)(cap:Nat)(w:World):Calls Tryz.prog 286 #[.slice p 0 cap,.func (.func 252) #[] #[]] w λe w'=>e= .returned (.tuple #[])/\w'=w:=AnyF.slices_SortFunc_none Tryz.Ip p cap _ w
end Go.Proofs
namespace Go.VC.cc
open Go Go.VC Go.Proofs Go.Sort
def No:bN tt 259=[.str,.str]:=by kernel_rfl
def UH(x y:List D):Bool:=Bq (Std.bG (x.getD 0 .nil),Std.bG (x.getD 1 .nil)) (Std.bG (y.getD 0 .nil),Std.bG (y.getD 1 .nil))
def aaT{l:List U}{d:D}{K:PV->List Ob->Prop}(n:d=bt vQ l)(H:l.length<4294967296)
 (h:∀(m:List U) r,m.Perm l->m.Pairwise (λa b=>Bq b a=false)->r=bt vQ m->K (.tup []) [.row 259 r true]):FT 286 [.row 259 d true] [.row 259 0,.cu 252 []] K:=by
 subst n
 have c:∀{Pp:fQ}{us:List Value}{row:List D},AG tt Pp 259 us row->∃a b:ByteArray,us=[.string a,.string b]/\row=[.str a.data.toList,.str b.data.toList]:=by
  intro Pp us row h;obtain⟨h1,J,h3⟩:=h;rw[No]at h1 J h3
  match us,row,h1,J with
  |[B,E],[r0,p],_,_=>obtain⟨I,e0,o⟩:=h3 0 r0 _ rfl rfl;obtain⟨C,e1,s⟩:=h3 1 p _ rfl rfl;simp at e0 e1;subst e0;subst e1;obtain⟨a,rfl,rfl⟩:=GQ o;obtain⟨b,rfl,rfl⟩:=GQ s;exact⟨a,b,rfl,rfl⟩
 refine Io (e:=259) zK SP UH [.cu 252 []] [.func (.func 252) #[] #[]] (PW rfl) (λx=>by rw[No];rfl) ?_ ?_ (enters_of Tryz.func286 (by kernel_rfl) rfl) (l.map vQ) yQ ?_ ?_ ?_
 ·rw[No];exactλgu off cap d w h1 J h3 q=>OU gu off cap d w h1 J h3 q
 ·exact Cu
 ·intro Pp us row hr f;obtain⟨a,b,rfl,_⟩:=c f;exact⟨(a,b),rfl⟩
 ·intro Pp x y F G h1 J;obtain⟨a,b,e1,rfl⟩:=c h1;obtain⟨A,b',e2,rfl⟩:=c J;simp only[zK,lW,Value.string.injEq,and_true]at e1 e2;obtain⟨x1,x2⟩:=x;obtain⟨z,L⟩:=y;simp only at e1 e2;obtain⟨rfl,rfl⟩:=e1;obtain⟨rfl,rfl⟩:=e2;rw[IU];rfl
 ·intro g t hs;obtain⟨m,h1,rfl⟩:=Et t;refine h m _ h1 ?_ rfl;rw[hX];intro i j u v k;have:=hs i j (yU u) (yU v) k;simpa[UH,vQ,n2]using this
end Go.VC.cc
namespace Go.VC
def cM(x:S×Bool):List D:=[.str x.1,.bool x.2]
def keys_perm{α β:Type}{m:List α}{x0:α}{f:α->β}{c:List Int}(gx:c.Nodup)(hb:∀j∈c,0<=j/\j<m.length)(ha:∀j:Nat,j<m.length->(j:Int)∈c):(c.map λj=>f (m.getD j.toNat x0)).Perm (m.map f):=by
 have g:c.Perm ((dF m.length).map λj:Nat=>(j:Int)):=by
  rw[oB gx]
  ·intro j;simp only[bH,k9];constructor
   ·intro l;have:=hb j l;exact⟨j.toNat,yO,yO⟩
   ·rintro⟨k,hk,rfl⟩;exact ha k hk
  ·refine List.Pairwise.map _ ?_ List.nodup_range;intro a b e h;exact e yO
 have J:=g.map λj=>f (m.getD j.toNat x0);rw[ep]at J;have h3:(dF m.length).map ((λj:Int=>f (m.getD j.toNat x0))∘λj:Nat=>(j:Int))=m.map f:=by apply Ak yS;intro i h1 J;simp at h1;simp[h1]
 rw[h3]at J;exact J
def Q0:∀(n:Nat)(l:List Int),l.Nodup->(∀j∈l,0<=j/\j<(n:Int))->l.length<=n
 |0,[],_,_=>bX _
 |0,x::l,_,h=>by have:=h x yS;omega
 |n+1,l,gx,h=>by
  have h1:=Q0 n (l.erase (n:Int)) (gx.erase _) (λj b=>by
   have J:=h j (List.mem_of_mem_erase b);have h3:j≠(n:Int):=λe=>by subst e;exact(List.Nodup.not_mem_erase gx) b
   omega)
  have:=List.le_length_erase (a:=(n:Int)) (l:=l);omega
def I3{a:List Int}{n:Nat}(gx:a.Nodup)(hb:∀j∈a,0<=j/\j<(n:Int)){i:Nat}(c:i<n)(e:(bj i)∉a):a.length<n:=by
 have h1:(bj i::a).Nodup:=cq.2 ⟨e,gx⟩
 have J:(bj i::a) ⊆ (dF n).map λj:Nat=>(j:Int):=by
  intro j b;rw[bH];rcases bx.1 b with rfl|b
  ·exact⟨i,yU c,rfl⟩
  ·have:=hb j b;exact⟨j.toNat,yQ,yO⟩
 have h3:=Q0 n _ h1 (λj b=>by obtain⟨k,hk,rfl⟩:=bH.1 (J b);simp at hk;omega);simp at h3;omega
end Go.VC
namespace Go.VC.cc
open Go Go.VC Go.Proofs
section
variable {d:D}{K:PV->List Ob->Prop}{m:List (S×Bool)}
def F80(h:K (.cu 151 [.box 1 0]) [.map .str 4 d,.box [.mp 0]]):FT 80 [.map .str 4 d] [.mp 0] K:=by refine el YO Tryz.func80 λA C L X=>?_;cbv;exact h
def abH{c1 c2:Code}(p:d=bt cM m)
 (y:∀(k:S)(l:List S)(r:D)(w:PV->List Ob->Prop),r=bt cT l->l.length<m.length->(∀r',r'=bt cT (l++[k])->w (.bl true) [.loop 13 [7] c1 c2 [(2,.box 1 0)] .ready,.box [.row 9 3],.dead,.row 9 r' true])->YC Tryz.prog tt [.loop 13 [7] c1 c2 [(2,.box 1 0)] .ready,.box [.row 9 2],.row 9 r true] [.str k] w)
 (h:∀(l:List S)(r:D),r=bt cT l->l.Perm (m.map (·.1))->K (.tup []) [.loop 13 [7] c1 c2 [(2,.box 2 0)] .ready,.box [.mp 3],.box [.row 9 5],.map .str 4 d,.dead,.row 9 r true]):
 FT 151 [.loop 13 [7] c1 c2 [(2,.box 2 0)] .ready,.box [.mp 3],.box [.row 9 4],.map .str 4 d,.row 9 (.list []) true] [.kF 0,.box 1 0] K:=by
 refine el Vq Tryz.func151 λA C L X=>?_;have E:(A=Std):=X.a;cbv
 refine X.ka (λ(x:List Int×D×D)=>⟨[(5,.it 6),(4,.mp 3),(0,.kF 0),(1,.box 1 0)],[.loop 13 [7] c1 c2 [(2,.box 2 0)] .ready,.box [.mp 3],.box [.row 9 5],.map .str 4 d,.dead,.row 9 x.2.2 true,.iter 3 x.2.1]⟩)
  (λx=>x.2.1=kA x.1/\x.2.2=bt cT (x.1.map λj=>(m.getD j.toNat ([],false)).1)/\x.1.Nodup/\∀j∈x.1,0<=j/\j<m.length) (λx=>m.length-x.1.length) ([],.list [],.list []) ⟨rfl,rfl,by simp,by simp⟩ ?_ ?_
 ·exact⟨[0,1,2,3,4,5,6],rfl,yc⟩
 rintro⟨o,z,r⟩ ⟨hz,hr,gx,hb⟩;simp only at hz hr gx hb;cbv;refine⟨λh1=>?_,λj h1=>?_⟩
 ·cbv;have ha:=rh (m:=m) (f:=cM) (l:=o) (by rw[<- p,<-hz,<-X.a];exact h1);refine h _ r hr ?_;exact keys_perm gx hb ha
 ·obtain⟨B,v,u⟩:0<=j/\j<m.length/\j∉o:=te (by rw[<- p,<-hz,<-X.a];exact h1);have g:A.oe z j=kA (o++[j]):=by rw[X.a,hz,xt]
  have c:A.last (A.oe z j)=j:=by rw[g,X.a,uG]
  obtain⟨i,rfl⟩:∃i:Nat,j=bj i:=⟨j.toNat,yL⟩;have q:i<m.length:=by simp only[bD]at v;omega
  have hk:A.bG (A.cell d (A.last (A.oe z (bj i))) 0)=(m.getD i ([],false)).1:=by rw[c,cellAt X.a p q,X.a];simp[cM,n2,q]
  have g1:A.idx 0 (A.len (A.oe z (bj i))):=by rw[g,X.a,o6,n5];simp
  have g2:A.idx (A.last (A.oe z (bj i))) (A.len d):=by rw[c,X.a,p];exact cY q
  cbv;refine⟨g1,g2,?_⟩;have s:(o.map λj=>(m.getD j.toNat ([],false)).1).length<m.length:=by rw[bA];exact I3 gx hb (i:=i) q u
  refine X.round (y _ _ _ _ hr s λr' t=>?_);cbv;refine⟨(o++[bj i],A.oe z (bj i),r'),⟨g,?_,?_,?_⟩,?_,[0,1,2,3,4,7,6],rfl,?_⟩
  ·show r'=_;rw[t,hk];simp
  ·rw[dk];exact⟨gx,yS,λa ha b hb=>by simp at hb;subst hb;exactλe=>u (show (i:Int)∈o from e▸ha)⟩
  ·intro j n;rcases bE.1 n with n|n
   ·exact hb j n
   ·simp only[cU]at n;subst n;exact⟨B,v⟩
  ·simp only[bp,bA]at *;simp;omega
  ·exact yc
def abt(a:d=bt cM m)(c:m.length<4294967296)
 (h:∀(l:List S)(r:D),r=bt cT l->l.Perm (m.map (·.1))->K (.row 9 3) [.dead,.box [.mp 2],.map .str 4 d,.row 9 r true]):
 FT 194 [.row 9 (.list []) true,.box [.mp 2],.map .str 4 d] [.row 9 0,.cu 151 [.box 1 0]] K:=by
 refine el Vh Tryz.func194 λA C L X=>?_;cbv;refine X.range rfl ⟨Tryz.func151,by rfl,rfl⟩ rfl [(2,.box 4 0)] ?_ ?_
 ·cbv
 cbv;refine X.call (abH a ?_ ?_)
 ·intro k l r e hr hl hK;refine YC.enter (G:=Vg) fD mixed rfl rfl rfl rfl rfl ?_;intro A C L X;have hb:A.gr (A.add (A.len r) (A.len (A.lit [[.str k]]))) 4294967296:=by obtain rfl:=X.a;rw[hr];simp only[SD];omega
  have q:=hK (A.app r (A.lit [[.str k]])) (by rw[X.a,hr];exact cD (k:=[k]));cbv;exact⟨hb,q⟩
 ·intro l r hr b;cbv;exact h l r hr b
def abI(a:d=bt cM m)(c:m.length<4294967296)
 (h:∀(l:List S)(r:D),r=bt cT l->l.Perm (m.map (·.1))->K (.row 9 2) [.box [.mp 1],.map .str 4 d,.row 9 r true]):
 FT 149 [.box [.mp 1],.map .str 4 d] [.cu 151 [.box 0 0]] K:=by
 refine el ZN Tryz.func149 λA C L X=>?_;cbv;refine X.call (abt a c λl r hr b=>?_);cbv;exact h l r hr b
end
end Go.VC.cc
namespace Go.VC
section
variable {m:List (S×Bool)}{l:List S}{k:S}
def lA(m:List (S×Bool))(k:S):List (S×Bool):=match m with
 |[]=>[(k,true)]
 |x::r=>if k=x.1 then(k,true)::r else x::lA r k
def pa:Std.lM (bt cM m) (.str k) [.bool true]=bt cM (lA m k):=by
 simp only[Std,dS,bt,cg]
 congr 1
 induction m with
 |nil=>rfl
 |cons x m a=>
  have hk:eP (.str k) (cM x)=(k==x.1):=rfl;simp only[bF,iT,lA];rw[hk];by_cases h:k=x.1
  ·rw[if_pos (by simp[h]),if_pos h];rfl
  ·rw[if_neg (by simp[h]),if_neg h,bF,<-a]
def iv(m:List (S×Bool))(l:List S):List (S×Bool):=l.foldl lA m
def pK:iv m (l++[k])=lA (iv m l) k:=by simp[iv]
def B1{k:List S}:iv m (l++k)=iv (iv m l) k:=by simp[iv]
def vU{s:S}:s∈(lA m k).map (·.1)↔s=k\/s∈m.map (·.1):=by
 induction m with
 |nil=>simp[lA]
 |cons x m a=>
  simp only[lA];split
  ·rename_i h;simp only[bF,bx,<-h];constructor
   ·rintro(h1|h1);exact .inl h1;exact .inr (.inr h1)
   ·rintro(h1|h1|h1);exact .inl h1;exact .inl h1;exact .inr h1
  ·simp only[bF,bx,a];constructor
   ·rintro(h1|h1|h1);exact .inr (.inl h1);exact .inl h1;exact .inr (.inr h1)
   ·rintro(h1|h1|h1);exact .inr (.inl h1);exact .inl h1;exact .inr (.inr h1)
def Ab(h:(m.map (·.1)).Nodup):((lA m k).map (·.1)).Nodup:=by
 induction m with
 |nil=>simp[lA]
 |cons x m a=>
  rw[bF,cq]at h;simp only[lA];split
  ·rename_i hk;rw[bF,cq];subst hk;exact h
  ·rename_i hk;rw[bF,cq,vU];exact⟨λh1=>by rcases h1 with h1|h1;exact hk h1.symm;exact h.1 h1,a h.2⟩
def NS:(lA m k).length<=m.length+1:=by
 induction m with
 |nil=>simp[lA]
 |cons x m a=>simp only[lA];split<;>simp;omega
def Aa:∀{m:List (S×Bool)}{s:S},s∈(iv m l).map (·.1)↔s∈l\/s∈m.map (·.1):=by
 induction l with
 |nil=>intro m s;simp[iv]
 |cons x l a=>
  intro m s;show s∈(iv (lA m x) l).map (·.1)↔_;rw[a,vU,bx];constructor
  ·rintro(h|h|h);exact .inl (.inr h);exact .inl (.inl h);exact .inr h
  ·rintro((h|h)|h);exact .inr (.inl h);exact .inl h;exact .inr (.inr h)
def wQ:∀{m:List (S×Bool)},(m.map (·.1)).Nodup->((iv m l).map (·.1)).Nodup:=by
 induction l with
 |nil=>intro m h;exact h
 |cons x l a=>intro m h;exact a (Ab h)
def KG:∀{m:List (S×Bool)},(iv m l).length<=m.length+l.length:=by
 induction l with
 |nil=>intro m;simp[iv]
 |cons x l a=>intro m;have h1:=a (m:=lA m x);have J:=NS (m:=m) (k:=x);show (iv (lA m x) l).length<=_;simp;omega
def mz(l:List S):Prop:=l.Pairwise λa b=>slt a b=true
def Qu(h:l.Pairwise λa b=>slt b a=false)(c:l.Nodup):mz l:=by
 induction l with
 |nil=>exact DH
 |cons x l f=>
  rw[dG]at h;rw[cq]at c;refine dG.2 ⟨λy d=>?_,f h.2 c.2⟩;cases hb:slt x y with
  |true=>rfl
  |false=>exact absurd (nP hb (h.1 y d)) λe=>c.1 (e▸d)
def F1:∀{l m:List S},mz l->mz m->(∀s,s∈l↔s∈m)->l=m
 |[],[],_,_,_=>rfl
 |[],y::m,_,_,h=>by have:=(h y).2 yS;simp at this
 |x::l,[],_,_,h=>by have:=(h x).1 yS;simp at this
 |x::l,y::m,hl,hm,h=>by
  obtain⟨h1,J⟩:=dG.1 hl;obtain⟨h3,h4⟩:=dG.1 hm
  have a:x=y:=by
   rcases bx.1 ((h x).1 yS)with e|e
   ·exact e
   ·rcases bx.1 ((h y).2 yS)with e2|e2
    ·exact e2.symm
    ·have a1:=h3 x e;have a2:=h1 y e2;rw[JH a1]at a2;cases a2
  subst a
  congr 1
  refine F1 J h4 λs=>⟨λhs=>?_,λhs=>?_⟩
  ·rcases bx.1 ((h s).1 (by simp[hs]))with e|e
   ·subst e;have:=h1 s hs;rw[gk]at this;cases this
   ·exact e
  ·rcases bx.1 ((h s).2 (by simp[hs]))with e|e
   ·subst e;have:=h3 s hs;rw[gk]at this;cases this
   ·exact e
end
end Go.VC
namespace Go.VC.cc
open Go Go.VC Go.Proofs
def F79{m:List (S×Bool)}{d:D}{K:PV->List Ob->Prop}(g:d=bt cM m)(f:m.length<4294967296)(j:(m.map (·.1)).Nodup)
 (h:∀(l:List S)(r:D),r=bt cT l->mz l->(∀s,s∈l↔s∈m.map (·.1))->K (.row 9 2) [.box [.mp 1],.map .str 4 d,.row 9 r true]):
 FT 79 [.box [.mp 1],.map .str 4 d] [.cu 151 [.box 0 0]] K:=by
 refine el g79 Tryz.func79 λA C L X=>?_;cbv;refine X.call (abI g f λl r hr e=>?_);cbv;refine X.call (Xo hr (by rw[e.length_eq];simpa using f) λi r' b hs c=>?_);cbv;have a:=b.trans e;exact h i r' c (Qu hs (a.nodup_iff.2 j)) λs=>a.mem_iff
end Go.VC.cc
namespace Go.VC
section
variable {m:List (U×Bool)}{l:List U}{k:U}
def kh(x:U×Bool):List D:=[.ptr [.str x.1.1,.str x.1.2],.bool x.2]
def B2{l:List D}{i:Nat}:Std.qI (.ptr l) i=l.getD i .nil:=rfl
def sb(m:List (U×Bool))(k:U):List (U×Bool):=match m with
 |[]=>[(k,true)]
 |x::r=>if k=x.1 then(k,true)::r else x::sb r k
def N1:Std.lM (bt kh m) (.ptr [.str k.1,.str k.2]) [.bool true]=bt kh (sb m k):=by
 simp only[Std,dS,bt,cg]
 congr 1
 induction m with
 |nil=>rfl
 |cons x m a=>
  have hk:eP (.ptr [.str k.1,.str k.2]) (kh x)=(k==x.1):=rfl;simp only[bF,iT,sb];rw[hk];by_cases h:k=x.1
  ·rw[if_pos (by simp[h]),if_pos h];rfl
  ·rw[if_neg (by simp[h]),if_neg h,bF,<-a]
def kC(m:List (U×Bool))(l:List U):List (U×Bool):=l.foldl sb m
def BZ{k:List U}:kC m (l++k)=kC (kC m l) k:=by simp[kC]
def B0{s:U}:s∈(sb m k).map (·.1)↔s=k\/s∈m.map (·.1):=by
 induction m with
 |nil=>simp[sb]
 |cons x m a=>
  simp only[sb];split
  ·rename_i h;simp only[bF,bx,<-h];constructor
   ·rintro(h1|h1);exact .inl h1;exact .inr (.inr h1)
   ·rintro(h1|h1|h1);exact .inl h1;exact .inl h1;exact .inr h1
  ·simp only[bF,bx,a];constructor
   ·rintro(h1|h1|h1);exact .inr (.inl h1);exact .inl h1;exact .inr (.inr h1)
   ·rintro(h1|h1|h1);exact .inr (.inl h1);exact .inl h1;exact .inr (.inr h1)
def HL(h:(m.map (·.1)).Nodup):((sb m k).map (·.1)).Nodup:=by
 induction m with
 |nil=>simp[sb]
 |cons x m a=>
  rw[bF,cq]at h;simp only[sb];split
  ·rename_i hk;rw[bF,cq];subst hk;exact h
  ·rename_i hk;rw[bF,cq,B0];exact⟨λh1=>by rcases h1 with h1|h1;exact hk h1.symm;exact h.1 h1,a h.2⟩
def NP:(sb m k).length<=m.length+1:=by
 induction m with
 |nil=>simp[sb]
 |cons x m a=>simp only[sb];split<;>simp;omega
def HK:∀{m:List (U×Bool)}{s:U},s∈(kC m l).map (·.1)↔s∈l\/s∈m.map (·.1):=by
 induction l with
 |nil=>intro m s;simp[kC]
 |cons x l a=>
  intro m s;show s∈(kC (sb m x) l).map (·.1)↔_;rw[a,B0,bx];constructor
  ·rintro(h|h|h);exact .inl (.inr h);exact .inl (.inl h);exact .inr h
  ·rintro((h|h)|h);exact .inr (.inl h);exact .inl h;exact .inr (.inr h)
def FX:∀{m:List (U×Bool)},(m.map (·.1)).Nodup->((kC m l).map (·.1)).Nodup:=by
 induction l with
 |nil=>intro m h;exact h
 |cons x l a=>intro m h;exact a (HL h)
def KF:∀{m:List (U×Bool)},(kC m l).length<=m.length+l.length:=by
 induction l with
 |nil=>intro m;simp[kC]
 |cons x l a=>intro m;have h1:=a (m:=sb m x);have J:=NP (m:=m) (k:=x);show (kC (sb m x) l).length<=_;simp;omega
def N2(l:List U):Prop:=l.Pairwise λa b=>Bq a b=true
def Qt(h:l.Pairwise λa b=>Bq b a=false)(c:l.Nodup):N2 l:=by
 induction l with
 |nil=>exact DH
 |cons x l g=>
  rw[dG]at h;rw[cq]at c;refine dG.2 ⟨λy f=>?_,g h.2 c.2⟩;cases hb:Bq x y with
  |true=>rfl
  |false=>exact absurd (IT hb (h.1 y f)) λe=>c.1 (e▸f)
end
end Go.VC
namespace Go.VC.cc
open Go Go.VC Go.Proofs
section
variable {d:D}{K:PV->List Ob->Prop}{m:List (U×Bool)}
def aa9(h:K (.cu 287 [.box 1 0]) [.map .ik 4 d,.box [.mp 0]]):FT 251 [.map .ik 4 d] [.mp 0] K:=by refine el Vc Tryz.func251 λA C L X=>?_;cbv;exact h
def aaS{c1 c2:Code}(q:d=bt kh m)
 (E:∀(k:U)(l:List U)(r:D)(B:PV->List Ob->Prop),r=bt vQ l->l.length<m.length->(∀r',r'=bt vQ (l++[k])->B (.bl true) [.loop 13 [7] c1 c2 [(2,.box 1 0)] .ready,.box [.row 259 3],.dead,.row 259 r' true])->YC Tryz.prog tt [.loop 13 [7] c1 c2 [(2,.box 1 0)] .ready,.box [.row 259 2],.row 259 r true] [.agg [.str k.1,.str k.2]] B)
 (h:∀(l:List U)(r:D),r=bt vQ l->l.Perm (m.map (·.1))->K (.tup []) [.loop 13 [7] c1 c2 [(2,.box 2 0)] .ready,.box [.mp 3],.box [.row 259 5],.map .ik 4 d,.dead,.row 259 r true]):
 FT 287 [.loop 13 [7] c1 c2 [(2,.box 2 0)] .ready,.box [.mp 3],.box [.row 259 4],.map .ik 4 d,.row 259 (.list []) true] [.kF 0,.box 1 0] K:=by
 refine el U7 Tryz.func287 λA C L X=>?_;have G:(A=Std):=X.a;cbv
 refine X.ka (λ(x:List Int×D×D)=>⟨[(5,.it 6),(4,.mp 3),(0,.kF 0),(1,.box 1 0)],[.loop 13 [7] c1 c2 [(2,.box 2 0)] .ready,.box [.mp 3],.box [.row 259 5],.map .ik 4 d,.dead,.row 259 x.2.2 true,.iter 3 x.2.1]⟩)
  (λx=>x.2.1=kA x.1/\x.2.2=bt vQ (x.1.map λj=>(m.getD j.toNat (([],[]),false)).1)/\x.1.Nodup/\∀j∈x.1,0<=j/\j<m.length) (λx=>m.length-x.1.length) ([],.list [],.list []) ⟨rfl,rfl,by simp,by simp⟩ ?_ ?_
 ·exact⟨[0,1,2,3,4,5,6],rfl,yc⟩
 rintro⟨o,z,r⟩ ⟨hz,hr,gx,hb⟩;simp only at hz hr gx hb;cbv;refine⟨λh1=>?_,λj h1=>?_⟩
 ·cbv;have ha:=rh (m:=m) (f:=kh) (l:=o) (by rw[<- q,<-hz,<-X.a];exact h1);refine h _ r hr ?_;exact keys_perm gx hb ha
 ·obtain⟨F,y,w⟩:0<=j/\j<m.length/\j∉o:=te (by rw[<- q,<-hz,<-X.a];exact h1);have g:A.oe z j=kA (o++[j]):=by rw[X.a,hz,xt]
  have c:A.last (A.oe z j)=j:=by rw[g,X.a,uG]
  obtain⟨i,rfl⟩:∃i:Nat,j=bj i:=⟨j.toNat,yL⟩;have p:i<m.length:=by simp only[bD]at y;omega
  have t:A.bG (A.qI (A.cell d (A.last (A.oe z (bj i))) 0) 0)=(m.getD i (([],[]),false)).1.1:=by rw[c,cellAt X.a q p,X.a];simp[kh,n2,B2,p]
  have s:A.bG (A.qI (A.cell d (A.last (A.oe z (bj i))) 0) 1)=(m.getD i (([],[]),false)).1.2:=by rw[c,cellAt X.a q p,X.a];simp[kh,n2,B2,p]
  have hk:(A.bG (A.qI (A.cell d (A.last (A.oe z (bj i))) 0) 0),A.bG (A.qI (A.cell d (A.last (A.oe z (bj i))) 0) 1))=(m.getD i (([],[]),false)).1:=fq t s;have g1:A.idx 0 (A.len (A.oe z (bj i))):=by rw[g,X.a,o6,n5];simp
  have g2:A.idx (A.last (A.oe z (bj i))) (A.len d):=by rw[c,X.a,q];exact cY p
  cbv;refine⟨g1,g2,?_⟩;have u:(o.map λj=>(m.getD j.toNat (([],[]),false)).1).length<m.length:=by rw[bA];exact I3 gx hb (i:=i) p w
  refine X.round (E (A.bG (A.qI (A.cell d (A.last (A.oe z (bj i))) 0) 0),A.bG (A.qI (A.cell d (A.last (A.oe z (bj i))) 0) 1)) _ _ _ hr u λr' v=>?_);cbv;refine⟨(o++[bj i],A.oe z (bj i),r'),⟨g,?_,?_,?_⟩,?_,[0,1,2,3,4,8,6],rfl,?_⟩
  ·show r'=_;rw[v,hk];simp
  ·rw[dk];exact⟨gx,yS,λa ha b hb=>by simp at hb;subst hb;exactλe=>w (show (i:Int)∈o from e▸ha)⟩
  ·intro j n;rcases bE.1 n with n|n
   ·exact hb j n
   ·simp only[cU]at n;subst n;exact⟨F,y⟩
  ·simp only[bp,bA]at *;simp;omega
  ·exact yc
def aaJ(a:d=bt kh m)(c:m.length<4294967296)
 (h:∀(l:List U)(r:D),r=bt vQ l->l.Perm (m.map (·.1))->K (.row 259 3) [.dead,.box [.mp 2],.map .ik 4 d,.row 259 r true]):
 FT 305 [.row 259 (.list []) true,.box [.mp 2],.map .ik 4 d] [.row 259 0,.cu 287 [.box 1 0]] K:=by
 refine el U4 Tryz.func305 λA C L X=>?_;cbv;refine X.range rfl ⟨Tryz.func287,by rfl,rfl⟩ rfl [(2,.box 4 0)] ?_ ?_
 ·cbv
 cbv;refine X.call (aaS a ?_ ?_)
 ·intro k l r e hr hl hK;refine YC.enter (G:=U3) fD mixed rfl rfl rfl rfl rfl ?_;intro A C L X;have hb:A.gr (A.add (A.len r) (A.len (A.lit [[.str k.1,.str k.2]]))) 4294967296:=by obtain rfl:=X.a;rw[hr];simp only[SD];omega
  have q:=hK (A.app r (A.lit [[.str k.1,.str k.2]])) (by rw[X.a,hr];exact cD (k:=[k]));cbv;exact⟨hb,q⟩
 ·intro l r hr b;cbv;exact h l r hr b
def aaU(a:d=bt kh m)(c:m.length<4294967296)
 (h:∀(l:List U)(r:D),r=bt vQ l->l.Perm (m.map (·.1))->K (.row 259 2) [.box [.mp 1],.map .ik 4 d,.row 259 r true]):
 FT 285 [.box [.mp 1],.map .ik 4 d] [.cu 287 [.box 0 0]] K:=by
 refine el Zm Tryz.func285 λA C L X=>?_;cbv;refine X.call (aaJ a c λl r hr b=>?_);cbv;exact h l r hr b
def aba(g:d=bt kh m)(f:m.length<4294967296)(j:(m.map (·.1)).Nodup)
 (h:∀(l:List U)(r:D),r=bt vQ l->N2 l->(∀s,s∈l↔s∈m.map (·.1))->K (.row 259 2) [.box [.mp 1],.map .ik 4 d,.row 259 r true]):
 FT 250 [.box [.mp 1],.map .ik 4 d] [.cu 287 [.box 0 0],.cu 252 []] K:=by
 refine el Zv Tryz.func250 λA C L X=>?_;cbv;refine X.call (aaU g f λl r hr e=>?_);cbv;refine X.call (aaT hr (by rw[e.length_eq];simpa using f) λi r' b hs c=>?_);cbv;have a:=b.trans e;exact h i r' c (Qt hs (a.nodup_iff.2 j)) λs=>a.mem_iff
end
end Go.VC.cc
namespace Go.VC
def iq(x:IF):List S:=x.types.map (·.name)++x.values.map (·.name)++x.aliases.map (·.name)
def map_take{α β:Type}{f:α->β}{l:List α}{i:Nat}(h:i<l.length):(l.take (i+1)).map f=(l.take i).map f++[f l[i]]:=by rw[cj h,bS];rfl
end Go.VC
namespace Go.VC.cc
open Go Go.VC Go.Proofs
end Go.VC.cc
namespace Go.VC
section
def Ty.eA(t:Ty):List Ty:=t.ar++t.fl.map Fe.t
mutual
def Ty.size:Ty->Nat| .mk _ _ _ ar fl=>1+Ty.lZ ar+Ty.ma fl
def Fe.size:Fe->Nat| .mk _ t _=>Ty.size t
def Ty.lZ:List Ty->Nat|[]=>0|t::l=>Ty.size t+Ty.lZ l
def Ty.ma:List Fe->Nat|[]=>0|t::l=>Fe.size t+Ty.ma l
end
variable {t:Ty}{l:List Nat}{i:Nat}
def D5:∀l:List Ty,Ty.lZ l=(l.map Ty.size).sum
 |[]=>by simp[Ty.lZ]
 |t::l=>by simp[Ty.lZ,D5 l]
def D6:∀l:List Fe,Ty.ma l=((l.map Fe.t).map Ty.size).sum
 |[]=>by simp[Ty.ma]
 | .mk s t b::l=>by simp[Ty.ma,D6 l,Fe.size,Fe.t]
def size_eq(t:Ty):t.size=1+(t.eA.map Ty.size).sum:=by cases t;simp only[Ty.size,D5,D6,Ty.eA,bS,dO,Ty.ar,Ty.fl];omega
def Iy{u:Ty}(h:u∈t.eA):(u∈t.ar)\/∃f∈t.fl,f.t=u:=by
 rcases bE.1 h with h|h
 ·exact .inl h
 ·obtain⟨f,h1,J⟩:=bH.1 h;exact .inr ⟨f,h1,J⟩
def Ty.fV{P:Ty->Prop}(h:∀t:Ty,(∀u∈t.eA,P u)->P t):∀t,P t:=
 Ty.parts λt h1 J=>h t λu hu=>by
  rcases Iy hu with hu|⟨f,hf,rfl⟩
  ·exact h1 u hu
  ·exact J f hf
def iW{n:Nat}(h:Ty.le n t):∀u∈t.eA,Ty.le n u:=λu hu=>by
 rcases Iy hu with hu|⟨f,hf,rfl⟩
 ·exact u7 h _ hu
 ·exact xJ h _ hf
def Lo(h:i<l.length):(l.take (i+1)).sum=(l.take i).sum+l[i]:=by rw[k8 h,dO];simp
def wc:(l.take i).sum<=l.sum:=by
 conv=>rhs;rw[<- cV i l,dO]
 omega
end
end Go.VC
namespace Go.VC.cc
open Go Go.VC Go.Proofs
def F61{t:Ty}(M:Ty.le 4294967295 t)(n:t.eA.length<=4294967295){p:Int}{c1 c2:S}{j b:D}{K:PV->List Ob->Prop}(w:cr t p c1 c2 j b)
 (h:∀r,r=bt ca t.eA->K (.lst 29 r) []):FT 61 [] [dQ p c1 c2 j b] K:=by
 obtain⟨P,Q,O,m,g⟩:=w;have s:t.ar.length+t.fl.length<=4294967295:=by simpa[Ty.eA]using n
 refine en g61 Tryz.func61 λA C L X=>?_;obtain⟨q,o,c⟩:=lenOf m;obtain⟨d,e,a⟩:=lenOf g;have hb:A.gr (A.add (A.len (A.lit [])) (A.len j)) 4294967296:=by rw[X.a];simp only[SD,c];omega
 have v:A.app (A.lit []) j=bt ca (t.ar++(t.fl.take 0).map Fe.t):=by rw[X.a,m];exact(cD (f:=ca) (l:=[]) (k:=t.ar)).trans yS
 cbv;refine⟨hb,?_⟩;refine lP X (λy=>y.1<=d/\y.2=bt ca (t.ar++(t.fl.take y.1).map Fe.t)) (λy=>d-y.1) (0,A.app (A.lit []) j) ⟨bw _,v⟩ [0,1] (λ(y:Nat×D)=>⟨[(4,.int .i64 y.1),(3,.row 29 1),(1,.box 0 0)],[.box [.int .i64 p,.str c1,.str c2,.lst 29 j,.lst 57 b],.row 29 y.2 true]⟩) ?_;rintro⟨i,r⟩ ⟨H,hr⟩;simp only at H hr;cbv;constructor<;>intro h1
 ·have h5:i<t.fl.length:=lY X.a a h1;obtain⟨z,u,I,x,B⟩:=nq X.a g h5;have N:=iX X.a g h5;have F:=jX X.a h5;have G:A.gr (A.add (A.len r) (A.len (A.lit [[.int (A.asInt (A.cell b (bj i) 1)),.str (A.bG (A.cell b (bj i) 2)),.str (A.bG (A.cell b (bj i) 3)),A.cell b (bj i) 4,A.cell b (bj i) 5]]))) 4294967296:=by rw[X.a,hr];simp only[SD,bA];omega
  have E:A.app r (A.lit [[.int (A.asInt (A.cell b (bj i) 1)),.str (A.bG (A.cell b (bj i) 2)),.str (A.bG (A.cell b (bj i) 3)),A.cell b (bj i) 4,A.cell b (bj i) 5]])=bt ca (t.ar++(t.fl.take (i+1)).map Fe.t):=by rw[z,u,I,x,B,X.a,hr,map_take h5,<-bL,<-dn];exact cD (k:=[t.fl[i].t])
  refine p1 ?_;exact⟨(i+1,_),⟨yP,E⟩,yP,[0,1],rfl,yc⟩
 have h5:i=d:=gY X.a a h1;subst h5;rw[e,bz]at hr;cbv;exact h r hr
def F25:∀(t:Ty),Ty.le 4294967295 t->t.size<=4294967295->∀{s:Int}{c1 c2:S}{o p:D}{K:PV->List Ob->Prop},cr t s c1 c2 o p->(∀r:Int,r=t.size->K (.int .i64 r) [])->FT 25 [] [dQ s c1 c2 o p] K:=by
 refine Ty.fV λt u=>?_;intro e hs s c1 c2 o p K E h;obtain⟨f,hf⟩:∃f:Nat->Nat,f=λi=>((t.eA.map Ty.size).take i).sum:=⟨_,rfl⟩;obtain⟨QP,a⟩:∃n:Nat,n=(t.eA.map Ty.size).sum:=⟨_,rfl⟩;have F:f 0=0:=by rw[hf];simp
 have fs:∀i (h:i<t.eA.length),f (i+1)=f i+t.eA[i].size:=λi h=>by rw[hf];simp only;rw[Lo (l:=t.eA.map Ty.size) (i:=i) (yU h),jT]
 have fl:∀i,f i<=QP:=λi=>by rw[hf,a];exact wc
 have fn:f t.eA.length=QP:=by rw[hf,a];simp only;rw[ek yS]
 have fW:t.size=1+QP:=by rw[size_eq,a]
 rw[fW]at hs h
 have B:t.eA.length<=QP:=by
  rw[a]
  have:∀l:List Ty,l.length<=(l.map Ty.size).sum:=by
   intro l;induction l with
   |nil=>simp
   |cons x l u=>simp only[bI,bF,bV];have:=size_eq x;omega
  exact this _
 refine en (cf 22) Tryz.func25 λA C L X=>?_;cbv;refine X.call (F61 e yO E λr hr=>?_);obtain⟨c,d,b⟩:=lenOf hr;cbv;refine lu X (λy=>y.1<=c/\y.2=bj (1+f y.1)) (λy=>c-y.1) (0,1) ⟨bw _,by simp[F]⟩ (λ(y:Nat×Int)=>[(5,.int .i64 y.1),(3,.int .i64 y.2)]) ?_;rintro⟨i,m⟩ ⟨I,j⟩;simp only at I j;cbv;constructor<;>intro h1
 ·have h5:i<t.eA.length:=lY X.a b h1;have w:=iS X.a hr h5;have M:=iX X.a hr h5;have H:=jX X.a h5;have k:=fs i h5;have G:=fl (i+1);refine p1 ?_;refine X.call (u _ (br h5) (iW e _ (br h5)) yO w λz hz=>?_);have g:z=t.eA[i].size:=hz;clear hz;have v:A.inr .i64 (A.add m z):=by rw[X.a,fw,fx,j,g];simp only[bD];omega
  have q:A.add m z=bj (1+f (i+1)):=by rw[X.a,fx,k,j,g];simp only[bD];omega
  refine p1 ?_;exact⟨(i+1,_),⟨yP,q⟩,yP,yc⟩
 have h5:i=c:=gY X.a b h1;subst h5;cbv;refine h m ?_;rw[j,d,fn];rfl
end Go.VC.cc
namespace Go.VC
mutual
def Ty.iO:Ty->List U| .mk k m n ar fl=>(if k=10 then [(m,n)]else [])++(Ty.AQ ar++Ty.AR fl)
def Fe.iO:Fe->List U| .mk _ t _=>Ty.iO t
def Ty.AQ:List Ty->List U|[]=>[]|t::l=>Ty.iO t++Ty.AQ l
def Ty.AR:List Fe->List U|[]=>[]|t::l=>Fe.iO t++Ty.AR l
end
def DN:∀l:List Ty,Ty.AQ l=l.flatMap Ty.iO
 |[]=>by simp[Ty.AQ]
 |t::l=>by simp[Ty.AQ,DN l]
def DO:∀l:List Fe,Ty.AR l=(l.map Fe.t).flatMap Ty.iO
 |[]=>by simp[Ty.AR]
 | .mk s t b::l=>by simp[Ty.AR,DO l,Fe.iO,Fe.t]
def Ty.self(t:Ty):List U:=if t.k=10 then [(t.m,t.n)]else []
def H8(t:Ty):t.iO=t.self++t.eA.flatMap Ty.iO:=by cases t;simp only[Ty.iO,DN,DO,Ty.eA,Ty.self,ea,Ty.ar,Ty.fl,Ty.k,Ty.m,Ty.n];rfl
def vH{l:List Nat}{x:Nat}(h:x∈l):x<=l.sum:=by
 induction l with
 |nil=>simp at h
 |cons y l b=>rw[bV];rcases bx.1 h with rfl|h;omega;have:=b h;omega
def oJ{t:Ty}(hs:t.size<=4294967295):(∀u∈t.eA,u.size<=4294967295)/\t.eA.length<=4294967295:=by
 refine⟨λu hu=>?_,?_⟩
 ·have:=size_eq t;have J:u.size<=(t.eA.map Ty.size).sum:=vH (bH.2 ⟨u,hu,rfl⟩);omega
 ·have:∀l:List Ty,l.length<=(l.map Ty.size).sum:=by
   intro l;induction l with
   |nil=>simp
   |cons x l b=>simp only[bI,bF,bV];have:=size_eq x;omega
  have h1:=this t.eA;have J:=size_eq t;omega
def fu{α β:Type}{f:α->List β}{l:List α}{i:Nat}(h:i<l.length):(l.take (i+1)).flatMap f=(l.take i).flatMap f++f l[i]:=by rw[cj h,ea];simp
end Go.VC
namespace Go.VC.cc
open Go Go.VC Go.Proofs
section
variable {e:Int}{c1 c2:S}{c a:D}{K:PV->List Ob->Prop}{t:Ty}{C1 C2:Code}
def N7{f:FuncId}(hf:f=205\/f=222)(F:Ty.le 4294967295 t)(l:t.eA.length<=4294967295)(s:cr t e c1 c2 c a)
 (h:∀r,r=bt ca t.eA->K (.lst 29 r) []):FT f [] [dQ e c1 c2 c a] K:=by
 obtain⟨M,N,I,n,j⟩:=s;have o:t.ar.length+t.fl.length<=4294967295:=by simpa[Ty.eA]using l
 rcases hf with rfl|rfl
 rotate_left
 refine en (cf 23) Tryz.func222 λA C L X=>?_
 rotate_left
 refine en (cf 23) Tryz.func205 λA C L X=>?_
 all_goals
  obtain⟨d,g,b⟩:=lenOf j;cbv;refine X.call (Pt.1 n yO λq m=>?_);cbv;refine lP X (λy=>y.1<=d/\y.2=bt ca (t.ar++(t.fl.take y.1).map Fe.t)) (λy=>d-y.1) (0,q) ⟨bw _,yU m⟩ [0,1] (λ(y:Nat×D)=>⟨[(12,.int .i64 y.1),(11,.int .i64 (A.len a)),(10,.lst 57 a),(3,.row 29 1),(1,.box 0 0)],[.box [.int .i64 e,.str c1,.str c2,.lst 29 c,.lst 57 a],.row 29 y.2 true]⟩) ?_;rintro⟨i,r⟩ ⟨B,hr⟩;simp only at B hr;cbv;constructor<;>intro h1
  ·have h5:i<t.fl.length:=lY X.a b h1;obtain⟨v,p,E,u,H⟩:=nq X.a j h5;have G:=iX X.a j h5;have x:=jX X.a h5;have z:A.gr (A.add (A.len r) (A.len (A.lit [[.int (A.asInt (A.cell a (bj i) 1)),.str (A.bG (A.cell a (bj i) 2)),.str (A.bG (A.cell a (bj i) 3)),A.cell a (bj i) 4,A.cell a (bj i) 5]]))) 4294967296:=by rw[X.a,hr];simp only[SD,bA];omega
   have w:A.app r (A.lit [[.int (A.asInt (A.cell a (bj i) 1)),.str (A.bG (A.cell a (bj i) 2)),.str (A.bG (A.cell a (bj i) 3)),A.cell a (bj i) 4,A.cell a (bj i) 5]])=bt ca (t.ar++(t.fl.take (i+1)).map Fe.t):=by rw[v,p,E,u,H,X.a,hr,map_take h5,<-bL,<-dn];exact cD (k:=[t.fl[i].t])
   refine p1 ?_;exact⟨(i+1,_),⟨yP,w⟩,yP,[0,1],rfl,yc⟩
  have h5:i=d:=gY X.a b h1;subst h5;rw[g,bz]at hr;cbv;exact h r hr
def Tz(h:K (.cu 255 [.du [.int .i64 e,.str c1,.str c2,.lst 29 c,.lst 57 a] 0]) []):FT 204 [] [dQ e c1 c2 c a] K:=by refine en (cf 4) Tryz.func204 λA C L X=>?_;cbv;exact h
def aa5
 (B:∀(t:Ty)(m:List (U×Bool))(d:D)(e:Int)(c1 c2:S)(c a:D)(u:PV->List Ob->Prop),cr t e c1 c2 c a->d=bt kh m->(∀r,r=bt kh (kC m t.self)->u (.bl true) [.loop 21 [8] C1 C2 [(3,.box 1 0)] .ready,.box [.mp 2],.map .ik 4 r])->YC Tryz.prog tt [.loop 21 [8] C1 C2 [(3,.box 1 0)] .ready,.box [.mp 2],.map .ik 4 d] [dQ e c1 c2 c a] u):
 ∀(t:Ty),Ty.le 4294967295 t->t.size<=4294967295->∀{m:List (U×Bool)}{d:D}{e:Int}{c1 c2:S}{c a:D}{K:PV->List Ob->Prop},cr t e c1 c2 c a->d=bt kh m->
  (∀r,r=bt kh (kC m t.iO)->K (.bool true) [.box [.kF 2],.box [.cu 256 [.box 0 0,.box 1 0]],.loop 21 [8] C1 C2 [(3,.box 3 0)] .ready,.box [.mp 4],.map .ik 4 r])->
  FT 256 [.box [.kF 2],.box [.cu 256 [.box 0 0,.box 1 0]],.loop 21 [8] C1 C2 [(3,.box 3 0)] .ready,.box [.mp 4],.map .ik 4 d] [dQ e c1 c2 c a,.box 0 0,.box 1 0] K:=by
 refine Ty.fV λt F=>?_;intro l hs m d e c1 c2 c a K s v h;obtain⟨k,o⟩:=oJ hs;refine el Zs Tryz.func256 λA C L X=>?_;cbv;refine X.round (B t m d _ _ _ _ _ _ s v λx p=>?_);cbv;refine X.call (N7 (.inl rfl) l o s λq g=>?_);obtain⟨f,j,b⟩:=lenOf g;cbv;refine lP X (λy=>y.1<=f/\y.2=bt kh (kC (kC m t.self) ((t.eA.take y.1).flatMap Ty.iO))) (λy=>f-y.1) (0,x) ⟨bw _,by simpa[kC]using p⟩ [0,1,2,3,4] (λ(y:Nat×D)=>⟨[(14,.int .i64 y.1),(13,.int .i64 (A.len q)),(12,.lst 29 q),(1,.box 0 0),(2,.box 1 0)],[.box [.kF 2],.box [.cu 256 [.box 0 0,.box 1 0]],.loop 21 [8] C1 C2 [(3,.box 3 0)] .ready,.box [.mp 4],.map .ik 4 y.2]⟩) ?_;rintro⟨i,r⟩ ⟨E,hr⟩;simp only at E hr;cbv;constructor<;>intro h1
 ·have h5:i<t.eA.length:=lY X.a b h1;have w:=iS X.a g h5;have G:=iX X.a g h5;have z:=jX X.a h5;refine p1 ?_;refine X.call (F _ (br h5) (iW l _ (br h5)) (k _ (br h5)) w hr λr' n=>?_);refine p2 (λJ=>?_) (λJ=>?_)
  ·exfalso;obtain rfl:=X.a;simp[gj]at J
  refine⟨(i+1,r'),⟨?_,?_⟩,?_,[0,1,2,3,4],rfl,?_⟩
  ·simp only;omega
  ·simp only;rw[n,fu h5,BZ]
  ·simp only;omega
  exact yc
 have h5:i=f:=gY X.a b h1;subst h5;rw[j,bz]at hr;cbv;refine h r ?_;rw[hr,H8,BZ]
def aa6(b:Ty.le 4294967295 t)(hs:t.size<=4294967295){m:List (U×Bool)}{d:D}(j:cr t e c1 c2 c a)(g:d=bt kh m)
 (i:∀(t:Ty)(m:List (U×Bool))(d:D)(e:Int)(c1 c2:S)(c a:D)(f:PV->List Ob->Prop),cr t e c1 c2 c a->d=bt kh m->(∀r,r=bt kh (kC m t.self)->f (.bl true) [.loop 21 [8] C1 C2 [(3,.box 1 0)] .ready,.box [.mp 2],.map .ik 4 r])->YC Tryz.prog tt [.loop 21 [8] C1 C2 [(3,.box 1 0)] .ready,.box [.mp 2],.map .ik 4 d] [dQ e c1 c2 c a] f)
 (h:∀r,r=bt kh (kC m t.iO)->K (.tup []) [.loop 21 [8] C1 C2 [(3,.box 1 0)] .ready,.box [.mp 2],.map .ik 4 r]):
 FT 255 [.loop 21 [8] C1 C2 [(3,.box 1 0)] .ready,.box [.mp 2],.map .ik 4 d] [.kF 0,.du [.int .i64 e,.str c1,.str c2,.lst 29 c,.lst 57 a] 0] K:=by
 refine el Zt Tryz.func255 λA C L X=>?_;cbv;refine X.call (aa5 i t b hs j g λr hr=>?_);cbv;exact h r hr
end
end Go.VC.cc
namespace Go.VC
def mP:∀t:Ty,t.iO.length<=t.size:=by
 refine Ty.fV λt d=>?_;rw[H8,size_eq,bp];have h1:t.self.length<=1:=by unfold Ty.self;split<;>simp
 have J:∀l:List Ty,(∀u∈l,u.iO.length<=u.size)->(l.flatMap Ty.iO).length<=(l.map Ty.size).sum:=by
  intro l;induction l with
  |nil=>simp
  |cons x l c=>intro h;simp only[eJ,bp,bF,bV];have a:=h x yS;have b:=c λu hu=>h u (by simp[hu]);omega
 have:=J _ d;omega
def Ad{l:List U}(h:N2 l):l.Nodup:=by unfold N2 at h;exact h.imp λ{a b} c e=>by rw[e,y7]at c;cases c
def fk{α:Type}[DecidableEq α]:∀{l m:List α},l.Nodup->(∀x∈l,x∈m)->l.length<=m.length
 |[],m,_,_=>yS
 |x::l,m,h,hs=>by
  rw[cq]at h;have:=fk (l:=l) (m:=m.erase x) h.2 λy b=>by have d:=hs y (by simp[b]);have a:y≠x:=λe=>h.1 (by rw[<- e];exact b);exact(K2 a).2 d
  have c:=hs x yS;rw[Gd c]at this;have h0:0<m.length:=Jr c;simp only[bI];omega
end Go.VC
namespace Go.VC.cc
open Go Go.VC Go.Proofs
def Xe{t:Ty}(c:Ty.le 4294967295 t)(hs:t.size<=4294967295){n:Int}{c1 c2:S}{i j:D}{K:PV->List Ob->Prop}(p:cr t n c1 c2 i j)
 (h:∀(l:List U) r,r=bt vQ l->N2 l->(∀u,u∈l↔u∈t.iO)->K (.lst 259 r) []):FT 201 [] [dQ n c1 c2 i j] K:=by
 have q:=mP t;refine en ZA Tryz.func201 λA C L X=>?_;cbv;refine X.call (Tz ?_);cbv;refine X.range rfl ⟨Tryz.func255,by rfl,rfl⟩ rfl [(3,.box 2 0)] ?_ ?_
 ·cbv
 cbv;refine X.call (aa6 (m:=[]) c hs p rfl ?_ ?_)
 ·intro u m d F b1 b2 E M o hu f hK;obtain⟨g,x,v,I,H⟩:=hu;refine YC.enter (G:=Ve) fD mixed rfl rfl rfl rfl rfl ?_;intro A C L X;have w:A.lM d (.ptr [.str b1,.str b2]) [.bool true]=bt kh (kC m [(u.m,u.n)]):=by rw[X.a,f,x,v];exact N1 (k:=(u.m,u.n))
  have y:u.k=10->o (.bl true) [.loop 21 [8] _ _ [(3,.box 1 0)] .ready,.box [.mp 2],.map .ik 4 (A.lM d (.ptr [.str b1,.str b2]) [.bool true])]:=λe=>hK _ (by rw[w,Ty.self,if_pos e]);have z:¬u.k=10->o (.bl true) [.loop 21 [8] _ _ [(3,.box 1 0)] .ready,.box [.mp 2],.map .ik 4 d]:=λe=>hK _ (by rw[f,Ty.self,if_neg e];rfl);refine p2 (λJ=>?_) (λJ=>?_)
  ·exact y (by rw[<- g];obtain rfl:=X.a;simpa only[SD]using J)
  ·exact z (by rw[<- g];obtain rfl:=X.a;simpa only[SD]using J)
 ·intro r hr;cbv;refine X.call (aa9 ?_);cbv;refine X.call (aba hr ?_ ?_ λl r' a b B=>?_)
  ·have:=KF (l:=t.iO) (m:=[]);simp at this;omega
  ·exact FX yS
  cbv;refine h l r' a b λs=>?_;rw[B,HK];simp
end Go.VC.cc
namespace Go.VC
abbrev qe(e:S)(c1:Int)(c2 a:S)(d b:D)(c:Bool):PV:=.agg [.str e,.int .i64 c1,.str c2,.str a,.lst 29 d,.lst 57 b,.bool c]
def qV(x:Fe)(e:S)(c1:Int)(c2 a:S)(d b:D)(c:Bool):Prop:=e=x.s/\cr x.t c1 c2 a d b/\c=x.b
def kQ{A:pP}{d:D}{i:Nat}{l:List Fe}(ha:A=Std)(a:d=bt fj l)(h:i<l.length):qV l[i] (A.bG (A.cell d (bj i) 0)) (A.asInt (A.cell d (bj i) 1)) (A.bG (A.cell d (bj i) 2)) (A.bG (A.cell d (bj i) 3)) (A.cell d (bj i) 4) (A.cell d (bj i) 5) (A.asBool (A.cell d (bj i) 6)):=⟨(Hq ha a h).1,nq ha a h,(Hq ha a h).2⟩
end Go.VC
namespace Go.VC.cc
open Go Go.VC Go.Proofs
def mW1:(∀{l m:List Ty}{f d2:D}{K:PV->List Ob->Prop}(j:f=bt ca l)(g:d2=bt ca m)(hl:l.length<=4294967295)(u:∀ x∈l,∀ y (s:Int) (c1:S) (c2:S) (o:D) (r:D) (d0:Int) (f:S) (d2:S) (n:D) (p:D) (t:PV->List Ob->Prop),cr x s c1 c2 o r->cr y d0 f d2 n p->(∀ b,b=same x y->t (.bool b) [])->FT 52 [] [dQ s c1 c2 o r,dQ d0 f d2 n p] t)(h:∀ b,b=same l m->K (.bool b) []),FT 111 [] [.lst 29 f,.lst 29 d2,.cu 52 []] K)/\
 (∀{l m:List Fe}{f d2:D}{K:PV->List Ob->Prop}(j:f=bt fj l)(g:d2=bt fj m)(hl:l.length<=4294967295)(u:∀ x∈l,∀ y (s:S) (c1:Int) (c2:S) (o:S) (r:D) (Q:D) (T:Bool) (d0:S) (f:Int) (d2:S) (n:S) (p:D) (R:D) (P:Bool) (t:PV->List Ob->Prop),qV x s c1 c2 o r Q T->qV y d0 f d2 n p R P->(∀ b,b=same x y->t (.bool b) [])->FT 113 [] [qe s c1 c2 o r Q T,qe d0 f d2 n p R P] t)(h:∀ b,b=same l m->K (.bool b) []),FT 112 [] [.lst 57 f,.lst 57 d2,.cu 113 []] K):=by
 refine⟨?_,?_⟩;have v:=trivial
 rotate_left
 have V:=trivial
 rotate_left
 all_goals (
  intro l m f d2 K j g hl u h
  first
   |(have B:=v
     refine FC.enter (G:=cf 32) fD mixed ⟨Tryz.func111,by rfl,rfl⟩ rfl rfl rfl ?_)
   |(refine FC.enter (G:=cf 32) fD mixed ⟨Tryz.func112,by rfl,rfl⟩ rfl rfl rfl ?_)
  intro A C L X;obtain⟨c,k,a⟩:=lenOf j;obtain⟨O,N,d⟩:=lenOf g;cbv;repeat' (first|apply bk|exact zf|(intro J;cbv)|apply bB)
  ·refine h _ ?_;refine(xX ?_).symm;obtain rfl:=X.a;simp only[a,d,SD]at J;omega
  have U:m.length=c:=by obtain rfl:=X.a;simp only[a,d,SD]at J;omega
  first
   |(have B:=v
     refine X.loop (λ(i:Nat)=>⟨[(17,.int .i64 i),(16,.int .i64 (A.len f)),(15,.lst 29 f),(1,.lst 29 d2),(2,.cu 52 [])],[]⟩) (λi=>i<=c/\l.take i=m.take i) (λi=>c-i) 0 ⟨bw _,yS⟩ ?_ ?_)
   |(refine X.loop (λ(i:Nat)=>⟨[(17,.int .i64 i),(16,.int .i64 (A.len f)),(15,.lst 57 f),(1,.lst 57 d2),(2,.cu 113 [])],[]⟩) (λi=>i<=c/\l.take i=m.take i) (λi=>c-i) 0 ⟨bw _,yS⟩ ?_ ?_)
  ·exact yc
  rintro i ⟨W,ha⟩;cbv;constructor<;>intro h1
  ·have h5:i<l.length:=lY X.a a h1;have h6:i<m.length:=yO
   first
    |(have B:=v
      have w:=iS X.a j h5;have H:=iS X.a g h6)
    |(have w:=kQ X.a j h5
      have H:=kQ X.a g h6)
   have M:=iX X.a j h5;have I:=iX X.a g h6;have F:=jX X.a h5;have z:l[i]≠m[i]->same l m=false:=λe=>xY h5 h6 e;cbv;repeat' (first|apply bk|exact zf|(intro J;cbv)|apply bB)
   any_goals exact M
   any_goals exact I
   first
    |(have B:=v
      refine X.call (u _ (br h5) _ _ _ _ _ _ _ _ _ _ _ _ w H λb hb=>?_))
    |(refine X.call (u _ (br h5) _ _ _ _ _ _ _ _ _ _ _ _ _ _ _ _ w H λb hb=>?_))
   have q:b=same l[i] m[i]:=hb;clear hb;cbv;repeat' (first|apply bk|exact zf|(intro J;cbv)|apply bB)
   any_goals exact F
   ·refine h _ ?_;have:same l[i] m[i]=false:=by rw[<- q];obtain rfl:=X.a;simpa only[SD]using J
    exact(z λe=>by rw[e,mD]at this;cases this).symm
   ·have E:same l[i] m[i]=true:=by rw[<- q];obtain rfl:=X.a;simpa only[SD]using J
    exact⟨i+1,⟨yO,by rw[cj h5,cj h6,ha,fL.1 E]⟩,yO,yc⟩
  ·have h5:i=c:=gY X.a a h1;subst h5;have e:=AU (l:=l) (m:=m) yO (by rw[<- k];exact ha);cbv;refine h _ ?_;rw[e,mD])
end Go.VC.cc
namespace Go.VC
def O0{x y:Fe}:same x y=((x.s==y.s)&&(x.b==y.b)&&same x.t y.t):=by rw[cn];simp only[fL,bn,beq_iff_eq];exact⟨λe=>by subst e;exact⟨⟨rfl,rfl⟩,rfl⟩,λ⟨⟨h1,J⟩,h3⟩=>Fe.ext h1 h3 J⟩
def LN{x y:Ty}:same x y=(((((x.k==y.k)&&(x.m==y.m))&&(x.n==y.n))&&same x.ar y.ar)&&same x.fl y.fl):=by rw[cn];simp only[fL,bn,beq_iff_eq];exact⟨λe=>by subst e;exact⟨⟨⟨⟨rfl,rfl⟩,rfl⟩,rfl⟩,rfl⟩,λ⟨⟨⟨⟨h1,J⟩,h3⟩,h4⟩,h5⟩=>Ty.ext h1 J h3 h4 h5⟩
end Go.VC
namespace Go.VC.cc
open Go Go.VC Go.Proofs
def Xw{x y:Fe}{m:S}{c1:Int}{c2 d:S}{i f:D}{l:Bool}{d0:S}{e:Int}{d2 c:S}{a g:D}{o:Bool}{K:PV->List Ob->Prop}
 (r:qV x m c1 c2 d i f l) (p:qV y d0 e d2 c a g o)
 (q:∀{n:PV->List Ob->Prop},(∀b,b=same x.t y.t->n (.bool b) [])->FT 52 [] [dQ c1 c2 d i f,dQ e d2 c a g] n)
 (h:∀b,b=same x y->K (.bool b) []):FT 113 [] [qe m c1 c2 d i f l,qe d0 e d2 c a g o] K:=by
 obtain⟨j,a1,a2⟩:=r;obtain⟨k,b1,b2⟩:=p;have hs:=O0 (x:=x) (y:=y);rw[<- j,<-k,<-a2,<-b2]at hs;clear j k a2 b2 a1 b1;refine en (cf 24) Tryz.func113 λA C L X=>?_;cbv;repeat' (first|apply bk|exact zf|(intro J;cbv)|apply bB|(refine X.call (q λb hb=>?_);cbv))
 all_goals (refine h _ ?_;rw[hs];obtain rfl:=X.a;(try subst hb);simp only[SD]at *;simp[*])
def X2:∀(t:Ty),Ty.le 4294967295 t->∀{u:Ty}{w:Int}{c1 c2:S}{o v:D}{d0:Int}{l d2:S}{f q:D}{K:PV->List Ob->Prop},cr t w c1 c2 o v->cr u d0 l d2 f q->(∀b,b=same t u->K (.bool b) [])->FT 52 [] [dQ w c1 c2 o v,dQ d0 l d2 f q] K:=by
 refine Ty.parts λt m i=>?_;intro a u w c1 c2 o v d0 l d2 f q K I hu h;obtain⟨G,H,z,r,n⟩:=I;obtain⟨E,F,B,g,j⟩:=hu;have hs:=LN (x:=t) (y:=u);rw[<- G,<-E,<-H,<-F,<-z,<-B]at hs;clear G H z E F B;refine en (cf 38) Tryz.func52 λA C L X=>?_;cbv;repeat' (first|apply bk|exact zf|(intro J;cbv)|apply bB|(refine X.call (mW1.1 r g (ru a) (λx c y _ _ _ _ _ _ _ _ _ _ O d e hK=>m x c (u7 a x c) d e hK) λb1 s=>?_);cbv)|(refine X.call (mW1.2 n j (xf a) (λx c y _ _ _ _ _ _ _ _ _ _ _ _ _ _ O d e hK=>Xw d e (λk=>i x c (xJ a x c) d.2.1 e.2.1 k) hK) λb2 p=>?_);cbv))
 all_goals (refine h _ ?_;rw[hs];obtain rfl:=X.a;(try subst s);(try subst p);(try subst N);(try subst M);simp only[SD]at *;simp[*])
end Go.VC.cc
namespace Go.VC
def Ty.zero:Ty:=.mk 0 [] [] [] []
def TE.zero:TE:=⟨[],[],Ty.zero,Ty.zero⟩
def VE.zero:VE:=⟨[],[],Ty.zero⟩
def AE.zero:AE:=⟨[],[],[]⟩
def IF.zero:IF:=⟨[],[],[],[],[]⟩
def kP{α:Type}{p:α->Bool}{l:List α}{i:Nat}(h:i<l.length)(a:p l[i]=true)(ha:∀x∈l.take i,p x=false):l.find? p=some l[i]:=by rw[List.find?_eq_some_iff_getElem];refine⟨a,i,h,rfl,λj b=>?_⟩;have:=ha l[j] (by rw[jY];exact⟨j,yO,rfl⟩);simp[this]
end Go.VC
namespace Go.VC.cc
open Go Go.VC Go.Proofs
section
def XF(x:Ty)(v:PV):Prop:=∃b c1 c2 c a,v=dQ b c1 c2 c a/\cr x b c1 c2 c a
def XX(x:Fe)(v:PV):Prop:=∃i c1 c2 a h b c,v=qe i c1 c2 a h b c/\qV x i c1 c2 a h b c
def pmR(x:Pm)(v:PV):Prop:=∃i c1 c2 a h b c,v=L2 i c1 c2 a h b c/\J0 x i c1 c2 a h b c
def XP(x:IF)(v:PV):Prop:=∃b c1 c2 c a,v=qN b c1 c2 c a/\lQ x b c1 c2 c a
def teR(x:TE)(v:PV):Prop:=∃q c1 c2 h n k m i j c a b,v=tE q c1 c2 h n k m i j c a b/\p8 x q c1 c2 h n k m i j c a b
def veR(x:VE)(v:PV):Prop:=∃i c1 c2 a h b c,v=Cc i c1 c2 a h b c/\wT x i c1 c2 a h b c
def aeR(x:AE)(v:PV):Prop:=∃a c1 c2,v=Qi a c1 c2/\KE x a c1 c2
inductive Ix:{α:Type}->(α->List D)->(α->PV->Prop)->TypeId->FuncId->FuncId->FuncId->List PV->Prop
 |a {s}:Ix dy XP 97 191 141 142 [.du [.str s] 0]
 |b {s}:Ix fZ teR 136 276 239 240 [.du [.str s] 0]
 |c {s}:Ix mj veR 91 277 241 242 [.du [.str s] 0]
 |d {s}:Ix qW aeR 210 278 243 244 [.du [.str s] 0]
 |e:Ix fj XX 57 208 261 288 []
 |f:Ix fj XX 57 208 261 262 []
 |g {s}:Ix fj XX 57 208 261 209 [.du [.str s] 0]
 |h {s}:Ix fj XX 57 208 261 212 [.du [.str s] 0]
 |i {x0 x1 x2 x3 x4}:Ix dB pmR 73 210 0 211 [.du [.int .i64 x0,.str x1,.str x2,.lst 29 x3,.lst 57 x4] 0]
 |j:Ix ca XF 29 203 157 158 []
 |k {d dT dg}:Ix ca XF 29 203 157 334 [.du [.lst 97 d,.dmp 136 dT,.undef] 0,.du [.lst 9 dg] 0]
 |l {d dT dg e0 e1 e2 e3 e4 e5 e6 e7 e8 e9 kj sy}:Ix ca XF 29 203 157 337 [.du [.lst 97 d,.dmp 136 dT,.undef] 0,.du [.str e0,.lst 73 e1,.int .i64 e2,.str e3,.str e4,.lst 29 e5,.lst 57 e6,.int .i64 e7,.str e8,.str e9,.lst 29 kj,.lst 57 sy] 0,.du [.lst 9 dg] 0]
 |m:Ix dy XP 97 154 88 89 []
 |n:Ix dy XP 97 154 88 90 []
inductive Fn:{α:Type}->(α->List D)->(α->PV->Prop)->α->TypeId->FuncId->FuncId->FuncId->List PV->Prop
 |a {s}:Fn dy XP IF.zero 97 191 141 142 [.du [.str s] 0]
 |b {s}:Fn fZ teR TE.zero 136 276 239 240 [.du [.str s] 0]
 |c {s}:Fn mj veR VE.zero 91 277 241 242 [.du [.str s] 0]
 |d {s}:Fn qW aeR AE.zero 210 278 243 244 [.du [.str s] 0]
def Fn.ix{α:Type}{enc:α->List D}{R:α->PV->Prop}{e:TypeId}{f o g:FuncId}{gU:List PV}{a:α}(z:Fn enc R a e f o g gU):Ix enc R e f o g gU:=by cases z<;>constructor
section
variable {α:Type}{enc:α->List D}{R:α->PV->Prop}{e:TypeId}{f o g:FuncId}{gU:List PV}{l:List α}{d:D}{p:α->Bool}{K:PV->List Ob->Prop}
def UN(z:Ix enc R e f o g gU)(c:d=bt enc l)(hl:l.length<=4294967295)
 (u:∀x∈l,∀v (t:PV->List Ob->Prop),R x v->(∀b,b=p x->t (.bool b) [])->FT g [] (v::gU) t)
 (h:∀r:Int,r=ou p l->K (.int .i64 r) []):FT f [] [.lst e d,.cu g gU] K:=by
 cases z
 all_goals
  first|refine en Fl Tryz.func191 λA C L X=>?_|refine en Fl Tryz.func276 λA C L X=>?_|refine en Fl Tryz.func277 λA C L X=>?_|refine en Fl Tryz.func278 λA C L X=>?_|refine en Fl Tryz.func208 λA C L X=>?_|refine en Fl Tryz.func210 λA C L X=>?_|refine en Fl Tryz.func203 λA C L X=>?_|refine en Fl Tryz.func154 λA C L X=>?_
  obtain⟨j,n,a⟩:=lenOf c;cbv;refine lu X (λi=>i<=j/\∀x∈l.take i,p x=false) (λi=>j-i) 0 ⟨bw _,yS⟩ (λi=>[(8,.int .i64 i)]) ?_;rintro i ⟨w,ha⟩;cbv;constructor<;>intro h1
  ·have h5:i<l.length:=lY X.a a h1;have s:=iX X.a c h5;have q:=jX X.a h5;cbv;repeat' (first|apply bk|exact zf|(intro J;cbv)|apply bB)
   any_goals exact s
   refine X.call (u _ (br h5) _ _ (by first|exact⟨_,_,_,_,_,rfl,iS X.a c h5⟩|exact⟨_,_,_,_,_,rfl,ot X.a c h5⟩|exact⟨_,_,_,_,_,_,_,rfl,kQ X.a c h5⟩|exact⟨_,_,_,_,_,_,_,rfl,im X.a c h5⟩|exact⟨_,_,_,_,_,_,_,rfl,pg X.a c h5⟩|exact⟨_,_,_,rfl,z8 X.a c h5⟩|exact⟨_,_,_,_,_,_,_,_,_,_,_,_,rfl,mQ X.a c h5⟩) λb hb=>?_);have m:b=p l[i]:=hb;clear hb;cbv;repeat' (first|apply bk|exact zf|(intro J;cbv)|apply bB)
   any_goals exact q
   ·refine h i ?_;exact(mH h5 ha (by rw[<- m];assumption)).symm
   ·have hf:p l[i]=false:=by rw[<- m];assumption
    refine⟨i+1,⟨yO,?_⟩,yO,?_⟩
    ·rw[cj h5];intro x k;rcases bE.1 k with k|k
     ·exact ha x k
     ·simp at k;subst k;exact hf
    exact yc
  ·have h5:i=j:=gY X.a a h1;subst h5;cbv;refine h (-1) ?_;rw[n,bz]at ha;exact(mI ha).symm
def nF(z:Ix enc R e f o g gU)(hf:o=261\/o=157\/o=88)(c:d=bt enc l)(hl:l.length<=4294967295)
 (j:∀x∈l,∀v (a:PV->List Ob->Prop),R x v->(∀b,b=p x->a (.bool b) [])->FT g [] (v::gU) a)
 (h:∀b,b=l.any p->K (.bool b) []):FT o [] [.lst e d,.cu g gU] K:=by
 have i:=z;cases z;all_goals try (exfalso;revert hf;decide)
 all_goals
  first|refine en YK Tryz.func261 λA C L X=>?_|refine en YK Tryz.func157 λA C L X=>?_|refine en YK Tryz.func88 λA C L X=>?_
  cbv;refine X.call (UN i c hl j λr hr=>?_);have q:=h (A.le 0 r) (by rw[X.a,vW,qQ,hr]);cbv;exact q
def PU{m:α}(z:Fn enc R m e f o g gU)(a:d=bt enc l)(hl:l.length<=4294967295)
 (s:∀x∈l,∀v (n:PV->List Ob->Prop),R x v->(∀b,b=p x->n (.bool b) [])->FT g [] (v::gU) n)
 (h:∀v b,R ((l.find? p).getD m) v->b=(l.find? p).isSome->K (.tup [v,.bool b]) []):FT o [] [.lst e d,.cu g gU] K:=by
 have q:=z.ix;cases z
 all_goals
  first|refine en PQ Tryz.func141 λA C L X=>?_|refine en PQ Tryz.func239 λA C L X=>?_|refine en PQ Tryz.func241 λA C L X=>?_|refine en PQ Tryz.func243 λA C L X=>?_
  obtain⟨t,k,c⟩:=lenOf a;cbv;refine X.call (UN q a hl s λr hr=>?_);rcases nj p l with⟨e1,e2⟩|⟨i,h5,e1,e2,e3⟩
  ·have hz:l.find? p=none:=by rw[gg];intro x u;simp[e2 x u]
   cbv;repeat' (first|apply bk|exact zf|(intro J;cbv)|apply bB)
   ·exfalso;rw[e1]at hr;subst hr;obtain rfl:=X.a;simp only[SD,fP]at J;omega
   ·exfalso;rw[e1]at hr;subst hr;obtain rfl:=X.a;simp only[SD,fP]at J;omega
   ·refine h _ _ ?_ (by rw[hz];rfl);rw[hz];first|exact⟨_,_,_,_,_,rfl,rfl,rfl,rfl,rfl,rfl⟩|exact⟨_,_,_,_,_,_,_,rfl,rfl,rfl,rfl,rfl,rfl,rfl,rfl⟩|exact⟨_,_,_,rfl,rfl,rfl,rfl⟩|exact⟨_,_,_,_,_,_,_,_,_,_,_,_,rfl,rfl,rfl,⟨rfl,rfl,rfl,rfl,rfl⟩,rfl,rfl,rfl,rfl,rfl⟩
  ·have hz:l.find? p=some l[i]:=kP h5 e2 e3;rw[e1]at hr;obtain rfl:r=bj i:=hr;have j:=iX X.a a h5;cbv;repeat' (first|apply bk|exact zf|(intro J;cbv)|apply bB)
   any_goals exact j
   ·refine h _ _ ?_ (by rw[hz];rfl);rw[hz];first|exact⟨_,_,_,_,_,rfl,ot X.a a h5⟩|exact⟨_,_,_,_,_,_,_,rfl,pg X.a a h5⟩|exact⟨_,_,_,rfl,z8 X.a a h5⟩|exact⟨_,_,_,_,_,_,_,_,_,_,_,_,rfl,mQ X.a a h5⟩
   ·exfalso;obtain rfl:=X.a;simp only[SD,fP]at J;omega
end
end
end Go.VC.cc
namespace Go.VC
end Go.VC
namespace Go.VC.cc
open Go Go.VC Go.Proofs
section
variable {s a c d:S}{K:PV->List Ob->Prop}{c1 e f:D}{c2:Int}
def abJ{x:IF}{c2:D}{c:D}{d:D}(g:lQ x a c1 c2 c d)(h:∀b,b=(x.path==s)->K (.bool b) []):
 FT 142 [] [qN a c1 c2 c d,.du [.str s] 0] K:=by
 have k:=g.1;refine en (cf 8) Tryz.func142 λA C L X=>?_;have q:=h (A.seq a s) (by rw[X.a,<-k];rfl);cbv;exact q
def abi{x:TE}{l:Int}{m:S}{j:S}{g:D}{i:D}(n:p8 x a c1 c2 c d e f l m j g i)(h:∀b,b=(x.name==s)->K (.bool b) []):
 FT 240 [] [tE a c1 c2 c d e f l m j g i,.du [.str s] 0] K:=by
 have k:=n.1;refine en (cf 8) Tryz.func240 λA C L X=>?_;have q:=h (A.seq a s) (by rw[X.a,<-k];rfl);cbv;exact q
def abh{x:VE}(g:wT x a c1 c2 c d e f)(h:∀b,b=(x.name==s)->K (.bool b) []):
 FT 242 [] [Cc a c1 c2 c d e f,.du [.str s] 0] K:=by
 have k:=g.1;refine en (cf 8) Tryz.func242 λA C L X=>?_;have q:=h (A.seq a s) (by rw[X.a,<-k];rfl);cbv;exact q
def abg{x:AE}{c1:S}{c2:S}(g:KE x a c1 c2)(h:∀b,b=(x.name==s)->K (.bool b) []):
 FT 244 [] [Qi a c1 c2,.du [.str s] 0] K:=by
 have k:=g.1;refine en (cf 8) Tryz.func244 λA C L X=>?_;have q:=h (A.seq a s) (by rw[X.a,<-k];rfl);cbv;exact q
end
section
variable {K:PV->List Ob->Prop}{f b a:S}{c1 c e:D}{c2:Int}
def Xg{l:List Pm}{d:D}(t:d=bt dB l)(hl:l.length<=4294967295)(dJ:∀p∈l,p.ok)(h:∀r,r=bt dB l->K (.lst 73 r) []):FT 192 [] [.lst 73 d] K:=by
 refine en (cf 23) Tryz.func192 λA C L X=>?_;cbv;refine X.call (Pt.2.2.1 t yO λr hr=>?_);obtain⟨j,s,g⟩:=lenOf hr;cbv;refine lP X (λx=>x.1<=j/\x.2=bt dB l) (λx=>j-x.1) (0,r) ⟨bw _,hr⟩ [0] (λ(x:Nat×D)=>⟨[(8,.int .i64 x.1),(7,.int .i64 (A.len r)),(0,.row 73 0)],[.row 73 x.2 true]⟩) ?_;rintro⟨i,z⟩ ⟨B,hz⟩;simp only at B hz;cbv;constructor<;>intro h1
 ·have h5:i<l.length:=lY X.a g h1;have u:=GX X.a hz h5;have y:=iX X.a hz h5;have v:=jX X.a h5;refine p1 ?_;refine X.call (QB _ (dJ _ (br h5)) u λe0 e1 e2 e3 e4 he=>?_);obtain⟨m,o,n,k,q⟩:=he;have w:A.nK z (bj i) 2 [.int e0,.str e1,.str e2,e3,e4]=z:=rA X.a hz h5 (by rw[o5,m,o,n,k,q];rfl);refine p1 ?_;exact⟨(i+1,A.nK z (bj i) 2 [.int e0,.str e1,.str e2,e3,e4]),⟨yP,w.trans hz⟩,yP,[0],rfl,yc⟩
 cbv;exact h z hz
def Xq{x:TE}(i:x.ok){k:Int}{l j:S}{d g:D}(hc:p8 x f c1 c2 b a c e k l j d g)
 (h:∀e0 e1 e2 e3 e4 e5 e6 e7 e8 e9 kj sy,p8 x e0 e1 e2 e3 e4 e5 e6 e7 e8 e9 kj sy->K (tE e0 e1 e2 e3 e4 e5 e6 e7 e8 e9 kj sy) []):
 FT 145 [] [tE f c1 c2 b a c e k l j d g] K:=by
 obtain⟨p,m,n,o⟩:=hc;refine en ZR Tryz.func145 λA C L X=>?_;refine p1 ?_;refine X.call (Xg m i.np i.p λr hr=>?_);refine p1 ?_;refine X.call (QB _ i.lo n λe0 e1 e2 e3 e4 he=>?_);refine p1 ?_;refine X.call (QB _ i.up o λg0 g1 g2 g3 g4 q=>?_);refine p1 ?_;exact h _ _ _ _ _ _ _ _ _ _ _ _ ⟨p,hr,he,q⟩
def Xp{x:VE}(d:x.ok)(hc:wT x f c1 c2 b a c e)
 (h:∀e0 e1 e2 e3 e4 e5 e6,wT x e0 e1 e2 e3 e4 e5 e6->K (Cc e0 e1 e2 e3 e4 e5 e6) []):
 FT 146 [] [Cc f c1 c2 b a c e] K:=by
 obtain⟨j,g,i⟩:=hc;refine en ZQ Tryz.func146 λA C L X=>?_;refine p1 ?_;refine X.call (Xg g d.np d.p λr hr=>?_);refine p1 ?_;refine X.call (QB _ d.ty i λe0 e1 e2 e3 e4 he=>?_);refine p1 ?_;exact h _ _ _ _ _ _ _ ⟨j,hr,he⟩
end
def F76{x:IF}(m:x.ok){n:S}{c1 c2 p s:D}{K:PV->List Ob->Prop}(hc:lQ x n c1 c2 p s)
 (h:∀e0 e1 e2 e3 e4,lQ x e0 e1 e2 e3 e4->K (qN e0 e1 e2 e3 e4) []):
 FT 76 [] [qN n c1 c2 p s] K:=by
 obtain⟨R,N,G,I,E⟩:=hc;have nt:=m.nt;have nv:=m.nv;have na:=m.na;have nd:=m.nd;refine en g76 Tryz.func76 λA C L X=>?_;cbv;refine X.cut (λ(z:D×D)=>⟨[(1,.box 0 0),(2,.box 1 0)],[.box [.str n,.row 136 2,.row 91 3,.lst 210 p,.lst 213 s],.box [.undef,.undef,.undef,.undef,.undef],.row 136 z.1 true,.row 91 z.2 true]⟩) (λz=>z.1=bt fZ x.types/\z.2=bt mj x.values) ?_ ?_
 ·cbv;repeat' (first|apply bk|exact zf|(intro J;cbv)|apply bB|(refine X.call (Pt.2.2.2.1 N yO λO l=>?_);cbv)|(refine X.call (Pt.2.2.2.2.1 G yO λr2 a=>?_);cbv))
  all_goals (refine⟨(O,r2),⟨l,a⟩,[0,1,2,3],rfl,?_⟩;exact yc)
 rintro⟨P,v⟩ ⟨g,i⟩;simp only at g i;obtain⟨e,B,c⟩:=lenOf g;obtain⟨d,u,b⟩:=lenOf i;cbv;refine lP X (λy=>y.1<=e/\y.2=bt fZ x.types) (λy=>e-y.1) (0,P) ⟨bw _,g⟩ [0,1,2,3] (λ(y:Nat×D)=>⟨[(18,.int .i64 y.1),(17,.int .i64 (A.len P)),(16,.row 136 2),(1,.box 0 0),(2,.box 1 0)],[.box [.str n,.row 136 2,.row 91 3,.lst 210 p,.lst 213 s],.box [.undef,.undef,.undef,.undef,.undef],.row 136 y.2 true,.row 91 v true]⟩) ?_;rintro⟨j,r⟩ ⟨hj,hr⟩;simp only at hj hr;cbv;constructor<;>intro h1
 ·have h5:j<x.types.length:=lY X.a c h1;have t:=mQ X.a hr h5;have H:=iX X.a hr h5;have F:=jX X.a h5;refine p1 ?_;refine X.call (Xq (m.t _ (br h5)) t λe0 e1 e2 e3 e4 e5 e6 e7 e8 e9 kj sy he=>?_);obtain⟨f,k,⟨l0,l1,l2,l3,l4⟩,T,V,Q,W,U⟩:=he;have w:A.nK r (bj j) 0 [.str e0,e1,.int e2,.str e3,.str e4,e5,e6,.int e7,.str e8,.str e9,kj,sy]=r:=rA X.a hr h5 (by rw[o4,f,k,l0,l1,l2,l3,l4,T,V,Q,W,U];rfl);refine p1 ?_;exact⟨(j+1,A.nK r (bj j) 0 [.str e0,e1,.int e2,.str e3,.str e4,e5,e6,.int e7,.str e8,.str e9,kj,sy]),⟨yP,w.trans hr⟩,yP,[0,1,2,3],rfl,yc⟩
 cbv;refine lP X (λy=>y.1<=d/\y.2=bt mj x.values) (λy=>d-y.1) (0,v) ⟨bw _,i⟩ [0,1,2,3] (λ(y:Nat×D)=>⟨[(33,.int .i64 y.1),(32,.int .i64 (A.len v)),(31,.row 91 3),(1,.box 0 0),(2,.box 1 0)],[.box [.str n,.row 136 2,.row 91 3,.lst 210 p,.lst 213 s],.box [.undef,.undef,.undef,.undef,.undef],.row 136 r true,.row 91 y.2 true]⟩) ?_;rintro⟨j2,r2⟩ ⟨M,a⟩;simp only at M a;cbv;constructor<;>intro h1
 ·have h5:j2<x.values.length:=lY X.a b h1;have t:=pg X.a a h5;have H:=iX X.a a h5;have F:=jX X.a h5;refine p1 ?_;refine X.call (Xp (m.v _ (br h5)) t λe0 e1 e2 e3 e4 e5 e6 he=>?_);obtain⟨f,k,l0,l1,l2,l3,l4⟩:=he;have w:A.nK r2 (bj j2) 0 [.str e0,e1,.int e2,.str e3,.str e4,e5,e6]=r2:=rA X.a a h5 (by rw[zJ,f,k,l0,l1,l2,l3,l4];rfl);refine p1 ?_;exact⟨(j2+1,A.nK r2 (bj j2) 0 [.str e0,e1,.int e2,.str e3,.str e4,e5,e6]),⟨yP,w.trans a⟩,yP,[0,1,2,3],rfl,yc⟩
 cbv;refine X.cut (λ(z:D×D)=>⟨[(1,.box 0 0),(2,.box 1 0)],[.box [.str n,.row 136 2,.row 91 3,.row 210 4,.row 213 5],.box [.undef,.undef,.undef,.undef,.undef],.row 136 r true,.row 91 r2 true,.row 210 z.1 true,.row 213 z.2 true]⟩) (λz=>z.1=bt qW x.aliases/\z.2=bt uy x.deprecated) ?_ ?_
 ·cbv;repeat' (first|apply bk|exact zf|(intro J;cbv)|apply bB|(refine X.call (Pt.2.2.2.2.2.1 I yO λO l=>?_);cbv)|(refine X.call (Pt.2.2.2.2.2.2 E yO λr2 a=>?_);cbv))
  all_goals (refine⟨(_,_),⟨l,a⟩,[0,1,2,3,4,5],rfl,?_⟩;exact yc)
 rintro⟨z3,z4⟩ ⟨q,o⟩;simp only at q o;cbv;exact h _ _ _ _ _ ⟨R,hr,a,q,o⟩
end Go.VC.cc
namespace Go.VC
def fF(env:List IF)(path:S):Option IF:=env.find? λi=>i.path==path
inductive WS where|none|th (x:TE)|val (x:VE)|TY (x:AE)|Bh
def ko(i:IF)(n:S):WS:=match i.types.find? λx=>x.name==n with
 |some x=>.th x
 |none=>match i.values.find? λx=>x.name==n with
  |some x=>.val x
  |none=>match i.aliases.find? λx=>x.name==n with
   |some x=>.TY x
   |none=>.Bh
def iZ(env:List IF)(m n:S):WS:=match fF env m with
 |none=>.none
 |some i=>ko i n
def kf{α:Type}{p:α->Bool}{l:List α}{x:α}(h:l.find? p=some x):x∈l:=cE h
def ey(env:List IF):Prop:=env.length<=4294967295/\∀i∈env,i.ok
def ly{env:List IF}(h:ey env){s:S}{i:IF}(a:fF env s=some i):i.ok:=h.2 i (kf a)
def Ov:IF.zero.ok:=⟨by simp[IF.zero],by simp[IF.zero],by simp[IF.zero],by simp[IF.zero],by simp[IF.zero],by simp[IF.zero]⟩
end Go.VC
namespace Go.VC.cc
open Go Go.VC Go.Proofs
section
variable {env:List IF}{d:D}{K:PV->List Ob->Prop}{s c:S}
def F75(a:d=bt dy env)(hl:ey env)(hs:c=s)
 (h:∀e0 e1 e2 e3 e4 b,lQ ((fF env s).getD IF.zero) e0 e1 e2 e3 e4->b=(fF env s).isSome->K (.tup [qN e0 e1 e2 e3 e4,.bool b]) []):
 FT 75 [] [.lst 97 d,.str c] K:=by
 subst hs;refine en (cf 11) Tryz.func75 λA C L X=>?_;cbv;refine X.call (PU .a (p:=λi=>i.path==c) a hl.1 (λx j _ k ⟨_,_,_,_,_,e,f⟩ hK=>e▸abJ f hK) λv b g hb=>?_);obtain⟨e0,e1,e2,e3,e4,rfl,he⟩:=g;cbv;exact h _ _ _ _ _ _ he hb
def WW(a:d=bt dy env)(hl:ey env)(hs:c=s)
 (h:∀e0 e1 e2 e3 e4 b,lQ ((fF env s).getD IF.zero) e0 e1 e2 e3 e4->b=(fF env s).isSome->K (.tup [qN e0 e1 e2 e3 e4,.bool b]) []):
 FT 43 [] [.lst 97 d,.str c] K:=by
 refine en (cf 17) Tryz.func43 λA C L X=>?_;cbv;refine X.call (F75 a hl hs λe0 e1 e2 e3 e4 b he hb=>?_);cbv
 have dJ:((fF env s).getD IF.zero).ok:=by
  cases hf:fF env s with
  |none=>exact Ov
  |some i=>exact ly hl hf
 refine X.call (F76 dJ he λg0 g1 g2 g3 g4 e=>?_);cbv;exact h _ _ _ _ _ _ e hb
abbrev ux(m n:S)(a b c:PV):PV:=.agg [.str m,.str n,a,b,c]
def abr{m n:S}(O:d=bt dy env)(hl:ey env)
 (h0:iZ env m n= .none->K (.tup [ux m n .nilp .nilp .nilp,.bool false]) [])
 (h1:∀x g c1 c2 o u r t F B E k j,iZ env m n= .th x->x.ok->p8 x g c1 c2 o u r t F B E k j->K (.tup [ux m n (.du [.str g,.lst 73 c1,.int .i64 c2,.str o,.str u,.lst 29 r,.lst 57 t,.int .i64 F,.str B,.str E,.lst 29 k,.lst 57 j] 0) .nilp .nilp,.bool true]) [])
 (y:∀x g c1 c2 o u r t,iZ env m n= .val x->x.ok->wT x g c1 c2 o u r t->K (.tup [ux m n .nilp (.du [.str g,.lst 73 c1,.int .i64 c2,.str o,.str u,.lst 29 r,.lst 57 t] 0) .nilp,.bool true]) [])
 (h3:∀x g c1 c2 b,(iZ env m n= .TY x/\b=true\/iZ env m n= .Bh/\b=false)->KE x g c1 c2->K (.tup [ux m n .nilp .nilp (.du [.str g,.str c1,.str c2] 0),.bool b]) []):
 FT 197 [] [.lst 97 d,.str m,.str n] K:=by
 refine en (cf 58) Tryz.func197 λA C L X=>?_;cbv;refine X.call (F75 O hl rfl λe0 e1 e2 e3 e4 b he hb=>?_);cases hf:fF env m with
 |none=>
  rw[hf]at hb;obtain rfl:b=false:=hb;have q:=h0 (by rw[iZ,hf]);cbv;repeat' (first|apply bk|exact zf|(intro J;cbv)|apply bB)
  ·exact q
  ·obtain rfl:=X.a;cases J
 |some i=>
  rw[hf]at hb he;simp only[eR]at he;obtain rfl:b=true:=hb;have dJ:=ly hl hf;obtain⟨P,I,H,G,Q⟩:=he;have M:iZ env m n=ko i n:=by rw[iZ,hf]
  rw[M]at h0 h1 y h3;clear M;cbv;repeat' (first|apply bk|exact zf|(intro J;cbv)|apply bB)
  ·obtain rfl:=X.a;cases J
  clear J;refine X.call (PU .b (p:=λx=>x.name==n) I dJ.nt (λx l _ N ⟨_,_,_,_,_,_,_,_,_,_,_,_,e,w⟩ hK=>e▸abi w hK) λv b l hb=>?_);obtain⟨g,c1,c2,o,u,r,t,F,B,E,k,j,rfl,l⟩:=l;cases a:i.types.find? (λx=>x.name==n)with
  |some x=>
   rw[a]at l hb;obtain rfl:b=true:=hb;have q:=h1 x g c1 c2 o u r t F B E k j (by rw[ko,a]) (dJ.t _ (kf a)) l;cbv;repeat' (first|apply bk|exact zf|(intro J;cbv)|apply bB)
   ·exact q
   ·obtain rfl:=X.a;cases J
  |none=>
   rw[a]at l hb;obtain rfl:b=false:=hb;cbv;repeat' (first|apply bk|exact zf|(intro J;cbv)|apply bB)
   ·obtain rfl:=X.a;cases J
   clear J;refine X.call (PU .c (p:=λx=>x.name==n) H dJ.nv (λx l _ N ⟨_,_,_,_,_,_,_,e,w⟩ hK=>e▸abh w hK) λv b z hb=>?_);obtain⟨T,W,R,u3,U,V,u6,rfl,z⟩:=z;cases f:i.values.find? (λx=>x.name==n)with
   |some x=>
    rw[f]at z hb;obtain rfl:b=true:=hb;have q:=y x T W R u3 U V u6 (by rw[ko,a];simp only[f]) (dJ.v _ (kf f)) z;cbv;repeat' (first|apply bk|exact zf|(intro J;cbv)|apply bB)
    ·exact q
    ·obtain rfl:=X.a;cases J
   |none=>
    rw[f]at z hb;obtain rfl:b=false:=hb;refine p2 (λJ=>?_) (λJ=>?_)
    ·obtain rfl:=X.a;cases J
    clear J;refine X.call (PU .d (p:=λx=>x.name==n) G dJ.na (λx l _ N ⟨_,_,_,e,w⟩ hK=>e▸abg w hK) λv b ha hb=>?_);obtain⟨a0,a1,a2,rfl,ha⟩:=ha
    have q:=h3 ((i.aliases.find? (λx=>x.name==n)).getD AE.zero) a0 a1 a2 b (by
     cases h:i.aliases.find? (λx=>x.name==n)with
     |some x=>rw[h]at hb;exact .inl ⟨by rw[ko,a];simp only[f,h];rfl,hb⟩
     |none=>rw[h]at hb;exact .inr ⟨by rw[ko,a];simp only[f,h],hb⟩) ha
    cbv;repeat' (first|apply bk|exact zf|(intro J;cbv)|apply bB)
    exact q
end
section
variable {d:D}{K:PV->List Ob->Prop}
def UF:(∀{x:IF}{s c:S}{n:S}{c1 c2 l m:D}{K:PV->List Ob->Prop}(F:lQ x n c1 c2 l m)(hl:x.types.length<=4294967295)(hs:c=s)(h:∀ e0 e1 e2 e3 e4 e5 e6 e7 e8 e9 kj sy b,p8 ((x.types.find? λy=>y.name==s).getD TE.zero) e0 e1 e2 e3 e4 e5 e6 e7 e8 e9 kj sy->b=(x.types.find? λy=>y.name==s).isSome->K (.tup [tE e0 e1 e2 e3 e4 e5 e6 e7 e8 e9 kj sy,.bool b]) []),FT 184 [] [qN n c1 c2 l m,.str c] K)/\
 (∀{x:IF}{s c:S}{n:S}{c1 c2 l m:D}{K:PV->List Ob->Prop}(F:lQ x n c1 c2 l m)(hl:x.values.length<=4294967295)(hs:c=s)(h:∀ e0 e1 e2 e3 e4 e5 e6 b,wT ((x.values.find? λy=>y.name==s).getD VE.zero) e0 e1 e2 e3 e4 e5 e6->b=(x.values.find? λy=>y.name==s).isSome->K (.tup [Cc e0 e1 e2 e3 e4 e5 e6,.bool b]) []),FT 214 [] [qN n c1 c2 l m,.str c] K)/\
 (∀{x:IF}{s c:S}{n:S}{c1 c2 l m:D}{K:PV->List Ob->Prop}(F:lQ x n c1 c2 l m)(hl:x.aliases.length<=4294967295)(hs:c=s)(h:∀ e0 e1 e2 b,KE ((x.aliases.find? λy=>y.name==s).getD AE.zero) e0 e1 e2->b=(x.aliases.find? λy=>y.name==s).isSome->K (.tup [Qi e0 e1 e2,.bool b]) []),FT 215 [] [qN n c1 c2 l m,.str c] K):=by
 refine⟨?_,?_,?_⟩;have r:=trivial
 rotate_left
 have q:=trivial
 rotate_left
 have I:=trivial
 rotate_left
 all_goals (
  intro x s c n c1 c2 l m K F hl hs h;subst hs;obtain⟨N,a1,a2,a3,a4⟩:=F
  first
   |(have a:=r
     refine FC.enter (G:=cf 28) fD mixed ⟨Tryz.func184,by rfl,rfl⟩ rfl rfl rfl ?_)
   |(have a:=q
     refine FC.enter (G:=cf 28) fD mixed ⟨Tryz.func214,by rfl,rfl⟩ rfl rfl rfl ?_)
   |(refine FC.enter (G:=cf 28) fD mixed ⟨Tryz.func215,by rfl,rfl⟩ rfl rfl rfl ?_)
  intro A C L X
  first
   |(have a:=r
     obtain⟨t,u,g⟩:=lenOf a1)
   |(have a:=q
     obtain⟨o,v,j⟩:=lenOf a2)
   |(obtain⟨p,w,f⟩:=lenOf a3)
  cbv
  first
   |(have a:=r
     refine X.loop (λ(i:Nat)=>⟨[(6,.int .i64 i),(2,.box 0 0),(1,.str c),(4,.box 1 0)],[.box [.str n,.lst 136 c1,.lst 91 c2,.lst 210 l,.lst 213 m],.box [.undef,.undef,.undef,.undef,.undef,.undef,.undef,.undef,.undef,.undef,.undef,.undef]]⟩) (λi=>i<=t/\∀y∈x.types.take i,(y.name==c)=false) (λi=>t-i) 0 ⟨bw _,yS⟩ ?_ ?_)
   |(have a:=q
     refine X.loop (λ(i:Nat)=>⟨[(6,.int .i64 i),(2,.box 0 0),(1,.str c),(4,.box 1 0)],[.box [.str n,.lst 136 c1,.lst 91 c2,.lst 210 l,.lst 213 m],.box [.undef,.undef,.undef,.undef,.undef,.undef,.undef]]⟩) (λi=>i<=o/\∀y∈x.values.take i,(y.name==c)=false) (λi=>o-i) 0 ⟨bw _,yS⟩ ?_ ?_)
   |(refine X.loop (λ(i:Nat)=>⟨[(6,.int .i64 i),(2,.box 0 0),(1,.str c),(4,.box 1 0)],[.box [.str n,.lst 136 c1,.lst 91 c2,.lst 210 l,.lst 213 m],.box [.undef,.undef,.undef]]⟩) (λi=>i<=p/\∀y∈x.aliases.take i,(y.name==c)=false) (λi=>p-i) 0 ⟨bw _,yS⟩ ?_ ?_)
  ·exact yc
  rintro i ⟨M,ha⟩;cbv;constructor<;>intro h1
  ·skip
   first
    |(have a:=r
      have h5:i<x.types.length:=lY X.a g h1;have E:=mQ X.a a1 h5)
    |(have a:=q
      have h5:i<x.values.length:=lY X.a j h1;have E:=pg X.a a2 h5)
    |(have h5:i<x.aliases.length:=lY X.a f h1
      have E:=z8 X.a a3 h5)
   have B:=E.1
   first
    |(have a:=r
      have z:=iX X.a a1 h5)
    |(have a:=q
      have z:=iX X.a a2 h5)
    |(have z:=iX X.a a3 h5)
   have H:=jX X.a h5;cbv;repeat' (first|apply bk|exact zf|(intro J;cbv)|apply bB)
   any_goals exact z
   any_goals exact H
   ·skip
    first
     |(have a:=r
       have e:x.types[i].name=c:=by rw[<- B];obtain rfl:=X.a;simpa only[SD]using J
       have hz:(x.types.find? λy=>y.name==c)=some x.types[i]:=kP h5 (by simp[e]) ha;refine h _ _ _ _ _ _ _ _ _ _ _ _ _ ?_ ?_)
     |(have a:=q
       have e:x.values[i].name=c:=by rw[<- B];obtain rfl:=X.a;simpa only[SD]using J
       have hz:(x.values.find? λy=>y.name==c)=some x.values[i]:=kP h5 (by simp[e]) ha;refine h _ _ _ _ _ _ _ _ ?_ ?_)
     |(have e:x.aliases[i].name=c:=by rw[<- B];obtain rfl:=X.a;simpa only[SD]using J
       have hz:(x.aliases.find? λy=>y.name==c)=some x.aliases[i]:=kP h5 (by simp[e]) ha;refine h _ _ _ _ ?_ ?_)
    ·rw[hz];exact E
    ·rw[hz];rfl
   ·skip
    first
     |(have a:=r
       have e:¬x.types[i].name=c:=by rename_i g3;rw[<- B];obtain rfl:=X.a;simpa only[SD]using g3)
     |(have a:=q
       have e:¬x.values[i].name=c:=by rename_i g3;rw[<- B];obtain rfl:=X.a;simpa only[SD]using g3)
     |(have e:¬x.aliases[i].name=c:=by rename_i g3;rw[<- B];obtain rfl:=X.a;simpa only[SD]using g3)
    refine⟨i+1,⟨yO,?_⟩,yO,?_⟩
    ·rw[cj h5];intro y k;rcases bE.1 k with k|k
     ·exact ha y k
     ·simp at k;subst k;simpa using e
    exact yc
  first
   |(have a:=r
     have h5:i=t:=gY X.a g h1)
   |(have a:=q
     have h5:i=o:=gY X.a j h1)
   |(have h5:i=p:=gY X.a f h1)
  subst h5
  first
   |(have a:=r
     rw[u,bz]at ha;have hz:(x.types.find? λy=>y.name==c)=none:=by rw[gg];intro y k;simp[ha y k])
   |(have a:=q
     rw[v,bz]at ha;have hz:(x.values.find? λy=>y.name==c)=none:=by rw[gg];intro y k;simp[ha y k])
   |(rw[w,bz]at ha
     have hz:(x.aliases.find? λy=>y.name==c)=none:=by rw[gg];intro y k;simp[ha y k])
  cbv
  first
   |(have a:=r
     refine h _ _ _ _ _ _ _ _ _ _ _ _ _ ?_ ?_)
   |(have a:=q
     refine h _ _ _ _ _ _ _ _ ?_ ?_)
   |(refine h _ _ _ _ ?_ ?_)
  ·skip
   first
    |(have a:=r
      rw[hz];exact⟨rfl,rfl,⟨rfl,rfl,rfl,rfl,rfl⟩,rfl,rfl,rfl,rfl,rfl⟩)
    |(have a:=q
      rw[hz];exact⟨rfl,rfl,rfl,rfl,rfl,rfl,rfl⟩)
    |(rw[hz];exact⟨rfl,rfl,rfl⟩)
  ·rw[hz];rfl)
def TA{env:List IF}{s c:S}(k:d=bt dy env)(hl:env.length<=4294967295)(hs:c=s)
 (h:∀e0 e1 e2 e3 e4 b,lQ ((fF env s).getD IF.zero) e0 e1 e2 e3 e4->b=(fF env s).isSome->K (.tup [qN e0 e1 e2 e3 e4,.bool b]) []):
 FT 183 [] [.lst 97 d,.str c] K:=by
 subst hs;refine en (cf 25) Tryz.func183 λA C L X=>?_;obtain⟨g,j,a⟩:=lenOf k;cbv;refine lu X (λi=>i<=g/\∀y∈env.take i,(y.path==c)=false) (λi=>g-i) 0 ⟨bw _,yS⟩ (λ(i:Nat)=>[(6,.int .i64 i)]) ?_;rintro i ⟨p,ha⟩;cbv;constructor<;>intro h1
 ·have h5:i<env.length:=lY X.a a h1;have n:=ot X.a k h5;have o:=n.1;have m:=iX X.a k h5;have l:=jX X.a h5;cbv;repeat' (first|apply bk|exact zf|(intro J;cbv)|apply bB)
  any_goals exact m
  any_goals exact l
  ·have e:env[i].path=c:=by rw[<- o];obtain rfl:=X.a;simpa only[SD]using J
   have hz:fF env c=some env[i]:=kP h5 (by simp[e]) ha;refine h _ _ _ _ _ _ ?_ ?_
   ·rw[hz];exact n
   ·rw[hz];rfl
  ·have e:¬env[i].path=c:=by rename_i g3;rw[<- o];obtain rfl:=X.a;simpa only[SD,fP]using g3
   refine⟨i+1,⟨yO,?_⟩,yO,?_⟩
   ·rw[cj h5];intro y f;rcases bE.1 f with f|f
    ·exact ha y f
    ·simp at f;subst f;simpa using e
   exact yc
 have h5:i=g:=gY X.a a h1;subst h5;rw[j,bz]at ha;have hz:fF env c=none:=by rw[fF,gg];intro y f;simp[ha y f]
 cbv;refine h _ _ _ _ _ _ ?_ ?_
 ·rw[hz];exact⟨rfl,rfl,rfl,rfl,rfl⟩
 ·rw[hz];rfl
def abN{l:List Pm}(e:d=bt dB l)(hl:l.length<=4294967295)
 (h:∀r,r=bt cT (l.map (·.name))->K (.lst 9 r) []):FT 126 [] [.lst 73 d] K:=by
 refine en ZZ Tryz.func126 λA C L X=>?_;obtain⟨b,c,a⟩:=lenOf e;cbv;refine lP X (λy=>y.1<=b/\y.2=bt cT ((l.take y.1).map (·.name))) (λy=>b-y.1) (0,A.lit []) ⟨bw _,yX⟩ [0] (λ(y:Nat×D)=>⟨[(4,.int .i64 y.1),(3,.row 9 0),(0,.lst 73 d)],[.row 9 y.2 true]⟩) ?_;rintro⟨i,r⟩ ⟨n,hr⟩;simp only at n hr;cbv;constructor<;>intro h1
 ·have h5:i<l.length:=lY X.a a h1;have f:=(Es X.a e h5).1;have m:=iX X.a e h5;have g:=jX X.a h5;have hb:A.gr (A.add (A.len r) (A.len (A.lit [[.str (A.bG (A.cell d (bj i) 0))]]))) 4294967296:=by rw[X.a,hr];simp only[SD,bA];omega
  have j:A.app r (A.lit [[.str (A.bG (A.cell d (bj i) 0))]])=bt cT ((l.take (i+1)).map (·.name)):=by rw[f,X.a,hr,map_take h5];exact cD (k:=[l[i].name])
  refine p1 ?_;exact⟨(i+1,_),⟨yP,j⟩,yP,[0],rfl,yc⟩
 have h5:i=b:=gY X.a a h1;subst h5;rw[c,bz]at hr;cbv;exact h r hr
end
end Go.VC.cc
namespace Go.VC
mutual
def Ty.all:Ty->List Ty| .mk k m n ar fl=>.mk k m n ar fl::(Ty.ra ar++Ty.rb fl)
def Fe.all:Fe->List Ty| .mk _ t _=>Ty.all t
def Ty.ra:List Ty->List Ty|[]=>[]|t::l=>Ty.all t++Ty.ra l
def Ty.rb:List Fe->List Ty|[]=>[]|t::l=>Fe.all t++Ty.rb l
end
def Jj:∀l:List Ty,Ty.ra l=l.flatMap Ty.all
 |[]=>by simp[Ty.ra]
 |t::l=>by simp[Ty.ra,Jj l]
def Jk:∀l:List Fe,Ty.rb l=(l.map Fe.t).flatMap Ty.all
 |[]=>by simp[Ty.rb]
 | .mk s t b::l=>by simp[Ty.rb,Jk l,Fe.all,Fe.t]
def all_eq(t:Ty):t.all=t::t.eA.flatMap Ty.all:=by cases t;simp only[Ty.all,Jj,Jk,Ty.eA,ea,Ty.ar,Ty.fl]
def Jl:∀t:Ty,t.all.length=t.size:=by refine Ty.fV λt a=>?_;rw[all_eq,size_eq,bI,uQ];have:(t.eA.map λu=>u.all.length)=t.eA.map Ty.size:=eF a;rw[this];omega
def gA(go:Ty->Int->Int)(ok:Ty->Bool):List Ty->Int->Int×Bool
 |[],s=>(s,true)
 |t::l,s=>if ok t then gA go ok l (go t s)else(go t s,false)
def pn{go:Ty->Int->Int}{ok:Ty->Bool}:∀(l k:List Ty)(s:Int),gA go ok (l++k) s=if(gA go ok l s).2 then gA go ok k (gA go ok l s).1 else gA go ok l s
 |[],k,s=>by simp[gA]
 |t::l,k,s=>by
  simp only[dL,gA];split
  ·exact pn l k _
  ·simp
end Go.VC
namespace Go.VC.cc
open Go Go.VC Go.Proofs
section
variable {Q:Ty->Prop}{C1 C2:Code}{n q:Nat}{ps:List Nat}{go:Ty->Int->Int}{ok:Ty->Bool}
def Va:dH:={tt:=tt,n:=23,live:=[256],n0:=4}
def Vb:dH:={tt:=tt,n:=8,live:=[256],n0:=2}
def Xa
 (N:∀(t:Ty)(s:Int)(k:Int)(c1 c2:S)(m p:D)(F:PV->List Ob->Prop),Q t->cr t k c1 c2 m p->(ok t=true->∀s',s'=go t s->F (.bl true) [.loop n ps C1 C2 [(q,.box 1 0)] .ready,.box [.int .i64 s']])->
   (ok t=false->∀s',s'=go t s->F (.bl false) [.loop n ps C1 C2 [(q,.box 1 0)] (.done .ret),.box [.int .i64 s']])->YC Tryz.prog tt [.loop n ps C1 C2 [(q,.box 1 0)] .ready,.box [.int .i64 s]] [dQ k c1 c2 m p] F):
 ∀(t:Ty),Ty.le 4294967295 t->t.size<=4294967295->(∀u∈t.all,Q u)->∀{s:Int}{k:Int}{c1 c2:S}{m p:D}{K:PV->List Ob->Prop},cr t k c1 c2 m p->
  (∀s',gA go ok t.all s=(s',true)->K (.bool true) [.box [.kF 2],.box [.cu 256 [.box 0 0,.box 1 0]],.loop n ps C1 C2 [(q,.box 3 0)] .ready,.box [.int .i64 s']])->
  (∀s',gA go ok t.all s=(s',false)->K (.bool false) [.box [.kF 2],.box [.cu 256 [.box 0 0,.box 1 0]],.loop n ps C1 C2 [(q,.box 3 0)] (.done .ret),.box [.int .i64 s']])->
  FT 256 [.box [.kF 2],.box [.cu 256 [.box 0 0,.box 1 0]],.loop n ps C1 C2 [(q,.box 3 0)] .ready,.box [.int .i64 s]] [dQ k c1 c2 m p,.box 0 0,.box 1 0] K:=by
 refine Ty.fV λt P=>?_;intro z hs I s k c1 c2 m p K H h1 h0;obtain⟨w,B⟩:=oJ hs;have E:∀v∈t.eA,∀u∈v.all,Q u:=λv R u hu=>I u (by rw[all_eq];exact jI _ (cb.2 ⟨v,R,hu⟩));rw[all_eq]at h1 h0;refine el Va Tryz.func256 λA C L X=>?_;cbv;refine X.round (N t s _ _ _ _ _ _ (I t (by rw[all_eq];simp)) H (λdJ o g=>?_) (λdJ o g=>?_))
 ·have e1:∀l,gA go ok (t::l) s=gA go ok l o:=λl=>by rw[gA,if_pos dJ,g]
  rw[e1]at h1 h0;cbv;refine X.call (N7 (.inl rfl) z B H λG c=>?_);obtain⟨b,j,a⟩:=lenOf c;cbv;refine lP X (λy=>y.1<=b/\gA go ok ((t.eA.take y.1).flatMap Ty.all) o=(y.2,true)) (λy=>b-y.1) (0,o) ⟨bw _,rfl⟩ [0,1,2,3] (λ(y:Nat×Int)=>⟨[(14,.int .i64 y.1),(13,.int .i64 (A.len G)),(12,.lst 29 G),(1,.box 0 0),(2,.box 1 0)],[.box [.kF 2],.box [.cu 256 [.box 0 0,.box 1 0]],.loop n ps C1 C2 [(q,.box 3 0)] .ready,.box [.int .i64 y.2]]⟩) ?_;rintro⟨i,r⟩ ⟨O,hr⟩;simp only at O hr;cbv;refine⟨λh=>?_,λh=>?_⟩
  ·have h5:i<t.eA.length:=lY X.a a h;have M:=iS X.a c h5;have T:=iX X.a c h5;have x:=jX X.a h5;have e:A.not true=false:=yX;have f:A.not false=true:=yX;refine p1 ?_;refine X.call (P _ (br h5) (iW z _ (br h5)) (w _ (br h5)) (E _ (br h5)) M (λr' d=>?_) (λr' d=>?_))
   ·cbv;repeat' (first|apply bk|exact zf|(intro J;cbv)|apply bB)
    any_goals exact x
    ·exact absurd (e.symm.trans J) yD
    refine⟨(i+1,r'),⟨?_,?_⟩,?_,[0,1,2,3],rfl,?_⟩
    ·simp only;omega
    ·simp only;rw[fu h5,pn,hr,if_pos rfl];exact d
    ·simp only;omega
    exact yc
   ·cbv;repeat' (first|apply bk|exact zf|(intro J;cbv)|apply bB)
    any_goals exact x
    ·refine h0 r' ?_;have e2:t.eA.flatMap Ty.all=(t.eA.take (i+1)).flatMap Ty.all++(t.eA.drop (i+1)).flatMap Ty.all:=by rw[<- ea,cV]
     have e3:gA go ok ((t.eA.take (i+1)).flatMap Ty.all) o=(r',false):=by rw[fu h5,pn,hr,if_pos rfl];exact d
     rw[e2,pn,e3];rfl
    ·have J:A.not false=false:=yA;exact absurd (f.symm.trans J) (by decide)
  have h5:i=b:=gY X.a a h;subst h5;rw[j,bz]at hr;cbv;exact h1 r hr
 ·cbv;exact h0 o (by rw[gA,if_neg (by simp[dJ]),g])
def Rs{t:Ty}(d:Ty.le 4294967295 t)(hs:t.size<=4294967295)(f:∀u∈t.all,Q u){s:Int}{c:Int}{c1 c2:S}{a b:D}{K:PV->List Ob->Prop}(h:cr t c c1 c2 a b)
 (g:∀(t:Ty)(s:Int)(c:Int)(c1 c2:S)(a b:D)(e:PV->List Ob->Prop),Q t->cr t c c1 c2 a b->(ok t=true->∀s',s'=go t s->e (.bl true) [.loop n ps C1 C2 [(q,.box 1 0)] .ready,.box [.int .i64 s']])->
   (ok t=false->∀s',s'=go t s->e (.bl false) [.loop n ps C1 C2 [(q,.box 1 0)] (.done .ret),.box [.int .i64 s']])->YC Tryz.prog tt [.loop n ps C1 C2 [(q,.box 1 0)] .ready,.box [.int .i64 s]] [dQ c c1 c2 a b] e)
 (h1:∀s',gA go ok t.all s=(s',true)->K (.tup []) [.loop n ps C1 C2 [(q,.box 1 0)] .ready,.box [.int .i64 s']])
 (h0:∀s',gA go ok t.all s=(s',false)->K (.tup []) [.loop n ps C1 C2 [(q,.box 1 0)] (.done .ret),.box [.int .i64 s']]):
 FT 255 [.loop n ps C1 C2 [(q,.box 1 0)] .ready,.box [.int .i64 s]] [.kF 0,.du [.int .i64 c,.str c1,.str c2,.lst 29 a,.lst 57 b] 0] K:=by
 refine el Vb Tryz.func255 λA C L X=>?_;cbv;refine X.call (Xa g t d hs f h (λr hr=>?_) (λr hr=>?_))
 ·cbv;exact h1 r hr
 ·cbv;exact h0 r hr
def Vo:dH:={tt:=tt,n:=10,n0:=2,DB:=true}
end
end Go.VC.cc
namespace Go.VC
mutual
def Ty.xa:Ty->Nat| .mk _ _ _ ar fl=>1+max (Ty.Ni ar) (Ty.Nj fl)
def Fe.xa:Fe->Nat| .mk _ t _=>Ty.xa t
def Ty.Ni:List Ty->Nat|[]=>0|t::l=>max (Ty.xa t) (Ty.Ni l)
def Ty.Nj:List Fe->Nat|[]=>0|t::l=>max (Fe.xa t) (Ty.Nj l)
end
def nL(l:List Nat):Nat:=l.foldl max 0
def foldl_max:∀(l:List Nat)(a:Nat),l.foldl max a=max a (nL l)
 |[],a=>by simp[nL]
 |x::l,a=>by unfold nL;simp only[fy];rw[foldl_max l (max a x),foldl_max l (max 0 x)];omega
def vB(x:Nat)(l:List Nat):nL (x::l)=max x (nL l):=by unfold nL;rw[fy,foldl_max];unfold nL;omega
def wC(l k:List Nat):nL (l++k)=max (nL l) (nL k):=by unfold nL;rw[pQ,foldl_max];rfl
def Ja:∀l:List Ty,Ty.Ni l=nL (l.map Ty.xa)
 |[]=>by simp[Ty.Ni,nL]
 |t::l=>by rw[Ty.Ni,Ja l,bF,vB]
def Jb:∀l:List Fe,Ty.Nj l=nL ((l.map Fe.t).map Ty.xa)
 |[]=>by simp[Ty.Nj,nL]
 | .mk s t b::l=>by rw[Ty.Nj,Jb l,bF,bF,vB];rfl
def HA(t:Ty):t.xa=1+nL (t.eA.map Ty.xa):=by cases t;simp only[Ty.xa,Ja,Jb,Ty.eA,bS,wC,Ty.ar,Ty.fl]
def IS{l:List Nat}{n:Nat}(h:∀x∈l,x<=n):nL l<=n:=by
 induction l with
 |nil=>simp[nL]
 |cons x l c=>rw[vB];have a:=h x yS;have b:=c λy d=>h y (by simp[d]);omega
def SJ:∀t:Ty,t.xa<=t.size:=by
 refine Ty.fV λt a=>?_;rw[HA,size_eq];have:nL (t.eA.map Ty.xa)<=(t.eA.map Ty.size).sum:=IS λx b=>by obtain⟨u,hu,rfl⟩:=bH.1 b;have:=a u hu;have J:u.size<=(t.eA.map Ty.size).sum:=vH (bH.2 ⟨u,hu,rfl⟩);omega
 omega
def QK(s:Int):Int:=if -9223372036854775808<=s/\s<=9223372036854775807 then s else Std.wrap .i64 s
def x6:∀(l:List Ty)(s:Nat),s+l.length<=4294967296->gA (λ_ s=>QK (s+1)) (λ_=>true) l (bj s)=(bj (s+l.length),true)
 |[],s,_=>by simp[gA]
 |t::l,s,h=>by
  simp only[bI]at h;rw[gA,if_pos rfl];have e:QK (bj s+1)=bj (s+1):=by unfold QK;rw[if_pos yL];rfl
  rw[e,x6 l (s+1) yO];rw[show s+1+l.length=s+(l.length+1)by omega];rfl
end Go.VC
namespace Go.VC.cc
open Go Go.VC Go.Proofs
def Xm{t:Ty}(d:Ty.le 4294967295 t)(hs:t.size<=4294967295){i:Int}{c1 c2:S}{f g:D}{K:PV->List Ob->Prop}(j:cr t i c1 c2 f g)
 (h:∀r:Int,r=bj t.size->K (.int .i64 r) []):FT 159 [] [dQ i c1 c2 f g] K:=by
 have c:=x6 t.all 0 (by rw[Jl];omega);rw[Jl]at c;refine en (cf 10) Tryz.func159 λA C L X=>?_;cbv;refine X.call (Tz ?_);cbv;refine X.range rfl ⟨Tryz.func255,by rfl,rfl⟩ rfl [(3,.box 1 0)] ?_ ?_
 ·cbv
 cbv;refine X.call (Rs (Q:=λ_=>True) (s:=0) (go:=λ_ s=>QK (s+1)) (ok:=λ_=>true) d hs (λ_ _=>trivial) j ?_ ?_ ?_)
 ·intro u s k b1 b2 m l n _ hu h1 h0;refine YC.enter (G:=Vo) fD mixed rfl rfl rfl rfl rfl ?_;intro A C L X;have e1:A.inr .i64 (A.add s 1)->A.add s 1=QK (s+1):=by rw[X.a,fw,fx];intro h;rw[QK,if_pos h]
  have e2:¬A.inr .i64 (A.add s 1)->A.wrap .i64 (A.add s 1)=QK (s+1):=by rw[X.a,fw,fx];intro h;rw[QK,if_neg h]
  by_cases a:A.inr .i64 (A.add s 1)
  ·have q:=h1 rfl _ (e1 a);cbv;refine .inl ⟨a,λ_=>?_⟩;cbv;exact q
  ·have q:=h1 rfl _ (e2 a);cbv;refine .inr λ_=>?_;cbv;exact q
 ·intro s' b;have e:s'=bj t.size:=by have:=b.symm.trans c;rw[dY]at this;exact(sc this).1
  cbv;exact h _ e
 ·intro s' b;have:=b.symm.trans c;exact absurd (sc this).2 yD
def Xl:∀(t:Ty),Ty.le 4294967295 t->t.size<=4294967295->∀{s:Int}{c1 c2:S}{n p:D}{K:PV->List Ob->Prop},cr t s c1 c2 n p->(∀r:Int,r=bj t.xa->K (.int .i64 r) [])->FT 160 [] [dQ s c1 c2 n p] K:=by
 refine Ty.fV λt B=>?_;intro j hs s c1 c2 n p K v h;have o:=SJ t;obtain⟨d,k⟩:=oJ hs;obtain⟨f,hf⟩:∃f:Nat->Nat,f=λi=>nL ((t.eA.take i).map Ty.xa):=⟨_,rfl⟩;have w:f 0=0:=by rw[hf];rfl
 have fs:∀i (h:i<t.eA.length),f (i+1)=max (f i) t.eA[i].xa:=λi h=>by rw[hf];simp only;rw[cj h,bS,wC];simp[nL]
 have fn:t.xa=1+f t.eA.length:=by rw[HA,hf];simp only;rw[bz]
 clear hf;rw[fn]at h o;refine en (cf 20) Tryz.func160 λA C L X=>?_;cbv;refine X.call (N7 (.inl rfl) j k v λr hr=>?_);obtain⟨b,c,a⟩:=lenOf hr;cbv;refine lu X (λy=>y.1<=b/\y.2=bj (f y.1)) (λy=>b-y.1) (0,0) ⟨bw _,by rw[w];rfl⟩ (λ(y:Nat×Int)=>[(9,.int .i64 y.1),(3,.int .i64 y.2)]) ?_;rintro⟨i,m⟩ ⟨x,g⟩;simp only at x g;cbv;constructor<;>intro h1
 ·have h5:i<t.eA.length:=lY X.a a h1;have u:=iS X.a hr h5;have E:=iX X.a hr h5;have e:=jX X.a h5;have l:=fs i h5;refine p1 ?_;refine X.call (B _ (br h5) (iW j _ (br h5)) (d _ (br h5)) u λz hz=>?_);have q:A.max m z=bj (f (i+1)):=by rw[X.a,FZ,l,g,hz];simp only[bD];omega
  refine p1 ?_;exact⟨(i+1,_),⟨yP,q⟩,yP,yc⟩
 have h5:i=b:=gY X.a a h1;rw[h5,c]at g;have e:A.inr .i64 (A.add m 1):=by rw[X.a,g,fw,fx];simp only[bD];omega
 have q:=h (A.add m 1) (by rw[X.a,g,fx];simp only[bD];omega);cbv;refine .inl ⟨e,λ_=>?_⟩;cbv;exact q
end Go.VC.cc
namespace Go.VC
def wZ:List S->Int
 |a::b::l=>if a=b then 5 else if slt b a then 1 else wZ (b::l)
 |_=>0
def zR:∀(a b:S),(Lib.compareBytes a b=0↔a=b)/\(0<Lib.compareBytes a b↔slt b a=true)
 |[],[]=>by simp[Lib.compareBytes,slt,Op.bytesLess]
 |[],_::_=>by simp[Lib.compareBytes,slt,Op.bytesLess]
 |_::_,[]=>by simp[Lib.compareBytes,slt,Op.bytesLess]
 |x::a,y::b=>by
  have d:=zR a b;simp only[Lib.compareBytes,vh,List.cons_lt_cons_iff]at*;by_cases h1:x<y
  ·have J:¬y<x:=λh=>absurd (UInt8.lt_trans h1 h) (rV x);have h3:x≠y:=λh=>by subst h;exact rV x h1
   simp[h1,J,h3,dZ h3]
  ·by_cases J:y<x
   ·have h3:x≠y:=λh=>by subst h;exact rV x J
    simp[h1,J,h3]
   ·have h3:x=y:=UInt8.le_antisymm (UInt8.not_lt.1 J) (UInt8.not_lt.1 h1);subst h3;simp[rV,d]
def Kl{l:List S}{i:Nat}(h0:1<=i)(h:i<l.length):wZ (l.drop (i-1))=if l[i-1]=l[i]then 5 else if slt l[i] l[i-1]then 1 else wZ (l.drop i):=by rw[bJ (by omega:i-1<l.length),show i-1+1=i by omega,bJ h];rfl
def Cf(s:S):Bool:=oH s||(decide (s.length=2)&&TW s==35&&decide (48<=((s.getD 1 0).toNat:Int))&&decide (((s.getD 1 0).toNat:Int)<=55))
def Mi(s:S):Bool:=s==[]||kn s||IG s
def dV(t:Ty):Bool:=
 if t.k != 8&&t.fl.any Fe.b then false else
 if t.k=0\/t.k=1\/t.k=2\/t.k=3\/t.k=4 then t.m==[]&&t.n==[]&&decide (t.ar.length=0)&&decide (t.fl.length=0)else
 if t.k=5 then t.m==[]&&t.n==[]&&decide (t.ar.length=1)&&decide (t.fl.length=0)else
 if t.k=6\/t.k=7 then t.m==[]&&t.n==[]&&decide (t.ar.length=0)else
 if t.k=8 then t.m==[]&&t.n==[]&&decide (t.ar.length=1)else
 if t.k=9 then t.m==[]&&decide (t.ar.length=0)&&decide (t.fl.length=0)else
 if t.k=10 then decide (t.fl.length=0)else false
def tD(t:Ty):Int:=
 if !dV t then 1 else
 if 32<t.fl.length\/8<t.ar.length then 7 else
 if(t.k=9/\Cf t.n=false)\/(t.k=10/\(Mi t.m=false\/oH t.n=false))then 4 else
 if t.fl.any (λf=> !kn f.s)then 4 else wZ (t.fl.map Fe.s)
structure Ty.me (u:Ty):Prop where
 m:u.m.length<=1048576
 n:u.n.length<=1048576
 f:∀x∈u.fl,x.s.length<=1048576
end Go.VC
namespace Go.VC.cc
open Go Go.VC Go.Proofs
section
variable {K:PV->List Ob->Prop}{o c2 g s:S}{c1:Int}{c j:D}{k:Bool}
def aaR{x:Fe}(a:qV x o c1 c2 g c j k)(h:∀b,b=x.b->K (.bool b) []):FT 288 [] [qe o c1 c2 g c j k] K:=by refine en (cf 5) Tryz.func288 λA C L X=>?_;cbv;exact h _ a.2.2
def aa1{x:Fe}(hs:x.s.length<=4294967295)(a:qV x o c1 c2 g c j k)(h:∀b,b= !kn x.s->K (.bool b) []):FT 262 [] [qe o c1 c2 g c j k] K:=by have e:=a.1;refine en (cf 7) Tryz.func262 λA C L X=>?_;cbv;refine X.call (HR (by rw[e];exact hs) λb hb=>?_);have q:=h (A.not b) (by rw[X.a,gj,hb,e]);cbv;exact q
def W9{x:Fe}(a:qV x o c1 c2 g c j k)(h:∀s,s=x.s->K (.str s) []):FT 265 [] [qe o c1 c2 g c j k] K:=by refine en (cf 5) Tryz.func265 λA C L X=>?_;cbv;exact h _ a.1
def Xt(hs:s.length<=4294967295)(h:∀b,b=Cf s->K (.bool b) []):FT 128 [] [.str s] K:=by
 refine en (cf 25) Tryz.func128 λA C L X=>?_;have d:A.eq (A.fe s) 2=true->A.idx 0 (A.fe s):=by rw[X.a];intro h;rw[gV,gR]at h;have h:=eq_of_beq h;exact⟨yD,by rw[gR,h];decide⟩
 have a:A.eq (A.fe s) 2=true->A.idx 1 (A.fe s):=by rw[X.a];intro h;rw[gV,gR]at h;have h:=eq_of_beq h;exact⟨yD,by rw[gR,h];decide⟩
 obtain⟨y,e⟩:∃y,y=((s.getD 1 0).toNat:Int):=⟨_,rfl⟩;have f:Cf s=(oH s||(decide (s.length=2)&&TW s==35&&decide (48<=y)&&decide (y<=55))):=by rw[e];rfl
 have g1:Std.Cv s 1=y:=by rw[e];rfl
 clear e;cbv;refine X.call (KN hs λb hb=>?_);cbv;repeat' (first|apply bk|exact zf|(intro J;cbv)|apply bB)
 any_goals first|exact d yA|exact a yA
 all_goals (refine h _ ?_;rw[f];obtain rfl:=X.a;clear d a h f;simp only[o8,g1,SD]at* <;>simp_all<;>(intros;omega))
def aa2(hs:s.length<=4294967200)(h:∀b,b=Mi s->K (.bool b) []):FT 260 [] [.str s] K:=by
 refine en (cf 13) Tryz.func260 λA C L X=>?_;cbv;repeat' (first|apply bk|exact zf|(intro J;cbv)|apply bB|(refine X.call (HR yO λb1 d=>?_);cbv)|(refine X.call (W7 hs λb2 a=>?_);cbv))
 all_goals (refine h _ ?_;obtain rfl:=X.a;clear h;simp only[SD]at* <;>simp_all[Mi])
def aa0{l:List Fe}{d:D}(m:d=bt fj l)(hl:l.length<=4294967295)(h:∀r:Int,r=wZ (l.map Fe.s)->K (.int .i64 r) []):FT 264 [] [.lst 57 d,.cu 265 []] K:=by
 obtain⟨ns,b⟩:∃ns,ns=l.map Fe.s:=⟨_,rfl⟩;have H:ns.length=l.length:=by rw[b,bA]
 have f:∀i (h:i<l.length),l[i].s=ns[i]'yO:=λi h=>by simp[b]
 rw[<- b]at h;clear b;refine en Zq Tryz.func264 λA C L X=>?_;obtain⟨n,B,a⟩:=lenOf m;cbv;refine lu X (λi=>1<=i/\(i<=n\/i=1)/\wZ ns=wZ (ns.drop (i-1))) (λi=>n-i) 1 ⟨bX _,.inr rfl,rfl⟩ (λ(i:Nat)=>[(5,.int .i64 i)]) ?_;rintro i ⟨v,N,he⟩;cbv;constructor<;>intro h1
 ·have h5:i<l.length:=lY X.a a h1;have w:A.sub (bj i) 1=bj (i-1):=by rw[X.a,pL];simp only[bD];omega
  have E:A.inr .i64 (A.sub (bj i) 1):=by rw[w,X.a,fw];simp only[bD];omega
  have F:=kQ X.a m h5;have z:=kQ X.a m (show i-1<l.length by omega);rw[<- w]at z;have M:=iX X.a m h5;have y:A.idx (A.sub (bj i) 1) (A.len d):=by rw[w,X.a,m];exact cY yO
  have u:=jX X.a h5;have t:=Kl v (show i<ns.length by omega);rw[t]at he;refine p1 ?_;refine X.call (W9 z λG p=>?_);cbv;refine X.call (W9 F λI q=>?_);rw[f]at p q;cbv;refine X.call (W6 λr hr=>?_);rw[<- p,<-q]at he;have hc:=zR G I;rw[<- hr]at hc;cbv;repeat' (first|apply bk|exact zf|(intro J;cbv)|apply bB)
  any_goals exact u
  ·have J:A.eq r 0=true:=yA;refine h 5 ?_;rw[he,if_pos (hc.1.1 (by rw[X.a,gV]at J;exact eq_of_beq J))]
  ·have J:A.eq r 0=false:=yA;have h3:A.lt 0 r=true:=yA;refine h 1 ?_;rw[X.a]at J h3;rw[he,if_neg (λe=>by rw[gV,hc.1.2 e]at J;cases J),if_pos (hc.2.1 (of_decide_eq_true h3))]
  ·have J:A.eq r 0=false:=yA;have h3:A.lt 0 r=false:=yA;refine⟨i+1,⟨yO,.inl yO,?_⟩,yO,?_⟩
   ·rw[X.a]at J h3;rw[he,if_neg (λe=>by rw[gV,hc.1.2 e]at J;cases J),if_neg (λe=>(of_decide_eq_false h3) (hc.2.2 e))];rfl
   exact yc
 ·have h5:l.length<=i:=by obtain rfl:=X.a;simp only[a,SD]at h1;omega
  cbv;refine h 0 ?_;rw[he]
  have:ns.drop (i-1)=[]\/∃x,ns.drop (i-1)=[x]:=by
   rcases bR (i-1) ns.length with h6|h6
   ·right;refine⟨ns[i-1],?_⟩;rw[bJ h6,fH yO]
   ·left;exact fH h6
  rcases this with e|⟨x,e⟩<;>rw[e]<;>rfl
end
end Go.VC.cc
namespace Go.VC
def gp(l:List Int):Int:=(l.find? λe=>e != 0).getD 0
def iE(e:Int)(l:List Int):gp (e::l)=if e=0 then gp l else e:=by
 unfold gp;rw[cI];by_cases h:e=0
 ·subst h;simp
 ·have:(e != 0)=true:=yU h;rw[this,if_neg h];rfl
def s5:∀(a b:List Int),gp (a++b)=if gp a=0 then gp b else gp a
 |[],b=>by simp[gp]
 |e::a,b=>by
  rw[dL,iE,iE,s5 a b];by_cases h:e=0
  ·simp[h]
  ·simp[h]
def tL{f:Ty->Int}:∀(l:List Ty),gA (λt s=>if f t=0 then s else f t) (λt=>f t==0) l 0=(gp (l.map f),gp (l.map f)==0)
 |[]=>rfl
 |t::l=>by
  rw[gA,bF,iE];by_cases h:f t=0
  ·rw[if_pos (yU h),if_pos h,if_pos h];exact tL l
  ·rw[if_neg (yU h),if_neg h,if_neg h];simp[h]
def OW(k:Int)(c a n0 e0 e1 b:Bool):Bool:=
 if k != 8&&c then false else
 if k=0\/k=1\/k=2\/k=3\/k=4 then a&&n0&&e0&&b else
 if k=5 then a&&n0&&e1&&b else
 if k=6\/k=7 then a&&n0&&e0 else
 if k=8 then a&&n0&&e1 else
 if k=9 then a&&e0&&b else
 if k=10 then b else false
def HE(n m:Nat):decide (n=m)=(bj n==(m:Int)):=by
 by_cases h:n=m
 ·subst h;simp
 ·have:¬(bj n=(m:Int)):=λe=>h (by simp only[bD]at e;omega);simp only[h,decide_false];exact(beq_eq_false_iff_ne.2 this).symm
def GA(t:Ty):dV t=OW t.k (t.fl.any Fe.b) (t.m==[]) (t.n==[]) (bj t.ar.length==0) (bj t.ar.length==1) (bj t.fl.length==0):=by unfold dV OW;rw[HE,HE,HE];rfl
def K0(t:Ty):Int:=if 4096<t.size\/32<t.xa then 7 else gp (t.all.map tD)
end Go.VC
namespace Go.VC.cc
open Go Go.VC Go.Proofs
def aa4{t:Ty}(n:Ty.le 4294967295 t){s:Int}{c1 c2:S}{l p:D}{K:PV->List Ob->Prop}(y:cr t s c1 c2 l p)(h:∀b,b=dV t->K (.bool b) []):FT 259 [] [dQ s c1 c2 l p] K:=by
 obtain⟨v,w,u,o,g⟩:=y;have k:t.fl.length<=4294967295:=by cases n;assumption
 refine en Zr Tryz.func259 λA C L X=>?_;have l3:A.len l=bj t.ar.length:=gE X.a o;have l4:A.len p=bj t.fl.length:=gE X.a g;obtain⟨B,f⟩:∃b,b=A.seq c1 []:=⟨_,rfl⟩;obtain⟨n0,j⟩:∃b,b=A.seq c2 []:=⟨_,rfl⟩;obtain⟨e0,c⟩:∃b,b=(A.eq (A.len l) 0):=⟨_,rfl⟩;obtain⟨e1,i⟩:∃b,b=(A.eq (A.len l) 1):=⟨_,rfl⟩;obtain⟨z,d⟩:∃b,b=(A.eq (A.len p) 0):=⟨_,rfl⟩;obtain⟨E,a⟩:∃b,b=t.fl.any Fe.b:=⟨_,rfl⟩;have m:dV t=OW s E B n0 e0 e1 z:=by rw[GA,c,i,d,a,f,j,v,w,u,l3,l4,X.a];rfl
 have Y:=fg X.a;have Z:=oY X.a;rw[m]at h;clear m v w u l3 l4;cbv;repeat' (first|apply bk|exact zf|(intro J;cbv)|apply bB|(refine X.call (nF .e (.inl rfl) g k (λx F _ G ⟨_,_,_,_,_,_,_,e,q⟩ r=>e▸aaR q r) λb hb=>?_);cbv))
 all_goals (refine h _ ?_;clear h n;simp only[fP,Y,<-f,<-j,<-c,<-i,<-d,<-a]at *;clear f j c i d a;simp only[Z]at *;clear X Y Z o g k;simp_all[OW])
end Go.VC.cc
namespace Go.VC
def XG(k:Int)(sh b:Bool)(e f tb:Bool)(nl:Bool)(d:Int):Int:=if !sh then 1 else if b then 7 else if(k=9/\e=false)\/(k=10/\(f=false\/tb=false))then 4 else if nl then 4 else d
def RJ(t:Ty):tD t=XG t.k (dV t) (decide (32<t.fl.length\/8<t.ar.length)) (Cf t.n) (Mi t.m) (oH t.n) (t.fl.any λf=> !kn f.s) (wZ (t.fl.map Fe.s)):=by unfold tD XG;simp only[decide_eq_true_eq]
def SR:∀(t:Ty),Ty.le 4294967295 t->∀u∈t.all,Ty.le 4294967295 u:=by
 refine Ty.fV λt d=>?_;intro h u hu;rw[all_eq]at hu;rcases bx.1 hu with rfl|hu
 ·exact h
 ·obtain⟨v,b,hu⟩:=cb.1 hu;exact d v b (iW h v b) u hu
end Go.VC
namespace Go.VC.cc
open Go Go.VC Go.Proofs
section
variable {t:Ty}{g:Int}{c1 c2:S}{a c:D}{K:PV->List Ob->Prop}
def abk(q:Ty.le 4294967295 t)(G:t.me)(y:cr t g c1 c2 a c)(h:∀e,e=tD t->K (.int .i64 e) []):FT 220 [] [dQ g c1 c2 a c] K:=by
 have E:=y;obtain⟨M,F,w,u,i⟩:=E;have o:t.fl.length<=4294967295:=by cases q;assumption
 have B:c1.length<=1048576:=by rw[F];exact G.m
 have z:c2.length<=1048576:=by rw[w];exact G.n
 refine en (cf 50) Tryz.func220 λA C L X=>?_;have l3:A.len a=bj t.ar.length:=gE X.a u;have l4:A.len c=bj t.fl.length:=gE X.a i;have Y:=fg X.a;have Z:=oY X.a;obtain⟨b1,r⟩:∃b,b=A.lt 32 (A.len c):=⟨_,rfl⟩;obtain⟨b2,p⟩:∃b,b=A.lt 8 (A.len a):=⟨_,rfl⟩;obtain⟨sh,j⟩:∃b,b=dV t:=⟨_,rfl⟩;obtain⟨N,l⟩:∃b,b=Cf c2:=⟨_,rfl⟩;obtain⟨O,m⟩:∃b,b=Mi c1:=⟨_,rfl⟩;obtain⟨tb,k⟩:∃b,b=oH c2:=⟨_,rfl⟩;obtain⟨nl,n⟩:∃b,b=t.fl.any λf=> !kn f.s:=⟨_,rfl⟩;obtain⟨H,d⟩:∃e,e=wZ (t.fl.map Fe.s):=⟨_,rfl⟩
 have s:tD t=XG g sh (b1||b2) N O tb nl H:=by
  have e:decide (32<t.fl.length\/8<t.ar.length)=(b1||b2):=by
   rw[r,p,l3,l4,X.a,kU,kU];simp only[bD];rw[Bool.decide_or]
   congr 1<;>(apply decide_eq_decide.2;omega)
  rw[RJ,e,j,l,m,k,n,d,M,F,w]
 rw[s]at h;clear s M F w l3 l4;cbv;refine X.call (aa4 q y λb hb=>?_);rw[<- j]at hb;cbv;repeat' (first|apply bk|exact zf|(intro J;cbv)|apply bB|(refine X.call (Xt yO λb3 U=>?_);cbv)|(refine X.call (aa2 yO λb4 T=>?_);cbv)|(refine X.call (KN yO λV Q=>?_);cbv)|(refine X.call (nF .f (.inl rfl) i o (λx R _ K' ⟨_,_,_,_,_,_,_,e,v⟩ I=>e▸aa1 (bM (G.f x R) yD) v I) λW P=>?_);cbv)|(refine X.call (aa0 i o λe he=>?_);cbv))
 all_goals (refine h _ ?_;clear h q;simp only[fP,Y,<-r,<-p,<-l,<-m,<-k,<-n,<-d,<-j]at *;clear r p l m k n d j;simp only[Z]at *;clear X Y Z u i o y B z;simp_all[XG])
def Vi:dH:={tt:=tt,n:=21,n0:=2,DB:=true}
def abv(i:Ty.le 4294967295 t)(hs:t.size<=4294967295)(E:∀u∈t.all,u.me)(x:cr t g c1 c2 a c)
 (h:∀r:Int,r=K0 t->K (.int .i64 r) []):FT 188 [] [dQ g c1 c2 a c] K:=by
 refine en (cf 21) Tryz.func188 λA C L X=>?_;cbv;refine X.call (Xm i hs x λn y=>?_);have v:A.lt 4096 n=decide (4096<t.size):=by rw[X.a,y,kU];apply decide_eq_decide.2;simp only[bD];omega
 have k:(4096<t.size\/32<t.xa)->7=K0 t:=λh=>by rw[K0,if_pos h]
 have b:¬(4096<t.size\/32<t.xa)->∀r,r=gp (t.all.map tD)->r=K0 t:=λh r hr=>by rw[K0,if_neg h,hr]
 have o:∀d:Int,d=bj t.xa->A.lt 32 d=decide (32<t.xa):=by intro d w;rw[X.a,w,kU];apply decide_eq_decide.2;simp only[bD];omega
 have j:=tL (f:=tD) t.all;have q:∀u∈t.all,Ty.le 4294967295 u/\u.me:=λu hu=>⟨SR t i u hu,E u hu⟩;cbv;repeat' (first|apply bk|exact zf|(intro J;cbv)|apply bB|(refine X.call (Xl t i hs x λd w=>?_);cbv))
 ·have J:A.lt 32 d=true:=J;have J:=(o _ w).symm.trans J;exact h _ (k (.inr (of_decide_eq_true J)))
 ·have h3:¬(4096<t.size\/32<t.xa):=by have J:A.lt 32 d=false:=J;have J:=(o _ w).symm.trans J;have e2:A.lt 4096 n=false:=yA;have e2:=v.symm.trans e2;have:=of_decide_eq_false J;have:=of_decide_eq_false e2;omega
  have b:=b h3;refine X.call (Tz ?_);cbv;refine X.range rfl ⟨Tryz.func255,by rfl,rfl⟩ rfl [(2,.box 1 0)] ?_ ?_
  ·cbv
  cbv;refine X.call (Rs (Q:=λu=>Ty.le 4294967295 u/\u.me) (s:=0) (go:=λt s=>if tD t=0 then s else tD t) (ok:=λt=>tD t==0) i hs q x ?_ ?_ ?_)
  ·intro u s H b1 b2 F I B z hu h1 h0;refine YC.enter (G:=Vi) fD mixed rfl rfl rfl rfl rfl ?_;intro A C L X;have Y:=fg X.a;have Z:=oY X.a;cbv;refine X.call (abk z.1 z.2 hu λe he=>?_);have p:tD u≠0->B (.bl false) [.loop _ _ _ _ [(2,.box 1 0)] (.done .ret),.box [.int .i64 e]]:=λhz=>h0 (yU hz) e (by rw[if_neg hz,he]);have m:tD u=0->B (.bl true) [.loop _ _ _ _ [(2,.box 1 0)] .ready,.box [.int .i64 s]]:=λhz=>h1 (yU hz) s (by rw[if_pos hz]);refine p2 (λJ=>?_) (λJ=>?_)
   ·have J:A.not (A.eq e 0)=true:=J;rw[Y,Z,he]at J;exact p (yU J)
   ·have J:A.not (A.eq e 0)=false:=J;rw[Y,Z,he]at J;exact m (yU J)
  ·intro s' l;have e:=l.symm.trans j;have e1:=(sc e).1;have e2:=(sc e).2;have hz:s'=0:=by rw[e1];simpa using e2.symm
   cbv;exact h 0 (b 0 (by rw[<- e1,hz]))
  ·intro s' l;have e:=l.symm.trans j;have e1:=(sc e).1;cbv;exact h s' (b s' e1)
 ·have J:A.lt 4096 n=true:=J;have J:=v.symm.trans J;exact h _ (k (.inl (of_decide_eq_true J)))
end
end Go.VC.cc
namespace Go.VC
section
variable {l:List S}{s:S}{i:Nat}
def PK(h:i<l.length)(ha:∀x∈l.take i,(x==s)=false)(a:l[i]=s):gI l s=(i:Int):=mH h ha (by simp[a])
def PJ(ha:∀x∈l.take i,(x==s)=false):gI l s= -1\/(i:Int)<=gI l s:=by
 rcases nj (λx=>x==s) l with⟨e1,_⟩|⟨j,h5,e1,e2,e3⟩
 ·exact .inl e1
 ·refine .inr ?_;rw[gI,e1];rcases bR j i with h|h
  ·have a:(l[j]==s)=false:=ha l[j] (by rw[jY];exact⟨j,yO,rfl⟩);have h8:(l[j]==s)=true:=e2;rw[h8]at a;cases a
  ·omega
end
end Go.VC
namespace Go.VC.cc
open Go Go.VC Go.Proofs
def Xu{ns:List S}{ts:List Ty}{V U:D}(hn:V=bt cT ns)(I:U=bt ca ts)(ao:ns.length<=4294967295)(ak:ts.length<=4294967295):
 ∀(t:Ty),Ty.le 4294967295 t->∀{O:Int}{c1 c2:S}{T o:D}{K:PV->List Ob->Prop},cr t O c1 c2 T o->(∀e0 e1 e2 e3 e4,cr (t.sub ns ts) e0 e1 e2 e3 e4->K (dQ e0 e1 e2 e3 e4) [])->FT 127 [] [dQ O c1 c2 T o,.lst 9 V,.lst 29 U] K:=by
 refine Ty.parts λt ag ae=>?_;intro n O c1 c2 T o K ht h;obtain⟨t0,t1,t2,N,m⟩:=ht;have an:=ru n;have al:=xf n;refine en ZY Tryz.func127 λA C L X=>?_;obtain⟨p,ac,b⟩:=lenOf hn;obtain⟨ai,ad,a⟩:=lenOf I;obtain⟨g,E,c⟩:=lenOf N;obtain⟨j,w,d⟩:=lenOf m;cbv;repeat' (first|apply bk|exact zf|(intro J;cbv)|apply bB)
 refine lu X (λy=>y<=p/\∀x∈ns.take y,(x==t.n)=false) (λy=>p-y) 0 ⟨bw _,yS⟩ (λ(y:Nat)=>[(7,.int .i64 y)]) ?_;rintro i ⟨W,ha⟩;cbv;repeat' (first|apply bk|exact zf|(intro J;cbv)|apply bB)
 ·have h5:i<ns.length:=by obtain rfl:=X.a;simp only[b,SD]at *;omega
  have h6:i<ts.length:=by obtain rfl:=X.a;simp only[a,SD]at *;omega
  rw[X.a,hn];exact cY h5
 ·have h5:i<ns.length:=by obtain rfl:=X.a;simp only[b,SD]at *;omega
  have h6:i<ts.length:=by obtain rfl:=X.a;simp only[a,SD]at *;omega
  rw[X.a,I];exact cY h6
 ·have h5:i<ns.length:=by obtain rfl:=X.a;simp only[b,SD]at *;omega
  have h6:i<ts.length:=by obtain rfl:=X.a;simp only[a,SD]at *;omega
  have R:=iS X.a I h6;have Q:=pT X.a hn h5;have hk:t.k=9:=by rw[<- t0];obtain rfl:=X.a;simp only[SD]at *;omega
  have hs:ns[i]=t.n:=by rw[<- Q,<-t2];obtain rfl:=X.a;simpa only[SD]using J
  refine h _ _ _ _ _ ?_;rw[Cn hk (PK h5 ha hs) h6];exact R
 ·have h5:i<ns.length:=by obtain rfl:=X.a;simp only[b,SD]at *;omega
  have h6:i<ts.length:=by obtain rfl:=X.a;simp only[a,SD]at *;omega
  rw[X.a];exact fN h5 yO
 ·have h5:i<ns.length:=by obtain rfl:=X.a;simp only[b,SD]at *;omega
  have h6:i<ts.length:=by obtain rfl:=X.a;simp only[a,SD]at *;omega
  have Q:=pT X.a hn h5;have hs:¬ns[i]=t.n:=by rename_i g3;rw[<- Q,<-t2];obtain rfl:=X.a;simpa only[SD]using g3
  refine⟨i+1,⟨yO,?_⟩,yO,?_⟩
  ·rw[cj h5];intro x P;rcases bE.1 P with P|P
   ·exact ha x P
   ·simp at P;subst P;simpa using hs
  exact yc
 have q:¬(t.k=9/\0<=gI ns t.n/\gI ns t.n<ts.length):=by
  have h6:ts.length<=i:=by obtain rfl:=X.a;simp only[a,SD]at J;omega
  rcases PJ ha with e|e<;>omega
 rotate_left
 have q:¬(t.k=9/\0<=gI ns t.n/\gI ns t.n<ts.length):=by
  have h6:ns.length<=i:=by obtain rfl:=X.a;simp only[b,SD]at J;omega
  rw[ek h6]at ha;rw[gI,mI ha];omega
 rotate_left
 have q:¬(t.k=9/\0<=gI ns t.n/\gI ns t.n<ts.length):=by rw[<- t0];rintro⟨e,_⟩;obtain rfl:=X.a;simp only[SD]at J;simp[e]at J
 all_goals
  refine lP X (λy=>y.1<=g/\y.2=bt ca ((t.ar.take y.1).map (Ty.sub ns ts))) (λy=>g-y.1) (0,.list []) ⟨bw _,rfl⟩ [0,1,2,3,4] (λ(y:Nat×D)=>⟨[(9,.int .i64 y.1),(1,.lst 9 V),(2,.lst 29 U),(3,.box 0 0),(6,.box 1 0),(8,.box 4 0)],[.box [.int .i64 O,.str c1,.str c2,.lst 29 T,.lst 57 o],.box [.undef,.undef,.undef,.undef,.undef],.row 29 y.2 true,.row 57 (.list []) true,.box [.int .i64 O,.str c1,.str c2,.row 29 2,.row 57 3]]⟩) ?_;rintro⟨i,r⟩ ⟨W,hr⟩;simp only at W hr;cbv;constructor<;>intro h1
  ·have h5:i<t.ar.length:=by obtain rfl:=X.a;simp only[c,SD]at h1;omega
   have R:=iS X.a N h5;have M:=iX X.a N h5;have B:=jX X.a h5;cbv;repeat' (first|apply bk|exact zf|(intro J;cbv)|apply bB)
   any_goals exact M
   refine X.call (ag _ (br h5) (u7 n _ (br h5)) R λe0 e1 e2 e3 e4 he=>?_);obtain⟨u,H,F,z,v⟩:=he;have G:A.gr (A.add (A.len r) (A.len (A.lit [[.int e0,.str e1,.str e2,e3,e4]]))) 4294967296:=by rw[X.a,hr];simp only[SD,bA];omega
   have q1:A.app r (A.lit [[.int e0,.str e1,.str e2,e3,e4]])=bt ca ((t.ar.take (i+1)).map (Ty.sub ns ts)):=by rw[u,H,F,z,v,X.a,hr,map_take h5,<-dn];exact cD (k:=[t.ar[i].sub ns ts])
   cbv;repeat' (first|apply bk|exact zf|(intro J;cbv)|apply bB)
   any_goals exact G
   any_goals exact B
   exact⟨(i+1,_),⟨yP,q1⟩,yP,[0,1,2,3,4],rfl,yc⟩
  have h5:i=g:=gY X.a c h1;subst h5;rw[E,bz]at hr;cbv;refine lP X (λy=>y.1<=j/\y.2=bt fj ((t.fl.take y.1).map (Fe.sub ns ts))) (λy=>j-y.1) (0,.list []) ⟨bw _,rfl⟩ [0,1,2,3,4] (λ(y:Nat×D)=>⟨[(10,.int .i64 y.1),(1,.lst 9 V),(2,.lst 29 U),(3,.box 0 0),(6,.box 1 0),(8,.box 4 0)],[.box [.int .i64 O,.str c1,.str c2,.lst 29 T,.lst 57 o],.box [.undef,.undef,.undef,.undef,.undef],.row 29 r true,.row 57 y.2 true,.box [.int .i64 O,.str c1,.str c2,.row 29 2,.row 57 3]]⟩) ?_;rintro⟨i,r2⟩ ⟨W,f⟩;simp only at W f;cbv;constructor<;>intro h1
  ·have h5:i<t.fl.length:=by obtain rfl:=X.a;simp only[d,SD]at h1;omega
   have R:=nq X.a m h5;have Q:=Hq X.a m h5;have M:=iX X.a m h5;have B:=jX X.a h5;cbv;repeat' (first|apply bk|exact zf|(intro J;cbv)|apply bB)
   any_goals exact M
   refine X.call (ae _ (br h5) (xJ n _ (br h5)) R λe0 e1 e2 e3 e4 he=>?_);obtain⟨u,H,F,z,v⟩:=he;have G:A.gr (A.add (A.len r2) (A.len (A.lit [[.str (A.bG (A.cell o (bj i) 0)),.int e0,.str e1,.str e2,e3,e4,.bool (A.asBool (A.cell o (bj i) 6))]]))) 4294967296:=by rw[X.a,f];simp only[SD,bA];omega
   have q1:A.app r2 (A.lit [[.str (A.bG (A.cell o (bj i) 0)),.int e0,.str e1,.str e2,e3,e4,.bool (A.asBool (A.cell o (bj i) 6))]])=bt fj ((t.fl.take (i+1)).map (Fe.sub ns ts)):=by
    rw[u,H,F,z,v,Q.1,Q.2,X.a,f,map_take h5];refine gv ?_ (cD (k:=[Fe.sub ns ts t.fl[i]]))
    congr 1
    refine Yj ?_;rw[nx,Fe.sub_eq];rfl
   cbv;repeat' (first|apply bk|exact zf|(intro J;cbv)|apply bB)
   any_goals exact G
   any_goals exact B
   exact⟨(i+1,_),⟨yP,q1⟩,yP,[0,1,2,3,4],rfl,yc⟩
  have h5:i=j:=gY X.a d h1;subst h5;rw[w,bz]at f;cbv;refine h _ _ _ _ _ ?_;rw[jg q];exact⟨t0,t1,t2,hr,f⟩
end Go.VC.cc
namespace Go.VC
inductive End where|nf|loop|th (m n:S) (x:TE)|val (m n:S) (x:VE)
def fY(env:List IF):Nat->S->S->End
 |0,_,_=>.loop
 |k+1,m,n=>match iZ env m n with
  | .none=>.nf
  | .Bh=>.nf
  | .th x=>.th m n x
  | .val x=>.val m n x
  | .TY x=>fY env k x.module x.target
def cp(env:List IF)(m n:S):TE×S×Int:=match fY env 65 m n with
 | .th m' _ x=>(x,m',0)
 | .val _ _ _=>(TE.zero,[],6)
 | .nf=>(TE.zero,[],6)
 | .loop=>(TE.zero,[],14)
def dP(env:List IF)(m n:S):VE×S×Int:=match fY env 65 m n with
 | .th _ _ _=>(VE.zero,[],6)
 | .val m' _ x=>(x,m',0)
 | .nf=>(VE.zero,[],6)
 | .loop=>(VE.zero,[],14)
def lR(env:List IF)(m n:S):End:=fY env 65 m n
end Go.VC
namespace Go.VC.cc
open Go Go.VC Go.Proofs
section
variable {env:List IF}{d:D}{K:PV->List Ob->Prop}
def TC{m n:S}(E:d=bt dy env)(hl:ey env)
 (h0:lR env m n= .nf->K (.tup [ux [] [] .nilp .nilp .nilp,.int .i64 6]) [])
 (g:lR env m n= .loop->K (.tup [ux [] [] .nilp .nilp .nilp,.int .i64 14]) [])
 (G:∀m' n' x a c1 c2 h o j l u r s f c,lR env m n= .th m' n' x->x.ok->p8 x a c1 c2 h o j l u r s f c->K (.tup [ux m' n' (.du [.str a,.lst 73 c1,.int .i64 c2,.str h,.str o,.lst 29 j,.lst 57 l,.int .i64 u,.str r,.str s,.lst 29 f,.lst 57 c] 0) .nilp .nilp,.int .i64 0]) [])
 (M:∀m' n' x a c1 c2 h o j l,lR env m n= .val m' n' x->x.ok->wT x a c1 c2 h o j l->K (.tup [ux m' n' .nilp (.du [.str a,.lst 73 c1,.int .i64 c2,.str h,.str o,.lst 29 j,.lst 57 l] 0) .nilp,.int .i64 0]) []):
 FT 152 [] [.lst 97 d,.str m,.str n] K:=by
 refine en ZL Tryz.func152 λA C L X=>?_;cbv;refine lP X (λy=>y.1<=65/\fY env (65-y.1) y.2.1 y.2.2=lR env m n) (λy=>65-y.1) (0,m,n) ⟨bw _,rfl⟩ [0] (λ(y:Nat×S×S)=>⟨[(10,.int .i64 y.1),(0,.lst 97 d),(1,.str y.2.1),(2,.str y.2.2),(6,.box 0 0)],[.box [.undef,.undef,.undef,.undef,.undef]]⟩) ?_;rintro⟨i,m',n'⟩ ⟨H,he⟩;simp only at H he;cbv;constructor<;>intro h1
 ·have h5:i<65:=by obtain rfl:=X.a;simp only[SD]at h1;omega
  obtain⟨k,hk⟩:∃k,65-i=k+1:=⟨64-i,yO⟩;have t:65-(i+1)=k:=yO;rw[hk]at he;simp only[fY]at he;have v:=jX X.a h5;cbv;refine X.call (abr E hl ?_ ?_ ?_ ?_)
  ·intro e;rw[e]at he;have q:=h0 he.symm;cbv;repeat' (first|apply bk|exact zf|(intro J;cbv)|apply bB)
   ·exact q
   ·obtain rfl:=X.a;cases J
  ·intro x a c1 c2 h o j l u r s f c e z hc;rw[e]at he;have q:=G _ _ _ _ _ _ _ _ _ _ _ _ _ _ _ he.symm z hc;cbv;repeat' (first|apply bk|exact zf|(intro J;cbv)|apply bB)
   ·obtain rfl:=X.a;cases J
   ·exact q
  ·intro x a c1 c2 h o j l e z hc;rw[e]at he;have q:=M _ _ _ _ _ _ _ _ _ _ he.symm z hc;cbv;repeat' (first|apply bk|exact zf|(intro J;cbv)|apply bB)
   ·obtain rfl:=X.a;cases J
   ·exact q
  ·intro x a c1 c2 b e hc
   have I:b=false->K (.tup [ux [] [] .nilp .nilp .nilp,.int .i64 6]) []:=by
    intro p;rcases e with⟨e,e2⟩|⟨e,e2⟩
    ·rw[e2]at p;cases p
    ·rw[e]at he;exact h0 he.symm
   cbv;repeat' (first|apply bk|exact zf|(intro J;cbv)|apply bB)
   ·exact I (by obtain rfl:=X.a;simpa only[SD]using J)
   ·exact v
   ·have p:b=true:=by rename_i h3;obtain rfl:=X.a;simpa only[SD]using h3
    rcases e with⟨e,e2⟩|⟨e,e2⟩
    ·rw[e]at he;simp only at he;refine⟨(i+1,x.module,x.target),⟨yP,by simp only[t];exact he⟩,yP,[0],rfl,?_⟩;obtain⟨F,B,w⟩:=hc;rw[<- B,<-w];exact yc
    ·rw[e2]at p;cases p
 ·have h5:i=65:=by obtain rfl:=X.a;simp only[SD]at h1;omega
  subst h5;have q:=g he.symm;cbv;exact q
def TZ{m n:S}(b:d=bt dy env)(hl:ey env)
 (h:∀r0 a r2,(r0,a,r2)=(match lR env m n with| .nf=>([],[],6)| .loop=>([],[],14)| .th m' n' _=>(m',n',0)| .val m' n' _=>(m',n',0):S×S×Int)->K (.tup [.str r0,.str a,.int .i64 r2]) []):
 FT 86 [] [.lst 97 d,.str m,.str n] K:=by
 refine en g86 Tryz.func86 λA C L X=>?_;cbv;refine X.call (TC b hl ?_ ?_ ?_ ?_)
 all_goals
  first|intro m' n' x l c1 c2 g k i j r s p c f e o hc|intro m' n' x l c1 c2 g k i j e o hc|intro e
  rw[e]at h;have q:=h _ _ _ rfl;cbv;repeat' (first|apply bk|exact zf|(intro J;cbv)|apply bB)
  exact q
def Rp{m n:S}(c:d=bt dy env)(hl:ey env)
 (h:∀e0 e1 e2 e3 e4 e5 e6 e7 e8 e9 kj sy a r2,p8 (cp env m n).1 e0 e1 e2 e3 e4 e5 e6 e7 e8 e9 kj sy->a=(cp env m n).2.1->r2=(cp env m n).2.2->K (.tup [tE e0 e1 e2 e3 e4 e5 e6 e7 e8 e9 kj sy,.str a,.int .i64 r2]) []):
 FT 84 [] [.lst 97 d,.str m,.str n] K:=by
 refine en g84 Tryz.func84 λA C L X=>?_;cbv;refine X.call (TC c hl ?_ ?_ ?_ ?_)
 rotate_left 2
 ·intro m' n' x o c1 c2 i l j k q r p f g e b hc;have hT:cp env m n=(x,m',0):=by unfold cp;rw[show fY env 65 m n=lR env m n from rfl,e]
  rw[hT]at h;cbv;repeat' (first|apply bk|exact zf|(intro J;cbv)|apply bB)
  all_goals first
   |(exfalso;obtain rfl:=X.a;simp[gV,gj,fP]at *;done)
   |refine X.cut (λ(z:S×D×Int×S×S×D×D×Int×S×S×D×D)=>⟨[(6,.box 0 0),(7,.str m'),(8,.int .i64 0)],[.box [.str z.1,.lst 73 z.2.1,.int .i64 z.2.2.1,.str z.2.2.2.1,.str z.2.2.2.2.1,.lst 29 z.2.2.2.2.2.1,.lst 57 z.2.2.2.2.2.2.1,.int .i64 z.2.2.2.2.2.2.2.1,.str z.2.2.2.2.2.2.2.2.1,.str z.2.2.2.2.2.2.2.2.2.1,.lst 29 z.2.2.2.2.2.2.2.2.2.2.1,.lst 57 z.2.2.2.2.2.2.2.2.2.2.2]]⟩) (λz=>p8 x z.1 z.2.1 z.2.2.1 z.2.2.2.1 z.2.2.2.2.1 z.2.2.2.2.2.1 z.2.2.2.2.2.2.1 z.2.2.2.2.2.2.2.1 z.2.2.2.2.2.2.2.2.1 z.2.2.2.2.2.2.2.2.2.1 z.2.2.2.2.2.2.2.2.2.2.1 z.2.2.2.2.2.2.2.2.2.2.2) ?_ ?_
  ·cbv;repeat' (first|apply bk|exact zf|(intro J;cbv)|apply bB|(refine X.call (Xq b hc λe0 e1 e2 e3 e4 e5 e6 e7 e8 e9 kj sy he=>?_);cbv))
   all_goals (refine⟨(e0,e1,e2,e3,e4,e5,e6,e7,e8,e9,kj,sy),he,[0],rfl,?_⟩;exact yc)
  ·rintro⟨e0,e1,e2,e3,e4,e5,e6,e7,e8,e9,kj,sy⟩ he;simp only at he;cbv;exact h _ _ _ _ _ _ _ _ _ _ _ _ _ _ he rfl rfl
  all_goals first
   |(exfalso;obtain rfl:=X.a;simp only[SD]at *;omega)
   |(exfalso;obtain rfl:=X.a;simp[gV,gj,fP]at *;done)
   |(exfalso;obtain rfl:=X.a;cases J)
 all_goals
  first|intro m' n' x o c1 c2 i l j k e b hc|intro e
  unfold cp at h;rw[show fY env 65 m n=lR env m n from rfl,e]at h;cbv;repeat' (first|apply bk|exact zf|(intro J;cbv)|apply bB)
  all_goals first
   |exact h _ _ _ _ _ _ _ _ _ _ _ _ _ _ ⟨rfl,rfl,⟨rfl,rfl,rfl,rfl,rfl⟩,rfl,rfl,rfl,rfl,rfl⟩ rfl rfl
   |(exfalso;obtain rfl:=X.a;simp only[SD]at *;omega)
   |(exfalso;obtain rfl:=X.a;simp[gV,gj,fP]at *;done)
   |(exfalso;obtain rfl:=X.a;cases J)
def F82{m n:S}(c:d=bt dy env)(hl:ey env)
 (h:∀e0 e1 e2 e3 e4 e5 e6 a r2,wT (dP env m n).1 e0 e1 e2 e3 e4 e5 e6->a=(dP env m n).2.1->r2=(dP env m n).2.2->K (.tup [Cc e0 e1 e2 e3 e4 e5 e6,.str a,.int .i64 r2]) []):
 FT 82 [] [.lst 97 d,.str m,.str n] K:=by
 refine en g82 Tryz.func82 λA C L X=>?_;cbv;refine X.call (TC c hl ?_ ?_ ?_ ?_)
 rotate_left 3
 ·intro m' n' x o c1 c2 i l j k e b hc;have hT:dP env m n=(x,m',0):=by unfold dP;rw[show fY env 65 m n=lR env m n from rfl,e]
  rw[hT]at h;cbv;repeat' (first|apply bk|exact zf|(intro J;cbv)|apply bB)
  all_goals first
   |(exfalso;obtain rfl:=X.a;simp[gV,gj,fP]at *;done)
   |refine X.cut (λ(z:S×D×Int×S×S×D×D)=>⟨[(6,.box 0 0),(7,.str m'),(8,.int .i64 0)],[.box [.str z.1,.lst 73 z.2.1,.int .i64 z.2.2.1,.str z.2.2.2.1,.str z.2.2.2.2.1,.lst 29 z.2.2.2.2.2.1,.lst 57 z.2.2.2.2.2.2]]⟩) (λz=>wT x z.1 z.2.1 z.2.2.1 z.2.2.2.1 z.2.2.2.2.1 z.2.2.2.2.2.1 z.2.2.2.2.2.2) ?_ ?_
  ·cbv;repeat' (first|apply bk|exact zf|(intro J;cbv)|apply bB|(refine X.call (Xp b hc λe0 e1 e2 e3 e4 e5 e6 he=>?_);cbv))
   all_goals (refine⟨(e0,e1,e2,e3,e4,e5,e6),he,[0],rfl,?_⟩;exact yc)
  ·rintro⟨e0,e1,e2,e3,e4,e5,e6⟩ he;simp only at he;cbv;exact h _ _ _ _ _ _ _ _ _ he rfl rfl
  all_goals first
   |(exfalso;obtain rfl:=X.a;simp only[SD]at *;omega)
   |(exfalso;obtain rfl:=X.a;simp[gV,gj,fP]at *;done)
   |(exfalso;obtain rfl:=X.a;cases J)
 all_goals
  first|intro m' n' x o c1 c2 i l j k q r p f g e b hc|intro e
  unfold dP at h;rw[show fY env 65 m n=lR env m n from rfl,e]at h;cbv;repeat' (first|apply bk|exact zf|(intro J;cbv)|apply bB)
  all_goals first
   |exact h _ _ _ _ _ _ _ _ _ ⟨rfl,rfl,rfl,rfl,rfl,rfl,rfl⟩ rfl rfl
   |(exfalso;obtain rfl:=X.a;simp only[SD]at *;omega)
   |(exfalso;obtain rfl:=X.a;simp[gV,gj,fP]at *;done)
   |(exfalso;obtain rfl:=X.a;cases J)
end
end Go.VC.cc
namespace Go.VC
section
variable {n m:S}{env:List IF}
def cG(env:List IF)(t:Ty):Ty×Ty×Int:=
 if t.k≠10 then(Ty.zero,Ty.zero,1)else
 if(cp env t.m t.n).2.2≠0 then(Ty.zero,Ty.zero,(cp env t.m t.n).2.2)else
 if t.ar.length≠(cp env t.m t.n).1.params.length then(Ty.zero,Ty.zero,11)else
 ((cp env t.m t.n).1.lower.sub ((cp env t.m t.n).1.params.map (·.name)) t.ar,(cp env t.m t.n).1.upper.sub ((cp env t.m t.n).1.params.map (·.name)) t.ar,0)
def lb:Ty.le 4294967295 Ty.zero:=.mk _ (by simp[Ty.zero,Ty.ar]) (by simp[Ty.zero,Ty.fl]) (by simp[Ty.zero,Ty.ar]) (by simp[Ty.zero,Ty.fl])
def oG:TE.zero.ok:=⟨by simp[TE.zero],by simp[TE.zero],lb,lb⟩
def uT:VE.zero.ok:=⟨by simp[VE.zero],by simp[VE.zero],lb⟩
def Ms{i:IF}(h:i.ok):(∀x,ko i n= .th x->x.ok)/\(∀x,ko i n= .val x->x.ok):=by
 unfold ko;constructor<;>intro x
 ·split
  ·rename_i y a;intro e;cases e;exact h.t _ (kf a)
  ·split
   ·intro e;cases e
   ·split<;>(intro e;cases e)
 ·split
  ·intro e;cases e
  ·split
   ·rename_i y a;intro e;cases e;exact h.v _ (kf a)
   ·split<;>(intro e;cases e)
def Dg(h:ey env):∀(k:Nat)(m n:S),(∀m' n' x,fY env k m n= .th m' n' x->x.ok)/\(∀m' n' x,fY env k m n= .val m' n' x->x.ok)
 |0,m,n=>by simp[fY]
 |k+1,m,n=>by
  have hk:=λm n=>Dg h k m n;simp only[fY];unfold iZ;cases hf:fF env m with
  |none=>simp
  |some i=>
   have:=Ms (ly h hf) (n:=n);simp only;cases hl:ko i n with
   |none=>simp
   |Bh=>simp
   |th x=>refine⟨λm' n' y e=>?_,λ_ _ _ e=>yC e⟩;cases e;exact this.1 x hl
   |val x=>refine⟨λ_ _ _ e=>(yC e),λm' n' y e=>?_⟩;cases e;exact this.2 x hl
   |TY x=>exact hk _ _
def DR(h:ey env):(cp env m n).1.ok:=by
 have:=Dg h 65 m n;unfold cp;cases he:fY env 65 m n with
 |th m' n' x=>exact this.1 _ _ _ he
 |val m' n' x=>exact oG
 |nf=>exact oG
 |loop=>exact oG
def Jt(h:ey env):(dP env m n).1.ok:=by
 have:=Dg h 65 m n;unfold dP;cases he:fY env 65 m n with
 |th m' n' x=>exact uT
 |val m' n' x=>exact this.2 _ _ _ he
 |nf=>exact uT
 |loop=>exact uT
end
end Go.VC
namespace Go.VC.cc
open Go Go.VC Go.Proofs
end Go.VC.cc
namespace Go.VC
def eZ(env:List IF)(m n:S):S×S×Int:=match lR env m n with| .nf=>([],[],6)| .loop=>([],[],14)| .th m' n' _=>(m',n',0)| .val m' n' _=>(m',n',0)
def Hc{i:IF}{n:S}:(∀x,ko i n= .th x->i.types.find? (λy=>y.name==n)=some x)/\(∀x,ko i n= .val x->i.types.find? (λy=>y.name==n)=none/\i.values.find? (λy=>y.name==n)=some x):=by
 unfold ko;cases h1:i.types.find? (λy=>y.name==n)with
 |some y=>exact⟨λx e=>by cases e;rfl,λx e=>yC e⟩
 |none=>
  cases J:i.values.find? (λy=>y.name==n)with
  |some y=>exact⟨λx e=>(yC e),λx e=>by cases e;exact⟨rfl,rfl⟩⟩
  |none=>
   simp only;cases i.aliases.find? (λy=>y.name==n)with
   |some y=>exact⟨λx e=>(yC e),λx e=>(yC e)⟩
   |none=>exact⟨λx e=>(yC e),λx e=>(yC e)⟩
def o3{env:List IF}:∀(k:Nat)(m n:S),(∀m' n' x,fY env k m n= .th m' n' x->∃i,fF env m'=some i/\i.types.find? (λy=>y.name==n')=some x)/\(∀m' n' x,fY env k m n= .val m' n' x->∃i,fF env m'=some i/\i.types.find? (λy=>y.name==n')=none/\i.values.find? (λy=>y.name==n')=some x)
 |0,m,n=>by simp[fY]
 |k+1,m,n=>by
  have hk:=λm n=>o3 (env:=env) k m n;simp only[fY];unfold iZ;cases hf:fF env m with
  |none=>simp
  |some i=>
   have hs:=Hc (i:=i) (n:=n);simp only;cases hl:ko i n with
   |none=>simp
   |Bh=>simp
   |th x=>refine⟨λm' n' y e=>?_,λ_ _ _ e=>(yC e)⟩;cases e;exact⟨i,hf,hs.1 _ hl⟩
   |val x=>refine⟨λ_ _ _ e=>(yC e),λm' n' y e=>?_⟩;cases e;exact⟨i,hf,hs.2 _ hl⟩
   |TY x=>exact hk _ _
end Go.VC
namespace Go.VC.cc
open Go Go.VC Go.Proofs
section
variable {env:List IF}{d:D}{K:PV->List Ob->Prop}{m n:S}
def abw(v:d=bt dy env)(hl:ey env)
 (h:∀r0 t r2,(r0,t,r2)=eZ env m n->K (.tup [.str r0,.str t,.int .i64 r2]) []):
 FT 182 [] [.lst 97 d,.str m,.str n] K:=by
 unfold eZ at h;refine en ZC Tryz.func182 λA C L X=>?_;cbv;refine lp X (λy=>y.1<=65/\fY env (65-y.1) y.2.1 y.2.2=lR env m n) (λy=>65-y.1) (0,m,n) ⟨bw _,rfl⟩ (λ(y:Nat×S×S)=>⟨[(9,.int .i64 y.1),(0,.lst 97 d),(1,.str y.2.1),(2,.str y.2.2)],[]⟩) ?_;rintro⟨i,m',n'⟩ ⟨F,he⟩;simp only at F he;cbv;constructor<;>intro h1
 ·have h5:i<65:=by obtain rfl:=X.a;simp only[SD]at h1;omega
  obtain⟨k,hk⟩:∃k,65-i=k+1:=⟨64-i,yO⟩;have p:65-(i+1)=k:=yO;rw[hk]at he;simp only[fY]at he;have r:=jX X.a h5;cbv;refine X.call (TA v hl.1 rfl λe0 e1 e2 e3 e4 b l hb=>?_);cases hf:fF env m' with
  |none=>
   rw[hf]at hb;obtain rfl:b=false:=hb;rw[show iZ env m' n'= .none by rw[iZ,hf]]at he;rw[<- he]at h;have q:=h _ _ _ rfl;cbv;repeat' (first|apply bk|exact zf|(intro J;cbv)|apply bB)
   ·exact q
   ·obtain rfl:=X.a;cases J
  |some x=>
   rw[hf]at hb l;simp only[eR]at l;obtain rfl:b=true:=hb;have dJ:=ly hl hf;have z:iZ env m' n'=ko x n':=by rw[iZ,hf]
   rw[z]at he;refine p2 (λJ=>?_) (λJ=>?_)
   ·obtain rfl:=X.a;cases J
   clear J;refine X.call (UF.1 l dJ.nt rfl λc0 c1 c2 T c4 U c6 M G H B w b1 hc g=>?_);cbv;refine X.call (UF.2.1 l dJ.nv rfl λN Q I R O P V b2 hu f=>?_);cbv;refine X.call (UF.2.2 l dJ.na rfl λW a1 a2 u ha j=>?_);cases a:x.types.find? (λy=>y.name==n')with
   |some y=>
    rw[a]at g;obtain rfl:b1=true:=g;rw[ko,a]at he;rw[<- he]at h;have q:=h _ _ _ rfl;cbv;repeat' (first|apply bk|exact zf|(intro J;cbv)|apply bB)
    all_goals first
     |exact q
     |(exfalso;obtain rfl:=X.a;simp[gV,gj,fP]at *;done)
   |none=>
    rw[a]at g;obtain rfl:b1=false:=g;cases c:x.values.find? (λy=>y.name==n')with
    |some y=>
     rw[c]at f;obtain rfl:b2=true:=f;rw[ko,a]at he;simp only[c]at he;rw[<- he]at h;have q:=h _ _ _ rfl;cbv;repeat' (first|apply bk|exact zf|(intro J;cbv)|apply bB)
     all_goals first
      |exact q
      |(exfalso;obtain rfl:=X.a;simp[gV,gj,fP]at *;done)
    |none=>
     rw[c]at f;obtain rfl:b2=false:=f;cases e:x.aliases.find? (λy=>y.name==n')with
     |none=>
      rw[e]at j;obtain rfl:u=false:=j;rw[ko,a]at he;simp only[c,e]at he;rw[<- he]at h;have q:=h _ _ _ rfl;cbv;repeat' (first|apply bk|exact zf|(intro J;cbv)|apply bB)
      all_goals first
       |exact q
       |(exfalso;obtain rfl:=X.a;simp[gV,gj,fP]at *;done)
     |some y=>
      rw[e]at j ha;obtain rfl:u=true:=j;rw[ko,a]at he;simp only[c,e]at he;simp only[eR]at ha;obtain⟨E,o,s⟩:=ha;cbv;repeat' (first|apply bk|exact zf|(intro J;cbv)|apply bB)
      all_goals first
       |exact r
       |(exfalso;obtain rfl:=X.a;simp[gV,gj,fP]at *;done)
       |(refine⟨(i+1,y.module,y.target),⟨?_,?_⟩,?_,?_⟩)
      ·simp only;omega
      ·simp only[p];exact he
      ·simp only;omega
      ·rw[<- o,<-s];exact yc
 ·have h5:i=65:=by obtain rfl:=X.a;simp only[SD]at h1;omega
  subst h5;rw[<- he]at h;have q:=h _ _ _ rfl;cbv;exact q
def abO(o:d=bt dy env)(hl:ey env)
 (h:∀e0 e1 e2 e3 e4 e5 e6 e7 e8 e9 kj sy l r2,p8 (cp env m n).1 e0 e1 e2 e3 e4 e5 e6 e7 e8 e9 kj sy->l=(cp env m n).2.1->r2=(cp env m n).2.2->K (.tup [tE e0 e1 e2 e3 e4 e5 e6 e7 e8 e9 kj sy,.str l,.int .i64 r2]) []):
 FT 125 [] [.lst 97 d,.str m,.str n] K:=by
 have k:=o3 (env:=env) 65 m n;refine en (cf 45) Tryz.func125 λA C L X=>?_;cbv;refine X.call (abw o hl λr0 l r2 hr=>?_);unfold eZ at hr;have bad:∀(e:Int),e≠0->cp env m n=(TE.zero,[],e)->(r0,l,r2)=(([],[],e):S×S×Int)->A.eq r2 0=false/\K (.tup [tE [] (.list []) 0 [] [] (.list []) (.list []) 0 [] [] (.list []) (.list []),.str [],.int .i64 r2]) []:=by intro e h0 hT he;simp only[gf]at he;obtain⟨rfl,rfl,rfl⟩:=he;rw[hT]at h;refine⟨?_,h _ _ _ _ _ _ _ _ _ _ _ _ _ _ ⟨rfl,rfl,⟨rfl,rfl,rfl,rfl,rfl⟩,rfl,rfl,rfl,rfl,rfl⟩ rfl rfl⟩;rw[X.a,gV];simpa using h0
 cases he:lR env m n with
 |nf=>
  rw[he]at hr;obtain⟨g1,g2⟩:=bad 6 yS (by unfold cp;rw[show fY env 65 m n=lR env m n from rfl,he]) hr;cbv;repeat' (first|apply bk|exact zf|(intro J;cbv)|apply bB)
  all_goals first
   |exact g2
   |(exfalso;rw[g1]at J;obtain rfl:=X.a;simp[gV,gj,fP]at *;done)
 |loop=>
  rw[he]at hr;obtain⟨g1,g2⟩:=bad 14 yS (by unfold cp;rw[show fY env 65 m n=lR env m n from rfl,he]) hr;cbv;repeat' (first|apply bk|exact zf|(intro J;cbv)|apply bB)
  all_goals first
   |exact g2
   |(exfalso;rw[g1]at J;obtain rfl:=X.a;simp[gV,gj,fP]at *;done)
 |th m' n' x=>
  rw[he]at hr;simp only[gf]at hr;obtain⟨f,g,p⟩:=hr;obtain⟨i,j,s⟩:=k.1 m' n' x he;have hT:cp env m n=(x,m',0):=by unfold cp;rw[show fY env 65 m n=lR env m n from rfl,he]
  rw[hT,<-f]at h;clear bad;refine p2 (λJ=>?_) (λJ=>?_)
  ·exfalso;obtain rfl:=X.a;simp only[SD]at J;omega
  refine X.call (TA o hl.1 f λe0 e1 e2 e3 e4 b a hb=>?_);rw[j]at a hb;simp only[eR]at a;cbv;refine X.call (UF.1 a (ly hl j).nt g λE c1 c2 w B y z v t u r q b1 hc c=>?_);rw[s]at hc c;simp only[eR]at hc;obtain rfl:b1=true:=c;clear hb;refine p2 (λJ=>?_) (λJ=>?_)
  ·exfalso;obtain rfl:=X.a;simp[gj]at*
  exact h _ _ _ _ _ _ _ _ _ _ _ _ _ _ hc rfl rfl
 |val m' n' x=>
  rw[he]at hr;simp only[gf]at hr;obtain⟨f,g,p⟩:=hr;obtain⟨i,j,s,F⟩:=k.2 m' n' x he;have hT:cp env m n=(TE.zero,[],6):=by unfold cp;rw[show fY env 65 m n=lR env m n from rfl,he]
  rw[hT]at h;clear bad;refine p2 (λJ=>?_) (λJ=>?_)
  ·exfalso;obtain rfl:=X.a;simp only[SD]at J;omega
  refine X.call (TA o hl.1 f λe0 e1 e2 e3 e4 b a hb=>?_);rw[j]at a hb;simp only[eR]at a;cbv;refine X.call (UF.1 a (ly hl j).nt g λE c1 c2 w B y z v t u r q b1 hc c=>?_);rw[s]at hc c;obtain rfl:b1=false:=c;clear hb;refine p2 (λJ=>?_) (λJ=>?_)
  ·exact h _ _ _ _ _ _ _ _ _ _ _ _ _ _ ⟨rfl,rfl,⟨rfl,rfl,rfl,rfl,rfl⟩,rfl,rfl,rfl,rfl,rfl⟩ rfl rfl
  ·exfalso;obtain rfl:=X.a;simp[gj]at*
def F63{t:Ty}{z:Int}{c1 c2:S}{w y:D}(B:d=bt dy env)(hl:ey env)(s:Ty.le 4294967295 t)(F:cr t z c1 c2 w y)
 (h:∀e0 e1 e2 e3 e4 g0 g1 g2 g3 g4 r,cr (cG env t).1 e0 e1 e2 e3 e4->cr (cG env t).2.1 g0 g1 g2 g3 g4->r=(cG env t).2.2->K (.tup [dQ e0 e1 e2 e3 e4,dQ g0 g1 g2 g3 g4,.int .i64 r]) []):
 FT 63 [] [.lst 97 d,dQ z c1 c2 w y] K:=by
 obtain⟨H,I,E,c,M⟩:=F;have i:=ru s;have j:=DR hl (m:=t.m) (n:=t.n);unfold cG at h;rw[<- H]at h;rw[<- I,<-E]at h j;obtain⟨R,x⟩:∃R,R=cp env c1 c2:=⟨_,rfl⟩;rw[<- x]at h j;have e:=j.np;refine en g63 Tryz.func63 λA C L X=>?_;obtain⟨v,o,a⟩:=lenOf c;cbv;repeat' (first|apply bk|exact zf|(intro J;cbv)|apply bB)
 ·rw[if_pos (by obtain rfl:=X.a;simp only[SD]at J;exact J)]at h;exact h _ _ _ _ _ _ _ _ _ _ _ ⟨rfl,rfl,rfl,rfl,rfl⟩ ⟨rfl,rfl,rfl,rfl,rfl⟩ rfl
 rw[if_neg (by obtain rfl:=X.a;simp only[SD]at J;simp[J])]at h;clear J;refine X.call (abO B hl λe0 e1 e2 e3 e4 e5 e6 e7 e8 e9 kj sy O r2 he p f=>?_);rw[<- x]at he p f;rw[<- f]at h;obtain⟨U,a1,k,l⟩:=he;obtain⟨u,q,b⟩:=lenOf a1;cbv;repeat' (first|apply bk|exact zf|(intro J;cbv)|apply bB)
 ·rw[if_pos (by obtain rfl:=X.a;simp only[SD]at J;omega)]at h;exact h _ _ _ _ _ _ _ _ _ _ _ ⟨rfl,rfl,rfl,rfl,rfl⟩ ⟨rfl,rfl,rfl,rfl,rfl⟩ rfl
 ·rename_i g0;rw[if_neg (by obtain rfl:=X.a;simp only[SD,fP]at g0;simp[g0]),if_pos (by obtain rfl:=X.a;simp only[a,b,SD,fP]at J;omega)]at h;exact h _ _ _ _ _ _ _ _ _ _ _ ⟨rfl,rfl,rfl,rfl,rfl⟩ ⟨rfl,rfl,rfl,rfl,rfl⟩ rfl
 rename_i g0;have g:t.ar.length=R.1.params.length:=by obtain rfl:=X.a;simp only[a,b,SD,fP]at J;omega
 rw[if_neg (by obtain rfl:=X.a;simp only[SD,fP]at g0;simp[g0]),if_neg (by simp[g])]at h;clear g0 J;refine X.call (abN a1 e λr hr=>?_);refine p1 ?_;refine X.call (Xu hr c (yU e) i _ j.lo k λg0 g1 g2 g3 g4 G=>?_);refine p1 ?_;refine X.call (Xu hr c (yU e) i _ j.up l λQ N V P T hk=>?_);refine p1 ?_;exact h _ _ _ _ _ _ _ _ _ _ _ G hk rfl
end
end Go.VC.cc
namespace Go.VC
open Go Go.Proofs Go.Shelf
section
def SX.var{Pp:fQ}{g:Nat×IntKind×List Int}(h:SX Pp g){w:World}(b:∀ad v,Pp ad v->pc w ad=some v):∃T f,w.heap[g.1]? =some (.cells (g.2.2.map (Value.int g.2.1)).toArray T f):=by
 have h0:=b _ _ h.1;cases a:w.heap[g.1]? with
 |none=>simp only[pc,a]at h0;cases h0
 |some x=>
  cases x with
  |cells c T f=>
   simp only[pc,a,if_true,cw,Value.int.injEq,true_and]at h0;have fW:c.size=g.2.2.length:=by exact_mod_cast h0
   refine⟨T,f,?_⟩
   congr 2
   apply QJ
   ·simp[fW]
   ·intro i h1 J;have d:i<g.2.2.length:=yO;have h3:=b _ _ (h.2 i g.2.2[i] (bu d));rw[px]at h3;simp only[World.cell?,a]at h3;simp only[n9,cA,if_false]at h3;rw[pd h1]at h3;simp at h3;simp[h3]
  |_=>simp[pc,a]at h0
section
variable {P:Program}{tt:TypeId->Option TI}{f:FuncId}
def FC.grown{args:List PV}{K:PV->List Ob->Prop}(m:∀args w,(callFunc f args).run P w= .ok (.enter f args) w)
 (h:∀E Pp w vals,WR tt E Pp [] w->eM tt E Pp vals args->Calls P f ⟨vals⟩ w λe w'=>(∃k os,w'=Go.Sort.grow (w.drewN k) os)/\∃v pv,e= .returned v/\VR tt E Pp v pv/\K pv []):FC P tt f [] args K:=by
 intro E Pp w vals c n;refine .inl ⟨m _ _,(h E Pp w vals c n).mono ?_⟩;rintro e w' ⟨⟨k,os,rfl⟩,v,pv,rfl,g,hk⟩;have a:∀b,b<w.heap.size->(Go.Sort.grow (w.drewN k) os).heap[b]? =w.heap[b]? :=λb hb=>by show (w.heap++os)[b]? =_;rw[gK hb]
 refine⟨v,E,Pp,[],pv,rfl,.refl _,λ_ _ h=>h,⟨c.len,λad u l=>?_,λi o d=>yE d,λi j oi oj ri rj b d=>yE d,c.gl⟩,g,hk,⟨rfl,rfl,rfl,?_,?_,λb hb _=>a b hb⟩,λ_ _ h=>.inl h,λi o ri b d=>yE d⟩
 ·rw[ia (a _ (yu (c.pi ad u l)))];exact c.pi ad u l
 ·show w.heap.size<=(w.heap++os).size;simp
 ·intro _;show w.drawn<=(w.drewN k).drawn;simp[World.drewN]
end
end
end Go.VC
namespace Go.VC.cc
open Go Go.VC Go.Proofs
section
variable {K:PV->List Ob->Prop}
def X8{w:World}{Pp:fQ}(h:N6 tt Pp)(a:∀ad v,Pp ad v->pc w ad=some v):Lib.TabIs Tryz.prog w "internal/strconv.uint64pow10" .u64 Lib.pow10Tab:=by obtain⟨T,f,hc⟩:=(h.2 (0,.u64,Lib.pow10Tab) (by rw[show vL tt=[(0,.u64,Lib.pow10Tab)]by kernel_rfl];simp)).var a;have hz:Lib.pow10Tab=Lib.pow10Tab:=yD;rw[hz];show World.var? Tryz.prog w "internal/strconv.uint64pow10" =_;unfold World.var?;rw[show Tryz.prog.globalNamed "internal/strconv.uint64pow10" =some 0 by kernel_rfl];simp only[iG];rw[hc]
def Qy{i:Int}(h0: -9223372036854775808<=i)(c:i<=9223372036854775807)(h:∀r:S,r=Lib.itoa i->K (.str r) []):FT 73 [] [.int .i64 i] K:=by
 refine FC.grown (enters_of Tryz.func73 (by kernel_rfl) rfl) λE Pp w vals b a=>?_;cases a with|cons _ _ _ _ h1 a=>
 cases a;cases h1;exact(Tryz.strconv_Itoa i h0 c w (X8 b.gl b.pi)).mono λe w' ⟨h1,J⟩=>⟨J,_,_,h1,.str _,h _ rfl⟩
def Xs{b:Bool}(h:∀r:S,r=Lib.formatBool b->K (.str r) []):FT 131 [] [.bool b] K:=by
 refine FC.plain (enters_of Tryz.func131 (by kernel_rfl) rfl) λE Pp w vals c a=>?_;cases a with|cons _ _ _ _ h1 a=>
 cases a;cases h1;exact(Tryz.strconv_FormatBool b w).mono λe w' ⟨h1,J⟩=>⟨J,_,_,h1,.str _,h _ rfl⟩
end
end Go.VC.cc
