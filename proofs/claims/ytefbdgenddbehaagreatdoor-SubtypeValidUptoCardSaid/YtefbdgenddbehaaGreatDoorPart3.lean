/- Part 3 of the common texts. -/
import Derived.Shelf.Small.Bits
import Derived.Shelf.Sort.Plain
import Derived.Shelf.Slices.In.SortNone
import Derived.Shelf.GgSortFunc.InsertionK
import Derived.Shelf.SlSortCmp.Kit1
import Derived.Shelf.Small.Strs
import Derived.Shelf.Small.Wraps
import Derived.Shelf.Strconv.Itoa3
import Derived.Shelf.Strings.Search3
import Derived.Shelf.Strings.Split
import Derived.Ground.SlsfProg
import Derived.Shelf.SlSortCmp.NoneTotal
import Derived.Shelf.Spec.SlicesGrow
import Derived.Shelf.Strings.Builder1
import Derived.Test.YtefbdgenddbehaaGreatDoorPart2
set_option linter.all false
set_option maxRecDepth 100000
set_option maxHeartbeats 16000000
open And renaming intro→bw
open Array renaming ext→O8,extract_eq_self_of_le→jL,getElem?_append_left→im,getElem?_eq_getElem→pG,getElem?_eq_none→dJ,getElem?_modify→jK,length_toList→gZ,size_map→Df
open Bool renaming and_eq_true→bI,and_false→fb,eq_iff_iff→cm,false_eq_true→cC,false_or→FG,or_assoc→FD,or_eq_true→gh,true_and→fB
open Eq renaming trans→ku
open Int renaming le_refl→vM,lt_trichotomy→qG,natCast_nonneg→cW,ofNat→br,ofNat_eq_natCast→bz,ofNat_lt→jy
open List renaming all_eq_true→dk,any_cons→kW,append_assoc→bN,append_inj→BX,append_nil→cA,cons_append→cO,countP_eq_length_filter→jA,countP_mono_left→JS,drop_eq_getElem_cons→bM,drop_eq_nil_of_le→fD,drop_length→bZ,eq_nil_of_length_eq_zero→cz,eraseP_cons→qN,eraseP_sublist→vP,ext_getElem→Ad,filter_cons→Ac,find?_cons→cB,find?_eq_none→eV,flatMap_append→cV,flatMap_cons→eQ,foldl_append→l8,foldl_cons→iG,getD→cj,getElem?_append_left→bU,getElem?_drop→fw,getElem?_eq_getElem→bB,getElem?_eq_none→bY,getElem?_eq_some_iff→dF,getElem?_map→cw,getElem?_take_of_lt→cQ,getElem_map→jg,getElem_mem→bx,getLast?_eq_getElem?→kG,length_append→bE,length_cons→bS,length_drop→mL,length_erase_of_mem→FB,length_filter_le→th,length_flatMap→n2,length_map→bQ,length_pos_iff→ej,length_pos_of_mem→sK,length_singleton→eg,length_take→cZ,map_append→cg,map_congr_left→hJ,map_cons→bO,map_map→ju,map_nil→iL,mem_append→bJ,mem_cons→bP,mem_cons_of_mem→gG,mem_erase_of_ne→JZ,mem_filter→jz,mem_flatMap→cN,mem_map→bT,mem_of_find?_eq_some→di,mem_singleton→cU,mem_take_iff_getElem→iE,nil_append→ep,nodup_append→eb,nodup_cons→cn,pairwise_cons→cJ,pairwise_iff_getElem→iD,perm_ext_iff_of_nodup→oQ,range→gU,singleton_append→JQ,sum_append→ea,sum_cons→ch,take_append_drop→dG,take_length→bF,take_of_length_le→cG,take_succ_eq_append_getElem→l7,take_zero→j5
open List.Pairwise renaming nil→Dm
open List.cons renaming injEq→kr
open Nat renaming add_assoc→eR,add_comm→mn,add_mul→ez,add_zero→iS,div_eq_of_lt→r7,div_lt_iff_lt_mul→JY,eq_zero_or_pos→pE,le_of_lt→JO,le_refl→ca,le_succ→qF,le_trans→bR,lt_of_le_of_lt→lD,lt_or_ge→cb,min_eq_left→De,mod_eq_of_lt→AD,mod_lt→O3,mul_add_div→tg,mul_add_mod→Dd,mul_comm→jx,mul_le_mul_right→dE,mul_one→vL,one_mul→qE,zero_add→fk,zero_le→bD
open Ne renaming symm→eh
open Option renaming bind_some→iY,getD_some→dQ,isSome_map→MW,isSome_none→ou,map_some→cu
open Option.some renaming injEq→cr
open Or renaming comm→JX,inl→bG
open Prod renaming ext→dR
open Prod.mk renaming inj→sV,injEq→ey
open UInt8 renaming lt_irrefl→sJ,ofNat→mW
namespace Go.VC
def dY(x:S×Bool):List D:=[.str x.1,.bool x.2]
def keys_perm{α β:Type}{m:List α}{e:α}{f:α->β}{c:List Int}(gV:c.Nodup)(hb:∀j∈c,0<=j/\j<m.length)(ha:∀j:Nat,j<m.length->(j:Int)∈c):(c.map λj=>f (m.getD j.toNat e)).Perm (m.map f):=by
 have l:c.Perm ((gU m.length).map λj:Nat=>(j:Int)):=by
  rw[oQ gV]
  ·intro j;simp only[bT,List.mem_range];constructor
   ·intro n;have:=hb j n;exact⟨j.toNat,yO,yO⟩
   ·rintro⟨k,hk,rfl⟩;exact ha k hk
  ·refine List.Pairwise.map _ ?_ List.nodup_range;intro a b g h;exact g yO
 have J:=l.map λj=>f (m.getD j.toNat e);rw[ju]at J;have h3:(gU m.length).map ((λj:Int=>f (m.getD j.toNat e))∘λj:Nat=>(j:Int))=m.map f:=by apply Ad yS;intro i h1 J;simp at h1;simp[h1]
 rw[h3]at J;exact J
def Pk:∀(n:Nat)(l:List Int),l.Nodup->(∀j∈l,0<=j/\j<(n:Int))->l.length<=n
 |0,[],_,_=>ca _
 |0,x::l,_,h=>by have:=h x yS;omega
 |n+1,l,gV,h=>by
  have h1:=Pk n (l.erase (n:Int)) (gV.erase _) (λj b=>by
   have J:=h j (List.mem_of_mem_erase b);have h3:j≠(n:Int):=λe=>by subst e;exact(List.Nodup.not_mem_erase gV) b
   omega)
  have:=List.le_length_erase (a:=(n:Int)) (l:=l);omega
def H3{a:List Int}{n:Nat}(gV:a.Nodup)(hb:∀j∈a,0<=j/\j<(n:Int)){i:Nat}(c:i<n)(e:(br i)∉a):a.length<n:=by
 have h1:(br i::a).Nodup:=cn.2 ⟨e,gV⟩
 have J:(br i::a) ⊆ (gU n).map λj:Nat=>(j:Int):=by
  intro j b;rw[bT];rcases bP.1 b with rfl|b
  ·exact⟨i,yU c,rfl⟩
  ·have:=hb j b;exact⟨j.toNat,yQ,yO⟩
 have h3:=Pk n _ h1 (λj b=>by obtain⟨k,hk,rfl⟩:=bT.1 (J b);simp at hk;omega);simp at h3;omega
end Go.VC
namespace Go.VC.cK
open Go Go.VC Go.Proofs
section
variable {d:D}{K:PV->List Ob->Prop}{m:List (S×Bool)}
def Zq(h:K (.cy 134 [.box 1 0]) [.map .str 4 d,.box [.mp 0]]):FT 91 [.map .str 4 d] [.mp 0] K:=by refine el UZ Tryz.func91 λA C L X=>?_;cbv;exact h
def Xj{c1 c2:Code}(hd:d=bH dY m)
 (B:∀(k:S)(l:List S)(r:D)(y:PV->List Ob->Prop),r=bH encS l->l.length<m.length->(∀p,p=bH encS (l++[k])->y (.bl true) [.loop 13 [7] c1 c2 [(2,.box 1 0)] .ready,.box [.row 9 3],.dead,.row 9 p true])->YC Tryz.prog tt [.loop 13 [7] c1 c2 [(2,.box 1 0)] .ready,.box [.row 9 2],.row 9 r true] [.str k] y)
 (h:∀(l:List S)(r:D),r=bH encS l->l.Perm (m.map (·.1))->K (.tup []) [.loop 13 [7] c1 c2 [(2,.box 2 0)] .ready,.box [.mp 3],.box [.row 9 5],.map .str 4 d,.dead,.row 9 r true]):
 FT 134 [.loop 13 [7] c1 c2 [(2,.box 2 0)] .ready,.box [.mp 3],.box [.row 9 4],.map .str 4 d,.row 9 (.list []) true] [.lS 0,.box 1 0] K:=by
 refine el SY Tryz.func134 λA C L X=>?_;have F:(A=Std):=X.a;cbv
 refine X.iC (λ(x:List Int×D×D)=>⟨[(5,.it 6),(4,.mp 3),(0,.lS 0),(1,.box 1 0)],[.loop 13 [7] c1 c2 [(2,.box 2 0)] .ready,.box [.mp 3],.box [.row 9 5],.map .str 4 d,.dead,.row 9 x.2.2 true,.iter 3 x.2.1]⟩)
  (λx=>x.2.1=lO x.1/\x.2.2=bH encS (x.1.map λj=>(m.getD j.toNat ([],false)).1)/\x.1.Nodup/\∀j∈x.1,0<=j/\j<m.length) (λx=>m.length-x.1.length) ([],.list [],.list []) ⟨rfl,rfl,by simp,by simp⟩ ?_ ?_
 ·exact⟨[0,1,2,3,4,5,6],rfl,yc⟩
 rintro⟨o,z,r⟩ ⟨s,hr,gV,hb⟩;simp only at s hr gV hb;cbv;refine⟨λh1=>?_,λj h1=>?_⟩
 ·cbv;have ha:=rY (m:=m) (f:=dY) (l:=o) (by rw[<- hd,<-s,<-X.a];exact h1);refine h _ r hr ?_;exact keys_perm gV hb ha
 ·obtain⟨E,w,v⟩:0<=j/\j<m.length/\j∉o:=tV (by rw[<- hd,<-s,<-X.a];exact h1);have g:A.oC z j=lO (o++[j]):=by rw[X.a,s,xO]
  have c:A.last (A.oC z j)=j:=by rw[g,X.a,vF]
  obtain⟨i,rfl⟩:∃i:Nat,j=br i:=⟨j.toNat,yL⟩;have q:i<m.length:=by simp only[bz]at w;omega
  have hk:A.bL (A.cell d (A.last (A.oC z (br i))) 0)=(m.getD i ([],false)).1:=by rw[c,cellAt X.a hd q,X.a];simp[dY,oq,q]
  have g1:A.idx 0 (A.len (A.oC z (br i))):=by rw[g,X.a,pw,l6];simp
  have g2:A.idx (A.last (A.oC z (br i))) (A.len d):=by rw[c,X.a,hd];exact cP q
  cbv;refine⟨g1,g2,?_⟩;have t:(o.map λj=>(m.getD j.toNat ([],false)).1).length<m.length:=by rw[bQ];exact H3 gV hb (i:=i) q v
  refine X.round (B _ _ _ _ hr t λp u=>?_);cbv;refine⟨(o++[br i],A.oC z (br i),p),⟨g,?_,?_,?_⟩,?_,[0,1,2,3,4,7,6],rfl,?_⟩
  ·show p=_;rw[u,hk];simp
  ·rw[eb];exact⟨gV,yS,λa ha b hb=>by simp at hb;subst hb;exactλe=>v (show (i:Int)∈o from e▸ha)⟩
  ·intro j n;rcases bJ.1 n with n|n
   ·exact hb j n
   ·simp only[cU]at n;subst n;exact⟨E,w⟩
  ·simp only[bE,bQ]at *;simp;omega
  ·exact yc
def WU(hd:d=bH dY m)(c:m.length<4294967296)
 (h:∀(l:List S)(r:D),r=bH encS l->l.Perm (m.map (·.1))->K (.row 9 3) [.dead,.box [.mp 2],.map .str 4 d,.row 9 r true]):
 FT 187 [.row 9 (.list []) true,.box [.mp 2],.map .str 4 d] [.row 9 0,.cy 134 [.box 1 0]] K:=by
 refine el SL Tryz.func187 λA C L X=>?_;cbv;refine X.range rfl ⟨Tryz.func134,by rfl,rfl⟩ rfl [(2,.box 4 0)] ?_ ?_
 ·cbv
 cbv;refine X.call (Xj hd ?_ ?_)
 ·intro k l r e hr hl b;refine YC.enter (G:=SK) eX mixed rfl rfl rfl rfl rfl ?_;intro A C L X;have hb:A.fU (A.add (A.len r) (A.len (A.lit [[.str k]]))) 4294967296:=by obtain rfl:=X.a;rw[hr];simp only[SD];omega
  have q:=b (A.app r (A.lit [[.str k]])) (by rw[X.a,hr];exact cx (k:=[k]));cbv;exact⟨hb,q⟩
 ·intro l r hr a;cbv;exact h l r hr a
def Xk(hd:d=bH dY m)(b:m.length<4294967296)
 (h:∀(l:List S)(r:D),r=bH encS l->l.Perm (m.map (·.1))->K (.row 9 2) [.box [.mp 1],.map .str 4 d,.row 9 r true]):
 FT 132 [.box [.mp 1],.map .str 4 d] [.cy 134 [.box 0 0]] K:=by
 refine el VM Tryz.func132 λA C L X=>?_;cbv;refine X.call (WU hd b λl r hr a=>?_);cbv;exact h l r hr a
end
end Go.VC.cK
namespace Go.Proofs
open Go.Shelf
def Tryz.Et:Go.Shelf.Ren:=⟨fun|190=>133|125=>189|258=>188|128=>242|129=>243|302=>233|303=>234|304=>235|305=>236|306=>237|307=>238|308=>239|309=>240|310=>241|333=>278|329=>279|330=>280|334=>281|335=>282|336=>186|344=>303|n=>n,fun|31=>59|9=>9|3=>3|46=>243|0=>0|51=>285|53=>287|4=>4|183=>278|182=>277|131=>261|5=>5|218=>308|222=>312|228=>326|229=>327|n=>n,fun|n=>n⟩
def Tryz.H2:Go.Proofs.Lays.n190 Tryz.prog Tryz.Et:=by constructor<;>first|kernel_rfl|(intro w;kernel_rfl)
open Go.Sort Go.RowKit in
def Tryz.slices_Sort_string(gW off cap:Nat)(b:List (List UInt8))(w:World)(c:Holds encStr w gW off b.toArray)(a:gW<w.heap.size)(fL:b.length<4611686018427387904):
 Calls Tryz.prog 133 #[.slice (some ⟨gW,off,none⟩) b.length cap] w λe w'=>e= .returned (.tuple #[])/\∃n os,w'=grow (putRow encStr (Sort.ahead w n) gW off (b.mergeSort λx y=>decide (x<=y)).toArray) os:=Any.slices_Sort_string Tryz.H2 gW off cap b w c a fL
open Go.RowKit Go.Sort in
def Tryz.slices_Sort_string_none(p:Option Addr)(cap:Nat)(w:World):
 Calls Tryz.prog 133 #[.slice p 0 cap] w λe w'=>e= .returned (.tuple #[])/\w'=w:=Any.slices_Sort_string_none Tryz.H2 p cap w
end Go.Proofs
namespace Go.VC
open Go Go.Sort Go.Proofs
section
inductive qn {α β:Type} (R:α->β->Prop):List α->List β->Prop
 |nil:qn R [] []
 |cons {a b x y} (h:R a b) (t:qn R x y):qn R (a::x) (b::y)
def qn.length{α β:Type}{R:α->β->Prop}{x:List α}{y:List β}(h:qn R x y):x.length=y.length:=by
 induction h with
 |nil=>rfl
 |cons _ _ a=>simp[a]
def qn.get{α β:Type}{R:α->β->Prop}{x:List α}{y:List β}(h:qn R x y)(i:Nat)(h1:i<x.length)(h2:i<y.length):R x[i] y[i]:=by
 induction h generalizing i with
 |nil=>simp at h1
 |cons h t a=>
  cases i with
  |zero=>exact h
  |succ i=>exact a i (yU h1) (yU h2)
def qn.oE{α β:Type}{R:α->β->Prop}:∀{x:List α}{y:List β},x.length=y.length->(∀i (h1:i<x.length) (h2:i<y.length),R x[i] y[i])->qn R x y
 |[],[],_,_=>.nil
 |a::x,b::y,hl,h=>.cons (h 0 yS yS) (qn.oE (yU hl) λi h1 h2=>h (i+1) (yU h1) (yU h2))
 |[],_::_,hl,_=>yE hl
 |_::_,[],hl,_=>yE hl
def qn.perm{α β:Type}{R:α->β->Prop}{x i:List α}(j:i.Perm x):∀{y:List β},qn R x y->∃c,c.Perm y/\qn R i c:=by
 induction j with
 |nil=>intro y h;cases h;exact⟨[],.nil,.nil⟩
 |cons a _ o=>
  intro y h;cases h with
  |cons h t=>obtain⟨c,h1,h2⟩:=o t;exact⟨_::c,h1.cons _,.cons h h2⟩
 |swap a b l=>
  intro y h;cases h with
  |cons h t=>
   cases t with
   |cons n t=>exact⟨_::_::_,.swap _ _ _,.cons n (.cons h t)⟩
 |trans _ _ g d=>intro y h;obtain⟨q,h1,h2⟩:=d h;obtain⟨p,h3,h4⟩:=g h2;exact⟨p,h3.trans h1,h4⟩
structure AB (tt:TypeId->Option TI) (Pp:ga) (e:TypeId) (us:List Value) (row:List D):Prop where
 l1:us.length=(bV tt e).length
 l2:row.length=(bV tt e).length
 rd:∀(j:Nat) d ck,row[j]? =some d->(bV tt e)[j]? =some ck->∃v,us[j]? =some v/\RD tt Pp ck v d
section
variable {α:Type} [Inhabited α] {P:Program}{tt:TypeId->Option TI}{f:FuncId}{e:TypeId}
variable {w:World}{gW:Nat}{K:PV->List Ob->Prop}
def On{g:FuncId}(b:jv g lR=true:=by rfl):∀E Pp vs,fe tt E Pp vs [.cy g []]->vs=[.func (.func g) #[] #[]]:=by
 intro E Pp vs h;cases h with
 |cons v _ vs _ h1 h2=>
 cases h2;cases h1 with
 |cy _ _ cs _ hu a=>
 obtain rfl:=hu.get b;cases a;rfl
def QA:∀E Pp vs,fe tt E Pp vs []->vs=[]:=by intro E Pp vs h;cases h;rfl
def Bw(enc:α->Value)(d:Array α):flatK (λx=>[enc x]) 1 d=d.map enc:=by apply O8 yS;intro i h1 h2;have a:i<d.size:=yU h2;simp only[flatK,Array.getElem_map,Array.getElem_range,Nat.div_one,Nat.mod_one];rw[getElem!_pos d i a];rfl
def holds_one{enc:α->Value}{off:Nat}{d:Array α}(h:HoldsK (λx=>[enc x]) 1 w gW off d):Holds enc w gW off d:=by intro j a;have:=h j (by rw[size_flatK];omega);rw[Bw]at this;rw[getElem!_pos (d.map enc) j (yU a)]at this;rw[getElem!_pos d j a];simpa using this
def Ga(enc:α->Value)(w:World)(gW off:Nat)(d:Array α):putRow enc w gW off d=putRow id w gW off (flatK (λx=>[enc x]) 1 d):=by
 rw[Bw];unfold putRow
 congr 1
 funext c;unfold putCells
 congr 1
 funext k x;simp only[Df,id];split
 ·rename_i h;rw[getElem!_pos d (k-off) yO,getElem!_pos (d.map enc) (k-off) yQ];simp
 ·rfl
def BG{t n k:Nat}(h:t<n*k):t/k<n/\t % k<k/\t=t/k*k+t % k:=by
 have hk:0<k:=by
  rcases pE k with a|a
  ·subst a;simp at h
  ·exact a
 exact⟨(JY hk).2 h,O3 _ hk,by rw[jx];exact(Nat.div_add_mod t k).symm⟩
def ID{E:List RI}{Pp:ga}{vals:List Value}(enc:α->List Value)(cf:α->α->Int)(ltD:List D->List D->Bool)(ex:List PV)(ev:List Value)(hex:∀E Pp vs,fe tt E Pp vs ex->vs=ev)
 (hk:∀x,(enc x).length=(bV tt e).length)
 (hS:∀(gW off cap:Nat)(d:Array α),HoldsK enc (bV tt e).length w gW off d->gW<w.heap.size->d.size<4611686018427387904->(∀ad v,Pp ad v->ad.block≠gW)->
   Calls P f ⟨.slice (some ⟨gW,off,none⟩) d.size cap::ev⟩ w λe' w'=>e'= .returned (.tuple #[])/\∃d' n os,PermIn 0 d.size d d'/\SortedIn (ltOf cf) 0 d.size d'/\w'=sortWorldK enc (bV tt e).length w gW off n d' os)
 (hN:∀(p:Option Addr)(cap:Nat)(w:World),Calls P f ⟨.slice p 0 cap::ev⟩ w λe' w'=>e'= .returned (.tuple #[])/\w'=w)
 (hE:∀args w,(callFunc f args).run P w= .ok (.enter f args) w)
 (rows:List (List D)) (hn:rows.length<4611686018427387904)
 (hα:∀us row,row∈rows->AB tt Pp e us row->∃x:α,enc x=us)
 (da:∀x y rx ry,AB tt Pp e (enc x) rx->AB tt Pp e (enc y) ry->ltOf cf x y=ltD rx ry)
 (h:∀rows',rows'.Perm rows->(∀i j (hi:i<rows'.length) (hj:j<rows'.length),i<j->ltD rows'[j] rows'[i]=false)->K (.tup []) [.row e (.list rows') true])
 (hw:WR tt E Pp [.row e (.list rows) true] w) (hv:fe tt E Pp vals (.row e 0::ex)):
 ot P f vals w (nQ tt E Pp [.row e (.list rows) true] w K):=by
 cases hv with
 |cons v0 _ vs0 _ hv0 hv1=>
 have hvs0:=hex _ _ _ hv1;subst hvs0;have hEl:=hw.len;obtain⟨ri,Rs,UO⟩:=hw.ob 0 _ rfl rfl;refine .inl ⟨hE _ _,?_⟩;have none_case:∀p cap,v0= .slice p 0 cap->rows=[]->Calls P f ⟨v0::vs0⟩ w (nQ tt E Pp [.row e (.list rows) true] w K):=by rintro p cap rfl rfl;refine(hN p cap w).mono ?_;rintro e' w' ⟨rfl,rfl⟩;refine⟨_,E,Pp,[.row e (.list []) true],_,rfl,.refl _,λ_ _ h=>h,hw,.tup [] [] .nil,h [] (List.Perm.refl _) (λi j hi=>yE hi),Fr.refl _ _,λ_ _ h=>.inl h,?_⟩;intro i o ri b ho hl hE' hb;exact .inr ⟨i,o,ri,ho,hl,hE',hb⟩
 cases hv0 with
 |row0 _ _ hr=>rw[Rs]at hr;cases hr;simp only[OR,D.list.injEq]at UO;exact none_case _ _ rfl UO
 |row _ _ gb o len cap hr=>
  rw[Rs]at hr;cases hr;simp only[OR,D.list.injEq]at UO;obtain⟨vs,T,rows2,hheap,hrr,hlen,hcap,hfit,ef,hno,_⟩:=UO;subst hrr;obtain⟨k,hkd⟩:∃k,k=(bV tt e).length:=⟨_,rfl⟩;rcases pE len with h0|hpos
  ·subst h0;exact none_case _ _ rfl (cz hlen)
  have hgb:gb<w.heap.size:=by
   rcases cb gb w.heap.size with h'|h'
   ·exact h'
   ·rw[dJ h']at hheap;simp at hheap
  have hbound:o+len*k<=vs.length:=by have:=dE k hcap;rw[<- hkd]at hfit;omega
  have hus:∀i (hi:i<len),AB tt Pp e ((vs.drop (o+i*k)).take k) (rows[i]'yO):=by
   intro i hi;obtain⟨h1,h2⟩:=ef i rows[i] (by simp[hlen,hi]);have hin:(i+1)*k<=len*k:=dE k hi;rw[ez,qE]at hin;refine⟨by rw[cZ,mL,<-hkd];omega,h1,?_⟩;intro j dd ck hj hck;obtain⟨v,hv,iF⟩:=h2 j dd ck hj hck;have hjk:j<k:=by rw[hkd];exact(dF.1 hck).1
   refine⟨v,?_,iF⟩;rw[cQ hjk,fw];rw[<- hkd]at hv;exact hv
  have hx:∀i (hi:i<len),∃x:α,enc x=(vs.drop (o+i*k)).take k:=λi hi=>hα _ _ (bx _) (hus i hi);obtain⟨xs,hxl,hxs⟩:∃xs:List α,xs.length=len/\∀i (hi:i<xs.length),enc xs[i]=(vs.drop (o+i*k)).take k:=by refine⟨(gU len).map λi=>if hi:i<len then Classical.choose (hx i hi)else default,yS,?_⟩;intro i hi;have hi':i<len:=yU hi;simp only[jg,List.getElem_range,hi',dif_pos];exact Classical.choose_spec (hx i hi')
  have fL:xs.toArray.size=len:=by simp[hxl]
  have hR:qn (λx r=>AB tt Pp e (enc x) r) xs rows:=qn.oE yO λi h1 h2=>by rw[hxs i h1];exact hus i yO
  have flat:∀(d:Array α),d.size=len->∀t,t<len*k->∃(x:α) (hq:t/k<d.size),x=d[t/k]/\(flatK enc k d)[t]! =(enc x)[t % k]! :=by intro d hd t ht;obtain⟨h1,h2,h3⟩:=BG ht;refine⟨_,yO,rfl,?_⟩;rw[get_flatK enc k d t (by rw[hd];exact ht),getElem!_pos d (t/k) yO]
  have hH:HoldsK enc k w gb o xs.toArray:=by
   intro t ht;rw[size_flatK,fL]at ht;obtain⟨h1,h2,h3⟩:=BG ht;obtain⟨x,hq,hx1,hx2⟩:=flat xs.toArray fL t ht;refine⟨?_,?_⟩
   ·simp only[World.cell?,hheap,ou,cC,if_false,id];rw[hx2,hx1];have hlt2:t/k<xs.length:=yO;have e1:=hxs (t/k) hlt2;simp only[List.getElem_toArray];rw[e1];have hl2:((vs.drop (o+t/k*k)).take k).length=k:=by rw[<- e1,hk,hkd]
    rw[getElem!_pos _ (t % k) yO];rw[List.getElem_take,List.getElem_drop];have hlt3:o+t<vs.length:=yO;have:(⟨vs⟩:Array Value)[o+t]? =some vs[o+t]:=by simp[hlt3]
    rw[this]
    congr 2
    omega
   ·simp only[World.frozen?,hheap];simp
  rw[<- hkd]at hS;have hC:=hS gb o cap xs.toArray hH hgb (by rw[fL,<-hlen];exact hn) (λad v hpv=>hno trivial ad v hpv);rw[fL]at hC;refine hC.mono ?_;rintro e' w' ⟨rfl,d',n,os,hp,hs,rfl⟩;have hd':d'.size=len:=by rw[hp.1,fL]
  have hperm:d'.toList.Perm xs:=by have:=hp.2.2;rw[jL yO,jL yO]at this;simpa using this
  obtain⟨rows',hp2,hR2⟩:=qn.perm hperm hR;have hrl:rows'.length=len:=by rw[hp2.length_eq,hlen]
  obtain⟨W,hW⟩:∃W,W=sortWorldK enc k w gb o n d' os:=⟨_,rfl⟩;rw[<- hW]
  have hblk:∀b,b<w.heap.size->W.heap[b]? =(w.heap[b]?).map λx=>if b=gb then onCells (putCells id o (flatK enc k d')) x else x:=by
   intro b hb;rw[hW];simp only[sortWorldK,putRowK,putRow,grow,mapBlock,Sort.ahead];rw[im (by simp;exact hb),jK];by_cases hbg:gb=b
   ·subst hbg;simp
   ·rw[if_neg hbg];cases w.heap[b]? with
    |none=>rfl
    |some x=>simp[eh hbg]
  obtain⟨vs',hvs'⟩:∃vs',vs'=(putCells id o (flatK enc k d') ⟨vs⟩).toList:=⟨_,rfl⟩;have hblk1:W.heap[gb]? =some (.cells ⟨vs'⟩ e (0,0)):=by rw[hblk gb hgb,hheap];simp[onCells,hvs']
  have hvl:vs'.length=vs.length:=by rw[hvs'];simp[putCells]
  have hvget:∀t,t<len*k->vs'[o+t]? =some (flatK enc k d')[t]! :=by intro t ht;rw[hvs'];simp only[putCells,Array.toList_mapIdx];rw[List.getElem?_mapIdx];have hlt3:o+t<vs.length:=yO;simp only[bB hlt3,cu];rw[size_flatK,hd',if_pos yO];simp
  have hsize:w.heap.size<=W.heap.size:=by rw[hW];simp[sortWorldK,putRowK,putRow,grow,mapBlock,Sort.ahead]
  have hother:∀b,b<w.heap.size->b≠gb->W.heap[b]? =w.heap[b]? :=by
   intro b hb hne;rw[hblk b hb];cases w.heap[b]? with
   |none=>rfl
   |some x=>simp[hne]
  have hrow':xr tt Pp e vs' o rows':=by
   intro i row hi;have hil:i<rows'.length:=(dF.1 hi).1;have hrow_eq:row=rows'[i]:=((dF.1 hi).2).symm;have hrel:=hR2.get i yQ hil;rw[<- hrow_eq]at hrel;refine⟨hrel.l2,?_⟩;intro j dd ck hj hck;obtain⟨v,hv,iF⟩:=hrel.rd j dd ck hj hck;refine⟨v,?_,iF⟩;have hjk:j<k:=by rw[hkd];exact(dF.1 hck).1
   have hin:(i+1)*k<=len*k:=dE k yO;rw[ez,qE]at hin;rw[<- hkd,eR,hvget (i*k+j) yO];obtain⟨x,hq,hx1,hx2⟩:=flat d' hd' (i*k+j) yO;have hdiv:(i*k+j)/k=i:=by rw[jx,tg yO,r7 hjk,iS]
   have hmod:(i*k+j) % k=j:=by rw[jx,Dd,AD hjk]
   rw[hx2,hmod];have hxi:x=d'.toList[i]'yQ:=by rw[hx1];simp[hdiv]
   rw[hxi];have hjl:j<(enc (d'.toList[i]'yQ)).length:=by rw[hk,<-hkd];exact hjk
   rw[getElem!_pos _ j hjl];rw[bB hjl]at hv;exact hv
  have hsorted:∀i j (hi:i<rows'.length) (hj:j<rows'.length),i<j->ltD rows'[j] rows'[i]=false:=by intro i j hi hj hij;have:=hs i j (bD _) hij yO;rw[getElem!_pos d' i yO,getElem!_pos d' j yO]at this;rw[<- da d'[j] d'[i] _ _ (by have:=hR2.get j yQ hj;simpa using this) (by have:=hR2.get i yQ hi;simpa using this)];exact this
  have hno:=hno trivial;refine⟨_,E,Pp,[.row e (.list rows') true],_,rfl,.refl _,λ_ _ h=>h,?_,.tup [] [] .nil,h rows' hp2 hsorted,?_,λ_ _ h=>.inl h,?_⟩
  ·refine⟨by rw[hEl];rfl,?_,?_,?_,hw.gl⟩
   ·intro ad v hpv;have hne:=hno ad v hpv;have hc:=hw.pi ad v hpv;rw[iu (hother _ (yT hc) hne)];exact hc
   ·intro i ob ho hl;cases i with
    |succ i=>simp at ho
    |zero=>simp at ho;subst ho;refine⟨_,Rs,?_⟩;simp only[OR];refine⟨vs',T,rows',hblk1,rfl,hrl,hcap,by rw[hvl];exact hfit,hrow',λ_=>hno,yS⟩
   ·intro i j oi oj ri rj b hi hj _ _ _ _ _ _;cases i<;>cases j<;>simp at hi hj ⊢
  ·refine⟨?_,?_,?_,hsize,?_,?_⟩
   ·rw[hW];rfl
   ·rw[hW];rfl
   ·rw[hW];rfl
   ·rw[hW];exact Nat.le_add_right _ _
   ·intro b hb hown;refine hother b hb λhbg=>hown ?_;subst hbg;exact⟨0,_,_,rfl,rfl,Rs,rfl⟩
  ·intro i ob ri b ho hl hE' hb;refine .inr ?_;cases i with
   |succ i=>simp at ho
   |zero=>rw[Rs]at hE';cases hE';exact⟨0,_,_,rfl,rfl,Rs,hb⟩
def Q0(tt:TypeId->Option TI)(gW:Nat)(w:World):Prop:=(∀b,wC tt=some b->b≠gW/\∃m:Int,w.cell? ⟨b,0,none⟩=some (.int .i64 m))/\
 ∀g,g∈wB tt->g.1≠gW/\pc w ⟨g.1,0,some 1⟩=some (.int .i64 g.2.2.length)/\∀i z,g.2.2[i]? =some z->w.cell? ⟨g.1,i,none⟩=some (.int g.2.1 z)
def Q0.of{tt:TypeId->Option TI}{Pp:ga}(h:ML tt Pp)(a:∀ad v,Pp ad v->pc w ad=some v)(h4:∀ad v,Pp ad v->ad.block≠gW):Q0 tt gW w:=⟨λb hb=>by obtain⟨m,d⟩:=h.1 b hb;exact⟨h4 _ _ d,m,by rw[<- pY];exact a _ _ d⟩,λg c=>⟨h4 _ _ (h.2 g c).1,a _ _ (h.2 g c).1,λi z j=>by rw[<- pY];exact a _ _ ((h.2 g c).2 i z j)⟩⟩
def HD(enc:α->List Value)(cf:α->α->Int)(b:List D->List D->Bool)(g:List PV)(ev:List Value)(q:∀E Pp vs,fe tt E Pp vs g->vs=ev)
 (hk:∀x,(enc x).length=(bV tt e).length)
 (v:∀(gW off cap:Nat)(d:Array α)(w:World),HoldsK enc (bV tt e).length w gW off d->gW<w.heap.size->d.size<4611686018427387904->(Q0 tt gW w)->
   Calls P f ⟨.slice (some ⟨gW,off,none⟩) d.size cap::ev⟩ w λo w'=>o= .returned (.tuple #[])/\∃d' n os,PermIn 0 d.size d d'/\SortedIn (ltOf cf) 0 d.size d'/\w'=sortWorldK enc (bV tt e).length w gW off n d' os)
 (z:∀(p:Option Addr)(cap:Nat)(w:World),Calls P f ⟨.slice p 0 cap::ev⟩ w λo w'=>o= .returned (.tuple #[])/\w'=w)
 (t:∀args w,(callFunc f args).run P w= .ok (.enter f args) w)
 (rows:List (List D)) (A:rows.length<4611686018427387904)
 (l:∀Pp us row,row∈rows->AB tt Pp e us row->∃x:α,enc x=us)
 (da:∀Pp x y s r,AB tt Pp e (enc x) s->AB tt Pp e (enc y) r->ltOf cf x y=b s r)
 (h:∀a,a.Perm rows->(∀i j (C:i<a.length) (B:j<a.length),i<j->b a[j] a[i]=false)->K (.tup []) [.row e (.list a) true]):
 FC P tt f [.row e (.list rows) true] (.row e 0::g) K:=λE Pp w vals c u=>
 ID enc cf b g ev q hk (λgW off cap d h1 h2 h3 h4=>v gW off cap d w h1 h2 h3 (Q0.of c.gl c.pi h4)) z t rows A (l Pp) (da Pp) h c u
end
variable {w:World}{gW k off m:Nat}{os:Array Obj}
def GD{own:Nat->Prop}{w':World}(h:Fr own w w')(d:∀b,¬own b):∃q c,w'=Go.Sort.grow (w.drewN q) c:=by
 refine⟨w'.drawn-w.drawn,w'.heap.extract w.heap.size w'.heap.size,?_⟩;have hd:=h.drawn
 have g:w'.heap=w.heap++w'.heap.extract w.heap.size w'.heap.size:=by
  apply Array.ext_getElem?;intro i;rcases cb i w.heap.size with a|a
  ·rw[im a];exact h.block i a (d i)
  ·rw[Array.getElem?_append_right a];simp only[Array.getElem?_extract];have:=h.size;split
   ·congr 1;omega
   ·rw[dJ yO]
 cases w' with
 |mk heap tape drawn os output=>
  simp only[Go.Sort.grow,World.drewN]
  congr 1
  ·exact h.tape
  ·simp at hd ⊢;omega
  ·exact h.os
  ·exact h.output
def Cr{α:Type}[Inhabited α]{enc:α->List Value}{b:Array α}{ad:Addr}{v:Value}(h:pc w ad=some v)(a:ad.block≠gW):pc (sortWorldK enc k w gW off m b os) ad=some v:=by rw[<- h];have hb:=yT h;refine iu ?_;simp only[sortWorldK,putRowK,putRow,grow,mapBlock,Sort.ahead];rw[im (by simp;exact hb),jK,if_neg (eh a)]
def Pv(tt:TypeId->Option TI)(w:World):ga:=λad v=>(wC tt=some ad.block\/∃g,g∈wB tt/\g.1=ad.block)/\pc w ad=some v
def LI{tt:TypeId->Option TI}{α:Type}[Inhabited α]{enc:α->List Value}{b:Array α}(a:Q0 tt gW w):
 ∀ad v,Pv tt w ad v->pc (sortWorldK enc k w gW off m b os) ad=some v:=λad v ⟨h2,h3⟩=>Cr h3 (by
  rcases h2 with h2|⟨g,h2,e⟩
  ·exact(a.1 _ h2).1
  ·rw[<- e];exact(a.2 g h2).1)
def LJ{tt:TypeId->Option TI}(a:Q0 tt gW w):ML tt (Pv tt w):=⟨λb hb=>(a.1 b hb).2.imp λ_ c=>⟨.inl hb,gF c⟩,λg h=>⟨⟨.inr ⟨g,h,rfl⟩,(a.2 g h).2.1⟩,λi z d=>⟨.inr ⟨g,h,rfl⟩,gF ((a.2 g h).2.2 i z d)⟩⟩⟩
def Jx{P:Program}{tt:TypeId->Option TI}{f:FuncId}{fn:Func}{c:Code}{args:List PV}{r:Int}(hf:Has P f fn c){Pp:ga}(g:FC P tt f [] args λv _=>v= .int .i64 r){vals:List Value}(j:∀ad v,Pp ad v->pc w ad=some v)(n:ML tt Pp)(l:fe tt [] Pp vals args):
 Calls P f ⟨vals⟩ w λe w'=>e= .returned (.int .i64 r)/\∃q i,w'=Go.Sort.grow (w.drewN q) i:=by
 rcases g [] Pp w vals (WR.nil j n) l with⟨_,h⟩|⟨v,w',h,_⟩
 ·refine h.mono ?_;rintro e w' ⟨v,E',Pp',objs',pv,rfl,_,_,_,d,rfl,a,_⟩;cases d;exact⟨rfl,GD a (λb h=>oe h)⟩
 ·rw[pr hf.f hf.b hf.name]at h;cases h
end
end Go.VC
namespace Go.VC
def D5{α β:Type}{f:α->β}{l:List α}{r:List β}(h:r.Perm (l.map f)):∃S:List α,S.Perm l/\r=S.map f:=by
 have h0:qn (λ(b:β) (a:α)=>b=f a) (l.map f) l:=qn.oE yS λi h1 J=>yS;obtain⟨S,h1,J⟩:=qn.perm h h0;refine⟨S,h1,?_⟩;clear h h0 h1;induction J with
 |nil=>rfl
 |cons h t c=>rw[h,c];rfl
end Go.VC
namespace Go.Proofs
open Go.Shelf Go.RowKit Go.Lib Go.Sort
def Bz(x:List UInt8):List Value:=[encStr x]
def Uu(x y:List UInt8):Int:=if x<y then -1 else 1
def Pq(x y:List UInt8):ltOf Uu x y=decide (x<y):=by unfold ltOf Uu;by_cases h:x<y<;>simp[h]
def Qf(gW off cap:Nat)(d:Array (List UInt8))(w:World)(m:HoldsK Bz 1 w gW off d)(f:gW<w.heap.size)(fL:d.size<4611686018427387904):
 Calls Tryz.prog 133 #[.slice (some ⟨gW,off,none⟩) d.size cap] w λe w'=>e= .returned (.tuple #[])/\∃d' n os,PermIn 0 d.size d d'/\SortedIn (ltOf Uu) 0 d.size d'/\w'=sortWorldK Bz 1 w gW off n d' os:=by
 have h:=Tryz.slices_Sort_string gW off cap d.toList w (by simpa using Go.VC.holds_one m) f (by simpa using fL);rw[gZ]at h;refine h.mono ?_;rintro e w' ⟨rfl,n,os,rfl⟩;have g:=List.mergeSort_perm d.toList λx y=>decide (x<=y);have hs:=List.pairwise_mergeSort (le:=λx y:List UInt8=>decide (x<=y)) (by intro a b c;simp;exact List.le_trans) (by intro a b;simp;exact List.le_total a b) d.toList;obtain⟨S,l⟩:∃S,S=d.toList.mergeSort λx y=>decide (x<=y):=⟨_,rfl⟩;rw[<- l]at g hs ⊢;have hl:S.length=d.size:=by rw[g.length_eq];simp
 refine⟨rfl,S.toArray,n,os,⟨by simp[hl],?_,?_⟩,?_,?_⟩
 ·intro i o;have o:d.size<=i:=by omega
  rw[getElem!_neg _ i (by simp;omega),getElem!_neg d i (by omega)]
 ·rw[jL (by simp;omega),jL (by omega)];simpa using g
 ·intro i j _ k p;rw[getElem!_pos _ i (by simp;omega),getElem!_pos _ j (by simp;omega),Pq];have:=iD.1 hs i j (by omega) (by omega) k;simp at this ⊢;exact this
 ·unfold sortWorldK putRowK;rw[Go.VC.Ga];rfl
def DO(p:Option Addr)(cap:Nat)(w:World):Calls Tryz.prog 133 #[.slice p 0 cap] w λe w'=>e= .returned (.tuple #[])/\w'=w:=Tryz.slices_Sort_string_none p cap w
end Go.Proofs
namespace Go.VC.cK
open Go Go.VC Go.Proofs Go.Sort
def QO:bV tt 9=[.str]:=by kernel_rfl
def F0{Pp:ga}{v:Value}{d:D}(h:RD tt Pp .str v d):∃b:ByteArray,v= .string b/\d= .str b.data.toList:=by cases h;exact⟨_,rfl,rfl⟩
def Se(x y:List D):Bool:=slt (Std.bL (x.getD 0 .nil)) (Std.bL (y.getD 0 .nil))
def T8{l:List S}{d:D}{K:PV->List Ob->Prop}(hd:d=bH encS l)(B:l.length<4294967296)
 (h:∀(m:List S) r,m.Perm l->m.Pairwise (λa b=>slt b a=false)->r=bH encS m->K (.tup []) [.row 9 r true]):FT 133 [.row 9 d true] [.row 9 0] K:=by
 subst hd
 have c:∀{Pp:ga}{us:List Value}{row:List D},AB tt Pp 9 us row->∃b:ByteArray,us=[.string b]/\row=[.str b.data.toList]:=by
  intro Pp us row h;obtain⟨h1,J,h3⟩:=h;rw[QO]at h1 J h3
  match us,row,h1,J with
  |[u],[r0],_,_=>obtain⟨v,n,p⟩:=h3 0 r0 _ rfl rfl;simp at n;subst n;obtain⟨b,rfl,rfl⟩:=F0 p;exact⟨b,rfl,rfl⟩
 have sS:∀{x:S}{b:ByteArray},Bz x=[.string b]->x=b.data.toList:=by intro x b h;simp only[Bz,encStr,kr,Value.string.injEq,and_true]at h;rw[<- h]
 refine HD (e:=9) Bz Uu Se [] [] QA (λx=>by rw[QO];rfl) ?_ ?_ (enters_of Tryz.func133 (by kernel_rfl) rfl) (l.map encS) yQ ?_ ?_ ?_
 ·rw[QO];exactλgW off cap d w h1 J h3 _=>Qf gW off cap d w h1 J h3
 ·exact DO
 ·intro Pp us row hr f;obtain⟨b,rfl,_⟩:=c f;exact⟨b.data.toList,by simp[Bz,encStr]⟩
 ·intro Pp x y z A h1 J;obtain⟨a,e1,rfl⟩:=c h1;obtain⟨t,e2,rfl⟩:=c J;rw[Pq,sS e1,sS e2,<-vU];rfl
 ·intro k o hs;obtain⟨m,h1,rfl⟩:=D5 o;refine h m _ h1 ?_ rfl;rw[iD];intro i j s q g;have:=hs i j (yU s) (yU q) g;simpa[Se,encS,oq]using this
end Go.VC.cK
namespace Go.VC
section
variable {m:List (S×Bool)}{k:S}{l:List S}
def pC(m:List (S×Bool))(k:S):List (S×Bool):=match m with
 |[]=>[(k,true)]
 |x::r=>if k=x.1 then(k,true)::r else x::pC r k
def rZ:Std.p6 (bH dY m) (.str k) [.bool true]=bH dY (pC m k):=by
 simp only[Std,ec,bH,cp]
 congr 1
 induction m with
 |nil=>rfl
 |cons x m a=>
  have hk:fa (.str k) (dY x)=(k==x.1):=rfl;simp only[bO,jr,pC];rw[hk];by_cases h:k=x.1
  ·rw[if_pos (by simp[h]),if_pos h];rfl
  ·rw[if_neg (by simp[h]),if_neg h,bO,<-a]
def rW(m:List (S×Bool))(l:List S):List (S×Bool):=l.foldl pC m
def G4:rW m (l++[k])=pC (rW m l) k:=by simp[rW]
def wJ{s:S}:s∈(pC m k).map (·.1)↔s=k\/s∈m.map (·.1):=by
 induction m with
 |nil=>simp[pC]
 |cons x m a=>
  simp only[pC];split
  ·rename_i h;simp only[bO,bP,<-h];constructor
   ·rintro(h1|h1);exact .inl h1;exact .inr (.inr h1)
   ·rintro(h1|h1|h1);exact .inl h1;exact .inl h1;exact .inr h1
  ·simp only[bO,bP,a];constructor
   ·rintro(h1|h1|h1);exact .inr (.inl h1);exact .inl h1;exact .inr (.inr h1)
   ·rintro(h1|h1|h1);exact .inr (.inl h1);exact .inl h1;exact .inr (.inr h1)
def zY(h:(m.map (·.1)).Nodup):((pC m k).map (·.1)).Nodup:=by
 induction m with
 |nil=>simp[pC]
 |cons x m a=>
  rw[bO,cn]at h;simp only[pC];split
  ·rename_i hk;rw[bO,cn];subst hk;exact h
  ·rename_i hk;rw[bO,cn,wJ];exact⟨λh1=>by rcases h1 with h1|h1;exact hk h1.symm;exact h.1 h1,a h.2⟩
def G5:∀{m:List (S×Bool)}{s:S},s∈(rW m l).map (·.1)↔s∈l\/s∈m.map (·.1):=by
 induction l with
 |nil=>intro m s;simp[rW]
 |cons x l a=>
  intro m s;show s∈(rW (pC m x) l).map (·.1)↔_;rw[a,wJ,bP];constructor
  ·rintro(h|h|h);exact .inl (.inr h);exact .inl (.inl h);exact .inr h
  ·rintro((h|h)|h);exact .inr (.inl h);exact .inl h;exact .inr (.inr h)
def Fp:∀{m:List (S×Bool)},(m.map (·.1)).Nodup->((rW m l).map (·.1)).Nodup:=by
 induction l with
 |nil=>intro m h;exact h
 |cons x l a=>intro m h;exact a (zY h)
def mj(l:List S):Prop:=l.Pairwise λa b=>slt a b=true
def OS(h:l.Pairwise λa b=>slt b a=false)(c:l.Nodup):mj l:=by
 induction l with
 |nil=>exact Dm
 |cons x l f=>
  rw[cJ]at h;rw[cn]at c;refine cJ.2 ⟨λy d=>?_,f h.2 c.2⟩;cases hb:slt x y with
  |true=>rfl
  |false=>exact absurd (mM hb (h.1 y d)) λe=>c.1 (e▸d)
def Fu:∀{l m:List S},mj l->mj m->(∀s,s∈l↔s∈m)->l=m
 |[],[],_,_,_=>rfl
 |[],y::m,_,_,h=>by have:=(h y).2 yS;simp at this
 |x::l,[],_,_,h=>by have:=(h x).1 yS;simp at this
 |x::l,y::m,hl,hm,h=>by
  obtain⟨h1,J⟩:=cJ.1 hl;obtain⟨h3,h4⟩:=cJ.1 hm
  have a:x=y:=by
   rcases bP.1 ((h x).1 yS)with e|e
   ·exact e
   ·rcases bP.1 ((h y).2 yS)with e2|e2
    ·exact e2.symm
    ·have a1:=h3 x e;have a2:=h1 y e2;rw[vV a1]at a2;cases a2
  subst a
  congr 1
  refine Fu J h4 λs=>⟨λhs=>?_,λhs=>?_⟩
  ·rcases bP.1 ((h s).1 (by simp[hs]))with e|e
   ·subst e;have:=h1 s hs;rw[fi]at this;cases this
   ·exact e
  ·rcases bP.1 ((h s).2 (by simp[hs]))with e|e
   ·subst e;have:=h3 s hs;rw[fi]at this;cases this
   ·exact e
end
end Go.VC
namespace Go.VC.cK
open Go Go.VC Go.Proofs
def Zr{m:List (S×Bool)}{d:D}{K:PV->List Ob->Prop}(hd:d=bH dY m)(f:m.length<4294967296)(j:(m.map (·.1)).Nodup)
 (h:∀(l:List S)(r:D),r=bH encS l->mj l->(∀s,s∈l↔s∈m.map (·.1))->K (.row 9 2) [.box [.mp 1],.map .str 4 d,.row 9 r true]):
 FT 90 [.box [.mp 1],.map .str 4 d] [.cy 134 [.box 0 0]] K:=by
 refine el Yv Tryz.func90 λA C L X=>?_;cbv;refine X.call (Xk hd f λl r hr e=>?_);cbv;refine X.call (T8 hr (by rw[e.length_eq];simpa using f) λi g b hs c=>?_);cbv;have a:=b.trans e;exact h i g c (OS hs (a.nodup_iff.2 j)) λs=>a.mem_iff
def K7:(∀{α:Type}{f:α->List D}{l:List α}{d:D}{K:PV->List Ob->Prop}(hd:d=bH f l)(hl:l.length<4294967296)(h:∀ r,r=bH f l->K (.row 29 0) [.row 29 r true]),FT 59 [] [.lst 29 d] K)/\
 (∀{α:Type}{f:α->List D}{l:List α}{d:D}{K:PV->List Ob->Prop}(hd:d=bH f l)(hl:l.length<4294967296)(h:∀ r,r=bH f l->K (.row 42 0) [.row 42 r true]),FT 60 [] [.lst 42 d] K)/\
 (∀{α:Type}{f:α->List D}{l:List α}{d:D}{K:PV->List Ob->Prop}(hd:d=bH f l)(hl:l.length<4294967296)(h:∀ r,r=bH f l->K (.row 56 0) [.row 56 r true]),FT 209 [] [.lst 56 d] K)/\
 (∀{α:Type}{f:α->List D}{l:List α}{d:D}{K:PV->List Ob->Prop}(hd:d=bH f l)(hl:l.length<4294967296)(h:∀ r,r=bH f l->K (.row 45 0) [.row 45 r true]),FT 159 [] [.lst 45 d] K)/\
 (∀{α:Type}{f:α->List D}{l:List α}{d:D}{K:PV->List Ob->Prop}(hd:d=bH f l)(hl:l.length<4294967296)(h:∀ r,r=bH f l->K (.row 99 0) [.row 99 r true]),FT 160 [] [.lst 99 d] K)/\
 (∀{α:Type}{f:α->List D}{l:List α}{d:D}{K:PV->List Ob->Prop}(hd:d=bH f l)(hl:l.length<4294967296)(h:∀ r,r=bH f l->K (.row 141 0) [.row 141 r true]),FT 162 [] [.lst 141 d] K)/\
 (∀{α:Type}{f:α->List D}{l:List α}{d:D}{K:PV->List Ob->Prop}(hd:d=bH f l)(hl:l.length<4294967296)(h:∀ r,r=bH f l->K (.row 152 0) [.row 152 r true]),FT 163 [] [.lst 152 d] K):=by
 refine⟨?_,?_,?_,?_,?_,?_,?_⟩;have i:=trivial
 rotate_left
 have o:=trivial
 rotate_left
 have g:=trivial
 rotate_left
 have k:=trivial
 rotate_left
 have m:=trivial
 rotate_left
 have j:=trivial
 rotate_left
 have p:=trivial
 rotate_left
 all_goals (
  intro α f l d K hd hl h
  first
   |(have c:=i
     refine FC.ln (G:=YK) eX mixed ⟨Tryz.func59,by rfl,rfl⟩ rfl rfl rfl ?_)
   |(have c:=o
     refine FC.ln (G:=YJ) eX mixed ⟨Tryz.func60,by rfl,rfl⟩ rfl rfl rfl ?_)
   |(have c:=g
     refine FC.ln (G:=Vq) eX mixed ⟨Tryz.func209,by rfl,rfl⟩ rfl rfl rfl ?_)
   |(have c:=k
     refine FC.ln (G:=VF) eX mixed ⟨Tryz.func159,by rfl,rfl⟩ rfl rfl rfl ?_)
   |(have c:=m
     refine FC.ln (G:=VD) eX mixed ⟨Tryz.func160,by rfl,rfl⟩ rfl rfl rfl ?_)
   |(have c:=j
     refine FC.ln (G:=VA) eX mixed ⟨Tryz.func162,by rfl,rfl⟩ rfl rfl rfl ?_)
   |(refine FC.ln (G:=Vz) eX mixed ⟨Tryz.func163,by rfl,rfl⟩ rfl rfl rfl ?_)
  intro A C L X;obtain⟨n,e,a⟩:=lenOf hd;cbv;intro b hb;refine p3 (λJ=>?_) (λJ=>?_) (λJ=>?_)
  ·refine h _ ?_;obtain rfl:=X.a;have hb:=hb J;rw[zZ,a,e]at hb;have:l=[]:=cz (by simp only[bz]at hb;omega);rw[this];rfl
  ·obtain rfl:=X.a;simp only[SD,a];omega
  ·refine h _ ?_;obtain rfl:=X.a;rw[hd];exact cx (l:=[]))
end Go.VC.cK
namespace Go.VC
section
def jO(l:List S)(s:S):Int:=mg (λx=>x==s) l
mutual
def Ty.sub(ns:List S)(ts:List Ty):Ty->Ty
 | .mk k m n ar fl=>if k=9/\0<=jO ns n/\jO ns n<ts.length then ts.getD (jO ns n).toNat (.mk k m n ar fl)else .mk k m n (Ty.Km ns ts ar) (Ty.Kn ns ts fl)
def Fe.sub(ns:List S)(ts:List Ty):Fe->Fe| .mk s t b=>.mk s (Ty.sub ns ts t) b
def Ty.Km(ns:List S)(ts:List Ty):List Ty->List Ty|[]=>[]|t::l=>Ty.sub ns ts t::Ty.Km ns ts l
def Ty.Kn(ns:List S)(ts:List Ty):List Fe->List Fe|[]=>[]|t::l=>Fe.sub ns ts t::Ty.Kn ns ts l
end
variable {ns:List S}{ts:List Ty}{t:Ty}
def Hv:∀l:List Ty,Ty.Km ns ts l=l.map (Ty.sub ns ts)
 |[]=>by simp[Ty.Km]
 |t::l=>by simp[Ty.Km,Hv l]
def Hw:∀l:List Fe,Ty.Kn ns ts l=l.map (Fe.sub ns ts)
 |[]=>by simp[Ty.Kn]
 |t::l=>by simp[Ty.Kn,Hw l]
def Ch(hk:t.k=9){i:Nat}(a:jO ns t.n=(i:Int))(h:i<ts.length):t.sub ns ts=ts[i]:=by
 cases t with
 |mk k m n ar fl=>simp only[Ty.k,Ty.n]at hk a;rw[Ty.sub,if_pos ⟨hk,yO,yO⟩,a];simp[h]
def kY(h:¬(t.k=9/\0<=jO ns t.n/\jO ns t.n<ts.length)):t.sub ns ts= .mk t.k t.m t.n (t.ar.map (Ty.sub ns ts)) (t.fl.map (Fe.sub ns ts)):=by
 cases t with
 |mk k m n ar fl=>rw[Ty.sub,if_neg (by exact h),Hv,Hw];rfl
def Fe.sub_eq{f:Fe}:Fe.sub ns ts f= .mk f.s (f.t.sub ns ts) f.b:=by cases f;rw[Fe.sub];rfl
def Np:∀t:Ty,t.sub [] []=t:=by
 refine Ty.parts λt h1 J=>?_;rw[kY yS];refine Ty.ext rfl rfl rfl ?_ ?_
 ·show t.ar.map _=t.ar;rw[hJ h1,List.map_id']
 ·show t.fl.map _=t.fl;rw[hJ (g:=λf=>f) λf hf=>?_,List.map_id'];rw[Fe.sub_eq,J f hf];cases f;rfl
end
end Go.VC
namespace Go.VC.cK
open Go Go.VC Go.Proofs
def T3{l:List S}{d:D}{s c:S}{K:PV->List Ob->Prop}(hd:d=bH encS l)(hl:l.length<4294967296)(hs:c=s)
 (h:∀r:Int,r=jO l s->K (.int .i64 r) []):
 FT 147 [] [.lst 9 d,.str c] K:=by
 refine en (cf 19) Tryz.func147 λA C L X=>?_;obtain⟨b,g,a⟩:=lenOf hd;cbv;refine lu X (λi=>i<=b/\∀x∈l.take i,(x==s)=false) (λi=>b-i) 0 ⟨bD _,yS⟩ (λ(i:Nat)=>[(8,.int .i64 i)]) ?_;rintro i ⟨n,ha⟩;cbv;constructor<;>intro h1
 ·have h5:i<l.length:=lY X.a a h1;have m:=jR X.a hd h5;have k:=iX X.a hd h5;have j:=jX X.a h5;cbv;repeat' (first|apply bw|exact zf|(intro J;cbv)|apply bG)
  any_goals exact k
  any_goals exact j
  ·refine h i ?_;have:l[i]=s:=by rw[<- hs,<-m];obtain rfl:=X.a;simp only[SD]at J;exact J.symm
   exact(kQ h5 ha (by simp[this])).symm
  ·have:¬l[i]=s:=by rw[<- hs,<-m];obtain rfl:=X.a;simp only[SD,dq]at J;exactλe=>J e.symm
   refine⟨i+1,⟨by omega,?_⟩,by omega,?_⟩
   ·rw[bX h5];intro x f;rcases bJ.1 f with f|f
    ·exact ha x f
    ·simp at f;subst f;simpa using this
   exact yc
 ·have h5:i=b:=gY X.a a h1;subst h5;cbv;refine h (-1) ?_;rw[g,bF]at ha;exact(kR ha).symm
end Go.VC.cK
namespace Go.VC
open Go
def thin:Nat->PV->PV
 |0,p=>p
 |n+1,p=>match p with
  | .pe e d=>.lst e d
  | .agg cs=>.agg (c9 (thin n) cs)
  | .bl b=>.bool b
  |p=>p
def RR(l:List PV):List PV:=c9 (thin 3) l
theorem fe.c9 {tt E Pp}{f:PV->PV} (hf:∀v p,VR tt E Pp v p->VR tt E Pp v (f p)):∀{vs ps},fe tt E Pp vs ps->fe tt E Pp vs (c9 f ps)
 |_,_,.nil=>.nil
 |_,_,.cons v p vs ps h t=>.cons _ _ _ _ (hf _ _ h) (fe.c9 hf t)
theorem VR.thin {tt E Pp}:∀(n:Nat) {v p},VR tt E Pp v p->VR tt E Pp v (thin n p)
 |0,_,_,h=>h
 |n+1,v,p,h=>by
  match p,h with
  | .pe e d,h=>cases h with|pe e a n d h=>exact .lst _ _ _ h
  | .agg cs,h=>cases h with|agg vs cs h=>exact .agg _ _ (fe.c9 (λ_ _=>VR.thin n) h)
  | .bl b,h=>cases h;exact .bool b
  | .undef,h| .int _ _,h| .bool _,h| .str _,h| .lst _ _,h| .tup _,h| .box _ _,h| .row _ _,h| .gp _ _ _ _,h| .kF _ _ _ _,h| .cR _ _,h| .dptr _ _,h| .tO _ _ _,h| .cy _ _,h| .nilp,h| .nilm,h| .nilf,h| .nF,h| .mp _,h| .dmp _ _,h| .it _,h| .lS _,h=>exact h
def FC.thin{P:Program}{tt:TypeId->Option TI}{f:FuncId}{objs:List Ob}{args a:List PV}{K:PV->List Ob->Prop}(ha:RR args=a)(h:FC P tt f objs a K):FC P tt f objs args K:=by subst ha;exactλE Pp w vals b c=>h E Pp w vals b (fe.c9 (λ_ _=>VR.thin 3) c)
end Go.VC
namespace Go.VC
section
variable {α:Type}{j:Nat}
def Po(f:α->α){l:List α}(h:j<l.length)(a:j<((l.take j).map f++l.drop j).length):((l.take j).map f++l.drop j)[j]=l[j]:=by rw[List.getElem_append_right yQ];simp[De (JO h)]
def K1(f:α->α){l:List α}(h:j<l.length):((l.take j).map f++l.drop j).set j (f l[j])=(l.take (j+1)).map f++l.drop (j+1):=by rw[bX h,List.set_append,if_neg yQ,bM h];have:j-((l.take j).map f).length=0:=yQ;rw[this];simp only[List.set_cons_zero,cg,bO,iL,bN,cO,ep]
end
end Go.VC
namespace Go.VC.cK
open Go Go.VC Go.Proofs
section
variable {b:Int}{c1 c2:S}{c d g e:D}{K:PV->List Ob->Prop}{ns:List S}{ts:List Ty}
def PI(hn:g=bH encS ns)(hts:e=bH cE ts)(hl1:ns.length<4294967296)(hl2:ts.length<4294967296)
 (hc:∀j (h:j<ts.length) b c1 c2 c d (K:PV->List Ob->Prop),cD ts[j] b c1 c2 c d->(∀e0 e1 e2 e3 e4,cD ts[j] e0 e1 e2 e3 e4->K (df e0 e1 e2 e3 e4) [])->FT 100 [] [df b c1 c2 c d,.lst 9 (.list []),.lst 29 (.list [])] K):
 ∀(t:Ty),Ty.le 4294967295 t->∀{b:Int}{c1 c2:S}{c d:D}{K:PV->List Ob->Prop},cD t b c1 c2 c d->(∀e0 e1 e2 e3 e4,cD (t.sub ns ts) e0 e1 e2 e3 e4->K (df e0 e1 e2 e3 e4) [])->FT 100 [] [df b c1 c2 c d,.lst 9 g,.lst 29 e] K:=by
 refine Ty.parts λt iha ihf=>?_;intro hle b c1 c2 c d K ht h;obtain⟨t0,t1,t2,hc3,hc4⟩:=ht;have hla:=pO hle;have hlf:=um hle;refine en VY Tryz.func100 λA C L X=>?_;obtain⟨n_dn,hn_dn,hlen_dn⟩:=lenOf hn;obtain⟨n_dt,hn_dt,hlen_dt⟩:=lenOf hts;obtain⟨n_c3,hn_c3,hlen_c3⟩:=lenOf hc3;obtain⟨n_c4,hn_c4,hlen_c4⟩:=lenOf hc4;cbv;refine X.call (T3 hn hl1 t2 λi hi=>?_);cbv;repeat' (first|apply bw|exact zf|(intro h2;cbv)|apply bG)
 rotate_left 2
 iterate 3
  ·have hno:¬(t.k=9/\0<=jO ns t.n/\jO ns t.n<ts.length):=by rw[<- t0,<-hi];obtain rfl:=X.a;simp only[hlen_dt,SD]at*;omega
   refine X.cut (λ(z:D×D)=>⟨[(2,.lst 29 e),(1,.lst 9 g),(3,.box 0 0),(6,.box 1 0)],[.box [.int .i64 b,.str c1,.str c2,.row 29 2,.row 42 3],.box [.undef,.undef,.undef,.undef,.undef],.row 29 z.1 true,.row 42 z.2 true]⟩) (λz=>z.1=bH cE t.ar/\z.2=bH fq t.fl) ?_ ?_
   ·cbv;repeat' (first|apply bw|exact zf|(intro h2;cbv)|apply bG|(refine X.call (K7.1 hc3 yO λr1 hr1=>?_);cbv)|(refine X.call (K7.2.1 hc4 yO λr2 hr2=>?_);cbv))
    all_goals (refine⟨(r1,r2),⟨hr1,hr2⟩,[0,1,2,3],rfl,?_⟩;exact yc)
   ·rintro⟨z1,z2⟩ ⟨hz1,hz2⟩;simp only at hz1 hz2;obtain⟨n_z1,hn_z1,hlen_z1⟩:=lenOf hz1;obtain⟨n_z2,hn_z2,hlen_z2⟩:=lenOf hz2;cbv;refine lP X (λx=>x.1<=n_z1/\x.2=bH cE ((t.ar.take x.1).map (Ty.sub ns ts)++t.ar.drop x.1)) (λx=>n_z1-x.1) (0,z1) ⟨bD _,yU hz1⟩ [0,1,2,3] (λ(x:Nat×D)=>⟨[(45,.int .i64 x.1),(44,.int .i64 (A.len z1)),(43,.row 29 2),(2,.lst 29 e),(1,.lst 9 g),(3,.box 0 0),(6,.box 1 0)],[.box [.int .i64 b,.str c1,.str c2,.row 29 2,.row 42 3],.box [.undef,.undef,.undef,.undef,.undef],.row 29 x.2 true,.row 42 z2 true]⟩) ?_;rintro⟨j,r⟩ ⟨hj,hr⟩;simp only at hj hr;cbv;constructor<;>intro h1
    ·have h5:j<t.ar.length:=lY X.a hlen_z1 h1;have h6:j<((t.ar.take j).map (Ty.sub ns ts)++t.ar.drop j).length:=yQ;have hq:=Po (Ty.sub ns ts) h5 h6;have k1:=gI X.a hr h6;rw[hq]at k1;have hid:=iX X.a hr h6;have hin:=jX X.a h5;cbv;repeat' (first|apply bw|exact zf|(intro h2;cbv)|apply bG)
     any_goals exact hid
     refine X.call (iha _ (bx h5) (pP hle _ (bx h5)) k1 λe0 e1 e2 e3 e4 he=>?_);obtain⟨he0,he1,he2,he3,he4⟩:=he
     have q1:A.o4 r (br j) 0 [.int e0,.str e1,.str e2,e3,e4]=bH cE ((t.ar.take (j+1)).map (Ty.sub ns ts)++t.ar.drop (j+1)):=by
      rw[X.a,hr];refine(vD (a:=br j) (f:=cE) (y:=t.ar[j].sub ns ts) (i:=j) rfl h6 ?_).trans ?_
      ·rw[dI,dI,he0,he1,he2,he3,he4];rfl
      ·rw[K1 _ h5]
     cbv;repeat' (first|apply bw|exact zf|(intro h2;cbv)|apply bG)
     any_goals exact hid
     any_goals exact hin
     exact⟨(j+1,A.o4 r (br j) 0 [.int e0,.str e1,.str e2,e3,e4]),⟨yP,q1⟩,yP,[0,1,2,3],rfl,yc⟩
    have h5:j=n_z1:=gY X.a hlen_z1 h1;subst h5;rw[hn_z1,bF,bZ,cA]at hr;cbv;refine lP X (λx=>x.1<=n_z2/\x.2=bH fq ((t.fl.take x.1).map (Fe.sub ns ts)++t.fl.drop x.1)) (λx=>n_z2-x.1) (0,z2) ⟨bD _,yU hz2⟩ [0,1,2,3] (λ(x:Nat×D)=>⟨[(62,.int .i64 x.1),(61,.int .i64 (A.len z2)),(60,.row 42 3),(2,.lst 29 e),(1,.lst 9 g),(3,.box 0 0),(6,.box 1 0)],[.box [.int .i64 b,.str c1,.str c2,.row 29 2,.row 42 3],.box [.undef,.undef,.undef,.undef,.undef],.row 29 r true,.row 42 x.2 true]⟩) ?_;rintro⟨j,r2⟩ ⟨hj,hr2⟩;simp only at hj hr2;cbv;constructor<;>intro h1
    ·have h5:j<t.fl.length:=lY X.a hlen_z2 h1;have h6:j<((t.fl.take j).map (Fe.sub ns ts)++t.fl.drop j).length:=yQ;have hq:=Po (Fe.sub ns ts) h5 h6;have k1:=kE X.a hr2 h6;rw[hq]at k1;have hid:=iX X.a hr2 h6;have hin:=jX X.a h5;cbv;repeat' (first|apply bw|exact zf|(intro h2;cbv)|apply bG)
     any_goals exact hid
     refine X.call (ihf _ (bx h5) (qT hle _ (bx h5)) k1 λe0 e1 e2 e3 e4 he=>?_);obtain⟨he0,he1,he2,he3,he4⟩:=he
     have q1:A.o4 r2 (br j) 1 [.int e0,.str e1,.str e2,e3,e4]=bH fq ((t.fl.take (j+1)).map (Fe.sub ns ts)++t.fl.drop (j+1)):=by
      rw[X.a,hr2];refine(vD (a:=br j) (f:=fq) (y:=Fe.sub ns ts t.fl[j]) (i:=j) rfl h6 ?_).trans ?_
      ·rw[mh,mh,hq,Fe.sub_eq,he0,he1,he2,he3,he4];rfl
      ·rw[K1 _ h5]
     cbv;repeat' (first|apply bw|exact zf|(intro h2;cbv)|apply bG)
     any_goals exact hid
     any_goals exact hin
     exact⟨(j+1,A.o4 r2 (br j) 1 [.int e0,.str e1,.str e2,e3,e4]),⟨yP,q1⟩,yP,[0,1,2,3],rfl,yc⟩
    have h5:j=n_z2:=gY X.a hlen_z2 h1;subst h5;rw[hn_z2,bF,bZ,cA]at hr2;cbv;refine h _ _ _ _ _ ?_;rw[kY hno];exact⟨t0,t1,t2,hr,hr2⟩
 ·obtain⟨j,hj⟩:∃j:Nat,i=(j:Int):=⟨i.toNat,by obtain rfl:=X.a;simp only[hlen_dt,SD]at *;omega⟩;subst hj;have da:j<ts.length:=by obtain rfl:=X.a;simp only[hlen_dt,SD]at *;omega
  rw[X.a,hts];exact cP da
 ·obtain⟨j,hj⟩:∃j:Nat,i=br j:=⟨i.toNat,by obtain rfl:=X.a;simp only[hlen_dt,SD]at *;omega⟩;subst hj;have da:j<ts.length:=by obtain rfl:=X.a;simp only[hlen_dt,SD]at *;omega
  have hk:t.k=9:=by rw[<- t0];obtain rfl:=X.a;simp only[hlen_dt,SD]at *;omega
  refine X.call (hc j da _ _ _ _ _ _ (gI X.a hts da) λe0 e1 e2 e3 e4 he=>?_);cbv;refine h _ _ _ _ _ ?_;rw[Ch hk hi.symm da];exact he
def PJ(t:Ty)(a:Ty.le 4294967295 t)(i:cD t b c1 c2 c d)(h:∀f e1 e2 e3 e4,cD t f e1 e2 e3 e4->K (df f e1 e2 e3 e4) []):FT 100 [] [df b c1 c2 c d,.lst 9 (.list []),.lst 29 (.list [])] K:=by refine PI (ns:=[]) (ts:=[]) rfl rfl yS yS (λj h=>absurd h yS) t a i ?_;rw[Np];exact h
def Uh(p:g=bH encS ns)(a:e=bH cE ts)(i:ns.length<4294967296)(f:ts.length<4294967296)(da:∀t∈ts,Ty.le 4294967295 t)
 (t:Ty) (k:Ty.le 4294967295 t) (o:cD t b c1 c2 c d) (h:∀l e1 e2 e3 e4,cD (t.sub ns ts) l e1 e2 e3 e4->K (df l e1 e2 e3 e4) []):FT 100 [] [df b c1 c2 c d,.lst 9 g,.lst 29 e] K:=
 PI p a i f (λj m b c1 c2 c d K hc n=>PJ _ (da _ (bx m)) hc n) t k o h
def OZ(t:Ty)(f:Ty.le 4294967295 t)(k:cD t b c1 c2 c d)(h:∀a e1 e2 e3 e4,cD t a e1 e2 e3 e4->K (df a e1 e2 e3 e4) []):FT 156 [] [df b c1 c2 c d] K:=by refine en (cf 5) Tryz.func156 λA C L X=>?_;cbv;refine X.call (PJ t f k λa e1 e2 e3 e4 i=>?_);cbv;exact h _ _ _ _ _ i
end
end Go.VC.cK
namespace Go.VC
section
def Pm.ok(p:Pm):Prop:=Ty.le 4294967295 p.bound
structure TE.ok (x:TE):Prop where
 np:x.params.length<=4294967295
 p:∀p∈x.params,p.ok
 lo:Ty.le 4294967295 x.lower
 up:Ty.le 4294967295 x.upper
structure VE.ok (x:VE):Prop where
 np:x.params.length<=4294967295
 p:∀p∈x.params,p.ok
 ty:Ty.le 4294967295 x.ty
structure IF.ok (x:IF):Prop where
 nt:x.types.length<=4294967295
 nv:x.values.length<=4294967295
 na:x.aliases.length<=4294967295
 nd:x.deprecated.length<=4294967295
 t:∀y∈x.types,y.ok
 v:∀y∈x.values,y.ok
abbrev KM(f:S)(c1 c2:Int)(a e:S)(b c:D):PV:=.agg [.str f,.int .i64 c1,.int .i64 c2,.str a,.str e,.lst 29 b,.lst 42 c]
abbrev tv(l:S)(c1:D)(c2:Int)(e k:S)(h j:D)(f:Int)(g c:S)(a b:D):PV:=.agg [.str l,.lst 56 c1,.int .i64 c2,.str e,.str k,.lst 29 h,.lst 42 j,.int .i64 f,.str g,.str c,.lst 29 a,.lst 42 b]
abbrev xv(f:S)(c1:D)(c2:Int)(a e:S)(b c:D):PV:=.agg [.str f,.lst 56 c1,.int .i64 c2,.str a,.str e,.lst 29 b,.lst 42 c]
abbrev JB(a c1 c2:S):PV:=.agg [.str a,.str c1,.str c2]
abbrev mf(b:S)(c1 c2 c a:D):PV:=.agg [.str b,.lst 45 c1,.lst 99 c2,.lst 141 c,.lst 152 a]
def IV(x:Pm)(f:S)(c1 c2:Int)(a e:S)(b c:D):Prop:=f=x.name/\c1=x.var/\cD x.bound c2 a e b c
def oA(x:TE)(l:S)(c1:D)(c2:Int)(e k:S)(h j:D)(f:Int)(g c:S)(a b:D):Prop:=l=x.name/\c1=bH ew x.params/\cD x.lower c2 e k h j/\cD x.upper f g c a b
def tn(x:VE)(f:S)(c1:D)(c2:Int)(a e:S)(b c:D):Prop:=f=x.name/\c1=bH ew x.params/\cD x.ty c2 a e b c
def C6(x:AE)(a c1 c2:S):Prop:=a=x.name/\c1=x.module/\c2=x.target
def V2(x:DE)(a c1:S):Prop:=a=x.name/\c1=x.note
def jN(x:IF)(b:S)(c1 c2 c a:D):Prop:=b=x.path/\c1=bH gv x.types/\c2=bH mJ x.values/\c=bH rP x.aliases/\a=bH vw x.deprecated
section
variable {A:qC}{d:D}{i:Nat}
def kB{l:List Pm}(ha:A=Std)(hd:d=bH ew l)(h:i<l.length):IV l[i] (A.bL (A.cell d (br i) 0)) (A.asInt (A.cell d (br i) 1)) (A.asInt (A.cell d (br i) 2)) (A.bL (A.cell d (br i) 3)) (A.bL (A.cell d (br i) 4)) (A.cell d (br i) 5) (A.cell d (br i) 6):=⟨(Aj ha hd h).1,(Aj ha hd h).2,Gd ha hd h⟩
def nx{l:List TE}(ha:A=Std)(hd:d=bH gv l)(h:i<l.length):oA l[i] (A.bL (A.cell d (br i) 0)) (A.cell d (br i) 1) (A.asInt (A.cell d (br i) 2)) (A.bL (A.cell d (br i) 3)) (A.bL (A.cell d (br i) 4)) (A.cell d (br i) 5) (A.cell d (br i) 6) (A.asInt (A.cell d (br i) 7)) (A.bL (A.cell d (br i) 8)) (A.bL (A.cell d (br i) 9)) (A.cell d (br i) 10) (A.cell d (br i) 11):=⟨(Nl ha hd h).1,(Nl ha hd h).2,Qa ha hd h,P9 ha hd h⟩
def pL{l:List VE}(ha:A=Std)(hd:d=bH mJ l)(h:i<l.length):tn l[i] (A.bL (A.cell d (br i) 0)) (A.cell d (br i) 1) (A.asInt (A.cell d (br i) 2)) (A.bL (A.cell d (br i) 3)) (A.bL (A.cell d (br i) 4)) (A.cell d (br i) 5) (A.cell d (br i) 6):=⟨(Nd ha hd h).1,(Nd ha hd h).2,PX ha hd h⟩
def tU{l:List AE}(ha:A=Std)(hd:d=bH rP l)(h:i<l.length):C6 l[i] (A.bL (A.cell d (br i) 0)) (A.bL (A.cell d (br i) 1)) (A.bL (A.cell d (br i) 2)):=OI ha hd h
def GV{l:List DE}(ha:A=Std)(hd:d=bH vw l)(h:i<l.length):V2 l[i] (A.bL (A.cell d (br i) 0)) (A.bL (A.cell d (br i) 1)):=Tf ha hd h
def mA{l:List IF}(ha:A=Std)(hd:d=bH dC l)(h:i<l.length):jN l[i] (A.bL (A.cell d (br i) 0)) (A.cell d (br i) 1) (A.cell d (br i) 2) (A.cell d (br i) 3) (A.cell d (br i) 4):=UN ha hd h
end
def oZ{A:qC}{α:Type}{f:α->List D}{l:List α}{d:D}{i off:Nat}{vs:List D}(ha:A=Std)(hd:d=bH f l)(h:i<l.length)(b:(f l[i]).take off++vs++(f l[i]).drop (off+vs.length)=f l[i]):A.o4 d (br i) off vs=d:=by subst ha hd;refine(vD (a:=br i) (f:=f) (y:=l[i]) (i:=i) rfl h b).trans ?_;rw[List.set_getElem_self]
end
def nG(x:IF):List S:=x.types.map (·.name)++x.values.map (·.name)++x.aliases.map (·.name)
def map_take{α β:Type}{f:α->β}{l:List α}{i:Nat}(h:i<l.length):(l.take (i+1)).map f=(l.take i).map f++[f l[i]]:=by rw[bX h,cg];rfl
end Go.VC
namespace Go.VC.cK
open Go Go.VC Go.Proofs
end Go.VC.cK
namespace Go.VC
section
def Ty.dP(t:Ty):List Ty:=t.ar++t.fl.map Fe.t
mutual
def Ty.size:Ty->Nat| .mk _ _ _ ar fl=>1+Ty.sY ar+Ty.sZ fl
def Fe.size:Fe->Nat| .mk _ t _=>Ty.size t
def Ty.sY:List Ty->Nat|[]=>0|t::l=>Ty.size t+Ty.sY l
def Ty.sZ:List Fe->Nat|[]=>0|t::l=>Fe.size t+Ty.sZ l
end
variable {t:Ty}{l:List Nat}{i:Nat}
def DP:∀l:List Ty,Ty.sY l=(l.map Ty.size).sum
 |[]=>by simp[Ty.sY]
 |t::l=>by simp[Ty.sY,DP l]
def DQ:∀l:List Fe,Ty.sZ l=((l.map Fe.t).map Ty.size).sum
 |[]=>by simp[Ty.sZ]
 | .mk s t b::l=>by simp[Ty.sZ,DQ l,Fe.size,Fe.t]
def size_eq(t:Ty):t.size=1+(t.dP.map Ty.size).sum:=by cases t;simp only[Ty.size,DP,DQ,Ty.dP,cg,ea,Ty.ar,Ty.fl];omega
def HK{u:Ty}(h:u∈t.dP):(u∈t.ar)\/∃f∈t.fl,f.t=u:=by
 rcases bJ.1 h with h|h
 ·exact .inl h
 ·obtain⟨f,h1,J⟩:=bT.1 h;exact .inr ⟨f,h1,J⟩
def Ty.fC{P:Ty->Prop}(h:∀t:Ty,(∀u∈t.dP,P u)->P t):∀t,P t:=
 Ty.parts λt h1 J=>h t λu hu=>by
  rcases HK hu with hu|⟨f,hf,rfl⟩
  ·exact h1 u hu
  ·exact J f hf
def gP{n:Nat}(h:Ty.le n t):∀u∈t.dP,Ty.le n u:=λu hu=>by
 rcases HK hu with hu|⟨f,hf,rfl⟩
 ·exact pP h _ hu
 ·exact qT h _ hf
def Kk(h:i<l.length):(l.take (i+1)).sum=(l.take i).sum+l[i]:=by rw[l7 h,ea];simp
def wP:(l.take i).sum<=l.sum:=by
 conv=>rhs;rw[<- dG i l,ea]
 omega
end
end Go.VC
namespace Go.VC.cK
open Go Go.VC Go.Proofs
def PF{t:Ty}(M:Ty.le 4294967295 t)(n:t.dP.length<=4294967295){p:Int}{c1 c2:S}{j b:D}{K:PV->List Ob->Prop}(w:cD t p c1 c2 j b)
 (h:∀r,r=bH cE t.dP->K (.lst 29 r) []):FT 27 [] [df p c1 c2 j b] K:=by
 obtain⟨P,Q,O,m,g⟩:=w;have s:t.ar.length+t.fl.length<=4294967295:=by simpa[Ty.dP]using n
 refine en Y0 Tryz.func27 λA C L X=>?_;obtain⟨q,o,c⟩:=lenOf m;obtain⟨d,e,a⟩:=lenOf g;have hb:A.fU (A.add (A.len (A.lit [])) (A.len j)) 4294967296:=by rw[X.a];simp only[SD,c];omega
 have v:A.app (A.lit []) j=bH cE (t.ar++(t.fl.take 0).map Fe.t):=by rw[X.a,m];exact(cx (f:=cE) (l:=[]) (k:=t.ar)).trans yS
 cbv;refine⟨hb,?_⟩;refine lP X (λy=>y.1<=d/\y.2=bH cE (t.ar++(t.fl.take y.1).map Fe.t)) (λy=>d-y.1) (0,A.app (A.lit []) j) ⟨bD _,v⟩ [0,1] (λ(y:Nat×D)=>⟨[(4,.int .i64 y.1),(3,.row 29 1),(1,.box 0 0)],[.box [.int .i64 p,.str c1,.str c2,.lst 29 j,.lst 42 b],.row 29 y.2 true]⟩) ?_;rintro⟨i,r⟩ ⟨H,hr⟩;simp only at H hr;cbv;constructor<;>intro h1
 ·have h5:i<t.fl.length:=lY X.a a h1;obtain⟨z,u,I,x,B⟩:=kE X.a g h5;have N:=iX X.a g h5;have F:=jX X.a h5;have G:A.fU (A.add (A.len r) (A.len (A.lit [[.int (A.asInt (A.cell b (br i) 1)),.str (A.bL (A.cell b (br i) 2)),.str (A.bL (A.cell b (br i) 3)),A.cell b (br i) 4,A.cell b (br i) 5]]))) 4294967296:=by rw[X.a,hr];simp only[SD,bQ];omega
  have E:A.app r (A.lit [[.int (A.asInt (A.cell b (br i) 1)),.str (A.bL (A.cell b (br i) 2)),.str (A.bL (A.cell b (br i) 3)),A.cell b (br i) 4,A.cell b (br i) 5]])=bH cE (t.ar++(t.fl.take (i+1)).map Fe.t):=by rw[z,u,I,x,B,X.a,hr,map_take h5,<-bN,<-dI];exact cx (k:=[t.fl[i].t])
  refine p1 ?_;exact⟨(i+1,_),⟨yP,E⟩,yP,[0,1],rfl,yc⟩
 have h5:i=d:=gY X.a a h1;subst h5;rw[e,bF]at hr;cbv;exact h r hr
def Ux:∀(t:Ty),Ty.le 4294967295 t->t.size<=4294967295->∀{s:Int}{c1 c2:S}{o p:D}{K:PV->List Ob->Prop},cD t s c1 c2 o p->(∀r:Int,r=t.size->K (.int .i64 r) [])->FT 20 [] [df s c1 c2 o p] K:=by
 refine Ty.fC λt v=>?_;intro e hs s c1 c2 o p K F h;obtain⟨f,hf⟩:∃f:Nat->Nat,f=λi=>((t.dP.map Ty.size).take i).sum:=⟨_,rfl⟩;obtain⟨M3,a⟩:∃n:Nat,n=(t.dP.map Ty.size).sum:=⟨_,rfl⟩;have G:f 0=0:=by rw[hf];simp
 have fs:∀i (h:i<t.dP.length),f (i+1)=f i+t.dP[i].size:=λi h=>by rw[hf];simp only;rw[Kk (l:=t.dP.map Ty.size) (i:=i) (yU h),jg]
 have fl:∀i,f i<=M3:=λi=>by rw[hf,a];exact wP
 have fn:f t.dP.length=M3:=by rw[hf,a];simp only;rw[cG yS]
 have fL:t.size=1+M3:=by rw[size_eq,a]
 rw[fL]at hs h
 have E:t.dP.length<=M3:=by
  rw[a]
  have:∀l:List Ty,l.length<=(l.map Ty.size).sum:=by
   intro l;induction l with
   |nil=>simp
   |cons x l v=>simp only[bS,bO,ch];have:=size_eq x;omega
  exact this _
 refine en (cf 22) Tryz.func20 λA C L X=>?_;cbv;refine X.call (PF e yO F λr hr=>?_);obtain⟨c,d,b⟩:=lenOf hr;cbv;refine lu X (λy=>y.1<=c/\y.2=br (1+f y.1)) (λy=>c-y.1) (0,1) ⟨bD _,by simp[G]⟩ (λ(y:Nat×Int)=>[(5,.int .i64 y.1),(3,.int .i64 y.2)]) ?_;rintro⟨i,m⟩ ⟨M,j⟩;simp only at M j;cbv;constructor<;>intro h1
 ·have h5:i<t.dP.length:=lY X.a b h1;have B:=gI X.a hr h5;have N:=iX X.a hr h5;have I:=jX X.a h5;have k:=fs i h5;have H:=fl (i+1);refine p1 ?_;refine X.call (v _ (bx h5) (gP e _ (bx h5)) yO B λz u=>?_);have g:z=t.dP[i].size:=u;clear u;have w:A.inr .i64 (A.add m z):=by rw[X.a,dK,dO,j,g];simp only[bz];omega
  have q:A.add m z=br (1+f (i+1)):=by rw[X.a,dO,k,j,g];simp only[bz];omega
  refine p1 ?_;exact⟨(i+1,_),⟨yP,q⟩,yP,yc⟩
 have h5:i=c:=gY X.a b h1;subst h5;cbv;refine h m ?_;rw[j,d,fn];rfl
end Go.VC.cK
namespace Go.VC
section
variable {l:List S}{s:S}{i:Nat}
def Of(h:i<l.length)(ha:∀x∈l.take i,(x==s)=false)(a:l[i]=s):jO l s=(i:Int):=kQ h ha (by simp[a])
def Oe(ha:∀x∈l.take i,(x==s)=false):jO l s= -1\/(i:Int)<=jO l s:=by
 rcases tK (λx=>x==s) l with⟨e1,_⟩|⟨j,h5,e1,e2,e3⟩
 ·exact .inl e1
 ·refine .inr ?_;rw[jO,e1];rcases cb j i with h|h
  ·have a:(l[j]==s)=false:=ha l[j] (by rw[iE];exact⟨j,yO,rfl⟩);have h8:(l[j]==s)=true:=e2;rw[h8]at a;cases a
  ·omega
end
end Go.VC
namespace Go.VC.cK
open Go Go.VC Go.Proofs
def XZ{ns:List S}{ts:List Ty}{dn W:D}(hn:dn=bH encS ns)(ae:W=bH cE ts)(ar:ns.length<=4294967295)(ao:ts.length<=4294967295):
 ∀(t:Ty),Ty.le 4294967295 t->∀{H:Int}{c1 c2:S}{Q m:D}{K:PV->List Ob->Prop},cD t H c1 c2 Q m->(∀E e1 e2 e3 e4,cD (t.sub ns ts) E e1 e2 e3 e4->K (df E e1 e2 e3 e4) [])->FC Tryz.prog tt 50 [] [df H c1 c2 Q m,.lst 9 dn,.lst 29 W] K:=by
 refine Ty.parts λt ad ac=>?_;intro F H c1 c2 Q m K ht h;obtain⟨t0,t1,t2,N,B⟩:=ht;have aq:=pO F;have ap:=um F;refine FC.enter (G:=YO) eX mixed ⟨Tryz.func50,by rfl,rfl⟩ rfl rfl rfl ?_;intro A C L X;obtain⟨ab,aj,d⟩:=lenOf hn;obtain⟨am,ak,a⟩:=lenOf ae;obtain⟨g,M,b⟩:=lenOf N;obtain⟨j,I,c⟩:=lenOf B;cbv;repeat' (first|apply bw|exactλ(_:FF)=>by kernel_rfl|(intro J;cbv)|apply bG)
 ·refine X.loop (λ(y:Nat)=>⟨[(7,.int .i64 y),(1,.lst 9 dn),(2,.lst 29 W),(3,.box 0 0),(6,.box 1 0)],[.box [.int .i64 H,.str c1,.str c2,.lst 29 Q,.lst 42 m],.box [.undef,.undef,.undef,.undef,.undef]]⟩)
   (λy=>y<=ab/\∀x∈ns.take y,(x==t.n)=false) (λy=>ab-y) 0 ⟨bD _,by simp⟩ ?_ ?_
  ·(cbv;repeat' apply bw);all_goals try first|trivial|rfl|(rw[X.a];rfl)
  rintro i ⟨O,ha⟩;cbv;repeat' (first|apply bw|exactλ(_:FF)=>by kernel_rfl|(intro J;cbv)|apply bG)
  ·have h5:i<ns.length:=by obtain rfl:=X.a;simp only[d,SD,dq]at *;omega
   have h6:i<ts.length:=by obtain rfl:=X.a;simp only[a,SD,dq]at *;omega
   rw[X.a,hn];exact cP h5
  ·have h5:i<ns.length:=by obtain rfl:=X.a;simp only[d,SD,dq]at *;omega
   have h6:i<ts.length:=by obtain rfl:=X.a;simp only[a,SD,dq]at *;omega
   rw[X.a,ae];exact cP h6
  ·have h5:i<ns.length:=by obtain rfl:=X.a;simp only[d,SD,dq]at *;omega
   have h6:i<ts.length:=by obtain rfl:=X.a;simp only[a,SD,dq]at *;omega
   have P:=gI X.a ae h6;have R:=jR X.a hn h5;have hk:t.k=9:=by rw[<- t0];obtain rfl:=X.a;simp only[SD,dq]at *;omega
   have hs:ns[i]=t.n:=by rw[<- R,<-t2];obtain rfl:=X.a;simpa only[SD,dq]using J
   refine h _ _ _ _ _ ?_;rw[Ch hk (Of h5 ha hs) h6];exact P
  ·have h5:i<ns.length:=by obtain rfl:=X.a;simp only[d,SD,dq]at *;omega
   have h6:i<ts.length:=by obtain rfl:=X.a;simp only[a,SD,dq]at *;omega
   rw[X.a];exact ek h5 (by omega)
  ·have h5:i<ns.length:=by obtain rfl:=X.a;simp only[d,SD,dq]at *;omega
   have h6:i<ts.length:=by obtain rfl:=X.a;simp only[a,SD,dq]at *;omega
   have R:=jR X.a hn h5;have hs:¬ns[i]=t.n:=by rename_i g3;rw[<- R,<-t2];obtain rfl:=X.a;simpa only[SD,dq]using g3
   refine⟨i+1,⟨by omega,?_⟩,by omega,?_⟩
   ·rw[bX h5];intro x hx;rcases bJ.1 hx with hx|hx
    ·exact ha x hx
    ·simp at hx;subst hx;simpa using hs
   (cbv;repeat' apply bw);all_goals try first|trivial|rfl|(rw[X.a];rfl)
  ·have T:¬(t.k=9/\0<=jO ns t.n/\jO ns t.n<ts.length):=by
    have h6:ts.length<=i:=by obtain rfl:=X.a;simp only[a,SD,dq]at J;omega
    rcases Oe ha with e|e<;>omega
   clear ha O
   refine X.iC (λ(y:Nat×D)=>⟨[(9,.int .i64 y.1),(1,.lst 9 dn),(2,.lst 29 W),(3,.box 0 0),(6,.box 1 0),(8,.box 4 0)],[.box [.int .i64 H,.str c1,.str c2,.lst 29 Q,.lst 42 m],.box [.undef,.undef,.undef,.undef,.undef],.row 29 y.2 true,.row 42 (.list []) true,.box [.int .i64 H,.str c1,.str c2,.row 29 2,.row 42 3]]⟩)
    (λy=>y.1<=g/\y.2=bH cE ((t.ar.take y.1).map (Ty.sub ns ts))) (λy=>g-y.1) (0,.list []) ⟨bD _,rfl⟩ ?_ ?_
   ·refine⟨[0,1,2,3,4],rfl,?_⟩
    (cbv;repeat' apply bw);all_goals try first|trivial|rfl|(rw[X.a];rfl)
   rintro⟨i,r⟩ ⟨O,hr⟩;simp only at O hr;cbv;refine⟨λh1=>?_,λh1=>?_⟩
   ·have h5:i<t.ar.length:=by obtain rfl:=X.a;simp only[b,SD,dq]at h1;omega
    have P:=gI X.a N h5;have z:A.idx (br i) (A.len Q):=by rw[X.a,N];exact cP h5
    have q:A.inr .i64 (A.add (br i) 1):=by rw[X.a];exact ek h5 (by omega)
    cbv;repeat' (first|apply bw|exactλ(_:FF)=>by kernel_rfl|(intro J;cbv)|apply bG)
    any_goals exact z
    refine X.call (ad _ (bx h5) (pP F _ (bx h5)) P λE e1 e2 e3 e4 V=>?_);obtain⟨n,w,u,p,o⟩:=V;have v:A.fU (A.add (A.len r) (A.len (A.lit [[.int E,.str e1,.str e2,e3,e4]]))) 4294967296:=by rw[X.a,hr];simp only[SD,dq,bQ];omega
    have U:A.app r (A.lit [[.int E,.str e1,.str e2,e3,e4]])=bH cE ((t.ar.take (i+1)).map (Ty.sub ns ts)):=by rw[n,w,u,p,o,X.a,hr,map_take h5,<-dI];exact cx (k:=[t.ar[i].sub ns ts])
    cbv;repeat' (first|apply bw|exactλ(_:FF)=>by kernel_rfl|(intro J;cbv)|apply bG)
    any_goals exact v
    any_goals exact q
    refine⟨(i+1,_),⟨?_,U⟩,?_,[0,1,2,3,4],rfl,?_⟩
    ·simp only;omega
    ·simp only;omega
    (cbv;repeat' apply bw);all_goals try first|trivial|rfl|(rw[X.a];rfl)
   have h5:i=g:=by obtain rfl:=X.a;simp only[b,SD,dq]at h1;omega
   subst h5;rw[M,bF]at hr;cbv
   refine X.iC (λ(y:Nat×D)=>⟨[(10,.int .i64 y.1),(1,.lst 9 dn),(2,.lst 29 W),(3,.box 0 0),(6,.box 1 0),(8,.box 4 0)],[.box [.int .i64 H,.str c1,.str c2,.lst 29 Q,.lst 42 m],.box [.undef,.undef,.undef,.undef,.undef],.row 29 r true,.row 42 y.2 true,.box [.int .i64 H,.str c1,.str c2,.row 29 2,.row 42 3]]⟩)
    (λy=>y.1<=j/\y.2=bH fq ((t.fl.take y.1).map (Fe.sub ns ts))) (λy=>j-y.1) (0,.list []) ⟨bD _,rfl⟩ ?_ ?_
   ·refine⟨[0,1,2,3,4],rfl,?_⟩
    (cbv;repeat' apply bw);all_goals try first|trivial|rfl|(rw[X.a];rfl)
   rintro⟨i,r2⟩ ⟨O,f⟩;simp only at O f;cbv;refine⟨λh1=>?_,λh1=>?_⟩
   ·have h5:i<t.fl.length:=by obtain rfl:=X.a;simp only[c,SD,dq]at h1;omega
    have P:=kE X.a B h5;have R:=wF X.a B h5;have z:A.idx (br i) (A.len m):=by rw[X.a,B];exact cP h5
    have q:A.inr .i64 (A.add (br i) 1):=by rw[X.a];exact ek h5 (by omega)
    cbv;repeat' (first|apply bw|exactλ(_:FF)=>by kernel_rfl|(intro J;cbv)|apply bG)
    any_goals exact z
    refine X.call (ac _ (bx h5) (qT F _ (bx h5)) P λE e1 e2 e3 e4 V=>?_);obtain⟨n,w,u,p,o⟩:=V;have v:A.fU (A.add (A.len r2) (A.len (A.lit [[.str (A.bL (A.cell m (br i) 0)),.int E,.str e1,.str e2,e3,e4,.bool (A.asBool (A.cell m (br i) 6))]]))) 4294967296:=by rw[X.a,f];simp only[SD,dq,bQ];omega
    have U:A.app r2 (A.lit [[.str (A.bL (A.cell m (br i) 0)),.int E,.str e1,.str e2,e3,e4,.bool (A.asBool (A.cell m (br i) 6))]])=bH fq ((t.fl.take (i+1)).map (Fe.sub ns ts)):=by
     rw[n,w,u,p,o,R.1,R.2,X.a,f,map_take h5];refine ku ?_ (cx (k:=[Fe.sub ns ts t.fl[i]]))
     congr 1
     refine Qs ?_;rw[mh,Fe.sub_eq];rfl
    cbv;repeat' (first|apply bw|exactλ(_:FF)=>by kernel_rfl|(intro J;cbv)|apply bG)
    any_goals exact v
    any_goals exact q
    refine⟨(i+1,_),⟨?_,U⟩,?_,[0,1,2,3,4],rfl,?_⟩
    ·simp only;omega
    ·simp only;omega
    (cbv;repeat' apply bw);all_goals try first|trivial|rfl|(rw[X.a];rfl)
   have h5:i=j:=by obtain rfl:=X.a;simp only[c,SD,dq]at h1;omega
   subst h5;rw[I,bF]at f;cbv;refine h _ _ _ _ _ ?_;rw[kY T];exact⟨t0,t1,t2,hr,f⟩
  ·have T:¬(t.k=9/\0<=jO ns t.n/\jO ns t.n<ts.length):=by
    have h6:ns.length<=i:=by obtain rfl:=X.a;simp only[d,SD,dq]at J;omega
    rw[cG h6]at ha;rw[jO,kR ha];omega
   clear ha O
   refine X.iC (λ(y:Nat×D)=>⟨[(9,.int .i64 y.1),(1,.lst 9 dn),(2,.lst 29 W),(3,.box 0 0),(6,.box 1 0),(8,.box 4 0)],[.box [.int .i64 H,.str c1,.str c2,.lst 29 Q,.lst 42 m],.box [.undef,.undef,.undef,.undef,.undef],.row 29 y.2 true,.row 42 (.list []) true,.box [.int .i64 H,.str c1,.str c2,.row 29 2,.row 42 3]]⟩)
    (λy=>y.1<=g/\y.2=bH cE ((t.ar.take y.1).map (Ty.sub ns ts))) (λy=>g-y.1) (0,.list []) ⟨bD _,rfl⟩ ?_ ?_
   ·refine⟨[0,1,2,3,4],rfl,?_⟩
    (cbv;repeat' apply bw);all_goals try first|trivial|rfl|(rw[X.a];rfl)
   rintro⟨i,r⟩ ⟨O,hr⟩;simp only at O hr;cbv;refine⟨λh1=>?_,λh1=>?_⟩
   ·have h5:i<t.ar.length:=by obtain rfl:=X.a;simp only[b,SD,dq]at h1;omega
    have P:=gI X.a N h5;have z:A.idx (br i) (A.len Q):=by rw[X.a,N];exact cP h5
    have q:A.inr .i64 (A.add (br i) 1):=by rw[X.a];exact ek h5 (by omega)
    cbv;repeat' (first|apply bw|exactλ(_:FF)=>by kernel_rfl|(intro J;cbv)|apply bG)
    any_goals exact z
    refine X.call (ad _ (bx h5) (pP F _ (bx h5)) P λE e1 e2 e3 e4 V=>?_);obtain⟨n,w,u,p,o⟩:=V;have v:A.fU (A.add (A.len r) (A.len (A.lit [[.int E,.str e1,.str e2,e3,e4]]))) 4294967296:=by rw[X.a,hr];simp only[SD,dq,bQ];omega
    have U:A.app r (A.lit [[.int E,.str e1,.str e2,e3,e4]])=bH cE ((t.ar.take (i+1)).map (Ty.sub ns ts)):=by rw[n,w,u,p,o,X.a,hr,map_take h5,<-dI];exact cx (k:=[t.ar[i].sub ns ts])
    cbv;repeat' (first|apply bw|exactλ(_:FF)=>by kernel_rfl|(intro J;cbv)|apply bG)
    any_goals exact v
    any_goals exact q
    refine⟨(i+1,_),⟨?_,U⟩,?_,[0,1,2,3,4],rfl,?_⟩
    ·simp only;omega
    ·simp only;omega
    (cbv;repeat' apply bw);all_goals try first|trivial|rfl|(rw[X.a];rfl)
   have h5:i=g:=by obtain rfl:=X.a;simp only[b,SD,dq]at h1;omega
   subst h5;rw[M,bF]at hr;cbv
   refine X.iC (λ(y:Nat×D)=>⟨[(10,.int .i64 y.1),(1,.lst 9 dn),(2,.lst 29 W),(3,.box 0 0),(6,.box 1 0),(8,.box 4 0)],[.box [.int .i64 H,.str c1,.str c2,.lst 29 Q,.lst 42 m],.box [.undef,.undef,.undef,.undef,.undef],.row 29 r true,.row 42 y.2 true,.box [.int .i64 H,.str c1,.str c2,.row 29 2,.row 42 3]]⟩)
    (λy=>y.1<=j/\y.2=bH fq ((t.fl.take y.1).map (Fe.sub ns ts))) (λy=>j-y.1) (0,.list []) ⟨bD _,rfl⟩ ?_ ?_
   ·refine⟨[0,1,2,3,4],rfl,?_⟩
    (cbv;repeat' apply bw);all_goals try first|trivial|rfl|(rw[X.a];rfl)
   rintro⟨i,r2⟩ ⟨O,f⟩;simp only at O f;cbv;refine⟨λh1=>?_,λh1=>?_⟩
   ·have h5:i<t.fl.length:=by obtain rfl:=X.a;simp only[c,SD,dq]at h1;omega
    have P:=kE X.a B h5;have R:=wF X.a B h5;have z:A.idx (br i) (A.len m):=by rw[X.a,B];exact cP h5
    have q:A.inr .i64 (A.add (br i) 1):=by rw[X.a];exact ek h5 (by omega)
    cbv;repeat' (first|apply bw|exactλ(_:FF)=>by kernel_rfl|(intro J;cbv)|apply bG)
    any_goals exact z
    refine X.call (ac _ (bx h5) (qT F _ (bx h5)) P λE e1 e2 e3 e4 V=>?_);obtain⟨n,w,u,p,o⟩:=V;have v:A.fU (A.add (A.len r2) (A.len (A.lit [[.str (A.bL (A.cell m (br i) 0)),.int E,.str e1,.str e2,e3,e4,.bool (A.asBool (A.cell m (br i) 6))]]))) 4294967296:=by rw[X.a,f];simp only[SD,dq,bQ];omega
    have U:A.app r2 (A.lit [[.str (A.bL (A.cell m (br i) 0)),.int E,.str e1,.str e2,e3,e4,.bool (A.asBool (A.cell m (br i) 6))]])=bH fq ((t.fl.take (i+1)).map (Fe.sub ns ts)):=by
     rw[n,w,u,p,o,R.1,R.2,X.a,f,map_take h5];refine ku ?_ (cx (k:=[Fe.sub ns ts t.fl[i]]))
     congr 1
     refine Qs ?_;rw[mh,Fe.sub_eq];rfl
    cbv;repeat' (first|apply bw|exactλ(_:FF)=>by kernel_rfl|(intro J;cbv)|apply bG)
    any_goals exact v
    any_goals exact q
    refine⟨(i+1,_),⟨?_,U⟩,?_,[0,1,2,3,4],rfl,?_⟩
    ·simp only;omega
    ·simp only;omega
    (cbv;repeat' apply bw);all_goals try first|trivial|rfl|(rw[X.a];rfl)
   have h5:i=j:=by obtain rfl:=X.a;simp only[c,SD,dq]at h1;omega
   subst h5;rw[I,bF]at f;cbv;refine h _ _ _ _ _ ?_;rw[kY T];exact⟨t0,t1,t2,hr,f⟩
 ·have T:¬(t.k=9/\0<=jO ns t.n/\jO ns t.n<ts.length):=by rw[<- t0];rintro⟨e,_⟩;obtain rfl:=X.a;simp only[SD,dq]at J;simp[e]at J
  refine X.iC (λ(y:Nat×D)=>⟨[(9,.int .i64 y.1),(1,.lst 9 dn),(2,.lst 29 W),(3,.box 0 0),(6,.box 1 0),(8,.box 4 0)],[.box [.int .i64 H,.str c1,.str c2,.lst 29 Q,.lst 42 m],.box [.undef,.undef,.undef,.undef,.undef],.row 29 y.2 true,.row 42 (.list []) true,.box [.int .i64 H,.str c1,.str c2,.row 29 2,.row 42 3]]⟩)
   (λy=>y.1<=g/\y.2=bH cE ((t.ar.take y.1).map (Ty.sub ns ts))) (λy=>g-y.1) (0,.list []) ⟨bD _,rfl⟩ ?_ ?_
  ·refine⟨[0,1,2,3,4],rfl,?_⟩
   (cbv;repeat' apply bw);all_goals try first|trivial|rfl|(rw[X.a];rfl)
  rintro⟨i,r⟩ ⟨O,hr⟩;simp only at O hr;cbv;refine⟨λh1=>?_,λh1=>?_⟩
  ·have h5:i<t.ar.length:=by obtain rfl:=X.a;simp only[b,SD,dq]at h1;omega
   have P:=gI X.a N h5;have z:A.idx (br i) (A.len Q):=by rw[X.a,N];exact cP h5
   have q:A.inr .i64 (A.add (br i) 1):=by rw[X.a];exact ek h5 (by omega)
   cbv;repeat' (first|apply bw|exactλ(_:FF)=>by kernel_rfl|(intro J;cbv)|apply bG)
   any_goals exact z
   refine X.call (ad _ (bx h5) (pP F _ (bx h5)) P λE e1 e2 e3 e4 V=>?_);obtain⟨n,w,u,p,o⟩:=V;have v:A.fU (A.add (A.len r) (A.len (A.lit [[.int E,.str e1,.str e2,e3,e4]]))) 4294967296:=by rw[X.a,hr];simp only[SD,dq,bQ];omega
   have U:A.app r (A.lit [[.int E,.str e1,.str e2,e3,e4]])=bH cE ((t.ar.take (i+1)).map (Ty.sub ns ts)):=by rw[n,w,u,p,o,X.a,hr,map_take h5,<-dI];exact cx (k:=[t.ar[i].sub ns ts])
   cbv;repeat' (first|apply bw|exactλ(_:FF)=>by kernel_rfl|(intro J;cbv)|apply bG)
   any_goals exact v
   any_goals exact q
   refine⟨(i+1,_),⟨?_,U⟩,?_,[0,1,2,3,4],rfl,?_⟩
   ·simp only;omega
   ·simp only;omega
   (cbv;repeat' apply bw);all_goals try first|trivial|rfl|(rw[X.a];rfl)
  have h5:i=g:=by obtain rfl:=X.a;simp only[b,SD,dq]at h1;omega
  subst h5;rw[M,bF]at hr;cbv
  refine X.iC (λ(y:Nat×D)=>⟨[(10,.int .i64 y.1),(1,.lst 9 dn),(2,.lst 29 W),(3,.box 0 0),(6,.box 1 0),(8,.box 4 0)],[.box [.int .i64 H,.str c1,.str c2,.lst 29 Q,.lst 42 m],.box [.undef,.undef,.undef,.undef,.undef],.row 29 r true,.row 42 y.2 true,.box [.int .i64 H,.str c1,.str c2,.row 29 2,.row 42 3]]⟩)
   (λy=>y.1<=j/\y.2=bH fq ((t.fl.take y.1).map (Fe.sub ns ts))) (λy=>j-y.1) (0,.list []) ⟨bD _,rfl⟩ ?_ ?_
  ·refine⟨[0,1,2,3,4],rfl,?_⟩
   (cbv;repeat' apply bw);all_goals try first|trivial|rfl|(rw[X.a];rfl)
  rintro⟨i,r2⟩ ⟨O,f⟩;simp only at O f;cbv;refine⟨λh1=>?_,λh1=>?_⟩
  ·have h5:i<t.fl.length:=by obtain rfl:=X.a;simp only[c,SD,dq]at h1;omega
   have P:=kE X.a B h5;have R:=wF X.a B h5;have z:A.idx (br i) (A.len m):=by rw[X.a,B];exact cP h5
   have q:A.inr .i64 (A.add (br i) 1):=by rw[X.a];exact ek h5 (by omega)
   cbv;repeat' (first|apply bw|exactλ(_:FF)=>by kernel_rfl|(intro J;cbv)|apply bG)
   any_goals exact z
   refine X.call (ac _ (bx h5) (qT F _ (bx h5)) P λE e1 e2 e3 e4 V=>?_);obtain⟨n,w,u,p,o⟩:=V;have v:A.fU (A.add (A.len r2) (A.len (A.lit [[.str (A.bL (A.cell m (br i) 0)),.int E,.str e1,.str e2,e3,e4,.bool (A.asBool (A.cell m (br i) 6))]]))) 4294967296:=by rw[X.a,f];simp only[SD,dq,bQ];omega
   have U:A.app r2 (A.lit [[.str (A.bL (A.cell m (br i) 0)),.int E,.str e1,.str e2,e3,e4,.bool (A.asBool (A.cell m (br i) 6))]])=bH fq ((t.fl.take (i+1)).map (Fe.sub ns ts)):=by
    rw[n,w,u,p,o,R.1,R.2,X.a,f,map_take h5];refine ku ?_ (cx (k:=[Fe.sub ns ts t.fl[i]]))
    congr 1
    refine Qs ?_;rw[mh,Fe.sub_eq];rfl
   cbv;repeat' (first|apply bw|exactλ(_:FF)=>by kernel_rfl|(intro J;cbv)|apply bG)
   any_goals exact v
   any_goals exact q
   refine⟨(i+1,_),⟨?_,U⟩,?_,[0,1,2,3,4],rfl,?_⟩
   ·simp only;omega
   ·simp only;omega
   (cbv;repeat' apply bw);all_goals try first|trivial|rfl|(rw[X.a];rfl)
  have h5:i=j:=by obtain rfl:=X.a;simp only[c,SD,dq]at h1;omega
  subst h5;rw[I,bF]at f;cbv;refine h _ _ _ _ _ ?_;rw[kY T];exact⟨t0,t1,t2,hr,f⟩
end Go.VC.cK
namespace Go.VC
abbrev oK(e:S)(c1:Int)(c2 a:S)(d b:D)(c:Bool):PV:=.agg [.str e,.int .i64 c1,.str c2,.str a,.lst 29 d,.lst 42 b,.bool c]
def nX(x:Fe)(e:S)(c1:Int)(c2 a:S)(d b:D)(c:Bool):Prop:=e=x.s/\cD x.t c1 c2 a d b/\c=x.b
def kD{A:qC}{d:D}{i:Nat}{l:List Fe}(ha:A=Std)(hd:d=bH fq l)(h:i<l.length):nX l[i] (A.bL (A.cell d (br i) 0)) (A.asInt (A.cell d (br i) 1)) (A.bL (A.cell d (br i) 2)) (A.bL (A.cell d (br i) 3)) (A.cell d (br i) 4) (A.cell d (br i) 5) (A.asBool (A.cell d (br i) 6)):=⟨(wF ha hd h).1,kE ha hd h,(wF ha hd h).2⟩
end Go.VC
namespace Go.VC.cK
open Go Go.VC Go.Proofs
def XH:(∀{l m:List Ty}{f d2:D}{K:PV->List Ob->Prop}(j:f=bH cE l)(g:d2=bH cE m)(hl:l.length<=4294967295)(u:∀ x∈l,∀ y (s:Int) (c1:S) (c2:S) (o:D) (r:D) (d0:Int) (f:S) (d2:S) (n:D) (p:D) (t:PV->List Ob->Prop),cD x s c1 c2 o r->cD y d0 f d2 n p->(∀ b,b=same x y->t (.bool b) [])->FT 170 [] [df s c1 c2 o r,df d0 f d2 n p] t)(h:∀ b,b=same l m->K (.bool b) []),FT 220 [] [.lst 29 f,.lst 29 d2,.cy 170 []] K)/\
 (∀{l m:List Fe}{f d2:D}{K:PV->List Ob->Prop}(j:f=bH fq l)(g:d2=bH fq m)(hl:l.length<=4294967295)(u:∀ x∈l,∀ y (s:S) (c1:Int) (c2:S) (o:S) (r:D) (Q:D) (T:Bool) (d0:S) (f:Int) (d2:S) (n:S) (p:D) (R:D) (P:Bool) (t:PV->List Ob->Prop),nX x s c1 c2 o r Q T->nX y d0 f d2 n p R P->(∀ b,b=same x y->t (.bool b) [])->FT 222 [] [oK s c1 c2 o r Q T,oK d0 f d2 n p R P] t)(h:∀ b,b=same l m->K (.bool b) []),FT 221 [] [.lst 42 f,.lst 42 d2,.cy 222 []] K):=by
 refine⟨?_,?_⟩;have v:=trivial
 rotate_left
 have V:=trivial
 rotate_left
 all_goals (
  intro l m f d2 K j g hl u h
  first
   |(have B:=v
     refine FC.enter (G:=cf 32) eX mixed ⟨Tryz.func220,by rfl,rfl⟩ rfl rfl rfl ?_)
   |(refine FC.enter (G:=cf 32) eX mixed ⟨Tryz.func221,by rfl,rfl⟩ rfl rfl rfl ?_)
  intro A C L X;obtain⟨c,k,a⟩:=lenOf j;obtain⟨O,N,d⟩:=lenOf g;refine p2 (λJ=>?_) (λJ=>?_)
  ·refine h _ ?_;refine(yk ?_).symm;obtain rfl:=X.a;simp only[a,d,SD]at J;omega
  have U:m.length=c:=by obtain rfl:=X.a;simp only[a,d,SD]at J;omega
  first
   |(have B:=v
     refine X.loop (λ(i:Nat)=>⟨[(17,.int .i64 i),(16,.int .i64 (A.len f)),(15,.lst 29 f),(1,.lst 29 d2),(2,.cy 170 [])],[]⟩) (λi=>i<=c/\l.take i=m.take i) (λi=>c-i) 0 ⟨bD _,yS⟩ ?_ ?_)
   |(refine X.loop (λ(i:Nat)=>⟨[(17,.int .i64 i),(16,.int .i64 (A.len f)),(15,.lst 42 f),(1,.lst 42 d2),(2,.cy 222 [])],[]⟩) (λi=>i<=c/\l.take i=m.take i) (λi=>c-i) 0 ⟨bD _,yS⟩ ?_ ?_)
  ·exact yc
  rintro i ⟨W,ha⟩;cbv;constructor<;>intro h1
  ·have h5:i<l.length:=lY X.a a h1;have h6:i<m.length:=yO
   first
    |(have B:=v
      have w:=gI X.a j h5;have H:=gI X.a g h6)
    |(have w:=kD X.a j h5
      have H:=kD X.a g h6)
   have M:=iX X.a j h5;have I:=iX X.a g h6;have F:=jX X.a h5;have z:l[i]≠m[i]->same l m=false:=λe=>yl h5 h6 e;cbv;repeat' (first|apply bw|exact zf|(intro J;cbv)|apply bG)
   any_goals exact M
   any_goals exact I
   first
    |(have B:=v
      refine X.call (u _ (bx h5) _ _ _ _ _ _ _ _ _ _ _ _ w H λb hb=>?_))
    |(refine X.call (u _ (bx h5) _ _ _ _ _ _ _ _ _ _ _ _ _ _ _ _ w H λb hb=>?_))
   have q:b=same l[i] m[i]:=hb;clear hb;cbv;repeat' (first|apply bw|exact zf|(intro J;cbv)|apply bG)
   any_goals exact F
   ·refine h _ ?_;have:same l[i] m[i]=false:=by rw[<- q];obtain rfl:=X.a;simpa only[SD]using J
    exact(z λe=>by rw[e,jM]at this;cases this).symm
   ·have E:same l[i] m[i]=true:=by rw[<- q];obtain rfl:=X.a;simpa only[SD,dq]using J
    exact⟨i+1,⟨yO,by rw[bX h5,bX h6,ha,ir.1 E]⟩,yO,yc⟩
  ·have h5:i=c:=gY X.a a h1;subst h5;have e:=AR (l:=l) (m:=m) yO (by rw[<- k];exact ha);cbv;refine h _ ?_;rw[e,jM])
end Go.VC.cK
namespace Go.VC
def Ny{x y:Fe}:same x y=((x.s==y.s)&&(x.b==y.b)&&same x.t y.t):=by rw[cm];simp only[ir,bI,beq_iff_eq];exact⟨λe=>by subst e;exact⟨⟨rfl,rfl⟩,rfl⟩,λ⟨⟨h1,J⟩,h3⟩=>Fe.ext h1 h3 J⟩
def KC{x y:Ty}:same x y=(((((x.k==y.k)&&(x.m==y.m))&&(x.n==y.n))&&same x.ar y.ar)&&same x.fl y.fl):=by rw[cm];simp only[ir,bI,beq_iff_eq];exact⟨λe=>by subst e;exact⟨⟨⟨⟨rfl,rfl⟩,rfl⟩,rfl⟩,rfl⟩,λ⟨⟨⟨⟨h1,J⟩,h3⟩,h4⟩,h5⟩=>Ty.ext h1 J h3 h4 h5⟩
end Go.VC
namespace Go.VC.cK
open Go Go.VC Go.Proofs
def TP{x y:Fe}{m:S}{c1:Int}{c2 d:S}{i f:D}{l:Bool}{d0:S}{e:Int}{d2 c:S}{a g:D}{o:Bool}{K:PV->List Ob->Prop}
 (r:nX x m c1 c2 d i f l) (p:nX y d0 e d2 c a g o)
 (q:∀{n:PV->List Ob->Prop},(∀b,b=same x.t y.t->n (.bool b) [])->FT 170 [] [df c1 c2 d i f,df e d2 c a g] n)
 (h:∀b,b=same x y->K (.bool b) []):FT 222 [] [oK m c1 c2 d i f l,oK d0 e d2 c a g o] K:=by
 obtain⟨j,a1,a2⟩:=r;obtain⟨k,b1,b2⟩:=p;have hs:=Ny (x:=x) (y:=y);rw[<- j,<-k,<-a2,<-b2]at hs;clear j k a2 b2 a1 b1;refine en (cf 24) Tryz.func222 λA C L X=>?_;cbv;repeat' (first|apply bw|exact zf|(intro J;cbv)|apply bG|(refine X.call (q λb hb=>?_);cbv))
 all_goals (refine h _ ?_;rw[hs];obtain rfl:=X.a;(try subst hb);simp only[SD]at *;simp[*])
def W5:∀(t:Ty),Ty.le 4294967295 t->∀{u:Ty}{z:Int}{c1 c2:S}{p w:D}{d0:Int}{l d2:S}{f r:D}{K:PV->List Ob->Prop},cD t z c1 c2 p w->cD u d0 l d2 f r->(∀b,b=same t u->K (.bool b) [])->FT 170 [] [df z c1 c2 p w,df d0 l d2 f r] K:=by
 refine Ty.parts λt n i=>?_;intro a u z c1 c2 p w d0 l d2 f r K M hu h;obtain⟨H,I,B,s,o⟩:=M;obtain⟨F,G,E,g,j⟩:=hu;have hs:=KC (x:=t) (y:=u);rw[<- H,<-F,<-I,<-G,<-B,<-E]at hs;clear H I B F G E;refine en (cf 38) Tryz.func170 λA C L X=>?_;cbv;repeat' (first|apply bw|exact zf|(intro J;cbv)|apply bG|(refine X.call (XH.1 s g (pO a) (λx c y _ _ _ _ _ _ _ _ _ _ P d e m=>n x c (pP a x c) d e m) λb1 v=>?_);cbv)|(refine X.call (XH.2 o j (um a) (λx c y _ _ _ _ _ _ _ _ _ _ _ _ _ _ P d e m=>TP d e (λk=>i x c (qT a x c) d.2.1 e.2.1 k) m) λb2 q=>?_);cbv))
 all_goals (refine h _ ?_;rw[hs];obtain rfl:=X.a;(try subst v);(try subst q);(try subst O);(try subst N);simp only[SD]at *;simp[*])
end Go.VC.cK
namespace Go.VC
def Ty.zero:Ty:=.mk 0 [] [] [] []
def TE.zero:TE:=⟨[],[],Ty.zero,Ty.zero⟩
def VE.zero:VE:=⟨[],[],Ty.zero⟩
def AE.zero:AE:=⟨[],[],[]⟩
def IF.zero:IF:=⟨[],[],[],[],[]⟩
def jG{α:Type}{p:α->Bool}{l:List α}{i:Nat}(h:i<l.length)(b:p l[i]=true)(ha:∀x∈l.take i,p x=false):l.find? p=some l[i]:=by rw[List.find?_eq_some_iff_getElem];refine⟨b,i,h,rfl,λj d=>?_⟩;have:=ha l[j] (by rw[iE];exact⟨j,yO,rfl⟩);simp[this]
end Go.VC
namespace Go.VC.cK
open Go Go.VC Go.Proofs
section
variable {s a c e:S}{K:PV->List Ob->Prop}{c1 f g:D}{c2:Int}
def W9{x:IF}{c2:D}{c:D}{e:D}(d:jN x a c1 c2 c e)(h:∀b,b=(x.path==s)->K (.bool b) []):
 FT 158 [] [mf a c1 c2 c e,.cR [.str s] 0] K:=by
 have k:=d.1;refine en (cf 8) Tryz.func158 λA C L X=>?_;have q:=h (A.seq a s) (by rw[X.a,<-k];rfl);cbv;exact q
def WL{x:TE}{l:Int}{m:S}{j:S}{d:D}{i:D}(n:oA x a c1 c2 c e f g l m j d i)(h:∀b,b=(x.name==s)->K (.bool b) []):
 FT 204 [] [tv a c1 c2 c e f g l m j d i,.cR [.str s] 0] K:=by
 have k:=n.1;refine en (cf 8) Tryz.func204 λA C L X=>?_;have q:=h (A.seq a s) (by rw[X.a,<-k];rfl);cbv;exact q
def WK{x:VE}(d:tn x a c1 c2 c e f g)(h:∀b,b=(x.name==s)->K (.bool b) []):
 FT 206 [] [xv a c1 c2 c e f g,.cR [.str s] 0] K:=by
 have k:=d.1;refine en (cf 8) Tryz.func206 λA C L X=>?_;have q:=h (A.seq a s) (by rw[X.a,<-k];rfl);cbv;exact q
def Up:(∀{l:List IF}{d:D}{p:IF->Bool}{s:S}{K:PV->List Ob->Prop}(hd:d=bH dC l)(hl:l.length<=4294967295)(o:∀ x∈l,∀ (a:S) (c1:D) (c2:D) (c:D) (e:D) (n:PV->List Ob->Prop),jN x a c1 c2 c e->(∀ b,b=p x->n (.bool b) [])->FT 158 [] [mf a c1 c2 c e,.cR [.str s] 0] n)(h:∀ r:Int,r=mg p l->K (.int .i64 r) []),FT 210 [] [.lst 51 d,.cy 158 [.cR [.str s] 0]] K)/\
 (∀{l:List TE}{d:D}{p:TE->Bool}{s:S}{K:PV->List Ob->Prop}(hd:d=bH gv l)(hl:l.length<=4294967295)(o:∀ x∈l,∀ (a:S) (c1:D) (c2:Int) (c:S) (e:S) (f:D) (g:D) (N:Int) (I:S) (M:S) (v:D) (u:D) (n:PV->List Ob->Prop),oA x a c1 c2 c e f g N I M v u->(∀ b,b=p x->n (.bool b) [])->FT 204 [] [tv a c1 c2 c e f g N I M v u,.cR [.str s] 0] n)(h:∀ r:Int,r=mg p l->K (.int .i64 r) []),FT 250 [] [.lst 45 d,.cy 204 [.cR [.str s] 0]] K)/\
 (∀{l:List VE}{d:D}{p:VE->Bool}{s:S}{K:PV->List Ob->Prop}(hd:d=bH mJ l)(hl:l.length<=4294967295)(o:∀ x∈l,∀ (a:S) (c1:D) (c2:Int) (c:S) (e:S) (f:D) (g:D) (n:PV->List Ob->Prop),tn x a c1 c2 c e f g->(∀ b,b=p x->n (.bool b) [])->FT 206 [] [xv a c1 c2 c e f g,.cR [.str s] 0] n)(h:∀ r:Int,r=mg p l->K (.int .i64 r) []),FT 251 [] [.lst 99 d,.cy 206 [.cR [.str s] 0]] K)/\
 (∀{l:List AE}{d:D}{p:AE->Bool}{s:S}{K:PV->List Ob->Prop}(hd:d=bH rP l)(hl:l.length<=4294967295)(o:∀ x∈l,∀ (a:S) (c1:S) (c2:S) (n:PV->List Ob->Prop),C6 x a c1 c2->(∀ b,b=p x->n (.bool b) [])->FT 208 [] [JB a c1 c2,.cR [.str s] 0] n)(h:∀ r:Int,r=mg p l->K (.int .i64 r) []),FT 252 [] [.lst 141 d,.cy 208 [.cR [.str s] 0]] K):=by
 refine⟨?_,?_,?_,?_⟩;have E:=trivial
 rotate_left
 have z:=trivial
 rotate_left
 have B:=trivial
 rotate_left
 have O:=trivial
 rotate_left
 all_goals (
  intro l d p s K hd hl o h
  first
   |(have m:=E
     refine FC.enter (G:=cf 19) eX mixed ⟨Tryz.func210,by rfl,rfl⟩ rfl rfl rfl ?_)
   |(have m:=z
     refine FC.enter (G:=cf 19) eX mixed ⟨Tryz.func250,by rfl,rfl⟩ rfl rfl rfl ?_)
   |(have m:=B
     refine FC.enter (G:=cf 19) eX mixed ⟨Tryz.func251,by rfl,rfl⟩ rfl rfl rfl ?_)
   |(refine FC.enter (G:=cf 19) eX mixed ⟨Tryz.func252,by rfl,rfl⟩ rfl rfl rfl ?_)
  intro A C L X;obtain⟨j,w,k⟩:=lenOf hd;cbv
  first
   |(have m:=E
     refine X.loop (λ(i:Nat)=>⟨[(8,.int .i64 i),(7,.int .i64 (A.len d)),(1,.cy 158 [.cR [.str s] 0]),(0,.lst 51 d)],[]⟩) (λi=>i<=j/\∀x∈l.take i,p x=false) (λi=>j-i) 0 ⟨bD _,yS⟩ ?_ ?_)
   |(have m:=z
     refine X.loop (λ(i:Nat)=>⟨[(8,.int .i64 i),(7,.int .i64 (A.len d)),(1,.cy 204 [.cR [.str s] 0]),(0,.lst 45 d)],[]⟩) (λi=>i<=j/\∀x∈l.take i,p x=false) (λi=>j-i) 0 ⟨bD _,yS⟩ ?_ ?_)
   |(have m:=B
     refine X.loop (λ(i:Nat)=>⟨[(8,.int .i64 i),(7,.int .i64 (A.len d)),(1,.cy 206 [.cR [.str s] 0]),(0,.lst 99 d)],[]⟩) (λi=>i<=j/\∀x∈l.take i,p x=false) (λi=>j-i) 0 ⟨bD _,yS⟩ ?_ ?_)
   |(refine X.loop (λ(i:Nat)=>⟨[(8,.int .i64 i),(7,.int .i64 (A.len d)),(1,.cy 208 [.cR [.str s] 0]),(0,.lst 141 d)],[]⟩) (λi=>i<=j/\∀x∈l.take i,p x=false) (λi=>j-i) 0 ⟨bD _,yS⟩ ?_ ?_)
  ·exact yc
  rintro i ⟨P,ha⟩;cbv;constructor<;>intro h1
  ·have h5:i<l.length:=lY X.a k h1
   first
    |(have m:=E
      have q:=mA X.a hd h5)
    |(have m:=z
      have q:=nx X.a hd h5)
    |(have m:=B
      have q:=pL X.a hd h5)
    |(have q:=tU X.a hd h5)
   have H:=iX X.a hd h5;have F:=jX X.a h5;cbv;repeat' (first|apply bw|exact zf|(intro J;cbv)|apply bG)
   any_goals exact H
   first
    |(have m:=E
      refine X.call (o _ (bx h5) _ _ _ _ _ _ q λb hb=>?_))
    |(have m:=z
      refine X.call (o _ (bx h5) _ _ _ _ _ _ _ _ _ _ _ _ _ q λb hb=>?_))
    |(have m:=B
      refine X.call (o _ (bx h5) _ _ _ _ _ _ _ _ q λb hb=>?_))
    |(refine X.call (o _ (bx h5) _ _ _ _ q λb hb=>?_))
   have y:b=p l[i]:=hb;clear hb;cbv;repeat' (first|apply bw|exact zf|(intro J;cbv)|apply bG)
   any_goals exact F
   ·refine h i ?_;exact(kQ h5 ha (by rw[<- y];obtain rfl:=X.a;simpa only[SD]using J)).symm
   ·have hf:p l[i]=false:=by rename_i h3;rw[<- y];obtain rfl:=X.a;simpa only[SD,dq]using h3
    refine⟨i+1,⟨yO,?_⟩,yO,?_⟩
    ·rw[bX h5];intro x t;rcases bJ.1 t with t|t
     ·exact ha x t
     ·simp at t;subst t;exact hf
    exact yc
  ·have h5:i=j:=gY X.a k h1;subst h5;cbv;refine h (-1) ?_;rw[w,bF]at ha;exact(kR ha).symm)
def Uq:(∀{l:List IF}{d:D}{p:IF->Bool}{s:S}{K:PV->List Ob->Prop}(hd:d=bH dC l)(hl:l.length<=4294967295)(n:∀ x∈l,∀ (a:S) (c1:D) (c2:D) (c:D) (e:D) (m:PV->List Ob->Prop),jN x a c1 c2 c e->(∀ b,b=p x->m (.bool b) [])->FT 158 [] [mf a c1 c2 c e,.cR [.str s] 0] m)(h:∀ k e1 e2 e3 e4 b,jN ((l.find? p).getD IF.zero) k e1 e2 e3 e4->b=(l.find? p).isSome->K (.tup [mf k e1 e2 e3 e4,.bool b]) []),FT 157 [] [.lst 51 d,.cy 158 [.cR [.str s] 0]] K)/\
 (∀{l:List TE}{d:D}{p:TE->Bool}{s:S}{K:PV->List Ob->Prop}(hd:d=bH gv l)(hl:l.length<=4294967295)(n:∀ x∈l,∀ (a:S) (c1:D) (c2:Int) (c:S) (e:S) (f:D) (g:D) (F:Int) (B:S) (E:S) (w:D) (v:D) (m:PV->List Ob->Prop),oA x a c1 c2 c e f g F B E w v->(∀ b,b=p x->m (.bool b) [])->FT 204 [] [tv a c1 c2 c e f g F B E w v,.cR [.str s] 0] m)(h:∀ k e1 e2 e3 e4 e5 e6 e7 e8 e9 gD nZ b,oA ((l.find? p).getD TE.zero) k e1 e2 e3 e4 e5 e6 e7 e8 e9 gD nZ->b=(l.find? p).isSome->K (.tup [tv k e1 e2 e3 e4 e5 e6 e7 e8 e9 gD nZ,.bool b]) []),FT 203 [] [.lst 45 d,.cy 204 [.cR [.str s] 0]] K)/\
 (∀{l:List VE}{d:D}{p:VE->Bool}{s:S}{K:PV->List Ob->Prop}(hd:d=bH mJ l)(hl:l.length<=4294967295)(n:∀ x∈l,∀ (a:S) (c1:D) (c2:Int) (c:S) (e:S) (f:D) (g:D) (m:PV->List Ob->Prop),tn x a c1 c2 c e f g->(∀ b,b=p x->m (.bool b) [])->FT 206 [] [xv a c1 c2 c e f g,.cR [.str s] 0] m)(h:∀ k e1 e2 e3 e4 e5 e6 b,tn ((l.find? p).getD VE.zero) k e1 e2 e3 e4 e5 e6->b=(l.find? p).isSome->K (.tup [xv k e1 e2 e3 e4 e5 e6,.bool b]) []),FT 205 [] [.lst 99 d,.cy 206 [.cR [.str s] 0]] K)/\
 (∀{l:List AE}{d:D}{p:AE->Bool}{s:S}{K:PV->List Ob->Prop}(hd:d=bH rP l)(hl:l.length<=4294967295)(n:∀ x∈l,∀ (a:S) (c1:S) (c2:S) (m:PV->List Ob->Prop),C6 x a c1 c2->(∀ b,b=p x->m (.bool b) [])->FT 208 [] [JB a c1 c2,.cR [.str s] 0] m)(h:∀ k e1 e2 b,C6 ((l.find? p).getD AE.zero) k e1 e2->b=(l.find? p).isSome->K (.tup [JB k e1 e2,.bool b]) []),FT 207 [] [.lst 141 d,.cy 208 [.cR [.str s] 0]] K):=by
 refine⟨?_,?_,?_,?_⟩;have u:=trivial
 rotate_left
 have q:=trivial
 rotate_left
 have t:=trivial
 rotate_left
 have O:=trivial
 rotate_left
 all_goals (
  intro l d p s K hd hl n h
  first
   |(have j:=u
     refine FC.enter (G:=cf 18) eX mixed ⟨Tryz.func157,by rfl,rfl⟩ rfl rfl rfl ?_)
   |(have j:=q
     refine FC.enter (G:=cf 18) eX mixed ⟨Tryz.func203,by rfl,rfl⟩ rfl rfl rfl ?_)
   |(have j:=t
     refine FC.enter (G:=cf 18) eX mixed ⟨Tryz.func205,by rfl,rfl⟩ rfl rfl rfl ?_)
   |(refine FC.enter (G:=cf 18) eX mixed ⟨Tryz.func207,by rfl,rfl⟩ rfl rfl rfl ?_)
  intro A C L X;obtain⟨I,H,z⟩:=lenOf hd;cbv
  first
   |(have j:=u
     refine X.call (Up.1 hd hl n λr hr=>?_))
   |(have j:=q
     refine X.call (Up.2.1 hd hl n λr hr=>?_))
   |(have j:=t
     refine X.call (Up.2.2.1 hd hl n λr hr=>?_))
   |(refine X.call (Up.2.2.2 hd hl n λr hr=>?_))
  rcases tK p l with⟨e1,e2⟩|⟨i,h5,e1,e2,e3⟩
  ·have o:l.find? p=none:=by rw[eV];intro x M;simp[e2 x M]
   refine p3 (λJ=>?_) (λJ=>?_) (λJ=>?_)
   ·exfalso;rw[e1]at hr;subst hr;obtain rfl:=X.a;simp only[SD]at J;omega
   ·exfalso;rw[e1]at hr;subst hr;obtain rfl:=X.a;simp only[SD]at J;omega
   ·skip
    first
     |(have j:=u
       refine h _ _ _ _ _ _ ?_ ?_)
     |(have j:=q
       refine h _ _ _ _ _ _ _ _ _ _ _ _ _ ?_ ?_)
     |(have j:=t
       refine h _ _ _ _ _ _ _ _ ?_ ?_)
     |(refine h _ _ _ _ ?_ ?_)
    ·skip
     first
      |(have j:=u
        rw[o];exact⟨rfl,rfl,rfl,rfl,rfl⟩)
      |(have j:=q
        rw[o];exact⟨rfl,rfl,⟨rfl,rfl,rfl,rfl,rfl⟩,rfl,rfl,rfl,rfl,rfl⟩)
      |(have j:=t
        rw[o];exact⟨rfl,rfl,rfl,rfl,rfl,rfl,rfl⟩)
      |(rw[o];exact⟨rfl,rfl,rfl⟩)
    ·rw[o];rfl
  ·have o:l.find? p=some l[i]:=jG h5 e2 e3;rw[e1]at hr;obtain rfl:r=br i:=hr
   first
    |(have j:=u
      have y:=mA X.a hd h5)
    |(have j:=q
      have y:=nx X.a hd h5)
    |(have j:=t
      have y:=pL X.a hd h5)
    |(have y:=tU X.a hd h5)
   have N:=iX X.a hd h5;refine p2 (λJ=>?_) (λJ=>?_)
   ·skip
    first
     |(have j:=u
       refine h _ _ _ _ _ _ ?_ ?_)
     |(have j:=q
       refine h _ _ _ _ _ _ _ _ _ _ _ _ _ ?_ ?_)
     |(have j:=t
       refine h _ _ _ _ _ _ _ _ ?_ ?_)
     |(refine h _ _ _ _ ?_ ?_)
    ·rw[o];exact y
    ·rw[o];rfl
   ·exfalso;obtain rfl:=X.a;simp only[SD]at J;omega)
def WJ{x:AE}{c1:S}{c2:S}(d:C6 x a c1 c2)(h:∀b,b=(x.name==s)->K (.bool b) []):
 FT 208 [] [JB a c1 c2,.cR [.str s] 0] K:=by
 have k:=d.1;refine en (cf 8) Tryz.func208 λA C L X=>?_;have q:=h (A.seq a s) (by rw[X.a,<-k];rfl);cbv;exact q
end
section
variable {K:PV->List Ob->Prop}{f b a:S}{c1 c e:D}{c2:Int}
def T2{l:List Pm}{d:D}(hd:d=bH ew l)(hl:l.length<=4294967295)(m:∀p∈l,p.ok)(h:∀r,r=bH ew l->K (.lst 56 r) []):FT 155 [] [.lst 56 d] K:=by
 refine en (cf 23) Tryz.func155 λA C L X=>?_;cbv;refine X.call (K7.2.2.1 hd yO λr hr=>?_);obtain⟨k,v,g⟩:=lenOf hr;cbv;refine lP X (λx=>x.1<=k/\x.2=bH ew l) (λx=>k-x.1) (0,r) ⟨bD _,hr⟩ [0] (λ(x:Nat×D)=>⟨[(8,.int .i64 x.1),(7,.int .i64 (A.len r)),(0,.row 56 0)],[.row 56 x.2 true]⟩) ?_;rintro⟨i,z⟩ ⟨G,j⟩;simp only at G j;cbv;constructor<;>intro h1
 ·have h5:i<l.length:=lY X.a g h1;have w:=Gd X.a j h5;have F:=iX X.a j h5;have y:=jX X.a h5;refine p1 ?_;refine X.call (OZ _ (m _ (bx h5)) w λu e1 e2 e3 e4 B=>?_);obtain⟨o,s,q,n,t⟩:=B;have E:A.o4 z (br i) 2 [.int u,.str e1,.str e2,e3,e4]=z:=oZ X.a j h5 (by rw[zL,o,s,q,n,t];rfl);refine p1 ?_;exact⟨(i+1,A.o4 z (br i) 2 [.int u,.str e1,.str e2,e3,e4]),⟨yP,E.trans j⟩,yP,[0],rfl,yc⟩
 cbv;exact h z j
def Uc{x:TE}(i:x.ok){l:Int}{m k:S}{d g:D}(hc:oA x f c1 c2 b a c e l m k d g)
 (h:∀j e1 e2 e3 e4 e5 e6 e7 e8 e9 gD nZ,oA x j e1 e2 e3 e4 e5 e6 e7 e8 e9 gD nZ->K (tv j e1 e2 e3 e4 e5 e6 e7 e8 e9 gD nZ) []):
 FT 112 [] [tv f c1 c2 b a c e l m k d g] K:=by
 obtain⟨s,n,o,p⟩:=hc;refine en VV Tryz.func112 λA C L X=>?_;refine p1 ?_;refine X.call (T2 n i.np i.p λr hr=>?_);refine p1 ?_;refine X.call (OZ _ i.lo o λj e1 e2 e3 e4 q=>?_);refine p1 ?_;refine X.call (OZ _ i.up p λg0 g1 g2 g3 g4 t=>?_);refine p1 ?_;exact h _ _ _ _ _ _ _ _ _ _ _ _ ⟨s,hr,q,t⟩
def T0{x:VE}(g:x.ok)(hc:tn x f c1 c2 b a c e)
 (h:∀d e1 e2 e3 e4 e5 e6,tn x d e1 e2 e3 e4 e5 e6->K (xv d e1 e2 e3 e4 e5 e6) []):
 FT 161 [] [xv f c1 c2 b a c e] K:=by
 obtain⟨l,i,j⟩:=hc;refine en VB Tryz.func161 λA C L X=>?_;refine p1 ?_;refine X.call (T2 i g.np g.p λr hr=>?_);refine p1 ?_;refine X.call (OZ _ g.ty j λd e1 e2 e3 e4 k=>?_);refine p1 ?_;exact h _ _ _ _ _ _ _ ⟨l,hr,k⟩
end
def Xt{x:IF}(n:x.ok){o:S}{c1 c2 q t:D}{K:PV->List Ob->Prop}(hc:jN x o c1 c2 q t)
 (h:∀d e1 e2 e3 e4,jN x d e1 e2 e3 e4->K (mf d e1 e2 e3 e4) []):
 FT 118 [] [mf o c1 c2 q t] K:=by
 obtain⟨k0,U,O,R,M⟩:=hc;have nt:=n.nt;have nv:=n.nv;have na:=n.na;have nd:=n.nd;refine en VT Tryz.func118 λA C L X=>?_;cbv;refine X.cut (λ(z:D×D)=>⟨[(1,.box 0 0),(2,.box 1 0)],[.box [.str o,.row 45 2,.row 99 3,.lst 141 q,.lst 152 t],.box [.undef,.undef,.undef,.undef,.undef],.row 45 z.1 true,.row 99 z.2 true]⟩) (λz=>z.1=bH gv x.types/\z.2=bH mJ x.values) ?_ ?_
 ·cbv;repeat' (first|apply bw|exact zf|(intro J;cbv)|apply bG|(refine X.call (K7.2.2.2.1 U yO λV m=>?_);cbv)|(refine X.call (K7.2.2.2.2.1 O yO λr2 a=>?_);cbv))
  all_goals (refine⟨(V,r2),⟨m,a⟩,[0,1,2,3],rfl,?_⟩;exact yc)
 rintro⟨W,B⟩ ⟨i,k⟩;simp only at i k;obtain⟨f,H,c⟩:=lenOf i;obtain⟨e,w,b⟩:=lenOf k;cbv;refine lP X (λy=>y.1<=f/\y.2=bH gv x.types) (λy=>f-y.1) (0,W) ⟨bD _,i⟩ [0,1,2,3] (λ(y:Nat×D)=>⟨[(18,.int .i64 y.1),(17,.int .i64 (A.len W)),(16,.row 45 2),(1,.box 0 0),(2,.box 1 0)],[.box [.str o,.row 45 2,.row 99 3,.lst 141 q,.lst 152 t],.box [.undef,.undef,.undef,.undef,.undef],.row 45 y.2 true,.row 99 B true]⟩) ?_;rintro⟨j,r⟩ ⟨hj,hr⟩;simp only at hj hr;cbv;constructor<;>intro h1
 ·have h5:j<x.types.length:=lY X.a c h1;have v:=nx X.a hr h5;have Q:=iX X.a hr h5;have N:=jX X.a h5;refine p1 ?_;refine X.call (Uc (n.t _ (bx h5)) v λd e1 e2 e3 e4 e5 e6 e7 e8 e9 gD nZ P=>?_);obtain⟨g,l,⟨I,l1,l2,F,G⟩,u0,u1,u2,u3,u4⟩:=P;have E:A.o4 r (br j) 0 [.str d,e1,.int e2,.str e3,.str e4,e5,e6,.int e7,.str e8,.str e9,gD,nZ]=r:=oZ X.a hr h5 (by rw[pt,g,l,I,l1,l2,F,G,u0,u1,u2,u3,u4];rfl);refine p1 ?_;exact⟨(j+1,A.o4 r (br j) 0 [.str d,e1,.int e2,.str e3,.str e4,e5,e6,.int e7,.str e8,.str e9,gD,nZ]),⟨yP,E.trans hr⟩,yP,[0,1,2,3],rfl,yc⟩
 cbv;refine lP X (λy=>y.1<=e/\y.2=bH mJ x.values) (λy=>e-y.1) (0,B) ⟨bD _,k⟩ [0,1,2,3] (λ(y:Nat×D)=>⟨[(33,.int .i64 y.1),(32,.int .i64 (A.len B)),(31,.row 99 3),(1,.box 0 0),(2,.box 1 0)],[.box [.str o,.row 45 2,.row 99 3,.lst 141 q,.lst 152 t],.box [.undef,.undef,.undef,.undef,.undef],.row 45 r true,.row 99 y.2 true]⟩) ?_;rintro⟨u,r2⟩ ⟨T,a⟩;simp only at T a;cbv;constructor<;>intro h1
 ·have h5:u<x.values.length:=lY X.a b h1;have v:=pL X.a a h5;have Q:=iX X.a a h5;have N:=jX X.a h5;refine p1 ?_;refine X.call (T0 (n.v _ (bx h5)) v λd e1 e2 e3 e4 e5 e6 P=>?_);obtain⟨g,l,I,l1,l2,F,G⟩:=P;have E:A.o4 r2 (br u) 0 [.str d,e1,.int e2,.str e3,.str e4,e5,e6]=r2:=oZ X.a a h5 (by rw[zI,g,l,I,l1,l2,F,G];rfl);refine p1 ?_;exact⟨(u+1,A.o4 r2 (br u) 0 [.str d,e1,.int e2,.str e3,.str e4,e5,e6]),⟨yP,E.trans a⟩,yP,[0,1,2,3],rfl,yc⟩
 cbv;refine X.cut (λ(z:D×D)=>⟨[(1,.box 0 0),(2,.box 1 0)],[.box [.str o,.row 45 2,.row 99 3,.row 141 4,.row 152 5],.box [.undef,.undef,.undef,.undef,.undef],.row 45 r true,.row 99 r2 true,.row 141 z.1 true,.row 152 z.2 true]⟩) (λz=>z.1=bH rP x.aliases/\z.2=bH vw x.deprecated) ?_ ?_
 ·cbv;repeat' (first|apply bw|exact zf|(intro J;cbv)|apply bG|(refine X.call (K7.2.2.2.2.2.1 R yO λV m=>?_);cbv)|(refine X.call (K7.2.2.2.2.2.2 M yO λr2 a=>?_);cbv))
  all_goals (refine⟨(_,_),⟨m,a⟩,[0,1,2,3,4,5],rfl,?_⟩;exact yc)
 rintro⟨z3,z4⟩ ⟨s,p⟩;simp only at s p;cbv;exact h _ _ _ _ _ ⟨k0,hr,a,s,p⟩
end Go.VC.cK
namespace Go.VC
def gu(env:List IF)(path:S):Option IF:=env.find? λi=>i.path==path
inductive Tv where|none|wO (x:TE)|val (x:VE)|Rw (x:AE)|Bi
def lj(i:IF)(n:S):Tv:=match i.types.find? λx=>x.name==n with
 |some x=>.wO x
 |none=>match i.values.find? λx=>x.name==n with
  |some x=>.val x
  |none=>match i.aliases.find? λx=>x.name==n with
   |some x=>.Rw x
   |none=>.Bi
def j8(env:List IF)(m n:S):Tv:=match gu env m with
 |none=>.none
 |some i=>lj i n
def pq{α:Type}{p:α->Bool}{l:List α}{x:α}(h:l.find? p=some x):x∈l:=di h
def dW(env:List IF):Prop:=env.length<=4294967295/\∀i∈env,i.ok
def j9{env:List IF}(h:dW env){s:S}{i:IF}(a:gu env s=some i):i.ok:=h.2 i (pq a)
def Nb:IF.zero.ok:=⟨by simp[IF.zero],by simp[IF.zero],by simp[IF.zero],by simp[IF.zero],by simp[IF.zero],by simp[IF.zero]⟩
end Go.VC
namespace Go.VC.cK
open Go Go.VC Go.Proofs
section
variable {env:List IF}{d:D}{K:PV->List Ob->Prop}{s c:S}
def Ub(hd:d=bH dC env)(hl:dW env)(hs:c=s)
 (h:∀a e1 e2 e3 e4 b,jN ((gu env s).getD IF.zero) a e1 e2 e3 e4->b=(gu env s).isSome->K (.tup [mf a e1 e2 e3 e4,.bool b]) []):
 FT 117 [] [.lst 51 d,.str c] K:=by
 subst hs;refine en (cf 11) Tryz.func117 λA C L X=>?_;cbv;refine X.call (Uq.1 (p:=λi=>i.path==c) hd hl.1 (λx j _ _ _ _ _ k e g=>W9 e g) λa e1 e2 e3 e4 b f hb=>?_);cbv;exact h _ _ _ _ _ _ f hb
def Zx(hd:d=bH dC env)(hl:dW env)(hs:c=s)
 (h:∀e e1 e2 e3 e4 b,jN ((gu env s).getD IF.zero) e e1 e2 e3 e4->b=(gu env s).isSome->K (.tup [mf e e1 e2 e3 e4,.bool b]) []):
 FT 81 [] [.lst 51 d,.str c] K:=by
 refine en (cf 17) Tryz.func81 λA C L X=>?_;cbv;refine X.call (Ub hd hl hs λe e1 e2 e3 e4 b f hb=>?_);cbv
 have a:((gu env s).getD IF.zero).ok:=by
  cases hf:gu env s with
  |none=>exact Nb
  |some i=>exact j9 hl hf
 refine X.call (Xt a f λg0 g1 g2 g3 g4 g=>?_);cbv;exact h _ _ _ _ _ _ g hb
abbrev vv(m n:S)(a b c:PV):PV:=.agg [.str m,.str n,a,b,c]
def Xa{m n:S}(hd:d=bH dC env)(hl:dW env)
 (h0:j8 env m n= .none->K (.tup [vv m n .nilp .nilp .nilp,.bool false]) [])
 (h1:∀x g c1 c2 l t o r E z B k j,j8 env m n= .wO x->x.ok->oA x g c1 c2 l t o r E z B k j->K (.tup [vv m n (.cR [.str g,.lst 56 c1,.int .i64 c2,.str l,.str t,.lst 29 o,.lst 42 r,.int .i64 E,.str z,.str B,.lst 29 k,.lst 42 j] 0) .nilp .nilp,.bool true]) [])
 (y:∀x g c1 c2 l t o r,j8 env m n= .val x->x.ok->tn x g c1 c2 l t o r->K (.tup [vv m n .nilp (.cR [.str g,.lst 56 c1,.int .i64 c2,.str l,.str t,.lst 29 o,.lst 42 r] 0) .nilp,.bool true]) [])
 (h3:∀x g c1 c2 b,(j8 env m n= .Rw x/\b=true\/j8 env m n= .Bi/\b=false)->C6 x g c1 c2->K (.tup [vv m n .nilp .nilp (.cR [.str g,.str c1,.str c2] 0),.bool b]) []):
 FT 154 [] [.lst 51 d,.str m,.str n] K:=by
 refine en (cf 58) Tryz.func154 λA C L X=>?_;cbv;refine X.call (Ub hd hl rfl λe0 e1 e2 e3 e4 b I hb=>?_);cases hf:gu env m with
 |none=>
  rw[hf]at hb;obtain rfl:b=false:=hb;have q:=h0 (by rw[j8,hf]);cbv;repeat' (first|apply bw|exact zf|(intro J;cbv)|apply bG)
  ·exact q
  ·obtain rfl:=X.a;cases J
 |some i=>
  rw[hf]at hb I;simp only[dQ]at I;obtain rfl:b=true:=hb;have f:=j9 hl hf;obtain⟨P,H,G,F,Q⟩:=I;have N:j8 env m n=lj i n:=by rw[j8,hf]
  rw[N]at h0 h1 y h3;clear N;cbv;repeat' (first|apply bw|exact zf|(intro J;cbv)|apply bG)
  ·obtain rfl:=X.a;cases J
  clear J;refine X.call (Uq.2.1 (p:=λx=>x.name==n) H f.nt (λx u _ _ _ _ _ _ _ _ _ _ _ _ O v w=>WL v w) λg c1 c2 l t o r E z B k j b u hb=>?_);cases a:i.types.find? (λx=>x.name==n)with
  |some x=>
   rw[a]at u hb;obtain rfl:b=true:=hb;have q:=h1 x g c1 c2 l t o r E z B k j (by rw[lj,a]) (f.t _ (pq a)) u;cbv;repeat' (first|apply bw|exact zf|(intro J;cbv)|apply bG)
   ·exact q
   ·obtain rfl:=X.a;cases J
  |none=>
   rw[a]at u hb;obtain rfl:b=false:=hb;cbv;repeat' (first|apply bw|exact zf|(intro J;cbv)|apply bG)
   ·obtain rfl:=X.a;cases J
   clear J;refine X.call (Uq.2.2.1 (p:=λx=>x.name==n) G f.nv (λx u _ _ _ _ _ _ _ O v w=>WK v w) λT W R u3 U V u6 b M hb=>?_);cases e:i.values.find? (λx=>x.name==n)with
   |some x=>
    rw[e]at M hb;obtain rfl:b=true:=hb;have q:=y x T W R u3 U V u6 (by rw[lj,a];simp only[e]) (f.v _ (pq e)) M;cbv;repeat' (first|apply bw|exact zf|(intro J;cbv)|apply bG)
    ·exact q
    ·obtain rfl:=X.a;cases J
   |none=>
    rw[e]at M hb;obtain rfl:b=false:=hb;refine p2 (λJ=>?_) (λJ=>?_)
    ·obtain rfl:=X.a;cases J
    clear J;refine X.call (Uq.2.2.2 (p:=λx=>x.name==n) F f.na (λx u _ _ _ O v w=>WJ v w) λa0 a1 a2 b ha hb=>?_)
    have q:=h3 ((i.aliases.find? (λx=>x.name==n)).getD AE.zero) a0 a1 a2 b (by
     cases h:i.aliases.find? (λx=>x.name==n)with
     |some x=>rw[h]at hb;exact .inl ⟨by rw[lj,a];simp only[e,h];rfl,hb⟩
     |none=>rw[h]at hb;exact .inr ⟨by rw[lj,a];simp only[e,h],hb⟩) ha
    cbv;repeat' (first|apply bw|exact zf|(intro J;cbv)|apply bG)
    exact q
end
section
variable {d:D}{K:PV->List Ob->Prop}
def JV:(∀{x:IF}{s c:S}{n:S}{c1 c2 l m:D}{K:PV->List Ob->Prop}(I:jN x n c1 c2 l m)(hl:x.types.length<=4294967295)(hs:c=s)(h:∀ v e1 e2 e3 e4 e5 e6 e7 e8 e9 gD nZ b,oA ((x.types.find? λy=>y.name==s).getD TE.zero) v e1 e2 e3 e4 e5 e6 e7 e8 e9 gD nZ->b=(x.types.find? λy=>y.name==s).isSome->K (.tup [tv v e1 e2 e3 e4 e5 e6 e7 e8 e9 gD nZ,.bool b]) []),FT 80 [] [mf n c1 c2 l m,.str c] K)/\
 (∀{x:IF}{s c:S}{n:S}{c1 c2 l m:D}{K:PV->List Ob->Prop}(I:jN x n c1 c2 l m)(hl:x.values.length<=4294967295)(hs:c=s)(h:∀ v e1 e2 e3 e4 e5 e6 b,tn ((x.values.find? λy=>y.name==s).getD VE.zero) v e1 e2 e3 e4 e5 e6->b=(x.values.find? λy=>y.name==s).isSome->K (.tup [xv v e1 e2 e3 e4 e5 e6,.bool b]) []),FT 115 [] [mf n c1 c2 l m,.str c] K)/\
 (∀{x:IF}{s c:S}{n:S}{c1 c2 l m:D}{K:PV->List Ob->Prop}(I:jN x n c1 c2 l m)(hl:x.aliases.length<=4294967295)(hs:c=s)(h:∀ v e1 e2 b,C6 ((x.aliases.find? λy=>y.name==s).getD AE.zero) v e1 e2->b=(x.aliases.find? λy=>y.name==s).isSome->K (.tup [JB v e1 e2,.bool b]) []),FT 116 [] [mf n c1 c2 l m,.str c] K):=by
 refine⟨?_,?_,?_⟩;have t:=trivial
 rotate_left
 have q:=trivial
 rotate_left
 have N:=trivial
 rotate_left
 all_goals (
  intro x s c n c1 c2 l m K I hl hs h;subst hs;obtain⟨P,a1,a2,a3,a4⟩:=I
  first
   |(have a:=t
     refine FC.enter (G:=cf 28) eX mixed ⟨Tryz.func80,by rfl,rfl⟩ rfl rfl rfl ?_)
   |(have a:=q
     refine FC.enter (G:=cf 28) eX mixed ⟨Tryz.func115,by rfl,rfl⟩ rfl rfl rfl ?_)
   |(refine FC.enter (G:=cf 28) eX mixed ⟨Tryz.func116,by rfl,rfl⟩ rfl rfl rfl ?_)
  intro A C L X
  first
   |(have a:=t
     obtain⟨u,w,g⟩:=lenOf a1)
   |(have a:=q
     obtain⟨o,z,j⟩:=lenOf a2)
   |(obtain⟨p,B,f⟩:=lenOf a3)
  cbv
  first
   |(have a:=t
     refine X.loop (λ(i:Nat)=>⟨[(6,.int .i64 i),(2,.box 0 0),(1,.str c),(4,.box 1 0)],[.box [.str n,.lst 45 c1,.lst 99 c2,.lst 141 l,.lst 152 m],.box [.undef,.undef,.undef,.undef,.undef,.undef,.undef,.undef,.undef,.undef,.undef,.undef]]⟩) (λi=>i<=u/\∀y∈x.types.take i,(y.name==c)=false) (λi=>u-i) 0 ⟨bD _,yS⟩ ?_ ?_)
   |(have a:=q
     refine X.loop (λ(i:Nat)=>⟨[(6,.int .i64 i),(2,.box 0 0),(1,.str c),(4,.box 1 0)],[.box [.str n,.lst 45 c1,.lst 99 c2,.lst 141 l,.lst 152 m],.box [.undef,.undef,.undef,.undef,.undef,.undef,.undef]]⟩) (λi=>i<=o/\∀y∈x.values.take i,(y.name==c)=false) (λi=>o-i) 0 ⟨bD _,yS⟩ ?_ ?_)
   |(refine X.loop (λ(i:Nat)=>⟨[(6,.int .i64 i),(2,.box 0 0),(1,.str c),(4,.box 1 0)],[.box [.str n,.lst 45 c1,.lst 99 c2,.lst 141 l,.lst 152 m],.box [.undef,.undef,.undef]]⟩) (λi=>i<=p/\∀y∈x.aliases.take i,(y.name==c)=false) (λi=>p-i) 0 ⟨bD _,yS⟩ ?_ ?_)
  ·exact yc
  rintro i ⟨O,ha⟩;cbv;constructor<;>intro h1
  ·skip
   first
    |(have a:=t
      have h5:i<x.types.length:=lY X.a g h1;have H:=nx X.a a1 h5)
    |(have a:=q
      have h5:i<x.values.length:=lY X.a j h1;have H:=pL X.a a2 h5)
    |(have h5:i<x.aliases.length:=lY X.a f h1
      have H:=tU X.a a3 h5)
   have F:=H.1
   first
    |(have a:=t
      have E:=iX X.a a1 h5)
    |(have a:=q
      have E:=iX X.a a2 h5)
    |(have E:=iX X.a a3 h5)
   have M:=jX X.a h5;cbv;repeat' (first|apply bw|exact zf|(intro J;cbv)|apply bG)
   any_goals exact E
   any_goals exact M
   ·skip
    first
     |(have a:=t
       have e:x.types[i].name=c:=by rw[<- F];obtain rfl:=X.a;simpa only[SD]using J
       have r:(x.types.find? λy=>y.name==c)=some x.types[i]:=jG h5 (by simp[e]) ha;refine h _ _ _ _ _ _ _ _ _ _ _ _ _ ?_ ?_)
     |(have a:=q
       have e:x.values[i].name=c:=by rw[<- F];obtain rfl:=X.a;simpa only[SD]using J
       have r:(x.values.find? λy=>y.name==c)=some x.values[i]:=jG h5 (by simp[e]) ha;refine h _ _ _ _ _ _ _ _ ?_ ?_)
     |(have e:x.aliases[i].name=c:=by rw[<- F];obtain rfl:=X.a;simpa only[SD]using J
       have r:(x.aliases.find? λy=>y.name==c)=some x.aliases[i]:=jG h5 (by simp[e]) ha;refine h _ _ _ _ ?_ ?_)
    ·rw[r];exact H
    ·rw[r];rfl
   ·skip
    first
     |(have a:=t
       have e:¬x.types[i].name=c:=by rename_i g3;rw[<- F];obtain rfl:=X.a;simpa only[SD]using g3)
     |(have a:=q
       have e:¬x.values[i].name=c:=by rename_i g3;rw[<- F];obtain rfl:=X.a;simpa only[SD]using g3)
     |(have e:¬x.aliases[i].name=c:=by rename_i g3;rw[<- F];obtain rfl:=X.a;simpa only[SD,dq]using g3)
    refine⟨i+1,⟨yO,?_⟩,yO,?_⟩
    ·rw[bX h5];intro y k;rcases bJ.1 k with k|k
     ·exact ha y k
     ·simp at k;subst k;simpa using e
    exact yc
  first
   |(have a:=t
     have h5:i=u:=gY X.a g h1)
   |(have a:=q
     have h5:i=o:=gY X.a j h1)
   |(have h5:i=p:=gY X.a f h1)
  subst h5
  first
   |(have a:=t
     rw[w,bF]at ha;have r:(x.types.find? λy=>y.name==c)=none:=by rw[eV];intro y k;simp[ha y k])
   |(have a:=q
     rw[z,bF]at ha;have r:(x.values.find? λy=>y.name==c)=none:=by rw[eV];intro y k;simp[ha y k])
   |(rw[B,bF]at ha
     have r:(x.aliases.find? λy=>y.name==c)=none:=by rw[eV];intro y k;simp[ha y k])
  cbv
  first
   |(have a:=t
     refine h _ _ _ _ _ _ _ _ _ _ _ _ _ ?_ ?_)
   |(have a:=q
     refine h _ _ _ _ _ _ _ _ ?_ ?_)
   |(refine h _ _ _ _ ?_ ?_)
  ·skip
   first
    |(have a:=t
      rw[r];exact⟨rfl,rfl,⟨rfl,rfl,rfl,rfl,rfl⟩,rfl,rfl,rfl,rfl,rfl⟩)
    |(have a:=q
      rw[r];exact⟨rfl,rfl,rfl,rfl,rfl,rfl,rfl⟩)
    |(rw[r];exact⟨rfl,rfl,rfl⟩)
  ·rw[r];rfl)
def Q2{env:List IF}{s c:S}(hd:d=bH dC env)(hl:env.length<=4294967295)(hs:c=s)
 (h:∀o e1 e2 e3 e4 b,jN ((gu env s).getD IF.zero) o e1 e2 e3 e4->b=(gu env s).isSome->K (.tup [mf o e1 e2 e3 e4,.bool b]) []):
 FT 79 [] [.lst 51 d,.str c] K:=by
 subst hs;refine en (cf 25) Tryz.func79 λA C L X=>?_;obtain⟨g,j,a⟩:=lenOf hd;cbv;refine lu X (λi=>i<=g/\∀y∈env.take i,(y.path==c)=false) (λi=>g-i) 0 ⟨bD _,yS⟩ (λ(i:Nat)=>[(6,.int .i64 i)]) ?_;rintro i ⟨q,ha⟩;cbv;constructor<;>intro h1
 ·have h5:i<env.length:=lY X.a a h1;have n:=mA X.a hd h5;have p:=n.1;have m:=iX X.a hd h5;have l:=jX X.a h5;cbv;repeat' (first|apply bw|exact zf|(intro J;cbv)|apply bG)
  any_goals exact m
  any_goals exact l
  ·have e:env[i].path=c:=by rw[<- p];obtain rfl:=X.a;simpa only[SD]using J
   have k:gu env c=some env[i]:=jG h5 (by simp[e]) ha;refine h _ _ _ _ _ _ ?_ ?_
   ·rw[k];exact n
   ·rw[k];rfl
  ·have e:¬env[i].path=c:=by rename_i g3;rw[<- p];obtain rfl:=X.a;simpa only[SD,dq]using g3
   refine⟨i+1,⟨yO,?_⟩,yO,?_⟩
   ·rw[bX h5];intro y f;rcases bJ.1 f with f|f
    ·exact ha y f
    ·simp at f;subst f;simpa using e
   exact yc
 have h5:i=g:=gY X.a a h1;subst h5;rw[j,bF]at ha;have k:gu env c=none:=by rw[gu,eV];intro y f;simp[ha y f]
 cbv;refine h _ _ _ _ _ _ ?_ ?_
 ·rw[k];exact⟨rfl,rfl,rfl,rfl,rfl⟩
 ·rw[k];rfl
def Uw{l:List Pm}(hd:d=bH ew l)(hl:l.length<=4294967295)
 (h:∀r,r=bH encS (l.map (·.name))->K (.lst 9 r) []):FT 23 [] [.lst 56 d] K:=by
 refine en g23 Tryz.func23 λA C L X=>?_;obtain⟨b,c,a⟩:=lenOf hd;cbv;refine lP X (λy=>y.1<=b/\y.2=bH encS ((l.take y.1).map (·.name))) (λy=>b-y.1) (0,A.lit []) ⟨bD _,yX⟩ [0] (λ(y:Nat×D)=>⟨[(4,.int .i64 y.1),(3,.row 9 0),(0,.lst 56 d)],[.row 9 y.2 true]⟩) ?_;rintro⟨i,r⟩ ⟨m,hr⟩;simp only at m hr;cbv;constructor<;>intro h1
 ·have h5:i<l.length:=lY X.a a h1;have e:=(Aj X.a hd h5).1;have j:=iX X.a hd h5;have f:=jX X.a h5;have hb:A.fU (A.add (A.len r) (A.len (A.lit [[.str (A.bL (A.cell d (br i) 0))]]))) 4294967296:=by rw[X.a,hr];simp only[SD,bQ];omega
  have g:A.app r (A.lit [[.str (A.bL (A.cell d (br i) 0))]])=bH encS ((l.take (i+1)).map (·.name)):=by rw[e,X.a,hr,map_take h5];exact cx (k:=[l[i].name])
  refine p1 ?_;exact⟨(i+1,_),⟨yP,g⟩,yP,[0],rfl,yc⟩
 have h5:i=b:=gY X.a a h1;subst h5;rw[c,bF]at hr;cbv;exact h r hr
end
end Go.VC.cK
namespace Go.VC
inductive End where|nf|loop|wO (m n:S) (x:TE)|val (m n:S) (x:VE)
def ib(env:List IF):Nat->S->S->End
 |0,_,_=>.loop
 |k+1,m,n=>match j8 env m n with
  | .none=>.nf
  | .Bi=>.nf
  | .wO x=>.wO m n x
  | .val x=>.val m n x
  | .Rw x=>ib env k x.module x.target
def dD(env:List IF)(m n:S):TE×S×Int:=match ib env 65 m n with
 | .wO m' _ x=>(x,m',0)
 | .val _ _ _=>(TE.zero,[],6)
 | .nf=>(TE.zero,[],6)
 | .loop=>(TE.zero,[],14)
def gb(env:List IF)(m n:S):VE×S×Int:=match ib env 65 m n with
 | .wO _ _ _=>(VE.zero,[],6)
 | .val m' _ x=>(x,m',0)
 | .nf=>(VE.zero,[],6)
 | .loop=>(VE.zero,[],14)
def lq(env:List IF)(m n:S):End:=ib env 65 m n
end Go.VC
namespace Go.VC.cK
open Go Go.VC Go.Proofs
section
variable {env:List IF}{d:D}{K:PV->List Ob->Prop}
def Re{m n:S}(hd:d=bH dC env)(hl:dW env)
 (h0:lq env m n= .nf->K (.tup [vv [] [] .nilp .nilp .nilp,.int .i64 6]) [])
 (h:lq env m n= .loop->K (.tup [vv [] [] .nilp .nilp .nilp,.int .i64 14]) [])
 (G:∀m' n' x c c1 c2 j p l o v s t g f,lq env m n= .wO m' n' x->x.ok->oA x c c1 c2 j p l o v s t g f->K (.tup [vv m' n' (.cR [.str c,.lst 56 c1,.int .i64 c2,.str j,.str p,.lst 29 l,.lst 42 o,.int .i64 v,.str s,.str t,.lst 29 g,.lst 42 f] 0) .nilp .nilp,.int .i64 0]) [])
 (M:∀m' n' x c c1 c2 j p l o,lq env m n= .val m' n' x->x.ok->tn x c c1 c2 j p l o->K (.tup [vv m' n' .nilp (.cR [.str c,.lst 56 c1,.int .i64 c2,.str j,.str p,.lst 29 l,.lst 42 o] 0) .nilp,.int .i64 0]) []):
 FT 111 [] [.lst 51 d,.str m,.str n] K:=by
 refine en VW Tryz.func111 λA C L X=>?_;cbv;refine lP X (λy=>y.1<=65/\ib env (65-y.1) y.2.1 y.2.2=lq env m n) (λy=>65-y.1) (0,m,n) ⟨bD _,rfl⟩ [0] (λ(y:Nat×S×S)=>⟨[(10,.int .i64 y.1),(0,.lst 51 d),(1,.str y.2.1),(2,.str y.2.2),(6,.box 0 0)],[.box [.undef,.undef,.undef,.undef,.undef]]⟩) ?_;rintro⟨i,m',n'⟩ ⟨H,a⟩;simp only at H a;cbv;constructor<;>intro h1
 ·have h5:i<65:=by obtain rfl:=X.a;simp only[SD]at h1;omega
  obtain⟨k,hk⟩:∃k,65-i=k+1:=⟨64-i,yO⟩;have u:65-(i+1)=k:=yO;rw[hk]at a;simp only[ib]at a;have w:=jX X.a h5;cbv;refine X.call (Xa hd hl ?_ ?_ ?_ ?_)
  ·intro e;rw[e]at a;have q:=h0 a.symm;cbv;repeat' (first|apply bw|exact zf|(intro J;cbv)|apply bG)
   ·exact q
   ·obtain rfl:=X.a;cases J
  ·intro x c c1 c2 j p l o v s t g f e B hc;rw[e]at a;have q:=G _ _ _ _ _ _ _ _ _ _ _ _ _ _ _ a.symm B hc;cbv;repeat' (first|apply bw|exact zf|(intro J;cbv)|apply bG)
   ·obtain rfl:=X.a;cases J
   ·exact q
  ·intro x c c1 c2 j p l o e B hc;rw[e]at a;have q:=M _ _ _ _ _ _ _ _ _ _ a.symm B hc;cbv;repeat' (first|apply bw|exact zf|(intro J;cbv)|apply bG)
   ·obtain rfl:=X.a;cases J
   ·exact q
  ·intro x c c1 c2 b e hc
   have I:b=false->K (.tup [vv [] [] .nilp .nilp .nilp,.int .i64 6]) []:=by
    intro r;rcases e with⟨e,e2⟩|⟨e,e2⟩
    ·rw[e2]at r;cases r
    ·rw[e]at a;exact h0 a.symm
   cbv;repeat' (first|apply bw|exact zf|(intro J;cbv)|apply bG)
   ·exact I (by obtain rfl:=X.a;simpa only[SD]using J)
   ·exact w
   ·have r:b=true:=by rename_i h3;obtain rfl:=X.a;simpa only[SD]using h3
    rcases e with⟨e,e2⟩|⟨e,e2⟩
    ·rw[e]at a;simp only at a;refine⟨(i+1,x.module,x.target),⟨yP,by simp only[u];exact a⟩,yP,[0],rfl,?_⟩;obtain⟨F,E,z⟩:=hc;rw[<- E,<-z];exact yc
    ·rw[e2]at r;cases r
 ·have h5:i=65:=by obtain rfl:=X.a;simp only[SD]at h1;omega
  subst h5;have q:=h a.symm;cbv;exact q
def V8{m n:S}(hd:d=bH dC env)(hl:dW env)
 (h:∀r0 a r2,(r0,a,r2)=(match lq env m n with| .nf=>([],[],6)| .loop=>([],[],14)| .wO m' n' _=>(m',n',0)| .val m' n' _=>(m',n',0):S×S×Int)->K (.tup [.str r0,.str a,.int .i64 r2]) []):
 FT 72 [] [.lst 51 d,.str m,.str n] K:=by
 refine en YH Tryz.func72 λA C L X=>?_;cbv;refine X.call (Re hd hl ?_ ?_ ?_ ?_)
 ·intro e;rw[e]at h;have q:=h _ _ _ rfl;cbv;repeat' (first|apply bw|exact zf|(intro J;cbv)|apply bG)
  exact q
 ·intro e;rw[e]at h;have q:=h _ _ _ rfl;cbv;repeat' (first|apply bw|exact zf|(intro J;cbv)|apply bG)
  exact q
 ·intro m' n' x k c1 c2 f j g i p r o b c e l hc;rw[e]at h;have q:=h _ _ _ rfl;cbv;repeat' (first|apply bw|exact zf|(intro J;cbv)|apply bG)
  exact q
 ·intro m' n' x k c1 c2 f j g i e l hc;rw[e]at h;have q:=h _ _ _ rfl;cbv;repeat' (first|apply bw|exact zf|(intro J;cbv)|apply bG)
  exact q
def TC{m n:S}(hd:d=bH dC env)(hl:dW env)
 (h:∀b e1 e2 e3 e4 e5 e6 e7 e8 e9 gD nZ f r2,oA (dD env m n).1 b e1 e2 e3 e4 e5 e6 e7 e8 e9 gD nZ->f=(dD env m n).2.1->r2=(dD env m n).2.2->K (.tup [tv b e1 e2 e3 e4 e5 e6 e7 e8 e9 gD nZ,.str f,.int .i64 r2]) []):
 FT 73 [] [.lst 51 d,.str m,.str n] K:=by
 refine en YG Tryz.func73 λA C L X=>?_;cbv;refine X.call (Re hd hl ?_ ?_ ?_ ?_)
 ·intro e;have a:dD env m n=(TE.zero,[],6):=by unfold dD;rw[show ib env 65 m n=lq env m n from rfl,e]
  rw[a]at h;cbv;repeat' (first|apply bw|exact zf|(intro J;cbv)|apply bG)
  all_goals first
   |exact h _ _ _ _ _ _ _ _ _ _ _ _ _ _ ⟨rfl,rfl,⟨rfl,rfl,rfl,rfl,rfl⟩,rfl,rfl,rfl,rfl,rfl⟩ rfl rfl
   |(exfalso;obtain rfl:=X.a;simp only[SD]at *;omega)
   |(exfalso;obtain rfl:=X.a;simp[fR,fh,dq]at *;done)
   |(exfalso;obtain rfl:=X.a;cases J)
 ·intro e;have a:dD env m n=(TE.zero,[],14):=by unfold dD;rw[show ib env 65 m n=lq env m n from rfl,e]
  rw[a]at h;cbv;repeat' (first|apply bw|exact zf|(intro J;cbv)|apply bG)
  all_goals first
   |exact h _ _ _ _ _ _ _ _ _ _ _ _ _ _ ⟨rfl,rfl,⟨rfl,rfl,rfl,rfl,rfl⟩,rfl,rfl,rfl,rfl,rfl⟩ rfl rfl
   |(exfalso;obtain rfl:=X.a;simp only[SD]at *;omega)
   |(exfalso;obtain rfl:=X.a;simp[fR,fh,dq]at *;done)
   |(exfalso;obtain rfl:=X.a;cases J)
 ·intro m' n' x q c1 c2 k p l o s t r i j e g hc;have a:dD env m n=(x,m',0):=by unfold dD;rw[show ib env 65 m n=lq env m n from rfl,e]
  rw[a]at h;cbv;repeat' (first|apply bw|exact zf|(intro J;cbv)|apply bG)
  all_goals first
   |(exfalso;obtain rfl:=X.a;simp[fR,fh,dq]at *;done)
   |refine X.cut (λ(z:S×D×Int×S×S×D×D×Int×S×S×D×D)=>⟨[(6,.box 0 0),(7,.str m'),(8,.int .i64 0)],[.box [.str z.1,.lst 56 z.2.1,.int .i64 z.2.2.1,.str z.2.2.2.1,.str z.2.2.2.2.1,.lst 29 z.2.2.2.2.2.1,.lst 42 z.2.2.2.2.2.2.1,.int .i64 z.2.2.2.2.2.2.2.1,.str z.2.2.2.2.2.2.2.2.1,.str z.2.2.2.2.2.2.2.2.2.1,.lst 29 z.2.2.2.2.2.2.2.2.2.2.1,.lst 42 z.2.2.2.2.2.2.2.2.2.2.2]]⟩) (λz=>oA x z.1 z.2.1 z.2.2.1 z.2.2.2.1 z.2.2.2.2.1 z.2.2.2.2.2.1 z.2.2.2.2.2.2.1 z.2.2.2.2.2.2.2.1 z.2.2.2.2.2.2.2.2.1 z.2.2.2.2.2.2.2.2.2.1 z.2.2.2.2.2.2.2.2.2.2.1 z.2.2.2.2.2.2.2.2.2.2.2) ?_ ?_
  ·cbv;repeat' (first|apply bw|exact zf|(intro J;cbv)|apply bG|(refine X.call (Uc g hc λb e1 e2 e3 e4 e5 e6 e7 e8 e9 gD nZ c=>?_);cbv))
   all_goals (refine⟨(b,e1,e2,e3,e4,e5,e6,e7,e8,e9,gD,nZ),c,[0],rfl,?_⟩;exact yc)
  ·rintro⟨b,e1,e2,e3,e4,e5,e6,e7,e8,e9,gD,nZ⟩ c;simp only at c;cbv;exact h _ _ _ _ _ _ _ _ _ _ _ _ _ _ c rfl rfl
  all_goals first
   |(exfalso;obtain rfl:=X.a;simp only[SD]at *;omega)
   |(exfalso;obtain rfl:=X.a;simp[fR,fh,dq]at *;done)
   |(exfalso;obtain rfl:=X.a;cases J)
 ·intro m' n' x q c1 c2 k p l o e g hc;have a:dD env m n=(TE.zero,[],6):=by unfold dD;rw[show ib env 65 m n=lq env m n from rfl,e]
  rw[a]at h;cbv;repeat' (first|apply bw|exact zf|(intro J;cbv)|apply bG)
  all_goals first
   |exact h _ _ _ _ _ _ _ _ _ _ _ _ _ _ ⟨rfl,rfl,⟨rfl,rfl,rfl,rfl,rfl⟩,rfl,rfl,rfl,rfl,rfl⟩ rfl rfl
   |(exfalso;obtain rfl:=X.a;simp only[SD]at *;omega)
   |(exfalso;obtain rfl:=X.a;simp[fR,fh,dq]at *;done)
   |(exfalso;obtain rfl:=X.a;cases J)
def W1{m n:S}(hd:d=bH dC env)(hl:dW env)
 (h:∀b e1 e2 e3 e4 e5 e6 f r2,tn (gb env m n).1 b e1 e2 e3 e4 e5 e6->f=(gb env m n).2.1->r2=(gb env m n).2.2->K (.tup [xv b e1 e2 e3 e4 e5 e6,.str f,.int .i64 r2]) []):
 FT 178 [] [.lst 51 d,.str m,.str n] K:=by
 refine en Vw Tryz.func178 λA C L X=>?_;cbv;refine X.call (Re hd hl ?_ ?_ ?_ ?_)
 ·intro e;have a:gb env m n=(VE.zero,[],6):=by unfold gb;rw[show ib env 65 m n=lq env m n from rfl,e]
  rw[a]at h;cbv;repeat' (first|apply bw|exact zf|(intro J;cbv)|apply bG)
  all_goals first
   |exact h _ _ _ _ _ _ _ _ _ ⟨rfl,rfl,rfl,rfl,rfl,rfl,rfl⟩ rfl rfl
   |(exfalso;obtain rfl:=X.a;simp only[SD]at *;omega)
   |(exfalso;obtain rfl:=X.a;simp[fR,fh,dq]at *;done)
   |(exfalso;obtain rfl:=X.a;cases J)
 ·intro e;have a:gb env m n=(VE.zero,[],14):=by unfold gb;rw[show ib env 65 m n=lq env m n from rfl,e]
  rw[a]at h;cbv;repeat' (first|apply bw|exact zf|(intro J;cbv)|apply bG)
  all_goals first
   |exact h _ _ _ _ _ _ _ _ _ ⟨rfl,rfl,rfl,rfl,rfl,rfl,rfl⟩ rfl rfl
   |(exfalso;obtain rfl:=X.a;simp only[SD]at *;omega)
   |(exfalso;obtain rfl:=X.a;simp[fR,fh,dq]at *;done)
   |(exfalso;obtain rfl:=X.a;cases J)
 ·intro m' n' x q c1 c2 k p l o s t r i j e g hc;have a:gb env m n=(VE.zero,[],6):=by unfold gb;rw[show ib env 65 m n=lq env m n from rfl,e]
  rw[a]at h;cbv;repeat' (first|apply bw|exact zf|(intro J;cbv)|apply bG)
  all_goals first
   |exact h _ _ _ _ _ _ _ _ _ ⟨rfl,rfl,rfl,rfl,rfl,rfl,rfl⟩ rfl rfl
   |(exfalso;obtain rfl:=X.a;simp only[SD]at *;omega)
   |(exfalso;obtain rfl:=X.a;simp[fR,fh,dq]at *;done)
   |(exfalso;obtain rfl:=X.a;cases J)
 ·intro m' n' x q c1 c2 k p l o e g hc;have a:gb env m n=(x,m',0):=by unfold gb;rw[show ib env 65 m n=lq env m n from rfl,e]
  rw[a]at h;cbv;repeat' (first|apply bw|exact zf|(intro J;cbv)|apply bG)
  all_goals first
   |(exfalso;obtain rfl:=X.a;simp[fR,fh,dq]at *;done)
   |refine X.cut (λ(z:S×D×Int×S×S×D×D)=>⟨[(6,.box 0 0),(7,.str m'),(8,.int .i64 0)],[.box [.str z.1,.lst 56 z.2.1,.int .i64 z.2.2.1,.str z.2.2.2.1,.str z.2.2.2.2.1,.lst 29 z.2.2.2.2.2.1,.lst 42 z.2.2.2.2.2.2]]⟩) (λz=>tn x z.1 z.2.1 z.2.2.1 z.2.2.2.1 z.2.2.2.2.1 z.2.2.2.2.2.1 z.2.2.2.2.2.2) ?_ ?_
  ·cbv;repeat' (first|apply bw|exact zf|(intro J;cbv)|apply bG|(refine X.call (T0 g hc λb e1 e2 e3 e4 e5 e6 c=>?_);cbv))
   all_goals (refine⟨(b,e1,e2,e3,e4,e5,e6),c,[0],rfl,?_⟩;exact yc)
  ·rintro⟨b,e1,e2,e3,e4,e5,e6⟩ c;simp only at c;cbv;exact h _ _ _ _ _ _ _ _ _ c rfl rfl
  all_goals first
   |(exfalso;obtain rfl:=X.a;simp only[SD]at *;omega)
   |(exfalso;obtain rfl:=X.a;simp[fR,fh,dq]at *;done)
   |(exfalso;obtain rfl:=X.a;cases J)
end
end Go.VC.cK
namespace Go.VC
section
variable {n:S}{env:List IF}
def dp(env:List IF)(t:Ty):Ty×Ty×Int:=
 if t.k≠10 then(Ty.zero,Ty.zero,1)else
 if(dD env t.m t.n).2.2≠0 then(Ty.zero,Ty.zero,(dD env t.m t.n).2.2)else
 if t.ar.length≠(dD env t.m t.n).1.params.length then(Ty.zero,Ty.zero,11)else
 ((dD env t.m t.n).1.lower.sub ((dD env t.m t.n).1.params.map (·.name)) t.ar,(dD env t.m t.n).1.upper.sub ((dD env t.m t.n).1.params.map (·.name)) t.ar,0)
def ug:Ty.le 4294967295 Ty.zero:=.mk _ (by simp[Ty.zero,Ty.ar]) (by simp[Ty.zero,Ty.fl]) (by simp[Ty.zero,Ty.ar]) (by simp[Ty.zero,Ty.fl])
def mY:TE.zero.ok:=⟨by simp[TE.zero],by simp[TE.zero],ug,ug⟩
def La{i:IF}(h:i.ok):(∀x,lj i n= .wO x->x.ok)/\(∀x,lj i n= .val x->x.ok):=by
 unfold lj;constructor<;>intro x
 ·split
  ·rename_i y a;intro e;cases e;exact h.t _ (pq a)
  ·split
   ·intro e;cases e
   ·split<;>(intro e;cases e)
 ·split
  ·intro e;cases e
  ·split
   ·rename_i y a;intro e;cases e;exact h.v _ (pq a)
   ·split<;>(intro e;cases e)
def H7(h:dW env):∀(k:Nat)(m n:S),(∀m' n' x,ib env k m n= .wO m' n' x->x.ok)/\(∀m' n' x,ib env k m n= .val m' n' x->x.ok)
 |0,m,n=>by simp[ib]
 |k+1,m,n=>by
  have hk:=λm n=>H7 h k m n;simp only[ib];unfold j8;cases hf:gu env m with
  |none=>simp
  |some i=>
   have:=La (j9 h hf) (n:=n);simp only;cases hl:lj i n with
   |none=>simp
   |Bi=>simp
   |wO x=>refine⟨λm' n' y e=>?_,λ_ _ _ e=>yC e⟩;cases e;exact this.1 x hl
   |val x=>refine⟨λ_ _ _ e=>(yC e),λm' n' y e=>?_⟩;cases e;exact this.2 x hl
   |Rw x=>exact hk _ _
def Dy(h:dW env){m:S}:(dD env m n).1.ok:=by
 have:=H7 h 65 m n;unfold dD;cases he:ib env 65 m n with
 |wO m' n' x=>exact this.1 _ _ _ he
 |val m' n' x=>exact mY
 |nf=>exact mY
 |loop=>exact mY
end
end Go.VC
namespace Go.VC.cK
open Go Go.VC Go.Proofs
end Go.VC.cK
namespace Go.VC
def fZ(env:List IF)(m n:S):S×S×Int:=match lq env m n with| .nf=>([],[],6)| .loop=>([],[],14)| .wO m' n' _=>(m',n',0)| .val m' n' _=>(m',n',0)
def Gx{i:IF}{n:S}:(∀x,lj i n= .wO x->i.types.find? (λy=>y.name==n)=some x)/\(∀x,lj i n= .val x->i.types.find? (λy=>y.name==n)=none/\i.values.find? (λy=>y.name==n)=some x):=by
 unfold lj;cases h1:i.types.find? (λy=>y.name==n)with
 |some y=>exact⟨λx e=>by cases e;rfl,λx e=>yC e⟩
 |none=>
  cases J:i.values.find? (λy=>y.name==n)with
  |some y=>exact⟨λx e=>(yC e),λx e=>by cases e;exact⟨rfl,rfl⟩⟩
  |none=>
   simp only;cases i.aliases.find? (λy=>y.name==n)with
   |some y=>exact⟨λx e=>(yC e),λx e=>(yC e)⟩
   |none=>exact⟨λx e=>(yC e),λx e=>(yC e)⟩
def sD{env:List IF}:∀(k:Nat)(m n:S),(∀m' n' x,ib env k m n= .wO m' n' x->∃i,gu env m'=some i/\i.types.find? (λy=>y.name==n')=some x)/\(∀m' n' x,ib env k m n= .val m' n' x->∃i,gu env m'=some i/\i.types.find? (λy=>y.name==n')=none/\i.values.find? (λy=>y.name==n')=some x)
 |0,m,n=>by simp[ib]
 |k+1,m,n=>by
  have hk:=λm n=>sD (env:=env) k m n;simp only[ib];unfold j8;cases hf:gu env m with
  |none=>simp
  |some i=>
   have hs:=Gx (i:=i) (n:=n);simp only;cases hl:lj i n with
   |none=>simp
   |Bi=>simp
   |wO x=>refine⟨λm' n' y e=>?_,λ_ _ _ e=>(yC e)⟩;cases e;exact⟨i,hf,hs.1 _ hl⟩
   |val x=>refine⟨λ_ _ _ e=>(yC e),λm' n' y e=>?_⟩;cases e;exact⟨i,hf,hs.2 _ hl⟩
   |Rw x=>exact hk _ _
end Go.VC
namespace Go.VC.cK
open Go Go.VC Go.Proofs
section
variable {env:List IF}{d:D}{K:PV->List Ob->Prop}{m n:S}
def TB(hd:d=bH dC env)(hl:dW env)
 (h:∀r0 v r2,(r0,v,r2)=fZ env m n->K (.tup [.str r0,.str v,.int .i64 r2]) []):
 FT 78 [] [.lst 51 d,.str m,.str n] K:=by
 unfold fZ at h;refine en YB Tryz.func78 λA C L X=>?_;cbv;refine lp X (λy=>y.1<=65/\ib env (65-y.1) y.2.1 y.2.2=lq env m n) (λy=>65-y.1) (0,m,n) ⟨bD _,rfl⟩ (λ(y:Nat×S×S)=>⟨[(9,.int .i64 y.1),(0,.lst 51 d),(1,.str y.2.1),(2,.str y.2.2)],[]⟩) ?_;rintro⟨i,m',n'⟩ ⟨G,a⟩;simp only at G a;cbv;constructor<;>intro h1
 ·have h5:i<65:=by obtain rfl:=X.a;simp only[SD]at h1;omega
  obtain⟨k,hk⟩:∃k,65-i=k+1:=⟨64-i,yO⟩;have s:65-(i+1)=k:=yO;rw[hk]at a;simp only[ib]at a;have t:=jX X.a h5;cbv;refine X.call (Q2 hd hl.1 rfl λH e1 e2 e3 e4 b p hb=>?_);cases hf:gu env m' with
  |none=>
   rw[hf]at hb;obtain rfl:b=false:=hb;rw[show j8 env m' n'= .none by rw[j8,hf]]at a;rw[<- a]at h;have q:=h _ _ _ rfl;cbv;repeat' (first|apply bw|exact zf|(intro J;cbv)|apply bG)
   ·exact q
   ·obtain rfl:=X.a;cases J
  |some x=>
   rw[hf]at hb p;simp only[dQ]at p;obtain rfl:b=true:=hb;have o:=j9 hl hf;have B:j8 env m' n'=lj x n':=by rw[j8,hf]
   rw[B]at a;refine p2 (λJ=>?_) (λJ=>?_)
   ·obtain rfl:=X.a;cases J
   clear J;refine X.call (JV.1 p o.nt rfl λc0 c1 c2 V c4 W c6 O I M E z b1 hc j=>?_);cbv;refine X.call (JV.2.1 p o.nv rfl λP T N U Q R u6 b2 hu g=>?_);cbv;refine X.call (JV.2.2 p o.na rfl λa0 a1 a2 w ha l=>?_);cases c:x.types.find? (λy=>y.name==n')with
   |some y=>
    rw[c]at j;obtain rfl:b1=true:=j;rw[lj,c]at a;rw[<- a]at h;have q:=h _ _ _ rfl;cbv;repeat' (first|apply bw|exact zf|(intro J;cbv)|apply bG)
    all_goals first
     |exact q
     |(exfalso;obtain rfl:=X.a;simp[fR,fh,dq]at *;done)
   |none=>
    rw[c]at j;obtain rfl:b1=false:=j;cases e:x.values.find? (λy=>y.name==n')with
    |some y=>
     rw[e]at g;obtain rfl:b2=true:=g;rw[lj,c]at a;simp only[e]at a;rw[<- a]at h;have q:=h _ _ _ rfl;cbv;repeat' (first|apply bw|exact zf|(intro J;cbv)|apply bG)
     all_goals first
      |exact q
      |(exfalso;obtain rfl:=X.a;simp[fR,fh,dq]at *;done)
    |none=>
     rw[e]at g;obtain rfl:b2=false:=g;cases f:x.aliases.find? (λy=>y.name==n')with
     |none=>
      rw[f]at l;obtain rfl:w=false:=l;rw[lj,c]at a;simp only[e,f]at a;rw[<- a]at h;have q:=h _ _ _ rfl;cbv;repeat' (first|apply bw|exact zf|(intro J;cbv)|apply bG)
      all_goals first
       |exact q
       |(exfalso;obtain rfl:=X.a;simp[fR,fh,dq]at *;done)
     |some y=>
      rw[f]at l ha;obtain rfl:w=true:=l;rw[lj,c]at a;simp only[e,f]at a;simp only[dQ]at ha;obtain⟨F,r,u⟩:=ha;cbv;repeat' (first|apply bw|exact zf|(intro J;cbv)|apply bG)
      all_goals first
       |exact t
       |(exfalso;obtain rfl:=X.a;simp[fR,fh,dq]at *;done)
       |(refine⟨(i+1,y.module,y.target),⟨?_,?_⟩,?_,?_⟩)
      ·simp only;omega
      ·simp only[s];exact a
      ·simp only;omega
      ·rw[<- r,<-u];exact yc
 ·have h5:i=65:=by obtain rfl:=X.a;simp only[SD]at h1;omega
  subst h5;rw[<- a]at h;have q:=h _ _ _ rfl;cbv;exact q
def TF(hd:d=bH dC env)(hl:dW env)
 (h:∀p e1 e2 e3 e4 e5 e6 e7 e8 e9 gD nZ q r2,oA (dD env m n).1 p e1 e2 e3 e4 e5 e6 e7 e8 e9 gD nZ->q=(dD env m n).2.1->r2=(dD env m n).2.2->K (.tup [tv p e1 e2 e3 e4 e5 e6 e7 e8 e9 gD nZ,.str q,.int .i64 r2]) []):
 FT 49 [] [.lst 51 d,.str m,.str n] K:=by
 have o:=sD (env:=env) 65 m n;refine en (cf 45) Tryz.func49 λA C L X=>?_;cbv;refine X.call (TB hd hl λr0 q r2 hr=>?_);unfold fZ at hr;have bad:∀(e:Int),e≠0->dD env m n=(TE.zero,[],e)->(r0,q,r2)=(([],[],e):S×S×Int)->A.eq r2 0=false/\K (.tup [tv [] (.list []) 0 [] [] (.list []) (.list []) 0 [] [] (.list []) (.list []),.str [],.int .i64 r2]) []:=by intro e h0 k c;simp only[ey]at c;obtain⟨rfl,rfl,rfl⟩:=c;rw[k]at h;refine⟨?_,h _ _ _ _ _ _ _ _ _ _ _ _ _ _ ⟨rfl,rfl,⟨rfl,rfl,rfl,rfl,rfl⟩,rfl,rfl,rfl,rfl,rfl⟩ rfl rfl⟩;rw[X.a,fR];simpa using h0
 cases c:lq env m n with
 |nf=>
  rw[c]at hr;obtain⟨g1,g2⟩:=bad 6 yS (by unfold dD;rw[show ib env 65 m n=lq env m n from rfl,c]) hr;cbv;repeat' (first|apply bw|exact zf|(intro J;cbv)|apply bG)
  all_goals first
   |exact g2
   |(exfalso;rw[g1]at J;obtain rfl:=X.a;simp[fR,fh,dq]at *;done)
 |loop=>
  rw[c]at hr;obtain⟨g1,g2⟩:=bad 14 yS (by unfold dD;rw[show ib env 65 m n=lq env m n from rfl,c]) hr;cbv;repeat' (first|apply bw|exact zf|(intro J;cbv)|apply bG)
  all_goals first
   |exact g2
   |(exfalso;rw[g1]at J;obtain rfl:=X.a;simp[fR,fh,dq]at *;done)
 |wO m' n' x=>
  rw[c]at hr;simp only[ey]at hr;obtain⟨g,j,r⟩:=hr;obtain⟨i,l,u⟩:=o.1 m' n' x c;have k:dD env m n=(x,m',0):=by unfold dD;rw[show ib env 65 m n=lq env m n from rfl,c]
  rw[k,<-g]at h;clear bad;refine p2 (λJ=>?_) (λJ=>?_)
  ·exfalso;obtain rfl:=X.a;simp only[SD]at J;omega
  refine X.call (Q2 hd hl.1 g λp e1 e2 e3 e4 b a hb=>?_);rw[l]at a hb;simp only[dQ]at a;cbv;refine X.call (JV.1 a (j9 hl l).nt j λG c1 c2 z F B E y v w t s b1 hc f=>?_);rw[u]at hc f;simp only[dQ]at hc;obtain rfl:b1=true:=f;clear hb;refine p2 (λJ=>?_) (λJ=>?_)
  ·exfalso;obtain rfl:=X.a;simp[fh]at*
  exact h _ _ _ _ _ _ _ _ _ _ _ _ _ _ hc rfl rfl
 |val m' n' x=>
  rw[c]at hr;simp only[ey]at hr;obtain⟨g,j,r⟩:=hr;obtain⟨i,l,u,H⟩:=o.2 m' n' x c;have k:dD env m n=(TE.zero,[],6):=by unfold dD;rw[show ib env 65 m n=lq env m n from rfl,c]
  rw[k]at h;clear bad;refine p2 (λJ=>?_) (λJ=>?_)
  ·exfalso;obtain rfl:=X.a;simp only[SD]at J;omega
  refine X.call (Q2 hd hl.1 g λp e1 e2 e3 e4 b a hb=>?_);rw[l]at a hb;simp only[dQ]at a;cbv;refine X.call (JV.1 a (j9 hl l).nt j λG c1 c2 z F B E y v w t s b1 hc f=>?_);rw[u]at hc f;obtain rfl:b1=false:=f;clear hb;refine p2 (λJ=>?_) (λJ=>?_)
  ·exact h _ _ _ _ _ _ _ _ _ _ _ _ _ _ ⟨rfl,rfl,⟨rfl,rfl,rfl,rfl,rfl⟩,rfl,rfl,rfl,rfl,rfl⟩ rfl rfl
  ·exfalso;obtain rfl:=X.a;simp[fh]at*
def Wi{t:Ty}{E:Int}{c1 c2:S}{x B:D}(hd:d=bH dC env)(hl:dW env)(u:Ty.le 4294967295 t)(G:cD t E c1 c2 x B)
 (h:∀k e1 e2 e3 e4 g0 g1 g2 g3 g4 r,cD (dp env t).1 k e1 e2 e3 e4->cD (dp env t).2.1 g0 g1 g2 g3 g4->r=(dp env t).2.2->K (.tup [df k e1 e2 e3 e4,df g0 g1 g2 g3 g4,.int .i64 r]) []):
 FT 28 [] [.lst 51 d,df E c1 c2 x B] K:=by
 obtain⟨I,M,F,c,N⟩:=G;have i:=pO u;have j:=Dy hl (m:=t.m) (n:=t.n);unfold dp at h;rw[<- I]at h;rw[<- M,<-F]at h j;obtain⟨R,z⟩:∃R,R=dD env c1 c2:=⟨_,rfl⟩;rw[<- z]at h j;have e:=j.np;refine en YZ Tryz.func28 λA C L X=>?_;obtain⟨w,p,a⟩:=lenOf c;cbv;repeat' (first|apply bw|exact zf|(intro J;cbv)|apply bG)
 ·rw[if_pos (by obtain rfl:=X.a;simp only[SD]at J;exact J)]at h;exact h _ _ _ _ _ _ _ _ _ _ _ ⟨rfl,rfl,rfl,rfl,rfl⟩ ⟨rfl,rfl,rfl,rfl,rfl⟩ rfl
 rw[if_neg (by obtain rfl:=X.a;simp only[SD]at J;simp[J])]at h;clear J;refine X.call (TF hd hl λk e1 e2 e3 e4 e5 e6 e7 e8 e9 gD nZ P r2 y q f=>?_);rw[<- z]at y q f;rw[<- f]at h;obtain⟨V,a1,l,o⟩:=y;obtain⟨v,s,b⟩:=lenOf a1;cbv;repeat' (first|apply bw|exact zf|(intro J;cbv)|apply bG)
 ·rw[if_pos (by obtain rfl:=X.a;simp only[SD]at J;omega)]at h;exact h _ _ _ _ _ _ _ _ _ _ _ ⟨rfl,rfl,rfl,rfl,rfl⟩ ⟨rfl,rfl,rfl,rfl,rfl⟩ rfl
 ·rename_i g0;rw[if_neg (by obtain rfl:=X.a;simp only[SD,dq]at g0;simp[g0]),if_pos (by obtain rfl:=X.a;simp only[a,b,SD,dq]at J;omega)]at h;exact h _ _ _ _ _ _ _ _ _ _ _ ⟨rfl,rfl,rfl,rfl,rfl⟩ ⟨rfl,rfl,rfl,rfl,rfl⟩ rfl
 rename_i g0;have g:t.ar.length=R.1.params.length:=by obtain rfl:=X.a;simp only[a,b,SD,dq]at J;omega
 rw[if_neg (by obtain rfl:=X.a;simp only[SD,dq]at g0;simp[g0]),if_neg (by simp[g])]at h;clear g0 J;refine X.call (Uw a1 e λr hr=>?_);refine p1 ?_;refine X.call (XZ hr c (yU e) i _ j.lo l λg0 g1 g2 g3 g4 H=>?_);refine p1 ?_;refine X.call (XZ hr c (yU e) i _ j.up o λT O W Q U hk=>?_);refine p1 ?_;exact h _ _ _ _ _ _ _ _ _ _ _ H hk rfl
end
end Go.VC.cK
namespace Go.Proofs
open Go.Shelf
def Tryz.Ez:Go.Shelf.Ren:=⟨fun|106=>312|213=>319|265=>322|n=>n,fun|9=>9|3=>3|n=>n,fun|n=>n⟩
def Tryz.N6:Go.Proofs.Lays.n106 Tryz.prog Tryz.Ez:=by constructor<;>first|kernel_rfl|(intro w;kernel_rfl)
open Go.RowKit in
def Tryz.strings_Compare(a b:ByteArray)(w:World):
 Calls Tryz.prog 312 #[.string a,.string b] w λe w'=>e= .returned (.int .i64 (Lib.compareBytes a.data.toList b.data.toList))/\w'=w:=Any.strings_Compare Tryz.N6 a b w
def Tryz.EA:Go.Shelf.Ren:=⟨fun|103=>254|210=>290|206=>310|n=>n,fun|9=>9|4=>4|24=>247|3=>3|n=>n,fun|n=>n⟩
def Tryz.N7:Go.Proofs.Lays.n103 Tryz.prog Tryz.EA:=by constructor<;>first|kernel_rfl|(intro w;kernel_rfl)
open Go.RowKit in
def Tryz.strings_CutPrefix(s p:ByteArray)(w:World):
 Calls Tryz.prog 254 #[.string s,.string p] w λe w'=>e= .returned (.tuple #[.string ⟨(Lib.trimPrefix s.data.toList p.data.toList).toArray⟩,.bool (Lib.hasPrefix s.data.toList p.data.toList)])/\w'=w:=Any.strings_CutPrefix Tryz.N7 s p w
def Tryz.Ey:Go.Shelf.Ren:=⟨fun|121=>108|214=>153|n=>n,fun|4=>4|9=>9|n=>n,fun|n=>n⟩
def Tryz.N5:Go.Proofs.Lays.n121 Tryz.prog Tryz.Ey:=by constructor<;>first|kernel_rfl|(intro w;kernel_rfl)
open Go.RowKit in
def Tryz.strconv_FormatBool(b:Bool)(w:World):
 Calls Tryz.prog 108 #[.bool b] w λe w'=>e= .returned (.string ⟨(Lib.formatBool b).toArray⟩)/\w'=w:=Any.strconv_FormatBool Tryz.N5 b w
def Tryz.CC:Go.Shelf.Ren:=⟨fun|171=>106|243=>152|246=>202|283=>246|284=>247|285=>248|286=>249|129=>243|317=>283|318=>284|319=>285|320=>286|337=>304|338=>305|n=>n,fun|3=>3|9=>9|2=>2|4=>4|171=>289|0=>0|53=>287|37=>114|5=>5|173=>291|212=>316|51=>285|20=>20|213=>317|46=>243|232=>333|233=>334|n=>n,fun|17=>0|18=>1|19=>2|n=>n⟩
def Tryz.Lm:Go.Proofs.LaysM.n171 Tryz.prog Tryz.CC:=by constructor<;>first|kernel_rfl|(intro w;kernel_rfl)|(constructor<;>first|kernel_rfl|(intro w;kernel_rfl))
open Go.RowKit Go.Sort Go.Lib in
def Tryz.strconv_Itoa(n:Int)(h0: -9223372036854775808<=n)(h1:n<=9223372036854775807)(w:World)(a:Lib.TabIs Tryz.prog w "internal/strconv.uint64pow10" .u64 Lib.pow10Tab):
 Calls Tryz.prog 106 #[.int .i64 n] w λe w'=>e= .returned (.string ⟨(Lib.itoa n).toArray⟩)/\∃k os,w'=grow (w.drewN k) os:=Any.strconv_Itoa Tryz.Lm n h0 h1 w a
def Tryz.Eu:Go.Shelf.Ren:=⟨fun|171=>106|243=>152|246=>202|283=>246|284=>247|285=>248|286=>249|129=>243|317=>283|318=>284|319=>285|320=>286|337=>304|338=>305|n=>n,fun|3=>3|9=>9|2=>2|4=>4|171=>289|0=>0|53=>287|37=>114|5=>5|173=>291|212=>316|51=>285|20=>20|213=>317|46=>243|232=>333|233=>334|n=>n,fun|17=>0|18=>1|19=>2|n=>n⟩
def Tryz.N1:Go.Proofs.Lays.n171 Tryz.prog Tryz.Eu:=by constructor<;>first|kernel_rfl|(intro w;kernel_rfl)
open Go.RowKit Go.Sort Go.Lib in
def Tryz.strconv_Itoa_small(i:Nat)(a:i<100)(w:World):
 Calls Tryz.prog 106 #[.int .i64 i] w λe w'=>e= .returned (.string ⟨(Lib.decDigits i).toArray⟩)/\w'=w:=Any.strconv_Itoa_small Tryz.N1 i a w
def Tryz.Ew:Go.Shelf.Ren:=⟨fun|144=>255|143=>289|219=>309|217=>315|225=>316|224=>317|267=>318|266=>320|314=>321|n=>n,fun|9=>9|4=>4|3=>3|5=>5|46=>243|146=>339|51=>285|n=>n,fun|1=>3|n=>n⟩
def Tryz.N4:Go.Proofs.Lays.n144 Tryz.prog Tryz.Ew:=by constructor<;>first|kernel_rfl|(intro w;kernel_rfl)
open Go.RowKit Go.Lib in
def Tryz.strings_Contains(s sub:ByteArray)(m:Int)(w:World)(hs:s.size<4294967281)(a:w.cell? ⟨3,0,none⟩=some (.int .i64 m)):
 Calls Tryz.prog 255 #[.string s,.string sub] w λe w'=>e= .returned (.bool (Lib.contains s.data.toList sub.data.toList))/\w'=w:=Any.strings_Contains Tryz.N4 s sub m w hs a
def Tryz.Ev:Go.Shelf.Ren:=⟨fun|146=>211|221=>253|268=>287|138=>288|143=>289|195=>306|197=>307|218=>308|219=>309|260=>314|217=>315|225=>316|224=>317|267=>318|266=>320|314=>321|n=>n,fun|9=>9|31=>59|3=>3|4=>4|0=>0|105=>329|21=>21|5=>5|46=>243|119=>335|139=>338|138=>337|146=>339|51=>285|n=>n,fun|1=>3|3=>4|4=>5|n=>n⟩
def Tryz.N3:Go.Proofs.Lays.n146 Tryz.prog Tryz.Ev:=by constructor<;>first|kernel_rfl|(intro w;kernel_rfl)
open Go.RowKit Go.Lib in
def Tryz.strings_Split(s sep:ByteArray)(m:Int)(w:World)(hs:s.size<4294967281)(a:w.cell? ⟨3,0,none⟩=some (.int .i64 m))(h1:1<=sep.size):
 Calls Tryz.prog 211 #[.string s,.string sep] w λe w'=>e= .returned (.slice (some ⟨w.heap.size,0,none⟩) (Lib.countB s sep+1) (Lib.countB s sep+1))/\w'=w.alloc (.cells ((Lib.splitB sep 0 (Lib.countB s sep) s).map Value.string).toArray 9):=Any.strings_Split Tryz.N3 (by kernel_rfl) s sep m w hs a h1
def Tryz.CD:Go.Shelf.Ren:=⟨fun|4=>179|n=>n,fun|22=>59|25=>9|3=>3|4=>4|9=>9|20=>20|0=>0|n=>n,fun|n=>n⟩
def Tryz.Es:Go.Proofs.Lays8.n4 Tryz.prog Tryz.CD:=by constructor<;>first|kernel_rfl|(intro w;kernel_rfl)|exact⟨Tryz.f179.name,by decide,by kernel_rfl⟩
end Go.Proofs
namespace Go.VC
open Go
section
section
variable {P:Program}{tt:TypeId->Option TI}{f:FuncId}{args:List PV}{K:PV->List Ob->Prop}
def FC.plain(g:∀args w,(callFunc f args).run P w= .ok (.enter f args) w)
 (h:∀E Pp w vals,WR tt E Pp [] w->fe tt E Pp vals args->Calls P f ⟨vals⟩ w λe w'=>w'=w/\∃v pv,e= .returned v/\VR tt E Pp v pv/\K pv []):FC P tt f [] args K:=by
 intro E Pp w vals d k;refine .inl ⟨g _ _,(h E Pp w vals d k).mono ?_⟩;rintro e w' ⟨rfl,v,pv,rfl,c,hk⟩;exact⟨v,E,Pp,[],pv,rfl,.refl _,λ_ _ h=>h,d,c,hk,Fr.refl _ _,λ_ _ h=>.inl h,λi o ri b j=>yE j⟩
def FC.newRow{e:TypeId}{rows:List (List D)}(u:∀args w,(callFunc f args).run P w= .ok (.enter f args) w)
 (h:∀E Pp w vals,WR tt E Pp [] w->fe tt E Pp vals args->Calls P f ⟨vals⟩ w λt w'=>∃us q cap,t= .returned (.slice (some ⟨w.heap.size,0,none⟩) rows.length cap)/\w'=(w.drewN q).alloc (.cells ⟨us⟩ e)/\rows.length<=cap/\
   cap*(bV tt e).length<=us.length/\xr tt Pp e us 0 rows) (B:K (.row e 0) [.row e (.list rows) true]):FC P tt f [] args K:=by
 intro E Pp w vals l z;refine .inl ⟨u _ _,(h E Pp w vals l z).mono ?_⟩;rintro t w' ⟨us,q,cap,rfl,rfl,n,s,ef⟩;have r:E=[]:=cz (by have:=l.len;simpa using this);subst r;have d:(w.drewN q).heap=w.heap:=rfl;have p:((w.drewN q).alloc (.cells ⟨us⟩ e)).heap[w.heap.size]? =some (.cells ⟨us⟩ e (0,0)):=by show (((w.drewN q).heap).push _)[w.heap.size]? =_;rw[d];simp
 have c:∀k,k<w.heap.size->((w.drewN q).alloc (.cells ⟨us⟩ e)).heap[k]? =w.heap[k]? :=by intro k hk;show (((w.drewN q).heap).push _)[k]? =_;rw[d,Array.getElem?_push,if_neg yO]
 have g:∀ad v,Pp ad v->ad.block≠w.heap.size:=l9 l;refine⟨_,[.row w.heap.size 0 rows.length cap],Pp,[.row e (.list rows) true],.row e 0,rfl,λi x F=>yE F,λ_ _ h=>h,?_,.row _ _ _ _ _ _ rfl,B,?_,λ_ _ h=>.inl h,?_⟩
 ·refine⟨rfl,?_,?_,?_,l.gl⟩
  ·intro ad v y;have:=l.pi ad v y;rw[iu (c _ (yT this))];exact this
  ·intro i o m hl;cases i with
   |succ i=>simp at m
   |zero=>simp at m;subst m;refine⟨_,rfl,us,e,rows,p,rfl,rfl,n,by rw[fk];exact s,ef,λ_=>g,λh=>yC h⟩
  ·intro i j oi oj ri rj b C A _ _ _ _ _ _;cases i<;>cases j<;>simp at C A ⊢
 ·refine⟨rfl,rfl,rfl,?_,?_,λk hk _=>c k hk⟩
  ·show w.heap.size<=((w.drewN q).heap.push _).size;rw[d];simp
  ·show w.drawn<=(w.drewN q).drawn;simp[World.drewN]
 ·intro i o ri b m hl hr hb;cases i with
  |succ i=>simp at m
  |zero=>simp at hr;subst hr;simp[RI.du]at hb;subst hb;exact .inl (ca _)
end
def gi:S->List S
 |[]=>[[]]
 |c::l=>if c=47 then []::gi l else match gi l with|[]=>[[c]]|x::xs=>(c::x)::xs
def vX:∀{l:S},Lib.indexByte l 47= -1->gi l=[l]
 |[],_=>rfl
 |c::l,h=>by
  unfold Lib.indexByte at h;by_cases hc:c=47
  ·subst hc;simp at h
  ·rw[if_neg (yU hc)]at h
   have:Lib.indexByte l 47= -1:=by
    have:=Lib.indexByte_ge l 47;split at h
    ·rename_i J;simpa using J
    ·omega
   simp[gi,hc,vX this]
def DS:∀{l:S}{i:Nat},Lib.indexByte l 47=(i:Int)->gi l=l.take i::gi (l.drop (i+1))
 |[],i,h=>by simp[Lib.indexByte]at h
 |c::l,i,h=>by
  unfold Lib.indexByte at h;by_cases hc:c=47
  ·subst hc;have:i=0:=by simp at h;omega
   subst this;simp[gi]
  ·rw[if_neg (yU hc)]at h;split at h
   ·omega
   ·rename_i J;cases i with
    |zero=>have:=Lib.indexByte_ge l 47;have J:Lib.indexByte l 47≠ -1:=yU J;omega
    |succ i=>have:=DS (l:=l) (i:=i) yO;simp[gi,hc,this]
def FN(sep:ByteArray)(d:sep.data.toList=[47]):∀(k:Nat)(s:ByteArray),Lib.countB s sep<=k->(Lib.splitB sep 0 k s).map (·.data.toList)=gi s.data.toList:=by
 have fL:sep.size=1:=by rw[Lib.size_eq,d];rfl
 have c:∀s,Lib.indexB s sep=Lib.indexByte s.data.toList 47:=λs=>by rw[Lib.one s sep fL];have h0:=Lib.data_getElem? sep 0 yO;rw[d]at h0;simp at h0;rw[<- h0];rfl
 intro k;induction k with
 |zero=>
  intro s h;rw[Lib.splitB_zero];rcases Lib.indexB_cases s sep with h1|⟨i,h1,_⟩
  ·rw[c]at h1;rw[vX h1];rfl
  ·have:=Lib.countB_hit s sep i yO h1;omega
 |succ k e=>
  intro s h;rcases Lib.indexB_cases s sep with h1|⟨i,h1,J⟩
  ·rw[Lib.splitB_miss _ _ _ _ h1];rw[c]at h1;rw[vX h1];rfl
  ·have:=Lib.countB_hit s sep i yO h1;rw[Lib.splitB_hit _ _ _ _ _ h1,bO,e _ yO,iS,Lib.extract_from_zero];rw[c]at h1;rw[DS h1,fL]
   congr 2
   simp only[ByteArray.data_extract,Array.toList_extract,List.extract_eq_drop_take];rw[cG];rw[mL,Lib.size_eq];exact ca _
end
end Go.VC
namespace Go.VC.cK
open Go Go.VC Go.Proofs
section
variable {K:PV->List Ob->Prop}{a b:S}
def Pw:wC tt=some 3:=by kernel_rfl
def Wb(h:∀r:Int,r=Lib.compareBytes a b->K (.int .i64 r) []):FT 312 [] [.str a,.str b] K:=by
 refine FC.plain (enters_of Tryz.func312 (by kernel_rfl) rfl) λE Pp w vals d c=>?_;cases c with|cons _ _ _ _ h1 c=>cases c with|cons _ _ _ _ J c=>
 cases c;cases h1;cases J;exact(Tryz.strings_Compare _ _ w).mono λe w' ⟨h1,J⟩=>⟨J,_,_,h1,.int _ _,h _ rfl⟩
def Wu(h:∀(r:S)(b':Bool),r=Lib.trimPrefix a b->b'=Lib.hasPrefix a b->K (.tup [.str r,.bool b']) []):FT 254 [] [.str a,.str b] K:=by
 refine FC.plain (enters_of Tryz.func254 (by kernel_rfl) rfl) λE Pp w vals d c=>?_;cases c with|cons _ _ _ _ h1 c=>cases c with|cons _ _ _ _ J c=>
 cases c;cases h1;cases J;exact(Tryz.strings_CutPrefix _ _ w).mono λe w' ⟨h1,J⟩=>⟨J,_,_,h1,.tup _ _ (.cons _ _ _ _ (.str _) (.cons _ _ _ _ (.bool _) .nil)),h _ _ rfl rfl⟩
def Xw{i:Nat}(d:i<100)(h:∀r:S,r=Lib.decDigits i->K (.str r) []):FT 106 [] [.int .i64 (br i)] K:=by
 refine FC.plain (enters_of Tryz.func106 (by kernel_rfl) rfl) λE Pp w vals g c=>?_;cases c with|cons _ _ _ _ h1 c=>
 cases c;cases h1;exact(Tryz.strconv_Itoa_small i d w).mono λe w' ⟨h1,J⟩=>⟨J,_,_,h1,.str _,h _ rfl⟩
def Ws(ha:a.length<4294967281)(h:∀r:Bool,r=Lib.contains a b->K (.bool r) []):FT 255 [] [.str a,.str b] K:=by
 refine FC.plain (enters_of Tryz.func255 (by kernel_rfl) rfl) λE Pp w vals d c=>?_;obtain⟨m,g⟩:=d.gl.1 3 Pw;cases c with|cons _ _ _ _ h1 c=>cases c with|cons _ _ _ _ J c=>
 cases c;cases h1;cases J;exact(Tryz.strings_Contains _ _ m w (by rw[Lib.size_eq];exact ha) (d.Ph g)).mono λe w' ⟨h1,J⟩=>⟨J,_,_,h1,.bool _,h _ rfl⟩
def Mb:bV tt 9=[.str]:=by kernel_rfl
def FX{Pp:ga}{bs:List ByteArray}{zs:List Value}:xr tt Pp 9 (bs.map Value.string++zs) 0 ((bs.map λb=>b.data.toList).map encS):=by
 intro i row e;rw[cw,cw]at e;cases g:bs[i]? with
 |none=>rw[g]at e;cases e
 |some b=>
  rw[g]at e;cases e;rw[Mb];refine⟨rfl,λj d ck h c=>?_⟩;cases j with
  |succ j=>simp at c
  |zero=>simp[encS]at h c;subst h c;have e:=(dF.1 g).1;refine⟨.string b,?_,.str b⟩;rw[bU (by simp;exact e)];simp[g]
def WI(ha:a.length<4294967281)(h:∀d,d=bH encS (gi a)->K (.row 9 0) [.row 9 d true]):FT 211 [] [.str a,.str [47]] K:=by
 refine FC.newRow (e:=9) (rows:=(gi a).map encS) (enters_of Tryz.func211 (by kernel_rfl) rfl) (λE Pp w vals i g=>?_) (h _ rfl);obtain⟨m,j⟩:=i.gl.1 3 Pw;cases g with|cons v1 _ _ _ h1 g=>cases g with|cons v2 _ _ _ J g=>
 cases g;obtain⟨s,rfl,hs⟩:∃b,v1= .string b/\a=b.data.toList:=by cases h1;exact⟨_,rfl,rfl⟩
 obtain⟨sep,rfl,c⟩:∃b,v2= .string b/\[47]=b.data.toList:=by generalize ([47]:S)=z at J;cases J;exact⟨_,rfl,rfl⟩
 subst hs;have fL:sep.size=1:=by rw[Lib.size_eq,<-c];rfl
 refine(Tryz.strings_Split s sep m w (by rw[Lib.size_eq];exact ha) (i.Ph j) yO).mono ?_;rintro e w' ⟨rfl,rfl⟩;have e1:=FN sep c.symm (Lib.countB s sep) s (ca _);have e2:((Lib.splitB sep 0 (Lib.countB s sep) s)).length=Lib.countB s sep+1:=Lib.splitB_all sep yO 0 _ s rfl;have e3:(gi s.data.toList).length=Lib.countB s sep+1:=by rw[<- e1,bQ,e2]
 refine⟨(Lib.splitB sep 0 (Lib.countB s sep) s).map Value.string,0,Lib.countB s sep+1,?_,rfl,?_,?_,?_⟩
 ·rw[bQ,e3]
 ·rw[bQ,e3];exact ca _
 ·rw[Mb,bQ,e2];simp
 ·have:=FX (Pp:=Pp) (bs:=Lib.splitB sep 0 (Lib.countB s sep) s) (zs:=[]);rw[e1,cA]at this;exact this
end
end Go.VC.cK
namespace Go.VC
section
variable {p:Int->Bool}{s:S}{i:Nat}
def pS(c:Int):Bool:=decide (97<=c)&&decide (c<=122)
def Jz(c:Int):Bool:=decide (65<=c)&&decide (c<=90)
def lQ(c:Int):Bool:=decide (48<=c)&&decide (c<=57)
def n5(c:Int):Bool:=pS c||Jz c||lQ c||c==95
def FQ(c:Int):Bool:=pS c||lQ c
def jJ(p:Int->Bool)(s:S):Bool:=s.all λc=>p (c.toNat:Int)
def wI(h:i<s.length)(ha:jJ p (s.take i)=true)(a:p (s[i].toNat:Int)=true):jJ p (s.take (i+1))=true:=pA h ha a
def tT(h:i<s.length)(a:p (s[i].toNat:Int)=false):jJ p s=false:=all_false h a
end
end Go.VC
namespace Go.VC.cK
open Go Go.VC Go.Proofs
section
variable {c:Int}{K:PV->List Ob->Prop}
def Q5(h:∀b,b=pS c->K (.bool b) []):FT 215 [] [.int .u8 c] K:=by
 refine en (cf 9) Tryz.func215 λA C L X=>?_;cbv;repeat' (first|apply bw|exact zf|(intro J;cbv)|apply bG)
 all_goals (refine h _ ?_;obtain rfl:=X.a;simp only[SD]at *;simp[pS,J])
def TQ(h:∀b,b=Jz c->K (.bool b) []):FT 217 [] [.int .u8 c] K:=by
 refine en (cf 9) Tryz.func217 λA C L X=>?_;cbv;repeat' (first|apply bw|exact zf|(intro J;cbv)|apply bG)
 all_goals (refine h _ ?_;obtain rfl:=X.a;simp only[SD]at *;simp[Jz,J])
def Q4(h:∀b,b=lQ c->K (.bool b) []):FT 216 [] [.int .u8 c] K:=by
 refine en (cf 9) Tryz.func216 λA C L X=>?_;cbv;repeat' (first|apply bw|exact zf|(intro J;cbv)|apply bG)
 all_goals (refine h _ ?_;obtain rfl:=X.a;simp only[SD]at *;simp[lQ,J])
def WE(h:∀b,b=n5 c->K (.bool b) []):FT 218 [] [.int .u8 c] K:=by
 refine en (cf 17) Tryz.func218 λA C L X=>?_;cbv;refine X.call (Q5 λb1 a=>?_);cbv;repeat' (first|apply bw|exact zf|(intro J;cbv)|apply bG|(refine X.call (TQ λb2 e=>?_);cbv)|(refine X.call (Q4 λf d=>?_);cbv))
 all_goals (refine h _ ?_;obtain rfl:=X.a;simp only[SD,fR]at *;simp_all[n5])
def WG(h:∀b,b=FQ c->K (.bool b) []):FT 214 [] [.int .u8 c] K:=by
 refine en (cf 9) Tryz.func214 λA C L X=>?_;cbv;refine X.call (Q5 λb1 d=>?_);cbv;repeat' (first|apply bw|exact zf|(intro J;cbv)|apply bG|(refine X.call (Q4 λe a=>?_);cbv))
 all_goals (refine h _ ?_;obtain rfl:=X.a;(try simp only[SD]at J);simp_all[FQ])
def NV:(∀{s:S}(hs:s.length<=4294967295){K:PV->List Ob->Prop}(h:∀ b,b=jJ FQ s->K (.bool b) []),FC Tryz.prog tt 213 [] [.str s,.cy 214 []] K)/\
 (∀{s:S}(hs:s.length<=4294967295){K:PV->List Ob->Prop}(h:∀ b,b=jJ lQ s->K (.bool b) []),FC Tryz.prog tt 213 [] [.str s,.cy 216 []] K)/\
 (∀{s:S}(hs:s.length<=4294967295){K:PV->List Ob->Prop}(h:∀ b,b=jJ n5 s->K (.bool b) []),FC Tryz.prog tt 213 [] [.str s,.cy 218 []] K):=by
 refine⟨?_,?_,?_⟩;have l:=trivial
 rotate_left
 have k:=trivial
 rotate_left
 have m:=trivial
 rotate_left
 all_goals (
  intro s hs K h;refine FC.enter (G:=cf 18) eX mixed ⟨Tryz.func213,by rfl,rfl⟩ rfl rfl rfl ?_;intro A C L X;obtain⟨n,j⟩:∃n,n=s.length:=⟨_,rfl⟩;have a:A.dz s=br n:=by rw[X.a,j];rfl
  cbv
  first
   |(have e:=l
     refine X.loop (λ(i:Nat)=>⟨[(8,.int .i64 i),(7,.int .i64 (A.dz s)),(1,.cy 214 []),(0,.str s)],[]⟩)
      (λi=>i<=n/\jJ FQ (s.take i)=true) (λi=>n-i) 0 ⟨bD _,rfl⟩ ?_ ?_)
   |(have e:=k
     refine X.loop (λ(i:Nat)=>⟨[(8,.int .i64 i),(7,.int .i64 (A.dz s)),(1,.cy 216 []),(0,.str s)],[]⟩)
      (λi=>i<=n/\jJ lQ (s.take i)=true) (λi=>n-i) 0 ⟨bD _,rfl⟩ ?_ ?_)
   |(refine X.loop (λ(i:Nat)=>⟨[(8,.int .i64 i),(7,.int .i64 (A.dz s)),(1,.cy 218 []),(0,.str s)],[]⟩)
      (λi=>i<=n/\jJ n5 (s.take i)=true) (λi=>n-i) 0 ⟨bD _,rfl⟩ ?_ ?_)
  ·(cbv;repeat' apply bw);all_goals try first|trivial|rfl|(rw[X.a];rfl)
  rintro i ⟨o,ha⟩;cbv;refine⟨λh1=>?_,λh1=>?_⟩
  ·have h5:i<s.length:=by obtain rfl:=X.a;simp only[SD,dq]at h1 a;omega
   have g:A.idx (br i) (A.dz s):=by rw[a,X.a,j];exact⟨cW _,jy.2 h5⟩
   have f:A.inr .i64 (A.add (br i) 1):=by rw[X.a];exact ek h5 (by omega)
   have d:A.iZ s (br i)=(s[i].toNat:Int):=by rw[X.a];simp[Std,ec,cj,h5]
   have Y:=fz X.a;cbv;repeat' (first|apply bw|exactλ(_:FF)=>by kernel_rfl|(intro J;cbv)|apply bG)
   any_goals exact g
   first
    |(have e:=l
      refine X.call (WG λb hb=>?_);have hb:b=FQ (A.iZ s (br i)):=hb)
    |(have e:=k
      refine X.call (Q4 λb hb=>?_);have hb:b=lQ (A.iZ s (br i)):=hb)
    |(refine X.call (WE λb hb=>?_)
      have hb:b=n5 (A.iZ s (br i)):=hb)
   rw[d]at hb;cbv;repeat' (first|apply bw|exactλ(_:FF)=>by kernel_rfl|(intro J;cbv)|apply bG)
   any_goals exact f
   ·exact h _ (by
     have J:A.not b=true:=by assumption
     have J:=(Y b).symm.trans J;rw[tT h5];rw[<- hb];simpa using J)
   ·refine⟨i+1,⟨?_,?_⟩,?_,?_⟩
    ·omega
    ·exact wI h5 ha (by
      have J:A.not b=false:=by assumption
      have J:=(Y b).symm.trans J;rw[<- hb];simpa using J)
    ·omega
    (cbv;repeat' apply bw);all_goals try first|trivial|rfl|(rw[X.a];rfl)
  ·have h5:i=n:=by obtain rfl:=X.a;simp only[SD,dq]at h1 a;omega
   cbv;exact h _ (by rw[h5,j,bF]at ha;exact ha.symm))
end
end Go.VC.cK
namespace Go.VC
def Sg:S:=[32,97,110,100,32,97,110,121,32,97,115,32,98,111,111,108,32,100,101,112,114,101,99,97,116,101,100,32,101,108,115,101,32,101,120,112,111,114,116,32,102,97,108,115,101,32,102,110,32,102,111,108,100,32,102,114,111,109,32,105,102,32,105,109,112,111,114,116,32,105,110,32,105,110,116,32,108,101,110,103,116,104,32,108,101,116,32,108,105,115,116,32,109,97,116,99,104,32,109,111,100,117,108,101,32,110,111,110,101,32,110,111,116,32,111,114,32,116,101,120,116,32,116,104,101,110,32,116,114,117,101,32,116,121,112,101,32,117,115,101,32]
def Jh(s:S):Bool:=Lib.contains Sg ([32]++s++[32])
def JW(s:S):Int:=((s.getD 0 0).toNat:Int)
def ie(s:S):Bool:=s != []&&decide (s.length<=32)&&pS (JW s)&&jJ n5 s&& !Jh s
def iT(s:S):Bool:=s != []&&decide (s.length<=32)&&Jz (JW s)&&jJ n5 s
def MC{a b:S}:Std.sO a b=a++b:=rfl
def jo{a:S}:Std.iZ a 0=JW a:=rfl
end Go.VC
namespace Go.VC.cK
open Go Go.VC Go.Proofs
section
variable {s:S}{K:PV->List Ob->Prop}
def WD(hs:s.length<=4294967295)(h:∀b,b=Jh s->K (.bool b) []):FT 219 [] [.str s] K:=by
 refine en (cf 7) Tryz.func219 λA C L X=>?_;have d:∀a:S,A.sO a [32]=a++[32]:=by rw[X.a];exactλ_=>rfl
 have e:A.sO [32] s=[32]++s:=yX;have c:A.inr .i64 (A.add (A.dz [32]) (A.dz s)):=by rw[X.a,dK,dO,fJ,fJ];simp;omega
 have f:A.inr .i64 (A.add (A.dz (A.sO [32] s)) (A.dz [32])):=by rw[X.a,dK,dO,fJ,fJ,MC];simp;omega
 cbv;refine⟨c,f,?_⟩;refine X.call (Ws (a:=Sg) ?_ λb hb=>?_)
 ·simp[Sg]
 cbv;have hb:b=Lib.contains Sg (A.sO (A.sO [32] s) [32]):=hb;rw[d,e]at hb;exact h _ hb
def Gc{A:qC}(ha:A=Std)(h:A.not (A.seq s [])=true):A.idx 0 (A.dz s):=by
 subst ha;cases s with
 |nil=>simp[fh,vE]at h
 |cons c l=>exact⟨vM 0,by rw[fJ,bS];omega⟩
def JJ(hs:s.length<=4294967295)(h:∀b,b=iT s->K (.bool b) []):FT 165 [] [.str s] K:=by
 refine en (cf 19) Tryz.func165 λA C L X=>?_;have a:=λh=>Gc X.a (s:=s) h;cbv;repeat' (first|apply bw|exact zf|(intro J;cbv)|apply bG|(refine X.call (TQ λb1 d=>?_);cbv)|(refine X.call (NV.2.2 hs λb2 c=>?_);cbv))
 any_goals exact a yA
 all_goals (refine h _ ?_;obtain rfl:=X.a;simp only[jo,SD]at* <;>simp_all[iT]<;>omega)
def Ha(hs:s.length<=4294967295)(h:∀b,b=ie s->K (.bool b) []):FT 166 [] [.str s] K:=by
 refine en (cf 24) Tryz.func166 λA C L X=>?_;have a:=λh=>Gc X.a (s:=s) h;cbv;repeat' (first|apply bw|exact zf|(intro J;cbv)|apply bG|(refine X.call (Q5 λb1 c=>?_);cbv)|(refine X.call (NV.2.2 hs λb2 e=>?_);cbv)|(refine X.call (WD hs λf d=>?_);cbv))
 any_goals exact a yA
 all_goals (refine h _ ?_;obtain rfl:=X.a;simp only[jo,SD]at* <;>simp_all[ie]<;>omega)
def TZ(hs:s.length<=4294967295)(h:∀b,b=(ie s||iT s)->K (.bool b) []):FT 167 [] [.str s] K:=by
 refine en (cf 9) Tryz.func167 λA C L X=>?_;cbv;refine X.call (Ha hs λb1 c=>?_);cbv;repeat' (first|apply bw|exact zf|(intro J;cbv)|apply bG|(refine X.call (JJ hs λb2 a=>?_);cbv))
 all_goals (refine h _ ?_;obtain rfl:=X.a;(try simp only[SD]at J);simp_all)
end
end Go.VC.cK
namespace Go.VC
def Iu(r:S):Bool:=r != []&&decide (r.length<=3)&& !(decide (1<r.length)&&JW r==48)&&jJ lQ r
def sL(s:S):Bool:=Lib.hasPrefix s [118]&&Iu (Lib.trimPrefix s [118])
def rb(s:S):Bool:=ie s&&jJ FQ s
def sQ(s:S):Int:=if sL ((gi s).getLast?.getD [])&&decide (s.length<=64)&&decide (2<=(gi s).length)&&(gi s).all rb then 0 else 4
def Bb(s:S):Bool:=sQ s==0
def uz(s:S):gi s≠[]:=by
 induction s with
 |nil=>simp[gi]
 |cons c l a=>
  unfold gi;split
  ·simp
  ·cases h:gi l with
   |nil=>simp
   |cons x xs=>simp
def yj(s:S):(gi s).length<=s.length+1/\∀x∈gi s,x.length<=s.length:=by
 induction s with
 |nil=>simp[gi]
 |cons c l b=>
  unfold gi;split
  ·refine⟨yQ,λx a=>?_⟩;rcases bP.1 a with rfl|a
   ·simp
   ·have:=b.2 x a;simp;omega
  ·cases h:gi l with
   |nil=>simp
   |cons y ys=>
    rw[h]at b;refine⟨by simp at b ⊢;omega,λx a=>?_⟩;rcases bP.1 a with rfl|a
    ·have:=b.2 y yS;simp;omega
    ·have:=b.2 x (by simp[a]);simp;omega
end Go.VC
namespace Go.VC.cK
open Go Go.VC Go.Proofs
section
variable {s:S}{K:PV->List Ob->Prop}
def WH(hs:s.length<=4294967290)(h:∀n b,b=sL s->K (.tup [.int .i64 n,.bool b]) []):FT 212 [] [.str s] K:=by
 refine en (cf 53) Tryz.func212 λA C L X=>?_;cbv;refine X.call (Wu λr l hr e=>?_);have p:r.length<=4294967290:=by rw[hr,Lib.trimPrefix];split<;>(try simp)<;>omega
 obtain⟨n,k⟩:∃n,n=r.length:=⟨_,rfl⟩;have a:A.dz r=br n:=by rw[X.a,k];rfl
 have m:=λh=>Gc X.a (s:=r) h;have d:A.lt 1 (A.dz r)=true->A.idx 0 (A.dz r):=by rw[X.a];intro J;rw[ik,fJ]at J;have J:=of_decide_eq_true J;exact⟨vM 0,by rw[fJ];omega⟩
 have g:∀b,b=(l&&Iu r)->b=sL s:=λb hb=>by rw[hb,e,hr];rfl
 cbv;repeat' (first|apply bw|exact zf|(intro J;cbv)|apply bG|(refine X.call (NV.2.1 yO λb1 o=>?_);cbv))
 any_goals exact d yA
 all_goals try (refine h _ _ (g _ ?_);obtain rfl:=X.a;subst k;clear m d g a h;simp only[jo,SD]at* <;>simp_all[Iu]<;>(intros;omega))
 all_goals (
  have c:true=(l&&Iu r):=by obtain rfl:=X.a;simp only[jo,SD]at* <;>simp_all[Iu]<;>(intros;omega)
  refine lp X (λy=>y.1<=n) (λy=>n-y.1) (0,0) (bD _) (λ(y:Nat×Int)=>⟨[(40,.int .i64 y.1),(39,.int .i64 (A.dz r)),(5,.int .i64 y.2),(0,.str r)],[]⟩) ?_;rintro⟨i,z⟩ q;simp only at q;cbv;constructor<;>intro h1
  ·have h5:i<r.length:=by obtain rfl:=X.a;simp only[SD]at h1 a;omega
   have j:A.idx (br i) (A.dz r):=by rw[a,X.a,k];exact⟨cW _,jy.2 h5⟩
   have f:=jX X.a h5;cbv;refine .inr λ_=>?_;cbv;refine⟨j,?_⟩;refine .inr λ_=>?_;cbv;refine .inr λ_=>?_;cbv;refine .inr λ_=>?_;cbv;refine .inl ⟨f,λ_=>?_⟩;cbv;refine⟨(i+1,A.wrap .i64 (A.add (A.wrap .i64 (A.mul 10 z)) (A.wrap .i64 (A.wrap .u8 (A.sub (A.iZ r (br i)) 48))))),?_,?_,?_⟩
   ·simp only;omega
   ·simp only;omega
   exact yc
  ·cbv;exact h _ _ (g _ c))
def W7(hs:s.length<=4294967200)(h:∀n e,e=sQ s->K (.tup [.int .i64 n,.int .i64 e]) []):FT 164 [] [.str s] K:=by
 have t:=uz s;have u:=yj s;have k:∀i (v:i<(gi s).length),(gi s)[i]∈gi s:=λi v=>bx v;have w:(gi s).getLast?.getD []=(gi s)[(gi s).length-1]'(by have:=ej.2 t;omega):=by rw[kG,bB (by have:=ej.2 t;omega)];rfl
 obtain⟨l,hl⟩:∃l,l=gi s:=⟨_,rfl⟩;have H:0<l.length:=by rw[hl];exact ej.2 t
 rw[<- hl]at u;refine en (cf 49) Tryz.func164 λA C L X=>?_;cbv;refine X.call (WI yO λd hd=>?_);rw[<- hl]at hd;obtain⟨j,r,a⟩:=lenOf hd;have a:A.len d=br j:=by rw[X.a];exact a
 have q:A.sub (A.len d) 1=br (l.length-1):=by rw[a,X.a,iK,r];simp only[bz];omega
 have M:A.inr .i64 (A.sub (A.len d) 1):=by rw[q,X.a,dK];simp only[bz];omega
 have I:A.idx (A.sub (A.len d) 1) (A.len d):=by rw[q,X.a,hd];exact cP yO
 have m:A.bL (A.cell d (A.sub (A.len d) 1) 0)=(gi s).getLast?.getD []:=by rw[q,jR X.a hd yO,w];simp only[hl]
 have D:(A.bL (A.cell d (A.sub (A.len d) 1) 0)).length<=s.length:=by rw[q,jR X.a hd yO];exact u.2 _ (bx _)
 refine p1 ?_;refine X.call (WH (bR D yO) λn b hb=>?_);have hb:b=sL (A.bL (A.cell d (A.sub (A.len d) 1) 0)):=hb;rw[m]at hb;have g:∀i,i<=j->(∀x∈l.take i,rb x=true)->i=j->(b&&decide (s.length<=64)&&decide (2<=l.length))=true->0=sQ s:=by intro i _ h1 J h3;rw[J,r,bF]at h1;unfold sQ;rw[<- hb,<-hl,h3,fB,if_pos (dk.2 h1)]
 have o:(b&&decide (s.length<=64)&&decide (2<=l.length))=false->4=sQ s:=by intro h3;unfold sQ;rw[<- hb,<-hl,h3];rfl
 have c:∀i (v:i<l.length),rb l[i]=false->4=sQ s:=by intro i v h3;unfold sQ;rw[<- hl];have:l.all rb=false:=all_false v h3;rw[this,fb];rfl
 cbv;repeat' (first|apply bw|exact zf|(intro J;cbv)|apply bG)
 all_goals try (refine h _ _ (o ?_);obtain rfl:=X.a;clear o c g h m w k;simp only[a,SD]at* <;>simp_all<;>(intros;omega))
 have F:(b&&decide (s.length<=64)&&decide (2<=l.length))=true:=by obtain rfl:=X.a;clear o c g h m w k;simp only[a,SD]at* <;>simp_all<;>(intros;omega)
 refine lp X (λi=>i<=j/\∀x∈l.take i,rb x=true) (λi=>j-i) 0 ⟨bD _,yS⟩ (λ(i:Nat)=>⟨[(35,.int .i64 i),(34,.int .i64 (A.len d)),(33,.row 9 0),(5,.int .i64 n)],[.row 9 d true]⟩) ?_;rintro i ⟨v,ha⟩;cbv;constructor<;>intro h1
 ·have h5:i<l.length:=by obtain rfl:=X.a;simp only[a,SD]at h1;omega
  have B:=jR X.a hd h5;have G:=iX X.a hd h5;have E:=jX X.a h5;have z:(A.bL (A.cell d (br i) 0)).length<=s.length:=by rw[B];exact u.2 _ (bx h5)
  have Y:=fz X.a;cbv;repeat' (first|apply bw|exact zf|(intro J;cbv)|apply bG)
  any_goals exact G
  refine X.call (Ha (bR z yO) λb1 p=>?_);have p:b1=ie (A.bL (A.cell d (br i) 0)):=p;rw[B]at p;cbv;repeat' (first|apply bw|exact zf|(intro J;cbv)|apply bG|(refine X.call (NV.1 (bR z yO) λb2 f=>?_);cbv))
  any_goals exact E
  ·have f:b2=jJ FQ (A.bL (A.cell d (br i) 0)):=f;rw[B]at f;refine h _ _ (c i h5 ?_);have J:=(Y _).symm.trans J;rw[rb,<-f];simp at J;simp[J]
  ·have f:b2=jJ FQ (A.bL (A.cell d (br i) 0)):=f;rw[B]at f;have e1:A.not b1=false:=yA;have e2:A.not b2=false:=yA;rw[Y]at e1 e2;refine⟨i+1,⟨?_,?_⟩,?_,?_⟩
   ·omega
   ·rw[bX h5];intro x y;rcases bJ.1 y with y|y
    ·exact ha x y
    ·rw[cU]at y;rw[y,rb,<-p,<-f];simp_all
   ·omega
   exact yc
  ·refine h _ _ (c i h5 ?_);have J:A.not b1=true:=J;rw[Y]at J;rw[rb,<-p];simp at J;simp[J]
 ·have h5:i=j:=by obtain rfl:=X.a;simp only[a,SD]at h1;omega
  cbv;exact h _ _ (g i v ha h5 F)
def Ua(hs:s.length<=4294967200)(h:∀b,b=Bb s->K (.bool b) []):FT 119 [] [.str s] K:=by refine en (cf 12) Tryz.func119 λA C L X=>?_;cbv;refine X.call (W7 hs λn e a=>?_);cbv;exact h _ (by rw[Bb,<-a];obtain rfl:=X.a;rfl)
end
end Go.VC.cK
namespace Go.Proofs
open Go.Shelf
def Tryz.DN:Go.Shelf.Ren:=⟨fun|6=>184|15=>189|14=>232|28=>242|29=>243|20=>270|21=>271|22=>272|23=>273|24=>274|25=>275|26=>276|27=>277|46=>300|47=>279|48=>280|49=>301|50=>302|57=>313|n=>n,fun|22=>134|24=>137|25=>198|3=>3|39=>243|0=>0|53=>285|55=>287|4=>4|46=>278|45=>277|50=>261|5=>5|9=>9|66=>308|70=>312|76=>326|77=>327|n=>n,fun|n=>n⟩
def Tryz.HE:Go.Proofs.SlLaysF0.n6 Tryz.prog Tryz.DN:={
 mixed:=by kernel_rfl
 f6:=⟨Tryz.f184.name,by decide,Tryz.func184.trans (congrArg some (by kernel_rfl))⟩
 f14:=⟨Tryz.f232.name,by decide,Tryz.func232.trans (congrArg some (by kernel_rfl))⟩
 f15:=Tryz.func189.trans (congrArg some (by kernel_rfl))
 f20:=⟨Tryz.f270.name,by decide,Tryz.func270.trans (congrArg some (by kernel_rfl))⟩
 f21:=⟨Tryz.f271.name,by decide,Tryz.func271.trans (congrArg some (by kernel_rfl))⟩
 f22:=⟨Tryz.f272.name,by decide,Tryz.func272.trans (congrArg some (by kernel_rfl))⟩
 f23:=⟨Tryz.f273.name,by decide,Tryz.func273.trans (congrArg some (by kernel_rfl))⟩
 f24:=⟨Tryz.f274.name,by decide,Tryz.func274.trans (congrArg some (by kernel_rfl))⟩
 f25:=⟨Tryz.f275.name,by decide,Tryz.func275.trans (congrArg some (by kernel_rfl))⟩
 f26:=⟨Tryz.f276.name,by decide,Tryz.func276.trans (congrArg some (by kernel_rfl))⟩
 f27:=⟨Tryz.f277.name,by decide,Tryz.func277.trans (congrArg some (by kernel_rfl))⟩
 f28:=Tryz.func242.trans (congrArg some (by kernel_rfl))
 f29:=Tryz.func243.trans (congrArg some (by kernel_rfl))
 f46:=⟨Tryz.f300.name,by decide,Tryz.func300.trans (congrArg some (by kernel_rfl))⟩
 f47:=Tryz.func279.trans (congrArg some (by kernel_rfl))
 f48:=Tryz.func280.trans (congrArg some (by kernel_rfl))
 f49:=⟨Tryz.f301.name,by decide,Tryz.func301.trans (congrArg some (by kernel_rfl))⟩
 f50:=⟨Tryz.f302.name,by decide,Tryz.func302.trans (congrArg some (by kernel_rfl))⟩
 f57:=⟨Tryz.f313.name,by decide,Tryz.func313.trans (congrArg some (by kernel_rfl))⟩
 t0:=Tryz.underlying0
 a0:=Tryz.isAgg0
 z0:=Tryz.sizeOf0
 v0:=Tryz.zeroValue0
 t3:=Tryz.underlying3
 a3:=Tryz.isAgg3
 z3:=Tryz.sizeOf3
 v3:=Tryz.zeroValue3
 t4:=Tryz.underlying4
 a4:=Tryz.isAgg4
 z4:=Tryz.sizeOf4
 v4:=Tryz.zeroValue4
 t5:=Tryz.underlying5
 a5:=Tryz.isAgg5
 z5:=Tryz.sizeOf5
 v5:=Tryz.zeroValue5
 t9:=Tryz.underlying9
 a9:=Tryz.isAgg9
 z9:=Tryz.sizeOf9
 v9:=Tryz.zeroValue9
 t22:=Tryz.underlying134
 a22:=Tryz.isAgg134
 z22:=Tryz.sizeOf134
 v22:=Tryz.zeroValue134
 t25:=Tryz.underlying198
 a25:=Tryz.isAgg198
 z25:=Tryz.sizeOf198
 v25:=Tryz.zeroValue198
 t39:=Tryz.underlying243
 a39:=Tryz.isAgg243
 z39:=Tryz.sizeOf243
 v39:=Tryz.zeroValue243
 t45:=Tryz.underlying277
 a45:=Tryz.isAgg277
 z45:=Tryz.sizeOf277
 v45:=Tryz.zeroValue277
 t46:=Tryz.underlying278
 a46:=Tryz.isAgg278
 z46:=Tryz.sizeOf278
 v46:=Tryz.zeroValue278
 t50:=Tryz.underlying261
 a50:=Tryz.isAgg261
 z50:=Tryz.sizeOf261
 v50:=Tryz.zeroValue261
 t53:=Tryz.underlying285
 a53:=Tryz.isAgg285
 z53:=Tryz.sizeOf285
 v53:=Tryz.zeroValue285
 t55:=Tryz.underlying287
 a55:=Tryz.isAgg287
 z55:=Tryz.sizeOf287
 v55:=Tryz.zeroValue287
 t66:=Tryz.underlying308
 a66:=Tryz.isAgg308
 z66:=Tryz.sizeOf308
 v66:=Tryz.zeroValue308
 t70:=Tryz.underlying312
 a70:=Tryz.isAgg312
 z70:=Tryz.sizeOf312
 v70:=Tryz.zeroValue312
 t76:=Tryz.underlying326
 a76:=Tryz.isAgg326
 z76:=Tryz.sizeOf326
 v76:=Tryz.zeroValue326
 t77:=Tryz.underlying327
 a77:=Tryz.isAgg327
 z77:=Tryz.sizeOf327
 v77:=Tryz.zeroValue327 }
end Go.Proofs
namespace Go.VC
abbrev U:=S×S
def jH(x:U):List D:=[.str x.1,.str x.2]
def sv(a b:U):Bool:=if a.1=b.1 then slt a.2 b.2 else slt a.1 b.1
def CV(a b:S):Int:=if slt a b then -1 else if slt b a then 1 else 0
def OB(a b:U):Int:=if CV a.1 b.1≠0 then CV a.1 b.1 else CV a.2 b.2
def Ie{a b:S}:CV a b=0↔a=b:=by
 unfold CV;split
 ·rename_i h;constructor
  ·intro e;omega
  ·intro e;subst e;rw[fi]at h;cases h
 ·rename_i h;split
  ·rename_i J;constructor
   ·intro e;omega
   ·intro e;subst e;rw[fi]at J;cases J
  ·rename_i J;simp only[true_iff];exact mM (yU h) (yU J)
def xM{a b:S}:(CV a b<0)↔slt a b=true:=by
 unfold CV;split
 ·rename_i h;simp[h]
 ·rename_i h;split<;>simp[h]
def OA{a b:U}:decide (OB a b<0)=sv a b:=by
 unfold OB sv;by_cases h:a.1=b.1
 ·rw[if_neg (by simp[Ie.2 h]),if_pos h];cases hb:slt a.2 b.2 with
  |true=>rw[decide_eq_true_iff];exact xM.2 hb
  |false=>rw[decide_eq_false_iff_not];intro J;rw[xM.1 J]at hb;cases hb
 ·rw[if_pos (λe=>h (Ie.1 e)),if_neg h];cases hb:slt a.1 b.1 with
  |true=>rw[decide_eq_true_iff];exact xM.2 hb
  |false=>rw[decide_eq_false_iff_not];intro J;rw[xM.1 J]at hb;cases hb
def nJ(a:U):sv a a=false:=by unfold sv;rw[if_pos rfl,fi]
def su{a b c:U}(h:sv a b=true)(d:sv b c=true):sv a c=true:=by
 unfold sv at*;by_cases e1:a.1=b.1
 ·rw[if_pos e1]at h;by_cases e2:b.1=c.1
  ·rw[if_pos e2]at d;rw[if_pos (e1.trans e2)];exact mZ h d
  ·rw[if_neg e2]at d;rw[if_neg (λe=>e2 (e1.symm.trans e)),e1];exact d
 ·rw[if_neg e1]at h;by_cases e2:b.1=c.1
  ·rw[if_pos e2]at d;rw[if_neg (λe=>e1 (e.trans e2.symm)),<-e2];exact h
  ·rw[if_neg e2]at d;have f:=mZ h d;rw[if_neg (λe=>by rw[e,fi]at f;cases f)];exact f
def Cy{a b:U}(h:sv a b=false)(c:sv b a=false):a=b:=by
 unfold sv at*;by_cases e1:a.1=b.1
 ·rw[if_pos e1]at h;rw[if_pos e1.symm]at c;exact dR e1 (mM h c)
 ·rw[if_neg e1]at h;rw[if_neg (λe=>e1 e.symm)]at c;exact absurd (mM h c) e1
def I8{a b:U}(h:sv a b=true):sv b a=false:=by
 cases hb:sv b a with
 |false=>rfl
 |true=>have:=su h hb;rw[nJ]at this;cases this
def Qc:Go.Sort.SWO sv where
 irrefl x:=nJ x
 trans x y z h1 h2:=su h1 h2
 ntrans x y z h1 h2:=by
  cases hb:sv x z with
  |false=>rfl
  |true=>
   exfalso;cases h3:sv y x with
   |true=>have:=su h3 hb;rw[this]at h2;cases h2
   |false=>have:=Cy h1 h3;subst this;rw[hb]at h2;cases h2
end Go.VC
namespace Go.VC.cK
open Go Go.VC Go.Proofs Go.Sort
section
variable {K:PV->List Ob->Prop}
def TU{s:S}(h:∀b,b=false->K (.bool b) []):FT 186 [] [.str s] K:=by refine en (cf 6) Tryz.func186 λA C L X=>?_;have q:=h (A.not (A.seq s s)) (by rw[X.a,fh,vE];simp);cbv;exact q
def T9{a b:S}(h:∀r,r=CV a b->K (.int .i64 r) []):FT 131 [] [.str a,.str b] K:=by
 refine en (cf 20) Tryz.func131 λA C L X=>?_;cbv;refine X.call (TU λb1 h1=>?_);obtain rfl:=h1;cbv;refine X.call (TU λb2 h1=>?_);obtain rfl:=h1;cbv;repeat' (first|apply bw|exact zf|(intro J;cbv)|apply bG)
 all_goals first
  |contradiction
  |(refine h _ ?_;unfold CV;obtain rfl:=X.a;simp only[SD]at *;simp[*];done)
  |(exfalso;obtain rfl:=X.a;simp only[SD]at *;simp at *;done)
  |skip
def Xl{l:List Int}{d:D}{x y:Int}(hd:d=lO [x,y])(h:∀r,r=(if x≠0 then x else y)->K (.int .i64 r) []):FT 130 [] [.lst 3 d] K:=by
 have a:Std.len d=br 2:=by rw[hd,pw];rfl
 have ha:∀A:qC,A=Std->A.asInt (A.cell d (br 0) 0)=x/\A.asInt (A.cell d (br 1) 0)=y:=by intro A m;subst m hd;simp only[px];exact⟨rfl,rfl⟩
 refine en (cf 18) Tryz.func130 λA C L X=>?_;obtain⟨k,j⟩:=ha A X.a;cbv;refine lu X (λi=>i<=2/\(1<=i->x=0)/\(2<=i->y=0)) (λi=>2-i) 0 ⟨bD _,yO,yO⟩ (λ(i:Nat)=>[(8,.int .i64 i)]) ?_;rintro i ⟨n,h5,h6⟩;cbv;constructor<;>intro h1
 ·have h7:i<2:=lY X.a a h1;have g:A.idx (br i) (A.len d):=by obtain rfl:=X.a;rw[a,l6];simp only[bz];omega
  have c:=jX X.a h7
  have f:A.asInt (A.cell d (br i) 0)=(if i=0 then x else y):=by
   rcases(by omega:i=0\/i=1)with rfl|rfl
   ·exact k
   ·exact j
  cbv;repeat' (first|apply bw|exact zf|(intro J;cbv)|apply bG)
  any_goals exact g
  any_goals exact c
  ·have e:¬(if i=0 then x else y)=0:=by rw[<- f];obtain rfl:=X.a;simpa only[SD]using J
   refine h _ ?_;refine f.trans ?_;by_cases b:i=0
   ·rw[if_pos b]at e ⊢;rw[if_pos e]
   ·rw[if_neg b]at e ⊢;rw[if_neg (by simp[h5 yO])]
  ·have e:(if i=0 then x else y)=0:=by rename_i g3;rw[<- f];obtain rfl:=X.a;simpa only[SD,dq]using g3
   refine⟨i+1,⟨yO,λ_=>?_,λ_=>?_⟩,yO,?_⟩
   ·by_cases b:i=0
    ·rw[if_pos b]at e;exact e
    ·exact h5 yO
   ·rw[if_neg yO]at e;exact e
   exact yc
 ·have h7:i=2:=gY X.a a h1;cbv;refine h 0 ?_;rw[if_neg (by simp[h5 yO]),h6 yO]
def Xm{a b:U}(h:∀r,r=OB a b->K (.int .i64 r) []):FT 129 [] [.agg [.str a.1,.str a.2],.agg [.str b.1,.str b.2]] K:=by obtain⟨a1,a2⟩:=a;obtain⟨b1,b2⟩:=b;refine en VO Tryz.func129 λA C L X=>?_;refine p1 ?_;refine X.call (T9 λd h1=>?_);refine p1 ?_;refine X.call (T9 λr2 c=>?_);have hd:A.lit [[.int d],[.int r2]]=lO [d,r2]:=yX;refine p1 ?_;refine X.call (Xl (l:=[]) hd λr hr=>?_);refine p1 ?_;refine h _ ?_;rw[hr,h1,c];rfl
end
end Go.VC.cK
namespace Go.Proofs
open Go.Shelf Go.RowKit Go.Lib Go.Sort Go.VC
abbrev UB:=ByteArray×ByteArray
instance:Inhabited UB:=⟨(⟨#[]⟩,⟨#[]⟩)⟩
def UB.u(x:UB):U:=(x.1.data.toList,x.2.data.toList)
def zJ(x:UB):List Value:=[.string x.1,.string x.2]
def QS(x y:UB):Int:=OB x.u y.u
theorem HV(x y:UB):ltOf QS x y=sv x.u y.u:=OA
theorem RS:SWO (ltOf QS) where
 irrefl x:=by rw[HV];exact Qc.irrefl _
 trans x y z h1 h2:=by rw[HV]at *;exact Qc.trans _ _ _ h1 h2
 ntrans x y z h1 h2:=by rw[HV]at *;exact Qc.ntrans _ _ _ h1 h2
theorem Nt(gW off cap:Nat)(d:Array UB)(w:World)(hH:HoldsK zJ 2 w gW off d)(hblk:gW<w.heap.size)(fL:d.size<4611686018427387904)(hg:Q0 cK.tt gW w):
 Calls Tryz.prog 184 #[.slice (some ⟨gW,off,none⟩) d.size cap,.func (.func 129) #[] #[]] w λe w'=>e= .returned (.tuple #[])/\∃d' n os,PermIn 0 d.size d d'/\SortedIn (ltOf QS) 0 d.size d'/\w'=sortWorldK zJ 2 w gW off n d' os:=by
 have eg:∀args w,(callFunc 129 args).run Tryz.prog w= .ok (.enter 129 args) w:=enters_of Tryz.func129 (by kernel_rfl) rfl
 have hcmp:CmpLays Tryz.prog 129 #[] zJ 2 QS gW off d.size w:=by
  intro m os dk _ x y;refine Jx (r:=QS x y) ⟨Tryz.func129,by rfl,rfl⟩ (cK.Xm (a:=x.u) (b:=y.u) λr hr=>?_) (LI hg) (LJ hg) ?_
  ·rw[hr];rfl
  ·exact .cons _ _ _ _ (.agg _ _ (.cons _ _ _ _ (.str _) (.cons _ _ _ _ (.str _) .nil))) (.cons _ _ _ _ (.agg _ _ (.cons _ _ _ _ (.str _) (.cons _ _ _ _ (.str _) .nil))) .nil)
 exact AnyQ.slices_SortFunc Tryz.HE 2 Tryz.isAgg137 Tryz.sizeOf137 zJ (λ_=>rfl) (λx v hv=>by simp[zJ]at hv;rcases hv with rfl|rfl<;>rfl) QS RS 129 #[] gW off cap d w eg hcmp hH hblk fL
theorem Cl(p:Option Addr)(cap:Nat)(w:World):Calls Tryz.prog 184 #[.slice p 0 cap,.func (.func 129) #[] #[]] w λe w'=>e= .returned (.tuple #[])/\w'=w:=AnyF.slices_SortFunc_none Tryz.HE p cap _ w
end Go.Proofs
namespace Go.VC.cK
open Go Go.VC Go.Proofs Go.Sort
theorem Ma:bV tt 137=[.str,.str]:=by kernel_rfl
def Sd(x y:List D):Bool:=sv (Std.bL (x.getD 0 .nil),Std.bL (x.getD 1 .nil)) (Std.bL (y.getD 0 .nil),Std.bL (y.getD 1 .nil))
theorem WW{l:List U}{d:D}{K:PV->List Ob->Prop}(hd:d=bH jH l)(I:l.length<4294967296)
 (h:∀(m:List U) r,m.Perm l->m.Pairwise (λa b=>sv b a=false)->r=bH jH m->K (.tup []) [.row 137 r true]):FT 184 [.row 137 d true] [.row 137 0,.cy 129 []] K:=by
 subst hd
 have c:∀{Pp:ga}{us:List Value}{row:List D},AB tt Pp 137 us row->∃a b:ByteArray,us=[.string a,.string b]/\row=[.str a.data.toList,.str b.data.toList]:=by
  intro Pp us row h;obtain⟨h1,J,h3⟩:=h;rw[Ma]at h1 J h3
  match us,row,h1,J with
  |[B,E],[r0,p],_,_=>obtain⟨M,n,o⟩:=h3 0 r0 _ rfl rfl;obtain⟨C,e1,s⟩:=h3 1 p _ rfl rfl;simp at n e1;subst n;subst e1;obtain⟨a,rfl,rfl⟩:=F0 o;obtain⟨b,rfl,rfl⟩:=F0 s;exact⟨a,b,rfl,rfl⟩
 refine HD (e:=137) zJ QS Sd [.cy 129 []] [.func (.func 129) #[] #[]] (On rfl) (λx=>by rw[Ma];rfl) ?_ ?_ (enters_of Tryz.func184 (by kernel_rfl) rfl) (l.map jH) yQ ?_ ?_ ?_
 ·rw[Ma];exactλgW off cap d w h1 J h3 q=>Nt gW off cap d w h1 J h3 q
 ·exact Cl
 ·intro Pp us row hr f;obtain⟨a,b,rfl,_⟩:=c f;exact⟨(a,b),rfl⟩
 ·intro Pp x y F G h1 J;obtain⟨a,b,e1,rfl⟩:=c h1;obtain⟨A,b',e2,rfl⟩:=c J;simp only[zJ,kr,Value.string.injEq,and_true]at e1 e2;obtain⟨L,H⟩:=x;obtain⟨z,N⟩:=y;simp only at e1 e2;obtain⟨rfl,rfl⟩:=e1;obtain⟨rfl,rfl⟩:=e2;rw[HV];rfl
 ·intro g t hs;obtain⟨m,h1,rfl⟩:=D5 t;refine h m _ h1 ?_ rfl;rw[iD];intro i j u v k;have:=hs i j (yU u) (yU v) k;simpa[Sd,jH,oq]using this
end Go.VC.cK
namespace Go.VC
section
variable {m:List (U×Bool)}{l:List U}{k:U}
def kT(x:U×Bool):List D:=[.ptr [.str x.1.1,.str x.1.2],.bool x.2]
def BR{l:List D}{i:Nat}:Std.rA (.ptr l) i=l.getD i .nil:=rfl
def sU(m:List (U×Bool))(k:U):List (U×Bool):=match m with
 |[]=>[(k,true)]
 |x::r=>if k=x.1 then(k,true)::r else x::sU r k
def MI:Std.p6 (bH kT m) (.ptr [.str k.1,.str k.2]) [.bool true]=bH kT (sU m k):=by
 simp only[Std,ec,bH,cp]
 congr 1
 induction m with
 |nil=>rfl
 |cons x m a=>
  have hk:fa (.ptr [.str k.1,.str k.2]) (kT x)=(k==x.1):=rfl;simp only[bO,jr,sU];rw[hk];by_cases h:k=x.1
  ·rw[if_pos (by simp[h]),if_pos h];rfl
  ·rw[if_neg (by simp[h]),if_neg h,bO,<-a]
def lv(m:List (U×Bool))(l:List U):List (U×Bool):=l.foldl sU m
def BP{k:List U}:lv m (l++k)=lv (lv m l) k:=by simp[lv]
def BQ{s:U}:s∈(sU m k).map (·.1)↔s=k\/s∈m.map (·.1):=by
 induction m with
 |nil=>simp[sU]
 |cons x m a=>
  simp only[sU];split
  ·rename_i h;simp only[bO,bP,<-h];constructor
   ·rintro(h1|h1);exact .inl h1;exact .inr (.inr h1)
   ·rintro(h1|h1|h1);exact .inl h1;exact .inl h1;exact .inr h1
  ·simp only[bO,bP,a];constructor
   ·rintro(h1|h1|h1);exact .inr (.inl h1);exact .inl h1;exact .inr (.inr h1)
   ·rintro(h1|h1|h1);exact .inr (.inl h1);exact .inl h1;exact .inr (.inr h1)
def G3(h:(m.map (·.1)).Nodup):((sU m k).map (·.1)).Nodup:=by
 induction m with
 |nil=>simp[sU]
 |cons x m a=>
  rw[bO,cn]at h;simp only[sU];split
  ·rename_i hk;rw[bO,cn];subst hk;exact h
  ·rename_i hk;rw[bO,cn,BQ];exact⟨λh1=>by rcases h1 with h1|h1;exact hk h1.symm;exact h.1 h1,a h.2⟩
def My:(sU m k).length<=m.length+1:=by
 induction m with
 |nil=>simp[sU]
 |cons x m a=>simp only[sU];split<;>simp;omega
def G2:∀{m:List (U×Bool)}{s:U},s∈(lv m l).map (·.1)↔s∈l\/s∈m.map (·.1):=by
 induction l with
 |nil=>intro m s;simp[lv]
 |cons x l a=>
  intro m s;show s∈(lv (sU m x) l).map (·.1)↔_;rw[a,BQ,bP];constructor
  ·rintro(h|h|h);exact .inl (.inr h);exact .inl (.inl h);exact .inr h
  ·rintro((h|h)|h);exact .inr (.inl h);exact .inl h;exact .inr (.inr h)
def Fo:∀{m:List (U×Bool)},(m.map (·.1)).Nodup->((lv m l).map (·.1)).Nodup:=by
 induction l with
 |nil=>intro m h;exact h
 |cons x l a=>intro m h;exact a (G3 h)
def JC:∀{m:List (U×Bool)},(lv m l).length<=m.length+l.length:=by
 induction l with
 |nil=>intro m;simp[lv]
 |cons x l a=>intro m;have h1:=a (m:=sU m x);have J:=My (m:=m) (k:=x);show (lv (sU m x) l).length<=_;simp;omega
def qK(l:List U):Prop:=l.Pairwise λa b=>sv a b=true
def OQ(h:l.Pairwise λa b=>sv b a=false)(c:l.Nodup):qK l:=by
 induction l with
 |nil=>exact Dm
 |cons x l g=>
  rw[cJ]at h;rw[cn]at c;refine cJ.2 ⟨λy f=>?_,g h.2 c.2⟩;cases hb:sv x y with
  |true=>rfl
  |false=>exact absurd (Cy hb (h.1 y f)) λe=>c.1 (e▸f)
def Ft:∀{l m:List U},qK l->qK m->(∀s,s∈l↔s∈m)->l=m
 |[],[],_,_,_=>rfl
 |[],y::m,_,_,h=>by have:=(h y).2 yS;simp at this
 |x::l,[],_,_,h=>by have:=(h x).1 yS;simp at this
 |x::l,y::m,hl,hm,h=>by
  obtain⟨h1,J⟩:=cJ.1 hl;obtain⟨h3,h4⟩:=cJ.1 hm
  have a:x=y:=by
   rcases bP.1 ((h x).1 yS)with e|e
   ·exact e
   ·rcases bP.1 ((h y).2 yS)with e2|e2
    ·exact e2.symm
    ·have a1:=h3 x e;have a2:=h1 y e2;rw[I8 a1]at a2;cases a2
  subst a
  congr 1
  refine Ft J h4 λs=>⟨λhs=>?_,λhs=>?_⟩
  ·rcases bP.1 ((h s).1 (by simp[hs]))with e|e
   ·subst e;have:=h1 s hs;rw[nJ]at this;cases this
   ·exact e
  ·rcases bP.1 ((h s).2 (by simp[hs]))with e|e
   ·subst e;have:=h3 s hs;rw[nJ]at this;cases this
   ·exact e
end
end Go.VC
namespace Go.VC.cK
open Go Go.VC Go.Proofs
section
variable {d:D}{K:PV->List Ob->Prop}{m:List (U×Bool)}
def Xn(h:K (.cy 185 [.box 1 0]) [.map .iM 4 d,.box [.mp 0]]):FT 128 [.map .iM 4 d] [.mp 0] K:=by refine el SZ Tryz.func128 λA C L X=>?_;cbv;exact h
def WV{c1 c2:Code}(hd:d=bH kT m)
 (F:∀(k:U)(l:List U)(r:D)(E:PV->List Ob->Prop),r=bH jH l->l.length<m.length->(∀q,q=bH jH (l++[k])->E (.bl true) [.loop 13 [7] c1 c2 [(2,.box 1 0)] .ready,.box [.row 137 3],.dead,.row 137 q true])->YC Tryz.prog tt [.loop 13 [7] c1 c2 [(2,.box 1 0)] .ready,.box [.row 137 2],.row 137 r true] [.agg [.str k.1,.str k.2]] E)
 (h:∀(l:List U)(r:D),r=bH jH l->l.Perm (m.map (·.1))->K (.tup []) [.loop 13 [7] c1 c2 [(2,.box 2 0)] .ready,.box [.mp 3],.box [.row 137 5],.map .iM 4 d,.dead,.row 137 r true]):
 FT 185 [.loop 13 [7] c1 c2 [(2,.box 2 0)] .ready,.box [.mp 3],.box [.row 137 4],.map .iM 4 d,.row 137 (.list []) true] [.lS 0,.box 1 0] K:=by
 refine el SM Tryz.func185 λA C L X=>?_;have H:(A=Std):=X.a;cbv
 refine X.iC (λ(x:List Int×D×D)=>⟨[(5,.it 6),(4,.mp 3),(0,.lS 0),(1,.box 1 0)],[.loop 13 [7] c1 c2 [(2,.box 2 0)] .ready,.box [.mp 3],.box [.row 137 5],.map .iM 4 d,.dead,.row 137 x.2.2 true,.iter 3 x.2.1]⟩)
  (λx=>x.2.1=lO x.1/\x.2.2=bH jH (x.1.map λj=>(m.getD j.toNat (([],[]),false)).1)/\x.1.Nodup/\∀j∈x.1,0<=j/\j<m.length) (λx=>m.length-x.1.length) ([],.list [],.list []) ⟨rfl,rfl,by simp,by simp⟩ ?_ ?_
 ·exact⟨[0,1,2,3,4,5,6],rfl,yc⟩
 rintro⟨o,z,r⟩ ⟨s,hr,gV,hb⟩;simp only at s hr gV hb;cbv;refine⟨λh1=>?_,λj h1=>?_⟩
 ·cbv;have ha:=rY (m:=m) (f:=kT) (l:=o) (by rw[<- hd,<-s,<-X.a];exact h1);refine h _ r hr ?_;exact keys_perm gV hb ha
 ·obtain⟨G,B,y⟩:0<=j/\j<m.length/\j∉o:=tV (by rw[<- hd,<-s,<-X.a];exact h1);have g:A.oC z j=lO (o++[j]):=by rw[X.a,s,xO]
  have c:A.last (A.oC z j)=j:=by rw[g,X.a,vF]
  obtain⟨i,rfl⟩:∃i:Nat,j=br i:=⟨j.toNat,yL⟩;have p:i<m.length:=by simp only[bz]at B;omega
  have u:A.bL (A.rA (A.cell d (A.last (A.oC z (br i))) 0) 0)=(m.getD i (([],[]),false)).1.1:=by rw[c,cellAt X.a hd p,X.a];simp[kT,oq,BR,p]
  have t:A.bL (A.rA (A.cell d (A.last (A.oC z (br i))) 0) 1)=(m.getD i (([],[]),false)).1.2:=by rw[c,cellAt X.a hd p,X.a];simp[kT,oq,BR,p]
  have hk:(A.bL (A.rA (A.cell d (A.last (A.oC z (br i))) 0) 0),A.bL (A.rA (A.cell d (A.last (A.oC z (br i))) 0) 1))=(m.getD i (([],[]),false)).1:=dR u t;have g1:A.idx 0 (A.len (A.oC z (br i))):=by rw[g,X.a,pw,l6];simp
  have g2:A.idx (A.last (A.oC z (br i))) (A.len d):=by rw[c,X.a,hd];exact cP p
  cbv;refine⟨g1,g2,?_⟩;have v:(o.map λj=>(m.getD j.toNat (([],[]),false)).1).length<m.length:=by rw[bQ];exact H3 gV hb (i:=i) p y
  refine X.round (F (A.bL (A.rA (A.cell d (A.last (A.oC z (br i))) 0) 0),A.bL (A.rA (A.cell d (A.last (A.oC z (br i))) 0) 1)) _ _ _ hr v λq w=>?_);cbv;refine⟨(o++[br i],A.oC z (br i),q),⟨g,?_,?_,?_⟩,?_,[0,1,2,3,4,8,6],rfl,?_⟩
  ·show q=_;rw[w,hk];simp
  ·rw[eb];exact⟨gV,yS,λa ha b hb=>by simp at hb;subst hb;exactλe=>y (show (i:Int)∈o from e▸ha)⟩
  ·intro j n;rcases bJ.1 n with n|n
   ·exact hb j n
   ·simp only[cU]at n;subst n;exact⟨G,B⟩
  ·simp only[bE,bQ]at *;simp;omega
  ·exact yc
def Ww(hd:d=bH kT m)(c:m.length<4294967296)
 (h:∀(l:List U)(r:D),r=bH jH l->l.Perm (m.map (·.1))->K (.row 137 3) [.dead,.box [.mp 2],.map .iM 4 d,.row 137 r true]):
 FT 231 [.row 137 (.list []) true,.box [.mp 2],.map .iM 4 d] [.row 137 0,.cy 185 [.box 1 0]] K:=by
 refine el SA Tryz.func231 λA C L X=>?_;cbv;refine X.range rfl ⟨Tryz.func185,by rfl,rfl⟩ rfl [(2,.box 4 0)] ?_ ?_
 ·cbv
 cbv;refine X.call (WV hd ?_ ?_)
 ·intro k l r e hr hl b;refine YC.enter (G:=Sz) eX mixed rfl rfl rfl rfl rfl ?_;intro A C L X;have hb:A.fU (A.add (A.len r) (A.len (A.lit [[.str k.1,.str k.2]]))) 4294967296:=by obtain rfl:=X.a;rw[hr];simp only[SD];omega
  have q:=b (A.app r (A.lit [[.str k.1,.str k.2]])) (by rw[X.a,hr];exact cx (k:=[k]));cbv;exact⟨hb,q⟩
 ·intro l r hr a;cbv;exact h l r hr a
def WX(hd:d=bH kT m)(b:m.length<4294967296)
 (h:∀(l:List U)(r:D),r=bH jH l->l.Perm (m.map (·.1))->K (.row 137 2) [.box [.mp 1],.map .iM 4 d,.row 137 r true]):
 FT 183 [.box [.mp 1],.map .iM 4 d] [.cy 185 [.box 0 0]] K:=by
 refine el Vt Tryz.func183 λA C L X=>?_;cbv;refine X.call (Ww hd b λl r hr a=>?_);cbv;exact h l r hr a
def Xo(hd:d=bH kT m)(f:m.length<4294967296)(j:(m.map (·.1)).Nodup)
 (h:∀(l:List U)(r:D),r=bH jH l->qK l->(∀s,s∈l↔s∈m.map (·.1))->K (.row 137 2) [.box [.mp 1],.map .iM 4 d,.row 137 r true]):
 FT 127 [.box [.mp 1],.map .iM 4 d] [.cy 185 [.box 0 0],.cy 129 []] K:=by
 refine el VP Tryz.func127 λA C L X=>?_;cbv;refine X.call (WX hd f λl r hr e=>?_);cbv;refine X.call (WW hr (by rw[e.length_eq];simpa using f) λi g b hs c=>?_);cbv;have a:=b.trans e;exact h i g c (OQ hs (a.nodup_iff.2 j)) λs=>a.mem_iff
end
end Go.VC.cK
namespace Go.VC
mutual
def Ty.fG:Ty->List U| .mk k m n ar fl=>(if k=10 then [(m,n)]else [])++(Ty.AN ar++Ty.AO fl)
def Fe.fG:Fe->List U| .mk _ t _=>Ty.fG t
def Ty.AN:List Ty->List U|[]=>[]|t::l=>Ty.fG t++Ty.AN l
def Ty.AO:List Fe->List U|[]=>[]|t::l=>Fe.fG t++Ty.AO l
end
def Du:∀l:List Ty,Ty.AN l=l.flatMap Ty.fG
 |[]=>by simp[Ty.AN]
 |t::l=>by simp[Ty.AN,Du l]
def Dv:∀l:List Fe,Ty.AO l=(l.map Fe.t).flatMap Ty.fG
 |[]=>by simp[Ty.AO]
 | .mk s t b::l=>by simp[Ty.AO,Dv l,Fe.fG,Fe.t]
def Ty.self(t:Ty):List U:=if t.k=10 then [(t.m,t.n)]else []
def Cb(t:Ty):t.fG=t.self++t.dP.flatMap Ty.fG:=by cases t;simp only[Ty.fG,Du,Dv,Ty.dP,Ty.self,cV,Ty.ar,Ty.fl,Ty.k,Ty.m,Ty.n];rfl
def p8{l:List Nat}{x:Nat}(h:x∈l):x<=l.sum:=by
 induction l with
 |nil=>simp at h
 |cons y l b=>rw[ch];rcases bP.1 h with rfl|h;omega;have:=b h;omega
def gf{α β:Type}{f:α->List β}{l:List α}{i:Nat}(h:i<l.length):(l.take (i+1)).flatMap f=(l.take i).flatMap f++f l[i]:=by rw[bX h,cV];simp
end Go.VC
namespace Go.VC.cK
open Go Go.VC Go.Proofs
section
variable {e:Int}{c1 c2:S}{c a:D}{K:PV->List Ob->Prop}{t:Ty}{C1 C2:Code}
def Q9(E:Ty.le 4294967295 t)(j:t.dP.length<=4294967295)(q:cD t e c1 c2 c a)
 (h:∀r,r=bH cE t.dP->K (.lst 29 r) []):FT 182 [] [df e c1 c2 c a] K:=by
 obtain⟨I,M,H,m,g⟩:=q;have n:t.ar.length+t.fl.length<=4294967295:=by simpa[Ty.dP]using j
 refine en (cf 23) Tryz.func182 λA C L X=>?_;obtain⟨d,f,b⟩:=lenOf g;cbv;refine X.call (K7.1 m yO λp l=>?_);cbv;refine lP X (λy=>y.1<=d/\y.2=bH cE (t.ar++(t.fl.take y.1).map Fe.t)) (λy=>d-y.1) (0,p) ⟨bD _,yU l⟩ [0,1] (λ(y:Nat×D)=>⟨[(12,.int .i64 y.1),(11,.int .i64 (A.len a)),(10,.lst 42 a),(3,.row 29 1),(1,.box 0 0)],[.box [.int .i64 e,.str c1,.str c2,.lst 29 c,.lst 42 a],.row 29 y.2 true]⟩) ?_;rintro⟨i,r⟩ ⟨z,hr⟩;simp only at z hr;cbv;constructor<;>intro h1
 ·have h5:i<t.fl.length:=lY X.a b h1;obtain⟨u,o,B,s,G⟩:=kE X.a g h5;have F:=iX X.a g h5;have w:=jX X.a h5;have x:A.fU (A.add (A.len r) (A.len (A.lit [[.int (A.asInt (A.cell a (br i) 1)),.str (A.bL (A.cell a (br i) 2)),.str (A.bL (A.cell a (br i) 3)),A.cell a (br i) 4,A.cell a (br i) 5]]))) 4294967296:=by rw[X.a,hr];simp only[SD,bQ];omega
  have v:A.app r (A.lit [[.int (A.asInt (A.cell a (br i) 1)),.str (A.bL (A.cell a (br i) 2)),.str (A.bL (A.cell a (br i) 3)),A.cell a (br i) 4,A.cell a (br i) 5]])=bH cE (t.ar++(t.fl.take (i+1)).map Fe.t):=by rw[u,o,B,s,G,X.a,hr,map_take h5,<-bN,<-dI];exact cx (k:=[t.fl[i].t])
  refine p1 ?_;exact⟨(i+1,_),⟨yP,v⟩,yP,[0,1],rfl,yc⟩
 have h5:i=d:=gY X.a b h1;subst h5;rw[f,bF]at hr;cbv;exact h r hr
def Ra(h:K (.cy 180 [.cR [.int .i64 e,.str c1,.str c2,.lst 29 c,.lst 42 a] 0]) []):FT 126 [] [df e c1 c2 c a] K:=by refine en (cf 4) Tryz.func126 λA C L X=>?_;cbv;exact h
def WY
 (H:∀(t:Ty)(m:List (U×Bool))(d:D)(e:Int)(c1 c2:S)(c a:D)(z:PV->List Ob->Prop),cD t e c1 c2 c a->d=bH kT m->(∀r,r=bH kT (lv m t.self)->z (.bl true) [.loop 21 [8] C1 C2 [(3,.box 1 0)] .ready,.box [.mp 2],.map .iM 4 r])->YC Tryz.prog tt [.loop 21 [8] C1 C2 [(3,.box 1 0)] .ready,.box [.mp 2],.map .iM 4 d] [df e c1 c2 c a] z):
 ∀(t:Ty),Ty.le 4294967295 t->t.size<=4294967295->∀{m:List (U×Bool)}{d:D}{e:Int}{c1 c2:S}{c a:D}{K:PV->List Ob->Prop},cD t e c1 c2 c a->d=bH kT m->
  (∀r,r=bH kT (lv m t.fG)->K (.bool true) [.box [.lS 2],.box [.cy 181 [.box 0 0,.box 1 0]],.loop 21 [8] C1 C2 [(3,.box 3 0)] .ready,.box [.mp 4],.map .iM 4 r])->
  FT 181 [.box [.lS 2],.box [.cy 181 [.box 0 0,.box 1 0]],.loop 21 [8] C1 C2 [(3,.box 3 0)] .ready,.box [.mp 4],.map .iM 4 d] [df e c1 c2 c a,.box 0 0,.box 1 0] K:=by
 refine Ty.fC λt w=>?_;intro n hs m d e c1 c2 c a K v hd h;have k:∀u∈t.dP,u.size<=4294967295:=by intro u hu;have:=size_eq t;have J:u.size<=(t.dP.map Ty.size).sum:=p8 (bT.2 ⟨u,hu,rfl⟩);omega
 have p:t.dP.length<=4294967295:=by
  have:∀l:List Ty,l.length<=(l.map Ty.size).sum:=by
   intro l;induction l with
   |nil=>simp
   |cons x l w=>simp only[bS,bO,ch];have:=size_eq x;omega
  have h1:=this t.dP;have J:=size_eq t;omega
 refine el Vu Tryz.func181 λA C L X=>?_;cbv;refine X.round (H t m d _ _ _ _ _ _ v hd λF q=>?_);cbv;refine X.call (Q9 n p v λs g=>?_);obtain⟨f,j,b⟩:=lenOf g;cbv;refine lP X (λy=>y.1<=f/\y.2=bH kT (lv (lv m t.self) ((t.dP.take y.1).flatMap Ty.fG))) (λy=>f-y.1) (0,F) ⟨bD _,by simpa[lv]using q⟩ [0,1,2,3,4] (λ(y:Nat×D)=>⟨[(14,.int .i64 y.1),(13,.int .i64 (A.len s)),(12,.lst 29 s),(1,.box 0 0),(2,.box 1 0)],[.box [.lS 2],.box [.cy 181 [.box 0 0,.box 1 0]],.loop 21 [8] C1 C2 [(3,.box 3 0)] .ready,.box [.mp 4],.map .iM 4 y.2]⟩) ?_;rintro⟨i,r⟩ ⟨I,hr⟩;simp only at I hr;cbv;constructor<;>intro h1
 ·have h5:i<t.dP.length:=lY X.a b h1;have B:=gI X.a g h5;have M:=iX X.a g h5;have G:=jX X.a h5;refine p1 ?_;refine X.call (w _ (bx h5) (gP n _ (bx h5)) (k _ (bx h5)) B hr λE o=>?_);refine p2 (λJ=>?_) (λJ=>?_)
  ·exfalso;obtain rfl:=X.a;simp[fh]at J
  refine⟨(i+1,E),⟨?_,?_⟩,?_,[0,1,2,3,4],rfl,?_⟩
  ·simp only;omega
  ·simp only;rw[o,gf h5,BP]
  ·simp only;omega
  exact yc
 have h5:i=f:=gY X.a b h1;subst h5;rw[j,bF]at hr;cbv;refine h r ?_;rw[hr,Cb,BP]
def WZ(b:Ty.le 4294967295 t)(hs:t.size<=4294967295){m:List (U×Bool)}{d:D}(i:cD t e c1 c2 c a)(hd:d=bH kT m)
 (g:∀(t:Ty)(m:List (U×Bool))(d:D)(e:Int)(c1 c2:S)(c a:D)(f:PV->List Ob->Prop),cD t e c1 c2 c a->d=bH kT m->(∀r,r=bH kT (lv m t.self)->f (.bl true) [.loop 21 [8] C1 C2 [(3,.box 1 0)] .ready,.box [.mp 2],.map .iM 4 r])->YC Tryz.prog tt [.loop 21 [8] C1 C2 [(3,.box 1 0)] .ready,.box [.mp 2],.map .iM 4 d] [df e c1 c2 c a] f)
 (h:∀r,r=bH kT (lv m t.fG)->K (.tup []) [.loop 21 [8] C1 C2 [(3,.box 1 0)] .ready,.box [.mp 2],.map .iM 4 r]):
 FT 180 [.loop 21 [8] C1 C2 [(3,.box 1 0)] .ready,.box [.mp 2],.map .iM 4 d] [.lS 0,.cR [.int .i64 e,.str c1,.str c2,.lst 29 c,.lst 42 a] 0] K:=by
 refine el Vv Tryz.func180 λA C L X=>?_;cbv;refine X.call (WY g t b hs i hd λr hr=>?_);cbv;exact h r hr
end
end Go.VC.cK
namespace Go.VC
def hY:∀t:Ty,t.fG.length<=t.size:=by
 refine Ty.fC λt d=>?_;rw[Cb,size_eq,bE];have h1:t.self.length<=1:=by unfold Ty.self;split<;>simp
 have J:∀l:List Ty,(∀u∈l,u.fG.length<=u.size)->(l.flatMap Ty.fG).length<=(l.map Ty.size).sum:=by
  intro l;induction l with
  |nil=>simp
  |cons x l c=>intro h;simp only[eQ,bE,bO,ch];have a:=h x yS;have b:=c λu hu=>h u (by simp[hu]);omega
 have:=J _ d;omega
def tX{l:List U}(h:qK l):l.Nodup:=by unfold qK at h;exact h.imp λ{a b} c e=>by rw[e,nJ]at c;cases c
def fm{α:Type}[DecidableEq α]:∀{l m:List α},l.Nodup->(∀x∈l,x∈m)->l.length<=m.length
 |[],m,_,_=>yS
 |x::l,m,h,hs=>by
  rw[cn]at h;have:=fm (l:=l) (m:=m.erase x) h.2 λy b=>by have d:=hs y (by simp[b]);have a:y≠x:=λe=>h.1 (by rw[<- e];exact b);exact(JZ a).2 d
  have c:=hs x yS;rw[FB c]at this;have h0:0<m.length:=sK c;simp only[bS];omega
end Go.VC
namespace Go.VC.cK
open Go Go.VC Go.Proofs
def V7{t:Ty}(c:Ty.le 4294967295 t)(hs:t.size<=4294967295){n:Int}{c1 c2:S}{i j:D}{K:PV->List Ob->Prop}(q:cD t n c1 c2 i j)
 (h:∀(l:List U) r,r=bH jH l->qK l->(∀u,u∈l↔u∈t.fG)->K (.lst 137 r) []):FT 88 [] [df n c1 c2 i j] K:=by
 have v:=hY t;refine en Yx Tryz.func88 λA C L X=>?_;cbv;refine X.call (Ra ?_);cbv;refine X.range rfl ⟨Tryz.func180,by rfl,rfl⟩ rfl [(3,.box 2 0)] ?_ ?_
 ·cbv
 cbv;refine X.call (WZ (m:=[]) c hs q rfl ?_ ?_)
 ·intro u m d H b1 b2 F N o hu hd f;obtain⟨g,y,w,M,I⟩:=hu;refine YC.enter (G:=U0) eX mixed rfl rfl rfl rfl rfl ?_;intro A C L X;have x:A.p6 d (.ptr [.str b1,.str b2]) [.bool true]=bH kT (lv m [(u.m,u.n)]):=by rw[X.a,hd,y,w];exact MI (k:=(u.m,u.n))
  have z:u.k=10->o (.bl true) [.loop 21 [8] _ _ [(3,.box 1 0)] .ready,.box [.mp 2],.map .iM 4 (A.p6 d (.ptr [.str b1,.str b2]) [.bool true])]:=λe=>f _ (by rw[x,Ty.self,if_pos e]);have B:¬u.k=10->o (.bl true) [.loop 21 [8] _ _ [(3,.box 1 0)] .ready,.box [.mp 2],.map .iM 4 d]:=λe=>f _ (by rw[hd,Ty.self,if_neg e];rfl);refine p2 (λJ=>?_) (λJ=>?_)
  ·exact z (by rw[<- g];obtain rfl:=X.a;simpa only[SD]using J)
  ·exact B (by rw[<- g];obtain rfl:=X.a;simpa only[SD]using J)
 ·intro r hr;cbv;refine X.call (Xn ?_);cbv;refine X.call (Xo hr ?_ ?_ λl p a b E=>?_)
  ·have:=JC (l:=t.fG) (m:=[]);simp at this;omega
  ·exact Fo yS
  cbv;refine h l p a b λs=>?_;rw[E,G2];simp
end Go.VC.cK
namespace Go.VC
mutual
def Ty.all:Ty->List Ty| .mk k m n ar fl=>.mk k m n ar fl::(Ty.Aw ar++Ty.Ay fl)
def Fe.all:Fe->List Ty| .mk _ t _=>Ty.all t
def Ty.Aw:List Ty->List Ty|[]=>[]|t::l=>Ty.all t++Ty.Aw l
def Ty.Ay:List Fe->List Ty|[]=>[]|t::l=>Fe.all t++Ty.Ay l
end
def Ii:∀l:List Ty,Ty.Aw l=l.flatMap Ty.all
 |[]=>by simp[Ty.Aw]
 |t::l=>by simp[Ty.Aw,Ii l]
def Ij:∀l:List Fe,Ty.Ay l=(l.map Fe.t).flatMap Ty.all
 |[]=>by simp[Ty.Ay]
 | .mk s t b::l=>by simp[Ty.Ay,Ij l,Fe.all,Fe.t]
def all_eq(t:Ty):t.all=t::t.dP.flatMap Ty.all:=by cases t;simp only[Ty.all,Ii,Ij,Ty.dP,cV,Ty.ar,Ty.fl]
def Ik:∀t:Ty,t.all.length=t.size:=by refine Ty.fC λt a=>?_;rw[all_eq,size_eq,bS,n2];have:(t.dP.map λu=>u.all.length)=t.dP.map Ty.size:=hJ a;rw[this];omega
def hZ(go:Ty->Int->Int)(ok:Ty->Bool):List Ty->Int->Int×Bool
 |[],s=>(s,true)
 |t::l,s=>if ok t then hZ go ok l (go t s)else(go t s,false)
def pU{go:Ty->Int->Int}{ok:Ty->Bool}:∀(l k:List Ty)(s:Int),hZ go ok (l++k) s=if(hZ go ok l s).2 then hZ go ok k (hZ go ok l s).1 else hZ go ok l s
 |[],k,s=>by simp[hZ]
 |t::l,k,s=>by
  simp only[cO,hZ];split
  ·exact pU l k _
  ·simp
end Go.VC
namespace Go.VC.cK
open Go Go.VC Go.Proofs
section
variable {Q:Ty->Prop}{C1 C2:Code}{n q:Nat}{ps:List Nat}{go:Ty->Int->Int}{ok:Ty->Bool}
def SN:eE:={tt:=tt,n:=23,live:=[181],n0:=4}
def SO:eE:={tt:=tt,n:=8,live:=[181],n0:=2}
def TV
 (T:∀(t:Ty)(s:Int)(m:Int)(c1 c2:S)(o w:D)(I:PV->List Ob->Prop),Q t->cD t m c1 c2 o w->(ok t=true->∀s',s'=go t s->I (.bl true) [.loop n ps C1 C2 [(q,.box 1 0)] .ready,.box [.int .i64 s']])->
   (ok t=false->∀s',s'=go t s->I (.bl false) [.loop n ps C1 C2 [(q,.box 1 0)] (.done .ret),.box [.int .i64 s']])->YC Tryz.prog tt [.loop n ps C1 C2 [(q,.box 1 0)] .ready,.box [.int .i64 s]] [df m c1 c2 o w] I):
 ∀(t:Ty),Ty.le 4294967295 t->t.size<=4294967295->(∀u∈t.all,Q u)->∀{s:Int}{m:Int}{c1 c2:S}{o w:D}{K:PV->List Ob->Prop},cD t m c1 c2 o w->
  (∀s',hZ go ok t.all s=(s',true)->K (.bool true) [.box [.lS 2],.box [.cy 181 [.box 0 0,.box 1 0]],.loop n ps C1 C2 [(q,.box 3 0)] .ready,.box [.int .i64 s']])->
  (∀s',hZ go ok t.all s=(s',false)->K (.bool false) [.box [.lS 2],.box [.cy 181 [.box 0 0,.box 1 0]],.loop n ps C1 C2 [(q,.box 3 0)] (.done .ret),.box [.int .i64 s']])->
  FT 181 [.box [.lS 2],.box [.cy 181 [.box 0 0,.box 1 0]],.loop n ps C1 C2 [(q,.box 3 0)] .ready,.box [.int .i64 s]] [df m c1 c2 o w,.box 0 0,.box 1 0] K:=by
 refine Ty.fC λt P=>?_;intro E hs O s m c1 c2 o w K N h1 h0;have z:∀u∈t.dP,u.size<=4294967295:=by intro u hu;have:=size_eq t;have J:u.size<=(t.dP.map Ty.size).sum:=p8 (bT.2 ⟨u,hu,rfl⟩);omega
 have G:t.dP.length<=4294967295:=by
  have:∀l:List Ty,l.length<=(l.map Ty.size).sum:=by
   intro l;induction l with
   |nil=>simp
   |cons x l P=>simp only[bS,bO,ch];have:=size_eq x;omega
  have h1:=this t.dP;have J:=size_eq t;omega
 have H:∀v∈t.dP,∀u∈v.all,Q u:=λv V u hu=>O u (by rw[all_eq];exact gG _ (cN.2 ⟨v,V,hu⟩));rw[all_eq]at h1 h0;refine el SN Tryz.func181 λA C L X=>?_;cbv;refine X.round (T t s _ _ _ _ _ _ (O t (by rw[all_eq];simp)) N (λk p g=>?_) (λk p g=>?_))
 ·have e1:∀l,hZ go ok (t::l) s=hZ go ok l p:=λl=>by rw[hZ,if_pos k,g]
  rw[e1]at h1 h0;cbv;refine X.call (Q9 E G N λM c=>?_);obtain⟨b,j,a⟩:=lenOf c;cbv;refine lP X (λy=>y.1<=b/\hZ go ok ((t.dP.take y.1).flatMap Ty.all) p=(y.2,true)) (λy=>b-y.1) (0,p) ⟨bD _,rfl⟩ [0,1,2,3] (λ(y:Nat×Int)=>⟨[(14,.int .i64 y.1),(13,.int .i64 (A.len M)),(12,.lst 29 M),(1,.box 0 0),(2,.box 1 0)],[.box [.lS 2],.box [.cy 181 [.box 0 0,.box 1 0]],.loop n ps C1 C2 [(q,.box 3 0)] .ready,.box [.int .i64 y.2]]⟩) ?_;rintro⟨i,r⟩ ⟨U,hr⟩;simp only at U hr;cbv;refine⟨λh=>?_,λh=>?_⟩
  ·have h5:i<t.dP.length:=lY X.a a h;have R:=gI X.a c h5;have W:=iX X.a c h5;have B:=jX X.a h5;have e:A.not true=false:=yX;have f:A.not false=true:=yX;refine p1 ?_;refine X.call (P _ (bx h5) (gP E _ (bx h5)) (z _ (bx h5)) (H _ (bx h5)) R (λF d=>?_) (λF d=>?_))
   ·cbv;repeat' (first|apply bw|exact zf|(intro J;cbv)|apply bG)
    any_goals exact B
    ·exact absurd (e.symm.trans J) yD
    refine⟨(i+1,F),⟨?_,?_⟩,?_,[0,1,2,3],rfl,?_⟩
    ·simp only;omega
    ·simp only;rw[gf h5,pU,hr,if_pos rfl];exact d
    ·simp only;omega
    exact yc
   ·cbv;repeat' (first|apply bw|exact zf|(intro J;cbv)|apply bG)
    any_goals exact B
    ·refine h0 F ?_;have e2:t.dP.flatMap Ty.all=(t.dP.take (i+1)).flatMap Ty.all++(t.dP.drop (i+1)).flatMap Ty.all:=by rw[<- cV,dG]
     have e3:hZ go ok ((t.dP.take (i+1)).flatMap Ty.all) p=(F,false):=by rw[gf h5,pU,hr,if_pos rfl];exact d
     rw[e2,pU,e3];rfl
    ·have J:A.not false=false:=yA;exact absurd (f.symm.trans J) (by decide)
  have h5:i=b:=gY X.a a h;subst h5;rw[j,bF]at hr;cbv;exact h1 r hr
 ·cbv;exact h0 p (by rw[hZ,if_neg (by simp[k]),g])
def PG{t:Ty}(d:Ty.le 4294967295 t)(hs:t.size<=4294967295)(f:∀u∈t.all,Q u){s:Int}{c:Int}{c1 c2:S}{a b:D}{K:PV->List Ob->Prop}(h:cD t c c1 c2 a b)
 (g:∀(t:Ty)(s:Int)(c:Int)(c1 c2:S)(a b:D)(e:PV->List Ob->Prop),Q t->cD t c c1 c2 a b->(ok t=true->∀s',s'=go t s->e (.bl true) [.loop n ps C1 C2 [(q,.box 1 0)] .ready,.box [.int .i64 s']])->
   (ok t=false->∀s',s'=go t s->e (.bl false) [.loop n ps C1 C2 [(q,.box 1 0)] (.done .ret),.box [.int .i64 s']])->YC Tryz.prog tt [.loop n ps C1 C2 [(q,.box 1 0)] .ready,.box [.int .i64 s]] [df c c1 c2 a b] e)
 (h1:∀s',hZ go ok t.all s=(s',true)->K (.tup []) [.loop n ps C1 C2 [(q,.box 1 0)] .ready,.box [.int .i64 s']])
 (h0:∀s',hZ go ok t.all s=(s',false)->K (.tup []) [.loop n ps C1 C2 [(q,.box 1 0)] (.done .ret),.box [.int .i64 s']]):
 FT 180 [.loop n ps C1 C2 [(q,.box 1 0)] .ready,.box [.int .i64 s]] [.lS 0,.cR [.int .i64 c,.str c1,.str c2,.lst 29 a,.lst 42 b] 0] K:=by
 refine el SO Tryz.func180 λA C L X=>?_;cbv;refine X.call (TV g t d hs f h (λr hr=>?_) (λr hr=>?_))
 ·cbv;exact h1 r hr
 ·cbv;exact h0 r hr
def Sx:eE:={tt:=tt,n:=10,n0:=2,Nz:=true}
end
end Go.VC.cK
namespace Go.VC
mutual
def Ty.wH:Ty->Nat| .mk _ _ _ ar fl=>1+max (Ty.L6 ar) (Ty.L7 fl)
def Fe.wH:Fe->Nat| .mk _ t _=>Ty.wH t
def Ty.L6:List Ty->Nat|[]=>0|t::l=>max (Ty.wH t) (Ty.L6 l)
def Ty.L7:List Fe->Nat|[]=>0|t::l=>max (Fe.wH t) (Ty.L7 l)
end
def nI(l:List Nat):Nat:=l.foldl max 0
def foldl_max:∀(l:List Nat)(a:Nat),l.foldl max a=max a (nI l)
 |[],a=>by simp[nI]
 |x::l,a=>by unfold nI;simp only[iG];rw[foldl_max l (max a x),foldl_max l (max 0 x)];omega
def wq(x:Nat)(l:List Nat):nI (x::l)=max x (nI l):=by unfold nI;rw[iG,foldl_max];unfold nI;omega
def rC(l k:List Nat):nI (l++k)=max (nI l) (nI k):=by unfold nI;rw[l8,foldl_max];rfl
def H8:∀l:List Ty,Ty.L6 l=nI (l.map Ty.wH)
 |[]=>by simp[Ty.L6,nI]
 |t::l=>by rw[Ty.L6,H8 l,bO,wq]
def H9:∀l:List Fe,Ty.L7 l=nI ((l.map Fe.t).map Ty.wH)
 |[]=>by simp[Ty.L7,nI]
 | .mk s t b::l=>by rw[Ty.L7,H9 l,bO,bO,wq];rfl
def GQ(t:Ty):t.wH=1+nI (t.dP.map Ty.wH):=by cases t;simp only[Ty.wH,H8,H9,Ty.dP,cg,rC,Ty.ar,Ty.fl]
def NT{l:List Nat}{n:Nat}(h:∀x∈l,x<=n):nI l<=n:=by
 induction l with
 |nil=>simp[nI]
 |cons x l c=>rw[wq];have a:=h x yS;have b:=c λy d=>h y (by simp[d]);omega
def L8:∀t:Ty,t.wH<=t.size:=by
 refine Ty.fC λt a=>?_;rw[GQ,size_eq];have:nI (t.dP.map Ty.wH)<=(t.dP.map Ty.size).sum:=NT λx b=>by obtain⟨u,hu,rfl⟩:=bT.1 b;have:=a u hu;have J:u.size<=(t.dP.map Ty.size).sum:=p8 (bT.2 ⟨u,hu,rfl⟩);omega
 omega
def O9(s:Int):Int:=if -9223372036854775808<=s/\s<=9223372036854775807 then s else Std.wrap .i64 s
def yn:∀(l:List Ty)(s:Nat),s+l.length<=4294967296->hZ (λ_ s=>O9 (s+1)) (λ_=>true) l (br s)=(br (s+l.length),true)
 |[],s,_=>by simp[hZ]
 |t::l,s,h=>by
  simp only[bS]at h;rw[hZ,if_pos rfl];have e:O9 (br s+1)=br (s+1):=by unfold O9;rw[if_pos yL];rfl
  rw[e,yn l (s+1) yO];rw[show s+1+l.length=s+(l.length+1)by omega];rfl
end Go.VC
namespace Go.VC.cK
open Go Go.VC Go.Proofs
def Wr{t:Ty}(d:Ty.le 4294967295 t)(hs:t.size<=4294967295){i:Int}{c1 c2:S}{f g:D}{K:PV->List Ob->Prop}(j:cD t i c1 c2 f g)
 (h:∀r:Int,r=br t.size->K (.int .i64 r) []):FT 256 [] [df i c1 c2 f g] K:=by
 have c:=yn t.all 0 (by rw[Ik];omega);rw[Ik]at c;refine en (cf 10) Tryz.func256 λA C L X=>?_;cbv;refine X.call (Ra ?_);cbv;refine X.range rfl ⟨Tryz.func180,by rfl,rfl⟩ rfl [(3,.box 1 0)] ?_ ?_
 ·cbv
 cbv;refine X.call (PG (Q:=λ_=>True) (s:=0) (go:=λ_ s=>O9 (s+1)) (ok:=λ_=>true) d hs (λ_ _=>trivial) j ?_ ?_ ?_)
 ·intro u s k b1 b2 m l n _ hu h1 h0;refine YC.enter (G:=Sx) eX mixed rfl rfl rfl rfl rfl ?_;intro A C L X;have e1:A.inr .i64 (A.add s 1)->A.add s 1=O9 (s+1):=by rw[X.a,dK,dO];intro h;rw[O9,if_pos h]
  have e2:¬A.inr .i64 (A.add s 1)->A.wrap .i64 (A.add s 1)=O9 (s+1):=by rw[X.a,dK,dO];intro h;rw[O9,if_neg h]
  by_cases a:A.inr .i64 (A.add s 1)
  ·have q:=h1 rfl _ (e1 a);cbv;refine .inl ⟨a,λ_=>?_⟩;cbv;exact q
  ·have q:=h1 rfl _ (e2 a);cbv;refine .inr λ_=>?_;cbv;exact q
 ·intro s' b;have e:s'=br t.size:=by have:=b.symm.trans c;rw[fk]at this;exact(sV this).1
  cbv;exact h _ e
 ·intro s' b;have:=b.symm.trans c;exact absurd (sV this).2 yD
def Wq:∀(t:Ty),Ty.le 4294967295 t->t.size<=4294967295->∀{v:Int}{c1 c2:S}{o s:D}{K:PV->List Ob->Prop},cD t v c1 c2 o s->(∀r:Int,r=br t.wH->K (.int .i64 r) [])->FT 257 [] [df v c1 c2 o s] K:=by
 refine Ty.fC λt w=>?_;intro j hs v c1 c2 o s K E h;have p:=L8 t;have d:∀u∈t.dP,u.size<=4294967295:=by intro u hu;have:=size_eq t;have J:u.size<=(t.dP.map Ty.size).sum:=p8 (bT.2 ⟨u,hu,rfl⟩);omega
 have k:t.dP.length<=4294967295:=by
  have:∀l:List Ty,l.length<=(l.map Ty.size).sum:=by
   intro l;induction l with
   |nil=>simp
   |cons x l w=>simp only[bS,bO,ch];have:=size_eq x;omega
  have h1:=this t.dP;have J:=size_eq t;omega
 obtain⟨f,hf⟩:∃f:Nat->Nat,f=λi=>nI ((t.dP.take i).map Ty.wH):=⟨_,rfl⟩;have F:f 0=0:=by rw[hf];rfl
 have fs:∀i (h:i<t.dP.length),f (i+1)=max (f i) t.dP[i].wH:=λi h=>by rw[hf];simp only;rw[bX h,cg,rC];simp[nI]
 have fn:t.wH=1+f t.dP.length:=by rw[GQ,hf];simp only;rw[bF]
 clear hf;rw[fn]at h p;refine en (cf 20) Tryz.func257 λA C L X=>?_;cbv;refine X.call (Q9 j k E λr hr=>?_);obtain⟨b,c,a⟩:=lenOf hr;cbv;refine lu X (λy=>y.1<=b/\y.2=br (f y.1)) (λy=>b-y.1) (0,0) ⟨bD _,by rw[F];rfl⟩ (λ(y:Nat×Int)=>[(9,.int .i64 y.1),(3,.int .i64 y.2)]) ?_;rintro⟨i,m⟩ ⟨H,g⟩;simp only at H g;cbv;constructor<;>intro h1
 ·have h5:i<t.dP.length:=lY X.a a h1;have B:=gI X.a hr h5;have I:=iX X.a hr h5;have e:=jX X.a h5;have n:=fs i h5;refine p1 ?_;refine X.call (w _ (bx h5) (gP j _ (bx h5)) (d _ (bx h5)) B λz G=>?_);have q:A.max m z=br (f (i+1)):=by rw[X.a,z8,n,g,G];simp only[bz];omega
  refine p1 ?_;exact⟨(i+1,_),⟨yP,q⟩,yP,yc⟩
 have h5:i=b:=gY X.a a h1;rw[h5,c]at g;have e:A.inr .i64 (A.add m 1):=by rw[X.a,g,dK,dO];simp only[bz];omega
 have q:=h (A.add m 1) (by rw[X.a,g,dO];simp only[bz];omega);cbv;refine .inl ⟨e,λ_=>?_⟩;cbv;exact q
end Go.VC.cK
namespace Go.VC
def oJ:List S->Int
 |a::b::l=>if a=b then 5 else if slt b a then 1 else oJ (b::l)
 |_=>0
def zQ:∀(a b:S),(Lib.compareBytes a b=0↔a=b)/\(0<Lib.compareBytes a b↔slt b a=true)
 |[],[]=>by simp[Lib.compareBytes,slt,Op.bytesLess]
 |[],_::_=>by simp[Lib.compareBytes,slt,Op.bytesLess]
 |_::_,[]=>by simp[Lib.compareBytes,slt,Op.bytesLess]
 |x::a,y::b=>by
  have e:=zQ a b;simp only[Lib.compareBytes,vU,List.cons_lt_cons_iff]at*;by_cases h1:x<y
  ·have J:¬y<x:=λh=>absurd (UInt8.lt_trans h1 h) (sJ x);have h3:x≠y:=λh=>by subst h;exact sJ x h1
   simp[h1,J,h3,eh h3]
  ·by_cases J:y<x
   ·have h3:x≠y:=λh=>by subst h;exact sJ x J
    simp[h1,J,h3]
   ·have h3:x=y:=UInt8.le_antisymm (UInt8.not_lt.1 J) (UInt8.not_lt.1 h1);subst h3;simp[sJ,e]
def Bt{l:List S}{i:Nat}(h0:1<=i)(h:i<l.length):oJ (l.drop (i-1))=if l[i-1]=l[i]then 5 else if slt l[i] l[i-1]then 1 else oJ (l.drop i):=by rw[bM (by omega:i-1<l.length),show i-1+1=i by omega,bM h];rfl
def xU(s:S):Bool:=iT s||(decide (s.length=2)&&JW s==35&&decide (48<=((s.getD 1 0).toNat:Int))&&decide (((s.getD 1 0).toNat:Int)<=55))
def y9(s:S):Bool:=s==[]||ie s||Bb s
def gz(t:Ty):Bool:=
 if t.k != 8&&t.fl.any Fe.b then false else
 if t.k=0\/t.k=1\/t.k=2\/t.k=3\/t.k=4 then t.m==[]&&t.n==[]&&decide (t.ar.length=0)&&decide (t.fl.length=0)else
 if t.k=5 then t.m==[]&&t.n==[]&&decide (t.ar.length=1)&&decide (t.fl.length=0)else
 if t.k=6\/t.k=7 then t.m==[]&&t.n==[]&&decide (t.ar.length=0)else
 if t.k=8 then t.m==[]&&t.n==[]&&decide (t.ar.length=1)else
 if t.k=9 then t.m==[]&&decide (t.ar.length=0)&&decide (t.fl.length=0)else
 if t.k=10 then decide (t.fl.length=0)else false
def qp(t:Ty):Int:=
 if !gz t then 1 else
 if 32<t.fl.length\/8<t.ar.length then 7 else
 if(t.k=9/\xU t.n=false)\/(t.k=10/\(y9 t.m=false\/iT t.n=false))then 4 else
 if t.fl.any (λf=> !ie f.s)then 4 else oJ (t.fl.map Fe.s)
structure Ty.mF (u:Ty):Prop where
 m:u.m.length<=1048576
 n:u.n.length<=1048576
 f:∀x∈u.fl,x.s.length<=1048576
end Go.VC
namespace Go.VC.cK
open Go Go.VC Go.Proofs
section
variable {K:PV->List Ob->Prop}{l:List Fe}{d k g:D}{p:Fe->Bool}{o c2 c s:S}{c1:Int}{j:Bool}
def MS(hd:d=bH fq l)(hl:l.length<=4294967295)
 (w:∀x∈l,∀(o:S)(c1:Int)(c2:S)(c:S)(k:D)(g:D)(j:Bool)(t:PV->List Ob->Prop),nX x o c1 c2 c k g j->(∀b,b=p x->t (.bool b) [])->FT 311 [] [oK o c1 c2 c k g j] t)
 (h:∀r:Int,r=mg p l->K (.int .i64 r) []):
 FT 109 [] [.lst 42 d,.cy 311 []] K:=by
 refine en Qz Tryz.func109 λA C L X=>?_;obtain⟨e,n,a⟩:=lenOf hd;cbv;refine lu X (λi=>i<=e/\∀x∈l.take i,p x=false) (λi=>e-i) 0 ⟨bD _,yS⟩ (λ(i:Nat)=>[(8,.int .i64 i)]) ?_;rintro i ⟨y,ha⟩;cbv;constructor<;>intro h1
 ·have h5:i<l.length:=lY X.a a h1;have u:=kD X.a hd h5;have v:=iX X.a hd h5;have q:=jX X.a h5;refine p1 ?_;refine X.call (w _ (bx h5) _ _ _ _ _ _ _ _ u λb hb=>?_);have m:b=p l[i]:=hb;clear hb;cbv;repeat' (first|apply bw|exact zf|(intro J;cbv)|apply bG)
  any_goals exact q
  ·refine h i ?_;exact(kQ h5 ha (by rw[<- m];obtain rfl:=X.a;simpa only[SD]using J)).symm
  ·have hf:p l[i]=false:=by rename_i h3;rw[<- m];obtain rfl:=X.a;simpa only[SD,dq]using h3
   refine⟨i+1,⟨yO,?_⟩,yO,?_⟩
   ·rw[bX h5];intro x f;rcases bJ.1 f with f|f
    ·exact ha x f
    ·simp at f;subst f;exact hf
   exact yc
 ·have h5:i=e:=gY X.a a h1;subst h5;cbv;refine h (-1) ?_;rw[n,bF]at ha;exact(kR ha).symm
def MP(hd:d=bH fq l)(hl:l.length<=4294967295)
 (e:∀x∈l,∀(o:S)(c1:Int)(c2:S)(c:S)(k:D)(g:D)(j:Bool)(a:PV->List Ob->Prop),nX x o c1 c2 c k g j->(∀b,b=p x->a (.bool b) [])->FT 311 [] [oK o c1 c2 c k g j] a)
 (h:∀b,b=l.any p->K (.bool b) []):
 FT 294 [] [.lst 42 d,.cy 311 []] K:=by
 refine en Sr Tryz.func294 λA C L X=>?_;cbv;refine X.call (MS hd hl e λr hr=>?_);have q:=h (A.le 0 r) (by rw[X.a,tW,rE,hr]);cbv;exact q
def MT(hd:d=bH fq l)(hl:l.length<=4294967295)
 (w:∀x∈l,∀(o:S)(c1:Int)(c2:S)(c:S)(k:D)(g:D)(j:Bool)(t:PV->List Ob->Prop),nX x o c1 c2 c k g j->(∀b,b=p x->t (.bool b) [])->FT 295 [] [oK o c1 c2 c k g j] t)
 (h:∀r:Int,r=mg p l->K (.int .i64 r) []):
 FT 109 [] [.lst 42 d,.cy 295 []] K:=by
 refine en Qz Tryz.func109 λA C L X=>?_;obtain⟨e,n,a⟩:=lenOf hd;cbv;refine lu X (λi=>i<=e/\∀x∈l.take i,p x=false) (λi=>e-i) 0 ⟨bD _,yS⟩ (λ(i:Nat)=>[(8,.int .i64 i)]) ?_;rintro i ⟨y,ha⟩;cbv;constructor<;>intro h1
 ·have h5:i<l.length:=lY X.a a h1;have u:=kD X.a hd h5;have v:=iX X.a hd h5;have q:=jX X.a h5;refine p1 ?_;refine X.call (w _ (bx h5) _ _ _ _ _ _ _ _ u λb hb=>?_);have m:b=p l[i]:=hb;clear hb;cbv;repeat' (first|apply bw|exact zf|(intro J;cbv)|apply bG)
  any_goals exact q
  ·refine h i ?_;exact(kQ h5 ha (by rw[<- m];obtain rfl:=X.a;simpa only[SD]using J)).symm
  ·have hf:p l[i]=false:=by rename_i h3;rw[<- m];obtain rfl:=X.a;simpa only[SD,dq]using h3
   refine⟨i+1,⟨yO,?_⟩,yO,?_⟩
   ·rw[bX h5];intro x f;rcases bJ.1 f with f|f
    ·exact ha x f
    ·simp at f;subst f;exact hf
   exact yc
 ·have h5:i=e:=gY X.a a h1;subst h5;cbv;refine h (-1) ?_;rw[n,bF]at ha;exact(kR ha).symm
def MQ(hd:d=bH fq l)(hl:l.length<=4294967295)
 (e:∀x∈l,∀(o:S)(c1:Int)(c2:S)(c:S)(k:D)(g:D)(j:Bool)(a:PV->List Ob->Prop),nX x o c1 c2 c k g j->(∀b,b=p x->a (.bool b) [])->FT 295 [] [oK o c1 c2 c k g j] a)
 (h:∀b,b=l.any p->K (.bool b) []):
 FT 294 [] [.lst 42 d,.cy 295 []] K:=by
 refine en Sr Tryz.func294 λA C L X=>?_;cbv;refine X.call (MT hd hl e λr hr=>?_);have q:=h (A.le 0 r) (by rw[X.a,tW,rE,hr]);cbv;exact q
def Wc{x:Fe}(a:nX x o c1 c2 c k g j)(h:∀b,b=x.b->K (.bool b) []):FT 311 [] [oK o c1 c2 c k g j] K:=by refine en (cf 5) Tryz.func311 λA C L X=>?_;cbv;exact h _ a.2.2
def We{x:Fe}(hs:x.s.length<=4294967295)(a:nX x o c1 c2 c k g j)(h:∀b,b= !ie x.s->K (.bool b) []):FT 295 [] [oK o c1 c2 c k g j] K:=by have e:=a.1;refine en (cf 7) Tryz.func295 λA C L X=>?_;cbv;refine X.call (Ha (by rw[e];exact hs) λb hb=>?_);have q:=h (A.not b) (by rw[X.a,fh,hb,e]);cbv;exact q
def TG{x:Fe}(a:nX x o c1 c2 c k g j)(h:∀s,s=x.s->K (.str s) []):FT 297 [] [oK o c1 c2 c k g j] K:=by refine en (cf 5) Tryz.func297 λA C L X=>?_;cbv;exact h _ a.1
def Wg(hs:s.length<=4294967295)(h:∀b,b=xU s->K (.bool b) []):FT 292 [] [.str s] K:=by
 refine en (cf 25) Tryz.func292 λA C L X=>?_;have e:A.eq (A.dz s) 2=true->A.idx 0 (A.dz s):=by rw[X.a];intro h;rw[fR,fJ]at h;have h:=eq_of_beq h;exact⟨yD,by rw[fJ,h];decide⟩
 have a:A.eq (A.dz s) 2=true->A.idx 1 (A.dz s):=by rw[X.a];intro h;rw[fR,fJ]at h;have h:=eq_of_beq h;exact⟨yD,by rw[fJ,h];decide⟩
 obtain⟨y,f⟩:∃y,y=((s.getD 1 0).toNat:Int):=⟨_,rfl⟩;have i:xU s=(iT s||(decide (s.length=2)&&JW s==35&&decide (48<=y)&&decide (y<=55))):=by rw[f];rfl
 have g1:Std.iZ s 1=y:=by rw[f];rfl
 clear f;cbv;refine X.call (JJ hs λb hb=>?_);cbv;repeat' (first|apply bw|exact zf|(intro J;cbv)|apply bG)
 any_goals first|exact e yA|exact a yA
 all_goals (refine h _ ?_;rw[i];obtain rfl:=X.a;clear e a h i;simp only[jo,g1,SD]at* <;>simp_all<;>(intros;omega))
def Wf(hs:s.length<=4294967200)(h:∀b,b=y9 s->K (.bool b) []):FT 293 [] [.str s] K:=by
 refine en (cf 13) Tryz.func293 λA C L X=>?_;cbv;repeat' (first|apply bw|exact zf|(intro J;cbv)|apply bG|(refine X.call (Ha yO λb1 e=>?_);cbv)|(refine X.call (Ua hs λb2 a=>?_);cbv))
 all_goals (refine h _ ?_;obtain rfl:=X.a;clear h;simp only[SD]at* <;>simp_all[y9])
def Wd(hd:d=bH fq l)(hl:l.length<=4294967295)(h:∀r:Int,r=oJ (l.map Fe.s)->K (.int .i64 r) []):FT 296 [] [.lst 42 d,.cy 297 []] K:=by
 obtain⟨ns,b⟩:∃ns,ns=l.map Fe.s:=⟨_,rfl⟩;have I:ns.length=l.length:=by rw[b,bQ]
 have f:∀i (h:i<l.length),l[i].s=ns[i]'yO:=λi h=>by simp[b]
 rw[<- b]at h;clear b;refine en Vj Tryz.func296 λA C L X=>?_;obtain⟨n,E,a⟩:=lenOf hd;cbv;refine lu X (λi=>1<=i/\(i<=n\/i=1)/\oJ ns=oJ (ns.drop (i-1))) (λi=>n-i) 1 ⟨ca _,.inr rfl,rfl⟩ (λ(i:Nat)=>[(5,.int .i64 i)]) ?_;rintro i ⟨w,O,m⟩;cbv;constructor<;>intro h1
 ·have h5:i<l.length:=lY X.a a h1;have y:A.sub (br i) 1=br (i-1):=by rw[X.a,iK];simp only[bz];omega
  have F:A.inr .i64 (A.sub (br i) 1):=by rw[y,X.a,dK];simp only[bz];omega
  have G:=kD X.a hd h5;have B:=kD X.a hd (show i-1<l.length by omega);rw[<- y]at B;have N:=iX X.a hd h5;have z:A.idx (A.sub (br i) 1) (A.len d):=by rw[y,X.a,hd];exact cP yO
  have v:=jX X.a h5;have u:=Bt w (show i<ns.length by omega);rw[u]at m;refine p1 ?_;refine X.call (TG B λH q=>?_);cbv;refine X.call (TG G λM t=>?_);rw[f]at q t;cbv;refine X.call (Wb λr hr=>?_);rw[<- q,<-t]at m;have hc:=zQ H M;rw[<- hr]at hc;cbv;repeat' (first|apply bw|exact zf|(intro J;cbv)|apply bG)
  any_goals exact v
  ·have J:A.eq r 0=true:=yA;refine h 5 ?_;rw[m,if_pos (hc.1.1 (by rw[X.a,fR]at J;exact eq_of_beq J))]
  ·have J:A.eq r 0=false:=yA;have h3:A.lt 0 r=true:=yA;refine h 1 ?_;rw[X.a]at J h3;rw[m,if_neg (λe=>by rw[fR,hc.1.2 e]at J;cases J),if_pos (hc.2.1 (of_decide_eq_true h3))]
  ·have J:A.eq r 0=false:=yA;have h3:A.lt 0 r=false:=yA;refine⟨i+1,⟨yO,.inl yO,?_⟩,yO,?_⟩
   ·rw[X.a]at J h3;rw[m,if_neg (λe=>by rw[fR,hc.1.2 e]at J;cases J),if_neg (λe=>(of_decide_eq_false h3) (hc.2.2 e))];rfl
   exact yc
 ·have h5:l.length<=i:=by obtain rfl:=X.a;simp only[a,SD]at h1;omega
  cbv;refine h 0 ?_;rw[m]
  have:ns.drop (i-1)=[]\/∃x,ns.drop (i-1)=[x]:=by
   rcases cb (i-1) ns.length with h6|h6
   ·right;refine⟨ns[i-1],?_⟩;rw[bM h6,fD yO]
   ·left;exact fD h6
  rcases this with e|⟨x,e⟩<;>rw[e]<;>rfl
end
end Go.VC.cK
namespace Go.VC
open Go Go.Proofs Go.Shelf Go.RowKit
section
section
variable {P:Program} (w:World)
def Al{e:TypeId}(hc:P.cellsOf e=1)(a o n:Nat)(b:o+n<=a):liesAt P P.depth e a o e n=true:=by have hd:P.depth=(2*(P.types.size+Made.depth)+1)+1:=rfl;rw[hd];simp only[liesAt,gh];left;rw[hd];simp[rowAt,hc,b,sameLayout,Nat.mod_one]
def qJ(m it ty e:TypeId)(t:P.underlying m=some (.pointer e))(hc:P.cellsOf e=1)(g o cells:Nat)(r:w.shape? g=some (e,cells))(l:List UInt8)(h0:l≠[])(v:o+l.length<=cells)(u:l.length<=9223372036854775807)
 (b:∀j x,l[j]? =some x->w.cell? ((⟨g,o,none⟩:Addr).add j)=some (.int .u8 x.toNat)):
 (Builtin.unsafeString_ #[m,it] ty #[.pointer (some ⟨g,o,none⟩),.int .i64 l.length]).run P w= .ok (.string ⟨l.toArray⟩) (w.freeze ⟨g,o,none⟩ l.length):=by
 have hl:l.length≠0:=yU h0;have q:=Lib.run_loadBytes (P:=P) w l ⟨g,o,none⟩ .empty b;have a:=Al (P:=P) hc (cells/P.cellsOf e) o l.length (by rw[hc];simpa using v);have k:¬(9223372036854775807:Int)<(l.length:Int):=yO
 have c:Builtin.unsafeString_ #[m,it] ty #[.pointer (some ⟨g,o,none⟩),.int .i64 l.length]=
  (do
    let n <-asInt (.int .i64 l.length)
    if n<0 then runtimePanic (.error "unsafe.String: len out of range")
    if n>IntKind.i64.max then unsupported (.unsafePointer "String: a length above the largest int")
    if n=0 then pure (.string .empty)
    else if <-variablesAt ⟨g,o,none⟩ (<- elemOf m) n.toNat then do
     let s <-loadBytes ⟨g,o,none⟩ .empty n.toNat
     freeze ⟨g,o,none⟩ n.toNat
     pure (.string s)
    else unsupported (.unsafePointer "String: not so many bytes at ptr")):=rfl
 rw[c];have i:IntKind.i64.max=9223372036854775807:=rfl;have h:¬(l.length:Int)<0:=yO;simp[asInt,asIntOf,i,k,h,hl,variablesAt,r,elemOf,run_underlying t,a,q]
end
section
variable {P:Program}{ρ:Ren}
structure OT (g:Nat) (w w':World):Prop where
 os:w'.os=w.os
 tape:w'.tape=w.tape
 output:w'.output=w.output
 size:w.heap.size<=w'.heap.size
 drawn:w.drawn<=w'.drawn
 block:∀k,k≠g->w'.heap[k]? =w.heap[k]?
def D9(w:World)(g o n:Nat):OT g w (w.drew.freeze ⟨g,o,none⟩ n):=by
 have hd:OT g w w.drew:=⟨rfl,rfl,rfl,ca _,qF _,λk hk=>rfl⟩;generalize w.drew=w' at hd;unfold World.freeze;split
 ·exact hd
 ·exact⟨hd.os,hd.tape,hd.output,yU hd.size,hd.drawn,λk hk=>by simp only[jK];rw[if_neg (λe=>hk e.symm)];exact hd.block k hk⟩
def Hc(L:Lays.n169 P ρ)(X:Builder.Extra P ρ)(b g o cap:Nat)(p:Value)(cur:Array Value)(l:List UInt8)(w:World)(h0:l≠[])(k:cap≠0)(q:l.length<=9223372036854775807)
 (m:w.heap[b]? =some (.cells #[p,.slice (some ⟨g,o,none⟩) l.length cap] (ρ.t 72) (0,0))) (n:w.heap[g]? =some (.cells cur (ρ.t 5) (0,0))) (c:o+l.length<=cur.size)
 (a:∀(j:Nat) x,l[j]? =some x->cur[o+j]? =some (.int .u8 x.toNat)):
 Calls P (ρ.f 169) #[.pointer (some ⟨b,0,none⟩)] w λe w'=>e= .returned (.string ⟨l.toArray⟩)/\OT g w w':=by
 have c1:w.drew.cell? ⟨b,1,none⟩=some (.slice (some ⟨g,o,none⟩) l.length cap):=by have:w.drew.heap[b]? =some (.cells #[p,.slice (some ⟨g,o,none⟩) l.length cap] (ρ.t 72) (0,0)):=m;rw[Lib.cell_of_heap this];rfl
 have B:(Builtin.unsafeSliceData_ #[(ρ.t 37)] (ρ.t 127) #[.slice (some ⟨g,o,none⟩) l.length cap]).run P w.drew= .ok (.pointer (some ⟨g,o,none⟩)) w.drew:=Lib.run_unsafeSliceData_row _ _ _ _ _ _ k;have y:(Builtin.unsafeString_ #[(ρ.t 127),(ρ.t 3)] (ρ.t 9) #[.pointer (some ⟨g,o,none⟩),.int .i64 l.length]).run P w.drew= .ok (.string ⟨l.toArray⟩) (w.drew.freeze ⟨g,o,none⟩ l.length):=by refine qJ w.drew (ρ.t 127) (ρ.t 3) (ρ.t 9) (ρ.t 5) L.t127 X.cellsByte g o cur.size (by have h:w.drew.heap[g]? =some (.cells cur (ρ.t 5) (0,0)):=n;simp[World.shape?,h]) l h0 c q ?_;intro j x M;have h1:=a j x M;have h:w.drew.heap[g]? =some (.cells cur (ρ.t 5) (0,0)):=n;rw[Addr.add_lit];simp[World.cell?,h,h1]
 have i:=D9 w g o l.length;clear n c a h0 m;have mixed:=L.mixed;have R:=L.t72;have U:=L.a72;have A:=L.z72;have z:=L.v72;have F:=run_underlying L.t72;have O:=L.t70;have S:=L.a70;have J:=L.z70;have C:=L.v70;have E:=run_underlying L.t70;have H:=L.t37;have N:=L.a37;have Q:=L.z37;have G:=L.v37;have I:=run_underlying L.t37;have v:=L.t127;have s:=L.a127;have r:=L.z127;have t:=L.v127;have u:=run_underlying L.t127;have V:=L.t3;have a3:=L.a3;have z3:=L.z3;have W:=L.v3;have u3:=run_underlying L.t3;have t9:=L.t9;have a9:=L.a9;have z9:=L.z9;have Z:=L.v9;have u9:=run_underlying L.t9;have t5:=X.t5;have a5:=X.a5;have Y:=X.z5;have v5:=X.v5;have u5:=run_underlying X.t5
 go_enter L.f169,Body.n169_ntmps ρ
 go_wp2
 go_region_o
 all_goals (go_wp2;go_ret;exact⟨rfl,i⟩)
end
def dX(s:List UInt8):List (List D):=s.map λc=>[.int (c.toNat:Int)]
def FM{tt:TypeId->Option TI}{Pp:ga}{e:TypeId}(a:bV tt e=[.int .u8]){vs:List Value}{o:Nat}{s:List UInt8}(h:xr tt Pp e vs o (dX s)):∀(j:Nat) c,s[j]? =some c->vs[o+j]? =some (.int .u8 c.toNat):=by intro j c hc;obtain⟨_,h2⟩:=h j [.int (c.toNat:Int)] (by simp[dX,hc]);rw[a]at h2;obtain⟨v,b,hr⟩:=h2 0 (.int (c.toNat:Int)) (.int .u8) rfl rfl;cases hr;simpa using b
section
variable {P:Program}{tt:TypeId->Option TI}{f:FuncId}{T e:TypeId}
variable {d:D}{p:PV}{K:PV->List Ob->Prop}
def JI(hu:∀t ti,tt t=some ti->ti.BL=true->t=T)(H:bV tt e=[.int .u8])
 (Z:∀args w,(callFunc f args).run P w= .ok (.enter f args) w)
 (hS:∀(b g o cap:Nat)(p:Value)(cur:Array Value)(l:List UInt8)(w:World),l≠[]->cap≠0->l.length<=9223372036854775807->
   w.heap[b]? =some (.cells #[p,.slice (some ⟨g,o,none⟩) l.length cap] T (0,0))->w.heap[g]? =some (.cells cur e (0,0))->o+l.length<=cur.size->
   (∀(j:Nat) x,l[j]? =some x->cur[o+j]? =some (.int .u8 x.toNat))->
   Calls P f #[.pointer (some ⟨b,0,none⟩)] w λe w'=>e= .returned (.string ⟨l.toArray⟩)/\OT g w w')
 {s:List UInt8} (h0:s≠[]) (hl:s.length<=4294967296) (hd:d= .list (dX s)) (hp:pW p=true) (h:K (.str s) [.dead,.dead]):
 FC P tt f [.box [p,.row e 1],.row e d true] [.box 0 0] K:=by
 subst hd;intro E Pp w vals B hv;cases hv with
 |cons v _ af _ N J=>
 cases J;cases N with
 |box _ _ gW M=>
 obtain⟨X,G,F⟩:=B.ob 0 _ rfl rfl;rw[M]at G;cases G;obtain⟨V,T1,hb,O,Q,I⟩:=F;obtain⟨ti,h1,h2⟩:=I hp;obtain rfl:=hu _ _ h1 h2;cases O with
 |cons Y _ us _ ab q=>
 cases q with
 |cons u1 _ U _ q L=>
 cases L;obtain⟨ae,n,m⟩:=B.ob 1 _ rfl rfl;cases q with
 |row0 _ _ hr=>rw[hr]at n;cases n;simp only[OR,D.list.injEq]at m;exact absurd (by simpa[dX]using m) h0
 |row _ _ g o len cap hr=>
  rw[hr]at n;cases n;obtain⟨vs,_,rows,W,hd,A,S,fL,ef,y,ai⟩:=m;cases hd;have u:s.length=len:=by rw[<- A,dX,bQ]
  subst u;have R:0<s.length:=ej.2 h0;rw[H]at fL;simp only[eg,vL]at fL;have y:=y rfl;have z:own E [.box [p,.row e 1],.row e (.list (dX s)) true] g:=⟨1,_,_,rfl,rfl,hr,rfl⟩;refine .inl ⟨Z _ _,(hS gW g o cap Y ⟨vs⟩ s w h0 yO yO hb W (by show o+s.length<=vs.length;omega) (λj x hx=>by simpa using FM H ef j x hx)).mono ?_⟩;rintro e' w' ⟨rfl,r⟩;have iJ:∀ad v,Pp ad v->pc w' ad=some v:=λad v C=>by rw[iu (r.block _ (y ad v C))];exact B.pi ad v C
  have a:∀(i:Nat)(ob:Ob),([.dead,.dead]:List Ob)[i]? =some ob->ob.live=true->False:=λi ob c hl=>by
   match i,c with
   |0,c=>simp at c;subst c;cases hl
   |1,c=>simp at c;subst c;cases hl
   |i+2,c=>simp at c
  refine⟨_,E,Pp,[.dead,.dead],.str s,rfl,.refl _,λ_ _ h=>h,⟨by have:=B.len;simpa using this,iJ,λi ob c hl=>(a i ob c hl).elim,λi j oi oj ri rj b c hj hl _ _ _ _ _=>(a i oi c hl).elim,B.gl⟩,?_,h,⟨r.os,r.tape,r.output,r.size,r.drawn,λk _ hk=>r.block k (λe=>hk (e▸z))⟩,λ_ _ h=>.inl h,λi ob ri b c hl=>(a i ob c hl).elim⟩;exact .str ⟨s.toArray⟩
def Db(hu:∀t ti,tt t=some ti->ti.BL=true->t=T)
 (S:∀args w,(callFunc f args).run P w= .ok (.enter f args) w)
 (s:∀(b:Nat)(w:World),w.cell? ⟨b,0,none⟩=some (.pointer (some ⟨b,0,none⟩))->Calls P f #[.pointer (some ⟨b,0,none⟩)] w λe w'=>e= .returned (.tuple #[])/\w'=w)
 (n:∀(b:Nat)(w:World),w.cell? ⟨b,0,none⟩=some (.pointer none)->w.shape? b=some (T,2)->w.frozen? ⟨b,0,none⟩=false->
   Calls P f #[.pointer (some ⟨b,0,none⟩)] w λe w'=>e= .returned (.tuple #[])/\w'=w.setCell ⟨b,0,none⟩ (.pointer (some ⟨b,0,none⟩)))
 (U:p= .nilp\/p= .box 0 0) (h:K (.tup []) [.box [.box 0 0,.row e 1],.row e d true]):
 FC P tt f [.box [p,.row e 1],.row e d true] [.box 0 0] K:=by
 intro E Pp w vals G H;cases H with
 |cons v _ ae _ M J=>
 cases J;cases M with
 |box _ _ gW a=>
 obtain⟨Z,B,z⟩:=G.ob 0 _ rfl rfl;rw[a]at B;cases B;obtain⟨X,R,hb,O,q,F⟩:=z;obtain⟨ti,h1,h2⟩:=F (by rcases U with rfl|rfl<;>rfl);obtain rfl:=hu _ _ h1 h2;cases O with
 |cons u0 _ us _ A r=>
 cases r with
 |cons u1 _ W _ r L=>
 cases L;have y:w.cell? ⟨gW,0,none⟩=some u0:=by simp[World.cell?,hb]
 rcases U with rfl|rfl
 ·cases A;refine .inl ⟨S _ _,(n gW w y (by simp[World.shape?,hb]) (by simp[World.frozen?,hb])).mono ?_⟩;rintro e' w' ⟨rfl,rfl⟩;have Q:(w.setCell ⟨gW,0,none⟩ (.pointer (some ⟨gW,0,none⟩))).heap[gW]? =some (.cells ⟨[.pointer (some ⟨gW,0,none⟩),u1]⟩ R (0,0)):=by simp[World.setCell,jK,hb]
  have c:∀k,k≠gW->(w.setCell ⟨gW,0,none⟩ (.pointer (some ⟨gW,0,none⟩))).heap[k]? =w.heap[k]? :=λk hk=>by simp only[World.setCell,jK];rw[if_neg (λe=>hk e.symm)]
  have x:own E [.box [.nilp,.row e 1],.row e d true] gW:=⟨0,_,_,rfl,rfl,a,rfl⟩
  have Y:WR tt E Pp [.box [.box 0 0,.row e 1],.row e d true] (w.setCell ⟨gW,0,none⟩ (.pointer (some ⟨gW,0,none⟩))):=by
   refine WR.x7 G (i:=0) (o:=.box [.nilp,.row e 1]) (o':=.box [.box 0 0,.row e 1]) (ri:=.box gW) (ri':=.box gW) rfl rfl a rfl (λ_ _=>rfl) a rfl ?_ rfl ?_ ?_ (λ_ _ h=>h) (λ_ _ h=>.inl h) (λb hb=>.inl hb) ?_
   ·intro j N hj g hl
    match j,g with
    |1,g=>exact⟨N,g,hl,λ_ _ h=>h⟩
    |0,_=>exact absurd rfl hj
    |j+2,g=>simp at g
   ·intro _;exact⟨_,R,Q,.cons _ _ _ _ (.box _ _ _ a) (.cons _ _ _ _ r .nil),q,λ_=>⟨ti,h1,h2⟩⟩
   ·intro b _ I;exact c b (λe=>I (by rw[e];rfl))
   ·intro ad v H;rw[iu (c _ (q ad v H))];exact G.pi ad v H
  refine⟨_,E,Pp,_,.tup [],rfl,.refl _,λ_ _ h=>h,Y,.tup [] [] .nil,h,⟨rfl,rfl,rfl,by simp[World.setCell],ca _,λk _ hk=>c k (λe=>hk (e▸x))⟩,λ_ _ h=>.inl h,?_⟩;intro i o ri b u hl m l
  match i,u with
  |0,u=>exact .inr ⟨0,_,ri,rfl,rfl,m,l⟩
  |1,u=>exact .inr ⟨1,_,ri,rfl,rfl,m,l⟩
  |i+2,u=>simp at u
 ·cases A with
  |box _ _ V C=>
  rw[a]at C;cases C;refine .inl ⟨S _ _,(s gW w y).mono ?_⟩;rintro e' w' ⟨rfl,rfl⟩;refine⟨_,E,Pp,[.box [.box 0 0,.row e 1],.row e d true],.tup [],rfl,.refl _,λ_ _ h=>h,G,.tup [] [] .nil,h,Fr.refl _ _,λ_ _ h=>.inl h,?_⟩;intro i o ri b u hl m l;exact .inr ⟨i,o,ri,u,hl,m,l⟩
end
end
end Go.VC
namespace Go.VC
open Go Go.Proofs Go.Shelf
section
def QY.var{Pp:ga}{g:Nat×IntKind×List Int}(h:QY Pp g){w:World}(b:∀ad v,Pp ad v->pc w ad=some v):∃T f,w.heap[g.1]? =some (.cells (g.2.2.map (Value.int g.2.1)).toArray T f):=by
 have h0:=b _ _ h.1;cases a:w.heap[g.1]? with
 |none=>simp only[pc,a]at h0;cases h0
 |some x=>
  cases x with
  |cells c T f=>
   simp only[pc,a,if_true,cr,Value.int.injEq,true_and]at h0;have fL:c.size=g.2.2.length:=by exact_mod_cast h0
   refine⟨T,f,?_⟩
   congr 2
   apply O8
   ·simp[fL]
   ·intro i h1 J;have d:i<g.2.2.length:=yO;have h3:=b _ _ (h.2 i g.2.2[i] (bB d));rw[pY]at h3;simp only[World.cell?,a]at h3;simp only[ou,cC,if_false]at h3;rw[pG h1]at h3;simp at h3;simp[h3]
  |_=>simp[pc,a]at h0
section
variable {P:Program}{tt:TypeId->Option TI}{f:FuncId}
def FC.grown{args:List PV}{K:PV->List Ob->Prop}(m:∀args w,(callFunc f args).run P w= .ok (.enter f args) w)
 (h:∀E Pp w vals,WR tt E Pp [] w->fe tt E Pp vals args->Calls P f ⟨vals⟩ w λe w'=>(∃k os,w'=Go.Sort.grow (w.drewN k) os)/\∃v pv,e= .returned v/\VR tt E Pp v pv/\K pv []):FC P tt f [] args K:=by
 intro E Pp w vals c n;refine .inl ⟨m _ _,(h E Pp w vals c n).mono ?_⟩;rintro e w' ⟨⟨k,os,rfl⟩,v,pv,rfl,g,hk⟩;have a:∀b,b<w.heap.size->(Go.Sort.grow (w.drewN k) os).heap[b]? =w.heap[b]? :=λb hb=>by show (w.heap++os)[b]? =_;rw[im hb]
 refine⟨v,E,Pp,[],pv,rfl,.refl _,λ_ _ h=>h,⟨c.len,λad u l=>?_,λi o d=>yE d,λi j oi oj ri rj b d=>yE d,c.gl⟩,g,hk,⟨rfl,rfl,rfl,?_,?_,λb hb _=>a b hb⟩,λ_ _ h=>.inl h,λi o ri b d=>yE d⟩
 ·rw[iu (a _ (yT (c.pi ad u l)))];exact c.pi ad u l
 ·show w.heap.size<=(w.heap++os).size;simp
 ·show w.drawn<=(w.drewN k).drawn;simp[World.drewN]
end
end
end Go.VC
namespace Go.VC.cK
open Go Go.VC Go.Proofs
section
variable {K:PV->List Ob->Prop}
def UD{w:World}{Pp:ga}(h:ML tt Pp)(a:∀ad v,Pp ad v->pc w ad=some v):Lib.TabIs Tryz.prog w "internal/strconv.uint64pow10" .u64 Lib.pow10Tab:=by obtain⟨T,f,hc⟩:=(h.2 (0,.u64,we) (by rw[show wB tt=[(0,.u64,we)]by kernel_rfl];simp)).var a;have b:Lib.pow10Tab=we:=yD;rw[b];show World.var? Tryz.prog w "internal/strconv.uint64pow10" =_;unfold World.var?;rw[show Tryz.prog.globalNamed "internal/strconv.uint64pow10" =some 0 by kernel_rfl];simp only[iY];rw[hc]
def BT{i:Int}(h0: -9223372036854775808<=i)(c:i<=9223372036854775807)(h:∀r:S,r=Lib.itoa i->K (.str r) []):FT 106 [] [.int .i64 i] K:=by
 refine FC.grown (enters_of Tryz.func106 (by kernel_rfl) rfl) λE Pp w vals b a=>?_;cases a with|cons _ _ _ _ h1 a=>
 cases a;cases h1;exact(Tryz.strconv_Itoa i h0 c w (UD b.gl b.pi)).mono λe w' ⟨h1,J⟩=>⟨J,_,_,h1,.str _,h _ rfl⟩
def Ud{b:Bool}(h:∀r:S,r=Lib.formatBool b->K (.str r) []):FT 108 [] [.bool b] K:=by
 refine FC.plain (enters_of Tryz.func108 (by kernel_rfl) rfl) λE Pp w vals c a=>?_;cases a with|cons _ _ _ _ h1 a=>
 cases a;cases h1;exact(Tryz.strconv_FormatBool b w).mono λe w' ⟨h1,J⟩=>⟨J,_,_,h1,.str _,h _ rfl⟩
end
end Go.VC.cK
namespace Go.VC
open Go
section
variable {a b:Int}{c d:UInt8}
def QM(l:S):Nat:=l.foldl (λa b=>10*a+(b.toNat-48)) 0
def xg(b:UInt8):Prop:=48<=b.toNat/\b.toNat<=57
def E7{i:Nat}(h:i<10):xg (mW (48+i))/\(mW (48+i)).toNat-48=i:=by
 have:(mW (48+i)).toNat=48+i:=by simp[UInt8.toNat_ofNat'];omega
 unfold xg;rw[this];omega
def kh:∀(u:Nat),(∀b∈Lib.decDigits u,xg b)/\QM (Lib.decDigits u)=u/\Lib.decDigits u≠[]:=by
 intro u;induction u using Nat.strongRecOn with
 |_ u f=>
  rw[Lib.decDigits];split
  ·rename_i h;obtain⟨h1,J⟩:=E7 h;exact⟨λb hb=>by rw[cU]at hb;subst hb;exact h1,by simp only[QM,iG,List.foldl_nil,J];omega,yS⟩
  ·rename_i h;obtain⟨a,b,c⟩:=f (u/10) yO;obtain⟨h1,J⟩:=E7 (i:=u % 10) yO;refine⟨λx e=>?_,?_,yS⟩
   ·rcases bJ.1 e with e|e
    ·exact a x e
    ·rw[cU]at e;subst e;exact h1
   ·unfold QM at b ⊢;rw[l8,b];simp only[iG,List.foldl_nil,J];omega
def te{a b:Nat}(h:Lib.decDigits a=Lib.decDigits b):a=b:=by rw[<- (kh a).2.1,h,(kh b).2.1]
def isNum(b:UInt8):Prop:=b=45\/xg b
def EF(n:Int):∀b∈Lib.itoa n,isNum b:=by
 unfold Lib.itoa;split
 ·intro b hb;rcases bP.1 hb with rfl|hb
  ·exact .inl rfl
  ·exact .inr ((kh _).1 b hb)
 ·exactλb hb=>.inr ((kh _).1 b hb)
def Lq(h:Lib.itoa a=Lib.itoa b):a=b:=by
 have hd:∀n l,Lib.decDigits n=45::l->False:=λn l e=>by have:=(kh n).1 45 (by rw[e];simp);obtain⟨h1,_⟩:=this;exact absurd h1 yD
 unfold Lib.itoa at h;split at h<;>split at h
 ·simp at h;have:=te h;omega
 ·exact(hd _ _ h.symm).elim
 ·exact(hd _ _ h).elim
 ·have:=te h;omega
def DM{p:UInt8->Prop}(hc:¬p c)(e:¬p d):∀{l k x y:S},(∀a∈l,p a)->(∀a∈k,p a)->l++c::x=k++d::y->l=k/\c=d/\x=y
 |[],[],x,y,_,_,h=>by simp at h;exact⟨rfl,h.1,h.2⟩
 |[],b::k,x,y,_,hk,h=>by simp at h;exact absurd (hk b yS) (h.1▸hc)
 |a::l,[],x,y,hl,_,h=>by simp at h;exact absurd (hl a yS) (h.1▸e)
 |a::l,b::k,x,y,hl,hk,h=>by simp at h;obtain⟨rfl,h⟩:=h;obtain⟨h1,J,h3⟩:=DM hc e (λa ha=>hl a (by simp[ha])) (λa ha=>hk a (by simp[ha])) h;exact⟨by rw[h1],J,h3⟩
def HR(hc:¬isNum c)(e:¬isNum d){x y:S}(h:Lib.itoa a++c::x=Lib.itoa b++d::y):a=b/\c=d/\x=y:=by obtain⟨h1,J,h3⟩:=DM hc e (EF a) (EF b) h;exact⟨Lq h1,J,h3⟩
end
def pH(n:Int):S:=Lib.itoa n++[32]
mutual
def Ty.wr:Ty->S| .mk k m n ar fl=>pH k++pH m.length++pH n.length++pH ar.length++pH fl.length++m++n++Ty.qQ ar++Ty.tl fl
def Fe.wr:Fe->S| .mk s t b=>Lib.itoa s.length++Lib.formatBool b++s++Ty.wr t
def Ty.qQ:List Ty->S|[]=>[]|t::l=>Ty.wr t++Ty.qQ l
def Ty.tl:List Fe->S|[]=>[]|t::l=>Fe.wr t++Ty.tl l
end
def ui{a b:Int}{x y:S}(h:pH a++x=pH b++y):a=b/\x=y:=by simp only[pH,bN,JQ]at h;have:=HR (by unfold isNum xg;decide) (by unfold isNum xg;decide) h;exact⟨this.1,this.2.2⟩
mutual
def B0:∀(t u:Ty){x y:S},t.wr++x=u.wr++y->t=u/\x=y
 | .mk k m n ar fl,.mk k' m' n' Ts S5,x,y,h=>by simp only[Ty.wr,bN]at h;obtain⟨h0,g0⟩:=ui h;obtain⟨h1,g1⟩:=ui g0;obtain⟨J,g2⟩:=ui g1;obtain⟨h3,g3⟩:=ui g2;obtain⟨h4,g4⟩:=ui g3;obtain⟨h5,g5⟩:=BX g4 yO;obtain⟨h6,g6⟩:=BX g5 yO;obtain⟨h7,g7⟩:=Hj ar Ts yO g6;obtain⟨h8,g8⟩:=Hm fl S5 yO g7;subst h0 h5 h6 h7 h8;exact⟨rfl,g8⟩
def Oj:∀(t u:Fe){x y:S},t.wr++x=u.wr++y->t=u/\x=y
 | .mk s t b,.mk s' t' b',x,y,h=>by
  simp only[Fe.wr,bN]at h
  have key:s.length=s'.length/\b=b'/\s++(t.wr++x)=s'++(t'.wr++y):=by
   cases b<;>cases b'<;>simp only[Lib.formatBool]at h<;>
    (obtain⟨e1,e2,e3⟩:=HR (by unfold isNum xg;decide) (by unfold isNum xg;decide) h)<;>
    first|(exact absurd e2 yD)|(refine⟨yO,rfl,?_⟩;simpa using e3)
  obtain⟨h1,J,h3⟩:=key;obtain⟨h4,h5⟩:=BX h3 h1;obtain⟨h6,h7⟩:=B0 t t' h5;subst J h4 h6;exact⟨rfl,h7⟩
def Hj:∀(l k:List Ty){x y:S},l.length=k.length->Ty.qQ l++x=Ty.qQ k++y->l=k/\x=y
 |[],[],x,y,_,h=>⟨rfl,h⟩
 |t::l,u::k,x,y,hl,h=>by simp only[Ty.qQ,bN]at h;obtain⟨h1,J⟩:=B0 t u h;obtain⟨h3,h4⟩:=Hj l k (yU hl) J;subst h1 h3;exact⟨rfl,h4⟩
def Hm:∀(l k:List Fe){x y:S},l.length=k.length->Ty.tl l++x=Ty.tl k++y->l=k/\x=y
 |[],[],x,y,_,h=>⟨rfl,h⟩
 |t::l,u::k,x,y,hl,h=>by simp only[Ty.tl,bN]at h;obtain⟨h1,J⟩:=Oj t u h;obtain⟨h3,h4⟩:=Hm l k (yU hl) J;subst h1 h3;exact⟨rfl,h4⟩
end
def key_inj{s t s' t':Ty}(h:s.wr++t.wr=s'.wr++t'.wr):s=s'/\t=t':=by obtain⟨h1,J⟩:=B0 s s' h;obtain⟨h3,_⟩:=B0 t t' (x:=[]) (y:=[]) (yU J);exact⟨h1,h3⟩
end Go.VC
namespace Go.VC
open Classical
section
variable {α:Type}
abbrev Jm:=Ty×Ty
abbrev Mem:=List Jm×List Jm
def c8(l:List Fe)(s:S):Option Fe:=l.find? λf=>f.s==s
def jf(env:List IF)(ctx:List Pm)(t:Ty):Option Ty:=
 if t.k=10 then(if(dp env t).2.2=0 then some (dp env t).2.1 else none)else
 if t.k=9 then(ctx.find? λp=>p.name==t.n).map Pm.bound else none
def yF(s t:Ty):Option (List Jm):=if s.k=1\/t.k=0\/(s.k=t.k/\(s.k=2\/s.k=3\/s.k=4))\/(s.k=9/\t.k=9/\s.n=t.n)then some []else none
def eY(sw:Bool)(a:List Fe):List Fe->Option (List Jm)
 |[]=>some []
 |f::l=>match c8 a f.s with
  |none=>none
  |some g=>if(f.b&& !g.b)=true then none else(eY sw a l).map ((if sw then(g.t,f.t)else(f.t,g.t)):: ·)
def s8(l:List Ty):Ty:=l.headD Ty.zero
def Eg(s t:List Fe):Bool:=s.all λf=>(c8 t f.s).isSome||f.b
def jk(s t:Ty):Option (List Jm):=
 if s.k≠t.k then none else
 if s.k=5 then some [(s8 s.ar,s8 t.ar)]else
 if s.k=6 then eY true s.fl t.fl else
 if s.k=7 then eY false t.fl s.fl else
 if s.k=8 then(if Eg s.fl t.fl then(eY false s.fl t.fl).map (· ++[(s8 s.ar,s8 t.ar)])else none)else none
def oN:List Pm->List Ty->List Ty->List Jm
 |p::ps,a::xs,b::ys=>(if p.var≠1 then [(a,b)]else [])++(if p.var≠0 then [(b,a)]else [])++oN ps xs ys
 |_,_,_=>[]
def rq(env:List IF)(s t:Ty):Option (List Jm):=
 if s.k≠10\/t.k≠10 then none else
 if(fZ env s.m s.n).2.2≠0\/(fZ env t.m t.n).2.2≠0\/(dD env s.m s.n).2.2≠0\/(fZ env s.m s.n).1≠(fZ env t.m t.n).1\/(fZ env s.m s.n).2.1≠(fZ env t.m t.n).2.1\/s.ar.length≠(dD env s.m s.n).1.params.length\/t.ar.length≠(dD env s.m s.n).1.params.length then none else
 some (oN (dD env s.m s.n).1.params s.ar t.ar)
def wW(env:List IF)(ctx:List Pm)(s t:Ty):Option (List Jm):=(jf env ctx s).map λu=>[(u,t)]
def yz(env:List IF)(s t:Ty):Option (List Jm):=if(dp env t).2.2=0 then some [(s,(dp env t).1)]else none
def kU(env:List IF)(ctx:List Pm)(s t:Ty)(r:Nat):Option (List Jm):=if r=1 then yF s t else if r=2 then jk s t else if r=3 then rq env s t else if r=4 then wW env ctx s t else yz env s t
def mN(a:Jm->Mem->Option (Bool×Mem)):List Jm->Mem->Option (Bool×Mem)
 |[],m=>some (true,m)
 |j::l,m=>match a j m with
  |none=>none
  |some (true,m')=>mN a l m'
  |some (false,m')=>some (false,m')
def gk(b:Jm->Mem->Option (Bool×Mem))(c:Nat->Option (List Jm))(j:Jm)(a:List Jm):List Nat->List Jm->Option (Bool×Mem)
 |[],bad=>some (false,(a,bad++[j]))
 |r::d,bad=>match c r with
  |none=>gk b c j a d bad
  |some l=>match mN b l (a++[j],bad)with
   |none=>none
   |some (true,m)=>some (true,m)
   |some (false,m)=>gk b c j a d m.2
noncomputable def lC(a:Ty->Ty->Nat->Option (List Jm)):Nat->Jm->Mem->Option (Bool×Mem)
 |0,_,_=>none
 |n+1,j,m=>if j∈m.2 then some (false,m)else if j∈m.1 then some (true,m)else gk (lC a n) (a j.1 j.2) j m.1 [1,2,3,4,5] m.2
def D1(C:List Ty):List Jm:=C.flatMap λs=>C.map λt=>(s,t)
def wb{C:List Ty}{j:Jm}:j∈D1 C↔j.1∈C/\j.2∈C:=by
 unfold D1;rw[cN];constructor
 ·rintro⟨s,hs,h⟩;obtain⟨t,a,rfl⟩:=bT.1 h;exact⟨hs,a⟩
 ·rintro⟨h1,J⟩;exact⟨j.1,h1,bT.2 ⟨j.2,J,rfl⟩⟩
def A5(C:List Ty):(D1 C).length=C.length*C.length:=by
 unfold D1;rw[n2]
 have:∀l:List Ty,(l.map λs=>(C.map λt=>(s,t)).length).sum=l.length*C.length:=by
  intro l;induction l with
  |nil=>simp
  |cons a l b=>rw[bO,ch,b,bQ,bS,Nat.succ_mul,mn]
 exact this C
noncomputable def qw(C:List Ty)(a:List Jm):Nat:=((D1 C).filter λj=>decide (j∉a)).length
def filter_lt{p q:α->Bool}{l:List α}(c:∀x∈l,q x=true->p x=true){a:α}(ha:a∈l)(d:p a=true)(e:q a=false):(l.filter q).length<(l.filter p).length:=by
 induction l with
 |nil=>simp at ha
 |cons x l f=>
  have g:(l.filter q).length<=(l.filter p).length:=by rw[<- jA,<-jA];exact JS λy b=>c y (by simp[b])
  rw[Ac,Ac];rcases bP.1 ha with rfl|ha
  ·rw[d,e];simp;omega
  ·have:=f (λy b=>c y (by simp[b])) ha;cases h1:q x with
   |true=>rw[c x yS h1];simp;omega
   |false=>cases p x<;>simp<;>omega
def filter_le{p q:α->Bool}{l:List α}(a:∀x∈l,q x=true->p x=true):(l.filter q).length<=(l.filter p).length:=by rw[<- jA,<-jA];exact JS λy b=>a y b
def Lj{C:List Ty}{g a:List Jm}(h:∀j∈g,j∈a):qw C a<=qw C g:=by unfold qw;refine filter_le λj _ b=>?_;simp only[decide_eq_true_eq]at b ⊢;exactλc=>b (h j c)
def Li{C:List Ty}{g:List Jm}{j:Jm}(h1:j.1∈C)(J:j.2∈C)(b:j∉g):qw C (g++[j])<qw C g:=by unfold qw;refine filter_lt (λx _ a=>?_) (wb.2 ⟨h1,J⟩) (yU b) yS;simp only[decide_eq_true_eq]at a ⊢;exactλc=>a (by simp[c])
structure gx (C:List Ty) (m:Mem):Prop where
 g:m.1.Nodup
 b:m.2.Nodup
 d:∀j∈m.1,j∉m.2
 gC:∀j∈m.1,j.1∈C/\j.2∈C
 bC:∀j∈m.2,j.1∈C/\j.2∈C
def Bg{l k:List α}(h:l.Nodup)(hs:∀x∈l,x∈k):l.length<=k.length:=by
 induction l generalizing k with
 |nil=>simp
 |cons a l d=>
  rw[cn]at h;have ha:=hs a yS;have:=d (k:=k.erase a) h.2 λx c=>by have b:x≠a:=λe=>h.1 (e▸c);exact(JZ b).2 (hs x (by simp[c]))
  rw[FB ha]at this;have f:0<k.length:=sK ha;simp;omega
def gx.UJ{C:List Ty}{m:Mem}(h:gx C m):m.1.length<=C.length*C.length:=by rw[<- A5];exact Bg h.g λj a=>wb.2 (h.gC j a)
def gx.UK{C:List Ty}{m:Mem}(h:gx C m):m.2.length<=C.length*C.length:=by rw[<- A5];exact Bg h.b λj a=>wb.2 (h.bC j a)
def gx.nil{C:List Ty}:gx C ([],[]):=⟨yS,yS,yS,yS,yS⟩
def gx.push{C:List Ty}{g b:List Jm}{j:Jm}(h:gx C (g,b))(h1:j.1∈C)(J:j.2∈C)(f:j∉g)(hb:j∉b):gx C (g++[j],b):=by
 refine⟨?_,h.b,?_,?_,h.bC⟩
 ·simp only;rw[eb];exact⟨h.g,yS,λa ha c hc=>by simp at hc;subst hc;exactλe=>f (e▸ha)⟩
 ·intro x d;rcases bJ.1 d with d|d
  ·exact h.d x d
  ·simp at d;subst d;exact hb
 ·intro x d;rcases bJ.1 d with d|d
  ·exact h.gC x d
  ·simp at d;subst d;exact⟨h1,J⟩
def gx.fail{C:List Ty}{g b:List Jm}{j:Jm}(h:gx C (g,b))(h1:j.1∈C)(J:j.2∈C)(i:j∉g)(hb:j∉b):gx C (g,b++[j]):=by
 refine⟨h.g,?_,?_,h.gC,?_⟩
 ·simp only;rw[eb];exact⟨h.b,yS,λa ha c hc=>by simp at hc;subst hc;exactλe=>hb (e▸ha)⟩
 ·intro x f d;rcases bJ.1 d with d|d
  ·exact h.d x f d
  ·simp at d;subst d;exact i f
 ·intro x f;rcases bJ.1 f with f|f
  ·exact h.bC x f
  ·simp at f;subst f;exact⟨h1,J⟩
def gx.back{C:List Ty}{g x b:List Jm}(h:gx C (g++x,b)):gx C (g,b):=⟨(eb.1 h.g).1,h.b,λj a=>h.d j (by simp[a]),λj a=>h.gC j (by simp[a]),h.bC⟩
structure O2 (C:List Ty) (g:List Jm) (b:List Jm) (r:Bool×Mem):Prop where
 ext:∃x,r.2.1=g++x/\(r.1=false->x=[])
 bad:∃x,r.2.2=b++x
 inv:gx C r.2
def Hb(C:List Ty)(a:Ty->Ty->Nat->Option (List Jm)):Prop:=∀s∈C,∀t∈C,∀r l,a s t r=some l->∀j∈l,j.1∈C/\j.2∈C
def HF{C:List Ty}{a:Jm->Mem->Option (Bool×Mem)}{B:Nat}(hd:∀j g b,j.1∈C->j.2∈C->gx C (g,b)->qw C g<B->∃r,a j (g,b)=some r/\O2 C g b r):
 ∀(l:List Jm)(g b:List Jm),(∀j∈l,j.1∈C/\j.2∈C)->gx C (g,b)->qw C g<B->∃r,mN a l (g,b)=some r/\(∃x,r.2.1=g++x)/\(∃x,r.2.2=b++x)/\gx C r.2
 |[],g,b,_,h,_=>⟨_,rfl,⟨[],yS⟩,⟨[],yS⟩,h⟩
 |j::l,g,b,hl,h,i=>by
  obtain⟨r,hr,d⟩:=hd j g b (hl j yS).1 (hl j yS).2 h i;obtain⟨x,c,e⟩:=d.ext;obtain⟨y,f⟩:=d.bad;obtain⟨r0,o,b'⟩:=r;simp only at c f e;rw[mN,hr];cases r0 with
  |false=>exact⟨_,rfl,⟨x,c⟩,⟨y,f⟩,d.inv⟩
  |true=>obtain⟨r,h1,⟨n,J⟩,⟨m,h3⟩,h4⟩:=HF hd l o b' (λk hk=>hl k (by simp[hk])) d.inv (lD (Lj λk hk=>by rw[c];simp[hk]) i);exact⟨r,h1,⟨x++n,by rw[J,c,bN]⟩,⟨y++m,by rw[h3,f,bN]⟩,h4⟩
def v7{C:List Ty}{a:Jm->Mem->Option (Bool×Mem)}{s:Nat->Option (List Jm)}{j:Jm}{g:List Jm}(h1:j.1∈C)(J:j.2∈C)(c:j∉g)(i:∀r l,s r=some l->∀k∈l,k.1∈C/\k.2∈C)
 (hd:∀k d b',k.1∈C->k.2∈C->gx C (d,b')->qw C d<qw C g->∃r,a k (d,b')=some r/\O2 C d b' r):
 ∀(e:List Nat)(b:List Jm),gx C (g,b)->j∉b->∃r,gk a s j g e b=some r/\O2 C g b r
 |[],b,f,hb=>⟨_,rfl,⟨[],yS⟩,⟨[j],rfl⟩,f.fail h1 J c hb⟩
 |r::e,b,f,hb=>by
  rw[gk];cases hr:s r with
  |none=>exact v7 h1 J c i hd e b f hb
  |some l=>
   obtain⟨q,t,⟨x,h⟩,⟨y,o⟩,m⟩:=HF hd l (g++[j]) b (i r l hr) (f.push h1 J c hb) (Li h1 J c);obtain⟨u,d,b'⟩:=q;simp only at h o;simp only[t];cases u with
   |true=>exact⟨_,rfl,⟨[j]++x,by simp[h]⟩,⟨y,o⟩,m⟩
   |false=>
    have n:gx C (g,b'):=by
     have:gx C (g++([j]++x),b'):=by rw[<- bN,<-h];exact m
     exact this.back
    have p:j∉b':=m.d j (by simp only[h];simp);obtain⟨v,a1,a2⟩:=v7 h1 J c i hd e b' n p;refine⟨v,a1,a2.ext,?_,a2.inv⟩;obtain⟨z,w⟩:=a2.bad;exact⟨y++z,by rw[w,o,bN]⟩
def Ia{C:List Ty}{e:Ty->Ty->Nat->Option (List Jm)}(d:Hb C e):
 ∀(n:Nat)(j:Jm)(g b:List Jm),j.1∈C->j.2∈C->gx C (g,b)->qw C g<n->∃r,lC e n j (g,b)=some r/\O2 C g b r
 |0,j,g,b,_,_,_,h=>yO
 |n+1,j,g,b,h1,J,c,i=>by
  rw[lC];by_cases hb:j∈b
  ·exact⟨_,if_pos hb,⟨[],yS⟩,⟨[],yS⟩,c⟩
  by_cases a:j∈g
  ·exact⟨_,by rw[if_neg hb,if_pos a],⟨[],yS⟩,⟨[],yS⟩,c⟩
  rw[if_neg hb,if_neg a];exact v7 h1 J a (λr l hr=>d _ h1 _ J r l hr) (λk f b' a1 a2 a3 a4=>Ia d n k f b' a1 a2 a3 yO) [1,2,3,4,5] b c hb
end
end Go.VC
namespace Go.VC
def fj(l:List Int):Int:=(l.find? λe=>e != 0).getD 0
def fT(e:Int)(l:List Int):fj (e::l)=if e=0 then fj l else e:=by
 unfold fj;rw[cB];by_cases h:e=0
 ·subst h;simp
 ·have:(e != 0)=true:=yU h;rw[this,if_neg h];rfl
def kC:∀(a b:List Int),fj (a++b)=if fj a=0 then fj b else fj a
 |[],b=>by simp[fj]
 |e::a,b=>by
  rw[cO,fT,fT,kC a b];by_cases h:e=0
  ·simp[h]
  ·simp[h]
def uB{f:Ty->Int}:∀(l:List Ty),hZ (λt s=>if f t=0 then s else f t) (λt=>f t==0) l 0=(fj (l.map f),fj (l.map f)==0)
 |[]=>rfl
 |t::l=>by
  rw[hZ,bO,fT];by_cases h:f t=0
  ·rw[if_pos (yU h),if_pos h,if_pos h];exact uB l
  ·rw[if_neg (yU h),if_neg h,if_neg h];simp[h]
def Nu(k:Int)(d a n0 c e1 b:Bool):Bool:=
 if k != 8&&d then false else
 if k=0\/k=1\/k=2\/k=3\/k=4 then a&&n0&&c&&b else
 if k=5 then a&&n0&&e1&&b else
 if k=6\/k=7 then a&&n0&&c else
 if k=8 then a&&n0&&e1 else
 if k=9 then a&&c&&b else
 if k=10 then b else false
def CT(n m:Nat):decide (n=m)=(br n==(m:Int)):=by
 by_cases h:n=m
 ·subst h;simp
 ·have:¬(br n=(m:Int)):=λe=>h (by simp only[bz]at e;omega);simp only[h,decide_false];exact(beq_eq_false_iff_ne.2 this).symm
def FP(t:Ty):gz t=Nu t.k (t.fl.any Fe.b) (t.m==[]) (t.n==[]) (br t.ar.length==0) (br t.ar.length==1) (br t.fl.length==0):=by unfold gz Nu;rw[CT,CT,CT];rfl
def CW(t:Ty):Int:=if 4096<t.size\/32<t.wH then 7 else fj (t.all.map qp)
end Go.VC
namespace Go.VC.cK
open Go Go.VC Go.Proofs
def Wh{t:Ty}(m:Ty.le 4294967295 t){p:Int}{c1 c2:S}{j n:D}{K:PV->List Ob->Prop}(B:cD t p c1 c2 j n)(h:∀b,b=gz t->K (.bool b) []):FT 291 [] [df p c1 c2 j n] K:=by
 obtain⟨v,y,s,o,f⟩:=B;have k:t.fl.length<=4294967295:=by cases m;assumption
 refine en Vk Tryz.func291 λA C L X=>?_;have u:A.len j=br t.ar.length:=gr X.a o;have w:A.len n=br t.fl.length:=gr X.a f;obtain⟨F,e⟩:∃b,b=A.seq c1 []:=⟨_,rfl⟩;obtain⟨n0,i⟩:∃b,b=A.seq c2 []:=⟨_,rfl⟩;obtain⟨z,c⟩:∃b,b=(A.eq (A.len j) 0):=⟨_,rfl⟩;obtain⟨e1,g⟩:∃b,b=(A.eq (A.len j) 1):=⟨_,rfl⟩;obtain⟨E,d⟩:∃b,b=(A.eq (A.len n) 0):=⟨_,rfl⟩;obtain⟨G,a⟩:∃b,b=t.fl.any Fe.b:=⟨_,rfl⟩;have l:gz t=Nu p G F n0 z e1 E:=by rw[FP,c,g,d,a,e,i,v,y,s,u,w,X.a];rfl
 have Y:=fz X.a;have Z:=mI X.a;rw[l]at h;clear l v y s u w;cbv;repeat' (first|apply bw|exact zf|(intro J;cbv)|apply bG|(refine X.call (MP f k (λx I p c1 c2 j n H M N q r=>Wc q r) λb hb=>?_);cbv))
 all_goals (refine h _ ?_;clear h m;simp only[dq,Y,<-e,<-i,<-c,<-g,<-d,<-a]at *;clear e i c g d a;simp only[Z]at *;clear X Y Z o f k;simp_all[Nu])
end Go.VC.cK
namespace Go.VC
def Un(k:Int)(i b:Bool)(f h tb:Bool)(e:Bool)(d:Int):Int:=if !i then 1 else if b then 7 else if(k=9/\f=false)\/(k=10/\(h=false\/tb=false))then 4 else if e then 4 else d
def P7(t:Ty):qp t=Un t.k (gz t) (decide (32<t.fl.length\/8<t.ar.length)) (xU t.n) (y9 t.m) (iT t.n) (t.fl.any λf=> !ie f.s) (oJ (t.fl.map Fe.s)):=by unfold qp Un;simp only[decide_eq_true_eq]
def QX:∀(t:Ty),Ty.le 4294967295 t->∀u∈t.all,Ty.le 4294967295 u:=by
 refine Ty.fC λt d=>?_;intro h u hu;rw[all_eq]at hu;rcases bP.1 hu with rfl|hu
 ·exact h
 ·obtain⟨v,b,hu⟩:=cN.1 hu;exact d v b (gP h v b) u hu
end Go.VC
namespace Go.VC.cK
open Go Go.VC Go.Proofs
section
variable {t:Ty}{g:Int}{c1 c2:S}{a c:D}{K:PV->List Ob->Prop}
def Wp(q:Ty.le 4294967295 t)(G:t.mF)(y:cD t g c1 c2 a c)(h:∀e,e=qp t->K (.int .i64 e) []):FT 258 [] [df g c1 c2 a c] K:=by
 have E:=y;obtain⟨N,F,w,u,i⟩:=E;have o:t.fl.length<=4294967295:=by cases q;assumption
 have B:c1.length<=1048576:=by rw[F];exact G.m
 have z:c2.length<=1048576:=by rw[w];exact G.n
 refine en (cf 50) Tryz.func258 λA C L X=>?_;have M:A.len a=br t.ar.length:=gr X.a u;have O:A.len c=br t.fl.length:=gr X.a i;have Y:=fz X.a;have Z:=mI X.a;obtain⟨b1,r⟩:∃b,b=A.lt 32 (A.len c):=⟨_,rfl⟩;obtain⟨b2,p⟩:∃b,b=A.lt 8 (A.len a):=⟨_,rfl⟩;obtain⟨P,j⟩:∃b,b=gz t:=⟨_,rfl⟩;obtain⟨Q,l⟩:∃b,b=xU c2:=⟨_,rfl⟩;obtain⟨R,m⟩:∃b,b=y9 c1:=⟨_,rfl⟩;obtain⟨tb,k⟩:∃b,b=iT c2:=⟨_,rfl⟩;obtain⟨W,n⟩:∃b,b=t.fl.any λf=> !ie f.s:=⟨_,rfl⟩;obtain⟨H,d⟩:∃e,e=oJ (t.fl.map Fe.s):=⟨_,rfl⟩
 have s:qp t=Un g P (b1||b2) Q R tb W H:=by
  have e:decide (32<t.fl.length\/8<t.ar.length)=(b1||b2):=by
   rw[r,p,M,O,X.a,ik,ik];simp only[bz];rw[Bool.decide_or]
   congr 1<;>(apply decide_eq_decide.2;omega)
  rw[P7,e,j,l,m,k,n,d,N,F,w]
 rw[s]at h;clear s N F w M O;cbv;refine X.call (Wh q y λb hb=>?_);rw[<- j]at hb;cbv;repeat' (first|apply bw|exact zf|(intro J;cbv)|apply bG|(refine X.call (Wg yO λb3 ab=>?_);cbv)|(refine X.call (Wf yO λb4 aa=>?_);cbv)|(refine X.call (JJ yO λb5 U=>?_);cbv)|(refine X.call (MQ i o (λx V g c1 c2 a c c5 c6 K' v I=>We (bR (G.f x V) yD) v I) λb6 T=>?_);cbv)|(refine X.call (Wd i o λe he=>?_);cbv))
 all_goals (refine h _ ?_;clear h q;simp only[dq,Y,<-r,<-p,<-l,<-m,<-k,<-n,<-d,<-j]at *;clear r p l m k n d j;simp only[Z]at *;clear X Y Z u i o y B z;simp_all[Un])
def SF:eE:={tt:=tt,n:=21,n0:=2,Nz:=true}
def WC(i:Ty.le 4294967295 t)(hs:t.size<=4294967295)(F:∀u∈t.all,u.mF)(x:cD t g c1 c2 a c)
 (h:∀r:Int,r=CW t->K (.int .i64 r) []):FT 223 [] [df g c1 c2 a c] K:=by
 refine en (cf 21) Tryz.func223 λA C L X=>?_;cbv;refine X.call (Wr i hs x λn y=>?_);have w:A.lt 4096 n=decide (4096<t.size):=by rw[X.a,y,ik];apply decide_eq_decide.2;simp only[bz];omega
 have k:(4096<t.size\/32<t.wH)->7=CW t:=λh=>by rw[CW,if_pos h]
 have b:¬(4096<t.size\/32<t.wH)->∀r,r=fj (t.all.map qp)->r=CW t:=λh r hr=>by rw[CW,if_neg h,hr]
 have p:∀d:Int,d=br t.wH->A.lt 32 d=decide (32<t.wH):=by intro d hd;rw[X.a,hd,ik];apply decide_eq_decide.2;simp only[bz];omega
 have j:=uB (f:=qp) t.all;have v:∀u∈t.all,Ty.le 4294967295 u/\u.mF:=λu hu=>⟨QX t i u hu,F u hu⟩;cbv;repeat' (first|apply bw|exact zf|(intro J;cbv)|apply bG|(refine X.call (Wq t i hs x λd hd=>?_);cbv))
 ·have J:A.lt 32 d=true:=J;have J:=(p _ hd).symm.trans J;exact h _ (k (.inr (of_decide_eq_true J)))
 ·have h3:¬(4096<t.size\/32<t.wH):=by have J:A.lt 32 d=false:=J;have J:=(p _ hd).symm.trans J;have e2:A.lt 4096 n=false:=yA;have e2:=w.symm.trans e2;have:=of_decide_eq_false J;have:=of_decide_eq_false e2;omega
  have b:=b h3;refine X.call (Ra ?_);cbv;refine X.range rfl ⟨Tryz.func180,by rfl,rfl⟩ rfl [(2,.box 1 0)] ?_ ?_
  ·cbv
  cbv;refine X.call (PG (Q:=λu=>Ty.le 4294967295 u/\u.mF) (s:=0) (go:=λt s=>if qp t=0 then s else qp t) (ok:=λt=>qp t==0) i hs v x ?_ ?_ ?_)
  ·intro u s I b1 b2 H M E B hu h1 h0;refine YC.enter (G:=SF) eX mixed rfl rfl rfl rfl rfl ?_;intro A C L X;have Y:=fz X.a;have Z:=mI X.a;cbv;refine X.call (Wp B.1 B.2 hu λe z=>?_);have q:qp u≠0->E (.bl false) [.loop _ _ _ _ [(2,.box 1 0)] (.done .ret),.box [.int .i64 e]]:=λo=>h0 (yU o) e (by rw[if_neg o,z]);have m:qp u=0->E (.bl true) [.loop _ _ _ _ [(2,.box 1 0)] .ready,.box [.int .i64 s]]:=λo=>h1 (yU o) s (by rw[if_pos o]);refine p2 (λJ=>?_) (λJ=>?_)
   ·have J:A.not (A.eq e 0)=true:=J;rw[Y,Z,z]at J;exact q (yU J)
   ·have J:A.not (A.eq e 0)=false:=J;rw[Y,Z,z]at J;exact m (yU J)
  ·intro s' l;have e:=l.symm.trans j;have e1:=(sV e).1;have e2:=(sV e).2;have o:s'=0:=by rw[e1];simpa using e2.symm
   cbv;exact h 0 (b 0 (by rw[<- e1,o]))
  ·intro s' l;have e:=l.symm.trans j;have e1:=(sV e).1;cbv;exact h s' (b s' e1)
 ·have J:A.lt 4096 n=true:=J;have J:=w.symm.trans J;exact h _ (k (.inl (of_decide_eq_true J)))
end
end Go.VC.cK
namespace Go.VC
def mE(env:List IF)(vs:List S)(t:Ty):Int:=
 if t.k=9 then(if vs.contains t.n then 0 else 4)else
 if t.k=10 then(if(dD env t.m t.n).2.2≠0 then(dD env t.m t.n).2.2 else if(dD env t.m t.n).1.params.length≠t.ar.length then 11 else 0)else 0
def oF(env:List IF)(vs:List S)(t:Ty):Int:=fj (t.all.map (mE env vs))
def nu(env:List IF)(vs:List S)(t:Ty):Int:=if CW t≠0 then CW t else oF env vs t
def CU(vs:List S)(s:S):vs.contains s=vs.any λx=>s==x:=by rw[List.contains_eq_any_beq]
def LC(l:List S)(s:S):(l.any λx=>s==x)=decide (0<=jO l s):=by
 have:(λx:S=>s==x)=λx=>x==s:=by funext x;exact BEq.comm
 rw[this];exact rE
def oY{t:Ty}(hs:t.size<=4294967295):(∀u∈t.dP,u.size<=4294967295)/\t.dP.length<=4294967295:=by
 refine⟨λu hu=>?_,?_⟩
 ·have:=size_eq t;have J:u.size<=(t.dP.map Ty.size).sum:=p8 (bT.2 ⟨u,hu,rfl⟩);omega
 ·have:∀l:List Ty,l.length<=(l.map Ty.size).sum:=by
   intro l;induction l with
   |nil=>simp
   |cons x l b=>simp only[bS,bO,ch];have:=size_eq x;omega
  have h1:=this t.dP;have J:=size_eq t;omega
def lU{t u v:Ty}(b:v∈t.dP)(hu:u∈v.all):u∈t.all:=by rw[all_eq];exact gG _ (cN.2 ⟨v,b,hu⟩)
def ji(t:Ty):t∈t.all:=by rw[all_eq];simp
def Bh(env:List IF)(vs:List S)(t:Ty):oF env vs t=if mE env vs t=0 then fj ((t.dP.flatMap Ty.all).map (mE env vs))else mE env vs t:=by unfold oF;rw[all_eq,bO,fT]
end Go.VC
namespace Go.VC.cK
open Go Go.VC Go.Proofs
section
variable {K:PV->List Ob->Prop}{t:Ty}{c:Int}{c1 c2:S}{f a j g:D}{env:List IF}{vs:List S}
def JL{l:List S}{d:D}{s:S}(hd:d=bH encS l)(hl:l.length<=4294967295)
 (h:∀b,b=l.contains s->K (.bool b) []):FT 121 [] [.lst 9 d,.str s] K:=by
 refine en (cf 9) Tryz.func121 λA C L X=>?_;cbv;refine X.call (T3 hd (Nat.lt_succ_of_le hl) rfl λr hr=>?_);have q:=h (A.le 0 r) (by rw[X.a,tW,hr];exact((CU l s).trans (LC l s)).symm);cbv;exact q
def TK(G:Ty.le 4294967295 t)(m:t.dP.length<=4294967295)(u:cD t c c1 c2 f a)
 (h:∀r,r=bH cE t.dP->K (.lst 29 r) []):FT 260 [] [df c c1 c2 f a] K:=by
 obtain⟨N,O,M,o,l⟩:=u;have p:t.ar.length+t.fl.length<=4294967295:=by simpa[Ty.dP]using m
 refine en (cf 23) Tryz.func260 λA C L X=>?_;obtain⟨d,e,b⟩:=lenOf l;cbv;refine X.call (K7.1 o yO λs n=>?_);cbv;refine lP X (λy=>y.1<=d/\y.2=bH cE (t.ar++(t.fl.take y.1).map Fe.t)) (λy=>d-y.1) (0,s) ⟨bD _,yU n⟩ [0,1] (λ(y:Nat×D)=>⟨[(12,.int .i64 y.1),(11,.int .i64 (A.len a)),(10,.lst 42 a),(3,.row 29 1),(1,.box 0 0)],[.box [.int .i64 c,.str c1,.str c2,.lst 29 f,.lst 42 a],.row 29 y.2 true]⟩) ?_;rintro⟨i,r⟩ ⟨E,hr⟩;simp only at E hr;cbv;constructor<;>intro h1
 ·have h5:i<t.fl.length:=lY X.a b h1;obtain⟨w,q,F,v,I⟩:=kE X.a l h5;have H:=iX X.a l h5;have z:=jX X.a h5;have B:A.fU (A.add (A.len r) (A.len (A.lit [[.int (A.asInt (A.cell a (br i) 1)),.str (A.bL (A.cell a (br i) 2)),.str (A.bL (A.cell a (br i) 3)),A.cell a (br i) 4,A.cell a (br i) 5]]))) 4294967296:=by rw[X.a,hr];simp only[SD,bQ];omega
  have x:A.app r (A.lit [[.int (A.asInt (A.cell a (br i) 1)),.str (A.bL (A.cell a (br i) 2)),.str (A.bL (A.cell a (br i) 3)),A.cell a (br i) 4,A.cell a (br i) 5]])=bH cE (t.ar++(t.fl.take (i+1)).map Fe.t):=by rw[w,q,F,v,I,X.a,hr,map_take h5,<-bN,<-dI];exact cx (k:=[t.fl[i].t])
  refine p1 ?_;exact⟨(i+1,_),⟨yP,x⟩,yP,[0,1],rfl,yc⟩
 have h5:i=d:=gY X.a b h1;subst h5;rw[e,bF]at hr;cbv;exact h r hr
def Wo(x:j=bH dC env)(l:dW env)(y:g=bH encS vs)(k:vs.length<=4294967295)(q:cD t c c1 c2 f a)
 (h:∀r:Int,r=mE env vs t->K (.int .i64 r) []):FT 259 [] [.lst 51 j,.lst 9 g,df c c1 c2 f a] K:=by
 obtain⟨s,u,p,m,v⟩:=q;refine en (cf 41) Tryz.func259 λA C L X=>?_;have n:A.len f=br t.ar.length:=gr X.a m;have Y:=fz X.a;have Z:=mI X.a;have i:∀d':D,d'=bH ew (dD env c1 c2).1.params->A.len d'=br (dD env c1 c2).1.params.length:=λd' h=>gr X.a h;unfold mE at h;rw[<- s,<-u,<-p]at h;cbv;repeat' (first|apply bw|exact zf|(intro J;cbv)|apply bG|(refine X.call (JL y k λb hb=>?_);cbv)|(refine X.call (TC x l λz e1 e2 e3 e4 e5 e6 e7 e8 e9 gD nZ B r2 o w d=>?_);cbv))
 ·have J:A.not b=true:=J;have e9:A.eq c 9=true:=yA;rw[Z]at e9;rw[Y,hb]at J;refine h _ ?_;rw[if_pos (yU e9),if_neg (by intro e;rw[e]at J;cases J)]
 ·have J:A.not b=false:=J;have e9:A.eq c 9=true:=yA;rw[Z]at e9;rw[Y,hb]at J;refine h _ ?_;rw[if_pos (yU e9),if_pos (yU J)]
 ·have J:A.not (A.eq r2 0)=true:=J;have e9:A.eq c 9=false:=yA;have gD:A.eq c 10=true:=yA;rw[Z]at e9 gD;rw[Y,Z,d]at J;refine h _ ?_;rw[if_neg (yU e9),if_pos (yU gD),if_pos (yU J),d]
 ·have J:A.not (A.eq (A.len e1) (A.len f))=true:=J;have h3:A.not (A.eq r2 0)=false:=yA;have e9:A.eq c 9=false:=yA;have gD:A.eq c 10=true:=yA;rw[Z]at e9 gD;rw[Y,Z,d]at h3;rw[Y,Z,i _ o.2.1,n]at J;refine h _ ?_;rw[if_neg (yU e9),if_pos (yU gD),if_neg (yU h3),if_pos (by intro e;rw[e]at J;simp at J)]
 ·have J:A.not (A.eq (A.len e1) (A.len f))=false:=J;have h3:A.not (A.eq r2 0)=false:=yA;have e9:A.eq c 9=false:=yA;have gD:A.eq c 10=true:=yA;rw[Z]at e9 gD;rw[Y,Z,d]at h3;rw[Y,Z,i _ o.2.1,n]at J;refine h _ ?_;rw[if_neg (yU e9),if_pos (yU gD),if_neg (yU h3),if_neg (by have J:(br (dD env c1 c2).1.params.length==br t.ar.length)=true:=yU J;have:=eq_of_beq J;simp only[bz]at this;omega)]
 ·have e9:A.eq c 9=false:=yA;have gD:A.eq c 10=false:=yA;rw[Z]at e9 gD;refine h _ ?_;rw[if_neg (yU e9),if_neg (yU gD)]
def WB(z:j=bH dC env)(v:dW env)(E:g=bH encS vs)(q:vs.length<=4294967295):
 ∀(t:Ty),Ty.le 4294967295 t->t.size<=4294967295->∀{c:Int}{c1 c2:S}{f a:D}{K:PV->List Ob->Prop},cD t c c1 c2 f a->(∀r:Int,r=oF env vs t->K (.int .i64 r) [])->FT 224 [] [.lst 51 j,.lst 9 g,df c c1 c2 f a] K:=by
 refine Ty.fC λt B=>?_;intro n hs c c1 c2 f a K x h;obtain⟨m,p⟩:=oY hs;refine en (cf 33) Tryz.func224 λA C L X=>?_;have Y:=fz X.a;have Z:=mI X.a;cbv;refine X.call (Wo z v E q x λw o=>?_);rw[Bh,<-o]at h;refine p2 (λJ=>?_) (λJ=>?_)
 ·have J:A.not (A.eq w 0)=true:=J;rw[Y,Z]at J;refine h _ ?_;rw[if_neg (yU J)]
 have J:A.not (A.eq w 0)=false:=J;rw[Y,Z]at J;rw[if_pos (yU J)]at h;refine X.call (TK n p x λG e=>?_);obtain⟨d,l,b⟩:=lenOf e;cbv;refine lu X (λi=>i<=d/\fj (((t.dP.take i).flatMap Ty.all).map (mE env vs))=0) (λi=>d-i) 0 ⟨bD _,rfl⟩ (λ(i:Nat)=>[(21,.int .i64 i)]) ?_;rintro i ⟨H,ha⟩;cbv;constructor<;>intro h1
 ·have h5:i<t.dP.length:=lY X.a b h1;have y:=gI X.a e h5;have F:=iX X.a e h5;have s:=jX X.a h5;have e2:t.dP.flatMap Ty.all=(t.dP.take (i+1)).flatMap Ty.all++(t.dP.drop (i+1)).flatMap Ty.all:=by rw[<- cV,dG]
  have k:fj (((t.dP.take (i+1)).flatMap Ty.all).map (mE env vs))=oF env vs t.dP[i]:=by rw[gf h5,cg,kC,ha,if_pos rfl];rfl
  refine p1 ?_;refine X.call (B _ (bx h5) (gP n _ (bx h5)) (m _ (bx h5)) y λe1 u=>?_);rw[<- u]at k;cbv;repeat' (first|apply bw|exact zf|(intro J;cbv)|apply bG)
  any_goals exact s
  ·have J:A.not (A.eq e1 0)=true:=yA;rw[Y,Z]at J;refine h _ ?_;rw[e2,cg,kC,k,if_neg (yU J)]
  ·have J:A.not (A.eq e1 0)=false:=yA;rw[Y,Z]at J;refine⟨i+1,⟨yO,?_⟩,yO,?_⟩
   ·rw[k];simpa using J
   exact yc
 ·have h5:i=d:=gY X.a b h1;cbv;refine h 0 ?_;rw[h5,l,bF]at ha;exact ha.symm
def OY(n:j=bH dC env)(d:dW env)(o:g=bH encS vs)(i:vs.length<=4294967295)
 (b:Ty.le 4294967295 t) (hs:t.size<=4294967295) (p:∀u∈t.all,u.mF) (m:cD t c c1 c2 f a) (h:∀r:Int,r=nu env vs t->K (.int .i64 r) []):
 FT 173 [] [.lst 51 j,.lst 9 g,df c c1 c2 f a] K:=by
 refine en (cf 17) Tryz.func173 λA C L X=>?_;have Y:=fz X.a;have Z:=mI X.a;cbv;refine X.call (WC b hs p m λl e=>?_);rw[nu,<-e]at h;refine p2 (λJ=>?_) (λJ=>?_)
 ·have J:A.not (A.eq l 0)=true:=J;rw[Y,Z]at J;exact h _ (by rw[if_pos (yU J)])
 have J:A.not (A.eq l 0)=false:=J;rw[Y,Z]at J;rw[if_neg (yU J)]at h;refine X.call (WB n d o i t b hs m λe1 k=>?_);cbv;exact h _ k
end
end Go.VC.cK
namespace Go.VC
open Go
section
variable {tt:TypeId->Option TI}
def qU:Ob->Ob
 | .box cs=>.box (c9 (thin 1) cs)
 |o=>o
def pQ(o:Ob):(qU o).live=o.live:=by cases o<;>rfl
def Kg(n:Nat):Hd (thin n):=by intro p;cases n<;>cases p<;>simp only[thin]<;>(try exact id)<;>(try exactλh=>by first|exact h|(cases h;done))
theorem OR.qU{E:List RI}{Pp:ga}{w:World}{ri:RI}{o:Ob}(h:OR tt E Pp w ri o):OR tt E Pp w ri (qU o):=by
 cases o<;>try exact h
 rename_i cs;cases ri<;>simp only[OR,VC.qU]at h ⊢
 obtain⟨vs,T,h1,J,h3⟩:=h;exact⟨vs,T,h1,fe.c9 (λ_ _=>VR.thin 1) J,h3.1,h3.2.map (Kg 1)⟩
def FC.Nk{P:Program}{f:FuncId}{objs objs':List Ob}{args:List PV}{K:PV->List Ob->Prop}(s:c9 VC.qU objs=objs')(h:FC P tt f objs' args K):FC P tt f objs args K:=by
 subst s
 have a:∀(i:Nat) o,(c9 VC.qU objs)[i]? =some o->∃c,objs[i]? =some c/\o=VC.qU c:=by
  intro i o d;rw[iv,cw]at d;cases r:objs[i]? with
  |none=>rw[r]at d;cases d
  |some c=>rw[r]at d;cases d;exact⟨c,rfl,rfl⟩
 intro E Pp w vals g t
 have p:WR tt E Pp (c9 VC.qU objs) w:=by
  refine⟨by rw[iv,bQ];exact g.len,g.pi,?_,?_,g.gl⟩
  ·intro i o d hl;obtain⟨c,h0,rfl⟩:=a i o d;rw[pQ]at hl;obtain⟨ri,h1,J⟩:=g.ob i c h0 hl;exact⟨ri,h1,J.qU⟩
  ·intro i j oi oj ri rj b d u n m;obtain⟨c,h0,rfl⟩:=a i oi d;obtain⟨y,h1,rfl⟩:=a j oj u;rw[pQ]at n m;exact g.sep i j c y ri rj b h0 h1 n m
 have k:own E (c9 VC.qU objs)=own E objs:=by
  funext b;apply propext;constructor
  ·rintro⟨i,o,ri,h1,J,h3,h4⟩;obtain⟨c,h0,rfl⟩:=a i o h1;exact⟨i,c,ri,h0,by rw[pQ]at J;exact J,h3,h4⟩
  ·rintro⟨i,o,ri,h1,J,h3,h4⟩;refine⟨i,VC.qU o,ri,?_,by rw[pQ];exact J,h3,h4⟩;rw[iv,cw,h1];rfl
 have:=h E Pp w vals p t;refine this.mono ?_;rintro e w' ⟨v,E',Pp',o',pv,h1,J,h3,h4,h5,h6,h7,h8,q⟩;rw[k]at h7 h8 q;exact⟨v,E',Pp',o',pv,h1,J,h3,h4,h5,h6,h7,h8,q⟩
abbrev BB:=Bool×Bool
def ub(a b:BB):BB:=(a.1||b.1,a.2||b.2)
def Ca(v:Int)(o:BB):BB:=if v=0 then o else if v=1 then(o.2,o.1)else(o.1||o.2,o.1||o.2)
def varOf(ps:List Pm)(i:Nat):Int:=match ps[i]? with|some p=>p.var|none=>2
mutual
def nh(env:List IF)(x:S):Ty->BB
 | .mk k m n ar fl=>if k=9 then(n==x,false)else if k=10 then my env x (dD env m n).1.params 0 ar else ub (mr env x ar) (mw env x (k==8) fl)
def my(env:List IF)(x:S)(ps:List Pm):Nat->List Ty->BB
 |_,[]=>(false,false)
 |i,t::l=>ub (Ca (varOf ps i) (nh env x t)) (my env x ps (i+1) l)
def mr(env:List IF)(x:S):List Ty->BB
 |[]=>(false,false)
 |t::l=>ub (nh env x t) (mr env x l)
def mw(env:List IF)(x:S)(sw:Bool):List Fe->BB
 |[]=>(false,false)
 | .mk _ t _::l=>ub (if sw then((nh env x t).2,(nh env x t).1)else nh env x t) (mw env x sw l)
end
variable {env:List IF}{x:S}{i:Nat}{l:List Ty}
def PC(s:Int)(o:BB):Bool:=if 0<s then o.1 else if s<0 then o.2 else o.1||o.2
def tZ(s:Int)(o q:BB):BB:=(q.1||PC s o,q.2||PC (-s) o)
def ng(a b c:BB):ub (ub a b) c=ub a (ub b c):=by simp[ub,FD]
def wj(a:BB):ub a (false,false)=a:=by simp[ub]
def GJ(a:BB):ub (false,false) a=a:=by simp[ub]
def tq(s:Int)(a b q:BB):tZ s (ub a b) q=tZ s b (tZ s a q):=by
 unfold tZ PC ub;rcases qG s 0 with h|h|h
 ·have h1:¬0<s:=yO;have J:0< -s:=yO;simp[h,h1,J,FD]
 ·subst h;simp;constructor<;>(cases q.1<;>cases q.2<;>cases a.1<;>cases a.2<;>cases b.1<;>cases b.2<;>rfl)
 ·have h1:¬s<0:=yO;have J:¬0< -s:=yO;have h3: -s<0:=yO;simp[h,h1,J,h3,FD]
def Kc(s:Int)(q:BB):tZ s (false,false) q=q:=by unfold tZ PC;simp
def Hr(s:Int)(o q:BB):tZ s (o.2,o.1) q=tZ (-s) o q:=by
 unfold tZ PC;rcases qG s 0 with h|h|h
 ·have h1:¬0<s:=yO;have J:0< -s:=yO;simp[h,h1,J]
 ·subst h;simp[Bool.or_comm]
 ·have h1:¬s<0:=yO;have J:¬0< -s:=yO;have h3: -s<0:=yO;simp[h,h1,J,h3]
def Kd(s:Int)(o q:BB):tZ s (o.1||o.2,o.1||o.2) q=tZ 0 o q:=by
 unfold tZ PC;rcases qG s 0 with h|h|h
 ·have h1:¬0<s:=yO;have J:0< -s:=yO;simp[h,h1,J]
 ·subst h;simp
 ·have h1:¬s<0:=yO;have J:¬0< -s:=yO;have h3: -s<0:=yO;simp[h,h1,J,h3]
def uk(s v:Int)(o q:BB):tZ s (Ca v o) q=if v=0 then tZ s o q else if v=1 then tZ (-s) o q else tZ 0 o q:=by
 unfold Ca;split
 ·rfl
 ·split
  ·exact Hr _ _ _
  ·exact Kd _ _ _
def Ed(env:List IF)(x:S)(ps:List Pm):∀(l k:List Ty)(i:Nat),my env x ps i (l++k)=ub (my env x ps i l) (my env x ps (i+l.length) k)
 |[],k,i=>by simp[my,GJ]
 |t::l,k,i=>by rw[cO,my,my,Ed env x ps l k (i+1),ng];simp[mn,Nat.add_left_comm]
def Eb(env:List IF)(x:S):∀(l k:List Ty),mr env x (l++k)=ub (mr env x l) (mr env x k)
 |[],k=>by simp[mr,GJ]
 |t::l,k=>by rw[cO,mr,mr,Eb env x l k,ng]
def Ec(env:List IF)(x:S)(sw:Bool):∀(l k:List Fe),mw env x sw (l++k)=ub (mw env x sw l) (mw env x sw k)
 |[],k=>by simp[mw,GJ]
 | .mk s t b::l,k=>by rw[cO,mw,mw,Ec env x sw l k,ng]
def Bf{ps:List Pm}(h:i<l.length):my env x ps 0 (l.take (i+1))=ub (my env x ps 0 (l.take i)) (Ca (varOf ps i) (nh env x l[i])):=by rw[bX h,Ed,fk,cZ,De (JO h),my,my,wj]
def Bc(h:i<l.length):mr env x (l.take (i+1))=ub (mr env x (l.take i)) (nh env x l[i]):=by rw[bX h,Eb,mr,mr,wj]
def Be{sw:Bool}{l:List Fe}(h:i<l.length):mw env x sw (l.take (i+1))=ub (mw env x sw (l.take i)) (if sw then((nh env x l[i].t).2,(nh env x l[i].t).1)else nh env x l[i].t):=by
 rw[bX h,Ec]
 congr 1
 cases l[i];rw[mw,mw,wj];rfl
def KW(env:List IF)(x:S)(t:Ty):nh env x t=if t.k=9 then(t.n==x,false)else if t.k=10 then my env x (dD env t.m t.n).1.params 0 t.ar else ub (mr env x t.ar) (mw env x (t.k==8) t.fl):=by cases t;rw[nh];rfl
def iU(env:List IF)(t:Ty):List S->List Pm->Bool
 |_,[]=>true
 |seen,p::l=>if seen.contains p.name then iU env t seen l else
  if(p.var=0/\(nh env p.name t).2=true)\/(p.var=1/\(nh env p.name t).1=true)then false else iU env t (seen++[p.name]) l
end
end Go.VC
namespace Go.VC.cK
open Go Go.VC Go.Proofs
def Sw:eE:={tt:=tt,n:=128,live:=[261],eB:=[261],n0:=5}
def Jj(b:Bool)(P:PV):Prop:=P= .bool b\/P= .bl b
abbrev OU(P N:PV)(x:S)(a:D):List Ob:=[.box [P],.box [.str x],.box [N],.box [.lst 51 a],.box [.cy 261 [.box 0 0,.box 1 0,.box 2 0,.box 3 0,.box 4 0]]]
def Wm{env:List IF}{de:D}{x:S}(he:de=bH dC env)(aD:dW env):
 ∀(t:Ty),Ty.le 4294967295 t->∀{s:Int}(hs: -1<=s/\s<=1){p n:Bool}{P N:PV}(hP:Jj p P)(hN:Jj n N){E:Int}{c1 c2:S}{c3 c4:D}{K:PV->List Ob->Prop},cD t E c1 c2 c3 c4->
  (∀p' n' P' N',Jj p' P'->Jj n' N'->(p',n')=tZ s (nh env x t) (p,n)->K (.tup []) (OU P' N' x de))->
  FT 261 (OU P N x de) [df E c1 c2 c3 c4,.int .i64 s,.box 0 0,.box 1 0,.box 2 0,.box 3 0,.box 4 0] K:=by
 refine Ty.fC λt ih=>?_;intro af s hs p n P N hP hN E c1 c2 c3 c4 K ht h;refine FC.Nk (objs':=OU (.bool p) (.bool n) x de) (by rcases hP with rfl|rfl<;>rcases hN with rfl|rfl<;>rfl) ?_;clear hP hN P N;have aB:=ht;obtain⟨t0,t1,t2,M,al⟩:=aB;rw[KW,<-t0,<-t1,<-t2]at h;have aQ:t.ar.length<=4294967295:=by cases af;assumption
 have aU:t.fl.length<=4294967295:=by cases af;assumption
 have O:∀i (w:i<t.ar.length),_:=λi w=>ih t.ar[i] (by simp[Ty.dP]);have ap:∀i (w:i<t.fl.length),_:=λi w=>ih t.fl[i].t (by simp only[Ty.dP,bJ,bT];exact .inr ⟨_,bx w,rfl⟩);have V:∀i (w:i<t.ar.length),Ty.le 4294967295 t.ar[i]:=λi w=>gP af _ (by simp[Ty.dP]);have au:∀i (w:i<t.fl.length),Ty.le 4294967295 t.fl[i].t:=λi w=>gP af _ (by simp only[Ty.dP,bJ,bT];exact .inr ⟨_,bx w,rfl⟩);clear ih;refine el Sw Tryz.func261 λA C L X=>?_;have Y:=fz X.a;have Z:=mI X.a;have m:A.inr .i64 (A.sub 0 s):=by rw[X.a,dK,iK];omega
 have hm:A.sub 0 s= -s:=by rw[X.a,iK];omega
 by_cases h9:E=9
 ·have e9:A.eq E 9=true:=by rw[Z,h9];rfl
  rw[if_pos h9]at h
  have hu:∀p' n' P' N',Jj p' P'->Jj n' N'->p'=(p||((c2==x)&&decide (0<=s)))->n'=(n||((c2==x)&&decide (s<=0)))->K (.tup []) (OU P' N' x de):=by
   intro p' n' P' N' aL aK hp aF;refine h p' n' P' N' aL aK ?_;rw[hp,aF];unfold tZ PC;rcases qG s 0 with h|h|h
   ·have h1:¬0<s:=yO;have J:0< -s:=yO;have h3:¬0<=s:=yO;have h4:s<=0:=yO;simp[h,h1,J,h3,h4]
   ·subst h;simp
   ·have h1:¬s<0:=yO;have J:¬0< -s:=yO;have h3: -s<0:=yO;have h4:¬s<=0:=yO;have h5:0<=s:=yO;simp[h,h1,J,h3,h4,h5]
  have ac:A.seq c2 x=(c2==x):=yX;have G:A.le 0 s=decide (0<=s):=yX;have F:A.le s 0=decide (s<=0):=yX;clear h O ap;cbv;repeat' (first|apply bw|exact zf|(intro J;first|exact yB e9 J|cbv)|apply bG)
  all_goals (first
   |(refine hu _ _ _ _ (.inl rfl) (.inl rfl) ?_ ?_<;>(clear hu;simp only[dq,ac,G,F]at *;simp_all;done))
   |(refine hu _ _ _ _ (.inl rfl) (.inr rfl) ?_ ?_<;>(clear hu;simp only[dq,ac,G,F]at *;simp_all;done))
   |(refine hu _ _ _ _ (.inr rfl) (.inl rfl) ?_ ?_<;>(clear hu;simp only[dq,ac,G,F]at *;simp_all;done))
   |(refine hu _ _ _ _ (.inr rfl) (.inr rfl) ?_ ?_<;>(clear hu;simp only[dq,ac,G,F]at *;simp_all;done)))
 rw[if_neg h9]at h;have e9:A.eq E 9=false:=by rw[Z];simpa using h9
 have av: -1<=A.sub 0 s/\A.sub 0 s<=1:=by rw[hm];omega
 have aw:(-1:Int)<=0/\(0:Int)<=1:=yD;by_cases ae:E=10
 ·have gD:A.eq E 10=true:=by rw[Z,ae];rfl
  rw[if_pos ae]at h;cbv;repeat' (first|apply bw|exact zf|(intro J;first|exact yB e9 J|exact yB gD J|cbv)|apply bG|(refine X.call (TC he aD λw0 Q w2 w3 w4 w5 w6 w7 w8 w9 aJ aH r1 r2 hx aC aA=>?_);cbv))
  obtain⟨ps,am⟩:∃ps,ps=(dD env c1 c2).1.params:=⟨_,rfl⟩;have ak:Q=bH ew ps:=by rw[am];exact hx.2.1
  rw[<- am]at h;clear am hx aC aA;obtain⟨k,z,j⟩:=lenOf M;have ax:A.len Q=br ps.length:=gr X.a ak;refine lP X (λy=>y.1<=k/\(y.2.1,y.2.2)=tZ s (my env x ps 0 (t.ar.take y.1)) (p,n)) (λy=>k-y.1) (0,(p,n)) ⟨bD _,by simp only;rw[j5,my,Kc]⟩ [0,1,2,3,4,5,6] (λ(y:Nat×(Bool×Bool))=>⟨[(94,.int .i64 y.1),(93,.int .i64 (A.len c3)),(92,.lst 29 c3),(1,.int .i64 s),(2,.box 0 0),(3,.box 1 0),(4,.box 2 0),(5,.box 3 0),(6,.box 4 0),(9,.box 6 0)],[.box [.bool y.2.1],.box [.str x],.box [.bool y.2.2],.box [.lst 51 de],.box [.cy 261 [.box 0 0,.box 1 0,.box 2 0,.box 3 0,.box 4 0]],.box [.int .i64 E,.str c1,.str c2,.lst 29 c3,.lst 42 c4],.box [.str w0,.lst 56 Q,.int .i64 w2,.str w3,.str w4,.lst 29 w5,.lst 42 w6,.int .i64 w7,.str w8,.str w9,.lst 29 aJ,.lst 42 aH]]⟩) ?_;rintro⟨i,p',n'⟩ ⟨w,q⟩;simp only at w q;cbv;constructor<;>intro h1
  ·have h5:i<t.ar.length:=lY X.a j h1;have k1:=gI X.a M h5;have o:=iX X.a M h5;have r:=jX X.a h5;have l:=Bf (env:=env) (x:=x) (ps:=ps) h5;by_cases iJ:i<ps.length
   ·have aa:A.lt (br i) (A.len Q)=true:=by rw[ax,X.a,ik];exact decide_eq_true yL
    have U:=iX X.a ak iJ;have kv:=(Aj X.a ak iJ).2;have an:varOf ps i=ps[i].var:=by rw[varOf,bB iJ]
    rw[an,<-kv]at l;obtain⟨v,hv⟩:∃v,v=A.asInt (A.cell Q (br i) 1):=⟨_,rfl⟩;by_cases R:A.asInt (A.cell Q (br i) 1)=0
    ·have B:A.eq (A.asInt (A.cell Q (br i) 1)) 0=true:=by rw[Z,R];rfl
     cbv;repeat' (first|apply bw|exact zf|(intro J;first|exact yB aa J|exact yB B J|cbv)|apply bG|(refine X.call (O i h5 (V i h5) hs (.inl rfl) (.inl rfl) k1 λd c I H e f hu=>?_);cbv))
     any_goals first|exact o|exact r|exact m|exact U
     have g:(d,c)=tZ s (my env x ps 0 (t.ar.take (i+1))) (p,n):=by rw[l,tq,uk,if_pos R,<-q];exact hu
     rcases e with rfl|rfl<;>rcases f with rfl|rfl<;>(refine⟨(i+1,(d,c)),⟨yP,g⟩,yP,[0,1,2,3,4,5,6],rfl,?_⟩;exact yc)
    by_cases ad:A.asInt (A.cell Q (br i) 1)=1
    ·have B:A.eq (A.asInt (A.cell Q (br i) 1)) 0=false:=by rw[Z];simpa using R
     have T:A.eq (A.asInt (A.cell Q (br i) 1)) 1=true:=by rw[Z,ad];rfl
     cbv;repeat' (first|apply bw|exact zf|(intro J;first|exact yB aa J|exact yB B J|exact yB T J|cbv)|apply bG|(refine X.call (O i h5 (V i h5) av (.inl rfl) (.inl rfl) k1 λd c I H e f hu=>?_);cbv))
     any_goals first|exact o|exact r|exact m|exact U
     have g:(d,c)=tZ s (my env x ps 0 (t.ar.take (i+1))) (p,n):=by rw[l,tq,uk,if_neg R,if_pos ad,<-q,<-hm];exact hu
     rcases e with rfl|rfl<;>rcases f with rfl|rfl<;>(refine⟨(i+1,(d,c)),⟨yP,g⟩,yP,[0,1,2,3,4,5,6],rfl,?_⟩;exact yc)
    ·have B:A.eq (A.asInt (A.cell Q (br i) 1)) 0=false:=by rw[Z];simpa using R
     have T:A.eq (A.asInt (A.cell Q (br i) 1)) 1=false:=by rw[Z];simpa using ad
     cbv;repeat' (first|apply bw|exact zf|(intro J;first|exact yB aa J|exact yB B J|exact yB T J|cbv)|apply bG|(refine X.call (O i h5 (V i h5) aw (.inl rfl) (.inl rfl) k1 λd c I H e f hu=>?_);cbv))
     any_goals first|exact o|exact r|exact m|exact U
     have g:(d,c)=tZ s (my env x ps 0 (t.ar.take (i+1))) (p,n):=by rw[l,tq,uk,if_neg R,if_neg ad,<-q];exact hu
     rcases e with rfl|rfl<;>rcases f with rfl|rfl<;>(refine⟨(i+1,(d,c)),⟨yP,g⟩,yP,[0,1,2,3,4,5,6],rfl,?_⟩;exact yc)
   ·have aa:A.lt (br i) (A.len Q)=false:=by rw[ax,X.a,ik];exact decide_eq_false yL
    have B:A.eq 2 0=false:=by rw[Z];rfl
    have T:A.eq 2 1=false:=by rw[Z];rfl
    have an:varOf ps i=2:=by rw[varOf,bY yO]
    rw[an]at l;cbv;repeat' (first|apply bw|exact zf|(intro J;first|exact yB aa J|exact yB B J|exact yB T J|cbv)|apply bG|(refine X.call (O i h5 (V i h5) aw (.inl rfl) (.inl rfl) k1 λd c I H e f hu=>?_);cbv))
    any_goals first|exact o|exact r|exact m
    have g:(d,c)=tZ s (my env x ps 0 (t.ar.take (i+1))) (p,n):=by rw[l,tq,uk,if_neg yD,if_neg yD,<-q];exact hu
    rcases e with rfl|rfl<;>rcases f with rfl|rfl<;>(refine⟨(i+1,(d,c)),⟨yP,g⟩,yP,[0,1,2,3,4,5,6],rfl,?_⟩;exact yc)
  ·have h5:i=k:=gY X.a j h1;rw[h5,z,bF]at q;cbv;exact h p' n' _ _ (.inl rfl) (.inl rfl) q
 have gD:A.eq E 10=false:=by rw[Z];simpa using ae
 rw[if_neg ae]at h;cbv;repeat' (first|apply bw|exact zf|(intro J;first|exact yB e9 J|exact yB gD J|cbv)|apply bG)
 obtain⟨k,z,j⟩:=lenOf M;obtain⟨W,aj,u⟩:=lenOf al;refine lP X (λy=>y.1<=k/\(y.2.1,y.2.2)=tZ s (mr env x (t.ar.take y.1)) (p,n)) (λy=>k-y.1) (0,(p,n)) ⟨bD _,by simp only;rw[j5,mr,Kc]⟩ [0,1,2,3,4,5] (λ(y:Nat×(Bool×Bool))=>⟨[(24,.int .i64 y.1),(23,.int .i64 (A.len c3)),(22,.lst 29 c3),(1,.int .i64 s),(2,.box 0 0),(3,.box 1 0),(4,.box 2 0),(5,.box 3 0),(6,.box 4 0),(7,.box 5 0)],[.box [.bool y.2.1],.box [.str x],.box [.bool y.2.2],.box [.lst 51 de],.box [.cy 261 [.box 0 0,.box 1 0,.box 2 0,.box 3 0,.box 4 0]],.box [.int .i64 E,.str c1,.str c2,.lst 29 c3,.lst 42 c4]]⟩) ?_;rintro⟨i,p',n'⟩ ⟨w,q⟩;simp only at w q;cbv;constructor<;>intro h1
 ·have h5:i<t.ar.length:=lY X.a j h1;have k1:=gI X.a M h5;have o:=iX X.a M h5;have r:=jX X.a h5;have l:=Bc (env:=env) (x:=x) h5;cbv;repeat' (first|apply bw|exact zf|(intro J;first|exact yB e9 J|cbv)|apply bG|(refine X.call (O i h5 (V i h5) hs (.inl rfl) (.inl rfl) k1 λd c I H e f hu=>?_);cbv))
  any_goals first|exact o|exact r|exact m
  have g:(d,c)=tZ s (mr env x (t.ar.take (i+1))) (p,n):=by rw[l,tq,<-q];exact hu
  rcases e with rfl|rfl<;>rcases f with rfl|rfl<;>(refine⟨(i+1,(d,c)),⟨yP,g⟩,yP,[0,1,2,3,4,5],rfl,?_⟩;exact yc)
 have h5:i=k:=gY X.a j h1;rw[h5,z,bF]at q;obtain⟨p0,n0,aM⟩:∃a b,a=p'/\b=n':=⟨_,_,rfl,rfl⟩;clear h5 h1 w;cbv;refine lP X (λy=>y.1<=W/\(y.2.1,y.2.2)=tZ s (ub (mr env x t.ar) (mw env x (t.k==8) (t.fl.take y.1))) (p,n)) (λy=>W-y.1) (0,(p',n')) ⟨bD _,by simp only;rw[j5,mw,wj];exact q⟩ [0,1,2,3,4,5] (λ(y:Nat×(Bool×Bool))=>⟨[(36,.int .i64 y.1),(35,.int .i64 (A.len c4)),(34,.lst 42 c4),(1,.int .i64 s),(2,.box 0 0),(3,.box 1 0),(4,.box 2 0),(5,.box 3 0),(6,.box 4 0),(7,.box 5 0)],[.box [.bool y.2.1],.box [.str x],.box [.bool y.2.2],.box [.lst 51 de],.box [.cy 261 [.box 0 0,.box 1 0,.box 2 0,.box 3 0,.box 4 0]],.box [.int .i64 E,.str c1,.str c2,.lst 29 c3,.lst 42 c4]]⟩) ?_;clear q aM;rintro⟨i,p',n'⟩ ⟨w,q⟩;simp only at w q;cbv;constructor<;>intro h1
 ·have h5:i<t.fl.length:=lY X.a u h1;have k1:=kE X.a al h5;have o:=iX X.a al h5;have r:=jX X.a h5;have l:=Be (env:=env) (x:=x) (sw:=(t.k==8)) h5;by_cases h8:E=8
  ·have e8:A.eq E 8=true:=by rw[Z,h8];rfl
   have ao:(t.k==8)=true:=by rw[<- t0,h8];rfl
   cbv;repeat' (first|apply bw|exact zf|(intro J;first|exact yB e8 J|cbv)|apply bG|(refine X.call (ap i h5 (au i h5) av (.inl rfl) (.inl rfl) k1 λd c I H e f hu=>?_);cbv))
   any_goals first|exact o|exact r|exact m
   have g:(d,c)=tZ s (ub (mr env x t.ar) (mw env x (t.k==8) (t.fl.take (i+1)))) (p,n):=by rw[l,<-ng,tq,<-q,if_pos ao,Hr,<-hm];exact hu
   rcases e with rfl|rfl<;>rcases f with rfl|rfl<;>(refine⟨(i+1,(d,c)),⟨yP,g⟩,yP,[0,1,2,3,4,5],rfl,?_⟩;exact yc)
  ·have e8:A.eq E 8=false:=by rw[Z];simpa using h8
   have ao:¬(t.k==8)=true:=by rw[<- t0];simpa using h8
   cbv;repeat' (first|apply bw|exact zf|(intro J;first|exact yB e8 J|cbv)|apply bG|(refine X.call (ap i h5 (au i h5) hs (.inl rfl) (.inl rfl) k1 λd c I H e f hu=>?_);cbv))
   any_goals first|exact o|exact r|exact m
   have g:(d,c)=tZ s (ub (mr env x t.ar) (mw env x (t.k==8) (t.fl.take (i+1)))) (p,n):=by rw[l,<-ng,tq,<-q,if_neg ao];exact hu
   rcases e with rfl|rfl<;>rcases f with rfl|rfl<;>(refine⟨(i+1,(d,c)),⟨yP,g⟩,yP,[0,1,2,3,4,5],rfl,?_⟩;exact yc)
 have h5:i=W:=gY X.a u h1;rw[h5,aj,bF]at q;rw[t0]at h;cbv;exact h p' n' _ _ (.inl rfl) (.inl rfl) q
end Go.VC.cK
namespace Go.VC
section
variable {m:List (S×Bool)}{L:List S}{α:Type}
def Pm.wt(p:Pm):Nat:=1+p.bound.size
def TE.wt(x:TE):Nat:=1+(x.params.map Pm.wt).sum+x.lower.size+x.upper.size
def VE.wt(x:VE):Nat:=1+(x.params.map Pm.wt).sum+x.ty.size
def IF.wt(x:IF):Nat:=1+(x.types.map TE.wt).sum+(x.values.map VE.wt).sum+x.aliases.length+x.deprecated.length
def tk{f:α->Nat}{l:List α}{x:α}(h:x∈l):f x<=(l.map f).sum:=p8 (bT.2 ⟨x,h,rfl⟩)
def kz(t:Ty):List S:=t.fG.map (·.1)
def pX(l:List Pm):List S:=l.flatMap λp=>kz p.bound
def oy(x:TE):List S:=pX x.params++kz x.lower++kz x.upper
def pK(x:VE):List S:=pX x.params++kz x.ty
def uR(x:IF):List S:=x.types.flatMap oy++x.values.flatMap pK++x.aliases.map (·.module)
def pN(t:Ty):(kz t).length<=t.size:=by unfold kz;rw[bQ];exact hY t
def ll{β:Type}{f:α->List β}{g:α->Nat}:∀{l:List α},(∀x∈l,(f x).length<=g x)->(l.flatMap f).length<=(l.map g).sum
 |[],_=>yS
 |x::l,h=>by have a:=h x yS;have b:=ll (l:=l) (f:=f) (g:=g) λy e=>h y (by simp[e]);simp only[eQ,bE,bO,ch];omega
def yG(l:List Pm):(pX l).length<=(l.map Pm.wt).sum:=ll λp _=>by have:=pN p.bound;unfold Pm.wt;omega
def wo(x:IF):(uR x).length<=x.wt:=by
 have a:=ll (l:=x.types) (f:=oy) (g:=TE.wt) λy _=>by have:=yG y.params;have:=pN y.lower;have:=pN y.upper;simp only[oy,bE,TE.wt];omega
 have b:=ll (l:=x.values) (f:=pK) (g:=VE.wt) λy _=>by have:=yG y.params;have:=pN y.ty;simp only[pK,bE,VE.wt];omega
 simp only[uR,bE,bQ,IF.wt];omega
def jU(m:List (S×Bool))(L:List S):Prop:=(m.map (·.1)).Nodup/\∀s,s∈m.map (·.1)↔s∈L
def jU.nil:jU [] []:=⟨yS,yS⟩
def jU.add(h:jU m L)(l:List S):jU (rW m l) (L++l):=⟨Fp h.1,λs=>by rw[G5,h.2,bJ];exact JX⟩
def jU.of{a:List S}(h:jU m L)(e:∀s,s∈L↔s∈a):jU m a:=⟨h.1,λs=>by rw[h.2,e]⟩
def jU.len(h:jU m L):m.length<=L.length:=by have:=fm h.1 (m:=L) λs hs=>(h.2 s).1 hs;simpa using this
def xA(m:List (S×Bool))(k:S):List (S×Bool):=m.eraseP λx=>k==x.1
def MF{k:S}:Std.Gn (bH dY m) (.str k)=bH dY (xA m k):=by
 simp only[Std,ec,bH,cp,xA]
 congr 1
 rw[List.eraseP_map];rfl
def jU.del(h:jU m L)(k:S):jU (xA m k) (L.filter λs=>s != k):=by
 obtain⟨h1,J⟩:=h
 have key:∀m:List (S×Bool),(m.map (·.1)).Nodup->((xA m k).map (·.1)).Nodup/\∀s,s∈(xA m k).map (·.1)↔s∈m.map (·.1)/\s≠k:=by
  intro m a;refine⟨a.sublist (List.Sublist.map _ vP),?_⟩;induction m with
  |nil=>simp[xA]
  |cons x m j=>
   rw[bO,cn]at a;intro s;by_cases hk:k=x.1
   ·have e:xA (x::m) k=m:=by unfold xA;rw[List.eraseP_cons_of_pos (by simp[hk])]
    rw[e];constructor
    ·intro hs;exact⟨by simp only[bO,bP];exact .inr hs,λe=>a.1 (by rw[<- hk,<-e];exact hs)⟩
    ·rintro⟨hs,f⟩;rcases bP.1 (by simpa only[bO]using hs)with e|e
     ·exact absurd (e.trans hk.symm) f
     ·exact e
   ·have e:xA (x::m) k=x::xA m k:=by unfold xA;rw[List.eraseP_cons_of_neg (yU hk)]
    rw[e,bO,bP,j a.2,bO,bP];constructor
    ·rintro(h|⟨h,b⟩)
     ·exact⟨.inl h,λe=>hk (e.symm.trans h)⟩
     ·exact⟨.inr h,b⟩
    ·rintro⟨h|h,b⟩
     ·exact .inl h
     ·exact .inr ⟨h,b⟩
 obtain⟨g,i⟩:=key m h1;exact⟨g,λs=>by rw[i,J,jz];simp⟩
end
end Go.VC
namespace Go.VC.cK
open Go Go.VC Go.Proofs
section
variable {d:D}{m:List (S×Bool)}{c:List S}{K:PV->List Ob->Prop}
def PY{A:qC}{i:Nat}{l:List U}(ha:A=Std)(hd:d=bH jH l)(h:i<l.length):A.bL (A.cell d (br i) 0)=l[i].1/\A.bL (A.cell d (br i) 1)=l[i].2:=by simp only[cellAt ha hd h];subst ha;exact⟨rfl,rfl⟩
def Uv{t:Ty}(o:Ty.le 4294967295 t)(hs:t.size<=4294967295){v:Int}{c1 c2:S}{p q:D}(z:cD t v c1 c2 p q)(hd:d=bH dY m)(H:jU m c)
 (h:∀m' r,r=bH dY m'->jU m' (c++kz t)->K (.tup []) [.box [.mp 1],.map .str 4 r]):FT 87 [.box [.mp 1],.map .str 4 d] [df v c1 c2 p q,.box 0 0] K:=by
 have B:=hY t;refine el Yy Tryz.func87 λA C L X=>?_;cbv;refine X.call (V7 o hs z λl n f k g=>?_);have x:l.length<=t.fG.length:=fm (tX k) λu hu=>(g u).1 hu;obtain⟨b,j,a⟩:=lenOf f;cbv;refine lp X (λy=>y.1<=b/\y.2=bH dY (rW m ((l.take y.1).map (·.1)))) (λy=>b-y.1) (0,d) ⟨bD _,by simpa[rW]using hd⟩ (λ(y:Nat×D)=>⟨[(8,.int .i64 y.1),(7,.int .i64 (A.len n)),(6,.lst 137 n),(1,.box 0 0)],[.box [.mp 1],.map .str 4 y.2]⟩) ?_;rintro⟨i,r⟩ ⟨G,hr⟩;simp only at G hr;cbv;constructor<;>intro h1
 ·have h5:i<l.length:=lY X.a a h1;have w:=(PY X.a f h5).1;have I:=iX X.a f h5;have F:=jX X.a h5;have E:A.p6 r (.str (A.bL (A.cell n (br i) 0))) [.bool true]=bH dY (rW m ((l.take (i+1)).map (·.1))):=by rw[w,X.a,hr,rZ,map_take h5,G4]
  refine p1 ?_;exact⟨(i+1,_),⟨yP,E⟩,yP,yc⟩
 have h5:i=b:=gY X.a a h1;subst h5;rw[j,bF]at hr;cbv;refine h _ r hr ((H.add (l.map (·.1))).of λs=>?_);simp only[bJ,kz,bT];constructor
 ·rintro(h|⟨u,hu,e⟩)
  ·exact .inl h
  ·exact .inr ⟨u,(g u).1 hu,e⟩
 ·rintro(h|⟨u,hu,e⟩)
  ·exact .inl h
  ·exact .inr ⟨u,(g u).2 hu,e⟩
def XT{l:List Pm}(hl:l.length<=4294967295)(n:∀p∈l,p.ok)(fL:∀p∈l,p.bound.size<=4294967295){k:D}(g:k=bH ew l)(hd:d=bH dY m)(s:jU m c)
 (h:∀m' r,r=bH dY m'->jU m' (c++pX l)->K (.tup []) [.box [.cy 87 [.box 1 0]],.box [.mp 2],.map .str 4 r]):FT 89 [.box [.cy 87 [.box 1 0]],.box [.mp 2],.map .str 4 d] [.lst 56 k,.box 0 0] K:=by
 refine el Yw Tryz.func89 λA C L X=>?_;obtain⟨b,f,a⟩:=lenOf g;cbv;refine lp X (λy=>y.1<=b/\y.2.1=bH dY y.2.2/\jU y.2.2 (c++pX (l.take y.1))) (λy=>b-y.1) (0,d,m) ⟨bD _,hd,by simpa[pX]using s⟩ (λ(y:Nat×D×List (S×Bool))=>⟨[(7,.int .i64 y.1),(6,.int .i64 (A.len k)),(5,.lst 56 k),(1,.box 0 0)],[.box [.cy 87 [.box 1 0]],.box [.mp 2],.map .str 4 y.2.1]⟩) ?_;rintro⟨i,r,x⟩ ⟨w,hr,e⟩;simp only at w hr e;cbv;constructor<;>intro h1
 ·have h5:i<l.length:=lY X.a a h1;have q:=Gd X.a g h5;have v:=iX X.a g h5;have t:=jX X.a h5;refine p1 ?_;refine X.call (Uv (n _ (bx h5)) (fL _ (bx h5)) q hr e λu r2 o j=>?_);refine p1 ?_;refine⟨(i+1,r2,u),⟨?_,o,?_⟩,?_,?_⟩
  ·simp only;omega
  ·simp only[pX]at j ⊢;rw[gf h5,<-bN];exact j
  ·simp only;omega
  exact yc
 have h5:i=b:=gY X.a a h1;subst h5;rw[f,bF]at e;cbv;exact h _ r hr e
end
end Go.VC.cK
namespace Go.VC
def rB(x:IF):List S:=(uR x).filter λs=>s != x.path
end Go.VC
namespace Go.VC.cK
open Go Go.VC Go.Proofs
def XX{x:IF}{u:S}{c1 c2 v c4:D}{K:PV->List Ob->Prop}(hx:jN x u c1 c2 v c4)(q:x.ok)(hw:x.wt<=4294967295)
 (h:∀(l:List S) r,r=bH encS l->mj l->(∀s,s∈l↔s∈rB x)->K (.lst 9 r) []):
 FT 52 [] [mf u c1 c2 v c4] K:=by
 obtain⟨x0,Q,I,P,av⟩:=hx;have nt:=q.nt;have nv:=q.nv;have na:=q.na;have M:=wo x;have T:∀y∈x.types,y.wt<=4294967295:=λy hy=>by have:=tk (f:=TE.wt) hy;unfold IF.wt at hw;omega
 have U:∀y∈x.values,y.wt<=4294967295:=λy hy=>by have:=tk (f:=VE.wt) hy;unfold IF.wt at hw;omega
 have wp:∀(l:List Pm) n,(l.map Pm.wt).sum<=n->∀p∈l,p.bound.size<=n:=λl n hn p hp=>by have:=tk (f:=Pm.wt) hp;unfold Pm.wt at *;omega
 refine en YN Tryz.func52 λA C L X=>?_;obtain⟨t,w,e⟩:=lenOf Q;obtain⟨k,E,g⟩:=lenOf I;obtain⟨o,H,d⟩:=lenOf P;cbv;refine lP X (λy=>y.1<=t/\y.2.1=bH dY y.2.2/\jU y.2.2 ((x.types.take y.1).flatMap oy)) (λy=>t-y.1) (0,.list [],[]) ⟨bD _,rfl,jU.nil⟩ [0,1,2,3] (λ(y:Nat×D×List (S×Bool))=>⟨[(18,.int .i64 y.1),(17,.int .i64 (A.len c1)),(16,.lst 45 c1),(1,.box 0 0),(3,.box 2 0),(4,.box 3 0),(5,.cy 89 [.box 3 0])],[.box [.str u,.lst 45 c1,.lst 99 c2,.lst 141 v,.lst 152 c4],.map .str 4 y.2.1,.box [.mp 1],.box [.cy 87 [.box 2 0]]]⟩) ?_;rintro⟨i,r,m⟩ ⟨N,hr,j⟩;simp only at N hr j;cbv;constructor<;>intro h1
 ·have h5:i<x.types.length:=lY X.a e h1;obtain⟨k0,R,k2,k3⟩:=nx X.a Q h5;have c:=q.t _ (bx h5);have B:=T _ (bx h5);have V:1+(x.types[i].params.map Pm.wt).sum+x.types[i].lower.size+x.types[i].upper.size<=4294967295:=B;have aa:=iX X.a Q h5;have W:=jX X.a h5;refine p1 ?_;refine X.call (XT c.np c.p (wp _ _ yO) R hr j λm1 r1 O F=>?_);refine p1 ?_;refine X.call (Uv c.lo yO k2 O F λm2 r2 z G=>?_);refine p1 ?_;refine X.call (Uv c.up yO k3 z G λm3 r3 ah ad=>?_);refine p1 ?_;refine⟨(i+1,r3,m3),⟨?_,ah,?_⟩,?_,[0,1,2,3],rfl,?_⟩
  ·simp only;omega
  ·simp only;rw[gf h5];simpa only[oy,bN]using ad
  ·simp only;omega
  exact yc
 have h5:i=t:=gY X.a e h1;subst h5;rw[w,bF]at j;cbv;refine lP X (λy=>y.1<=k/\y.2.1=bH dY y.2.2/\jU y.2.2 (x.types.flatMap oy++(x.values.take y.1).flatMap pK)) (λy=>k-y.1) (0,r,m) ⟨bD _,hr,yU j⟩ [0,1,2,3] (λ(y:Nat×D×List (S×Bool))=>⟨[(38,.int .i64 y.1),(37,.int .i64 (A.len c2)),(36,.lst 99 c2),(1,.box 0 0),(3,.box 2 0),(4,.box 3 0),(5,.cy 89 [.box 3 0])],[.box [.str u,.lst 45 c1,.lst 99 c2,.lst 141 v,.lst 152 c4],.map .str 4 y.2.1,.box [.mp 1],.box [.cy 87 [.box 2 0]]]⟩) ?_;clear hr j h1 N;rintro⟨i,r,m⟩ ⟨N,hr,j⟩;simp only at N hr j;cbv;constructor<;>intro h1
 ·have h5:i<x.values.length:=lY X.a g h1;obtain⟨k0,R,k2⟩:=pL X.a I h5;have c:=q.v _ (bx h5);have B:=U _ (bx h5);have V:1+(x.values[i].params.map Pm.wt).sum+x.values[i].ty.size<=4294967295:=B;have aa:=iX X.a I h5;have W:=jX X.a h5;refine p1 ?_;refine X.call (XT c.np c.p (wp _ _ yO) R hr j λm1 r1 O F=>?_);refine p1 ?_;refine X.call (Uv c.ty yO k2 O F λm2 r2 z G=>?_);refine p1 ?_;refine⟨(i+1,r2,m2),⟨?_,z,?_⟩,?_,[0,1,2,3],rfl,?_⟩
  ·simp only;omega
  ·simp only;rw[gf h5];simpa only[pK,bN]using G
  ·simp only;omega
  exact yc
 have h5:i=k:=gY X.a g h1;subst h5;rw[E,bF]at j;cbv;refine lP X (λy=>y.1<=o/\y.2.1=bH dY y.2.2/\jU y.2.2 (x.types.flatMap oy++x.values.flatMap pK++(x.aliases.take y.1).map (·.module))) (λy=>o-y.1) (0,r,m) ⟨bD _,hr,yU j⟩ [0,1,2] (λ(y:Nat×D×List (S×Bool))=>⟨[(54,.int .i64 y.1),(53,.int .i64 (A.len v)),(52,.lst 141 v),(1,.box 0 0),(3,.box 2 0)],[.box [.str u,.lst 45 c1,.lst 99 c2,.lst 141 v,.lst 152 c4],.map .str 4 y.2.1,.box [.mp 1]]⟩) ?_;clear hr j h1 N;rintro⟨i,r,m⟩ ⟨N,hr,j⟩;simp only at N hr j;cbv;constructor<;>intro h1
 ·have h5:i<x.aliases.length:=lY X.a d h1;have R:=(OI X.a P h5).2.1;have aa:=iX X.a P h5;have W:=jX X.a h5;have q1:A.p6 r (.str (A.bL (A.cell v (br i) 1))) [.bool true]=bH dY (pC m x.aliases[i].module):=by rw[R,X.a,hr,rZ]
  refine p1 ?_;refine⟨(i+1,_,pC m x.aliases[i].module),⟨?_,q1,?_⟩,?_,[0,1,2],rfl,?_⟩
  ·simp only;omega
  ·simp only;rw[map_take h5,<-bN];exact j.add [x.aliases[i].module]
  ·simp only;omega
  exact yc
 have h5:i=o:=gY X.a d h1;subst h5;rw[H,bF]at j;have hd:=j.del u;have q2:A.Gn r (.str u)=bH dY (xA m u):=by rw[X.a,hr,MF]
 cbv;refine X.call (Zq ?_);cbv;refine X.call (Zr q2 ?_ hd.1 λl rl ag ac M=>?_)
 ·have a:=hd.len;have b:((uR x).filter λs=>s != u).length<=(uR x).length:=th _ _;exact lD (bR a (bR b (bR M hw))) yO
 cbv;refine h l rl ag ac λs=>?_;rw[M,hd.2,rB,<-x0];rfl
end Go.VC.cK
namespace Go.VC
structure KT (m:List (S×Bool)) (L:List S):Prop where
 nd:(m.map (·.1)).Nodup
 mem:∀s,s∈m.map (·.1)↔s∈L
 tr:∀x∈m,x.2=true
def Sl{k:S}{x:S×Bool}:fa (.str k) (dY x)=(k==x.1):=rfl
def vH{m:List (S×Bool)}{L:List S}(h:KT m L)(k:S):Std.asBool (Std.fI (bH dY m) (.str k) 0)=decide (k∈L):=by
 have e:Std.asBool (Std.fI (bH dY m) (.str k) 0)=decide (k∈m.map (·.1)):=by
  have a:=h.tr;clear h;show Std.asBool ((((m.map dY).find? (fa (.str k))).getD []).getD 1 .nil)=_;induction m with
  |nil=>rfl
  |cons x m b=>
   rw[bO,cB,Sl];by_cases hk:k=x.1
   ·have J:=a x yS;rw[beq_iff_eq.2 hk];have:decide (k∈(x::m).map (·.1))=true:=by simp[hk]
    rw[this];show x.2=true;exact J
   ·rw[beq_eq_false_iff_ne.2 hk];have:=b (λy c=>a y (by simp[c]));rw[this];simp[hk]
 rw[e];exact decide_eq_decide.2 (h.mem k)
def vz(m:List (S×Bool))(k:S):List (S×Bool):=m.eraseP λx=>k==x.1
def MG{m:List (S×Bool)}{k:S}:Std.Gn (bH dY m) (.str k)=bH dY (vz m k):=by
 show D.list ((m.map dY).eraseP (fa (.str k)))=D.list ((vz m k).map dY)
 congr 1
 unfold vz;induction m with
 |nil=>rfl
 |cons x m a=>
  rw[bO,qN,qN,Sl];cases k==x.1 with
  |true=>rfl
  |false=>simp only[cond_false,bO,a]
def L9{m:List (S×Bool)}{k s:S}(a:(m.map (·.1)).Nodup):s∈(vz m k).map (·.1)↔s∈m.map (·.1)/\s≠k:=by
 unfold vz;induction m with
 |nil=>simp
 |cons x m b=>
  rw[bO,cn]at a;rw[qN];by_cases hk:k=x.1
  ·rw[beq_iff_eq.2 hk,cond_true,bO,bP];constructor
   ·intro h;exact⟨.inr h,λe=>a.1 (by rw[<- hk,<-e];exact h)⟩
   ·rintro⟨h|h,J⟩
    ·exact absurd (h.trans hk.symm) J
    ·exact h
  ·rw[beq_eq_false_iff_ne.2 hk,cond_false,bO,bP,b a.2,bO,bP];constructor
   ·rintro(h|⟨h,J⟩)
    ·exact⟨.inl h,λe=>hk (e.symm.trans h)⟩
    ·exact⟨.inr h,J⟩
   ·rintro⟨h|h,J⟩
    ·exact .inl h
    ·exact .inr ⟨h,J⟩
def KT.del{m:List (S×Bool)}{L:List S}(h:KT m L)(k:S):KT (vz m k) (L.filter λs=>s != k) where
 nd:=by have:((vz m k).map (·.1)).Sublist (m.map (·.1)):=(vP).map _;exact this.nodup h.nd
 mem s:=by rw[L9 h.nd,h.mem];simp
 tr x hx:=h.tr x (List.mem_of_mem_eraseP hx)
def KT.add{m:List (S×Bool)}{L:List S}(h:KT m L)(k:S):KT (pC m k) (L++[k]) where
 nd:=zY h.nd
 mem s:=by rw[wJ,h.mem];simp;exact JX
 tr x hx:=by
  have ht:=h.tr;clear h;induction m with
  |nil=>simp[pC]at hx;subst hx;rfl
  |cons y m ih=>
   simp only[pC]at hx;split at hx
   ·rcases bP.1 hx with rfl|hx
    ·rfl
    ·exact ht x (by simp[hx])
   ·rcases bP.1 hx with rfl|hx
    ·exact ht _ yS
    ·exact ih hx (λy hy=>ht y (by simp[hy]))
def KT.of{m:List (S×Bool)}{L a:List S}(h:KT m L)(e:∀s,s∈L↔s∈a):KT m a:=⟨h.nd,λs=>by rw[h.mem,e],h.tr⟩
def KT.nil:KT [] []:=⟨yS,yS,yS⟩
def Ng(o:BB):tZ 1 o (false,false)=o:=by unfold tZ PC;simp
end Go.VC
namespace Go.VC.cK
open Go Go.VC Go.Proofs
section
variable {env:List IF}{f d c:D}{t:Ty}{g:Int}{c1 c2:S}{K:PV->List Ob->Prop}
def SE:eE:={tt:=tt,n:=17,live:=[261],eB:=[261],gK:=[(5,[0,1,2,3])],xz:=[]}
def WA{x:S}(j:f=bH dC env)(e:dW env)(i:Ty.le 4294967295 t)(l:cD t g c1 c2 d c)
 (h:∀a b,(a,b)=nh env x t->K (.tup [.bool a,.bool b]) []):FT 225 [] [.lst 51 f,df g c1 c2 d c,.str x] K:=by
 refine en SE Tryz.func225 λA C L X=>?_;cbv;refine X.call (Wm (p:=false) (n:=false) j e t i yD (.inr rfl) (.inr rfl) l λa b q o k m hu=>?_);rw[Ng]at hu;rcases k with rfl|rfl<;>rcases m with rfl|rfl<;>cbv
 repeat' (first|apply bw|exact zf|(intro J;cbv)|apply bG)
 all_goals exact h a b hu
def TX{o:D}(Q:f=bH dC env)(F:dW env){ps:List Pm}(z:o=bH ew ps)(N:ps.length<=4294967295)(H:Ty.le 4294967295 t)(O:cD t g c1 c2 d c)
 (h:∀b,b=iU env t [] ps->K (.bool b) []):FT 174 [] [.lst 51 f,.lst 56 o,df g c1 c2 d c] K:=by
 refine en (cf 49) Tryz.func174 λA C L X=>?_;have Z:=mI X.a;obtain⟨p,u,j⟩:=lenOf z;cbv;refine lP X (λy=>y.1<=p/\∃seen m,y.2=bH dY m/\KT m seen/\iU env t [] ps=iU env t seen (ps.drop y.1)) (λy=>p-y.1) (0,.list []) ⟨bD _,[],[],rfl,KT.nil,rfl⟩ [0,1] (λ(y:Nat×D)=>⟨[(15,.int .i64 y.1),(14,.int .i64 (A.len o)),(13,.lst 56 o),(7,.mp 1),(0,.lst 51 f),(5,.box 0 0)],[.box [.int .i64 g,.str c1,.str c2,.lst 29 d,.lst 42 c],.map .str 4 y.2]⟩) ?_;rintro⟨i,v⟩ ⟨P,seen,m,s,G,hr⟩;simp only at P s hr;cbv;constructor<;>intro h1
 ·have h5:i<ps.length:=lY X.a j h1;obtain⟨w,M⟩:=Aj X.a z h5;have I:=iX X.a z h5;have E:=jX X.a h5;have n:A.asBool (A.fI v (.str (A.bL (A.cell o (br i) 0))) 0)=decide (ps[i].name∈seen):=by rw[w,X.a,s];exact vH G _
  have q:A.p6 v (.str (A.bL (A.cell o (br i) 0))) [.bool true]=bH dY (pC m ps[i].name):=by rw[w,X.a,s];exact rZ
  rw[bM h5,iU]at hr;have B:A.eq (A.asInt (A.cell o (br i) 1)) 0=(ps[i].var==0):=by rw[Z,M]
  have x:A.eq (A.asInt (A.cell o (br i) 1)) 1=(ps[i].var==1):=by rw[Z,M]
  have l:decide (ps[i].name∈seen)=true->iU env t [] ps=iU env t seen (ps.drop (i+1)):=by intro e;rw[hr,if_pos (yU e)]
  have k:decide (ps[i].name∈seen)=false->iU env t [] ps=if(ps[i].var=0/\(nh env ps[i].name t).2=true)\/(ps[i].var=1/\(nh env ps[i].name t).1=true)then false else iU env t (seen++[ps[i].name]) (ps.drop (i+1)):=by intro e;rw[hr,if_neg (yU e)]
  clear h1;cbv;repeat' (first|apply bw|exact zf|(intro J;cbv)|apply bG|(refine X.call (WA Q F H O λa b r=>?_);cbv))
  any_goals first|exact I|exact E
  ·have g1:A.asBool (A.fI v (.str (A.bL (A.cell o (br i) 0))) 0)=true:=yA;exact⟨(i+1,_),⟨yP,seen,m,s,G,l (n.symm.trans g1)⟩,yP,[0,1],rfl,yc⟩
  all_goals (
   have g1:A.asBool (A.fI v (.str (A.bL (A.cell o (br i) 0))) 0)=false:=yA;have k:=k (n.symm.trans g1);have r:(a,b)=nh env (A.bL (A.cell o (br i) 0)) t:=r;rw[w]at r;rw[<- r]at k;simp only at k;simp only[dq,B,x]at *)
  all_goals first
   |(refine h _ ?_;rw[k];clear k h l n q;simp_all;done)
   |(refine⟨(i+1,_),⟨yP,seen++[ps[i].name],_,q,G.add _,?_⟩,yP,[0,1],rfl,?_⟩
     ·rw[k];clear k h l n q;simp_all;done
     exact yc)
 ·have h5:i=p:=gY X.a j h1;cbv;rw[h5,u,bZ]at hr;exact h _ hr.symm
end
end Go.VC.cK
namespace Go.VC
open Go
section
variable {α:Type}{k s:S}
def fQ{α:Type}(f:α->List D)(x:S×α):List D:=.str x.1::f x.2
def kA{α:Type}(k:S)(v:α):List (S×α)->List (S×α)
 |[]=>[(k,v)]
 |x::r=>if k=x.1 then(k,v)::r else x::kA k v r
def LG{f:α->List D}{x:S×α}:fa (.str k) (fQ f x)=(k==x.1):=rfl
def rX{f:α->List D}{m:List (S×α)}{v:α}:Std.p6 (bH (fQ f) m) (.str k) (f v)=bH (fQ f) (kA k v m):=by
 show D.list (jr (.str k) (f v) (m.map (fQ f)))=D.list ((kA k v m).map (fQ f))
 congr 1
 induction m with
 |nil=>rfl
 |cons x m a=>
  simp only[bO,jr,kA];rw[LG];by_cases h:k=x.1
  ·rw[if_pos (by simp[h]),if_pos h];rfl
  ·rw[if_neg (by simp[h]),if_neg h,bO,<-a]
def ia{α:Type}(m:List (S×α))(k:S):Option α:=(m.find? λx=>k==x.1).map (·.2)
def vp{f:α->List D}(m:List (S×α))(k:S):(m.map (fQ f)).find? (fa (.str k))=(m.find? λx=>k==x.1).map (fQ f):=by
 induction m with
 |nil=>rfl
 |cons x m a=>
  rw[bO,cB,cB,LG];cases k==x.1 with
  |true=>rfl
  |false=>exact a
def pD{f:α->List D}{m:List (S×α)}:Std.pb (bH (fQ f) m) (.str k)=(ia m k).isSome:=by
 show (m.map (fQ f)).any (fa (.str k))=_;rw[ia,MW];induction m with
 |nil=>rfl
 |cons x m a=>
  rw[bO,kW,cB,LG];cases k==x.1 with
  |true=>rfl
  |false=>rw[FG];exact a
def vG{f:α->List D}{m:List (S×α)}{v:α}(h:ia m k=some v)(j:Nat):Std.fI (bH (fQ f) m) (.str k) j=(f v).getD j .nil:=by
 show (((m.map (fQ f)).find? (fa (.str k))).getD []).getD (j+1) .nil=_;rw[vp];unfold ia at h;cases a:m.find? λx=>k==x.1 with
 |none=>rw[a]at h;cases h
 |some x=>rw[a]at h;cases h;rfl
def ME{f:α->List D}{m:List (S×α)}(h:ia m k=none)(j:Nat):Std.fI (bH (fQ f) m) (.str k) j= .nil:=by
 show (((m.map (fQ f)).find? (fa (.str k))).getD []).getD (j+1) .nil=_;rw[vp];unfold ia at h;cases a:m.find? λx=>k==x.1 with
 |none=>rfl
 |some x=>rw[a]at h;cases h
def pg{m:List (S×α)}{v:α}:ia (kA k v m) s=if s=k then some v else ia m s:=by
 unfold ia;induction m with
 |nil=>
  by_cases h:s=k
  ·subst h;simp[kA]
  ·simp[kA,h]
 |cons x m b=>
  simp only[kA];by_cases hk:k=x.1
  ·rw[if_pos hk];by_cases h:s=k
   ·subst h;simp
   ·rw[if_neg h];have:(s==x.1)=false:=by rw[<- hk];simpa using h
    rw[cB,cB,this];have J:(s==k)=false:=yU h;simp[J]
  ·rw[if_neg hk,cB,cB];cases hs:s==x.1 with
   |true=>have:s=x.1:=yU hs;have a:s≠k:=λe=>hk (e.symm.trans this);simp[a]
   |false=>exact b
def DZ{m:List (S×α)}{v:α}:s∈(kA k v m).map (·.1)↔s=k\/s∈m.map (·.1):=by
 induction m with
 |nil=>simp[kA]
 |cons x m a=>
  simp only[kA];split
  ·rename_i h;simp only[bO,bP,<-h];constructor
   ·rintro(h1|h1);exact .inl h1;exact .inr (.inr h1)
   ·rintro(h1|h1|h1);exact .inl h1;exact .inl h1;exact .inr h1
  ·simp only[bO,bP,a];constructor
   ·rintro(h1|h1|h1);exact .inr (.inl h1);exact .inl h1;exact .inr (.inr h1)
   ·rintro(h1|h1|h1);exact .inr (.inl h1);exact .inl h1;exact .inr (.inr h1)
def sf{m:List (S×α)}{v:α}(h:(m.map (·.1)).Nodup):((kA k v m).map (·.1)).Nodup:=by
 induction m with
 |nil=>simp[kA]
 |cons x m a=>
  rw[bO,cn]at h;simp only[kA];split
  ·rename_i hk;rw[bO,cn];exact⟨by simp only[hk];exact h.1,h.2⟩
  ·rename_i hk;rw[bO,cn,DZ];exact⟨λe=>by rcases e with e|e;exact hk e.symm;exact h.1 e,a h.2⟩
def NC{m:List (S×α)}{v:α}:(kA k v m).length<=m.length+1:=by
 induction m with
 |nil=>simp[kA]
 |cons x m a=>simp only[kA];split<;>simp;omega
def zj{m:List (S×α)}:k∈m.map (·.1)↔(ia m k).isSome=true:=by
 unfold ia;rw[MW];induction m with
 |nil=>simp
 |cons x m a=>
  rw[bO,bP,cB];by_cases h:k=x.1
  ·simp[h]
  ·have:(k==x.1)=false:=yU h;rw[this];simp only[h,false_or];exact a
def ox(i:IF)(n:S):Option TE:=i.types.find? λx=>x.name==n
structure TM (m:List (S×TE)) (i:IF):Prop where
 nd:(m.map (·.1)).Nodup
 get:∀n,ia m n=ox i n
def fu(i:IF)(m n:S):Option S:=match lq [i] m n with
 | .wO _ n' _=>if(ox i n').isSome then some n' else none
 | .val _ n' _=>if(ox i n').isSome then some n' else none
 |_=>none
def Er{i:IF}{p n r0 a:S}{r2:Int}(hr:(r0,a,r2)=(match lq [i] p n with| .nf=>([],[],6)| .loop=>([],[],14)| .wO m' n' _=>(m',n',0)| .val m' n' _=>(m',n',0):S×S×Int)):
 (fu i p n).isSome=(r2==0&&(ox i a).isSome)/\((fu i p n).isSome=true->fu i p n=some a):=by
 unfold fu;generalize lq [i] p n=e at hr;cases e with
 |wO m' n' x=>have hr:(r0,a,r2)=(m',n',0):=hr;cases hr;simp only;cases b:ox i a<;>simp[b]
 |val m' n' x=>have hr:(r0,a,r2)=(m',n',0):=hr;cases hr;simp only;cases b:ox i a<;>simp[b]
 |nf=>have hr:(r0,a,r2)=([],[],6):=hr;cases hr;simp
 |loop=>have hr:(r0,a,r2)=([],[],14):=hr;cases hr;simp
end
end Go.VC
namespace Go.VC.cK
open Go Go.VC Go.Proofs
section
variable {K:PV->List Ob->Prop}
def FC.g3{P:Program}{tt:TypeId->Option TI}{f:FuncId}{objs:List Ob}{a b c:PV}{rest:List PV}(h:FC P tt f objs (.agg [a,b,.undef]::rest) K):FC P tt f objs (.agg [a,b,c]::rest) K:=by
 intro E Pp w vals d e;refine h E Pp w vals d ?_;cases e with
 |cons v _ vs _ h1 J=>
  refine .cons _ _ _ _ ?_ J;cases h1 with
  |agg us _ hl=>
   cases hl with|cons _ _ _ _ ha hl=>cases hl with|cons _ _ _ _ hb hl=>cases hl with|cons _ _ _ _ hc hl=>
   cases hl;exact .agg _ _ (.cons _ _ _ _ ha (.cons _ _ _ _ hb (.cons _ _ _ _ (.undef _) .nil)))
def Q3{i:IF}(t:i.ok){m:List (S×TE)}(q:TM m i){d o:D}(hd:d=bH dC [i])(r:o=bH (fQ gv) m){p n:S}
 (h:∀e b,b=(fu i p n).isSome->(b=true->fu i p n=some e)->K (.tup [.str e,.bool b]) []):
 FT 298 [] [.agg [.lst 51 d,.dmp 45 o,.undef],.str p,.str n] K:=by
 have g:dW [i]:=⟨yS,yU t⟩;refine en (cf 35) Tryz.func298 λA C L X=>?_;have Z:=mI X.a;have a:∀k:S,A.pb o (.str k)=(ox i k).isSome:=λk=>by rw[X.a,r,pD,q.get]
 cbv;refine X.call (V8 hd g λr0 j r2 hr=>?_);obtain⟨c,f⟩:=Er hr;have key:∀b,b=(r2==0&&(ox i j).isSome)->K (.tup [.str j,.bool b]) []:=λb hb=>h _ _ (hb.trans c.symm) (λl=>f (by rw[c,<-hb,l]));clear c f hr h;cbv;repeat' (first|apply bw|exact zf|(intro J;cbv)|apply bG)
 all_goals (refine key _ ?_;have e:=a j;clear a key;simp only[dq,Z]at *;simp_all;done)
end
end Go.VC.cK
namespace Go.VC
open Classical
section
variable {k:S}{l:List S}
def jw(j:Jm):S:=j.1.wr++j.2.wr
def zm{a b:Jm}(h:jw a=jw b):a=b:=by obtain⟨h1,J⟩:=key_inj h;exact dR h1 J
def K9{m:List (S×Bool)}{s:S}(a:(m.map (·.1)).Nodup):ia (vz m k) s=if s=k then none else ia m s:=by
 unfold ia vz;induction m with
 |nil=>simp
 |cons x m b=>
  rw[bO,cn]at a;rw[qN];by_cases hk:k=x.1
  ·rw[beq_iff_eq.2 hk,cond_true];by_cases hs:s=k
   ·rw[if_pos hs];have:m.find? (λy=>s==y.1)=none:=by rw[eV];intro y c e;have e:s=y.1:=yU e;exact a.1 (bT.2 ⟨y,c,by rw[<- e,hs,hk]⟩)
    rw[this];rfl
   ·rw[if_neg hs,cB];have:(s==x.1)=false:=by rw[beq_eq_false_iff_ne];exactλe=>hs (e.trans hk.symm)
    rw[this]
  ·rw[beq_eq_false_iff_ne.2 hk,cond_false,cB,cB];by_cases hs:s=x.1
   ·rw[beq_iff_eq.2 hs];have:¬s=k:=λe=>hk (e.symm.trans hs);rw[if_neg this]
   ·rw[beq_eq_false_iff_ne.2 hs];exact b a.2
def GS{m:List (S×Bool)}(a:(m.map (·.1)).Nodup):((vz m k).map (·.1)).Nodup:=by unfold vz;exact List.Nodup.sublist ((vP).map _) a
def py(m:List (S×Bool))(l:List S):List (S×Bool):=l.foldl vz m
def GR{m:List (S×Bool)}:py m (l++[k])=vz (py m l) k:=by simp[py]
def Ja:∀{m:List (S×Bool)},(m.map (·.1)).Nodup->((py m l).map (·.1)).Nodup/\∀s,ia (py m l) s=if s∈l then none else ia m s:=by
 induction l with
 |nil=>intro m h;exact⟨h,λs=>by simp[py]⟩
 |cons k l a=>intro m h;obtain⟨h1,J⟩:=a (GS (k:=k) h);refine⟨h1,λs=>?_⟩;rw[show py m (k::l)=py (vz m k) l from rfl,J,K9 h];by_cases e:s∈l<;>by_cases e2:s=k<;>simp[e,e2]
structure MK (m:List (S×Bool)) (g b:List Jm):Prop where
 nd:(m.map (·.1)).Nodup
 lk:∀j,ia m (jw j)=if j∈g then some true else if j∈b then some false else none
def MK.nil:MK [] [] []:=⟨yS,λj=>by simp[ia]⟩
def MK.push{m:List (S×Bool)}{g b:List Jm}{j:Jm}(h:MK m g b):MK (kA (jw j) true m) (g++[j]) b:=by
 refine⟨sf h.nd,λx=>?_⟩;rw[pg];by_cases e:x=j
 ·rw[if_pos (by rw[e]),if_pos (by simp[e])]
 ·rw[if_neg (λd=>e (zm d)),h.lk];by_cases a:x∈g
  ·rw[if_pos a,if_pos (by simp[a])]
  ·rw[if_neg a,if_neg (c:=x∈g++[j]) (by simp[a,e])]
def MK.bad{m:List (S×Bool)}{g b:List Jm}{j:Jm}(h:MK m g b)(a:j∉g):MK (kA (jw j) false m) g (b++[j]):=by
 refine⟨sf h.nd,λx=>?_⟩;rw[pg];by_cases e:x=j
 ·rw[if_pos (by rw[e]),if_neg (by rw[e];exact a),if_pos (by simp[e])]
 ·rw[if_neg (λd=>e (zm d)),h.lk];by_cases hb:x∈b
  ·rw[if_pos hb,if_pos (c:=x∈b++[j]) (by simp[hb])]
  ·rw[if_neg hb,if_neg (c:=x∈b++[j]) (by simp[hb,e])]
def MK.del{m:List (S×Bool)}{g x b:List Jm}(h:MK m (g++x) b)(f:(g++x).Nodup)(hd:∀j∈g++x,j∉b):MK (py m (x.map jw)) g b:=by
 obtain⟨h1,J⟩:=Ja (l:=x.map jw) h.nd;refine⟨h1,λj=>?_⟩;rw[J,h.lk];have hk:jw j∈x.map jw↔j∈x:=by rw[bT];exact⟨λ⟨y,n,e⟩=>zm e▸n,λi=>⟨j,i,rfl⟩⟩
 rw[eb]at f;by_cases d:j∈x
 ·rw[if_pos (hk.2 d)];have a:j∉g:=λa=>f.2.2 j a j d rfl;rw[if_neg a,if_neg (hd j (by simp[d]))]
 ·rw[if_neg (λe=>d (hk.1 e))];by_cases a:j∈g
  ·rw[if_pos (c:=j∈g++x) (by simp[a]),if_pos a]
  ·rw[if_neg (c:=j∈g++x) (by simp[a,d]),if_neg a]
end
end Go.VC
namespace Go.Proofs
open Go.Shelf
def Tryz.xf:Go.Shelf.Ren:=⟨fun|169=>66|n=>n,fun|70=>113|9=>9|0=>0|72=>116|37=>114|127=>162|3=>3|5=>5|n=>n,fun|n=>n⟩
def Tryz.N2:Go.Proofs.Lays.n169 Tryz.prog Tryz.xf:=by constructor<;>first|kernel_rfl|(intro w;kernel_rfl)
def Tryz.vK:Builder.Extra Tryz.prog Tryz.xf:={
 sizeBuilder:=by kernel_rfl
 liesBuilder:=by kernel_rfl
 t5:=Tryz.underlying5
 a5:=Tryz.isAgg5
 z5:=Tryz.sizeOf5
 v5:=Tryz.zeroValue5
 infoByte:=by kernel_rfl
 cellsByte:=by kernel_rfl
 sizeByte:=by kernel_rfl
 neB5:=by decide }
def Tryz.xe:Go.Shelf.Ren:=⟨fun|240=>151|276=>201|n=>n,fun|0=>0|4=>4|9=>9|20=>20|70=>113|72=>116|164=>251|37=>114|n=>n,fun|n=>n⟩
def Tryz.H0:Go.Proofs.Lays.n240 Tryz.prog Tryz.xe:=by constructor<;>first|kernel_rfl|(intro w;kernel_rfl)
def Tryz.qB:Builder.X72 Tryz.prog Tryz.xe:={
 sizeBuilder:=by kernel_rfl
 liesBuilder:=by kernel_rfl }
end Go.Proofs
namespace Go.VC.cK
open Go Go.VC Go.Proofs Go.Shelf
section
variable {d:D}{p:PV}{K:PV->List Ob->Prop}
def Tp:∀t ti,tt t=some ti->ti.BL=true->t=116:=by
 intro t ti h hb
 have key:∀l:List (TypeId×TI),(∀x∈l,x.2.BL=true->x.1=116)->∀t ti,xk l t=some ti->ti.BL=true->t=116:=by
  intro l;induction l with
  |nil=>intro _ t ti h;simp[xk]at h
  |cons x r c=>
   obtain⟨k,i⟩:=x;intro a t ti h hb;simp only[xk]at h;cases hk:nb k t with
   |true=>rw[hk]at h;simp only[cond_true,cr]at h;subst h;have b:k=t:=dH hk;rw[<- b];exact a (k,i) yS hb
   |false=>rw[hk]at h;exact c (λy e=>a y (by simp[e])) t ti h hb
 have g:(Iz.all λx=> !x.2.BL||x.1==116)=true:=by kernel_rfl
 exact key Iz (λx a hb=>by simpa[hb]using dk.1 g x a) t ti h hb
def O0(a:p= .nilp\/p= .box 0 0)(h:K (.tup []) [.box [.box 0 0,.row 5 1],.row 5 d true]):
 FT 151 [.box [p,.row 5 1],.row 5 d true] [.box 0 0] K:=
 Db (T:=116) Tp (enters_of Tryz.func151 (by kernel_rfl) rfl) (λb w h0=>Any.Builder_copyCheck_used Tryz.H0 Tryz.qB b w h0)
  (λb w h0 hs hf=>Any.Builder_copyCheck_fresh Tryz.H0 Tryz.qB b w h0 hs hf) a h
def ZE{s:List UInt8}(h0:s≠[])(hl:s.length<=4294967296)(hd:d= .list (dX s))(c:pW p=true)(h:K (.str s) [.dead,.dead]):
 FT 66 [.box [p,.row 5 1],.row 5 d true] [.box 0 0] K:=
 JI (T:=116) (e:=5) Tp (by kernel_rfl) (enters_of Tryz.func66 (by kernel_rfl) rfl) (λb g o cap p cur l w a1 a2 a3 a4 a5 f a=>Hc Tryz.N2 Tryz.vK b g o cap p cur l w a1 a2 a3 a4 a5 f a) h0 hl hd c h
end
def S4:eE:={tt:=tt,n:=19,n0:=2,live:=[151]}
def vI{l:List UInt8}{d:D}{p:PV}(hd:d= .list (dX l))(a:p= .nilp\/p= .box 0 0){s:S}(hs:l.length+s.length<=4294967296){K:PV->List Ob->Prop}
 (h:∀r,r= .list (dX (l++s))->K (.tup [.int .i64 (br s.length),.undef]) [.box [.box 0 0,.row 5 2],.dead,.row 5 r true]):FT 105 [.box [p,.row 5 1],.row 5 d true] [.box 0 0,.str s] K:=by
 refine el S4 Tryz.func105 λA C L X=>?_;have e1:A.app d (A.Nr s)= .list (dX (l++s)):=by rw[X.a,hd];simp[Std,dX,cp]
 have e3:A.fU (A.add (A.len d) (A.len (A.Nr s))) 4294967296:=by obtain rfl:=X.a;subst hd;simp[Std,dX,cp];omega
 have e2:A.dz s=br s.length:=yX;rcases a with rfl|rfl
 ·cbv;refine X.call (O0 (.inl rfl) ?_);cbv;exact⟨e3,by have q:=h _ e1;rw[<- e2]at q;exact q⟩
 ·cbv;refine X.call (O0 (.inr rfl) ?_);cbv;exact⟨e3,by have q:=h _ e1;rw[<- e2]at q;exact q⟩
def S3:eE:={tt:=tt,n:=17,n0:=2,live:=[151]}
def O1{l:List UInt8}{d:D}{p:PV}(hd:d= .list (dX l))(b:p= .nilp\/p= .box 0 0){c:UInt8}(hs:l.length+1<=4294967296){K:PV->List Ob->Prop}
 (h:∀r,r= .list (dX (l++[c]))->K .undef [.box [.box 0 0,.row 5 2],.dead,.row 5 r true]):FT 107 [.box [p,.row 5 1],.row 5 d true] [.box 0 0,.int .u8 (c.toNat:Int)] K:=by
 refine el S3 Tryz.func107 λA C L X=>?_;obtain⟨x,a⟩:∃x,x=(c.toNat:Int):=⟨_,rfl⟩;rw[<- a];have e1:A.app d (A.lit [[.int x]])= .list (dX (l++[c])):=by rw[X.a,hd,a];simp[Std,dX,cp]
 have e3:A.fU (A.add (A.len d) (A.len (A.lit [[.int x]]))) 4294967296:=by obtain rfl:=X.a;subst hd;simp[Std,dX,cp];omega
 clear a;rcases b with rfl|rfl
 ·cbv;refine X.call (O0 (.inl rfl) ?_);cbv;exact⟨e3,by have q:=h _ e1;exact q⟩
 ·cbv;refine X.call (O0 (.inr rfl) ?_);cbv;exact⟨e3,by have q:=h _ e1;exact q⟩
end Go.VC.cK
