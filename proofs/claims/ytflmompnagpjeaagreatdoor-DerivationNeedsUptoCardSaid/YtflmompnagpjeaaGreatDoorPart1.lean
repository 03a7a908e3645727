/- Part 1 of the common texts. -/
import Derived.Calls
import Derived.Orders
import Derived.Laws.Sem
import Derived.Laws.World
import Derived.Laws.Entries
import Derived.Laws.Cells
import GoSem.Claims
import Derived.Laws.Strings
import Derived.Lib.SliceRun
import Derived.Laws.BytesString
import Derived.Laws.Tables
import Derived.Below
import Derived.Laws.CopyRow
import Derived.Laws.AppendOwn
set_option linter.all false
set_option maxRecDepth 100000
set_option maxHeartbeats 16000000
open Array renaming ext→PG,ext'→fL,foldl_toList→vF,getElem?_eq_none→cC,getElem?_setIfInBounds_ne→cE,getElem?_setIfInBounds_self_of_lt→cN,getElem?_toList→fW,length_toList→ey,mapM_eq_mapM_toList→oT,size→Nr,toList_zipIdx→JX
open Bool renaming and_eq_true→bw,false_and→n9,false_eq_true→cv,not_not→Ik,or_eq_false_iff→JW,or_eq_true→fU,true_and→ka
open ByteArray renaming data_extract→Cx
open Int renaming natCast_nonneg→dS,ofNat→bk,toNat_natCast→ej,toNat_of_nonneg→nJ
open Int.ofNat renaming inj→zV
open List renaming drop_eq_getElem_cons→bF,extract_eq_take_drop→EV,flatMap_cons→fP,foldl_cons→fB,getD→cc,getD_eq_getElem?_getD→fN,getElem?_append_left→bS,getElem?_cons_succ→kK,getElem?_drop→eM,getElem?_eq_getElem→bx,getElem?_eq_none→ca,getElem?_map→cu,getElem?_set→PB,getElem?_set_ne→bU,getElem?_take→n5,getElem?_take_of_lt→cK,length_map→bL,length_singleton→dJ,length_take→cJ,mapM_cons→CD,map_cons→bJ,map_map→ia,mem_append→bG,mem_cons→bN,mem_cons_of_mem→jC,mem_of_getElem?→fi,nodup_cons→cw,nodup_nil→n2,range→fb,replicate→eT
open Nat renaming add_assoc→eY,add_mul→c9,add_zero→iq,le_refl→cg,le_succ→pQ,le_trans→bQ,lt_or_ge→bV,lt_trichotomy→zv,mul_le_mul_right→cW,mul_one→pP,zero_add→dW
open Ne renaming symm→dy
open Option renaming bind_eq_some_iff→kG,bind_some→iy,getD_some→eR,isSome_none→nH,map_none→zw,map_some→cr
open Option.some renaming injEq→cz
open Prod.mk renaming injEq→gb
open SizeOf renaming sizeOf→oV
open UInt8 renaming ofNat→iN
namespace Go.VC
section
variable {p q:Prop}
def yO(h:p:=by omega):p:=h
def yD(h:p:=by decide):p:=h
def yS(h:p:=by simp):p:=h
def yA(h:p:=by assumption):p:=h
def yP(h:p:=by simp only;omega):p:=h
def yQ(h:p:=by simp;omega):p:=h
def yL(h:p:=by simp only[List.length_append,Int.ofNat_eq_natCast];omega):p:=h
def yK(h:p:=by decide +kernel):p:=h
def yC(c:q)(h:q->p:=by intro h;cases h):p:=h c
def yE(c:q)(h:q->p:=by intro h;simp at h):p:=h c
def yU(c:q)(h:q->p:=by intro h;simpa using h):p:=h c
def yB{a b c:Bool}(e:a=b)(h:a=c)(n:b≠c:=by decide):p:=absurd (e.symm.trans h) n
end
section
def nb(a b:Nat):Bool:=decide (a=b)
def ir(a b:Nat):Bool:=decide (a<=b)
abbrev gZ(a b:Nat):Bool:=ir (a+1) b
def cR{a b:Nat}(h:nb a b=true):a=b:=of_decide_eq_true h
@[simp] theorem jq(a:Nat):nb a a=true:=decide_eq_true rfl
@[simp] theorem P3{a b:Nat}:(nb a b=true)=(a=b):=propext ⟨cR,λh=>decide_eq_true h⟩
def dK{a b:Nat}(h:ir a b=true):a<=b:=of_decide_eq_true h
inductive D where
 |int (n:Int)|bool (b:Bool)|str (s:List UInt8)|list (rows:List (List D))|nil|ptr (cs:List D)
 deriving Inhabited
inductive CK where
 |int (k:IntKind)|bool|str|slice (e:TypeId)|ptr (t:TypeId)|map (t e:TypeId)|fn|ic
 deriving DecidableEq,Inhabited
structure TI where
 agg:Bool
 bT:List CK
 fs:List (Nat×TypeId)
 el:TypeId
 ar:Nat
 bytes:Nat
 yW:Bool:=false
 TF:Option Nat:=none
 TC:List (Nat×IntKind×List Int):=[]
 O0:Bool:=false
 deriving Inhabited
inductive PV where
 |undef
 |int (k:IntKind) (n:Int)
 |bl (b:Bool)
 |bool (b:Bool)
 |str (s:List UInt8)
 |lst (e:TypeId) (d:D)
 |nx (e:TypeId) (d:D)
 |agg (cs:List PV)
 |tup (vs:List PV)
 |box (b off:Nat)
 |row (e:TypeId) (r:Nat)
 |fH (e:TypeId) (r:Nat) (i:Int) (off:Nat)
 |js (e:TypeId) (d:D) (i:Int) (off:Nat)
 |cP (cs:List PV) (off:Nat)
 |dptr (t:TypeId) (d:D)
 |rK (t:TypeId) (d:D) (off:Nat)
 |cy (f:FuncId) (ma:List PV)
 |nilp|nilm|nilf|lf
 |mp (m:Nat)
 |dmp (e:TypeId) (d:D)
 |it (i:Nat)
 |j9 (i:Nat)
 deriving Inhabited
abbrev cU:=List (Nat×PV)
def look:cU->Nat->PV
 |[],_=>.undef
 |(k,v)::r,n=>(match nb k n with|true=>(v)|false=>(look r n))
def iK(k:Nat)(v:PV)(r:cU)(n:Nat):look ((k,v)::r) n=if k=n then v else look r n:=by
 simp only[look];cases h:nb k n with
 |true=>rw[if_pos (cR h)]
 |false=>rw[if_neg (λe=>by rw[<- P3,h]at e;cases e)]
inductive LS where
 |ready|busy|done (c:Code)
inductive Ob where
 |box (cs:List PV)
 |row (e:TypeId) (d:D) (wr:Bool)
 |map (kc:CK) (e:TypeId) (d:D)
 |iter (m:Nat) (seen:D)
 |diter (e:TypeId) (d seen:D)
 |loop (n:Nat) (ps:List Nat) (assign body:Code) (s:cU) (j:LS)
 |dead
 deriving Inhabited
inductive RI where
 |box (b:Nat)|row0|row (g o len cap:Nat)|map (b:Nat) (borns:List Nat) (clock:Nat)|iter (b:Nat)|loop (b:Nat)
 deriving Inhabited
def RI.cZ :RI->Option Nat
 | .box b| .row b _ _ _| .map b _ _| .iter b| .loop b=>some b
 | .row0=>none
def Ob.live:Ob->Bool
 | .dead=>false
 |_=>true
def zeroV:CK->Value
 | .int k=>.int k 0
 | .bool=>.bool false
 | .str=>.string ⟨#[]⟩
 | .slice _=>.slice none 0 0
 | .ptr _=>.pointer none
 | .map _ _=>.map none
 | .fn=>.nilFunc
 | .ic=>.nilFunc
def gL:CK->PV
 | .int k=>.int k 0
 | .bool=>.bl false
 | .str=>.str []
 | .slice e=>.lst e (.list [])
 | .ptr _=>.nilp
 | .map _ _=>.nilm
 | .fn=>.nilf
 | .ic=>.undef
def SJ:Value->Value->Bool
 | .int _ a,.int _ b=>a==b
 | .bool a,.bool b=>a==b
 | .string a,.string b=>a.data.toList==b.data.toList
 |_,_=>false
def isScalar:CK->Value->Prop
 | .int k,v=>∃n,v= .int k n
 | .bool,v=>∃b,v= .bool b
 | .str,v=>∃s,v= .string s
 |_,_=>False
def uQ:List Value->List Value->Bool
 |[],[]=>true
 |a::x,b::y=>bif SJ a b then uQ x y else false
 |_,_=>false
def ES(P:Program)(t:TypeId)(bT:List CK):Prop:=
 ∀(op:BinOp)(x y:Operand)(us vs:List Value)(w:World),(op= .eql\/op= .neq)->us.length=bT.length->vs.length=bT.length->
  (∀(j:Nat) c u,bT[j]? =some c->us[j]? =some u->isScalar c u)->(∀(j:Nat) c u,bT[j]? =some c->vs[j]? =some u->isScalar c u)->
  (do eqGuard op t x y (.agg ⟨us⟩) (.agg ⟨vs⟩);binOp op t (.agg ⟨us⟩) (.agg ⟨vs⟩):Sem Value).run P w= .ok (.bool (if op= .eql then uQ us vs else !uQ us vs)) w
def KeyLaw(P:Program)(t:TypeId)(bT:List CK):Prop:=
 (∃fs,P.underlying t=some (.struct fs))/\∀(us vs:List Value)(w:World),us.length=bT.length->vs.length=bT.length->
   (∀(j:Nat) c u,bT[j]? =some c->us[j]? =some u->isScalar c u)->(∀(j:Nat) c u,bT[j]? =some c->vs[j]? =some u->isScalar c u)->
   (Op.equal t (.agg ⟨us⟩) (.agg ⟨vs⟩)).run P w= .ok (uQ us vs) w/\∀b,(Instr.checkKey b 10000 t (.agg ⟨us⟩)).run P w= .ok () w
structure jl (P:Program) (t:TypeId) (ti:TI):Prop where
 info:∃(i:TypeInfo) (z:Value) (d:TypeDesc),P.info? t=some i/\i.size=ti.bT.length/\i.bytes=ti.bytes/\i.zero=some z/\z.cells.toList=ti.bT.map zeroV/\
  ((ti.agg=true->∃cs,z= .agg cs)/\(ti.agg=false->z.cells= #[z]))/\P.underlying t=some d/\
  (match d with
   | .struct fields=>ti.agg=true/\(∀f:Nat,(fields[f]?).map (λ(x:Go.Field)=>(x.offset,x.type))=ti.fs[f]?)/\(∃pl,fields.toList.mapM (λ(f:Go.Field)=>(P.info? f.type).map λi=>(f.offset,i.size))=some pl)
   | .array n e=>ti.agg=true/\ti.ar=n+1/\ti.el=e/\ti.fs=[]
   | .slice e=>ti.agg=false/\ti.bT=[.slice e]/\ti.el=e/\ti.fs=[]
   | .int k=>ti.agg=false/\ti.bT=[.int k]/\ti.fs=[]
   | .bool=>ti.agg=false/\ti.bT=[.bool]/\ti.fs=[]
   | .string=>ti.agg=false/\ti.bT=[.str]/\ti.fs=[]
   | .pointer e=>ti.agg=false/\ti.bT=[.ptr e]/\ti.fs=[]
   | .map k e=>ti.agg=false/\ti.bT=[.map t e]/\ti.ar=k+1/\ti.el=e/\ti.fs=[]
   | .func _ _ _=>ti.agg=false/\ti.bT=[.fn]/\ti.fs=[]
   |_=>False)
 eqs:ti.yW=true->ti.agg=true/\ES P t ti.bT/\KeyLaw P t ti.bT
 arr:ti.agg=true->ti.ar≠0->∃n e,P.underlying t=some (.array n e)
def ec(P:Program)(tt:TypeId->Option TI):Prop:=∀t ti,tt t=some ti->jl P t ti
def bR(tt:TypeId->Option TI)(t:TypeId):List CK:=match tt t with|some ti=>ti.bT|none=>[]
abbrev fE:=Addr->Value->Prop
def OS(x:MapEntry):Value:=.agg #[x.key,x.val,.int .i64 x.born]
def Em(es:Array MapEntry)(clock:Nat):Value:=.agg #[.int .i64 clock,.tuple (es.map OS)]
def L4{x y:MapEntry}(h:OS x=OS y):x=y:=by cases x;cases y;simp[OS]at h;obtain⟨h1,h2,h3⟩:=h;have h3:_:=zV h3;subst h1 h2 h3;rfl
def L3{es b:Array MapEntry}{c d:Nat}(h:Em es c=Em b d):es=b/\c=d:=by
 simp[Em]at h;obtain⟨h1,h2⟩:=h;refine⟨?_,zV h1⟩;apply PG
 ·have:=congrArg Nr h2;simpa using this
 ·intro i f e;have:=congrArg (λa:Array Value=>a[i]?) h2;simp[f,e]at this;exact L4 this
def pc(w:World)(ad:Addr):Option Value:=match w.heap[ad.block]? with
 |some (.cells c _ _)=>if ad.spot=some 1 then some (.int .i64 c.size)else if ad.spot.isSome then none else c[ad.off]?
 |some (.map es clock)=>if ad.spot=some 0 then some (Em es clock)else none
 |_=>none
def gF{w w':World}{ad:Addr}(h:w'.heap[ad.block]? =w.heap[ad.block]?):pc w' ad=pc w ad:=by unfold pc;rw[h]
def pd{w:World}{b o:Nat}:pc w ⟨b,o,none⟩=w.cell? ⟨b,o,none⟩:=by
 unfold pc World.cell?;cases w.heap[b]? with
 |none=>rfl
 |some x=>cases x<;>simp
def gm{w:World}{ad:Addr}{v:Value}(h:w.cell? ad=some v):pc w ad=some v:=by
 unfold pc;unfold World.cell? at h;cases a:w.heap[ad.block]? with
 |none=>rw[a]at h;simp at h
 |some x=>rw[a]at h;cases x<;>simp_all
def xY{w:World}{ad:Addr}{v:Value}(h:pc w ad=some v):ad.block<w.heap.size:=by
 rcases bV ad.block w.heap.size with a|a
 ·exact a
 ·unfold pc at h;rw[cC a]at h;simp at h
def KV{w:World}{ad:Addr}{v:Value}{c:Array Value}{T:TypeId}{f:Nat×Nat}(h:pc w ad=some v)(hc:w.heap[ad.block]? =some (.cells c T f))(hs:ad.spot≠some 1):w.cell? ad=some v:=by unfold pc at h;unfold World.cell?;rw[hc]at h ⊢;simp only[if_neg hs]at h;exact h
def Oa{w w':World}{ad:Addr}{v:Value}{c b:Array Value}{T d:TypeId}{f f':Nat×Nat}(h:pc w ad=some v)(hc:w.heap[ad.block]? =some (.cells c T f))(a:w'.heap[ad.block]? =some (.cells b d f'))(he:b.size=c.size)(hs:ad.spot=some 1):pc w' ad=some v:=by unfold pc at h ⊢;rw[hc]at h;rw[a];simp only[if_pos hs]at h ⊢;rw[he];exact h
inductive RD (tt:TypeId->Option TI) (Pp:fE):CK->Value->D->Prop
 |int (k n):RD tt Pp (.int k) (.int k n) (.int n)
 |bool (b):RD tt Pp .bool (.bool b) (.bool b)
 |str (b:ByteArray):RD tt Pp .str (.string b) (.str b.data.toList)
 |slnil (e):RD tt Pp (.slice e) (.slice none 0 0) (.list [])
 |EY (e) (ad:Addr):RD tt Pp (.slice e) (.slice (some ad) 0 0) (.list [])
 |sl (e:TypeId) (b o len cap:Nat) (rows:List (List D)) (vf:Nat->Nat->Value) (hl:rows.length=len) (hc:len<=cap)
  (dG:∀(i:Nat)(row:List D),rows[i]? =some row->row.length=(bR tt e).length)
  (gR:∀i j,i<len->j<(bR tt e).length->Pp ⟨b,o+i*(bR tt e).length+j,none⟩ (vf i j))
  (gV:∀(i j:Nat)(row:List D)(d:D)(ck:CK),rows[i]? =some row->row[j]? =some d->(bR tt e)[j]? =some ck->RD tt Pp ck (vf i j) d):
  RD tt Pp (.slice e) (.slice (some ⟨b,o,none⟩) len cap) (.list rows)
 |zG (t):RD tt Pp (.ptr t) (.pointer none) .nil
 |BT (t e):RD tt Pp (.map t e) (.map none) .nil
 |I3 (t e:TypeId) (b:Nat) (es:Array MapEntry) (clock:Nat) (rows:List (List D)) (hl:es.toList.length=rows.length)
  (gR:Pp ⟨b,0,some 0⟩ (Em es clock))
  (hk:∀(i:Nat)(x:MapEntry)(row:List D),es.toList[i]? =some x->rows[i]? =some row->∃(s:ByteArray) (vd:List D),x.key= .string s/\row= .str s.data.toList::vd/\vd.length=(bR tt e).length/\
    x.val.cells.toList.length=vd.length/\(∀ti,tt e=some ti->(ti.agg=true->∃cs,x.val= .agg cs)/\(ti.agg=false->x.val.cells= #[x.val])))
  (fR:(es.toList.map (·.born)).Nodup) (c8:∀x,x∈es.toList.map (·.born)->x<clock)
  (gV:∀(i j:Nat)(x:MapEntry)(row:List D)(d:D)(ck:CK)(v:Value),es.toList[i]? =some x->rows[i]? =some row->row[j+1]? =some d->(bR tt e)[j]? =some ck->x.val.cells.toList[j]? =some v->RD tt Pp ck v d):
  RD tt Pp (.map t e) (.map (some b)) (.list rows)
 |LQ:RD tt Pp .fn .nilFunc .nil
 |OC:RD tt Pp .ic .nilFunc .nil
 |ptr (t:TypeId) (b o:Nat) (cs:List D) (vf:Nat->Value) (hl:cs.length=(bR tt t).length)
  (gR:∀j,j<(bR tt t).length->Pp ⟨b,o+j,none⟩ (vf j))
  (gV:∀(j:Nat)(d:D)(ck:CK),cs[j]? =some d->(bR tt t)[j]? =some ck->RD tt Pp ck (vf j) d):
  RD tt Pp (.ptr t) (.pointer (some ⟨b,o,none⟩)) (.ptr cs)
def RD.mono{tt:TypeId->Option TI}{Pp Pp':fE}(h:∀a v,Pp a v->Pp' a v){ck:CK}{v:Value}{d:D}(hr:RD tt Pp ck v d):RD tt Pp' ck v d:=by
 induction hr with
 |int k n=>exact .int k n
 |bool b=>exact .bool b
 |str b=>exact .str b
 |slnil e=>exact .slnil e
 |EY e ad=>exact .EY e ad
 |sl e b o len cap rows vf hl hc dG gR _ c=>exact .sl e b o len cap rows vf hl hc dG (λi j a b=>h _ _ (gR i j a b)) c
 |zG t=>exact .zG t
 |BT t e=>exact .BT t e
 |I3 t e b es clock rows hl gR hk fR c8 _ c=>exact .I3 t e b es clock rows hl (h _ _ gR) hk fR c8 c
 |LQ=>exact .LQ
 |OC=>exact .OC
 |ptr t b o cs vf hl gR _ c=>exact .ptr t b o cs vf hl (λj a=>h _ _ (gR j a)) c
abbrev kz:Nat:=1000000
abbrev dB:Nat:=1000003
def mS(v:Value)(f:Nat)(vs:List Value):Prop:=(f<kz->v= .func (.func f) #[] ⟨vs⟩)/\(kz<=f->v= .func (.func (f-kz)) ⟨vs⟩ #[])
def qp(v:Value)(b o off n:Nat):Prop:=(off≠dB->v= .pointer (some ⟨b,o+off,none⟩))/\(off=dB->v= .slice (some ⟨b,o,none⟩) n n)
def Ev(v:Value)(b off:Nat):Prop:=(off<=dB->v= .pointer (some ⟨b,off,none⟩))/\(∀n,off=dB+1+n->v= .slice (some ⟨b,0,none⟩) n n)
def xD(u:Value)(S:Nat)(i:Int)(off g o len cap:Nat):Prop:=
 (off≠dB->u= .pointer (some ⟨g,o+i.toNat*S+off,none⟩)/\i<len)/\
 (off=dB->(∃a,u= .slice (some ⟨g,a,none⟩) (len-i.toNat) (cap-i.toNat)/\(a=o+i.toNat*S\/len=i.toNat))/\i<=len)
section
variable (tt:TypeId->Option TI) (E:List RI) (Pp:fE)
mutual
inductive VR:Value->PV->Prop
 |undef (v):VR v .undef
 |int (k n):VR (.int k n) (.int k n)
 |bl (b):VR (.bool b) (.bl b)
 |bool (b):VR (.bool b) (.bool b)
 |str (b:ByteArray):VR (.string b) (.str b.data.toList)
 |lst (e v d) (h:RD tt Pp (.slice e) v d):VR v (.lst e d)
 |nx (e a n d) (h:RD tt Pp (.slice e) (.slice a n n) d):VR (.slice a n n) (.nx e d)
 |agg (vs cs) (h:eJ vs cs):VR (.agg ⟨vs⟩) (.agg cs)
 |tup (vs cs) (h:eJ vs cs):VR (.tuple ⟨vs⟩) (.tup cs)
 |box (u b off gv) (h:E[b]? =some (.box gv)) (hu:Ev u gv off):VR u (.box b off)
 |row0 (e r) (h:E[r]? =some .row0):VR (.slice none 0 0) (.row e r)
 |row (e r g o len cap) (h:E[r]? =some (.row g o len cap)):VR (.slice (some ⟨g,o,none⟩) len cap) (.row e r)
 |fH (u:Value) (e:TypeId) (r:Nat) (i:Int) (off g o len cap:Nat) (h:E[r]? =some (.row g o len cap)) (h0:0<=i) (h1:xD u (bR tt e).length i off g o len cap):
  VR u (.fH e r i off)
 |js (e:TypeId) (d:D) (i:Int) (off b o len cap:Nat) (h:RD tt Pp (.slice e) (.slice (some ⟨b,o,none⟩) len cap) d) (h0:0<=i) (h1:i<len):
  VR (.pointer (some ⟨b,o+i.toNat*(bR tt e).length+off,none⟩)) (.js e d i off)
 |cP (u vs cs off b o) (hu:qp u b o off vs.length) (h:eJ vs cs) (gR:∀(j:Nat) v,vs[j]? =some v->Pp ⟨b,o+j,none⟩ v):VR u (.cP cs off)
 |dptr (t v d) (h:RD tt Pp (.ptr t) v d):VR v (.dptr t d)
 |rK (t d off b o) (h:RD tt Pp (.ptr t) (.pointer (some ⟨b,o,none⟩)) d):VR (.pointer (some ⟨b,o+off,none⟩)) (.rK t d off)
 |cy (u f vs cs) (hu:mS u f vs) (h:eJ vs cs):VR u (.cy f cs)
 |nilp:VR (.pointer none) .nilp
 |nilm:VR (.map none) .nilm
 |lf:VR (.slice none 0 0) .lf
 |nilf:VR .nilFunc .nilf
 |mp (m b bs cl) (h:E[m]? =some (.map b bs cl)):VR (.map (some b)) (.mp m)
 |dmp (t e v d) (h:RD tt Pp (.map t e) v d):VR v (.dmp e d)
 |it (i b) (h:E[i]? =some (.iter b)):VR (.pointer (some ⟨b,0,none⟩)) (.it i)
 |j9 (i b) (h:E[i]? =some (.loop b)):VR (.func (.yield b) #[] #[]) (.j9 i)
inductive eJ:List Value->List PV->Prop
 |nil:eJ [] []
 |cons (v p vs ps) (h:VR v p) (t:eJ vs ps):eJ (v::vs) (p::ps)
end
end
variable {E':List RI}{Pp':fE}{S:Nat}
def mS.fn{v:Value}{f:Nat}{vs:List Value}(h:mS v f vs):∃g a c,v= .func g a c:=by
 rcases bV f kz with hb|hb
 ·exact⟨_,_,_,h.1 hb⟩
 ·exact⟨_,_,_,h.2 hb⟩
def mS.mk{f:Nat}{vs:List Value}(h:gZ f kz=true):mS (.func (.func f) #[] ⟨vs⟩) f vs:=⟨λ_=>rfl,λa=>by have:=dK h;omega⟩
def mS.get{v:Value}{f:Nat}{vs:List Value}(h:mS v f vs)(hf:gZ f kz=true):v= .func (.func f) #[] ⟨vs⟩:=h.1 (dK hf)
def mS.gh{f:Nat}{vs:List Value}:mS (.func (.func f) ⟨vs⟩ #[]) (f+kz) vs:=⟨λa=>yO,λ_=>yS⟩
def mS.WQ{v:Value}{f:Nat}{vs:List Value}(h:mS v f vs)(hf:gZ f kz=false):v= .func (.func (f-kz)) ⟨vs⟩ #[]:=h.2 (by
 rcases bV f kz with a|a
 ·have:gZ f kz=true:=decide_eq_true a;rw[this]at hf;cases hf
 ·exact a)
def Ev.mk{b off:Nat}(h:ir off dB=true):Ev (.pointer (some ⟨b,off,none⟩)) b off:=⟨λ_=>rfl,λn a=>by have:=dK h;omega⟩
def Ev.get{v:Value}{b off:Nat}(h:Ev v b off)(hf:ir off dB=true):v= .pointer (some ⟨b,off,none⟩):=h.1 (dK hf)
def Ev.slc{b n:Nat}:Ev (.slice (some ⟨b,0,none⟩) n n) b (dB+1+n):=⟨λa=>yO,λm a=>by rw[show m=n by omega]⟩
def xD.mk{g o i' off len cap:Nat}{i:Int}(a:i'=i.toNat)(h:nb off dB=false)(h1:i<len):xD (.pointer (some ⟨g,o+i'*S+off,none⟩)) S i off g o len cap:=⟨λ_=>⟨by rw[a],h1⟩,λb=>by rw[b,jq]at h;cases h⟩
def xD.get{u:Value}{g o off len cap:Nat}{i:Int}(h:xD u S i off g o len cap)(hf:nb off dB=false):u= .pointer (some ⟨g,o+i.toNat*S+off,none⟩)/\i<len:=h.1 (λa=>by rw[a,jq]at hf;cases hf)
def xD.Jh{u:Value}{g o len cap:Nat}{i:Int}(h:xD u S i dB g o len cap):(∃a,u= .slice (some ⟨g,a,none⟩) (len-i.toNat) (cap-i.toNat)/\(a=o+i.toNat*S\/len=i.toNat))/\i<=len:=h.2 rfl
def qp.mk{b o off n:Nat}(h:nb off dB=false):qp (.pointer (some ⟨b,o+off,none⟩)) b o off n:=⟨λ_=>rfl,λa=>by rw[a,jq]at h;cases h⟩
def qp.get{v:Value}{b o off n:Nat}(h:qp v b o off n)(hf:nb off dB=false):v= .pointer (some ⟨b,o+off,none⟩):=h.1 (λa=>by rw[a,jq]at hf;cases hf)
def qp.Jh{v:Value}{b o n:Nat}(h:qp v b o dB n):v= .slice (some ⟨b,o,none⟩) n n:=h.2 rfl
def eJ.length {tt E Pp vs ps} (h:eJ tt E Pp vs ps):vs.length=ps.length:=by
 induction vs generalizing ps with
 |nil=>cases h;rfl
 |cons v vs a=>cases h with|cons _ _ _ _ _ t=>simp[a t]
def eJ.get {tt E Pp vs ps} (h:eJ tt E Pp vs ps) {j:Nat}{p:PV} (a:ps[j]? =some p):∃v,vs[j]? =some v/\VR tt E Pp v p:=by
 induction vs generalizing ps j with
 |nil=>cases h;simp at a
 |cons v vs c=>
  cases h with
  |cons _ q _ d b t=>
   cases j with
   |zero=>simp at a;subst a;exact⟨v,rfl,b⟩
   |succ j=>simp at a;simpa using c t a
def eJ.append {tt E Pp vs ps us a} (h:eJ tt E Pp vs ps) (k:eJ tt E Pp us a):eJ tt E Pp (vs++us) (ps++a):=by
 induction vs generalizing ps with
 |nil=>cases h;simpa
 |cons v vs b=>cases h with|cons _ _ _ _ c t=>exact .cons _ _ _ _ c (b t)
def eJ.drop {tt E Pp vs ps} (h:eJ tt E Pp vs ps) (n:Nat):eJ tt E Pp (vs.drop n) (ps.drop n):=by
 induction n generalizing vs ps with
 |zero=>simpa
 |succ n a=>cases h with
  |nil=>exact .nil
  |cons _ _ _ _ _ t=>simpa using a t
def eJ.take {tt E Pp vs ps} (h:eJ tt E Pp vs ps) (n:Nat):eJ tt E Pp (vs.take n) (ps.take n):=by
 induction n generalizing vs ps with
 |zero=>simp;exact .nil
 |succ n a=>cases h with
  |nil=>exact .nil
  |cons _ _ _ _ b t=>simpa using .cons _ _ _ _ b (a t)
def eJ.mG {tt E Pp}:∀{vs:List Value}{ps:List PV},vs.length=ps.length->(∀(j:Nat) v p,vs[j]? =some v->ps[j]? =some p->VR tt E Pp v p)->eJ tt E Pp vs ps
 |[],[],_,_=>.nil
 |v::vs,p::ps,hl,h=>.cons _ _ _ _ (h 0 v p rfl rfl) (eJ.mG (yU hl) (λj v p a b=>h (j+1) v p (yU a) (yU b)))
 |[],_::_,hl,_=>yE hl
 |_::_,[],hl,_=>yE hl
def oR(E E':List RI):Prop:=∀(i:Nat) x,E[i]? =some x->E'[i]? =some x\/∃b n c n' a,x= .map b n c/\E'[i]? =some (.map b n' a)
def oR.of{E:List RI}(h:∀(i:Nat) x,E[i]? =some x->E'[i]? =some x):oR E E':=λi x a=>.inl (h i x a)
def oR.refl(E:List RI):oR E E:=.of λ_ _ h=>h
def oR.trans{E E2:List RI}(h:oR E E')(k:oR E' E2):oR E E2:=by
 intro i x a;rcases h i x a with h1|⟨b,n,c,n',d,rfl,h1⟩
 ·exact k i x h1
 ·rcases k i _ h1 with h2|⟨b2,f,c2,n3,c3,e,h2⟩
  ·exact .inr ⟨b,n,c,n',d,rfl,h2⟩
  ·cases e;exact .inr ⟨b,n,c,n3,c3,rfl,h2⟩
def oR.box{E:List RI}(h:oR E E'){i b:Nat}(a:E[i]? =some (.box b)):E'[i]? =some (.box b):=by
 rcases h i _ a with h|⟨_,_,_,_,_,h,_⟩
 ·exact h
 ·cases h
def oR.row0{E:List RI}(h:oR E E'){i:Nat}(a:E[i]? =some .row0):E'[i]? =some .row0:=by
 rcases h i _ a with h|⟨_,_,_,_,_,h,_⟩
 ·exact h
 ·cases h
def oR.row{E:List RI}(h:oR E E'){i g o l c:Nat}(a:E[i]? =some (.row g o l c)):E'[i]? =some (.row g o l c):=by
 rcases h i _ a with h|⟨_,_,_,_,_,h,_⟩
 ·exact h
 ·cases h
def oR.iter{E:List RI}(h:oR E E'){i b:Nat}(a:E[i]? =some (.iter b)):E'[i]? =some (.iter b):=by
 rcases h i _ a with h|⟨_,_,_,_,_,h,_⟩
 ·exact h
 ·cases h
def oR.loop{E:List RI}(h:oR E E'){i b:Nat}(a:E[i]? =some (.loop b)):E'[i]? =some (.loop b):=by
 rcases h i _ a with h|⟨_,_,_,_,_,h,_⟩
 ·exact h
 ·cases h
def oR.map{E:List RI}(h:oR E E'){i b:Nat}{n:List Nat}{c:Nat}(a:E[i]? =some (.map b n c)):∃n' e,E'[i]? =some (.map b n' e):=by
 rcases h i _ a with h|⟨_,_,_,_,_,h,d⟩
 ·exact⟨_,_,h⟩
 ·cases h;exact⟨_,_,d⟩
def VR.fQ{tt:TypeId->Option TI}{E:List RI}{Pp:fE}(d:oR E E')(h:∀a v,Pp a v->Pp' a v):
 (∀{v p},VR tt E Pp v p->VR tt E' Pp' v p)/\(∀{vs ps},eJ tt E Pp vs ps->eJ tt E' Pp' vs ps):=by
 have key:∀n:Nat,(∀{v:Value}{p:PV},oV p<=n->VR tt E Pp v p->VR tt E' Pp' v p)/\(∀{vs:List Value}{ps:List PV},oV ps<=n->eJ tt E Pp vs ps->eJ tt E' Pp' vs ps):=by
  intro n;induction n with
  |zero=>
   refine⟨λ{v p} hs _=>?_,λ{vs ps} hs _=>?_⟩
   ·cases p<;>simp at hs<;>omega
   ·cases ps<;>simp at hs<;>omega
  |succ n e=>
   refine⟨λ{v p} hs c=>?_,λ{vs ps} hs c=>?_⟩
   ·cases c with
    |undef=>exact .undef _
    |int=>exact .int _ _
    |bl=>exact .bl _
    |bool=>exact .bool _
    |str=>exact .str _
    |lst _ _ _ hr=>exact .lst _ _ _ (hr.mono h)
    |nx _ _ _ _ hr=>exact .nx _ _ _ _ (hr.mono h)
    |agg vs cs hl=>simp at hs;exact .agg _ _ (e.2 yO hl)
    |tup vs cs hl=>simp at hs;exact .tup _ _ (e.2 yO hl)
    |box _ _ _ _ hb hu=>exact .box _ _ _ _ (d.box hb) hu
    |row0 _ _ hb=>exact .row0 _ _ (d.row0 hb)
    |row _ _ _ _ _ _ hb=>exact .row _ _ _ _ _ _ (d.row hb)
    |fH _ _ _ _ _ _ _ _ _ hb h0 h1=>exact .fH _ _ _ _ _ _ _ _ _ (d.row hb) h0 h1
    |js _ _ _ _ _ _ _ _ hr h0 h1=>exact .js _ _ _ _ _ _ _ _ (hr.mono h) h0 h1
    |cP u vs cs off b o hu hl gR=>simp at hs;exact .cP _ _ _ _ _ _ hu (e.2 yO hl) (λj v i=>h _ _ (gR j v i))
    |dptr _ _ _ hr=>exact .dptr _ _ _ (hr.mono h)
    |rK _ _ _ _ _ hr=>exact .rK _ _ _ _ _ (hr.mono h)
    |cy u f vs cs hu hl=>simp at hs;exact .cy _ _ _ _ hu (e.2 yO hl)
    |nilp=>exact .nilp
    |nilm=>exact .nilm
    |lf=>exact .lf
    |nilf=>exact .nilf
    |mp _ _ _ _ hb=>obtain⟨_,_,g⟩:=d.map hb;exact .mp _ _ _ _ g
    |dmp _ _ _ _ hr=>exact .dmp _ _ _ _ (hr.mono h)
    |it _ _ hb=>exact .it _ _ (d.iter hb)
    |j9 _ _ hb=>exact .j9 _ _ (d.loop hb)
   ·cases c with
    |nil=>exact .nil
    |cons _ _ _ _ c k=>simp at hs;exact .cons _ _ _ _ (e.1 yO c) (e.2 yO k)
 exact⟨λ{v p} c=>(key _).1 (cg _) c,λ{vs ps} c=>(key _).2 (cg _) c⟩
def VR.mono{tt:TypeId->Option TI}{E:List RI}{Pp:fE}(b:∀(i:Nat) x,E[i]? =some x->E'[i]? =some x)(h:∀a v,Pp a v->Pp' a v) {v p} (c:VR tt E Pp v p):VR tt E' Pp' v p:=(VR.fQ (oR.of b) h).1 c
def eJ.mono{tt:TypeId->Option TI}{E:List RI}{Pp:fE}(b:∀(i:Nat) x,E[i]? =some x->E'[i]? =some x)(h:∀a v,Pp a v->Pp' a v) {v p} (c:eJ tt E Pp v p):eJ tt E' Pp' v p:=(VR.fQ (oR.of b) h).2 c
def MT(Pp:fE)(b:Nat):Prop:=∀ad v,Pp ad v->ad.block≠b
def wi(tt:TypeId->Option TI)(Pp:fE)(e:TypeId)(vs:List Value)(o:Nat)(rows:List (List D)):Prop:=
 ∀(i:Nat)(row:List D),rows[i]? =some row->row.length=(bR tt e).length/\
  ∀(j:Nat)(d:D)(ck:CK),row[j]? =some d->(bR tt e)[j]? =some ck->∃v,vs[o+i*(bR tt e).length+j]? =some v/\RD tt Pp ck v d
def KD(tt:TypeId->Option TI)(Pp:fE)(kc:CK)(v:Value)(d:D):Prop:=(kc≠ .ic/\RD tt Pp kc v d)\/(kc= .ic/\∃a b:ByteArray,v= .agg ⟨[.string a,.string b]⟩/\d= .ptr [.str a.data.toList,.str b.data.toList])
def KD.mono{tt:TypeId->Option TI}{Pp:fE}(h:∀a v,Pp a v->Pp' a v){ck:CK}{v:Value}{d:D}(hr:KD tt Pp ck v d):KD tt Pp' ck v d:=hr.imp (And.imp id (RD.mono h)) id
def uy(tt:TypeId->Option TI)(Pp:fE)(kc:CK)(e:TypeId)(x:MapEntry)(row:List D):Prop:=
 ∃(kd:D) (vd:List D),row=kd::vd/\KD tt Pp kc x.key kd/\vd.length=(bR tt e).length/\x.val.cells.toList.length=vd.length/\
  (∀(j:Nat)(d:D)(ck:CK)(v:Value),vd[j]? =some d->(bR tt e)[j]? =some ck->x.val.cells.toList[j]? =some v->RD tt Pp ck v d)/\
  (∀ti,tt e=some ti->(ti.agg=true->∃cs,x.val= .agg cs)/\(ti.agg=false->x.val.cells= #[x.val]))
structure EN (tt:TypeId->Option TI) (Pp:fE) (e:TypeId) (b:Nat) (es:Array MapEntry) (clock:Nat) (rows:List (List D)):Prop where
 gR:Pp ⟨b,0,some 0⟩ (Em es clock)
 len:es.toList.length=rows.length
 Qc:∀(i:Nat)(x:MapEntry)(row:List D),es.toList[i]? =some x->rows[i]? =some row->uy tt Pp .str e x row
 nd:(es.toList.map (·.born)).Nodup
 lt:∀x,x∈es.toList.map (·.born)->x<clock
def EN.mono{tt:TypeId->Option TI}{Pp:fE}(h:∀a v,Pp a v->Pp' a v){e:TypeId}{b:Nat}{es:Array MapEntry}{clock:Nat}{rows:List (List D)}(m:EN tt Pp e b es clock rows):EN tt Pp' e b es clock rows:=by refine⟨h _ _ m.gR,m.len,λi x row h1 h2=>?_,m.nd,m.lt⟩;obtain⟨kd,vd,e1,e2,e3,k,g,f⟩:=m.Qc i x row h1 h2;exact⟨kd,vd,e1,e2.mono h,e3,k,λj d ck v a b c=>(g j d ck v a b c).mono h,f⟩
def RD.rC{tt:TypeId->Option TI}{Pp:fE}{t e:TypeId}{v:Value}{d:D}(h:RD tt Pp (.map t e) v d):
 (v= .map none/\d= .nil)\/∃b es clock rows,v= .map (some b)/\d= .list rows/\EN tt Pp e b es clock rows:=by
 cases h with
 |BT=>exact .inl ⟨rfl,rfl⟩
 |I3 _ _ b es clock rows hl gR hk fR c8 gV=>refine .inr ⟨b,es,clock,rows,rfl,rfl,gR,hl,λi x row h1 h2=>?_,fR,c8⟩;obtain⟨s,vd,e1,e2,e3,g,f⟩:=hk i x row h1 h2;refine⟨_,vd,e2,.inl ⟨yS,by rw[e1];exact .str s⟩,e3,g,λj d ck v a b c=>gV i j x row d ck v h1 h2 (by rw[e2];simpa using a) b c,f⟩
def EN.rd{tt:TypeId->Option TI}{Pp:fE}{e:TypeId}{b:Nat}{es:Array MapEntry}{clock:Nat}{rows:List (List D)}(m:EN tt Pp e b es clock rows)(t:TypeId):RD tt Pp (.map t e) (.map (some b)) (.list rows):=by
 refine .I3 t e b es clock rows m.len m.gR (λi x row h1 h2=>?_) m.nd m.lt (λi j x row d ck v h1 h2 h3 h4 h5=>?_)
 ·obtain⟨kd,vd,e1,e2,e3,f,_,c⟩:=m.Qc i x row h1 h2;rcases e2 with⟨_,e2⟩|⟨e2,_⟩
  ·generalize g:x.key=h at e2;cases e2 with
   |str s=>exact⟨s,vd,rfl,e1,e3,f,c⟩
  ·cases e2
 ·obtain⟨kd,vd,e1,_,_,_,a,_⟩:=m.Qc i x row h1 h2;exact a j d ck v (by rw[e1]at h3;simpa using h3) h4 h5
def BN{w:World}{b:Nat}{es:Array MapEntry}{clock:Nat}(h:pc w ⟨b,0,some 0⟩=some (Em es clock)):w.heap[b]? =some (.map es clock):=by
 unfold pc at h;cases d:w.heap[b]? with
 |none=>simp only[d]at h;cases h
 |some x=>
  simp only[d]at h;cases x with
  |map e a=>simp at h;obtain⟨h1,h2⟩:=L3 h;rw[h1,h2]
  |cells c _ _=>simp at h
  |_=>simp at h
def Vn(j:LS)(s:LoopState)(p:Option Code):Prop:=match j with| .ready=>s= .ready/\p=none| .busy=>s= .busy| .done c=>s= .done/\p=some c
def Qi(j:LS)(s:LoopState):Prop:=match j with| .ready=>s= .ready| .busy=>s= .busy| .done _=>False
structure R4 (n:Nat) (ps:List Nat) (c1 c2:Code) (j:LS) (r:Loop):Prop where
 size:r.tmps.size=n
 params:r.params.toList=ps
 assign:r.assign=c1
 body:r.body=c2
 state:Vn j r.state r.pending
def pa:PV->Bool
 | .nilp=>true
 | .box _ _=>true
 |_=>false
def nB:List PV->Bool
 |[p,_]=>pa p
 |_=>false
def qV(tt:TypeId->Option TI)(T:TypeId)(cs:List PV):Prop:=nB cs=true->∃ti,tt T=some ti/\ti.O0=true
def Q7:List MapEntry->List Value
 |[]=>[]
 |x::es=>x.key::x.val::Q7 es
def OR(tt:TypeId->Option TI)(E:List RI)(Pp:fE)(w:World):RI->Ob->Prop
 | .box b,.box cs=>∃(vs:List Value) (T:TypeId),w.heap[b]? =some (.cells ⟨vs⟩ T (0,0))/\eJ tt E Pp vs cs/\MT Pp b/\qV tt T cs
 | .row0,.row _ d _=>d= .list []
 | .row g o len cap,.row e d wr=>∃(vs:List Value) (_:TypeId) (rows:List (List D)),w.heap[g]? =some (.cells ⟨vs⟩ e (0,0))/\d= .list rows/\rows.length=len/\len<=cap/\o+cap*(bR tt e).length<=vs.length/\
  wi tt Pp e vs o rows/\(wr=true->MT Pp g)/\
  (wr=false->(∀(i j:Nat)(v:Value),i<len->j<(bR tt e).length->vs[o+i*(bR tt e).length+j]? =some v->Pp ⟨g,o+i*(bR tt e).length+j,none⟩ v)/\
    ∀ad v,Pp ad v->ad.block=g->cap=0\/ad.off<o+len*(bR tt e).length)
 | .map b borns clock,.map kc e d=>∃(es:Array MapEntry) (rows:List (List D)),w.heap[b]? =some (.map es clock)/\d= .list rows/\es.toList.length=rows.length/\
  (∀(i:Nat)(x:MapEntry)(row:List D),es.toList[i]? =some x->rows[i]? =some row->uy tt Pp kc e x row)/\
  es.toList.map (·.born)=borns/\borns.Nodup/\(∀x,x∈borns->x<clock)/\MT Pp b
 | .map b borns clock,.box cs=>∃(es:Array MapEntry),w.heap[b]? =some (.map es clock)/\eJ tt E Pp (Q7 es.toList) cs/\es.toList.map (·.born)=borns/\borns.Nodup/\(∀x,x∈borns->x<clock)/\MT Pp b
 | .iter b,.iter m seen=>∃(c:Nat) (borns:List Nat) (clock:Nat) (a:List Nat),E[m]? =some (.map c borns clock)/\w.heap[b]? =some (.mapIter (some c) clock ⟨a.map (λ(j:Nat)=>borns.getD j 0)⟩ clock)/\
  seen= .list (a.map λ(j:Nat)=>[D.int (j:Int)])/\∀j,j∈a->j<borns.length
 | .iter b,.diter e d seen=>∃(a:List Nat),seen= .list (a.map λ(j:Nat)=>[D.int (j:Int)])/\
  ((d= .nil/\a=[]/\∃n f m,w.heap[b]? =some (.mapIter none n f m))\/
    ∃(c:Nat) (es:Array MapEntry) (clock:Nat) (rows:List (List D)),d= .list rows/\EN tt Pp e c es clock rows/\
     w.heap[b]? =some (.mapIter (some c) clock ⟨a.map (λ(j:Nat)=>(es.toList.map (·.born)).getD j 0)⟩ clock)/\∀j,j∈a->j<rows.length)
 | .loop b,.loop n ps c1 c2 s j=>∃r:Loop,w.heap[b]? =some (.loop r)/\R4 n ps c1 c2 j r/\∀t,VR tt E Pp (r.tmps.getD t undef) (look s t)
 |_,_=>False
def vj(tt:TypeId->Option TI):Option Nat:=match tt 3 with|some ti=>ti.TF|none=>none
def vh(tt:TypeId->Option TI):List (Nat×IntKind×List Int):=match tt 3 with|some ti=>ti.TC|none=>[]
def RN(Pp:fE)(g:Nat×IntKind×List Int):Prop:=Pp ⟨g.1,0,some 1⟩ (.int .i64 g.2.2.length)/\∀i z,g.2.2[i]? =some z->Pp ⟨g.1,i,none⟩ (.int g.2.1 z)
def MV(tt:TypeId->Option TI)(Pp:fE):Prop:=(∀b,vj tt=some b->∃m:Int,Pp ⟨b,0,none⟩ (.int .i64 m))/\∀g,g∈vh tt->RN Pp g
def MV.mono{tt:TypeId->Option TI}{Pp:fE}(h:MV tt Pp)(a:∀ad v,Pp ad v->Pp' ad v):MV tt Pp':=⟨λb hb=>(h.1 b hb).imp λ_ d=>a _ _ d,λg c=>⟨a _ _ (h.2 g c).1,λi z hz=>a _ _ ((h.2 g c).2 i z hz)⟩⟩
structure WR (tt:TypeId->Option TI) (E:List RI) (Pp:fE) (objs:List Ob) (w:World):Prop where
 len:E.length=objs.length
 pi:∀ad v,Pp ad v->pc w ad=some v
 ob:∀(i:Nat) o,objs[i]? =some o->o.live=true->∃ri,E[i]? =some ri/\OR tt E Pp w ri o
 sep:∀(i j:Nat) oi oj ri rj b,objs[i]? =some oi->objs[j]? =some oj->oi.live=true->oj.live=true->E[i]? =some ri->E[j]? =some rj->
  ri.cZ =some b->rj.cZ =some b->i=j
 gl:MV tt Pp
def WR.SN{tt:TypeId->Option TI}{E:List RI}{Pp:fE}{objs:List Ob}{w:World}(h:WR tt E Pp objs w)(a:∀ad v,Pp ad v->Pp' ad v):MV tt Pp':=h.gl.mono a
def WR.PY{tt:TypeId->Option TI}{E:List RI}{Pp:fE}{objs:List Ob}{w:World}(h:WR tt E Pp objs w){b o:Nat}{v:Value}(a:Pp ⟨b,o,none⟩ v):w.cell? ⟨b,o,none⟩=some v:=by rw[<- pd];exact h.pi _ _ a
def own(E:List RI)(objs:List Ob)(b:Nat):Prop:=∃(i:Nat) (o:Ob) (ri:RI),objs[i]? =some o/\o.live=true/\E[i]? =some ri/\ri.cZ =some b
structure pB where
 p:Prop
structure Fr [Inhabited pB] (own:Nat->Prop) (w0 w:World):Prop where
 os:w.os=w0.os
 tape:w.tape=w0.tape
 output:w.output=w0.output
 size:w0.heap.size<=w.heap.size
 drawn:(default:pB).p->w0.drawn<=w.drawn
 block:∀k,k<w0.heap.size->¬own k->w.heap[k]? =w0.heap[k]?
variable [Inhabited pB]
def Fr.refl(own:Nat->Prop)(w:World):Fr own w w:=⟨rfl,rfl,rfl,cg _,λ_=>cg _,λ_ _ _=>rfl⟩
def Fr.trans{e o2:Nat->Prop}{a b c:World}(h:Fr e a b)(k:Fr o2 b c)(i:∀x,x<a.heap.size->o2 x->e x):Fr e a c:=⟨k.os.trans h.os,k.tape.trans h.tape,k.output.trans h.output,bQ h.size k.size,λf=>bQ (h.drawn f) (k.drawn f),λx d g=>(k.block x (Nat.lt_of_lt_of_le d h.size) (λh2=>g (i x d h2))).trans (h.block x d g)⟩
end
section
variable [Inhabited pB]
structure pM where
 asInt:D->Int
 asBool:D->Bool
 bH:D->List UInt8
 len:D->Int
 cell:D->Int->Nat->D
 qu:D->Nat->D
 isNil:D->Bool
 add:Int->Int->Int
 sub:Int->Int->Int
 mul:Int->Int->Int
 quo:Int->Int->Int
 rem:Int->Int->Int
 wrap:IntKind->Int->Int
 eq:Int->Int->Bool
 lt:Int->Int->Bool
 le:Int->Int->Bool
 not:Bool->Bool
 ite:Bool->Bool->Bool->Bool
 beq:Bool->Bool->Bool
 seq:List UInt8->List UInt8->Bool
 slt:List UInt8->List UInt8->Bool
 dr:List UInt8->Int
 jy:List UInt8->List UInt8->List UInt8
 S9:List UInt8->Int->Int->List UInt8
 xv:List UInt8->Int->Int
 max:Int->Int->Int
 min:Int->Int->Int
 lit:List (List D)->D
 app:D->D->D
 part:D->Int->Int->D
 mY:D->Int->Nat->List D->D
 inr:IntKind->Int->Prop
 idx:Int->Int->Prop
 gh:Int->Int->Prop
 Wf:Int->Prop
 same:Int->Int->Prop
 mJ:D->D->Bool
 fc:D->D->Nat->D
 lU:D->D->List D->D
 FX:D->D->D
 nE:D->D->Prop
 qb:D->D->Int->Prop
 nL:D->Int->D
 last:D->Int
 QT:Int->List D->D
 ZU:List Int->Int->Int
 OY:D->List UInt8
 NS:List UInt8->D
def Qf:List D->Int
 | .int n::_=>n
 |_=>0
def cn:D->List (List D)
 | .list r=>r
 |_=>[]
def Tj:D->List D
 | .ptr r=>r
 |_=>[]
def ny:D->D->Bool
 | .int a,.int b=>a==b
 | .str a,.str b=>a==b
 | .bool a,.bool b=>a==b
 | .ptr [.str a,.str b],.ptr [.str c,.str d]=>a==c&&b==d
 |_,_=>false
def eP(k:D)(row:List D):Bool:=match row with|a::_=>ny k a|[]=>false
def iO(k:D)(vs:List D):List (List D)->List (List D)
 |[]=>[k::vs]
 |row::r=>if eP k row then(k::vs)::r else row::iO k vs r
@[reducible] def dz:pM where
 asInt d:=match d with| .int n=>n|_=>0
 asBool d:=match d with| .bool b=>b|_=>false
 bH d:=match d with| .str s=>s|_=>[]
 len d:=((cn d).length:Int)
 cell d i j:=((cn d).getD i.toNat []).getD j .nil
 qu d j:=(Tj d).getD j .nil
 isNil d:=match d with| .ptr _=>false|_=>true
 add a b:=a+b
 sub a b:=a-b
 mul a b:=a*b
 quo a b:=a.tdiv b
 rem a b:=a.tmod b
 wrap k a:=k.wrap a
 eq a b:=a==b
 lt a b:=decide (a<b)
 le a b:=decide (a<=b)
 not b:= !b
 ite c a b:=bif c then a else b
 beq a b:=a==b
 seq a b:=a==b
 slt a b:=Op.bytesLess a b
 dr s:=(s.length:Int)
 jy a b:=a++b
 S9 s lo hi:=(s.drop lo.toNat).take (hi.toNat-lo.toNat)
 xv s i:=((s.getD i.toNat 0).toNat:Int)
 max a b:=if b>a then b else a
 min a b:=if b<a then b else a
 lit l:=.list l
 app a b:=.list (cn a++cn b)
 part d lo hi:=.list (((cn d).drop lo.toNat).take (hi.toNat-lo.toNat))
 mY d i off vs:=.list ((cn d).modify i.toNat λrow=>row.take off++vs++row.drop (off+vs.length))
 inr k n:=k.min<=n/\n<=k.max
 idx i n:=0<=i/\i<n
 gh a b:=0<=a/\a<=b
 Wf a:=a≠0
 same a b:=a=b
 mJ m k:=(cn m).any (eP k)
 fc m k j:=(((cn m).find? (eP k)).getD []).getD (j+1) .nil
 lU m k vs:=.list (iO k vs (cn m))
 FX m k:=.list ((cn m).eraseP (eP k))
 nE m s:=∀j:Nat,j<(cn m).length->[.int (j:Int)]∈cn s
 qb m s i:=0<=i/\i<((cn m).length:Int)/\[.int i]∉cn s
 nL s i:=.list (cn s++[[.int i]])
 QT n row:=.list (eT n.toNat row)
 ZU l i:=l.getD i.toNat 0
 OY d:=(cn d).map λr=>iN (Qf r).toNat
 NS s:=.list (s.map λb=>[.int (b.toNat:Int)])
 last s:=match (cn s).getLast? with|some [.int i]=>i|_=>0
def HF:Value->PV
 | .int k n=>.int k n
 | .bool b=>.bl b
 | .string s=>.str s.data.toList
 | .pointer none=>.nilp
 | .map none=>.nilm
 | .nilFunc=>.nilf
 |_=>.undef
def lI:Operand->Bool
 | .const (.slice none 0 0)=>true
 |_=>false
def norm:PV->PV
 | .nx e d=>.lst e d
 |p=>p
def ev(s:cU):Operand->PV
 | .tmp t=>norm (look s t)
 | .const v=>HF v
 | .global _=>.undef
 | .func f=>bif gZ f kz then .cy f []else .undef
def Rp(tt:TypeId->Option TI)(s:cU)(t:TypeId)(x:Operand):PV:=
 match x with
 | .const (.slice none 0 0)=>match tt t with|some ti=>.nx ti.el (.list [])|none=>.undef
 | .tmp t=>look s t
 |x=>ev s x
def Mm(c:CK)(v:Value):PV:=match v with
 | .slice none 0 0=>(match c with| .slice e=>.lst e (.list [])|_=>.undef)
 |v=>HF v
def sX:List CK->List Value->Option (List PV)
 |[],[]=>some []
 |c::cs,v::vs=>(match sX cs vs with|some l=>some (Mm c v::l)|none=>none)
 |_,_=>none
def fK(tt:TypeId->Option TI)(s:cU)(t:TypeId)(x:Operand):PV:=
 match x with
 | .const (.slice none 0 0)=>match tt t with|some ti=>.lst ti.el (.list [])|none=>.undef
 | .const (.agg vs)=>match tt t with
  |some ti=>(match sX ti.bT vs.toList with|some l=>.agg l|none=>.undef)
  |none=>.undef
 |x=>ev s x
def ch{α:Type}:List α->Nat|[]=>0|_::l=>ch l+1
def cI{α:Type}(l:List α):ch l=l.length:=by induction l<;>simp[ch, *]
def ew:List Ob->Nat->Ob
 |[],_=>.dead|x::_,0=>x|_::xs,n+1=>ew xs n
def rJ(l:List Ob)(n:Nat):ew l n=l.getD n .dead:=by
 induction l generalizing n with
 |nil=>simp[ew]
 |cons x xs a=>cases n<;>simp[ew,a]
def qh:Nat->List PV->List PV
 |0,_=>[]|_,[]=>[]|n+1,x::xs=>x::qh n xs
def tp(n:Nat)(l:List PV):qh n l=l.take n:=by
 induction n generalizing l with
 |zero=>simp[qh]
 |succ n a=>cases l<;>simp[qh,a]
def wb:Nat->List PV->List PV
 |0,l=>l|_,[]=>[]|n+1,_::xs=>wb n xs
def y9(n:Nat)(l:List PV):wb n l=l.drop n:=by
 induction n generalizing l with
 |zero=>simp[wb]
 |succ n a=>cases l<;>simp[wb,a]
def vl:List (Nat×TypeId)->Nat->Option (Nat×TypeId)
 |[],_=>none|x::_,0=>some x|_::xs,n+1=>vl xs n
def OI(l:List (Nat×TypeId))(n:Nat):vl l n=l[n]? :=by
 induction l generalizing n with
 |nil=>simp[vl]
 |cons x xs a=>cases n<;>simp[vl,a]
def Ge:List PV->Nat->PV
 |[],_=>.undef|x::_,0=>x|_::xs,n+1=>Ge xs n
def HW(l:List PV)(n:Nat):Ge l n=l.getD n .undef:=by
 induction l generalizing n with
 |nil=>simp[Ge]
 |cons x xs a=>cases n<;>simp[Ge,a]
def nK:List PV->Nat->List PV->List PV
 |xs,_,[]=>xs
 |[],_,_=>[]
 |_::xs,0,y::ys=>y::nK xs 0 ys
 |x::xs,n+1,y::ys=>x::nK xs n (y::ys)
def flat:PV->List PV| .agg cs=>cs| .undef=>[]|v=>[v]
def fa(ti:TI)(l:List PV):PV:=bif ti.agg then .agg l else match l with|[x]=>x|_=>.undef
section
variable (A:pM) (tt:TypeId->Option TI)
def sY(c:CK)(d:D):PV:=match c with
 | .int k=>.int k (A.asInt d)| .bool=>.bool (A.asBool d)| .str=>.str (A.bH d)| .slice e=>.lst e d| .ptr t=>.dptr t d
 | .map _ e=>.dmp e d| .fn=>.undef
 | .ic=>.undef
def lW(c:CK)(d:D):PV:=match c with
 | .ic=>.agg [.str (A.bH (A.qu d 0)),.str (A.bH (A.qu d 1))]
 |c=>sY A c d
def qD(g:Nat->D):Nat->List CK->List PV
 |_,[]=>[]
 |j,c::cs=>sY A c (g j)::qD g (j+1) cs
def jN(d:D)(i:Int)(j:Nat)(cs:List CK):List PV:=qD A (A.cell d i) j cs
def xX(d:D)(j:Nat)(cs:List CK):List PV:=qD A (A.qu d) j cs
def ij(m k:D)(j:Nat)(cs:List CK):List PV:=qD A (A.fc m k) j cs
def dZ(ti:TI):Option TypeId:=match ti.agg,ti.bT with|false,[.slice e]=>some e|_,_=>none
def isStr(ti:TI):Bool:=match ti.agg,ti.bT with|false,[.str]=>true|_,_=>false
def isMap(ti:TI):Bool:=match ti.agg,ti.bT with|false,[.map _ _]=>true|_,_=>false
def pk(ti:TI):Option IntKind:=match ti.agg,ti.bT with|false,[.int k]=>some k|_,_=>none
def Jq:List CK->List CK->Bool
 |[],[]=>true
 |a::x,b::y=>(decide (a=b))&&Jq x y
 |_,_=>false
def CX:Nat->List CK->List CK
 |0,_=>[]|_,[]=>[]|n+1,x::xs=>x::CX n xs
def En:Nat->List CK->List CK
 |0,l=>l|_,[]=>[]|n+1,_::xs=>En n xs
def hY(e:TypeId)(off:Nat)(cs:List CK):Bool:=Jq (CX (ch cs) (En off (bR tt e))) cs
def toD:PV->Option D
 | .int _ n=>some (.int n)| .bl b=>some (.bool b)| .bool b=>some (.bool b)| .str s=>some (.str s)| .lst _ d=>some d
 | .dptr _ d=>some d| .nilp=>some .nil| .nilm=>some .nil| .nilf=>some .nil| .dmp _ d=>some d|_=>none
def GG(op:BinOp)(eq:Bool)(K:PV->Prop):Prop:=match op with
 | .eql=>K (.bool eq)
 | .neq=>K (.bool (A.not eq))
 |_=>False
def GD(op:BinOp)(eq:Bool)(K:PV->Prop):Prop:=match op,eq with
 | .eql,true=>K (.bl true)
 | .eql,false=>K (.bl false)
 | .neq,true=>K (.bl false)
 | .neq,false=>K (.bl true)
 |_,_=>False
def isBool(ti:TI):Bool:=match ti.agg,ti.bT with|false,[.bool]=>true|_,_=>false
def nC(o:Option TI)(op:BinOp)(b:Bool)(K:PV->Prop):Prop:=match o with
 |some ti=>bif isBool ti then GG A op b K else False
 |none=>False
def Mu(op:BinOp)(k:IntKind)(a b:Int)(K:PV->Prop):Prop:=match op with
 | .add=>(A.inr k (A.add a b)/\(True->K (.int k (A.add a b))))\/(True->K (.int k (A.wrap k (A.add a b))))
 | .sub=>(A.inr k (A.sub a b)/\(True->K (.int k (A.sub a b))))\/(True->K (.int k (A.wrap k (A.sub a b))))
 | .mul=>(A.inr k (A.mul a b)/\(True->K (.int k (A.mul a b))))\/(True->K (.int k (A.wrap k (A.mul a b))))
 | .quo=>A.Wf b/\A.inr k (A.quo a b)/\K (.int k (A.quo a b))
 | .rem=>A.Wf b/\K (.int k (A.rem a b))
 | .eql=>K (.bool (A.eq a b))
 | .neq=>K (.bool (A.not (A.eq a b)))
 | .lss=>K (.bool (A.lt a b))
 | .leq=>K (.bool (A.le a b))
 | .gtr=>K (.bool (A.lt b a))
 | .geq=>K (.bool (A.le b a))
 |_=>False
def Ms(op:BinOp)(a b:List UInt8)(K:PV->Prop):Prop:=match op with
 | .eql=>K (.bool (A.seq a b))
 | .neq=>K (.bool (A.not (A.seq a b)))
 | .lss=>K (.bool (A.slt a b))
 | .gtr=>K (.bool (A.slt b a))
 | .leq=>K (.bool (A.not (A.slt b a)))
 | .geq=>K (.bool (A.not (A.slt a b)))
 | .add=>A.inr .i64 (A.add (A.dr a) (A.dr b))/\K (.str (A.jy a b))
 |_=>False
def yx(ti:TI):Bool:=match ti.agg,ti.bT with|false,[.fn]=>true|_,_=>false
def sf(ti:TI):Bool:=match ti.agg,ti.bT with|false,[.ptr _]=>true|_,_=>false
def Rr:PV->PV->Option Bool
 | .int _ a,.int _ b=>some (A.eq a b)
 | .str a,.str b=>some (A.seq a b)
 | .bool a,.bool b=>some (A.beq a b)
 | .bl a,.bool b=>some (A.beq a b)
 | .bool a,.bl b=>some (A.beq a b)
 | .bl a,.bl b=>some (A.beq a b)
 |_,_=>none
def yV:List PV->List PV->Option Bool
 |[],[]=>some true
 |a::x,b::y=>match Rr A a b,yV x y with
  |some c,some d=>some (A.ite c d false)
  |_,_=>none
 |_,_=>none
def zg:CK->PV->Bool
 | .int k,.int k' _=>decide (k=k')
 | .bool,.bool _=>true
 | .bool,.bl _=>true
 | .str,.str _=>true
 |_,_=>false
def jt:List CK->List PV->Bool
 |[],[]=>true
 |c::cs,p::ps=>zg c p&&jt cs ps
 |_,_=>false
def Gb(a b:IntKind):Bool:=decide (a=b)
def yv{a b:IntKind}(h:Gb a b=true):a=b:=of_decide_eq_true h
def tO(s:cU)(o:Option Operand)(a:Int)(K:Int->Prop):Prop:=match o with
 |none=>K a
 |some x=>match ev s x with
  | .int _ n=>K n
  |_=>False
def BX(n:Int):Option Nat:=match n with| .ofNat k=>some k| .negSucc _=>none
def Q0(o:Option Operand):Bool:=match o with|none=>true|some _=>false
def HQ(s:cU)(o:Option Operand):Option Nat:=match o with
 |some x=>(match ev s x with| .int _ n=>BX n|_=>none)
 |none=>none
def sW:CK->PV->Bool
 | .int k,.int k' _=>decide (k=k')
 | .bool,.bool _=>true
 | .bool,.bl _=>true
 | .str,.str _=>true
 | .slice e,.lst e' _=>nb e e'
 | .ptr t,.dptr t' _=>nb t t'
 | .ptr _,.nilp=>true
 | .map _ _,.nilm=>true
 | .map _ e,.dmp e' _=>nb e e'
 | .fn,.nilf=>true
 |_,_=>false
def rL(bT:List CK):List PV->Bool
 |[]=>true
 |p::ps=>(match bT with|[c]=>sW c p|_=>false)&&rL bT ps
def qf(p:PV):D:=match toD p with|some d=>d|none=>.nil
def DL:List PV->List (List D)
 |[]=>[]
 |p::ps=>[qf p]::DL ps
def zm(e:TypeId)(S:Nat):Nat->Nat->List (Nat×TypeId)
 |_,0=>[]
 |off,n+1=>(off,e)::zm e S (off+S) n
def yz(k:IntKind):List PV->Option (List Int)
 |[]=>some []
 | .int k' n::l=>bif Gb k k' then(match yz k l with|some ns=>some (n::ns)|none=>none)else none
 |_=>none
def Mx(ob:List Ob)(p:PV):PV:=match p with
 | .row e r=>match ew ob r with
  | .row e' d false=>bif nb e e' then .lst e d else .undef
  |_=>.undef
 |p=>p
def lZ(s:cU)(tt:TypeId->Option TI)(fs:List (Nat×TypeId)):List (Nat×Operand)->List PV->Option (List PV)
 |[],acc=>some acc
 |(i,x)::r,acc=>match vl fs i with
  |some (off,b)=>match tt b with
   |some a=>bif nb (ch (flat (fK tt s b x))) (ch a.bT)&&ir (off+ch a.bT) (ch acc)&&gZ 0 (ch a.bT)then lZ s tt fs r (nK acc off (flat (fK tt s b x)))else none
   |none=>none
  |none=>none
def cF(op:Op)(ty:TypeId)(s:cU)(ob:List Ob)(K:PV->Prop):Prop:=
 match op with
 | .move x=>K (Rp tt s ty x)
 | .assign x=>K (Rp tt s ty x)
 | .pick c a b=>match ev s c with
  | .bl true=>K (ev s a)
  | .bl false=>K (ev s b)
  | .bool c=>match ev s a,ev s b with
   | .bool x,.bool y=>K (.bool (A.ite c x y))
   | .bl x,.bool y=>K (.bool (A.ite c x y))
   | .bool x,.bl y=>K (.bool (A.ite c x y))
   | .bl x,.bl y=>K (.bool (A.ite c x y))
   |_,_=>False
  |_=>False
 | .load t x=>match tt t with
  |none=>False
  |some ti=>match ev s x with
   | .box b off=>match ew ob b with
    | .box cs=>bif ir off dB&&ir (off+ch ti.bT) (ch cs)then K (fa ti (qh (ch ti.bT) (wb off cs)))else False
    |_=>False
   | .js e d i off=>bif hY tt e off ti.bT then K (fa ti (jN A d i off ti.bT))else False
   | .fH e r i off=>bif nb off dB then False else match ew ob r with
    | .row e' d _=>bif nb e e'&&hY tt e off ti.bT then K (fa ti (jN A d i off ti.bT))else False
    |_=>False
   | .cP cs off=>bif (match nb off dB with|true=>false|false=>ir (off+ch ti.bT) (ch cs))then K (fa ti (qh (ch ti.bT) (wb off cs)))else False
   | .rK t d off=>bif hY tt t off ti.bT then K (fa ti (xX A d off ti.bT))else False
   | .dptr t d=>bif hY tt t 0 ti.bT then(A.isNil d=false/\K (fa ti (xX A d 0 ti.bT)))else False
   |_=>False
 | .nilCheck x=>match ev s x with
  | .dptr t d=>A.isNil d=false/\K (.rK t d 0)
  | .box b off=>bif ir off dB then K (.box b off)else False
  | .js e d i off=>K (.js e d i off)
  | .fH e r i off=>bif nb off dB then False else K (.fH e r i off)
  | .cP cs off=>bif nb off dB then False else K (.cP cs off)
  | .rK t d off=>K (.rK t d off)
  | .cy f cs=>K (.cy f cs)
  |_=>False
 | .binOp op t x y _=>match lI y with
  |true=>(match op,ev s x,tt t with
   | .eql,.lst _ d,some ti=>(match dZ ti with
    |some _=>∀b:Bool,(b=true->A.same (A.len d) 0)->K (.bool b)
    |none=>False)
   |_,_,_=>False)
  |false=>match ev s x,ev s y with
   | .int k a,.int k' b=>bif Gb k k' then Mu A op k a b K else False
   | .str a,.str b=>Ms A op a b K
   | .dptr _ d,.nilp=>match tt t with|some ti=>bif sf ti then GG A op (A.isNil d) K else False|none=>False
   | .cP _ off,.nilp=>bif nb off dB then False else match tt t with|some ti=>bif sf ti then GD op false K else False|none=>False
   | .box _ off,.nilp=>match tt t with|some ti=>bif sf ti&&ir off dB then GD op false K else False|none=>False
   | .cy _ _,.nilf=>match tt t with|some ti=>bif yx ti then GD op false K else False|none=>False
   | .nilf,.nilf=>match tt t with|some ti=>bif yx ti then GD op true K else False|none=>False
   | .nilp,.nilp=>match tt t with|some ti=>bif sf ti then GD op true K else False|none=>False
   | .agg us,.agg vs=>match tt t with
    |some ti=>bif ti.yW&&jt ti.bT us&&jt ti.bT vs then(match yV A us vs with|some b=>GG A op b K|none=>False)else False
    |none=>False
   | .bool a,.bool b=>nC A (tt t) op (A.beq a b) K
   | .bl a,.bool b=>nC A (tt t) op (A.beq a b) K
   | .bool a,.bl b=>nC A (tt t) op (A.beq a b) K
   | .bl a,.bl b=>nC A (tt t) op (A.beq a b) K
   |_,_=>False
 | .unOp op _ x=>match op,ev s x with
  | .not,.bool b=>K (.bool (A.not b))
  | .not,.bl true=>K (.bl false)
  | .not,.bl false=>K (.bl true)
  | .neg,.int k n=>A.inr k (A.sub 0 n)/\K (.int k (A.sub 0 n))
  |_,_=>False
 | .convert src dst x=>match tt src,tt dst with
  |some w,some ti=>match pk ti,ev s x with
   |some k,.int _ n=>(A.inr k n/\(True->K (.int k n)))\/(True->K (.int k (A.wrap k n)))
   |none,.lst e d=>match dZ w with
    |none=>False
    |some e'=>match tt e' with
     |none=>False
     |some g=>match pk g with
      |some .u8=>bif isStr ti&&nb e e' then K (.str (A.OY d))else False
      |_=>False
   |_,_=>False
  |_,_=>False
 | .makeFunc (.func f) first ma=>match first.toList with
  |[]=>bif gZ f kz then K (.cy f (ma.toList.map (ev s)))else False
  |_=>(match ma.toList with
   |[]=>K (.cy (f+kz) (first.toList.map (ev s)))
   |_=>False)
 | .fieldAddr t x f=>match tt t with
  |none=>False
  |some ti=>match vl ti.fs f with
   |none=>False
   |some (o,u)=>match tt u with
    |none=>False
    |some q=>match q.bT with
     |[]=>False
     |_=>match ev s x with
      | .box b off=>bif ir off dB&&ir (off+o) dB then K (.box b (off+o))else False
      | .js e d i off=>K (.js e d i (off+o))
      | .fH e r i off=>bif nb off dB then False else bif nb (off+o) dB then False else K (.fH e r i (off+o))
      | .cP cs off=>bif nb off dB then False else bif nb (off+o) dB then False else K (.cP cs (off+o))
      | .rK t d off=>K (.rK t d (off+o))
      |_=>False
 | .field t x f=>match tt t with
  |none=>False
  |some ti=>match vl ti.fs f with
   |none=>False
   |some (o,u)=>match tt u with
    |none=>False
    |some q=>match ev s x with
     | .agg cs=>bif ir (o+ch q.bT) (ch cs)then K (fa q (qh (ch q.bT) (wb o cs)))else False
     |_=>False
 | .indexAddr t x i=>match tt t with
  |none=>False
  |some ti=>match dZ ti,ev s x,ev s i with
   |some j,.lst e d,.int _ n=>bif nb j e then(A.idx n (A.len d)/\match tt e with|some _=>K (.js e d n 0)|none=>False)else False
   |some j,.row e r,.int _ n=>bif nb j e then(match ew ob r with
    | .row e' d _=>bif nb e e' then(A.idx n (A.len d)/\match tt e with|some _=>K (.fH e r n 0)|none=>False)else False
    |_=>False)else False
   |some j,.fH e r i off,.int _ n=>bif nb j e&&nb off dB then(match ew ob r with
    | .row e' d _=>bif nb e e' then(A.idx n (A.sub (A.len d) i)/\match tt e with|some _=>K (.fH e r (A.add i n) 0)|none=>False)else False
    |_=>False)else False
   |some j,.cP cs off,.int _ n=>(match tt j,BX n with
    |some g,some k=>bif nb off dB&&nb (ch g.bT) 1&&gZ k (ch cs)then(bif nb k dB then False else K (.cP cs k))else False
    |_,_=>False)
   |some j,.box b off,.int _ n=>(match tt j,BX n with
    |some g,some k=>bif nb (ch g.bT) 1&&gZ dB off&&gZ k (off-(dB+1))&&ir k dB then K (.box b k)else False
    |_,_=>False)
   |none,.box b off,.int _ n=>(match tt ti.el,BX n with
    |some g,some k=>bif ti.agg&&gZ k (ti.ar-1)&&gZ 0 (ch g.bT)&&ir off dB&&ir (off+k*ch g.bT) dB then K (.box b (off+k*ch g.bT))else False
    |_,_=>False)
   |none,.cP cs off,.int _ n=>(match tt ti.el,BX n with
    |some g,some k=>bif ti.agg&&gZ k (ti.ar-1)&&gZ 0 (ch g.bT)then(bif nb off dB then False else bif nb (off+k*ch g.bT) dB then False else K (.cP cs (off+k*ch g.bT)))else False
    |_,_=>False)
   |_,_,_=>False
 | .build t ps=>match tt t with
  |none=>False
  |some ti=>match ti.agg&&nb ti.ar 0 with
   |true=>(match lZ s tt ti.fs ps.toList (ti.bT.map gL)with|some cs=>K (.agg cs)|none=>False)
   |false=>match ti.agg with
    |true=>(match tt ti.el with
     |some g=>match lZ s tt (zm ti.el (ch g.bT) 0 (ti.ar-1)) ps.toList (ti.bT.map gL)with
      |some cs=>K (.agg cs)
      |none=>False
     |none=>False)
    |false=>False
 | .index t x i=>match tt t with
  |none=>False
  |some ti=>match ev s x,ev s i with
   | .str b,.int _ n=>bif isStr ti then A.idx n (A.dr b)/\K (.int .u8 (A.xv b n))else False
   | .agg cs,.int _ n=>bif ti.agg&&gZ 0 ti.ar&&nb (ch cs) (ti.ar-1)then(match tt ti.el with
    |some g=>match g.agg,g.bT with
     |false,[.int k]=>match yz k cs with
      |some ns=>A.idx n (ti.ar-1:Nat)/\K (.int k (A.ZU ns n))
      |none=>False
     |false,[_]=>match BX n with
      |some k=>bif gZ k (ti.ar-1)then K (Ge cs k)else False
      |none=>False
     |_,_=>False
    |none=>False)else False
   |_,_=>False
 | .extract x i=>match ev s x with
  | .tup vs=>bif gZ i (ch vs)then K (Ge vs i)else False
  |_=>False
 | .slice t x lo p v=>match Mx ob (ev s x)with
  | .cP cs off=>(match v,tt t with
   |none,some ti=>(match tt ti.el with
    |some g=>bif ti.agg&&nb (ch g.bT) 1&&gZ 0 ti.ar&&nb off 0&&nb (ch cs) (ti.ar-1)&&Q0 lo then(match HQ s p with
     |some h=>bif ir h (ch cs)&&rL g.bT (qh h cs)then K (.lst ti.el (A.lit (DL (qh h cs))))else False
     |none=>False)else False
    |none=>False)
   |_,_=>False)
  | .str b=>match v,tt t with
   |none,some ti=>bif isStr ti then tO s lo 0 λl=>tO s p (A.dr b) λh=>A.gh h (A.dr b)/\A.gh l h/\K (.str (A.S9 b l h))else False
   |_,_=>False
  | .lst e d=>match tt t with
   |some ti=>match dZ ti with
    |some j=>bif nb j e then(match tt e with
     |some _=>match v with
      |none=>tO s lo 0 λl=>tO s p (A.len d) λh=>A.gh h (A.len d)/\A.gh l h/\K (.lst e (A.part d l h))
      |some m=>tO s lo 0 λl=>match p with
       |none=>False
       |some _=>tO s p 0 λh=>tO s (some m) 0 λm=>A.gh m (A.len d)/\A.gh h m/\A.gh l h/\((A.same m h/\(True->K (.nx e (A.part d l h))))\/(True->K (.lst e (A.part d l h))))
     |none=>False)else False
    |none=>False
   |none=>False
  |_=>False
 | .call { callee:=.builtin .len,args:=as,argTypes:=ts }=>match as.toList,ts.toList with
  |[x],[t]=>match tt t with
   |none=>False
   |some ti=>match dZ ti,fK tt s t x with
    |some _,.lst _ d=>K (.int .i64 (A.len d))
    |some _,.row e r=>(match ew ob r with
     | .row e' d _=>bif nb e e' then K (.int .i64 (A.len d))else False
     |_=>False)
    |some _,.fH e r i off=>(match ew ob r with
     | .row e' d _=>bif nb e e'&&nb off dB then K (.int .i64 (A.sub (A.len d) i))else False
     |_=>False)
    |some _,.cP cs off=>bif nb off dB then K (.int .i64 (bk (ch cs)))else False
    |some _,.box _ off=>bif gZ dB off then K (.int .i64 (bk (off-(dB+1))))else False
    |none,.str b=>bif isStr ti then K (.int .i64 (A.dr b))else False
    |none,.mp m=>bif isMap ti then(match ew ob m with
     | .map _ _ d=>K (.int .i64 (A.len d))
     |_=>False)else False
    |_,_=>False
  |_,_=>False
 | .call { callee:=.builtin .max,args:=as,.. }=>match as.toList with
  |[x,y]=>match ev s x,ev s y with
   | .int k a,.int _ b=>K (.int k (A.max a b))
   |_,_=>False
  |_=>False
 | .call { callee:=.builtin .min,args:=as,.. }=>match as.toList with
  |[x,y]=>match ev s x,ev s y with
   | .int k a,.int _ b=>K (.int k (A.min a b))
   |_,_=>False
  |_=>False
 |_=>False
end
end
section
variable [Inhabited pB]
open Go
section
variable {P:Program}{tt:TypeId->Option TI}{E:List RI}{Pp:fE}{objs:List Ob}{w:World}{W:World->Prop}
variable {t:TypeId}{ti:TI}{off:Nat}{a:Act}{s:cU}{c:CK}
def K2(v:Value):VR tt E Pp v (HF v):=by unfold HF;split<;>first|exact .int _ _|exact .bl _|exact .str _|exact .nilp|exact .nilm|exact .nilf|exact .undef _
def HH{v:Value}{p:PV}(h:VR tt E Pp v p):VR tt E Pp v (norm p):=by
 cases h with
 |nx e a n d hr=>exact .lst _ _ _ hr
 |_=>first|exact .undef _|(simp only[norm];constructor<;>assumption)
def eG(hs:∀t,VR tt E Pp (a.tmps.getD t undef) (look s t))(x:Operand):VR tt E Pp (a.eval x) (ev s x):=by
 cases x with
 |tmp t=>exact HH (hs t)
 |const v=>exact K2 v
 |global g=>exact .undef _
 |func f=>
  simp only[ev];cases hb:gZ f kz with
  |false=>exact .undef _
  |true=>exact .cy _ f [] [] (mS.mk hb) .nil
def Ml(c:CK)(v:Value):VR tt E Pp v (Mm c v):=by
 unfold Mm;split
 ·split
  ·exact .lst _ _ _ (.slnil _)
  ·exact .undef _
 ·exact eG (a:=⟨#[],[]⟩) (s:=[]) (λ_=>.undef _) (.const v)
def A6:∀(cs:List CK)(vs:List Value)(l:List PV),sX cs vs=some l->eJ tt E Pp vs l
 |[],[],l,h=>by simp[sX]at h;subst h;exact .nil
 |c::cs,v::vs,l,h=>by
  rw[sX]at h;split at h
  ·rename_i b hl;simp at h;subst h;exact .cons _ _ _ _ (Ml c v) (A6 cs vs b hl)
  ·cases h
 |[],_::_,_,h=>by simp[sX]at h
 |_::_,[],_,h=>by simp[sX]at h
def iE(hs:∀t,VR tt E Pp (a.tmps.getD t undef) (look s t))(t:TypeId)(x:Operand):VR tt E Pp (a.eval x) (fK tt s t x):=by
 unfold fK;split
 ·split
  ·exact .lst _ _ _ (.slnil _)
  ·exact .undef _
 ·rename_i vs;split
  ·split
   ·rename_i l hl;show VR tt E Pp (.agg vs) _;have:vs=⟨vs.toList⟩:=rfl;rw[this];exact .agg _ _ (A6 _ _ _ hl)
   ·exact .undef _
  ·exact .undef _
 ·exact eG hs _
def Gk(hs:∀t,VR tt E Pp (a.tmps.getD t undef) (look s t))(t:TypeId)(x:Operand):VR tt E Pp (a.eval x) (Rp tt s t x):=by
 unfold Rp;split
 ·split
  ·exact .nx _ _ _ _ (.slnil _)
  ·exact .undef _
 ·exact hs _
 ·exact eG hs _
def LX(hs:∀t,VR tt E Pp (a.tmps.getD t undef) (look s t))(l:List Operand):eJ tt E Pp (l.map a.eval) (l.map (ev s)):=by
 induction l with
 |nil=>exact .nil
 |cons x l b=>exact .cons _ _ _ _ (eG hs x) b
def jl.run(h:jl P t ti)(w:World):
 (isAgg t).run P w= .ok ti.agg w/\(sizeOf t).run P w= .ok ti.bT.length w/\(∃z,(zeroValue t).run P w= .ok z w/\z.cells.toList=ti.bT.map zeroV)/\
 (∃i,(typeInfo t).run P w= .ok i w/\i.bytes=ti.bytes):=by
 obtain⟨i,z,d,e,hs,hb,hz,b,_,f,g⟩:=h.info;refine⟨?_,?_,⟨z,?_,b⟩,⟨i,by simp[typeInfo,e],hb⟩⟩
 ·simp only[isAgg,Sem.run_bind,run_underlying f,Result.andThen_ok];cases d<;>simp_all
 ·simp[sizeOf,typeInfo,e,hs]
 ·simp[zeroValue,typeInfo,e,hz]
def jl.single(h:jl P t ti)(ha:ti.agg=false):∃c,ti.bT=[c]:=by obtain⟨i,z,d,g,hs,hb,hz,b,_,e,f⟩:=h.info;cases d<;>simp_all
def jl.slice{e:TypeId}(h:jl P t ti)(hs:dZ ti=some e):P.underlying t=some (.slice e)/\ti.el=e/\ti.bT=[.slice e]:=by
 obtain⟨i,z,d,j,_,hb,hz,b,_,f,g⟩:=h.info;unfold dZ at hs;split at hs
 ·rename_i e' ha hc;simp at hs;subst hs;cases d<;>simp_all
 ·simp at hs
def jl.str(h:jl P t ti)(hs:isStr ti=true):P.underlying t=some .string:=by
 obtain⟨i,z,d,g,_,hb,hz,b,_,e,f⟩:=h.info;unfold isStr at hs;split at hs
 ·rename_i ha hc;cases d<;>simp_all
 ·simp at hs
def jl.int{k:IntKind}(h:jl P t ti)(hs:pk ti=some k):P.underlying t=some (.int k):=by
 obtain⟨i,z,d,g,_,hb,hz,b,_,e,f⟩:=h.info;unfold pk at hs;split at hs
 ·rename_i k' ha hc;simp at hs;subst hs;cases d<;>simp_all
 ·simp at hs
theorem jl.map(h:jl P t ti)(hs:isMap ti=true):∃k e,P.underlying t=some (.map k e)/\ti.bT=[.map t e]/\ti.el=e/\ti.ar=k+1:=by
 obtain⟨i,z,d,j,_,hb,hz,b,_,f,g⟩:=h.info;unfold isMap at hs;split at hs
 ·rename_i t' ha hc;cases d with
  |map k e=>exact⟨k,e,by simp_all,by simp_all,by simp_all,by simp_all⟩
  |_=>simp_all
 ·simp at hs
def jl.field(h:jl P t ti){f:Nat}{g:TypeId}(hf:vl ti.fs f=some (off,g)):
 ∃fields fl,P.underlying t=some (.struct fields)/\fields[f]? =some fl/\fl.offset=off/\fl.type=g/\ti.agg=true:=by
 obtain⟨i,z,d,m,_,hb,hz,l,_,j,k⟩:=h.info;rw[OI]at hf;cases d with
 |struct fields=>
  obtain⟨ha,b,_⟩:=k;have:=b f;rw[hf]at this;cases e:fields[f]? with
  |none=>rw[e]at this;simp at this
  |some fl=>rw[e]at this;simp at this;exact⟨fields,fl,j,e,this.1,this.2,ha⟩
 |_=>simp_all
def valOf(ti:TI)(vs:List Value):Value:=if ti.agg then .agg ⟨vs⟩else vs.headD undef
def mw(h:jl P t ti){vs:List Value}{ps:List PV}(hl:ps.length=ti.bT.length)(b:eJ tt E Pp vs ps):VR tt E Pp (valOf ti vs) (fa ti ps):=by
 unfold valOf fa;cases ha:ti.agg with
 |true=>simpa using .agg _ _ b
 |false=>
  obtain⟨c,hc⟩:=h.single ha;rw[hc]at hl;cases b with
  |nil=>simp at hl
  |cons v p vs ps b d=>
   cases d with
   |nil=>simpa using b
   |cons _ _ _ _ _ _=>simp at hl
def fg(b o n:Nat):Addr.add ⟨b,o,none⟩ n=⟨b,o+n,none⟩:=Addr.add_lit b o n
def sN(h:jl P t ti){b o:Nat}{vs:List Value}(hl:vs.length=ti.bT.length)
 (hc:∀(j:Nat) v,vs[j]? =some v->w.cell? ⟨b,o+j,none⟩=some v):(loadVar t ⟨b,o,none⟩).run P w= .ok (valOf ti vs) w:=by
 obtain⟨h1,h2,_,_⟩:=h.run w;unfold loadVar valOf;simp only[Sem.run_bind,h1,Result.andThen_ok];cases ha:ti.agg with
 |true=>simp only[if_true,Sem.run_bind,h2,Result.andThen_ok];rw[<- hl,run_loadCells_list w ⟨b,o,none⟩ vs (λj v e=>by rw[fg];exact hc j v e)];simp
 |false=>
  obtain⟨c,d⟩:=h.single ha;rw[d]at hl
  match vs,hl with
  |[v],_=>simp[show w.cell? ⟨b,o,none⟩=some v from by simpa using hc 0 v rfl]
def A7{v:Value}{d:D}(h:RD tt Pp c v d):VR tt E Pp v (sY dz c d):=by
 cases h with
 |int=>exact .int _ _
 |bool=>exact .bool _
 |str=>exact .str _
 |slnil=>exact .lst _ _ _ (.slnil _)
 |EY _ ad=>exact .lst _ _ _ (.EY _ ad)
 |sl e b o len cap rows vf hl hc dG gR gV=>exact .lst _ _ _ (.sl e b o len cap rows vf hl hc dG gR gV)
 |zG t=>exact .dptr _ _ _ (.zG t)
 |BT t e=>exact .dmp _ _ _ _ (.BT t e)
 |I3 t e b es clock rows hl gR hk fR c8 gV=>exact .dmp _ _ _ _ (.I3 t e b es clock rows hl gR hk fR c8 gV)
 |LQ=>exact .undef _
 |OC=>exact .undef _
 |ptr t b o cs vf hl gR gV=>exact .dptr _ _ _ (.ptr t b o cs vf hl gR gV)
def pj{v:Value}{d:D}(h:KD tt Pp c v d):VR tt E Pp v (lW dz c d):=by
 rcases h with⟨e,h⟩|⟨rfl,a,b,rfl,rfl⟩
 ·cases c<;>first|exact A7 h|exact absurd rfl e
 ·exact .agg _ _ (.cons _ _ _ _ (.str _) (.cons _ _ _ _ (.str _) .nil))
def oH{g:Nat->D}:∀{off:Nat}{cs:List CK}{vs:List Value},vs.length=cs.length->
 (∀(j:Nat) c v,cs[j]? =some c->vs[j]? =some v->RD tt Pp c v (g (off+j)))->eJ tt E Pp vs (qD dz g off cs)
 |_,[],[],_,_=>.nil
 |off,c::cs,v::vs,hl,h=>.cons _ _ _ _ (A7 (by simpa using h 0 c v rfl rfl))
  (oH (yU hl) (λj c v hc b=>by have:=h (j+1) c v (yU hc) (yU b);rwa [show off+(j+1)=off+1+j by omega]at this))
 |_,[],_::_,hl,_=>yE hl
 |_,_::_,[],hl,_=>yE hl
def iL(A:pM)(g:Nat->D):∀(off:Nat)(cs:List CK),(qD A g off cs).length=cs.length
 |_,[]=>rfl
 |off,c::cs=>by simp[qD,iL A g (off+1) cs]
def H7:∀{a b:List CK},Jq a b=true->a=b
 |[],[],_=>rfl
 |a::x,b::y,h=>by simp[Jq]at h;rw[h.1,H7 h.2]
 |[],_::_,h=>by simp[Jq]at h
 |_::_,[],h=>by simp[Jq]at h
def Kd(n:Nat)(l:List CK):CX n l=l.take n:=by
 induction n generalizing l with
 |zero=>simp[CX]
 |succ n b=>cases l<;>simp[CX,b]
def L6(n:Nat)(l:List CK):En n l=l.drop n:=by
 induction n generalizing l with
 |zero=>simp[En]
 |succ n b=>cases l<;>simp[En,b]
def iC{e:TypeId}{cs:List CK}(h:hY tt e off cs=true)(j:Nat)(c:CK)(hc:cs[j]? =some c):(bR tt e)[off+j]? =some c:=by
 unfold hY at h;have:=H7 h;rw[Kd,L6,cI]at this;rw[<- this]at hc
 have c8:j<cs.length:=by
  rcases bV j cs.length with b|b
  ·exact b
  ·rw[ca yQ]at hc;simp at hc
 rw[cK c8,eM]at hc;exact hc
structure RW (tt:TypeId->Option TI) (E:List RI) (Pp:fE) (objs:List Ob) (W:World->Prop):Prop where
 pi:∀w,W w->∀ad v,Pp ad v->pc w ad=some v
 box:∀(i:Nat) cs b,objs[i]? =some (.box cs)->E[i]? =some (.box b)->∃vs,eJ tt E Pp vs cs/\∀w,W w->∀(j:Nat) v,vs[j]? =some v->w.cell? ⟨b,j,none⟩=some v
 row0:∀(i:Nat) e d wr,objs[i]? =some (.row e d wr)->E[i]? =some .row0->d= .list []
 row:∀(i:Nat) e d wr g o len cap,objs[i]? =some (.row e d wr)->E[i]? =some (.row g o len cap)->∃vs rows,d= .list rows/\rows.length=len/\wi tt Pp e vs o rows/\
  ∀w,W w->∀(j:Nat) v,vs[j]? =some v->o<=j->j<o+len*(bR tt e).length->w.cell? ⟨g,j,none⟩=some v
 ng:∀(i:Nat) e d g o len cap,objs[i]? =some (.row e d false)->E[i]? =some (.row g o len cap)->RD tt Pp (.slice e) (.slice (some ⟨g,o,none⟩) len cap) d
 map:∀(i:Nat) kc e d b bs cl,objs[i]? =some (.map kc e d)->E[i]? =some (.map b bs cl)->∀w,W w->∃es clock rows,w.heap[b]? =some (.map es clock)/\d= .list rows/\es.size=rows.length
def RW.PY(d:RW tt E Pp objs W){w:World}(e:W w){b o:Nat}{v:Value}(h:Pp ⟨b,o,none⟩ v):w.cell? ⟨b,o,none⟩=some v:=by rw[<- pd];exact d.pi w e _ _ h
def eC{b:Nat}{vs:List Value}{T:TypeId}{fr:Nat×Nat}(h:w.heap[b]? =some (.cells ⟨vs⟩ T fr))(o:Nat):w.cell? ⟨b,o,none⟩=vs[o]? :=by simp[World.cell?,h]
def OT{e b o len cap:Nat}{d:D}(n:RW tt E Pp objs W)(hr:RD tt Pp (.slice e) (.slice (some ⟨b,o,none⟩) len cap) d){i:Int}(h0:0<=i)(h1:i<len)
 {cs:List CK} (hk:hY tt e off cs=true):
 ∃vs:List Value,vs.length=cs.length/\(∀w,W w->∀(j:Nat) v,vs[j]? =some v->w.cell? ⟨b,o+i.toNat*(bR tt e).length+off+j,none⟩=some v)/\eJ tt E Pp vs (jN dz d i off cs):=by
 cases hr with
 |EY _ ad=>exact absurd h1 yO
 |sl _ _ _ _ _ rows vf hl hc dG gR gV=>
  refine⟨(fb cs.length).map (λj=>vf i.toNat (off+j)),yS,?_,?_⟩
  ·intro w p j v h;simp at h
   obtain⟨_,m,rfl⟩:∃x,cs.length>j/\vf i.toNat (off+j)=v:=by
    rcases bV j cs.length with f|f
    ·rw[bx (yU f)]at h;simp at h;exact⟨0,f,h⟩
    ·rw[ca (yU f)]at h;simp at h
   have g:=iC hk j cs[j] (bx m)
   have c8:off+j<(bR tt e).length:=by
    rcases bV (off+j) (bR tt e).length with f|f
    ·exact f
    ·rw[ca f]at g;simp at g
   have:=n.PY p (gR i.toNat (off+j) yO c8);rw[<- this,eY]
  ·refine oH yS ?_;intro j c v hc h
   have m:j<cs.length:=by
    rcases bV j cs.length with f|f
    ·exact f
    ·rw[ca f]at hc;simp at hc
   simp[m]at h;subst h;have g:=iC hk j c hc
   have c8:off+j<(bR tt e).length:=by
    rcases bV (off+j) (bR tt e).length with f|f
    ·exact f
    ·rw[ca f]at g;simp at g
   have r:i.toNat<rows.length:=yO;have k:rows[i.toNat]? =some rows[i.toNat]:=bx r;have q:=dG _ _ k;have l:(rows[i.toNat])[off+j]? =some ((rows[i.toNat])[off+j]'yO):=bx yO;have:=gV _ _ _ _ _ k l g;simpa[dz,cn,cc,k,l]using this
def Aw{t b o:Nat}{d:D}(k:RW tt E Pp objs W)(hr:RD tt Pp (.ptr t) (.pointer (some ⟨b,o,none⟩)) d)
 {cs:List CK} (hk:hY tt t off cs=true):
 ∃vs:List Value,vs.length=cs.length/\(∀w,W w->∀(j:Nat) v,vs[j]? =some v->w.cell? ⟨b,o+off+j,none⟩=some v)/\eJ tt E Pp vs (xX dz d off cs):=by
 cases hr with
 |ptr _ _ _ ds vf hl gR gV=>
  have c8:∀j,j<cs.length->off+j<(bR tt t).length:=by
   intro j g;have f:=iC hk j cs[j] (bx g);rcases bV (off+j) (bR tt t).length with e|e
   ·exact e
   ·rw[ca e]at f;simp at f
  refine⟨(fb cs.length).map (λj=>vf (off+j)),yS,?_,?_⟩
  ·intro w l j v h;rcases bV j cs.length with g|e
   ·simp[g]at h;subst h;have:=k.PY l (gR (off+j) (c8 j g));rw[<- this,eY]
   ·rw[ca (yU e)]at h;simp at h
  ·refine oH yS ?_;intro j c v hc h
   have g:j<cs.length:=by
    rcases bV j cs.length with e|e
    ·exact e
    ·rw[ca e]at hc;simp at hc
   simp[g]at h;subst h;have f:=iC hk j c hc;have:=c8 j g;have i:ds[off+j]? =some (ds[off+j]'yO):=bx yO;have:=gV _ _ _ i f;simpa[dz,Tj,cc,i]using this
def KL{e r g o len cap:Nat}{d:D}{wr:Bool}(x:RW tt E Pp objs W)(A:objs[r]? =some (.row e d wr))(y:E[r]? =some (.row g o len cap)){i:Int}(h0:0<=i)(h1:i<len)
 {cs:List CK} (hk:hY tt e off cs=true):
 ∃vs:List Value,vs.length=cs.length/\(∀w,W w->∀(j:Nat) v,vs[j]? =some v->w.cell? ⟨g,o+i.toNat*(bR tt e).length+off+j,none⟩=some v)/\eJ tt E Pp vs (jN dz d i off cs):=by
 obtain⟨vals,rows,rfl,hl,dG,m⟩:=x.row r _ _ _ _ _ _ _ A y
 have c8:∀j,j<cs.length->off+j<(bR tt e).length:=by
  intro j l;have f:=iC hk j cs[j] (bx l);rcases bV (off+j) (bR tt e).length with k|k
  ·exact k
  ·rw[ca k]at f;simp at f
 have C:i.toNat<rows.length:=yO;have p:rows[i.toNat]? =some rows[i.toNat]:=bx C;obtain⟨B,b⟩:=dG _ _ p;refine⟨(fb cs.length).map (λj=>vals.getD (o+i.toNat*(bR tt e).length+(off+j)) undef),yS,?_,?_⟩
 ·intro w z j v h;rcases bV j cs.length with l|k
  ·simp[l]at h;subst h;have f:=iC hk j cs[j] (bx l);have:=c8 j l;obtain⟨v,h,_⟩:=b (off+j) _ _ (bx yO) f;have q:=m w z _ _ h yO (by have:(i.toNat+1)*(bR tt e).length<=len*(bR tt e).length:=cW _ yO;rw[c9]at this;omega);rw[eY _ off j,q,h];simp
  ·rw[ca (yU k)]at h;simp at h
 ·refine oH yS ?_;intro j c v hc h
  have l:j<cs.length:=by
   rcases bV j cs.length with k|k
   ·exact k
   ·rw[ca k]at hc;simp at hc
  simp[l]at h;have f:=iC hk j c hc;have:=c8 j l;have n:(rows[i.toNat])[off+j]? =some ((rows[i.toNat])[off+j]'yO):=bx yO;obtain⟨F,u,gV⟩:=b (off+j) _ _ n f;rw[u]at h;simp at h;subst h;simpa[dz,cn,cc,p,n]using gV
end
end
section
variable [Inhabited pB]
open Go
section
variable {P:Program}{tt:TypeId->Option TI}{E:List RI}{Pp:fE}{objs:List Ob}{w:World}{W:World->Prop}
variable {t e:TypeId}{K:PV->Prop}{op:BinOp}{ti:TI}{x:Sem Value}{k:IntKind}{y:Operand}{b:Bool}{v:Value}{p:PV}{q:Array TypeId}
def Qk(P:Program)(tt:TypeId->Option TI)(E:List RI)(Pp:fE)(W:World->Prop)(x:Sem Next)(K:PV->Prop):Prop:=∃v pv,(∀w,W w->x.run P w= .ok (.value v) w)/\VR tt E Pp v pv/\K pv
def gW(P:Program)(tt:TypeId->Option TI)(E:List RI)(Pp:fE)(W:World->Prop)(x:Sem Value)(K:PV->Prop):Prop:=∃v pv,(∀w,W w->x.run P w= .ok v w)/\VR tt E Pp v pv/\K pv
def gW.lift(h:gW P tt E Pp W x K):Qk P tt E Pp W (do pure (.value (<- x))) K:=by obtain⟨v,pv,h1,h2,h3⟩:=h;exact⟨v,pv,λw a=>by simp[h1 w a],h2,h3⟩
def qY{n:Int}(h:k.min<=n/\n<=k.max):k.wrap n=n:=by obtain⟨h1,h2⟩:=h;cases k<;>simp[IntKind.wrap,IntKind.min,IntKind.max,IntKind.signed,IntKind.bits]at* <;>omega
def O2{x:Operand}{a b:Int}(h:Mu dz op k a b K):
 gW P tt E Pp W (do eqGuard op t x y (.int k a) (.int k b);binOp op t (.int k a) (.int k b)) K:=by
 cases op<;>simp only[Mu]at h
 case add=>
  rcases h with⟨hr,h⟩|h
  ·exact⟨.int k (a+b),_,by intro w _;simp[eqGuard_at_int,binOp_add,Op.intArith,qY hr],.int _ _,h trivial⟩
  ·exact⟨.int k (k.wrap (a+b)),_,by intro w _;simp[eqGuard_at_int,binOp_add,Op.intArith],.int _ _,h trivial⟩
 case sub=>
  rcases h with⟨hr,h⟩|h
  ·exact⟨.int k (a-b),_,by intro w _;simp[eqGuard_at_int,binOp_sub,Op.intArith,qY hr],.int _ _,h trivial⟩
  ·exact⟨.int k (k.wrap (a-b)),_,by intro w _;simp[eqGuard_at_int,binOp_sub,Op.intArith],.int _ _,h trivial⟩
 case mul=>
  rcases h with⟨hr,h⟩|h
  ·exact⟨.int k (a*b),_,by intro w _;simp[eqGuard_at_int,binOp_mul,Op.intArith,qY hr],.int _ _,h trivial⟩
  ·exact⟨.int k (k.wrap (a*b)),_,by intro w _;simp[eqGuard_at_int,binOp_mul,Op.intArith],.int _ _,h trivial⟩
 case quo=>obtain⟨h0,hr,h⟩:=h;exact⟨.int k (a.tdiv b),_,by intro w _;simp[eqGuard_at_int,binOp_quo,Op.intDiv,h0,qY hr],.int _ _,h⟩
 case rem=>obtain⟨h0,h⟩:=h;exact⟨.int k (a.tmod b),_,by intro w _;simp[eqGuard_at_int,binOp_rem,Op.intDiv,h0],.int _ _,h⟩
 case eql=>exact⟨.bool (a==b),_,by intro w _;simp only[eqGuard_at_int,binOp_eql,Sem.run_bind,Sem.run_pure,Result.andThen_ok],.bool _,h⟩
 case neq=>exact⟨.bool (!(a==b)),_,by intro w _;simp only[eqGuard_at_int,binOp_neq,Sem.run_bind,Sem.run_pure,Result.andThen_ok,bne],.bool _,h⟩
 case lss=>exact⟨.bool (a<b),_,by intro w _;simp only[eqGuard_at_int,binOp_lss,Sem.run_bind,Sem.run_pure,Result.andThen_ok],.bool _,h⟩
 case leq=>exact⟨.bool (a<=b),_,by intro w _;simp only[eqGuard_at_int,binOp_leq,Sem.run_bind,Sem.run_pure,Result.andThen_ok],.bool _,h⟩
 case gtr=>exact⟨.bool (a>b),_,by intro w _;simp only[eqGuard_at_int,binOp_gtr,Sem.run_bind,Sem.run_pure,Result.andThen_ok],.bool _,h⟩
 case geq=>exact⟨.bool (a>=b),_,by intro w _;simp only[eqGuard_at_int,binOp_geq,Sem.run_bind,Sem.run_pure,Result.andThen_ok],.bool _,h⟩
def lK:∀(a b:List UInt8),(Op.bytesLess a b||(a==b))= !Op.bytesLess b a
 |[],[]=>rfl
 |[],_::_=>rfl
 |_::_,[]=>rfl
 |x::a,y::b=>by
  have f:=lK a b;by_cases c:x=y
  ·subst c;have c8:decide (x<x)=false:=yS;simp only[Op.bytesLess,c8,Bool.false_or,beq_self_eq_true,ka];rw[<- f]
   congr 1
   simp[BEq.beq,List.beq]
  ·have h1:(x==y)=false:=yU c;have h2:(y==x)=false:=by simpa usingλh=>c h.symm
   have h3:((x::a)==(y::b))=false:=by simp[c]
   simp only[Op.bytesLess,h1,h2,h3,n9,Bool.or_false];rcases UInt8.lt_or_lt_of_ne c with h|h
   ·have d:¬y<x:=UInt8.lt_asymm h;simp[h,d]
   ·have d:¬x<y:=UInt8.lt_asymm h;simp[h,d]
def O1{x:Operand}{a b:ByteArray}(h:Ms dz op a.data.toList b.data.toList K):
 gW P tt E Pp W (do eqGuard op t x y (.string a) (.string b);binOp op t (.string a) (.string b)) K:=by
 have go:∀v pv,(∀w,W w->(binOp op t (.string a) (.string b)).run P w= .ok v w)->VR tt E Pp v pv->K pv->
  gW P tt E Pp W (do eqGuard op t x y (.string a) (.string b);binOp op t (.string a) (.string b)) K:=by
  intro v pv h1 h2 h3;exact⟨v,pv,λw c=>by simp only[eqGuard_at_string,Sem.run_bind,Sem.run_pure,Result.andThen_ok,h1 w c],h2,h3⟩
 cases op<;>simp only[Ms]at h
 case eql=>exact go (.bool (a.data.toList==b.data.toList)) _ (by intro w _;simp only[binOp,Op.stringOp,ByteArray.toList_eq,Sem.run_pure]) (.bool _) h
 case neq=>exact go (.bool (!(a.data.toList==b.data.toList))) _ (by intro w _;simp only[binOp,Op.stringOp,ByteArray.toList_eq,Sem.run_pure]) (.bool _) h
 case lss=>exact go (.bool (Op.bytesLess a.data.toList b.data.toList)) _ (by intro w _;simp only[binOp,Op.stringOp,ByteArray.toList_eq,Sem.run_pure]) (.bool _) h
 case gtr=>exact go (.bool (Op.bytesLess b.data.toList a.data.toList)) _ (by intro w _;simp only[binOp,Op.stringOp,ByteArray.toList_eq,Sem.run_pure,lK,Ik]) (.bool _) h
 case leq=>exact go (.bool (!Op.bytesLess b.data.toList a.data.toList)) _ (by intro w _;simp only[binOp,Op.stringOp,ByteArray.toList_eq,Sem.run_pure,lK]) (.bool _) h
 case geq=>exact go (.bool (!Op.bytesLess a.data.toList b.data.toList)) _ (by intro w _;simp only[binOp,Op.stringOp,ByteArray.toList_eq,Sem.run_pure]) (.bool _) h
 case add=>
  obtain⟨hr,h⟩:=h;have hs:¬((a.size+b.size:Nat):Int)>IntKind.i64.max:=by have:=hr.2;have e1:a.data.toList.length=a.size:=yS;have e2:b.data.toList.length=b.size:=yS;simp only[e1,e2]at this;omega
  refine go (.string (a++b)) (.str (a++b).data.toList) ?_ (.str _) (yU h);intro w _;simp only[binOp,Op.stringOp];rw[if_neg hs];rfl
def wT(a:∀v,v=(if op= .eql then b else !b)->(op= .eql\/op= .neq)->∀w,W w->x.run P w= .ok (.bool v) w)(h:GG dz op b K):gW P tt E Pp W x K:=by
 cases op<;>simp only[GG]at h
 case eql=>exact⟨.bool b,_,a _ yS yS,.bool _,h⟩
 case neq=>exact⟨.bool (!b),_,a _ yS yS,.bool _,h⟩
def Et{c:CK}(h:zg c p=true)(a:VR tt E Pp v p):isScalar c v:=by cases c<;>cases a<;>simp_all[zg,isScalar]
def px:∀{cs:List CK}{vs:List Value}{ps:List PV},jt cs ps=true->eJ tt E Pp vs ps->vs.length=cs.length/\∀(j:Nat) c u,cs[j]? =some c->vs[j]? =some u->isScalar c u
 |[],vs,[],_,a=>by cases a;exact⟨rfl,λj c u h=>yE h⟩
 |c::cs,vs,p::ps,h,a=>by
  simp only[jt,bw]at h;cases a with
  |cons v _ vs _ h1 h2=>
   obtain⟨hl,f⟩:=px h.2 h2;refine⟨by simp[hl],?_⟩;intro j d u hc hu;cases j with
   |zero=>simp at hc hu;subst hc hu;exact Et h.1 h1
   |succ j=>exact f j d u (yU hc) (yU hu)
 |[],_,_::_,h,_=>by simp[jt]at h
 |_::_,_,[],h,_=>by simp[jt]at h
def OP{u:Value}{q:PV}(h:Rr dz p q=some b)(hu:VR tt E Pp u p)(a:VR tt E Pp v q):SJ u v=b:=by cases hu<;>cases a<;>simp_all[Rr,SJ]
def Ej:∀{us vs:List Value}{ps f:List PV}{b:Bool},yV dz ps f=some b->eJ tt E Pp us ps->eJ tt E Pp vs f->uQ us vs=b
 |us,vs,[],[],b,h,hu,g=>by cases hu;cases g;simpa[yV,uQ]using h
 |us,vs,p::ps,q::f,b,h,hu,g=>by
  cases hu with
  |cons u _ us _ i l=>
  cases g with
  |cons v _ vs _ j a=>
  simp only[yV]at h;split at h
  ·rename_i c d hc m;have h1:=OP hc i j;have h2:=Ej m l a;simp only[uQ,h1,h2];simpa using h
  ·simp at h
 |_,_,[],_::_,_,h,_,_=>by simp[yV]at h
 |_,_,_::_,[],_,h,_,_=>by simp[yV]at h
def jl.bool(h:jl P t ti)(hs:isBool ti=true):P.underlying t=some .bool:=by
 obtain⟨i,z,d,g,_,hb,hz,a,_,c,f⟩:=h.info;unfold isBool at hs;split at hs
 ·rename_i ha hc;cases d<;>simp_all
 ·simp at hs
def jl.ptr(h:jl P t ti)(hs:sf ti=true):∃e,P.underlying t=some (.pointer e):=by
 obtain⟨i,z,d,g,_,hb,hz,a,_,c,f⟩:=h.info;unfold sf at hs;split at hs
 ·rename_i ha hc;cases d<;>simp_all
 ·simp at hs
def jl.fn(h:jl P t ti)(hs:yx ti=true):∃a b c,P.underlying t=some (.func a b c):=by
 obtain⟨i,z,d,l,_,hb,hz,f,_,g,j⟩:=h.info;unfold yx at hs;split at hs
 ·rename_i ha hc;cases d<;>simp_all
 ·simp at hs
def Gn{p:Array TypeId}{v:Bool}(d:Nat)(h:P.underlying t=some (.func p q v)):(∀f a c,(Op.equalIn (d+1) t (.func f a c) .nilFunc).run P w= .ok false w)/\(Op.equalIn (d+1) t .nilFunc .nilFunc).run P w= .ok true w:=⟨λf a c=>by simp[Op.equalIn,run_underlying h],by simp[Op.equalIn,run_underlying h]⟩
def ue{p:Array TypeId}{v:Bool}(h:P.underlying t=some (.func p q v)):(∀f a c,(Op.equal t (.func f a c) .nilFunc).run P w= .ok false w)/\(Op.equal t .nilFunc .nilFunc).run P w= .ok true w:=Gn 9999 h
def B8(d:Nat)(h:P.underlying t=some .bool)(a b:Bool):(Op.equalIn (d+1) t (.bool a) (.bool b)).run P w= .ok (a==b) w:=by simp[Op.equalIn,run_underlying h]
def Gm(h:P.underlying t=some .bool)(a b:Bool):(Op.equal t (.bool a) (.bool b)).run P w= .ok (a==b) w:=B8 9999 h a b
def Eh(d:Nat)(h:P.underlying t=some (.pointer e))(a:Option Addr):(Op.equalIn (d+1) t (.pointer a) (.pointer none)).run P w= .ok a.isNone w:=by cases a<;>simp[Op.equalIn,run_underlying h,samePointer]
def j7(h:P.underlying t=some (.pointer e))(a:Option Addr):(Op.equal t (.pointer a) (.pointer none)).run P w= .ok a.isNone w:=Eh 9999 h a
end
end
section
variable [Inhabited pB]
open Go
section
variable {P:Program}{tt:TypeId->Option TI}{E:List RI}{Pp:fE}{objs:List Ob}{w:World}{W:World->Prop}
variable {t ty:TypeId}{ti:TI}{b off o:Nat}{vs:List Value}{a:Act}{s:cU}{x y:Operand}{K:PV->Prop}{cs:List PV}{op:BinOp}
def DP(e:jl P t ti)(p:RW tt E Pp objs W){gv:Nat}(q:E[b]? =some (.box gv))(f:ew objs b= .box cs)
 (m:off+ti.bT.length<=cs.length):∃v,(∀w,W w->(Instr.loadAt t (.pointer (some ⟨gv,off,none⟩))).run P w= .ok v w)/\VR tt E Pp v (fa ti ((cs.drop off).take ti.bT.length)):=by
 rw[rJ]at f
 have l:objs[b]? =some (.box cs):=by
  cases n:objs[b]? with
  |none=>simp[cc,n]at f
  |some o=>simp[cc,n]at f;rw[f]
 obtain⟨vs,d,c⟩:=p.box b _ _ l q;have h:=(d.drop off).take ti.bT.length;have u:=d.length;have hl:((vs.drop off).take ti.bT.length).length=ti.bT.length:=yQ;refine⟨valOf ti ((vs.drop off).take ti.bT.length),?_,mw e yQ h⟩;intro w r
 have:=sN (P:=P) (w:=w) e (b:=gv) (o:=off) hl (by
  intro j v g
  have k:j<ti.bT.length:=by
   rcases bV j ti.bT.length with i|i
   ·exact i
   ·rw[ca (by rw[hl];exact i)]at g;simp at g
  rw[cK k,eM]at g;exact c w r _ _ g)
 simpa[Instr.loadAt,Instr.sureAddr]using this
def I9(c:jl P t ti)(k:RW tt E Pp objs W)(hl:eJ tt E Pp vs cs)
 (gR:∀(j:Nat) v,vs[j]? =some v->Pp ⟨b,o+j,none⟩ v) (i:off+ti.bT.length<=cs.length):
 ∃v,(∀w,W w->(Instr.loadAt t (.pointer (some ⟨b,o+off,none⟩))).run P w= .ok v w)/\VR tt E Pp v (fa ti ((cs.drop off).take ti.bT.length)):=by
 have f:=(hl.drop off).take ti.bT.length;have m:=hl.length;have d:((vs.drop off).take ti.bT.length).length=ti.bT.length:=yQ;refine⟨valOf ti ((vs.drop off).take ti.bT.length),?_,mw c yQ f⟩;intro w l
 have:=sN (P:=P) (w:=w) c (b:=b) (o:=o+off) d (by
  intro j v e
  have h:j<ti.bT.length:=by
   rcases bV j ti.bT.length with g|g
   ·exact g
   ·rw[ca (by rw[d];exact g)]at e;simp at e
  rw[cK h,eM]at e;have:=k.PY l (gR _ _ e);rw[<- this,eY])
 simpa[Instr.loadAt,Instr.sureAddr]using this
def pg(c:jl P t ti){ps:List PV}(hl:vs.length=ti.bT.length)(d:ps.length=ti.bT.length)
 (hc:∀w,W w->∀(j:Nat) v,vs[j]? =some v->w.cell? ⟨b,o+j,none⟩=some v) (e:eJ tt E Pp vs ps):
 ∃v,(∀w,W w->(Instr.loadAt t (.pointer (some ⟨b,o,none⟩))).run P w= .ok v w)/\VR tt E Pp v (fa ti ps):=by
 refine⟨valOf ti vs,?_,mw c d e⟩;intro w f;simpa[Instr.loadAt,Instr.sureAddr]using sN (P:=P) (w:=w) c hl (hc w f)
def On(B:ec P tt)(m:RW tt E Pp objs W)(hs:∀t,VR tt E Pp (a.tmps.getD t undef) (look s t))
 (h:cF dz tt (.load t x) ty s objs K):gW P tt E Pp W (Instr.loadAt t (a.eval x)) K:=by
 simp only[cF]at h;split at h
 ·exact h.elim
 rename_i ti p;have k:=B _ _ p;have c:=eG hs x;simp only[cI,tp,y9]at h;split at h
 ·rename_i b off j;rw[j]at c;split at h
  ·rename_i cs n;cases hb:(ir off dB&&ir (off+ti.bT.length) cs.length)with
   |false=>rw[hb]at h;exact h.elim
   |true=>
    rw[hb]at h;rw[bw]at hb;generalize a.eval x=u at c ⊢;cases c with
    |box _ _ _ gv q hu=>obtain rfl:=hu.get hb.1;obtain⟨v,h1,h2⟩:=DP k m q n (dK hb.2);exact⟨v,_,h1,h2,h⟩
  ·exact h.elim
 ·rename_i e d i off j;rw[j]at c;cases hb:hY tt e off ti.bT with
  |false=>rw[hb]at h;exact h.elim
  |true=>
   rw[hb]at h;generalize a.eval x=u at c ⊢;cases c with
   |js _ _ _ _ gv o len cap hr h0 h1=>obtain⟨vs,hl,hc,f⟩:=OT m hr h0 h1 hb;obtain⟨v,h1,h2⟩:=pg k hl (iL _ _ _ _) hc f;exact⟨v,_,h1,h2,h⟩
 ·rename_i e r i off j;rw[j]at c;cases hm:nb off dB with
  |true=>rw[hm]at h;exact h.elim
  |false=>
  rw[hm]at h;simp only[cond_false]at h;split at h
  ·rename_i e' d wr n;cases l:(nb e e'&&hY tt e off ti.bT)with
   |false=>rw[l]at h;exact h.elim
   |true=>
    rw[l]at h;simp only[bw]at l;obtain⟨he,hb⟩:=l;have A:e=e':=cR he;subst A;generalize a.eval x=u at c ⊢;rw[rJ]at n
    have z:objs[r]? =some (.row e d wr):=by
     cases j:objs[r]? with
     |none=>simp[cc,j]at n
     |some o=>simp[cc,j]at n;rw[n]
    cases c with
    |fH _ _ _ _ _ g o len cap q h0 hu=>obtain⟨rfl,h1⟩:=hu.get hm;obtain⟨vs,hl,hc,f⟩:=KL m z q h0 h1 hb;obtain⟨v,h1,h2⟩:=pg k hl (iL _ _ _ _) hc f;exact⟨v,_,h1,h2,h⟩
  ·exact h.elim
 ·rename_i cs off j;rw[j]at c;cases hm:nb off dB with
  |true=>rw[hm]at h;exact h.elim
  |false=>
  rw[hm]at h;cases hb:ir (off+ti.bT.length) cs.length with
  |false=>simp only[hb]at h;exact h.elim
  |true=>
   simp only[hb]at h;generalize a.eval x=u at c ⊢;cases c with
   |cP _ vs _ _ b o hu hl gR=>obtain rfl:=hu.get hm;obtain⟨v,h1,h2⟩:=I9 k m hl gR (dK hb);exact⟨v,_,h1,h2,h⟩
 ·rename_i t' d off j;rw[j]at c;cases hb:hY tt t' off ti.bT with
  |false=>rw[hb]at h;exact h.elim
  |true=>
   rw[hb]at h;generalize a.eval x=u at c ⊢;cases c with
   |rK _ _ _ b o hr=>obtain⟨vs,hl,hc,f⟩:=Aw m hr hb;obtain⟨v,h1,h2⟩:=pg k hl (iL _ _ _ _) hc f;exact⟨v,_,h1,h2,h⟩
 ·rename_i t' d j;rw[j]at c;cases hb:hY tt t' 0 ti.bT with
  |false=>rw[hb]at h;exact h.elim
  |true=>
   rw[hb]at h;obtain⟨C,h⟩:=h;generalize a.eval x=u at c ⊢;cases c with
   |dptr _ _ _ hr=>
    cases hr with
    |zG=>simp at C
    |ptr _ b o ds vf hl gR gV=>obtain⟨vs,hl,hc,f⟩:=Aw m (.ptr _ b o ds vf hl gR gV) hb;obtain⟨v,h1,h2⟩:=pg k hl (iL _ _ _ _) (yU hc) f;exact⟨v,_,h1,h2,h⟩
 ·exact h.elim
def GF(d:ec P tt){m n:Bool}(h:nC dz (tt t) op (m==n) K):
 gW P tt E Pp W (do eqGuard op t x y (.bool m) (.bool n);binOp op t (.bool m) (.bool n)) K:=by
 unfold nC at h;split at h
 ·rename_i ti c;cases hk:isBool ti with
  |false=>rw[hk]at h;exact h.elim
  |true=>rw[hk]at h;have hb:=(d _ _ c).bool hk;refine wT ?_ h;intro v e f w _;rcases f with rfl|rfl<;>simp[eqGuard_at_bool,binOp,Gm hb,e]
 ·exact h.elim
def Mt(r:ec P tt)(hs:∀t,VR tt E Pp (a.tmps.getD t undef) (look s t)){N:TypeId}
 (h:cF dz tt (.binOp op t x y N) ty s objs K):gW P tt E Pp W (do eqGuard op t x y (a.eval x) (a.eval y);binOp op t (a.eval x) (a.eval y)) K:=by
 simp only[cF]at h;have i:=eG hs x;have l:=eG hs y;split at h
 ·rename_i A
  have I:a.eval y= .slice none 0 0:=by
   unfold lI at A;split at A
   ·rfl
   ·cases A
  split at h
  ·rename_i Q d ti j J;rw[j]at i;split at h
   ·rename_i e H;obtain⟨hu,_,_⟩:=(r _ _ J).slice H;generalize a.eval x=u at*;rw[I];cases i with
    |lst _ _ _ hr=>
     cases hr with
     |slnil=>exact⟨.bool true,_,by intro w _;simp[eqGuard,Go.Lib.run_eql_slice_nil w t _ none 0 0 0 0 hu],.bool _,h true (λ_=>by simp[dz,cn])⟩
     |EY _ ad=>exact⟨.bool false,_,by intro w _;simp[eqGuard,Go.Lib.run_eql_slice_nil w t _ (some ad) 0 0 0 0 hu],.bool _,h false (λh=>yC h)⟩
     |sl _ b o len cap rows vf hl hc dG gR gV=>exact⟨.bool false,_,by intro w _;simp[eqGuard,Go.Lib.run_eql_slice_nil w t _ (some ⟨b,o,none⟩) len cap 0 0 hu],.bool _,h false (λh=>yC h)⟩
   ·exact h.elim
  ·exact h.elim
 generalize a.eval x=u at*;generalize a.eval y=v at*;split at h
 ·rename_i k m k' n j z;rw[j]at i;rw[z]at l;cases i;cases l;cases hk:Gb k k' with
  |false=>rw[hk]at h;exact h.elim
  |true=>
   rw[hk]at h;have:k=k':=by simpa[Gb]using hk
   subst this;exact O2 h
 ·rename_i m n j z;rw[j]at i;rw[z]at l;cases i;cases l;exact O1 h
 ·rename_i t' d j z;rw[j]at i;rw[z]at l;cases l;split at h
  ·rename_i ti g;cases hk:sf ti with
   |false=>rw[hk]at h;exact h.elim
   |true=>
    rw[hk]at h;obtain⟨e,he⟩:=(r _ _ g).ptr hk;cases i with
    |dptr _ _ _ hr=>
     cases hr with
     |zG=>refine wT ?_ h;intro v G F w _;rcases F with rfl|rfl<;>simp[eqGuard_at_pointer,binOp,j7 he,G]
     |ptr _ b o ds vf hl gR gV=>refine wT ?_ h;intro v G F w _;rcases F with rfl|rfl<;>simp[eqGuard_at_pointer,binOp,j7 he,G]
  ·exact h.elim
 ·rename_i cs off j z;rw[j]at i;rw[z]at l;cases l;cases hm:nb off dB with
  |true=>rw[hm]at h;exact h.elim
  |false=>
  rw[hm]at h;simp only[cond_false]at h;split at h
  ·rename_i ti g;cases hk:sf ti with
   |false=>rw[hk]at h;exact h.elim
   |true=>
    rw[hk]at h;obtain⟨e,he⟩:=(r _ _ g).ptr hk;cases i with
    |cP _ vs _ _ b o hu _ _=>
     obtain rfl:=hu.get hm
     cases op<;>first
      |exact h.elim
      |exact⟨.bool false,_,by intro w _;simp[eqGuard_at_pointer,binOp,j7 he],.bl _,h⟩
      |exact⟨.bool true,_,by intro w _;simp[eqGuard_at_pointer,binOp,j7 he],.bl _,h⟩
  ·exact h.elim
 ·rename_i R off j z;rw[j]at i;rw[z]at l;cases l;split at h
  ·rename_i ti g;cases hk:(sf ti&&ir _ dB)with
   |false=>rw[hk]at h;exact h.elim
   |true=>
    rw[hk]at h;rw[bw]at hk;obtain⟨e,he⟩:=(r _ _ g).ptr hk.1;cases i with
    |box _ _ _ gv _ hu=>
     obtain rfl:=hu.get hk.2
     cases op<;>first
      |exact h.elim
      |exact⟨.bool false,_,by intro w _;simp[eqGuard_at_pointer,binOp,j7 he],.bl _,h⟩
      |exact⟨.bool true,_,by intro w _;simp[eqGuard_at_pointer,binOp,j7 he],.bl _,h⟩
  ·exact h.elim
 ·rename_i j z;rw[j]at i;rw[z]at l;cases l;split at h
  ·rename_i ti g;cases hk:yx ti with
   |false=>rw[hk]at h;exact h.elim
   |true=>
    rw[hk]at h;obtain⟨p,q,v,he⟩:=(r _ _ g).fn hk;cases i with
    |cy _ f' _ _ hu _=>
    obtain⟨f,a,c,rfl⟩:=mS.fn hu
    cases op<;>first
     |exact h.elim
     |exact⟨.bool false,_,by intro w _;simp[eqGuard_at_func,binOp,(ue he).1],.bl _,h⟩
     |exact⟨.bool true,_,by intro w _;simp[eqGuard_at_func,binOp,(ue he).1],.bl _,h⟩
  ·exact h.elim
 ·rename_i j z;rw[j]at i;rw[z]at l;cases i;cases l;split at h
  ·rename_i ti g;cases hk:yx ti with
   |false=>rw[hk]at h;exact h.elim
   |true=>
    rw[hk]at h;obtain⟨p,q,v,he⟩:=(r _ _ g).fn hk
    cases op<;>first
     |exact h.elim
     |exact⟨.bool false,_,by intro w _;simp[eqGuard_at_nilFunc,binOp,(ue he).2],.bl _,h⟩
     |exact⟨.bool true,_,by intro w _;simp[eqGuard_at_nilFunc,binOp,(ue he).2],.bl _,h⟩
  ·exact h.elim
 ·rename_i j z;rw[j]at i;rw[z]at l;cases l;split at h
  ·rename_i ti g;cases hk:sf ti with
   |false=>rw[hk]at h;exact h.elim
   |true=>
    rw[hk]at h;obtain⟨e,he⟩:=(r _ _ g).ptr hk;cases i with
    |nilp=>
     cases op<;>first
      |exact h.elim
      |exact⟨.bool true,_,by intro w _;simp[eqGuard_at_pointer,binOp,j7 he],.bl _,h⟩
      |exact⟨.bool false,_,by intro w _;simp[eqGuard_at_pointer,binOp,j7 he],.bl _,h⟩
  ·exact h.elim
 ·rename_i us vs j z;rw[j]at i;rw[z]at l;split at h
  ·rename_i ti g;cases hk:(ti.yW&&jt ti.bT us&&jt ti.bT vs)with
   |false=>rw[hk]at h;exact h.elim
   |true=>
    rw[hk]at h;simp only[bw]at hk;obtain⟨⟨h1,h2⟩,h3⟩:=hk;obtain⟨_,B,_⟩:=(r _ _ g).eqs h1;cases i with
    |agg xs _ C=>
    cases l with
    |agg ys _ D=>
     obtain⟨l1,O⟩:=px h2 C;obtain⟨l2,M⟩:=px h3 D;split at h
     ·rename_i b hb;have L:=Ej hb C D;refine wT ?_ h;intro v G F w _;rw[B op x y xs ys w F l1 l2 O M,G,L]
     ·exact h.elim
  ·exact h.elim
 all_goals first
  |exact h.elim
  |(rename_i m n j z
    rw[j]at i;rw[z]at l;cases i;cases l;exact GF r h)
def mT{v:Value}{q:PV}(h:VR tt E Pp v q)(j:flat q≠[]):eJ tt E Pp v.cells.toList (flat q):=by
 cases h with
 |undef=>simp[flat]at j
 |agg vs cs hl=>exact hl
 |lst e v d hr=>cases hr<;>exact .cons _ _ _ _ (.lst _ _ _ (by constructor<;>assumption)) .nil
 |nx e a n d hr=>exact .cons _ _ _ _ (.nx _ _ _ _ hr) .nil
 |dptr t v d hr=>cases hr<;>exact .cons _ _ _ _ (.dptr _ _ _ (by constructor<;>assumption)) .nil
 |int=>exact .cons _ _ _ _ (.int _ _) .nil
 |bl=>exact .cons _ _ _ _ (.bl _) .nil
 |bool=>exact .cons _ _ _ _ (.bool _) .nil
 |str=>exact .cons _ _ _ _ (.str _) .nil
 |nilp=>exact .cons _ _ _ _ .nilp .nil
 |nilm=>exact .cons _ _ _ _ .nilm .nil
 |lf=>exact .cons _ _ _ _ .lf .nil
 |nilf=>exact .cons _ _ _ _ .nilf .nil
 |tup vs cs hl=>exact .cons _ _ _ _ (.tup _ _ hl) .nil
 |box _ _ off _ c hu=>
  have:v.cells.toList=[v]:=by
   by_cases g:off<=dB
   ·rw[hu.1 g];rfl
   ·rw[hu.2 (off-(dB+1)) yO];rfl
  rw[this];exact .cons _ _ _ _ (.box _ _ _ _ c hu) .nil
 |row0 _ _ c=>exact .cons _ _ _ _ (.row0 _ _ c) .nil
 |row _ _ _ _ _ _ c=>exact .cons _ _ _ _ (.row _ _ _ _ _ _ c) .nil
 |fH _ _ _ _ off _ _ _ _ c h0 h1=>
  have:v.cells.toList=[v]:=by
   by_cases g:off=dB
   ·obtain⟨⟨k,e,_⟩,_⟩:=h1.2 g;rw[e];rfl
   ·rw[(h1.1 g).1];rfl
  rw[this];exact .cons _ _ _ _ (.fH _ _ _ _ _ _ _ _ _ c h0 h1) .nil
 |js _ _ _ _ _ _ _ _ hr h0 h1=>exact .cons _ _ _ _ (.js _ _ _ _ _ _ _ _ hr h0 h1) .nil
 |cP _ _ _ off _ _ hu hl i=>
  have:v.cells.toList=[v]:=by
   by_cases g:off=dB
   ·rw[hu.2 g];rfl
   ·rw[hu.1 g];rfl
  rw[this];exact .cons _ _ _ _ (.cP _ _ _ _ _ _ hu hl i) .nil
 |rK _ _ _ _ _ hr=>exact .cons _ _ _ _ (.rK _ _ _ _ _ hr) .nil
 |cy _ f _ _ hu hl=>
  have:v.cells.toList=[v]:=by
   rcases bV f kz with hb|hb
   ·rw[hu.1 hb];rfl
   ·rw[hu.2 hb];rfl
  rw[this];exact .cons _ _ _ _ (.cy _ _ _ _ hu hl) .nil
 |mp _ _ _ _ c=>exact .cons _ _ _ _ (.mp _ _ _ _ c) .nil
 |dmp t e v d hr=>
  rcases hr.rC with⟨rfl,rfl⟩|⟨b,es,clock,rows,rfl,rfl,m⟩
  ·exact .cons _ _ _ _ (.dmp _ _ _ _ hr) .nil
  ·exact .cons _ _ _ _ (.dmp _ _ _ _ hr) .nil
 |j9 _ _ c=>exact .cons _ _ _ _ (.j9 _ _ c) .nil
 |it _ _ c=>exact .cons _ _ _ _ (.it _ _ c) .nil
def xw(l:List PV)(n:Nat):nK l n []=l:=by cases l<;>cases n<;>rfl
def qj:∀(l:List PV)(n:Nat)(ys:List PV),(nK l n ys).length=l.length
 |l,n,[]=>by rw[xw]
 |[],n,y::ys=>by cases n<;>rfl
 |x::xs,0,y::ys=>by simp[nK,qj xs 0 ys]
 |x::xs,n+1,y::ys=>by simp[nK,qj xs n (y::ys)]
def xx:∀(l:List PV)(n:Nat)(ys:List PV),n+ys.length<=l.length->∀j:Nat,(nK l n ys)[j]? =if n<=j/\j<n+ys.length then ys[j-n]? else l[j]?
 |l,n,[],_,j=>by rw[xw,if_neg (by simp<;>omega)]
 |[],n,y::ys,h,j=>yE h
 |x::xs,0,y::ys,h,j=>by
  simp only[nK];cases j with
  |zero=>simp
  |succ j=>have:=xx xs 0 ys (yU h) j;simp only[kK,this];simp
 |x::xs,n+1,y::ys,h,j=>by
  simp only[nK];cases j with
  |zero=>simp
  |succ j=>
   have:=xx xs n (y::ys) (by simp at h ⊢;omega) j;simp only[kK,this];by_cases hc:n<=j/\j<n+(y::ys).length
   ·rw[if_pos hc,if_pos yO];congr 1;omega
   ·rw[if_neg hc,if_neg yO]
def sg(ys:List Value):∀(off k:Nat)(vs:Array Value)(j:Nat),off+k+ys.length<=vs.size->
 ((ys.zipIdx k).foldl (λcs (x:Value×Nat)=>cs.setIfInBounds (off+x.2) x.1) vs)[j]? =if off+k<=j/\j<off+k+ys.length then ys[j-(off+k)]? else vs[j]? :=by
 induction ys with
 |nil=>intro off k vs j _;simp;omega
 |cons y ys c=>
  intro off k vs j h;simp only[List.zipIdx_cons,fB];rw[c off (k+1) _ j (by simp at h ⊢;omega)];by_cases h1:off+(k+1)<=j/\j<off+(k+1)+ys.length
  ·rw[if_pos h1,if_pos yQ];rw[show j-(off+k)=(j-(off+(k+1)))+1 by omega];simp
  ·rw[if_neg h1];by_cases h2:j=off+k
   ·subst h2;rw[if_pos yS,cN (by simp at h;omega)];simp
   ·rw[if_neg yQ,cE yO]
def qE(ys:List Value):∀(off k:Nat)(vs:Array Value),((ys.zipIdx k).foldl (λcs (x:Value×Nat)=>cs.setIfInBounds (off+x.2) x.1) vs).size=vs.size:=by
 induction ys with
 |nil=>intro off k vs;simp
 |cons y ys c=>intro off k vs;simp only[List.zipIdx_cons,fB];rw[c];simp
def NW{us:List Value}{d q:List PV}(f:eJ tt E Pp vs d)(hu:eJ tt E Pp us q)(h:off+q.length<=d.length):
 eJ tt E Pp ((us.zipIdx).foldl (λcs (x:Value×Nat)=>cs.setIfInBounds (off+x.2) x.1) (⟨vs⟩:Array Value)).toList (nK d off q):=by
 have l1:=f.length;have l2:=hu.length;refine eJ.mG ?_ ?_
 ·have:=qE us off 0 ⟨vs⟩;simp only[qj];simp at this ⊢;omega
 ·intro j v p c e;rw[xx _ _ _ h]at e;have:=sg us off 0 ⟨vs⟩ j yQ;rw[fW,this]at c;simp only[iq]at c;by_cases hc:off<=j/\j<off+q.length
  ·rw[if_pos hc]at e;rw[if_pos yO]at c;obtain⟨g,h1,h2⟩:=hu.get e;rw[c]at h1;cases h1;exact h2
  ·rw[if_neg hc]at e;rw[if_neg yO]at c;obtain⟨g,h1,h2⟩:=f.get e;simp at c;rw[c]at h1;cases h1;exact h2
def B4(hs:∀t,VR tt E Pp (a.tmps.getD t undef) (look s t))(fs:List (Nat×TypeId))(c:Nat->Option (Nat×Nat))
 (l:∀(i off:Nat) g f,vl fs i=some (off,g)->tt g=some f->c i=some (off,f.bT.length)):
 ∀(ps:List (Nat×Operand))(e:List PV)(vs:List Value)(out:List PV),eJ tt E Pp vs e->lZ s tt fs ps e=some out->
  ∃us,Instr.fill c ⟨vs⟩ (ps.map λp=>(p.1,a.eval p.2))=some ⟨us⟩/\eJ tt E Pp us out:=by
 intro ps;induction ps with
 |nil=>intro e vs out k h;simp[lZ]at h;subst h;exact⟨vs,rfl,k⟩
 |cons p ps r=>
  intro e vs out k h;obtain⟨i,x⟩:=p;simp only[lZ]at h;split at h
  ·rename_i off g hf;split at h
   ·rename_i f q;have v:=iE hs g x;cases hc:(nb (ch (flat (fK tt s g x))) (ch f.bT)&&ir (off+ch f.bT) (ch e)&&gZ 0 (ch f.bT))with
    |false=>rw[hc]at h;simp at h
    |true=>
     rw[hc]at h;simp only[bw]at hc;obtain⟨⟨h1,h2⟩,h3⟩:=hc;have h1:=cR h1;have h2:=dK h2;have h3:0+1<=ch f.bT:=dK h3;simp only[cI]at h1 h2 h3;have d:=mT v (by intro h0;rw[h0]at h1;simp at h1;omega);have mZ:=d.length;have u:=k.length;have j:=NW k d (off:=off) yO;obtain⟨us,m,n⟩:=r _ _ _ j h;refine⟨us,?_,n⟩;simp only[bJ,Instr.fill,l _ _ _ _ hf q];have fh:(a.eval x).cells.size=f.bT.length:=by rw[<- ey];omega
     rw[if_neg (by simp[fh];omega)];rw[<- m]
     congr 1
     apply fL;simp only[<- vF,JX]
   ·simp at h
  ·simp at h
end
end
section
variable [Inhabited pB]
open Go
section
variable {P:Program}{tt:TypeId->Option TI}{E:List RI}{Pp:fE}{objs:List Ob}{w:World}{W:World->Prop}
variable {a:Act}{s:cU}{ty t e B:TypeId}{K:PV->Prop}{x:Operand}{k k':IntKind}{o i f l h b len cap m r:Nat}{v:Value}{ts:Array TypeId}{A ti:TI}{vs:List Value}{n y:Int}{rows:List (List D)}{p:PV}{c:CK}{cs:List PV}{ps:Array (Nat×Operand)}{d:D}
def cT{o:Ob}(h:ew objs i=o)(hl:o.live=true):objs[i]? =some o:=by
 rw[rJ]at h;cases g:objs[i]? with
 |none=>simp[cc,g]at h;subst h;simp[Ob.live]at hl
 |some o'=>simp[cc,g]at h;rw[h]
def zJ(j:jl P B A)(g:A.bT≠[])(f:Go.Field)(hf:f.type=B)(a:Addr):(fieldPlace a f).run P w= .ok (a.add f.offset) w:=by
 obtain⟨_,h2,_,_⟩:=j.run w;simp only[fieldPlace,hf,Sem.run_bind,h2,Result.andThen_ok];have:A.bT.length≠0:=by intro h;exact g (List.length_eq_zero_iff.1 h)
 simp[this]
def B5(F:ec P tt)(hs:∀t,VR tt E Pp (a.tmps.getD t undef) (look s t))
 (h:cF dz tt (.fieldAddr t x f) ty s objs K):gW P tt E Pp W (Instr.fieldAt t (a.eval x) f) K:=by
 simp only[cF]at h;split at h
 ·exact h.elim
 rename_i ti C;split at h
 ·exact h.elim
 rename_i G B hf;split at h
 ·exact h.elim
 rename_i A z;have J:=F _ _ C;have M:=F _ _ z;split at h
 ·exact h.elim
 rename_i u;have u:A.bT≠[]:=u;obtain⟨fields,fl,hu,I,O,L,_⟩:=J.field hf;have q:=eG hs x;generalize a.eval x=v at*;have go:∀(ad:Addr) pv,VR tt E Pp (.pointer (some (ad.add G))) pv->K pv->gW P tt E Pp W (Instr.fieldAt t (.pointer (some ad)) f) K:=by intro ad pv h1 h2;refine⟨_,pv,λw _=>?_,h1,h2⟩;simp[Instr.fieldAt,run_underlying hu,I,Instr.sureAddr,zJ M u fl L,O]
 split at h
 ·rename_i b off e;rw[e]at q;cases q with
  |box _ _ _ gv H hu=>
   cases hb:(ir off dB&&ir (off+G) dB)with
   |false=>rw[hb]at h;exact h.elim
   |true=>rw[hb]at h;rw[bw]at hb;obtain rfl:=hu.get hb.1;exact go _ _ (by rw[fg];exact .box _ _ _ _ H (.mk hb.2)) h
 ·rename_i e' d i off e;rw[e]at q;cases q with
  |js _ _ _ _ b o len cap hr h0 h1=>exact go _ _ (by rw[fg,eY];exact .js _ _ _ _ _ _ _ _ hr h0 h1) h
 ·rename_i e' r i off e;rw[e]at q;cases q with
  |fH _ _ _ _ _ g o len cap H h0 hu=>
   cases hm:nb off dB with
   |true=>rw[hm]at h;exact h.elim
   |false=>
   rw[hm]at h;simp only[cond_false]at h;cases j:nb (off+G) dB with
   |true=>rw[j]at h;exact h.elim
   |false=>
   rw[j]at h;obtain⟨rfl,h1⟩:=hu.get hm;exact go _ _ (by rw[fg,eY];exact .fH _ _ _ _ _ _ _ _ _ H h0 (.mk rfl j h1)) h
 ·rename_i cs off e;rw[e]at q;cases q with
  |cP _ _ _ _ b o hu hl N=>
   cases hm:nb off dB with
   |true=>rw[hm]at h;exact h.elim
   |false=>
   rw[hm]at h;simp only[cond_false]at h;cases j:nb (off+G) dB with
   |true=>rw[j]at h;exact h.elim
   |false=>rw[j]at h;obtain rfl:=hu.get hm;exact go _ _ (by rw[fg,eY];exact .cP _ _ _ _ _ _ (qp.mk j) hl N) h
 ·rename_i t' d off e;rw[e]at q;cases q with
  |rK _ _ _ b o hr=>exact go _ _ (by rw[fg,eY];exact .rK _ _ _ _ _ hr) h
 ·exact h.elim
def BO(g:jl P B A){off:Nat}(h:off+A.bT.length<=vs.length):
 (part B ⟨vs⟩ off).run P w= .ok (valOf A ((vs.drop off).take A.bT.length)) w:=by
 obtain⟨h1,h2,_,_⟩:=g.run w;unfold part valOf;simp only[Sem.run_bind,h1,Result.andThen_ok];cases ha:A.agg with
 |true=>simp only[if_true,Sem.run_bind,h2,Result.andThen_ok,Sem.run_pure];simp[EV]
 |false=>
  obtain⟨c,hc⟩:=g.single ha;rw[hc]at h ⊢;simp at h;have:off<vs.length:=yO;have e1:(⟨vs⟩:Array Value)[off]? =some vs[off]:=by simp[this]
  have e2:((vs.drop off).take [c].length).headD undef=vs[off]:=by rw[bF this];rfl
  simp only[cv,if_false,e1,e2,Sem.run_pure]
def LV(u:ec P tt)(hs:∀t,VR tt E Pp (a.tmps.getD t undef) (look s t))
 (h:cF dz tt (.field t x f) ty s objs K):gW P tt E Pp W (Instr.field t (a.eval x) f) K:=by
 simp only[cF]at h;split at h
 ·exact h.elim
 rename_i ti j;split at h
 ·exact h.elim
 rename_i z B hf;split at h
 ·exact h.elim
 rename_i A g;have F:=u _ _ j;have q:=u _ _ g;obtain⟨fields,fl,hu,C,I,G,_⟩:=F.field hf;have H:=eG hs x;generalize a.eval x=v at*;split at h
 ·rename_i cs e;rw[e]at H;simp only[cI,tp,y9]at h;cases hb:ir (z+A.bT.length) cs.length with
  |false=>rw[hb]at h;exact h.elim
  |true=>
   rw[hb]at h;have hb:=dK hb;cases H with
   |agg vs _ hl=>have J:=hl.length;refine⟨_,_,λw _=>?_,mw q yQ ((hl.drop z).take A.bT.length),h⟩;have:=BO (P:=P) (w:=w) q (vs:=vs) (off:=z) yO;simp[Instr.field,run_underlying hu,C,asAgg,G,I,this]
 ·exact h.elim
def rF{j:Nat}(h:BX n=some j):n=(j:Int):=by
 cases n with
 |ofNat k=>simp only[BX,cz]at h;subst h;rfl
 |negSucc k=>simp[BX]at h
def jl.um{P:Program}(h:jl P t ti)(ha:ti.agg=true)(g:ti.ar≠0):∃n,P.underlying t=some (.array n ti.el)/\ti.ar=n+1:=by obtain⟨n,e,hu⟩:=h.arr ha g;obtain⟨_,_,d,_,_,_,_,_,_,j,q⟩:=h.info;rw[hu]at j;cases j;obtain⟨_,h1,h2,_⟩:=q;exact⟨n,by rw[h2];exact hu,h1⟩
def B1(N:ec P tt)(hw:RW tt E Pp objs W)(hs:∀t,VR tt E Pp (a.tmps.getD t undef) (look s t)){i:Operand}
 (h:cF dz tt (.indexAddr t x i) ty s objs K):gW P tt E Pp W (Instr.indexAt t (a.eval x) (a.eval i)) K:=by
 simp only[cF]at h;split at h
 ·exact h.elim
 rename_i ti aj;have R:=N _ _ aj;have V:=eG hs x;have U:=eG hs i;generalize a.eval x=v at*;generalize a.eval i=u at*;split at h
 ·rename_i G e d k n h1 h2 h3;rw[h2]at V;rw[h3]at U;cases hb:nb G e with
  |false=>rw[hb]at h;exact h.elim
  |true=>
   rw[hb]at h;have:=cR hb;subst this;obtain⟨hu,Z,_⟩:=R.slice h1;obtain⟨L,h⟩:=h;split at h
   ·rename_i M z;have O:bR tt G=M.bT:=by simp[bR,z]
    cases U;obtain⟨T,I⟩:=L;cases V with
    |lst _ _ _ hr=>
     cases hr with
     |slnil=>simp[cn]at I;omega
     |EY _ ad=>simp[cn]at I;omega
     |sl _ b o len cap rows vf hl hc dG gR gV=>
      have c8:n<(len:Int):=by simp[cn]at I;omega
      refine⟨_,_,λw _=>?_,.js G _ n 0 b o len cap (.sl G b o len cap rows vf hl hc dG gR gV) T c8,h⟩;have F:=(N _ _ z).run w;have q:P.elem t=G:=by simp[Program.elem,hu]
      rw[run_indexAt_slice w t _ _ _ _ _ (by rw[q];exact hu),if_pos ⟨T,c8⟩,q,F.2.1];simp[fg,O]
   ·exact h.elim
 ·rename_i G e r k n h1 h2 h3;rw[h2]at V;rw[h3]at U;cases hb:nb G e with
  |false=>rw[hb]at h;exact h.elim
  |true=>
   rw[hb]at h;have:=cR hb;subst this;obtain⟨hu,Z,_⟩:=R.slice h1;simp only[cond_true]at h;split at h
   ·rename_i e' d wr ho;cases S:nb G e' with
    |false=>rw[S]at h;exact h.elim
    |true=>
     rw[S]at h;have:=cR S;subst this;obtain⟨L,h⟩:=h;split at h
     ·rename_i M z;have O:bR tt G=M.bT:=by simp[bR,z]
      cases U;obtain⟨T,I⟩:=L;have aa:=cT ho rfl;cases V with
      |row0 _ _ X=>have:d= .list []:=hw.row0 _ _ _ _ aa X;subst this;simp[cn]at I;omega
      |row _ _ g o len cap X=>
       obtain⟨vals,rows,rfl,hl,dG,af⟩:=hw.row _ _ _ _ _ _ _ _ aa X;have c8:n<(len:Int):=by simp[cn]at I;omega
       refine⟨_,_,λw _=>?_,.fH _ G r n 0 g o len cap X T (.mk rfl rfl c8),h⟩;have F:=(N _ _ z).run w;have q:P.elem t=G:=by simp[Program.elem,hu]
       rw[run_indexAt_slice w t _ _ _ _ _ (by rw[q];exact hu),if_pos ⟨T,c8⟩,q,F.2.1];simp[fg,O]
     ·exact h.elim
   ·exact h.elim
 ·rename_i G e r i off k n h1 h2 h3;rw[h2]at V;rw[h3]at U;cases hb:(nb G e&&nb off dB)with
  |false=>rw[hb]at h;exact h.elim
  |true=>
   rw[hb]at h;simp only[bw]at hb;have:=cR hb.1;subst this;have hm:=cR hb.2;subst hm;obtain⟨hu,Z,_⟩:=R.slice h1;simp only[cond_true]at h;split at h
   ·rename_i e' d wr ho;cases S:nb G e' with
    |false=>rw[S]at h;exact h.elim
    |true=>
     rw[S]at h;have:=cR S;subst this;obtain⟨L,h⟩:=h;split at h
     ·rename_i M z;have O:bR tt G=M.bT:=by simp[bR,z]
      cases U;obtain⟨T,I⟩:=L;have aa:=cT ho rfl;cases V with
      |fH _ _ _ _ _ g o len cap X h0 hv=>
       obtain⟨⟨o1,rfl,Y⟩,ar⟩:=hv.Jh;obtain⟨vals,rows,rfl,hl,dG,af⟩:=hw.row _ _ _ _ _ _ _ _ aa X;have I:n<(rows.length:Int)-i:=I;have c8:n<((len-i.toNat:Nat):Int):=yO
       have Y:o1=o+i.toNat*(bR tt G).length:=by
        rcases Y with e|e
        ·exact e
        ·exfalso;omega
       refine⟨_,.fH G r (i+n) 0,λw _=>?_,.fH (.pointer (some ⟨g,o+(i+n).toNat*(bR tt G).length+0,none⟩)) G r (i+n) 0 g o len cap X yO (.mk rfl rfl yO),h⟩;have F:=(N _ _ z).run w;have q:P.elem t=G:=by simp[Program.elem,hu]
       rw[run_indexAt_slice w t _ _ _ _ _ (by rw[q];exact hu),if_pos ⟨T,c8⟩,q,F.2.1];have e2:(i+n).toNat=i.toNat+n.toNat:=yO;simp[fg,O,Y,e2,c9,eY]
     ·exact h.elim
   ·exact h.elim
 ·rename_i G cs off k n h1 h2 h3;rw[h2]at V;rw[h3]at U;split at h
  ·rename_i M j z hj;cases hb:(nb off dB&&nb (ch M.bT) 1&&gZ j (ch cs))with
   |false=>rw[hb]at h;exact h.elim
   |true=>
    rw[hb]at h;simp only[bw]at hb;obtain⟨⟨hm,C⟩,J⟩:=hb;have hm:=cR hm;subst hm;have C:=cR C;have J:=dK J;rw[cI]at C J;have hn:=rF hj;subst hn;obtain⟨hu,Z,_⟩:=R.slice h1;simp only[cond_true]at h;cases Q:nb j dB with
    |true=>rw[Q]at h;exact h.elim
    |false=>
    rw[Q]at h;cases U;cases V with
    |cP _ vs _ _ b o hv hl hp=>
     obtain rfl:=hv.Jh;have ap:=hl.length;have c8:((j:Nat):Int)<(vs.length:Int):=yO;refine⟨_,_,λw _=>?_,.cP _ vs cs j b o (qp.mk Q) hl hp,h⟩;have F:=(N _ _ z).run w;have q:P.elem t=G:=by simp[Program.elem,hu]
     rw[run_indexAt_slice w t _ _ _ _ _ (by rw[q];exact hu),if_pos ⟨dS _,c8⟩,q,F.2.1];simp[fg,C]
  ·exact h.elim
 ·rename_i G b off k n h1 h2 h3;rw[h2]at V;rw[h3]at U;split at h
  ·rename_i M j z hj;cases hb:(nb (ch M.bT) 1&&gZ dB off&&gZ j (off-(dB+1))&&ir j dB)with
   |false=>rw[hb]at h;exact h.elim
   |true=>
    rw[hb]at h;simp only[bw]at hb;obtain⟨⟨⟨C,h4⟩,h5⟩,h6⟩:=hb;have C:=cR C;have h4:=dK h4;have h5:=dK h5;rw[cI]at C;have hn:=rF hj;subst hn;obtain⟨hu,Z,_⟩:=R.slice h1;cases U;cases V with
    |box _ _ _ gv X hv=>
     obtain rfl:=hv.2 (off-(dB+1)) yO;refine⟨_,_,λw _=>?_,.box _ b j gv X (.mk h6),h⟩;have F:=(N _ _ z).run w;have q:P.elem t=G:=by simp[Program.elem,hu]
     rw[run_indexAt_slice w t _ _ _ _ _ (by rw[q];exact hu),if_pos ⟨dS _,yO⟩,q,F.2.1];simp[fg,C]
  ·exact h.elim
 ·rename_i b off k n h1 h2 h3;rw[h2]at V;rw[h3]at U;split at h
  ·rename_i M j z hj;cases hb:(ti.agg&&gZ j (ti.ar-1)&&gZ 0 (ch M.bT)&&ir off dB&&ir (off+j*ch M.bT) dB)with
   |false=>rw[hb]at h;exact h.elim
   |true=>
    rw[hb]at h;simp only[bw]at hb;obtain⟨⟨⟨⟨ae,J⟩,ai⟩,Y⟩,ao⟩:=hb;have J:=dK J;have hn:=rF hj;subst hn;obtain⟨n,hu,ak⟩:=R.um ae yO;cases U;cases V with
    |box _ _ _ gv X hv=>
     obtain rfl:=hv.get Y;refine⟨_,_,λw _=>?_,.box _ b (off+j*ch M.bT) gv X (.mk ao),h⟩;have F:=(N _ _ z).run w;have q:P.elem t=ti.el:=by simp[Program.elem,hu]
     have H:P.arrayLen t=n:=by simp[Program.arrayLen,hu]
     rw[run_indexAt_array w t _ _ _ (by rw[q,H];exact hu),H,if_pos ⟨dS _,yO⟩,q,F.2.1];simp[fg,cI,eY]
  ·exact h.elim
 ·rename_i cs off k n h1 h2 h3;rw[h2]at V;rw[h3]at U;split at h
  ·rename_i M j z hj;cases hb:(ti.agg&&gZ j (ti.ar-1)&&gZ 0 (ch M.bT))with
   |false=>rw[hb]at h;exact h.elim
   |true=>
    rw[hb]at h;simp only[bw]at hb;obtain⟨⟨ae,J⟩,ai⟩:=hb;have J:=dK J;have hn:=rF hj;subst hn;obtain⟨n,hu,ak⟩:=R.um ae yO;simp only[cond_true]at h;cases hm:nb off dB with
    |true=>rw[hm]at h;exact h.elim
    |false=>
    rw[hm]at h;simp only[cond_false]at h;cases Q:nb (off+j*ch M.bT) dB with
    |true=>rw[Q]at h;exact h.elim
    |false=>
    rw[Q]at h;cases U;cases V with
    |cP _ vs _ _ b o hv hl hp=>
     obtain rfl:=hv.get hm;refine⟨_,_,λw _=>?_,.cP _ vs cs (off+j*ch M.bT) b o (qp.mk Q) hl hp,h⟩;have F:=(N _ _ z).run w;have q:P.elem t=ti.el:=by simp[Program.elem,hu]
     have H:P.arrayLen t=n:=by simp[Program.arrayLen,hu]
     rw[run_indexAt_array w t _ _ _ (by rw[q,H];exact hu),H,if_pos ⟨dS _,yO⟩,q,F.2.1];simp[fg,cI,eY]
  ·exact h.elim
 ·exact h.elim
def iJ(hs:∀t,VR tt E Pp (a.tmps.getD t undef) (look s t)){o:Option Operand}{d:Int}{K:Int->Prop}(h:tO s o d K):
 ∃n,K n/\((o=none/\n=d)\/∃x k,o=some x/\a.eval x= .int k n):=by
 unfold tO at h;split at h
 ·exact⟨d,h,.inl ⟨rfl,rfl⟩⟩
 ·rename_i x;split at h
  ·rename_i k n j;have:=eG hs x;rw[j]at this;generalize g:a.eval x=v at*;cases this;exact⟨n,h,.inr ⟨x,_,rfl,g⟩⟩
  ·exact h.elim
def ez{y:Nat}{c:BoundsCode}(h:0<=n/\n<=y):(Instr.sliceBound (.int k n) y c).run P w= .ok n.toNat w:=by simp[Instr.sliceBound,asIntOf,h]
def Ao:((rows.drop l).take (h-l))[i]? =if i<h-l then rows[l+i]? else none:=by rw[n5];split<;>simp[eM]
def RD.part{e:Nat}(hr:RD tt Pp (.slice e) (.slice (some ⟨b,o,none⟩) len cap) (.list rows))(F:l<=h)(G:h<=m)(C:h<=len):
 RD tt Pp (.slice e) (.slice (some (if m=l then(⟨b,o,none⟩:Addr)else⟨b,o+l*(bR tt e).length,none⟩)) (h-l) (m-l)) (.list ((rows.drop l).take (h-l))):=by
 cases hr with
 |EY _ ad=>have:h=0:=yO;have:l=0:=yO;subst_vars;split<;>exact .sl e b _ 0 _ _ (λ_ _=>undef) yS yO (λi row g=>yE g) (λi j g=>yO) (λi j row d ck g=>yE g)
 |sl _ _ _ _ _ _ vf hl hc dG gR gV=>
  by_cases q:m=l
  ·rw[if_pos q];have:h-l=0:=yO;rw[this];exact .sl e b o 0 (m-l) _ (λ_ _=>undef) yS yO (λi row g=>yE g) (λi j g=>yO) (λi j row d ck g=>yE g)
  ·rw[if_neg q];refine .sl e b _ (h-l) (m-l) _ (λi j=>vf (l+i) j) yQ yO ?_ ?_ ?_
   ·intro i row g;rw[Ao]at g;split at g
    ·exact dG _ _ g
    ·simp at g
   ·intro i j g u;have:=gR (l+i) j yO u
    rwa [show o+l*(bR tt e).length+i*(bR tt e).length+j=o+(l+i)*(bR tt e).length+j by rw[c9];omega]
   ·intro i j row d ck g u z;rw[Ao]at g;split at g
    ·exact gV _ _ _ _ _ g u z
    ·simp at g
def Mw(u:RW tt E Pp objs W)(h:VR tt E Pp v p):VR tt E Pp v (Mx objs p):=by
 unfold Mx;split
 ·rename_i e r;split
  ·rename_i e' d z;cases hb:nb e e' with
   |false=>exact .undef _
   |true=>
    have:=cR hb;subst this;have j:=cT z rfl;cases h with
    |row0 _ _ q=>have:=u.row0 _ _ _ _ j q;subst this;exact .lst _ _ _ (.slnil _)
    |row _ _ g o len cap q=>exact .lst _ _ _ (u.ng _ _ _ _ _ _ _ j q)
  ·exact .undef _
 ·exact h
def Gg(h:sW c p=true)(g:VR tt E Pp v p):RD tt Pp c v (qf p):=by
 cases g<;>cases c<;>simp only[sW,decide_eq_true_eq,cv]at h
 case int.int=>subst h;exact .int _ _
 case bl.bool=>exact .bool _
 case bool.bool=>exact .bool _
 case str.str=>exact .str _
 case lst.slice=>have:=cR h;subst this;assumption
 case dptr.ptr=>have:=cR h;subst this;assumption
 case nilp.ptr=>exact .zG _
 case nilm.map=>exact .BT _ _
 case dmp.map=>
  have:=cR h;subst this;rename_i hr;rcases hr.rC with⟨rfl,rfl⟩|⟨b,es,clock,rows,rfl,rfl,m⟩
  ·exact .BT _ _
  ·exact m.rd _
 case nilf.fn=>exact .LQ
def yh(l:List PV):DL l=l.map λp=>[qf p]:=by induction l<;>simp[DL, *]
def wc:∀{cs:List PV},rL [c] cs=true->∀p∈cs,sW c p=true
 |[],_,p,g=>yE g
 |q::cs,h,p,g=>by
  simp only[rL,bw]at h;rcases bN.1 g with rfl|g
  ·exact h.1
  ·exact wc h.2 p g
def Mh{bT:List CK}(q:bR tt e=bT)(C:bT.length=1)(eO:rL bT cs=true)(hl:eJ tt E Pp vs cs)
 (H:∀(j:Nat) v,vs[j]? =some v->Pp ⟨b,o+j,none⟩ v) (L:cs.length=r) (I:r<=m):RD tt Pp (.slice e) (.slice (some ⟨b,o,none⟩) r m) (.list (DL cs)):=by
 match bT,C with
 |[c],_=>
 have J:=hl.length;refine .sl e b o r m _ (λi _=>vs.getD i undef) (by rw[yh,bL,L]) I ?_ ?_ ?_
 ·intro i row g;rw[yh,cu]at g;cases u:cs[i]? with
  |none=>rw[u]at g;cases g
  |some p=>rw[u]at g;cases g;rw[q];rfl
 ·intro i j g z;rw[q]at z ⊢;have G:j=0:=yU z;subst G;have F:i<vs.length:=yO;have:=H i vs[i] (bx F);simpa[cc,F]using this
 ·intro i j row d ck g z hc;rw[q]at hc;rw[yh,cu]at g;cases u:cs[i]? with
  |none=>rw[u]at g;cases g
  |some p=>
   rw[u]at g;cases g;cases j with
   |succ j=>simp at hc
   |zero=>
    simp at z hc;subst z hc;obtain⟨v,h1,h2⟩:=hl.get u;have:vs.getD i undef=v:=by simp[cc,h1]
    rw[this];exact Gg (wc eO p (fi u)) h2
def Li(hs:∀t,VR tt E Pp (a.tmps.getD t undef) (look s t)){o:Option Operand}(h:HQ s o=some r):∃x k,o=some x/\a.eval x= .int k (r:Int):=by
 cases o with
 |none=>simp[HQ]at h
 |some x=>
  simp only[HQ]at h;have g:=eG hs x;split at h
  ·rename_i k n e;rw[e]at g;have:=rF h;subst this;obtain⟨u,hu⟩:∃u,u=a.eval x:=⟨_,rfl⟩;rw[<- hu]at g;cases g;exact⟨x,_,rfl,hu.symm⟩
  ·cases h
def Kt(J:ec P tt)(hw:RW tt E Pp objs W)(hs:∀t,VR tt E Pp (a.tmps.getD t undef) (look s t)){lo hi mx:Option Operand}
 (h:cF dz tt (.slice t x lo hi mx) ty s objs K):gW P tt E Pp W (Instr.sliceAt t (a.eval x) (lo.map a.eval) (hi.map a.eval) (mx.map a.eval)) K:=by
 simp only[cF]at h;have T:=Mw hw (eG hs x);generalize a.eval x=v at*;split at h
 ·rename_i cs off hb;rw[hb]at T;split at h
  ·rename_i ti u;split at h
   ·rename_i Y L;cases hb:(ti.agg&&nb (ch Y.bT) 1&&gZ 0 ti.ar&&nb off 0&&nb (ch cs) (ti.ar-1)&&Q0 lo)with
    |false=>rw[hb]at h;exact h.elim
    |true=>
     rw[hb]at h;simp only[bw]at hb;obtain⟨⟨⟨⟨⟨ao,G⟩,Q⟩,M⟩,aa⟩,z⟩:=hb;have G:=cR G;have M:=cR M;have aa:=cR aa;have Q:=dK Q;subst M;rw[cI]at G aa;simp only[cond_true]at h;split at h
     ·rename_i r hr;cases hb:(ir r (ch cs)&&rL Y.bT (qh r cs))with
      |false=>rw[hb]at h;exact h.elim
      |true=>
       rw[hb]at h;simp only[bw]at hb;obtain⟨I,eO⟩:=hb;have I:=dK I;rw[cI]at I;rw[tp]at h eO;obtain⟨m,hu,aF⟩:=(J _ _ u).um ao yO;obtain⟨x,k,rfl,ap⟩:=Li hs hr;cases T with
       |cP _ vs _ _ b o hv hl hp=>
        obtain rfl:=hv.get rfl;have aE:=hl.length;have ax:bR tt ti.el=Y.bT:=by simp[bR,L]
        refine⟨.slice (some ⟨b,o,none⟩) r m,_,λw _=>?_,.lst ti.el _ _ (Mh (m:=m) ax G eO (hl.take r) (λj v hj=>hp j v (by
         rw[n5]at hj;split at hj
         ·exact hj
         ·cases hj)) (by rw[cJ];omega) yO),h⟩
        have ai:lo=none:=by cases lo<;>simp_all[Q0]
        subst ai;obtain⟨_,Z,_,_⟩:=(J _ _ L).run w;have F:=ez (P:=P) (w:=w) (k:=k) (n:=(r:Int)) (y:=m) (c:=.sliceAlen) ⟨dS _,yO⟩;simp[Instr.sliceAt,run_underlying hu,Instr.sliceBounds,ap,Z,fg,Instr.sureAddr,F]
     ·exact h.elim
   ·exact h.elim
  ·exact h.elim
 ·rename_i b hb;rw[hb]at T;split at h
  ·rename_i ti u;cases hk:isStr ti with
   |false=>rw[hk]at h;exact h.elim
   |true=>
    rw[hk]at h;simp only[cond_true]at h;have hu:=(J _ _ u).str hk;obtain⟨l,h,z⟩:=iJ hs h;obtain⟨r,h,C⟩:=iJ hs h;obtain⟨⟨q,H⟩,⟨g,O⟩,h⟩:=h;cases T with
    |str s=>
     have fh:s.data.toList.length=s.size:=yS;simp only[fh]at H C;refine⟨.string (s.extract l.toNat r.toNat),.str (s.extract l.toNat r.toNat).data.toList,λw _=>?_,.str _,?_⟩
     ·simp only[Instr.sliceAt,Sem.run_bind,run_underlying hu,Result.andThen_ok,Instr.slice,zw,nH,cv,if_false,Instr.sliceBounds];rcases C with⟨rfl,rfl⟩|⟨x2,k2,rfl,e2⟩
      ·rcases z with⟨rfl,rfl⟩|⟨x1,U,rfl,e1⟩
       ·simp
       ·simp[e1,ez (P:=P) (w:=w) ⟨g,O⟩]
      ·rcases z with⟨rfl,rfl⟩|⟨x1,U,rfl,e1⟩
       ·simp[e2,ez (P:=P) (w:=w) ⟨q,H⟩]
       ·simp[e1,e2,ez (P:=P) (w:=w) ⟨q,H⟩,ez (P:=P) (w:=w) (k:=U) (n:=l) (y:=r.toNat) ⟨g,yO⟩]
     ·have:(s.extract l.toNat r.toNat).data.toList=(s.data.toList.drop l.toNat).take (r.toNat-l.toNat):=by rw[Cx];simp[EV]
      rw[this];exact h
  ·exact h.elim
 ·rename_i e d hd;rw[hd]at T;split at h
  ·rename_i ti u;split at h
   ·rename_i X an;cases hb:nb X e with
    |false=>rw[hb]at h;exact h.elim
    |true=>
     rw[hb]at h;have:=cR hb;subst this;obtain⟨hu,aH,_⟩:=(J _ _ u).slice an;simp only[cond_true]at h;split at h
     ·rename_i Y L;have af:bR tt X=Y.bT:=by simp[bR,L]
      have fin:∀(l r m:Nat)(base:Option Addr)(len cap:Nat),VR tt E Pp (.slice base len cap) (.lst X d)->l<=r->r<=len->r<=m->m<=cap->
       (∀w:World,(Instr.sliceBounds true len cap (lo.map a.eval) (hi.map a.eval) (mx.map a.eval)).run P w= .ok (l,r,m) w)->((m=r/\K (.nx X (dz.part d l r)))\/K (.lst X (dz.part d l r)))->
       gW P tt E Pp W (Instr.sliceAt t (.slice base len cap) (lo.map a.eval) (hi.map a.eval) (mx.map a.eval)) K:=by
       intro l r m base len cap hv av I ay aK aA hk;have S:∀w,W w->(Instr.sliceAt t (.slice base len cap) (lo.map a.eval) (hi.map a.eval) (mx.map a.eval)).run P w= .ok (.slice (if m=l then base else base.map (·.add (l*Y.bT.length))) (r-l) (m-l)) w:=by intro w _;have Z:=(J _ _ L).run w;simp[Instr.sliceAt,run_underlying hu,Instr.slice,aA,Z.2.1]
       have gV:RD tt Pp (.slice X) (.slice (if m=l then base else base.map (·.add (l*Y.bT.length))) (r-l) (m-l)) (dz.part d l r):=by
        cases hv with
        |lst _ _ _ hr=>
         cases hr with
         |slnil=>have:r=0:=yO;have:l=0:=yO;have:m=0:=yO;subst_vars;simpa[cn]using RD.slnil (tt:=tt) (Pp:=Pp) _
         |EY _ ad=>have:r=0:=yO;have:l=0:=yO;have:m=0:=yO;subst_vars;simpa[cn]using RD.EY (tt:=tt) (Pp:=Pp) _ ad
         |sl _ b o _ _ rows vf hl hc dG gR gV=>
          have:=RD.part (.sl X b o len cap rows vf hl hc dG gR gV) av ay I;rw[af]at this;by_cases ac:m=l
          ·simpa[ac,cn]using this
          ·simpa[ac,cn,fg]using this
       rcases hk with⟨ag,hk⟩|hk
       ·exact⟨_,_,S,by rw[<- ag];subst ag;exact .nx _ _ _ _ gV,hk⟩
       ·exact⟨_,_,S,.lst _ _ _ gV,hk⟩
      have N:∃base len cap,v= .slice base len cap/\((cn d).length:Int)=(len:Int)/\len<=cap:=by
       cases T with
       |lst _ _ _ hr=>
        cases hr with
        |slnil=>exact⟨none,0,0,rfl,by simp[cn],cg _⟩
        |EY _ ad=>exact⟨some ad,0,0,rfl,by simp[cn],cg _⟩
        |sl _ b o len cap rows vf hl hc dG gR gV=>exact⟨_,len,cap,rfl,by simp[cn,hl],hc⟩
      obtain⟨base,len,cap,rfl,R,aB⟩:=N;split at h
      ·obtain⟨l,h,z⟩:=iJ hs h;obtain⟨r,h,C⟩:=iJ hs h;obtain⟨⟨q,H⟩,⟨g,O⟩,h⟩:=h;rw[R]at H C;refine fin l.toNat r.toNat cap base len cap T yO yO yO (cg _) ?_ (.inr (by rw[nJ g,nJ q];exact h));intro w;simp only[Instr.sliceBounds,zw,Sem.run_bind,Sem.run_pure,Result.andThen_ok];rcases C with⟨rfl,rfl⟩|⟨x2,k2,rfl,e2⟩
       ·rcases z with⟨rfl,rfl⟩|⟨x1,U,rfl,e1⟩
        ·simp
        ·simp[e1,ez (P:=P) (w:=w) ⟨g,O⟩]
       ·have F:=ez (P:=P) (w:=w) (k:=k2) (n:=r) (y:=cap) (c:=.sliceAcap) ⟨q,yO⟩;rcases z with⟨rfl,rfl⟩|⟨x1,U,rfl,e1⟩
        ·simp[e2,F]
        ·simp[e1,e2,F,ez (P:=P) (w:=w) (k:=U) (n:=l) (y:=r.toNat) ⟨g,yO⟩]
      ·rename_i m0;obtain⟨l,h,z⟩:=iJ hs h;split at h
       ·exact h.elim
       rename_i h0;obtain⟨r,h,C⟩:=iJ hs h;obtain⟨m,h,ar⟩:=iJ hs h;obtain⟨⟨aq,au⟩,⟨q,H⟩,⟨g,O⟩,h⟩:=h;rw[R]at au;refine fin l.toNat r.toNat m.toNat base len cap T yO yO yO yO ?_ (by rw[nJ g,nJ q];exact h.imp (λh=>⟨by rw[show m=r from h.1],h.2 trivial⟩) (λh=>h trivial));intro w;simp only[Instr.sliceBounds];rcases ar with⟨V,_⟩|⟨x3,k3,az,e3⟩
       ·simp at V
       rcases C with⟨V,_⟩|⟨x2,k2,am,e2⟩
       ·simp at V
       cases az;cases am;have ah:=ez (P:=P) (w:=w) (k:=k3) (n:=m) (y:=cap) (c:=.slice3Acap) ⟨aq,yO⟩;have F:=ez (P:=P) (w:=w) (k:=k2) (n:=r) (y:=m.toNat) (c:=.slice3B) ⟨q,yO⟩;rcases z with⟨rfl,rfl⟩|⟨x1,U,rfl,e1⟩
       ·simp[e2,e3,F,ah]
       ·simp[e1,e2,e3,F,ah,ez (P:=P) (w:=w) (k:=U) (n:=l) (y:=r.toNat) (c:=.slice3C) ⟨g,yO⟩]
     ·exact h.elim
   ·exact h.elim
  ·exact h.elim
 ·exact h.elim
def Q6(L:ec P tt)(J:RW tt E Pp objs W)(hs:∀t,VR tt E Pp (a.tmps.getD t undef) (look s t)){as:Array Operand}
 (h:cF dz tt (.call { callee:=.builtin .len,args:=as,argTypes:=ts }) ty s objs K):gW P tt E Pp W (Builtin.len_ ts ty (as.map a.eval)) K:=by
 simp only[cF]at h;split at h
 ·rename_i x t N M;obtain rfl:as= #[x]:=by cases as;simp at N;simp[N]
  obtain rfl:ts= #[t]:=by cases ts;simp at M;simp[M]
  split at h
  ·exact h.elim
  rename_i ti H;have q:=L _ _ H;have j:=iE hs t x;have F:Builtin.len_ #[t] ty (#[x].map a.eval)=Builtin.len_ #[t] ty #[a.eval x]:=yS;rw[F];generalize a.eval x=v at*;split at h
  ·rename_i I e d h1 h2;rw[h2]at j;obtain⟨hu,_,_⟩:=q.slice h1;cases j with
   |lst _ _ _ hr=>
    cases hr with
    |slnil=>exact⟨_,_,by intro w _;simp only[Builtin.len_];simp[run_underlying hu];rfl,.int _ _,by simpa[cn]using h⟩
    |EY _ ad=>exact⟨_,_,by intro w _;simp only[Builtin.len_];simp[run_underlying hu];rfl,.int _ _,by simpa[cn]using h⟩
    |sl _ b o len cap rows vf hl hc dG gR gV=>exact⟨_,_,by intro w _;simp only[Builtin.len_];simp[run_underlying hu];rfl,.int _ _,by simpa[cn,hl]using h⟩
  ·rename_i I e r h1 h2;rw[h2]at j;obtain⟨hu,_,_⟩:=q.slice h1;split at h
   ·rename_i e' d wr G;cases hb:nb e e' with
    |false=>rw[hb]at h;exact h.elim
    |true=>
     rw[hb]at h;have z:=cT G rfl;cases j with
     |row0 _ _ C=>have:d= .list []:=J.row0 _ _ _ _ z C;subst this;exact⟨_,_,by intro w _;simp only[Builtin.len_];simp[run_underlying hu];rfl,.int _ _,by simpa[cn]using h⟩
     |row _ _ g o len cap C=>obtain⟨vals,rows,rfl,hl,dG,u⟩:=J.row _ _ _ _ _ _ _ _ z C;exact⟨_,_,by intro w _;simp only[Builtin.len_];simp[run_underlying hu];rfl,.int _ _,by simpa[cn,hl]using h⟩
   ·exact h.elim
  ·rename_i I e r i off h1 h2;rw[h2]at j;obtain⟨hu,_,_⟩:=q.slice h1;split at h
   ·rename_i e' d wr G;cases hb:(nb e e'&&nb off dB)with
    |false=>rw[hb]at h;exact h.elim
    |true=>
     rw[hb]at h;simp only[bw]at hb;have R:=cR hb.2;subst R;have he:=cR hb.1;subst he;have z:=cT G rfl;cases j with
     |fH _ _ _ _ _ g o len cap C h0 j=>obtain⟨⟨T,rfl,Q⟩,S⟩:=j.Jh;obtain⟨vals,rows,rfl,hl,dG,u⟩:=J.row _ _ _ _ _ _ _ _ z C;refine⟨_,_,by intro w _;simp only[Builtin.len_];simp[run_underlying hu];rfl,.int _ _,?_⟩;have e2:((len-i.toNat:Nat):Int)=(rows.length:Int)-i:=yO;rw[e2];exact h
   ·exact h.elim
  ·rename_i I cs off h1 h2;rw[h2]at j;obtain⟨hu,_,_⟩:=q.slice h1;cases hb:nb off dB with
   |false=>rw[hb]at h;exact h.elim
   |true=>
    rw[hb]at h;have hb:=cR hb;subst hb;cases j with
    |cP _ vs _ _ b o j hl U=>obtain rfl:=j.Jh;refine⟨_,_,by intro w _;simp only[Builtin.len_];simp[run_underlying hu];rfl,.int _ _,?_⟩;have:=hl.length;rw[this,<-cI];exact h
  ·rename_i I b off h1 h2;rw[h2]at j;obtain⟨hu,_,_⟩:=q.slice h1;cases hb:gZ dB off with
   |false=>rw[hb]at h;exact h.elim
   |true=>
    rw[hb]at h;have hb:=dK hb;cases j with
    |box _ _ _ gv C j=>obtain rfl:=j.2 (off-(dB+1)) yO;exact⟨_,_,by intro w _;simp only[Builtin.len_];simp[run_underlying hu];rfl,.int _ _,h⟩
  ·rename_i b h1 h2;rw[h2]at j;cases hb:isStr ti with
   |false=>rw[hb]at h;exact h.elim
   |true=>
    rw[hb]at h;have hu:=q.str hb;cases j with
    |str s=>exact⟨_,_,by intro w _;simp only[Builtin.len_];simp[run_underlying hu];rfl,.int _ _,yU h⟩
  ·rename_i m h1 h2;rw[h2]at j;cases hb:isMap ti with
   |false=>rw[hb]at h;exact h.elim
   |true=>
    rw[hb]at h;obtain⟨k,e,hu,_,_,_⟩:=q.map hb;simp only[cond_true]at h;split at h
    ·rename_i kc e' d G;have z:=cT G rfl;cases j with
     |mp _ b bs cl C=>have u:=J.map _ _ _ _ _ _ _ z C;refine⟨goInt (cn d).length,.int .i64 (cn d).length,λw O=>?_,.int _ _,yU h⟩;obtain⟨es,clock,rows,hb,rfl,hl⟩:=u w O;simp only[Builtin.len_];simp[run_underlying hu,getObj,Sem.run,hb,cn,hl]
    ·exact h.elim
  ·exact h.elim
 ·exact h.elim
def yf{f:Go.Field->Option (Nat×Nat)}:∀{l:List Go.Field}{pl:List (Nat×Nat)},l.mapM f=some pl->∀i:Nat,pl[i]? =(l[i]?).bind f
 |[],pl,h,i=>by simp at h;subst h;simp
 |x::l,pl,h,i=>by
  simp only[CD,Option.bind_eq_bind,Option.pure_def,kG]at h;obtain⟨y,j,ys,g,h⟩:=h;simp at h;subst h;cases i with
  |zero=>simp[j]
  |succ i=>simpa using yf g i
def p8(bT:List CK):eJ tt E Pp (bT.map zeroV) (bT.map gL):=by
 induction bT with
 |nil=>exact .nil
 |cons c bT g=>
  refine .cons _ _ _ _ ?_ g;cases c with
  |int=>exact .int _ _
  |bool=>exact .bl _
  |str=>exact .str ⟨#[]⟩
  |slice=>exact .lst _ _ _ (.slnil _)
  |ptr=>exact .nilp
  |map=>exact .nilm
  |fn=>exact .nilf
  |ic=>exact .undef _
def Bb{S:Nat}:∀(n off i:Nat)(x:Nat×TypeId),vl (zm e S off n) i=some x->x=(off+i*S,e)
 |0,off,i,x,h=>by simp[zm,vl]at h
 |n+1,off,0,x,h=>by simp[zm,vl]at h;simp[<- h]
 |n+1,off,i+1,x,h=>by simp only[zm,vl]at h;rw[Bb n (off+S) i x h,c9];simp;omega
def Ix(F:ec P tt)(hs:∀t,VR tt E Pp (a.tmps.getD t undef) (look s t))(C:tt t=some ti)(hb:(ti.agg&&nb ti.ar 0)=true){g:List PV}
 (H:eJ tt E Pp (ti.bT.map zeroV) g) (N:lZ s tt ti.fs ps.toList g=some cs):∃v,(∀w,(Instr.build t (ps.map λ(i,x)=>(i,a.eval x))).run P w= .ok v w)/\VR tt E Pp v (.agg cs):=by
 have u:=F _ _ C;obtain⟨i,z,d,V,fh,T,hz,L,_,R,X⟩:=u.info;have q:z.cells=⟨ti.bT.map zeroV⟩:=by rw[<- L]
 simp only[bw]at hb;cases d with
 |struct fields=>obtain⟨_,S,pl,j⟩:=X;have G:=yf j;obtain⟨us,h1,h2⟩:=B4 hs ti.fs (λi=>pl[i]?) (by intro i off B A hf Q;obtain⟨_,fl,hu,J,U,O,_⟩:=u.field hf;rw[R]at hu;cases hu;obtain⟨Y,_,_,I,M,_⟩:=(F _ _ Q).info;have:=G i;simp only[fW,J,iy,O,I,cr,U,M]at this;exact this) ps.toList g (ti.bT.map zeroV) cs H N;refine⟨.agg ⟨us⟩,λw=>?_,.agg _ _ h2⟩;simp[Instr.build,run_underlying R,typeInfo,zeroValue,V,hz,oT,run_places w _ _ j,q,h1]
 |array n e=>have:=cR hb.2;simp_all
 |_=>simp_all
def Mr(G:ec P tt)(hs:∀t,VR tt E Pp (a.tmps.getD t undef) (look s t))
 (h:cF dz tt (.build t ps) ty s objs K):gW P tt E Pp W (Instr.build t (ps.map λ(i,x)=>(i,a.eval x))) K:=by
 simp only[cF]at h;split at h
 ·exact h.elim
 rename_i ti I;have u:=G _ _ I;have X:(ps.map λ(i,x)=>(i,a.eval x)).toList=ps.toList.map λp=>(p.1,a.eval p.2):=yS;obtain⟨i,z,d,U,fh,aa,hz,S,_,M,V⟩:=u.info;have q:z.cells=⟨ti.bT.map zeroV⟩:=by rw[<- S]
 cases hb:(ti.agg&&nb ti.ar 0)with
 |false=>
  rw[hb]at h;simp only[cond_false]at h;cases g:ti.agg with
  |false=>rw[g]at h;exact h.elim
  |true=>
   rw[g]at h;simp only[cond_true]at h;split at h
   ·rename_i N J;split at h
    ·rename_i cs F;cases d with
     |array n e=>
      obtain⟨_,Y,O,_⟩:=V;have C:∀w:World,(sizeOf e).run P w= .ok N.bT.length w:=λw=>by obtain⟨_,h2,_,_⟩:=(G _ _ J).run w;rw[<- O];exact h2
      obtain⟨us,h1,h2⟩:=B4 hs (zm ti.el (ch N.bT) 0 (ti.ar-1)) (λi=>some (i*N.bT.length,N.bT.length)) (by intro i off B A hf j;have:=Bb _ _ _ _ hf;simp only[gb,cI,dW]at this;obtain⟨rfl,rfl⟩:=this;rw[J]at j;cases j;rfl) ps.toList (ti.bT.map gL) (ti.bT.map zeroV) cs (p8 _) F;refine⟨.agg ⟨us⟩,.agg cs,λw _=>?_,.agg _ _ h2,h⟩;simp[Instr.build,run_underlying M,typeInfo,zeroValue,U,hz,C,q,h1]
     |struct fields=>
      have:ti.ar≠0:=by intro h0;rw[g,h0]at hb;simp[jq]at hb
      obtain⟨n,e,hu⟩:=u.arr g this;rw[M]at hu;cases hu
     |_=>simp_all
    ·exact h.elim
   ·exact h.elim
 |true=>
  rw[hb]at h;simp only[cond_true]at h;simp only[bw]at hb;split at h
  ·rename_i cs F;cases d with
   |struct fields=>obtain⟨_,Z,pl,H⟩:=V;have L:=yf H;obtain⟨us,h1,h2⟩:=B4 hs ti.fs (λi=>pl[i]?) (by intro i off B A hf j;obtain⟨_,fl,hu,R,ho,T,_⟩:=u.field hf;rw[M]at hu;cases hu;obtain⟨i2,_,_,Q,C,_⟩:=(G _ _ j).info;have:=L i;simp only[fW,R,iy,T,Q,cr,ho,C]at this;exact this) ps.toList (ti.bT.map gL) (ti.bT.map zeroV) cs (p8 _) F;refine⟨.agg ⟨us⟩,.agg cs,λw _=>?_,.agg _ _ h2,h⟩;simp[Instr.build,run_underlying M,typeInfo,zeroValue,U,hz,oT,run_places w _ _ H,q,h1]
   |array n e=>have:=cR hb.2;simp_all
   |_=>simp_all
  ·exact h.elim
def AP:∀{cs:List PV}{ns:List Int}{vs:List Value},yz k cs=some ns->eJ tt E Pp vs cs->vs=ns.map (Value.int k)
 |[],ns,vs,h,j=>by simp[yz]at h;subst h;cases j;rfl
 |p::cs,ns,vs,h,j=>by
  cases j with
  |cons v _ vs _ h1 h2=>
   cases p<;>simp only[yz]at h<;>try (simp at h;done)
   rename_i k' n;cases hk:Gb k k' with
   |false=>rw[hk]at h;simp at h
   |true=>
    rw[hk]at h;have q:k=k':=by simpa[Gb]using hk
    subst q;simp only[cond_true]at h;split at h
    ·rename_i u g;simp at h;subst h;cases h1;rw[AP g h2];rfl
    ·simp at h
def LC(q:ec P tt)(hs:∀t,VR tt E Pp (a.tmps.getD t undef) (look s t)){i:Operand}
 (h:cF dz tt (.index t x i) ty s objs K):gW P tt E Pp W (Instr.index t (a.eval x) (a.eval i)) K:=by
 simp only[cF]at h;split at h
 ·exact h.elim
 rename_i ti T;have F:=q _ _ T;have V:=eG hs x;have N:=eG hs i;generalize a.eval x=v at*;generalize a.eval i=u at*;split at h
 ·rename_i b k n I L;rw[I]at V;rw[L]at N;cases hk:isStr ti with
  |false=>rw[hk]at h;exact h.elim
  |true=>
   rw[hk]at h;simp only[cond_true]at h;have hu:=F.str hk;cases V with
   |str s=>
    cases N;obtain⟨⟨h0,h1⟩,h⟩:=h;have ae:n<(s.size:Int):=yU h1;refine⟨.int .u8 (s[n.toNat]'yO).toNat,_,λw _=>?_,.int _ _,?_⟩
    ·rw[run_index_string w t s _ n hu,dif_pos ⟨h0,ae⟩]
    ·have hb:n.toNat<s.data.toList.length:=yQ;have:(s.data.toList.getD n.toNat 0)=s[n.toNat]'yO:=by simp[cc,bx hb];rfl
     simp only[this]at h;exact h
 ·rename_i cs k n I L;rw[I]at V;rw[L]at N;cases hb:(ti.agg&&gZ 0 ti.ar&&nb (ch cs) (ti.ar-1))with
  |false=>rw[hb]at h;exact h.elim
  |true=>
   rw[hb]at h;simp only[bw]at hb;obtain⟨⟨Y,U⟩,M⟩:=hb;have M:=cR M;have U:0+1<=ti.ar:=dK U;rw[cI]at M;simp only[cond_true]at h;split at h
   ·rename_i ei H;split at h
    ·rename_i k' J g;split at h
     ·rename_i ns ad;obtain⟨⟨h0,h1⟩,h⟩:=h;cases N;cases V with
      |agg vs _ hl=>
       have af:=AP ad hl;have O:=hl.length;subst af;simp at O;obtain⟨i,z,d,N,fh,ai,hz,aj,_,hd,hm⟩:=F.info;cases d with
       |array m e=>obtain⟨_,ab,ac,_⟩:=hm;have c8:n<(m:Int):=yO;refine⟨.int k' (ns.getD n.toNat 0),_,λw _=>?_,.int _ _,h⟩;obtain⟨_,G,_,_⟩:=(q _ _ H).run w;have Z:=BO (P:=P) (w:=w) (q _ _ H) (vs:=ns.map (Value.int k')) (off:=n.toNat) (by simp[g];omega);rw[ac]at G Z;simp only[Instr.index,asIntOf,Sem.run_bind,Sem.run_pure,Result.andThen_ok,run_underlying hd,if_pos (⟨h0,c8⟩:0<=n/\n<(m:Int)),G,g,dJ,pP,Z];simp only[valOf,J,g,cv,if_false,dJ];have S:n.toNat<ns.length:=yO;rw[bF (yU S)];simp[cc,S]
       |struct fs=>obtain⟨n,e,hu⟩:=F.arr Y yO;rw[hd]at hu;cases hu
       |_=>simp_all
     ·exact h.elim
    ·rename_i c ag J g;split at h
     ·rename_i j hj;cases C:gZ j (ti.ar-1)with
      |false=>rw[C]at h;exact h.elim
      |true=>
      rw[C]at h;have C:=dK C;have hn:=rF hj;subst hn;cases N;cases V with
      |agg vs _ hl=>
       have O:=hl.length;obtain⟨m,hu,ab⟩:=F.um Y yO;have c8:((j:Nat):Int)<(m:Int):=yO;have R:j<vs.length:=yO;refine⟨vs[j],Ge cs j,λw _=>?_,?_,h⟩
       ·obtain⟨_,G,_,_⟩:=(q _ _ H).run w;have Z:=BO (P:=P) (w:=w) (q _ _ H) (vs:=vs) (off:=j) (by simp[g];omega);simp only[Instr.index,asIntOf,Sem.run_bind,Sem.run_pure,Result.andThen_ok,run_underlying hu,if_pos (⟨dS _,c8⟩:0<=((j:Nat):Int)/\((j:Nat):Int)<(m:Int)),G,g,dJ,pP,ej,Z];simp only[valOf,J,g,cv,if_false,dJ];rw[bF R];rfl
       ·rw[HW];have X:j<cs.length:=yO;rw[fN,bx X];obtain⟨u,Q,aa⟩:=hl.get (bx X);rw[bx R]at Q;cases Q;exact aa
     ·exact h.elim
    ·exact h.elim
   ·exact h.elim
 ·exact h.elim
def Ol{x:Int}:(Builtin.max_ ts ty #[.int k x,.int k' y]).run P w= .ok (.int k (if y>x then y else x)) w:=by simp[Builtin.max_,Builtin.max2]
def Oj{x:Int}:(Builtin.min_ ts ty #[.int k x,.int k' y]).run P w= .ok (.int k (if y<x then y else x)) w:=by simp[Builtin.min_,Builtin.min2]
def foldl_push:∀(ns:List Int)(b:ByteArray),(ns.foldl (λr n=>r.push (iN n.toNat)) b).data.toList=b.data.toList++ns.map λn=>iN n.toNat
 |[],b=>yS
 |n::ns,b=>by rw[fB,foldl_push ns];simp[ByteArray.push]
def Mq(J:RW tt E Pp objs W)(hc:bR tt e=[.int .u8])(h:RD tt Pp (.slice e) v d):
 ∃b:ByteArray,b.data.toList=dz.OY d/\(∃a l c,v= .slice a l c)/\∀w,W w->(Conv.bytesToString v).run P w= .ok (.string b) w:=by
 cases h with
 |slnil=>exact⟨.empty,rfl,⟨_,_,_,rfl⟩,λw _=>by simp[Conv.bytesToString,Sem.run_pure]⟩
 |EY _ ad=>exact⟨.empty,rfl,⟨_,_,_,rfl⟩,λw _=>run_bytesToString w ad 0 0 [] (by simp[loadCells,loadCellsFrom,Sem.run_pure])⟩
 |sl _ b o len cap rows vf hl H dG gR gV=>
  obtain⟨ns,g⟩:∃ns:List Int,ns=rows.map Qf:=⟨_,rfl⟩
  have M:∀i,i<len->∃n,vf i 0= .int .u8 n/\ns[i]? =some n:=by
   intro i O;have q:rows[i]? =some (rows[i]'yO):=bx yO;have h1:=dG _ _ q;rw[hc]at h1
   obtain⟨x,I⟩:∃x,rows[i]'yO=[x]:=by
    match hr:rows[i]'yO,h1 with
    |[x],_=>exact⟨x,rfl⟩
   have h2:=gV i 0 _ x (.int .u8) q (by rw[I];rfl) (by rw[hc];rfl);generalize N:vf i 0=u at h2;cases h2 with
   |int _ n=>exact⟨n,rfl,by rw[g,cu,q,I];rfl⟩
  have F:ns.length=len:=by rw[g,bL,hl]
  refine⟨_,foldl_push ns .empty |>.trans ?_,⟨_,_,_,rfl⟩,λw L=>run_bytesToString w ⟨b,o,none⟩ len cap ns ?_⟩
  ·rw[g];simp[dz,cn,ia,Function.comp_def]
  ·have:=run_loadCells_list (P:=P) w ⟨b,o,none⟩ (ns.map (Value.int .u8)) (λj v z=>?_)
   ·rw[bL,F]at this;exact this
   ·rw[cu]at z
    have C:j<len:=by
     rcases bV j len with G|G
     ·exact G
     ·rw[ca yO]at z;simp at z
    obtain⟨n,e1,e2⟩:=M j C;rw[e2]at z;simp at z;subst z;have:=J.PY L (gR j 0 C (by rw[hc];decide));rw[fg,<-e1,<-this,hc];simp
def GA(j:ec P tt)(S:RW tt E Pp objs W)(hs:∀t,VR tt E Pp (a.tmps.getD t undef) (look s t)){u g:TypeId}
 (h:cF dz tt (.convert u g x) ty s objs K):gW P tt E Pp W (convert u g (a.eval x)) K:=by
 simp only[cF]at h;have G:=eG hs x;generalize a.eval x=v at*;split at h
 ·rename_i T ti h0 h1;obtain⟨X,_,d0,U,_,_,_,_,_,N,_⟩:=(j _ _ h0).info;split at h
  ·rename_i k k' n hk M;rw[M]at G;have F:=(j _ _ h1).int hk;cases G;have z:P.intKind g=k:=by simp[Program.intKind,F]
   have hr:=λw=>run_convert_int (P:=P) w u g k' n (by simp[N]) (by rw[z];exact F);rw[z]at hr;rcases h with⟨I,h⟩|h
   ·exact⟨.int k n,_,λw _=>by rw[hr,qY I],.int _ _,h trivial⟩
   ·exact⟨.int k (k.wrap n),_,λw _=>hr w,.int _ _,h trivial⟩
  ·rename_i e d hk M;rw[M]at G;split at h
   ·exact h.elim
   rename_i e' J;split at h
   ·exact h.elim
   rename_i V C;split at h
   ·rename_i q;cases hb:isStr ti&&nb e e' with
    |false=>rw[hb]at h;exact h.elim
    |true=>
     rw[hb]at h;simp only[bw]at hb;have he:=cR hb.2;subst he;have F:=(j _ _ h1).str hb.1;have hu:=(j _ _ C).int q;have H:=((j _ _ h0).slice J).1
     have Q:bR tt e=[.int .u8]:=by
      unfold bR;rw[C];simp only;unfold pk at q;split at q
      ·rename_i e1;cases q;exact e1
      ·cases q
     cases G with
     |lst _ _ _ gV=>
      obtain⟨b,O,⟨a1,l1,c1,rfl⟩,L⟩:=Mq (P:=P) S Q gV;refine⟨.string b,_,λw R=>?_,?_,h⟩
      ·rw[run_convert_bytes_string w u g e a1 l1 c1 H hu F];exact L w R
      ·have:VR tt E Pp (.string b) (.str (dz.OY d)):=by rw[<- O];exact .str b
       exact this
   ·exact h.elim
  ·exact h.elim
 ·exact h.elim
def As(q:ec P tt)(H:RW tt E Pp objs W)(hs:∀t,VR tt E Pp (a.tmps.getD t undef) (look s t)){o:Oper}
 (h:cF dz tt o.op o.type s objs K):Qk P tt E Pp W (execOp a.eval o) K:=by
 obtain⟨J,op,ty,pos,after,guard⟩:=o;simp only at h;cases op with
 |move x=>exact⟨_,_,λ_ _=>rfl,Gk hs _ _,h⟩
 |assign x=>exact⟨_,_,λ_ _=>rfl,Gk hs _ _,h⟩
 |load t x=>exact(On q H hs h).lift
 |binOp op t x y T=>exact(Mt q hs h).lift
 |convert src J x=>exact(GA q H hs h).lift
 |fieldAddr t x f=>exact(B5 q hs h).lift
 |field t x f=>exact(LV q hs h).lift
 |indexAddr t x i=>exact(B1 q H hs h).lift
 |build t ps=>exact(Mr q hs h).lift
 |index t x i=>exact(LC q hs h).lift
 |slice t x lo V U=>exact(Kt q H hs h).lift
 |pick c x y=>
  have hc:=eG hs c;have g:=eG hs x;have N:=eG hs y;simp only[cF]at h;simp only[execOp];generalize a.eval c=X at*;generalize a.eval x=L at*;generalize a.eval y=O at*;split at h
  ·rename_i e;rw[e]at hc;cases hc;exact⟨L,_,by intro w _;simp[asBool],g,h⟩
  ·rename_i e;rw[e]at hc;cases hc;exact⟨O,_,by intro w _;simp[asBool],N,h⟩
  ·rename_i b e;rw[e]at hc;cases hc
   split at h<;>first
    |exact h.elim
    |(rename_i m n G I
      rw[G]at g;rw[I]at N;cases g;cases N;refine⟨.bool (bif b then m else n),_,λw _=>?_,.bool _,h⟩;cases b<;>simp[asBool])
  ·exact h.elim
 |nilCheck x=>
  have g:=eG hs x;simp only[cF]at h;simp only[execOp];generalize a.eval x=v at*;split at h
  ·rename_i t d e;rw[e]at g;obtain⟨R,h⟩:=h;cases g with
   |dptr _ _ _ hr=>
    cases hr with
    |zG=>simp at R
    |ptr _ b o ds vf hl gR gV=>exact⟨_,_,λ_ _=>rfl,by simpa using VR.rK t _ 0 b o (.ptr _ b o ds vf hl gR gV),h⟩
  ·rename_i b off e;rw[e]at g;cases g with
   |box _ _ _ _ M hu=>
    cases hb:ir off dB with
    |false=>rw[hb]at h;exact h.elim
    |true=>rw[hb]at h;obtain rfl:=hu.get hb;exact⟨_,_,λ_ _=>rfl,.box _ _ _ _ M (.mk hb),h⟩
  ·rename_i e' d i off e;rw[e]at g;cases g with
   |js _ _ _ _ _ _ _ _ hr h0 h1=>exact⟨_,_,λ_ _=>rfl,.js _ _ _ _ _ _ _ _ hr h0 h1,h⟩
  ·rename_i e' r i off e;rw[e]at g;cases g with
   |fH _ _ _ _ _ _ _ _ _ M h0 hu=>
    cases hm:nb off dB with
    |true=>rw[hm]at h;exact h.elim
    |false=>
    rw[hm]at h;obtain⟨rfl,h1⟩:=hu.get hm;exact⟨_,_,λ_ _=>rfl,.fH _ _ _ _ _ _ _ _ _ M h0 (.mk rfl hm h1),h⟩
  ·rename_i cs off e;rw[e]at g;cases g with
   |cP _ _ _ _ _ _ hu hl Q=>
    cases hm:nb off dB with
    |true=>rw[hm]at h;exact h.elim
    |false=>rw[hm]at h;obtain rfl:=hu.get hm;exact⟨_,_,λ_ _=>rfl,.cP _ _ _ _ _ _ hu hl Q,h⟩
  ·rename_i t d off e;rw[e]at g;cases g with
   |rK _ _ _ _ _ hr=>exact⟨_,_,λ_ _=>rfl,.rK _ _ _ _ _ hr,h⟩
  ·rename_i f cs e;rw[e]at g;cases g with
   |cy _ f vs _ hu hl=>
    refine⟨_,_,λ_ _=>?_,.cy _ _ _ _ hu hl,h⟩;rcases bV f kz with hb|hb
    ·rw[hu.1 hb];rfl
    ·rw[hu.2 hb];rfl
  ·exact h.elim
 |unOp op t x=>
  have g:=eG hs x;simp only[cF]at h;simp only[execOp];generalize a.eval x=v at*;refine gW.lift ?_;split at h
  ·rename_i b e;rw[e]at g;cases g;exact⟨.bool !b,_,by intro w _;simp[Op.unary],.bool _,h⟩
  ·rename_i e;rw[e]at g;cases g;exact⟨.bool false,_,by intro w _;simp[Op.unary],.bl _,h⟩
  ·rename_i e;rw[e]at g;cases g;exact⟨.bool true,_,by intro w _;simp[Op.unary],.bl _,h⟩
  ·rename_i k n e;rw[e]at g;cases g;obtain⟨hr,h⟩:=h;exact⟨.int k (0-n),_,by intro w _;simp only[Op.unary,Op.intArith,qY hr,Sem.run_pure],.int _ _,h⟩
  ·exact h.elim
 |makeFunc f first ma=>
  simp only[cF]at h;cases f with
  |func f=>
   simp only at h;split at h
   ·rename_i e;have hf:first= #[]:=by cases first;simp at e;simp[e]
    subst hf;cases hb:gZ f kz with
    |false=>rw[hb]at h;exact h.elim
    |true=>
    rw[hb]at h;refine⟨.func (.func f) #[] ⟨ma.toList.map a.eval⟩,_,λw _=>?_,.cy _ _ _ _ (mS.mk hb) (LX hs _),h⟩;have:ma.map a.eval=⟨ma.toList.map a.eval⟩:=by apply fL;simp
    simp[execOp,Instr.makeFunc,this]
   ·split at h
    ·rename_i e;have hf:ma= #[]:=by cases ma;simp at e;simp[e]
     subst hf;refine⟨.func (.func f) ⟨first.toList.map a.eval⟩ #[],_,λw _=>?_,.cy _ _ _ _ mS.gh (LX hs _),h⟩;have:first.map a.eval=⟨first.toList.map a.eval⟩:=by apply fL;simp
     simp[execOp,Instr.makeFunc,this]
    ·exact h.elim
  |_=>exact h.elim
 |extract x i=>
  have g:=eG hs x;simp only[cF]at h;simp only[execOp];generalize a.eval x=v at*;refine gW.lift ?_;split at h
  ·rename_i vs e;rw[e]at g;cases hb:gZ i (ch vs)with
   |false=>rw[hb]at h;exact h.elim
   |true=>
    rw[hb]at h;have hb:i+1<=ch vs:=dK hb;rw[cI]at hb;cases g with
    |tup us _ hl=>obtain⟨u,hu,S⟩:=hl.get (j:=i) (p:=vs[i]) (bx yO);refine⟨u,_,by intro w _;simp[Instr.extract,hu],S,?_⟩;rw[HW]at h;simpa[cc,bx (show i<vs.length by omega)]using h
  ·exact h.elim
 |call c=>
  obtain⟨z,as,ts⟩:=c;cases z with
  |value f=>exact h.elim
  |invoke r m=>exact h.elim
  |builtin b=>
   cases b<;>try exact h.elim
   case len=>have:=(Q6 q H hs h).lift;simpa[execOp,resolve,invoke,builtin]using this
   case max=>
    simp only[cF]at h;split at h
    ·rename_i x y g;obtain rfl:as= #[x,y]:=by cases as;simp at g;simp[g]
     have h1:=eG hs x;have h2:=eG hs y;split at h
     ·rename_i k m k' n G I;rw[G]at h1;rw[I]at h2;refine⟨.int k (if n>m then n else m),_,λw _=>?_,.int _ _,h⟩;simp only[execOp,resolve,pure_bind,invoke,builtin];generalize F:a.eval x=L at*;generalize C:a.eval y=O at*;cases h1;cases h2;simp[F,C,Ol]
     ·exact h.elim
    ·exact h.elim
   case min=>
    simp only[cF]at h;split at h
    ·rename_i x y g;obtain rfl:as= #[x,y]:=by cases as;simp at g;simp[g]
     have h1:=eG hs x;have h2:=eG hs y;split at h
     ·rename_i k m k' n G I;rw[G]at h1;rw[I]at h2;refine⟨.int k (if n<m then n else m),_,λw _=>?_,.int _ _,h⟩;simp only[execOp,resolve,pure_bind,invoke,builtin];generalize F:a.eval x=L at*;generalize C:a.eval y=O at*;cases h1;cases h2;simp[F,C,Oj]
     ·exact h.elim
    ·exact h.elim
 |_=>exact h.elim
def OR.ng{g:Nat}(h:OR tt E Pp w (.row g o len cap) (.row e d false)):RD tt Pp (.slice e) (.slice (some ⟨g,o,none⟩) len cap) d:=by
 obtain⟨vs,T,rows,hb,rfl,hl,q,fh,dG,_,hf⟩:=h;obtain⟨F,_⟩:=hf rfl;refine .sl e g o len cap rows (λi j=>vs.getD (o+i*(bR tt e).length+j) undef) hl q (λi row u=>(dG i row u).1) ?_ ?_
 ·intro i j u z;have H:rows[i]? =some rows[i]:=bx yO;obtain⟨I,hc⟩:=dG i _ H;obtain⟨v,C,_⟩:=hc j _ _ (bx yO) (bx z);have:=F i j v u z C;simpa[cc,C]using this
 ·intro i j row d ck u z G;obtain⟨v,C,hr⟩:=(dG i row u).2 j d ck z G;simpa[cc,C]using hr
theorem WR.rw(F:WR tt E Pp objs w):RW tt E Pp objs (λw'=>w'=w):=by
 refine⟨?_,?_,?_,?_,?_,?_⟩
 ·rintro _ rfl ad v h;exact F.pi ad v h
 ·intro i cs b C z;obtain⟨ri,q,u⟩:=F.ob i _ C rfl;rw[z]at q;cases q;obtain⟨vs,T,hb,I,_⟩:=u;exact⟨vs,I,by rintro _ rfl j v H;rw[eC hb];exact H⟩
 ·intro i e d wr C z;obtain⟨ri,q,u⟩:=F.ob i _ C rfl;rw[z]at q;cases q;exact u
 ·intro i e d wr g o len cap C z;obtain⟨ri,q,u⟩:=F.ob i _ C rfl;rw[z]at q;cases q;obtain⟨vs,T,rows,hb,G,hl,J,fh,dG,_,_⟩:=u;exact⟨vs,rows,G,hl,dG,by rintro _ rfl j v H _ _;rw[eC hb];exact H⟩
 ·intro i e d g o len cap C z;obtain⟨ri,q,u⟩:=F.ob i _ C rfl;rw[z]at q;cases q;exact OR.ng u
 ·rintro i kc e d b bs cl C z _ rfl;obtain⟨ri,q,u⟩:=F.ob i _ C rfl;rw[z]at q;cases q;obtain⟨es,rows,hb,G,hl,_⟩:=u;exact⟨es,_,rows,hb,G,yU hl⟩
end
end
section
variable [Inhabited pB]
open Go
structure St where
 s:cU
 o:List Ob
structure jc where
 w0:World
 E0:List RI
 P0:fE
 kI:Nat->Prop
 d0:List Deferred:=[]
def JD(own:Nat->Prop)(w:World)(Pp Pp':fE):Prop:=∀ad v,Pp' ad v->Pp ad v\/w.heap.size<=ad.block\/own ad.block
def lN(own:Nat->Prop)(w:World)(E':List RI)(objs':List Ob):Prop:=∀(i:Nat) o ri b,objs'[i]? =some o->o.live=true->E'[i]? =some ri->ri.cZ =some b->w.heap.size<=b\/own b
structure fS (tt:TypeId->Option TI) (N:Nat) (B:jc) (E:List RI) (Pp:fE) (st:St) (a:Act) (w:World):Prop where
 wr:WR tt E Pp st.o w
 fk:∀t,VR tt E Pp (a.tmps.getD t undef) (look st.s t)
 size:a.tmps.size=N
 defers:a.defers=B.d0
 pre:oR B.E0 E
 rv:∀ad v,B.P0 ad v->Pp ad v
 fr:Fr B.kI B.w0 w
 jo:JD B.kI B.w0 B.P0 Pp
 fresh:lN B.kI B.w0 E st.o
structure cL (tt:TypeId->Option TI) (B:jc) (E:List RI) (Pp:fE) (objs:List Ob) (w:World):Prop where
 wr:WR tt E Pp objs w
 pre:oR B.E0 E
 rv:∀ad v,B.P0 ad v->Pp ad v
 fr:Fr B.kI B.w0 w
 jo:JD B.kI B.w0 B.P0 Pp
 fresh:lN B.kI B.w0 E objs
section
variable {P:Program}{tt:TypeId->Option TI}{N:Nat}{B:jc}{E:List RI}{Pp:fE}{objs:List Ob}{w:World}{st:St}{a:Act}
variable {ri:RI}{w':World}{Pp':fE}{E':List RI}
def fS.EX(h:fS tt N B E Pp st a w):cL tt B E Pp st.o w:=⟨h.wr,h.pre,h.rv,h.fr,h.jo,h.fresh⟩
def cL.JP(h:cL tt B E Pp st.o w)(hs:∀t,VR tt E Pp (a.tmps.getD t undef) (look st.s t))(c:a.tmps.size=N)(b:a.defers=B.d0):fS tt N B E Pp st a w:=⟨h.wr,hs,c,b,h.pre,h.rv,h.fr,h.jo,h.fresh⟩
def mF(f:WR tt E Pp objs w){b:Nat}(h:own E objs b):b<w.heap.size:=by
 obtain⟨i,o,ri,j,hl,g,hb⟩:=h;obtain⟨ri',d,c⟩:=f.ob i o j hl;rw[g]at d;cases d
 have lt:∀(x:Obj),w.heap[b]? =some x->b<w.heap.size:=by
  intro x k;rcases bV b w.heap.size with e|e
  ·exact e
  ·simp[cC e]at k
 cases ri<;>cases o<;>simp[RI.cZ]at hb<;>subst hb<;>simp only[OR]at c
 ·obtain⟨_,_,h,_⟩:=c;exact lt _ h
 ·obtain⟨_,_,_,h,_⟩:=c;exact lt _ h
 ·obtain⟨_,h,_⟩:=c;exact lt _ h
 ·obtain⟨_,_,h,_⟩:=c;exact lt _ h
 ·obtain⟨_,_,_,_,_,h,_⟩:=c;exact lt _ h
 ·obtain⟨_,_,⟨_,_,_,_,_,h⟩|⟨_,_,_,_,_,_,h,_⟩⟩:=c<;>exact lt _ h
 ·obtain⟨_,h,_⟩:=c;exact lt _ h
def OR.LN{o:Ob}(q:oR E E')(z:∀m s,o= .iter m s->∀x,E[m]? =some x->E'[m]? =some x)(l:∀ad v,Pp ad v->Pp' ad v)
 (hb:∀b,ri.cZ =some b->w'.heap[b]? =w.heap[b]?) (f:∀b,ri.cZ =some b->∀ad v,Pp' ad v->ad.block=b->Pp ad v) (h:OR tt E Pp w ri o):OR tt E' Pp' w' ri o:=by
 cases ri<;>cases o<;>simp only[OR]at h ⊢
 case box.box b cs=>obtain⟨vs,T,h1,h2,h3,h4⟩:=h;exact⟨vs,T,by rw[hb b rfl];exact h1,(VR.fQ q l).2 h2,λad v k he=>h3 ad v (f b rfl ad v k he) he,h4⟩
 case row0.row e d wr=>exact h
 case map.box b borns clock cs=>obtain⟨es,h1,h2,h3,h4,h5,h6⟩:=h;exact⟨es,by rw[hb b rfl];exact h1,(VR.fQ q l).2 h2,h3,h4,h5,λad v k he=>h6 ad v (f b rfl ad v k he) he⟩
 case row.row g o len cap e d wr=>
  obtain⟨vs,T,rows,h1,h2,h3,h4,h5,h6,h7,h8⟩:=h;refine⟨vs,T,rows,by rw[hb g rfl];exact h1,h2,h3,h4,h5,?_,?_,?_⟩
  ·intro i row K;obtain⟨hl,hc⟩:=h6 i row K;refine⟨hl,λj d ck H C=>?_⟩;obtain⟨v,k,hr⟩:=hc j d ck H C;exact⟨v,k,hr.mono l⟩
  ·intro u ad v k he;exact h7 u ad v (f g rfl ad v k he) he
  ·intro u;obtain⟨F,A⟩:=h8 u;exact⟨λi j v a b c=>l _ _ (F i j v a b c),λad v k he=>A ad v (f g rfl ad v k he) he⟩
 case map.map b borns clock kc e d=>obtain⟨es,rows,h1,h2,h3,h4,h5,h6,h7,h8⟩:=h;refine⟨es,rows,by rw[hb b rfl];exact h1,h2,h3,?_,h5,h6,h7,λad v k he=>h8 ad v (f b rfl ad v k he) he⟩;intro i x row L dG;obtain⟨kd,vd,e1,e2,e3,J,D,G⟩:=h4 i x row L dG;exact⟨kd,vd,e1,e2.mono l,e3,J,λj d ck v a b c=>(D j d ck v a b c).mono l,G⟩
 case iter.iter b m seen=>obtain⟨y,borns,clock,p,h1,h2,h3⟩:=h;exact⟨y,borns,clock,p,z _ _ rfl _ h1,by rw[hb b rfl];exact h2,h3⟩
 case iter.diter b e d seen=>
  obtain⟨p,h1,⟨h2,h3,n,I,m,h4⟩|⟨y,es,clock,rows,h2,h3,h4,h5⟩⟩:=h
  ·exact⟨p,h1,.inl ⟨h2,h3,n,I,m,by rw[hb b rfl];exact h4⟩⟩
  ·exact⟨p,h1,.inr ⟨y,es,clock,rows,h2,h3.mono l,by rw[hb b rfl];exact h4,h5⟩⟩
 case loop.loop b n ps c1 c2 s j=>obtain⟨r,h1,h2,h3⟩:=h;exact⟨r,by rw[hb b rfl];exact h1,h2,λt=>(VR.fQ q l).1 (h3 t)⟩
def OR.frame{o:Ob}(d:∀(i:Nat) x,E[i]? =some x->E'[i]? =some x)(e:∀ad v,Pp ad v->Pp' ad v)
 (hb:∀b,ri.cZ =some b->w'.heap[b]? =w.heap[b]?) (c:∀b,ri.cZ =some b->∀ad v,Pp' ad v->ad.block=b->Pp ad v) (h:OR tt E Pp w ri o):OR tt E' Pp' w' ri o:=
 OR.LN (.of d) (λ_ _ _ x f=>d _ x f) e hb c h
def WR.frame(h:WR tt E Pp objs w)(hb:∀b,own E objs b->w'.heap[b]? =w.heap[b]?)(j:∀ad v,Pp ad v->Pp' ad v)
 (e:∀ad v,Pp' ad v->Pp ad v\/¬own E objs ad.block) (gR:∀ad v,Pp' ad v->pc w' ad=some v):WR tt E Pp' objs w':=by
 refine⟨h.len,gR,?_,h.sep,h.SN j⟩;intro i o f hl;obtain⟨ri,d,g⟩:=h.ob i o f hl;refine⟨ri,d,OR.frame (λ_ _ h=>h) j (λb c=>hb b ⟨i,o,ri,f,hl,d,c⟩) (λb c ad v k he=>?_) g⟩;rcases e ad v k with h1|h1
 ·exact h1
 ·exact absurd ⟨i,o,ri,f,hl,d,by rw[c,he]⟩ h1
def sZ{w:World}{ad:Addr}(h:w'.heap[ad.block]? =w.heap[ad.block]?):w'.cell? ad=w.cell? ad:=by simp[World.cell?,h]
def WR.push{o:Ob}(h:WR tt E Pp objs w)(t:o.live=true->OR tt (E++[ri]) Pp w ri o)(l:∀b,ri.cZ =some b->¬own E objs b):WR tt (E++[ri]) Pp (objs++[o]) w:=by
 have v:∀(i:Nat) x,E[i]? =some x->(E++[ri])[i]? =some x:=by
  intro i x f;rw[bS]
  ·exact f
  ·rcases bV i E.length with k|k
   ·exact k
   ·rw[ca k]at f;simp at f
 have split:∀(i:Nat) x,(objs++[o])[i]? =some x->(objs[i]? =some x/\i<objs.length)\/(i=objs.length/\x=o):=by
  intro i x f;rcases zv i objs.length with k|k|k
  ·rw[bS k]at f;exact .inl ⟨f,k⟩
  ·subst k;simp at f;exact .inr ⟨rfl,f.symm⟩
  ·rw[ca yQ]at f;simp at f
 have c:∀(i:Nat),i<objs.length->(E++[ri])[i]? =E[i]? :=λi u=>by rw[bS (by rw[h.len];exact u)]
 have g:(E++[ri])[objs.length]? =some ri:=by rw[<- h.len];simp
 refine⟨by simp[h.len],h.pi,?_,?_,h.gl⟩
 ·intro i x f hl;rcases split i x f with⟨h1,_⟩|⟨rfl,rfl⟩
  ·obtain⟨r,hr,p⟩:=h.ob i x h1 hl;exact⟨r,v _ _ hr,OR.frame v (λ_ _ h=>h) (λ_ _=>rfl) (λ_ _ _ _ h _=>h) p⟩
  ·exact⟨ri,g,t hl⟩
 ·intro i j oi oj ri' rj b u y s q d e m n;rcases split i oi u with⟨h1,l1⟩|⟨rfl,rfl⟩<;>rcases split j oj y with⟨h2,l2⟩|⟨rfl,rfl⟩
  ·rw[c i l1]at d;rw[c j l2]at e;exact h.sep i j oi oj ri' rj b h1 h2 s q d e m n
  ·rw[c i l1]at d;rw[g]at e;cases e;exact absurd ⟨i,oi,ri',h1,s,d,m⟩ (l b n)
  ·rw[c j l2]at e;rw[g]at d;cases d;exact absurd ⟨j,oj,rj,h2,q,e,n⟩ (l b m)
  ·rfl
def mem_push:∀(i:Nat) x,E[i]? =some x->(E++[ri])[i]? =some x:=by
 intro i x b;rw[bS]
 ·exact b
 ·rcases bV i E.length with c|c
  ·exact c
  ·rw[ca c]at b;simp at b
def qo{E0:List RI}(h:oR E0 E):oR E0 (E++[ri]):=h.trans (.of mem_push)
def lN.push{own:Nat->Prop}{w0:World}{o:Ob}(hl:E.length=objs.length)(h:lN own w0 E objs)(f:∀b,ri.cZ =some b->w0.heap.size<=b\/own b):lN own w0 (E++[ri]) (objs++[o]):=by
 intro i x r b d e hr hb;rcases zv i objs.length with c|c|c
 ·rw[bS c]at d;rw[bS yO]at hr;exact h i x r b d e hr hb
 ·subst c;rw[<- hl]at hr;simp at hr;subst hr;exact f b hb
 ·rw[ca yQ]at d;simp at d
def cL.alloc(h:cL tt B E Pp objs w)(x:Obj):cL tt B E Pp objs (w.alloc x):=by
 have c:∀k,k<w.heap.size->(w.alloc x).heap[k]? =w.heap[k]? :=λk hk=>RowKit.Below.heap_alloc w x k hk;refine⟨?_,h.pre,h.rv,?_,h.jo,h.fresh⟩
 ·refine h.wr.frame (λb hb=>c b (mF h.wr hb)) (λ_ _ h=>h) (λ_ _ h=>.inl h) (λad v d=>?_);have:=h.wr.pi ad v d;rw[gF (c _ (xY this))];exact this
 ·exact⟨h.fr.os,h.fr.tape,h.fr.output,by have:=h.fr.size;simp;omega,h.fr.drawn,λk hk e=>(c k (by have:=h.fr.size;omega)).trans (h.fr.block k hk e)⟩
def cL.new(h:cL tt B E Pp objs w){x:Obj}{o:Ob}(hb:ri.cZ =some w.heap.size)(d:OR tt (E++[ri]) Pp (w.alloc x) ri o):
 cL tt B (E++[ri]) Pp (objs++[o]) (w.alloc x):=by
 have h1:=h.alloc x;refine⟨h1.wr.push (λ_=>d) ?_,qo h1.pre,h1.rv,h1.fr,h1.jo,h1.fresh.push h1.wr.len ?_⟩
 ·intro b c e;rw[hb]at c;cases c;have:=mF h.wr e;omega
 ·intro b c;rw[hb]at c;cases c;exact .inl h.fr.size
def kj(h:WR tt E Pp objs w):∀ad v,Pp ad v->ad.block≠w.heap.size:=by intro ad v b;have:=xY (h.pi ad v b);omega
def cL.lay(h:cL tt B E Pp objs w)(vs:List Value)(T:TypeId):
 cL tt B E (λad v=>Pp ad v\/(ad.block=w.heap.size/\(w.alloc (.cells ⟨vs⟩ T)).cell? ad=some v)) objs (w.alloc (.cells ⟨vs⟩ T)):=by
 have h1:=h.alloc (.cells ⟨vs⟩ T);refine⟨?_,h1.pre,λad v b=>.inl (h1.rv ad v b),h1.fr,?_,h1.fresh⟩
 ·refine h1.wr.frame (λ_ _=>rfl) (λ_ _ h=>.inl h) ?_ ?_
  ·intro ad v b;rcases b with b|⟨b,_⟩
   ·exact .inl b
   ·refine .inr (λc=>?_);have:=mF h.wr c;omega
  ·intro ad v b;rcases b with b|⟨_,b⟩
   ·exact h1.wr.pi ad v b
   ·exact gm b
 ·intro ad v b;rcases b with b|⟨b,_⟩
  ·exact h1.jo ad v b
  ·exact .inr (.inl (by rw[b];exact h.fr.size))
def cL.drew(h:cL tt B E Pp objs w):cL tt B E Pp objs w.drew:=⟨h.wr.frame (λ_ _=>rfl) (λ_ _ h=>h) (λ_ _ h=>.inl h) (λad v c=>h.wr.pi ad v c),h.pre,h.rv,⟨h.fr.os,h.fr.tape,h.fr.output,h.fr.size,λb=>Nat.le_succ_of_le (h.fr.drawn b),h.fr.block⟩,h.jo,h.fresh⟩
end
end
section
variable [Inhabited pB]
open Go
variable {α β:Type}
def nX{α:Type}(f:α->Bool):List α->Bool|[]=>false|x::l=>f x||nX f l
def gE{α:Type}(f:α->Bool):List α->Bool|[]=>true|x::l=>f x&&gE f l
def cS{α β:Type}(f:α->β):List α->List β|[]=>[]|x::l=>f x::cS f l
def eV{α β:Type}(f:α->List β):List α->List β|[]=>[]|x::l=>Mz (f x) (eV f l)
 where Mz:List β->List β->List β|[],k=>k|x::l,k=>x::Mz l k
def gi{α:Type}:List α->List α->List α|[],k=>k|x::l,k=>x::gi l k
def eI(n:Nat):List Nat->Bool|[]=>false|x::l=>nb x n||eI n l
def gU:List Ob->Nat->Ob->List Ob
 |[],_,_=>[]|_::xs,0,y=>y::xs|x::xs,n+1,y=>x::gU xs n y
def gG(f:α->β)(l:List α):cS f l=l.map f:=by induction l<;>simp[cS, *]
def eX(l k:List α):gi l k=l++k:=by induction l<;>simp[gi, *]
def py(f:α->Bool)(l:List α):nX f l=l.any f:=by induction l<;>simp[nX, *]
def ur(f:α->Bool)(l:List α):gE f l=l.all f:=by induction l<;>simp[gE, *]
def kZ(f:α->List β)(l:List α):eV f l=l.flatMap f:=by
 have:∀(a b:List β),eV.Mz a b=a++b:=by intro a b;induction a<;>simp[eV.Mz, *]
 induction l<;>simp_all[eV]
def fV(l:List Ob)(n:Nat)(y:Ob):gU l n y=l.set n y:=by
 induction l generalizing n with
 |nil=>simp[gU]
 |cons x xs a=>cases n<;>simp[gU,a]
def kW(n:Nat)(l:List Nat):eI n l=true↔n∈l:=by
 induction l with
 |nil=>simp[eI]
 |cons x l a=>
  simp only[eI,fU,a,bN];constructor
  ·rintro(h|h)
   ·exact .inl (cR h).symm
   ·exact .inr h
  ·rintro(h|h)
   ·subst h;exact .inl (jq n)
   ·exact .inr h
def uA(r:Nat):Nat->PV->Bool
 |0,_=>true
 |n+1,p=>match p with
  | .agg cs=>nX (uA r n) cs
  | .tup cs=>nX (uA r n) cs
  | .cy _ cs=>nX (uA r n) cs
  | .cP cs _=>nX (uA r n) cs
  | .box b _=>nb b r
  | .row _ x=>nb x r
  | .fH _ x _ _=>nb x r
  | .mp x=>nb x r
  | .it x=>nb x r
  | .j9 x=>nb x r
  |_=>false
def kill(r:Nat)(p:PV):PV:=bif uA r 8 p then .undef else p
def lQ(r:Nat):cU->cU|[]=>[]|(t,p)::s=>(t,kill r p)::lQ r s
def jw(r:Nat):List Ob->List Ob
 |[]=>[]
 | .box cs::l=>.box (cS (kill r) cs)::jw r l
 | .loop n ps a c s j::l=>.loop n ps a c (lQ r s) j::jw r l
 |o::l=>o::jw r l
def tA(r:Nat)(e:TypeId)(d:D):Nat->PV->PV
 |0,_=>.undef
 |n+1,p=>match p with
  | .mp x=>bif nb x r then .dmp e d else .mp x
  | .agg cs=>.agg (cS (tA r e d n) cs)
  | .tup cs=>.tup (cS (tA r e d n) cs)
  | .cy f cs=>.cy f (cS (tA r e d n) cs)
  | .cP cs off=>.cP (cS (tA r e d n) cs) off
  |p=>p
def sa(r:Nat)(e:TypeId)(d:D)(p:PV):PV:=bif uA r 8 p then tA r e d 8 p else p
def Ae(r:Nat)(e:TypeId)(d:D):cU->cU|[]=>[]|(t,p)::s=>(t,sa r e d p)::Ae r e d s
def xt(r:Nat)(e:TypeId)(d:D):Ob->Ob
 | .box cs=>.box (cS (sa r e d) cs)
 | .loop n ps a c s j=>.loop n ps a c (Ae r e d s) j
 | .iter m s=>bif nb m r then .diter e d s else .iter m s
 |o=>o
def sD(r:Nat)(e:TypeId)(d:D)(l:List Ob):List Ob:=gU (cS (xt r e d) l) r .dead
def uM(r:Nat)(st:St):St:=match ew st.o r with
 | .map kc e d=>bif decide (kc= .str)then⟨Ae r e d st.s,sD r e d st.o⟩else st
 |_=>st
def sinks:List Nat->St->St
 |[],st=>st
 |r::l,st=>sinks l (uM r st)
def K5:Nat->PV->List Nat
 |0,_=>[]
 |n+1,p=>match p with
  | .mp r=>[r]
  | .agg cs=>eV (K5 n) cs
  |_=>[]
def BS:PV->List Nat
 | .tup cs=>eV Oh cs
 | .agg cs=>eV (K5 8) cs
 |_=>[]
 where Oh:PV->List Nat
 | .agg cs=>eV (K5 8) cs
 |_=>[]
def ng(objs:List Ob):Nat->PV->PV
 |0,_=>.undef
 |n+1,p=>match p with
  | .row e r=>match ew objs r with
   | .row e' d _=>bif nb e e' then .lst e d else .undef
   |_=>.undef
  | .box b off=>match ew objs b with
   | .box cs=>bif ir dB off then .undef else .cP (cS (ng objs n) cs) off
   |_=>.undef
  | .nx e d=>.lst e d
  | .agg cs=>.agg (cS (ng objs n) cs)
  | .tup cs=>.tup (cS (ng objs n) cs)
  | .cy f cs=>.cy f (cS (ng objs n) cs)
  | .cP cs off=>.cP (cS (ng objs n) cs) off
  | .fH _ _ _ _=>.undef
  | .mp _=>.undef
  | .it _=>.undef
  | .j9 _=>.undef
  |p=>p
def ids(objs:List Ob):Nat->PV->List Nat
 |0,_=>[]
 |n+1,p=>match p with
  | .row _ r=>[r]
  | .box b _=>b::(match ew objs b with| .box cs=>eV (ids objs n) cs|_=>[])
  | .agg cs=>eV (ids objs n) cs
  | .tup cs=>eV (ids objs n) cs
  | .cy _ cs=>eV (ids objs n) cs
  | .cP cs _=>eV (ids objs n) cs
  |_=>[]
def wk:Nat->PV->PV
 |0,p=>p
 |n+1,p=>match p with
  | .bl b=>.bool b
  | .agg cs=>.agg (cS (wk n) cs)
  | .tup cs=>.tup (cS (wk n) cs)
  |p=>p
def plain:Nat->PV->Bool
 |0,_=>false
 |n+1,p=>match p with
  | .undef=>true
  | .int _ _=>true
  | .bl _=>true
  | .bool _=>true
  | .str _=>true
  | .agg cs=>gE (plain n) cs
  | .tup cs=>gE (plain n) cs
  | .nilp=>true
  | .nilm=>true
  | .nilf=>true
  |_=>false
def vZ:Ob->Ob
 | .row e d _=>.row e d false
 | .box _=>.dead
 |o=>o
def fw(F:List Nat):Nat->List Ob->List Ob
 |_,[]=>[]
 |i,o::l=>(bif eI i F then vZ o else o)::fw F (i+1) l
def mM(F:List Nat)(objs:List Ob):cU->cU
 |[]=>[]
 |(t,p)::s=>(t,bif nX (λb=>(match ew objs b with| .box _=>uA b 8 p|_=>false)) F then(bif gE (λi=>eI i F) (ids objs 8 p)then ng objs 8 p else .undef)else p)::mM F objs s
def Oq(objs:List Ob)(r:Nat):PV->PV
 | .row e x=>bif nb x r then ng objs 8 (.row e x)else .row e x
 |p=>p
def F9(objs:List Ob)(r:Nat):cU->cU
 |[]=>[]
 |(t,p)::s=>(t,Oq objs r p)::F9 objs r s
def va(objs:List Ob)(r:Nat):∀(s:cU)(t:Nat),look (F9 objs r s) t=Oq objs r (look s t)
 |[],t=>rfl
 |(k,p)::s,t=>by simp only[F9,look];have a:=va objs r s t;split<;>simp_all
structure ea where
 tt:TypeId->Option TI
 n:Nat
 own:List Nat:=[]
 dV:List FuncId:=[]
 live:List FuncId:=[]
 n0:Nat:=0
 iT:List (Nat×List Nat):=[]
 nh:List Nat:=[]
 Cz:Bool:=false
 qC:List Nat:=[]
 view:List Nat:=[]
 KU:Bool:=false
 SK:List Nat:=[]
 Uw:List Nat:=[]
 Wg:List Nat:=[]
 Ta:List Nat:=[]
 ZW:Bool:=false
def IM(f:Nat->Nat):Nat->PV->PV
 |0,_=>.undef
 |k+1,p=>match p with
  | .row e r=>.row e (f r)
  | .mp r=>.mp (f r)
  | .agg cs=>.agg (cS (IM f k) cs)
  | .tup cs=>.tup (cS (IM f k) cs)
  | .cy g cs=>.cy g (cS (IM f k) cs)
  | .cP cs off=>.cP (cS (IM f k) cs) off
  | .box _ _=>.undef
  | .fH _ _ _ _=>.undef
  | .it _=>.undef
  | .j9 _=>.undef
  |p=>p
def rS:List Nat->Nat->Nat->Option Nat
 |[],_,_=>none
 |x::l,k,n=>match nb x n with
  |true=>some k
  |false=>rS l (k+1) n
def jv(ps:List Nat):Nat->PV->PV
 |0,_=>.undef
 |n+1,p=>match p with
  | .row e r=>(match rS ps 0 r with|some k=>.row e k|none=>.undef)
  | .mp r=>(match rS ps 0 r with|some k=>.mp k|none=>.undef)
  | .it r=>(match rS ps 0 r with|some k=>.it k|none=>.undef)
  | .j9 r=>(match rS ps 0 r with|some k=>.j9 k|none=>.undef)
  | .box r off=>(match rS ps 0 r with|some k=>.box k off|none=>.undef)
  | .fH e r i off=>(match rS ps 0 r with|some k=>.fH e k i off|none=>.undef)
  | .agg cs=>.agg (cS (jv ps n) cs)
  | .tup cs=>.tup (cS (jv ps n) cs)
  | .cy g cs=>.cy g (cS (jv ps n) cs)
  | .cP cs off=>.cP (cS (jv ps n) cs) off
  |p=>p
def Av(ps:List Nat):cU->cU
 |[]=>[]
 |(t,p)::s=>(t,jv ps 8 p)::Av ps s
def jG(ps:List Nat):Ob->Ob
 | .box cs=>.box (cS (jv ps 8) cs)
 | .loop n b a c s j=>.loop n b a c (Av ps s) j
 | .iter m s=>(match rS ps 0 m with|some k=>.iter k s|none=>.dead)
 |o=>o
def ql(f:Nat->Nat):Nat->PV->PV
 |0,_=>.undef
 |k+1,p=>match p with
  | .row e r=>.row e (f r)
  | .mp r=>.mp (f r)
  | .it r=>.it (f r)
  | .j9 r=>.j9 (f r)
  | .box r off=>.box (f r) off
  | .fH e r i off=>.fH e (f r) i off
  | .agg cs=>.agg (cS (ql f k) cs)
  | .tup cs=>.tup (cS (ql f k) cs)
  | .cy g cs=>.cy g (cS (ql f k) cs)
  | .cP cs off=>.cP (cS (ql f k) cs) off
  |p=>p
def IL(f:Nat->Nat):cU->cU
 |[]=>[]
 |(t,p)::s=>(t,ql f 8 p)::IL f s
def oq(f:Nat->Nat):Ob->Ob
 | .box cs=>.box (cS (ql f 8) cs)
 | .loop n b a c s j=>.loop n b a c (IL f s) j
 | .iter _ _=>.dead
 |o=>o
def jz:List Nat->Bool
 |[]=>true
 |x::l=>bif eI x l then false else jz l
def il(n:Nat):List Nat->Nat->Nat
 |[],j=>n+j
 |r::_,0=>r
 |_::F,j+1=>il n F j
def FL:List Nat->List Ob->List Ob->List Ob
 |[],l,xs=>gi l xs
 |r::F,l,x::xs=>FL F (gU l r x) xs
 |_::_,l,[]=>l
def ko(F:List Nat):List Ob->List Ob
 |[]=>[]
 | .iter m s::l=>(bif eI m F then .dead else .iter m s)::ko F l
 |o::l=>o::ko F l
def sH:Nat->PV->List Nat
 |0,_=>[]
 |n+1,p=>match p with
  | .row _ r=>[r]
  | .agg cs=>eV (sH n) cs
  | .tup cs=>eV (sH n) cs
  |_=>[]
def Ji(objs:List Ob):Nat->PV->PV
 |0,_=>.undef
 |n+1,p=>match p with
  | .row e r=>match ew objs r with
   | .row e' d _=>bif nb e e' then .lst e d else .undef
   |_=>.undef
  | .agg cs=>.agg (cS (Ji objs n) cs)
  | .tup cs=>.tup (cS (Ji objs n) cs)
  |p=>p
def ot:Nat->PV->List Nat
 |0,_=>[]
 |n+1,p=>match p with
  | .row _ r=>[r]
  | .mp r=>[r]
  | .j9 r=>[r]
  | .box b _=>[b]
  | .agg cs=>eV (ot n) cs
  | .tup cs=>eV (ot n) cs
  | .cy _ cs=>eV (ot n) cs
  | .cP cs _=>eV (ot n) cs
  |_=>[]
def reach(objs:List Ob):Nat->List Nat->List Nat->List Nat
 |0,_,seen=>seen
 |_+1,[],seen=>seen
 |n+1,x::todo,seen=>match eI x seen with
  |true=>reach objs n todo seen
  |false=>reach objs n (gi todo (match ew objs x with| .box cs=>eV (ot 8) cs| .loop _ _ _ _ s _=>eV (λ(x:Nat×PV)=>ot 8 x.2) s|_=>[])) (gi seen [x])
def ll:Ob->Bool
 | .row _ _ _=>true
 | .map _ _ _=>true
 | .dead=>true
 |_=>false
def Q8(r n:Nat):Nat->Nat
 |0=>r
 |i+1=>n+i
def mR(m:Nat):List Ob->List Ob
 |[]=>[]
 | .iter m' s::l=>(bif nb m' m then .dead else .iter m' s)::mR m l
 |o::l=>o::mR m l
inductive O7 where
 |fn (f:FuncId)|j9
abbrev iZ:=O7->List Ob->List PV->(PV->List Ob->Prop)->Prop
def hX:PV->Bool
 | .undef=>false
 | .agg _=>false
 | .tup _=>false
 |_=>true
def iG:List CK->List PV->Bool
 |[],[]=>true
 |c::cs,p::ps=>sW c p&&iG cs ps
 |_,_=>false
section
variable (A:pM) (G:ea) (C:iZ)
def mP(s:cU):List Operand->List TypeId->List PV
 |x::xs,t::ts=>fK G.tt s t x::mP s xs ts
 |x::xs,[]=>ev s x::mP s xs []
 |[],_=>[]
def ud(s:cU):List Operand->List TypeId->List PV
 |x::xs,t::ts=>(match lI x with|true=>.lf|false=>fK G.tt s t x)::ud s xs ts
 |x::xs,[]=>ev s x::ud s xs []
 |[],_=>[]
def B7(f:FuncId)(s:cU)(xs:List Operand)(ts:List TypeId):List PV:=match eI f G.live with
 |true=>ud G s xs ts
 |false=>mP G s xs ts
def HI(x:Operand)(t:TypeId):Option TypeId:=match lI x with
 |true=>(match G.tt t with|some ti=>some ti.el|none=>none)
 |false=>none
def nu(s:cU):Nat->List Operand->List TypeId->List PV
 |n,x::xs,t::ts=>(match HI G x t with
  |some e=>.row e n::nu s (n+1) xs ts
  |none=>fK G.tt s t x::nu s n xs ts)
 |n,x::xs,[]=>ev s x::nu s n xs []
 |_,[],_=>[]
def nO:List Operand->List TypeId->List Ob
 |x::xs,t::ts=>(match HI G x t with
  |some e=>.row e (.list []) true::nO xs ts
  |none=>nO xs ts)
 |_,_=>[]
def eu:List Nat->Bool|[]=>true|_=>false
def uY(o:Option Nat)(l:List Nat):Bool:=match o with|some n=>eI n l|none=>false
def qz(f:O7)(args:List PV)(s:cU)(a:List Ob)(F:List Nat)(K:PV->St->Prop):Prop:=
 bif jz F&&gE (λr=>gZ r (ch a)) F then
  C f (cS (λr=>jG F (ew a r)) F) (cS (jv F 8) args) λv o'=>K (ql (il (ch a) F) 8 v) ⟨s,FL F (ko F a) (cS (oq (il (ch a) F)) o')⟩else False
def vb(f:O7)(args:List PV)(s:cU)(a:List Ob)(K:PV->St->Prop):Prop:=qz C f args s a (reach a 64 (eV (ot 8) args) []) K
def DQ(f:FuncId)(args:List PV)(st:St)(K:PV->St->Prop):Prop:=match eI f G.dV with
 |true=>vb C (.fn f) args st.s st.o K
 |false=>vb C (.fn f) (cS (Ji st.o 8) args) st.s (fw (eV (sH 8) args) 0 st.o) K
def CI(i:Nat)(args:List PV)(st:St)(K:PV->St->Prop):Prop:=match ew st.o i with
 | .loop _ _ _ _ _ .ready=>Lg (reach st.o 64 (i::eV (ot 8) args) [])
 |_=>False
 where Lg (F:List Nat):Prop:=qz C .j9 args st.s st.o F K
def Gf:CK->Bool
 | .int _=>true
 | .bool=>true
 | .str=>true
 |_=>false
def ub(tt:TypeId->Option TI):PV->List Ob->Bool
 | .row e 0,[.row e' _ true]=>nb e e'&&gE Gf (bR tt e)
 |_,_=>false
def uk(kp:Bool)(f:FuncId)(args:List PV)(st:St)(K:PV->St->Prop):Prop:=
 match eI f G.live with
 |true=>DQ G C f args st K
 |false=>match kp&&eI f G.dV with
 |true=>(match args with
  | .row e r::rest=>(match ew st.o r with
   | .row e' d true=>bif nb e e'&&eu (eV (ids st.o 8) rest)then
    C (.fn f) [.row e' d true] (.row e 0::cS (ng st.o 8) rest) (λv o'=>match o' with
     |ob::more=>bif ll ob&&gE ll more then K (IM (Q8 r (ch st.o)) 8 v) ⟨st.s,gi (gU st.o r ob) more⟩else False
     |_=>False)else False
   |_=>False)
  |_=>False)
 |false=>C (.fn f) [] (cS (ng st.o 8) args) λv o'=>bif gE ll o' then
  (match plain 8 v with
   |true=>K v st
   |false=>(match eI f G.Uw&&ub G.tt v o' with
    |true=>K (IM (λi=>ch st.o+i) 8 v) ⟨st.s,gi st.o o'⟩
    |false=>K (IM (λi=>ch st.o+i) 8 v) ⟨mM (eV (ids st.o 8) args) st.o st.s,gi (fw (eV (ids st.o 8) args) 0 st.o) o'⟩))else False
def rE(a:PV->PV)(tt:TypeId->Option TI)(s:cU)(e:TypeId)(b:TI):Nat->Nat->List (Nat×Operand)->Option (List (List D))
 |i,n,[]=>bif nb i n then some []else none
 |i,n,(j,x)::r=>bif nb i j&&iG b.bT (cS a (flat (fK tt s e x)))&&gE hX (flat (fK tt s e x))then
  (match rE a tt s e b (i+1) n r with
   |some rows=>some (cS qf (cS a (flat (fK tt s e x)))::rows)
   |none=>none)else none
def sO(s:cU):Nat->Nat->List (Nat×Operand)->Option (List PV)
 |i,n,[]=>bif nb i n then some []else none
 |i,n,(j,x)::r=>bif nb i j&&hX (ev s x)then
  (match sO s (i+1) n r with
   |some l=>some (ev s x::l)
   |none=>none)else none
def Kq(ob:List Ob)(p:PV)(K:TypeId->D->Prop):Prop:=match p with
 | .lst e d=>K e d
 | .row e r=>(match ew ob r with
  | .row e' d _=>bif nb e e' then K e d else False
  |_=>False)
 |_=>False
def gO:CK->Bool
 | .int _=>true
 | .str=>true
 | .bool=>true
 |_=>false
def ke(l:List CK):List D:=cS (λc=>qf (gL c)) l
def pI(ok:Bool)(v:PV)(b:Bool):PV:=bif ok then .tup [v,.bl b]else v
def zq(b:Bool):PV->Bool
 | .agg _=>b
 | .undef=>false
 |_=>bif b then false else true
def keyOf(a:TI):Option CK:=match a.agg,a.bT with
 |false,[kc]=>bif gO kc then some kc else none
 |true,[.str,.str]=>bif a.yW then some .ic else none
 |_,_=>none
def jM(c:CK)(p:PV):Bool:=match c with
 | .ic=>(match p with| .agg [.str _,.str _]=>true|_=>false)
 |c=>sW c p
def uW(k:IntKind)(n:Int):List PV->Bool
 |[]=>true
 | .int k' m::_::cs=>(match Gb k k',decide (n=m)with|true,false=>uW k n cs|_,_=>false)
 |_=>false
def getKey(k:IntKind)(n:Int):List PV->Option (Option PV)
 |[]=>some none
 | .int k' m::p::cs=>(match Gb k k',decide (n=m)with|true,true=>some (some p)|true,false=>getKey k n cs|_,_=>none)
 |_=>none
def XT(o:Option TI):Bool:=match o with|some a=>yx a|none=>false
def Ra:CK->Bool
 | .int _=>true
 |_=>false
def lG:PV->D
 | .agg [.str a,.str b]=>.ptr [.str a,.str b]
 |p=>qf p
def rD(t:TypeId)(m k x:Operand)(st:St)(K:St->Prop):Prop:=match G.tt t with
 |some ti=>bif isMap ti then(match G.tt (ti.ar-1),G.tt ti.el with
  |some f,some a=>match keyOf f with
   |some kc=>bif jM kc (fK G.tt st.s (ti.ar-1) k)then(match ev st.s m with
    | .mp r=>(match ew st.o r with
     | .box cs=>(match kc,fK G.tt st.s (ti.ar-1) k with
      | .int c,.int k' n=>bif Gb c k'&&uW c n cs then K ⟨st.s,gU (mR r st.o) r (.box (gi cs [.int k' n,fK G.tt st.s ti.el x]))⟩else False
      |_,_=>False)
     | .map b e d=>bif decide (kc=b)&&nb e ti.el&&gZ 0 (ch a.bT)&&iG a.bT (cS (ng st.o 8) (flat (fK G.tt st.s ti.el x)))&&gE hX (flat (fK G.tt st.s ti.el x))&&zq a.agg (fK G.tt st.s ti.el x)&&eu (eV (ids st.o 8) (flat (fK G.tt st.s ti.el x)))then
      K ⟨st.s,gU (mR r st.o) r (.map kc e (A.lU d (lG (fK G.tt st.s (ti.ar-1) k)) (cS qf (cS (ng st.o 8) (flat (fK G.tt st.s ti.el x))))))⟩else False
     |_=>False)
    |_=>False)else False
   |none=>False
  |_,_=>False)else False
 |none=>False
def u6(t:TypeId)(m k x:Operand)(st:St)(K:St->Prop):Prop:=match G.tt t with
 |some ti=>(match fK G.tt st.s ti.el x with
  | .mp j=>rD A G t m k x (uM j st) K
  |_=>rD A G t m k x st K)
 |none=>False
def yg(t:TypeId)(m k:Operand)(st:St)(K:St->Prop):Prop:=match G.tt t with
 |some ti=>bif isMap ti then(match G.tt (ti.ar-1)with
  |some b=>match keyOf b with
   |some kc=>bif jM kc (fK G.tt st.s (ti.ar-1) k)then(match ev st.s m with
    | .mp r=>(match ew st.o r with
     | .map a e d=>bif decide (kc=a)then K ⟨st.s,gU (mR r st.o) r (.map kc e (A.FX d (lG (fK G.tt st.s (ti.ar-1) k))))⟩else False
     |_=>False)
    |_=>False)else False
   |none=>False
  |none=>False)else False
 |none=>False
def wq:Nat->List CK->List PV
 |_,[]=>[]
 |n,.slice e::cs=>.row e n::wq (n+1) cs
 |n,c::cs=>gL c::wq n cs
def pH:List CK->List Ob
 |[]=>[]
 | .slice e::cs=>.row e (.list []) true::pH cs
 |_::cs=>pH cs
def Oo(A:pM)(d kd:D)(a b:D->Prop):Prop:=(A.mJ d kd=true->a kd)/\(A.mJ d kd=false->b kd)
def AL(kd:D)(k:D->Prop):Prop:=k kd
def wG(a:TI):Bool:=match a.agg,a.bT with
 |false,[.int _]=>true
 |false,[.str]=>true
 |false,[.bool]=>true
 |false,[.map _ _]=>true
 |_,_=>false
def zN(ti:TI)(ps:List PV):Bool:=match nB ps with
 |true=>ti.O0
 |false=>true
def OZ(ps cs:List PV):Bool:=match nB ps with
 |true=>nB cs
 |false=>true
def Q9(a:TI):Bool:=match pk a with
 |some .u8=>true
 |_=>false
def Bc(e:TypeId)(x:PV)(d2:D)(st:St)(o:Oper)(K:PV->St->Prop):Prop:=match x with
 | .row a r=>(match ew st.o r with
  | .row b d wr=>bif nb e a&&nb e b&&ir G.n0 r then
   A.gh (A.add (A.len d) (A.len d2)) 4294967296/\K (.row e r) ⟨lQ r st.s,gU (jw r st.o) r (.row e (A.app d d2) wr)⟩else False
  |_=>False)
 | .nx a d=>bif nb e a then
  A.gh (A.add (A.len d) (A.len d2)) 4294967296/\((match uY o.dst G.own with|true=>(A.idx 0 (A.len d2)/\K (.row e (ch st.o)) ⟨st.s,gi st.o [.row e (A.app d d2) true]⟩)|false=>(K (.lst e (A.app d d2)) st)))else False
 |_=>False
def dY(o:Oper)(st:St)(K:PV->St->Prop):Prop:=
 match o.op with
 | .alloc t=>match G.tt t with
  |some ti=>match uY o.dst G.own,dZ ti with
   |true,some e=>K (.box (ch st.o+1) 0) ⟨st.s,gi st.o [.row e (.list []) true,.box [.row e (ch st.o)]]⟩
   |true,none=>bif zN ti (wq (ch st.o) ti.bT)then K (.box (ch st.o+ch (pH ti.bT)) 0) ⟨st.s,gi st.o (gi (pH ti.bT) [.box (wq (ch st.o) ti.bT)])⟩else False
   |_,_=>bif zN ti (ti.bT.map gL)then K (.box (ch st.o) 0) ⟨st.s,gi st.o [.box (ti.bT.map gL)]⟩else False
  |none=>False
 | .box t x=>match G.tt t with
  |some ti=>bif nb (ch (flat (fK G.tt st.s t x))) (ch ti.bT)&&gZ 0 (ch ti.bT)&&zN ti (flat (fK G.tt st.s t x))then K (.box (ch st.o) 0) ⟨st.s,gi st.o [.box (flat (fK G.tt st.s t x))]⟩else False
  |none=>False
 | .store t x y=>match G.tt t with
  |none=>False
  |some ti=>bif nb (ch (flat (fK G.tt st.s t y))) (ch ti.bT)&&gE hX (flat (fK G.tt st.s t y))&&gZ 0 (ch ti.bT)then(match ev st.s x with
   | .box b off=>(match ew st.o b with
    | .box cs=>bif ir off dB&&ir (off+ch ti.bT) (ch cs)&&OZ (nK cs off (flat (fK G.tt st.s t y))) cs then K .undef ⟨st.s,gU st.o b (.box (nK cs off (flat (fK G.tt st.s t y))))⟩else False
    |_=>False)
   | .fH e r i off=>(match ew st.o r,nb off dB with
    | .row e' d true,false=>bif nb e e'&&hY G.tt e off ti.bT&&iG ti.bT (cS (ng st.o 8) (flat (fK G.tt st.s t y)))&&eu (eV (ids st.o 8) (flat (fK G.tt st.s t y)))then
     K .undef ⟨st.s,gU st.o r (.row e' (A.mY d i off (cS qf (cS (ng st.o 8) (flat (fK G.tt st.s t y))))) true)⟩else False
    |_,_=>False)
   |_=>False)else False
 | .buildSlice t len ps=>match G.tt t with
  |none=>False
  |some ti=>match dZ ti with
   |none=>False
   |some e=>match G.tt e with
    |none=>False
    |some a=>bif ir len 1000&&ir a.bT.length 1000&&gZ 0 (ch a.bT)then(match a.bT with
     |[.fn]=>(match sO st.s 0 len ps.toList with
      |none=>False
      |some h=>(match uY o.dst G.own with
       |true=>bif zN a h then K (.box (ch st.o) (dB+1+len)) ⟨st.s,gi st.o [.box h]⟩else False
       |false=>K (.cP (cS (ng st.o 8) h) dB) ⟨mM (eV (ids st.o 8) h) st.o st.s,fw (eV (ids st.o 8) h) 0 st.o⟩))
     |_=>(match rE (ng st.o 8) G.tt st.s e a 0 len ps.toList with
     |none=>False
     |some rows=>(match uY o.dst G.own with
      |true=>bif eu (eV (ids st.o 8) (eV (λp=>flat (fK G.tt st.s e p.2)) ps.toList))then K (.row e (ch st.o)) ⟨st.s,gi st.o [.row e (A.lit rows) true]⟩else False
      |false=>(match eu (eV (ids st.o 8) (eV (λp=>flat (fK G.tt st.s e p.2)) ps.toList))with
       |true=>K (.nx e (A.lit rows)) st
       |false=>K (.nx e (A.lit rows)) ⟨mM (eV (ids st.o 8) (eV (λp=>flat (fK G.tt st.s e p.2)) ps.toList)) st.o st.s,fw (eV (ids st.o 8) (eV (λp=>flat (fK G.tt st.s e p.2)) ps.toList)) 0 st.o⟩))))else False
 | .call { callee:=.builtin .append,args:=as,argTypes:=ts }=>match as.toList,ts.toList with
  |[x,y],[t1,t2]=>match G.tt t1,G.tt t2 with
   |some i1,some i2=>match dZ i1 with
    |some e=>(match dZ i2 with
     |some e2=>bif nb e e2 then(match G.tt e with
      |none=>False
      |some a=>bif ir a.bytes 1024&&gZ 0 (ch a.bT)then Kq st.o (fK G.tt st.s t2 y) (λe3 d2=>bif nb e e3 then Bc A G e (Rp G.tt st.s t1 x) d2 st o K else False)else False)else False
     |none=>(match G.tt e,fK G.tt st.s t2 y with
      |some a,.str u=>bif isStr i2&&Q9 a&&ir a.bytes 1024 then Bc A G e (Rp G.tt st.s t1 x) (A.NS u) st o K else False
      |_,_=>False))
    |none=>False
   |_,_=>False
  |_,_=>False
 | .assign x=>(match uY o.dst G.own&&lI x with
  |true=>(match G.tt o.type with
   |some ti=>K (.row ti.el (ch st.o)) ⟨st.s,gi st.o [.row ti.el (.list []) true]⟩
   |none=>False)
  |false=>cF A G.tt o.op o.type st.s st.o λv=>K v st)
 | .move (.tmp t)=>(match uY o.dst G.own,look st.s t with
  |true,.row e r=>(match ew st.o r with
   | .row e' d wr=>bif nb e e' then K (.row e r) ⟨F9 st.o r st.s,fw [r] 0 st.o⟩else False
   |_=>False)
  |_,_=>cF A G.tt o.op o.type st.s st.o λv=>K v st)
 | .build t ps=>(match uY o.dst G.own with
  |true=>(match G.tt t with
   |some ti=>(match ti.agg&&nb ti.ar 0 with
    |true=>(match lZ st.s G.tt ti.fs ps.toList (wq (ch st.o) ti.bT)with
     |some cs=>K (.agg cs) ⟨st.s,gi st.o (pH ti.bT)⟩
     |none=>False)
    |false=>False)
   |none=>False)
  |false=>cF A G.tt o.op o.type st.s st.o λv=>K v st)
 | .slice t (.tmp tx) lo z D=>match look st.s tx with
  | .row e r=>(match uY o.dst G.own with
   |true=>(match lo,z,D with
    |some _,none,none=>(match G.tt t,G.tt e,ew st.o r with
     |some ti,some _,.row e' d _=>(match dZ ti with
      |some q=>bif nb q e&&nb e e'&&ir G.n0 r then tO st.s lo 0 λl=>A.gh l (A.len d)/\K (.row e r) ⟨lQ r st.s,gU (jw r (fw [r] 0 st.o)) r (.row e (A.part d l (A.len d)) false)⟩else False
      |none=>False)
     |_,_,_=>False)
    |none,some _,none=>(match eu G.live,G.tt t,G.tt e,ew st.o r with
     |false,some ti,some _,.row e' d true=>(match dZ ti with
      |some q=>bif nb q e&&nb e e'&&ir G.n0 r then tO st.s z 0 λl=>A.idx 0 (A.len d)/\A.gh l (A.len d)/\K (.row e r) ⟨lQ r st.s,gU (jw r st.o) r (.row e (A.part d 0 l) true)⟩else False
      |none=>False)
     |_,_,_,_=>False)
    |_,_,_=>False)
   |false=>(match uY o.dst G.view with
    |true=>(match lo,z,D with
     |some _,none,none=>(match G.tt t,G.tt e,ew st.o r with
      |some ti,some _,.row e' d _=>(match dZ ti with
       |some q=>bif nb q e&&nb e e' then tO st.s lo 0 λl=>A.idx 0 (A.len d)/\A.gh l (A.len d)/\K (.fH e r l dB) st else False
       |none=>False)
      |_,_,_=>False)
     |_,_,_=>False)
    |false=>cF A G.tt o.op o.type st.s (fw [r] 0 st.o) λv=>K v ⟨st.s,fw [r] 0 st.o⟩))
  |_=>cF A G.tt o.op o.type st.s st.o λv=>K v st
 | .makeSlice t x y=>match G.tt t with
  |some ti=>match dZ ti with
   |some e=>match G.tt e with
    |some a=>match ev st.s x,ev st.s y with
     | .int _ l,.int _ c=>bif ir a.bytes 1024&&gZ 0 (ch a.bT)then A.gh l c/\A.gh c 4294967296/\K (.row e (ch st.o)) ⟨st.s,gi st.o [.row e (A.QT l (ke a.bT)) true]⟩else False
     |_,_=>False
    |none=>False
   |none=>False
  |none=>False
 | .makeMap t none=>match G.tt t with
  |some ti=>bif isMap ti then(match G.tt (ti.ar-1)with
   |some w=>match keyOf w with
    |some kc=>(match XT (G.tt ti.el)&&Ra kc with
     |true=>K (.mp (ch st.o)) ⟨st.s,gi st.o [.box []]⟩
     |false=>K (.mp (ch st.o)) ⟨st.s,gi st.o [.map kc ti.el (.list [])]⟩)
    |none=>False
   |none=>False)else False
  |none=>False
 | .lookup t m k ok=>match G.tt t with
  |some ti=>bif isMap ti then(match G.tt (ti.ar-1),G.tt ti.el with
   |some w,some a=>match keyOf w with
    |some kc=>bif jM kc (fK G.tt st.s (ti.ar-1) k)then(match ev st.s m with
     | .mp r=>(match ew st.o r with
      | .box cs=>(match kc,ok,fK G.tt st.s (ti.ar-1) k with
       | .int B,false,.int k' n=>bif Gb B k' then(match getKey B n cs with
        |some (some p)=>K p st
        |some none=>bif yx a then K .nilf st else False
        |none=>False)else False
       |_,_,_=>False)
      | .map s e d=>bif decide (kc=s)&&nb e ti.el&&gZ 0 (ch a.bT)then
       (match ok,wG a with
        |false,true=>AL (lG (fK G.tt st.s (ti.ar-1) k)) λkd=>K (fa a (ij A d kd 0 a.bT)) st
        |_,_=>Oo A d (lG (fK G.tt st.s (ti.ar-1) k)) (λkd=>K (pI ok (fa a (ij A d kd 0 a.bT)) true) st) (λ_=>K (pI ok (fa a (a.bT.map gL)) false) st))else False
      |_=>False)
     | .dmp e d=>bif decide (kc= .str)&&nb e ti.el&&gZ 0 (ch a.bT)then
      (match ok,wG a with
       |false,true=>AL (lG (fK G.tt st.s (ti.ar-1) k)) λkd=>K (fa a (ij A d kd 0 a.bT)) st
       |_,_=>Oo A d (lG (fK G.tt st.s (ti.ar-1) k)) (λkd=>K (pI ok (fa a (ij A d kd 0 a.bT)) true) st) (λ_=>K (pI ok (fa a (a.bT.map gL)) false) st))else False
     |_=>False)else False
    |none=>False
   |_,_=>False)else False
  |none=>False
 | .mapUpdate t m k x=>u6 A G t m k x st (K .undef)
 | .insert t m k x=>u6 A G t m k x st (K .undef)
 | .call { callee:=.builtin .delete,args:=as,argTypes:=ts }=>(match as.toList,ts.toList with
  |[m,k],t::_=>yg A G t m k st (K (.tup []))
  |_,_=>False)
 | .call { callee:=.builtin .clear,args:=as,argTypes:=ts }=>(match as.toList,ts.toList with
  |[x],t::_=>(match G.tt t,ev st.s x with
   |some ti,.fH e r i off=>(match dZ ti,G.tt e,ew st.o r with
    |some q,some a,.row e' d true=>bif nb q e&&nb e e'&&nb off dB&&gZ 0 (ch a.bT)then K (.tup []) ⟨st.s,gU st.o r (.row e' (A.app (A.part d 0 i) (A.QT (A.sub (A.len d) i) (ke a.bT))) true)⟩else False
    |_,_,_=>False)
   |_,_=>False)
  |_,_=>False)
 | .range t m=>match G.tt t with
  |some ti=>bif isMap ti then(match ev st.s m with
   | .mp r=>(match ew st.o r with
    | .map _ _ _=>K (.it (ch st.o)) ⟨st.s,gi st.o [.iter r (.list [])]⟩
    |_=>False)
   | .dmp e d=>bif nb e ti.el then K (.it (ch st.o)) ⟨st.s,gi st.o [.diter e d (.list [])]⟩else False
   |_=>False)else False
  |none=>False
 | .next it str=>bif str then False else(match ev st.s it with
  | .it i=>(match ew st.o i with
   | .iter m seen=>(match ew st.o m with
    | .map kc e d=>(match G.tt e with
     |some a=>bif gZ 0 (ch a.bT)then(A.nE d seen->K (.tup [.bl false]) st)/\
      (∀j,A.qb d seen j->K (.tup [.bl true,lW A kc (A.cell d j 0),fa a (jN A d j 1 a.bT)]) ⟨st.s,gU st.o i (.iter m (A.nL seen j))⟩)else False
     |none=>False)
    |_=>False)
   | .diter e d seen=>(match G.tt e with
    |some a=>bif gZ 0 (ch a.bT)then(A.nE d seen->K (.tup [.bl false]) st)/\
     (∀j,A.qb d seen j->K (.tup [.bl true,lW A .str (A.cell d j 0),fa a (jN A d j 1 a.bT)]) ⟨st.s,gU st.o i (.diter e d (A.nL seen j))⟩)else False
    |none=>False)
   |_=>False)
  |_=>False)
 | .entry it=>(match ev st.s it with
  | .it i=>(match ew st.o i with
   | .iter m seen=>(match ew st.o m with
    | .map kc e d=>(match G.tt e with
     |some a=>bif gZ 0 (ch a.bT)then A.idx 0 (A.len seen)/\A.idx (A.last seen) (A.len d)/\K (.tup [lW A kc (A.cell d (A.last seen) 0),fa a (jN A d (A.last seen) 1 a.bT)]) st else False
     |none=>False)
    |_=>False)
   | .diter e d seen=>(match G.tt e with
    |some a=>bif gZ 0 (ch a.bT)then A.idx 0 (A.len seen)/\A.idx (A.last seen) (A.len d)/\K (.tup [lW A .str (A.cell d (A.last seen) 0),fa a (jN A d (A.last seen) 1 a.bT)]) st else False
    |none=>False)
   |_=>False)
  |_=>False)
 | .call { callee:=.value (.func f),args:=as,argTypes:=ts }=>(match eI f G.live&&eI f G.dV with
  |true=>uk G C true f (nu G st.s (ch st.o) as.toList ts.toList) ⟨st.s,gi st.o (nO G as.toList ts.toList)⟩ K
  |false=>uk G C true f (B7 G f st.s as.toList ts.toList) st K)
 | .call { callee:=.value f,args:=as,argTypes:=ts }=>match ev st.s f with
  | .cy g ma=>(match gZ g kz with
   |true=>uk G C false g (gi (mP G st.s as.toList ts.toList) ma) st K
   |false=>uk G C false (g-kz) (gi ma (mP G st.s as.toList ts.toList)) st K)
  | .j9 i=>(match eu G.live with|true=>False|false=>CI C i (mP G st.s as.toList ts.toList) st K)
  |_=>False
 |op=>cF A G.tt op o.type st.s st.o λv=>K v st
end
end
section
variable [Inhabited pB]
open Go
def cx{α:Type}{l:List α}{i:Nat}{x:α}(h:l[i]? =some x):i<l.length:=by
 rcases bV i l.length with b|b
 ·exact b
 ·rw[ca b]at h;simp at h
def fI{α β:Type}(f:α->β)(l:List α):(cS f l).length=l.length:=by rw[gG];simp
def oy{l:List Nat}(h:jz l=true):l.Nodup:=by
 induction l with
 |nil=>exact n2
 |cons x l b=>
  simp only[jz]at h;cases hm:eI x l with
  |true=>rw[hm]at h;cases h
  |false=>rw[hm]at h;rw[cw];refine⟨λc=>?_,b h⟩;rw[(kW x l).2 c]at hm;cases hm
def xd:Nat->Nat->List Nat->Bool
 |0,_,_=>true
 |_+1,_,[]=>false
 |n+1,k,x::l=>nb x k&&xd n (k+1) l
def G9:∀{n k:Nat}{l:List Nat},xd n k l=true->∀i,i<n->l[i]? =some (k+i)
 |0,_,_,_,i,b=>yO
 |n+1,k,[],h,i,b=>by simp[xd]at h
 |n+1,k,x::l,h,i,b=>by
  simp only[xd,bw]at h;cases i with
  |zero=>simp[cR h.1]
  |succ i=>
   have:=G9 h.2 i yO;simp only[kK,this]
   congr 1;omega
section
variable {P:Program}{tt:TypeId->Option TI}{N:Nat}{B:jc}{E:List RI}{Pp:fE}{objs:List Ob}{w:World}{st:St}{a:Act}
variable {F ps:List Nat}{n r:Nat}{E2 E':List RI}{v:Value}{cs:List PV}{vs:List Value}{f:Nat->Nat}{p:PV}{ad:Addr}{Pp' Pp:fE}{ri:RI}
def Q3(e:∀(i:Nat) x,i≠r->E[i]? =some x->E'[i]? =some x):∀(n:Nat)(p:PV)(v:Value),uA r n p=false->VR tt E Pp v p->VR tt E' Pp v p:=by
 intro n;induction n with
 |zero=>intro p v h;simp[uA]at h
 |succ n k=>
  have d:∀(cs:List PV)(vs:List Value),nX (uA r n) cs=false->eJ tt E Pp vs cs->eJ tt E' Pp vs cs:=by
   intro cs;induction cs with
   |nil=>intro vs _ g;cases g;exact .nil
   |cons c cs j=>
    intro vs h g;simp only[nX,JW]at h;cases g with
    |cons _ _ _ _ h1 h2=>exact .cons _ _ _ _ (k _ _ h.1 h1) (j _ h.2 h2)
  intro p v h g;cases g with
  |undef=>exact .undef _
  |int=>exact .int _ _
  |bl=>exact .bl _
  |bool=>exact .bool _
  |str=>exact .str _
  |lst _ _ _ hr=>exact .lst _ _ _ hr
  |nx _ _ _ _ hr=>exact .nx _ _ _ _ hr
  |agg vs cs hl=>exact .agg _ _ (d _ _ (by simpa[uA]using h) hl)
  |tup vs cs hl=>exact .tup _ _ (d _ _ (by simpa[uA]using h) hl)
  |box _ b _ _ hb hu=>exact .box _ _ _ _ (e _ _ (by rintro rfl;simp[uA]at h) hb) hu
  |row0 _ b hb=>exact .row0 _ _ (e _ _ (by rintro rfl;simp[uA]at h) hb)
  |row _ b _ _ _ _ hb=>exact .row _ _ _ _ _ _ (e _ _ (by rintro rfl;simp[uA]at h) hb)
  |fH _ _ b _ _ _ _ _ _ hb h0 h1=>exact .fH _ _ _ _ _ _ _ _ _ (e _ _ (by rintro rfl;simp[uA]at h) hb) h0 h1
  |js _ _ _ _ _ _ _ _ hr h0 h1=>exact .js _ _ _ _ _ _ _ _ hr h0 h1
  |cP u vs cs off b o hu hl gR=>exact .cP _ _ _ _ _ _ hu (d _ _ (by simpa[uA]using h) hl) gR
  |dptr _ _ _ hr=>exact .dptr _ _ _ hr
  |dmp _ _ _ _ hr=>exact .dmp _ _ _ _ hr
  |rK _ _ _ _ _ hr=>exact .rK _ _ _ _ _ hr
  |cy u f vs cs hu hl=>exact .cy _ _ _ _ hu (d _ _ (by simpa[uA]using h) hl)
  |nilp=>exact .nilp
  |nilm=>exact .nilm
  |lf=>exact .lf
  |nilf=>exact .nilf
  |mp b _ _ _ hb=>exact .mp _ _ _ _ (e _ _ (by rintro rfl;simp[uA]at h) hb)
  |it b _ hb=>exact .it _ _ (e _ _ (by rintro rfl;simp[uA]at h) hb)
  |j9 b _ hb=>exact .j9 _ _ (e _ _ (by rintro rfl;simp[uA]at h) hb)
def B0(b:∀(i:Nat) x,i≠r->E[i]? =some x->E'[i]? =some x)(c:VR tt E Pp v p):VR tt E' Pp v (kill r p):=by
 unfold kill;cases h:uA r 8 p with
 |true=>exact .undef _
 |false=>exact Q3 b 8 p v h c
def yq(r:Nat)(s:cU)(t:Nat):look (lQ r s) t=kill r (look s t):=by
 induction s with
 |nil=>simp[lQ,look,kill,uA]
 |cons x s b=>obtain⟨k,p⟩:=x;simp only[lQ,look,b];cases nb k t<;>simp
def GS(f:PV->PV):Prop:=∀p,pa (f p)=true->pa p=true
def Ey{f:PV->PV}(h:GS f):∀{cs:List PV},nB (cS f cs)=true->nB cs=true
 |[],hb=>yC hb
 |[_],hb=>yC hb
 |[a,b],hb=>h a hb
 |_::_::_::_,hb=>yC hb
def qV.map{T:TypeId}(h:qV tt T cs){f:PV->PV}(hf:GS f):qV tt T (cS f cs):=λhb=>h (Ey hf hb)
def IA(r:Nat)(e:TypeId)(d:D):GS (sa r e d):=by
 intro p;unfold sa;cases uA r 8 p with
 |false=>exact id
 |true=>
  simp only[cond_true];cases p<;>simp only[tA]<;>(try exact id)<;>(try exactλh=>(yC h))
  rename_i x;cases nb x r<;>exactλh=>(yC h)
def Lr(r:Nat):GS (kill r):=by
 intro p;unfold kill;cases uA r 8 p with
 |false=>exact id
 |true=>exactλh=>(yC h)
def IU(ps:List Nat):GS (jv ps 8):=by
 intro p;cases p<;>simp only[jv]<;>(try exactλh=>by first|exact h|rfl)
 all_goals (split<;>exactλh=>by first|rfl|(cases h;done))
def KK(f:Nat->Nat):GS (ql f 8):=by intro p;cases p<;>simp only[ql]<;>exactλh=>by first|exact h|rfl
def gK(tt:TypeId->Option TI)(E:List RI)(objs:List Ob)(w:World)(Pp:fE)(F:List Nat):fE:=λad v=>
 Pp ad v\/(w.cell? ad=some v/\∃i∈F,(∃cs,E[i]? =some (.box ad.block)/\objs[i]? =some (.box cs))\/
  (∃o len cap e d wr,E[i]? =some (.row ad.block o len cap)/\objs[i]? =some (.row e d wr)/\ad.off<o+len*(bR tt e).length))
def sS(J:WR tt E Pp objs w):∀(n:Nat)(p:PV)(v:Value),VR tt E Pp v p->(∀i∈ids objs n p,i∈F)->VR tt [] (gK tt E objs w Pp F) v (ng objs n p):=by
 intro n;induction n with
 |zero=>intro p v _ _;exact .undef _
 |succ n Q=>
  have mono:∀ad v,Pp ad v->gK tt E objs w Pp F ad v:=λad v h=>.inl h
  have m:∀(cs:List PV)(vs:List Value),eJ tt E Pp vs cs->(∀i∈eV (ids objs n) cs,i∈F)->eJ tt [] (gK tt E objs w Pp F) vs (cS (ng objs n) cs):=by
   intro cs;induction cs with
   |nil=>intro vs t _;cases t;exact .nil
   |cons c cs G=>
    intro vs t h;rw[kZ]at h;cases t with
    |cons _ _ _ _ h1 h2=>exact .cons _ _ _ _ (Q _ _ h1 (λi l=>h i (by simp[l]))) (G _ h2 (λi l=>h i (by rw[kZ]at l;simp only[fP,bG];exact .inr l)))
  intro p v t h;cases t with
  |undef=>exact .undef _
  |int=>exact .int _ _
  |bl=>exact .bl _
  |bool=>exact .bool _
  |str=>exact .str _
  |lst _ _ _ hr=>exact .lst _ _ _ (hr.mono mono)
  |nx _ _ _ _ hr=>exact .lst _ _ _ (hr.mono mono)
  |agg vs cs hl=>exact .agg _ _ (m _ _ hl h)
  |tup vs cs hl=>exact .tup _ _ (m _ _ hl h)
  |cy u f vs cs hu hl=>exact .cy _ _ _ _ hu (m _ _ hl h)
  |cP u vs cs off b o hu hl gR=>exact .cP _ _ _ _ _ _ hu (m _ _ hl h) (λj v z=>mono _ _ (gR j v z))
  |js _ _ _ _ _ _ _ _ hr h0 h1=>exact .js _ _ _ _ _ _ _ _ (hr.mono mono) h0 h1
  |dptr _ _ _ hr=>exact .dptr _ _ _ (hr.mono mono)
  |dmp _ _ _ _ hr=>exact .dmp _ _ _ _ (hr.mono mono)
  |rK _ _ _ _ _ hr=>exact .rK _ _ _ _ _ (hr.mono mono)
  |nilp=>exact .nilp
  |nilm=>exact .nilm
  |lf=>exact .lf
  |nilf=>exact .nilf
  |fH=>exact .undef _
  |mp=>exact .undef _
  |it=>exact .undef _
  |j9=>exact .undef _
  |row0 e r x=>
   simp only[ng];split
   ·rename_i e' d wr A;cases hb:nb e e' with
    |false=>exact .undef _
    |true=>obtain⟨ri,k,q⟩:=J.ob r _ (cT A rfl) rfl;rw[x]at k;cases k;have:d= .list []:=q;subst this;exact .lst _ _ _ (.slnil _)
   ·exact .undef _
  |row e r g o len cap x=>
   simp only[ng];split
   ·rename_i e' d wr A;cases hb:nb e e' with
    |false=>exact .undef _
    |true=>
     have:=cR hb;subst this;have s:=cT A rfl;obtain⟨ri,k,q⟩:=J.ob r _ s rfl;rw[x]at k;cases k;obtain⟨vals,T,rows,y,rfl,hl,C,fh,dG,_,_⟩:=q;refine .lst _ _ _ (.sl e g o len cap rows (λi j=>vals.getD (o+i*(bR tt e).length+j) undef) hl C (λi row l=>(dG i row l).1) ?_ ?_)
     ·intro i j l z;have I:i<rows.length:=yO;obtain⟨O,hc⟩:=dG i _ (bx I);obtain⟨v,t,hr⟩:=hc j _ _ (bx yO) (bx z);refine .inr ⟨?_,r,h r (by simp[ids]),.inr ⟨o,len,cap,e,_,wr,x,s,?_⟩⟩
      ·rw[eC y,t];simp[t]
      ·have:(i+1)*(bR tt e).length<=len*(bR tt e).length:=cW _ l;rw[c9]at this;show o+i*(bR tt e).length+j<o+len*(bR tt e).length;omega
     ·intro i j row d ck l z L;obtain⟨_,hc⟩:=dG i row l;obtain⟨v,t,hr⟩:=hc j d ck z L;simp only[cc,t,eR];exact hr.mono mono
   ·exact .undef _
  |box u b off gv x hu=>
   simp only[ng];split
   ·rename_i cs A;have s:=cT A rfl;obtain⟨ri,k,q⟩:=J.ob b _ s rfl;rw[x]at k;cases k;obtain⟨vs,T,y,K,_⟩:=q;cases D:ir dB off with
    |true=>exact .undef _
    |false=>
    have M:off<dB:=by
     rcases bV off dB with H|H
     ·exact H
     ·rw[show ir dB off=true from decide_eq_true H]at D;cases D
    obtain rfl:=hu.1 yO;have D:nb off dB=false:=decide_eq_false yO;have:=VR.cP (tt:=tt) (E:=[]) (Pp:=gK tt E objs w Pp F) (.pointer (some ⟨gv,0+off,none⟩)) vs (cS (ng objs n) cs) off gv 0 (qp.mk D) (m _ _ K (λi l=>h i (by simp only[ids,A];exact jC _ l))) (by intro j v z;refine .inr ⟨?_,b,h b (by simp[ids]),.inl ⟨cs,x,s⟩⟩;rw[eC y];simpa using z);simpa using this
   ·exact .undef _
def ua(d:WR tt E Pp objs w){ps:List PV}(c:eJ tt E Pp vs ps)(h:∀i∈eV (ids objs n) ps,i∈F):
 eJ tt [] (gK tt E objs w Pp F) vs (cS (ng objs n) ps):=by
 induction ps generalizing vs with
 |nil=>cases c;exact .nil
 |cons p ps e=>
  rw[kZ]at h;cases c with
  |cons _ _ _ _ h1 h2=>exact .cons _ _ _ _ (sS d n _ _ h1 (λi b=>h i (by simp[b]))) (e h2 (λi b=>h i (by rw[kZ]at b;simp only[fP,bG];exact .inr b)))
def jr(F:List Nat):∀(l:List Ob)(k i:Nat),(fw F k l)[i]? =(l[i]?).map λo=>bif eI (k+i) F then vZ o else o
 |[],k,i=>by simp[fw]
 |o::l,k,i=>by
  cases i with
  |zero=>simp[fw]
  |succ i=>simp only[fw,kK,jr F l (k+1) i];rw[show k+1+i=k+(i+1)by omega]
def tZ(F:List Nat):∀(l:List Ob)(k:Nat),(fw F k l).length=l.length
 |[],k=>rfl
 |o::l,k=>by simp[fw,tZ F l (k+1)]
def AQ(h:gK tt E objs w Pp F ad v):Pp ad v\/own E objs ad.block:=by
 rcases h with h|⟨_,i,_,⟨cs,h1,h2⟩|⟨o,len,cap,e,d,wr,h1,h2,_⟩⟩
 ·exact .inl h
 ·exact .inr ⟨i,_,_,h2,rfl,h1,rfl⟩
 ·exact .inr ⟨i,_,_,h2,rfl,h1,rfl⟩
def OR.Rw{e:TypeId}{d seen:D}(c:∀ad v,Pp ad v->Pp' ad v)(h:OR tt E Pp w ri (.diter e d seen)):OR tt E' Pp' w ri (.diter e d seen):=by
 cases ri<;>try exact h.elim
 obtain⟨b,h1,h2|⟨g,es,clock,rows,h2,h3,h4⟩⟩:=h
 ·exact⟨b,h1,.inl h2⟩
 ·exact⟨b,h1,.inr ⟨g,es,clock,rows,h2,h3.mono c,h4⟩⟩
def Gc(e:WR tt E Pp objs w){i:Nat}{c1 c2:Code}{s:cU}{j:LS}(h:objs[i]? =some (.loop n ps c1 c2 s j))(g:E[i]? =some ri)(d:OR tt E Pp w ri (.loop n ps c1 c2 s j)){b:Nat}(hb:ri.cZ =some b)
 (c:gK tt E objs w Pp F ad v) (he:ad.block=b):False:=by
 cases ri<;>simp only[OR]at d
 simp only[RI.cZ,cz]at hb;obtain⟨r,h1,_⟩:=d
 have hc:pc w ad=some v:=by
  rcases c with c|⟨c,_⟩
  ·exact e.pi _ _ c
  ·exact gm c
 rw[<- he]at hb;subst hb;simp[pc,h1]at hc
def WR.mN(u:WR tt E Pp objs w)(F:List Nat):WR tt E (gK tt E objs w Pp F) (fw F 0 objs) w:=by
 have mono:∀ad v,Pp ad v->gK tt E objs w Pp F ad v:=λad v h=>.inl h;refine⟨by rw[tZ];exact u.len,?_,?_,?_,u.SN mono⟩
 ·intro ad v h;rcases h with h|⟨h,_⟩
  ·exact u.pi _ _ h
  ·exact gm h
 ·intro i o q hl;rw[jr]at q;cases t:objs[i]? with
  |none=>rw[t]at q;simp at q
  |some x=>
   rw[t]at q;simp only[cr,cz,dW]at q;by_cases D:i∈F
   ·have R:eI i F=true:=(kW i F).2 D;rw[R]at q;simp only[cond_true]at q;cases x<;>simp only[vZ]at q
    case box cs=>subst q;simp[Ob.live]at hl
    case loop=>subst q;obtain⟨ri,c,l⟩:=u.ob i _ t rfl;exact⟨ri,c,OR.frame (λ_ _ h=>h) mono (λ_ _=>rfl) (λb hb ad v I he=>(Gc u t c l hb I he).elim) l⟩
    case row e d wr=>
     subst q;obtain⟨ri,c,l⟩:=u.ob i _ t rfl;refine⟨ri,c,?_⟩;cases ri with
     |row g o len cap=>
      obtain⟨vals,T,rows,h1,h2,h3,h4,h5,h6,h7,h8⟩:=l;refine⟨vals,T,rows,h1,h2,h3,h4,h5,?_,λh=>yE h,λ_=>⟨?_,?_⟩⟩
      ·intro i row H;obtain⟨a,b⟩:=h6 i row H;exact⟨a,λj d ck J U=>let ⟨v,I,hr⟩:=b j d ck J U;⟨v,I,hr.mono mono⟩⟩
      ·intro Y j v H J I;refine .inr ⟨by rw[eC h1];exact I,i,D,.inr ⟨o,len,cap,e,d,wr,c,t,?_⟩⟩;have:(Y+1)*(bR tt e).length<=len*(bR tt e).length:=cW _ H;rw[c9]at this;show o+Y*(bR tt e).length+j<o+len*(bR tt e).length;omega
      ·intro ad v h hb;rcases h with h|⟨hc,k,hk,⟨cs,e1,e2⟩|⟨o2,A,C,e2,d2,G,e3,z,L⟩⟩
       ·cases wr with
        |true=>exact absurd hb (h7 rfl ad v h)
        |false=>exact(h8 rfl).2 ad v h hb
       ·have:=u.sep i k _ _ _ _ g t e2 rfl rfl c e1 rfl (by simp[RI.cZ,hb]);subst this;rw[c]at e1;cases e1
       ·have:=u.sep i k _ _ _ _ g t z rfl rfl c e3 rfl (by simp[RI.cZ,hb]);subst this;rw[c]at e3;cases e3;rw[t]at z;cases z;exact .inr L
     |row0=>exact l
     |_=>exact l.elim
    case map kc e d=>
     subst q;obtain⟨ri,c,l⟩:=u.ob i _ t rfl;refine⟨ri,c,OR.frame (λ_ _ h=>h) mono (λ_ _=>rfl) ?_ l⟩;intro b hb ad v h he;rcases h with h|⟨hc,k,hk,⟨cs,e1,e2⟩|⟨o2,A,C,e2,d2,G,e3,z,L⟩⟩
     ·exact h
     ·have:=u.sep i k _ _ _ _ b t e2 rfl rfl c e1 hb (by simp[RI.cZ,he]);subst this;rw[t]at e2;cases e2
     ·have:=u.sep i k _ _ _ _ b t z rfl rfl c e3 hb (by simp[RI.cZ,he]);subst this;rw[t]at z;cases z
    case iter m s=>subst q;obtain⟨ri,c,l⟩:=u.ob i _ t rfl;exact⟨ri,c,by cases ri<;>exact l⟩
    case diter e d s=>subst q;obtain⟨ri,c,l⟩:=u.ob i _ t rfl;exact⟨ri,c,l.Rw mono⟩
    case dead=>subst q;simp[Ob.live]at hl
   ·have R:eI i F=false:=by
     cases h:eI i F with
     |false=>rfl
     |true=>exact absurd ((kW i F).1 h) D
    rw[R]at q;simp only[cond_false]at q;subst q;obtain⟨ri,c,l⟩:=u.ob i _ t hl;refine⟨ri,c,OR.frame (λ_ _ h=>h) mono (λ_ _=>rfl) ?_ l⟩;intro b hb ad v h he;rcases h with h|⟨hc,k,hk,⟨cs,e1,e2⟩|⟨o2,A,C,e2,d2,G,e3,z,L⟩⟩
    ·exact h
    ·have:=u.sep i k _ _ _ _ b t e2 hl rfl c e1 hb (by simp[RI.cZ,he]);subst this;exact absurd hk D
    ·have:=u.sep i k _ _ _ _ b t z hl rfl c e3 hb (by simp[RI.cZ,he]);subst this;exact absurd hk D
 ·intro i j oi oj ri rj b H J V S X Q O W
  have back:∀(i:Nat)(o:Ob),(fw F 0 objs)[i]? =some o->o.live=true->∃x,objs[i]? =some x/\x.live=true:=by
   intro i o q hl;rw[jr]at q;cases t:objs[i]? with
   |none=>rw[t]at q;simp at q
   |some x=>
    rw[t]at q;simp only[cr,cz]at q;refine⟨x,rfl,?_⟩;cases x<;>simp[Ob.live]
    subst q;cases eI (0+i) F<;>simp[Ob.live,vZ]at hl
  obtain⟨x,t,K⟩:=back i oi H V;obtain⟨y,Z,M⟩:=back j oj J S;exact u.sep i j x y ri rj b t Z K M X Q O W
def lN.mN{own:Nat->Prop}{w0:World}(h:lN own w0 E objs):lN own w0 E (fw F 0 objs):=by
 intro i o ri b c hl e hb;rw[jr]at c;cases d:objs[i]? with
 |none=>rw[d]at c;simp at c
 |some x=>
  rw[d]at c;simp only[cr,cz]at c;refine h i x ri b d ?_ e hb;cases x<;>simp[Ob.live]
  subst c;cases eI (0+i) F<;>simp[Ob.live,vZ]at hl
def cL.mN(h:cL tt B E Pp objs w)(F:List Nat):cL tt B E (gK tt E objs w Pp F) (fw F 0 objs) w:=by
 refine⟨h.wr.mN F,h.pre,λad v b=>.inl (h.rv ad v b),h.fr,?_,h.fresh.mN⟩;intro ad v b;rcases AQ b with h1|⟨i,o,ri,h1,h2,h3,h4⟩
 ·exact h.jo ad v h1
 ·exact .inr (h.fresh i o ri _ h1 h2 h3 h4)
def VR.of_nil(h:VR tt [] Pp v p)(E:List RI):VR tt E Pp v p:=h.mono (λi x b=>yE b) (λ_ _ h=>h)
def eJ.of_nil{v:List Value}{p:List PV}(h:eJ tt [] Pp v p)(E:List RI):eJ tt E Pp v p:=h.mono (λi x b=>yE b) (λ_ _ h=>h)
def KQ:∀(n:Nat)(p:PV)(v:Value),plain n p=true->VR tt E Pp v p->VR tt E' Pp' v p:=by
 intro n;induction n with
 |zero=>intro p v h;simp[plain]at h
 |succ n g=>
  have b:∀(cs:List PV)(vs:List Value),gE (plain n) cs=true->eJ tt E Pp vs cs->eJ tt E' Pp' vs cs:=by
   intro cs;induction cs with
   |nil=>intro vs _ d;cases d;exact .nil
   |cons c cs e=>
    intro vs h d;simp only[gE,bw]at h;cases d with
    |cons _ _ _ _ h1 h2=>exact .cons _ _ _ _ (g _ _ h.1 h1) (e _ h.2 h2)
  intro p v h d
  cases d<;>simp only[plain]at h<;>first
   |exact .undef _|exact .int _ _|exact .bl _|exact .bool _|exact .str _|exact .nilp|exact .nilm|exact .nilf|exact .lf
   |(rename_i hl;exact .agg _ _ (b _ _ h hl))|(rename_i hl;exact .tup _ _ (b _ _ h hl))|simp at h
def FG(hf:∀(i:Nat) x,E[i]? =some x->E2[f i]? =some x):∀(n:Nat)(p:PV)(v:Value),VR tt E Pp v p->VR tt E2 Pp v (IM f n p):=by
 intro n;induction n with
 |zero=>intro p v _;exact .undef _
 |succ n h=>
  have d:∀(cs:List PV)(vs:List Value),eJ tt E Pp vs cs->eJ tt E2 Pp vs (cS (IM f n) cs):=by
   intro cs;induction cs with
   |nil=>intro vs e;cases e;exact .nil
   |cons c cs g=>
    intro vs e;cases e with
    |cons _ _ _ _ h1 h2=>exact .cons _ _ _ _ (h _ _ h1) (g _ h2)
  intro p v e;cases e with
  |undef=>exact .undef _
  |int=>exact .int _ _
  |bl=>exact .bl _
  |bool=>exact .bool _
  |str=>exact .str _
  |lst _ _ _ hr=>exact .lst _ _ _ hr
  |nx _ _ _ _ hr=>exact .nx _ _ _ _ hr
  |agg vs cs hl=>exact .agg _ _ (d _ _ hl)
  |tup vs cs hl=>exact .tup _ _ (d _ _ hl)
  |box=>exact .undef _
  |row0 _ b hb=>exact .row0 _ _ (hf _ _ hb)
  |row _ b _ _ _ _ hb=>exact .row _ _ _ _ _ _ (hf _ _ hb)
  |fH _ _ b _ _ _ _ _ _ hb h0 h1=>exact .undef _
  |js _ _ _ _ _ _ _ _ hr h0 h1=>exact .js _ _ _ _ _ _ _ _ hr h0 h1
  |cP u vs cs off b o hu hl gR=>exact .cP _ _ _ _ _ _ hu (d _ _ hl) gR
  |dptr _ _ _ hr=>exact .dptr _ _ _ hr
  |dmp _ _ _ _ hr=>exact .dmp _ _ _ _ hr
  |rK _ _ _ _ _ hr=>exact .rK _ _ _ _ _ hr
  |cy u f vs cs hu hl=>exact .cy _ _ _ _ hu (d _ _ hl)
  |nilp=>exact .nilp
  |nilm=>exact .nilm
  |lf=>exact .lf
  |nilf=>exact .nilf
  |mp b _ _ _ hb=>exact .mp _ _ _ _ (hf _ _ hb)
  |it b _ hb=>exact .undef _
  |j9 b _ hb=>exact .undef _
def PJ:∀(n:Nat)(p:PV)(v:Value),VR tt E Pp v p->VR tt E Pp v (wk n p):=by
 intro n;induction n with
 |zero=>intro p v h;exact h
 |succ n i=>
  have e:∀(cs:List PV)(vs:List Value),eJ tt E Pp vs cs->eJ tt E Pp vs (cS (wk n) cs):=by
   intro cs;induction cs with
   |nil=>intro vs d;cases d;exact .nil
   |cons c cs g=>
    intro vs d;cases d with
    |cons _ _ _ _ h1 h2=>exact .cons _ _ _ _ (i _ _ h1) (g _ h2)
  intro p v d;cases p<;>try exact d
  case bl b=>cases d;exact .bool _
  case agg cs=>cases d with|agg vs _ hl=>exact .agg _ _ (e _ _ hl)
  case tup cs=>cases d with|tup vs _ hl=>exact .tup _ _ (e _ _ hl)
def wE(hf:∀(i:Nat) x,E[i]? =some x->E2[f i]? =some x):∀(n:Nat)(p:PV)(v:Value),VR tt E Pp v p->VR tt E2 Pp v (ql f n p):=by
 intro n;induction n with
 |zero=>intro p v _;exact .undef _
 |succ n h=>
  have d:∀(cs:List PV)(vs:List Value),eJ tt E Pp vs cs->eJ tt E2 Pp vs (cS (ql f n) cs):=by
   intro cs;induction cs with
   |nil=>intro vs e;cases e;exact .nil
   |cons c cs g=>
    intro vs e;cases e with
    |cons _ _ _ _ h1 h2=>exact .cons _ _ _ _ (h _ _ h1) (g _ h2)
  intro p v e;cases e with
  |undef=>exact .undef _
  |int=>exact .int _ _
  |bl=>exact .bl _
  |bool=>exact .bool _
  |str=>exact .str _
  |lst _ _ _ hr=>exact .lst _ _ _ hr
  |nx _ _ _ _ hr=>exact .nx _ _ _ _ hr
  |agg vs cs hl=>exact .agg _ _ (d _ _ hl)
  |tup vs cs hl=>exact .tup _ _ (d _ _ hl)
  |box _ b _ _ hb hu=>exact .box _ _ _ _ (hf _ _ hb) hu
  |row0 _ b hb=>exact .row0 _ _ (hf _ _ hb)
  |row _ b _ _ _ _ hb=>exact .row _ _ _ _ _ _ (hf _ _ hb)
  |fH _ _ b _ _ _ _ _ _ hb h0 h1=>exact .fH _ _ _ _ _ _ _ _ _ (hf _ _ hb) h0 h1
  |js _ _ _ _ _ _ _ _ hr h0 h1=>exact .js _ _ _ _ _ _ _ _ hr h0 h1
  |cP u vs cs off b o hu hl gR=>exact .cP _ _ _ _ _ _ hu (d _ _ hl) gR
  |dptr _ _ _ hr=>exact .dptr _ _ _ hr
  |dmp _ _ _ _ hr=>exact .dmp _ _ _ _ hr
  |rK _ _ _ _ _ hr=>exact .rK _ _ _ _ _ hr
  |cy u f vs cs hu hl=>exact .cy _ _ _ _ hu (d _ _ hl)
  |nilp=>exact .nilp
  |nilm=>exact .nilm
  |lf=>exact .lf
  |nilf=>exact .nilf
  |mp b _ _ _ hb=>exact .mp _ _ _ _ (hf _ _ hb)
  |it b _ hb=>exact .it _ _ (hf _ _ hb)
  |j9 b _ hb=>exact .j9 _ _ (hf _ _ hb)
def tJ(hf:∀(i:Nat) x,E[i]? =some x->E2[f i]? =some x)(b:eJ tt E Pp vs cs):eJ tt E2 Pp vs (cS (ql f n) cs):=by
 induction cs generalizing vs with
 |nil=>cases b;exact .nil
 |cons c cs d=>
  cases b with
  |cons _ _ _ _ h1 h2=>exact .cons _ _ _ _ (wE hf n _ _ h1) (d h2)
def Ap(s:cU)(t:Nat):look (IL f s) t=ql f 8 (look s t):=by
 induction s with
 |nil=>rfl
 |cons x s b=>
  obtain⟨k,p⟩:=x;simp only[IL,iK];split
  ·rfl
  ·exact b
def OM(k:WR tt E Pp objs w):∀(n:Nat)(p:PV)(v:Value),VR tt E Pp v p->(∀i∈sH n p,i∈F)->VR tt E (gK tt E objs w Pp F) v (Ji objs n p):=by
 intro n;induction n with
 |zero=>intro p v _ _;exact .undef _
 |succ n l=>
  have mono:∀ad v,Pp ad v->gK tt E objs w Pp F ad v:=λad v h=>.inl h
  have d:∀(cs:List PV)(vs:List Value),eJ tt E Pp vs cs->(∀i∈eV (sH n) cs,i∈F)->eJ tt E (gK tt E objs w Pp F) vs (cS (Ji objs n) cs):=by
   intro cs;induction cs with
   |nil=>intro vs b _;cases b;exact .nil
   |cons c cs j=>
    intro vs b h;rw[kZ]at h;cases b with
    |cons _ _ _ _ h1 h2=>exact .cons _ _ _ _ (l _ _ h1 (λi g=>h i (by simp[g]))) (j _ h2 (λi g=>h i (by rw[kZ]at g;simp only[fP,bG];exact .inr g)))
  intro p v b h;cases p<;>try exact b.mono (λ_ _ h=>h) mono
  case agg cs=>cases b with|agg vs _ hl=>exact .agg _ _ (d _ _ hl h)
  case tup cs=>cases b with|tup vs _ hl=>exact .tup _ _ (d _ _ hl h)
  case row e r=>exact(sS (F:=F) k 1 _ _ b h).of_nil _
def LM(g:WR tt E Pp objs w)(e:eJ tt E Pp vs cs)(h:∀i∈eV (sH n) cs,i∈F):eJ tt E (gK tt E objs w Pp F) vs (cS (Ji objs n) cs):=by
 induction cs generalizing vs with
 |nil=>cases e;exact .nil
 |cons c cs d=>
  rw[kZ]at h;cases e with
  |cons _ _ _ _ h1 h2=>exact .cons _ _ _ _ (OM g n _ _ h1 (λi b=>h i (by simp[b]))) (d h2 (λi b=>h i (by rw[kZ]at b;simp only[fP,bG];exact .inr b)))
def vc:∀{l:List Nat}{k n i:Nat},rS l k n=some i->∃j,i=k+j/\l[j]? =some n
 |[],k,n,i,h=>by simp[rS]at h
 |x::l,k,n,i,h=>by
  simp only[rS]at h;split at h
  ·rename_i hb;cases h;exact⟨0,rfl,by simp[cR hb]⟩
  ·obtain⟨j,h1,h2⟩:=vc h;exact⟨j+1,yO,yU h2⟩
def tL(hf:∀(i k:Nat) x,rS ps 0 i=some k->E[i]? =some x->E2[k]? =some x):∀(n:Nat)(p:PV)(v:Value),VR tt E Pp v p->VR tt E2 Pp v (jv ps n p):=by
 intro n;induction n with
 |zero=>intro p v _;exact .undef _
 |succ n h=>
  have d:∀(cs:List PV)(vs:List Value),eJ tt E Pp vs cs->eJ tt E2 Pp vs (cS (jv ps n) cs):=by
   intro cs;induction cs with
   |nil=>intro vs e;cases e;exact .nil
   |cons c cs g=>
    intro vs e;cases e with
    |cons _ _ _ _ h1 h2=>exact .cons _ _ _ _ (h _ _ h1) (g _ h2)
  intro p v e;cases e with
  |undef=>exact .undef _
  |int=>exact .int _ _
  |bl=>exact .bl _
  |bool=>exact .bool _
  |str=>exact .str _
  |lst _ _ _ hr=>exact .lst _ _ _ hr
  |nx _ _ _ _ hr=>exact .nx _ _ _ _ hr
  |agg vs cs hl=>exact .agg _ _ (d _ _ hl)
  |tup vs cs hl=>exact .tup _ _ (d _ _ hl)
  |box _ b _ _ hb hu=>
   simp only[jv];split
   ·rename_i k hk;exact .box _ _ _ _ (hf _ _ _ hk hb) hu
   ·exact .undef _
  |row0 _ b hb=>
   simp only[jv];split
   ·rename_i k hk;exact .row0 _ _ (hf _ _ _ hk hb)
   ·exact .undef _
  |row _ b _ _ _ _ hb=>
   simp only[jv];split
   ·rename_i k hk;exact .row _ _ _ _ _ _ (hf _ _ _ hk hb)
   ·exact .undef _
  |fH _ _ b _ _ _ _ _ _ hb h0 h1=>
   simp only[jv];split
   ·rename_i k hk;exact .fH _ _ _ _ _ _ _ _ _ (hf _ _ _ hk hb) h0 h1
   ·exact .undef _
  |js _ _ _ _ _ _ _ _ hr h0 h1=>exact .js _ _ _ _ _ _ _ _ hr h0 h1
  |cP u vs cs off b o hu hl gR=>exact .cP _ _ _ _ _ _ hu (d _ _ hl) gR
  |dptr _ _ _ hr=>exact .dptr _ _ _ hr
  |dmp _ _ _ _ hr=>exact .dmp _ _ _ _ hr
  |rK _ _ _ _ _ hr=>exact .rK _ _ _ _ _ hr
  |cy u f vs cs hu hl=>exact .cy _ _ _ _ hu (d _ _ hl)
  |nilp=>exact .nilp
  |nilm=>exact .nilm
  |lf=>exact .lf
  |nilf=>exact .nilf
  |mp b _ _ _ hb=>
   simp only[jv];split
   ·rename_i k hk;exact .mp _ _ _ _ (hf _ _ _ hk hb)
   ·exact .undef _
  |it b _ hb=>
   simp only[jv];split
   ·rename_i k hk;exact .it _ _ (hf _ _ _ hk hb)
   ·exact .undef _
  |j9 b _ hb=>
   simp only[jv];split
   ·rename_i k hk;exact .j9 _ _ (hf _ _ _ hk hb)
   ·exact .undef _
def xU(hf:∀(i k:Nat) x,rS ps 0 i=some k->E[i]? =some x->E2[k]? =some x)(b:eJ tt E Pp vs cs):eJ tt E2 Pp vs (cS (jv ps n) cs):=by
 induction cs generalizing vs with
 |nil=>cases b;exact .nil
 |cons c cs d=>
  cases b with
  |cons _ _ _ _ h1 h2=>exact .cons _ _ _ _ (tL hf n _ _ h1) (d h2)
def xW(s:cU)(t:Nat):look (Av ps s) t=jv ps 8 (look s t):=by
 induction s with
 |nil=>rfl
 |cons x s b=>
  obtain⟨k,p⟩:=x;simp only[Av,iK];split
  ·rfl
  ·exact b
end
end
section
variable [Inhabited pB]
open Go
section
variable {P:Program}{tt:TypeId->Option TI}{N:Nat}{B:jc}{E:List RI}{Pp:fE}{objs:List Ob}{w:World}{st:St}{a:Act}
variable {r:Nat}{e:TypeId}{d:D}{Pp':fE}
def Kw(k:∀ad v,Pp ad v->Pp' ad v)(hr:∀b bs cl,E[r]? =some (.map b bs cl)->VR tt E Pp' (.map (some b)) (.dmp e d)):∀(n:Nat)(p:PV)(v:Value),VR tt E Pp v p->VR tt E Pp' v (tA r e d n p):=by
 intro n;induction n with
 |zero=>intro p v _;exact .undef _
 |succ n m=>
  have g:∀(cs:List PV)(vs:List Value),eJ tt E Pp vs cs->eJ tt E Pp' vs (cS (tA r e d n) cs):=by
   intro cs;induction cs with
   |nil=>intro vs h;cases h;exact .nil
   |cons c cs i=>
    intro vs h;cases h with
    |cons _ _ _ _ h1 h2=>exact .cons _ _ _ _ (m _ _ h1) (i _ h2)
  intro p v h;have l:=(VR.fQ (oR.refl E) k).1 h;cases h with
  |agg vs cs hl=>exact .agg _ _ (g _ _ hl)
  |tup vs cs hl=>exact .tup _ _ (g _ _ hl)
  |cy u f vs cs hu hl=>exact .cy _ _ _ _ hu (g _ _ hl)
  |cP u vs cs off b o hu hl gR=>exact .cP _ _ _ _ _ _ hu (g _ _ hl) (λj v q=>k _ _ (gR j v q))
  |mp b _ _ _ hb=>
   simp only[tA];cases s:nb b r with
   |false=>exact l
   |true=>have:=cR s;subst this;exact hr _ _ _ hb
  |_=>exact l
def xu(c:∀ad v,Pp ad v->Pp' ad v)(hr:∀b bs cl,E[r]? =some (.map b bs cl)->VR tt E Pp' (.map (some b)) (.dmp e d)){p:PV}{v:Value}(f:VR tt E Pp v p):VR tt E Pp' v (sa r e d p):=by
 unfold sa;cases uA r 8 p with
 |true=>exact Kw c hr 8 p v f
 |false=>exact(VR.fQ (oR.refl E) c).1 f
def Af(f:∀ad v,Pp ad v->Pp' ad v)(hr:∀b bs cl,E[r]? =some (.map b bs cl)->VR tt E Pp' (.map (some b)) (.dmp e d)){ps:List PV}{vs:List Value}(c:eJ tt E Pp vs ps):eJ tt E Pp' vs (cS (sa r e d) ps):=by
 induction ps generalizing vs with
 |nil=>cases c;exact .nil
 |cons p ps g=>cases c with|cons _ _ _ _ h1 h2=>exact .cons _ _ _ _ (xu f hr h1) (g h2)
def yo(r:Nat)(e:TypeId)(d:D)(s:cU)(t:Nat):look (Ae r e d s) t=sa r e d (look s t):=by
 induction s with
 |nil=>simp[Ae,look,sa,uA]
 |cons x s b=>obtain⟨k,p⟩:=x;simp only[Ae,look,b];cases nb k t<;>simp
def mA{l:List Ob}{i:Nat}{q:Ob}(h:(sD r e d l)[i]? =some q)(hl:q.live=true):i≠r/\∃o,l[i]? =some o/\q=xt r e d o:=by
 rw[sD,fV,gG]at h;by_cases b:i=r
 ·subst b;rw[PB]at h;simp at h;rw[<- h.2]at hl;simp[Ob.live]at hl
 ·rw[bU (dy b),cu]at h;cases c:l[i]? with
  |none=>rw[c]at h;simp at h
  |some o=>rw[c]at h;simp at h;exact⟨b,o,rfl,h.symm⟩
def nm{o:Ob}:(xt r e d o).live=o.live:=by
 cases o with
 |iter m s=>simp only[xt];cases nb m r<;>rfl
 |_=>rfl
def cL.sink(h:cL tt B E Pp objs w)(S:objs[r]? =some (.map .str e d)):
 ∃Pp',cL tt B E Pp' (sD r e d objs) w/\(∀ad v,Pp ad v->Pp' ad v)/\∀{v:Value}{p:PV},VR tt E Pp v p->VR tt E Pp' v (sa r e d p):=by
 obtain⟨ri,O,Q⟩:=h.wr.ob r _ S rfl;cases ri with
 |map b borns clock=>
  have Z:own E objs b:=⟨r,_,_,S,rfl,O,rfl⟩;obtain⟨es,rows,hb,rfl,hl,L,g,fR,c8,ab⟩:=Q;let Pp':fE:=λad v=>Pp ad v\/(ad=⟨b,0,some 0⟩/\v=Em es clock);have z:∀ad v,Pp ad v->Pp' ad v:=λ_ _ h=>.inl h;have hM:EN tt Pp' e b es clock rows:=by refine⟨.inr ⟨rfl,rfl⟩,hl,λi x row h1 h2=>?_,by rw[g];exact fR,by rw[g];exact c8⟩;obtain⟨kd,vd,e1,e2,e3,e4,e5,e6⟩:=L i x row h1 h2;exact⟨kd,vd,e1,e2.mono z,e3,e4,λj d ck v a b c=>(e5 j d ck v a b c).mono z,e6⟩
  have hr:∀b' bs cl,E[r]? =some (.map b' bs cl)->VR tt E Pp' (.map (some b')) (.dmp e (.list rows)):=by intro b' bs cl A;rw[O]at A;cases A;exact .dmp 0 _ _ _ (hM.rd 0)
  have gR:∀ad v,Pp' ad v->pc w ad=some v:=by
   rintro ad v (y|⟨rfl,rfl⟩)
   ·exact h.wr.pi _ _ y
   ·simp[pc,hb]
  have G:∀ad v,Pp' ad v->Pp ad v\/ad.block=b:=by
   rintro ad v (y|⟨rfl,rfl⟩)
   ·exact .inl y
   ·exact .inr rfl
  have M:(sD r e (.list rows) objs).length=objs.length:=by rw[sD,fV,gG];simp
  refine⟨Pp',⟨⟨by rw[M];exact h.wr.len,gR,?_,?_,h.wr.SN z⟩,h.pre,λad v y=>z _ _ (h.rv ad v y),h.fr,?_,?_⟩,z,λy=>xu z hr y⟩
  ·intro i q hq F;obtain⟨W,o,C,rfl⟩:=mA hq F;rw[nm]at F;obtain⟨ri,R,f⟩:=h.wr.ob i o C F;refine⟨ri,R,?_⟩
   have k:OR tt E Pp' w ri o:=by
    refine OR.frame (λ_ _ h=>h) z (λ_ _=>rfl) (λb' A ad v y he=>?_) f;rcases G ad v y with h1|h1
    ·exact h1
    ·exact absurd (h.wr.sep i r o _ ri _ b C S F rfl R O (by rw[A,<-he,h1]) rfl) W
   cases o with
   |box cs=>
    cases ri<;>try exact f.elim
    ·obtain⟨vs,T,h1,_,h3,h4⟩:=k;obtain⟨aj,T',u,I,_⟩:=f;rw[u]at h1;cases h1;exact⟨vs,T,u,Af z hr I,h3,h4.map (IA r e (.list rows))⟩
    ·obtain⟨es,h1,_,h3⟩:=k;obtain⟨ah,u,I,_⟩:=f;rw[u]at h1;cases h1;exact⟨es,u,Af z hr I,h3⟩
   |loop n ps c1 c2 s j=>
    cases ri<;>try exact f.elim
    obtain⟨r',h1,h2,h3⟩:=f;exact⟨r',h1,h2,λt=>by rw[yo];exact xu z hr (h3 t)⟩
   |iter m s=>
    simp only[xt];cases hn:nb m r with
    |false=>exact k
    |true=>
     have:=cR hn;subst this;cases ri<;>try exact f.elim
     obtain⟨bm,bs,cl,ls,h1,h2,h3,h4⟩:=f;rw[O]at h1;cases h1;refine⟨ls,h3,.inr ⟨b,es,clock,rows,rfl,hM,by rw[g];exact h2,λj X=>?_⟩⟩;have:=h4 j X;rw[<- g]at this;simpa[hl]using this
   |row=>exact k
   |map=>exact k
   |diter=>exact k
   |dead=>exact k
  ·intro i j oi oj ri rj b' W X l J K V H Y;obtain⟨_,U,h1,rfl⟩:=mA W l;obtain⟨_,o2,h2,rfl⟩:=mA X J;rw[nm]at l J;exact h.wr.sep i j U o2 ri rj b' h1 h2 l J K V H Y
  ·intro ad v y;rcases G ad v y with h1|h1
   ·exact h.jo ad v h1
   ·rw[h1];exact .inr (h.fresh r _ _ b S rfl O rfl)
  ·intro i o ri b' C l K H;obtain⟨_,U,h1,rfl⟩:=mA C l;rw[nm]at l;exact h.fresh i U ri b' h1 l K H
 |_=>exact Q.elim
def Ft{b:Nat}(h:own E (sD r e d objs) b):own E objs b:=by obtain⟨i,o,ri,h1,h2,h3,h4⟩:=h;obtain⟨_,c,h5,rfl⟩:=mA h1 h2;rw[nm]at h2;exact⟨i,c,ri,h5,h2,h3,h4⟩
def Ad(r:Nat)(h:cL tt B E Pp st.o w)(hs:∀t,VR tt E Pp (a.tmps.getD t undef) (look st.s t)):
 ∃Pp',cL tt B E Pp' (uM r st).o w/\(∀ad v,Pp ad v->Pp' ad v)/\(∀t,VR tt E Pp' (a.tmps.getD t undef) (look (uM r st).s t))/\∀b,own E (uM r st).o b->own E st.o b:=by
 unfold uM;split
 ·rename_i kc e d c;cases hk:decide (kc=CK.str)with
  |false=>exact⟨Pp,h,λ_ _ h=>h,hs,λ_ h=>h⟩
  |true=>have:=of_decide_eq_true hk;subst this;obtain⟨Pp',h1,h2,h3⟩:=h.sink (cT c rfl);exact⟨Pp',h1,h2,λt=>by simp only[cond_true,yo];exact h3 (hs t),λb hb=>Ft hb⟩
 ·exact⟨Pp,h,λ_ _ h=>h,hs,λ_ h=>h⟩
def tz(l:List Nat)(h:cL tt B E Pp st.o w)(hs:∀t,VR tt E Pp (a.tmps.getD t undef) (look st.s t)):
 ∃Pp',cL tt B E Pp' (sinks l st).o w/\(∀ad v,Pp ad v->Pp' ad v)/\(∀t,VR tt E Pp' (a.tmps.getD t undef) (look (sinks l st).s t))/\∀b,own E (sinks l st).o b->own E st.o b:=by
 induction l generalizing st Pp with
 |nil=>exact⟨Pp,h,λ_ _ h=>h,hs,λ_ h=>h⟩
 |cons r l j=>obtain⟨Pp1,h1,h2,h3,h4⟩:=Ad r h hs;obtain⟨c,f,g,i,k⟩:=j h1 h3;exact⟨c,f,λ_ _ h=>g _ _ (h2 _ _ h),i,λb hb=>h4 b (k b hb)⟩
end
end
section
variable [Inhabited pB]
open Go
variable {tt:TypeId->Option TI}{E:List RI}{Pp Pp':fE}{objs:List Ob}{w w':World}{v:Value}{ad:Addr}
def nY(tt:TypeId->Option TI)(E:List RI)(Pp:fE)(objs:List Ob)(w:World)(ad:Addr)(v:Value):Prop:=
 Pp ad v\/(w.cell? ad=some v/\∃(i:Nat),(∃cs,objs[i]? =some (.box cs)/\E[i]? =some (.box ad.block))\/
  (∃e d wr o len cap,objs[i]? =some (.row e d wr)/\E[i]? =some (.row ad.block o len cap)/\ad.off<o+len*(bR tt e).length))
def fM(dV:List FuncId×List FuncId):Op->Bool
 | .store _ _ _=>false
 | .mapUpdate _ _ _ _=>false
 | .insert _ _ _ _=>false
 | .next _ _=>false
 | .slice _ _ none (some _) none=>eu dV.2
 | .call { callee:=.value (.func f),.. }=>bif eI f dV.1 then false else bif eI f dV.2 then false else true
 | .call { callee:=.value _,.. }=>eu dV.2
 | .call { callee:=.builtin .delete,.. }=>false
 | .call { callee:=.builtin .clear,.. }=>false
 |_=>true
def dH(tt:TypeId->Option TI)(B:jc)(dV:List FuncId×List FuncId)(E:List RI)(Pp:fE)(objs:List Ob)(w:World)(o:Oper)(a:Act)(K:PV->St->Prop):Act->World->Prop:=λc w'=>
 ∃b E' Pp' v pv,c=a.put o.dst v/\VR tt E' Pp' v pv/\(∀t,VR tt E' Pp' (a.tmps.getD t undef) (look b.s t))/\cL tt B E' Pp' b.o w'/\K pv b/\
  (fM dV o.op=true->∀ad v,nY tt E Pp objs w ad v->nY tt E' Pp' b.o w' ad v)/\(∀ad v,Pp ad v->Pp' ad v)
def dH.mk{B:jc}{dV:List FuncId×List FuncId}{o:Oper}{a:Act}{K:PV->St->Prop}{s':cU}{o':List Ob}{E':List RI}{pv:PV}
 (c:VR tt E' Pp' v pv) (hs:∀t,VR tt E' Pp' (a.tmps.getD t undef) (look s' t)) (b:cL tt B E' Pp' o' w') (hK:K pv ⟨s',o'⟩)
 (e:fM dV o.op=true->∀ad v,nY tt E Pp objs w ad v->nY tt E' Pp' o' w' ad v) (d:∀ad v,Pp ad v->Pp' ad v:=by first|exactλ_ _ h=>h|exactλ_ _ h=>.inl h|exactλ_ _ h=>.inl (.inl h)|assumption):dH tt B dV E Pp objs w o a K (a.put o.dst v) w':=
 ⟨⟨s',o'⟩,E',Pp',v,pv,rfl,c,hs,b,hK,e,d⟩
def nY.cell(b:WR tt E Pp objs w)(h:nY tt E Pp objs w ad v):pc w ad=some v:=by
 rcases h with h|⟨h,_⟩
 ·exact b.pi _ _ h
 ·exact gm h
def nY.grow{E2:List RI}{objs2:List Ob}(hl:E.length=objs.length)(f:∀ad v,Pp ad v->Pp' ad v)
 (j:∀k,k<w.heap.size->w'.heap[k]? =w.heap[k]?) (h:nY tt E Pp objs w ad v):nY tt (E++E2) Pp' (objs++objs2) w' ad v:=by
 have app:∀{α:Type}(l k:List α)(i:Nat)(x:α),l[i]? =some x->(l++k)[i]? =some x:=by
  intro α l k i x c;rw[bS]
  ·exact c
  ·rcases bV i l.length with b|b
   ·exact b
   ·rw[ca b]at c;simp at c
 rcases h with h|⟨h,i,g⟩
 ·exact .inl (f _ _ h)
 ·refine .inr ⟨?_,i,?_⟩
  ·rw[sZ (j _ (World.block_lt_of_cell? w ad h))];exact h
  ·rcases g with⟨cs,h1,h2⟩|⟨e,d,wr,o,len,cap,h1,h2,h3⟩
   ·exact .inl ⟨cs,app _ _ _ _ h1,app _ _ _ _ h2⟩
   ·exact .inr ⟨e,d,wr,o,len,cap,app _ _ _ _ h1,app _ _ _ _ h2,h3⟩
def nY.mN(F:List Nat)(h:nY tt E Pp objs w ad v):nY tt E (gK tt E objs w Pp F) (fw F 0 objs) w ad v:=by
 rcases h with h|⟨h,i,f⟩
 ·exact .inl (.inl h)
 ·rcases f with⟨cs,h1,h2⟩|⟨e,d,wr,o,len,cap,h1,h2,h3⟩
  ·by_cases c:i∈F
   ·exact .inl (.inr ⟨h,i,c,.inl ⟨cs,h2,h1⟩⟩)
   ·refine .inr ⟨h,i,.inl ⟨cs,?_,h2⟩⟩
    have b:eI i F=false:=by
     cases h:eI i F with
     |false=>rfl
     |true=>exact absurd ((kW i F).1 h) c
    rw[jr,h1];simp[b]
  ·refine .inr ⟨h,i,?_⟩;cases b:eI i F with
   |false=>exact .inr ⟨e,d,wr,o,len,cap,by rw[jr,h1];simp[b],h2,h3⟩
   |true=>exact .inr ⟨e,d,false,o,len,cap,by rw[jr,h1];simp[b,vZ],h2,h3⟩
section
variable {P:Program}{tt:TypeId->Option TI}{N:Nat}{B:jc}{E:List RI}{Pp:fE}{objs:List Ob}{w:World}{st:St}{a:Act}
variable {o:Oper}{Q:Exit->Act->World->Prop}{ti:TI}{t T:TypeId}{w':World}{K:PV->St->Prop}{dV:List FuncId×List FuncId}{v:Value}{ri ri':RI}{ps:List PV}{next:Act->World->Prop}{i:Nat}{o':Ob}{E':List RI}{objs':List Ob}{Pp':fE}{vs:List Value}{x:Operand}
def dX(h:(execOp a.eval o).run P w= .ok (.value v) w')(b:next (a.put o.dst v) w'):o.wp P a w next Q:=by simp only[Oper.wp,h];exact b
def wZ(h:(execOp a.eval o).run P w= .ok .skip w')(b:next (a.put o.dst undef) w'):o.wp P a w next Q:=by simp only[Oper.wp,h];exact b
def eh(w:World)(x:Obj):(w.alloc x).heap[w.heap.size]? =some x:=by show (w.heap.push x)[w.heap.size]? =some x;simp
def WR.wm(h:WR tt E Pp objs w){o:Ob}
 (S:objs[i]? =some o) (hl:o.live=true) (M:E[i]? =some ri)
 (R:E'.length=E.length) (m:∀(j:Nat),j≠i->E'[j]? =E[j]?) (n:E'[i]? =some ri')
 (H:objs'.length=objs.length)
 (hO:∀(j:Nat) e,j≠i->objs'[j]? =some e->e.live=true->∃oj,objs[j]? =some oj/\oj.live=true/\∀rj,E[j]? =some rj->OR tt E Pp w rj oj->OR tt E' Pp w rj e)
 (J:objs'[i]? =some o') (I:o'.live=true->OR tt E' Pp' w' ri' o')
 (G:∀b,b<w.heap.size->ri.cZ ≠some b->w'.heap[b]? =w.heap[b]?)
 (C:∀ad v,Pp ad v->Pp' ad v) (D:∀ad v,Pp' ad v->Pp ad v\/ri.cZ =some ad.block\/w.heap.size<=ad.block)
 (s:∀b,ri'.cZ =some b->ri.cZ =some b\/w.heap.size<=b)
 (gR:∀ad v,Pp' ad v->pc w' ad=some v):WR tt E' Pp' objs' w':=by
 have d:∀(j:Nat) oj rj b,j≠i->objs[j]? =some oj->oj.live=true->E[j]? =some rj->rj.cZ =some b->ri.cZ ≠some b/\b<w.heap.size:=by intro j oj rj b r h1 h2 h3 h4;refine⟨λh5=>r (h.sep j i oj o rj ri b h1 S h2 hl h3 M h4 h5),mF h ⟨j,oj,rj,h1,h2,h3,h4⟩⟩
 have L:=h.len;refine⟨yO,gR,?_,?_,h.SN C⟩
 ·intro j e r p;by_cases c:j=i
  ·subst c;rw[J]at r;cases r;exact⟨ri',n,I p⟩
  ·obtain⟨oj,h1,h2,h3⟩:=hO j e c r p;obtain⟨rj,q,A⟩:=h.ob j oj h1 h2;refine⟨rj,by rw[m j c];exact q,OR.frame (λ_ _ h=>h) C ?_ ?_ (h3 rj q A)⟩
   ·intro b hb;obtain⟨h4,h5⟩:=d j oj rj b c h1 h2 q hb;exact G b h5 h4
   ·intro b hb ad v U he;obtain⟨h4,h5⟩:=d j oj rj b c h1 h2 q hb;rcases D ad v U with h6|h6|h6
    ·exact h6
    ·rw[he]at h6;exact absurd h6 h4
    ·omega
 ·intro j k oj ok rj O b r hk p F g l z u;by_cases c:j=i<;>by_cases f:k=i
  ·omega
  ·subst c;rw[n]at g;cases g;obtain⟨y,h1,h2,_⟩:=hO k ok f hk F;rw[m k f]at l;obtain⟨h4,h5⟩:=d k y O b f h1 h2 l u;rcases s b z with h6|h6
   ·exact absurd h6 h4
   ·omega
  ·subst f;rw[n]at l;cases l;obtain⟨e,h1,h2,_⟩:=hO j oj c r p;rw[m j c]at g;obtain⟨h4,h5⟩:=d j e rj b c h1 h2 g z;rcases s b u with h6|h6
   ·exact absurd h6 h4
   ·omega
  ·obtain⟨e,h1,h2,_⟩:=hO j oj c r p;obtain⟨y,h3,h4,_⟩:=hO k ok f hk F;rw[m j c]at g;rw[m k f]at l;exact h.sep j k e y rj O b h1 h3 h2 h4 g l z u
def cL.wm(h:cL tt B E Pp objs w){o:Ob}
 (z:objs[i]? =some o) (hl:o.live=true) (e:E[i]? =some ri)
 (u:E'.length=E.length) (p:∀(j:Nat),j≠i->E'[j]? =E[j]?) (g:E'[i]? =some ri') (f:oR E E'\/B.E0.length<=i)
 (r:objs'.length=objs.length)
 (hO:∀(j:Nat) c,j≠i->objs'[j]? =some c->c.live=true->∃oj,objs[j]? =some oj/\oj.live=true/\∀rj,E[j]? =some rj->OR tt E Pp w rj oj->OR tt E' Pp w rj c)
 (F:objs'[i]? =some o') (D:o'.live=true->OR tt E' Pp' w' ri' o')
 (I:w'.os=w.os) (G:w'.tape=w.tape) (y:w'.output=w.output) (fh:w.heap.size<=w'.heap.size)
 (n:∀b,b<w.heap.size->ri.cZ ≠some b->w'.heap[b]? =w.heap[b]?)
 (s:∀ad v,Pp ad v->Pp' ad v) (l:∀ad v,Pp' ad v->Pp ad v\/ri.cZ =some ad.block\/w.heap.size<=ad.block)
 (m:∀b,ri'.cZ =some b->ri.cZ =some b\/w.heap.size<=b)
 (gR:∀ad v,Pp' ad v->pc w' ad=some v) (H:w.drawn<=w'.drawn:=by first|exact cg _|exact pQ _|assumption):cL tt B E' Pp' objs' w':=by
 have R:=h.fr.size;refine⟨h.wr.wm z hl e u p g r hO F D n s l m gR,?_,λad v J=>s ad v (h.rv ad v J),?_,?_,?_⟩
 ·intro j x A;rcases f with f|f
  ·exact h.pre.trans f j x A
  ·have:j<B.E0.length:=by
    rcases bV j B.E0.length with C|C
    ·exact C
    ·rw[ca C]at A;simp at A
   rw[p j yO];exact h.pre j x A
 ·refine⟨I.trans h.fr.os,G.trans h.fr.tape,y.trans h.fr.output,yO,λO=>bQ (h.fr.drawn O) H,?_⟩;intro k hk M;rw[n k yO]
  ·exact h.fr.block k hk M
  ·intro hb;rcases h.fresh i o ri k z hl e hb with h1|h1
   ·omega
   ·exact M h1
 ·intro ad v J;rcases l ad v J with h1|h1|h1
  ·exact h.jo ad v h1
  ·exact .inr (h.fresh i o ri _ z hl e h1)
  ·exact .inr (.inl yO)
 ·intro j oj rj b S L d hb;by_cases q:j=i
  ·subst q;rw[g]at d;cases d;rcases m b hb with h1|h1
   ·exact h.fresh j o ri b z hl e h1
   ·exact .inl yO
  ·obtain⟨c,h1,h2,_⟩:=hO j oj q S L;rw[p j q]at d;exact h.fresh j c rj b h1 h2 d hb
def fG{s:cU}(hs:∀t,VR tt E Pp (a.tmps.getD t undef) (look s t)):∀t,VR tt (E++[ri]) Pp (a.tmps.getD t undef) (look s t):=λt=>(hs t).mono mem_push (λ_ _ h=>h)
def wS(h:tt T=some ti)(hc:zN ti ps=true):qV tt T ps:=by intro hb;unfold zN at hc;rw[hb]at hc;exact⟨ti,h,hc⟩
def oA(h:cL tt B E Pp objs w)(T:TypeId)(c:eJ tt E Pp vs ps)(b:qV tt T ps):
 cL tt B (E++[.box w.heap.size]) Pp (objs++[.box ps]) (w.alloc (.cells ⟨vs⟩ T))/\VR tt (E++[.box w.heap.size]) Pp (.pointer (some ⟨w.heap.size,0,none⟩)) (.box objs.length 0):=by
 refine⟨h.new rfl ⟨vs,T,eh w _,c.mono mem_push (λ_ _ h=>h),kj h.wr,b⟩,.box _ _ _ _ ?_ (.mk rfl)⟩;rw[<- h.wr.len];simp
def MB(g:ec P tt)(h:cL tt B E Pp st.o w)(hs:∀t,VR tt E Pp (a.tmps.getD t undef) (look st.s t))(f:o.op= .alloc t)(c:tt t=some ti)(b:qV tt t (ti.bT.map gL))
 (hK:K (.box (ch st.o) 0) ⟨st.s,gi st.o [.box (ti.bT.map gL)]⟩):o.wp P a w (dH tt B dV E Pp st.o w o a K) Q:=by
 obtain⟨_,_,⟨z,hz,d⟩,_⟩:=(g _ _ c).run w;rw[eX]at hK;have e:z.cells=⟨ti.bT.map zeroV⟩:=by rw[<- d]
 have j:=oA h t (p8 (E:=E) (Pp:=Pp) (tt:=tt) ti.bT) b;refine dX (v:=.pointer (some ⟨w.heap.size,0,none⟩)) (w':=w.alloc (.cells ⟨ti.bT.map zeroV⟩ t)) ?_ ?_
 ·simp[execOp,f,Instr.alloc,hz,newVar,newRow,e]
 ·exact dH.mk (by rw[cI];exact j.2) (fG hs) j.1 hK (λ_ ad v l=>l.grow h.wr.len (λ_ _ h=>h) (λk hk=>RowKit.Below.heap_alloc w _ k hk))
def Ck(m:ec P tt)(h:cL tt B E Pp st.o w)(hs:∀t,VR tt E Pp (a.tmps.getD t undef) (look st.s t)){e:TypeId}(l:o.op= .alloc t)(g:tt t=some ti)(he:dZ ti=some e)
 (hK:K (.box (ch st.o+1) 0) ⟨st.s,gi st.o [.row e (.list []) true,.box [.row e (ch st.o)]]⟩):o.wp P a w (dH tt B dV E Pp st.o w o a K) Q:=by
 obtain⟨_,_,⟨z,hz,j⟩,_⟩:=(m _ _ g).run w;rw[eX,cI]at hK
 have c:ti.bT=[.slice e]:=by
  unfold dZ at he;split at he
  ·rename_i h2;cases he;exact h2
  ·cases he
 have d:z.cells=⟨ti.bT.map zeroV⟩:=by rw[<- j]
 rw[c]at d;have f:VR tt (E++[.row0]) Pp (.slice none 0 0) (.row e st.o.length):=.row0 _ _ (by rw[<- h.wr.len];simp);have h1:cL tt B (E++[.row0]) Pp (st.o++[.row e (.list []) true]) w:=⟨h.wr.push (λ_=>rfl) (λb hb=>by simp[RI.cZ]at hb),qo h.pre,h.rv,h.fr,h.jo,h.fresh.push h.wr.len (λb hb=>by simp[RI.cZ]at hb)⟩;have n:=oA h1 t (vs:=[.slice none 0 0]) (.cons _ _ _ _ f .nil) (λhb=>yC hb);refine dX (v:=.pointer (some ⟨w.heap.size,0,none⟩)) (w':=w.alloc (.cells ⟨[.slice none 0 0]⟩ t)) ?_ ?_
 ·simp[execOp,l,Instr.alloc,hz,newVar,newRow,d,zeroV]
 ·refine dH.mk (E':=E++[.row0]++[.box w.heap.size]) (Pp':=Pp) ?_ (fG (fG hs)) ?_ hK (λ_ ad v p=>?_)
  ·have:=n.2;simpa using this
  ·simpa using n.1
  ·have:=p.grow (E2:=[.row0]++[.box w.heap.size]) (objs2:=[.row e (.list []) true,.box [.row e st.o.length]]) (w':=w.alloc (.cells ⟨[.slice none 0 0]⟩ t)) h.wr.len (λ_ _ h=>h) (λk hk=>RowKit.Below.heap_alloc w _ k hk);simpa using this
def RH(h:cL tt B E Pp st.o w)(hs:∀t,VR tt E Pp (a.tmps.getD t undef) (look st.s t))(d:o.op= .box t x)
 (c:flat (fK tt st.s t x)≠[]) (b:qV tt t (flat (fK tt st.s t x))) (hK:K (.box (ch st.o) 0) ⟨st.s,gi st.o [.box (flat (fK tt st.s t x))]⟩):o.wp P a w (dH tt B dV E Pp st.o w o a K) Q:=by
 rw[eX]at hK;have g:=iE hs t x;have e:=oA h t (mT g c) b;refine dX (v:=.pointer (some ⟨w.heap.size,0,none⟩)) (w':=w.alloc (.cells ⟨(a.eval x).cells.toList⟩ t)) ?_ ?_
 ·simp[execOp,d,Instr.box,newVar,newRow]
 ·exact dH.mk (by rw[cI];exact e.2) (fG hs) e.1 hK (λ_ ad v f=>f.grow h.wr.len (λ_ _ h=>h) (λk hk=>RowKit.Below.heap_alloc w _ k hk))
def BG:∀(l:List PV)(n:Nat)(ys:List PV),n+ys.length<=l.length->nK l n ys=l.take n++ys++l.drop (n+ys.length)
 |l,n,[],_=>by simp[xw]
 |[],n,y::ys,h=>yE h
 |x::xs,0,y::ys,h=>by have:=BG xs 0 ys (yU h);simp only[nK,this];simp
 |x::xs,n+1,y::ys,h=>by have:=BG xs n (y::ys) (by simp at h ⊢;omega);simp only[nK,this];rw[show n+1+(y::ys).length=(n+(y::ys).length)+1 by omega];simp
def FR{p:PV}(h:hX p=true)(c:VR tt E Pp v p):v.oneCell'=true:=by
 cases c with
 |lst e v d hr=>cases hr<;>rfl
 |dptr t v d hr=>cases hr<;>rfl
 |dmp t e v d hr=>rcases hr.rC with⟨rfl,_⟩|⟨_,_,_,_,rfl,_⟩<;>rfl
 |undef|agg|tup=>simp[hX]at h
 |cy _ f _ _ hu _=>
  rcases bV f kz with hb|hb
  ·rw[hu.1 hb];rfl
  ·rw[hu.2 hb];rfl
 |fH _ _ _ _ off _ _ _ _ _ _ hu=>
  by_cases b:off=dB
  ·obtain⟨⟨g,e,_⟩,_⟩:=hu.2 b;rw[e];rfl
  ·rw[(hu.1 b).1];rfl
 |cP _ _ _ off _ _ hu _ _=>
  by_cases b:off=dB
  ·rw[hu.2 b];rfl
  ·rw[hu.1 b];rfl
 |box _ _ off _ _ hu=>
  by_cases b:off<=dB
  ·rw[hu.1 b];rfl
  ·rw[hu.2 (off-(dB+1)) yO];rfl
 |_=>rfl
def vU(h:gE hX ps=true)(b:eJ tt E Pp vs ps):∀v∈vs,v.oneCell'=true:=by
 induction ps generalizing vs with
 |nil=>cases b;simp
 |cons p ps c=>
  simp only[gE,bw]at h;cases b with
  |cons v _ vs _ h1 h2=>
   intro u hu;rcases bN.1 hu with rfl|hu
   ·exact FR h.1 h1
   ·exact c h.2 h2 u hu
def vI(b:jl P t ti){g o:Nat}{cur:List Value}(d:w.heap[g]? =some (.cells ⟨cur⟩ T (0,0)))
 (hl:v.cells.toList.length=ti.bT.length) (eO:o+ti.bT.length<=cur.length) (h1:∀u∈v.cells.toList,u.oneCell'=true):
 (Instr.storeAt t (.pointer (some ⟨g,o,none⟩)) v).run P w= .ok () (w.setRow g ⟨cur.take o++v.cells.toList++cur.drop (o+ti.bT.length)⟩):=by
 obtain⟨_,h2,_,_⟩:=b.run w;have c:=run_storeCells_at P g o T v.cells.toList 0 ⟨cur⟩ w d (by simpa[hl]using eO) h1;have fh:v.cells.size=ti.bT.length:=yU hl;simp only[Instr.storeAt,Instr.sureAddr,storeVar,pure_bind,Sem.run_bind,h2,Result.andThen_ok,fh,ne_eq,not_true,if_false];rw[c];simp[fh]
def BE(S:ec P tt)(h:cL tt B E Pp st.o w)(hs:∀t,VR tt E Pp (a.tmps.getD t undef) (look st.s t)){y:Operand}(r:o.op= .store t x y)(O:tt t=some ti)
 (d:(flat (fK tt st.s t y)).length=ti.bT.length) (W:0<ti.bT.length) (z:gE hX (flat (fK tt st.s t y))=true) {b off:Nat} (hx:ev st.s x= .box b off) {cs:List PV} (I:ew st.o b= .box cs)
 (J:ir off dB=true) (eO:off+ti.bT.length<=cs.length) (g:OZ (nK cs off (flat (fK tt st.s t y))) cs=true) (hK:K .undef ⟨st.s,gU st.o b (.box (nK cs off (flat (fK tt st.s t y))))⟩):o.wp P a w (dH tt B dV E Pp st.o w o a K) Q:=by
 have A:=S _ _ O;have Z:=iE hs t y;have l:flat (fK tt st.s t y)≠[]:=by intro h0;rw[h0]at d;simp at d;omega
 have c:=mT Z l;have n:=eG hs x;rw[hx]at n;rw[fV]at hK;have f:=cT I rfl;generalize U:a.eval x=vx at n;cases n with
 |box _ _ _ gv L hu=>
  obtain rfl:=hu.get J;obtain⟨ri,F,R⟩:=h.wr.ob b _ f rfl;rw[L]at F;cases F;obtain⟨vs,T,H,q,D,C⟩:=R;have p:qV tt T (nK cs off (flat (fK tt st.s t y))):=by intro hb;unfold OZ at g;rw[hb]at g;exact C g
  have ac:=q.length;have Y:=c.length;have u:=vI (P:=P) A (v:=a.eval y) H yO (o:=off) yO (vU z c);refine wZ (w':=w.setRow gv ⟨vs.take off++(a.eval y).cells.toList++vs.drop (off+ti.bT.length)⟩) ?_ ?_
  ·simp[execOp,r,U,u]
  ·have c8:gv<w.heap.size:=by
    rcases bV gv w.heap.size with m|m
    ·exact m
    ·simp[cC m]at H
   have G:b<st.o.length:=by
    rcases bV b st.o.length with m|m
    ·exact m
    ·rw[ca m]at f;simp at f
   refine dH.mk (.undef _) hs ?_ hK (λV=>by rw[r]at V;simp[fM]at V);refine h.wm (o':=.box (nK cs off (flat (fK tt st.s t y)))) f rfl L rfl (λ_ _=>rfl) L (.inl (.refl _)) yS ?_ (by simp[G]) ?_ rfl rfl rfl yS ?_ (λ_ _ h=>h) (λ_ _ h=>.inl h) (λb hb=>.inl hb) ?_
   ·intro j M hj s hl;rw[bU (dy hj)]at s;exact⟨M,s,hl,λ_ _ h=>h⟩
   ·intro _;refine⟨_,T,setRow_heap w gv _ _ _ _ H,?_,D,p⟩;rw[BG _ _ _ yO];have:=((q.take off).append c).append (q.drop (off+(flat (fK tt st.s t y)).length))
    rwa [d]at this ⊢
   ·intro k hk l;exact setRow_other w gv k _ (λe=>l (by rw[e];rfl))
   ·intro ad v X;rw[gF (setRow_other w gv ad.block _ (D ad v X))];exact h.wr.pi ad v X
end
end
end Go.VC
