/- Part 1 of the common texts. -/
import Derived.Calls
import Derived.Orders
import Derived.Laws.Sem
import Derived.Laws.World
import Derived.Laws.Entries
import Derived.Laws.Cells
import GoSem.Claims
import Derived.Laws.Strings
import Derived.Lib.SliceRun
import Derived.Laws.BytesString
import Derived.Laws.Tables
import Derived.Below
import Derived.Laws.CopyRow
import Derived.Laws.AppendOwn
import Derived.CallsIn
import Derived.Laws.MakeOwn
set_option linter.all false
set_option maxRecDepth 100000
set_option maxHeartbeats 16000000
open Array renaming ext→O8,ext'→j4,foldl_toList→wM,getElem?_eq_getElem→pG,getElem?_eq_none→dJ,getElem?_setIfInBounds_ne→eD,getElem?_setIfInBounds_self_of_lt→gy,getElem?_toList→iq,length_toList→gZ,mapM_eq_mapM_toList→pF,range→JU,size→M0,toList_zipIdx→J1
open Bool renaming and_eq_true→bI,false_and→fH,false_eq_true→cC,false_or→FG,not_not→xS,or_eq_false_iff→J0,or_eq_true→gh,or_false→mX,true_and→fB
open Int renaming natCast_nonneg→cW,ofNat→br,toNat_natCast→jV
open Int.ofNat renaming inj→AH
open List renaming all_eq_true→dk,append_assoc→bN,drop_eq_getElem_cons→bM,flatMap_cons→eQ,foldl_cons→iG,getD→cj,getD_eq_getElem?_getD→fW,getElem?_append_left→bU,getElem?_append_right→cq,getElem?_cons_succ→gR,getElem?_drop→fw,getElem?_eq_getElem→bB,getElem?_eq_none→bY,getElem?_eq_some_iff→dF,getElem?_inj→O5,getElem?_map→cw,getElem?_modify→uf,getElem?_of_mem→gH,getElem?_range→vO,getElem?_set_ne→cc,getElem?_set_self→dh,getElem?_take→xu,getElem?_take_of_lt→cQ,length_cons→bS,length_map→bQ,length_set→gg,length_singleton→eg,mapM_cons→Dj,map_cons→bO,map_map→ju,mem_append→bJ,mem_cons→bP,mem_cons_of_mem→gG,mem_flatMap→cN,mem_of_getElem?→fv,nodup_cons→cn,nodup_nil→ud,range→gU,replicate→Di,size_toArray→O4
open Nat renaming add_assoc→eR,add_mul→ez,add_zero→iS,div_eq_of_lt→r7,le_refl→ca,le_succ→qF,le_trans→bR,lt_or_ge→cb,lt_trichotomy→Aa,mod_eq_of_lt→AD,mul_add_div→tg,mul_add_mod→Dd,mul_comm→jx,mul_le_mul→Fy,mul_le_mul_right→dE,mul_one→vL,zero_add→fk
open Ne renaming symm→eh
open Option renaming bind_eq_some_iff→lA,bind_some→iY,getD_none→qD,getD_some→dQ,isSome_none→ou,map_none→Ab,map_some→cu
open Option.some renaming injEq→cr
open Prod.mk renaming injEq→ey
open SizeOf renaming sizeOf→pI
open UInt8 renaming ofNat→mW
namespace Go.VC
section
variable {p q:Prop}
def yO(h:p:=by omega):p:=h
def yD(h:p:=by decide):p:=h
def yS(h:p:=by simp):p:=h
def yA(h:p:=by assumption):p:=h
def yP(h:p:=by simp only;omega):p:=h
def yQ(h:p:=by simp;omega):p:=h
def yL(h:p:=by simp only[List.length_append,Int.ofNat_eq_natCast];omega):p:=h
def yK(h:p:=by decide +kernel):p:=h
def yC(c:q)(h:q->p:=by intro h;cases h):p:=h c
def yE(c:q)(h:q->p:=by intro h;simp at h):p:=h c
def yU(c:q)(h:q->p:=by intro h;simpa using h):p:=h c
def yB{a b c:Bool}(e:a=b)(h:a=c)(n:b≠c:=by decide):p:=absurd (e.symm.trans h) n
end
section
def nb(a b:Nat):Bool:=decide (a=b)
def nE(a b:Nat):Bool:=decide (a<=b)
abbrev jv(a b:Nat):Bool:=nE (a+1) b
def dH{a b:Nat}(h:nb a b=true):a=b:=of_decide_eq_true h
@[simp] theorem lW(a:Nat):nb a a=true:=decide_eq_true rfl
@[simp] theorem Pl{a b:Nat}:(nb a b=true)=(a=b):=propext ⟨dH,λh=>decide_eq_true h⟩
def eO{a b:Nat}(h:nE a b=true):a<=b:=of_decide_eq_true h
inductive D where
 |int (n:Int)|bool (b:Bool)|str (s:List UInt8)|list (rows:List (List D))|nil|ptr (cs:List D)
 deriving Inhabited
inductive CK where
 |int (k:IntKind)|bool|str|slice (e:TypeId)|ptr (t:TypeId)|map (t e:TypeId)|fn|iM
 deriving DecidableEq,Inhabited
structure TI where
 agg:Bool
 cd:List CK
 fs:List (Nat×TypeId)
 el:TypeId
 ar:Nat
 bytes:Nat
 Ao:Bool:=false
 Sp:Option Nat:=none
 Sn:List (Nat×IntKind×List Int):=[]
 BL:Bool:=false
 deriving Inhabited
inductive PV where
 |undef
 |int (k:IntKind) (n:Int)
 |bl (b:Bool)
 |bool (b:Bool)
 |str (s:List UInt8)
 |lst (e:TypeId) (d:D)
 |pe (e:TypeId) (d:D)
 |agg (cs:List PV)
 |tup (vs:List PV)
 |box (b off:Nat)
 |row (e:TypeId) (r:Nat)
 |gp (e:TypeId) (r:Nat) (i:Int) (off:Nat)
 |kF (e:TypeId) (d:D) (i:Int) (off:Nat)
 |cR (cs:List PV) (off:Nat)
 |dptr (t:TypeId) (d:D)
 |tO (t:TypeId) (d:D) (off:Nat)
 |cy (f:FuncId) (oM:List PV)
 |nilp|nilm|nilf|nF
 |mp (m:Nat)
 |dmp (e:TypeId) (d:D)
 |it (i:Nat)
 |lS (i:Nat)
 deriving Inhabited
abbrev dS:=List (Nat×PV)
def look:dS->Nat->PV
 |[],_=>.undef
 |(k,v)::r,n=>(match nb k n with|true=>(v)|false=>(look r n))
def kO(k:Nat)(v:PV)(r:dS)(n:Nat):look ((k,v)::r) n=if k=n then v else look r n:=by
 simp only[look];cases h:nb k n with
 |true=>rw[if_pos (dH h)]
 |false=>rw[if_neg (λe=>by rw[<- Pl,h]at e;cases e)]
inductive LS where
 |ready|busy|done (c:Code)
inductive Ob where
 |box (cs:List PV)
 |row (e:TypeId) (d:D) (wr:Bool)
 |map (kc:CK) (e:TypeId) (d:D)
 |iter (m:Nat) (seen:D)
 |diter (e:TypeId) (d seen:D)
 |loop (n:Nat) (ps:List Nat) (assign body:Code) (s:dS) (j:LS)
 |dead
 deriving Inhabited
inductive RI where
 |box (b:Nat)|row0|row (g o len cap:Nat)|map (b:Nat) (borns:List Nat) (clock:Nat)|iter (b:Nat)|loop (b:Nat)
 deriving Inhabited
def RI.du :RI->Option Nat
 | .box b| .row b _ _ _| .map b _ _| .iter b| .loop b=>some b
 | .row0=>none
def Ob.live:Ob->Bool
 | .dead=>false
 |_=>true
def zeroV:CK->Value
 | .int k=>.int k 0
 | .bool=>.bool false
 | .str=>.string ⟨#[]⟩
 | .slice _=>.slice none 0 0
 | .ptr _=>.pointer none
 | .map _ _=>.map none
 | .fn=>.nilFunc
 | .iM=>.nilFunc
def iy:CK->PV
 | .int k=>.int k 0
 | .bool=>.bl false
 | .str=>.str []
 | .slice e=>.lst e (.list [])
 | .ptr _=>.nilp
 | .map _ _=>.nilm
 | .fn=>.nilf
 | .iM=>.undef
def Rp:Value->Value->Bool
 | .int _ a,.int _ b=>a==b
 | .bool a,.bool b=>a==b
 | .string a,.string b=>a.data.toList==b.data.toList
 |_,_=>false
def isScalar:CK->Value->Prop
 | .int k,v=>∃n,v= .int k n
 | .bool,v=>∃b,v= .bool b
 | .str,v=>∃s,v= .string s
 |_,_=>False
def vY:List Value->List Value->Bool
 |[],[]=>true
 |a::x,b::y=>bif Rp a b then vY x y else false
 |_,_=>false
def Fx(P:Program)(t:TypeId)(cd:List CK):Prop:=
 ∀(op:BinOp)(x y:Operand)(us vs:List Value)(w:World),(op= .eql\/op= .neq)->us.length=cd.length->vs.length=cd.length->
  (∀(j:Nat) c u,cd[j]? =some c->us[j]? =some u->isScalar c u)->(∀(j:Nat) c u,cd[j]? =some c->vs[j]? =some u->isScalar c u)->
  (do eqGuard op t x y (.agg ⟨us⟩) (.agg ⟨vs⟩);binOp op t (.agg ⟨us⟩) (.agg ⟨vs⟩):Sem Value).run P w= .ok (.bool (if op= .eql then vY us vs else !vY us vs)) w
def KeyLaw(P:Program)(t:TypeId)(cd:List CK):Prop:=
 (∃fs,P.underlying t=some (.struct fs))/\∀(us vs:List Value)(w:World),us.length=cd.length->vs.length=cd.length->
   (∀(j:Nat) c u,cd[j]? =some c->us[j]? =some u->isScalar c u)->(∀(j:Nat) c u,cd[j]? =some c->vs[j]? =some u->isScalar c u)->
   (Op.equal t (.agg ⟨us⟩) (.agg ⟨vs⟩)).run P w= .ok (vY us vs) w/\∀b,(Instr.checkKey b 10000 t (.agg ⟨us⟩)).run P w= .ok () w
structure kj (P:Program) (t:TypeId) (ti:TI):Prop where
 info:∃(i:TypeInfo) (z:Value) (d:TypeDesc),P.info? t=some i/\i.size=ti.cd.length/\i.bytes=ti.bytes/\i.zero=some z/\z.cells.toList=ti.cd.map zeroV/\
  ((ti.agg=true->∃cs,z= .agg cs)/\(ti.agg=false->z.cells= #[z]))/\P.underlying t=some d/\
  (match d with
   | .struct fields=>ti.agg=true/\(∀f:Nat,(fields[f]?).map (λ(x:Go.Field)=>(x.offset,x.type))=ti.fs[f]?)/\(∃pl,fields.toList.mapM (λ(f:Go.Field)=>(P.info? f.type).map λi=>(f.offset,i.size))=some pl)
   | .array n e=>ti.agg=true/\ti.ar=n+1/\ti.el=e/\ti.fs=[]
   | .slice e=>ti.agg=false/\ti.cd=[.slice e]/\ti.el=e/\ti.fs=[]
   | .int k=>ti.agg=false/\ti.cd=[.int k]/\ti.fs=[]
   | .bool=>ti.agg=false/\ti.cd=[.bool]/\ti.fs=[]
   | .string=>ti.agg=false/\ti.cd=[.str]/\ti.fs=[]
   | .pointer e=>ti.agg=false/\ti.cd=[.ptr e]/\ti.fs=[]
   | .map k e=>ti.agg=false/\ti.cd=[.map t e]/\ti.ar=k+1/\ti.el=e/\ti.fs=[]
   | .func _ _ _=>ti.agg=false/\ti.cd=[.fn]/\ti.fs=[]
   |_=>False)
 eqs:ti.Ao=true->ti.agg=true/\Fx P t ti.cd/\KeyLaw P t ti.cd
 arr:ti.agg=true->ti.ar≠0->∃n e,P.underlying t=some (.array n e)
def fp(P:Program)(tt:TypeId->Option TI):Prop:=∀t ti,tt t=some ti->kj P t ti
def bV(tt:TypeId->Option TI)(t:TypeId):List CK:=match tt t with|some ti=>ti.cd|none=>[]
abbrev ga:=Addr->Value->Prop
def Ov(x:MapEntry):Value:=.agg #[x.key,x.val,.int .i64 x.born]
def EY(es:Array MapEntry)(clock:Nat):Value:=.agg #[.int .i64 clock,.tuple (es.map Ov)]
def L1{x y:MapEntry}(h:Ov x=Ov y):x=y:=by cases x;cases y;simp[Ov]at h;obtain⟨h1,h2,h3⟩:=h;have h3:_:=AH h3;subst h1 h2 h3;rfl
def L0{es b:Array MapEntry}{c d:Nat}(h:EY es c=EY b d):es=b/\c=d:=by
 simp[EY]at h;obtain⟨h1,h2⟩:=h;refine⟨?_,AH h1⟩;apply O8
 ·have:=congrArg M0 h2;simpa using this
 ·intro i f e;have:=congrArg (λa:Array Value=>a[i]?) h2;simp[f,e]at this;exact L1 this
def pc(w:World)(ad:Addr):Option Value:=match w.heap[ad.block]? with
 |some (.cells c _ _)=>if ad.spot=some 1 then some (.int .i64 c.size)else if ad.spot.isSome then none else c[ad.off]?
 |some (.map es clock)=>if ad.spot=some 0 then some (EY es clock)else none
 |_=>none
def iu{w w':World}{ad:Addr}(h:w'.heap[ad.block]? =w.heap[ad.block]?):pc w' ad=pc w ad:=by unfold pc;rw[h]
def pY{w:World}{b o:Nat}:pc w ⟨b,o,none⟩=w.cell? ⟨b,o,none⟩:=by
 unfold pc World.cell?;cases w.heap[b]? with
 |none=>rfl
 |some x=>cases x<;>simp
def gF{w:World}{ad:Addr}{v:Value}(h:w.cell? ad=some v):pc w ad=some v:=by
 unfold pc;unfold World.cell? at h;cases a:w.heap[ad.block]? with
 |none=>rw[a]at h;simp at h
 |some x=>rw[a]at h;cases x<;>simp_all
def yT{w:World}{ad:Addr}{v:Value}(h:pc w ad=some v):ad.block<w.heap.size:=by
 rcases cb ad.block w.heap.size with a|a
 ·exact a
 ·unfold pc at h;rw[dJ a]at h;simp at h
def KR{w:World}{ad:Addr}{v:Value}{c:Array Value}{T:TypeId}{f:Nat×Nat}(h:pc w ad=some v)(hc:w.heap[ad.block]? =some (.cells c T f))(hs:ad.spot≠some 1):w.cell? ad=some v:=by unfold pc at h;unfold World.cell?;rw[hc]at h ⊢;simp only[if_neg hs]at h;exact h
def NL{w w':World}{ad:Addr}{v:Value}{c b:Array Value}{T e:TypeId}{f g:Nat×Nat}(h:pc w ad=some v)(hc:w.heap[ad.block]? =some (.cells c T f))(a:w'.heap[ad.block]? =some (.cells b e g))(d:b.size=c.size)(hs:ad.spot=some 1):pc w' ad=some v:=by unfold pc at h ⊢;rw[hc]at h;rw[a];simp only[if_pos hs]at h ⊢;rw[d];exact h
inductive RD (tt:TypeId->Option TI) (Pp:ga):CK->Value->D->Prop
 |int (k n):RD tt Pp (.int k) (.int k n) (.int n)
 |bool (b):RD tt Pp .bool (.bool b) (.bool b)
 |str (b:ByteArray):RD tt Pp .str (.string b) (.str b.data.toList)
 |slnil (e):RD tt Pp (.slice e) (.slice none 0 0) (.list [])
 |Fz (e) (ad:Addr):RD tt Pp (.slice e) (.slice (some ad) 0 0) (.list [])
 |sl (e:TypeId) (b o len cap:Nat) (rows:List (List D)) (vf:Nat->Nat->Value) (hl:rows.length=len) (hc:len<=cap)
  (ef:∀(i:Nat)(row:List D),rows[i]? =some row->row.length=(bV tt e).length)
  (iJ:∀i j,i<len->j<(bV tt e).length->Pp ⟨b,o+i*(bV tt e).length+j,none⟩ (vf i j))
  (iF:∀(i j:Nat)(row:List D)(d:D)(ck:CK),rows[i]? =some row->row[j]? =some d->(bV tt e)[j]? =some ck->RD tt Pp ck (vf i j) d):
  RD tt Pp (.slice e) (.slice (some ⟨b,o,none⟩) len cap) (.list rows)
 |Ah (t):RD tt Pp (.ptr t) (.pointer none) .nil
 |Cv (t e):RD tt Pp (.map t e) (.map none) .nil
 |I5 (t e:TypeId) (b:Nat) (es:Array MapEntry) (clock:Nat) (rows:List (List D)) (hl:es.toList.length=rows.length)
  (iJ:Pp ⟨b,0,some 0⟩ (EY es clock))
  (hk:∀(i:Nat)(x:MapEntry)(row:List D),es.toList[i]? =some x->rows[i]? =some row->∃(s:ByteArray) (vd:List D),x.key= .string s/\row= .str s.data.toList::vd/\vd.length=(bV tt e).length/\
    x.val.cells.toList.length=vd.length/\(∀ti,tt e=some ti->(ti.agg=true->∃cs,x.val= .agg cs)/\(ti.agg=false->x.val.cells= #[x.val])))
  (gV:(es.toList.map (·.born)).Nodup) (da:∀x,x∈es.toList.map (·.born)->x<clock)
  (iF:∀(i j:Nat)(x:MapEntry)(row:List D)(d:D)(ck:CK)(v:Value),es.toList[i]? =some x->rows[i]? =some row->row[j+1]? =some d->(bV tt e)[j]? =some ck->x.val.cells.toList[j]? =some v->RD tt Pp ck v d):
  RD tt Pp (.map t e) (.map (some b)) (.list rows)
 |LP:RD tt Pp .fn .nilFunc .nil
 |Oc:RD tt Pp .iM .nilFunc .nil
 |ptr (t:TypeId) (b o:Nat) (cs:List D) (vf:Nat->Value) (hl:cs.length=(bV tt t).length)
  (iJ:∀j,j<(bV tt t).length->Pp ⟨b,o+j,none⟩ (vf j))
  (iF:∀(j:Nat)(d:D)(ck:CK),cs[j]? =some d->(bV tt t)[j]? =some ck->RD tt Pp ck (vf j) d):
  RD tt Pp (.ptr t) (.pointer (some ⟨b,o,none⟩)) (.ptr cs)
def RD.mono{tt:TypeId->Option TI}{Pp Pp':ga}(h:∀a v,Pp a v->Pp' a v){ck:CK}{v:Value}{d:D}(hr:RD tt Pp ck v d):RD tt Pp' ck v d:=by
 induction hr with
 |int k n=>exact .int k n
 |bool b=>exact .bool b
 |str b=>exact .str b
 |slnil e=>exact .slnil e
 |Fz e ad=>exact .Fz e ad
 |sl e b o len cap rows vf hl hc ef iJ _ c=>exact .sl e b o len cap rows vf hl hc ef (λi j a b=>h _ _ (iJ i j a b)) c
 |Ah t=>exact .Ah t
 |Cv t e=>exact .Cv t e
 |I5 t e b es clock rows hl iJ hk gV da _ c=>exact .I5 t e b es clock rows hl (h _ _ iJ) hk gV da c
 |LP=>exact .LP
 |Oc=>exact .Oc
 |ptr t b o cs vf hl iJ _ c=>exact .ptr t b o cs vf hl (λj a=>h _ _ (iJ j a)) c
abbrev lR:Nat:=1000000
abbrev fY:Nat:=1000003
def qz(v:Value)(f:Nat)(vs:List Value):Prop:=(f<lR->v= .func (.func f) #[] ⟨vs⟩)/\(lR<=f->v= .func (.func (f-lR)) ⟨vs⟩ #[])
def ru(v:Value)(b o off n:Nat):Prop:=(off≠fY->v= .pointer (some ⟨b,o+off,none⟩))/\(off=fY->v= .slice (some ⟨b,o,none⟩) n n)
def yo(u:Value)(S:Nat)(i:Int)(off g o len cap:Nat):Prop:=
 (off≠fY->u= .pointer (some ⟨g,o+i.toNat*S+off,none⟩)/\i<len)/\
 (off=fY->(∃a,u= .slice (some ⟨g,a,none⟩) (len-i.toNat) (cap-i.toNat)/\(a=o+i.toNat*S\/len=i.toNat))/\i<=len)
section
variable (tt:TypeId->Option TI) (E:List RI) (Pp:ga)
mutual
inductive VR:Value->PV->Prop
 |undef (v):VR v .undef
 |int (k n):VR (.int k n) (.int k n)
 |bl (b):VR (.bool b) (.bl b)
 |bool (b):VR (.bool b) (.bool b)
 |str (b:ByteArray):VR (.string b) (.str b.data.toList)
 |lst (e v d) (h:RD tt Pp (.slice e) v d):VR v (.lst e d)
 |pe (e a n d) (h:RD tt Pp (.slice e) (.slice a n n) d):VR (.slice a n n) (.pe e d)
 |agg (vs cs) (h:fe vs cs):VR (.agg ⟨vs⟩) (.agg cs)
 |tup (vs cs) (h:fe vs cs):VR (.tuple ⟨vs⟩) (.tup cs)
 |box (b off gW) (h:E[b]? =some (.box gW)):VR (.pointer (some ⟨gW,off,none⟩)) (.box b off)
 |row0 (e r) (h:E[r]? =some .row0):VR (.slice none 0 0) (.row e r)
 |row (e r g o len cap) (h:E[r]? =some (.row g o len cap)):VR (.slice (some ⟨g,o,none⟩) len cap) (.row e r)
 |gp (u:Value) (e:TypeId) (r:Nat) (i:Int) (off g o len cap:Nat) (h:E[r]? =some (.row g o len cap)) (h0:0<=i) (h1:yo u (bV tt e).length i off g o len cap):
  VR u (.gp e r i off)
 |kF (e:TypeId) (d:D) (i:Int) (off b o len cap:Nat) (h:RD tt Pp (.slice e) (.slice (some ⟨b,o,none⟩) len cap) d) (h0:0<=i) (h1:i<len):
  VR (.pointer (some ⟨b,o+i.toNat*(bV tt e).length+off,none⟩)) (.kF e d i off)
 |cR (u vs cs off b o) (hu:ru u b o off vs.length) (h:fe vs cs) (iJ:∀(j:Nat) v,vs[j]? =some v->Pp ⟨b,o+j,none⟩ v):VR u (.cR cs off)
 |dptr (t v d) (h:RD tt Pp (.ptr t) v d):VR v (.dptr t d)
 |tO (t d off b o) (h:RD tt Pp (.ptr t) (.pointer (some ⟨b,o,none⟩)) d):VR (.pointer (some ⟨b,o+off,none⟩)) (.tO t d off)
 |cy (u f vs cs) (hu:qz u f vs) (h:fe vs cs):VR u (.cy f cs)
 |nilp:VR (.pointer none) .nilp
 |nilm:VR (.map none) .nilm
 |nF:VR (.slice none 0 0) .nF
 |nilf:VR .nilFunc .nilf
 |mp (m b bs cl) (h:E[m]? =some (.map b bs cl)):VR (.map (some b)) (.mp m)
 |dmp (t e v d) (h:RD tt Pp (.map t e) v d):VR v (.dmp e d)
 |it (i b) (h:E[i]? =some (.iter b)):VR (.pointer (some ⟨b,0,none⟩)) (.it i)
 |lS (i b) (h:E[i]? =some (.loop b)):VR (.func (.yield b) #[] #[]) (.lS i)
inductive fe:List Value->List PV->Prop
 |nil:fe [] []
 |cons (v p vs ps) (h:VR v p) (t:fe vs ps):fe (v::vs) (p::ps)
end
end
variable {E':List RI}{Pp':ga}{S:Nat}
def qz.mk{f:Nat}{vs:List Value}(h:jv f lR=true):qz (.func (.func f) #[] ⟨vs⟩) f vs:=⟨λ_=>rfl,λa=>by have:=eO h;omega⟩
def qz.get{v:Value}{f:Nat}{vs:List Value}(h:qz v f vs)(hf:jv f lR=true):v= .func (.func f) #[] ⟨vs⟩:=h.1 (eO hf)
def qz.fU{f:Nat}{vs:List Value}:qz (.func (.func f) ⟨vs⟩ #[]) (f+lR) vs:=⟨λa=>yO,λ_=>yS⟩
def qz.UU{v:Value}{f:Nat}{vs:List Value}(h:qz v f vs)(hf:jv f lR=false):v= .func (.func (f-lR)) ⟨vs⟩ #[]:=h.2 (by
 rcases cb f lR with a|a
 ·have:jv f lR=true:=decide_eq_true a;rw[this]at hf;cases hf
 ·exact a)
def yo.mk{g o a off len cap:Nat}{i:Int}(b:a=i.toNat)(h:nb off fY=false)(h1:i<len):yo (.pointer (some ⟨g,o+a*S+off,none⟩)) S i off g o len cap:=⟨λ_=>⟨by rw[b],h1⟩,λc=>by rw[c,lW]at h;cases h⟩
def yo.get{u:Value}{g o off len cap:Nat}{i:Int}(h:yo u S i off g o len cap)(hf:nb off fY=false):u= .pointer (some ⟨g,o+i.toNat*S+off,none⟩)/\i<len:=h.1 (λa=>by rw[a,lW]at hf;cases hf)
def yo.LK{u:Value}{g o len cap:Nat}{i:Int}(h:yo u S i fY g o len cap):(∃a,u= .slice (some ⟨g,a,none⟩) (len-i.toNat) (cap-i.toNat)/\(a=o+i.toNat*S\/len=i.toNat))/\i<=len:=h.2 rfl
def ru.mk{b o off n:Nat}(h:nb off fY=false):ru (.pointer (some ⟨b,o+off,none⟩)) b o off n:=⟨λ_=>rfl,λa=>by rw[a,lW]at h;cases h⟩
def ru.get{v:Value}{b o off n:Nat}(h:ru v b o off n)(hf:nb off fY=false):v= .pointer (some ⟨b,o+off,none⟩):=h.1 (λa=>by rw[a,lW]at hf;cases hf)
def ru.LK{v:Value}{b o n:Nat}(h:ru v b o fY n):v= .slice (some ⟨b,o,none⟩) n n:=h.2 rfl
def fe.length {tt E Pp vs ps} (h:fe tt E Pp vs ps):vs.length=ps.length:=by
 induction vs generalizing ps with
 |nil=>cases h;rfl
 |cons v vs a=>cases h with|cons _ _ _ _ _ t=>simp[a t]
def fe.get {tt E Pp vs ps} (h:fe tt E Pp vs ps) {j:Nat}{p:PV} (a:ps[j]? =some p):∃v,vs[j]? =some v/\VR tt E Pp v p:=by
 induction vs generalizing ps j with
 |nil=>cases h;simp at a
 |cons v vs c=>
  cases h with
  |cons _ q _ d b t=>
   cases j with
   |zero=>simp at a;subst a;exact⟨v,rfl,b⟩
   |succ j=>simp at a;simpa using c t a
def fe.append {tt E Pp vs ps us a} (h:fe tt E Pp vs ps) (k:fe tt E Pp us a):fe tt E Pp (vs++us) (ps++a):=by
 induction vs generalizing ps with
 |nil=>cases h;simpa
 |cons v vs b=>cases h with|cons _ _ _ _ c t=>exact .cons _ _ _ _ c (b t)
def fe.drop {tt E Pp vs ps} (h:fe tt E Pp vs ps) (n:Nat):fe tt E Pp (vs.drop n) (ps.drop n):=by
 induction n generalizing vs ps with
 |zero=>simpa
 |succ n a=>cases h with
  |nil=>exact .nil
  |cons _ _ _ _ _ t=>simpa using a t
def fe.take {tt E Pp vs ps} (h:fe tt E Pp vs ps) (n:Nat):fe tt E Pp (vs.take n) (ps.take n):=by
 induction n generalizing vs ps with
 |zero=>simp;exact .nil
 |succ n a=>cases h with
  |nil=>exact .nil
  |cons _ _ _ _ b t=>simpa using .cons _ _ _ _ b (a t)
def fe.oE {tt E Pp}:∀{vs:List Value}{ps:List PV},vs.length=ps.length->(∀(j:Nat) v p,vs[j]? =some v->ps[j]? =some p->VR tt E Pp v p)->fe tt E Pp vs ps
 |[],[],_,_=>.nil
 |v::vs,p::ps,hl,h=>.cons _ _ _ _ (h 0 v p rfl rfl) (fe.oE (yU hl) (λj v p a b=>h (j+1) v p (yU a) (yU b)))
 |[],_::_,hl,_=>yE hl
 |_::_,[],hl,_=>yE hl
def qA(E E':List RI):Prop:=∀(i:Nat) x,E[i]? =some x->E'[i]? =some x\/∃b n c n' a,x= .map b n c/\E'[i]? =some (.map b n' a)
def qA.of{E:List RI}(h:∀(i:Nat) x,E[i]? =some x->E'[i]? =some x):qA E E':=λi x a=>.inl (h i x a)
def qA.refl(E:List RI):qA E E:=.of λ_ _ h=>h
def qA.trans{E E2:List RI}(h:qA E E')(k:qA E' E2):qA E E2:=by
 intro i x a;rcases h i x a with h1|⟨b,n,c,n',d,rfl,h1⟩
 ·exact k i x h1
 ·rcases k i _ h1 with h2|⟨b2,f,c2,n3,c3,e,h2⟩
  ·exact .inr ⟨b,n,c,n',d,rfl,h2⟩
  ·cases e;exact .inr ⟨b,n,c,n3,c3,rfl,h2⟩
def qA.box{E:List RI}(h:qA E E'){i b:Nat}(a:E[i]? =some (.box b)):E'[i]? =some (.box b):=by
 rcases h i _ a with h|⟨_,_,_,_,_,h,_⟩
 ·exact h
 ·cases h
def qA.row0{E:List RI}(h:qA E E'){i:Nat}(a:E[i]? =some .row0):E'[i]? =some .row0:=by
 rcases h i _ a with h|⟨_,_,_,_,_,h,_⟩
 ·exact h
 ·cases h
def qA.row{E:List RI}(h:qA E E'){i g o l c:Nat}(a:E[i]? =some (.row g o l c)):E'[i]? =some (.row g o l c):=by
 rcases h i _ a with h|⟨_,_,_,_,_,h,_⟩
 ·exact h
 ·cases h
def qA.iter{E:List RI}(h:qA E E'){i b:Nat}(a:E[i]? =some (.iter b)):E'[i]? =some (.iter b):=by
 rcases h i _ a with h|⟨_,_,_,_,_,h,_⟩
 ·exact h
 ·cases h
def qA.loop{E:List RI}(h:qA E E'){i b:Nat}(a:E[i]? =some (.loop b)):E'[i]? =some (.loop b):=by
 rcases h i _ a with h|⟨_,_,_,_,_,h,_⟩
 ·exact h
 ·cases h
def qA.map{E:List RI}(h:qA E E'){i b:Nat}{n:List Nat}{c:Nat}(a:E[i]? =some (.map b n c)):∃n' e,E'[i]? =some (.map b n' e):=by
 rcases h i _ a with h|⟨_,_,_,_,_,h,d⟩
 ·exact⟨_,_,h⟩
 ·cases h;exact⟨_,_,d⟩
def VR.jE{tt:TypeId->Option TI}{E:List RI}{Pp:ga}(d:qA E E')(h:∀a v,Pp a v->Pp' a v):
 (∀{v p},VR tt E Pp v p->VR tt E' Pp' v p)/\(∀{vs ps},fe tt E Pp vs ps->fe tt E' Pp' vs ps):=by
 have key:∀n:Nat,(∀{v:Value}{p:PV},pI p<=n->VR tt E Pp v p->VR tt E' Pp' v p)/\(∀{vs:List Value}{ps:List PV},pI ps<=n->fe tt E Pp vs ps->fe tt E' Pp' vs ps):=by
  intro n;induction n with
  |zero=>
   refine⟨λ{v p} hs _=>?_,λ{vs ps} hs _=>?_⟩
   ·cases p<;>simp at hs<;>omega
   ·cases ps<;>simp at hs<;>omega
  |succ n e=>
   refine⟨λ{v p} hs c=>?_,λ{vs ps} hs c=>?_⟩
   ·cases c with
    |undef=>exact .undef _
    |int=>exact .int _ _
    |bl=>exact .bl _
    |bool=>exact .bool _
    |str=>exact .str _
    |lst _ _ _ hr=>exact .lst _ _ _ (hr.mono h)
    |pe _ _ _ _ hr=>exact .pe _ _ _ _ (hr.mono h)
    |agg vs cs hl=>simp at hs;exact .agg _ _ (e.2 yO hl)
    |tup vs cs hl=>simp at hs;exact .tup _ _ (e.2 yO hl)
    |box _ _ _ hb=>exact .box _ _ _ (d.box hb)
    |row0 _ _ hb=>exact .row0 _ _ (d.row0 hb)
    |row _ _ _ _ _ _ hb=>exact .row _ _ _ _ _ _ (d.row hb)
    |gp _ _ _ _ _ _ _ _ _ hb h0 h1=>exact .gp _ _ _ _ _ _ _ _ _ (d.row hb) h0 h1
    |kF _ _ _ _ _ _ _ _ hr h0 h1=>exact .kF _ _ _ _ _ _ _ _ (hr.mono h) h0 h1
    |cR u vs cs off b o hu hl iJ=>simp at hs;exact .cR _ _ _ _ _ _ hu (e.2 yO hl) (λj v i=>h _ _ (iJ j v i))
    |dptr _ _ _ hr=>exact .dptr _ _ _ (hr.mono h)
    |tO _ _ _ _ _ hr=>exact .tO _ _ _ _ _ (hr.mono h)
    |cy u f vs cs hu hl=>simp at hs;exact .cy _ _ _ _ hu (e.2 yO hl)
    |nilp=>exact .nilp
    |nilm=>exact .nilm
    |nF=>exact .nF
    |nilf=>exact .nilf
    |mp _ _ _ _ hb=>obtain⟨_,_,g⟩:=d.map hb;exact .mp _ _ _ _ g
    |dmp _ _ _ _ hr=>exact .dmp _ _ _ _ (hr.mono h)
    |it _ _ hb=>exact .it _ _ (d.iter hb)
    |lS _ _ hb=>exact .lS _ _ (d.loop hb)
   ·cases c with
    |nil=>exact .nil
    |cons _ _ _ _ c k=>simp at hs;exact .cons _ _ _ _ (e.1 yO c) (e.2 yO k)
 exact⟨λ{v p} c=>(key _).1 (ca _) c,λ{vs ps} c=>(key _).2 (ca _) c⟩
def VR.mono{tt:TypeId->Option TI}{E:List RI}{Pp:ga}(b:∀(i:Nat) x,E[i]? =some x->E'[i]? =some x)(h:∀a v,Pp a v->Pp' a v) {v p} (c:VR tt E Pp v p):VR tt E' Pp' v p:=(VR.jE (qA.of b) h).1 c
def fe.mono{tt:TypeId->Option TI}{E:List RI}{Pp:ga}(b:∀(i:Nat) x,E[i]? =some x->E'[i]? =some x)(h:∀a v,Pp a v->Pp' a v) {v p} (c:fe tt E Pp v p):fe tt E' Pp' v p:=(VR.jE (qA.of b) h).2 c
def OV(Pp:ga)(b:Nat):Prop:=∀ad v,Pp ad v->ad.block≠b
def xr(tt:TypeId->Option TI)(Pp:ga)(e:TypeId)(vs:List Value)(o:Nat)(rows:List (List D)):Prop:=
 ∀(i:Nat)(row:List D),rows[i]? =some row->row.length=(bV tt e).length/\
  ∀(j:Nat)(d:D)(ck:CK),row[j]? =some d->(bV tt e)[j]? =some ck->∃v,vs[o+i*(bV tt e).length+j]? =some v/\RD tt Pp ck v d
def KD(tt:TypeId->Option TI)(Pp:ga)(kc:CK)(v:Value)(d:D):Prop:=(kc≠ .iM/\RD tt Pp kc v d)\/(kc= .iM/\∃a b:ByteArray,v= .agg ⟨[.string a,.string b]⟩/\d= .ptr [.str a.data.toList,.str b.data.toList])
def KD.mono{tt:TypeId->Option TI}{Pp:ga}(h:∀a v,Pp a v->Pp' a v){ck:CK}{v:Value}{d:D}(hr:KD tt Pp ck v d):KD tt Pp' ck v d:=hr.imp (And.imp id (RD.mono h)) id
def vJ(tt:TypeId->Option TI)(Pp:ga)(kc:CK)(e:TypeId)(x:MapEntry)(row:List D):Prop:=
 ∃(kd:D) (vd:List D),row=kd::vd/\KD tt Pp kc x.key kd/\vd.length=(bV tt e).length/\x.val.cells.toList.length=vd.length/\
  (∀(j:Nat)(d:D)(ck:CK)(v:Value),vd[j]? =some d->(bV tt e)[j]? =some ck->x.val.cells.toList[j]? =some v->RD tt Pp ck v d)/\
  (∀ti,tt e=some ti->(ti.agg=true->∃cs,x.val= .agg cs)/\(ti.agg=false->x.val.cells= #[x.val]))
structure Fv (tt:TypeId->Option TI) (Pp:ga) (e:TypeId) (b:Nat) (es:Array MapEntry) (clock:Nat) (rows:List (List D)):Prop where
 iJ:Pp ⟨b,0,some 0⟩ (EY es clock)
 len:es.toList.length=rows.length
 Px:∀(i:Nat)(x:MapEntry)(row:List D),es.toList[i]? =some x->rows[i]? =some row->vJ tt Pp .str e x row
 nd:(es.toList.map (·.born)).Nodup
 lt:∀x,x∈es.toList.map (·.born)->x<clock
def Fv.mono{tt:TypeId->Option TI}{Pp:ga}(h:∀a v,Pp a v->Pp' a v){e:TypeId}{b:Nat}{es:Array MapEntry}{clock:Nat}{rows:List (List D)}(m:Fv tt Pp e b es clock rows):Fv tt Pp' e b es clock rows:=by refine⟨h _ _ m.iJ,m.len,λi x row h1 h2=>?_,m.nd,m.lt⟩;obtain⟨kd,vd,e1,e2,e3,e4,e5,e6⟩:=m.Px i x row h1 h2;exact⟨kd,vd,e1,e2.mono h,e3,e4,λj d ck v a b c=>(e5 j d ck v a b c).mono h,e6⟩
def RD.sr{tt:TypeId->Option TI}{Pp:ga}{t e:TypeId}{v:Value}{d:D}(h:RD tt Pp (.map t e) v d):
 (v= .map none/\d= .nil)\/∃b es clock rows,v= .map (some b)/\d= .list rows/\Fv tt Pp e b es clock rows:=by
 cases h with
 |Cv=>exact .inl ⟨rfl,rfl⟩
 |I5 _ _ b es clock rows hl iJ hk gV da iF=>refine .inr ⟨b,es,clock,rows,rfl,rfl,iJ,hl,λi x row h1 h2=>?_,gV,da⟩;obtain⟨s,vd,e1,e2,e3,e4,e5⟩:=hk i x row h1 h2;refine⟨_,vd,e2,.inl ⟨yS,by rw[e1];exact .str s⟩,e3,e4,λj d ck v a b c=>iF i j x row d ck v h1 h2 (by rw[e2];simpa using a) b c,e5⟩
def Fv.rd{tt:TypeId->Option TI}{Pp:ga}{e:TypeId}{b:Nat}{es:Array MapEntry}{clock:Nat}{rows:List (List D)}(m:Fv tt Pp e b es clock rows)(t:TypeId):RD tt Pp (.map t e) (.map (some b)) (.list rows):=by
 refine .I5 t e b es clock rows m.len m.iJ (λi x row h1 h2=>?_) m.nd m.lt (λi j x row d ck v h1 h2 h3 h4 h5=>?_)
 ·obtain⟨kd,vd,e1,e2,e3,e4,_,e6⟩:=m.Px i x row h1 h2;rcases e2 with⟨_,e2⟩|⟨e2,_⟩
  ·generalize a:x.key=c at e2;cases e2 with
   |str s=>exact⟨s,vd,rfl,e1,e3,e4,e6⟩
  ·cases e2
 ·obtain⟨kd,vd,e1,_,_,_,e5,_⟩:=m.Px i x row h1 h2;exact e5 j d ck v (by rw[e1]at h3;simpa using h3) h4 h5
def Cs{w:World}{b:Nat}{es:Array MapEntry}{clock:Nat}(h:pc w ⟨b,0,some 0⟩=some (EY es clock)):w.heap[b]? =some (.map es clock):=by
 unfold pc at h;cases d:w.heap[b]? with
 |none=>simp only[d]at h;cases h
 |some x=>
  simp only[d]at h;cases x with
  |map e a=>simp at h;obtain⟨h1,h2⟩:=L0 h;rw[h1,h2]
  |cells c _ _=>simp at h
  |_=>simp at h
def Tw(j:LS)(s:LoopState)(p:Option Code):Prop:=match j with| .ready=>s= .ready/\p=none| .busy=>s= .busy| .done c=>s= .done/\p=some c
def PD(j:LS)(s:LoopState):Prop:=match j with| .ready=>s= .ready| .busy=>s= .busy| .done _=>False
structure QZ (n:Nat) (ps:List Nat) (c1 c2:Code) (j:LS) (r:Loop):Prop where
 size:r.tmps.size=n
 params:r.params.toList=ps
 assign:r.assign=c1
 body:r.body=c2
 state:Tw j r.state r.pending
def pW:PV->Bool
 | .nilp=>true
 | .box _ _=>true
 |_=>false
def oo:List PV->Bool
 |[p,_]=>pW p
 |_=>false
def tf(tt:TypeId->Option TI)(T:TypeId)(cs:List PV):Prop:=oo cs=true->∃ti,tt T=some ti/\ti.BL=true
def OR(tt:TypeId->Option TI)(E:List RI)(Pp:ga)(w:World):RI->Ob->Prop
 | .box b,.box cs=>∃(vs:List Value) (T:TypeId),w.heap[b]? =some (.cells ⟨vs⟩ T (0,0))/\fe tt E Pp vs cs/\OV Pp b/\tf tt T cs
 | .row0,.row _ d _=>d= .list []
 | .row g o len cap,.row e d wr=>∃(vs:List Value) (_:TypeId) (rows:List (List D)),w.heap[g]? =some (.cells ⟨vs⟩ e (0,0))/\d= .list rows/\rows.length=len/\len<=cap/\o+cap*(bV tt e).length<=vs.length/\
  xr tt Pp e vs o rows/\(wr=true->OV Pp g)/\
  (wr=false->(∀(i j:Nat)(v:Value),i<len->j<(bV tt e).length->vs[o+i*(bV tt e).length+j]? =some v->Pp ⟨g,o+i*(bV tt e).length+j,none⟩ v)/\
    ∀ad v,Pp ad v->ad.block=g->cap=0\/ad.off<o+len*(bV tt e).length)
 | .map b borns clock,.map kc e d=>∃(es:Array MapEntry) (rows:List (List D)),w.heap[b]? =some (.map es clock)/\d= .list rows/\es.toList.length=rows.length/\
  (∀(i:Nat)(x:MapEntry)(row:List D),es.toList[i]? =some x->rows[i]? =some row->vJ tt Pp kc e x row)/\
  es.toList.map (·.born)=borns/\borns.Nodup/\(∀x,x∈borns->x<clock)/\OV Pp b
 | .iter b,.iter m seen=>∃(c:Nat) (borns:List Nat) (clock:Nat) (a:List Nat),E[m]? =some (.map c borns clock)/\w.heap[b]? =some (.mapIter (some c) clock ⟨a.map (λ(j:Nat)=>borns.getD j 0)⟩ clock)/\
  seen= .list (a.map λ(j:Nat)=>[D.int (j:Int)])/\∀j,j∈a->j<borns.length
 | .iter b,.diter e d seen=>∃(a:List Nat),seen= .list (a.map λ(j:Nat)=>[D.int (j:Int)])/\
  ((d= .nil/\a=[]/\∃n f m,w.heap[b]? =some (.mapIter none n f m))\/
    ∃(c:Nat) (es:Array MapEntry) (clock:Nat) (rows:List (List D)),d= .list rows/\Fv tt Pp e c es clock rows/\
     w.heap[b]? =some (.mapIter (some c) clock ⟨a.map (λ(j:Nat)=>(es.toList.map (·.born)).getD j 0)⟩ clock)/\∀j,j∈a->j<rows.length)
 | .loop b,.loop n ps c1 c2 s j=>∃r:Loop,w.heap[b]? =some (.loop r)/\QZ n ps c1 c2 j r/\∀t,VR tt E Pp (r.tmps.getD t undef) (look s t)
 |_,_=>False
def wC(tt:TypeId->Option TI):Option Nat:=match tt 3 with|some ti=>ti.Sp|none=>none
def wB(tt:TypeId->Option TI):List (Nat×IntKind×List Int):=match tt 3 with|some ti=>ti.Sn|none=>[]
def QY(Pp:ga)(g:Nat×IntKind×List Int):Prop:=Pp ⟨g.1,0,some 1⟩ (.int .i64 g.2.2.length)/\∀i z,g.2.2[i]? =some z->Pp ⟨g.1,i,none⟩ (.int g.2.1 z)
def ML(tt:TypeId->Option TI)(Pp:ga):Prop:=(∀b,wC tt=some b->∃m:Int,Pp ⟨b,0,none⟩ (.int .i64 m))/\∀g,g∈wB tt->QY Pp g
def ML.mono{tt:TypeId->Option TI}{Pp:ga}(h:ML tt Pp)(a:∀ad v,Pp ad v->Pp' ad v):ML tt Pp':=⟨λb hb=>(h.1 b hb).imp λ_ d=>a _ _ d,λg c=>⟨a _ _ (h.2 g c).1,λi z e=>a _ _ ((h.2 g c).2 i z e)⟩⟩
structure WR (tt:TypeId->Option TI) (E:List RI) (Pp:ga) (objs:List Ob) (w:World):Prop where
 len:E.length=objs.length
 pi:∀ad v,Pp ad v->pc w ad=some v
 ob:∀(i:Nat) o,objs[i]? =some o->o.live=true->∃ri,E[i]? =some ri/\OR tt E Pp w ri o
 sep:∀(i j:Nat) oi oj ri rj b,objs[i]? =some oi->objs[j]? =some oj->oi.live=true->oj.live=true->E[i]? =some ri->E[j]? =some rj->
  ri.du =some b->rj.du =some b->i=j
 gl:ML tt Pp
def WR.Ru{tt:TypeId->Option TI}{E:List RI}{Pp:ga}{objs:List Ob}{w:World}(h:WR tt E Pp objs w)(a:∀ad v,Pp ad v->Pp' ad v):ML tt Pp':=h.gl.mono a
def WR.Ph{tt:TypeId->Option TI}{E:List RI}{Pp:ga}{objs:List Ob}{w:World}(h:WR tt E Pp objs w){b o:Nat}{v:Value}(a:Pp ⟨b,o,none⟩ v):w.cell? ⟨b,o,none⟩=some v:=by rw[<- pY];exact h.pi _ _ a
def own(E:List RI)(objs:List Ob)(b:Nat):Prop:=∃(i:Nat) (o:Ob) (ri:RI),objs[i]? =some o/\o.live=true/\E[i]? =some ri/\ri.du =some b
structure Fr (own:Nat->Prop) (w0 w:World):Prop where
 os:w.os=w0.os
 tape:w.tape=w0.tape
 output:w.output=w0.output
 size:w0.heap.size<=w.heap.size
 drawn:w0.drawn<=w.drawn
 block:∀k,k<w0.heap.size->¬own k->w.heap[k]? =w0.heap[k]?
def Fr.refl(own:Nat->Prop)(w:World):Fr own w w:=⟨rfl,rfl,rfl,ca _,ca _,λ_ _ _=>rfl⟩
def Fr.trans{e f:Nat->Prop}{a b c:World}(h:Fr e a b)(k:Fr f b c)(i:∀x,x<a.heap.size->f x->e x):Fr e a c:=⟨k.os.trans h.os,k.tape.trans h.tape,k.output.trans h.output,bR h.size k.size,bR h.drawn k.drawn,λx d g=>(k.block x (Nat.lt_of_lt_of_le d h.size) (λh2=>g (i x d h2))).trans (h.block x d g)⟩
end
section
structure qC where
 asInt:D->Int
 asBool:D->Bool
 bL:D->List UInt8
 len:D->Int
 cell:D->Int->Nat->D
 rA:D->Nat->D
 isNil:D->Bool
 add:Int->Int->Int
 sub:Int->Int->Int
 mul:Int->Int->Int
 quo:Int->Int->Int
 rem:Int->Int->Int
 wrap:IntKind->Int->Int
 eq:Int->Int->Bool
 lt:Int->Int->Bool
 le:Int->Int->Bool
 not:Bool->Bool
 ite:Bool->Bool->Bool->Bool
 beq:Bool->Bool->Bool
 seq:List UInt8->List UInt8->Bool
 slt:List UInt8->List UInt8->Bool
 dz:List UInt8->Int
 sO:List UInt8->List UInt8->List UInt8
 RX:List UInt8->Int->Int->List UInt8
 iZ:List UInt8->Int->Int
 max:Int->Int->Int
 min:Int->Int->Int
 lit:List (List D)->D
 app:D->D->D
 part:D->Int->Int->D
 o4:D->Int->Nat->List D->D
 inr:IntKind->Int->Prop
 idx:Int->Int->Prop
 fU:Int->Int->Prop
 UH:Int->Prop
 same:Int->Int->Prop
 pb:D->D->Bool
 fI:D->D->Nat->D
 p6:D->D->List D->D
 Gn:D->D->D
 qm:D->D->Prop
 tu:D->D->Int->Prop
 oC:D->Int->D
 last:D->Int
 UF:Int->List D->D
 XF:List Int->Int->Int
 Ar:D->List UInt8
 Nr:List UInt8->D
def Mj:List D->Int
 | .int n::_=>n
 |_=>0
def cp:D->List (List D)
 | .list r=>r
 |_=>[]
def R2:D->List D
 | .ptr r=>r
 |_=>[]
def oh:D->D->Bool
 | .int a,.int b=>a==b
 | .str a,.str b=>a==b
 | .bool a,.bool b=>a==b
 | .ptr [.str a,.str b],.ptr [.str c,.str d]=>a==c&&b==d
 |_,_=>false
def fa(k:D)(row:List D):Bool:=match row with|a::_=>oh k a|[]=>false
def jr(k:D)(vs:List D):List (List D)->List (List D)
 |[]=>[k::vs]
 |row::r=>if fa k row then(k::vs)::r else row::jr k vs r
@[reducible] def ec:qC where
 asInt d:=match d with| .int n=>n|_=>0
 asBool d:=match d with| .bool b=>b|_=>false
 bL d:=match d with| .str s=>s|_=>[]
 len d:=((cp d).length:Int)
 cell d i j:=((cp d).getD i.toNat []).getD j .nil
 rA d j:=(R2 d).getD j .nil
 isNil d:=match d with| .ptr _=>false|_=>true
 add a b:=a+b
 sub a b:=a-b
 mul a b:=a*b
 quo a b:=a.tdiv b
 rem a b:=a.tmod b
 wrap k a:=k.wrap a
 eq a b:=a==b
 lt a b:=decide (a<b)
 le a b:=decide (a<=b)
 not b:= !b
 ite c a b:=bif c then a else b
 beq a b:=a==b
 seq a b:=a==b
 slt a b:=Op.bytesLess a b
 dz s:=(s.length:Int)
 sO a b:=a++b
 RX s lo hi:=(s.drop lo.toNat).take (hi.toNat-lo.toNat)
 iZ s i:=((s.getD i.toNat 0).toNat:Int)
 max a b:=if b>a then b else a
 min a b:=if b<a then b else a
 lit l:=.list l
 app a b:=.list (cp a++cp b)
 part d lo hi:=.list (((cp d).drop lo.toNat).take (hi.toNat-lo.toNat))
 o4 d i off vs:=.list ((cp d).modify i.toNat λrow=>row.take off++vs++row.drop (off+vs.length))
 inr k n:=k.min<=n/\n<=k.max
 idx i n:=0<=i/\i<n
 fU a b:=0<=a/\a<=b
 UH a:=a≠0
 same a b:=a=b
 pb m k:=(cp m).any (fa k)
 fI m k j:=(((cp m).find? (fa k)).getD []).getD (j+1) .nil
 p6 m k vs:=.list (jr k vs (cp m))
 Gn m k:=.list ((cp m).eraseP (fa k))
 qm m s:=∀j:Nat,j<(cp m).length->[.int (j:Int)]∈cp s
 tu m s i:=0<=i/\i<((cp m).length:Int)/\[.int i]∉cp s
 oC s i:=.list (cp s++[[.int i]])
 UF n row:=.list (Di n.toNat row)
 XF l i:=l.getD i.toNat 0
 Ar d:=(cp d).map λr=>mW (Mj r).toNat
 Nr s:=.list (s.map λb=>[.int (b.toNat:Int)])
 last s:=match (cp s).getLast? with|some [.int i]=>i|_=>0
def KV:Value->PV
 | .int k n=>.int k n
 | .bool b=>.bl b
 | .string s=>.str s.data.toList
 | .pointer none=>.nilp
 | .map none=>.nilm
 | .nilFunc=>.nilf
 |_=>.undef
def mz:Operand->Bool
 | .const (.slice none 0 0)=>true
 |_=>false
def norm:PV->PV
 | .pe e d=>.lst e d
 |p=>p
def ev(s:dS):Operand->PV
 | .tmp t=>norm (look s t)
 | .const v=>KV v
 | .global _=>.undef
 | .func f=>bif jv f lR then .cy f []else .undef
def QB(tt:TypeId->Option TI)(s:dS)(t:TypeId)(x:Operand):PV:=
 match x with
 | .const (.slice none 0 0)=>match tt t with|some ti=>.pe ti.el (.list [])|none=>.undef
 | .tmp t=>look s t
 |x=>ev s x
def gj(tt:TypeId->Option TI)(s:dS)(t:TypeId)(x:Operand):PV:=
 match x with
 | .const (.slice none 0 0)=>match tt t with|some ti=>.lst ti.el (.list [])|none=>.undef
 |x=>ev s x
def cv{α:Type}:List α->Nat|[]=>0|_::l=>cv l+1
def cX{α:Type}(l:List α):cv l=l.length:=by induction l<;>simp[cv, *]
def eT:List Ob->Nat->Ob
 |[],_=>.dead|x::_,0=>x|_::xs,n+1=>eT xs n
def sA(l:List Ob)(n:Nat):eT l n=l.getD n .dead:=by
 induction l generalizing n with
 |nil=>simp[eT]
 |cons x xs a=>cases n<;>simp[eT,a]
def qV:Nat->List PV->List PV
 |0,_=>[]|_,[]=>[]|n+1,x::xs=>x::qV n xs
def uo(n:Nat)(l:List PV):qV n l=l.take n:=by
 induction n generalizing l with
 |zero=>simp[qV]
 |succ n a=>cases l<;>simp[qV,a]
def xm:Nat->List PV->List PV
 |0,l=>l|_,[]=>[]|n+1,_::xs=>xm n xs
def zN(n:Nat)(l:List PV):xm n l=l.drop n:=by
 induction n generalizing l with
 |zero=>simp[xm]
 |succ n a=>cases l<;>simp[xm,a]
def wE:List (Nat×TypeId)->Nat->Option (Nat×TypeId)
 |[],_=>none|x::_,0=>some x|_::xs,n+1=>wE xs n
def Oh(l:List (Nat×TypeId))(n:Nat):wE l n=l[n]? :=by
 induction l generalizing n with
 |nil=>simp[wE]
 |cons x xs a=>cases n<;>simp[wE,a]
def GF:List PV->Nat->PV
 |[],_=>.undef|x::_,0=>x|_::xs,n+1=>GF xs n
def H5(l:List PV)(n:Nat):GF l n=l.getD n .undef:=by
 induction l generalizing n with
 |nil=>simp[GF]
 |cons x xs a=>cases n<;>simp[GF,a]
def oB:List PV->Nat->List PV->List PV
 |xs,_,[]=>xs
 |[],_,_=>[]
 |_::xs,0,y::ys=>y::oB xs 0 ys
 |x::xs,n+1,y::ys=>x::oB xs n (y::ys)
def flat:PV->List PV| .agg cs=>cs| .undef=>[]|v=>[v]
def fg(ti:TI)(l:List PV):PV:=bif ti.agg then .agg l else match l with|[x]=>x|_=>.undef
section
variable (A:qC) (tt:TypeId->Option TI)
def tQ(c:CK)(d:D):PV:=match c with
 | .int k=>.int k (A.asInt d)| .bool=>.bool (A.asBool d)| .str=>.str (A.bL d)| .slice e=>.lst e d| .ptr t=>.dptr t d
 | .map _ e=>.dmp e d| .fn=>.undef
 | .iM=>.undef
def mR(c:CK)(d:D):PV:=match c with
 | .iM=>.agg [.str (A.bL (A.rA d 0)),.str (A.bL (A.rA d 1))]
 |c=>tQ A c d
def rH(g:Nat->D):Nat->List CK->List PV
 |_,[]=>[]
 |j,c::cs=>tQ A c (g j)::rH g (j+1) cs
def ko(d:D)(i:Int)(j:Nat)(cs:List CK):List PV:=rH A (A.cell d i) j cs
def yN(d:D)(j:Nat)(cs:List CK):List PV:=rH A (A.rA d) j cs
def iN(m k:D)(j:Nat)(cs:List CK):List PV:=rH A (A.fI m k) j cs
def eJ(ti:TI):Option TypeId:=match ti.agg,ti.cd with|false,[.slice e]=>some e|_,_=>none
def isStr(ti:TI):Bool:=match ti.agg,ti.cd with|false,[.str]=>true|_,_=>false
def isMap(ti:TI):Bool:=match ti.agg,ti.cd with|false,[.map _ _]=>true|_,_=>false
def qa(ti:TI):Option IntKind:=match ti.agg,ti.cd with|false,[.int k]=>some k|_,_=>none
def Jy:List CK->List CK->Bool
 |[],[]=>true
 |a::x,b::y=>(decide (a=b))&&Jy x y
 |_,_=>false
def DD:Nat->List CK->List CK
 |0,_=>[]|_,[]=>[]|n+1,x::xs=>x::DD n xs
def E6:Nat->List CK->List CK
 |0,l=>l|_,[]=>[]|n+1,_::xs=>E6 n xs
def iI(e:TypeId)(off:Nat)(cs:List CK):Bool:=Jy (DD (cv cs) (E6 off (bV tt e))) cs
def Ya:PV->Option D
 | .int _ n=>some (.int n)| .bl b=>some (.bool b)| .bool b=>some (.bool b)| .str s=>some (.str s)| .lst _ d=>some d
 | .dptr _ d=>some d| .nilp=>some .nil| .nilm=>some .nil| .nilf=>some .nil| .dmp _ d=>some d|_=>none
def Mn(op:BinOp)(eq:Bool)(K:PV->Prop):Prop:=match op with
 | .eql=>K (.bool eq)
 | .neq=>K (.bool (A.not eq))
 |_=>False
def QV(op:BinOp)(eq:Bool)(K:PV->Prop):Prop:=match op,eq with
 | .eql,true=>K (.bl true)
 | .eql,false=>K (.bl false)
 | .neq,true=>K (.bl false)
 | .neq,false=>K (.bl true)
 |_,_=>False
def isBool(ti:TI):Bool:=match ti.agg,ti.cd with|false,[.bool]=>true|_,_=>false
def sH(o:Option TI)(op:BinOp)(b:Bool)(K:PV->Prop):Prop:=match o with
 |some ti=>bif isBool ti then Mn A op b K else False
 |none=>False
def QW(op:BinOp)(k:IntKind)(a b:Int)(K:PV->Prop):Prop:=match op with
 | .add=>(A.inr k (A.add a b)/\(True->K (.int k (A.add a b))))\/(True->K (.int k (A.wrap k (A.add a b))))
 | .sub=>(A.inr k (A.sub a b)/\(True->K (.int k (A.sub a b))))\/(True->K (.int k (A.wrap k (A.sub a b))))
 | .mul=>(A.inr k (A.mul a b)/\(True->K (.int k (A.mul a b))))\/(True->K (.int k (A.wrap k (A.mul a b))))
 | .quo=>A.UH b/\A.inr k (A.quo a b)/\K (.int k (A.quo a b))
 | .rem=>A.UH b/\K (.int k (A.rem a b))
 | .eql=>K (.bool (A.eq a b))
 | .neq=>K (.bool (A.not (A.eq a b)))
 | .lss=>K (.bool (A.lt a b))
 | .leq=>K (.bool (A.le a b))
 | .gtr=>K (.bool (A.lt b a))
 | .geq=>K (.bool (A.le b a))
 |_=>False
def QU(op:BinOp)(a b:List UInt8)(K:PV->Prop):Prop:=match op with
 | .eql=>K (.bool (A.seq a b))
 | .neq=>K (.bool (A.not (A.seq a b)))
 | .lss=>K (.bool (A.slt a b))
 | .gtr=>K (.bool (A.slt b a))
 | .leq=>K (.bool (A.not (A.slt b a)))
 | .geq=>K (.bool (A.not (A.slt a b)))
 | .add=>A.inr .i64 (A.add (A.dz a) (A.dz b))/\K (.str (A.sO a b))
 |_=>False
def s7(ti:TI):Bool:=match ti.agg,ti.cd with|false,[.ptr _]=>true|_,_=>false
def QE:PV->PV->Option Bool
 | .int _ a,.int _ b=>some (A.eq a b)
 | .str a,.str b=>some (A.seq a b)
 | .bool a,.bool b=>some (A.beq a b)
 | .bl a,.bool b=>some (A.beq a b)
 | .bool a,.bl b=>some (A.beq a b)
 | .bl a,.bl b=>some (A.beq a b)
 |_,_=>none
def zF:List PV->List PV->Option Bool
 |[],[]=>some true
 |a::x,b::y=>match QE A a b,zF x y with
  |some c,some d=>some (A.ite c d false)
  |_,_=>none
 |_,_=>none
def zR:CK->PV->Bool
 | .int k,.int k' _=>decide (k=k')
 | .bool,.bool _=>true
 | .bool,.bl _=>true
 | .str,.str _=>true
 |_,_=>false
def jQ:List CK->List PV->Bool
 |[],[]=>true
 |c::cs,p::ps=>zR c p&&jQ cs ps
 |_,_=>false
def Rr(a b:IntKind):Bool:=decide (a=b)
def xy(s:dS)(o:Option Operand)(a:Int)(K:Int->Prop):Prop:=match o with
 |none=>K a
 |some x=>match ev s x with
  | .int _ n=>K n
  |_=>False
def Ep(n:Int):Option Nat:=match n with| .ofNat k=>some k| .negSucc _=>none
def Qo(o:Option Operand):Bool:=match o with|none=>true|some _=>false
def HX(s:dS)(o:Option Operand):Option Nat:=match o with
 |some x=>(match ev s x with| .int _ n=>Ep n|_=>none)
 |none=>none
def tP:CK->PV->Bool
 | .int k,.int k' _=>decide (k=k')
 | .bool,.bool _=>true
 | .bool,.bl _=>true
 | .str,.str _=>true
 | .slice e,.lst a _=>nb e a
 | .ptr t,.dptr t' _=>nb t t'
 | .ptr _,.nilp=>true
 | .map _ _,.nilm=>true
 | .map _ e,.dmp a _=>nb e a
 | .fn,.nilf=>true
 |_,_=>false
def sE(cd:List CK):List PV->Bool
 |[]=>true
 |p::ps=>(match cd with|[c]=>tP c p|_=>false)&&sE cd ps
def sN(p:PV):D:=match Ya p with|some d=>d|none=>.nil
def Ek:List PV->List (List D)
 |[]=>[]
 |p::ps=>[sN p]::Ek ps
def zW(e:TypeId)(S:Nat):Nat->Nat->List (Nat×TypeId)
 |_,0=>[]
 |off,n+1=>(off,e)::zW e S (off+S) n
def zn(k:IntKind):List PV->Option (List Int)
 |[]=>some []
 | .int k' n::l=>bif Rr k k' then(match zn k l with|some ns=>some (n::ns)|none=>none)else none
 |_=>none
def Mr(ob:List Ob)(p:PV):PV:=match p with
 | .row e r=>match eT ob r with
  | .row a d false=>bif nb e a then .lst e d else .undef
  |_=>.undef
 |p=>p
def mT(s:dS)(tt:TypeId->Option TI)(fs:List (Nat×TypeId)):List (Nat×Operand)->List PV->Option (List PV)
 |[],acc=>some acc
 |(i,x)::r,acc=>match wE fs i with
  |some (off,b)=>match tt b with
   |some a=>bif nb (cv (flat (gj tt s b x))) (cv a.cd)&&nE (off+cv a.cd) (cv acc)&&jv 0 (cv a.cd)then mT s tt fs r (oB acc off (flat (gj tt s b x)))else none
   |none=>none
  |none=>none
def eU(op:Op)(ty:TypeId)(s:dS)(ob:List Ob)(K:PV->Prop):Prop:=
 match op with
 | .move x=>K (QB tt s ty x)
 | .assign x=>K (QB tt s ty x)
 | .pick c a b=>match ev s c with
  | .bl true=>K (ev s a)
  | .bl false=>K (ev s b)
  | .bool c=>match ev s a,ev s b with
   | .bool x,.bool y=>K (.bool (A.ite c x y))
   | .bl x,.bool y=>K (.bool (A.ite c x y))
   | .bool x,.bl y=>K (.bool (A.ite c x y))
   | .bl x,.bl y=>K (.bool (A.ite c x y))
   |_,_=>False
  |_=>False
 | .load t x=>match tt t with
  |none=>False
  |some ti=>match ev s x with
   | .box b off=>match eT ob b with
    | .box cs=>bif nE (off+cv ti.cd) (cv cs)then K (fg ti (qV (cv ti.cd) (xm off cs)))else False
    |_=>False
   | .kF e d i off=>bif iI tt e off ti.cd then K (fg ti (ko A d i off ti.cd))else False
   | .gp e r i off=>bif nb off fY then False else match eT ob r with
    | .row j d _=>bif nb e j&&iI tt e off ti.cd then K (fg ti (ko A d i off ti.cd))else False
    |_=>False
   | .cR cs off=>bif (match nb off fY with|true=>false|false=>nE (off+cv ti.cd) (cv cs))then K (fg ti (qV (cv ti.cd) (xm off cs)))else False
   | .tO t d off=>bif iI tt t off ti.cd then K (fg ti (yN A d off ti.cd))else False
   | .dptr t d=>bif iI tt t 0 ti.cd then(A.isNil d=false/\K (fg ti (yN A d 0 ti.cd)))else False
   |_=>False
 | .nilCheck x=>match ev s x with
  | .dptr t d=>A.isNil d=false/\K (.tO t d 0)
  | .box b off=>K (.box b off)
  | .kF e d i off=>K (.kF e d i off)
  | .gp e r i off=>bif nb off fY then False else K (.gp e r i off)
  | .cR cs off=>bif nb off fY then False else K (.cR cs off)
  | .tO t d off=>K (.tO t d off)
  | .cy f cs=>K (.cy f cs)
  |_=>False
 | .binOp op t x y _=>match mz y with
  |true=>(match op,ev s x,tt t with
   | .eql,.lst _ d,some ti=>(match eJ ti with
    |some _=>∀b:Bool,(b=true->A.same (A.len d) 0)->K (.bool b)
    |none=>False)
   |_,_,_=>False)
  |false=>match ev s x,ev s y with
   | .int k a,.int k' b=>bif Rr k k' then QW A op k a b K else False
   | .str a,.str b=>QU A op a b K
   | .dptr _ d,.nilp=>match tt t with|some ti=>bif s7 ti then Mn A op (A.isNil d) K else False|none=>False
   | .cR _ off,.nilp=>bif nb off fY then False else match tt t with|some ti=>bif s7 ti then QV op false K else False|none=>False
   | .box _ _,.nilp=>match tt t with|some ti=>bif s7 ti then QV op false K else False|none=>False
   | .nilp,.nilp=>match tt t with|some ti=>bif s7 ti then QV op true K else False|none=>False
   | .agg us,.agg vs=>match tt t with
    |some ti=>bif ti.Ao&&jQ ti.cd us&&jQ ti.cd vs then(match zF A us vs with|some b=>Mn A op b K|none=>False)else False
    |none=>False
   | .bool a,.bool b=>sH A (tt t) op (A.beq a b) K
   | .bl a,.bool b=>sH A (tt t) op (A.beq a b) K
   | .bool a,.bl b=>sH A (tt t) op (A.beq a b) K
   | .bl a,.bl b=>sH A (tt t) op (A.beq a b) K
   |_,_=>False
 | .unOp op _ x=>match op,ev s x with
  | .not,.bool b=>K (.bool (A.not b))
  | .not,.bl true=>K (.bl false)
  | .not,.bl false=>K (.bl true)
  | .neg,.int k n=>A.inr k (A.sub 0 n)/\K (.int k (A.sub 0 n))
  |_,_=>False
 | .convert src dst x=>match tt src,tt dst with
  |some z,some ti=>match qa ti,ev s x with
   |some k,.int _ n=>(A.inr k n/\(True->K (.int k n)))\/(True->K (.int k (A.wrap k n)))
   |none,.lst e d=>match eJ z with
    |none=>False
    |some j=>match tt j with
     |none=>False
     |some g=>match qa g with
      |some .u8=>bif isStr ti&&nb e j then K (.str (A.Ar d))else False
      |_=>False
   |_,_=>False
  |_,_=>False
 | .makeFunc (.func f) first oM=>match first.toList with
  |[]=>bif jv f lR then K (.cy f (oM.toList.map (ev s)))else False
  |_=>(match oM.toList with
   |[]=>K (.cy (f+lR) (first.toList.map (ev s)))
   |_=>False)
 | .fieldAddr t x f=>match tt t with
  |none=>False
  |some ti=>match wE ti.fs f with
   |none=>False
   |some (o,v)=>match tt v with
    |none=>False
    |some u=>match u.cd with
     |[]=>False
     |_=>match ev s x with
      | .box b off=>K (.box b (off+o))
      | .kF e d i off=>K (.kF e d i (off+o))
      | .gp e r i off=>bif nb off fY then False else bif nb (off+o) fY then False else K (.gp e r i (off+o))
      | .cR cs off=>bif nb off fY then False else bif nb (off+o) fY then False else K (.cR cs (off+o))
      | .tO t d off=>K (.tO t d (off+o))
      |_=>False
 | .field t x f=>match tt t with
  |none=>False
  |some ti=>match wE ti.fs f with
   |none=>False
   |some (o,v)=>match tt v with
    |none=>False
    |some u=>match ev s x with
     | .agg cs=>bif nE (o+cv u.cd) (cv cs)then K (fg u (qV (cv u.cd) (xm o cs)))else False
     |_=>False
 | .indexAddr t x i=>match tt t with
  |none=>False
  |some ti=>match eJ ti,ev s x,ev s i with
   |some p,.lst e d,.int _ n=>bif nb p e then(A.idx n (A.len d)/\match tt e with|some _=>K (.kF e d n 0)|none=>False)else False
   |some p,.row e r,.int _ n=>bif nb p e then(match eT ob r with
    | .row j d _=>bif nb e j then(A.idx n (A.len d)/\match tt e with|some _=>K (.gp e r n 0)|none=>False)else False
    |_=>False)else False
   |some p,.gp e r i off,.int _ n=>bif nb p e&&nb off fY then(match eT ob r with
    | .row j d _=>bif nb e j then(A.idx n (A.sub (A.len d) i)/\match tt e with|some _=>K (.gp e r (A.add i n) 0)|none=>False)else False
    |_=>False)else False
   |some p,.cR cs off,.int _ n=>(match tt p,Ep n with
    |some g,some k=>bif nb off fY&&nb (cv g.cd) 1&&jv k (cv cs)then(bif nb k fY then False else K (.cR cs k))else False
    |_,_=>False)
   |none,.box b off,.int _ n=>(match tt ti.el,Ep n with
    |some g,some k=>bif ti.agg&&jv k (ti.ar-1)&&jv 0 (cv g.cd)then K (.box b (off+k*cv g.cd))else False
    |_,_=>False)
   |none,.cR cs off,.int _ n=>(match tt ti.el,Ep n with
    |some g,some k=>bif ti.agg&&jv k (ti.ar-1)&&jv 0 (cv g.cd)then(bif nb off fY then False else bif nb (off+k*cv g.cd) fY then False else K (.cR cs (off+k*cv g.cd)))else False
    |_,_=>False)
   |_,_,_=>False
 | .build t ps=>match tt t with
  |none=>False
  |some ti=>match ti.agg&&nb ti.ar 0 with
   |true=>(match mT s tt ti.fs ps.toList (ti.cd.map iy)with|some cs=>K (.agg cs)|none=>False)
   |false=>match ti.agg with
    |true=>(match tt ti.el with
     |some g=>match mT s tt (zW ti.el (cv g.cd) 0 (ti.ar-1)) ps.toList (ti.cd.map iy)with
      |some cs=>K (.agg cs)
      |none=>False
     |none=>False)
    |false=>False
 | .index t x i=>match tt t with
  |none=>False
  |some ti=>match ev s x,ev s i with
   | .str b,.int _ n=>bif isStr ti then A.idx n (A.dz b)/\K (.int .u8 (A.iZ b n))else False
   | .agg cs,.int _ n=>bif ti.agg&&jv 0 ti.ar&&nb (cv cs) (ti.ar-1)then(match tt ti.el with
    |some g=>match g.agg,g.cd with
     |false,[.int k]=>match zn k cs with
      |some ns=>A.idx n (ti.ar-1:Nat)/\K (.int k (A.XF ns n))
      |none=>False
     |false,[_]=>match Ep n with
      |some k=>bif jv k (ti.ar-1)then K (GF cs k)else False
      |none=>False
     |_,_=>False
    |none=>False)else False
   |_,_=>False
 | .extract x i=>match ev s x with
  | .tup vs=>bif jv i (cv vs)then K (GF vs i)else False
  |_=>False
 | .slice t x lo q w=>match Mr ob (ev s x)with
  | .cR cs off=>(match w,tt t with
   |none,some ti=>(match tt ti.el with
    |some g=>bif ti.agg&&nb (cv g.cd) 1&&jv 0 ti.ar&&nb off 0&&nb (cv cs) (ti.ar-1)&&Qo lo then(match HX s q with
     |some h=>bif nE h (cv cs)&&sE g.cd (qV h cs)then K (.lst ti.el (A.lit (Ek (qV h cs))))else False
     |none=>False)else False
    |none=>False)
   |_,_=>False)
  | .str b=>match w,tt t with
   |none,some ti=>bif isStr ti then xy s lo 0 λl=>xy s q (A.dz b) λh=>A.fU h (A.dz b)/\A.fU l h/\K (.str (A.RX b l h))else False
   |_,_=>False
  | .lst e d=>match tt t with
   |some ti=>match eJ ti with
    |some p=>bif nb p e then(match tt e with
     |some _=>match w with
      |none=>xy s lo 0 λl=>xy s q (A.len d) λh=>A.fU h (A.len d)/\A.fU l h/\K (.lst e (A.part d l h))
      |some m=>xy s lo 0 λl=>match q with
       |none=>False
       |some _=>xy s q 0 λh=>xy s (some m) 0 λm=>A.fU m (A.len d)/\A.fU h m/\A.fU l h/\((A.same m h/\(True->K (.pe e (A.part d l h))))\/(True->K (.lst e (A.part d l h))))
     |none=>False)else False
    |none=>False
   |none=>False
  |_=>False
 | .call { callee:=.builtin .len,args:=as,argTypes:=ts }=>match as.toList,ts.toList with
  |[x],[t]=>match tt t with
   |none=>False
   |some ti=>match eJ ti,gj tt s t x with
    |some _,.lst _ d=>K (.int .i64 (A.len d))
    |some _,.row e r=>(match eT ob r with
     | .row j d _=>bif nb e j then K (.int .i64 (A.len d))else False
     |_=>False)
    |some _,.gp e r i off=>(match eT ob r with
     | .row j d _=>bif nb e j&&nb off fY then K (.int .i64 (A.sub (A.len d) i))else False
     |_=>False)
    |some _,.cR cs off=>bif nb off fY then K (.int .i64 (br (cv cs)))else False
    |none,.str b=>bif isStr ti then K (.int .i64 (A.dz b))else False
    |none,.mp m=>bif isMap ti then(match eT ob m with
     | .map _ _ d=>K (.int .i64 (A.len d))
     |_=>False)else False
    |_,_=>False
  |_,_=>False
 | .call { callee:=.builtin .max,args:=as,.. }=>match as.toList with
  |[x,y]=>match ev s x,ev s y with
   | .int k a,.int _ b=>K (.int k (A.max a b))
   |_,_=>False
  |_=>False
 | .call { callee:=.builtin .min,args:=as,.. }=>match as.toList with
  |[x,y]=>match ev s x,ev s y with
   | .int k a,.int _ b=>K (.int k (A.min a b))
   |_,_=>False
  |_=>False
 |_=>False
end
end
end Go.VC
namespace Go.VC
open Go
section
section
variable {P:Program}{tt:TypeId->Option TI}{E:List RI}{Pp:ga}{objs:List Ob}{w:World}{W:World->Prop}
variable {t:TypeId}{ti:TI}{off:Nat}{a:Act}{s:dS}{c:CK}
def KU(v:Value):VR tt E Pp v (KV v):=by unfold KV;split<;>first|exact .int _ _|exact .bl _|exact .str _|exact .nilp|exact .nilm|exact .nilf|exact .undef _
def HS{v:Value}{p:PV}(h:VR tt E Pp v p):VR tt E Pp v (norm p):=by
 cases h with
 |pe e a n d hr=>exact .lst _ _ _ hr
 |_=>first|exact .undef _|(simp only[norm];constructor<;>assumption)
def ff(hs:∀t,VR tt E Pp (a.tmps.getD t undef) (look s t))(x:Operand):VR tt E Pp (a.eval x) (ev s x):=by
 cases x with
 |tmp t=>exact HS (hs t)
 |const v=>exact KU v
 |global g=>exact .undef _
 |func f=>
  simp only[ev];cases hb:jv f lR with
  |false=>exact .undef _
  |true=>exact .cy _ f [] [] (qz.mk hb) .nil
def jZ(hs:∀t,VR tt E Pp (a.tmps.getD t undef) (look s t))(t:TypeId)(x:Operand):VR tt E Pp (a.eval x) (gj tt s t x):=by
 unfold gj;split
 ·split
  ·exact .lst _ _ _ (.slnil _)
  ·exact .undef _
 ·exact ff hs _
def GK(hs:∀t,VR tt E Pp (a.tmps.getD t undef) (look s t))(t:TypeId)(x:Operand):VR tt E Pp (a.eval x) (QB tt s t x):=by
 unfold QB;split
 ·split
  ·exact .pe _ _ _ _ (.slnil _)
  ·exact .undef _
 ·exact hs _
 ·exact ff hs _
def LU(hs:∀t,VR tt E Pp (a.tmps.getD t undef) (look s t))(l:List Operand):fe tt E Pp (l.map a.eval) (l.map (ev s)):=by
 induction l with
 |nil=>exact .nil
 |cons x l b=>exact .cons _ _ _ _ (ff hs x) b
def kj.run(h:kj P t ti)(w:World):
 (isAgg t).run P w= .ok ti.agg w/\(sizeOf t).run P w= .ok ti.cd.length w/\(∃z,(zeroValue t).run P w= .ok z w/\z.cells.toList=ti.cd.map zeroV)/\
 (∃i,(typeInfo t).run P w= .ok i w/\i.bytes=ti.bytes):=by
 obtain⟨i,z,d,e,hs,hb,f,b,_,hd,g⟩:=h.info;refine⟨?_,?_,⟨z,?_,b⟩,⟨i,by simp[typeInfo,e],hb⟩⟩
 ·simp only[isAgg,Sem.run_bind,run_underlying hd,Result.andThen_ok];cases d<;>simp_all
 ·simp[sizeOf,typeInfo,e,hs]
 ·simp[zeroValue,typeInfo,e,f]
def kj.single(h:kj P t ti)(ha:ti.agg=false):∃c,ti.cd=[c]:=by obtain⟨i,z,d,f,hs,hb,g,b,_,hd,e⟩:=h.info;cases d<;>simp_all
def kj.slice{e:TypeId}(h:kj P t ti)(hs:eJ ti=some e):P.underlying t=some (.slice e)/\ti.el=e/\ti.cd=[.slice e]:=by
 obtain⟨i,z,d,j,_,hb,k,b,_,hd,f⟩:=h.info;unfold eJ at hs;split at hs
 ·rename_i g ha hc;simp at hs;subst hs;cases d<;>simp_all
 ·simp at hs
def kj.str(h:kj P t ti)(hs:isStr ti=true):P.underlying t=some .string:=by
 obtain⟨i,z,d,f,_,hb,g,b,_,hd,e⟩:=h.info;unfold isStr at hs;split at hs
 ·rename_i ha hc;cases d<;>simp_all
 ·simp at hs
def kj.int{k:IntKind}(h:kj P t ti)(hs:qa ti=some k):P.underlying t=some (.int k):=by
 obtain⟨i,z,d,f,_,hb,g,b,_,hd,e⟩:=h.info;unfold qa at hs;split at hs
 ·rename_i k' ha hc;simp at hs;subst hs;cases d<;>simp_all
 ·simp at hs
theorem kj.map(h:kj P t ti)(hs:isMap ti=true):∃k e,P.underlying t=some (.map k e)/\ti.cd=[.map t e]/\ti.el=e/\ti.ar=k+1:=by
 obtain⟨i,z,d,g,_,hb,j,b,_,hd,f⟩:=h.info;unfold isMap at hs;split at hs
 ·rename_i t' ha hc;cases d with
  |map k e=>exact⟨k,e,by simp_all,by simp_all,by simp_all,by simp_all⟩
  |_=>simp_all
 ·simp at hs
def kj.field(h:kj P t ti){f:Nat}{g:TypeId}(hf:wE ti.fs f=some (off,g)):
 ∃fields fl,P.underlying t=some (.struct fields)/\fields[f]? =some fl/\fl.offset=off/\fl.type=g/\ti.agg=true:=by
 obtain⟨i,z,d,l,_,hb,m,k,_,hd,j⟩:=h.info;rw[Oh]at hf;cases d with
 |struct fields=>
  obtain⟨ha,b,_⟩:=j;have:=b f;rw[hf]at this;cases e:fields[f]? with
  |none=>rw[e]at this;simp at this
  |some fl=>rw[e]at this;simp at this;exact⟨fields,fl,hd,e,this.1,this.2,ha⟩
 |_=>simp_all
def valOf(ti:TI)(vs:List Value):Value:=if ti.agg then .agg ⟨vs⟩else vs.headD undef
def nw(h:kj P t ti){vs:List Value}{ps:List PV}(hl:ps.length=ti.cd.length)(b:fe tt E Pp vs ps):VR tt E Pp (valOf ti vs) (fg ti ps):=by
 unfold valOf fg;cases ha:ti.agg with
 |true=>simpa using .agg _ _ b
 |false=>
  obtain⟨c,hc⟩:=h.single ha;rw[hc]at hl;cases b with
  |nil=>simp at hl
  |cons v p vs ps b d=>
   cases d with
   |nil=>simpa using b
   |cons _ _ _ _ _ _=>simp at hl
def fA(b o n:Nat):Addr.add ⟨b,o,none⟩ n=⟨b,o+n,none⟩:=Addr.add_lit b o n
def tI(h:kj P t ti){b o:Nat}{vs:List Value}(hl:vs.length=ti.cd.length)
 (hc:∀(j:Nat) v,vs[j]? =some v->w.cell? ⟨b,o+j,none⟩=some v):(loadVar t ⟨b,o,none⟩).run P w= .ok (valOf ti vs) w:=by
 obtain⟨h1,h2,_,_⟩:=h.run w;unfold loadVar valOf;simp only[Sem.run_bind,h1,Result.andThen_ok];cases ha:ti.agg with
 |true=>simp only[if_true,Sem.run_bind,h2,Result.andThen_ok];rw[<- hl,run_loadCells_list w ⟨b,o,none⟩ vs (λj v e=>by rw[fA];exact hc j v e)];simp
 |false=>
  obtain⟨c,d⟩:=h.single ha;rw[d]at hl
  match vs,hl with
  |[v],_=>simp[show w.cell? ⟨b,o,none⟩=some v from by simpa using hc 0 v rfl]
def BK{v:Value}{d:D}(h:RD tt Pp c v d):VR tt E Pp v (tQ ec c d):=by
 cases h with
 |int=>exact .int _ _
 |bool=>exact .bool _
 |str=>exact .str _
 |slnil=>exact .lst _ _ _ (.slnil _)
 |Fz _ ad=>exact .lst _ _ _ (.Fz _ ad)
 |sl e b o len cap rows vf hl hc ef iJ iF=>exact .lst _ _ _ (.sl e b o len cap rows vf hl hc ef iJ iF)
 |Ah t=>exact .dptr _ _ _ (.Ah t)
 |Cv t e=>exact .dmp _ _ _ _ (.Cv t e)
 |I5 t e b es clock rows hl iJ hk gV da iF=>exact .dmp _ _ _ _ (.I5 t e b es clock rows hl iJ hk gV da iF)
 |LP=>exact .undef _
 |Oc=>exact .undef _
 |ptr t b o cs vf hl iJ iF=>exact .dptr _ _ _ (.ptr t b o cs vf hl iJ iF)
def p9{v:Value}{d:D}(h:KD tt Pp c v d):VR tt E Pp v (mR ec c d):=by
 rcases h with⟨e,h⟩|⟨rfl,a,b,rfl,rfl⟩
 ·cases c<;>first|exact BK h|exact absurd rfl e
 ·exact .agg _ _ (.cons _ _ _ _ (.str _) (.cons _ _ _ _ (.str _) .nil))
def po{g:Nat->D}:∀{off:Nat}{cs:List CK}{vs:List Value},vs.length=cs.length->
 (∀(j:Nat) c v,cs[j]? =some c->vs[j]? =some v->RD tt Pp c v (g (off+j)))->fe tt E Pp vs (rH ec g off cs)
 |_,[],[],_,_=>.nil
 |off,c::cs,v::vs,hl,h=>.cons _ _ _ _ (BK (by simpa using h 0 c v rfl rfl))
  (po (yU hl) (λj c v hc b=>by have:=h (j+1) c v (yU hc) (yU b);rwa [show off+(j+1)=off+1+j by omega]at this))
 |_,[],_::_,hl,_=>yE hl
 |_,_::_,[],hl,_=>yE hl
def jn(A:qC)(g:Nat->D):∀(off:Nat)(cs:List CK),(rH A g off cs).length=cs.length
 |_,[]=>rfl
 |off,c::cs=>by simp[rH,jn A g (off+1) cs]
def If:∀{a b:List CK},Jy a b=true->a=b
 |[],[],_=>rfl
 |a::x,b::y,h=>by simp[Jy]at h;rw[h.1,If h.2]
 |[],_::_,h=>by simp[Jy]at h
 |_::_,[],h=>by simp[Jy]at h
def Ki(n:Nat)(l:List CK):DD n l=l.take n:=by
 induction n generalizing l with
 |zero=>simp[DD]
 |succ n b=>cases l<;>simp[DD,b]
def L4(n:Nat)(l:List CK):E6 n l=l.drop n:=by
 induction n generalizing l with
 |zero=>simp[E6]
 |succ n b=>cases l<;>simp[E6,b]
def jc{e:TypeId}{cs:List CK}(h:iI tt e off cs=true)(j:Nat)(c:CK)(hc:cs[j]? =some c):(bV tt e)[off+j]? =some c:=by
 unfold iI at h;have:=If h;rw[Ki,L4,cX]at this;rw[<- this]at hc
 have da:j<cs.length:=by
  rcases cb j cs.length with b|b
  ·exact b
  ·rw[bY yQ]at hc;simp at hc
 rw[cQ da,fw]at hc;exact hc
structure RW (tt:TypeId->Option TI) (E:List RI) (Pp:ga) (objs:List Ob) (W:World->Prop):Prop where
 pi:∀w,W w->∀ad v,Pp ad v->pc w ad=some v
 box:∀(i:Nat) cs b,objs[i]? =some (.box cs)->E[i]? =some (.box b)->∃vs,fe tt E Pp vs cs/\∀w,W w->∀(j:Nat) v,vs[j]? =some v->w.cell? ⟨b,j,none⟩=some v
 row0:∀(i:Nat) e d wr,objs[i]? =some (.row e d wr)->E[i]? =some .row0->d= .list []
 row:∀(i:Nat) e d wr g o len cap,objs[i]? =some (.row e d wr)->E[i]? =some (.row g o len cap)->∃vs rows,d= .list rows/\rows.length=len/\xr tt Pp e vs o rows/\
  ∀w,W w->∀(j:Nat) v,vs[j]? =some v->o<=j->j<o+len*(bV tt e).length->w.cell? ⟨g,j,none⟩=some v
 om:∀(i:Nat) e d g o len cap,objs[i]? =some (.row e d false)->E[i]? =some (.row g o len cap)->RD tt Pp (.slice e) (.slice (some ⟨g,o,none⟩) len cap) d
 map:∀(i:Nat) kc e d b bs cl,objs[i]? =some (.map kc e d)->E[i]? =some (.map b bs cl)->∀w,W w->∃es clock rows,w.heap[b]? =some (.map es clock)/\d= .list rows/\es.size=rows.length
def RW.Ph(d:RW tt E Pp objs W){w:World}(e:W w){b o:Nat}{v:Value}(h:Pp ⟨b,o,none⟩ v):w.cell? ⟨b,o,none⟩=some v:=by rw[<- pY];exact d.pi w e _ _ h
def eN{b:Nat}{vs:List Value}{T:TypeId}{fr:Nat×Nat}(h:w.heap[b]? =some (.cells ⟨vs⟩ T fr))(o:Nat):w.cell? ⟨b,o,none⟩=vs[o]? :=by simp[World.cell?,h]
def Ox{e b o len cap:Nat}{d:D}(n:RW tt E Pp objs W)(hr:RD tt Pp (.slice e) (.slice (some ⟨b,o,none⟩) len cap) d){i:Int}(h0:0<=i)(h1:i<len)
 {cs:List CK} (hk:iI tt e off cs=true):
 ∃vs:List Value,vs.length=cs.length/\(∀w,W w->∀(j:Nat) v,vs[j]? =some v->w.cell? ⟨b,o+i.toNat*(bV tt e).length+off+j,none⟩=some v)/\fe tt E Pp vs (ko ec d i off cs):=by
 cases hr with
 |Fz _ ad=>exact absurd h1 yO
 |sl _ _ _ _ _ rows vf hl hc ef iJ iF=>
  refine⟨(gU cs.length).map (λj=>vf i.toNat (off+j)),yS,?_,?_⟩
  ·intro w p j v h;simp at h
   obtain⟨_,m,rfl⟩:∃x,cs.length>j/\vf i.toNat (off+j)=v:=by
    rcases cb j cs.length with f|f
    ·rw[bB (yU f)]at h;simp at h;exact⟨0,f,h⟩
    ·rw[bY (yU f)]at h;simp at h
   have g:=jc hk j cs[j] (bB m)
   have da:off+j<(bV tt e).length:=by
    rcases cb (off+j) (bV tt e).length with f|f
    ·exact f
    ·rw[bY f]at g;simp at g
   have:=n.Ph p (iJ i.toNat (off+j) yO da);rw[<- this,eR]
  ·refine po yS ?_;intro j c v hc h
   have m:j<cs.length:=by
    rcases cb j cs.length with f|f
    ·exact f
    ·rw[bY f]at hc;simp at hc
   simp[m]at h;subst h;have g:=jc hk j c hc
   have da:off+j<(bV tt e).length:=by
    rcases cb (off+j) (bV tt e).length with f|f
    ·exact f
    ·rw[bY f]at g;simp at g
   have r:i.toNat<rows.length:=yO;have k:rows[i.toNat]? =some rows[i.toNat]:=bB r;have q:=ef _ _ k;have l:(rows[i.toNat])[off+j]? =some ((rows[i.toNat])[off+j]'yO):=bB yO;have:=iF _ _ _ _ _ k l g;simpa[ec,cp,cj,k,l]using this
def Ba{t b o:Nat}{d:D}(k:RW tt E Pp objs W)(hr:RD tt Pp (.ptr t) (.pointer (some ⟨b,o,none⟩)) d)
 {cs:List CK} (hk:iI tt t off cs=true):
 ∃vs:List Value,vs.length=cs.length/\(∀w,W w->∀(j:Nat) v,vs[j]? =some v->w.cell? ⟨b,o+off+j,none⟩=some v)/\fe tt E Pp vs (yN ec d off cs):=by
 cases hr with
 |ptr _ _ _ ds vf hl iJ iF=>
  have da:∀j,j<cs.length->off+j<(bV tt t).length:=by
   intro j g;have f:=jc hk j cs[j] (bB g);rcases cb (off+j) (bV tt t).length with e|e
   ·exact e
   ·rw[bY e]at f;simp at f
  refine⟨(gU cs.length).map (λj=>vf (off+j)),yS,?_,?_⟩
  ·intro w l j v h;rcases cb j cs.length with g|e
   ·simp[g]at h;subst h;have:=k.Ph l (iJ (off+j) (da j g));rw[<- this,eR]
   ·rw[bY (yU e)]at h;simp at h
  ·refine po yS ?_;intro j c v hc h
   have g:j<cs.length:=by
    rcases cb j cs.length with e|e
    ·exact e
    ·rw[bY e]at hc;simp at hc
   simp[g]at h;subst h;have f:=jc hk j c hc;have:=da j g;have i:ds[off+j]? =some (ds[off+j]'yO):=bB yO;have:=iF _ _ _ i f;simpa[ec,R2,cj,i]using this
def KH{e r g o len cap:Nat}{d:D}{wr:Bool}(x:RW tt E Pp objs W)(A:objs[r]? =some (.row e d wr))(y:E[r]? =some (.row g o len cap)){i:Int}(h0:0<=i)(h1:i<len)
 {cs:List CK} (hk:iI tt e off cs=true):
 ∃vs:List Value,vs.length=cs.length/\(∀w,W w->∀(j:Nat) v,vs[j]? =some v->w.cell? ⟨g,o+i.toNat*(bV tt e).length+off+j,none⟩=some v)/\fe tt E Pp vs (ko ec d i off cs):=by
 obtain⟨vals,rows,rfl,hl,ef,m⟩:=x.row r _ _ _ _ _ _ _ A y
 have da:∀j,j<cs.length->off+j<(bV tt e).length:=by
  intro j l;have f:=jc hk j cs[j] (bB l);rcases cb (off+j) (bV tt e).length with k|k
  ·exact k
  ·rw[bY k]at f;simp at f
 have C:i.toNat<rows.length:=yO;have p:rows[i.toNat]? =some rows[i.toNat]:=bB C;obtain⟨B,b⟩:=ef _ _ p;refine⟨(gU cs.length).map (λj=>vals.getD (o+i.toNat*(bV tt e).length+(off+j)) undef),yS,?_,?_⟩
 ·intro w z j v h;rcases cb j cs.length with l|k
  ·simp[l]at h;subst h;have f:=jc hk j cs[j] (bB l);have:=da j l;obtain⟨v,h,_⟩:=b (off+j) _ _ (bB yO) f;have q:=m w z _ _ h yO (by have:(i.toNat+1)*(bV tt e).length<=len*(bV tt e).length:=dE _ yO;rw[ez]at this;omega);rw[eR _ off j,q,h];simp
  ·rw[bY (yU k)]at h;simp at h
 ·refine po yS ?_;intro j c v hc h
  have l:j<cs.length:=by
   rcases cb j cs.length with k|k
   ·exact k
   ·rw[bY k]at hc;simp at hc
  simp[l]at h;have f:=jc hk j c hc;have:=da j l;have n:(rows[i.toNat])[off+j]? =some ((rows[i.toNat])[off+j]'yO):=bB yO;obtain⟨F,u,iF⟩:=b (off+j) _ _ n f;rw[u]at h;simp at h;subst h;simpa[ec,cp,cj,p,n]using iF
end
end
section
section
variable {P:Program}{tt:TypeId->Option TI}{E:List RI}{Pp:ga}{objs:List Ob}{w:World}{W:World->Prop}
variable {t e:TypeId}{K:PV->Prop}{op:BinOp}{x:Sem Value}{k:IntKind}{y:Operand}{b:Bool}{v:Value}{p:PV}{ti:TI}
def PE(P:Program)(tt:TypeId->Option TI)(E:List RI)(Pp:ga)(W:World->Prop)(x:Sem Next)(K:PV->Prop):Prop:=∃v pv,(∀w,W w->x.run P w= .ok (.value v) w)/\VR tt E Pp v pv/\K pv
def iB(P:Program)(tt:TypeId->Option TI)(E:List RI)(Pp:ga)(W:World->Prop)(x:Sem Value)(K:PV->Prop):Prop:=∃v pv,(∀w,W w->x.run P w= .ok v w)/\VR tt E Pp v pv/\K pv
def iB.lift(h:iB P tt E Pp W x K):PE P tt E Pp W (do pure (.value (<- x))) K:=by obtain⟨v,pv,h1,h2,h3⟩:=h;exact⟨v,pv,λw a=>by simp[h1 w a],h2,h3⟩
def r8{n:Int}(h:k.min<=n/\n<=k.max):k.wrap n=n:=by obtain⟨h1,h2⟩:=h;cases k<;>simp[IntKind.wrap,IntKind.min,IntKind.max,IntKind.signed,IntKind.bits]at* <;>omega
def OE{x:Operand}{a b:Int}(h:QW ec op k a b K):
 iB P tt E Pp W (do eqGuard op t x y (.int k a) (.int k b);binOp op t (.int k a) (.int k b)) K:=by
 cases op<;>simp only[QW]at h
 case add=>
  rcases h with⟨hr,h⟩|h
  ·exact⟨.int k (a+b),_,by intro w _;simp[eqGuard_at_int,binOp_add,Op.intArith,r8 hr],.int _ _,h trivial⟩
  ·exact⟨.int k (k.wrap (a+b)),_,by intro w _;simp[eqGuard_at_int,binOp_add,Op.intArith],.int _ _,h trivial⟩
 case sub=>
  rcases h with⟨hr,h⟩|h
  ·exact⟨.int k (a-b),_,by intro w _;simp[eqGuard_at_int,binOp_sub,Op.intArith,r8 hr],.int _ _,h trivial⟩
  ·exact⟨.int k (k.wrap (a-b)),_,by intro w _;simp[eqGuard_at_int,binOp_sub,Op.intArith],.int _ _,h trivial⟩
 case mul=>
  rcases h with⟨hr,h⟩|h
  ·exact⟨.int k (a*b),_,by intro w _;simp[eqGuard_at_int,binOp_mul,Op.intArith,r8 hr],.int _ _,h trivial⟩
  ·exact⟨.int k (k.wrap (a*b)),_,by intro w _;simp[eqGuard_at_int,binOp_mul,Op.intArith],.int _ _,h trivial⟩
 case quo=>obtain⟨h0,hr,h⟩:=h;exact⟨.int k (a.tdiv b),_,by intro w _;simp[eqGuard_at_int,binOp_quo,Op.intDiv,h0,r8 hr],.int _ _,h⟩
 case rem=>obtain⟨h0,h⟩:=h;exact⟨.int k (a.tmod b),_,by intro w _;simp[eqGuard_at_int,binOp_rem,Op.intDiv,h0],.int _ _,h⟩
 case eql=>exact⟨.bool (a==b),_,by intro w _;simp only[eqGuard_at_int,binOp_eql,Sem.run_bind,Sem.run_pure,Result.andThen_ok],.bool _,h⟩
 case neq=>exact⟨.bool (!(a==b)),_,by intro w _;simp only[eqGuard_at_int,binOp_neq,Sem.run_bind,Sem.run_pure,Result.andThen_ok,bne],.bool _,h⟩
 case lss=>exact⟨.bool (a<b),_,by intro w _;simp only[eqGuard_at_int,binOp_lss,Sem.run_bind,Sem.run_pure,Result.andThen_ok],.bool _,h⟩
 case leq=>exact⟨.bool (a<=b),_,by intro w _;simp only[eqGuard_at_int,binOp_leq,Sem.run_bind,Sem.run_pure,Result.andThen_ok],.bool _,h⟩
 case gtr=>exact⟨.bool (a>b),_,by intro w _;simp only[eqGuard_at_int,binOp_gtr,Sem.run_bind,Sem.run_pure,Result.andThen_ok],.bool _,h⟩
 case geq=>exact⟨.bool (a>=b),_,by intro w _;simp only[eqGuard_at_int,binOp_geq,Sem.run_bind,Sem.run_pure,Result.andThen_ok],.bool _,h⟩
def mC:∀(a b:List UInt8),(Op.bytesLess a b||(a==b))= !Op.bytesLess b a
 |[],[]=>rfl
 |[],_::_=>rfl
 |_::_,[]=>rfl
 |x::a,y::b=>by
  have f:=mC a b;by_cases c:x=y
  ·subst c;have da:decide (x<x)=false:=yS;simp only[Op.bytesLess,da,FG,beq_self_eq_true,fB];rw[<- f]
   congr 1
   simp[BEq.beq,List.beq]
  ·have h1:(x==y)=false:=yU c;have h2:(y==x)=false:=by simpa usingλh=>c h.symm
   have h3:((x::a)==(y::b))=false:=by simp[c]
   simp only[Op.bytesLess,h1,h2,h3,fH,mX];rcases UInt8.lt_or_lt_of_ne c with h|h
   ·have d:¬y<x:=UInt8.lt_asymm h;simp[h,d]
   ·have d:¬x<y:=UInt8.lt_asymm h;simp[h,d]
def OD{x:Operand}{a b:ByteArray}(h:QU ec op a.data.toList b.data.toList K):
 iB P tt E Pp W (do eqGuard op t x y (.string a) (.string b);binOp op t (.string a) (.string b)) K:=by
 have go:∀v pv,(∀w,W w->(binOp op t (.string a) (.string b)).run P w= .ok v w)->VR tt E Pp v pv->K pv->
  iB P tt E Pp W (do eqGuard op t x y (.string a) (.string b);binOp op t (.string a) (.string b)) K:=by
  intro v pv h1 h2 h3;exact⟨v,pv,λw c=>by simp only[eqGuard_at_string,Sem.run_bind,Sem.run_pure,Result.andThen_ok,h1 w c],h2,h3⟩
 cases op<;>simp only[QU]at h
 case eql=>exact go (.bool (a.data.toList==b.data.toList)) _ (by intro w _;simp only[binOp,Op.stringOp,ByteArray.toList_eq,Sem.run_pure]) (.bool _) h
 case neq=>exact go (.bool (!(a.data.toList==b.data.toList))) _ (by intro w _;simp only[binOp,Op.stringOp,ByteArray.toList_eq,Sem.run_pure]) (.bool _) h
 case lss=>exact go (.bool (Op.bytesLess a.data.toList b.data.toList)) _ (by intro w _;simp only[binOp,Op.stringOp,ByteArray.toList_eq,Sem.run_pure]) (.bool _) h
 case gtr=>exact go (.bool (Op.bytesLess b.data.toList a.data.toList)) _ (by intro w _;simp only[binOp,Op.stringOp,ByteArray.toList_eq,Sem.run_pure,mC,xS]) (.bool _) h
 case leq=>exact go (.bool (!Op.bytesLess b.data.toList a.data.toList)) _ (by intro w _;simp only[binOp,Op.stringOp,ByteArray.toList_eq,Sem.run_pure,mC]) (.bool _) h
 case geq=>exact go (.bool (!Op.bytesLess a.data.toList b.data.toList)) _ (by intro w _;simp only[binOp,Op.stringOp,ByteArray.toList_eq,Sem.run_pure]) (.bool _) h
 case add=>
  obtain⟨hr,h⟩:=h;have hs:¬((a.size+b.size:Nat):Int)>IntKind.i64.max:=by have:=hr.2;have e1:a.data.toList.length=a.size:=yS;have e2:b.data.toList.length=b.size:=yS;simp only[e1,e2]at this;omega
  refine go (.string (a++b)) (.str (a++b).data.toList) ?_ (.str _) (yU h);intro w _;simp only[binOp,Op.stringOp];rw[if_neg hs];rfl
def xN(a:∀v,v=(if op= .eql then b else !b)->(op= .eql\/op= .neq)->∀w,W w->x.run P w= .ok (.bool v) w)(h:Mn ec op b K):iB P tt E Pp W x K:=by
 cases op<;>simp only[Mn]at h
 case eql=>exact⟨.bool b,_,a _ yS yS,.bool _,h⟩
 case neq=>exact⟨.bool (!b),_,a _ yS yS,.bool _,h⟩
def E9{c:CK}(h:zR c p=true)(a:VR tt E Pp v p):isScalar c v:=by cases c<;>cases a<;>simp_all[zR,isScalar]
def ql:∀{cs:List CK}{vs:List Value}{ps:List PV},jQ cs ps=true->fe tt E Pp vs ps->vs.length=cs.length/\∀(j:Nat) c u,cs[j]? =some c->vs[j]? =some u->isScalar c u
 |[],vs,[],_,a=>by cases a;exact⟨rfl,λj c u h=>yE h⟩
 |c::cs,vs,p::ps,h,a=>by
  simp only[jQ,bI]at h;cases a with
  |cons v _ vs _ h1 h2=>
   obtain⟨hl,f⟩:=ql h.2 h2;refine⟨by simp[hl],?_⟩;intro j d u hc hu;cases j with
   |zero=>simp at hc hu;subst hc hu;exact E9 h.1 h1
   |succ j=>exact f j d u (yU hc) (yU hu)
 |[],_,_::_,h,_=>by simp[jQ]at h
 |_::_,_,[],h,_=>by simp[jQ]at h
def Oo{u:Value}{q:PV}(h:QE ec p q=some b)(hu:VR tt E Pp u p)(a:VR tt E Pp v q):Rp u v=b:=by cases hu<;>cases a<;>simp_all[QE,Rp]
def EV:∀{us vs:List Value}{ps f:List PV}{b:Bool},zF ec ps f=some b->fe tt E Pp us ps->fe tt E Pp vs f->vY us vs=b
 |us,vs,[],[],b,h,hu,g=>by cases hu;cases g;simpa[zF,vY]using h
 |us,vs,p::ps,q::f,b,h,hu,g=>by
  cases hu with
  |cons u _ us _ i l=>
  cases g with
  |cons v _ vs _ j a=>
  simp only[zF]at h;split at h
  ·rename_i c d hc hd;have h1:=Oo hc i j;have h2:=EV hd l a;simp only[vY,h1,h2];simpa using h
  ·simp at h
 |_,_,[],_::_,_,h,_,_=>by simp[zF]at h
 |_,_,_::_,[],_,h,_,_=>by simp[zF]at h
def kj.bool(h:kj P t ti)(hs:isBool ti=true):P.underlying t=some .bool:=by
 obtain⟨i,z,d,f,_,hb,g,a,_,hd,c⟩:=h.info;unfold isBool at hs;split at hs
 ·rename_i ha hc;cases d<;>simp_all
 ·simp at hs
def kj.ptr(h:kj P t ti)(hs:s7 ti=true):∃e,P.underlying t=some (.pointer e):=by
 obtain⟨i,z,d,f,_,hb,g,a,_,hd,c⟩:=h.info;unfold s7 at hs;split at hs
 ·rename_i ha hc;cases d<;>simp_all
 ·simp at hs
def CO(d:Nat)(h:P.underlying t=some .bool)(a b:Bool):(Op.equalIn (d+1) t (.bool a) (.bool b)).run P w= .ok (a==b) w:=by simp[Op.equalIn,run_underlying h]
def GN(h:P.underlying t=some .bool)(a b:Bool):(Op.equal t (.bool a) (.bool b)).run P w= .ok (a==b) w:=CO 9999 h a b
def ES(d:Nat)(h:P.underlying t=some (.pointer e))(a:Option Addr):(Op.equalIn (d+1) t (.pointer a) (.pointer none)).run P w= .ok a.isNone w:=by cases a<;>simp[Op.equalIn,run_underlying h,samePointer]
def kS(h:P.underlying t=some (.pointer e))(a:Option Addr):(Op.equal t (.pointer a) (.pointer none)).run P w= .ok a.isNone w:=ES 9999 h a
end
end
section
section
variable {P:Program}{tt:TypeId->Option TI}{E:List RI}{Pp:ga}{objs:List Ob}{w:World}{W:World->Prop}
variable {t ty:TypeId}{ti:TI}{b off o:Nat}{vs:List Value}{a:Act}{s:dS}{x y:Operand}{K:PV->Prop}{cs:List PV}{op:BinOp}
def Eo(e:kj P t ti)(p:RW tt E Pp objs W){gW:Nat}(q:E[b]? =some (.box gW))(f:eT objs b= .box cs)
 (m:off+ti.cd.length<=cs.length):∃v,(∀w,W w->(Instr.loadAt t (.pointer (some ⟨gW,off,none⟩))).run P w= .ok v w)/\VR tt E Pp v (fg ti ((cs.drop off).take ti.cd.length)):=by
 rw[sA]at f
 have l:objs[b]? =some (.box cs):=by
  cases n:objs[b]? with
  |none=>simp[cj,n]at f
  |some o=>simp[cj,n]at f;rw[f]
 obtain⟨vs,d,c⟩:=p.box b _ _ l q;have h:=(d.drop off).take ti.cd.length;have u:=d.length;have hl:((vs.drop off).take ti.cd.length).length=ti.cd.length:=yQ;refine⟨valOf ti ((vs.drop off).take ti.cd.length),?_,nw e yQ h⟩;intro w r
 have:=tI (P:=P) (w:=w) e (b:=gW) (o:=off) hl (by
  intro j v g
  have k:j<ti.cd.length:=by
   rcases cb j ti.cd.length with i|i
   ·exact i
   ·rw[bY (by rw[hl];exact i)]at g;simp at g
  rw[cQ k,fw]at g;exact c w r _ _ g)
 simpa[Instr.loadAt,Instr.sureAddr]using this
def Jb(c:kj P t ti)(k:RW tt E Pp objs W)(hl:fe tt E Pp vs cs)
 (iJ:∀(j:Nat) v,vs[j]? =some v->Pp ⟨b,o+j,none⟩ v) (i:off+ti.cd.length<=cs.length):
 ∃v,(∀w,W w->(Instr.loadAt t (.pointer (some ⟨b,o+off,none⟩))).run P w= .ok v w)/\VR tt E Pp v (fg ti ((cs.drop off).take ti.cd.length)):=by
 have f:=(hl.drop off).take ti.cd.length;have m:=hl.length;have d:((vs.drop off).take ti.cd.length).length=ti.cd.length:=yQ;refine⟨valOf ti ((vs.drop off).take ti.cd.length),?_,nw c yQ f⟩;intro w l
 have:=tI (P:=P) (w:=w) c (b:=b) (o:=o+off) d (by
  intro j v e
  have h:j<ti.cd.length:=by
   rcases cb j ti.cd.length with g|g
   ·exact g
   ·rw[bY (by rw[d];exact g)]at e;simp at e
  rw[cQ h,fw]at e;have:=k.Ph l (iJ _ _ e);rw[<- this,eR])
 simpa[Instr.loadAt,Instr.sureAddr]using this
def p7(c:kj P t ti){ps:List PV}(hl:vs.length=ti.cd.length)(d:ps.length=ti.cd.length)
 (hc:∀w,W w->∀(j:Nat) v,vs[j]? =some v->w.cell? ⟨b,o+j,none⟩=some v) (e:fe tt E Pp vs ps):
 ∃v,(∀w,W w->(Instr.loadAt t (.pointer (some ⟨b,o,none⟩))).run P w= .ok v w)/\VR tt E Pp v (fg ti ps):=by
 refine⟨valOf ti vs,?_,nw c d e⟩;intro w f;simpa[Instr.loadAt,Instr.sureAddr]using tI (P:=P) (w:=w) c hl (hc w f)
def NY(B:fp P tt)(m:RW tt E Pp objs W)(hs:∀t,VR tt E Pp (a.tmps.getD t undef) (look s t))
 (h:eU ec tt (.load t x) ty s objs K):iB P tt E Pp W (Instr.loadAt t (a.eval x)) K:=by
 simp only[eU]at h;split at h
 ·exact h.elim
 rename_i ti p;have k:=B _ _ p;have c:=ff hs x;simp only[cX,uo,zN]at h;split at h
 ·rename_i b off j;rw[j]at c;split at h
  ·rename_i cs n;cases hb:nE (off+ti.cd.length) cs.length with
   |false=>rw[hb]at h;exact h.elim
   |true=>
    rw[hb]at h;generalize a.eval x=u at c ⊢;cases c with
    |box _ _ gW q=>obtain⟨v,h1,h2⟩:=Eo k m q n (eO hb);exact⟨v,_,h1,h2,h⟩
  ·exact h.elim
 ·rename_i e d i off j;rw[j]at c;cases hb:iI tt e off ti.cd with
  |false=>rw[hb]at h;exact h.elim
  |true=>
   rw[hb]at h;generalize a.eval x=u at c ⊢;cases c with
   |kF _ _ _ _ gW o len cap hr h0 h1=>obtain⟨vs,hl,hc,f⟩:=Ox m hr h0 h1 hb;obtain⟨v,h1,h2⟩:=p7 k hl (jn _ _ _ _) hc f;exact⟨v,_,h1,h2,h⟩
 ·rename_i e r i off j;rw[j]at c;cases hm:nb off fY with
  |true=>rw[hm]at h;exact h.elim
  |false=>
  rw[hm]at h;simp only[cond_false]at h;split at h
  ·rename_i C d wr n;cases l:(nb e C&&iI tt e off ti.cd)with
   |false=>rw[l]at h;exact h.elim
   |true=>
    rw[l]at h;simp only[bI]at l;obtain⟨D,hb⟩:=l;have A:e=C:=dH D;subst A;generalize a.eval x=u at c ⊢;rw[sA]at n
    have z:objs[r]? =some (.row e d wr):=by
     cases j:objs[r]? with
     |none=>simp[cj,j]at n
     |some o=>simp[cj,j]at n;rw[n]
    cases c with
    |gp _ _ _ _ _ g o len cap q h0 hu=>obtain⟨rfl,h1⟩:=hu.get hm;obtain⟨vs,hl,hc,f⟩:=KH m z q h0 h1 hb;obtain⟨v,h1,h2⟩:=p7 k hl (jn _ _ _ _) hc f;exact⟨v,_,h1,h2,h⟩
  ·exact h.elim
 ·rename_i cs off j;rw[j]at c;cases hm:nb off fY with
  |true=>rw[hm]at h;exact h.elim
  |false=>
  rw[hm]at h;cases hb:nE (off+ti.cd.length) cs.length with
  |false=>simp only[hb]at h;exact h.elim
  |true=>
   simp only[hb]at h;generalize a.eval x=u at c ⊢;cases c with
   |cR _ vs _ _ b o hu hl iJ=>obtain rfl:=hu.get hm;obtain⟨v,h1,h2⟩:=Jb k m hl iJ (eO hb);exact⟨v,_,h1,h2,h⟩
 ·rename_i t' d off j;rw[j]at c;cases hb:iI tt t' off ti.cd with
  |false=>rw[hb]at h;exact h.elim
  |true=>
   rw[hb]at h;generalize a.eval x=u at c ⊢;cases c with
   |tO _ _ _ b o hr=>obtain⟨vs,hl,hc,f⟩:=Ba m hr hb;obtain⟨v,h1,h2⟩:=p7 k hl (jn _ _ _ _) hc f;exact⟨v,_,h1,h2,h⟩
 ·rename_i t' d j;rw[j]at c;cases hb:iI tt t' 0 ti.cd with
  |false=>rw[hb]at h;exact h.elim
  |true=>
   rw[hb]at h;obtain⟨F,h⟩:=h;generalize a.eval x=u at c ⊢;cases c with
   |dptr _ _ _ hr=>
    cases hr with
    |Ah=>simp at F
    |ptr _ b o ds vf hl iJ iF=>obtain⟨vs,hl,hc,f⟩:=Ba m (.ptr _ b o ds vf hl iJ iF) hb;obtain⟨v,h1,h2⟩:=p7 k hl (jn _ _ _ _) (yU hc) f;exact⟨v,_,h1,h2,h⟩
 ·exact h.elim
def G0(d:fp P tt){m n:Bool}(h:sH ec (tt t) op (m==n) K):
 iB P tt E Pp W (do eqGuard op t x y (.bool m) (.bool n);binOp op t (.bool m) (.bool n)) K:=by
 unfold sH at h;split at h
 ·rename_i ti c;cases hk:isBool ti with
  |false=>rw[hk]at h;exact h.elim
  |true=>rw[hk]at h;have hb:=(d _ _ c).bool hk;refine xN ?_ h;intro v e f w _;rcases f with rfl|rfl<;>simp[eqGuard_at_bool,binOp,GN hb,e]
 ·exact h.elim
def Mm(j:fp P tt)(hs:∀t,VR tt E Pp (a.tmps.getD t undef) (look s t)){J:TypeId}
 (h:eU ec tt (.binOp op t x y J) ty s objs K):iB P tt E Pp W (do eqGuard op t x y (a.eval x) (a.eval y);binOp op t (a.eval x) (a.eval y)) K:=by
 simp only[eU]at h;have f:=ff hs x;have i:=ff hs y;split at h
 ·rename_i p
  have F:a.eval y= .slice none 0 0:=by
   unfold mz at p;split at p
   ·rfl
   ·cases p
  split at h
  ·rename_i M d ti g G;rw[g]at f;split at h
   ·rename_i e D;obtain⟨hu,_,_⟩:=(j _ _ G).slice D;generalize a.eval x=u at*;rw[F];cases f with
    |lst _ _ _ hr=>
     cases hr with
     |slnil=>exact⟨.bool true,_,by intro w _;simp[eqGuard,Go.Lib.run_eql_slice_nil w t _ none 0 0 0 0 hu],.bool _,h true (λ_=>by simp[ec,cp])⟩
     |Fz _ ad=>exact⟨.bool false,_,by intro w _;simp[eqGuard,Go.Lib.run_eql_slice_nil w t _ (some ad) 0 0 0 0 hu],.bool _,h false (λh=>yC h)⟩
     |sl _ b o len cap rows vf hl hc ef iJ iF=>exact⟨.bool false,_,by intro w _;simp[eqGuard,Go.Lib.run_eql_slice_nil w t _ (some ⟨b,o,none⟩) len cap 0 0 hu],.bool _,h false (λh=>yC h)⟩
   ·exact h.elim
  ·exact h.elim
 generalize a.eval x=u at*;generalize a.eval y=v at*;split at h
 ·rename_i k m k' n g l;rw[g]at f;rw[l]at i;cases f;cases i;cases hk:Rr k k' with
  |false=>rw[hk]at h;exact h.elim
  |true=>
   rw[hk]at h;have:k=k':=by simpa[Rr]using hk
   subst this;exact OE h
 ·rename_i m n g l;rw[g]at f;rw[l]at i;cases f;cases i;exact OD h
 ·rename_i t' d g l;rw[g]at f;rw[l]at i;cases i;split at h
  ·rename_i ti c;cases hk:s7 ti with
   |false=>rw[hk]at h;exact h.elim
   |true=>
    rw[hk]at h;obtain⟨e,q⟩:=(j _ _ c).ptr hk;cases f with
    |dptr _ _ _ hr=>
     cases hr with
     |Ah=>refine xN ?_ h;intro v C B w _;rcases B with rfl|rfl<;>simp[eqGuard_at_pointer,binOp,kS q,C]
     |ptr _ b o ds vf hl iJ iF=>refine xN ?_ h;intro v C B w _;rcases B with rfl|rfl<;>simp[eqGuard_at_pointer,binOp,kS q,C]
  ·exact h.elim
 ·rename_i cs off g l;rw[g]at f;rw[l]at i;cases i;cases hm:nb off fY with
  |true=>rw[hm]at h;exact h.elim
  |false=>
  rw[hm]at h;simp only[cond_false]at h;split at h
  ·rename_i ti c;cases hk:s7 ti with
   |false=>rw[hk]at h;exact h.elim
   |true=>
    rw[hk]at h;obtain⟨e,q⟩:=(j _ _ c).ptr hk;cases f with
    |cR _ vs _ _ b o hu _ _=>
     obtain rfl:=hu.get hm
     cases op<;>first
      |exact h.elim
      |exact⟨.bool false,_,by intro w _;simp[eqGuard_at_pointer,binOp,kS q],.bl _,h⟩
      |exact⟨.bool true,_,by intro w _;simp[eqGuard_at_pointer,binOp,kS q],.bl _,h⟩
  ·exact h.elim
 ·rename_i N off g l;rw[g]at f;rw[l]at i;cases i;split at h
  ·rename_i ti c;cases hk:s7 ti with
   |false=>rw[hk]at h;exact h.elim
   |true=>
    rw[hk]at h;obtain⟨e,q⟩:=(j _ _ c).ptr hk;cases f with
    |box _ _ gW _=>
     cases op<;>first
      |exact h.elim
      |exact⟨.bool false,_,by intro w _;simp[eqGuard_at_pointer,binOp,kS q],.bl _,h⟩
      |exact⟨.bool true,_,by intro w _;simp[eqGuard_at_pointer,binOp,kS q],.bl _,h⟩
  ·exact h.elim
 ·rename_i g l;rw[g]at f;rw[l]at i;cases i;split at h
  ·rename_i ti c;cases hk:s7 ti with
   |false=>rw[hk]at h;exact h.elim
   |true=>
    rw[hk]at h;obtain⟨e,q⟩:=(j _ _ c).ptr hk;cases f with
    |nilp=>
     cases op<;>first
      |exact h.elim
      |exact⟨.bool true,_,by intro w _;simp[eqGuard_at_pointer,binOp,kS q],.bl _,h⟩
      |exact⟨.bool false,_,by intro w _;simp[eqGuard_at_pointer,binOp,kS q],.bl _,h⟩
  ·exact h.elim
 ·rename_i us vs g l;rw[g]at f;rw[l]at i;split at h
  ·rename_i ti c;cases hk:(ti.Ao&&jQ ti.cd us&&jQ ti.cd vs)with
   |false=>rw[hk]at h;exact h.elim
   |true=>
    rw[hk]at h;simp only[bI]at hk;obtain⟨⟨h1,h2⟩,h3⟩:=hk;obtain⟨_,r,_⟩:=(j _ _ c).eqs h1;cases f with
    |agg xs _ z=>
    cases i with
    |agg ys _ A=>
     obtain⟨l1,L⟩:=ql h2 z;obtain⟨l2,I⟩:=ql h3 A;split at h
     ·rename_i b hb;have H:=EV hb z A;refine xN ?_ h;intro v C B w _;rw[r op x y xs ys w B l1 l2 L I,C,H]
     ·exact h.elim
  ·exact h.elim
 all_goals first
  |exact h.elim
  |(rename_i m n g l
    rw[g]at f;rw[l]at i;cases f;cases i;exact G0 j h)
def nM{v:Value}{q:PV}(h:VR tt E Pp v q)(j:flat q≠[]):fe tt E Pp v.cells.toList (flat q):=by
 cases h with
 |undef=>simp[flat]at j
 |agg vs cs hl=>exact hl
 |lst e v d hr=>cases hr<;>exact .cons _ _ _ _ (.lst _ _ _ (by constructor<;>assumption)) .nil
 |pe e a n d hr=>exact .cons _ _ _ _ (.pe _ _ _ _ hr) .nil
 |dptr t v d hr=>cases hr<;>exact .cons _ _ _ _ (.dptr _ _ _ (by constructor<;>assumption)) .nil
 |int=>exact .cons _ _ _ _ (.int _ _) .nil
 |bl=>exact .cons _ _ _ _ (.bl _) .nil
 |bool=>exact .cons _ _ _ _ (.bool _) .nil
 |str=>exact .cons _ _ _ _ (.str _) .nil
 |nilp=>exact .cons _ _ _ _ .nilp .nil
 |nilm=>exact .cons _ _ _ _ .nilm .nil
 |nF=>exact .cons _ _ _ _ .nF .nil
 |nilf=>exact .cons _ _ _ _ .nilf .nil
 |tup vs cs hl=>exact .cons _ _ _ _ (.tup _ _ hl) .nil
 |box _ _ _ c=>exact .cons _ _ _ _ (.box _ _ _ c) .nil
 |row0 _ _ c=>exact .cons _ _ _ _ (.row0 _ _ c) .nil
 |row _ _ _ _ _ _ c=>exact .cons _ _ _ _ (.row _ _ _ _ _ _ c) .nil
 |gp _ _ _ _ off _ _ _ _ c h0 h1=>
  have:v.cells.toList=[v]:=by
   by_cases g:off=fY
   ·obtain⟨⟨k,e,_⟩,_⟩:=h1.2 g;rw[e];rfl
   ·rw[(h1.1 g).1];rfl
  rw[this];exact .cons _ _ _ _ (.gp _ _ _ _ _ _ _ _ _ c h0 h1) .nil
 |kF _ _ _ _ _ _ _ _ hr h0 h1=>exact .cons _ _ _ _ (.kF _ _ _ _ _ _ _ _ hr h0 h1) .nil
 |cR _ _ _ off _ _ hu hl i=>
  have:v.cells.toList=[v]:=by
   by_cases g:off=fY
   ·rw[hu.2 g];rfl
   ·rw[hu.1 g];rfl
  rw[this];exact .cons _ _ _ _ (.cR _ _ _ _ _ _ hu hl i) .nil
 |tO _ _ _ _ _ hr=>exact .cons _ _ _ _ (.tO _ _ _ _ _ hr) .nil
 |cy _ f _ _ hu hl=>
  have:v.cells.toList=[v]:=by
   rcases cb f lR with hb|hb
   ·rw[hu.1 hb];rfl
   ·rw[hu.2 hb];rfl
  rw[this];exact .cons _ _ _ _ (.cy _ _ _ _ hu hl) .nil
 |mp _ _ _ _ c=>exact .cons _ _ _ _ (.mp _ _ _ _ c) .nil
 |dmp t e v d hr=>
  rcases hr.sr with⟨rfl,rfl⟩|⟨b,es,clock,rows,rfl,rfl,m⟩
  ·exact .cons _ _ _ _ (.dmp _ _ _ _ hr) .nil
  ·exact .cons _ _ _ _ (.dmp _ _ _ _ hr) .nil
 |lS _ _ c=>exact .cons _ _ _ _ (.lS _ _ c) .nil
 |it _ _ c=>exact .cons _ _ _ _ (.it _ _ c) .nil
def yf(l:List PV)(n:Nat):oB l n []=l:=by cases l<;>cases n<;>rfl
def ra:∀(l:List PV)(n:Nat)(ys:List PV),(oB l n ys).length=l.length
 |l,n,[]=>by rw[yf]
 |[],n,y::ys=>by cases n<;>rfl
 |x::xs,0,y::ys=>by simp[oB,ra xs 0 ys]
 |x::xs,n+1,y::ys=>by simp[oB,ra xs n (y::ys)]
def yg:∀(l:List PV)(n:Nat)(ys:List PV),n+ys.length<=l.length->∀j:Nat,(oB l n ys)[j]? =if n<=j/\j<n+ys.length then ys[j-n]? else l[j]?
 |l,n,[],_,j=>by rw[yf,if_neg (by simp<;>omega)]
 |[],n,y::ys,h,j=>yE h
 |x::xs,0,y::ys,h,j=>by
  simp only[oB];cases j with
  |zero=>simp
  |succ j=>have:=yg xs 0 ys (yU h) j;simp only[gR,this];simp
 |x::xs,n+1,y::ys,h,j=>by
  simp only[oB];cases j with
  |zero=>simp
  |succ j=>
   have:=yg xs n (y::ys) (by simp at h ⊢;omega) j;simp only[gR,this];by_cases hc:n<=j/\j<n+(y::ys).length
   ·rw[if_pos hc,if_pos yO];congr 1;omega
   ·rw[if_neg hc,if_neg yO]
def s9(ys:List Value):∀(off k:Nat)(vs:Array Value)(j:Nat),off+k+ys.length<=vs.size->
 ((ys.zipIdx k).foldl (λcs (x:Value×Nat)=>cs.setIfInBounds (off+x.2) x.1) vs)[j]? =if off+k<=j/\j<off+k+ys.length then ys[j-(off+k)]? else vs[j]? :=by
 induction ys with
 |nil=>intro off k vs j _;simp;omega
 |cons y ys c=>
  intro off k vs j h;simp only[List.zipIdx_cons,iG];rw[c off (k+1) _ j (by simp at h ⊢;omega)];by_cases h1:off+(k+1)<=j/\j<off+(k+1)+ys.length
  ·rw[if_pos h1,if_pos yQ];rw[show j-(off+k)=(j-(off+(k+1)))+1 by omega];simp
  ·rw[if_neg h1];by_cases h2:j=off+k
   ·subst h2;rw[if_pos yS,gy (by simp at h;omega)];simp
   ·rw[if_neg yQ,eD yO]
def rI(ys:List Value):∀(off k:Nat)(vs:Array Value),((ys.zipIdx k).foldl (λcs (x:Value×Nat)=>cs.setIfInBounds (off+x.2) x.1) vs).size=vs.size:=by
 induction ys with
 |nil=>intro off k vs;simp
 |cons y ys c=>intro off k vs;simp only[List.zipIdx_cons,iG];rw[c];simp
def Nw{us:List Value}{d q:List PV}(f:fe tt E Pp vs d)(hu:fe tt E Pp us q)(h:off+q.length<=d.length):
 fe tt E Pp ((us.zipIdx).foldl (λcs (x:Value×Nat)=>cs.setIfInBounds (off+x.2) x.1) (⟨vs⟩:Array Value)).toList (oB d off q):=by
 have l1:=f.length;have l2:=hu.length;refine fe.oE ?_ ?_
 ·have:=rI us off 0 ⟨vs⟩;simp only[ra];simp at this ⊢;omega
 ·intro j v p c e;rw[yg _ _ _ h]at e;have:=s9 us off 0 ⟨vs⟩ j yQ;rw[iq,this]at c;simp only[iS]at c;by_cases hc:off<=j/\j<off+q.length
  ·rw[if_pos hc]at e;rw[if_pos yO]at c;obtain⟨g,h1,h2⟩:=hu.get e;rw[c]at h1;cases h1;exact h2
  ·rw[if_neg hc]at e;rw[if_neg yO]at c;obtain⟨g,h1,h2⟩:=f.get e;simp at c;rw[c]at h1;cases h1;exact h2
def CL(hs:∀t,VR tt E Pp (a.tmps.getD t undef) (look s t))(fs:List (Nat×TypeId))(c:Nat->Option (Nat×Nat))
 (l:∀(i off:Nat) g f,wE fs i=some (off,g)->tt g=some f->c i=some (off,f.cd.length)):
 ∀(ps:List (Nat×Operand))(e:List PV)(vs:List Value)(out:List PV),fe tt E Pp vs e->mT s tt fs ps e=some out->
  ∃us,Instr.fill c ⟨vs⟩ (ps.map λp=>(p.1,a.eval p.2))=some ⟨us⟩/\fe tt E Pp us out:=by
 intro ps;induction ps with
 |nil=>intro e vs out k h;simp[mT]at h;subst h;exact⟨vs,rfl,k⟩
 |cons p ps r=>
  intro e vs out k h;obtain⟨i,x⟩:=p;simp only[mT]at h;split at h
  ·rename_i off g hf;split at h
   ·rename_i f q;have z:=jZ hs g x;cases hc:(nb (cv (flat (gj tt s g x))) (cv f.cd)&&nE (off+cv f.cd) (cv e)&&jv 0 (cv f.cd))with
    |false=>rw[hc]at h;simp at h
    |true=>
     rw[hc]at h;simp only[bI]at hc;obtain⟨⟨h1,h2⟩,h3⟩:=hc;have h1:=dH h1;have h2:=eO h2;have h3:0+1<=cv f.cd:=eO h3;simp only[cX]at h1 h2 h3;have d:=nM z (by intro h0;rw[h0]at h1;simp at h1;omega);have u:=d.length;have v:=k.length;have j:=Nw k d (off:=off) yO;obtain⟨us,m,n⟩:=r _ _ _ j h;refine⟨us,?_,n⟩;simp only[bO,Instr.fill,l _ _ _ _ hf q];have fL:(a.eval x).cells.size=f.cd.length:=by rw[<- gZ];omega
     rw[if_neg (by simp[fL];omega)];rw[<- m]
     congr 1
     apply j4;simp only[<- wM,J1]
   ·simp at h
  ·simp at h
end
end
section
section
variable {P:Program}{tt:TypeId->Option TI}{E:List RI}{Pp:ga}{objs:List Ob}{w:World}{W:World->Prop}
variable {a:Act}{s:dS}{ty t e B:TypeId}{K:PV->Prop}{x i:Operand}{k k':IntKind}{o f b len cap m r:Nat}{v:Value}{ts:Array TypeId}{A ti:TI}{vs:List Value}{n y:Int}{p:PV}{c:CK}{cs:List PV}{ps:Array (Nat×Operand)}{d:D}
def dB{i:Nat}{o:Ob}(h:eT objs i=o)(hl:o.live=true):objs[i]? =some o:=by
 rw[sA]at h;cases g:objs[i]? with
 |none=>simp[cj,g]at h;subst h;simp[Ob.live]at hl
 |some o'=>simp[cj,g]at h;rw[h]
def An(g:kj P B A)(h:A.cd≠[])(f:Go.Field)(hf:f.type=B)(a:Addr):(fieldPlace a f).run P w= .ok (a.add f.offset) w:=by
 obtain⟨_,h2,_,_⟩:=g.run w;simp only[fieldPlace,hf,Sem.run_bind,h2,Result.andThen_ok];have:A.cd.length≠0:=by grind
 simp[this]
def CM(C:fp P tt)(hs:∀t,VR tt E Pp (a.tmps.getD t undef) (look s t))
 (h:eU ec tt (.fieldAddr t x f) ty s objs K):iB P tt E Pp W (Instr.fieldAt t (a.eval x) f) K:=by
 simp only[eU]at h;split at h
 ·exact h.elim
 rename_i ti z;split at h
 ·exact h.elim
 rename_i G B hf;split at h
 ·exact h.elim
 rename_i A u;have I:=C _ _ z;have L:=C _ _ u;split at h
 ·exact h.elim
 rename_i q;have q:A.cd≠[]:=q;obtain⟨fields,fl,hu,H,N,J,_⟩:=I.field hf;have l:=ff hs x;generalize a.eval x=v at*;have go:∀(ad:Addr) pv,VR tt E Pp (.pointer (some (ad.add G))) pv->K pv->iB P tt E Pp W (Instr.fieldAt t (.pointer (some ad)) f) K:=by intro ad pv h1 h2;refine⟨_,pv,λw _=>?_,h1,h2⟩;simp[Instr.fieldAt,run_underlying hu,H,Instr.sureAddr,An L q fl J,N]
 split at h
 ·rename_i b off e;rw[e]at l;cases l with
  |box _ _ gW F=>exact go _ _ (by rw[fA];exact .box _ _ _ F) h
 ·rename_i O d i off e;rw[e]at l;cases l with
  |kF _ _ _ _ b o len cap hr h0 h1=>exact go _ _ (by rw[fA,eR];exact .kF _ _ _ _ _ _ _ _ hr h0 h1) h
 ·rename_i O r i off e;rw[e]at l;cases l with
  |gp _ _ _ _ _ g o len cap F h0 hu=>
   cases hm:nb off fY with
   |true=>rw[hm]at h;exact h.elim
   |false=>
   rw[hm]at h;simp only[cond_false]at h;cases j:nb (off+G) fY with
   |true=>rw[j]at h;exact h.elim
   |false=>
   rw[j]at h;obtain⟨rfl,h1⟩:=hu.get hm;exact go _ _ (by rw[fA,eR];exact .gp _ _ _ _ _ _ _ _ _ F h0 (.mk rfl j h1)) h
 ·rename_i cs off e;rw[e]at l;cases l with
  |cR _ _ _ _ b o hu hl M=>
   cases hm:nb off fY with
   |true=>rw[hm]at h;exact h.elim
   |false=>
   rw[hm]at h;simp only[cond_false]at h;cases j:nb (off+G) fY with
   |true=>rw[j]at h;exact h.elim
   |false=>rw[j]at h;obtain rfl:=hu.get hm;exact go _ _ (by rw[fA,eR];exact .cR _ _ _ _ _ _ (ru.mk j) hl M) h
 ·rename_i t' d off e;rw[e]at l;cases l with
  |tO _ _ _ b o hr=>exact go _ _ (by rw[fA,eR];exact .tO _ _ _ _ _ hr) h
 ·exact h.elim
def Cu(g:kj P B A){off:Nat}(h:off+A.cd.length<=vs.length):
 (part B ⟨vs⟩ off).run P w= .ok (valOf A ((vs.drop off).take A.cd.length)) w:=by
 obtain⟨h1,h2,_,_⟩:=g.run w;unfold part valOf;simp only[Sem.run_bind,h1,Result.andThen_ok];cases ha:A.agg with
 |true=>simp only[if_true,Sem.run_bind,h2,Result.andThen_ok,Sem.run_pure];simp[List.extract_eq_take_drop]
 |false=>
  obtain⟨c,hc⟩:=g.single ha;rw[hc]at h ⊢;simp at h;have:off<vs.length:=yO;have e1:(⟨vs⟩:Array Value)[off]? =some vs[off]:=yS;have e2:((vs.drop off).take [c].length).headD undef=vs[off]:=by rw[bM this];rfl
  simp only[cC,if_false,e1,e2,Sem.run_pure]
def LQ(q:fp P tt)(hs:∀t,VR tt E Pp (a.tmps.getD t undef) (look s t))
 (h:eU ec tt (.field t x f) ty s objs K):iB P tt E Pp W (Instr.field t (a.eval x) f) K:=by
 simp only[eU]at h;split at h
 ·exact h.elim
 rename_i ti j;split at h
 ·exact h.elim
 rename_i u B hf;split at h
 ·exact h.elim
 rename_i A g;have C:=q _ _ j;have l:=q _ _ g;obtain⟨fields,fl,hu,z,H,F,_⟩:=C.field hf;have G:=ff hs x;generalize a.eval x=v at*;split at h
 ·rename_i cs e;rw[e]at G;simp only[cX,uo,zN]at h;cases hb:nE (u+A.cd.length) cs.length with
  |false=>rw[hb]at h;exact h.elim
  |true=>
   rw[hb]at h;have hb:=eO hb;cases G with
   |agg vs _ hl=>have I:=hl.length;refine⟨_,_,λw _=>?_,nw l (by grind) ((hl.drop u).take A.cd.length),h⟩;have:=Cu (P:=P) (w:=w) l (vs:=vs) (off:=u) yO;simp[Instr.field,run_underlying hu,z,asAgg,F,H,this]
 ·exact h.elim
def uY{j:Nat}(h:Ep n=some j):n=(j:Int):=by
 cases n with
 |ofNat k=>simp only[Ep,cr]at h;subst h;rfl
 |negSucc k=>simp[Ep]at h
def kj.vB{P:Program}(h:kj P t ti)(ha:ti.agg=true)(g:ti.ar≠0):∃n,P.underlying t=some (.array n ti.el)/\ti.ar=n+1:=by obtain⟨n,e,hu⟩:=h.arr ha g;obtain⟨_,_,d,_,_,_,_,_,_,hd,j⟩:=h.info;rw[hu]at hd;cases hd;obtain⟨_,h1,h2,_⟩:=j;exact⟨n,by rw[h2];exact hu,h1⟩
def CF(M:fp P tt)(hw:RW tt E Pp objs W)(hs:∀t,VR tt E Pp (a.tmps.getD t undef) (look s t))
 (h:eU ec tt (.indexAddr t x i) ty s objs K):iB P tt E Pp W (Instr.indexAt t (a.eval x) (a.eval i)) K:=by
 simp only[eU]at h;split at h
 ·exact h.elim
 rename_i ti af;have S:=M _ _ af;have U:=ff hs x;have T:=ff hs i;generalize a.eval x=v at*;generalize a.eval i=u at*;split at h
 ·rename_i C e d k n h1 h2 h3;rw[h2]at U;rw[h3]at T;cases hb:nb C e with
  |false=>rw[hb]at h;exact h.elim
  |true=>
   rw[hb]at h;have:=dH hb;subst this;obtain⟨hu,aa,_⟩:=S.slice h1;obtain⟨H,h⟩:=h;split at h
   ·rename_i Q q;have I:bV tt C=Q.cd:=by simp[bV,q]
    cases T;obtain⟨N,F⟩:=H;cases U with
    |lst _ _ _ hr=>
     cases hr with
     |slnil=>simp[cp]at F;omega
     |Fz _ ad=>simp[cp]at F;omega
     |sl _ b o len cap rows vf hl hc ef iJ iF=>
      have da:n<(len:Int):=by simp[cp]at F;omega
      refine⟨_,_,λw _=>?_,.kF C _ n 0 b o len cap (.sl C b o len cap rows vf hl hc ef iJ iF) N da,h⟩;have z:=(M _ _ q).run w;have l:P.elem t=C:=by simp[Program.elem,hu]
      rw[run_indexAt_slice w t _ _ _ _ _ (by grind),if_pos ⟨N,da⟩,l,z.2.1];simp[fA,I]
   ·exact h.elim
 ·rename_i C e r k n h1 h2 h3;rw[h2]at U;rw[h3]at T;cases hb:nb C e with
  |false=>rw[hb]at h;exact h.elim
  |true=>
   rw[hb]at h;have:=dH hb;subst this;obtain⟨hu,aa,_⟩:=S.slice h1;simp only[cond_true]at h;split at h
   ·rename_i e' d wr ho;cases L:nb C e' with
    |false=>rw[L]at h;exact h.elim
    |true=>
     rw[L]at h;have:=dH L;subst this;obtain⟨H,h⟩:=h;split at h
     ·rename_i Q q;have I:bV tt C=Q.cd:=by simp[bV,q]
      cases T;obtain⟨N,F⟩:=H;have X:=dB ho rfl;cases U with
      |row0 _ _ V=>have:d= .list []:=hw.row0 _ _ _ _ X V;subst this;simp[cp]at F;omega
      |row _ _ g o len cap V=>
       obtain⟨vals,rows,rfl,hl,ef,ab⟩:=hw.row _ _ _ _ _ _ _ _ X V;have da:n<(len:Int):=by simp[cp]at F;omega
       refine⟨_,_,λw _=>?_,.gp _ C r n 0 g o len cap V N (.mk rfl rfl da),h⟩;have z:=(M _ _ q).run w;have l:P.elem t=C:=by simp[Program.elem,hu]
       rw[run_indexAt_slice w t _ _ _ _ _ (by grind),if_pos ⟨N,da⟩,l,z.2.1];simp[fA,I]
     ·exact h.elim
   ·exact h.elim
 ·rename_i C e r i off k n h1 h2 h3;rw[h2]at U;rw[h3]at T;cases hb:(nb C e&&nb off fY)with
  |false=>rw[hb]at h;exact h.elim
  |true=>
   rw[hb]at h;simp only[bI]at hb;have:=dH hb.1;subst this;have Y:=dH hb.2;subst Y;obtain⟨hu,aa,_⟩:=S.slice h1;simp only[cond_true]at h;split at h
   ·rename_i e' d wr ho;cases L:nb C e' with
    |false=>rw[L]at h;exact h.elim
    |true=>
     rw[L]at h;have:=dH L;subst this;obtain⟨H,h⟩:=h;split at h
     ·rename_i Q q;have I:bV tt C=Q.cd:=by simp[bV,q]
      cases T;obtain⟨N,F⟩:=H;have X:=dB ho rfl;cases U with
      |gp _ _ _ _ _ g o len cap V h0 hv=>
       obtain⟨⟨o1,rfl,ae⟩,aq⟩:=hv.LK;obtain⟨vals,rows,rfl,hl,ef,ab⟩:=hw.row _ _ _ _ _ _ _ _ X V;have F:n<(rows.length:Int)-i:=F;have da:n<((len-i.toNat:Nat):Int):=yO;have ae:o1=o+i.toNat*(bV tt C).length:=yO;refine⟨_,.gp C r (i+n) 0,λw _=>?_,.gp (.pointer (some ⟨g,o+(i+n).toNat*(bV tt C).length+0,none⟩)) C r (i+n) 0 g o len cap V yO (.mk rfl rfl yO),h⟩;have z:=(M _ _ q).run w;have l:P.elem t=C:=by simp[Program.elem,hu]
       rw[run_indexAt_slice w t _ _ _ _ _ (by grind),if_pos ⟨N,da⟩,l,z.2.1];have e2:(i+n).toNat=i.toNat+n.toNat:=yO;simp[fA,I,ae,e2,ez,eR]
     ·exact h.elim
   ·exact h.elim
 ·rename_i C cs off k n h1 h2 h3;rw[h2]at U;rw[h3]at T;split at h
  ·rename_i Q j q hj;cases hb:(nb off fY&&nb (cv Q.cd) 1&&jv j (cv cs))with
   |false=>rw[hb]at h;exact h.elim
   |true=>
    rw[hb]at h;simp only[bI]at hb;obtain⟨⟨Y,R⟩,G⟩:=hb;have Y:=dH Y;subst Y;have R:=dH R;have G:=eO G;rw[cX]at R G;have hn:=uY hj;subst hn;obtain⟨hu,aa,_⟩:=S.slice h1;simp only[cond_true]at h;cases J:nb j fY with
    |true=>rw[J]at h;exact h.elim
    |false=>
    rw[J]at h;cases T;cases U with
    |cR _ vs _ _ b o hv hl hp=>
     obtain rfl:=hv.LK;have ao:=hl.length;have da:((j:Nat):Int)<(vs.length:Int):=yO;refine⟨_,_,λw _=>?_,.cR _ vs cs j b o (ru.mk J) hl hp,h⟩;have z:=(M _ _ q).run w;have l:P.elem t=C:=by simp[Program.elem,hu]
     rw[run_indexAt_slice w t _ _ _ _ _ (by grind),if_pos ⟨cW _,da⟩,l,z.2.1];simp[fA,R]
  ·exact h.elim
 ·rename_i b off k n h1 h2 h3;rw[h2]at U;rw[h3]at T;split at h
  ·rename_i Q j q hj;cases hb:(ti.agg&&jv j (ti.ar-1)&&jv 0 (cv Q.cd))with
   |false=>rw[hb]at h;exact h.elim
   |true=>
    rw[hb]at h;simp only[bI]at hb;obtain⟨⟨Z,G⟩,ac⟩:=hb;have G:=eO G;have hn:=uY hj;subst hn;obtain⟨n,hu,aj⟩:=S.vB Z yO;cases T;cases U with
    |box _ _ gW V=>
     refine⟨_,_,λw _=>?_,.box b (off+j*cv Q.cd) gW V,h⟩;have z:=(M _ _ q).run w;have l:P.elem t=ti.el:=by simp[Program.elem,hu]
     have O:P.arrayLen t=n:=by simp[Program.arrayLen,hu]
     rw[run_indexAt_array w t _ _ _ (by grind),O,if_pos ⟨cW _,yO⟩,l,z.2.1];simp[fA,cX,eR]
  ·exact h.elim
 ·rename_i cs off k n h1 h2 h3;rw[h2]at U;rw[h3]at T;split at h
  ·rename_i Q j q hj;cases hb:(ti.agg&&jv j (ti.ar-1)&&jv 0 (cv Q.cd))with
   |false=>rw[hb]at h;exact h.elim
   |true=>
    rw[hb]at h;simp only[bI]at hb;obtain⟨⟨Z,G⟩,ac⟩:=hb;have G:=eO G;have hn:=uY hj;subst hn;obtain⟨n,hu,aj⟩:=S.vB Z yO;simp only[cond_true]at h;cases Y:nb off fY with
    |true=>rw[Y]at h;exact h.elim
    |false=>
    rw[Y]at h;simp only[cond_false]at h;cases J:nb (off+j*cv Q.cd) fY with
    |true=>rw[J]at h;exact h.elim
    |false=>
    rw[J]at h;cases T;cases U with
    |cR _ vs _ _ b o hv hl hp=>
     obtain rfl:=hv.get Y;refine⟨_,_,λw _=>?_,.cR _ vs cs (off+j*cv Q.cd) b o (ru.mk J) hl hp,h⟩;have z:=(M _ _ q).run w;have l:P.elem t=ti.el:=by simp[Program.elem,hu]
     have O:P.arrayLen t=n:=by simp[Program.arrayLen,hu]
     rw[run_indexAt_array w t _ _ _ (by grind),O,if_pos ⟨cW _,yO⟩,l,z.2.1];simp[fA,cX,eR]
  ·exact h.elim
 ·exact h.elim
def jm(hs:∀t,VR tt E Pp (a.tmps.getD t undef) (look s t)){o:Option Operand}{d:Int}{K:Int->Prop}(h:xy s o d K):
 ∃n,K n/\((o=none/\n=d)\/∃x k,o=some x/\a.eval x= .int k n):=by
 unfold xy at h;split at h
 ·grind
 ·rename_i x;split at h
  ·rename_i k n j;have:=ff hs x;rw[j]at this;generalize g:a.eval x=v at*;cases this;exact⟨n,h,.inr ⟨x,_,rfl,g⟩⟩
  ·exact h.elim
def eL{y:Nat}{c:BoundsCode}(h:0<=n/\n<=y):(Instr.sliceBound (.int k n) y c).run P w= .ok n.toNat w:=by simp[Instr.sliceBound,asIntOf,h]
def RD.part{e:Nat}{rows:List (List D)}(hr:RD tt Pp (.slice e) (.slice (some ⟨b,o,none⟩) len cap) (.list rows)){l h:Nat}(z:l<=h)(C:h<=m)(u:h<=len):
 RD tt Pp (.slice e) (.slice (some (if m=l then(⟨b,o,none⟩:Addr)else⟨b,o+l*(bV tt e).length,none⟩)) (h-l) (m-l)) (.list ((rows.drop l).take (h-l))):=by
 cases hr with
 |Fz _ ad=>have:h=0:=yO;have:l=0:=yO;subst_vars;split<;>exact .sl e b _ 0 _ _ (λ_ _=>undef) yS yO (λi row g=>yE g) (λi j g=>yO) (λi j row d ck g=>yE g)
 |sl _ _ _ _ _ _ vf hl hc ef iJ iF=>
  by_cases q:m=l
  ·rw[if_pos q];have:h-l=0:=yO;rw[this];exact .sl e b o 0 (m-l) _ (λ_ _=>undef) yS yO (λi row g=>yE g) (λi j g=>yO) (λi j row d ck g=>yE g)
  ·rw[if_neg q];refine .sl e b _ (h-l) (m-l) _ (λi j=>vf (l+i) j) (by grind) yO ?_ ?_ ?_
   ·grind
   ·grind
   ·grind
def Mq(q:RW tt E Pp objs W)(h:VR tt E Pp v p):VR tt E Pp v (Mr objs p):=by
 unfold Mr;split
 ·rename_i e r;split
  ·rename_i z d u;cases hb:nb e z with
   |false=>exact .undef _
   |true=>
    have:=dH hb;subst this;have j:=dB u rfl;cases h with
    |row0 _ _ l=>have:=q.row0 _ _ _ _ j l;subst this;exact .lst _ _ _ (.slnil _)
    |row _ _ g o len cap l=>exact .lst _ _ _ (q.om _ _ _ _ _ _ _ j l)
  ·exact .undef _
 ·exact h
def GG(h:tP c p=true)(g:VR tt E Pp v p):RD tt Pp c v (sN p):=by
 cases g<;>cases c<;>simp only[tP,decide_eq_true_eq,cC]at h
 case int.int=>subst h;exact .int _ _
 case bl.bool=>exact .bool _
 case bool.bool=>exact .bool _
 case str.str=>exact .str _
 case lst.slice=>have:=dH h;subst this;assumption
 case dptr.ptr=>have:=dH h;subst this;assumption
 case nilp.ptr=>exact .Ah _
 case nilm.map=>exact .Cv _ _
 case dmp.map=>
  have:=dH h;subst this;rename_i hr;rcases hr.sr with⟨rfl,rfl⟩|⟨b,es,clock,rows,rfl,rfl,m⟩
  ·exact .Cv _ _
  ·exact m.rd _
 case nilf.fn=>exact .LP
def zd(l:List PV):Ek l=l.map λp=>[sN p]:=by induction l<;>simp[Ek, *]
def xn:∀{cs:List PV},sE [c] cs=true->∀p∈cs,tP c p=true
 |[],_,p,g=>yE g
 |q::cs,h,p,g=>by
  simp only[sE,bI]at h;rcases bP.1 g with rfl|g
  ·exact h.1
  ·exact xn h.2 p g
def Mc{cd:List CK}(q:bV tt e=cd)(u:cd.length=1)(l:sE cd cs=true)(hl:fe tt E Pp vs cs)
 (H:∀(j:Nat) v,vs[j]? =some v->Pp ⟨b,o+j,none⟩ v) (G:cs.length=r) (C:r<=m):RD tt Pp (.slice e) (.slice (some ⟨b,o,none⟩) r m) (.list (Ek cs)):=by
 match cd,u with
 |[c],_=>
 have F:=hl.length;refine .sl e b o r m _ (λi _=>vs.getD i undef) (by rw[zd,bQ,G]) C ?_ ?_ ?_
 ·intro i row g;rw[zd,cw]at g;cases h:cs[i]? with
  |none=>rw[h]at g;cases g
  |some p=>rw[h]at g;cases g;rw[q];rfl
 ·grind
 ·intro i j row d ck g z hc;rw[q]at hc;rw[zd,cw]at g;cases h:cs[i]? with
  |none=>rw[h]at g;cases g
  |some p=>
   rw[h]at g;cases g;cases j with
   |succ j=>simp at hc
   |zero=>
    simp at z hc;subst z hc;obtain⟨v,h1,h2⟩:=hl.get h;have:vs.getD i undef=v:=by grind
    rw[this];exact GG (xn l p (fv h)) h2
def Ld(hs:∀t,VR tt E Pp (a.tmps.getD t undef) (look s t)){o:Option Operand}(h:HX s o=some r):∃x k,o=some x/\a.eval x= .int k (r:Int):=by
 cases o with
 |none=>simp[HX]at h
 |some x=>
  simp only[HX]at h;have g:=ff hs x;split at h
  ·rename_i k n e;rw[e]at g;have:=uY h;subst this;obtain⟨u,hu⟩:∃u,u=a.eval x:=⟨_,rfl⟩;rw[<- hu]at g;cases g;exact⟨x,_,rfl,hu.symm⟩
  ·cases h
def Kw(J:fp P tt)(hw:RW tt E Pp objs W)(hs:∀t,VR tt E Pp (a.tmps.getD t undef) (look s t)){lo hi mx:Option Operand}
 (h:eU ec tt (.slice t x lo hi mx) ty s objs K):iB P tt E Pp W (Instr.sliceAt t (a.eval x) (lo.map a.eval) (hi.map a.eval) (mx.map a.eval)) K:=by
 simp only[eU]at h;have U:=Mq hw (ff hs x);generalize a.eval x=v at*;split at h
 ·rename_i cs off hb;rw[hb]at U;split at h
  ·rename_i ti g;split at h
   ·rename_i Z L;cases hb:(ti.agg&&nb (cv Z.cd) 1&&jv 0 ti.ar&&nb off 0&&nb (cv cs) (ti.ar-1)&&Qo lo)with
    |false=>rw[hb]at h;exact h.elim
    |true=>
     rw[hb]at h;simp only[bI]at hb;obtain⟨⟨⟨⟨⟨an,C⟩,Q⟩,M⟩,ab⟩,q⟩:=hb;have C:=dH C;have M:=dH M;have ab:=dH ab;have Q:=eO Q;subst M;rw[cX]at C ab;simp only[cond_true]at h;split at h
     ·rename_i r hr;cases hb:(nE r (cv cs)&&sE Z.cd (qV r cs))with
      |false=>rw[hb]at h;exact h.elim
      |true=>
       rw[hb]at h;simp only[bI]at hb;obtain⟨I,S⟩:=hb;have I:=eO I;rw[cX]at I;rw[uo]at h S;obtain⟨m,hu,aF⟩:=(J _ _ g).vB an yO;obtain⟨x,k,rfl,ao⟩:=Ld hs hr;cases U with
       |cR _ vs _ _ b o hv hl hp=>
        obtain rfl:=hv.get rfl;have aE:=hl.length;have ax:bV tt ti.el=Z.cd:=by simp[bV,L]
        refine⟨.slice (some ⟨b,o,none⟩) r m,_,λw _=>?_,.lst ti.el _ _ (Mc (m:=m) ax C S (hl.take r) (λj v hj=>hp j v (by
         rw[xu]at hj;split at hj
         ·exact hj
         ·cases hj)) (by grind) yO),h⟩
        have ah:lo=none:=by cases lo<;>simp_all[Qo]
        subst ah;obtain⟨_,aa,_,_⟩:=(J _ _ L).run w;have G:=eL (P:=P) (w:=w) (k:=k) (n:=(r:Int)) (y:=m) (c:=.sliceAlen) ⟨cW _,yO⟩;simp[Instr.sliceAt,run_underlying hu,Instr.sliceBounds,ao,aa,fA,Instr.sureAddr,G]
     ·exact h.elim
   ·exact h.elim
  ·exact h.elim
 ·rename_i b hb;rw[hb]at U;split at h
  ·rename_i ti g;cases hk:isStr ti with
   |false=>rw[hk]at h;exact h.elim
   |true=>
    rw[hk]at h;simp only[cond_true]at h;have hu:=(J _ _ g).str hk;obtain⟨l,h,q⟩:=jm hs h;obtain⟨r,h,z⟩:=jm hs h;obtain⟨⟨F,H⟩,⟨u,O⟩,h⟩:=h;cases U with
    |str s=>
     have fL:s.data.toList.length=s.size:=yS;simp only[fL]at H z;refine⟨.string (s.extract l.toNat r.toNat),.str (s.extract l.toNat r.toNat).data.toList,λw _=>?_,.str _,?_⟩
     ·simp only[Instr.sliceAt,Sem.run_bind,run_underlying hu,Result.andThen_ok,Instr.slice,Ab,ou,cC,if_false,Instr.sliceBounds];rcases z with⟨rfl,rfl⟩|⟨x2,k2,rfl,e2⟩
      ·rcases q with⟨rfl,rfl⟩|⟨x1,V,rfl,e1⟩
       ·simp
       ·simp[e1,eL (P:=P) (w:=w) ⟨u,O⟩]
      ·rcases q with⟨rfl,rfl⟩|⟨x1,V,rfl,e1⟩
       ·simp[e2,eL (P:=P) (w:=w) ⟨F,H⟩]
       ·simp[e1,e2,eL (P:=P) (w:=w) ⟨F,H⟩,eL (P:=P) (w:=w) (k:=V) (n:=l) (y:=r.toNat) ⟨u,yO⟩]
     ·simp_all
  ·exact h.elim
 ·rename_i e d hd;rw[hd]at U;split at h
  ·rename_i ti g;split at h
   ·rename_i Y am;cases hb:nb Y e with
    |false=>rw[hb]at h;exact h.elim
    |true=>
     rw[hb]at h;have:=dH hb;subst this;obtain⟨hu,aH,_⟩:=(J _ _ g).slice am;simp only[cond_true]at h;split at h
     ·rename_i Z L;have af:bV tt Y=Z.cd:=by simp[bV,L]
      have fin:∀(l r m:Nat)(base:Option Addr)(len cap:Nat),VR tt E Pp (.slice base len cap) (.lst Y d)->l<=r->r<=len->r<=m->m<=cap->
       (∀w:World,(Instr.sliceBounds true len cap (lo.map a.eval) (hi.map a.eval) (mx.map a.eval)).run P w= .ok (l,r,m) w)->((m=r/\K (.pe Y (ec.part d l r)))\/K (.lst Y (ec.part d l r)))->
       iB P tt E Pp W (Instr.sliceAt t (.slice base len cap) (lo.map a.eval) (hi.map a.eval) (mx.map a.eval)) K:=by
       intro l r m base len cap hv av I ay aK aB hk;have T:∀w,W w->(Instr.sliceAt t (.slice base len cap) (lo.map a.eval) (hi.map a.eval) (mx.map a.eval)).run P w= .ok (.slice (if m=l then base else base.map (·.add (l*Z.cd.length))) (r-l) (m-l)) w:=by intro w _;have aa:=(J _ _ L).run w;simp[Instr.sliceAt,run_underlying hu,Instr.slice,aB,aa.2.1]
       have iF:RD tt Pp (.slice Y) (.slice (if m=l then base else base.map (·.add (l*Z.cd.length))) (r-l) (m-l)) (ec.part d l r):=by
        cases hv with
        |lst _ _ _ hr=>
         cases hr with
         |slnil=>have:r=0:=yO;have:l=0:=yO;have:m=0:=yO;subst_vars;simpa[cp]using RD.slnil (tt:=tt) (Pp:=Pp) _
         |Fz _ ad=>have:r=0:=yO;have:l=0:=yO;have:m=0:=yO;subst_vars;simpa[cp]using RD.Fz (tt:=tt) (Pp:=Pp) _ ad
         |sl _ b o _ _ rows vf hl hc ef iJ iF=>
          have:=RD.part (.sl Y b o len cap rows vf hl hc ef iJ iF) av ay I;rw[af]at this;by_cases au:m=l
          ·simp_all
          ·simpa[au,cp,fA]using this
       rcases hk with⟨ag,hk⟩|hk
       ·exact⟨_,_,T,by rw[<- ag];subst ag;exact .pe _ _ _ _ iF,hk⟩
       ·exact⟨_,_,T,.lst _ _ _ iF,hk⟩
      have N:∃base len cap,v= .slice base len cap/\((cp d).length:Int)=(len:Int)/\len<=cap:=by
       cases U with
       |lst _ _ _ hr=>
        cases hr with
        |slnil=>exact⟨none,0,0,rfl,by simp[cp],ca _⟩
        |Fz _ ad=>exact⟨some ad,0,0,rfl,by simp[cp],ca _⟩
        |sl _ b o len cap rows vf hl hc ef iJ iF=>exact⟨_,len,cap,rfl,by simp[cp,hl],hc⟩
      obtain⟨base,len,cap,rfl,R,aC⟩:=N;split at h
      ·obtain⟨l,h,q⟩:=jm hs h;obtain⟨r,h,z⟩:=jm hs h;obtain⟨⟨F,H⟩,⟨u,O⟩,h⟩:=h;rw[R]at H z;refine fin l.toNat r.toNat cap base len cap U yO yO yO (ca _) ?_ (.inr (by grind));intro w;simp only[Instr.sliceBounds,Ab,Sem.run_bind,Sem.run_pure,Result.andThen_ok];rcases z with⟨rfl,rfl⟩|⟨x2,k2,rfl,e2⟩
       ·rcases q with⟨rfl,rfl⟩|⟨x1,V,rfl,e1⟩
        ·simp
        ·simp[e1,eL (P:=P) (w:=w) ⟨u,O⟩]
       ·have G:=eL (P:=P) (w:=w) (k:=k2) (n:=r) (y:=cap) (c:=.sliceAcap) ⟨F,yO⟩;rcases q with⟨rfl,rfl⟩|⟨x1,V,rfl,e1⟩
        ·simp[e2,G]
        ·simp[e1,e2,G,eL (P:=P) (w:=w) (k:=V) (n:=l) (y:=r.toNat) ⟨u,yO⟩]
      ·rename_i m0;obtain⟨l,h,q⟩:=jm hs h;split at h
       ·exact h.elim
       rename_i h0;obtain⟨r,h,z⟩:=jm hs h;obtain⟨m,h,aq⟩:=jm hs h;obtain⟨⟨ap,ar⟩,⟨F,H⟩,⟨u,O⟩,h⟩:=h;rw[R]at ar;refine fin l.toNat r.toNat m.toNat base len cap U yO yO yO yO ?_ (by grind);intro w;simp only[Instr.sliceBounds];rcases aq with⟨X,_⟩|⟨x3,k3,az,e3⟩
       ·simp at X
       rcases z with⟨X,_⟩|⟨x2,k2,al,e2⟩
       ·simp at X
       cases az;cases al;have aA:=eL (P:=P) (w:=w) (k:=k3) (n:=m) (y:=cap) (c:=.slice3Acap) ⟨ap,yO⟩;have G:=eL (P:=P) (w:=w) (k:=k2) (n:=r) (y:=m.toNat) (c:=.slice3B) ⟨F,yO⟩;rcases q with⟨rfl,rfl⟩|⟨x1,V,rfl,e1⟩
       ·simp_all
       ·simp[e1,e2,e3,G,aA,eL (P:=P) (w:=w) (k:=V) (n:=l) (y:=r.toNat) (c:=.slice3C) ⟨u,yO⟩]
     ·exact h.elim
   ·exact h.elim
  ·exact h.elim
 ·exact h.elim
def Qt(L:fp P tt)(I:RW tt E Pp objs W)(hs:∀t,VR tt E Pp (a.tmps.getD t undef) (look s t)){as:Array Operand}
 (h:eU ec tt (.call { callee:=.builtin .len,args:=as,argTypes:=ts }) ty s objs K):iB P tt E Pp W (Builtin.len_ ts ty (as.map a.eval)) K:=by
 simp only[eU]at h;split at h
 ·rename_i x t V S;obtain rfl:as= #[x]:=by grind
  obtain rfl:ts= #[t]:=by grind
  split at h
  ·exact h.elim
  rename_i ti G;have q:=L _ _ G;have j:=jZ hs t x;have C:Builtin.len_ #[t] ty (#[x].map a.eval)=Builtin.len_ #[t] ty #[a.eval x]:=yS;rw[C];generalize a.eval x=v at*;split at h
  ·rename_i J e d h1 h2;rw[h2]at j;obtain⟨hu,_,_⟩:=q.slice h1;cases j with
   |lst _ _ _ hr=>
    cases hr with
    |slnil=>exact⟨_,_,by intro w _;simp only[Builtin.len_];simp[run_underlying hu];rfl,.int _ _,by simpa[cp]using h⟩
    |Fz _ ad=>exact⟨_,_,by intro w _;simp only[Builtin.len_];simp[run_underlying hu];rfl,.int _ _,by simpa[cp]using h⟩
    |sl _ b o len cap rows vf hl hc ef iJ iF=>exact⟨_,_,by intro w _;simp only[Builtin.len_];simp[run_underlying hu];rfl,.int _ _,by simpa[cp,hl]using h⟩
  ·rename_i J e r h1 h2;rw[h2]at j;obtain⟨hu,_,_⟩:=q.slice h1;split at h
   ·rename_i H d wr F;cases hb:nb e H with
    |false=>rw[hb]at h;exact h.elim
    |true=>
     rw[hb]at h;have u:=dB F rfl;cases j with
     |row0 _ _ z=>have:d= .list []:=I.row0 _ _ _ _ u z;subst this;exact⟨_,_,by intro w _;simp only[Builtin.len_];simp[run_underlying hu];rfl,.int _ _,by simpa[cp]using h⟩
     |row _ _ g o len cap z=>obtain⟨vals,rows,rfl,hl,ef,l⟩:=I.row _ _ _ _ _ _ _ _ u z;exact⟨_,_,by intro w _;simp only[Builtin.len_];simp[run_underlying hu];rfl,.int _ _,by simpa[cp,hl]using h⟩
   ·exact h.elim
  ·rename_i J e r i off h1 h2;rw[h2]at j;obtain⟨hu,_,_⟩:=q.slice h1;split at h
   ·rename_i H d wr F;cases hb:(nb e H&&nb off fY)with
    |false=>rw[hb]at h;exact h.elim
    |true=>
     rw[hb]at h;simp only[bI]at hb;have O:=dH hb.2;subst O;have Q:=dH hb.1;subst Q;have u:=dB F rfl;cases j with
     |gp _ _ _ _ _ g o len cap z h0 j=>obtain⟨⟨T,rfl,N⟩,R⟩:=j.LK;obtain⟨vals,rows,rfl,hl,ef,l⟩:=I.row _ _ _ _ _ _ _ _ u z;refine⟨_,_,by intro w _;simp only[Builtin.len_];simp[run_underlying hu];rfl,.int _ _,?_⟩;have e2:((len-i.toNat:Nat):Int)=(rows.length:Int)-i:=yO;rw[e2];exact h
   ·exact h.elim
  ·rename_i J cs off h1 h2;rw[h2]at j;obtain⟨hu,_,_⟩:=q.slice h1;cases hb:nb off fY with
   |false=>rw[hb]at h;exact h.elim
   |true=>
    rw[hb]at h;have hb:=dH hb;subst hb;cases j with
    |cR _ vs _ _ b o j hl U=>obtain rfl:=j.LK;refine⟨_,_,by intro w _;simp only[Builtin.len_];simp[run_underlying hu];rfl,.int _ _,?_⟩;have:=hl.length;rw[this,<-cX];exact h
  ·rename_i b h1 h2;rw[h2]at j;cases hb:isStr ti with
   |false=>rw[hb]at h;exact h.elim
   |true=>
    rw[hb]at h;have hu:=q.str hb;cases j with
    |str s=>exact⟨_,_,by intro w _;simp only[Builtin.len_];simp[run_underlying hu];rfl,.int _ _,yU h⟩
  ·rename_i m h1 h2;rw[h2]at j;cases hb:isMap ti with
   |false=>rw[hb]at h;exact h.elim
   |true=>
    rw[hb]at h;obtain⟨k,e,hu,_,_,_⟩:=q.map hb;simp only[cond_true]at h;split at h
    ·rename_i kc H d F;have u:=dB F rfl;cases j with
     |mp _ b bs cl z=>have l:=I.map _ _ _ _ _ _ _ u z;refine⟨goInt (cp d).length,.int .i64 (cp d).length,λw M=>?_,.int _ _,yU h⟩;obtain⟨es,clock,rows,hb,rfl,hl⟩:=l w M;simp only[Builtin.len_];simp[run_underlying hu,getObj,Sem.run,hb,cp,hl]
    ·exact h.elim
  ·exact h.elim
 ·exact h.elim
def zc{f:Go.Field->Option (Nat×Nat)}:∀{l:List Go.Field}{pl:List (Nat×Nat)},l.mapM f=some pl->∀i:Nat,pl[i]? =(l[i]?).bind f
 |[],pl,h,i=>by simp at h;subst h;simp
 |x::l,pl,h,i=>by
  simp only[Dj,Option.bind_eq_bind,Option.pure_def,lA]at h;obtain⟨y,j,ys,g,h⟩:=h;simp at h;subst h;cases i with
  |zero=>simp[j]
  |succ i=>simpa using zc g i
def qP(cd:List CK):fe tt E Pp (cd.map zeroV) (cd.map iy):=by
 induction cd with
 |nil=>exact .nil
 |cons c cd g=>
  refine .cons _ _ _ _ ?_ g;cases c with
  |int=>exact .int _ _
  |bool=>exact .bl _
  |str=>exact .str ⟨#[]⟩
  |slice=>exact .lst _ _ _ (.slnil _)
  |ptr=>exact .nilp
  |map=>exact .nilm
  |fn=>exact .nilf
  |iM=>exact .undef _
def BO{S:Nat}:∀(n off i:Nat)(x:Nat×TypeId),wE (zW e S off n) i=some x->x=(off+i*S,e)
 |0,off,i,x,h=>by simp[zW,wE]at h
 |n+1,off,0,x,h=>by simp[zW,wE]at h;simp[<- h]
 |n+1,off,i+1,x,h=>by simp only[zW,wE]at h;rw[BO n (off+S) i x h,ez];simp;omega
def IB(u:fp P tt)(hs:∀t,VR tt E Pp (a.tmps.getD t undef) (look s t))(q:tt t=some ti)(hb:(ti.agg&&nb ti.ar 0)=true){g:List PV}
 (F:fe tt E Pp (ti.cd.map zeroV) g) (L:mT s tt ti.fs ps.toList g=some cs):∃v,(∀w,(Instr.build t (ps.map λ(i,x)=>(i,a.eval x))).run P w= .ok v w)/\VR tt E Pp v (.agg cs):=by
 have l:=u _ _ q;obtain⟨i,z,d,T,fL,Q,R,I,_,hd,U⟩:=l.info;have j:z.cells=⟨ti.cd.map zeroV⟩:=by rw[<- I]
 simp only[bI]at hb;cases d with
 |struct fields=>obtain⟨_,O,pl,h⟩:=U;have C:=zc h;obtain⟨us,h1,h2⟩:=CL hs ti.fs (λi=>pl[i]?) (by intro i off B A hf N;obtain⟨_,fl,hu,H,S,M,_⟩:=l.field hf;rw[hd]at hu;cases hu;obtain⟨V,_,_,G,J,_⟩:=(u _ _ N).info;have:=C i;simp only[iq,H,iY,M,G,cu,S,J]at this;exact this) ps.toList g (ti.cd.map zeroV) cs F L;refine⟨.agg ⟨us⟩,λw=>?_,.agg _ _ h2⟩;simp[Instr.build,run_underlying hd,typeInfo,zeroValue,T,R,pF,run_places w _ _ h,j,h1]
 |array n e=>have:=dH hb.2;simp_all
 |_=>simp_all
def Ml(F:fp P tt)(hs:∀t,VR tt E Pp (a.tmps.getD t undef) (look s t))
 (h:eU ec tt (.build t ps) ty s objs K):iB P tt E Pp W (Instr.build t (ps.map λ(i,x)=>(i,a.eval x))) K:=by
 simp only[eU]at h;split at h
 ·exact h.elim
 rename_i ti H;have q:=F _ _ H;have V:(ps.map λ(i,x)=>(i,a.eval x)).toList=ps.toList.map λp=>(p.1,a.eval p.2):=yS;obtain⟨i,z,d,T,fL,Z,S,Q,_,hd,U⟩:=q.info;have l:z.cells=⟨ti.cd.map zeroV⟩:=by rw[<- Q]
 cases hb:(ti.agg&&nb ti.ar 0)with
 |false=>
  rw[hb]at h;simp only[cond_false]at h;cases g:ti.agg with
  |false=>rw[g]at h;exact h.elim
  |true=>
   rw[g]at h;simp only[cond_true]at h;split at h
   ·rename_i L I;split at h
    ·rename_i cs C;cases d with
     |array n e=>
      obtain⟨_,X,M,_⟩:=U;have u:∀w:World,(sizeOf e).run P w= .ok L.cd.length w:=λw=>by obtain⟨_,h2,_,_⟩:=(F _ _ I).run w;rw[<- M];exact h2
      obtain⟨us,h1,h2⟩:=CL hs (zW ti.el (cv L.cd) 0 (ti.ar-1)) (λi=>some (i*L.cd.length,L.cd.length)) (by intro i off B A hf j;have:=BO _ _ _ _ hf;simp only[ey,cX,fk]at this;obtain⟨rfl,rfl⟩:=this;rw[I]at j;cases j;rfl) ps.toList (ti.cd.map iy) (ti.cd.map zeroV) cs (qP _) C;refine⟨.agg ⟨us⟩,.agg cs,λw _=>?_,.agg _ _ h2,h⟩;simp[Instr.build,run_underlying hd,typeInfo,zeroValue,T,S,u,l,h1]
     |struct fields=>
      have:ti.ar≠0:=by intro h0;rw[g,h0]at hb;simp[lW]at hb
      obtain⟨n,e,hu⟩:=q.arr g this;rw[hd]at hu;cases hu
     |_=>simp_all
    ·exact h.elim
   ·exact h.elim
 |true=>
  rw[hb]at h;simp only[cond_true]at h;simp only[bI]at hb;split at h
  ·rename_i cs C;cases d with
   |struct fields=>obtain⟨_,Y,pl,G⟩:=U;have J:=zc G;obtain⟨us,h1,h2⟩:=CL hs ti.fs (λi=>pl[i]?) (by intro i off B A hf j;obtain⟨_,fl,hu,O,ho,R,_⟩:=q.field hf;rw[hd]at hu;cases hu;obtain⟨i2,_,_,N,u,_⟩:=(F _ _ j).info;have:=J i;simp only[iq,O,iY,R,N,cu,ho,u]at this;exact this) ps.toList (ti.cd.map iy) (ti.cd.map zeroV) cs (qP _) C;refine⟨.agg ⟨us⟩,.agg cs,λw _=>?_,.agg _ _ h2,h⟩;simp[Instr.build,run_underlying hd,typeInfo,zeroValue,T,S,pF,run_places w _ _ G,l,h1]
   |array n e=>have:=dH hb.2;simp_all
   |_=>simp_all
  ·exact h.elim
def Bs:∀{cs:List PV}{ns:List Int}{vs:List Value},zn k cs=some ns->fe tt E Pp vs cs->vs=ns.map (Value.int k)
 |[],ns,vs,h,j=>by simp[zn]at h;subst h;cases j;rfl
 |p::cs,ns,vs,h,j=>by
  cases j with
  |cons v _ vs _ h1 h2=>
   cases p<;>simp only[zn]at h<;>try (simp at h;done)
   rename_i k' n;cases hk:Rr k k' with
   |false=>rw[hk]at h;simp at h
   |true=>
    rw[hk]at h;have l:k=k':=by simpa[Rr]using hk
    subst l;simp only[cond_true]at h;split at h
    ·rename_i q g;simp at h;subst h;cases h1;rw[Bs g h2];rfl
    ·simp at h
def Lw(g:fp P tt)(hs:∀t,VR tt E Pp (a.tmps.getD t undef) (look s t))
 (h:eU ec tt (.index t x i) ty s objs K):iB P tt E Pp W (Instr.index t (a.eval x) (a.eval i)) K:=by
 simp only[eU]at h;split at h
 ·exact h.elim
 rename_i ti R;have C:=g _ _ R;have T:=ff hs x;have M:=ff hs i;generalize a.eval x=v at*;generalize a.eval i=u at*;split at h
 ·rename_i b k n H J;rw[H]at T;rw[J]at M;cases hk:isStr ti with
  |false=>rw[hk]at h;exact h.elim
  |true=>
   rw[hk]at h;simp only[cond_true]at h;have hu:=C.str hk;cases T with
   |str s=>
    cases M;obtain⟨⟨h0,h1⟩,h⟩:=h;have ad:n<(s.size:Int):=by simp_all
    refine⟨.int .u8 (s[n.toNat]'yO).toNat,_,λw _=>?_,.int _ _,?_⟩
    ·rw[run_index_string w t s _ n hu,dif_pos ⟨h0,ad⟩]
    ·have hb:n.toNat<s.data.toList.length:=yQ;have:(s.data.toList.getD n.toNat 0)=s[n.toNat]'yO:=by simp[cj,bB hb];rfl
     simp only[this]at h;exact h
 ·rename_i cs k n H J;rw[H]at T;rw[J]at M;cases hb:(ti.agg&&jv 0 ti.ar&&nb (cv cs) (ti.ar-1))with
  |false=>rw[hb]at h;exact h.elim
  |true=>
   rw[hb]at h;simp only[bI]at hb;obtain⟨⟨V,S⟩,L⟩:=hb;have L:=dH L;have S:0+1<=ti.ar:=eO S;rw[cX]at L;simp only[cond_true]at h;split at h
   ·rename_i ei G;split at h
    ·rename_i k' I l;split at h
     ·rename_i ns ab;obtain⟨⟨h0,h1⟩,h⟩:=h;cases M;cases T with
      |agg vs _ hl=>
       have ae:=Bs ab hl;have N:=hl.length;subst ae;simp at N;obtain⟨i,z,d,M,fL,ag,hz,ah,_,hd,hm⟩:=C.info;cases d with
       |array m e=>obtain⟨_,Z,aa,_⟩:=hm;have da:n<(m:Int):=yO;refine⟨.int k' (ns.getD n.toNat 0),_,λw _=>?_,.int _ _,h⟩;obtain⟨_,F,_,_⟩:=(g _ _ G).run w;have X:=Cu (P:=P) (w:=w) (g _ _ G) (vs:=ns.map (Value.int k')) (off:=n.toNat) (by grind);rw[aa]at F X;simp only[Instr.index,asIntOf,Sem.run_bind,Sem.run_pure,Result.andThen_ok,run_underlying hd,if_pos (⟨h0,da⟩:0<=n/\n<(m:Int)),F,l,eg,vL,X];simp only[valOf,I,l,cC,if_false,eg];have ac:n.toNat<ns.length:=yO;rw[bM (by grind)];simp[cj,ac]
       |struct fs=>obtain⟨n,e,hu⟩:=C.arr V yO;rw[hd]at hu;cases hu
       |_=>simp_all
     ·exact h.elim
    ·rename_i c af I l;split at h
     ·rename_i j hj;cases q:jv j (ti.ar-1)with
      |false=>rw[q]at h;exact h.elim
      |true=>
      rw[q]at h;have q:=eO q;have hn:=uY hj;subst hn;cases M;cases T with
      |agg vs _ hl=>
       have N:=hl.length;obtain⟨m,hu,Z⟩:=C.vB V yO;have da:((j:Nat):Int)<(m:Int):=yO;have Q:j<vs.length:=yO;refine⟨vs[j],GF cs j,λw _=>?_,?_,h⟩
       ·obtain⟨_,F,_,_⟩:=(g _ _ G).run w;have X:=Cu (P:=P) (w:=w) (g _ _ G) (vs:=vs) (off:=j) (by grind);simp only[Instr.index,asIntOf,Sem.run_bind,Sem.run_pure,Result.andThen_ok,run_underlying hu,if_pos (⟨cW _,da⟩:0<=((j:Nat):Int)/\((j:Nat):Int)<(m:Int)),F,l,eg,vL,jV,X];simp only[valOf,I,l,cC,if_false,eg];rw[bM Q];rfl
       ·rw[H5];have U:j<cs.length:=yO;rw[fW,bB U];obtain⟨u,O,Y⟩:=hl.get (bB U);rw[bB Q]at O;cases O;exact Y
     ·exact h.elim
    ·exact h.elim
   ·exact h.elim
 ·exact h.elim
def NS{x:Int}:(Builtin.max_ ts ty #[.int k x,.int k' y]).run P w= .ok (.int k (if y>x then y else x)) w:=by simp[Builtin.max_,Builtin.max2]
def NR{x:Int}:(Builtin.min_ ts ty #[.int k x,.int k' y]).run P w= .ok (.int k (if y<x then y else x)) w:=by simp[Builtin.min_,Builtin.min2]
def foldl_push:∀(ns:List Int)(b:ByteArray),(ns.foldl (λr n=>r.push (mW n.toNat)) b).data.toList=b.data.toList++ns.map λn=>mW n.toNat
 |[],b=>yS
 |n::ns,b=>by rw[iG,foldl_push ns];simp[ByteArray.push]
def Mi(H:RW tt E Pp objs W)(hc:bV tt e=[.int .u8])(h:RD tt Pp (.slice e) v d):
 ∃b:ByteArray,b.data.toList=ec.Ar d/\(∃a l c,v= .slice a l c)/\∀w,W w->(Conv.bytesToString v).run P w= .ok (.string b) w:=by
 cases h with
 |slnil=>exact⟨.empty,rfl,⟨_,_,_,rfl⟩,λw _=>by simp[Conv.bytesToString,Sem.run_pure]⟩
 |Fz _ ad=>exact⟨.empty,rfl,⟨_,_,_,rfl⟩,λw _=>run_bytesToString w ad 0 0 [] (by rfl)⟩
 |sl _ b o len cap rows vf hl F ef iJ iF=>
  obtain⟨ns,q⟩:∃ns:List Int,ns=rows.map Mj:=⟨_,rfl⟩
  have J:∀i,i<len->∃n,vf i 0= .int .u8 n/\ns[i]? =some n:=by
   intro i N;have g:rows[i]? =some (rows[i]'yO):=bB yO;have h1:=ef _ _ g;rw[hc]at h1
   obtain⟨x,M⟩:∃x,rows[i]'yO=[x]:=by
    match hr:rows[i]'yO,h1 with
    |[x],_=>exact⟨x,rfl⟩
   have h2:=iF i 0 _ x (.int .u8) g (by grind) (by grind);generalize L:vf i 0=u at h2;cases h2 with
   |int _ n=>exact⟨n,rfl,by rw[q,cw,g,M];rfl⟩
  have G:ns.length=len:=by grind
  refine⟨_,foldl_push ns .empty |>.trans ?_,⟨_,_,_,rfl⟩,λw I=>run_bytesToString w ⟨b,o,none⟩ len cap ns ?_⟩
  ·rw[q];simp[ec,cp,ju,Function.comp_def]
  ·have:=run_loadCells_list (P:=P) w ⟨b,o,none⟩ (ns.map (Value.int .u8)) (λj v C=>?_)
   ·grind
   ·rw[cw]at C;have z:j<len:=by grind
    obtain⟨n,e1,e2⟩:=J j z;rw[e2]at C;simp at C;subst C;have:=H.Ph I (iJ j 0 z (by grind));rw[fA,<-e1,<-this,hc];simp
def GY(j:fp P tt)(Q:RW tt E Pp objs W)(hs:∀t,VR tt E Pp (a.tmps.getD t undef) (look s t)){q g:TypeId}
 (h:eU ec tt (.convert q g x) ty s objs K):iB P tt E Pp W (convert q g (a.eval x)) K:=by
 simp only[eU]at h;have z:=ff hs x;generalize a.eval x=v at*;split at h
 ·rename_i R ti h0 h1;obtain⟨X,_,d0,U,_,_,_,_,_,T,_⟩:=(j _ _ h0).info;split at h
  ·rename_i k k' n hk J;rw[J]at z;have hd:=(j _ _ h1).int hk;cases z;have G:P.intKind g=k:=by simp[Program.intKind,hd]
   have hr:=λw=>run_convert_int (P:=P) w q g k' n (by grind) (by grind);rw[G]at hr;rcases h with⟨F,h⟩|h
   ·exact⟨.int k n,_,λw _=>by rw[hr,r8 F],.int _ _,h trivial⟩
   ·exact⟨.int k (k.wrap n),_,λw _=>hr w,.int _ _,h trivial⟩
  ·rename_i e d hk J;rw[J]at z;split at h
   ·exact h.elim
   rename_i O H;split at h
   ·exact h.elim
   rename_i V u;split at h
   ·rename_i l;cases hb:isStr ti&&nb e O with
    |false=>rw[hb]at h;exact h.elim
    |true=>
     rw[hb]at h;simp only[bI]at hb;have S:=dH hb.2;subst S;have hd:=(j _ _ h1).str hb.1;have hu:=(j _ _ u).int l;have C:=((j _ _ h0).slice H).1
     have M:bV tt e=[.int .u8]:=by
      unfold bV;rw[u];simp only;unfold qa at l;split at l
      ·grind
      ·cases l
     cases z with
     |lst _ _ _ iF=>
      obtain⟨b,L,⟨a1,l1,c1,rfl⟩,I⟩:=Mi (P:=P) Q M iF;refine⟨.string b,_,λw N=>?_,?_,h⟩
      ·rw[run_convert_bytes_string w q g e a1 l1 c1 C hu hd];exact I w N
      ·have:VR tt E Pp (.string b) (.str (ec.Ar d)):=by rw[<- L];exact .str b
       exact this
   ·exact h.elim
  ·exact h.elim
 ·exact h.elim
def A4(l:fp P tt)(G:RW tt E Pp objs W)(hs:∀t,VR tt E Pp (a.tmps.getD t undef) (look s t)){o:Oper}
 (h:eU ec tt o.op o.type s objs K):PE P tt E Pp W (execOp a.eval o) K:=by
 obtain⟨I,op,ty,pos,after,L⟩:=o;simp only at h;cases op with
 |move x=>exact⟨_,_,λ_ _=>rfl,GK hs _ _,h⟩
 |assign x=>exact⟨_,_,λ_ _=>rfl,GK hs _ _,h⟩
 |load t x=>exact(NY l G hs h).lift
 |binOp op t x y U=>exact(Mm l hs h).lift
 |convert src I x=>exact(GY l G hs h).lift
 |fieldAddr t x f=>exact(CM l hs h).lift
 |field t x f=>exact(LQ l hs h).lift
 |indexAddr t x i=>exact(CF l G hs h).lift
 |build t ps=>exact(Ml l hs h).lift
 |index t x i=>exact(Lw l hs h).lift
 |slice t x lo X V=>exact(Kw l G hs h).lift
 |pick c x y=>
  have hc:=ff hs c;have g:=ff hs x;have N:=ff hs y;simp only[eU]at h;simp only[execOp];generalize a.eval c=Y at*;generalize a.eval x=J at*;generalize a.eval y=O at*;split at h
  ·rename_i e;rw[e]at hc;cases hc;exact⟨J,_,by intro w _;simp[asBool],g,h⟩
  ·rename_i e;rw[e]at hc;cases hc;exact⟨O,_,by intro w _;simp[asBool],N,h⟩
  ·rename_i b e;rw[e]at hc;cases hc
   split at h<;>first
    |exact h.elim
    |(rename_i m n F H
      rw[F]at g;rw[H]at N;cases g;cases N;refine⟨.bool (bif b then m else n),_,λw _=>?_,.bool _,h⟩;cases b<;>simp[asBool])
  ·exact h.elim
 |nilCheck x=>
  have g:=ff hs x;simp only[eU]at h;simp only[execOp];generalize a.eval x=v at*;split at h
  ·rename_i t d e;rw[e]at g;obtain⟨S,h⟩:=h;cases g with
   |dptr _ _ _ hr=>
    cases hr with
    |Ah=>simp at S
    |ptr _ b o ds vf hl iJ iF=>exact⟨_,_,λ_ _=>rfl,by simpa using VR.tO t _ 0 b o (.ptr _ b o ds vf hl iJ iF),h⟩
  ·rename_i b off e;rw[e]at g;cases g with
   |box _ _ _ M=>exact⟨_,_,λ_ _=>rfl,.box _ _ _ M,h⟩
  ·rename_i Q d i off e;rw[e]at g;cases g with
   |kF _ _ _ _ _ _ _ _ hr h0 h1=>exact⟨_,_,λ_ _=>rfl,.kF _ _ _ _ _ _ _ _ hr h0 h1,h⟩
  ·rename_i Q r i off e;rw[e]at g;cases g with
   |gp _ _ _ _ _ _ _ _ _ M h0 hu=>
    cases hm:nb off fY with
    |true=>rw[hm]at h;exact h.elim
    |false=>
    rw[hm]at h;obtain⟨rfl,h1⟩:=hu.get hm;exact⟨_,_,λ_ _=>rfl,.gp _ _ _ _ _ _ _ _ _ M h0 (.mk rfl hm h1),h⟩
  ·rename_i cs off e;rw[e]at g;cases g with
   |cR _ _ _ _ _ _ hu hl R=>
    cases hm:nb off fY with
    |true=>rw[hm]at h;exact h.elim
    |false=>rw[hm]at h;obtain rfl:=hu.get hm;exact⟨_,_,λ_ _=>rfl,.cR _ _ _ _ _ _ hu hl R,h⟩
  ·rename_i t d off e;rw[e]at g;cases g with
   |tO _ _ _ _ _ hr=>exact⟨_,_,λ_ _=>rfl,.tO _ _ _ _ _ hr,h⟩
  ·rename_i f cs e;rw[e]at g;cases g with
   |cy _ f vs _ hu hl=>
    refine⟨_,_,λ_ _=>?_,.cy _ _ _ _ hu hl,h⟩;rcases cb f lR with hb|hb
    ·rw[hu.1 hb];rfl
    ·rw[hu.2 hb];rfl
  ·exact h.elim
 |unOp op t x=>
  have g:=ff hs x;simp only[eU]at h;simp only[execOp];generalize a.eval x=v at*;refine iB.lift ?_;split at h
  ·rename_i b e;rw[e]at g;cases g;exact⟨.bool !b,_,by intro w _;simp[Op.unary],.bool _,h⟩
  ·rename_i e;rw[e]at g;cases g;exact⟨.bool false,_,by intro w _;simp[Op.unary],.bl _,h⟩
  ·rename_i e;rw[e]at g;cases g;exact⟨.bool true,_,by intro w _;simp[Op.unary],.bl _,h⟩
  ·rename_i k n e;rw[e]at g;cases g;obtain⟨hr,h⟩:=h;exact⟨.int k (0-n),_,by intro w _;simp only[Op.unary,Op.intArith,r8 hr,Sem.run_pure],.int _ _,h⟩
  ·exact h.elim
 |makeFunc f first oM=>
  simp only[eU]at h;cases f with
  |func f=>
   simp only at h;split at h
   ·rename_i e;have hf:first= #[]:=by grind
    subst hf;cases hb:jv f lR with
    |false=>rw[hb]at h;exact h.elim
    |true=>
    rw[hb]at h;refine⟨.func (.func f) #[] ⟨oM.toList.map a.eval⟩,_,λw _=>?_,.cy _ _ _ _ (qz.mk hb) (LU hs _),h⟩;have:oM.map a.eval=⟨oM.toList.map a.eval⟩:=by grind
    simp[execOp,Instr.makeFunc,this]
   ·split at h
    ·rename_i e;have hf:oM= #[]:=by grind
     subst hf;refine⟨.func (.func f) ⟨first.toList.map a.eval⟩ #[],_,λw _=>?_,.cy _ _ _ _ qz.fU (LU hs _),h⟩;have:first.map a.eval=⟨first.toList.map a.eval⟩:=by grind
     simp[execOp,Instr.makeFunc,this]
    ·exact h.elim
  |_=>exact h.elim
 |extract x i=>
  have g:=ff hs x;simp only[eU]at h;simp only[execOp];generalize a.eval x=v at*;refine iB.lift ?_;split at h
  ·rename_i vs e;rw[e]at g;cases hb:jv i (cv vs)with
   |false=>rw[hb]at h;exact h.elim
   |true=>
    rw[hb]at h;have hb:i+1<=cv vs:=eO hb;rw[cX]at hb;cases g with
    |tup us _ hl=>obtain⟨u,hu,T⟩:=hl.get (j:=i) (p:=vs[i]) (bB yO);refine⟨u,_,by intro w _;simp[Instr.extract,hu],T,?_⟩;rw[H5]at h;simpa[cj,bB (show i<vs.length by omega)]using h
  ·exact h.elim
 |call c=>
  obtain⟨q,as,ts⟩:=c;cases q with
  |value f=>exact h.elim
  |invoke r m=>exact h.elim
  |builtin b=>
   cases b<;>try exact h.elim
   case len=>have:=(Qt l G hs h).lift;simpa[execOp,resolve,invoke,builtin]using this
   case max=>
    simp only[eU]at h;split at h
    ·rename_i x y g;obtain rfl:as= #[x,y]:=by grind
     have h1:=ff hs x;have h2:=ff hs y;split at h
     ·rename_i k m k' n F H;rw[F]at h1;rw[H]at h2;refine⟨.int k (if n>m then n else m),_,λw _=>?_,.int _ _,h⟩;simp only[execOp,resolve,pure_bind,invoke,builtin];generalize C:a.eval x=J at*;generalize z:a.eval y=O at*;cases h1;cases h2;simp[C,z,NS]
     ·exact h.elim
    ·exact h.elim
   case min=>
    simp only[eU]at h;split at h
    ·rename_i x y g;obtain rfl:as= #[x,y]:=by grind
     have h1:=ff hs x;have h2:=ff hs y;split at h
     ·rename_i k m k' n F H;rw[F]at h1;rw[H]at h2;refine⟨.int k (if n<m then n else m),_,λw _=>?_,.int _ _,h⟩;simp only[execOp,resolve,pure_bind,invoke,builtin];generalize C:a.eval x=J at*;generalize z:a.eval y=O at*;cases h1;cases h2;simp[C,z,NR]
     ·exact h.elim
    ·exact h.elim
 |_=>exact h.elim
def OR.om{g:Nat}(h:OR tt E Pp w (.row g o len cap) (.row e d false)):RD tt Pp (.slice e) (.slice (some ⟨g,o,none⟩) len cap) d:=by
 obtain⟨vs,T,rows,hb,rfl,hl,l,fL,ef,_,hf⟩:=h;obtain⟨C,_⟩:=hf rfl;refine .sl e g o len cap rows (λi j=>vs.getD (o+i*(bV tt e).length+j) undef) hl l (λi row q=>(ef i row q).1) ?_ ?_
 ·intro i j q u;have G:rows[i]? =some rows[i]:=bB yO;obtain⟨H,hc⟩:=ef i _ G;obtain⟨v,z,_⟩:=hc j _ _ (bB yO) (bB u);have:=C i j v q u z;simpa[cj,z]using this
 ·intro i j row d ck q u F;obtain⟨v,z,hr⟩:=(ef i row q).2 j d ck u F;simpa[cj,z]using hr
theorem WR.rw(C:WR tt E Pp objs w):RW tt E Pp objs (λw'=>w'=w):=by
 refine⟨?_,?_,?_,?_,?_,?_⟩
 ·rintro _ rfl ad v h;exact C.pi ad v h
 ·intro i cs b z u;obtain⟨ri,l,q⟩:=C.ob i _ z rfl;rw[u]at l;cases l;obtain⟨vs,T,hb,G,_⟩:=q;exact⟨vs,G,by rintro _ rfl j v F;rw[eN hb];exact F⟩
 ·intro i e d wr z u;obtain⟨ri,l,q⟩:=C.ob i _ z rfl;rw[u]at l;cases l;exact q
 ·intro i e d wr g o len cap z u;obtain⟨ri,l,q⟩:=C.ob i _ z rfl;rw[u]at l;cases l;obtain⟨vs,T,rows,hb,hd,hl,H,fL,ef,_,_⟩:=q;exact⟨vs,rows,hd,hl,ef,by rintro _ rfl j v F _ _;rw[eN hb];exact F⟩
 ·intro i e d g o len cap z u;obtain⟨ri,l,q⟩:=C.ob i _ z rfl;rw[u]at l;cases l;exact OR.om q
 ·rintro i kc e d b bs cl z u _ rfl;obtain⟨ri,l,q⟩:=C.ob i _ z rfl;rw[u]at l;cases l;obtain⟨es,rows,hb,hd,hl,_⟩:=q;exact⟨es,_,rows,hb,hd,yU hl⟩
end
end
section
structure St where
 s:dS
 o:List Ob
structure kk where
 w0:World
 E0:List RI
 P0:ga
 o9:Nat->Prop
 d0:List Deferred:=[]
def JH(own:Nat->Prop)(w:World)(Pp Pp':ga):Prop:=∀ad v,Pp' ad v->Pp ad v\/w.heap.size<=ad.block\/own ad.block
def mD(own:Nat->Prop)(w:World)(E':List RI)(objs':List Ob):Prop:=∀(i:Nat) o ri b,objs'[i]? =some o->o.live=true->E'[i]? =some ri->ri.du =some b->w.heap.size<=b\/own b
structure jl (tt:TypeId->Option TI) (N:Nat) (B:kk) (E:List RI) (Pp:ga) (st:St) (a:Act) (w:World):Prop where
 wr:WR tt E Pp st.o w
 gJ:∀t,VR tt E Pp (a.tmps.getD t undef) (look st.s t)
 size:a.tmps.size=N
 defers:a.defers=B.d0
 pre:qA B.E0 E
 ua:∀ad v,B.P0 ad v->Pp ad v
 fr:Fr B.o9 B.w0 w
 kV:JH B.o9 B.w0 B.P0 Pp
 fresh:mD B.o9 B.w0 E st.o
structure cY (tt:TypeId->Option TI) (B:kk) (E:List RI) (Pp:ga) (objs:List Ob) (w:World):Prop where
 wr:WR tt E Pp objs w
 pre:qA B.E0 E
 ua:∀ad v,B.P0 ad v->Pp ad v
 fr:Fr B.o9 B.w0 w
 kV:JH B.o9 B.w0 B.P0 Pp
 fresh:mD B.o9 B.w0 E objs
section
variable {P:Program}{tt:TypeId->Option TI}{N:Nat}{B:kk}{E:List RI}{Pp:ga}{objs:List Ob}{w:World}{st:St}{a:Act}
variable {ri:RI}{w':World}{Pp':ga}{E':List RI}
def jl.Ke(h:jl tt N B E Pp st a w):cY tt B E Pp st.o w:=⟨h.wr,h.pre,h.ua,h.fr,h.kV,h.fresh⟩
def cY.Qg(h:cY tt B E Pp st.o w)(hs:∀t,VR tt E Pp (a.tmps.getD t undef) (look st.s t))(b:a.tmps.size=N)(hd:a.defers=B.d0):jl tt N B E Pp st a w:=⟨h.wr,hs,b,hd,h.pre,h.ua,h.fr,h.kV,h.fresh⟩
def oD(f:WR tt E Pp objs w){b:Nat}(h:own E objs b):b<w.heap.size:=by
 obtain⟨i,o,ri,j,hl,g,hb⟩:=h;obtain⟨ri',d,c⟩:=f.ob i o j hl;rw[g]at d;cases d
 have lt:∀(x:Obj),w.heap[b]? =some x->b<w.heap.size:=by
  intro x k;rcases cb b w.heap.size with e|e
  ·exact e
  ·simp[dJ e]at k
 cases ri<;>cases o<;>simp[RI.du]at hb<;>subst hb<;>simp only[OR]at c
 ·obtain⟨_,_,h,_⟩:=c;exact lt _ h
 ·obtain⟨_,_,_,h,_⟩:=c;exact lt _ h
 ·obtain⟨_,_,h,_⟩:=c;exact lt _ h
 ·obtain⟨_,_,_,_,_,h,_⟩:=c;exact lt _ h
 ·obtain⟨_,_,⟨_,_,_,_,_,h⟩|⟨_,_,_,_,_,_,h,_⟩⟩:=c<;>exact lt _ h
 ·obtain⟨_,h,_⟩:=c;exact lt _ h
def OR.LO{o:Ob}(D:qA E E')(z:∀m s,o= .iter m s->∀x,E[m]? =some x->E'[m]? =some x)(p:∀ad v,Pp ad v->Pp' ad v)
 (hb:∀b,ri.du =some b->w'.heap[b]? =w.heap[b]?) (f:∀b,ri.du =some b->∀ad v,Pp' ad v->ad.block=b->Pp ad v) (h:OR tt E Pp w ri o):OR tt E' Pp' w' ri o:=by
 cases ri<;>cases o<;>simp only[OR]at h ⊢
 case box.box b cs=>obtain⟨vs,T,h1,h2,h3,h4⟩:=h;exact⟨vs,T,by rw[hb b rfl];exact h1,(VR.jE D p).2 h2,λad v l k=>h3 ad v (f b rfl ad v l k) k,h4⟩
 case row0.row e d wr=>exact h
 case row.row g o len cap e d wr=>
  obtain⟨vs,T,rows,h1,h2,h3,h4,h5,h6,h7,h8⟩:=h;refine⟨vs,T,rows,by rw[hb g rfl];exact h1,h2,h3,h4,h5,?_,?_,?_⟩
  ·intro i row I;obtain⟨hl,hc⟩:=h6 i row I;refine⟨hl,λj d ck G C=>?_⟩;obtain⟨v,l,hr⟩:=hc j d ck G C;exact⟨v,l,hr.mono p⟩
  ·intro u ad v l k;exact h7 u ad v (f g rfl ad v l k) k
  ·intro u;obtain⟨F,A⟩:=h8 u;exact⟨λi j v a b c=>p _ _ (F i j v a b c),λad v l k=>A ad v (f g rfl ad v l k) k⟩
 case map.map b borns clock kc e d=>obtain⟨es,rows,h1,h2,h3,h4,h5,h6,h7,h8⟩:=h;refine⟨es,rows,by rw[hb b rfl];exact h1,h2,h3,?_,h5,h6,h7,λad v l k=>h8 ad v (f b rfl ad v l k) k⟩;intro i x row J ef;obtain⟨kd,vd,e1,e2,e3,e4,e5,e6⟩:=h4 i x row J ef;exact⟨kd,vd,e1,e2.mono p,e3,e4,λj d ck v a b c=>(e5 j d ck v a b c).mono p,e6⟩
 case iter.iter b m seen=>obtain⟨y,borns,clock,q,h1,h2,h3⟩:=h;exact⟨y,borns,clock,q,z _ _ rfl _ h1,by rw[hb b rfl];exact h2,h3⟩
 case iter.diter b e d seen=>
  obtain⟨q,h1,⟨h2,h3,n,H,m,h4⟩|⟨y,es,clock,rows,h2,h3,h4,h5⟩⟩:=h
  ·exact⟨q,h1,.inl ⟨h2,h3,n,H,m,by rw[hb b rfl];exact h4⟩⟩
  ·exact⟨q,h1,.inr ⟨y,es,clock,rows,h2,h3.mono p,by rw[hb b rfl];exact h4,h5⟩⟩
 case loop.loop b n ps c1 c2 s j=>obtain⟨r,h1,h2,h3⟩:=h;exact⟨r,by rw[hb b rfl];exact h1,h2,λt=>(VR.jE D p).1 (h3 t)⟩
def OR.frame{o:Ob}(d:∀(i:Nat) x,E[i]? =some x->E'[i]? =some x)(e:∀ad v,Pp ad v->Pp' ad v)
 (hb:∀b,ri.du =some b->w'.heap[b]? =w.heap[b]?) (c:∀b,ri.du =some b->∀ad v,Pp' ad v->ad.block=b->Pp ad v) (h:OR tt E Pp w ri o):OR tt E' Pp' w' ri o:=
 OR.LO (.of d) (λ_ _ _ x f=>d _ x f) e hb c h
def WR.frame(h:WR tt E Pp objs w)(hb:∀b,own E objs b->w'.heap[b]? =w.heap[b]?)(j:∀ad v,Pp ad v->Pp' ad v)
 (e:∀ad v,Pp' ad v->Pp ad v\/¬own E objs ad.block) (iJ:∀ad v,Pp' ad v->pc w' ad=some v):WR tt E Pp' objs w':=by
 refine⟨h.len,iJ,?_,h.sep,h.Ru j⟩;intro i o f hl;obtain⟨ri,d,g⟩:=h.ob i o f hl;refine⟨ri,d,OR.frame (λ_ _ h=>h) j (λb c=>hb b ⟨i,o,ri,f,hl,d,c⟩) (λb c ad v k l=>?_) g⟩;rcases e ad v k with h1|h1
 ·exact h1
 ·exact absurd ⟨i,o,ri,f,hl,d,by rw[c,l]⟩ h1
def tR{w:World}{ad:Addr}(h:w'.heap[ad.block]? =w.heap[ad.block]?):w'.cell? ad=w.cell? ad:=by simp[World.cell?,h]
def WR.push{o:Ob}(h:WR tt E Pp objs w)(t:o.live=true->OR tt (E++[ri]) Pp w ri o)(l:∀b,ri.du =some b->¬own E objs b):WR tt (E++[ri]) Pp (objs++[o]) w:=by
 have v:∀(i:Nat) x,E[i]? =some x->(E++[ri])[i]? =some x:=by
  intro i x f;rw[bU]
  ·exact f
  ·rcases cb i E.length with k|k
   ·exact k
   ·rw[bY k]at f;simp at f
 have split:∀(i:Nat) x,(objs++[o])[i]? =some x->(objs[i]? =some x/\i<objs.length)\/(i=objs.length/\x=o):=by
  intro i x f;rcases Aa i objs.length with k|k|k
  ·rw[bU k]at f;exact .inl ⟨f,k⟩
  ·subst k;simp at f;exact .inr ⟨rfl,f.symm⟩
  ·rw[bY yQ]at f;simp at f
 have c:∀(i:Nat),i<objs.length->(E++[ri])[i]? =E[i]? :=λi u=>by rw[bU (by rw[h.len];exact u)]
 have g:(E++[ri])[objs.length]? =some ri:=by rw[<- h.len];simp
 refine⟨by simp[h.len],h.pi,?_,?_,h.gl⟩
 ·intro i x f hl;rcases split i x f with⟨h1,_⟩|⟨rfl,rfl⟩
  ·obtain⟨r,hr,p⟩:=h.ob i x h1 hl;exact⟨r,v _ _ hr,OR.frame v (λ_ _ h=>h) (λ_ _=>rfl) (λ_ _ _ _ h _=>h) p⟩
  ·exact⟨ri,g,t hl⟩
 ·intro i j oi oj ri' rj b u y s q d e m n;rcases split i oi u with⟨h1,l1⟩|⟨rfl,rfl⟩<;>rcases split j oj y with⟨h2,l2⟩|⟨rfl,rfl⟩
  ·rw[c i l1]at d;rw[c j l2]at e;exact h.sep i j oi oj ri' rj b h1 h2 s q d e m n
  ·rw[c i l1]at d;rw[g]at e;cases e;exact absurd ⟨i,oi,ri',h1,s,d,m⟩ (l b n)
  ·rw[c j l2]at e;rw[g]at d;cases d;exact absurd ⟨j,oj,rj,h2,q,e,n⟩ (l b m)
  ·rfl
def mem_push:∀(i:Nat) x,E[i]? =some x->(E++[ri])[i]? =some x:=by
 intro i x b;rw[bU]
 ·exact b
 ·rcases cb i E.length with c|c
  ·exact c
  ·rw[bY c]at b;simp at b
def rr{E0:List RI}(h:qA E0 E):qA E0 (E++[ri]):=h.trans (.of mem_push)
def mD.push{own:Nat->Prop}{w0:World}{o:Ob}(hl:E.length=objs.length)(h:mD own w0 E objs)(f:∀b,ri.du =some b->w0.heap.size<=b\/own b):mD own w0 (E++[ri]) (objs++[o]):=by
 intro i x r b d e hr hb;rcases Aa i objs.length with c|c|c
 ·rw[bU c]at d;rw[bU yO]at hr;exact h i x r b d e hr hb
 ·subst c;rw[<- hl]at hr;simp at hr;subst hr;exact f b hb
 ·rw[bY yQ]at d;simp at d
def cY.alloc(h:cY tt B E Pp objs w)(x:Obj):cY tt B E Pp objs (w.alloc x):=by
 have c:∀k,k<w.heap.size->(w.alloc x).heap[k]? =w.heap[k]? :=λk hk=>RowKit.Below.heap_alloc w x k hk;refine⟨?_,h.pre,h.ua,?_,h.kV,h.fresh⟩
 ·refine h.wr.frame (λb hb=>c b (oD h.wr hb)) (λ_ _ h=>h) (λ_ _ h=>.inl h) (λad v d=>?_);have:=h.wr.pi ad v d;rw[iu (c _ (yT this))];exact this
 ·exact⟨h.fr.os,h.fr.tape,h.fr.output,by have:=h.fr.size;simp;omega,h.fr.drawn,λk hk e=>(c k (by have:=h.fr.size;omega)).trans (h.fr.block k hk e)⟩
def cY.new(h:cY tt B E Pp objs w){x:Obj}{o:Ob}(hb:ri.du =some w.heap.size)(d:OR tt (E++[ri]) Pp (w.alloc x) ri o):
 cY tt B (E++[ri]) Pp (objs++[o]) (w.alloc x):=by
 have h1:=h.alloc x;refine⟨h1.wr.push (λ_=>d) ?_,rr h1.pre,h1.ua,h1.fr,h1.kV,h1.fresh.push h1.wr.len ?_⟩
 ·intro b c e;rw[hb]at c;cases c;have:=oD h.wr e;omega
 ·intro b c;rw[hb]at c;cases c;exact .inl h.fr.size
def l9(h:WR tt E Pp objs w):∀ad v,Pp ad v->ad.block≠w.heap.size:=by intro ad v b;have:=yT (h.pi ad v b);omega
def cY.lay(h:cY tt B E Pp objs w)(vs:List Value)(T:TypeId):
 cY tt B E (λad v=>Pp ad v\/(ad.block=w.heap.size/\(w.alloc (.cells ⟨vs⟩ T)).cell? ad=some v)) objs (w.alloc (.cells ⟨vs⟩ T)):=by
 have h1:=h.alloc (.cells ⟨vs⟩ T);refine⟨?_,h1.pre,λad v b=>.inl (h1.ua ad v b),h1.fr,?_,h1.fresh⟩
 ·refine h1.wr.frame (λ_ _=>rfl) (λ_ _ h=>.inl h) ?_ ?_
  ·intro ad v b;rcases b with b|⟨b,_⟩
   ·exact .inl b
   ·refine .inr (λc=>?_);have:=oD h.wr c;omega
  ·intro ad v b;rcases b with b|⟨_,b⟩
   ·exact h1.wr.pi ad v b
   ·exact gF b
 ·intro ad v b;rcases b with b|⟨b,_⟩
  ·exact h1.kV ad v b
  ·exact .inr (.inl (by rw[b];exact h.fr.size))
def cY.drew(h:cY tt B E Pp objs w):cY tt B E Pp objs w.drew:=⟨h.wr.frame (λ_ _=>rfl) (λ_ _ h=>h) (λ_ _ h=>.inl h) (λad v b=>h.wr.pi ad v b),h.pre,h.ua,⟨h.fr.os,h.fr.tape,h.fr.output,h.fr.size,Nat.le_succ_of_le h.fr.drawn,h.fr.block⟩,h.kV,h.fresh⟩
end
end
section
variable {α β:Type}
def sT{α:Type}(f:α->Bool):List α->Bool|[]=>false|x::l=>f x||sT f l
def iw{α:Type}(f:α->Bool):List α->Bool|[]=>true|x::l=>f x&&iw f l
def c9{α β:Type}(f:α->β):List α->List β|[]=>[]|x::l=>f x::c9 f l
def fo{α β:Type}(f:α->List β):List α->List β|[]=>[]|x::l=>G1 (f x) (fo f l)
 where G1:List β->List β->List β|[],k=>k|x::l,k=>x::G1 l k
def iR{α:Type}:List α->List α->List α|[],k=>k|x::l,k=>x::iR l k
def fP(n:Nat):List Nat->Bool|[]=>false|x::l=>nb x n||fP n l
def ja:List Ob->Nat->Ob->List Ob
 |[],_,_=>[]|_::xs,0,y=>y::xs|x::xs,n+1,y=>x::ja xs n y
def iv(f:α->β)(l:List α):c9 f l=l.map f:=by induction l<;>simp[c9, *]
def fK(l k:List α):iR l k=l++k:=by induction l<;>simp[iR, *]
def CZ(f:α->Bool)(l:List α):sT f l=l.any f:=by induction l<;>simp[sT, *]
def C5(f:α->Bool)(l:List α):iw f l=l.all f:=by induction l<;>simp[iw, *]
def l5(f:α->List β)(l:List α):fo f l=l.flatMap f:=by
 have:∀(a b:List β),fo.G1 a b=a++b:=by intro a b;induction a<;>simp[fo.G1, *]
 induction l<;>simp_all[fo]
def gO(l:List Ob)(n:Nat)(y:Ob):ja l n y=l.set n y:=by
 induction l generalizing n with
 |nil=>simp[ja]
 |cons x xs a=>cases n<;>simp[ja,a]
def lZ(n:Nat)(l:List Nat):fP n l=true↔n∈l:=by
 induction l with
 |nil=>simp[fP]
 |cons x l a=>
  simp only[fP,gh,a,bP];constructor
  ·rintro(h|h)
   ·exact .inl (dH h).symm
   ·exact .inr h
  ·rintro(h|h)
   ·subst h;exact .inl (lW n)
   ·exact .inr h
def vN(r:Nat):Nat->PV->Bool
 |0,_=>true
 |n+1,p=>match p with
  | .agg cs=>sT (vN r n) cs
  | .tup cs=>sT (vN r n) cs
  | .cy _ cs=>sT (vN r n) cs
  | .cR cs _=>sT (vN r n) cs
  | .box b _=>nb b r
  | .row _ x=>nb x r
  | .gp _ x _ _=>nb x r
  | .mp x=>nb x r
  | .it x=>nb x r
  | .lS x=>nb x r
  |_=>false
def kill(r:Nat)(p:PV):PV:=bif vN r 8 p then .undef else p
def mG(r:Nat):dS->dS|[]=>[]|(t,p)::s=>(t,kill r p)::mG r s
def jT(r:Nat):List Ob->List Ob
 |[]=>[]
 | .box cs::l=>.box (c9 (kill r) cs)::jT r l
 | .loop n ps a c s j::l=>.loop n ps a c (mG r s) j::jT r l
 |o::l=>o::jT r l
def ux(r:Nat)(e:TypeId)(d:D):Nat->PV->PV
 |0,_=>.undef
 |n+1,p=>match p with
  | .mp x=>bif nb x r then .dmp e d else .mp x
  | .agg cs=>.agg (c9 (ux r e d n) cs)
  | .tup cs=>.tup (c9 (ux r e d n) cs)
  | .cy f cs=>.cy f (c9 (ux r e d n) cs)
  | .cR cs off=>.cR (c9 (ux r e d n) cs) off
  |p=>p
def s3(r:Nat)(e:TypeId)(d:D)(p:PV):PV:=bif vN r 8 p then ux r e d 8 p else p
def AX(r:Nat)(e:TypeId)(d:D):dS->dS|[]=>[]|(t,p)::s=>(t,s3 r e d p)::AX r e d s
def yd(r:Nat)(e:TypeId)(d:D):Ob->Ob
 | .box cs=>.box (c9 (s3 r e d) cs)
 | .loop n ps a c s j=>.loop n ps a c (AX r e d s) j
 | .iter m s=>bif nb m r then .diter e d s else .iter m s
 |o=>o
def tz(r:Nat)(e:TypeId)(d:D)(l:List Ob):List Ob:=ja (c9 (yd r e d) l) r .dead
def vW(r:Nat)(st:St):St:=match eT st.o r with
 | .map kc e d=>bif decide (kc= .str)then⟨AX r e d st.s,tz r e d st.o⟩else st
 |_=>st
def sinks:List Nat->St->St
 |[],st=>st
 |r::l,st=>sinks l (vW r st)
def KZ:Nat->PV->List Nat
 |0,_=>[]
 |n+1,p=>match p with
  | .mp r=>[r]
  | .agg cs=>fo (KZ n) cs
  |_=>[]
def K0:PV->List Nat
 | .tup cs=>fo NQ cs
 | .agg cs=>fo (KZ 8) cs
 |_=>[]
 where NQ:PV->List Nat
 | .agg cs=>fo (KZ 8) cs
 |_=>[]
def om(objs:List Ob):Nat->PV->PV
 |0,_=>.undef
 |n+1,p=>match p with
  | .row e r=>match eT objs r with
   | .row a d _=>bif nb e a then .lst e d else .undef
   |_=>.undef
  | .box b off=>match eT objs b with
   | .box cs=>bif nb off fY then .undef else .cR (c9 (om objs n) cs) off
   |_=>.undef
  | .pe e d=>.lst e d
  | .agg cs=>.agg (c9 (om objs n) cs)
  | .tup cs=>.tup (c9 (om objs n) cs)
  | .cy f cs=>.cy f (c9 (om objs n) cs)
  | .cR cs off=>.cR (c9 (om objs n) cs) off
  | .gp _ _ _ _=>.undef
  | .mp _=>.undef
  | .it _=>.undef
  | .lS _=>.undef
  |p=>p
def ids(objs:List Ob):Nat->PV->List Nat
 |0,_=>[]
 |n+1,p=>match p with
  | .row _ r=>[r]
  | .box b _=>b::(match eT objs b with| .box cs=>fo (ids objs n) cs|_=>[])
  | .agg cs=>fo (ids objs n) cs
  | .tup cs=>fo (ids objs n) cs
  | .cy _ cs=>fo (ids objs n) cs
  | .cR cs _=>fo (ids objs n) cs
  |_=>[]
def wk:Nat->PV->PV
 |0,p=>p
 |n+1,p=>match p with
  | .bl b=>.bool b
  | .agg cs=>.agg (c9 (wk n) cs)
  | .tup cs=>.tup (c9 (wk n) cs)
  |p=>p
def plain:Nat->PV->Bool
 |0,_=>false
 |n+1,p=>match p with
  | .undef=>true
  | .int _ _=>true
  | .bl _=>true
  | .bool _=>true
  | .str _=>true
  | .agg cs=>iw (plain n) cs
  | .tup cs=>iw (plain n) cs
  | .nilp=>true
  | .nilm=>true
  | .nilf=>true
  |_=>false
def xi:Ob->Ob
 | .row e d _=>.row e d false
 | .box _=>.dead
 |o=>o
def gB(F:List Nat):Nat->List Ob->List Ob
 |_,[]=>[]
 |i,o::l=>(bif fP i F then xi o else o)::gB F (i+1) l
def pk(F:List Nat)(objs:List Ob):dS->dS
 |[]=>[]
 |(t,p)::s=>(t,bif sT (λb=>(match eT objs b with| .box _=>vN b 8 p|_=>false)) F then(bif iw (λi=>fP i F) (ids objs 8 p)then om objs 8 p else .undef)else p)::pk F objs s
structure eE where
 tt:TypeId->Option TI
 n:Nat
 own:List Nat:=[]
 eB:List FuncId:=[]
 live:List FuncId:=[]
 n0:Nat:=0
 gK:List (Nat×List Nat):=[]
 qk:List Nat:=[]
 Nz:Bool:=false
 xz:List Nat:=[]
 view:List Nat:=[]
 KQ:Bool:=false
def Pg(f:Nat->Nat):Nat->PV->PV
 |0,_=>.undef
 |k+1,p=>match p with
  | .row e r=>.row e (f r)
  | .mp r=>.mp (f r)
  | .agg cs=>.agg (c9 (Pg f k) cs)
  | .tup cs=>.tup (c9 (Pg f k) cs)
  | .cy g cs=>.cy g (c9 (Pg f k) cs)
  | .cR cs off=>.cR (c9 (Pg f k) cs) off
  | .box _ _=>.undef
  | .gp _ _ _ _=>.undef
  | .it _=>.undef
  | .lS _=>.undef
  |p=>p
def sR:List Nat->Nat->Nat->Option Nat
 |[],_,_=>none
 |x::l,k,n=>match nb x n with
  |true=>some k
  |false=>sR l (k+1) n
def jS(ps:List Nat):Nat->PV->PV
 |0,_=>.undef
 |n+1,p=>match p with
  | .row e r=>(match sR ps 0 r with|some k=>.row e k|none=>.undef)
  | .mp r=>(match sR ps 0 r with|some k=>.mp k|none=>.undef)
  | .it r=>(match sR ps 0 r with|some k=>.it k|none=>.undef)
  | .lS r=>(match sR ps 0 r with|some k=>.lS k|none=>.undef)
  | .box r off=>(match sR ps 0 r with|some k=>.box k off|none=>.undef)
  | .gp e r i off=>(match sR ps 0 r with|some k=>.gp e k i off|none=>.undef)
  | .agg cs=>.agg (c9 (jS ps n) cs)
  | .tup cs=>.tup (c9 (jS ps n) cs)
  | .cy g cs=>.cy g (c9 (jS ps n) cs)
  | .cR cs off=>.cR (c9 (jS ps n) cs) off
  |p=>p
def A9(ps:List Nat):dS->dS
 |[]=>[]
 |(t,p)::s=>(t,jS ps 8 p)::A9 ps s
def j7(ps:List Nat):Ob->Ob
 | .box cs=>.box (c9 (jS ps 8) cs)
 | .loop n b a c s j=>.loop n b a c (A9 ps s) j
 | .iter m s=>(match sR ps 0 m with|some k=>.iter k s|none=>.dead)
 |o=>o
def rh(f:Nat->Nat):Nat->PV->PV
 |0,_=>.undef
 |k+1,p=>match p with
  | .row e r=>.row e (f r)
  | .mp r=>.mp (f r)
  | .it r=>.it (f r)
  | .lS r=>.lS (f r)
  | .box r off=>.box (f r) off
  | .gp e r i off=>.gp e (f r) i off
  | .agg cs=>.agg (c9 (rh f k) cs)
  | .tup cs=>.tup (c9 (rh f k) cs)
  | .cy g cs=>.cy g (c9 (rh f k) cs)
  | .cR cs off=>.cR (c9 (rh f k) cs) off
  |p=>p
def IQ(f:Nat->Nat):dS->dS
 |[]=>[]
 |(t,p)::s=>(t,rh f 8 p)::IQ f s
def o5(f:Nat->Nat):Ob->Ob
 | .box cs=>.box (c9 (rh f 8) cs)
 | .loop n b a c s j=>.loop n b a c (IQ f s) j
 | .iter _ _=>.dead
 |o=>o
def lg:List Nat->Bool
 |[]=>true
 |x::l=>bif fP x l then false else lg l
def iP(n:Nat):List Nat->Nat->Nat
 |[],j=>n+j
 |r::_,0=>r
 |_::F,j+1=>iP n F j
def Gb:List Nat->List Ob->List Ob->List Ob
 |[],l,xs=>iR l xs
 |r::F,l,x::xs=>Gb F (ja l r x) xs
 |_::_,l,[]=>l
def lr(F:List Nat):List Ob->List Ob
 |[]=>[]
 | .iter m s::l=>(bif fP m F then .dead else .iter m s)::lr F l
 |o::l=>o::lr F l
def tE:Nat->PV->List Nat
 |0,_=>[]
 |n+1,p=>match p with
  | .row _ r=>[r]
  | .agg cs=>fo (tE n) cs
  | .tup cs=>fo (tE n) cs
  |_=>[]
def Jq(objs:List Ob):Nat->PV->PV
 |0,_=>.undef
 |n+1,p=>match p with
  | .row e r=>match eT objs r with
   | .row a d _=>bif nb e a then .lst e d else .undef
   |_=>.undef
  | .agg cs=>.agg (c9 (Jq objs n) cs)
  | .tup cs=>.tup (c9 (Jq objs n) cs)
  |p=>p
def o6:Nat->PV->List Nat
 |0,_=>[]
 |n+1,p=>match p with
  | .row _ r=>[r]
  | .mp r=>[r]
  | .lS r=>[r]
  | .box b _=>[b]
  | .agg cs=>fo (o6 n) cs
  | .tup cs=>fo (o6 n) cs
  | .cy _ cs=>fo (o6 n) cs
  | .cR cs _=>fo (o6 n) cs
  |_=>[]
def reach(objs:List Ob):Nat->List Nat->List Nat->List Nat
 |0,_,seen=>seen
 |_+1,[],seen=>seen
 |n+1,x::todo,seen=>match fP x seen with
  |true=>reach objs n todo seen
  |false=>reach objs n (iR todo (match eT objs x with| .box cs=>fo (o6 8) cs| .loop _ _ _ _ s _=>fo (λ(x:Nat×PV)=>o6 8 x.2) s|_=>[])) (iR seen [x])
def mH:Ob->Bool
 | .row _ _ _=>true
 | .map _ _ _=>true
 | .dead=>true
 |_=>false
def Qu(r n:Nat):Nat->Nat
 |0=>r
 |i+1=>n+i
def qx(m:Nat):List Ob->List Ob
 |[]=>[]
 | .iter m' s::l=>(bif nb m' m then .dead else .iter m' s)::qx m l
 |o::l=>o::qx m l
inductive V5 where
 |fn (f:FuncId)|lS
abbrev ml:=V5->List Ob->List PV->(PV->List Ob->Prop)->Prop
def iH:PV->Bool
 | .undef=>false
 | .agg _=>false
 | .tup _=>false
 |_=>true
def je:List CK->List PV->Bool
 |[],[]=>true
 |c::cs,p::ps=>tP c p&&je cs ps
 |_,_=>false
section
variable (A:qC) (G:eE) (C:ml)
def nK(s:dS):List Operand->List TypeId->List PV
 |x::xs,t::ts=>gj G.tt s t x::nK s xs ts
 |x::xs,[]=>ev s x::nK s xs []
 |[],_=>[]
def vt(s:dS):List Operand->List TypeId->List PV
 |x::xs,t::ts=>(match mz x with|true=>.nF|false=>gj G.tt s t x)::vt s xs ts
 |x::xs,[]=>ev s x::vt s xs []
 |[],_=>[]
def CN(f:FuncId)(s:dS)(xs:List Operand)(ts:List TypeId):List PV:=match fP f G.live with
 |true=>vt G s xs ts
 |false=>nK G s xs ts
def HT(x:Operand)(t:TypeId):Option TypeId:=match mz x with
 |true=>(match G.tt t with|some ti=>some ti.el|none=>none)
 |false=>none
def og(s:dS):Nat->List Operand->List TypeId->List PV
 |n,x::xs,t::ts=>(match HT G x t with
  |some e=>.row e n::og s (n+1) xs ts
  |none=>gj G.tt s t x::og s n xs ts)
 |n,x::xs,[]=>ev s x::og s n xs []
 |_,[],_=>[]
def oG:List Operand->List TypeId->List Ob
 |x::xs,t::ts=>(match HT G x t with
  |some e=>.row e (.list []) true::oG xs ts
  |none=>oG xs ts)
 |_,_=>[]
def eH:List Nat->Bool|[]=>true|_=>false
def zb(o:Option Nat)(l:List Nat):Bool:=match o with|some n=>fP n l|none=>false
def wv(f:V5)(args:List PV)(s:dS)(a:List Ob)(F:List Nat)(K:PV->St->Prop):Prop:=
 bif lg F&&iw (λr=>jv r (cv a)) F then
  C f (c9 (λr=>j7 F (eT a r)) F) (c9 (jS F 8) args) λv o'=>K (rh (iP (cv a) F) 8 v) ⟨s,Gb F (lr F a) (c9 (o5 (iP (cv a) F)) o')⟩else False
def CA(f:V5)(args:List PV)(s:dS)(a:List Ob)(K:PV->St->Prop):Prop:=wv C f args s a (reach a 64 (fo (o6 8) args) []) K
def Lc(f:FuncId)(args:List PV)(st:St)(K:PV->St->Prop):Prop:=match fP f G.eB with
 |true=>CA C (.fn f) args st.s st.o K
 |false=>CA C (.fn f) (c9 (Jq st.o 8) args) st.s (gB (fo (tE 8) args) 0 st.o) K
def J6(i:Nat)(args:List PV)(st:St)(K:PV->St->Prop):Prop:=match eT st.o i with
 | .loop _ _ _ _ _ .ready=>Pr (reach st.o 64 (i::fo (o6 8) args) [])
 |_=>False
 where Pr (F:List Nat):Prop:=wv C .lS args st.s st.o F K
def zU(kp:Bool)(f:FuncId)(args:List PV)(st:St)(K:PV->St->Prop):Prop:=
 match fP f G.live with
 |true=>Lc G C f args st K
 |false=>match kp&&fP f G.eB with
 |true=>(match args with
  | .row e r::rest=>(match eT st.o r with
   | .row a d true=>bif nb e a&&eH (fo (ids st.o 8) rest)then
    C (.fn f) [.row a d true] (.row e 0::c9 (om st.o 8) rest) (λv o'=>match o' with
     |ob::more=>bif mH ob&&iw mH more then K (Pg (Qu r (cv st.o)) 8 v) ⟨st.s,iR (ja st.o r ob) more⟩else False
     |_=>False)else False
   |_=>False)
  |_=>False)
 |false=>C (.fn f) [] (c9 (om st.o 8) args) λv o'=>bif iw mH o' then
  (match plain 8 v with
   |true=>K v st
   |false=>K (Pg (λi=>cv st.o+i) 8 v) ⟨pk (fo (ids st.o 8) args) st.o st.s,iR (gB (fo (ids st.o 8) args) 0 st.o) o'⟩)else False
def sx(a:PV->PV)(tt:TypeId->Option TI)(s:dS)(e:TypeId)(b:TI):Nat->Nat->List (Nat×Operand)->Option (List (List D))
 |i,n,[]=>bif nb i n then some []else none
 |i,n,(j,x)::r=>bif nb i j&&je b.cd (c9 a (flat (gj tt s e x)))&&iw iH (flat (gj tt s e x))then
  (match sx a tt s e b (i+1) n r with
   |some rows=>some (c9 sN (c9 a (flat (gj tt s e x)))::rows)
   |none=>none)else none
def wx(s:dS):Nat->Nat->List (Nat×Operand)->Option (List PV)
 |i,n,[]=>bif nb i n then some []else none
 |i,n,(j,x)::r=>bif nb i j&&iH (ev s x)then
  (match wx s (i+1) n r with
   |some l=>some (ev s x::l)
   |none=>none)else none
def Qe(ob:List Ob)(p:PV)(K:TypeId->D->Prop):Prop:=match p with
 | .lst e d=>K e d
 | .row e r=>(match eT ob r with
  | .row a d _=>bif nb e a then K e d else False
  |_=>False)
 |_=>False
def jC:CK->Bool
 | .int _=>true
 | .str=>true
 | .bool=>true
 |_=>false
def vR(l:List CK):List D:=c9 (λc=>sN (iy c)) l
def qv(ok:Bool)(v:PV)(b:Bool):PV:=bif ok then .tup [v,.bl b]else v
def zX(b:Bool):PV->Bool
 | .agg _=>b
 | .undef=>false
 |_=>bif b then false else true
def keyOf(a:TI):Option CK:=match a.agg,a.cd with
 |false,[kc]=>bif jC kc then some kc else none
 |true,[.str,.str]=>bif a.Ao then some .iM else none
 |_,_=>none
def kn(c:CK)(p:PV):Bool:=match c with
 | .iM=>(match p with| .agg [.str _,.str _]=>true|_=>false)
 |c=>tP c p
def mQ:PV->D
 | .agg [.str a,.str b]=>.ptr [.str a,.str b]
 |p=>sN p
def xJ(t:TypeId)(m k x:Operand)(st:St)(K:St->Prop):Prop:=match G.tt t with
 |some ti=>bif isMap ti then(match G.tt (ti.ar-1),G.tt ti.el with
  |some c,some a=>match keyOf c with
   |some kc=>bif kn kc (gj G.tt st.s (ti.ar-1) k)then(match ev st.s m with
    | .mp r=>(match eT st.o r with
     | .map b e d=>bif decide (kc=b)&&nb e ti.el&&jv 0 (cv a.cd)&&je a.cd (c9 (om st.o 8) (flat (gj G.tt st.s ti.el x)))&&iw iH (flat (gj G.tt st.s ti.el x))&&zX a.agg (gj G.tt st.s ti.el x)&&eH (fo (ids st.o 8) (flat (gj G.tt st.s ti.el x)))then
      K ⟨st.s,ja (qx r st.o) r (.map kc e (A.p6 d (mQ (gj G.tt st.s (ti.ar-1) k)) (c9 sN (c9 (om st.o 8) (flat (gj G.tt st.s ti.el x))))))⟩else False
     |_=>False)
    |_=>False)else False
   |none=>False
  |_,_=>False)else False
 |none=>False
def Cw(t:TypeId)(m k x:Operand)(st:St)(K:St->Prop):Prop:=match G.tt t with
 |some ti=>(match gj G.tt st.s ti.el x with
  | .mp j=>xJ A G t m k x (vW j st) K
  |_=>xJ A G t m k x st K)
 |none=>False
def Gq(t:TypeId)(m k:Operand)(st:St)(K:St->Prop):Prop:=match G.tt t with
 |some ti=>bif isMap ti then(match G.tt (ti.ar-1)with
  |some b=>match keyOf b with
   |some kc=>bif kn kc (gj G.tt st.s (ti.ar-1) k)then(match ev st.s m with
    | .mp r=>(match eT st.o r with
     | .map a e d=>bif decide (kc=a)then K ⟨st.s,ja (qx r st.o) r (.map kc e (A.Gn d (mQ (gj G.tt st.s (ti.ar-1) k))))⟩else False
     |_=>False)
    |_=>False)else False
   |none=>False
  |none=>False)else False
 |none=>False
def xx:Nat->List CK->List PV
 |_,[]=>[]
 |n,.slice e::cs=>.row e n::xx (n+1) cs
 |n,c::cs=>iy c::xx n cs
def qt:List CK->List Ob
 |[]=>[]
 | .slice e::cs=>.row e (.list []) true::qt cs
 |_::cs=>qt cs
def Sf(A:qC)(d kd:D)(a b:D->Prop):Prop:=(A.pb d kd=true->a kd)/\(A.pb d kd=false->b kd)
def HW(kd:D)(k:D->Prop):Prop:=k kd
def xE(a:TI):Bool:=match a.agg,a.cd with
 |false,[.int _]=>true
 |false,[.str]=>true
 |false,[.bool]=>true
 |false,[.map _ _]=>true
 |_,_=>false
def Fg(ti:TI)(ps:List PV):Bool:=match oo ps with
 |true=>ti.BL
 |false=>true
def OC(ps cs:List PV):Bool:=match oo ps with
 |true=>oo cs
 |false=>true
def Qw(a:TI):Bool:=match qa a with
 |some .u8=>true
 |_=>false
def Ih(e:TypeId)(x:PV)(d2:D)(st:St)(o:Oper)(K:PV->St->Prop):Prop:=match x with
 | .row e4 r=>(match eT st.o r with
  | .row e5 d wr=>bif nb e e4&&nb e e5&&nE G.n0 r then
   A.fU (A.add (A.len d) (A.len d2)) 4294967296/\K (.row e r) ⟨mG r st.s,ja (jT r st.o) r (.row e (A.app d d2) wr)⟩else False
  |_=>False)
 | .pe e4 d=>bif nb e e4 then
  A.fU (A.add (A.len d) (A.len d2)) 4294967296/\((match zb o.dst G.own with|true=>(A.idx 0 (A.len d2)/\K (.row e (cv st.o)) ⟨st.s,iR st.o [.row e (A.app d d2) true]⟩)|false=>(K (.lst e (A.app d d2)) st)))else False
 |_=>False
def uv(o:Oper)(st:St)(K:PV->St->Prop):Prop:=
 match o.op with
 | .alloc t=>match G.tt t with
  |some ti=>match zb o.dst G.own,eJ ti with
   |true,some e=>K (.box (cv st.o+1) 0) ⟨st.s,iR st.o [.row e (.list []) true,.box [.row e (cv st.o)]]⟩
   |true,none=>bif Fg ti (xx (cv st.o) ti.cd)then K (.box (cv st.o+cv (qt ti.cd)) 0) ⟨st.s,iR st.o (iR (qt ti.cd) [.box (xx (cv st.o) ti.cd)])⟩else False
   |_,_=>bif Fg ti (ti.cd.map iy)then K (.box (cv st.o) 0) ⟨st.s,iR st.o [.box (ti.cd.map iy)]⟩else False
  |none=>False
 | .box t x=>match G.tt t with
  |some ti=>bif nb (cv (flat (gj G.tt st.s t x))) (cv ti.cd)&&jv 0 (cv ti.cd)&&Fg ti (flat (gj G.tt st.s t x))then K (.box (cv st.o) 0) ⟨st.s,iR st.o [.box (flat (gj G.tt st.s t x))]⟩else False
  |none=>False
 | .store t x y=>match G.tt t with
  |none=>False
  |some ti=>bif nb (cv (flat (gj G.tt st.s t y))) (cv ti.cd)&&iw iH (flat (gj G.tt st.s t y))&&jv 0 (cv ti.cd)then(match ev st.s x with
   | .box b off=>(match eT st.o b with
    | .box cs=>bif nE (off+cv ti.cd) (cv cs)&&OC (oB cs off (flat (gj G.tt st.s t y))) cs then K .undef ⟨st.s,ja st.o b (.box (oB cs off (flat (gj G.tt st.s t y))))⟩else False
    |_=>False)
   | .gp e r i off=>(match eT st.o r,nb off fY with
    | .row h d true,false=>bif nb e h&&iI G.tt e off ti.cd&&je ti.cd (c9 (om st.o 8) (flat (gj G.tt st.s t y)))&&eH (fo (ids st.o 8) (flat (gj G.tt st.s t y)))then
     K .undef ⟨st.s,ja st.o r (.row h (A.o4 d i off (c9 sN (c9 (om st.o 8) (flat (gj G.tt st.s t y))))) true)⟩else False
    |_,_=>False)
   |_=>False)else False
 | .buildSlice t len ps=>match G.tt t with
  |none=>False
  |some ti=>match eJ ti with
   |none=>False
   |some e=>match G.tt e with
    |none=>False
    |some a=>bif nE len 1000&&nE a.cd.length 1000&&jv 0 (cv a.cd)then(match a.cd with
     |[.fn]=>(match wx st.s 0 len ps.toList with
      |none=>False
      |some n=>K (.cR (c9 (om st.o 8) n) fY) ⟨pk (fo (ids st.o 8) n) st.o st.s,gB (fo (ids st.o 8) n) 0 st.o⟩)
     |_=>(match sx (om st.o 8) G.tt st.s e a 0 len ps.toList with
     |none=>False
     |some rows=>(match zb o.dst G.own with
      |true=>bif eH (fo (ids st.o 8) (fo (λp=>flat (gj G.tt st.s e p.2)) ps.toList))then K (.row e (cv st.o)) ⟨st.s,iR st.o [.row e (A.lit rows) true]⟩else False
      |false=>(match eH (fo (ids st.o 8) (fo (λp=>flat (gj G.tt st.s e p.2)) ps.toList))with
       |true=>K (.pe e (A.lit rows)) st
       |false=>K (.pe e (A.lit rows)) ⟨pk (fo (ids st.o 8) (fo (λp=>flat (gj G.tt st.s e p.2)) ps.toList)) st.o st.s,gB (fo (ids st.o 8) (fo (λp=>flat (gj G.tt st.s e p.2)) ps.toList)) 0 st.o⟩))))else False
 | .call { callee:=.builtin .append,args:=as,argTypes:=ts }=>match as.toList,ts.toList with
  |[x,y],[t1,t2]=>match G.tt t1,G.tt t2 with
   |some i1,some i2=>match eJ i1 with
    |some e=>(match eJ i2 with
     |some e2=>bif nb e e2 then(match G.tt e with
      |none=>False
      |some a=>bif nE a.bytes 1024&&jv 0 (cv a.cd)then Qe st.o (gj G.tt st.s t2 y) (λe3 d2=>bif nb e e3 then Ih A G e (QB G.tt st.s t1 x) d2 st o K else False)else False)else False
     |none=>(match G.tt e,gj G.tt st.s t2 y with
      |some a,.str u=>bif isStr i2&&Qw a&&nE a.bytes 1024 then Ih A G e (QB G.tt st.s t1 x) (A.Nr u) st o K else False
      |_,_=>False))
    |none=>False
   |_,_=>False
  |_,_=>False
 | .assign x=>(match zb o.dst G.own&&mz x with
  |true=>(match G.tt o.type with
   |some ti=>K (.row ti.el (cv st.o)) ⟨st.s,iR st.o [.row ti.el (.list []) true]⟩
   |none=>False)
  |false=>eU A G.tt o.op o.type st.s st.o λv=>K v st)
 | .build t ps=>(match zb o.dst G.own with
  |true=>(match G.tt t with
   |some ti=>(match ti.agg&&nb ti.ar 0 with
    |true=>(match mT st.s G.tt ti.fs ps.toList (xx (cv st.o) ti.cd)with
     |some cs=>K (.agg cs) ⟨st.s,iR st.o (qt ti.cd)⟩
     |none=>False)
    |false=>False)
   |none=>False)
  |false=>eU A G.tt o.op o.type st.s st.o λv=>K v st)
 | .slice t (.tmp D) lo z B=>match look st.s D with
  | .row e r=>(match zb o.dst G.own with
   |true=>(match lo,z,B with
    |some _,none,none=>(match G.tt t,G.tt e,eT st.o r with
     |some ti,some _,.row h d _=>(match eJ ti with
      |some q=>bif nb q e&&nb e h&&nE G.n0 r then xy st.s lo 0 λl=>A.fU l (A.len d)/\K (.row e r) ⟨mG r st.s,ja (jT r (gB [r] 0 st.o)) r (.row e (A.part d l (A.len d)) false)⟩else False
      |none=>False)
     |_,_,_=>False)
    |none,some _,none=>(match eH G.live,G.tt t,G.tt e,eT st.o r with
     |false,some ti,some _,.row h d true=>(match eJ ti with
      |some q=>bif nb q e&&nb e h&&nE G.n0 r then xy st.s z 0 λl=>A.idx 0 (A.len d)/\A.fU l (A.len d)/\K (.row e r) ⟨mG r st.s,ja (jT r st.o) r (.row e (A.part d 0 l) true)⟩else False
      |none=>False)
     |_,_,_,_=>False)
    |_,_,_=>False)
   |false=>(match zb o.dst G.view with
    |true=>(match lo,z,B with
     |some _,none,none=>(match G.tt t,G.tt e,eT st.o r with
      |some ti,some _,.row h d _=>(match eJ ti with
       |some q=>bif nb q e&&nb e h then xy st.s lo 0 λl=>A.idx 0 (A.len d)/\A.fU l (A.len d)/\K (.gp e r l fY) st else False
       |none=>False)
      |_,_,_=>False)
     |_,_,_=>False)
    |false=>eU A G.tt o.op o.type st.s (gB [r] 0 st.o) λv=>K v ⟨st.s,gB [r] 0 st.o⟩))
  |_=>eU A G.tt o.op o.type st.s st.o λv=>K v st
 | .makeSlice t x y=>match G.tt t with
  |some ti=>match eJ ti with
   |some e=>match G.tt e with
    |some a=>match ev st.s x,ev st.s y with
     | .int _ l,.int _ c=>bif nE a.bytes 1024&&jv 0 (cv a.cd)then A.fU l c/\A.fU c 4294967296/\K (.row e (cv st.o)) ⟨st.s,iR st.o [.row e (A.UF l (vR a.cd)) true]⟩else False
     |_,_=>False
    |none=>False
   |none=>False
  |none=>False
 | .makeMap t none=>match G.tt t with
  |some ti=>bif isMap ti then(match G.tt (ti.ar-1)with
   |some w=>match keyOf w with
    |some kc=>K (.mp (cv st.o)) ⟨st.s,iR st.o [.map kc ti.el (.list [])]⟩
    |none=>False
   |none=>False)else False
  |none=>False
 | .lookup t m k ok=>match G.tt t with
  |some ti=>bif isMap ti then(match G.tt (ti.ar-1),G.tt ti.el with
   |some w,some a=>match keyOf w with
    |some kc=>bif kn kc (gj G.tt st.s (ti.ar-1) k)then(match ev st.s m with
     | .mp r=>(match eT st.o r with
      | .map s e d=>bif decide (kc=s)&&nb e ti.el&&jv 0 (cv a.cd)then
       (match ok,xE a with
        |false,true=>HW (mQ (gj G.tt st.s (ti.ar-1) k)) λkd=>K (fg a (iN A d kd 0 a.cd)) st
        |_,_=>Sf A d (mQ (gj G.tt st.s (ti.ar-1) k)) (λkd=>K (qv ok (fg a (iN A d kd 0 a.cd)) true) st) (λ_=>K (qv ok (fg a (a.cd.map iy)) false) st))else False
      |_=>False)
     | .dmp e d=>bif decide (kc= .str)&&nb e ti.el&&jv 0 (cv a.cd)then
      (match ok,xE a with
       |false,true=>HW (mQ (gj G.tt st.s (ti.ar-1) k)) λkd=>K (fg a (iN A d kd 0 a.cd)) st
       |_,_=>Sf A d (mQ (gj G.tt st.s (ti.ar-1) k)) (λkd=>K (qv ok (fg a (iN A d kd 0 a.cd)) true) st) (λ_=>K (qv ok (fg a (a.cd.map iy)) false) st))else False
     |_=>False)else False
    |none=>False
   |_,_=>False)else False
  |none=>False
 | .mapUpdate t m k x=>Cw A G t m k x st (K .undef)
 | .insert t m k x=>Cw A G t m k x st (K .undef)
 | .call { callee:=.builtin .delete,args:=as,argTypes:=ts }=>(match as.toList,ts.toList with
  |[m,k],t::_=>Gq A G t m k st (K (.tup []))
  |_,_=>False)
 | .range t m=>match G.tt t with
  |some ti=>bif isMap ti then(match ev st.s m with
   | .mp r=>(match eT st.o r with
    | .map _ _ _=>K (.it (cv st.o)) ⟨st.s,iR st.o [.iter r (.list [])]⟩
    |_=>False)
   | .dmp e d=>bif nb e ti.el then K (.it (cv st.o)) ⟨st.s,iR st.o [.diter e d (.list [])]⟩else False
   |_=>False)else False
  |none=>False
 | .next it str=>bif str then False else(match ev st.s it with
  | .it i=>(match eT st.o i with
   | .iter m seen=>(match eT st.o m with
    | .map kc e d=>(match G.tt e with
     |some a=>bif jv 0 (cv a.cd)then(A.qm d seen->K (.tup [.bl false]) st)/\
      (∀j,A.tu d seen j->K (.tup [.bl true,mR A kc (A.cell d j 0),fg a (ko A d j 1 a.cd)]) ⟨st.s,ja st.o i (.iter m (A.oC seen j))⟩)else False
     |none=>False)
    |_=>False)
   | .diter e d seen=>(match G.tt e with
    |some a=>bif jv 0 (cv a.cd)then(A.qm d seen->K (.tup [.bl false]) st)/\
     (∀j,A.tu d seen j->K (.tup [.bl true,mR A .str (A.cell d j 0),fg a (ko A d j 1 a.cd)]) ⟨st.s,ja st.o i (.diter e d (A.oC seen j))⟩)else False
    |none=>False)
   |_=>False)
  |_=>False)
 | .entry it=>(match ev st.s it with
  | .it i=>(match eT st.o i with
   | .iter m seen=>(match eT st.o m with
    | .map kc e d=>(match G.tt e with
     |some a=>bif jv 0 (cv a.cd)then A.idx 0 (A.len seen)/\A.idx (A.last seen) (A.len d)/\K (.tup [mR A kc (A.cell d (A.last seen) 0),fg a (ko A d (A.last seen) 1 a.cd)]) st else False
     |none=>False)
    |_=>False)
   | .diter e d seen=>(match G.tt e with
    |some a=>bif jv 0 (cv a.cd)then A.idx 0 (A.len seen)/\A.idx (A.last seen) (A.len d)/\K (.tup [mR A .str (A.cell d (A.last seen) 0),fg a (ko A d (A.last seen) 1 a.cd)]) st else False
    |none=>False)
   |_=>False)
  |_=>False)
 | .call { callee:=.value (.func f),args:=as,argTypes:=ts }=>(match fP f G.live&&fP f G.eB with
  |true=>zU G C true f (og G st.s (cv st.o) as.toList ts.toList) ⟨st.s,iR st.o (oG G as.toList ts.toList)⟩ K
  |false=>zU G C true f (CN G f st.s as.toList ts.toList) st K)
 | .call { callee:=.value f,args:=as,argTypes:=ts }=>match ev st.s f with
  | .cy g oM=>(match jv g lR with
   |true=>zU G C false g (iR (nK G st.s as.toList ts.toList) oM) st K
   |false=>zU G C false (g-lR) (iR oM (nK G st.s as.toList ts.toList)) st K)
  | .lS i=>(match eH G.live with|true=>False|false=>J6 C i (nK G st.s as.toList ts.toList) st K)
  |_=>False
 |op=>eU A G.tt op o.type st.s st.o λv=>K v st
end
end
section
def cF{α:Type}{l:List α}{i:Nat}{x:α}(h:l[i]? =some x):i<l.length:=by
 rcases cb i l.length with b|b
 ·exact b
 ·rw[bY b]at h;simp at h
def gq{α β:Type}(f:α->β)(l:List α):(c9 f l).length=l.length:=by rw[iv];simp
def pa{l:List Nat}(h:lg l=true):l.Nodup:=by
 induction l with
 |nil=>exact ud
 |cons x l b=>
  simp only[lg]at h;cases hm:fP x l with
  |true=>rw[hm]at h;cases h
  |false=>rw[hm]at h;rw[cn];refine⟨λc=>?_,b h⟩;rw[(lZ x l).2 c]at hm;cases hm
def Cc:Nat->Nat->List Nat->Bool
 |0,_,_=>true
 |_+1,_,[]=>false
 |n+1,k,x::l=>nb x k&&Cc n (k+1) l
def Hs:∀{n k:Nat}{l:List Nat},Cc n k l=true->∀i,i<n->l[i]? =some (k+i)
 |0,_,_,_,i,b=>yO
 |n+1,k,[],h,i,b=>by simp[Cc]at h
 |n+1,k,x::l,h,i,b=>by
  simp only[Cc,bI]at h;cases i with
  |zero=>simp[dH h.1]
  |succ i=>
   have:=Hs h.2 i yO;simp only[gR,this]
   congr 1;omega
section
variable {P:Program}{tt:TypeId->Option TI}{N:Nat}{B:kk}{E:List RI}{Pp:ga}{objs:List Ob}{w:World}{st:St}{a:Act}
variable {F ps:List Nat}{n r:Nat}{E2 E':List RI}{v:Value}{cs:List PV}{vs:List Value}{f:Nat->Nat}{p:PV}{ad:Addr}{Pp' Pp:ga}{ri:RI}
def Qr(e:∀(i:Nat) x,i≠r->E[i]? =some x->E'[i]? =some x):∀(n:Nat)(p:PV)(v:Value),vN r n p=false->VR tt E Pp v p->VR tt E' Pp v p:=by
 intro n;induction n with
 |zero=>intro p v h;simp[vN]at h
 |succ n k=>
  have d:∀(cs:List PV)(vs:List Value),sT (vN r n) cs=false->fe tt E Pp vs cs->fe tt E' Pp vs cs:=by
   intro cs;induction cs with
   |nil=>intro vs _ g;cases g;exact .nil
   |cons c cs j=>
    intro vs h g;simp only[sT,J0]at h;cases g with
    |cons _ _ _ _ h1 h2=>exact .cons _ _ _ _ (k _ _ h.1 h1) (j _ h.2 h2)
  intro p v h g;cases g with
  |undef=>exact .undef _
  |int=>exact .int _ _
  |bl=>exact .bl _
  |bool=>exact .bool _
  |str=>exact .str _
  |lst _ _ _ hr=>exact .lst _ _ _ hr
  |pe _ _ _ _ hr=>exact .pe _ _ _ _ hr
  |agg vs cs hl=>exact .agg _ _ (d _ _ (by simpa[vN]using h) hl)
  |tup vs cs hl=>exact .tup _ _ (d _ _ (by simpa[vN]using h) hl)
  |box b _ _ hb=>exact .box _ _ _ (e _ _ (by rintro rfl;simp[vN]at h) hb)
  |row0 _ b hb=>exact .row0 _ _ (e _ _ (by rintro rfl;simp[vN]at h) hb)
  |row _ b _ _ _ _ hb=>exact .row _ _ _ _ _ _ (e _ _ (by rintro rfl;simp[vN]at h) hb)
  |gp _ _ b _ _ _ _ _ _ hb h0 h1=>exact .gp _ _ _ _ _ _ _ _ _ (e _ _ (by rintro rfl;simp[vN]at h) hb) h0 h1
  |kF _ _ _ _ _ _ _ _ hr h0 h1=>exact .kF _ _ _ _ _ _ _ _ hr h0 h1
  |cR u vs cs off b o hu hl iJ=>exact .cR _ _ _ _ _ _ hu (d _ _ (by simpa[vN]using h) hl) iJ
  |dptr _ _ _ hr=>exact .dptr _ _ _ hr
  |dmp _ _ _ _ hr=>exact .dmp _ _ _ _ hr
  |tO _ _ _ _ _ hr=>exact .tO _ _ _ _ _ hr
  |cy u f vs cs hu hl=>exact .cy _ _ _ _ hu (d _ _ (by simpa[vN]using h) hl)
  |nilp=>exact .nilp
  |nilm=>exact .nilm
  |nF=>exact .nF
  |nilf=>exact .nilf
  |mp b _ _ _ hb=>exact .mp _ _ _ _ (e _ _ (by rintro rfl;simp[vN]at h) hb)
  |it b _ hb=>exact .it _ _ (e _ _ (by rintro rfl;simp[vN]at h) hb)
  |lS b _ hb=>exact .lS _ _ (e _ _ (by rintro rfl;simp[vN]at h) hb)
def CE(b:∀(i:Nat) x,i≠r->E[i]? =some x->E'[i]? =some x)(c:VR tt E Pp v p):VR tt E' Pp v (kill r p):=by
 unfold kill;cases h:vN r 8 p with
 |true=>exact .undef _
 |false=>exact Qr b 8 p v h c
def zk(r:Nat)(s:dS)(t:Nat):look (mG r s) t=kill r (look s t):=by
 induction s with
 |nil=>simp[mG,look,kill,vN]
 |cons x s b=>obtain⟨k,p⟩:=x;simp only[mG,look,b];cases nb k t<;>simp
def Hd(f:PV->PV):Prop:=∀p,pW (f p)=true->pW p=true
def Ff{f:PV->PV}(h:Hd f):∀{cs:List PV},oo (c9 f cs)=true->oo cs=true
 |[],hb=>yC hb
 |[_],hb=>yC hb
 |[a,b],hb=>h a hb
 |_::_::_::_,hb=>yC hb
def tf.map{T:TypeId}(h:tf tt T cs){f:PV->PV}(hf:Hd f):tf tt T (c9 f cs):=λhb=>h (Ff hf hb)
def IH(r:Nat)(e:TypeId)(d:D):Hd (s3 r e d):=by
 intro p;unfold s3;cases vN r 8 p with
 |false=>exact id
 |true=>
  simp only[cond_true];cases p<;>simp only[ux]<;>(try exact id)<;>(try exactλh=>(yC h))
  rename_i x;cases nb x r<;>exactλh=>(yC h)
def Lo(r:Nat):Hd (kill r):=by
 intro p;unfold kill;cases vN r 8 p with
 |false=>exact id
 |true=>exactλh=>(yC h)
def IW(ps:List Nat):Hd (jS ps 8):=by
 intro p;cases p<;>simp only[jS]<;>(try exactλh=>by first|exact h|rfl)
 all_goals (split<;>exactλh=>by first|rfl|(cases h;done))
def KG(f:Nat->Nat):Hd (rh f 8):=by intro p;cases p<;>simp only[rh]<;>exactλh=>by first|exact h|rfl
def iO(tt:TypeId->Option TI)(E:List RI)(objs:List Ob)(w:World)(Pp:ga)(F:List Nat):ga:=λad v=>
 Pp ad v\/(w.cell? ad=some v/\∃i∈F,(∃cs,E[i]? =some (.box ad.block)/\objs[i]? =some (.box cs))\/
  (∃o len cap e d wr,E[i]? =some (.row ad.block o len cap)/\objs[i]? =some (.row e d wr)/\ad.off<o+len*(bV tt e).length))
def zz(I:WR tt E Pp objs w):∀(n:Nat)(p:PV)(v:Value),VR tt E Pp v p->(∀i∈ids objs n p,i∈F)->VR tt [] (iO tt E objs w Pp F) v (om objs n p):=by
 intro n;induction n with
 |zero=>intro p v _ _;exact .undef _
 |succ n M=>
  have mono:∀ad v,Pp ad v->iO tt E objs w Pp F ad v:=λad v h=>.inl h
  have m:∀(cs:List PV)(vs:List Value),fe tt E Pp vs cs->(∀i∈fo (ids objs n) cs,i∈F)->fe tt [] (iO tt E objs w Pp F) vs (c9 (om objs n) cs):=by
   intro cs;induction cs with
   |nil=>intro vs t _;cases t;exact .nil
   |cons c cs D=>
    intro vs t h;rw[l5]at h;cases t with
    |cons _ _ _ _ h1 h2=>exact .cons _ _ _ _ (M _ _ h1 (λi l=>h i (by simp[l]))) (D _ h2 (λi l=>h i (by rw[l5]at l;simp only[eQ,bJ];exact .inr l)))
  intro p v t h;cases t with
  |undef=>exact .undef _
  |int=>exact .int _ _
  |bl=>exact .bl _
  |bool=>exact .bool _
  |str=>exact .str _
  |lst _ _ _ hr=>exact .lst _ _ _ (hr.mono mono)
  |pe _ _ _ _ hr=>exact .lst _ _ _ (hr.mono mono)
  |agg vs cs hl=>exact .agg _ _ (m _ _ hl h)
  |tup vs cs hl=>exact .tup _ _ (m _ _ hl h)
  |cy u f vs cs hu hl=>exact .cy _ _ _ _ hu (m _ _ hl h)
  |cR u vs cs off b o hu hl iJ=>exact .cR _ _ _ _ _ _ hu (m _ _ hl h) (λj v z=>mono _ _ (iJ j v z))
  |kF _ _ _ _ _ _ _ _ hr h0 h1=>exact .kF _ _ _ _ _ _ _ _ (hr.mono mono) h0 h1
  |dptr _ _ _ hr=>exact .dptr _ _ _ (hr.mono mono)
  |dmp _ _ _ _ hr=>exact .dmp _ _ _ _ (hr.mono mono)
  |tO _ _ _ _ _ hr=>exact .tO _ _ _ _ _ (hr.mono mono)
  |nilp=>exact .nilp
  |nilm=>exact .nilm
  |nF=>exact .nF
  |nilf=>exact .nilf
  |gp=>exact .undef _
  |mp=>exact .undef _
  |it=>exact .undef _
  |lS=>exact .undef _
  |row0 e r x=>
   simp only[om];split
   ·rename_i H d wr A;cases hb:nb e H with
    |false=>exact .undef _
    |true=>obtain⟨ri,k,q⟩:=I.ob r _ (dB A rfl) rfl;rw[x]at k;cases k;have:d= .list []:=q;subst this;exact .lst _ _ _ (.slnil _)
   ·exact .undef _
  |row e r g o len cap x=>
   simp only[om];split
   ·rename_i H d wr A;cases hb:nb e H with
    |false=>exact .undef _
    |true=>
     have:=dH hb;subst this;have s:=dB A rfl;obtain⟨ri,k,q⟩:=I.ob r _ s rfl;rw[x]at k;cases k;obtain⟨vals,T,rows,y,rfl,hl,C,fL,ef,_,_⟩:=q;refine .lst _ _ _ (.sl e g o len cap rows (λi j=>vals.getD (o+i*(bV tt e).length+j) undef) hl C (λi row l=>(ef i row l).1) ?_ ?_)
     ·intro i j l z;have G:i<rows.length:=yO;obtain⟨L,hc⟩:=ef i _ (bB G);obtain⟨v,t,hr⟩:=hc j _ _ (bB yO) (bB z);refine .inr ⟨?_,r,h r (by simp[ids]),.inr ⟨o,len,cap,e,_,wr,x,s,?_⟩⟩
      ·rw[eN y,t];simp[t]
      ·have:(i+1)*(bV tt e).length<=len*(bV tt e).length:=dE _ l;rw[ez]at this;show o+i*(bV tt e).length+j<o+len*(bV tt e).length;omega
     ·intro i j row d ck l z K;obtain⟨_,hc⟩:=ef i row l;obtain⟨v,t,hr⟩:=hc j d ck z K;simp only[cj,t,dQ];exact hr.mono mono
   ·exact .undef _
  |box b off gW x=>
   simp only[om];split
   ·rename_i cs A;have s:=dB A rfl;obtain⟨ri,k,q⟩:=I.ob b _ s rfl;rw[x]at k;cases k;obtain⟨vs,T,y,J,_⟩:=q;cases hm:nb off fY with
    |true=>exact .undef _
    |false=>
    have:=VR.cR (tt:=tt) (E:=[]) (Pp:=iO tt E objs w Pp F) (.pointer (some ⟨gW,0+off,none⟩)) vs (c9 (om objs n) cs) off gW 0 (ru.mk hm) (m _ _ J (λi l=>h i (by simp only[ids,A];exact gG _ l))) (by intro j v z;refine .inr ⟨?_,b,h b (by simp[ids]),.inl ⟨cs,x,s⟩⟩;rw[eN y];simpa using z);simpa using this
   ·exact .undef _
def vo(d:WR tt E Pp objs w){ps:List PV}(c:fe tt E Pp vs ps)(h:∀i∈fo (ids objs n) ps,i∈F):
 fe tt [] (iO tt E objs w Pp F) vs (c9 (om objs n) ps):=by
 induction ps generalizing vs with
 |nil=>cases c;exact .nil
 |cons p ps e=>
  rw[l5]at h;cases c with
  |cons _ _ _ _ h1 h2=>exact .cons _ _ _ _ (zz d n _ _ h1 (λi b=>h i (by simp[b]))) (e h2 (λi b=>h i (by rw[l5]at b;simp only[eQ,bJ];exact .inr b)))
def jP(F:List Nat):∀(l:List Ob)(k i:Nat),(gB F k l)[i]? =(l[i]?).map λo=>bif fP (k+i) F then xi o else o
 |[],k,i=>by simp[gB]
 |o::l,k,i=>by
  cases i with
  |zero=>simp[gB]
  |succ i=>simp only[gB,gR,jP F l (k+1) i];rw[show k+1+i=k+(i+1)by omega]
def vn(F:List Nat):∀(l:List Ob)(k:Nat),(gB F k l).length=l.length
 |[],k=>rfl
 |o::l,k=>by simp[gB,vn F l (k+1)]
def Bv(h:iO tt E objs w Pp F ad v):Pp ad v\/own E objs ad.block:=by
 rcases h with h|⟨_,i,_,⟨cs,h1,h2⟩|⟨o,len,cap,e,d,wr,h1,h2,_⟩⟩
 ·exact .inl h
 ·exact .inr ⟨i,_,_,h2,rfl,h1,rfl⟩
 ·exact .inr ⟨i,_,_,h2,rfl,h1,rfl⟩
def OR.QL{e:TypeId}{d seen:D}(c:∀ad v,Pp ad v->Pp' ad v)(h:OR tt E Pp w ri (.diter e d seen)):OR tt E' Pp' w ri (.diter e d seen):=by
 cases ri<;>try exact h.elim
 obtain⟨b,h1,h2|⟨g,es,clock,rows,h2,h3,h4⟩⟩:=h
 ·exact⟨b,h1,.inl h2⟩
 ·exact⟨b,h1,.inr ⟨g,es,clock,rows,h2,h3.mono c,h4⟩⟩
def GC(e:WR tt E Pp objs w){i:Nat}{c1 c2:Code}{s:dS}{j:LS}(k:objs[i]? =some (.loop n ps c1 c2 s j))(h:E[i]? =some ri)(d:OR tt E Pp w ri (.loop n ps c1 c2 s j)){b:Nat}(hb:ri.du =some b)
 (c:iO tt E objs w Pp F ad v) (g:ad.block=b):False:=by
 cases ri<;>simp only[OR]at d
 simp only[RI.du,cr]at hb;obtain⟨r,h1,_⟩:=d
 have hc:pc w ad=some v:=by
  rcases c with c|⟨c,_⟩
  ·exact e.pi _ _ c
  ·exact gF c
 rw[<- g]at hb;subst hb;simp[pc,h1]at hc
def WR.qc(u:WR tt E Pp objs w)(F:List Nat):WR tt E (iO tt E objs w Pp F) (gB F 0 objs) w:=by
 have mono:∀ad v,Pp ad v->iO tt E objs w Pp F ad v:=λad v h=>.inl h;refine⟨by rw[vn];exact u.len,?_,?_,?_,u.Ru mono⟩
 ·intro ad v h;rcases h with h|⟨h,_⟩
  ·exact u.pi _ _ h
  ·exact gF h
 ·intro i o q hl;rw[jP]at q;cases t:objs[i]? with
  |none=>rw[t]at q;simp at q
  |some x=>
   rw[t]at q;simp only[cu,cr,fk]at q;by_cases D:i∈F
   ·have Q:fP i F=true:=(lZ i F).2 D;rw[Q]at q;simp only[cond_true]at q;cases x<;>simp only[xi]at q
    case box cs=>subst q;simp[Ob.live]at hl
    case loop=>subst q;obtain⟨ri,c,l⟩:=u.ob i _ t rfl;exact⟨ri,c,OR.frame (λ_ _ h=>h) mono (λ_ _=>rfl) (λb hb ad v I C=>(GC u t c l hb I C).elim) l⟩
    case row e d wr=>
     subst q;obtain⟨ri,c,l⟩:=u.ob i _ t rfl;refine⟨ri,c,?_⟩;cases ri with
     |row g o len cap=>
      obtain⟨vals,T,rows,h1,h2,h3,h4,h5,h6,h7,h8⟩:=l;refine⟨vals,T,rows,h1,h2,h3,h4,h5,?_,λh=>yE h,λ_=>⟨?_,?_⟩⟩
      ·intro i row H;obtain⟨a,b⟩:=h6 i row H;exact⟨a,λj d ck J S=>let ⟨v,I,hr⟩:=b j d ck J S;⟨v,I,hr.mono mono⟩⟩
      ·intro X j v H J I;refine .inr ⟨by rw[eN h1];exact I,i,D,.inr ⟨o,len,cap,e,d,wr,c,t,?_⟩⟩;have:(X+1)*(bV tt e).length<=len*(bV tt e).length:=dE _ H;rw[ez]at this;show o+X*(bV tt e).length+j<o+len*(bV tt e).length;omega
      ·intro ad v h hb;rcases h with h|⟨hc,k,hk,⟨cs,e1,e2⟩|⟨Y,z,A,e2,d2,G,e3,e4,e5⟩⟩
       ·cases wr with
        |true=>exact absurd hb (h7 rfl ad v h)
        |false=>exact(h8 rfl).2 ad v h hb
       ·have:=u.sep i k _ _ _ _ g t e2 rfl rfl c e1 rfl (by simp[RI.du,hb]);subst this;rw[c]at e1;cases e1
       ·have:=u.sep i k _ _ _ _ g t e4 rfl rfl c e3 rfl (by simp[RI.du,hb]);subst this;rw[c]at e3;cases e3;rw[t]at e4;cases e4;exact .inr e5
     |row0=>exact l
     |_=>exact l.elim
    case map kc e d=>
     subst q;obtain⟨ri,c,l⟩:=u.ob i _ t rfl;refine⟨ri,c,OR.frame (λ_ _ h=>h) mono (λ_ _=>rfl) ?_ l⟩;intro b hb ad v h C;rcases h with h|⟨hc,k,hk,⟨cs,e1,e2⟩|⟨Y,z,A,e2,d2,G,e3,e4,e5⟩⟩
     ·exact h
     ·have:=u.sep i k _ _ _ _ b t e2 rfl rfl c e1 hb (by simp[RI.du,C]);subst this;rw[t]at e2;cases e2
     ·have:=u.sep i k _ _ _ _ b t e4 rfl rfl c e3 hb (by simp[RI.du,C]);subst this;rw[t]at e4;cases e4
    case iter m s=>subst q;obtain⟨ri,c,l⟩:=u.ob i _ t rfl;exact⟨ri,c,by cases ri<;>exact l⟩
    case diter e d s=>subst q;obtain⟨ri,c,l⟩:=u.ob i _ t rfl;exact⟨ri,c,l.QL mono⟩
    case dead=>subst q;simp[Ob.live]at hl
   ·have Q:fP i F=false:=by
     cases h:fP i F with
     |false=>rfl
     |true=>exact absurd ((lZ i F).1 h) D
    rw[Q]at q;simp only[cond_false]at q;subst q;obtain⟨ri,c,l⟩:=u.ob i _ t hl;refine⟨ri,c,OR.frame (λ_ _ h=>h) mono (λ_ _=>rfl) ?_ l⟩;intro b hb ad v h C;rcases h with h|⟨hc,k,hk,⟨cs,e1,e2⟩|⟨Y,z,A,e2,d2,G,e3,e4,e5⟩⟩
    ·exact h
    ·have:=u.sep i k _ _ _ _ b t e2 hl rfl c e1 hb (by simp[RI.du,C]);subst this;exact absurd hk D
    ·have:=u.sep i k _ _ _ _ b t e4 hl rfl c e3 hb (by simp[RI.du,C]);subst this;exact absurd hk D
 ·intro i j oi oj ri rj b H J U R W O M V
  have back:∀(i:Nat)(o:Ob),(gB F 0 objs)[i]? =some o->o.live=true->∃x,objs[i]? =some x/\x.live=true:=by
   intro i o q hl;rw[jP]at q;cases t:objs[i]? with
   |none=>rw[t]at q;simp at q
   |some x=>
    rw[t]at q;simp only[cu,cr]at q;refine⟨x,rfl,?_⟩;cases x<;>simp[Ob.live]
    subst q;cases fP (0+i) F<;>simp[Ob.live,xi]at hl
  obtain⟨x,t,K⟩:=back i oi H U;obtain⟨y,Z,L⟩:=back j oj J R;exact u.sep i j x y ri rj b t Z K L W O M V
def mD.qc{own:Nat->Prop}{w0:World}(h:mD own w0 E objs):mD own w0 E (gB F 0 objs):=by
 intro i o ri b c hl e hb;rw[jP]at c;cases d:objs[i]? with
 |none=>rw[d]at c;simp at c
 |some x=>
  rw[d]at c;simp only[cu,cr]at c;refine h i x ri b d ?_ e hb;cases x<;>simp[Ob.live]
  subst c;cases fP (0+i) F<;>simp[Ob.live,xi]at hl
def cY.qc(h:cY tt B E Pp objs w)(F:List Nat):cY tt B E (iO tt E objs w Pp F) (gB F 0 objs) w:=by
 refine⟨h.wr.qc F,h.pre,λad v b=>.inl (h.ua ad v b),h.fr,?_,h.fresh.qc⟩;intro ad v b;rcases Bv b with h1|⟨i,o,ri,h1,h2,h3,h4⟩
 ·exact h.kV ad v h1
 ·exact .inr (h.fresh i o ri _ h1 h2 h3 h4)
def VR.of_nil(h:VR tt [] Pp v p)(E:List RI):VR tt E Pp v p:=h.mono (λi x b=>yE b) (λ_ _ h=>h)
def fe.of_nil{v:List Value}{p:List PV}(h:fe tt [] Pp v p)(E:List RI):fe tt E Pp v p:=h.mono (λi x b=>yE b) (λ_ _ h=>h)
def KN:∀(n:Nat)(p:PV)(v:Value),plain n p=true->VR tt E Pp v p->VR tt E' Pp' v p:=by
 intro n;induction n with
 |zero=>intro p v h;simp[plain]at h
 |succ n g=>
  have b:∀(cs:List PV)(vs:List Value),iw (plain n) cs=true->fe tt E Pp vs cs->fe tt E' Pp' vs cs:=by
   intro cs;induction cs with
   |nil=>intro vs _ d;cases d;exact .nil
   |cons c cs e=>
    intro vs h d;simp only[iw,bI]at h;cases d with
    |cons _ _ _ _ h1 h2=>exact .cons _ _ _ _ (g _ _ h.1 h1) (e _ h.2 h2)
  intro p v h d
  cases d<;>simp only[plain]at h<;>first
   |exact .undef _|exact .int _ _|exact .bl _|exact .bool _|exact .str _|exact .nilp|exact .nilm|exact .nilf|exact .nF
   |(rename_i hl;exact .agg _ _ (b _ _ h hl))|(rename_i hl;exact .tup _ _ (b _ _ h hl))|simp at h
def KF(hf:∀(i:Nat) x,E[i]? =some x->E2[f i]? =some x):∀(n:Nat)(p:PV)(v:Value),VR tt E Pp v p->VR tt E2 Pp v (Pg f n p):=by
 intro n;induction n with
 |zero=>intro p v _;exact .undef _
 |succ n h=>
  have d:∀(cs:List PV)(vs:List Value),fe tt E Pp vs cs->fe tt E2 Pp vs (c9 (Pg f n) cs):=by
   intro cs;induction cs with
   |nil=>intro vs e;cases e;exact .nil
   |cons c cs g=>
    intro vs e;cases e with
    |cons _ _ _ _ h1 h2=>exact .cons _ _ _ _ (h _ _ h1) (g _ h2)
  intro p v e;cases e with
  |undef=>exact .undef _
  |int=>exact .int _ _
  |bl=>exact .bl _
  |bool=>exact .bool _
  |str=>exact .str _
  |lst _ _ _ hr=>exact .lst _ _ _ hr
  |pe _ _ _ _ hr=>exact .pe _ _ _ _ hr
  |agg vs cs hl=>exact .agg _ _ (d _ _ hl)
  |tup vs cs hl=>exact .tup _ _ (d _ _ hl)
  |box b _ _ hb=>exact .undef _
  |row0 _ b hb=>exact .row0 _ _ (hf _ _ hb)
  |row _ b _ _ _ _ hb=>exact .row _ _ _ _ _ _ (hf _ _ hb)
  |gp _ _ b _ _ _ _ _ _ hb h0 h1=>exact .undef _
  |kF _ _ _ _ _ _ _ _ hr h0 h1=>exact .kF _ _ _ _ _ _ _ _ hr h0 h1
  |cR u vs cs off b o hu hl iJ=>exact .cR _ _ _ _ _ _ hu (d _ _ hl) iJ
  |dptr _ _ _ hr=>exact .dptr _ _ _ hr
  |dmp _ _ _ _ hr=>exact .dmp _ _ _ _ hr
  |tO _ _ _ _ _ hr=>exact .tO _ _ _ _ _ hr
  |cy u f vs cs hu hl=>exact .cy _ _ _ _ hu (d _ _ hl)
  |nilp=>exact .nilp
  |nilm=>exact .nilm
  |nF=>exact .nF
  |nilf=>exact .nilf
  |mp b _ _ _ hb=>exact .mp _ _ _ _ (hf _ _ hb)
  |it b _ hb=>exact .undef _
  |lS b _ hb=>exact .undef _
def Pb:∀(n:Nat)(p:PV)(v:Value),VR tt E Pp v p->VR tt E Pp v (wk n p):=by
 intro n;induction n with
 |zero=>intro p v h;exact h
 |succ n i=>
  have e:∀(cs:List PV)(vs:List Value),fe tt E Pp vs cs->fe tt E Pp vs (c9 (wk n) cs):=by
   intro cs;induction cs with
   |nil=>intro vs d;cases d;exact .nil
   |cons c cs g=>
    intro vs d;cases d with
    |cons _ _ _ _ h1 h2=>exact .cons _ _ _ _ (i _ _ h1) (g _ h2)
  intro p v d;cases p<;>try exact d
  case bl b=>cases d;exact .bool _
  case agg cs=>cases d with|agg vs _ hl=>exact .agg _ _ (e _ _ hl)
  case tup cs=>cases d with|tup vs _ hl=>exact .tup _ _ (e _ _ hl)
def xC(hf:∀(i:Nat) x,E[i]? =some x->E2[f i]? =some x):∀(n:Nat)(p:PV)(v:Value),VR tt E Pp v p->VR tt E2 Pp v (rh f n p):=by
 intro n;induction n with
 |zero=>intro p v _;exact .undef _
 |succ n h=>
  have d:∀(cs:List PV)(vs:List Value),fe tt E Pp vs cs->fe tt E2 Pp vs (c9 (rh f n) cs):=by
   intro cs;induction cs with
   |nil=>intro vs e;cases e;exact .nil
   |cons c cs g=>
    intro vs e;cases e with
    |cons _ _ _ _ h1 h2=>exact .cons _ _ _ _ (h _ _ h1) (g _ h2)
  intro p v e;cases e with
  |undef=>exact .undef _
  |int=>exact .int _ _
  |bl=>exact .bl _
  |bool=>exact .bool _
  |str=>exact .str _
  |lst _ _ _ hr=>exact .lst _ _ _ hr
  |pe _ _ _ _ hr=>exact .pe _ _ _ _ hr
  |agg vs cs hl=>exact .agg _ _ (d _ _ hl)
  |tup vs cs hl=>exact .tup _ _ (d _ _ hl)
  |box b _ _ hb=>exact .box _ _ _ (hf _ _ hb)
  |row0 _ b hb=>exact .row0 _ _ (hf _ _ hb)
  |row _ b _ _ _ _ hb=>exact .row _ _ _ _ _ _ (hf _ _ hb)
  |gp _ _ b _ _ _ _ _ _ hb h0 h1=>exact .gp _ _ _ _ _ _ _ _ _ (hf _ _ hb) h0 h1
  |kF _ _ _ _ _ _ _ _ hr h0 h1=>exact .kF _ _ _ _ _ _ _ _ hr h0 h1
  |cR u vs cs off b o hu hl iJ=>exact .cR _ _ _ _ _ _ hu (d _ _ hl) iJ
  |dptr _ _ _ hr=>exact .dptr _ _ _ hr
  |dmp _ _ _ _ hr=>exact .dmp _ _ _ _ hr
  |tO _ _ _ _ _ hr=>exact .tO _ _ _ _ _ hr
  |cy u f vs cs hu hl=>exact .cy _ _ _ _ hu (d _ _ hl)
  |nilp=>exact .nilp
  |nilm=>exact .nilm
  |nF=>exact .nF
  |nilf=>exact .nilf
  |mp b _ _ _ hb=>exact .mp _ _ _ _ (hf _ _ hb)
  |it b _ hb=>exact .it _ _ (hf _ _ hb)
  |lS b _ hb=>exact .lS _ _ (hf _ _ hb)
def yu(hf:∀(i:Nat) x,E[i]? =some x->E2[f i]? =some x)(b:fe tt E Pp vs cs):fe tt E2 Pp vs (c9 (rh f n) cs):=by
 induction cs generalizing vs with
 |nil=>cases b;exact .nil
 |cons c cs d=>
  cases b with
  |cons _ _ _ _ h1 h2=>exact .cons _ _ _ _ (xC hf n _ _ h1) (d h2)
def A3(s:dS)(t:Nat):look (IQ f s) t=rh f 8 (look s t):=by
 induction s with
 |nil=>rfl
 |cons x s b=>
  obtain⟨k,p⟩:=x;simp only[IQ,kO];split
  ·rfl
  ·exact b
def Ol(k:WR tt E Pp objs w):∀(n:Nat)(p:PV)(v:Value),VR tt E Pp v p->(∀i∈tE n p,i∈F)->VR tt E (iO tt E objs w Pp F) v (Jq objs n p):=by
 intro n;induction n with
 |zero=>intro p v _ _;exact .undef _
 |succ n l=>
  have mono:∀ad v,Pp ad v->iO tt E objs w Pp F ad v:=λad v h=>.inl h
  have d:∀(cs:List PV)(vs:List Value),fe tt E Pp vs cs->(∀i∈fo (tE n) cs,i∈F)->fe tt E (iO tt E objs w Pp F) vs (c9 (Jq objs n) cs):=by
   intro cs;induction cs with
   |nil=>intro vs b _;cases b;exact .nil
   |cons c cs j=>
    intro vs b h;rw[l5]at h;cases b with
    |cons _ _ _ _ h1 h2=>exact .cons _ _ _ _ (l _ _ h1 (λi g=>h i (by simp[g]))) (j _ h2 (λi g=>h i (by rw[l5]at g;simp only[eQ,bJ];exact .inr g)))
  intro p v b h;cases p<;>try exact b.mono (λ_ _ h=>h) mono
  case agg cs=>cases b with|agg vs _ hl=>exact .agg _ _ (d _ _ hl h)
  case tup cs=>cases b with|tup vs _ hl=>exact .tup _ _ (d _ _ hl h)
  case row e r=>exact(zz (F:=F) k 1 _ _ b h).of_nil _
def LN(g:WR tt E Pp objs w)(e:fe tt E Pp vs cs)(h:∀i∈fo (tE n) cs,i∈F):fe tt E (iO tt E objs w Pp F) vs (c9 (Jq objs n) cs):=by
 induction cs generalizing vs with
 |nil=>cases e;exact .nil
 |cons c cs d=>
  rw[l5]at h;cases e with
  |cons _ _ _ _ h1 h2=>exact .cons _ _ _ _ (Ol g n _ _ h1 (λi b=>h i (by simp[b]))) (d h2 (λi b=>h i (by rw[l5]at b;simp only[eQ,bJ];exact .inr b)))
def wy:∀{l:List Nat}{k n i:Nat},sR l k n=some i->∃j,i=k+j/\l[j]? =some n
 |[],k,n,i,h=>by simp[sR]at h
 |x::l,k,n,i,h=>by
  simp only[sR]at h;split at h
  ·rename_i hb;cases h;exact⟨0,rfl,by simp[dH hb]⟩
  ·obtain⟨j,h1,h2⟩:=wy h;exact⟨j+1,yO,yU h2⟩
def uG(hf:∀(i k:Nat) x,sR ps 0 i=some k->E[i]? =some x->E2[k]? =some x):∀(n:Nat)(p:PV)(v:Value),VR tt E Pp v p->VR tt E2 Pp v (jS ps n p):=by
 intro n;induction n with
 |zero=>intro p v _;exact .undef _
 |succ n h=>
  have d:∀(cs:List PV)(vs:List Value),fe tt E Pp vs cs->fe tt E2 Pp vs (c9 (jS ps n) cs):=by
   intro cs;induction cs with
   |nil=>intro vs e;cases e;exact .nil
   |cons c cs g=>
    intro vs e;cases e with
    |cons _ _ _ _ h1 h2=>exact .cons _ _ _ _ (h _ _ h1) (g _ h2)
  intro p v e;cases e with
  |undef=>exact .undef _
  |int=>exact .int _ _
  |bl=>exact .bl _
  |bool=>exact .bool _
  |str=>exact .str _
  |lst _ _ _ hr=>exact .lst _ _ _ hr
  |pe _ _ _ _ hr=>exact .pe _ _ _ _ hr
  |agg vs cs hl=>exact .agg _ _ (d _ _ hl)
  |tup vs cs hl=>exact .tup _ _ (d _ _ hl)
  |box b _ _ hb=>
   simp only[jS];split
   ·rename_i k hk;exact .box _ _ _ (hf _ _ _ hk hb)
   ·exact .undef _
  |row0 _ b hb=>
   simp only[jS];split
   ·rename_i k hk;exact .row0 _ _ (hf _ _ _ hk hb)
   ·exact .undef _
  |row _ b _ _ _ _ hb=>
   simp only[jS];split
   ·rename_i k hk;exact .row _ _ _ _ _ _ (hf _ _ _ hk hb)
   ·exact .undef _
  |gp _ _ b _ _ _ _ _ _ hb h0 h1=>
   simp only[jS];split
   ·rename_i k hk;exact .gp _ _ _ _ _ _ _ _ _ (hf _ _ _ hk hb) h0 h1
   ·exact .undef _
  |kF _ _ _ _ _ _ _ _ hr h0 h1=>exact .kF _ _ _ _ _ _ _ _ hr h0 h1
  |cR u vs cs off b o hu hl iJ=>exact .cR _ _ _ _ _ _ hu (d _ _ hl) iJ
  |dptr _ _ _ hr=>exact .dptr _ _ _ hr
  |dmp _ _ _ _ hr=>exact .dmp _ _ _ _ hr
  |tO _ _ _ _ _ hr=>exact .tO _ _ _ _ _ hr
  |cy u f vs cs hu hl=>exact .cy _ _ _ _ hu (d _ _ hl)
  |nilp=>exact .nilp
  |nilm=>exact .nilm
  |nF=>exact .nF
  |nilf=>exact .nilf
  |mp b _ _ _ hb=>
   simp only[jS];split
   ·rename_i k hk;exact .mp _ _ _ _ (hf _ _ _ hk hb)
   ·exact .undef _
  |it b _ hb=>
   simp only[jS];split
   ·rename_i k hk;exact .it _ _ (hf _ _ _ hk hb)
   ·exact .undef _
  |lS b _ hb=>
   simp only[jS];split
   ·rename_i k hk;exact .lS _ _ (hf _ _ _ hk hb)
   ·exact .undef _
def D4(hf:∀(i k:Nat) x,sR ps 0 i=some k->E[i]? =some x->E2[k]? =some x)(b:fe tt E Pp vs cs):fe tt E2 Pp vs (c9 (jS ps n) cs):=by
 induction cs generalizing vs with
 |nil=>cases b;exact .nil
 |cons c cs d=>
  cases b with
  |cons _ _ _ _ h1 h2=>exact .cons _ _ _ _ (uG hf n _ _ h1) (d h2)
def yM(s:dS)(t:Nat):look (A9 ps s) t=jS ps 8 (look s t):=by
 induction s with
 |nil=>rfl
 |cons x s b=>
  obtain⟨k,p⟩:=x;simp only[A9,kO];split
  ·rfl
  ·exact b
end
end
section
section
variable {P:Program}{tt:TypeId->Option TI}{N:Nat}{B:kk}{E:List RI}{Pp:ga}{objs:List Ob}{w:World}{st:St}{a:Act}
variable {r:Nat}{e:TypeId}{d:D}{Pp':ga}
def Ky(k:∀ad v,Pp ad v->Pp' ad v)(hr:∀b bs cl,E[r]? =some (.map b bs cl)->VR tt E Pp' (.map (some b)) (.dmp e d)):∀(n:Nat)(p:PV)(v:Value),VR tt E Pp v p->VR tt E Pp' v (ux r e d n p):=by
 intro n;induction n with
 |zero=>intro p v _;exact .undef _
 |succ n m=>
  have g:∀(cs:List PV)(vs:List Value),fe tt E Pp vs cs->fe tt E Pp' vs (c9 (ux r e d n) cs):=by
   intro cs;induction cs with
   |nil=>intro vs h;cases h;exact .nil
   |cons c cs i=>
    intro vs h;cases h with
    |cons _ _ _ _ h1 h2=>exact .cons _ _ _ _ (m _ _ h1) (i _ h2)
  intro p v h;have l:=(VR.jE (qA.refl E) k).1 h;cases h with
  |agg vs cs hl=>exact .agg _ _ (g _ _ hl)
  |tup vs cs hl=>exact .tup _ _ (g _ _ hl)
  |cy u f vs cs hu hl=>exact .cy _ _ _ _ hu (g _ _ hl)
  |cR u vs cs off b o hu hl iJ=>exact .cR _ _ _ _ _ _ hu (g _ _ hl) (λj v q=>k _ _ (iJ j v q))
  |mp b _ _ _ hb=>
   simp only[ux];cases s:nb b r with
   |false=>exact l
   |true=>have:=dH s;subst this;exact hr _ _ _ hb
  |_=>exact l
def ye(c:∀ad v,Pp ad v->Pp' ad v)(hr:∀b bs cl,E[r]? =some (.map b bs cl)->VR tt E Pp' (.map (some b)) (.dmp e d)){p:PV}{v:Value}(f:VR tt E Pp v p):VR tt E Pp' v (s3 r e d p):=by
 unfold s3;cases vN r 8 p with
 |true=>exact Ky c hr 8 p v f
 |false=>exact(VR.jE (qA.refl E) c).1 f
def IG(f:∀ad v,Pp ad v->Pp' ad v)(hr:∀b bs cl,E[r]? =some (.map b bs cl)->VR tt E Pp' (.map (some b)) (.dmp e d)){ps:List PV}{vs:List Value}(c:fe tt E Pp vs ps):fe tt E Pp' vs (c9 (s3 r e d) ps):=by
 induction ps generalizing vs with
 |nil=>cases c;exact .nil
 |cons p ps g=>cases c with|cons _ _ _ _ h1 h2=>exact .cons _ _ _ _ (ye f hr h1) (g h2)
def zi(r:Nat)(e:TypeId)(d:D)(s:dS)(t:Nat):look (AX r e d s) t=s3 r e d (look s t):=by
 induction s with
 |nil=>simp[AX,look,s3,vN]
 |cons x s b=>obtain⟨k,p⟩:=x;simp only[AX,look,b];cases nb k t<;>simp
def nz{l:List Ob}{i:Nat}{q:Ob}(h:(tz r e d l)[i]? =some q)(hl:q.live=true):i≠r/\∃o,l[i]? =some o/\q=yd r e d o:=by
 rw[tz,gO,iv]at h;by_cases b:i=r
 ·subst b;rw[List.getElem?_set]at h;simp at h;rw[<- h.2]at hl;simp[Ob.live]at hl
 ·rw[cc (eh b),cw]at h;cases c:l[i]? with
  |none=>rw[c]at h;simp at h
  |some o=>rw[c]at h;simp at h;exact⟨b,o,rfl,h.symm⟩
def oa{o:Ob}:(yd r e d o).live=o.live:=by
 cases o with
 |iter m s=>simp only[yd];cases nb m r<;>rfl
 |_=>rfl
def cY.sink(h:cY tt B E Pp objs w)(R:objs[r]? =some (.map .str e d)):
 ∃Pp',cY tt B E Pp' (tz r e d objs) w/\(∀ad v,Pp ad v->Pp' ad v)/\∀{v:Value}{p:PV},VR tt E Pp v p->VR tt E Pp' v (s3 r e d p):=by
 obtain⟨ri,L,M⟩:=h.wr.ob r _ R rfl;cases ri with
 |map b borns clock=>
  have Z:own E objs b:=⟨r,_,_,R,rfl,L,rfl⟩;obtain⟨es,rows,hb,rfl,hl,J,g,gV,da,ab⟩:=M;let Pp':ga:=λad v=>Pp ad v\/(ad=⟨b,0,some 0⟩/\v=EY es clock);have y:∀ad v,Pp ad v->Pp' ad v:=λ_ _ h=>.inl h;have hM:Fv tt Pp' e b es clock rows:=by refine⟨.inr ⟨rfl,rfl⟩,hl,λi x row h1 h2=>?_,by rw[g];exact gV,by rw[g];exact da⟩;obtain⟨kd,vd,e1,e2,e3,e4,e5,e6⟩:=J i x row h1 h2;exact⟨kd,vd,e1,e2.mono y,e3,e4,λj d ck v a b c=>(e5 j d ck v a b c).mono y,e6⟩
  have hr:∀b' bs cl,E[r]? =some (.map b' bs cl)->VR tt E Pp' (.map (some b')) (.dmp e (.list rows)):=by intro b' bs cl z;rw[L]at z;cases z;exact .dmp 0 _ _ _ (hM.rd 0)
  have iJ:∀ad v,Pp' ad v->pc w ad=some v:=by
   rintro ad v (u|⟨rfl,rfl⟩)
   ·exact h.wr.pi _ _ u
   ·simp[pc,hb]
  have F:∀ad v,Pp' ad v->Pp ad v\/ad.block=b:=by
   rintro ad v (u|⟨rfl,rfl⟩)
   ·exact .inl u
   ·exact .inr rfl
  have K:(tz r e (.list rows) objs).length=objs.length:=by rw[tz,gO,iv];simp
  refine⟨Pp',⟨⟨by rw[K];exact h.wr.len,iJ,?_,?_,h.wr.Ru y⟩,h.pre,λad v u=>y _ _ (h.ua ad v u),h.fr,?_,?_⟩,y,λu=>ye y hr u⟩
  ·intro i q hq C;obtain⟨W,o,A,rfl⟩:=nz hq C;rw[oa]at C;obtain⟨ri,Q,f⟩:=h.wr.ob i o A C;refine⟨ri,Q,?_⟩
   have l:OR tt E Pp' w ri o:=by
    refine OR.frame (λ_ _ h=>h) y (λ_ _=>rfl) (λb' z ad v u he=>?_) f;rcases F ad v u with h1|h1
    ·exact h1
    ·exact absurd (h.wr.sep i r o _ ri _ b A R C rfl Q L (by rw[z,<-he,h1]) rfl) W
   cases o with
   |box cs=>
    cases ri<;>try exact f.elim
    obtain⟨vs,T,h1,_,h3,h4⟩:=l;obtain⟨ai,T',O,U,_⟩:=f;rw[O]at h1;cases h1;exact⟨vs,T,O,IG y hr U,h3,h4.map (IH r e (.list rows))⟩
   |loop n ps c1 c2 s j=>
    cases ri<;>try exact f.elim
    obtain⟨r',h1,h2,h3⟩:=f;exact⟨r',h1,h2,λt=>by rw[zi];exact ye y hr (h3 t)⟩
   |iter m s=>
    simp only[yd];cases hn:nb m r with
    |false=>exact l
    |true=>
     have:=dH hn;subst this;cases ri<;>try exact f.elim
     obtain⟨bm,bs,cl,ls,h1,h2,h3,h4⟩:=f;rw[L]at h1;cases h1;refine⟨ls,h3,.inr ⟨b,es,clock,rows,rfl,hM,by rw[g];exact h2,λj X=>?_⟩⟩;have:=h4 j X;rw[<- g]at this;simpa[hl]using this
   |row=>exact l
   |map=>exact l
   |diter=>exact l
   |dead=>exact l
  ·intro i j oi oj ri rj b' W X k H I V G Y;obtain⟨_,S,h1,rfl⟩:=nz W k;obtain⟨_,o2,h2,rfl⟩:=nz X H;rw[oa]at k H;exact h.wr.sep i j S o2 ri rj b' h1 h2 k H I V G Y
  ·intro ad v u;rcases F ad v u with h1|h1
   ·exact h.kV ad v h1
   ·rw[h1];exact .inr (h.fresh r _ _ b R rfl L rfl)
  ·intro i o ri b' A k I G;obtain⟨_,S,h1,rfl⟩:=nz A k;rw[oa]at k;exact h.fresh i S ri b' h1 k I G
 |_=>exact M.elim
def FO{b:Nat}(h:own E (tz r e d objs) b):own E objs b:=by obtain⟨i,o,ri,h1,h2,h3,h4⟩:=h;obtain⟨_,c,h5,rfl⟩:=nz h1 h2;rw[oa]at h2;exact⟨i,c,ri,h5,h2,h3,h4⟩
def AW(r:Nat)(h:cY tt B E Pp st.o w)(hs:∀t,VR tt E Pp (a.tmps.getD t undef) (look st.s t)):
 ∃Pp',cY tt B E Pp' (vW r st).o w/\(∀ad v,Pp ad v->Pp' ad v)/\(∀t,VR tt E Pp' (a.tmps.getD t undef) (look (vW r st).s t))/\∀b,own E (vW r st).o b->own E st.o b:=by
 unfold vW;split
 ·rename_i kc e d c;cases hk:decide (kc=CK.str)with
  |false=>exact⟨Pp,h,λ_ _ h=>h,hs,λ_ h=>h⟩
  |true=>have:=of_decide_eq_true hk;subst this;obtain⟨Pp',h1,h2,h3⟩:=h.sink (dB c rfl);exact⟨Pp',h1,h2,λt=>by simp only[cond_true,zi];exact h3 (hs t),λb hb=>FO hb⟩
 ·exact⟨Pp,h,λ_ _ h=>h,hs,λ_ h=>h⟩
def DR(l:List Nat)(h:cY tt B E Pp st.o w)(hs:∀t,VR tt E Pp (a.tmps.getD t undef) (look st.s t)):
 ∃Pp',cY tt B E Pp' (sinks l st).o w/\(∀ad v,Pp ad v->Pp' ad v)/\(∀t,VR tt E Pp' (a.tmps.getD t undef) (look (sinks l st).s t))/\∀b,own E (sinks l st).o b->own E st.o b:=by
 induction l generalizing st Pp with
 |nil=>exact⟨Pp,h,λ_ _ h=>h,hs,λ_ h=>h⟩
 |cons r l j=>obtain⟨Pp1,h1,h2,h3,h4⟩:=AW r h hs;obtain⟨c,f,g,i,k⟩:=j h1 h3;exact⟨c,f,λ_ _ h=>g _ _ (h2 _ _ h),i,λb hb=>h4 b (k b hb)⟩
end
end
section
variable {tt:TypeId->Option TI}{E:List RI}{Pp Pp':ga}{objs:List Ob}{w w':World}{v:Value}{ad:Addr}
def oO(tt:TypeId->Option TI)(E:List RI)(Pp:ga)(objs:List Ob)(w:World)(ad:Addr)(v:Value):Prop:=
 Pp ad v\/(w.cell? ad=some v/\∃(i:Nat),(∃cs,objs[i]? =some (.box cs)/\E[i]? =some (.box ad.block))\/
  (∃e d wr o len cap,objs[i]? =some (.row e d wr)/\E[i]? =some (.row ad.block o len cap)/\ad.off<o+len*(bV tt e).length))
def gA(eB:List FuncId×List FuncId):Op->Bool
 | .store _ _ _=>false
 | .mapUpdate _ _ _ _=>false
 | .insert _ _ _ _=>false
 | .next _ _=>false
 | .slice _ _ none (some _) none=>eH eB.2
 | .call { callee:=.value (.func f),.. }=>bif fP f eB.1 then false else bif fP f eB.2 then false else true
 | .call { callee:=.value _,.. }=>eH eB.2
 | .call { callee:=.builtin .delete,.. }=>false
 |_=>true
def er(tt:TypeId->Option TI)(B:kk)(eB:List FuncId×List FuncId)(E:List RI)(Pp:ga)(objs:List Ob)(w:World)(o:Oper)(a:Act)(K:PV->St->Prop):Act->World->Prop:=λc w'=>
 ∃b E' Pp' v pv,c=a.put o.dst v/\VR tt E' Pp' v pv/\(∀t,VR tt E' Pp' (a.tmps.getD t undef) (look b.s t))/\cY tt B E' Pp' b.o w'/\K pv b/\
  (gA eB o.op=true->∀ad v,oO tt E Pp objs w ad v->oO tt E' Pp' b.o w' ad v)/\(∀ad v,Pp ad v->Pp' ad v)
def er.mk{B:kk}{eB:List FuncId×List FuncId}{o:Oper}{a:Act}{K:PV->St->Prop}{s':dS}{o':List Ob}{E':List RI}{pv:PV}
 (e:VR tt E' Pp' v pv) (hs:∀t,VR tt E' Pp' (a.tmps.getD t undef) (look s' t)) (b:cY tt B E' Pp' o' w') (f:K pv ⟨s',o'⟩)
 (d:gA eB o.op=true->∀ad v,oO tt E Pp objs w ad v->oO tt E' Pp' o' w' ad v) (c:∀ad v,Pp ad v->Pp' ad v:=by first|exactλ_ _ h=>h|exactλ_ _ h=>.inl h|exactλ_ _ h=>.inl (.inl h)|assumption):er tt B eB E Pp objs w o a K (a.put o.dst v) w':=
 ⟨⟨s',o'⟩,E',Pp',v,pv,rfl,e,hs,b,f,d,c⟩
def oO.cell(b:WR tt E Pp objs w)(h:oO tt E Pp objs w ad v):pc w ad=some v:=by
 rcases h with h|⟨h,_⟩
 ·exact b.pi _ _ h
 ·exact gF h
def oO.grow{E2:List RI}{objs2:List Ob}(hl:E.length=objs.length)(f:∀ad v,Pp ad v->Pp' ad v)
 (j:∀k,k<w.heap.size->w'.heap[k]? =w.heap[k]?) (h:oO tt E Pp objs w ad v):oO tt (E++E2) Pp' (objs++objs2) w' ad v:=by
 have app:∀{α:Type}(l k:List α)(i:Nat)(x:α),l[i]? =some x->(l++k)[i]? =some x:=by
  intro α l k i x c;rw[bU]
  ·exact c
  ·rcases cb i l.length with b|b
   ·exact b
   ·rw[bY b]at c;simp at c
 rcases h with h|⟨h,i,g⟩
 ·exact .inl (f _ _ h)
 ·refine .inr ⟨?_,i,?_⟩
  ·rw[tR (j _ (World.block_lt_of_cell? w ad h))];exact h
  ·rcases g with⟨cs,h1,h2⟩|⟨e,d,wr,o,len,cap,h1,h2,h3⟩
   ·exact .inl ⟨cs,app _ _ _ _ h1,app _ _ _ _ h2⟩
   ·exact .inr ⟨e,d,wr,o,len,cap,app _ _ _ _ h1,app _ _ _ _ h2,h3⟩
def oO.qc(F:List Nat)(h:oO tt E Pp objs w ad v):oO tt E (iO tt E objs w Pp F) (gB F 0 objs) w ad v:=by
 rcases h with h|⟨h,i,f⟩
 ·exact .inl (.inl h)
 ·rcases f with⟨cs,h1,h2⟩|⟨e,d,wr,o,len,cap,h1,h2,h3⟩
  ·by_cases c:i∈F
   ·exact .inl (.inr ⟨h,i,c,.inl ⟨cs,h2,h1⟩⟩)
   ·refine .inr ⟨h,i,.inl ⟨cs,?_,h2⟩⟩
    have b:fP i F=false:=by
     cases h:fP i F with
     |false=>rfl
     |true=>exact absurd ((lZ i F).1 h) c
    rw[jP,h1];simp[b]
  ·refine .inr ⟨h,i,?_⟩;cases b:fP i F with
   |false=>exact .inr ⟨e,d,wr,o,len,cap,by rw[jP,h1];simp[b],h2,h3⟩
   |true=>exact .inr ⟨e,d,false,o,len,cap,by rw[jP,h1];simp[b,xi],h2,h3⟩
section
variable {P:Program}{tt:TypeId->Option TI}{N:Nat}{B:kk}{E:List RI}{Pp:ga}{objs:List Ob}{w:World}{st:St}{a:Act}
variable {o:Oper}{Q:Exit->Act->World->Prop}{ti:TI}{t T:TypeId}{w':World}{K:PV->St->Prop}{eB:List FuncId×List FuncId}{v:Value}{ri ri':RI}{ps:List PV}{next:Act->World->Prop}{i:Nat}{o':Ob}{E':List RI}{objs':List Ob}{Pp':ga}{vs:List Value}{x:Operand}
def eZ(h:(execOp a.eval o).run P w= .ok (.value v) w')(b:next (a.put o.dst v) w'):o.wp P a w next Q:=by simp only[Oper.wp,h];exact b
def B1(h:(execOp a.eval o).run P w= .ok .skip w')(b:next (a.put o.dst undef) w'):o.wp P a w next Q:=by simp only[Oper.wp,h];exact b
def eM(w:World)(x:Obj):(w.alloc x).heap[w.heap.size]? =some x:=by show (w.heap.push x)[w.heap.size]? =some x;simp
def WR.x7(h:WR tt E Pp objs w){o:Ob}
 (U:objs[i]? =some o) (hl:o.live=true) (O:E[i]? =some ri)
 (S:E'.length=E.length) (m:∀(j:Nat),j≠i->E'[j]? =E[j]?) (n:E'[i]? =some ri')
 (I:objs'.length=objs.length)
 (D:∀(j:Nat) e,j≠i->objs'[j]? =some e->e.live=true->∃oj,objs[j]? =some oj/\oj.live=true/\∀rj,E[j]? =some rj->OR tt E Pp w rj oj->OR tt E' Pp w rj e)
 (L:objs'[i]? =some o') (J:o'.live=true->OR tt E' Pp' w' ri' o')
 (H:∀b,b<w.heap.size->ri.du ≠some b->w'.heap[b]? =w.heap[b]?)
 (C:∀ad v,Pp ad v->Pp' ad v) (F:∀ad v,Pp' ad v->Pp ad v\/ri.du =some ad.block\/w.heap.size<=ad.block)
 (s:∀b,ri'.du =some b->ri.du =some b\/w.heap.size<=b)
 (iJ:∀ad v,Pp' ad v->pc w' ad=some v):WR tt E' Pp' objs' w':=by
 have d:∀(j:Nat) oj rj b,j≠i->objs[j]? =some oj->oj.live=true->E[j]? =some rj->rj.du =some b->ri.du ≠some b/\b<w.heap.size:=by intro j oj rj b r h1 h2 h3 h4;refine⟨λh5=>r (h.sep j i oj o rj ri b h1 U h2 hl h3 O h4 h5),oD h ⟨j,oj,rj,h1,h2,h3,h4⟩⟩
 have M:=h.len;refine⟨yO,iJ,?_,?_,h.Ru C⟩
 ·intro j e r p;by_cases c:j=i
  ·subst c;rw[L]at r;cases r;exact⟨ri',n,J p⟩
  ·obtain⟨oj,h1,h2,h3⟩:=D j e c r p;obtain⟨rj,q,A⟩:=h.ob j oj h1 h2;refine⟨rj,by rw[m j c];exact q,OR.frame (λ_ _ h=>h) C ?_ ?_ (h3 rj q A)⟩
   ·intro b hb;obtain⟨h4,h5⟩:=d j oj rj b c h1 h2 q hb;exact H b h5 h4
   ·intro b hb ad v V W;obtain⟨h4,h5⟩:=d j oj rj b c h1 h2 q hb;rcases F ad v V with h6|h6|h6
    ·exact h6
    ·rw[W]at h6;exact absurd h6 h4
    ·omega
 ·intro j k oj ok rj R b r hk p G g l z u;by_cases c:j=i<;>by_cases f:k=i
  ·omega
  ·subst c;rw[n]at g;cases g;obtain⟨y,h1,h2,_⟩:=D k ok f hk G;rw[m k f]at l;obtain⟨h4,h5⟩:=d k y R b f h1 h2 l u;rcases s b z with h6|h6
   ·exact absurd h6 h4
   ·omega
  ·subst f;rw[n]at l;cases l;obtain⟨e,h1,h2,_⟩:=D j oj c r p;rw[m j c]at g;obtain⟨h4,h5⟩:=d j e rj b c h1 h2 g z;rcases s b u with h6|h6
   ·exact absurd h6 h4
   ·omega
  ·obtain⟨e,h1,h2,_⟩:=D j oj c r p;obtain⟨y,h3,h4,_⟩:=D k ok f hk G;rw[m j c]at g;rw[m k f]at l;exact h.sep j k e y rj R b h1 h3 h2 h4 g l z u
def cY.x7(h:cY tt B E Pp objs w){o:Ob}
 (z:objs[i]? =some o) (hl:o.live=true) (e:E[i]? =some ri)
 (u:E'.length=E.length) (p:∀(j:Nat),j≠i->E'[j]? =E[j]?) (g:E'[i]? =some ri') (f:qA E E'\/B.E0.length<=i)
 (r:objs'.length=objs.length)
 (M:∀(j:Nat) c,j≠i->objs'[j]? =some c->c.live=true->∃oj,objs[j]? =some oj/\oj.live=true/\∀rj,E[j]? =some rj->OR tt E Pp w rj oj->OR tt E' Pp w rj c)
 (F:objs'[i]? =some o') (D:o'.live=true->OR tt E' Pp' w' ri' o')
 (I:w'.os=w.os) (G:w'.tape=w.tape) (y:w'.output=w.output) (fL:w.heap.size<=w'.heap.size)
 (n:∀b,b<w.heap.size->ri.du ≠some b->w'.heap[b]? =w.heap[b]?)
 (s:∀ad v,Pp ad v->Pp' ad v) (l:∀ad v,Pp' ad v->Pp ad v\/ri.du =some ad.block\/w.heap.size<=ad.block)
 (m:∀b,ri'.du =some b->ri.du =some b\/w.heap.size<=b)
 (iJ:∀ad v,Pp' ad v->pc w' ad=some v) (H:w.drawn<=w'.drawn:=by first|exact ca _|exact qF _|assumption):cY tt B E' Pp' objs' w':=by
 have R:=h.fr.size;refine⟨h.wr.x7 z hl e u p g r M F D n s l m iJ,?_,λad v J=>s ad v (h.ua ad v J),?_,?_,?_⟩
 ·intro j x A;rcases f with f|f
  ·exact h.pre.trans f j x A
  ·have:j<B.E0.length:=by
    rcases cb j B.E0.length with C|C
    ·exact C
    ·rw[bY C]at A;simp at A
   rw[p j yO];exact h.pre j x A
 ·refine⟨I.trans h.fr.os,G.trans h.fr.tape,y.trans h.fr.output,yO,bR h.fr.drawn H,?_⟩;intro k hk O;rw[n k yO]
  ·exact h.fr.block k hk O
  ·intro hb;rcases h.fresh i o ri k z hl e hb with h1|h1
   ·omega
   ·exact O h1
 ·intro ad v J;rcases l ad v J with h1|h1|h1
  ·exact h.kV ad v h1
  ·exact .inr (h.fresh i o ri _ z hl e h1)
  ·exact .inr (.inl yO)
 ·intro j oj rj b S L d hb;by_cases q:j=i
  ·subst q;rw[g]at d;cases d;rcases m b hb with h1|h1
   ·exact h.fresh j o ri b z hl e h1
   ·exact .inl yO
  ·obtain⟨c,h1,h2,_⟩:=M j oj q S L;rw[p j q]at d;exact h.fresh j c rj b h1 h2 d hb
def gE{s:dS}(hs:∀t,VR tt E Pp (a.tmps.getD t undef) (look s t)):∀t,VR tt (E++[ri]) Pp (a.tmps.getD t undef) (look s t):=λt=>(hs t).mono mem_push (λ_ _ h=>h)
def CX(h:tt T=some ti)(hc:Fg ti ps=true):tf tt T ps:=by intro hb;unfold Fg at hc;rw[hb]at hc;exact⟨ti,h,hc⟩
def sq(h:cY tt B E Pp objs w)(T:TypeId)(c:fe tt E Pp vs ps)(b:tf tt T ps):
 cY tt B (E++[.box w.heap.size]) Pp (objs++[.box ps]) (w.alloc (.cells ⟨vs⟩ T))/\VR tt (E++[.box w.heap.size]) Pp (.pointer (some ⟨w.heap.size,0,none⟩)) (.box objs.length 0):=by
 refine⟨h.new rfl ⟨vs,T,eM w _,c.mono mem_push (λ_ _ h=>h),l9 h.wr,b⟩,.box _ _ _ ?_⟩;rw[<- h.wr.len];simp
def Mu(g:fp P tt)(h:cY tt B E Pp st.o w)(hs:∀t,VR tt E Pp (a.tmps.getD t undef) (look st.s t))(f:o.op= .alloc t)(c:tt t=some ti)(b:tf tt t (ti.cd.map iy))
 (j:K (.box (cv st.o) 0) ⟨st.s,iR st.o [.box (ti.cd.map iy)]⟩):o.wp P a w (er tt B eB E Pp st.o w o a K) Q:=by
 obtain⟨_,_,⟨z,n,d⟩,_⟩:=(g _ _ c).run w;rw[fK]at j;have e:z.cells=⟨ti.cd.map zeroV⟩:=by rw[<- d]
 have l:=sq h t (qP (E:=E) (Pp:=Pp) (tt:=tt) ti.cd) b;refine eZ (v:=.pointer (some ⟨w.heap.size,0,none⟩)) (w':=w.alloc (.cells ⟨ti.cd.map zeroV⟩ t)) ?_ ?_
 ·simp[execOp,f,Instr.alloc,n,newVar,newRow,e]
 ·exact er.mk (by rw[cX];exact l.2) (gE hs) l.1 j (λ_ ad v m=>m.grow h.wr.len (λ_ _ h=>h) (λk hk=>RowKit.Below.heap_alloc w _ k hk))
def C3(n:fp P tt)(h:cY tt B E Pp st.o w)(hs:∀t,VR tt E Pp (a.tmps.getD t undef) (look st.s t)){e:TypeId}(m:o.op= .alloc t)(j:tt t=some ti)(f:eJ ti=some e)
 (p:K (.box (cv st.o+1) 0) ⟨st.s,iR st.o [.row e (.list []) true,.box [.row e (cv st.o)]]⟩):o.wp P a w (er tt B eB E Pp st.o w o a K) Q:=by
 obtain⟨_,_,⟨z,s,l⟩,_⟩:=(n _ _ j).run w;rw[fK,cX]at p
 have c:ti.cd=[.slice e]:=by
  unfold eJ at f;split at f
  ·rename_i h2;cases f;exact h2
  ·cases f
 have d:z.cells=⟨ti.cd.map zeroV⟩:=by rw[<- l]
 rw[c]at d;have g:VR tt (E++[.row0]) Pp (.slice none 0 0) (.row e st.o.length):=.row0 _ _ (by rw[<- h.wr.len];simp);have h1:cY tt B (E++[.row0]) Pp (st.o++[.row e (.list []) true]) w:=⟨h.wr.push (λ_=>rfl) (λb hb=>by simp[RI.du]at hb),rr h.pre,h.ua,h.fr,h.kV,h.fresh.push h.wr.len (λb hb=>by simp[RI.du]at hb)⟩;have q:=sq h1 t (vs:=[.slice none 0 0]) (.cons _ _ _ _ g .nil) (λhb=>yC hb);refine eZ (v:=.pointer (some ⟨w.heap.size,0,none⟩)) (w':=w.alloc (.cells ⟨[.slice none 0 0]⟩ t)) ?_ ?_
 ·simp[execOp,m,Instr.alloc,s,newVar,newRow,d,zeroV]
 ·refine er.mk (E':=E++[.row0]++[.box w.heap.size]) (Pp':=Pp) ?_ (gE (gE hs)) ?_ p (λ_ ad v r=>?_)
  ·have:=q.2;simpa using this
  ·simpa using q.1
  ·have:=r.grow (E2:=[.row0]++[.box w.heap.size]) (objs2:=[.row e (.list []) true,.box [.row e st.o.length]]) (w':=w.alloc (.cells ⟨[.slice none 0 0]⟩ t)) h.wr.len (λ_ _ h=>h) (λk hk=>RowKit.Below.heap_alloc w _ k hk);simpa using this
def QT(h:cY tt B E Pp st.o w)(hs:∀t,VR tt E Pp (a.tmps.getD t undef) (look st.s t))(d:o.op= .box t x)
 (c:flat (gj tt st.s t x)≠[]) (b:tf tt t (flat (gj tt st.s t x))) (e:K (.box (cv st.o) 0) ⟨st.s,iR st.o [.box (flat (gj tt st.s t x))]⟩):o.wp P a w (er tt B eB E Pp st.o w o a K) Q:=by
 rw[fK]at e;have j:=jZ hs t x;have f:=sq h t (nM j c) b;refine eZ (v:=.pointer (some ⟨w.heap.size,0,none⟩)) (w':=w.alloc (.cells ⟨(a.eval x).cells.toList⟩ t)) ?_ ?_
 ·simp[execOp,d,Instr.box,newVar,newRow]
 ·exact er.mk (by rw[cX];exact f.2) (gE hs) f.1 e (λ_ ad v g=>g.grow h.wr.len (λ_ _ h=>h) (λk hk=>RowKit.Below.heap_alloc w _ k hk))
def Cn:∀(l:List PV)(n:Nat)(ys:List PV),n+ys.length<=l.length->oB l n ys=l.take n++ys++l.drop (n+ys.length)
 |l,n,[],_=>by simp[yf]
 |[],n,y::ys,h=>yE h
 |x::xs,0,y::ys,h=>by have:=Cn xs 0 ys (yU h);simp only[oB,this];simp
 |x::xs,n+1,y::ys,h=>by have:=Cn xs n (y::ys) (by simp at h ⊢;omega);simp only[oB,this];rw[show n+1+(y::ys).length=(n+(y::ys).length)+1 by omega];simp
def Gh{p:PV}(h:iH p=true)(c:VR tt E Pp v p):v.oneCell'=true:=by
 cases c with
 |lst e v d hr=>cases hr<;>rfl
 |dptr t v d hr=>cases hr<;>rfl
 |dmp t e v d hr=>rcases hr.sr with⟨rfl,_⟩|⟨_,_,_,_,rfl,_⟩<;>rfl
 |undef|agg|tup=>simp[iH]at h
 |cy _ f _ _ hu _=>
  rcases cb f lR with hb|hb
  ·rw[hu.1 hb];rfl
  ·rw[hu.2 hb];rfl
 |gp _ _ _ _ off _ _ _ _ _ _ hu=>
  by_cases b:off=fY
  ·obtain⟨⟨g,e,_⟩,_⟩:=hu.2 b;rw[e];rfl
  ·rw[(hu.1 b).1];rfl
 |cR _ _ _ off _ _ hu _ _=>
  by_cases b:off=fY
  ·rw[hu.2 b];rfl
  ·rw[hu.1 b];rfl
 |_=>rfl
def xb(h:iw iH ps=true)(b:fe tt E Pp vs ps):∀v∈vs,v.oneCell'=true:=by
 induction ps generalizing vs with
 |nil=>cases b;simp
 |cons p ps c=>
  simp only[iw,bI]at h;cases b with
  |cons v _ vs _ h1 h2=>
   intro u hu;rcases bP.1 hu with rfl|hu
   ·exact Gh h.1 h1
   ·exact c h.2 h2 u hu
def wQ(c:kj P t ti){g o:Nat}{cur:List Value}(e:w.heap[g]? =some (.cells ⟨cur⟩ T (0,0)))
 (hl:v.cells.toList.length=ti.cd.length) (b:o+ti.cd.length<=cur.length) (h1:∀u∈v.cells.toList,u.oneCell'=true):
 (Instr.storeAt t (.pointer (some ⟨g,o,none⟩)) v).run P w= .ok () (w.setRow g ⟨cur.take o++v.cells.toList++cur.drop (o+ti.cd.length)⟩):=by
 obtain⟨_,h2,_,_⟩:=c.run w;have d:=run_storeCells_at P g o T v.cells.toList 0 ⟨cur⟩ w e (by simpa[hl]using b) h1;have fL:v.cells.size=ti.cd.length:=yU hl;simp only[Instr.storeAt,Instr.sureAddr,storeVar,pure_bind,Sem.run_bind,h2,Result.andThen_ok,fL,ne_eq,not_true,if_false];rw[d];simp[fL]
def Ck(R:fp P tt)(h:cY tt B E Pp st.o w)(hs:∀t,VR tt E Pp (a.tmps.getD t undef) (look st.s t)){y:Operand}(r:o.op= .store t x y)(M:tt t=some ti)
 (d:(flat (gj tt st.s t y)).length=ti.cd.length) (V:0<ti.cd.length) (z:iw iH (flat (gj tt st.s t y))=true) {b off:Nat} (hx:ev st.s x= .box b off) {cs:List PV} (I:eT st.o b= .box cs)
 (X:off+ti.cd.length<=cs.length) (g:OC (oB cs off (flat (gj tt st.s t y))) cs=true) (W:K .undef ⟨st.s,ja st.o b (.box (oB cs off (flat (gj tt st.s t y))))⟩):o.wp P a w (er tt B eB E Pp st.o w o a K) Q:=by
 have A:=R _ _ M;have hy:=jZ hs t y;have l:flat (gj tt st.s t y)≠[]:=by intro h0;rw[h0]at d;simp at d;omega
 have c:=nM hy l;have n:=ff hs x;rw[hx]at n;rw[gO]at W;have f:=dB I rfl;generalize S:a.eval x=vx at n;cases n with
 |box _ _ gW J=>
  obtain⟨ri,F,O⟩:=h.wr.ob b _ f rfl;rw[J]at F;cases F;obtain⟨vs,T,H,q,D,C⟩:=O;have p:tf tt T (oB cs off (flat (gj tt st.s t y))):=by intro hb;unfold OC at g;rw[hb]at g;exact C g
  have ae:=q.length;have Z:=c.length;have u:=wQ (P:=P) A (v:=a.eval y) H yO (o:=off) yO (xb z c);refine B1 (w':=w.setRow gW ⟨vs.take off++(a.eval y).cells.toList++vs.drop (off+ti.cd.length)⟩) ?_ ?_
  ·simp[execOp,r,S,u]
  ·have da:gW<w.heap.size:=by
    rcases cb gW w.heap.size with m|m
    ·exact m
    ·simp[dJ m]at H
   have G:b<st.o.length:=by
    rcases cb b st.o.length with m|m
    ·exact m
    ·rw[bY m]at f;simp at f
   refine er.mk (.undef _) hs ?_ W (λU=>by rw[r]at U;simp[gA]at U);refine h.x7 (o':=.box (oB cs off (flat (gj tt st.s t y)))) f rfl J rfl (λ_ _=>rfl) J (.inl (.refl _)) yS ?_ (by simp[G]) ?_ rfl rfl rfl yS ?_ (λ_ _ h=>h) (λ_ _ h=>.inl h) (λb hb=>.inl hb) ?_
   ·intro j L hj s hl;rw[cc (eh hj)]at s;exact⟨L,s,hl,λ_ _ h=>h⟩
   ·intro _;refine⟨_,T,setRow_heap w gW _ _ _ _ H,?_,D,p⟩;rw[Cn _ _ _ yO];have:=((q.take off).append c).append (q.drop (off+(flat (gj tt st.s t y)).length))
    rwa [d]at this ⊢
   ·intro k hk l;exact setRow_other w gW k _ (λe=>l (by rw[e];rfl))
   ·intro ad v Y;rw[iu (setRow_other w gW ad.block _ (D ad v Y))];exact h.wr.pi ad v Y
end
end
section
variable {P:Program}{f:FuncId}
def nQ(tt:TypeId->Option TI)(E:List RI)(Pp:ga)(objs:List Ob)(w:World)(K:PV->List Ob->Prop):Ending->World->Prop:=λe w'=>
 ∃v E' Pp' objs' pv,e= .returned v/\qA E E'/\(∀ad v,Pp ad v->Pp' ad v)/\
  WR tt E' Pp' objs' w'/\VR tt E' Pp' v pv/\K pv objs'/\Fr (own E objs) w w'/\JH (own E objs) w Pp Pp'/\mD (own E objs) w E' objs'
def ot(P:Program)(f:FuncId)(vals:List Value)(w:World)(R:Ending->World->Prop):Prop:=((callFunc f ⟨vals⟩).run P w= .ok (.enter f ⟨vals⟩) w/\Calls P f ⟨vals⟩ w R)\/∃v w',(callFunc f ⟨vals⟩).run P w= .ok (.value v) w'/\R (.returned v) w'
def ot.mono{vals:List Value}{w:World}{R b:Ending->World->Prop}(h:ot P f vals w R)(hr:∀e w',R e w'->b e w'):ot P f vals w b:=by
 rcases h with⟨h1,h2⟩|⟨v,w',h1,h2⟩
 ·exact .inl ⟨h1,h2.mono hr⟩
 ·exact .inr ⟨v,w',h1,hr _ _ h2⟩
def FC(P:Program)(tt:TypeId->Option TI)(f:FuncId)(objs:List Ob)(args:List PV)(K:PV->List Ob->Prop):Prop:=∀E Pp w vals,WR tt E Pp objs w->fe tt E Pp vals args->ot P f vals w (nQ tt E Pp objs w K)
def YC(P:Program)(tt:TypeId->Option TI)(objs:List Ob)(args:List PV)(K:PV->List Ob->Prop):Prop:=
 ∀E Pp w vals l rec,WR tt E Pp objs w->E[0]? =some (.loop l)->w.heap[l]? =some (.loop rec)->fe tt E Pp vals args->
  vals.length=rec.params.size/\RoundIn Fence.wide 0 P l rec.fn ((rec.params.zip (⟨vals⟩:Array Value)).foldl (λtmps (t,a)=>tmps.setIfInBounds t a) rec.tmps) rec.assign rec.body w (nQ tt E Pp objs w K)
def xP(P:Program)(tt:TypeId->Option TI):ml:=λc objs args K=>match c with
 | .fn f=>FC P tt f objs args K
 | .lS=>YC P tt objs args K
def FC.mono{tt:TypeId->Option TI}{objs:List Ob}{args:List PV}{K b:PV->List Ob->Prop}(h:FC P tt f objs args K)(hk:∀v o,K v o->b v o):FC P tt f objs args b:=by intro E Pp w vals c d;exact(h E Pp w vals c d).mono λe w' ⟨v,E',Pp',objs',pv,h1,h2,h3,h4,h5,h6,h7,h8,g⟩=>⟨v,E',Pp',objs',pv,h1,h2,h3,h4,h5,hk _ _ h6,h7,h8,g⟩
section
variable {P:Program}{tt:TypeId->Option TI}{N:Nat}{B:kk}{E:List RI}{Pp:ga}{objs:List Ob}{w:World}{st:St}{a:Act}
def WR.nil{Pp':ga}(c:∀ad v,Pp' ad v->pc w ad=some v)(d:ML tt Pp'):WR tt [] Pp' [] w:=⟨rfl,c,λi o h=>yE h,λi j oi oj ri rj b h=>yE h,d⟩
def oe{b:Nat}(h:own [] [] b):False:=by obtain⟨i,o,ri,h,_⟩:=h;simp at h
def EM(b:WR tt E Pp objs w){F:List Nat}{ad:Addr}{v:Value}(h:iO tt E objs w Pp F ad v):pc w ad=some v:=by
 rcases h with h|⟨h,_⟩
 ·exact b.pi _ _ h
 ·exact gF h
def cY.called{Pp1 Pp':ga}{w':World}{c:List Ob}(h1:cY tt B E Pp1 c w)(m:∀ad v,Pp1 ad v->Pp' ad v)
 (g:Fr (own [] []) w w') (iJ:∀ad v,Pp' ad v->pc w' ad=some v) (d:JH (own [] []) w Pp1 Pp'):cY tt B E Pp' c w':=by
 have j:∀k,k<w.heap.size->w'.heap[k]? =w.heap[k]? :=λk hk=>g.block k hk (λh=>oe h);refine⟨h1.wr.frame (λb hb=>j b (oD h1.wr hb)) m ?_ iJ,h1.pre,λad v e=>m ad v (h1.ua ad v e),?_,?_,h1.fresh⟩
 ·intro ad v e;rcases d ad v e with h2|h2|h2
  ·exact .inl h2
  ·refine .inr (λn=>?_);have:=oD h1.wr n;omega
  ·exact(oe h2).elim
 ·exact h1.fr.trans g (λx _ h=>(oe h).elim)
 ·intro ad v e;rcases d ad v e with h2|h2|h2
  ·exact h1.kV ad v h2
  ·exact .inr (.inl (by have:=h1.fr.size;omega))
  ·exact(oe h2).elim
section
variable {α:Type}
def nB:List Nat->List α->List α->List α
 |[],l,xs=>l++xs
 |r::F,l,x::xs=>nB F (l.set r x) xs
 |_::_,l,[]=>l
def BN:∀{F:List Nat}{n j r:Nat},F[j]? =some r->iP n F j=r
 |[],n,j,r,h=>yE h
 |x::F,n,0,r,h=>by simp at h;exact h
 |x::F,n,j+1,r,h=>BN (F:=F) (yU h)
def yx:∀{F:List Nat}{l xs:List α},F.length<=xs.length->(nB F l xs).length+F.length=l.length+xs.length
 |[],l,xs,_=>by simp[nB]
 |r::F,l,x::xs,h=>by have:=yx (F:=F) (l:=l.set r x) (xs:=xs) (yU h);simp only[nB,bS,gg]at*;omega
 |_::_,l,[],h=>yE h
def yw:∀{F:List Nat}{l xs:List α}{i:Nat},F.length<=xs.length->i<l.length->i∉F->(nB F l xs)[i]? =l[i]?
 |[],l,xs,i,_,b,_=>by simp[nB,bU b]
 |r::F,l,x::xs,i,h,b,c=>by simp only[bP,not_or]at c;show (nB F (l.set r x) xs)[i]? =_;rw[yw (yU h) (yU b) c.2,cc (eh c.1)]
 |_::_,l,[],i,h,_,_=>yE h
def D0:∀{F:List Nat}{l xs:List α}{j:Nat}{x:α},F.Nodup->(∀r∈F,r<l.length)->F.length<=xs.length->xs[j]? =some x->(nB F l xs)[iP l.length F j]? =some x
 |[],l,xs,j,x,_,_,_,b=>by show (l++xs)[l.length+j]? =_;rw[cq yO];simpa using b
 |r::F,l,y::xs,0,x,gV,da,h,b=>by simp at b;subst b;rw[cn]at gV;show (nB F (l.set r y) xs)[r]? =_;rw[yw (yU h) (by simpa using da r yS) gV.1,dh (da r yS)]
 |r::F,l,y::xs,j+1,x,gV,da,h,b=>by rw[cn]at gV;show (nB F (l.set r y) xs)[iP l.length F j]? =_;have:=D0 (F:=F) (l:=l.set r y) (xs:=xs) (j:=j) (x:=x) gV.2 (λc hr=>by simpa using da c (by simp[hr])) (yU h) (yU b);simpa using this
 |_::_,l,[],j,x,_,_,h,_=>yE h
def yy:∀{F:List Nat}{l xs:List α}{i:Nat}{x:α},(∀r∈F,r<l.length)->F.length<=xs.length->F.Nodup->(nB F l xs)[i]? =some x->
 (i<l.length/\i∉F/\l[i]? =some x)\/∃j,i=iP l.length F j/\xs[j]? =some x
 |[],l,xs,i,x,_,_,_,h=>by
  rcases cb i l.length with b|b
  ·simp only[nB,bU b]at h;exact .inl ⟨b,yS,h⟩
  ·simp only[nB,cq b]at h;exact .inr ⟨i-l.length,by simp[iP];omega,h⟩
 |r::F,l,y::xs,i,x,da,h,gV,d=>by
  rw[cn]at gV;rcases yy (F:=F) (l:=l.set r y) (xs:=xs) (λe hr=>by simpa using da e (by simp[hr])) (yU h) gV.2 d with⟨h1,h2,h3⟩|⟨j,h1,h2⟩
  ·by_cases c:i=r
   ·subst c;rw[dh (yU h1)]at h3;exact .inr ⟨0,rfl,yU h3⟩
   ·rw[cc (eh c)]at h3;exact .inl ⟨yU h1,by simp[c,h2],h3⟩
  ·exact .inr ⟨j+1,by simpa[iP]using h1,yU h2⟩
 |_::_,l,[],i,x,_,h,_,_=>yE h
end
variable {F ps:List Nat}{i k r:Nat}{ri:RI}{o q:Ob}{w':World}{α:Type}{E' E2:List RI}{args:List PV}{vals:List Value}{K:PV->St->Prop}{l:List Ob}{Pp':ga}{G:eE}{f:FuncId}
def HJ:∀(F:List Nat)(l xs:List Ob),Gb F l xs=nB F l xs
 |[],l,xs=>by simp[Gb,nB,fK]
 |r::F,l,x::xs=>by simp only[Gb,nB,gO];exact HJ F _ xs
 |_::_,l,[]=>rfl
def zH(F:List Nat):∀(l:List Ob)(i:Nat),(lr F l)[i]? =(l[i]?).map λo=>match o with| .iter m s=>bif fP m F then .dead else .iter m s|o=>o
 |[],i=>by simp[lr]
 |o::l,i=>by cases o<;>cases i<;>simp[lr,zH F l]
def ke(F:List Nat):∀(l:List Ob),(lr F l).length=l.length
 |[]=>rfl
 |o::l=>by cases o<;>simp[lr,ke F l]
def EX(h:(lr F l)[i]? =some o)(hl:o.live=true):l[i]? =some o/\∀m s,o= .iter m s->m∉F:=by
 rw[zH]at h;cases c:l[i]? with
 |none=>rw[c]at h;simp at h
 |some o'=>
  rw[c]at h;simp only[cu,cr]at h;cases o' with
  |iter m s=>
   simp only at h;cases hm:fP m F with
   |true=>rw[hm]at h;simp at h;subst h;simp[Ob.live]at hl
   |false=>rw[hm]at h;simp at h;subst h;refine⟨rfl,λm' s' e=>?_⟩;cases e;intro b;rw[(lZ _ _).2 b]at hm;cases hm
  |_=>simp only at h;subst h;exact⟨rfl,λm s e=>yC e⟩
def rz(hk:ps[k]? =some r)(b:E[r]? =some ri):(ps.map λr=>E.getD r .row0)[k]? =some ri:=by simp[hk,cj,b]
def sg{x:RI}(hk:sR ps 0 i=some k)(c:E[i]? =some x):(ps.map λr=>E.getD r .row0)[k]? =some x:=by obtain⟨j,rfl,b⟩:=wy hk;rw[fk];exact rz b c
def KO(b:(c9 (λr=>j7 ps (eT objs r)) ps)[k]? =some q)(hl:q.live=true):∃r o',ps[k]? =some r/\objs[r]? =some o'/\o'.live=true/\q=j7 ps o':=by
 rw[iv,cw]at b;cases d:ps[k]? with
 |none=>rw[d]at b;simp at b
 |some r=>
  rw[d]at b;simp only[cu,cr]at b;rw[sA]at b;cases c:objs[r]? with
  |none=>simp only[cj,c,qD,j7]at b;subst b;simp[Ob.live]at hl
  |some o'=>simp only[cj,c,dQ]at b;refine⟨r,o',rfl,c,?_,b.symm⟩;cases o'<;>first|rfl|(subst b;simp[j7,Ob.live]at hl)
def rv(c:WR tt E Pp objs w)(d:(c9 (λr=>j7 ps (eT objs r)) ps)[k]? =some q)(hl:q.live=true)(b:(ps.map λr=>E.getD r .row0)[k]? =some ri):
 ∃r o',ps[k]? =some r/\objs[r]? =some o'/\o'.live=true/\E[r]? =some ri:=by
 obtain⟨r,o',h1,h2,h3,h4⟩:=KO d hl;obtain⟨ri',h5,_⟩:=c.ob r o' h2 h3;have:=rz h1 h5;rw[b]at this;cases this;exact⟨r,o',h1,h2,h3,h5⟩
def WR.pick(g:WR tt E Pp objs w)(gV:ps.Nodup):WR tt (ps.map λr=>E.getD r .row0) Pp (c9 (λr=>j7 ps (eT objs r)) ps) w:=by
 refine⟨by simp[iv],g.pi,?_,?_,g.gl⟩
 ·intro k q D hl;obtain⟨r,o',h1,h2,h3,rfl⟩:=KO D hl;obtain⟨ri,h5,h6⟩:=g.ob r o' h2 h3;refine⟨ri,rz h1 h5,?_⟩;cases o' with
  |box cs=>
   cases ri<;>simp only[OR]at h6<;>simp only[j7,OR]
   obtain⟨vs,T,a1,a2,a3,a4⟩:=h6;exact⟨vs,T,a1,D4 (λ_ _ _=>sg) a2,a3,a4.map (IW ps)⟩
  |row e d wr=>cases ri<;>exact h6
  |map kc e d=>cases ri<;>exact h6
  |diter e d seen=>cases ri<;>exact h6
  |iter m seen=>
   simp only[j7]at hl ⊢;cases y:sR ps 0 m with
   |none=>rw[y]at hl;simp[Ob.live]at hl
   |some k=>
    cases ri<;>simp only[OR]at h6<;>simp only[OR]
    obtain⟨J,borns,clock,C,a1,a2⟩:=h6;exact⟨J,borns,clock,C,sg y a1,a2⟩
  |loop n Q c1 c2 s j=>
   cases ri<;>simp only[OR]at h6<;>simp only[j7,OR]
   obtain⟨r,a1,a2,a3⟩:=h6;exact⟨r,a1,a2,λt=>by rw[yM];exact uG (λ_ _ _=>sg) 8 _ _ (a3 t)⟩
  |dead=>simp[j7,Ob.live]at hl
 ·intro i j oi oj ri rj b M O c u x p h v;obtain⟨r,I,a1,a2,a3,a4⟩:=rv g M c x;obtain⟨z,H,b1,b2,A,L⟩:=rv g O u p;have:=g.sep r z I H ri rj b a2 b2 a3 A a4 L h v;subst this;have c:=(dF.1 a1).1;exact(O5 c gV).1 (a1.trans b1.symm)
theorem OR.o5{f:Nat->Nat}(hf:∀(i:Nat) x,E[i]? =some x->E2[f i]? =some x)(hl:(o5 f o).live=true)(h:OR tt E Pp w ri o):OR tt E2 Pp w ri (o5 f o):=by
 cases o with
 |box cs=>
  cases ri<;>simp only[OR]at h<;>simp only[VC.o5,OR]
  obtain⟨vs,T,a1,a2,a3,a4⟩:=h;exact⟨vs,T,a1,yu hf a2,a3,a4.map (KG f)⟩
 |row e d wr=>cases ri<;>exact h
 |map kc e d=>cases ri<;>exact h
 |diter e d seen=>cases ri<;>exact h
 |iter m seen=>simp[VC.o5,Ob.live]at hl
 |loop n b c1 c2 s j=>
  cases ri<;>simp only[OR]at h<;>simp only[VC.o5,OR]
  obtain⟨r,a1,a2,a3⟩:=h;exact⟨r,a1,a2,λt=>by rw[A3];exact xC hf 8 _ _ (a3 t)⟩
 |dead=>simp[VC.o5,Ob.live]at hl
def cY.back(h:cY tt B E Pp objs w)(gV:F.Nodup)(da:∀r∈F,r<objs.length){J:ga}{T:List Ob}(U:qA (F.map λr=>E.getD r .row0) E2)
 (hp:∀ad v,Pp ad v->J ad v) (y:WR tt E2 J T w') (ai:Fr (own (F.map λr=>E.getD r .row0) (c9 (λr=>j7 F (eT objs r)) F)) w w')
 (am:JH (own (F.map λr=>E.getD r .row0) (c9 (λr=>j7 F (eT objs r)) F)) w Pp J) (hf:mD (own (F.map λr=>E.getD r .row0) (c9 (λr=>j7 F (eT objs r)) F)) w E2 T):
 cY tt B (nB F E E2) J (Gb F (lr F objs) (c9 (o5 (iP (cv objs) F)) T)) w'/\qA E (nB F E E2)/\∀(j:Nat) x,E2[j]? =some x->(nB F E E2)[iP (cv objs) F j]? =some x:=by
 have hl:=h.wr.len;have aq:=y.len;rw[HJ,cX]
 have R:F.length<=E2.length:=by
  rcases cb E2.length F.length with h'|h'
  ·exfalso;have C:(F.map λr=>E.getD r .row0)[E2.length]? =some (E.getD F[E2.length] .row0):=by simp[h']
   rcases U _ _ C with h1|⟨_,_,_,_,_,_,h1⟩<;>(have:=cF h1;omega)
  ·exact h'
 have aj:∀r∈F,r<E.length:=λr hr=>by rw[hl];exact da r hr
 have d:∀(j:Nat) x,E2[j]? =some x->(nB F E E2)[iP objs.length F j]? =some x:=by intro j x C;rw[<- hl];exact D0 gV aj R C
 have g:∀(i:Nat),i<E.length->i∉F->(nB F E E2)[i]? =E[i]? :=λi hi hn=>yw R hi hn
 have Y:qA E (nB F E E2):=by
  intro i x C;have hi:=cF C;by_cases hm:i∈F
  ·obtain⟨k,hk⟩:=gH hm;have ah:iP objs.length F k=i:=BN hk;rcases U k x (rz hk C)with h1|⟨b,n,c,n',c',rfl,h1⟩
   ·have:=d k x h1;rw[ah]at this;exact .inl this
   ·have:=d k _ h1;rw[ah]at this;exact .inr ⟨b,n,c,n',c',rfl,this⟩
  ·rw[g i hi hm];exact .inl C
 have S:∀b,own (F.map λr=>E.getD r .row0) (c9 (λr=>j7 F (eT objs r)) F) b->∃r o ri,r∈F/\objs[r]? =some o/\o.live=true/\E[r]? =some ri/\ri.du =some b:=by rintro b ⟨i,q,ri,h1,h2,h3,h4⟩;obtain⟨r,o',a1,a2,a3,a4⟩:=rv h.wr h1 h2 h3;exact⟨r,o',ri,fv a1,a2,a3,a4,h4⟩
 have W:∀b,own (F.map λr=>E.getD r .row0) (c9 (λr=>j7 F (eT objs r)) F) b->B.w0.heap.size<=b\/B.o9 b:=by intro b hb;obtain⟨r,o,ri,_,h2,h3,h4,h5⟩:=S b hb;exact h.fresh r o ri b h2 h3 h4 h5
 have z:∀(i:Nat) o ri b,i∉F->objs[i]? =some o->o.live=true->E[i]? =some ri->ri.du =some b->b<w.heap.size/\¬own (F.map λr=>E.getD r .row0) (c9 (λr=>j7 F (eT objs r)) F) b:=by intro i o ri b hi h1 h2 h3 h4;refine⟨oD h.wr ⟨i,o,ri,h1,h2,h3,h4⟩,λhb=>?_⟩;obtain⟨r,o',ri',h5,h6,h7,h8,h9⟩:=S b hb;have:=h.wr.sep i r o o' ri ri' b h1 h6 h2 h7 h3 h8 h4 h9;subst this;exact hi h5
 have ak:F.length<=(c9 (o5 (iP objs.length F)) T).length:=by rw[gq,<-aq];exact R
 have ao:∀r∈F,r<(lr F objs).length:=λr hr=>by rw[ke];exact da r hr
 have t:∀(i:Nat) o,(nB F (lr F objs) (c9 (o5 (iP objs.length F)) T))[i]? =some o->o.live=true->
  (i<objs.length/\i∉F/\objs[i]? =some o/\∀m s,o= .iter m s->m∉F)\/∃j o',i=iP objs.length F j/\T[j]? =some o'/\o'.live=true/\o=o5 (iP objs.length F) o':=by
  intro i o ho u;rcases yy ao ak gV ho with⟨h1,h2,h3⟩|⟨j,h1,h2⟩
  ·rw[ke]at h1;obtain⟨h4,h5⟩:=EX h3 u;exact .inl ⟨h1,h2,h4,h5⟩
  ·rw[ke]at h1;rw[iv,cw]at h2;cases C:T[j]? with
   |none=>rw[C]at h2;simp at h2
   |some o'=>rw[C]at h2;simp only[cu,cr]at h2;refine .inr ⟨j,o',h1,C,?_,h2.symm⟩;cases o'<;>first|rfl|(subst h2;simp[o5,Ob.live]at u)
 refine⟨⟨⟨?_,y.pi,?_,?_,y.gl⟩,h.pre.trans Y,λad v hv=>hp _ _ (h.ua ad v hv),?_,?_,?_⟩,Y,d⟩
 ·have h1:=yx (F:=F) (l:=E) (xs:=E2) R;have h2:=yx (F:=F) (l:=lr F objs) (xs:=c9 (o5 (iP objs.length F)) T) ak;rw[ke,gq]at h2;omega
 ·intro i o ho u;rcases t i o ho u with⟨h1,h2,h3,h4⟩|⟨j,o',rfl,h2,h3,rfl⟩
  ·obtain⟨ri,I,aa⟩:=h.wr.ob i o h3 u;refine⟨ri,by rw[g i yO h2];exact I,OR.LO Y ?_ hp ?_ ?_ aa⟩
   ·intro m s e x C;rw[g m (cF C) (h4 m s e)];exact C
   ·intro b hb;obtain⟨h5,h6⟩:=z i o ri b h2 h3 u I hb;exact ai.block b h5 h6
   ·intro b hb ad v hv he;obtain⟨h5,h6⟩:=z i o ri b h2 h3 u I hb;rcases am ad v hv with h7|h7|h7
    ·exact h7
    ·omega
    ·rw[he]at h7;exact absurd h7 h6
  ·obtain⟨ri,I,aa⟩:=y.ob j o' h2 h3;exact⟨ri,d j ri I,OR.o5 d u aa⟩
 ·intro i j oi oj ri rj b hi hj ae ac H D L Q;rcases t i oi hi ae with⟨h1,h2,h3,_⟩|⟨i',O,rfl,h2,h3,rfl⟩<;>rcases t j oj hj ac with⟨k1,V,X,_⟩|⟨j',M,rfl,V,X,rfl⟩
  ·rw[g i yO h2]at H;rw[g j yO V]at D;exact h.wr.sep i j oi oj ri rj b h3 X ae ac H D L Q
  ·rw[g i yO h2]at H;obtain⟨h5,h6⟩:=z i oi ri b h2 h3 ae H L;obtain⟨Z,A,_⟩:=y.ob j' M V X;have:=d j' Z A;rw[D]at this;cases this;rcases hf j' M rj b V X A Q with h7|h7
   ·omega
   ·exact absurd h7 h6
  ·rw[g j yO V]at D;obtain⟨h5,h6⟩:=z j oj rj b V X ac D Q;obtain⟨ri',p,_⟩:=y.ob i' O h2 h3;have:=d i' ri' p;rw[H]at this;cases this;rcases hf i' O ri b h2 h3 p L with h7|h7
   ·omega
   ·exact absurd h7 h6
  ·obtain⟨ri',p,_⟩:=y.ob i' O h2 h3;have e1:=d i' ri' p;rw[H]at e1;cases e1;obtain⟨Z,A,_⟩:=y.ob j' M V X;have e2:=d j' Z A;rw[D]at e2;cases e2;rw[y.sep i' j' O M ri rj b h2 V h3 X p A L Q]
 ·refine h.fr.trans ai (λx C ap=>?_);rcases W x ap with h1|h1
  ·omega
  ·exact h1
 ·intro ad v hv;rcases am ad v hv with h1|h1|h1
  ·exact h.kV ad v h1
  ·exact .inr (.inl (bR h.fr.size h1))
  ·exact .inr (W _ h1)
 ·intro i o ri b ho u hE hb;rcases t i o ho u with⟨h1,h2,h3,_⟩|⟨j,o',rfl,h2,h3,rfl⟩
  ·rw[g i yO h2]at hE;exact h.fresh i o ri b h3 u hE hb
  ·obtain⟨ri',p,_⟩:=y.ob j o' h2 h3;have:=d j ri' p;rw[hE]at this;cases this;rcases hf j o' ri b h2 h3 p hb with h7|h7
   ·exact .inl (bR h.fr.size h7)
   ·exact W b h7
def Gw(F:List Nat)(s:dS)(t:Nat):look (pk F objs s) t=look s t\/(look (pk F objs s) t=om objs 8 (look s t)/\∀i∈ids objs 8 (look s t),i∈F)\/look (pk F objs s) t= .undef:=by
 induction s with
 |nil=>exact .inl rfl
 |cons x s c=>
  obtain⟨k,p⟩:=x;simp only[pk,look];cases nb k t with
  |false=>simpa using c
  |true=>
   simp only[cond_true];cases sT (λb=>(match eT objs b with| .box _=>vN b 8 p|_=>false)) F with
   |false=>exact .inl rfl
   |true=>
    cases hc:iw (λi=>fP i F) (ids objs 8 p)with
    |false=>exact .inr (.inr rfl)
    |true=>refine .inr (.inl ⟨rfl,λi d=>?_⟩);rw[C5,dk]at hc;exact(lZ i F).1 (hc i d)
def vl(b:WR tt E Pp objs w){s:dS}(hs:∀t,VR tt E Pp (a.tmps.getD t undef) (look s t)):
 ∀t,VR tt E (iO tt E objs w Pp F) (a.tmps.getD t undef) (look (pk F objs s) t):=by
 intro t;rcases Gw (objs:=objs) F s t with h|⟨h,c⟩|h
 ·rw[h];exact(hs t).mono (λ_ _ h=>h) (λ_ _ h=>.inl h)
 ·rw[h];exact(zz b 8 _ _ (hs t) c).of_nil E
 ·rw[h];exact .undef _
def kq{l k:List α}{x:α}(h:(l++k)[i]? =some x):(i<l.length/\l[i]? =some x)\/∃j,i=l.length+j/\k[j]? =some x:=by
 rcases cb i l.length with b|b
 ·rw[bU b]at h;exact .inl ⟨b,h⟩
 ·rw[cq b]at h;exact .inr ⟨i-l.length,yO,h⟩
def iQ{l k:List α}{x:α}(h:l[i]? =some x):(l++k)[i]? =some x:=by
 rw[bU]
 ·exact h
 ·rcases cb i l.length with b|b
  ·exact b
  ·rw[bY b]at h;simp at h
def pz{l k:List α}{j:Nat}{x:α}(h:k[j]? =some x):(l++k)[l.length+j]? =some x:=by rw[cq yO];simpa using h
def OR.goes(b:mH o=true)(hl:o.live=true)(h:OR tt E Pp w ri o):OR tt E' Pp w ri o:=by
 cases o<;>simp[mH,Ob.live]at b hl
 ·cases ri<;>exact h
 ·cases ri<;>exact h
def EP(h:iw mH l=true)(b:l[i]? =some o):mH o=true:=by rw[C5,dk]at h;exact h o (fv b)
def cY.Qv{Pp1:ga}{e objs':List Ob}(h:cY tt B E Pp' e w')(m:WR tt E' Pp' objs' w')(D:iw mH objs'=true)
 (u:∀b,own E e b->b<w.heap.size) (fL:B.w0.heap.size<=w.heap.size) (hf:mD (own [] []) w E' objs'):cY tt B (E++E') Pp' (e++objs') w':=by
 have hl:=h.wr.len
 have new:∀(j:Nat) o ri b,objs'[j]? =some o->o.live=true->E'[j]? =some ri->ri.du =some b->w.heap.size<=b:=by
  intro j o ri b h1 h2 h3 h4;rcases hf j o ri b h1 h2 h3 h4 with h5|h5
  ·exact h5
  ·exact(oe h5).elim
 refine⟨⟨by simp[hl,m.len],m.pi,?_,?_,m.gl⟩,h.pre.trans (.of λ_ _=>iQ),h.ua,h.fr,h.kV,?_⟩
 ·intro i o A g;rcases kq A with⟨_,h1⟩|⟨j,rfl,h1⟩
  ·obtain⟨ri,x,v⟩:=h.wr.ob i o h1 g;exact⟨ri,iQ x,OR.frame (λ_ _=>iQ) (λ_ _ h=>h) (λ_ _=>rfl) (λ_ _ _ _ h _=>h) v⟩
  ·obtain⟨ri,x,v⟩:=m.ob j o h1 g;exact⟨ri,by rw[<- hl];exact pz x,v.goes (EP D h1) g⟩
 ·intro i j oi oj ri rj b H I s p d c n t;rcases kq H with⟨l1,h1⟩|⟨z,rfl,h1⟩<;>rcases kq I with⟨l2,h2⟩|⟨C,rfl,h2⟩
  ·rw[bU yO]at d c;exact h.wr.sep i j oi oj ri rj b h1 h2 s p d c n t
  ·rw[bU yO]at d;rw[<- hl,cq yO]at c;have:=u b ⟨i,oi,ri,h1,s,d,n⟩;have:=new C oj rj b h2 p (yU c) t;omega
  ·rw[bU yO]at c;rw[<- hl,cq yO]at d;have:=u b ⟨j,oj,rj,h2,p,c,t⟩;have:=new z oi ri b h1 s (yU d) n;omega
  ·rw[<- hl,cq yO]at d c;have:=m.sep z C oi oj ri rj b h1 h2 s p (yU d) (yU c) n t;omega
 ·intro i o ri b A g y hb;rcases kq A with⟨l1,h1⟩|⟨z,rfl,h1⟩
  ·rw[bU yO]at y;exact h.fresh i o ri b h1 g y hb
  ·rw[<- hl,cq yO]at y;exact .inl (bR fL (new z o ri b h1 g (yU y) hb))
def pn{ad:Addr}{v:Value}(h:iO tt E objs w Pp [] ad v):Pp ad v:=by
 rcases h with h|⟨_,i,b,_⟩
 ·exact h
 ·simp at b
def kP{l:List Nat}(h:eH l=true):l=[]:=by cases l<;>simp_all[eH]
def cY.kept{s ob:Ob}{more:List Ob}(h:cY tt B E Pp objs w)(Z:objs[r]? =some s)(R:s.live=true)(hr:E[r]? =some ri)
 (n:WR tt (ri::E') Pp' (ob::more) w') (ac:mH ob=true) (hg:iw mH more=true) (hp:∀ad v,Pp ad v->Pp' ad v)
 (Q:Fr (own [ri] [s]) w w') (V:JH (own [ri] [s]) w Pp Pp') (hf:mD (own [ri] [s]) w (ri::E') (ob::more)):cY tt B (E++E') Pp' (objs.set r ob++more) w':=by
 have hl:=h.wr.len
 have p:∀b,own [ri] [s] b->ri.du =some b:=by
  rintro b ⟨i,o,r',h1,h2,h3,h4⟩;cases i with
  |zero=>simp at h1 h3;subst h1 h3;exact h4
  |succ i=>simp at h1
 have D:∀b,ri.du =some b->B.w0.heap.size<=b\/B.o9 b:=λb hb=>h.fresh r s ri b Z R hr hb
 have ae:r<objs.length:=by
  rcases cb r objs.length with h'|h'
  ·exact h'
  ·rw[bY h']at Z;simp at Z
 have old:∀(j:Nat) o rj b,j≠r->objs[j]? =some o->o.live=true->E[j]? =some rj->rj.du =some b->b<w.heap.size/\ri.du ≠some b:=by intro j o rj b H h1 h2 h3 h4;exact⟨oD h.wr ⟨j,o,rj,h1,h2,h3,h4⟩,λh5=>H (h.wr.sep j r o s rj ri b h1 Z h2 R h3 hr h4 h5)⟩
 have new:∀(j:Nat) o rj b,more[j]? =some o->o.live=true->E'[j]? =some rj->rj.du =some b->w.heap.size<=b\/ri.du =some b:=by
  intro j o rj b h1 h2 h3 h4;rcases hf (j+1) o rj b (yU h1) h2 (yU h3) h4 with h5|h5
  ·exact .inl h5
  ·exact .inr (p b h5)
 have g:∀(j:Nat) o,(objs.set r ob)[j]? =some o->(j=r/\o=ob)\/(j≠r/\objs[j]? =some o):=by
  intro j o H;by_cases L:j=r
  ·subst L;rw[dh ae]at H;simp at H;exact .inl ⟨rfl,H.symm⟩
  ·rw[cc (eh L)]at H;exact .inr ⟨L,H⟩
 have T:=n.len;simp only[bS]at T;refine⟨⟨by simp[hl];omega,n.pi,?_,?_,n.gl⟩,h.pre.trans (.of λ_ _=>iQ),λad v W=>hp _ _ (h.ua ad v W),?_,?_,?_⟩
 ·intro i o U e;rcases kq U with⟨_,h1⟩|⟨j,rfl,h1⟩
  ·rcases g i o h1 with⟨rfl,rfl⟩|⟨m,h2⟩
   ·obtain⟨r',S,C⟩:=n.ob 0 o rfl e;simp at S;subst S;exact⟨ri,iQ hr,C.goes ac e⟩
   ·obtain⟨rj,A,C⟩:=h.wr.ob i o h2 e;refine⟨rj,iQ A,OR.frame (λ_ _=>iQ) hp ?_ ?_ C⟩
    ·intro b hb;obtain⟨h3,h4⟩:=old i o rj b m h2 e A hb;exact Q.block b h3 (λh5=>h4 (p b h5))
    ·intro b hb ad v W he;obtain⟨h3,h4⟩:=old i o rj b m h2 e A hb;rcases V ad v W with h5|h5|h5
     ·exact h5
     ·omega
     ·exact absurd (p _ h5) (by rw[he];exact h4)
  ·obtain⟨rj,A,C⟩:=n.ob (j+1) o (yU h1) e;simp at A;refine⟨rj,?_,C.goes (EP hg h1) e⟩;rw[gg,<-hl];exact pz A
 ·intro i j oi oj ri' rj b U H z y d c t u;rcases kq U with⟨l1,h1⟩|⟨O,rfl,h1⟩<;>rcases kq H with⟨l2,h2⟩|⟨Y,rfl,h2⟩
  ·rw[gg]at l1 l2;rw[bU yO]at d c;rcases g i oi h1 with⟨rfl,rfl⟩|⟨m,h3⟩<;>rcases g j oj h2 with⟨rfl,rfl⟩|⟨X,h4⟩
   ·rfl
   ·rw[hr]at d;cases d;exact absurd t (old j oj rj b X h4 y c u).2
   ·rw[hr]at c;cases c;exact absurd u (old i oi ri' b m h3 z d t).2
   ·exact h.wr.sep i j oi oj ri' rj b h3 h4 z y d c t u
  ·rw[gg]at l1;rw[bU yO]at d;rw[gg,<-hl,cq yO]at c;have I:E'[Y]? =some rj:=yU c;rcases g i oi h1 with⟨rfl,rfl⟩|⟨m,h3⟩
   ·rw[hr]at d;cases d;have:=n.sep 0 (Y+1) oi oj ri rj b rfl (yU h2) z y rfl (yU I) t u;omega
   ·have h5:=old i oi ri' b m h3 z d t;rcases new Y oj rj b h2 y I u with h6|h6
    ·omega
    ·exact absurd h6 h5.2
  ·rw[gg]at l2;rw[bU yO]at c;rw[gg,<-hl,cq yO]at d;have J:E'[O]? =some ri':=yU d;rcases g j oj h2 with⟨rfl,rfl⟩|⟨m,h3⟩
   ·rw[hr]at c;cases c;have:=n.sep (O+1) 0 oi oj ri' ri b (yU h1) rfl z y (yU J) rfl t u;omega
   ·have h5:=old j oj rj b m h3 y c u;rcases new O oi ri' b h1 z J t with h6|h6
    ·omega
    ·exact absurd h6 h5.2
  ·rw[gg,<-hl,cq yO]at d c;have:=n.sep (O+1) (Y+1) oi oj ri' rj b (yU h1) (yU h2) z y (yU d) (yU c) t u;omega
 ·refine h.fr.trans Q (λx hx aa=>?_);rcases D x (p x aa)with h1|h1
  ·omega
  ·exact h1
 ·intro ad v W;rcases V ad v W with h1|h1|h1
  ·exact h.kV ad v h1
  ·exact .inr (.inl (bR h.fr.size h1))
  ·exact .inr (D _ (p _ h1))
 ·intro i o ri' b U e M hb;rcases kq U with⟨l1,h1⟩|⟨O,rfl,h1⟩
  ·rw[gg]at l1;rw[bU yO]at M;rcases g i o h1 with⟨rfl,rfl⟩|⟨m,h3⟩
   ·rw[hr]at M;cases M;exact D b hb
   ·exact h.fresh i o ri' b h3 e M hb
  ·rw[gg,<-hl,cq yO]at M;rcases new O o ri' b h1 e (yU M) hb with h4|h4
   ·exact .inl (bR h.fr.size h4)
   ·exact D b h4
def Cz(h:cY tt B E Pp objs w)(hs:∀t,VR tt E Pp (a.tmps.getD t undef) (look st.s t))(p:fe tt E Pp vals args)(gV:F.Nodup)(da:∀r∈F,r<objs.length):
 WR tt (F.map λr=>E.getD r .row0) Pp (c9 (λr=>j7 F (eT objs r)) F) w/\fe tt (F.map λr=>E.getD r .row0) Pp vals (c9 (jS F 8) args)/\
 ∀e w',nQ tt (F.map λr=>E.getD r .row0) Pp (c9 (λr=>j7 F (eT objs r)) F) w (λv o'=>K (rh (iP (cv objs) F) 8 v) ⟨st.s,Gb F (lr F objs) (c9 (o5 (iP (cv objs) F)) o')⟩) e w'->
  ∃v pv s' o' E' Pp',e= .returned v/\VR tt E' Pp' v pv/\(∀t,VR tt E' Pp' (a.tmps.getD t undef) (look s' t))/\cY tt B E' Pp' o' w'/\K pv ⟨s',o'⟩/\(∀ad v,Pp ad v->Pp' ad v)/\qA E E'/\s'=st.s:=by
 refine⟨h.wr.pick gV,D4 (λ_ _ _=>sg) p,?_⟩;rintro e w' ⟨v,E2,n,u,pv,rfl,b,c,g,m,s,j,d,hf⟩;obtain⟨h1,h2,h3⟩:=cY.back h gV da b c g j d hf;exact⟨v,_,st.s,_,_,n,rfl,xC h3 8 _ _ m,λt=>(VR.jE h2 c).1 (hs t),h1,s,c,h2,rfl⟩
def rk:∀(n:Nat)(b seen:List Nat)(i:Nat),seen[0]? =some i->(reach objs n b seen)[0]? =some i
 |0,_,_,_,h=>h
 |_+1,[],_,_,h=>h
 |n+1,x::b,seen,i,h=>by
  simp only[reach];cases fP x seen with
  |true=>exact rk n _ _ _ h
  |false=>refine rk n _ _ _ ?_;rw[fK];exact iQ h
def FZ(n:Nat)(i:Nat)(b:List Nat):(reach objs (n+1) (i::b) [])[0]? =some i:=by simp only[reach,fP,cond_false];exact rk n _ _ _ rfl
def Mw{n:Nat}(h:iw (λr=>jv r n) F=true):∀r∈F,r<n:=by rw[C5,dk]at h;exactλr hr=>eO (h r hr)
def Lb(h:cY tt B E Pp st.o w)(hs:∀t,VR tt E Pp (a.tmps.getD t undef) (look st.s t))(m:fe tt E Pp vals args)
 (hc:Lc G (xP P tt) f args st K):
 ot P f vals w λe w'=>∃v pv s' o' E' Pp',e= .returned v/\VR tt E' Pp' v pv/\(∀t,VR tt E' Pp' (a.tmps.getD t undef) (look s' t))/\cY tt B E' Pp' o' w'/\K pv ⟨s',o'⟩/\(∀ad v,Pp ad v->Pp' ad v):=by
 have key:∀{b:ga}{c:List Ob}{as:List PV}{F:List Nat},cY tt B E b c w->(∀t,VR tt E b (a.tmps.getD t undef) (look st.s t))->fe tt E b vals as->(∀ad v,Pp ad v->b ad v)->wv (xP P tt) (.fn f) as st.s c F K->
  ot P f vals w λe w'=>∃v pv s' o' E' Pp',e= .returned v/\VR tt E' Pp' v pv/\(∀t,VR tt E' Pp' (a.tmps.getD t undef) (look s' t))/\cY tt B E' Pp' o' w'/\K pv ⟨s',o'⟩/\(∀ad v,Pp ad v->Pp' ad v):=by
  intro b c as F h1 g j d hc;unfold wv at hc;cases hb:(lg F&&iw (λr=>jv r (cv c)) F)with
  |false=>rw[hb]at hc;exact hc.elim
  |true=>rw[hb]at hc;simp only[bI,cX]at hb;have hl:=Cz (K:=K) h1 g j (pa hb.1) (Mw hb.2);refine(hc _ _ w vals hl.1 hl.2.1).mono λe w' n=>?_;obtain⟨v,pv,s',o',E',Pp',x,z,y,p,C,s,_⟩:=hl.2.2 e w' n;exact⟨v,pv,s',o',E',Pp',x,z,y,p,C,λad u hu=>s _ _ (d _ _ hu)⟩
 unfold Lc at hc;split at hc
 ·exact key h hs m (λ_ _ h=>h) hc
 ·exact key (h.qc (fo (tE 8) args)) (λt=>(hs t).mono (λ_ _ h=>h) (λ_ _ h=>.inl h)) (LN h.wr m (λi A=>A)) (λ_ _ h=>.inl h) hc
def Mh(hG:G.tt=tt)(h:cY tt B E Pp st.o w)(hs:∀t,VR tt E Pp (a.tmps.getD t undef) (look st.s t)){kp:Bool}(Q:fe tt E Pp vals args)
 (hc:zU G (xP P tt) kp f args st K):
 ot P f vals w λe w'=>∃v pv s' o' E' Pp',e= .returned v/\VR tt E' Pp' v pv/\(∀t,VR tt E' Pp' (a.tmps.getD t undef) (look s' t))/\cY tt B E' Pp' o' w'/\K pv ⟨s',o'⟩/\
  ((kp&&fP f G.eB)=false->fP f G.live=false->∀ad v,oO tt E Pp st.o w ad v->oO tt E' Pp' o' w' ad v)/\(∀ad v,Pp ad v->Pp' ad v):=by
 unfold zU at hc;cases R:fP f G.live with
 |true=>rw[R]at hc;refine(Lb (a:=a) h hs Q hc).mono λe w'=>?_;rintro⟨v,pv,s',o',E',Pp',q1,q2,q3,q4,q5,q6⟩;exact⟨v,pv,s',o',E',Pp',q1,q2,q3,q4,q5,(λ_ hf=>nomatch hf),q6⟩
 |false=>
 rw[R]at hc;simp only at hc;cases hk:(kp&&fP f G.eB)with
 |true=>
  rw[hk]at hc;simp only[cond_true]at hc;split at hc
  ·rename_i e r rest;split at hc
   ·rename_i e' d ho;cases hb:(nb e e'&&eH (fo (ids st.o 8) rest))with
    |false=>rw[hb]at hc;exact hc.elim
    |true=>
     rw[hb]at hc;simp only[bI]at hb;have he:=dH hb.1;subst he;have U:=kP hb.2;have W:=dB ho rfl;obtain⟨ri,I,X⟩:=h.wr.ob r _ W rfl;cases Q with
     |cons v0 _ vr _ ab D=>
      have s:=vo (n:=8) h.wr (F:=[]) D (λi A=>by rw[U]at A;exact A)
      have ac:WR tt [ri] Pp [.row e d true] w:=by
       refine⟨rfl,h.wr.pi,?_,?_,h.wr.gl⟩
       ·intro i o A R;cases i with
        |zero=>simp at A;subst A;exact⟨ri,rfl,X.goes rfl rfl⟩
        |succ i=>simp at A
       ·intro i j oi oj ri rj b A hj;cases i<;>cases j<;>simp at A hj
        intros;rfl
      have Z:VR tt [ri] Pp v0 (.row e 0):=by
       cases ab with
       |row0 _ _ V=>rw[I]at V;cases V;exact .row0 _ _ rfl
       |row _ _ g o len cap V=>rw[I]at V;cases V;exact .row _ _ _ _ _ _ rfl
      refine(hc [ri] Pp w _ ac (.cons _ _ _ _ Z ((s.mono (λ_ _ h=>h) (λ_ _=>pn)).of_nil _))).mono ?_;rintro ee w' ⟨v,E',Pp',objs',pv,rfl,L,H,y,Y,p,z,O,m⟩;split at p
      ·rename_i ob more;cases C:(mH ob&&iw mH more)with
       |false=>rw[C]at p;exact p.elim
       |true=>
        rw[C]at p;simp only[bI]at C;cases E' with
        |nil=>rcases L 0 _ rfl with S|⟨_,_,_,_,_,_,S⟩<;>simp at S
        |cons ri' E'=>
         have:ri'=ri:=by
          rcases L 0 _ rfl with S|⟨b,n,c,n',c',e1,S⟩
          ·simp at S;exact S
          ·subst e1;cases X
         subst this;have hS:=cY.kept h W rfl I y C.1 C.2 H z O m;refine⟨v,_,st.s,_,E++E',Pp',rfl,?_,?_,?_,p,λhf=>yE hf,H⟩
         ·refine KF ?_ 8 pv v Y;intro i x T;cases i with
          |zero=>simp at T;subst T;exact iQ I
          |succ i=>simp at T;show (E++E')[cv st.o+i]? =some x;rw[cX,<-h.wr.len];exact pz T
         ·intro t;exact(hs t).mono (λ_ _=>iQ) H
         ·rw[fK,gO];exact hS
      ·exact p.elim
   ·exact hc.elim
  ·exact hc.elim
 |false=>
  rw[hk]at hc;simp only[cond_false]at hc;have s:=vo (n:=8) h.wr (F:=fo (ids st.o 8) args) Q (λi A=>A);have aa:WR tt [] (iO tt E st.o w Pp (fo (ids st.o 8) args)) [] w:=WR.nil (λad v Q=>EM h.wr Q) (h.wr.Ru λ_ _ Q=>.inl Q);refine(hc [] _ w vals aa s).mono ?_;rintro e w' ⟨v,E',Pp',objs',pv,rfl,_,H,y,D,p,z,O,m⟩;have J:∀k,k<w.heap.size->w'.heap[k]? =w.heap[k]? :=λk hk=>z.block k hk (λh=>oe h);cases C:iw mH objs' with
  |false=>rw[C]at p;exact p.elim
  |true=>
   rw[C]at p;simp only[cond_true]at p;cases M:plain 8 pv with
   |true=>
    rw[M]at p;refine⟨v,pv,st.s,st.o,E,Pp,rfl,KN 8 _ _ M D,hs,?_,p,?_,λ_ _ h=>h⟩
    ·refine cY.called h (λ_ _ h=>h) z ?_ (λ_ _ h=>.inl h);intro ad u hu;exact y.pi _ _ (H _ _ (.inl hu))
    ·intro _ _ ad u hu;simpa using hu.grow (E2:=[]) (objs2:=[]) h.wr.len (λ_ _ h=>h) J
   |false=>
    rw[M]at p;simp only[cond_false]at p;have h1:=h.qc (fo (ids st.o 8) args);have h2:=cY.called h1 H z y.pi O;have h3:=cY.Qv (w:=w) (Pp1:=Pp') h2 y C (λb hb=>oD h1.wr hb) h.fr.size m;refine⟨v,_,_,_,E++E',Pp',rfl,?_,?_,?_,p,?_,λad u hu=>H _ _ (.inl hu)⟩
    ·refine KF ?_ 8 pv v D;intro i x T;show (E++E')[cv st.o+i]? =some x;rw[cX,<-h.wr.len];exact pz T
    ·intro t;exact(vl h.wr hs t).mono (λ_ _=>iQ) H
    ·rw[fK];exact h3
    ·intro _ _ ad u hu;rw[fK];exact(hu.qc _).grow h1.wr.len H J
end
end
section
section
variable {P:Program}{tt:TypeId->Option TI}{N:Nat}{B:kk}{E:List RI}{Pp:ga}{objs:List Ob}{w:World}{st:St}{a:Act}{eB:List FuncId×List FuncId}
variable {e t:TypeId}{o:Oper}{ti f:TI}{K:PV->St->Prop}{Q:Exit->Act->World->Prop}{j len n i s p:Nat}{vs us:List Value}{x y:Operand}{ps:Array (Nat×Operand)}{F:List Nat}{rows:List (List D)}
def CH{cs:List CK}{ps:List PV}(h:je cs ps=true)(g:fe tt E Pp vs ps):cs.length=ps.length/\
 ∀(j:Nat) c v d,cs[j]? =some c->vs[j]? =some v->(c9 sN ps)[j]? =some d->RD tt Pp c v d:=by
 induction cs generalizing vs ps with
 |nil=>cases ps with
  |nil=>exact⟨rfl,λj c v d h=>yE h⟩
  |cons=>simp[je]at h
 |cons c cs l=>cases ps with
  |nil=>simp[je]at h
  |cons p ps=>
   simp only[je,bI]at h;cases g with
   |cons v _ vs _ h1 h2=>
    obtain⟨hl,m⟩:=l h.2 h2;refine⟨by simp[hl],?_⟩;intro j q k d hc b hd;cases j with
    |zero=>simp[c9]at hc b hd;subst hc b hd;exact GG h.1 h1
    |succ j=>exact m j q k d (yU hc) (yU b) (by simpa[c9]using hd)
def ER(c:WR tt E Pp objs w){ps:List PV}(d:fe tt E Pp vs ps)(h:eH (fo (ids objs 8) ps)=true):fe tt E Pp vs (c9 (om objs 8) ps):=by have g:=kP h;exact((vo (n:=8) c (F:=[]) d (λi b=>by rw[g]at b;exact b)).mono (λ_ _ h=>h) (λ_ _=>pn)).of_nil E
def kM(b:i<n)(c:j<s):i*s+j<n*s:=by have:(i+1)*s<=n*s:=dE _ b;rw[ez]at this;omega
def Mt{k l:Nat}(b:j<s)(hl:l<s)(h:i*s+j=k*s+l):i=k/\j=l:=by
 have h1:(i*s+j)/s=i:=by rw[jx,tg yO];simp[r7 b]
 have h2:(k*s+l)/s=k:=by rw[jx,tg yO];simp[r7 hl]
 have h3:i=k:=by rw[<- h1,<-h2,h]
 subst h3;exact⟨rfl,yO⟩
def ny(h:p+us.length<=vs.length):(vs.take p++us++vs.drop (p+us.length))[j]? =if p<=j/\j<p+us.length then us[j-p]? else vs[j]? :=by
 rw[bN];by_cases h1:j<p
 ·rw[bU yQ,if_neg yO,cQ h1]
 ·rw[cq yQ];have da:(vs.take p).length=p:=yQ;rw[da];by_cases h2:j<p+us.length
  ·rw[bU yO,if_pos yO]
  ·rw[cq yO,if_neg yO,fw]
   congr 1;omega
def DL{vs us:List D}(h:p+us.length<=vs.length):(vs.take p++us++vs.drop (p+us.length))[j]? =if p<=j/\j<p+us.length then us[j-p]? else vs[j]? :=by
 rw[bN];by_cases h1:j<p
 ·rw[bU yQ,if_neg yO,cQ h1]
 ·rw[cq yQ];have da:(vs.take p).length=p:=yQ;rw[da];by_cases h2:j<p+us.length
  ·rw[bU yO,if_pos yO]
  ·rw[cq yO,if_neg yO,fw]
   congr 1;omega
def Cj(av:fp P tt)(h:cY tt B E Pp st.o w)(hs:∀t,VR tt E Pp (a.tmps.getD t undef) (look st.s t))(X:o.op= .store t x y)(ar:tt t=some ti)
 (u:(flat (gj tt st.s t y)).length=ti.cd.length) (aB:0<ti.cd.length) (af:iw iH (flat (gj tt st.s t y))=true) {e r off:Nat}{i:Int} (hx:ev st.s x= .gp e r i off) (hm:nb off fY=false) {d:D} (an:eT st.o r= .row e d true)
 (hk:iI tt e off ti.cd=true) (ab:je ti.cd (c9 (om st.o 8) (flat (gj tt st.s t y)))=true) (W:eH (fo (ids st.o 8) (flat (gj tt st.s t y)))=true)
 (hK:K .undef ⟨st.s,ja st.o r (.row e (ec.o4 d i off (c9 sN (c9 (om st.o 8) (flat (gj tt st.s t y))))) true)⟩):o.wp P a w (er tt B eB E Pp st.o w o a K) Q:=by
 have aj:=av _ _ ar;have hy:=jZ hs t y;have J:flat (gj tt st.s t y)≠[]:=by intro h0;rw[h0]at u;simp at u;omega
 have m:=nM hy J;have ay:=ER h.wr m W;obtain⟨_,iF⟩:=CH ab ay;generalize am:c9 sN (c9 (om st.o 8) (flat (gj tt st.s t y)))=ds at*;have aI:ds.length=ti.cd.length:=by rw[<- am,gq,gq];exact u
 have M:=ff hs x;rw[hx]at M;rw[gO]at hK;have R:=dB an rfl;generalize ax:a.eval x=vx at M;cases M with
 |gp _ _ _ _ _ g o0 len cap hE h0 hu=>
  obtain⟨rfl,h1⟩:=hu.get hm;obtain⟨ri,ak,au⟩:=h.wr.ob r _ R rfl;rw[hE]at ak;cases ak;obtain⟨vs,T,rows,hg,rfl,hl,aa,fL,ef,C,_⟩:=au;have C:=C rfl;generalize hi:i.toNat=n at*;have hn:n<len:=yO;generalize V:(bV tt e).length=S at*;have aE:off+ti.cd.length<=S:=by have:=jc hk (ti.cd.length-1) (ti.cd[ti.cd.length-1]'yO) (bB yO);have:=cF this;rw[V]at this;omega
  have ao:(n+1)*S<=cap*S:=dE _ yO;rw[ez]at ao;have aF:=m.length;generalize L:(a.eval y).cells.toList=us at*;have Y:us.length=ti.cd.length:=yO;have H:=wQ (P:=P) aj (v:=a.eval y) hg (o:=o0+n*S+off) (by rw[L];omega) yO (by rw[L];exact xb af m);rw[L]at H;refine B1 (w':=w.setRow g ⟨vs.take (o0+n*S+off)++us++vs.drop (o0+n*S+off+ti.cd.length)⟩) ?_ ?_
  ·simp[execOp,X,ax,H]
  ·have aw:r<st.o.length:=cF R;have O:rows[n]? =some (rows[n]'yO):=bB yO;have aD:=(ef n _ O).1;refine er.mk (.undef _) hs ?_ hK (λhq=>by rw[X]at hq;simp[gA]at hq);refine h.x7 (o':=.row e (ec.o4 (.list rows) i off ds) true) R rfl hE rfl (λ_ _=>rfl) hE (.inl (.refl _)) yS ?_ (by simp[aw]) ?_ rfl rfl rfl yS ?_ (λ_ _ h=>h) (λ_ _ h=>.inl h) (λb hb=>.inl hb) ?_
   ·intro j aq hj Z hl;rw[cc (eh hj)]at Z;exact⟨aq,Z,hl,λ_ _ h=>h⟩
   ·intro _;refine⟨_,T,_,setRow_heap w g _ _ _ _ hg,rfl,by simp[cp,hl],aa,?_,?_,λ_=>C,λhf=>yE hf⟩
    ·rw[V];simp;omega
    ·intro k row c;simp only[cp,uf,hi]at c;rw[V];by_cases I:n=k
     ·subst I;rw[O]at c;simp at c;refine⟨by rw[<- c];simp;omega,?_⟩;intro j dd ck hj q;have A:=cF q;rw[V]at A;have z:(rows[n].take off++ds++rows[n].drop (off+ds.length))[j]? =some dd:=by rw[<- hj,<-c];simp
      rw[DL yO]at z;rw[<- Y,ny yO];by_cases ac:off<=j/\j<off+ds.length
      ·rw[if_pos ac]at z;rw[if_pos yO,show o0+n*S+j-(o0+n*S+off)=j-off by omega];have hu:us[j-off]? =some (us[j-off]'yO):=bB yO;refine⟨_,hu,?_⟩;have ae:=jc hk (j-off) (ti.cd[j-off]'yO) (bB yO);rw[show off+(j-off)=j by omega,q]at ae;cases ae;exact iF (j-off) _ _ _ (bB yO) hu z
      ·rw[if_neg ac]at z;rw[if_neg yO];obtain⟨v,U,hr⟩:=(ef n _ O).2 j dd ck z q;rw[V]at U;exact⟨v,U,hr⟩
     ·have ag:rows[k]? =some row:=by
       cases G:rows[k]? with
       |none=>rw[G]at c;simp at c
       |some r0=>rw[G]at c;simp[I]at c;rw[c]
      obtain⟨e1,e2⟩:=ef k row ag;rw[V]at e1 e2;refine⟨e1,?_⟩;intro j dd ck hj q;have A:=cF q;rw[V]at A;obtain⟨v,U,hr⟩:=e2 j dd ck hj q;refine⟨v,?_,hr⟩;rw[<- Y,ny yO,if_neg]
      ·exact U
      ·rintro⟨q1,q2⟩;have:n*S+(k*S+j-n*S)=k*S+j:=yO;have:=Mt (i:=n) (k:=k) (s:=S) (j:=k*S+j-n*S) (l:=j) yO A this;exact I this.1
   ·intro k hk J;exact setRow_other w g k _ (λe=>J (by rw[e];rfl))
   ·intro ad v U;rw[iu (setRow_other w g _ _ (C ad v U))];exact h.wr.pi ad v U
def Gf(h:cY tt B E Pp st.o w)(hs:∀t,VR tt E Pp (a.tmps.getD t undef) (look st.s t))(d:o.op= .assign x)(g:mz x=true)
 (k:K (.row e (cv st.o)) ⟨st.s,iR st.o [.row e (.list []) true]⟩):o.wp P a w (er tt B eB E Pp st.o w o a K) Q:=by
 have c:a.eval x= .slice none 0 0:=by
  unfold mz at g;split at g
  ·rfl
  ·simp at g
 rw[fK,cX]at k;refine eZ (v:=.slice none 0 0) (w':=w) ?_ ?_
 ·simp[execOp,d,c]
 ·refine er.mk (E':=E++[.row0]) (Pp':=Pp) (.row0 _ _ (by rw[<- h.wr.len];simp)) (gE hs) ?_ k (λ_ ad v c=>c.grow h.wr.len (λ_ _ h=>h) (λ_ _=>rfl));refine⟨h.wr.push (λ_=>rfl) (λb hb=>by simp[RI.du]at hb),rr h.pre,h.ua,h.fr,h.kV,h.fresh.push h.wr.len (λb hb=>by simp[RI.du]at hb)⟩
def lV:∀(cd:List CK){E:List RI}{c:List Ob},cY tt B E Pp c w->
 ∃E2,cY tt B (E++E2) Pp (c++qt cd) w/\fe tt (E++E2) Pp (cd.map zeroV) (xx c.length cd)
 |[],E,c,h=>⟨[],by simpa[qt]using h,by simp[xx];exact .nil⟩
 | .slice e::cd,E,c,h=>by have d:cY tt B (E++[.row0]) Pp (c++[.row e (.list []) true]) w:=⟨h.wr.push (λ_=>rfl) (λb hb=>by simp[RI.du]at hb),rr h.pre,h.ua,h.fr,h.kV,h.fresh.push h.wr.len (λb hb=>by simp[RI.du]at hb)⟩;obtain⟨E2,h1,h2⟩:=lV cd d;refine⟨.row0::E2,by simpa[qt]using h1,?_⟩;rw[show E++RI.row0::E2=E++[.row0]++E2 by simp];refine .cons _ _ _ _ (.row0 _ _ ?_) (yU h2);rw[<- h.wr.len];simp
 | .int k::cd,E,c,h=>let ⟨E2,h1,h2⟩:=lV cd h;⟨E2,h1,.cons _ _ _ _ (.int _ _) h2⟩
 | .bool::cd,E,c,h=>let ⟨E2,h1,h2⟩:=lV cd h;⟨E2,h1,.cons _ _ _ _ (.bl _) h2⟩
 | .str::cd,E,c,h=>let ⟨E2,h1,h2⟩:=lV cd h;⟨E2,h1,.cons _ _ _ _ (.str ⟨#[]⟩) h2⟩
 | .ptr t::cd,E,c,h=>let ⟨E2,h1,h2⟩:=lV cd h;⟨E2,h1,.cons _ _ _ _ .nilp h2⟩
 | .map t e::cd,E,c,h=>let ⟨E2,h1,h2⟩:=lV cd h;⟨E2,h1,.cons _ _ _ _ .nilm h2⟩
 | .fn::cd,E,c,h=>let ⟨E2,h1,h2⟩:=lV cd h;⟨E2,h1,.cons _ _ _ _ .nilf h2⟩
 | .iM::cd,E,c,h=>let ⟨E2,h1,h2⟩:=lV cd h;⟨E2,h1,.cons _ _ _ _ (.undef _) h2⟩
def Ax(m:fp P tt)(h:cY tt B E Pp st.o w)(hs:∀t,VR tt E Pp (a.tmps.getD t undef) (look st.s t))(l:o.op= .alloc t)(c:tt t=some ti)(b:tf tt t (xx st.o.length ti.cd))
 (r:K (.box (cv st.o+cv (qt ti.cd)) 0) ⟨st.s,iR st.o (iR (qt ti.cd) [.box (xx (cv st.o) ti.cd)])⟩) {eB:List FuncId×List FuncId}:o.wp P a w (er tt B eB E Pp st.o w o a K) Q:=by
 obtain⟨_,_,⟨z,C,d⟩,_⟩:=(m _ _ c).run w;rw[fK,fK,cX,cX]at r;have g:z.cells=⟨ti.cd.map zeroV⟩:=by rw[<- d]
 obtain⟨E2,h1,h2⟩:=lV ti.cd h;have u:=sq h1 t h2 b;refine eZ (v:=.pointer (some ⟨w.heap.size,0,none⟩)) (w':=w.alloc (.cells ⟨ti.cd.map zeroV⟩ t)) ?_ ?_
 ·simp[execOp,l,Instr.alloc,C,newVar,newRow,g]
 ·refine er.mk (E':=E++E2++[.box w.heap.size]) (Pp':=Pp) ?_ (λt=>(hs t).mono (λi x q=>?_) (λ_ _ h=>h)) ?_ r (λ_ ad v A=>?_)
  ·simpa using u.2
  ·rw[bN,bU]
   ·exact q
   ·exact(dF.1 q).1
  ·simpa using u.1
  ·have:=A.grow (E2:=E2++[.box w.heap.size]) (objs2:=qt ti.cd++[.box (xx st.o.length ti.cd)]) (w':=w.alloc (.cells ⟨ti.cd.map zeroV⟩ t)) h.wr.len (λ_ _ h=>h) (λk hk=>RowKit.Below.heap_alloc w _ k hk);simpa using this
def D8(l:fp P tt)(h:cY tt B E Pp st.o w)(hs:∀t,VR tt E Pp (a.tmps.getD t undef) (look st.s t))(k:o.op= .build t ps)(g:tt t=some ti)(hb:(ti.agg&&nb ti.ar 0)=true){cs:List PV}
 (c:mT st.s tt ti.fs ps.toList (xx (cv st.o) ti.cd)=some cs)
 (m:K (.agg cs) ⟨st.s,iR st.o (qt ti.cd)⟩):o.wp P a w (er tt B eB E Pp st.o w o a K) Q:=by
 rw[fK]at m;rw[cX]at c;obtain⟨E2,h1,h2⟩:=lV ti.cd h
 have b:∀t,VR tt (E++E2) Pp (a.tmps.getD t undef) (look st.s t):=λt=>(hs t).mono (λi x q=>by
  rw[bU]
  ·exact q
  ·exact(dF.1 q).1) (λ_ _ h=>h)
 obtain⟨v,hr,d⟩:=IB l b g hb h2 c;refine eZ (v:=v) (w':=w) ?_ ?_
 ·simp[execOp,k,hr]
 ·exact er.mk (E':=E++E2) (Pp':=Pp) d b h1 m (λ_ ad v d=>d.grow h.wr.len (λ_ _ h=>h) (λ_ _=>rfl))
def PT(c:CK):RD tt Pp c (zeroV c) (sN (iy c)):=by
 cases c with
 |int=>exact .int _ _
 |bool=>exact .bool _
 |str=>exact .str ⟨#[]⟩
 |slice=>exact .slnil _
 |ptr=>exact .Ah _
 |map=>exact .Cv _ _
 |fn=>exact .LP
 |iM=>exact .Oc
def Cx(I:fp P tt)(h:cY tt B E Pp st.o w)(hs:∀t,VR tt E Pp (a.tmps.getD t undef) (look st.s t))(L:o.op= .makeSlice t x y)(T:tt t=some ti)(he:eJ ti=some e)(J:tt e=some f)
 (hb:f.bytes<=1024) (V:0<f.cd.length) {k k':IntKind}{l c:Int} (hx:ev st.s x= .int k l) (Z:ev st.s y= .int k' c) (h1:0<=l/\l<=c) (h2:0<=c/\c<=4294967296)
 (W:K (.row e (cv st.o)) ⟨st.s,iR st.o [.row e (ec.UF l (vR f.cd)) true]⟩):o.wp P a w (er tt B eB E Pp st.o w o a K) Q:=by
 obtain⟨hu,_,_⟩:=(I _ _ T).slice he;obtain⟨i,z,d,hi,fL,S,Y,H,_⟩:=(I _ _ J).info;have r:=ff hs x;have q:=ff hs y;rw[hx]at r;rw[Z]at q;generalize U:a.eval x=vx at r;generalize O:a.eval y=vy at q;cases r;cases q;rw[fK,cX]at W;have b:(i.bytes:Int)*c<=281474976710656:=by rw[S];have:(f.bytes:Int)*c<=1024*4294967296:=Int.mul_le_mul yO h2.2 h2.1 yO;omega
 have g:=run_make (P:=P) w t e i z hu hi Y k k' l c h1.1 h1.2 b yO;have m:bV tt e=f.cd:=by simp[bV,J]
 have M:z.cells.size=f.cd.length:=by rw[<- gZ,H];simp
 have R:madeCells z.cells (c.toNat*i.size)=⟨(madeCells z.cells (c.toNat*i.size)).toList⟩:=rfl;rw[R]at g;refine eZ (v:=.slice (some ⟨w.heap.size,0,none⟩) l.toNat c.toNat) (w':=w.alloc (.cells ⟨(madeCells z.cells (c.toNat*i.size)).toList⟩ e)) ?_ ?_
 ·simp[execOp,L,U,O,g]
 ·refine er.mk (E':=E++[.row w.heap.size 0 l.toNat c.toNat]) (Pp':=Pp) (.row _ _ _ _ _ _ (by rw[<- h.wr.len];simp)) (gE hs) ?_ W (λ_ ad v hv=>hv.grow h.wr.len (λ_ _ h=>h) (λk hk=>RowKit.Below.heap_alloc w _ k hk));refine h.new rfl ⟨_,e,Di l.toNat (vR f.cd),eM w _,rfl,yS,yO,?_,?_,λ_=>l9 h.wr,λhf=>yE hf⟩
  ·rw[m];simp[madeCells,fL]
  ·intro k row hk;have C:=cF hk;simp at C;have ef:row=vR f.cd:=by rw[bB (yU C)]at hk;simp at hk;exact hk.symm
   subst ef;rw[m];refine⟨by simp[vR,gq],?_⟩;intro j dd ck X A;have G:=cF A;have u:=kM (i:=k) (n:=c.toNat) (s:=f.cd.length) (j:=j) yO G;refine⟨zeroV ck,?_,?_⟩
   ·simp only[madeCells,Array.toList_map,Array.toList_range,fk,cw];rw[vO (by rw[fL];exact u)];simp only[cu,M];have hm:(k*f.cd.length+j) % f.cd.length=j:=by rw[jx,Dd];exact AD G
    rw[hm,getElem!_pos z.cells j yO];have:z.cells.toList[j]? =some (zeroV ck):=by rw[H];simp[A]
    rw[iq,pG yO]at this;exact this
   ·have:dd=sN (iy ck):=by simp only[vR,iv,cw,A,cu,cr]at X;exact X.symm
    rw[this];exact PT ck
def Gy(W:WR tt E Pp objs w)(hs:∀t,VR tt E Pp (a.tmps.getD t undef) (look st.s t))(T:0<f.cd.length):∀(r:List (Nat×Operand))(i:Nat)(rows:List (List D))(vs:List Value),
 sx (om objs 8) tt st.s e f i n r=some rows->(∀p∈r,∀k∈fo (ids objs 8) (flat (gj tt st.s e p.2)),k∈F)->vs.length=n*f.cd.length->
 ∃us,Instr.fill (λk=>some (k*f.cd.length,f.cd.length)) ⟨vs⟩ (r.map λp=>(p.1,a.eval p.2))=some ⟨us⟩/\us.length=n*f.cd.length/\i+rows.length=n/\(∀p,p<i*f.cd.length->us[p]? =vs[p]?)/\
  ∀(k:Nat)(row:List D),rows[k]? =some row->row.length=f.cd.length/\∀(j:Nat)(d:D)(ck:CK),row[j]? =some d->f.cd[j]? =some ck->
   ∃v,us[(i+k)*f.cd.length+j]? =some v/\RD tt (iO tt E objs w Pp F) ck v d:=by
 intro r;induction r with
 |nil=>
  intro i rows vs h H G;simp only[sx]at h;cases hb:nb i n with
  |false=>rw[hb]at h;simp at h
  |true=>rw[hb]at h;simp at h;subst h;have:=dH hb;exact⟨vs,rfl,G,by simp[this],λ_ _=>rfl,λk row hk=>yE hk⟩
 |cons p r O=>
  intro i rows vs h H G;obtain⟨X,x⟩:=p;simp only[sx]at h;cases hb:(nb i X&&je f.cd (c9 (om objs 8) (flat (gj tt st.s e x)))&&iw iH (flat (gj tt st.s e x)))with
  |false=>rw[hb]at h;simp at h
  |true=>
   rw[hb]at h;simp only[cond_true]at h;simp only[bI]at hb;have L:=dH hb.1.1;subst L;split at h
   ·rename_i m b;simp at h;subst h;generalize A:flat (gj tt st.s e x)=ps at*
    have q:(c9 (om objs 8) ps).length=f.cd.length:=by
     have:∀(cs:List CK)(C:List PV),je cs C=true->C.length=cs.length:=by
      intro cs;induction cs with
      |nil=>intro C h;cases C<;>simp_all[je]
      |cons c cs O=>intro C h;cases C<;>simp_all[je]
     exact this _ _ hb.1.2
    rw[gq]at q;have g:fe tt E Pp (a.eval x).cells.toList ps:=by rw[<- A];exact nM (jZ hs e x) (by rw[A];intro h0;rw[h0]at q;simp at q;omega)
    have S:=(vo (n:=8) W (F:=F) g (λk hk=>H (i,x) yS k (by rw[A];exact hk)));obtain⟨_,iF⟩:=CH hb.1.2 S;have Y:=g.length;let l:=((a.eval x).cells.toList.zipIdx.foldl (λcs (x:Value×Nat)=>cs.setIfInBounds (i*f.cd.length+x.2) x.1) (⟨vs⟩:Array Value)).toList;have M:i<n:=by obtain⟨_,_,_,h3,_⟩:=O (i+1) m (Di (n*f.cd.length) undef) b (λp I=>H p (by simp[I])) yS;omega
    have U:=kM (i:=i) (n:=n) (s:=f.cd.length) (j:=f.cd.length-1) M yO;have z:∀j,l[j]? =if i*f.cd.length<=j/\j<i*f.cd.length+f.cd.length then(a.eval x).cells.toList[j-i*f.cd.length]? else vs[j]? :=by intro j;have:=s9 (a.eval x).cells.toList (i*f.cd.length) 0 ⟨vs⟩ j (by simp only[O4];omega);simp only[l,iq,this,iS];rw[show (a.eval x).cells.toList.length=f.cd.length by omega];simp
    have J:l.length=n*f.cd.length:=by have:=rI (a.eval x).cells.toList (i*f.cd.length) 0 ⟨vs⟩;simp only[l,gZ,this];simpa using G
    obtain⟨us,h1,h2,h3,h4,h5⟩:=O (i+1) m l b (λp I=>H p (by simp[I])) J;refine⟨us,?_,h2,yQ,?_,?_⟩
    ·simp only[bO,Instr.fill];have fL:(a.eval x).cells.size=f.cd.length:=by rw[<- gZ];omega
     rw[if_neg (by simp[fL];omega)];rw[<- h1]
     congr 1
     apply j4;simp only[l,<-wM,J1]
    ·intro p I;rw[h4 p (by rw[ez];omega),z,if_neg yO]
    ·intro k row hk;cases k with
     |zero=>simp at hk;subst hk;refine⟨by simp[gq,q],?_⟩;intro j d ck R u;have V:=cF u;have hu:(a.eval x).cells.toList[j]? =some ((a.eval x).cells.toList[j]'yO):=bB yO;refine⟨_,?_,iF j _ _ _ u hu R⟩;rw[h4 _ (by rw[iS,ez];omega),z,iS,if_pos yO,show i*f.cd.length+j-i*f.cd.length=j by omega];exact hu
     |succ k=>obtain⟨e1,e2⟩:=h5 k row (yU hk);refine⟨e1,λj d ck R u=>?_⟩;obtain⟨v,G,hr⟩:=e2 j d ck R u;exact⟨v,by rw[show i+(k+1)=i+1+k by omega];exact G,hr⟩
   ·simp at h
def rT(d:fp P tt)(l:tt t=some ti)(q:eJ ti=some e)(h:tt e=some f)(c:len<=1000)(m:f.cd.length<=1000){parts:List (Nat×Value)}:
 ∃vs:List Value,vs.length=len*f.cd.length/\∀us,Instr.fill (λk=>some (k*f.cd.length,f.cd.length)) ⟨vs⟩ parts=some ⟨us⟩->
  (Instr.buildSlice t len ⟨parts⟩).run P w= .ok (.slice (some ⟨w.heap.size,0,none⟩) len len) (w.alloc (.cells ⟨us⟩ e)):=by
 obtain⟨hu,_,_⟩:=(d _ _ l).slice q;obtain⟨_,h2,⟨z,v,u⟩,_⟩:=(d _ _ h).run w;have r:len*f.cd.length<=1000*1000:=Fy c m;refine⟨((JU (len*f.cd.length)).map ((if len*f.cd.length=0 then #[]else z.cells)[· % (if len*f.cd.length=0 then #[]else z.cells).size]!)).toList,yS,?_⟩;intro us hf;have g:¬len*f.cd.length>2 ^ 24:=yO;simp only[Instr.buildSlice,run_underlying hu,Sem.run_bind,Result.andThen_ok,h2,g,if_false];by_cases h0:len*f.cd.length=0
 ·simp only[h0,if_true]at hf ⊢;have b:Instr.fill (λk=>some (k*f.cd.length,f.cd.length)) ((JU 0).map ((#[]:Array Value)[· % (#[]:Array Value).size]!)) parts=some ⟨us⟩:=hf;simp only[Sem.run_pure,Result.andThen_ok,b,newRow,Sem.run_bind];simp
 ·simp only[h0,if_false]at hf ⊢;have b:Instr.fill (λk=>some (k*f.cd.length,f.cd.length)) ((JU (len*f.cd.length)).map (z.cells[· % z.cells.size]!)) parts=some ⟨us⟩:=hf;simp only[Sem.run_pure,Sem.run_bind,v,Result.andThen_ok,b,newRow];simp
def Og{l:List (Nat×Operand)}{s:dS}:∀p∈l,∀k∈fo (ids objs 8) (flat (gj tt s e p.2)),k∈fo (ids objs 8) (fo (λp=>flat (gj tt s e p.2)) l):=by intro p b k hk;rw[l5,cN]at hk ⊢;obtain⟨q,c,hk⟩:=hk;exact⟨q,by rw[l5,cN];exact⟨p,b,c⟩,hk⟩
def RD.laid{g:Nat}(hl:rows.length=len)
 (h:∀(k:Nat)(row:List D),rows[k]? =some row->row.length=(bV tt e).length/\∀(j:Nat)(d:D)(ck:CK),row[j]? =some d->(bV tt e)[j]? =some ck->∃v,us[k*(bV tt e).length+j]? =some v/\RD tt Pp ck v d)
 (r:∀(j:Nat) v,us[j]? =some v->Pp ⟨g,j,none⟩ v):RD tt Pp (.slice e) (.slice (some ⟨g,0,none⟩) len len) (.list rows):=by
 refine .sl e g 0 len len rows (λi j=>us.getD (i*(bV tt e).length+j) undef) hl (ca _) (λi row c=>(h i row c).1) ?_ ?_
 ·intro i j c l;have q:rows[i]? =some rows[i]:=bB yO;obtain⟨u,hc⟩:=h i _ q;obtain⟨v,b,_⟩:=hc j _ _ (bB yO) (bB l);have:=r _ _ b;simpa[cj,b]using this
 ·intro i j row d ck c l m;obtain⟨v,b,hr⟩:=(h i row c).2 j d ck l m;simpa[cj,b]using hr
def Aq(L:fp P tt)(h:cY tt B E Pp st.o w)(hs:∀t,VR tt E Pp (a.tmps.getD t undef) (look st.s t))(I:o.op= .buildSlice t len ps)(J:tt t=some ti)(S:eJ ti=some e)(G:tt e=some f)
 (A:len<=1000) (l:f.cd.length<=1000) (z:0<f.cd.length) (u:sx (om st.o 8) tt st.s e f 0 len ps.toList=some rows) (R:F=fo (ids st.o 8) (fo (λp=>flat (gj tt st.s e p.2)) ps.toList))
 (r:(eH F=true/\(K (.row e (cv st.o)) ⟨st.s,iR st.o [.row e (ec.lit rows) true]⟩\/K (.pe e (ec.lit rows)) st))\/K (.pe e (ec.lit rows)) ⟨pk F st.o st.s,gB F 0 st.o⟩)
:o.wp P a w (er tt B eB E Pp st.o w o a K) Q:=by
 obtain⟨vs,H,c⟩:=rT (w:=w) (parts:=ps.toList.map λp=>(p.1,a.eval p.2)) L J S G A l;obtain⟨us,h1,h2,h3,_,h5⟩:=Gy h.wr hs z (F:=F) ps.toList 0 rows vs u (by rw[R];exact Og) H;have c:=c us h1;have g:bV tt e=f.cd:=by simp[bV,G]
 have m:(ps.map λ(i,x)=>(i,a.eval x))=⟨ps.toList.map λp=>(p.1,a.eval p.2)⟩:=by apply j4;simp
 have hb:∀k,k<w.heap.size->(w.alloc (.cells ⟨us⟩ e)).heap[k]? =w.heap[k]? :=λk hk=>RowKit.Below.heap_alloc w _ k hk;refine eZ (v:=.slice (some ⟨w.heap.size,0,none⟩) len len) (w':=w.alloc (.cells ⟨us⟩ e)) ?_ ?_
 ·simp only[execOp,I,m];simp[c]
 have laid:∀(Pp1:ga),(∀ad v,iO tt E st.o w Pp F ad v->Pp1 ad v)->RD tt (λad v=>Pp1 ad v\/(ad.block=w.heap.size/\(w.alloc (.cells ⟨us⟩ e)).cell? ad=some v)) (.slice e) (.slice (some ⟨w.heap.size,0,none⟩) len len) (.list rows):=by
  intro Pp1 T;refine RD.laid yO ?_ ?_ (us:=us)
  ·intro k row hk;rw[g];obtain⟨e1,e2⟩:=h5 k row hk;refine⟨e1,λj d ck C l=>?_⟩;obtain⟨v,q,hr⟩:=e2 j d ck C l;exact⟨v,yU q,hr.mono (λad v h=>.inl (T ad v h))⟩
  ·intro j v C;exact .inr ⟨rfl,by rw[eN (eM w _)];exact C⟩
 rcases r with⟨b,r|r⟩|r
 ·have b:=kP b;subst b;rw[fK,cX]at r;refine er.mk (E':=E++[.row w.heap.size 0 len len]) (Pp':=Pp) (.row _ _ _ _ _ _ (by rw[<- h.wr.len];simp)) (gE hs) ?_ r (λ_ ad v q=>q.grow h.wr.len (λ_ _ h=>h) hb);refine h.new rfl ⟨us,e,rows,eM w _,rfl,yO,ca _,by rw[g];omega,?_,λ_=>l9 h.wr,λhf=>yE hf⟩;intro k row hk;rw[g];obtain⟨e1,e2⟩:=h5 k row hk;refine⟨e1,λj d ck C l=>?_⟩;obtain⟨v,q,hr⟩:=e2 j d ck C l;exact⟨v,yU q,hr.mono (λ_ _=>pn)⟩
 ·have b:=kP b;subst b;have M:=h.lay us e;refine er.mk (s':=st.s) (o':=st.o) (.pe _ _ _ _ (laid Pp (λ_ _=>pn))) (λt=>(hs t).mono (λ_ _ h=>h) (λ_ _ h=>.inl h)) M r ?_;intro _ ad v q;simpa using q.grow (E2:=[]) (objs2:=[]) (Pp':=λad v=>Pp ad v\/(ad.block=w.heap.size/\(w.alloc (.cells ⟨us⟩ e)).cell? ad=some v)) h.wr.len (λ_ _ h=>.inl h) hb
 ·have O:=h.qc F;have M:=O.lay us e;refine er.mk (.pe _ _ _ _ (laid _ (λ_ _ h=>h))) (λt=>(vl h.wr hs t).mono (λ_ _ h=>h) (λ_ _ h=>.inl h)) M r ?_;intro _ ad v q;simpa using(q.qc F).grow (E2:=[]) (objs2:=[]) (Pp':=λad v=>iO tt E st.o w Pp F ad v\/(ad.block=w.heap.size/\(w.alloc (.cells ⟨us⟩ e)).cell? ad=some v)) O.wr.len (λ_ _ h=>.inl h) hb
def Jc{sz:Nat}(fL:sz=1){s:dS}(hs:∀t,VR tt E Pp (a.tmps.getD t undef) (look s t)):∀(r:List (Nat×Operand))(i:Nat)(l:List PV)(vs:List Value),wx s i n r=some l->vs.length=n->
 ∃us,Instr.fill (λk=>some (k*sz,sz)) ⟨vs⟩ (r.map λp=>(p.1,a.eval p.2))=some ⟨us⟩/\us.length=n/\i+l.length=n/\(∀p,p<i->us[p]? =vs[p]?)/\∀(k:Nat) p,l[k]? =some p->∃v,us[i+k]? =some v/\VR tt E Pp v p:=by
 subst fL;intro r;induction r with
 |nil=>
  intro i l vs h c;simp only[wx]at h;cases hb:nb i n with
  |false=>rw[hb]at h;simp at h
  |true=>rw[hb]at h;simp at h;subst h;have:=dH hb;exact⟨vs,rfl,c,by simp[this],λ_ _=>rfl,λk p hk=>yE hk⟩
 |cons p r C=>
  intro i l vs h c;obtain⟨G,x⟩:=p;simp only[wx]at h;cases hb:(nb i G&&iH (ev s x))with
  |false=>rw[hb]at h;simp at h
  |true=>
   rw[hb]at h;simp only[cond_true]at h;simp only[bI]at hb;have A:=dH hb.1;subst A;split at h
   ·rename_i H g;simp at h;subst h;have I:=ff hs x;have d:flat (ev s x)=[ev s x]:=by have:=hb.2;generalize ev s x=p at this;cases p<;>first|rfl|simp[iH]at this
    have b:fe tt E Pp (a.eval x).cells.toList [ev s x]:=by rw[<- d];exact nM I (by rw[d];simp)
    obtain⟨u,hu,z⟩:∃u,(a.eval x).cells.toList=[u]/\VR tt E Pp u (ev s x):=by
     generalize (a.eval x).cells.toList=us at b;cases b with
     |cons v _ vs _ h1 h2=>cases h2;exact⟨v,rfl,h1⟩
    have q:(a.eval x).cells= #[u]:=j4 (by rw[hu]);have m:(vs.set i u).length=n:=by simp[c]
    obtain⟨us,h1,h2,h3,h4,h5⟩:=C (i+1) H (vs.set i u) g m;refine⟨us,?_,h2,yQ,?_,?_⟩
    ·simp only[bO,Instr.fill,q];rw[if_neg yQ];rw[<- h1]
     congr 1
     simp
    ·intro p J;rw[h4 p yO,cc yO]
    ·intro k p hk;cases k with
     |zero=>simp at hk;subst hk;refine⟨u,?_,z⟩;rw[iS,h4 i yO,dh yO]
     |succ k=>obtain⟨v,c,hr⟩:=h5 k p (yU hk);exact⟨v,by rw[show i+(k+1)=i+1+k by omega];exact c,hr⟩
   ·simp at h
def Fb(z:fp P tt)(h:cY tt B E Pp st.o w)(hs:∀t,VR tt E Pp (a.tmps.getD t undef) (look st.s t))(r:o.op= .buildSlice t len ps)(u:tt t=some ti)(R:eJ ti=some e)(C:tt e=some f)
 (g:len<=1000) (m:f.cd.length=1) {l:List PV} (hl:wx st.s 0 len ps.toList=some l) (J:F=fo (ids st.o 8) l)
 (I:K (.cR (c9 (om st.o 8) l) fY) ⟨pk F st.o st.s,gB F 0 st.o⟩)
:o.wp P a w (er tt B eB E Pp st.o w o a K) Q:=by
 obtain⟨vs,c,b⟩:=rT (w:=w) (parts:=ps.toList.map λp=>(p.1,a.eval p.2)) z u R C g yO;rw[m,vL]at c;obtain⟨us,h1,h2,h3,_,h5⟩:=Jc m hs ps.toList 0 l vs hl c;have b:=b us h1;have d:(ps.map λ(i,x)=>(i,a.eval x))=⟨ps.toList.map λp=>(p.1,a.eval p.2)⟩:=by apply j4;simp
 refine eZ (v:=.slice (some ⟨w.heap.size,0,none⟩) len len) (w':=w.alloc (.cells ⟨us⟩ e)) ?_ ?_
 ·simp only[execOp,r,d];simp[b]
 have q:us.length=l.length:=yO;have c:fe tt E Pp us l:=fe.oE q (λj v p A L=>by obtain⟨U,h6,h7⟩:=h5 j p L;rw[fk,A]at h6;cases h6;exact h7);have G:=vo (n:=8) h.wr (F:=F) c (λi M=>by rw[J];exact M);have H:=h.qc F;have T:=H.lay us e;have hb:∀k,k<w.heap.size->(w.alloc (.cells ⟨us⟩ e)).heap[k]? =w.heap[k]? :=λk hk=>RowKit.Below.heap_alloc w _ k hk;refine er.mk (.cR _ us _ _ w.heap.size 0 ⟨λh=>absurd rfl h,λ_=>by rw[show us.length=len by omega]⟩ (G.mono (λi x O=>yE O) (λ_ _ h=>.inl h)) (λj v S=>.inr ⟨rfl,by rw[eN (eM w _)];simpa using S⟩)) (λt=>(vl h.wr hs t).mono (λ_ _ h=>h) (λ_ _ h=>.inl h)) T I ?_;intro _ ad v A;simpa using(A.qc F).grow (E2:=[]) (objs2:=[]) (Pp':=λad v=>iO tt E st.o w Pp F ad v\/(ad.block=w.heap.size/\(w.alloc (.cells ⟨us⟩ e)).cell? ad=some v)) H.wr.len (λ_ _ h=>.inl h) hb
end
end
end Go.VC
