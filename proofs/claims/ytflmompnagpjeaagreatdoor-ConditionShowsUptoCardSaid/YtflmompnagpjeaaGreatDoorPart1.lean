/- Part 1 of the common texts. -/
import Derived.Calls
import Derived.Orders
import Derived.Laws.Sem
import Derived.Laws.World
import Derived.Laws.Entries
import Derived.Laws.Cells
import GoSem.Claims
import Derived.Laws.Strings
import Derived.Lib.SliceRun
import Derived.Laws.BytesString
import Derived.Laws.Tables
import Derived.Below
import Derived.Laws.CopyRow
import Derived.Laws.AppendOwn
set_option linter.all false
set_option maxRecDepth 100000
set_option maxHeartbeats 16000000
open Array renaming ext→QJ,ext'→gL,foldl_toList→vZ,getElem?_eq_none→cR,getElem?_setIfInBounds_ne→fT,getElem?_setIfInBounds_self_of_lt→eb,getElem?_toList→gM,length_toList→fI,mapM_eq_mapM_toList→pb,size→Oe,toList_zipIdx→K6
open Bool renaming and_eq_true→bn,false_and→tp,false_eq_true→cA,not_not→rX,or_eq_false_iff→K5,or_eq_true→fS,true_and→iA
open ByteArray renaming data_extract→Dz
open Int renaming natCast_nonneg→eO,ofNat→bj,toNat_natCast→fp,toNat_of_nonneg→oc
open Int.ofNat renaming inj→AJ
open List renaming drop_eq_getElem_cons→bJ,extract_eq_take_drop→F6,flatMap_cons→eJ,foldl_cons→fy,getD→cx,getD_eq_getElem?_getD→fc,getElem?_append_left→bO,getElem?_cons_succ→kI,getElem?_drop→eN,getElem?_eq_getElem→bu,getElem?_eq_none→bU,getElem?_map→cC,getElem?_set_ne→bQ,getElem?_take→oD,getElem?_take_of_lt→cN,length_map→bA,length_singleton→dW,length_take→cF,mapM_cons→DF,map_cons→bF,mem_append→bE,mem_cons→bx,mem_cons_of_mem→jI,mem_of_getElem?→fA,nodup_cons→cq,nodup_nil→oC,range→dF,replicate→fb
open Nat renaming add_assoc→fi,add_mul→dz,add_zero→iw,le_refl→bX,le_succ→uM,le_trans→bM,lt_or_ge→bR,lt_trichotomy→Ae,mul_le_mul_right→dq,mul_one→p5,zero_add→dY
open Ne renaming symm→dZ
open Option renaming bind_eq_some_iff→kE,bind_some→iG,getD_some→eR,isSome_none→n9,map_none→Ai,map_some→cv
open Option.some renaming injEq→cw
open Prod.mk renaming injEq→gf
open SizeOf renaming sizeOf→pe
open UInt8 renaming ofNat→kG
namespace Go.VC
section
variable {p q:Prop}
def yO(h:p:=by omega):p:=h
def yD(h:p:=by decide):p:=h
def yS(h:p:=by simp):p:=h
def yA(h:p:=by assumption):p:=h
def yP(h:p:=by simp only;omega):p:=h
def yQ(h:p:=by simp;omega):p:=h
def yL(h:p:=by simp only[List.length_append,Int.ofNat_eq_natCast];omega):p:=h
def yK(h:p:=by decide +kernel):p:=h
def yC(c:q)(h:q->p:=by intro h;cases h):p:=h c
def yE(c:q)(h:q->p:=by intro h;simp at h):p:=h c
def yU(c:q)(h:q->p:=by intro h;simpa using h):p:=h c
def yB{a b c:Bool}(e:a=b)(h:a=c)(n:b≠c:=by decide):p:=absurd (e.symm.trans h) n
end
section
def nb(a b:Nat):Bool:=decide (a=b)
def iD(a b:Nat):Bool:=decide (a<=b)
abbrev iC(a b:Nat):Bool:=iD (a+1) b
def cX{a b:Nat}(h:nb a b=true):a=b:=of_decide_eq_true h
@[simp] theorem jQ(a:Nat):nb a a=true:=decide_eq_true rfl
@[simp] theorem Q2{a b:Nat}:(nb a b=true)=(a=b):=propext ⟨cX,λh=>decide_eq_true h⟩
def dX{a b:Nat}(h:iD a b=true):a<=b:=of_decide_eq_true h
inductive D where
 |int (n:Int)|bool (b:Bool)|str (s:List UInt8)|list (rows:List (List D))|nil|ptr (cs:List D)
 deriving Inhabited
inductive CK where
 |int (k:IntKind)|bool|str|slice (e:TypeId)|ptr (t:TypeId)|map (t e:TypeId)|fn|ik
 deriving DecidableEq,Inhabited
structure TI where
 agg:Bool
 bP:List CK
 fs:List (Nat×TypeId)
 el:TypeId
 ar:Nat
 bytes:Nat
 Db:Bool:=false
 UW:Option Nat:=none
 UT:List (Nat×IntKind×List Int):=[]
 P9:Bool:=false
 deriving Inhabited
inductive PV where
 |undef
 |int (k:IntKind) (n:Int)
 |bl (b:Bool)
 |bool (b:Bool)
 |str (s:List UInt8)
 |lst (e:TypeId) (d:D)
 |om (e:TypeId) (d:D)
 |agg (cs:List PV)
 |tup (vs:List PV)
 |box (b off:Nat)
 |row (e:TypeId) (r:Nat)
 |fM (e:TypeId) (r:Nat) (i:Int) (off:Nat)
 |jv (e:TypeId) (d:D) (i:Int) (off:Nat)
 |du (cs:List PV) (off:Nat)
 |dptr (t:TypeId) (d:D)
 |rP (t:TypeId) (d:D) (off:Nat)
 |cu (f:FuncId) (gU:List PV)
 |nilp|nilm|nilf|lj
 |mp (m:Nat)
 |dmp (e:TypeId) (d:D)
 |it (i:Nat)
 |kF (i:Nat)
 deriving Inhabited
abbrev cS:=List (Nat×PV)
def look:cS->Nat->PV
 |[],_=>.undef
 |(k,v)::r,n=>(match nb k n with|true=>(v)|false=>(look r n))
def jt(k:Nat)(v:PV)(r:cS)(n:Nat):look ((k,v)::r) n=if k=n then v else look r n:=by
 simp only[look];cases h:nb k n with
 |true=>rw[if_pos (cX h)]
 |false=>rw[if_neg (λe=>by rw[<- Q2,h]at e;cases e)]
inductive LS where
 |ready|busy|done (c:Code)
inductive Ob where
 |box (cs:List PV)
 |row (e:TypeId) (d:D) (wr:Bool)
 |map (kc:CK) (e:TypeId) (d:D)
 |iter (m:Nat) (seen:D)
 |diter (e:TypeId) (d seen:D)
 |loop (n:Nat) (ps:List Nat) (assign body:Code) (s:cS) (j:LS)
 |dead
 deriving Inhabited
inductive RI where
 |box (b:Nat)|row0|row (g o len cap:Nat)|map (b:Nat) (borns:List Nat) (clock:Nat)|iter (b:Nat)|loop (b:Nat)
 deriving Inhabited
def RI.cZ :RI->Option Nat
 | .box b| .row b _ _ _| .map b _ _| .iter b| .loop b=>some b
 | .row0=>none
def Ob.live:Ob->Bool
 | .dead=>false
 |_=>true
def zeroV:CK->Value
 | .int k=>.int k 0
 | .bool=>.bool false
 | .str=>.string ⟨#[]⟩
 | .slice _=>.slice none 0 0
 | .ptr _=>.pointer none
 | .map _ _=>.map none
 | .fn=>.nilFunc
 | .ik=>.nilFunc
def gT:CK->PV
 | .int k=>.int k 0
 | .bool=>.bl false
 | .str=>.str []
 | .slice e=>.lst e (.list [])
 | .ptr _=>.nilp
 | .map _ _=>.nilm
 | .fn=>.nilf
 | .ik=>.undef
def XI:Value->Value->Bool
 | .int _ a,.int _ b=>a==b
 | .bool a,.bool b=>a==b
 | .string a,.string b=>a.data.toList==b.data.toList
 |_,_=>false
def isScalar:CK->Value->Prop
 | .int k,v=>∃n,v= .int k n
 | .bool,v=>∃b,v= .bool b
 | .str,v=>∃s,v= .string s
 |_,_=>False
def GG:List Value->List Value->Bool
 |[],[]=>true
 |a::x,b::y=>bif XI a b then GG x y else false
 |_,_=>false
def KeyLaw(P:Program)(t:TypeId)(bP:List CK):Prop:=
 (∃fs,P.underlying t=some (.struct fs))/\∀(us vs:List Value)(w:World),us.length=bP.length->vs.length=bP.length->
   (∀(j:Nat) c u,bP[j]? =some c->us[j]? =some u->isScalar c u)->(∀(j:Nat) c u,bP[j]? =some c->vs[j]? =some u->isScalar c u)->
   (Op.equal t (.agg ⟨us⟩) (.agg ⟨vs⟩)).run P w= .ok (GG us vs) w/\∀b,(Instr.checkKey b 10000 t (.agg ⟨us⟩)).run P w= .ok () w
structure jl (P:Program) (t:TypeId) (ti:TI):Prop where
 info:∃(i:TypeInfo) (z:Value) (d:TypeDesc),P.info? t=some i/\i.size=ti.bP.length/\i.bytes=ti.bytes/\i.zero=some z/\z.cells.toList=ti.bP.map zeroV/\
  ((ti.agg=true->∃cs,z= .agg cs)/\(ti.agg=false->z.cells= #[z]))/\P.underlying t=some d/\
  (match d with
   | .struct fields=>ti.agg=true/\(∀f:Nat,(fields[f]?).map (λ(x:Go.Field)=>(x.offset,x.type))=ti.fs[f]?)/\(∃pl,fields.toList.mapM (λ(f:Go.Field)=>(P.info? f.type).map λi=>(f.offset,i.size))=some pl)
   | .array n e=>ti.agg=true/\ti.ar=n+1/\ti.el=e/\ti.fs=[]
   | .slice e=>ti.agg=false/\ti.bP=[.slice e]/\ti.el=e/\ti.fs=[]
   | .int k=>ti.agg=false/\ti.bP=[.int k]/\ti.fs=[]
   | .bool=>ti.agg=false/\ti.bP=[.bool]/\ti.fs=[]
   | .string=>ti.agg=false/\ti.bP=[.str]/\ti.fs=[]
   | .pointer e=>ti.agg=false/\ti.bP=[.ptr e]/\ti.fs=[]
   | .map k e=>ti.agg=false/\ti.bP=[.map t e]/\ti.ar=k+1/\ti.el=e/\ti.fs=[]
   | .func _ _ _=>ti.agg=false/\ti.bP=[.fn]/\ti.fs=[]
   |_=>False)
 eqs:ti.Db=true->ti.agg=true/\KeyLaw P t ti.bP
 arr:ti.agg=true->ti.ar≠0->∃n e,P.underlying t=some (.array n e)
def ez(P:Program)(tt:TypeId->Option TI):Prop:=∀t ti,tt t=some ti->jl P t ti
def bN(tt:TypeId->Option TI)(t:TypeId):List CK:=match tt t with|some ti=>ti.bP|none=>[]
abbrev fQ:=Addr->Value->Prop
def PZ(x:MapEntry):Value:=.agg #[x.key,x.val,.int .i64 x.born]
def Fv(es:Array MapEntry)(clock:Nat):Value:=.agg #[.int .i64 clock,.tuple (es.map PZ)]
def Nc{x y:MapEntry}(h:PZ x=PZ y):x=y:=by cases x;cases y;simp[PZ]at h;obtain⟨h1,h2,h3⟩:=h;have h3:_:=AJ h3;subst h1 h2 h3;rfl
def Nb{es b:Array MapEntry}{c d:Nat}(h:Fv es c=Fv b d):es=b/\c=d:=by
 simp[Fv]at h;obtain⟨h1,h2⟩:=h;refine⟨?_,AJ h1⟩;apply QJ
 ·have:=congrArg Oe h2;simpa using this
 ·intro i f e;have:=congrArg (λa:Array Value=>a[i]?) h2;simp[f,e]at this;exact Nc this
def pc(w:World)(ad:Addr):Option Value:=match w.heap[ad.block]? with
 |some (.cells c _ _)=>if ad.spot=some 1 then some (.int .i64 c.size)else if ad.spot.isSome then none else c[ad.off]?
 |some (.map es clock)=>if ad.spot=some 0 then some (Fv es clock)else none
 |_=>none
def ia{w w':World}{ad:Addr}(h:w'.heap[ad.block]? =w.heap[ad.block]?):pc w' ad=pc w ad:=by unfold pc;rw[h]
def px{w:World}{b o:Nat}:pc w ⟨b,o,none⟩=w.cell? ⟨b,o,none⟩:=by
 unfold pc World.cell?;cases w.heap[b]? with
 |none=>rfl
 |some x=>cases x<;>simp
def gm{w:World}{ad:Addr}{v:Value}(h:w.cell? ad=some v):pc w ad=some v:=by
 unfold pc;unfold World.cell? at h;cases a:w.heap[ad.block]? with
 |none=>rw[a]at h;simp at h
 |some x=>rw[a]at h;cases x<;>simp_all
def yu{w:World}{ad:Addr}{v:Value}(h:pc w ad=some v):ad.block<w.heap.size:=by
 rcases bR ad.block w.heap.size with a|a
 ·exact a
 ·unfold pc at h;rw[cR a]at h;simp at h
def L5{w:World}{ad:Addr}{v:Value}{c:Array Value}{T:TypeId}{f:Nat×Nat}(h:pc w ad=some v)(hc:w.heap[ad.block]? =some (.cells c T f))(hs:ad.spot≠some 1):w.cell? ad=some v:=by unfold pc at h;unfold World.cell?;rw[hc]at h ⊢;simp only[if_neg hs]at h;exact h
def Pd{w w':World}{ad:Addr}{v:Value}{c b:Array Value}{T d:TypeId}{f f':Nat×Nat}(h:pc w ad=some v)(hc:w.heap[ad.block]? =some (.cells c T f))(a:w'.heap[ad.block]? =some (.cells b d f'))(he:b.size=c.size)(hs:ad.spot=some 1):pc w' ad=some v:=by unfold pc at h ⊢;rw[hc]at h;rw[a];simp only[if_pos hs]at h ⊢;rw[he];exact h
inductive RD (tt:TypeId->Option TI) (Pp:fQ):CK->Value->D->Prop
 |int (k n):RD tt Pp (.int k) (.int k n) (.int n)
 |bool (b):RD tt Pp .bool (.bool b) (.bool b)
 |str (b:ByteArray):RD tt Pp .str (.string b) (.str b.data.toList)
 |slnil (e):RD tt Pp (.slice e) (.slice none 0 0) (.list [])
 |Gy (e) (ad:Addr):RD tt Pp (.slice e) (.slice (some ad) 0 0) (.list [])
 |sl (e:TypeId) (b o len cap:Nat) (rows:List (List D)) (vf:Nat->Nat->Value) (hl:rows.length=len) (hc:len<=cap)
  (dN:∀(i:Nat)(row:List D),rows[i]? =some row->row.length=(bN tt e).length)
  (hV:∀i j,i<len->j<(bN tt e).length->Pp ⟨b,o+i*(bN tt e).length+j,none⟩ (vf i j))
  (iK:∀(i j:Nat)(row:List D)(d:D)(ck:CK),rows[i]? =some row->row[j]? =some d->(bN tt e)[j]? =some ck->RD tt Pp ck (vf i j) d):
  RD tt Pp (.slice e) (.slice (some ⟨b,o,none⟩) len cap) (.list rows)
 |Ap (t):RD tt Pp (.ptr t) (.pointer none) .nil
 |CP (t e):RD tt Pp (.map t e) (.map none) .nil
 |Kb (t e:TypeId) (b:Nat) (es:Array MapEntry) (clock:Nat) (rows:List (List D)) (hl:es.toList.length=rows.length)
  (hV:Pp ⟨b,0,some 0⟩ (Fv es clock))
  (hk:∀(i:Nat)(x:MapEntry)(row:List D),es.toList[i]? =some x->rows[i]? =some row->∃(s:ByteArray) (vd:List D),x.key= .string s/\row= .str s.data.toList::vd/\vd.length=(bN tt e).length/\
    x.val.cells.toList.length=vd.length/\(∀ti,tt e=some ti->(ti.agg=true->∃cs,x.val= .agg cs)/\(ti.agg=false->x.val.cells= #[x.val])))
  (gx:(es.toList.map (·.born)).Nodup) (dA:∀x,x∈es.toList.map (·.born)->x<clock)
  (iK:∀(i j:Nat)(x:MapEntry)(row:List D)(d:D)(ck:CK)(v:Value),es.toList[i]? =some x->rows[i]? =some row->row[j+1]? =some d->(bN tt e)[j]? =some ck->x.val.cells.toList[j]? =some v->RD tt Pp ck v d):
  RD tt Pp (.map t e) (.map (some b)) (.list rows)
 |M3:RD tt Pp .fn .nilFunc .nil
 |PH:RD tt Pp .ik .nilFunc .nil
 |ptr (t:TypeId) (b o:Nat) (cs:List D) (vf:Nat->Value) (hl:cs.length=(bN tt t).length)
  (hV:∀j,j<(bN tt t).length->Pp ⟨b,o+j,none⟩ (vf j))
  (iK:∀(j:Nat)(d:D)(ck:CK),cs[j]? =some d->(bN tt t)[j]? =some ck->RD tt Pp ck (vf j) d):
  RD tt Pp (.ptr t) (.pointer (some ⟨b,o,none⟩)) (.ptr cs)
def RD.mono{tt:TypeId->Option TI}{Pp Pp':fQ}(h:∀a v,Pp a v->Pp' a v){ck:CK}{v:Value}{d:D}(hr:RD tt Pp ck v d):RD tt Pp' ck v d:=by
 induction hr with
 |int k n=>exact .int k n
 |bool b=>exact .bool b
 |str b=>exact .str b
 |slnil e=>exact .slnil e
 |Gy e ad=>exact .Gy e ad
 |sl e b o len cap rows vf hl hc dN hV _ c=>exact .sl e b o len cap rows vf hl hc dN (λi j a b=>h _ _ (hV i j a b)) c
 |Ap t=>exact .Ap t
 |CP t e=>exact .CP t e
 |Kb t e b es clock rows hl hV hk gx dA _ c=>exact .Kb t e b es clock rows hl (h _ _ hV) hk gx dA c
 |M3=>exact .M3
 |PH=>exact .PH
 |ptr t b o cs vf hl hV _ c=>exact .ptr t b o cs vf hl (λj a=>h _ _ (hV j a)) c
abbrev kB:Nat:=1000000
abbrev dC:Nat:=1000003
def nz(v:Value)(f:Nat)(vs:List Value):Prop:=(f<kB->v= .func (.func f) #[] ⟨vs⟩)/\(kB<=f->v= .func (.func (f-kB)) ⟨vs⟩ #[])
def qF(v:Value)(b o off n:Nat):Prop:=(off≠dC->v= .pointer (some ⟨b,o+off,none⟩))/\(off=dC->v= .slice (some ⟨b,o,none⟩) n n)
def FG(v:Value)(b off:Nat):Prop:=(off<=dC->v= .pointer (some ⟨b,off,none⟩))/\(∀n,off=dC+1+n->v= .slice (some ⟨b,0,none⟩) n n)
def x7(u:Value)(S:Nat)(i:Int)(off g o len cap:Nat):Prop:=
 (off≠dC->u= .pointer (some ⟨g,o+i.toNat*S+off,none⟩)/\i<len)/\
 (off=dC->(∃a,u= .slice (some ⟨g,a,none⟩) (len-i.toNat) (cap-i.toNat)/\(a=o+i.toNat*S\/len=i.toNat))/\i<=len)
section
variable (tt:TypeId->Option TI) (E:List RI) (Pp:fQ)
mutual
inductive VR:Value->PV->Prop
 |undef (v):VR v .undef
 |int (k n):VR (.int k n) (.int k n)
 |bl (b):VR (.bool b) (.bl b)
 |bool (b):VR (.bool b) (.bool b)
 |str (b:ByteArray):VR (.string b) (.str b.data.toList)
 |lst (e v d) (h:RD tt Pp (.slice e) v d):VR v (.lst e d)
 |om (e a n d) (h:RD tt Pp (.slice e) (.slice a n n) d):VR (.slice a n n) (.om e d)
 |agg (vs cs) (h:eM vs cs):VR (.agg ⟨vs⟩) (.agg cs)
 |tup (vs cs) (h:eM vs cs):VR (.tuple ⟨vs⟩) (.tup cs)
 |box (u b off gu) (h:E[b]? =some (.box gu)) (hu:FG u gu off):VR u (.box b off)
 |row0 (e r) (h:E[r]? =some .row0):VR (.slice none 0 0) (.row e r)
 |row (e r g o len cap) (h:E[r]? =some (.row g o len cap)):VR (.slice (some ⟨g,o,none⟩) len cap) (.row e r)
 |fM (u:Value) (e:TypeId) (r:Nat) (i:Int) (off g o len cap:Nat) (h:E[r]? =some (.row g o len cap)) (h0:0<=i) (h1:x7 u (bN tt e).length i off g o len cap):
  VR u (.fM e r i off)
 |jv (e:TypeId) (d:D) (i:Int) (off b o len cap:Nat) (h:RD tt Pp (.slice e) (.slice (some ⟨b,o,none⟩) len cap) d) (h0:0<=i) (h1:i<len):
  VR (.pointer (some ⟨b,o+i.toNat*(bN tt e).length+off,none⟩)) (.jv e d i off)
 |du (u vs cs off b o) (hu:qF u b o off vs.length) (h:eM vs cs) (hV:∀(j:Nat) v,vs[j]? =some v->Pp ⟨b,o+j,none⟩ v):VR u (.du cs off)
 |dptr (t v d) (h:RD tt Pp (.ptr t) v d):VR v (.dptr t d)
 |rP (t d off b o) (h:RD tt Pp (.ptr t) (.pointer (some ⟨b,o,none⟩)) d):VR (.pointer (some ⟨b,o+off,none⟩)) (.rP t d off)
 |cu (u f vs cs) (hu:nz u f vs) (h:eM vs cs):VR u (.cu f cs)
 |nilp:VR (.pointer none) .nilp
 |nilm:VR (.map none) .nilm
 |lj:VR (.slice none 0 0) .lj
 |nilf:VR .nilFunc .nilf
 |mp (m b bs cl) (h:E[m]? =some (.map b bs cl)):VR (.map (some b)) (.mp m)
 |dmp (t e v d) (h:RD tt Pp (.map t e) v d):VR v (.dmp e d)
 |it (i b) (h:E[i]? =some (.iter b)):VR (.pointer (some ⟨b,0,none⟩)) (.it i)
 |kF (i b) (h:E[i]? =some (.loop b)):VR (.func (.yield b) #[] #[]) (.kF i)
inductive eM:List Value->List PV->Prop
 |nil:eM [] []
 |cons (v p vs ps) (h:VR v p) (t:eM vs ps):eM (v::vs) (p::ps)
end
end
variable {E':List RI}{Pp':fQ}{S:Nat}
def nz.fn{v:Value}{f:Nat}{vs:List Value}(h:nz v f vs):∃g a c,v= .func g a c:=by
 rcases bR f kB with hb|hb
 ·exact⟨_,_,_,h.1 hb⟩
 ·exact⟨_,_,_,h.2 hb⟩
def nz.mk{f:Nat}{vs:List Value}(h:iC f kB=true):nz (.func (.func f) #[] ⟨vs⟩) f vs:=⟨λ_=>rfl,λa=>by have:=dX h;omega⟩
def nz.get{v:Value}{f:Nat}{vs:List Value}(h:nz v f vs)(hf:iC f kB=true):v= .func (.func f) #[] ⟨vs⟩:=h.1 (dX hf)
def nz.gr{f:Nat}{vs:List Value}:nz (.func (.func f) ⟨vs⟩ #[]) (f+kB) vs:=⟨λa=>yO,λ_=>yS⟩
def nz.YB{v:Value}{f:Nat}{vs:List Value}(h:nz v f vs)(hf:iC f kB=false):v= .func (.func (f-kB)) ⟨vs⟩ #[]:=h.2 (by
 rcases bR f kB with a|a
 ·have:iC f kB=true:=decide_eq_true a;rw[this]at hf;cases hf
 ·exact a)
def FG.mk{b off:Nat}(h:iD off dC=true):FG (.pointer (some ⟨b,off,none⟩)) b off:=⟨λ_=>rfl,λn a=>by have:=dX h;omega⟩
def FG.get{v:Value}{b off:Nat}(h:FG v b off)(hf:iD off dC=true):v= .pointer (some ⟨b,off,none⟩):=h.1 (dX hf)
def FG.slc{b n:Nat}:FG (.slice (some ⟨b,0,none⟩) n n) b (dC+1+n):=⟨λa=>yO,λm a=>by rw[show m=n by omega]⟩
def x7.mk{g o i' off len cap:Nat}{i:Int}(a:i'=i.toNat)(h:nb off dC=false)(h1:i<len):x7 (.pointer (some ⟨g,o+i'*S+off,none⟩)) S i off g o len cap:=⟨λ_=>⟨by rw[a],h1⟩,λb=>by rw[b,jQ]at h;cases h⟩
def x7.get{u:Value}{g o off len cap:Nat}{i:Int}(h:x7 u S i off g o len cap)(hf:nb off dC=false):u= .pointer (some ⟨g,o+i.toNat*S+off,none⟩)/\i<len:=h.1 (λa=>by rw[a,jQ]at hf;cases hf)
def x7.M0{u:Value}{g o len cap:Nat}{i:Int}(h:x7 u S i dC g o len cap):(∃a,u= .slice (some ⟨g,a,none⟩) (len-i.toNat) (cap-i.toNat)/\(a=o+i.toNat*S\/len=i.toNat))/\i<=len:=h.2 rfl
def qF.mk{b o off n:Nat}(h:nb off dC=false):qF (.pointer (some ⟨b,o+off,none⟩)) b o off n:=⟨λ_=>rfl,λa=>by rw[a,jQ]at h;cases h⟩
def qF.get{v:Value}{b o off n:Nat}(h:qF v b o off n)(hf:nb off dC=false):v= .pointer (some ⟨b,o+off,none⟩):=h.1 (λa=>by rw[a,jQ]at hf;cases hf)
def qF.M0{v:Value}{b o n:Nat}(h:qF v b o dC n):v= .slice (some ⟨b,o,none⟩) n n:=h.2 rfl
def eM.length {tt E Pp vs ps} (h:eM tt E Pp vs ps):vs.length=ps.length:=by
 induction vs generalizing ps with
 |nil=>cases h;rfl
 |cons v vs a=>cases h with|cons _ _ _ _ _ t=>simp[a t]
def eM.get {tt E Pp vs ps} (h:eM tt E Pp vs ps) {j:Nat}{p:PV} (a:ps[j]? =some p):∃v,vs[j]? =some v/\VR tt E Pp v p:=by
 induction vs generalizing ps j with
 |nil=>cases h;simp at a
 |cons v vs c=>
  cases h with
  |cons _ q _ d b t=>
   cases j with
   |zero=>simp at a;subst a;exact⟨v,rfl,b⟩
   |succ j=>simp at a;simpa using c t a
def eM.append {tt E Pp vs ps us a} (h:eM tt E Pp vs ps) (k:eM tt E Pp us a):eM tt E Pp (vs++us) (ps++a):=by
 induction vs generalizing ps with
 |nil=>cases h;simpa
 |cons v vs b=>cases h with|cons _ _ _ _ c t=>exact .cons _ _ _ _ c (b t)
def eM.drop {tt E Pp vs ps} (h:eM tt E Pp vs ps) (n:Nat):eM tt E Pp (vs.drop n) (ps.drop n):=by
 induction n generalizing vs ps with
 |zero=>simpa
 |succ n a=>cases h with
  |nil=>exact .nil
  |cons _ _ _ _ _ t=>simpa using a t
def eM.take {tt E Pp vs ps} (h:eM tt E Pp vs ps) (n:Nat):eM tt E Pp (vs.take n) (ps.take n):=by
 induction n generalizing vs ps with
 |zero=>simp;exact .nil
 |succ n a=>cases h with
  |nil=>exact .nil
  |cons _ _ _ _ b t=>simpa using .cons _ _ _ _ b (a t)
def eM.mX {tt E Pp}:∀{vs:List Value}{ps:List PV},vs.length=ps.length->(∀(j:Nat) v p,vs[j]? =some v->ps[j]? =some p->VR tt E Pp v p)->eM tt E Pp vs ps
 |[],[],_,_=>.nil
 |v::vs,p::ps,hl,h=>.cons _ _ _ _ (h 0 v p rfl rfl) (eM.mX (yU hl) (λj v p a b=>h (j+1) v p (yU a) (yU b)))
 |[],_::_,hl,_=>yE hl
 |_::_,[],hl,_=>yE hl
def pM(E E':List RI):Prop:=∀(i:Nat) x,E[i]? =some x->E'[i]? =some x\/∃b n c n' a,x= .map b n c/\E'[i]? =some (.map b n' a)
def pM.of{E:List RI}(h:∀(i:Nat) x,E[i]? =some x->E'[i]? =some x):pM E E':=λi x a=>.inl (h i x a)
def pM.refl(E:List RI):pM E E:=.of λ_ _ h=>h
def pM.trans{E E2:List RI}(h:pM E E')(k:pM E' E2):pM E E2:=by
 intro i x a;rcases h i x a with h1|⟨b,n,c,n',d,rfl,h1⟩
 ·exact k i x h1
 ·rcases k i _ h1 with h2|⟨b2,f,c2,n3,c3,e,h2⟩
  ·exact .inr ⟨b,n,c,n',d,rfl,h2⟩
  ·cases e;exact .inr ⟨b,n,c,n3,c3,rfl,h2⟩
def pM.box{E:List RI}(h:pM E E'){i b:Nat}(a:E[i]? =some (.box b)):E'[i]? =some (.box b):=by
 rcases h i _ a with h|⟨_,_,_,_,_,h,_⟩
 ·exact h
 ·cases h
def pM.row0{E:List RI}(h:pM E E'){i:Nat}(a:E[i]? =some .row0):E'[i]? =some .row0:=by
 rcases h i _ a with h|⟨_,_,_,_,_,h,_⟩
 ·exact h
 ·cases h
def pM.row{E:List RI}(h:pM E E'){i g o l c:Nat}(a:E[i]? =some (.row g o l c)):E'[i]? =some (.row g o l c):=by
 rcases h i _ a with h|⟨_,_,_,_,_,h,_⟩
 ·exact h
 ·cases h
def pM.iter{E:List RI}(h:pM E E'){i b:Nat}(a:E[i]? =some (.iter b)):E'[i]? =some (.iter b):=by
 rcases h i _ a with h|⟨_,_,_,_,_,h,_⟩
 ·exact h
 ·cases h
def pM.loop{E:List RI}(h:pM E E'){i b:Nat}(a:E[i]? =some (.loop b)):E'[i]? =some (.loop b):=by
 rcases h i _ a with h|⟨_,_,_,_,_,h,_⟩
 ·exact h
 ·cases h
def pM.map{E:List RI}(h:pM E E'){i b:Nat}{n:List Nat}{c:Nat}(a:E[i]? =some (.map b n c)):∃n' e,E'[i]? =some (.map b n' e):=by
 rcases h i _ a with h|⟨_,_,_,_,_,h,d⟩
 ·exact⟨_,_,h⟩
 ·cases h;exact⟨_,_,d⟩
def VR.gq{tt:TypeId->Option TI}{E:List RI}{Pp:fQ}(d:pM E E')(h:∀a v,Pp a v->Pp' a v):
 (∀{v p},VR tt E Pp v p->VR tt E' Pp' v p)/\(∀{vs ps},eM tt E Pp vs ps->eM tt E' Pp' vs ps):=by
 have key:∀n:Nat,(∀{v:Value}{p:PV},pe p<=n->VR tt E Pp v p->VR tt E' Pp' v p)/\(∀{vs:List Value}{ps:List PV},pe ps<=n->eM tt E Pp vs ps->eM tt E' Pp' vs ps):=by
  intro n;induction n with
  |zero=>
   refine⟨λ{v p} hs _=>?_,λ{vs ps} hs _=>?_⟩
   ·cases p<;>simp at hs<;>omega
   ·cases ps<;>simp at hs<;>omega
  |succ n e=>
   refine⟨λ{v p} hs c=>?_,λ{vs ps} hs c=>?_⟩
   ·cases c with
    |undef=>exact .undef _
    |int=>exact .int _ _
    |bl=>exact .bl _
    |bool=>exact .bool _
    |str=>exact .str _
    |lst _ _ _ hr=>exact .lst _ _ _ (hr.mono h)
    |om _ _ _ _ hr=>exact .om _ _ _ _ (hr.mono h)
    |agg vs cs hl=>simp at hs;exact .agg _ _ (e.2 yO hl)
    |tup vs cs hl=>simp at hs;exact .tup _ _ (e.2 yO hl)
    |box _ _ _ _ hb hu=>exact .box _ _ _ _ (d.box hb) hu
    |row0 _ _ hb=>exact .row0 _ _ (d.row0 hb)
    |row _ _ _ _ _ _ hb=>exact .row _ _ _ _ _ _ (d.row hb)
    |fM _ _ _ _ _ _ _ _ _ hb h0 h1=>exact .fM _ _ _ _ _ _ _ _ _ (d.row hb) h0 h1
    |jv _ _ _ _ _ _ _ _ hr h0 h1=>exact .jv _ _ _ _ _ _ _ _ (hr.mono h) h0 h1
    |du u vs cs off b o hu hl hV=>simp at hs;exact .du _ _ _ _ _ _ hu (e.2 yO hl) (λj v i=>h _ _ (hV j v i))
    |dptr _ _ _ hr=>exact .dptr _ _ _ (hr.mono h)
    |rP _ _ _ _ _ hr=>exact .rP _ _ _ _ _ (hr.mono h)
    |cu u f vs cs hu hl=>simp at hs;exact .cu _ _ _ _ hu (e.2 yO hl)
    |nilp=>exact .nilp
    |nilm=>exact .nilm
    |lj=>exact .lj
    |nilf=>exact .nilf
    |mp _ _ _ _ hb=>obtain⟨_,_,g⟩:=d.map hb;exact .mp _ _ _ _ g
    |dmp _ _ _ _ hr=>exact .dmp _ _ _ _ (hr.mono h)
    |it _ _ hb=>exact .it _ _ (d.iter hb)
    |kF _ _ hb=>exact .kF _ _ (d.loop hb)
   ·cases c with
    |nil=>exact .nil
    |cons _ _ _ _ c k=>simp at hs;exact .cons _ _ _ _ (e.1 yO c) (e.2 yO k)
 exact⟨λ{v p} c=>(key _).1 (bX _) c,λ{vs ps} c=>(key _).2 (bX _) c⟩
def VR.mono{tt:TypeId->Option TI}{E:List RI}{Pp:fQ}(b:∀(i:Nat) x,E[i]? =some x->E'[i]? =some x)(h:∀a v,Pp a v->Pp' a v) {v p} (c:VR tt E Pp v p):VR tt E' Pp' v p:=(VR.gq (pM.of b) h).1 c
def eM.mono{tt:TypeId->Option TI}{E:List RI}{Pp:fQ}(b:∀(i:Nat) x,E[i]? =some x->E'[i]? =some x)(h:∀a v,Pp a v->Pp' a v) {v p} (c:eM tt E Pp v p):eM tt E' Pp' v p:=(VR.gq (pM.of b) h).2 c
def N4(Pp:fQ)(b:Nat):Prop:=∀ad v,Pp ad v->ad.block≠b
def wR(tt:TypeId->Option TI)(Pp:fQ)(e:TypeId)(vs:List Value)(o:Nat)(rows:List (List D)):Prop:=
 ∀(i:Nat)(row:List D),rows[i]? =some row->row.length=(bN tt e).length/\
  ∀(j:Nat)(d:D)(ck:CK),row[j]? =some d->(bN tt e)[j]? =some ck->∃v,vs[o+i*(bN tt e).length+j]? =some v/\RD tt Pp ck v d
def KD(tt:TypeId->Option TI)(Pp:fQ)(kc:CK)(v:Value)(d:D):Prop:=(kc≠ .ik/\RD tt Pp kc v d)\/(kc= .ik/\∃a b:ByteArray,v= .agg ⟨[.string a,.string b]⟩/\d= .ptr [.str a.data.toList,.str b.data.toList])
def KD.mono{tt:TypeId->Option TI}{Pp:fQ}(h:∀a v,Pp a v->Pp' a v){ck:CK}{v:Value}{d:D}(hr:KD tt Pp ck v d):KD tt Pp' ck v d:=hr.imp (And.imp id (RD.mono h)) id
def uK(tt:TypeId->Option TI)(Pp:fQ)(kc:CK)(e:TypeId)(x:MapEntry)(row:List D):Prop:=
 ∃(kd:D) (vd:List D),row=kd::vd/\KD tt Pp kc x.key kd/\vd.length=(bN tt e).length/\x.val.cells.toList.length=vd.length/\
  (∀(j:Nat)(d:D)(ck:CK)(v:Value),vd[j]? =some d->(bN tt e)[j]? =some ck->x.val.cells.toList[j]? =some v->RD tt Pp ck v d)/\
  (∀ti,tt e=some ti->(ti.agg=true->∃cs,x.val= .agg cs)/\(ti.agg=false->x.val.cells= #[x.val]))
structure F2 (tt:TypeId->Option TI) (Pp:fQ) (e:TypeId) (b:Nat) (es:Array MapEntry) (clock:Nat) (rows:List (List D)):Prop where
 hV:Pp ⟨b,0,some 0⟩ (Fv es clock)
 len:es.toList.length=rows.length
 Rf:∀(i:Nat)(x:MapEntry)(row:List D),es.toList[i]? =some x->rows[i]? =some row->uK tt Pp .str e x row
 nd:(es.toList.map (·.born)).Nodup
 lt:∀x,x∈es.toList.map (·.born)->x<clock
def F2.mono{tt:TypeId->Option TI}{Pp:fQ}(h:∀a v,Pp a v->Pp' a v){e:TypeId}{b:Nat}{es:Array MapEntry}{clock:Nat}{rows:List (List D)}(m:F2 tt Pp e b es clock rows):F2 tt Pp' e b es clock rows:=by refine⟨h _ _ m.hV,m.len,λi x row h1 h2=>?_,m.nd,m.lt⟩;obtain⟨kd,vd,e1,e2,e3,e4,e5,e6⟩:=m.Rf i x row h1 h2;exact⟨kd,vd,e1,e2.mono h,e3,e4,λj d ck v a b c=>(e5 j d ck v a b c).mono h,e6⟩
def RD.rH{tt:TypeId->Option TI}{Pp:fQ}{t e:TypeId}{v:Value}{d:D}(h:RD tt Pp (.map t e) v d):
 (v= .map none/\d= .nil)\/∃b es clock rows,v= .map (some b)/\d= .list rows/\F2 tt Pp e b es clock rows:=by
 cases h with
 |CP=>exact .inl ⟨rfl,rfl⟩
 |Kb _ _ b es clock rows hl hV hk gx dA iK=>refine .inr ⟨b,es,clock,rows,rfl,rfl,hV,hl,λi x row h1 h2=>?_,gx,dA⟩;obtain⟨s,vd,e1,e2,e3,e4,e5⟩:=hk i x row h1 h2;refine⟨_,vd,e2,.inl ⟨yS,by rw[e1];exact .str s⟩,e3,e4,λj d ck v a b c=>iK i j x row d ck v h1 h2 (by rw[e2];simpa using a) b c,e5⟩
def F2.rd{tt:TypeId->Option TI}{Pp:fQ}{e:TypeId}{b:Nat}{es:Array MapEntry}{clock:Nat}{rows:List (List D)}(m:F2 tt Pp e b es clock rows)(t:TypeId):RD tt Pp (.map t e) (.map (some b)) (.list rows):=by
 refine .Kb t e b es clock rows m.len m.hV (λi x row h1 h2=>?_) m.nd m.lt (λi j x row d ck v h1 h2 h3 h4 h5=>?_)
 ·obtain⟨kd,vd,e1,e2,e3,e4,_,e6⟩:=m.Rf i x row h1 h2;rcases e2 with⟨_,e2⟩|⟨e2,_⟩
  ·generalize a:x.key=c at e2;cases e2 with
   |str s=>exact⟨s,vd,rfl,e1,e3,e4,e6⟩
  ·cases e2
 ·obtain⟨kd,vd,e1,_,_,_,e5,_⟩:=m.Rf i x row h1 h2;exact e5 j d ck v (by rw[e1]at h3;simpa using h3) h4 h5
def CG{w:World}{b:Nat}{es:Array MapEntry}{clock:Nat}(h:pc w ⟨b,0,some 0⟩=some (Fv es clock)):w.heap[b]? =some (.map es clock):=by
 unfold pc at h;cases d:w.heap[b]? with
 |none=>simp only[d]at h;cases h
 |some x=>
  simp only[d]at h;cases x with
  |map e a=>simp at h;obtain⟨h1,h2⟩:=Nb h;rw[h1,h2]
  |cells c _ _=>simp at h
  |_=>simp at h
def WT(j:LS)(s:LoopState)(p:Option Code):Prop:=match j with| .ready=>s= .ready/\p=none| .busy=>s= .busy| .done c=>s= .done/\p=some c
def Rk(j:LS)(s:LoopState):Prop:=match j with| .ready=>s= .ready| .busy=>s= .busy| .done _=>False
structure To (n:Nat) (ps:List Nat) (c1 c2:Code) (j:LS) (r:Loop):Prop where
 size:r.tmps.size=n
 params:r.params.toList=ps
 assign:r.assign=c1
 body:r.body=c2
 state:WT j r.state r.pending
def pt:PV->Bool
 | .nilp=>true
 | .box _ _=>true
 |_=>false
def nY:List PV->Bool
 |[p,_]=>pt p
 |_=>false
def rk(tt:TypeId->Option TI)(T:TypeId)(cs:List PV):Prop:=nY cs=true->∃ti,tt T=some ti/\ti.P9=true
def Sj:List MapEntry->List Value
 |[]=>[]
 |x::es=>x.key::x.val::Sj es
def OR(tt:TypeId->Option TI)(E:List RI)(Pp:fQ)(w:World):RI->Ob->Prop
 | .box b,.box cs=>∃(vs:List Value) (T:TypeId),w.heap[b]? =some (.cells ⟨vs⟩ T (0,0))/\eM tt E Pp vs cs/\N4 Pp b/\rk tt T cs
 | .row0,.row _ d _=>d= .list []
 | .row g o len cap,.row e d wr=>∃(vs:List Value) (_:TypeId) (rows:List (List D)),w.heap[g]? =some (.cells ⟨vs⟩ e (0,0))/\d= .list rows/\rows.length=len/\len<=cap/\o+cap*(bN tt e).length<=vs.length/\
  wR tt Pp e vs o rows/\(wr=true->N4 Pp g)/\
  (wr=false->(∀(i j:Nat)(v:Value),i<len->j<(bN tt e).length->vs[o+i*(bN tt e).length+j]? =some v->Pp ⟨g,o+i*(bN tt e).length+j,none⟩ v)/\
    ∀ad v,Pp ad v->ad.block=g->cap=0\/ad.off<o+len*(bN tt e).length)
 | .map b borns clock,.map kc e d=>∃(es:Array MapEntry) (rows:List (List D)),w.heap[b]? =some (.map es clock)/\d= .list rows/\es.toList.length=rows.length/\
  (∀(i:Nat)(x:MapEntry)(row:List D),es.toList[i]? =some x->rows[i]? =some row->uK tt Pp kc e x row)/\
  es.toList.map (·.born)=borns/\borns.Nodup/\(∀x,x∈borns->x<clock)/\N4 Pp b
 | .map b borns clock,.box cs=>∃(es:Array MapEntry),w.heap[b]? =some (.map es clock)/\eM tt E Pp (Sj es.toList) cs/\es.toList.map (·.born)=borns/\borns.Nodup/\(∀x,x∈borns->x<clock)/\N4 Pp b
 | .iter b,.iter m seen=>∃(c:Nat) (borns:List Nat) (clock:Nat) (a:List Nat),E[m]? =some (.map c borns clock)/\w.heap[b]? =some (.mapIter (some c) clock ⟨a.map (λ(j:Nat)=>borns.getD j 0)⟩ clock)/\
  seen= .list (a.map λ(j:Nat)=>[D.int (j:Int)])/\∀j,j∈a->j<borns.length
 | .iter b,.diter e d seen=>∃(a:List Nat),seen= .list (a.map λ(j:Nat)=>[D.int (j:Int)])/\
  ((d= .nil/\a=[]/\∃n f m,w.heap[b]? =some (.mapIter none n f m))\/
    ∃(c:Nat) (es:Array MapEntry) (clock:Nat) (rows:List (List D)),d= .list rows/\F2 tt Pp e c es clock rows/\
     w.heap[b]? =some (.mapIter (some c) clock ⟨a.map (λ(j:Nat)=>(es.toList.map (·.born)).getD j 0)⟩ clock)/\∀j,j∈a->j<rows.length)
 | .loop b,.loop n ps c1 c2 s j=>∃r:Loop,w.heap[b]? =some (.loop r)/\To n ps c1 c2 j r/\∀t,VR tt E Pp (r.tmps.getD t undef) (look s t)
 |_,_=>False
def vM(tt:TypeId->Option TI):Option Nat:=match tt 3 with|some ti=>ti.UW|none=>none
def vL(tt:TypeId->Option TI):List (Nat×IntKind×List Int):=match tt 3 with|some ti=>ti.UT|none=>[]
def SX(Pp:fQ)(g:Nat×IntKind×List Int):Prop:=Pp ⟨g.1,0,some 1⟩ (.int .i64 g.2.2.length)/\∀i z,g.2.2[i]? =some z->Pp ⟨g.1,i,none⟩ (.int g.2.1 z)
def N6(tt:TypeId->Option TI)(Pp:fQ):Prop:=(∀b,vM tt=some b->∃m:Int,Pp ⟨b,0,none⟩ (.int .i64 m))/\∀g,g∈vL tt->SX Pp g
def N6.mono{tt:TypeId->Option TI}{Pp:fQ}(h:N6 tt Pp)(a:∀ad v,Pp ad v->Pp' ad v):N6 tt Pp':=⟨λb hb=>(h.1 b hb).imp λ_ d=>a _ _ d,λg c=>⟨a _ _ (h.2 g c).1,λi z hz=>a _ _ ((h.2 g c).2 i z hz)⟩⟩
structure WR (tt:TypeId->Option TI) (E:List RI) (Pp:fQ) (objs:List Ob) (w:World):Prop where
 len:E.length=objs.length
 pi:∀ad v,Pp ad v->pc w ad=some v
 ob:∀(i:Nat) o,objs[i]? =some o->o.live=true->∃ri,E[i]? =some ri/\OR tt E Pp w ri o
 sep:∀(i j:Nat) oi oj ri rj b,objs[i]? =some oi->objs[j]? =some oj->oi.live=true->oj.live=true->E[i]? =some ri->E[j]? =some rj->
  ri.cZ =some b->rj.cZ =some b->i=j
 gl:N6 tt Pp
def WR.TX{tt:TypeId->Option TI}{E:List RI}{Pp:fQ}{objs:List Ob}{w:World}(h:WR tt E Pp objs w)(a:∀ad v,Pp ad v->Pp' ad v):N6 tt Pp':=h.gl.mono a
def WR.R7{tt:TypeId->Option TI}{E:List RI}{Pp:fQ}{objs:List Ob}{w:World}(h:WR tt E Pp objs w){b o:Nat}{v:Value}(a:Pp ⟨b,o,none⟩ v):w.cell? ⟨b,o,none⟩=some v:=by rw[<- px];exact h.pi _ _ a
def own(E:List RI)(objs:List Ob)(b:Nat):Prop:=∃(i:Nat) (o:Ob) (ri:RI),objs[i]? =some o/\o.live=true/\E[i]? =some ri/\ri.cZ =some b
structure pY where
 p:Prop
structure Fr [Inhabited pY] (own:Nat->Prop) (w0 w:World):Prop where
 os:w.os=w0.os
 tape:w.tape=w0.tape
 output:w.output=w0.output
 size:w0.heap.size<=w.heap.size
 drawn:(default:pY).p->w0.drawn<=w.drawn
 block:∀k,k<w0.heap.size->¬own k->w.heap[k]? =w0.heap[k]?
variable [Inhabited pY]
def Fr.refl(own:Nat->Prop)(w:World):Fr own w w:=⟨rfl,rfl,rfl,bX _,λ_=>bX _,λ_ _ _=>rfl⟩
def Fr.trans{e o2:Nat->Prop}{a b c:World}(h:Fr e a b)(k:Fr o2 b c)(i:∀x,x<a.heap.size->o2 x->e x):Fr e a c:=⟨k.os.trans h.os,k.tape.trans h.tape,k.output.trans h.output,bM h.size k.size,λf=>bM (h.drawn f) (k.drawn f),λx d g=>(k.block x (Nat.lt_of_lt_of_le d h.size) (λh2=>g (i x d h2))).trans (h.block x d g)⟩
end
section
variable [Inhabited pY]
structure pP where
 asInt:D->Int
 asBool:D->Bool
 bG:D->List UInt8
 len:D->Int
 cell:D->Int->Nat->D
 qI:D->Nat->D
 isNil:D->Bool
 add:Int->Int->Int
 sub:Int->Int->Int
 mul:Int->Int->Int
 quo:Int->Int->Int
 rem:Int->Int->Int
 wrap:IntKind->Int->Int
 eq:Int->Int->Bool
 lt:Int->Int->Bool
 le:Int->Int->Bool
 not:Bool->Bool
 ite:Bool->Bool->Bool->Bool
 beq:Bool->Bool->Bool
 seq:List UInt8->List UInt8->Bool
 slt:List UInt8->List UInt8->Bool
 fe:List UInt8->Int
 kM:List UInt8->List UInt8->List UInt8
 Ui:List UInt8->Int->Int->List UInt8
 Cv:List UInt8->Int->Int
 max:Int->Int->Int
 min:Int->Int->Int
 lit:List (List D)->D
 app:D->D->D
 part:D->Int->Int->D
 nK:D->Int->Nat->List D->D
 inr:IntKind->Int->Prop
 idx:Int->Int->Prop
 gr:Int->Int->Prop
 XM:Int->Prop
 same:Int->Int->Prop
 nh:D->D->Bool
 eY:D->D->Nat->D
 lM:D->D->List D->D
 G5:D->D->D
 n1:D->D->Prop
 qp:D->D->Int->Prop
 oe:D->Int->D
 last:D->Int
 XK:Int->List D->D
 sel:List Int->Int->Int
 aad:D->List UInt8
 OP:List UInt8->D
def V0:List D->Int
 | .int n::_=>n
 |_=>0
def cg:D->List (List D)
 | .list r=>r
 |_=>[]
def Ut:D->List D
 | .ptr r=>r
 |_=>[]
def nW:D->D->Bool
 | .int a,.int b=>a==b
 | .str a,.str b=>a==b
 | .bool a,.bool b=>a==b
 | .ptr [.str a,.str b],.ptr [.str c,.str d]=>a==c&&b==d
 |_,_=>false
def eP(k:D)(row:List D):Bool:=match row with|a::_=>nW k a|[]=>false
def iT(k:D)(vs:List D):List (List D)->List (List D)
 |[]=>[k::vs]
 |row::r=>if eP k row then(k::vs)::r else row::iT k vs r
@[reducible] def dS:pP where
 asInt d:=match d with| .int n=>n|_=>0
 asBool d:=match d with| .bool b=>b|_=>false
 bG d:=match d with| .str s=>s|_=>[]
 len d:=((cg d).length:Int)
 cell d i j:=((cg d).getD i.toNat []).getD j .nil
 qI d j:=(Ut d).getD j .nil
 isNil d:=match d with| .ptr _=>false|_=>true
 add a b:=a+b
 sub a b:=a-b
 mul a b:=a*b
 quo a b:=a.tdiv b
 rem a b:=a.tmod b
 wrap k a:=k.wrap a
 eq a b:=a==b
 lt a b:=decide (a<b)
 le a b:=decide (a<=b)
 not b:= !b
 ite c a b:=bif c then a else b
 beq a b:=a==b
 seq a b:=a==b
 slt a b:=Op.bytesLess a b
 fe s:=(s.length:Int)
 kM a b:=a++b
 Ui s lo hi:=(s.drop lo.toNat).take (hi.toNat-lo.toNat)
 Cv s i:=((s.getD i.toNat 0).toNat:Int)
 max a b:=if b>a then b else a
 min a b:=if b<a then b else a
 lit l:=.list l
 app a b:=.list (cg a++cg b)
 part d lo hi:=.list (((cg d).drop lo.toNat).take (hi.toNat-lo.toNat))
 nK d i off vs:=.list ((cg d).modify i.toNat λrow=>row.take off++vs++row.drop (off+vs.length))
 inr k n:=k.min<=n/\n<=k.max
 idx i n:=0<=i/\i<n
 gr a b:=0<=a/\a<=b
 XM a:=a≠0
 same a b:=a=b
 nh m k:=(cg m).any (eP k)
 eY m k j:=(((cg m).find? (eP k)).getD []).getD (j+1) .nil
 lM m k vs:=.list (iT k vs (cg m))
 G5 m k:=.list ((cg m).eraseP (eP k))
 n1 m s:=∀j:Nat,j<(cg m).length->[.int (j:Int)]∈cg s
 qp m s i:=0<=i/\i<((cg m).length:Int)/\[.int i]∉cg s
 oe s i:=.list (cg s++[[.int i]])
 XK n row:=.list (fb n.toNat row)
 sel l i:=l.getD i.toNat 0
 aad d:=(cg d).map λr=>kG (V0 r).toNat
 OP s:=.list (s.map λb=>[.int (b.toNat:Int)])
 last s:=match (cg s).getLast? with|some [.int i]=>i|_=>0
def IK:Value->PV
 | .int k n=>.int k n
 | .bool b=>.bl b
 | .string s=>.str s.data.toList
 | .pointer none=>.nilp
 | .map none=>.nilm
 | .nilFunc=>.nilf
 |_=>.undef
def lO:Operand->Bool
 | .const (.slice none 0 0)=>true
 |_=>false
def norm:PV->PV
 | .om e d=>.lst e d
 |p=>p
def ev(s:cS):Operand->PV
 | .tmp t=>norm (look s t)
 | .const v=>IK v
 | .global _=>.undef
 | .func f=>bif iC f kB then .cu f []else .undef
def SB(tt:TypeId->Option TI)(s:cS)(t:TypeId)(x:Operand):PV:=
 match x with
 | .const (.slice none 0 0)=>match tt t with|some ti=>.om ti.el (.list [])|none=>.undef
 | .tmp t=>look s t
 |x=>ev s x
def Nu(c:CK)(v:Value):PV:=match v with
 | .slice none 0 0=>(match c with| .slice e=>.lst e (.list [])|_=>.undef)
 |v=>IK v
def s9:List CK->List Value->Option (List PV)
 |[],[]=>some []
 |c::cs,v::vs=>(match s9 cs vs with|some l=>some (Nu c v::l)|none=>none)
 |_,_=>none
def fG(tt:TypeId->Option TI)(s:cS)(t:TypeId)(x:Operand):PV:=
 match x with
 | .const (.slice none 0 0)=>match tt t with|some ti=>.lst ti.el (.list [])|none=>.undef
 | .const (.agg vs)=>match tt t with
  |some ti=>(match s9 ti.bP vs.toList with|some l=>.agg l|none=>.undef)
  |none=>.undef
 |x=>ev s x
def bY{α:Type}:List α->Nat|[]=>0|_::l=>bY l+1
def cL{α:Type}(l:List α):bY l=l.length:=by induction l<;>simp[bY, *]
def eG:List Ob->Nat->Ob
 |[],_=>.dead|x::_,0=>x|_::xs,n+1=>eG xs n
def rO(l:List Ob)(n:Nat):eG l n=l.getD n .dead:=by
 induction l generalizing n with
 |nil=>simp[eG]
 |cons x xs a=>cases n<;>simp[eG,a]
def qw:Nat->List PV->List PV
 |0,_=>[]|_,[]=>[]|n+1,x::xs=>x::qw n xs
def tF(n:Nat)(l:List PV):qw n l=l.take n:=by
 induction n generalizing l with
 |zero=>simp[qw]
 |succ n a=>cases l<;>simp[qw,a]
def wL:Nat->List PV->List PV
 |0,l=>l|_,[]=>[]|n+1,_::xs=>wL n xs
def zM(n:Nat)(l:List PV):wL n l=l.drop n:=by
 induction n generalizing l with
 |zero=>simp[wL]
 |succ n a=>cases l<;>simp[wL,a]
def vN:List (Nat×TypeId)->Nat->Option (Nat×TypeId)
 |[],_=>none|x::_,0=>some x|_::xs,n+1=>vN xs n
def PO(l:List (Nat×TypeId))(n:Nat):vN l n=l[n]? :=by
 induction l generalizing n with
 |nil=>simp[vN]
 |cons x xs a=>cases n<;>simp[vN,a]
def Hj:List PV->Nat->PV
 |[],_=>.undef|x::_,0=>x|_::xs,n+1=>Hj xs n
def I5(l:List PV)(n:Nat):Hj l n=l.getD n .undef:=by
 induction l generalizing n with
 |nil=>simp[Hj]
 |cons x xs a=>cases n<;>simp[Hj,a]
def od:List PV->Nat->List PV->List PV
 |xs,_,[]=>xs
 |[],_,_=>[]
 |_::xs,0,y::ys=>y::od xs 0 ys
 |x::xs,n+1,y::ys=>x::od xs n (y::ys)
def flat:PV->List PV| .agg cs=>cs| .undef=>[]|v=>[v]
def eX(ti:TI)(l:List PV):PV:=bif ti.agg then .agg l else match l with|[x]=>x|_=>.undef
section
variable (A:pP) (tt:TypeId->Option TI)
def ta(c:CK)(d:D):PV:=match c with
 | .int k=>.int k (A.asInt d)| .bool=>.bool (A.asBool d)| .str=>.str (A.bG d)| .slice e=>.lst e d| .ptr t=>.dptr t d
 | .map _ e=>.dmp e d| .fn=>.undef
 | .ik=>.undef
def mr(c:CK)(d:D):PV:=match c with
 | .ik=>.agg [.str (A.bG (A.qI d 0)),.str (A.bG (A.qI d 1))]
 |c=>ta A c d
def qT(g:Nat->D):Nat->List CK->List PV
 |_,[]=>[]
 |j,c::cs=>ta A c (g j)::qT g (j+1) cs
def jS(d:D)(i:Int)(j:Nat)(cs:List CK):List PV:=qT A (A.cell d i) j cs
def yt(d:D)(j:Nat)(cs:List CK):List PV:=qT A (A.qI d) j cs
def ir(m k:D)(j:Nat)(cs:List CK):List PV:=qT A (A.eY m k) j cs
def eC(ti:TI):Option TypeId:=match ti.agg,ti.bP with|false,[.slice e]=>some e|_,_=>none
def isStr(ti:TI):Bool:=match ti.agg,ti.bP with|false,[.str]=>true|_,_=>false
def isMap(ti:TI):Bool:=match ti.agg,ti.bP with|false,[.map _ _]=>true|_,_=>false
def ug(ti:TI):Option IntKind:=match ti.agg,ti.bP with|false,[.int k]=>some k|_,_=>none
def Kw:List CK->List CK->Bool
 |[],[]=>true
 |a::x,b::y=>(decide (a=b))&&Kw x y
 |_,_=>false
def DU:Nat->List CK->List CK
 |0,_=>[]|_,[]=>[]|n+1,x::xs=>x::DU n xs
def Fw:Nat->List CK->List CK
 |0,l=>l|_,[]=>[]|n+1,_::xs=>Fw n xs
def ic(e:TypeId)(off:Nat)(cs:List CK):Bool:=Kw (DU (bY cs) (Fw off (bN tt e))) cs
def toD:PV->Option D
 | .int _ n=>some (.int n)| .bl b=>some (.bool b)| .bool b=>some (.bool b)| .str s=>some (.str s)| .lst _ d=>some d
 | .dptr _ d=>some d| .nilp=>some .nil| .nilm=>some .nil| .nilf=>some .nil| .dmp _ d=>some d|_=>none
def Kz(op:BinOp)(eq:Bool)(K:PV->Prop):Prop:=match op with
 | .eql=>K (.bool eq)
 | .neq=>K (.bool (A.not eq))
 |_=>False
def HH(op:BinOp)(eq:Bool)(K:PV->Prop):Prop:=match op,eq with
 | .eql,true=>K (.bl true)
 | .eql,false=>K (.bl false)
 | .neq,true=>K (.bl false)
 | .neq,false=>K (.bl true)
 |_,_=>False
def isBool(ti:TI):Bool:=match ti.agg,ti.bP with|false,[.bool]=>true|_,_=>false
def nZ(o:Option TI)(op:BinOp)(b:Bool)(K:PV->Prop):Prop:=match o with
 |some ti=>bif isBool ti then Kz A op b K else False
 |none=>False
def NB(op:BinOp)(k:IntKind)(a b:Int)(K:PV->Prop):Prop:=match op with
 | .add=>(A.inr k (A.add a b)/\(True->K (.int k (A.add a b))))\/(True->K (.int k (A.wrap k (A.add a b))))
 | .sub=>(A.inr k (A.sub a b)/\(True->K (.int k (A.sub a b))))\/(True->K (.int k (A.wrap k (A.sub a b))))
 | .mul=>(A.inr k (A.mul a b)/\(True->K (.int k (A.mul a b))))\/(True->K (.int k (A.wrap k (A.mul a b))))
 | .quo=>A.XM b/\A.inr k (A.quo a b)/\K (.int k (A.quo a b))
 | .rem=>A.XM b/\K (.int k (A.rem a b))
 | .eql=>K (.bool (A.eq a b))
 | .neq=>K (.bool (A.not (A.eq a b)))
 | .lss=>K (.bool (A.lt a b))
 | .leq=>K (.bool (A.le a b))
 | .gtr=>K (.bool (A.lt b a))
 | .geq=>K (.bool (A.le b a))
 |_=>False
def Nz(op:BinOp)(a b:List UInt8)(K:PV->Prop):Prop:=match op with
 | .eql=>K (.bool (A.seq a b))
 | .neq=>K (.bool (A.not (A.seq a b)))
 | .lss=>K (.bool (A.slt a b))
 | .gtr=>K (.bool (A.slt b a))
 | .leq=>K (.bool (A.not (A.slt b a)))
 | .geq=>K (.bool (A.not (A.slt a b)))
 | .add=>A.inr .i64 (A.add (A.fe a) (A.fe b))/\K (.str (A.kM a b))
 |_=>False
def zp(ti:TI):Bool:=match ti.agg,ti.bP with|false,[.fn]=>true|_,_=>false
def su(ti:TI):Bool:=match ti.agg,ti.bP with|false,[.ptr _]=>true|_,_=>false
def Hf(a b:IntKind):Bool:=decide (a=b)
def zn{a b:IntKind}(h:Hf a b=true):a=b:=of_decide_eq_true h
def tW(s:cS)(o:Option Operand)(a:Int)(K:Int->Prop):Prop:=match o with
 |none=>K a
 |some x=>match ev s x with
  | .int _ n=>K n
  |_=>False
def CT(n:Int):Option Nat:=match n with| .ofNat k=>some k| .negSucc _=>none
def Sc(o:Option Operand):Bool:=match o with|none=>true|some _=>false
def IY(s:cS)(o:Option Operand):Option Nat:=match o with
 |some x=>(match ev s x with| .int _ n=>CT n|_=>none)
 |none=>none
def s8:CK->PV->Bool
 | .int k,.int k' _=>decide (k=k')
 | .bool,.bool _=>true
 | .bool,.bl _=>true
 | .str,.str _=>true
 | .slice e,.lst e' _=>nb e e'
 | .ptr t,.dptr t' _=>nb t t'
 | .ptr _,.nilp=>true
 | .map _ _,.nilm=>true
 | .map _ e,.dmp e' _=>nb e e'
 | .fn,.nilf=>true
 |_,_=>false
def rQ(bP:List CK):List PV->Bool
 |[]=>true
 |p::ps=>(match bP with|[c]=>s8 c p|_=>false)&&rQ bP ps
def rY(p:PV):D:=match toD p with|some d=>d|none=>.nil
def EK:List PV->List (List D)
 |[]=>[]
 |p::ps=>[rY p]::EK ps
def zW(e:TypeId)(S:Nat):Nat->Nat->List (Nat×TypeId)
 |_,0=>[]
 |off,n+1=>(off,e)::zW e S (off+S) n
def zq(k:IntKind):List PV->Option (List Int)
 |[]=>some []
 | .int k' n::l=>bif Hf k k' then(match zq k l with|some ns=>some (n::ns)|none=>none)else none
 |_=>none
def NF(ob:List Ob)(p:PV):PV:=match p with
 | .row e r=>match eG ob r with
  | .row e' d false=>bif nb e e' then .lst e d else .undef
  |_=>.undef
 |p=>p
def mw(s:cS)(tt:TypeId->Option TI)(fs:List (Nat×TypeId)):List (Nat×Operand)->List PV->Option (List PV)
 |[],acc=>some acc
 |(i,x)::r,acc=>match vN fs i with
  |some (off,b)=>match tt b with
   |some a=>bif nb (bY (flat (fG tt s b x))) (bY a.bP)&&iD (off+bY a.bP) (bY acc)&&iC 0 (bY a.bP)then mw s tt fs r (od acc off (flat (fG tt s b x)))else none
   |none=>none
  |none=>none
def cH(op:Op)(ty:TypeId)(s:cS)(ob:List Ob)(K:PV->Prop):Prop:=
 match op with
 | .move x=>K (SB tt s ty x)
 | .assign x=>K (SB tt s ty x)
 | .pick c a b=>match ev s c with
  | .bl true=>K (ev s a)
  | .bl false=>K (ev s b)
  | .bool c=>match ev s a,ev s b with
   | .bool x,.bool y=>K (.bool (A.ite c x y))
   | .bl x,.bool y=>K (.bool (A.ite c x y))
   | .bool x,.bl y=>K (.bool (A.ite c x y))
   | .bl x,.bl y=>K (.bool (A.ite c x y))
   |_,_=>False
  |_=>False
 | .load t x=>match tt t with
  |none=>False
  |some ti=>match ev s x with
   | .box b off=>match eG ob b with
    | .box cs=>bif iD off dC&&iD (off+bY ti.bP) (bY cs)then K (eX ti (qw (bY ti.bP) (wL off cs)))else False
    |_=>False
   | .jv e d i off=>bif ic tt e off ti.bP then K (eX ti (jS A d i off ti.bP))else False
   | .fM e r i off=>bif nb off dC then False else match eG ob r with
    | .row e' d _=>bif nb e e'&&ic tt e off ti.bP then K (eX ti (jS A d i off ti.bP))else False
    |_=>False
   | .du cs off=>bif (match nb off dC with|true=>false|false=>iD (off+bY ti.bP) (bY cs))then K (eX ti (qw (bY ti.bP) (wL off cs)))else False
   | .rP t d off=>bif ic tt t off ti.bP then K (eX ti (yt A d off ti.bP))else False
   | .dptr t d=>bif ic tt t 0 ti.bP then(A.isNil d=false/\K (eX ti (yt A d 0 ti.bP)))else False
   |_=>False
 | .nilCheck x=>match ev s x with
  | .dptr t d=>A.isNil d=false/\K (.rP t d 0)
  | .box b off=>bif iD off dC then K (.box b off)else False
  | .jv e d i off=>K (.jv e d i off)
  | .fM e r i off=>bif nb off dC then False else K (.fM e r i off)
  | .du cs off=>bif nb off dC then False else K (.du cs off)
  | .rP t d off=>K (.rP t d off)
  | .cu f cs=>K (.cu f cs)
  |_=>False
 | .binOp op t x y _=>match lO y with
  |true=>(match op,ev s x,tt t with
   | .eql,.lst _ d,some ti=>(match eC ti with
    |some _=>∀b:Bool,(b=true->A.same (A.len d) 0)->K (.bool b)
    |none=>False)
   |_,_,_=>False)
  |false=>match ev s x,ev s y with
   | .int k a,.int k' b=>bif Hf k k' then NB A op k a b K else False
   | .str a,.str b=>Nz A op a b K
   | .dptr _ d,.nilp=>match tt t with|some ti=>bif su ti then Kz A op (A.isNil d) K else False|none=>False
   | .du _ off,.nilp=>bif nb off dC then False else match tt t with|some ti=>bif su ti then HH op false K else False|none=>False
   | .box _ off,.nilp=>match tt t with|some ti=>bif su ti&&iD off dC then HH op false K else False|none=>False
   | .cu _ _,.nilf=>match tt t with|some ti=>bif zp ti then HH op false K else False|none=>False
   | .nilf,.nilf=>match tt t with|some ti=>bif zp ti then HH op true K else False|none=>False
   | .nilp,.nilp=>match tt t with|some ti=>bif su ti then HH op true K else False|none=>False
   | .bool a,.bool b=>nZ A (tt t) op (A.beq a b) K
   | .bl a,.bool b=>nZ A (tt t) op (A.beq a b) K
   | .bool a,.bl b=>nZ A (tt t) op (A.beq a b) K
   | .bl a,.bl b=>nZ A (tt t) op (A.beq a b) K
   |_,_=>False
 | .unOp op _ x=>match op,ev s x with
  | .not,.bool b=>K (.bool (A.not b))
  | .not,.bl true=>K (.bl false)
  | .not,.bl false=>K (.bl true)
  | .neg,.int k n=>A.inr k (A.sub 0 n)/\K (.int k (A.sub 0 n))
  |_,_=>False
 | .convert src dst x=>match tt src,tt dst with
  |some u,some ti=>match ug ti,ev s x with
   |some k,.int _ n=>(A.inr k n/\(True->K (.int k n)))\/(True->K (.int k (A.wrap k n)))
   |_,_=>False
  |_,_=>False
 | .makeFunc (.func f) first gU=>match first.toList with
  |[]=>bif iC f kB then K (.cu f (gU.toList.map (ev s)))else False
  |_=>(match gU.toList with
   |[]=>K (.cu (f+kB) (first.toList.map (ev s)))
   |_=>False)
 | .fieldAddr t x f=>match tt t with
  |none=>False
  |some ti=>match vN ti.fs f with
   |none=>False
   |some (fo,p)=>match tt p with
    |none=>False
    |some o=>match o.bP with
     |[]=>False
     |_=>match ev s x with
      | .box b off=>bif iD off dC&&iD (off+fo) dC then K (.box b (off+fo))else False
      | .jv e d i off=>K (.jv e d i (off+fo))
      | .fM e r i off=>bif nb off dC then False else bif nb (off+fo) dC then False else K (.fM e r i (off+fo))
      | .du cs off=>bif nb off dC then False else bif nb (off+fo) dC then False else K (.du cs (off+fo))
      | .rP t d off=>K (.rP t d (off+fo))
      |_=>False
 | .field t x f=>match tt t with
  |none=>False
  |some ti=>match vN ti.fs f with
   |none=>False
   |some (fo,p)=>match tt p with
    |none=>False
    |some o=>match ev s x with
     | .agg cs=>bif iD (fo+bY o.bP) (bY cs)then K (eX o (qw (bY o.bP) (wL fo cs)))else False
     |_=>False
 | .indexAddr t x i=>match tt t with
  |none=>False
  |some ti=>match eC ti,ev s x,ev s i with
   |some e0,.lst e d,.int _ n=>bif nb e0 e then(A.idx n (A.len d)/\match tt e with|some _=>K (.jv e d n 0)|none=>False)else False
   |some e0,.row e r,.int _ n=>bif nb e0 e then(match eG ob r with
    | .row e' d _=>bif nb e e' then(A.idx n (A.len d)/\match tt e with|some _=>K (.fM e r n 0)|none=>False)else False
    |_=>False)else False
   |some e0,.fM e r i off,.int _ n=>bif nb e0 e&&nb off dC then(match eG ob r with
    | .row e' d _=>bif nb e e' then(A.idx n (A.sub (A.len d) i)/\match tt e with|some _=>K (.fM e r (A.add i n) 0)|none=>False)else False
    |_=>False)else False
   |some e0,.du cs off,.int _ n=>(match tt e0,CT n with
    |some g,some k=>bif nb off dC&&nb (bY g.bP) 1&&iC k (bY cs)then(bif nb k dC then False else K (.du cs k))else False
    |_,_=>False)
   |some e0,.box b off,.int _ n=>(match tt e0,CT n with
    |some g,some k=>bif nb (bY g.bP) 1&&iC dC off&&iC k (off-(dC+1))&&iD k dC then K (.box b k)else False
    |_,_=>False)
   |none,.box b off,.int _ n=>(match tt ti.el,CT n with
    |some g,some k=>bif ti.agg&&iC k (ti.ar-1)&&iC 0 (bY g.bP)&&iD off dC&&iD (off+k*bY g.bP) dC then K (.box b (off+k*bY g.bP))else False
    |_,_=>False)
   |none,.du cs off,.int _ n=>(match tt ti.el,CT n with
    |some g,some k=>bif ti.agg&&iC k (ti.ar-1)&&iC 0 (bY g.bP)then(bif nb off dC then False else bif nb (off+k*bY g.bP) dC then False else K (.du cs (off+k*bY g.bP)))else False
    |_,_=>False)
   |_,_,_=>False
 | .build t ps=>match tt t with
  |none=>False
  |some ti=>match ti.agg&&nb ti.ar 0 with
   |true=>(match mw s tt ti.fs ps.toList (ti.bP.map gT)with|some cs=>K (.agg cs)|none=>False)
   |false=>match ti.agg with
    |true=>(match tt ti.el with
     |some g=>match mw s tt (zW ti.el (bY g.bP) 0 (ti.ar-1)) ps.toList (ti.bP.map gT)with
      |some cs=>K (.agg cs)
      |none=>False
     |none=>False)
    |false=>False
 | .index t x i=>match tt t with
  |none=>False
  |some ti=>match ev s x,ev s i with
   | .str b,.int _ n=>bif isStr ti then A.idx n (A.fe b)/\K (.int .u8 (A.Cv b n))else False
   | .agg cs,.int _ n=>bif ti.agg&&iC 0 ti.ar&&nb (bY cs) (ti.ar-1)then(match tt ti.el with
    |some g=>match g.agg,g.bP with
     |false,[.int k]=>match zq k cs with
      |some ns=>A.idx n (ti.ar-1:Nat)/\K (.int k (A.sel ns n))
      |none=>False
     |false,[_]=>match CT n with
      |some k=>bif iC k (ti.ar-1)then K (Hj cs k)else False
      |none=>False
     |_,_=>False
    |none=>False)else False
   |_,_=>False
 | .extract x i=>match ev s x with
  | .tup vs=>bif iC i (bY vs)then K (Hj vs i)else False
  |_=>False
 | .slice t x lo j q=>match NF ob (ev s x)with
  | .du cs off=>(match q,tt t with
   |none,some ti=>(match tt ti.el with
    |some g=>bif ti.agg&&nb (bY g.bP) 1&&iC 0 ti.ar&&nb off 0&&nb (bY cs) (ti.ar-1)&&Sc lo then(match IY s j with
     |some h=>bif iD h (bY cs)&&rQ g.bP (qw h cs)then K (.lst ti.el (A.lit (EK (qw h cs))))else False
     |none=>False)else False
    |none=>False)
   |_,_=>False)
  | .str b=>match q,tt t with
   |none,some ti=>bif isStr ti then tW s lo 0 λl=>tW s j (A.fe b) λh=>A.gr h (A.fe b)/\A.gr l h/\K (.str (A.Ui b l h))else False
   |_,_=>False
  | .lst e d=>match tt t with
   |some ti=>match eC ti with
    |some e0=>bif nb e0 e then(match tt e with
     |some _=>match q with
      |none=>tW s lo 0 λl=>tW s j (A.len d) λh=>A.gr h (A.len d)/\A.gr l h/\K (.lst e (A.part d l h))
      |some m=>tW s lo 0 λl=>match j with
       |none=>False
       |some _=>tW s j 0 λh=>tW s (some m) 0 λm=>A.gr m (A.len d)/\A.gr h m/\A.gr l h/\((A.same m h/\(True->K (.om e (A.part d l h))))\/(True->K (.lst e (A.part d l h))))
     |none=>False)else False
    |none=>False
   |none=>False
  |_=>False
 | .call { callee:=.builtin .len,args:=as,argTypes:=ts }=>match as.toList,ts.toList with
  |[x],[t]=>match tt t with
   |none=>False
   |some ti=>match eC ti,fG tt s t x with
    |some _,.lst _ d=>K (.int .i64 (A.len d))
    |some _,.row e r=>(match eG ob r with
     | .row e' d _=>bif nb e e' then K (.int .i64 (A.len d))else False
     |_=>False)
    |some _,.fM e r i off=>(match eG ob r with
     | .row e' d _=>bif nb e e'&&nb off dC then K (.int .i64 (A.sub (A.len d) i))else False
     |_=>False)
    |some _,.du cs off=>bif nb off dC then K (.int .i64 (bj (bY cs)))else False
    |some _,.box _ off=>bif iC dC off then K (.int .i64 (bj (off-(dC+1))))else False
    |none,.str b=>bif isStr ti then K (.int .i64 (A.fe b))else False
    |none,.mp m=>bif isMap ti then(match eG ob m with
     | .map _ _ d=>K (.int .i64 (A.len d))
     |_=>False)else False
    |_,_=>False
  |_,_=>False
 | .call { callee:=.builtin .max,args:=as,.. }=>match as.toList with
  |[x,y]=>match ev s x,ev s y with
   | .int k a,.int _ b=>K (.int k (A.max a b))
   |_,_=>False
  |_=>False
 |_=>False
end
end
section
variable [Inhabited pY]
open Go
section
variable {P:Program}{tt:TypeId->Option TI}{E:List RI}{Pp:fQ}{objs:List Ob}{w:World}{W:World->Prop}
variable {t:TypeId}{ti:TI}{off:Nat}{a:Act}{s:cS}{c:CK}
def Mb(v:Value):VR tt E Pp v (IK v):=by unfold IK;split<;>first|exact .int _ _|exact .bl _|exact .str _|exact .nilp|exact .nilm|exact .nilf|exact .undef _
def IM{v:Value}{p:PV}(h:VR tt E Pp v p):VR tt E Pp v (norm p):=by
 cases h with
 |om e a n d hr=>exact .lst _ _ _ hr
 |_=>first|exact .undef _|(simp only[norm];constructor<;>assumption)
def fa(hs:∀t,VR tt E Pp (a.tmps.getD t undef) (look s t))(x:Operand):VR tt E Pp (a.eval x) (ev s x):=by
 cases x with
 |tmp t=>exact IM (hs t)
 |const v=>exact Mb v
 |global g=>exact .undef _
 |func f=>
  simp only[ev];cases hb:iC f kB with
  |false=>exact .undef _
  |true=>exact .cu _ f [] [] (nz.mk hb) .nil
def Nt(c:CK)(v:Value):VR tt E Pp v (Nu c v):=by
 unfold Nu;split
 ·split
  ·exact .lst _ _ _ (.slnil _)
  ·exact .undef _
 ·exact fa (a:=⟨#[],[]⟩) (s:=[]) (λ_=>.undef _) (.const v)
def BS:∀(cs:List CK)(vs:List Value)(l:List PV),s9 cs vs=some l->eM tt E Pp vs l
 |[],[],l,h=>by simp[s9]at h;subst h;exact .nil
 |c::cs,v::vs,l,h=>by
  rw[s9]at h;split at h
  ·rename_i b hl;simp at h;subst h;exact .cons _ _ _ _ (Nt c v) (BS cs vs b hl)
  ·cases h
 |[],_::_,_,h=>by simp[s9]at h
 |_::_,[],_,h=>by simp[s9]at h
def iL(hs:∀t,VR tt E Pp (a.tmps.getD t undef) (look s t))(t:TypeId)(x:Operand):VR tt E Pp (a.eval x) (fG tt s t x):=by
 unfold fG;split
 ·split
  ·exact .lst _ _ _ (.slnil _)
  ·exact .undef _
 ·rename_i vs;split
  ·split
   ·rename_i l hl;show VR tt E Pp (.agg vs) _;have:vs=⟨vs.toList⟩:=rfl;rw[this];exact .agg _ _ (BS _ _ _ hl)
   ·exact .undef _
  ·exact .undef _
 ·exact fa hs _
def Hs(hs:∀t,VR tt E Pp (a.tmps.getD t undef) (look s t))(t:TypeId)(x:Operand):VR tt E Pp (a.eval x) (SB tt s t x):=by
 unfold SB;split
 ·split
  ·exact .om _ _ _ _ (.slnil _)
  ·exact .undef _
 ·exact hs _
 ·exact fa hs _
def M9(hs:∀t,VR tt E Pp (a.tmps.getD t undef) (look s t))(l:List Operand):eM tt E Pp (l.map a.eval) (l.map (ev s)):=by
 induction l with
 |nil=>exact .nil
 |cons x l b=>exact .cons _ _ _ _ (fa hs x) b
def jl.run(h:jl P t ti)(w:World):
 (isAgg t).run P w= .ok ti.agg w/\(sizeOf t).run P w= .ok ti.bP.length w/\(∃z,(zeroValue t).run P w= .ok z w/\z.cells.toList=ti.bP.map zeroV)/\
 (∃i,(typeInfo t).run P w= .ok i w/\i.bytes=ti.bytes):=by
 obtain⟨i,z,d,e,hs,hb,hz,b,_,f,g⟩:=h.info;refine⟨?_,?_,⟨z,?_,b⟩,⟨i,by simp[typeInfo,e],hb⟩⟩
 ·simp only[isAgg,Sem.run_bind,run_underlying f,Result.andThen_ok];cases d<;>simp_all
 ·simp[sizeOf,typeInfo,e,hs]
 ·simp[zeroValue,typeInfo,e,hz]
def jl.single(h:jl P t ti)(ha:ti.agg=false):∃c,ti.bP=[c]:=by obtain⟨i,z,d,g,hs,hb,hz,b,_,e,f⟩:=h.info;cases d<;>simp_all
def jl.slice{e:TypeId}(h:jl P t ti)(hs:eC ti=some e):P.underlying t=some (.slice e)/\ti.el=e/\ti.bP=[.slice e]:=by
 obtain⟨i,z,d,j,_,hb,hz,b,_,f,g⟩:=h.info;unfold eC at hs;split at hs
 ·rename_i e' ha hc;simp at hs;subst hs;cases d<;>simp_all
 ·simp at hs
def jl.str(h:jl P t ti)(hs:isStr ti=true):P.underlying t=some .string:=by
 obtain⟨i,z,d,g,_,hb,hz,b,_,e,f⟩:=h.info;unfold isStr at hs;split at hs
 ·rename_i ha hc;cases d<;>simp_all
 ·simp at hs
def jl.int{k:IntKind}(h:jl P t ti)(hs:ug ti=some k):P.underlying t=some (.int k):=by
 obtain⟨i,z,d,g,_,hb,hz,b,_,e,f⟩:=h.info;unfold ug at hs;split at hs
 ·rename_i k' ha hc;simp at hs;subst hs;cases d<;>simp_all
 ·simp at hs
theorem jl.map(h:jl P t ti)(hs:isMap ti=true):∃k e,P.underlying t=some (.map k e)/\ti.bP=[.map t e]/\ti.el=e/\ti.ar=k+1:=by
 obtain⟨i,z,d,j,_,hb,hz,b,_,f,g⟩:=h.info;unfold isMap at hs;split at hs
 ·rename_i t' ha hc;cases d with
  |map k e=>exact⟨k,e,by simp_all,by simp_all,by simp_all,by simp_all⟩
  |_=>simp_all
 ·simp at hs
def jl.field(h:jl P t ti){f:Nat}{g:TypeId}(hf:vN ti.fs f=some (off,g)):
 ∃fields fl,P.underlying t=some (.struct fields)/\fields[f]? =some fl/\fl.offset=off/\fl.type=g/\ti.agg=true:=by
 obtain⟨i,z,d,m,_,hb,hz,l,_,j,k⟩:=h.info;rw[PO]at hf;cases d with
 |struct fields=>
  obtain⟨ha,b,_⟩:=k;have:=b f;rw[hf]at this;cases e:fields[f]? with
  |none=>rw[e]at this;simp at this
  |some fl=>rw[e]at this;simp at this;exact⟨fields,fl,j,e,this.1,this.2,ha⟩
 |_=>simp_all
def valOf(ti:TI)(vs:List Value):Value:=if ti.agg then .agg ⟨vs⟩else vs.headD undef
def mO(h:jl P t ti){vs:List Value}{ps:List PV}(hl:ps.length=ti.bP.length)(b:eM tt E Pp vs ps):VR tt E Pp (valOf ti vs) (eX ti ps):=by
 unfold valOf eX;cases ha:ti.agg with
 |true=>simpa using .agg _ _ b
 |false=>
  obtain⟨c,hc⟩:=h.single ha;rw[hc]at hl;cases b with
  |nil=>simp at hl
  |cons v p vs ps b d=>
   cases d with
   |nil=>simpa using b
   |cons _ _ _ _ _ _=>simp at hl
def fh(b o n:Nat):Addr.add ⟨b,o,none⟩ n=⟨b,o+n,none⟩:=Addr.add_lit b o n
def sV(h:jl P t ti){b o:Nat}{vs:List Value}(hl:vs.length=ti.bP.length)
 (hc:∀(j:Nat) v,vs[j]? =some v->w.cell? ⟨b,o+j,none⟩=some v):(loadVar t ⟨b,o,none⟩).run P w= .ok (valOf ti vs) w:=by
 obtain⟨h1,h2,_,_⟩:=h.run w;unfold loadVar valOf;simp only[Sem.run_bind,h1,Result.andThen_ok];cases ha:ti.agg with
 |true=>simp only[if_true,Sem.run_bind,h2,Result.andThen_ok];rw[<- hl,run_loadCells_list w ⟨b,o,none⟩ vs (λj v e=>by rw[fh];exact hc j v e)];simp
 |false=>
  obtain⟨c,d⟩:=h.single ha;rw[d]at hl
  match vs,hl with
  |[v],_=>simp[show w.cell? ⟨b,o,none⟩=some v from by simpa using hc 0 v rfl]
def BT{v:Value}{d:D}(h:RD tt Pp c v d):VR tt E Pp v (ta dS c d):=by
 cases h with
 |int=>exact .int _ _
 |bool=>exact .bool _
 |str=>exact .str _
 |slnil=>exact .lst _ _ _ (.slnil _)
 |Gy _ ad=>exact .lst _ _ _ (.Gy _ ad)
 |sl e b o len cap rows vf hl hc dN hV iK=>exact .lst _ _ _ (.sl e b o len cap rows vf hl hc dN hV iK)
 |Ap t=>exact .dptr _ _ _ (.Ap t)
 |CP t e=>exact .dmp _ _ _ _ (.CP t e)
 |Kb t e b es clock rows hl hV hk gx dA iK=>exact .dmp _ _ _ _ (.Kb t e b es clock rows hl hV hk gx dA iK)
 |M3=>exact .undef _
 |PH=>exact .undef _
 |ptr t b o cs vf hl hV iK=>exact .dptr _ _ _ (.ptr t b o cs vf hl hV iK)
def zm{v:Value}{d:D}(h:KD tt Pp c v d):VR tt E Pp v (mr dS c d):=by
 rcases h with⟨e,h⟩|⟨rfl,a,b,rfl,rfl⟩
 ·cases c<;>first|exact BT h|exact absurd rfl e
 ·exact .agg _ _ (.cons _ _ _ _ (.str _) (.cons _ _ _ _ (.str _) .nil))
def oW{g:Nat->D}:∀{off:Nat}{cs:List CK}{vs:List Value},vs.length=cs.length->
 (∀(j:Nat) c v,cs[j]? =some c->vs[j]? =some v->RD tt Pp c v (g (off+j)))->eM tt E Pp vs (qT dS g off cs)
 |_,[],[],_,_=>.nil
 |off,c::cs,v::vs,hl,h=>.cons _ _ _ _ (BT (by simpa using h 0 c v rfl rfl))
  (oW (yU hl) (λj c v hc b=>by have:=h (j+1) c v (yU hc) (yU b);rwa [show off+(j+1)=off+1+j by omega]at this))
 |_,[],_::_,hl,_=>yE hl
 |_,_::_,[],hl,_=>yE hl
def iQ(A:pP)(g:Nat->D):∀(off:Nat)(cs:List CK),(qT A g off cs).length=cs.length
 |_,[]=>rfl
 |off,c::cs=>by simp[qT,iQ A g (off+1) cs]
def Jg:∀{a b:List CK},Kw a b=true->a=b
 |[],[],_=>rfl
 |a::x,b::y,h=>by simp[Kw]at h;rw[h.1,Jg h.2]
 |[],_::_,h=>by simp[Kw]at h
 |_::_,[],h=>by simp[Kw]at h
def Ln(n:Nat)(l:List CK):DU n l=l.take n:=by
 induction n generalizing l with
 |zero=>simp[DU]
 |succ n b=>cases l<;>simp[DU,b]
def Nf(n:Nat)(l:List CK):Fw n l=l.drop n:=by
 induction n generalizing l with
 |zero=>simp[Fw]
 |succ n b=>cases l<;>simp[Fw,b]
def iJ{e:TypeId}{cs:List CK}(h:ic tt e off cs=true)(j:Nat)(c:CK)(hc:cs[j]? =some c):(bN tt e)[off+j]? =some c:=by
 unfold ic at h;have:=Jg h;rw[Ln,Nf,cL]at this;rw[<- this]at hc
 have dA:j<cs.length:=by
  rcases bR j cs.length with b|b
  ·exact b
  ·rw[bU yQ]at hc;simp at hc
 rw[cN dA,eN]at hc;exact hc
structure RW (tt:TypeId->Option TI) (E:List RI) (Pp:fQ) (objs:List Ob) (W:World->Prop):Prop where
 pi:∀w,W w->∀ad v,Pp ad v->pc w ad=some v
 box:∀(i:Nat) cs b,objs[i]? =some (.box cs)->E[i]? =some (.box b)->∃vs,eM tt E Pp vs cs/\∀w,W w->∀(j:Nat) v,vs[j]? =some v->w.cell? ⟨b,j,none⟩=some v
 row0:∀(i:Nat) e d wr,objs[i]? =some (.row e d wr)->E[i]? =some .row0->d= .list []
 row:∀(i:Nat) e d wr g o len cap,objs[i]? =some (.row e d wr)->E[i]? =some (.row g o len cap)->∃vs rows,d= .list rows/\rows.length=len/\wR tt Pp e vs o rows/\
  ∀w,W w->∀(j:Nat) v,vs[j]? =some v->o<=j->j<o+len*(bN tt e).length->w.cell? ⟨g,j,none⟩=some v
 nN:∀(i:Nat) e d g o len cap,objs[i]? =some (.row e d false)->E[i]? =some (.row g o len cap)->RD tt Pp (.slice e) (.slice (some ⟨g,o,none⟩) len cap) d
 map:∀(i:Nat) kc e d b bs cl,objs[i]? =some (.map kc e d)->E[i]? =some (.map b bs cl)->∀w,W w->∃es clock rows,w.heap[b]? =some (.map es clock)/\d= .list rows/\es.size=rows.length
def RW.R7(d:RW tt E Pp objs W){w:World}(e:W w){b o:Nat}{v:Value}(h:Pp ⟨b,o,none⟩ v):w.cell? ⟨b,o,none⟩=some v:=by rw[<- px];exact d.pi w e _ _ h
def eE{b:Nat}{vs:List Value}{T:TypeId}{fr:Nat×Nat}(h:w.heap[b]? =some (.cells ⟨vs⟩ T fr))(o:Nat):w.cell? ⟨b,o,none⟩=vs[o]? :=by simp[World.cell?,h]
def P1{e b o len cap:Nat}{d:D}(n:RW tt E Pp objs W)(hr:RD tt Pp (.slice e) (.slice (some ⟨b,o,none⟩) len cap) d){i:Int}(h0:0<=i)(h1:i<len)
 {cs:List CK} (hk:ic tt e off cs=true):
 ∃vs:List Value,vs.length=cs.length/\(∀w,W w->∀(j:Nat) v,vs[j]? =some v->w.cell? ⟨b,o+i.toNat*(bN tt e).length+off+j,none⟩=some v)/\eM tt E Pp vs (jS dS d i off cs):=by
 cases hr with
 |Gy _ ad=>exact absurd h1 yO
 |sl _ _ _ _ _ rows vf hl hc dN hV iK=>
  refine⟨(dF cs.length).map (λj=>vf i.toNat (off+j)),yS,?_,?_⟩
  ·intro w p j v h;simp at h
   obtain⟨_,m,rfl⟩:∃x,cs.length>j/\vf i.toNat (off+j)=v:=by
    rcases bR j cs.length with f|f
    ·rw[bu (yU f)]at h;simp at h;exact⟨0,f,h⟩
    ·rw[bU (yU f)]at h;simp at h
   have g:=iJ hk j cs[j] (bu m)
   have dA:off+j<(bN tt e).length:=by
    rcases bR (off+j) (bN tt e).length with f|f
    ·exact f
    ·rw[bU f]at g;simp at g
   have:=n.R7 p (hV i.toNat (off+j) yO dA);rw[<- this,fi]
  ·refine oW yS ?_;intro j c v hc h
   have m:j<cs.length:=by
    rcases bR j cs.length with f|f
    ·exact f
    ·rw[bU f]at hc;simp at hc
   simp[m]at h;subst h;have g:=iJ hk j c hc
   have dA:off+j<(bN tt e).length:=by
    rcases bR (off+j) (bN tt e).length with f|f
    ·exact f
    ·rw[bU f]at g;simp at g
   have r:i.toNat<rows.length:=yO;have k:rows[i.toNat]? =some rows[i.toNat]:=bu r;have q:=dN _ _ k;have l:(rows[i.toNat])[off+j]? =some ((rows[i.toNat])[off+j]'yO):=bu yO;have:=iK _ _ _ _ _ k l g;simpa[dS,cg,cx,k,l]using this
def Ba{t b o:Nat}{d:D}(k:RW tt E Pp objs W)(hr:RD tt Pp (.ptr t) (.pointer (some ⟨b,o,none⟩)) d)
 {cs:List CK} (hk:ic tt t off cs=true):
 ∃vs:List Value,vs.length=cs.length/\(∀w,W w->∀(j:Nat) v,vs[j]? =some v->w.cell? ⟨b,o+off+j,none⟩=some v)/\eM tt E Pp vs (yt dS d off cs):=by
 cases hr with
 |ptr _ _ _ ds vf hl hV iK=>
  have dA:∀j,j<cs.length->off+j<(bN tt t).length:=by
   intro j g;have f:=iJ hk j cs[j] (bu g);rcases bR (off+j) (bN tt t).length with e|e
   ·exact e
   ·rw[bU e]at f;simp at f
  refine⟨(dF cs.length).map (λj=>vf (off+j)),yS,?_,?_⟩
  ·intro w l j v h;rcases bR j cs.length with g|e
   ·simp[g]at h;subst h;have:=k.R7 l (hV (off+j) (dA j g));rw[<- this,fi]
   ·rw[bU (yU e)]at h;simp at h
  ·refine oW yS ?_;intro j c v hc h
   have g:j<cs.length:=by
    rcases bR j cs.length with e|e
    ·exact e
    ·rw[bU e]at hc;simp at hc
   simp[g]at h;subst h;have f:=iJ hk j c hc;have:=dA j g;have i:ds[off+j]? =some (ds[off+j]'yO):=bu yO;have:=iK _ _ _ i f;simpa[dS,Ut,cx,i]using this
def LY{e r g o len cap:Nat}{d:D}{wr:Bool}(x:RW tt E Pp objs W)(A:objs[r]? =some (.row e d wr))(y:E[r]? =some (.row g o len cap)){i:Int}(h0:0<=i)(h1:i<len)
 {cs:List CK} (hk:ic tt e off cs=true):
 ∃vs:List Value,vs.length=cs.length/\(∀w,W w->∀(j:Nat) v,vs[j]? =some v->w.cell? ⟨g,o+i.toNat*(bN tt e).length+off+j,none⟩=some v)/\eM tt E Pp vs (jS dS d i off cs):=by
 obtain⟨vals,rows,rfl,hl,dN,m⟩:=x.row r _ _ _ _ _ _ _ A y
 have dA:∀j,j<cs.length->off+j<(bN tt e).length:=by
  intro j l;have f:=iJ hk j cs[j] (bu l);rcases bR (off+j) (bN tt e).length with k|k
  ·exact k
  ·rw[bU k]at f;simp at f
 have C:i.toNat<rows.length:=yO;have p:rows[i.toNat]? =some rows[i.toNat]:=bu C;obtain⟨B,b⟩:=dN _ _ p;refine⟨(dF cs.length).map (λj=>vals.getD (o+i.toNat*(bN tt e).length+(off+j)) undef),yS,?_,?_⟩
 ·intro w z j v h;rcases bR j cs.length with l|k
  ·simp[l]at h;subst h;have f:=iJ hk j cs[j] (bu l);have:=dA j l;obtain⟨v,h,_⟩:=b (off+j) _ _ (bu yO) f;have q:=m w z _ _ h yO (by have:(i.toNat+1)*(bN tt e).length<=len*(bN tt e).length:=dq _ yO;rw[dz]at this;omega);rw[fi _ off j,q,h];simp
  ·rw[bU (yU k)]at h;simp at h
 ·refine oW yS ?_;intro j c v hc h
  have l:j<cs.length:=by
   rcases bR j cs.length with k|k
   ·exact k
   ·rw[bU k]at hc;simp at hc
  simp[l]at h;have f:=iJ hk j c hc;have:=dA j l;have n:(rows[i.toNat])[off+j]? =some ((rows[i.toNat])[off+j]'yO):=bu yO;obtain⟨F,u,iK⟩:=b (off+j) _ _ n f;rw[u]at h;simp at h;subst h;simpa[dS,cg,cx,p,n]using iK
end
end
section
variable [Inhabited pY]
open Go
section
variable {P:Program}{tt:TypeId->Option TI}{E:List RI}{Pp:fQ}{objs:List Ob}{w:World}{W:World->Prop}
variable {t e:TypeId}{K:PV->Prop}{op:BinOp}{ti:TI}{x:Sem Value}{k:IntKind}{y:Operand}{p q:Array TypeId}{v:Bool}
def Rm(P:Program)(tt:TypeId->Option TI)(E:List RI)(Pp:fQ)(W:World->Prop)(x:Sem Next)(K:PV->Prop):Prop:=∃v pv,(∀w,W w->x.run P w= .ok (.value v) w)/\VR tt E Pp v pv/\K pv
def gZ(P:Program)(tt:TypeId->Option TI)(E:List RI)(Pp:fQ)(W:World->Prop)(x:Sem Value)(K:PV->Prop):Prop:=∃v pv,(∀w,W w->x.run P w= .ok v w)/\VR tt E Pp v pv/\K pv
def gZ.lift(h:gZ P tt E Pp W x K):Rm P tt E Pp W (do pure (.value (<- x))) K:=by obtain⟨v,pv,h1,h2,h3⟩:=h;exact⟨v,pv,λw a=>by simp[h1 w a],h2,h3⟩
def rp{n:Int}(h:k.min<=n/\n<=k.max):k.wrap n=n:=by obtain⟨h1,h2⟩:=h;cases k<;>simp[IntKind.wrap,IntKind.min,IntKind.max,IntKind.signed,IntKind.bits]at* <;>omega
def Qb{x:Operand}{a b:Int}(h:NB dS op k a b K):
 gZ P tt E Pp W (do eqGuard op t x y (.int k a) (.int k b);binOp op t (.int k a) (.int k b)) K:=by
 cases op<;>simp only[NB]at h
 case add=>
  rcases h with⟨hr,h⟩|h
  ·exact⟨.int k (a+b),_,by intro w _;simp[eqGuard_at_int,binOp_add,Op.intArith,rp hr],.int _ _,h trivial⟩
  ·exact⟨.int k (k.wrap (a+b)),_,by intro w _;simp[eqGuard_at_int,binOp_add,Op.intArith],.int _ _,h trivial⟩
 case sub=>
  rcases h with⟨hr,h⟩|h
  ·exact⟨.int k (a-b),_,by intro w _;simp[eqGuard_at_int,binOp_sub,Op.intArith,rp hr],.int _ _,h trivial⟩
  ·exact⟨.int k (k.wrap (a-b)),_,by intro w _;simp[eqGuard_at_int,binOp_sub,Op.intArith],.int _ _,h trivial⟩
 case mul=>
  rcases h with⟨hr,h⟩|h
  ·exact⟨.int k (a*b),_,by intro w _;simp[eqGuard_at_int,binOp_mul,Op.intArith,rp hr],.int _ _,h trivial⟩
  ·exact⟨.int k (k.wrap (a*b)),_,by intro w _;simp[eqGuard_at_int,binOp_mul,Op.intArith],.int _ _,h trivial⟩
 case quo=>obtain⟨h0,hr,h⟩:=h;exact⟨.int k (a.tdiv b),_,by intro w _;simp[eqGuard_at_int,binOp_quo,Op.intDiv,h0,rp hr],.int _ _,h⟩
 case rem=>obtain⟨h0,h⟩:=h;exact⟨.int k (a.tmod b),_,by intro w _;simp[eqGuard_at_int,binOp_rem,Op.intDiv,h0],.int _ _,h⟩
 case eql=>exact⟨.bool (a==b),_,by intro w _;simp only[eqGuard_at_int,binOp_eql,Sem.run_bind,Sem.run_pure,Result.andThen_ok],.bool _,h⟩
 case neq=>exact⟨.bool (!(a==b)),_,by intro w _;simp only[eqGuard_at_int,binOp_neq,Sem.run_bind,Sem.run_pure,Result.andThen_ok,bne],.bool _,h⟩
 case lss=>exact⟨.bool (a<b),_,by intro w _;simp only[eqGuard_at_int,binOp_lss,Sem.run_bind,Sem.run_pure,Result.andThen_ok],.bool _,h⟩
 case leq=>exact⟨.bool (a<=b),_,by intro w _;simp only[eqGuard_at_int,binOp_leq,Sem.run_bind,Sem.run_pure,Result.andThen_ok],.bool _,h⟩
 case gtr=>exact⟨.bool (a>b),_,by intro w _;simp only[eqGuard_at_int,binOp_gtr,Sem.run_bind,Sem.run_pure,Result.andThen_ok],.bool _,h⟩
 case geq=>exact⟨.bool (a>=b),_,by intro w _;simp only[eqGuard_at_int,binOp_geq,Sem.run_bind,Sem.run_pure,Result.andThen_ok],.bool _,h⟩
def lS:∀(a b:List UInt8),(Op.bytesLess a b||(a==b))= !Op.bytesLess b a
 |[],[]=>rfl
 |[],_::_=>rfl
 |_::_,[]=>rfl
 |x::a,y::b=>by
  have f:=lS a b;by_cases c:x=y
  ·subst c;have dA:decide (x<x)=false:=yS;simp only[Op.bytesLess,dA,Bool.false_or,beq_self_eq_true,iA];rw[<- f]
   congr 1
   simp[BEq.beq,List.beq]
  ·have h1:(x==y)=false:=yU c;have h2:(y==x)=false:=by simpa usingλh=>c h.symm
   have h3:((x::a)==(y::b))=false:=by simp[c]
   simp only[Op.bytesLess,h1,h2,h3,tp,Bool.or_false];rcases UInt8.lt_or_lt_of_ne c with h|h
   ·have d:¬y<x:=UInt8.lt_asymm h;simp[h,d]
   ·have d:¬x<y:=UInt8.lt_asymm h;simp[h,d]
def Qa{x:Operand}{a b:ByteArray}(h:Nz dS op a.data.toList b.data.toList K):
 gZ P tt E Pp W (do eqGuard op t x y (.string a) (.string b);binOp op t (.string a) (.string b)) K:=by
 have go:∀v pv,(∀w,W w->(binOp op t (.string a) (.string b)).run P w= .ok v w)->VR tt E Pp v pv->K pv->
  gZ P tt E Pp W (do eqGuard op t x y (.string a) (.string b);binOp op t (.string a) (.string b)) K:=by
  intro v pv h1 h2 h3;exact⟨v,pv,λw c=>by simp only[eqGuard_at_string,Sem.run_bind,Sem.run_pure,Result.andThen_ok,h1 w c],h2,h3⟩
 cases op<;>simp only[Nz]at h
 case eql=>exact go (.bool (a.data.toList==b.data.toList)) _ (by intro w _;simp only[binOp,Op.stringOp,ByteArray.toList_eq,Sem.run_pure]) (.bool _) h
 case neq=>exact go (.bool (!(a.data.toList==b.data.toList))) _ (by intro w _;simp only[binOp,Op.stringOp,ByteArray.toList_eq,Sem.run_pure]) (.bool _) h
 case lss=>exact go (.bool (Op.bytesLess a.data.toList b.data.toList)) _ (by intro w _;simp only[binOp,Op.stringOp,ByteArray.toList_eq,Sem.run_pure]) (.bool _) h
 case gtr=>exact go (.bool (Op.bytesLess b.data.toList a.data.toList)) _ (by intro w _;simp only[binOp,Op.stringOp,ByteArray.toList_eq,Sem.run_pure,lS,rX]) (.bool _) h
 case leq=>exact go (.bool (!Op.bytesLess b.data.toList a.data.toList)) _ (by intro w _;simp only[binOp,Op.stringOp,ByteArray.toList_eq,Sem.run_pure,lS]) (.bool _) h
 case geq=>exact go (.bool (!Op.bytesLess a.data.toList b.data.toList)) _ (by intro w _;simp only[binOp,Op.stringOp,ByteArray.toList_eq,Sem.run_pure]) (.bool _) h
 case add=>
  obtain⟨hr,h⟩:=h;have hs:¬((a.size+b.size:Nat):Int)>IntKind.i64.max:=by have:=hr.2;have e1:a.data.toList.length=a.size:=yS;have e2:b.data.toList.length=b.size:=yS;simp only[e1,e2]at this;omega
  refine go (.string (a++b)) (.str (a++b).data.toList) ?_ (.str _) (yU h);intro w _;simp only[binOp,Op.stringOp];rw[if_neg hs];rfl
def Dm{b:Bool}(a:∀v,v=(if op= .eql then b else !b)->(op= .eql\/op= .neq)->∀w,W w->x.run P w= .ok (.bool v) w)(h:Kz dS op b K):gZ P tt E Pp W x K:=by
 cases op<;>simp only[Kz]at h
 case eql=>exact⟨.bool b,_,a _ yS yS,.bool _,h⟩
 case neq=>exact⟨.bool (!b),_,a _ yS yS,.bool _,h⟩
def jl.bool(h:jl P t ti)(hs:isBool ti=true):P.underlying t=some .bool:=by
 obtain⟨i,z,d,f,_,hb,hz,a,_,b,c⟩:=h.info;unfold isBool at hs;split at hs
 ·rename_i ha hc;cases d<;>simp_all
 ·simp at hs
def jl.ptr(h:jl P t ti)(hs:su ti=true):∃e,P.underlying t=some (.pointer e):=by
 obtain⟨i,z,d,f,_,hb,hz,a,_,b,c⟩:=h.info;unfold su at hs;split at hs
 ·rename_i ha hc;cases d<;>simp_all
 ·simp at hs
def jl.fn(h:jl P t ti)(hs:zp ti=true):∃a b c,P.underlying t=some (.func a b c):=by
 obtain⟨i,z,d,l,_,hb,hz,f,_,g,j⟩:=h.info;unfold zp at hs;split at hs
 ·rename_i ha hc;cases d<;>simp_all
 ·simp at hs
def Hv(d:Nat)(h:P.underlying t=some (.func p q v)):(∀f a c,(Op.equalIn (d+1) t (.func f a c) .nilFunc).run P w= .ok false w)/\(Op.equalIn (d+1) t .nilFunc .nilFunc).run P w= .ok true w:=⟨λf a c=>by simp[Op.equalIn,run_underlying h],by simp[Op.equalIn,run_underlying h]⟩
def uu(h:P.underlying t=some (.func p q v)):(∀f a c,(Op.equal t (.func f a c) .nilFunc).run P w= .ok false w)/\(Op.equal t .nilFunc .nilFunc).run P w= .ok true w:=Hv 9999 h
def C8(d:Nat)(h:P.underlying t=some .bool)(a b:Bool):(Op.equalIn (d+1) t (.bool a) (.bool b)).run P w= .ok (a==b) w:=by simp[Op.equalIn,run_underlying h]
def Hu(h:P.underlying t=some .bool)(a b:Bool):(Op.equal t (.bool a) (.bool b)).run P w= .ok (a==b) w:=C8 9999 h a b
def Fp(d:Nat)(h:P.underlying t=some (.pointer e))(a:Option Addr):(Op.equalIn (d+1) t (.pointer a) (.pointer none)).run P w= .ok a.isNone w:=by cases a<;>simp[Op.equalIn,run_underlying h,samePointer]
def kg(h:P.underlying t=some (.pointer e))(a:Option Addr):(Op.equal t (.pointer a) (.pointer none)).run P w= .ok a.isNone w:=Fp 9999 h a
end
end
section
variable [Inhabited pY]
open Go
section
variable {P:Program}{tt:TypeId->Option TI}{E:List RI}{Pp:fQ}{objs:List Ob}{w:World}{W:World->Prop}
variable {t ty:TypeId}{ti:TI}{b off o:Nat}{vs:List Value}{a:Act}{s:cS}{x y:Operand}{K:PV->Prop}{cs:List PV}{op:BinOp}
def EO(e:jl P t ti)(p:RW tt E Pp objs W){gu:Nat}(q:E[b]? =some (.box gu))(f:eG objs b= .box cs)
 (m:off+ti.bP.length<=cs.length):∃v,(∀w,W w->(Instr.loadAt t (.pointer (some ⟨gu,off,none⟩))).run P w= .ok v w)/\VR tt E Pp v (eX ti ((cs.drop off).take ti.bP.length)):=by
 rw[rO]at f
 have l:objs[b]? =some (.box cs):=by
  cases n:objs[b]? with
  |none=>simp[cx,n]at f
  |some o=>simp[cx,n]at f;rw[f]
 obtain⟨vs,d,c⟩:=p.box b _ _ l q;have h:=(d.drop off).take ti.bP.length;have u:=d.length;have hl:((vs.drop off).take ti.bP.length).length=ti.bP.length:=yQ;refine⟨valOf ti ((vs.drop off).take ti.bP.length),?_,mO e yQ h⟩;intro w r
 have:=sV (P:=P) (w:=w) e (b:=gu) (o:=off) hl (by
  intro j v g
  have k:j<ti.bP.length:=by
   rcases bR j ti.bP.length with i|i
   ·exact i
   ·rw[bU (by rw[hl];exact i)]at g;simp at g
  rw[cN k,eN]at g;exact c w r _ _ g)
 simpa[Instr.loadAt,Instr.sureAddr]using this
def Kg(c:jl P t ti)(k:RW tt E Pp objs W)(hl:eM tt E Pp vs cs)
 (hV:∀(j:Nat) v,vs[j]? =some v->Pp ⟨b,o+j,none⟩ v) (i:off+ti.bP.length<=cs.length):
 ∃v,(∀w,W w->(Instr.loadAt t (.pointer (some ⟨b,o+off,none⟩))).run P w= .ok v w)/\VR tt E Pp v (eX ti ((cs.drop off).take ti.bP.length)):=by
 have f:=(hl.drop off).take ti.bP.length;have m:=hl.length;have d:((vs.drop off).take ti.bP.length).length=ti.bP.length:=yQ;refine⟨valOf ti ((vs.drop off).take ti.bP.length),?_,mO c yQ f⟩;intro w l
 have:=sV (P:=P) (w:=w) c (b:=b) (o:=o+off) d (by
  intro j v e
  have h:j<ti.bP.length:=by
   rcases bR j ti.bP.length with g|g
   ·exact g
   ·rw[bU (by rw[d];exact g)]at e;simp at e
  rw[cN h,eN]at e;have:=k.R7 l (hV _ _ e);rw[<- this,fi])
 simpa[Instr.loadAt,Instr.sureAddr]using this
def pB(c:jl P t ti){ps:List PV}(hl:vs.length=ti.bP.length)(d:ps.length=ti.bP.length)
 (hc:∀w,W w->∀(j:Nat) v,vs[j]? =some v->w.cell? ⟨b,o+j,none⟩=some v) (e:eM tt E Pp vs ps):
 ∃v,(∀w,W w->(Instr.loadAt t (.pointer (some ⟨b,o,none⟩))).run P w= .ok v w)/\VR tt E Pp v (eX ti ps):=by
 refine⟨valOf ti vs,?_,mO c d e⟩;intro w f;simpa[Instr.loadAt,Instr.sureAddr]using sV (P:=P) (w:=w) c hl (hc w f)
def Pv(B:ez P tt)(m:RW tt E Pp objs W)(hs:∀t,VR tt E Pp (a.tmps.getD t undef) (look s t))
 (h:cH dS tt (.load t x) ty s objs K):gZ P tt E Pp W (Instr.loadAt t (a.eval x)) K:=by
 simp only[cH]at h;split at h
 ·exact h.elim
 rename_i ti p;have k:=B _ _ p;have c:=fa hs x;simp only[cL,tF,zM]at h;split at h
 ·rename_i b off j;rw[j]at c;split at h
  ·rename_i cs n;cases hb:(iD off dC&&iD (off+ti.bP.length) cs.length)with
   |false=>rw[hb]at h;exact h.elim
   |true=>
    rw[hb]at h;rw[bn]at hb;generalize a.eval x=u at c ⊢;cases c with
    |box _ _ _ gu q hu=>obtain rfl:=hu.get hb.1;obtain⟨v,h1,h2⟩:=EO k m q n (dX hb.2);exact⟨v,_,h1,h2,h⟩
  ·exact h.elim
 ·rename_i e d i off j;rw[j]at c;cases hb:ic tt e off ti.bP with
  |false=>rw[hb]at h;exact h.elim
  |true=>
   rw[hb]at h;generalize a.eval x=u at c ⊢;cases c with
   |jv _ _ _ _ gu o len cap hr h0 h1=>obtain⟨vs,hl,hc,f⟩:=P1 m hr h0 h1 hb;obtain⟨v,h1,h2⟩:=pB k hl (iQ _ _ _ _) hc f;exact⟨v,_,h1,h2,h⟩
 ·rename_i e r i off j;rw[j]at c;cases hm:nb off dC with
  |true=>rw[hm]at h;exact h.elim
  |false=>
  rw[hm]at h;simp only[cond_false]at h;split at h
  ·rename_i e' d wr n;cases l:(nb e e'&&ic tt e off ti.bP)with
   |false=>rw[l]at h;exact h.elim
   |true=>
    rw[l]at h;simp only[bn]at l;obtain⟨he,hb⟩:=l;have A:e=e':=cX he;subst A;generalize a.eval x=u at c ⊢;rw[rO]at n
    have z:objs[r]? =some (.row e d wr):=by
     cases j:objs[r]? with
     |none=>simp[cx,j]at n
     |some o=>simp[cx,j]at n;rw[n]
    cases c with
    |fM _ _ _ _ _ g o len cap q h0 hu=>obtain⟨rfl,h1⟩:=hu.get hm;obtain⟨vs,hl,hc,f⟩:=LY m z q h0 h1 hb;obtain⟨v,h1,h2⟩:=pB k hl (iQ _ _ _ _) hc f;exact⟨v,_,h1,h2,h⟩
  ·exact h.elim
 ·rename_i cs off j;rw[j]at c;cases hm:nb off dC with
  |true=>rw[hm]at h;exact h.elim
  |false=>
  rw[hm]at h;cases hb:iD (off+ti.bP.length) cs.length with
  |false=>simp only[hb]at h;exact h.elim
  |true=>
   simp only[hb]at h;generalize a.eval x=u at c ⊢;cases c with
   |du _ vs _ _ b o hu hl hV=>obtain rfl:=hu.get hm;obtain⟨v,h1,h2⟩:=Kg k m hl hV (dX hb);exact⟨v,_,h1,h2,h⟩
 ·rename_i t' d off j;rw[j]at c;cases hb:ic tt t' off ti.bP with
  |false=>rw[hb]at h;exact h.elim
  |true=>
   rw[hb]at h;generalize a.eval x=u at c ⊢;cases c with
   |rP _ _ _ b o hr=>obtain⟨vs,hl,hc,f⟩:=Ba m hr hb;obtain⟨v,h1,h2⟩:=pB k hl (iQ _ _ _ _) hc f;exact⟨v,_,h1,h2,h⟩
 ·rename_i t' d j;rw[j]at c;cases hb:ic tt t' 0 ti.bP with
  |false=>rw[hb]at h;exact h.elim
  |true=>
   rw[hb]at h;obtain⟨C,h⟩:=h;generalize a.eval x=u at c ⊢;cases c with
   |dptr _ _ _ hr=>
    cases hr with
    |Ap=>simp at C
    |ptr _ b o ds vf hl hV iK=>obtain⟨vs,hl,hc,f⟩:=Ba m (.ptr _ b o ds vf hl hV iK) hb;obtain⟨v,h1,h2⟩:=pB k hl (iQ _ _ _ _) (yU hc) f;exact⟨v,_,h1,h2,h⟩
 ·exact h.elim
def HI(d:ez P tt){m n:Bool}(h:nZ dS (tt t) op (m==n) K):
 gZ P tt E Pp W (do eqGuard op t x y (.bool m) (.bool n);binOp op t (.bool m) (.bool n)) K:=by
 unfold nZ at h;split at h
 ·rename_i ti c;cases hk:isBool ti with
  |false=>rw[hk]at h;exact h.elim
  |true=>rw[hk]at h;have hb:=(d _ _ c).bool hk;refine Dm ?_ h;intro v e f w _;rcases f with rfl|rfl<;>simp[eqGuard_at_bool,binOp,Hu hb,e]
 ·exact h.elim
def NA(z:ez P tt)(hs:∀t,VR tt E Pp (a.tmps.getD t undef) (look s t)){H:TypeId}
 (h:cH dS tt (.binOp op t x y H) ty s objs K):gZ P tt E Pp W (do eqGuard op t x y (a.eval x) (a.eval y);binOp op t (a.eval x) (a.eval y)) K:=by
 simp only[cH]at h;have i:=fa hs x;have l:=fa hs y;split at h
 ·rename_i A
  have F:a.eval y= .slice none 0 0:=by
   unfold lO at A;split at A
   ·rfl
   ·cases A
  split at h
  ·rename_i e0 d ti j G;rw[j]at i;split at h
   ·rename_i e D;obtain⟨hu,_,_⟩:=(z _ _ G).slice D;generalize a.eval x=u at*;rw[F];cases i with
    |lst _ _ _ hr=>
     cases hr with
     |slnil=>exact⟨.bool true,_,by intro w _;simp[eqGuard,Go.Lib.run_eql_slice_nil w t _ none 0 0 0 0 hu],.bool _,h true (λ_=>by simp[dS,cg])⟩
     |Gy _ ad=>exact⟨.bool false,_,by intro w _;simp[eqGuard,Go.Lib.run_eql_slice_nil w t _ (some ad) 0 0 0 0 hu],.bool _,h false (λh=>yC h)⟩
     |sl _ b o len cap rows vf hl hc dN hV iK=>exact⟨.bool false,_,by intro w _;simp[eqGuard,Go.Lib.run_eql_slice_nil w t _ (some ⟨b,o,none⟩) len cap 0 0 hu],.bool _,h false (λh=>yC h)⟩
   ·exact h.elim
  ·exact h.elim
 generalize a.eval x=u at*;generalize a.eval y=v at*;split at h
 ·rename_i k m k' n j r;rw[j]at i;rw[r]at l;cases i;cases l;cases hk:Hf k k' with
  |false=>rw[hk]at h;exact h.elim
  |true=>
   rw[hk]at h;have:k=k':=by simpa[Hf]using hk
   subst this;exact Qb h
 ·rename_i m n j r;rw[j]at i;rw[r]at l;cases i;cases l;exact Qa h
 ·rename_i t' d j r;rw[j]at i;rw[r]at l;cases l;split at h
  ·rename_i ti g;cases hk:su ti with
   |false=>rw[hk]at h;exact h.elim
   |true=>
    rw[hk]at h;obtain⟨e,he⟩:=(z _ _ g).ptr hk;cases i with
    |dptr _ _ _ hr=>
     cases hr with
     |Ap=>refine Dm ?_ h;intro v C B w _;rcases B with rfl|rfl<;>simp[eqGuard_at_pointer,binOp,kg he,C]
     |ptr _ b o ds vf hl hV iK=>refine Dm ?_ h;intro v C B w _;rcases B with rfl|rfl<;>simp[eqGuard_at_pointer,binOp,kg he,C]
  ·exact h.elim
 ·rename_i cs off j r;rw[j]at i;rw[r]at l;cases l;cases hm:nb off dC with
  |true=>rw[hm]at h;exact h.elim
  |false=>
  rw[hm]at h;simp only[cond_false]at h;split at h
  ·rename_i ti g;cases hk:su ti with
   |false=>rw[hk]at h;exact h.elim
   |true=>
    rw[hk]at h;obtain⟨e,he⟩:=(z _ _ g).ptr hk;cases i with
    |du _ vs _ _ b o hu _ _=>
     obtain rfl:=hu.get hm
     cases op<;>first
      |exact h.elim
      |exact⟨.bool false,_,by intro w _;simp[eqGuard_at_pointer,binOp,kg he],.bl _,h⟩
      |exact⟨.bool true,_,by intro w _;simp[eqGuard_at_pointer,binOp,kg he],.bl _,h⟩
  ·exact h.elim
 ·rename_i I off j r;rw[j]at i;rw[r]at l;cases l;split at h
  ·rename_i ti g;cases hk:(su ti&&iD _ dC)with
   |false=>rw[hk]at h;exact h.elim
   |true=>
    rw[hk]at h;rw[bn]at hk;obtain⟨e,he⟩:=(z _ _ g).ptr hk.1;cases i with
    |box _ _ _ gu _ hu=>
     obtain rfl:=hu.get hk.2
     cases op<;>first
      |exact h.elim
      |exact⟨.bool false,_,by intro w _;simp[eqGuard_at_pointer,binOp,kg he],.bl _,h⟩
      |exact⟨.bool true,_,by intro w _;simp[eqGuard_at_pointer,binOp,kg he],.bl _,h⟩
  ·exact h.elim
 ·rename_i j r;rw[j]at i;rw[r]at l;cases l;split at h
  ·rename_i ti g;cases hk:zp ti with
   |false=>rw[hk]at h;exact h.elim
   |true=>
    rw[hk]at h;obtain⟨p,q,v,he⟩:=(z _ _ g).fn hk;cases i with
    |cu _ f' _ _ hu _=>
    obtain⟨f,a,c,rfl⟩:=nz.fn hu
    cases op<;>first
     |exact h.elim
     |exact⟨.bool false,_,by intro w _;simp[eqGuard_at_func,binOp,(uu he).1],.bl _,h⟩
     |exact⟨.bool true,_,by intro w _;simp[eqGuard_at_func,binOp,(uu he).1],.bl _,h⟩
  ·exact h.elim
 ·rename_i j r;rw[j]at i;rw[r]at l;cases i;cases l;split at h
  ·rename_i ti g;cases hk:zp ti with
   |false=>rw[hk]at h;exact h.elim
   |true=>
    rw[hk]at h;obtain⟨p,q,v,he⟩:=(z _ _ g).fn hk
    cases op<;>first
     |exact h.elim
     |exact⟨.bool false,_,by intro w _;simp[eqGuard_at_nilFunc,binOp,(uu he).2],.bl _,h⟩
     |exact⟨.bool true,_,by intro w _;simp[eqGuard_at_nilFunc,binOp,(uu he).2],.bl _,h⟩
  ·exact h.elim
 ·rename_i j r;rw[j]at i;rw[r]at l;cases l;split at h
  ·rename_i ti g;cases hk:su ti with
   |false=>rw[hk]at h;exact h.elim
   |true=>
    rw[hk]at h;obtain⟨e,he⟩:=(z _ _ g).ptr hk;cases i with
    |nilp=>
     cases op<;>first
      |exact h.elim
      |exact⟨.bool true,_,by intro w _;simp[eqGuard_at_pointer,binOp,kg he],.bl _,h⟩
      |exact⟨.bool false,_,by intro w _;simp[eqGuard_at_pointer,binOp,kg he],.bl _,h⟩
  ·exact h.elim
 all_goals first
  |exact h.elim
  |(rename_i m n j r
    rw[j]at i;rw[r]at l;cases i;cases l;exact HI z h)
def nB{v:Value}{q:PV}(h:VR tt E Pp v q)(j:flat q≠[]):eM tt E Pp v.cells.toList (flat q):=by
 cases h with
 |undef=>simp[flat]at j
 |agg vs cs hl=>exact hl
 |lst e v d hr=>cases hr<;>exact .cons _ _ _ _ (.lst _ _ _ (by constructor<;>assumption)) .nil
 |om e a n d hr=>exact .cons _ _ _ _ (.om _ _ _ _ hr) .nil
 |dptr t v d hr=>cases hr<;>exact .cons _ _ _ _ (.dptr _ _ _ (by constructor<;>assumption)) .nil
 |int=>exact .cons _ _ _ _ (.int _ _) .nil
 |bl=>exact .cons _ _ _ _ (.bl _) .nil
 |bool=>exact .cons _ _ _ _ (.bool _) .nil
 |str=>exact .cons _ _ _ _ (.str _) .nil
 |nilp=>exact .cons _ _ _ _ .nilp .nil
 |nilm=>exact .cons _ _ _ _ .nilm .nil
 |lj=>exact .cons _ _ _ _ .lj .nil
 |nilf=>exact .cons _ _ _ _ .nilf .nil
 |tup vs cs hl=>exact .cons _ _ _ _ (.tup _ _ hl) .nil
 |box _ _ off _ c hu=>
  have:v.cells.toList=[v]:=by
   by_cases g:off<=dC
   ·rw[hu.1 g];rfl
   ·rw[hu.2 (off-(dC+1)) yO];rfl
  rw[this];exact .cons _ _ _ _ (.box _ _ _ _ c hu) .nil
 |row0 _ _ c=>exact .cons _ _ _ _ (.row0 _ _ c) .nil
 |row _ _ _ _ _ _ c=>exact .cons _ _ _ _ (.row _ _ _ _ _ _ c) .nil
 |fM _ _ _ _ off _ _ _ _ c h0 h1=>
  have:v.cells.toList=[v]:=by
   by_cases g:off=dC
   ·obtain⟨⟨k,e,_⟩,_⟩:=h1.2 g;rw[e];rfl
   ·rw[(h1.1 g).1];rfl
  rw[this];exact .cons _ _ _ _ (.fM _ _ _ _ _ _ _ _ _ c h0 h1) .nil
 |jv _ _ _ _ _ _ _ _ hr h0 h1=>exact .cons _ _ _ _ (.jv _ _ _ _ _ _ _ _ hr h0 h1) .nil
 |du _ _ _ off _ _ hu hl i=>
  have:v.cells.toList=[v]:=by
   by_cases g:off=dC
   ·rw[hu.2 g];rfl
   ·rw[hu.1 g];rfl
  rw[this];exact .cons _ _ _ _ (.du _ _ _ _ _ _ hu hl i) .nil
 |rP _ _ _ _ _ hr=>exact .cons _ _ _ _ (.rP _ _ _ _ _ hr) .nil
 |cu _ f _ _ hu hl=>
  have:v.cells.toList=[v]:=by
   rcases bR f kB with hb|hb
   ·rw[hu.1 hb];rfl
   ·rw[hu.2 hb];rfl
  rw[this];exact .cons _ _ _ _ (.cu _ _ _ _ hu hl) .nil
 |mp _ _ _ _ c=>exact .cons _ _ _ _ (.mp _ _ _ _ c) .nil
 |dmp t e v d hr=>
  rcases hr.rH with⟨rfl,rfl⟩|⟨b,es,clock,rows,rfl,rfl,m⟩
  ·exact .cons _ _ _ _ (.dmp _ _ _ _ hr) .nil
  ·exact .cons _ _ _ _ (.dmp _ _ _ _ hr) .nil
 |kF _ _ c=>exact .cons _ _ _ _ (.kF _ _ c) .nil
 |it _ _ c=>exact .cons _ _ _ _ (.it _ _ c) .nil
def xS(l:List PV)(n:Nat):od l n []=l:=by cases l<;>cases n<;>rfl
def qz:∀(l:List PV)(n:Nat)(ys:List PV),(od l n ys).length=l.length
 |l,n,[]=>by rw[xS]
 |[],n,y::ys=>by cases n<;>rfl
 |x::xs,0,y::ys=>by simp[od,qz xs 0 ys]
 |x::xs,n+1,y::ys=>by simp[od,qz xs n (y::ys)]
def xT:∀(l:List PV)(n:Nat)(ys:List PV),n+ys.length<=l.length->∀j:Nat,(od l n ys)[j]? =if n<=j/\j<n+ys.length then ys[j-n]? else l[j]?
 |l,n,[],_,j=>by rw[xS,if_neg (by simp<;>omega)]
 |[],n,y::ys,h,j=>yE h
 |x::xs,0,y::ys,h,j=>by
  simp only[od];cases j with
  |zero=>simp
  |succ j=>have:=xT xs 0 ys (yU h) j;simp only[kI,this];simp
 |x::xs,n+1,y::ys,h,j=>by
  simp only[od];cases j with
  |zero=>simp
  |succ j=>
   have:=xT xs n (y::ys) (by simp at h ⊢;omega) j;simp only[kI,this];by_cases hc:n<=j/\j<n+(y::ys).length
   ·rw[if_pos hc,if_pos yO];congr 1;omega
   ·rw[if_neg hc,if_neg yO]
def sv(ys:List Value):∀(off k:Nat)(vs:Array Value)(j:Nat),off+k+ys.length<=vs.size->
 ((ys.zipIdx k).foldl (λcs (x:Value×Nat)=>cs.setIfInBounds (off+x.2) x.1) vs)[j]? =if off+k<=j/\j<off+k+ys.length then ys[j-(off+k)]? else vs[j]? :=by
 induction ys with
 |nil=>intro off k vs j _;simp;omega
 |cons y ys c=>
  intro off k vs j h;simp only[List.zipIdx_cons,fy];rw[c off (k+1) _ j (by simp at h ⊢;omega)];by_cases h1:off+(k+1)<=j/\j<off+(k+1)+ys.length
  ·rw[if_pos h1,if_pos yQ];rw[show j-(off+k)=(j-(off+(k+1)))+1 by omega];simp
  ·rw[if_neg h1];by_cases h2:j=off+k
   ·subst h2;rw[if_pos yS,eb (by simp at h;omega)];simp
   ·rw[if_neg yQ,fT yO]
def qU(ys:List Value):∀(off k:Nat)(vs:Array Value),((ys.zipIdx k).foldl (λcs (x:Value×Nat)=>cs.setIfInBounds (off+x.2) x.1) vs).size=vs.size:=by
 induction ys with
 |nil=>intro off k vs;simp
 |cons y ys c=>intro off k vs;simp only[List.zipIdx_cons,fy];rw[c];simp
def OX{us:List Value}{d q:List PV}(f:eM tt E Pp vs d)(hu:eM tt E Pp us q)(h:off+q.length<=d.length):
 eM tt E Pp ((us.zipIdx).foldl (λcs (x:Value×Nat)=>cs.setIfInBounds (off+x.2) x.1) (⟨vs⟩:Array Value)).toList (od d off q):=by
 have l1:=f.length;have l2:=hu.length;refine eM.mX ?_ ?_
 ·have:=qU us off 0 ⟨vs⟩;simp only[qz];simp at this ⊢;omega
 ·intro j v p c e;rw[xT _ _ _ h]at e;have:=sv us off 0 ⟨vs⟩ j yQ;rw[gM,this]at c;simp only[iw]at c;by_cases hc:off<=j/\j<off+q.length
  ·rw[if_pos hc]at e;rw[if_pos yO]at c;obtain⟨g,h1,h2⟩:=hu.get e;rw[c]at h1;cases h1;exact h2
  ·rw[if_neg hc]at e;rw[if_neg yO]at c;obtain⟨g,h1,h2⟩:=f.get e;simp at c;rw[c]at h1;cases h1;exact h2
def C4(hs:∀t,VR tt E Pp (a.tmps.getD t undef) (look s t))(fs:List (Nat×TypeId))(c:Nat->Option (Nat×Nat))
 (l:∀(i off:Nat) g f,vN fs i=some (off,g)->tt g=some f->c i=some (off,f.bP.length)):
 ∀(ps:List (Nat×Operand))(e:List PV)(vs:List Value)(out:List PV),eM tt E Pp vs e->mw s tt fs ps e=some out->
  ∃us,Instr.fill c ⟨vs⟩ (ps.map λp=>(p.1,a.eval p.2))=some ⟨us⟩/\eM tt E Pp us out:=by
 intro ps;induction ps with
 |nil=>intro e vs out k h;simp[mw]at h;subst h;exact⟨vs,rfl,k⟩
 |cons p ps r=>
  intro e vs out k h;obtain⟨i,x⟩:=p;simp only[mw]at h;split at h
  ·rename_i off g hf;split at h
   ·rename_i f q;have v:=iL hs g x;cases hc:(nb (bY (flat (fG tt s g x))) (bY f.bP)&&iD (off+bY f.bP) (bY e)&&iC 0 (bY f.bP))with
    |false=>rw[hc]at h;simp at h
    |true=>
     rw[hc]at h;simp only[bn]at hc;obtain⟨⟨h1,h2⟩,h3⟩:=hc;have h1:=cX h1;have h2:=dX h2;have h3:0+1<=bY f.bP:=dX h3;simp only[cL]at h1 h2 h3;have d:=nB v (by intro h0;rw[h0]at h1;simp at h1;omega);have oV:=d.length;have u:=k.length;have j:=OX k d (off:=off) yO;obtain⟨us,m,n⟩:=r _ _ _ j h;refine⟨us,?_,n⟩;simp only[bF,Instr.fill,l _ _ _ _ hf q];have fW:(a.eval x).cells.size=f.bP.length:=by rw[<- fI];omega
     rw[if_neg (by simp[fW];omega)];rw[<- m]
     congr 1
     apply gL;simp only[<- vZ,K6]
   ·simp at h
  ·simp at h
end
end
section
variable [Inhabited pY]
open Go
section
variable {P:Program}{tt:TypeId->Option TI}{E:List RI}{Pp:fQ}{objs:List Ob}{w:World}{W:World->Prop}
variable {a:Act}{s:cS}{ty t e B:TypeId}{K:PV->Prop}{x:Operand}{k:IntKind}{o i f l h b len cap m r:Nat}{A ti:TI}{vs:List Value}{n:Int}{rows:List (List D)}{v:Value}{p:PV}{c:CK}{cs:List PV}{ts:Array TypeId}{ps:Array (Nat×Operand)}
def di{o:Ob}(h:eG objs i=o)(hl:o.live=true):objs[i]? =some o:=by
 rw[rO]at h;cases d:objs[i]? with
 |none=>simp[cx,d]at h;subst h;simp[Ob.live]at hl
 |some o'=>simp[cx,d]at h;rw[h]
def Av(g:jl P B A)(d:A.bP≠[])(f:Go.Field)(hf:f.type=B)(a:Addr):(fieldPlace a f).run P w= .ok (a.add f.offset) w:=by
 obtain⟨_,h2,_,_⟩:=g.run w;simp only[fieldPlace,hf,Sem.run_bind,h2,Result.andThen_ok];have:A.bP.length≠0:=by intro h;exact d (List.length_eq_zero_iff.1 h)
 simp[this]
def C5(C:ez P tt)(hs:∀t,VR tt E Pp (a.tmps.getD t undef) (look s t))
 (h:cH dS tt (.fieldAddr t x f) ty s objs K):gZ P tt E Pp W (Instr.fieldAt t (a.eval x) f) K:=by
 simp only[cH]at h;split at h
 ·exact h.elim
 rename_i ti z;split at h
 ·exact h.elim
 rename_i fo B hf;split at h
 ·exact h.elim
 rename_i A y;have H:=C _ _ z;have J:=C _ _ y;split at h
 ·exact h.elim
 rename_i u;have u:A.bP≠[]:=u;obtain⟨fields,fl,hu,G,M,I,_⟩:=H.field hf;have q:=fa hs x;generalize a.eval x=v at*;have go:∀(ad:Addr) pv,VR tt E Pp (.pointer (some (ad.add fo))) pv->K pv->gZ P tt E Pp W (Instr.fieldAt t (.pointer (some ad)) f) K:=by intro ad pv h1 h2;refine⟨_,pv,λw _=>?_,h1,h2⟩;simp[Instr.fieldAt,run_underlying hu,G,Instr.sureAddr,Av J u fl I,M]
 split at h
 ·rename_i b off e;rw[e]at q;cases q with
  |box _ _ _ gu F hu=>
   cases hb:(iD off dC&&iD (off+fo) dC)with
   |false=>rw[hb]at h;exact h.elim
   |true=>rw[hb]at h;rw[bn]at hb;obtain rfl:=hu.get hb.1;exact go _ _ (by rw[fh];exact .box _ _ _ _ F (.mk hb.2)) h
 ·rename_i e' d i off e;rw[e]at q;cases q with
  |jv _ _ _ _ b o len cap hr h0 h1=>exact go _ _ (by rw[fh,fi];exact .jv _ _ _ _ _ _ _ _ hr h0 h1) h
 ·rename_i e' r i off e;rw[e]at q;cases q with
  |fM _ _ _ _ _ g o len cap F h0 hu=>
   cases hm:nb off dC with
   |true=>rw[hm]at h;exact h.elim
   |false=>
   rw[hm]at h;simp only[cond_false]at h;cases j:nb (off+fo) dC with
   |true=>rw[j]at h;exact h.elim
   |false=>
   rw[j]at h;obtain⟨rfl,h1⟩:=hu.get hm;exact go _ _ (by rw[fh,fi];exact .fM _ _ _ _ _ _ _ _ _ F h0 (.mk rfl j h1)) h
 ·rename_i cs off e;rw[e]at q;cases q with
  |du _ _ _ _ b o hu hl L=>
   cases hm:nb off dC with
   |true=>rw[hm]at h;exact h.elim
   |false=>
   rw[hm]at h;simp only[cond_false]at h;cases j:nb (off+fo) dC with
   |true=>rw[j]at h;exact h.elim
   |false=>rw[j]at h;obtain rfl:=hu.get hm;exact go _ _ (by rw[fh,fi];exact .du _ _ _ _ _ _ (qF.mk j) hl L) h
 ·rename_i t' d off e;rw[e]at q;cases q with
  |rP _ _ _ b o hr=>exact go _ _ (by rw[fh,fi];exact .rP _ _ _ _ _ hr) h
 ·exact h.elim
def CH(d:jl P B A){off:Nat}(h:off+A.bP.length<=vs.length):
 (part B ⟨vs⟩ off).run P w= .ok (valOf A ((vs.drop off).take A.bP.length)) w:=by
 obtain⟨h1,h2,_,_⟩:=d.run w;unfold part valOf;simp only[Sem.run_bind,h1,Result.andThen_ok];cases ha:A.agg with
 |true=>simp only[if_true,Sem.run_bind,h2,Result.andThen_ok,Sem.run_pure];simp[F6]
 |false=>
  obtain⟨c,hc⟩:=d.single ha;rw[hc]at h ⊢;simp at h;have:off<vs.length:=yO;have e1:(⟨vs⟩:Array Value)[off]? =some vs[off]:=by simp[this]
  have e2:((vs.drop off).take [c].length).headD undef=vs[off]:=by rw[bJ this];rfl
  simp only[cA,if_false,e1,e2,Sem.run_pure]
def M6(q:ez P tt)(hs:∀t,VR tt E Pp (a.tmps.getD t undef) (look s t))
 (h:cH dS tt (.field t x f) ty s objs K):gZ P tt E Pp W (Instr.field t (a.eval x) f) K:=by
 simp only[cH]at h;split at h
 ·exact h.elim
 rename_i ti g;split at h
 ·exact h.elim
 rename_i fo B hf;split at h
 ·exact h.elim
 rename_i A d;have y:=q _ _ g;have j:=q _ _ d;obtain⟨fields,fl,hu,u,F,z,_⟩:=y.field hf;have C:=fa hs x;generalize a.eval x=v at*;split at h
 ·rename_i cs e;rw[e]at C;simp only[cL,tF,zM]at h;cases hb:iD (fo+A.bP.length) cs.length with
  |false=>rw[hb]at h;exact h.elim
  |true=>
   rw[hb]at h;have hb:=dX hb;cases C with
   |agg vs _ hl=>have G:=hl.length;refine⟨_,_,λw _=>?_,mO j yQ ((hl.drop fo).take A.bP.length),h⟩;have:=CH (P:=P) (w:=w) j (vs:=vs) (off:=fo) yO;simp[Instr.field,run_underlying hu,u,asAgg,z,F,this]
 ·exact h.elim
def rK{j:Nat}(h:CT n=some j):n=(j:Int):=by
 cases n with
 |ofNat k=>simp only[CT,cw]at h;subst h;rfl
 |negSucc k=>simp[CT]at h
def jl.uC{P:Program}(h:jl P t ti)(ha:ti.agg=true)(g:ti.ar≠0):∃n,P.underlying t=some (.array n ti.el)/\ti.ar=n+1:=by obtain⟨n,e,hu⟩:=h.arr ha g;obtain⟨_,_,d,_,_,_,_,_,_,j,q⟩:=h.info;rw[hu]at j;cases j;obtain⟨_,h1,h2,_⟩:=q;exact⟨n,by rw[h2];exact hu,h1⟩
def CY(L:ez P tt)(hw:RW tt E Pp objs W)(hs:∀t,VR tt E Pp (a.tmps.getD t undef) (look s t)){i:Operand}
 (h:cH dS tt (.indexAddr t x i) ty s objs K):gZ P tt E Pp W (Instr.indexAt t (a.eval x) (a.eval i)) K:=by
 simp only[cH]at h;split at h
 ·exact h.elim
 rename_i ti ah;have O:=L _ _ ah;have T:=fa hs x;have S:=fa hs i;generalize a.eval x=v at*;generalize a.eval i=u at*;split at h
 ·rename_i e0 e d k n h1 h2 h3;rw[h2]at T;rw[h3]at S;cases hb:nb e0 e with
  |false=>rw[hb]at h;exact h.elim
  |true=>
   rw[hb]at h;have:=cX hb;subst this;obtain⟨hu,X,_⟩:=O.slice h1;obtain⟨I,h⟩:=h;split at h
   ·rename_i J y;have M:bN tt e0=J.bP:=by simp[bN,y]
    cases S;obtain⟨R,G⟩:=I;cases T with
    |lst _ _ _ hr=>
     cases hr with
     |slnil=>simp[cg]at G;omega
     |Gy _ ad=>simp[cg]at G;omega
     |sl _ b o len cap rows vf hl hc dN hV iK=>
      have dA:n<(len:Int):=by simp[cg]at G;omega
      refine⟨_,_,λw _=>?_,.jv e0 _ n 0 b o len cap (.sl e0 b o len cap rows vf hl hc dN hV iK) R dA,h⟩;have C:=(L _ _ y).run w;have q:P.elem t=e0:=by simp[Program.elem,hu]
      rw[run_indexAt_slice w t _ _ _ _ _ (by rw[q];exact hu),if_pos ⟨R,dA⟩,q,C.2.1];simp[fh,M]
   ·exact h.elim
 ·rename_i e0 e r k n h1 h2 h3;rw[h2]at T;rw[h3]at S;cases hb:nb e0 e with
  |false=>rw[hb]at h;exact h.elim
  |true=>
   rw[hb]at h;have:=cX hb;subst this;obtain⟨hu,X,_⟩:=O.slice h1;simp only[cond_true]at h;split at h
   ·rename_i e' d wr ho;cases Q:nb e0 e' with
    |false=>rw[Q]at h;exact h.elim
    |true=>
     rw[Q]at h;have:=cX Q;subst this;obtain⟨I,h⟩:=h;split at h
     ·rename_i J y;have M:bN tt e0=J.bP:=by simp[bN,y]
      cases S;obtain⟨R,G⟩:=I;have Y:=di ho rfl;cases T with
      |row0 _ _ U=>have:d= .list []:=hw.row0 _ _ _ _ Y U;subst this;simp[cg]at G;omega
      |row _ _ g o len cap U=>
       obtain⟨vals,rows,rfl,hl,dN,ac⟩:=hw.row _ _ _ _ _ _ _ _ Y U;have dA:n<(len:Int):=by simp[cg]at G;omega
       refine⟨_,_,λw _=>?_,.fM _ e0 r n 0 g o len cap U R (.mk rfl rfl dA),h⟩;have C:=(L _ _ y).run w;have q:P.elem t=e0:=by simp[Program.elem,hu]
       rw[run_indexAt_slice w t _ _ _ _ _ (by rw[q];exact hu),if_pos ⟨R,dA⟩,q,C.2.1];simp[fh,M]
     ·exact h.elim
   ·exact h.elim
 ·rename_i e0 e r i off k n h1 h2 h3;rw[h2]at T;rw[h3]at S;cases hb:(nb e0 e&&nb off dC)with
  |false=>rw[hb]at h;exact h.elim
  |true=>
   rw[hb]at h;simp only[bn]at hb;have:=cX hb.1;subst this;have Z:=cX hb.2;subst Z;obtain⟨hu,X,_⟩:=O.slice h1;simp only[cond_true]at h;split at h
   ·rename_i e' d wr ho;cases Q:nb e0 e' with
    |false=>rw[Q]at h;exact h.elim
    |true=>
     rw[Q]at h;have:=cX Q;subst this;obtain⟨I,h⟩:=h;split at h
     ·rename_i J y;have M:bN tt e0=J.bP:=by simp[bN,y]
      cases S;obtain⟨R,G⟩:=I;have Y:=di ho rfl;cases T with
      |fM _ _ _ _ _ g o len cap U h0 hv=>
       obtain⟨⟨o1,rfl,V⟩,ap⟩:=hv.M0;obtain⟨vals,rows,rfl,hl,dN,ac⟩:=hw.row _ _ _ _ _ _ _ _ Y U;have G:n<(rows.length:Int)-i:=G;have dA:n<((len-i.toNat:Nat):Int):=yO
       have V:o1=o+i.toNat*(bN tt e0).length:=by
        rcases V with e|e
        ·exact e
        ·exfalso;omega
       refine⟨_,.fM e0 r (i+n) 0,λw _=>?_,.fM (.pointer (some ⟨g,o+(i+n).toNat*(bN tt e0).length+0,none⟩)) e0 r (i+n) 0 g o len cap U yO (.mk rfl rfl yO),h⟩;have C:=(L _ _ y).run w;have q:P.elem t=e0:=by simp[Program.elem,hu]
       rw[run_indexAt_slice w t _ _ _ _ _ (by rw[q];exact hu),if_pos ⟨R,dA⟩,q,C.2.1];have e2:(i+n).toNat=i.toNat+n.toNat:=yO;simp[fh,M,V,e2,dz,fi]
     ·exact h.elim
   ·exact h.elim
 ·rename_i e0 cs off k n h1 h2 h3;rw[h2]at T;rw[h3]at S;split at h
  ·rename_i J j y hj;cases hb:(nb off dC&&nb (bY J.bP) 1&&iC j (bY cs))with
   |false=>rw[hb]at h;exact h.elim
   |true=>
    rw[hb]at h;simp only[bn]at hb;obtain⟨⟨Z,z⟩,H⟩:=hb;have Z:=cX Z;subst Z;have z:=cX z;have H:=dX H;rw[cL]at z H;have hn:=rK hj;subst hn;obtain⟨hu,X,_⟩:=O.slice h1;simp only[cond_true]at h;cases N:nb j dC with
    |true=>rw[N]at h;exact h.elim
    |false=>
    rw[N]at h;cases S;cases T with
    |du _ vs _ _ b o hv hl hp=>
     obtain rfl:=hv.M0;have an:=hl.length;have dA:((j:Nat):Int)<(vs.length:Int):=yO;refine⟨_,_,λw _=>?_,.du _ vs cs j b o (qF.mk N) hl hp,h⟩;have C:=(L _ _ y).run w;have q:P.elem t=e0:=by simp[Program.elem,hu]
     rw[run_indexAt_slice w t _ _ _ _ _ (by rw[q];exact hu),if_pos ⟨eO _,dA⟩,q,C.2.1];simp[fh,z]
  ·exact h.elim
 ·rename_i e0 b off k n h1 h2 h3;rw[h2]at T;rw[h3]at S;split at h
  ·rename_i J j y hj;cases hb:(nb (bY J.bP) 1&&iC dC off&&iC j (off-(dC+1))&&iD j dC)with
   |false=>rw[hb]at h;exact h.elim
   |true=>
    rw[hb]at h;simp only[bn]at hb;obtain⟨⟨⟨z,h4⟩,h5⟩,h6⟩:=hb;have z:=cX z;have h4:=dX h4;have h5:=dX h5;rw[cL]at z;have hn:=rK hj;subst hn;obtain⟨hu,X,_⟩:=O.slice h1;cases S;cases T with
    |box _ _ _ gu U hv=>
     obtain rfl:=hv.2 (off-(dC+1)) yO;refine⟨_,_,λw _=>?_,.box _ b j gu U (.mk h6),h⟩;have C:=(L _ _ y).run w;have q:P.elem t=e0:=by simp[Program.elem,hu]
     rw[run_indexAt_slice w t _ _ _ _ _ (by rw[q];exact hu),if_pos ⟨eO _,yO⟩,q,C.2.1];simp[fh,z]
  ·exact h.elim
 ·rename_i b off k n h1 h2 h3;rw[h2]at T;rw[h3]at S;split at h
  ·rename_i J j y hj;cases hb:(ti.agg&&iC j (ti.ar-1)&&iC 0 (bY J.bP)&&iD off dC&&iD (off+j*bY J.bP) dC)with
   |false=>rw[hb]at h;exact h.elim
   |true=>
    rw[hb]at h;simp only[bn]at hb;obtain⟨⟨⟨⟨ab,H⟩,ag⟩,V⟩,am⟩:=hb;have H:=dX H;have hn:=rK hj;subst hn;obtain⟨n,hu,ai⟩:=O.uC ab yO;cases S;cases T with
    |box _ _ _ gu U hv=>
     obtain rfl:=hv.get V;refine⟨_,_,λw _=>?_,.box _ b (off+j*bY J.bP) gu U (.mk am),h⟩;have C:=(L _ _ y).run w;have q:P.elem t=ti.el:=by simp[Program.elem,hu]
     have F:P.arrayLen t=n:=by simp[Program.arrayLen,hu]
     rw[run_indexAt_array w t _ _ _ (by rw[q,F];exact hu),F,if_pos ⟨eO _,yO⟩,q,C.2.1];simp[fh,cL,fi]
  ·exact h.elim
 ·rename_i cs off k n h1 h2 h3;rw[h2]at T;rw[h3]at S;split at h
  ·rename_i J j y hj;cases hb:(ti.agg&&iC j (ti.ar-1)&&iC 0 (bY J.bP))with
   |false=>rw[hb]at h;exact h.elim
   |true=>
    rw[hb]at h;simp only[bn]at hb;obtain⟨⟨ab,H⟩,ag⟩:=hb;have H:=dX H;have hn:=rK hj;subst hn;obtain⟨n,hu,ai⟩:=O.uC ab yO;simp only[cond_true]at h;cases Z:nb off dC with
    |true=>rw[Z]at h;exact h.elim
    |false=>
    rw[Z]at h;simp only[cond_false]at h;cases N:nb (off+j*bY J.bP) dC with
    |true=>rw[N]at h;exact h.elim
    |false=>
    rw[N]at h;cases S;cases T with
    |du _ vs _ _ b o hv hl hp=>
     obtain rfl:=hv.get Z;refine⟨_,_,λw _=>?_,.du _ vs cs (off+j*bY J.bP) b o (qF.mk N) hl hp,h⟩;have C:=(L _ _ y).run w;have q:P.elem t=ti.el:=by simp[Program.elem,hu]
     have F:P.arrayLen t=n:=by simp[Program.arrayLen,hu]
     rw[run_indexAt_array w t _ _ _ (by rw[q,F];exact hu),F,if_pos ⟨eO _,yO⟩,q,C.2.1];simp[fh,cL,fi]
  ·exact h.elim
 ·exact h.elim
def iP(hs:∀t,VR tt E Pp (a.tmps.getD t undef) (look s t)){o:Option Operand}{d:Int}{K:Int->Prop}(h:tW s o d K):
 ∃n,K n/\((o=none/\n=d)\/∃x k,o=some x/\a.eval x= .int k n):=by
 unfold tW at h;split at h
 ·exact⟨d,h,.inl ⟨rfl,rfl⟩⟩
 ·rename_i x;split at h
  ·rename_i k n j;have:=fa hs x;rw[j]at this;generalize g:a.eval x=v at*;cases this;exact⟨n,h,.inr ⟨x,_,rfl,g⟩⟩
  ·exact h.elim
def eD{y:Nat}{c:BoundsCode}(h:0<=n/\n<=y):(Instr.sliceBound (.int k n) y c).run P w= .ok n.toNat w:=by simp[Instr.sliceBound,asIntOf,h]
def A4:((rows.drop l).take (h-l))[i]? =if i<h-l then rows[l+i]? else none:=by rw[oD];split<;>simp[eN]
def RD.part{e:Nat}(hr:RD tt Pp (.slice e) (.slice (some ⟨b,o,none⟩) len cap) (.list rows))(C:l<=h)(F:h<=m)(z:h<=len):
 RD tt Pp (.slice e) (.slice (some (if m=l then(⟨b,o,none⟩:Addr)else⟨b,o+l*(bN tt e).length,none⟩)) (h-l) (m-l)) (.list ((rows.drop l).take (h-l))):=by
 cases hr with
 |Gy _ ad=>have:h=0:=yO;have:l=0:=yO;subst_vars;split<;>exact .sl e b _ 0 _ _ (λ_ _=>undef) yS yO (λi row g=>yE g) (λi j g=>yO) (λi j row d ck g=>yE g)
 |sl _ _ _ _ _ _ vf hl hc dN hV iK=>
  by_cases q:m=l
  ·rw[if_pos q];have:h-l=0:=yO;rw[this];exact .sl e b o 0 (m-l) _ (λ_ _=>undef) yS yO (λi row g=>yE g) (λi j g=>yO) (λi j row d ck g=>yE g)
  ·rw[if_neg q];refine .sl e b _ (h-l) (m-l) _ (λi j=>vf (l+i) j) yQ yO ?_ ?_ ?_
   ·intro i row g;rw[A4]at g;split at g
    ·exact dN _ _ g
    ·simp at g
   ·intro i j g u;have:=hV (l+i) j yO u
    rwa [show o+l*(bN tt e).length+i*(bN tt e).length+j=o+(l+i)*(bN tt e).length+j by rw[dz];omega]
   ·intro i j row d ck g u y;rw[A4]at g;split at g
    ·exact iK _ _ _ _ _ g u y
    ·simp at g
def ND(u:RW tt E Pp objs W)(h:VR tt E Pp v p):VR tt E Pp v (NF objs p):=by
 unfold NF;split
 ·rename_i e r;split
  ·rename_i e' d y;cases hb:nb e e' with
   |false=>exact .undef _
   |true=>
    have:=cX hb;subst this;have j:=di y rfl;cases h with
    |row0 _ _ q=>have:=u.row0 _ _ _ _ j q;subst this;exact .lst _ _ _ (.slnil _)
    |row _ _ g o len cap q=>exact .lst _ _ _ (u.nN _ _ _ _ _ _ _ j q)
  ·exact .undef _
 ·exact h
def Hm(h:s8 c p=true)(d:VR tt E Pp v p):RD tt Pp c v (rY p):=by
 cases d<;>cases c<;>simp only[s8,decide_eq_true_eq,cA]at h
 case int.int=>subst h;exact .int _ _
 case bl.bool=>exact .bool _
 case bool.bool=>exact .bool _
 case str.str=>exact .str _
 case lst.slice=>have:=cX h;subst this;assumption
 case dptr.ptr=>have:=cX h;subst this;assumption
 case nilp.ptr=>exact .Ap _
 case nilm.map=>exact .CP _ _
 case dmp.map=>
  have:=cX h;subst this;rename_i hr;rcases hr.rH with⟨rfl,rfl⟩|⟨b,es,clock,rows,rfl,rfl,m⟩
  ·exact .CP _ _
  ·exact m.rd _
 case nilf.fn=>exact .M3
def y5(l:List PV):EK l=l.map λp=>[rY p]:=by induction l<;>simp[EK, *]
def wM:∀{cs:List PV},rQ [c] cs=true->∀p∈cs,s8 c p=true
 |[],_,p,d=>yE d
 |q::cs,h,p,d=>by
  simp only[rQ,bn]at h;rcases bx.1 d with rfl|d
  ·exact h.1
  ·exact wM h.2 p d
def Nq{bP:List CK}(q:bN tt e=bP)(z:bP.length=1)(ec:rQ bP cs=true)(hl:eM tt E Pp vs cs)
 (G:∀(j:Nat) v,vs[j]? =some v->Pp ⟨b,o+j,none⟩ v) (J:cs.length=r) (H:r<=m):RD tt Pp (.slice e) (.slice (some ⟨b,o,none⟩) r m) (.list (EK cs)):=by
 match bP,z with
 |[c],_=>
 have I:=hl.length;refine .sl e b o r m _ (λi _=>vs.getD i undef) (by rw[y5,bA,J]) H ?_ ?_ ?_
 ·intro i row g;rw[y5,cC]at g;cases u:cs[i]? with
  |none=>rw[u]at g;cases g
  |some p=>rw[u]at g;cases g;rw[q];rfl
 ·intro i j g y;rw[q]at y ⊢;have F:j=0:=yU y;subst F;have C:i<vs.length:=yO;have:=G i vs[i] (bu C);simpa[cx,C]using this
 ·intro i j row d ck g y hc;rw[q]at hc;rw[y5,cC]at g;cases u:cs[i]? with
  |none=>rw[u]at g;cases g
  |some p=>
   rw[u]at g;cases g;cases j with
   |succ j=>simp at hc
   |zero=>
    simp at y hc;subst y hc;obtain⟨v,h1,h2⟩:=hl.get u;have:vs.getD i undef=v:=by simp[cx,h1]
    rw[this];exact Hm (wM ec p (fA u)) h2
def Mv(hs:∀t,VR tt E Pp (a.tmps.getD t undef) (look s t)){o:Option Operand}(h:IY s o=some r):∃x k,o=some x/\a.eval x= .int k (r:Int):=by
 cases o with
 |none=>simp[IY]at h
 |some x=>
  simp only[IY]at h;have d:=fa hs x;split at h
  ·rename_i k n e;rw[e]at d;have:=rK h;subst this;obtain⟨u,hu⟩:∃u,u=a.eval x:=⟨_,rfl⟩;rw[<- hu]at d;cases d;exact⟨x,_,rfl,hu.symm⟩
  ·cases h
def LF(J:ez P tt)(hw:RW tt E Pp objs W)(hs:∀t,VR tt E Pp (a.tmps.getD t undef) (look s t)){lo hi mx:Option Operand}
 (h:cH dS tt (.slice t x lo hi mx) ty s objs K):gZ P tt E Pp W (Instr.sliceAt t (a.eval x) (lo.map a.eval) (hi.map a.eval) (mx.map a.eval)) K:=by
 simp only[cH]at h;have T:=ND hw (fa hs x);generalize a.eval x=v at*;split at h
 ·rename_i cs off hb;rw[hb]at T;split at h
  ·rename_i ti u;split at h
   ·rename_i X L;cases hb:(ti.agg&&nb (bY X.bP) 1&&iC 0 ti.ar&&nb off 0&&nb (bY cs) (ti.ar-1)&&Sc lo)with
    |false=>rw[hb]at h;exact h.elim
    |true=>
     rw[hb]at h;simp only[bn]at hb;obtain⟨⟨⟨⟨⟨am,G⟩,Q⟩,M⟩,Z⟩,z⟩:=hb;have G:=cX G;have M:=cX M;have Z:=cX Z;have Q:=dX Q;subst M;rw[cL]at G Z;simp only[cond_true]at h;split at h
     ·rename_i r hr;cases hb:(iD r (bY cs)&&rQ X.bP (qw r cs))with
      |false=>rw[hb]at h;exact h.elim
      |true=>
       rw[hb]at h;simp only[bn]at hb;obtain⟨I,ec⟩:=hb;have I:=dX I;rw[cL]at I;rw[tF]at h ec;obtain⟨m,hu,aC⟩:=(J _ _ u).uC am yO;obtain⟨x,k,rfl,an⟩:=Mv hs hr;cases T with
       |du _ vs _ _ b o hv hl hp=>
        obtain rfl:=hv.get rfl;have aB:=hl.length;have av:bN tt ti.el=X.bP:=by simp[bN,L]
        refine⟨.slice (some ⟨b,o,none⟩) r m,_,λw _=>?_,.lst ti.el _ _ (Nq (m:=m) av G ec (hl.take r) (λj v hj=>hp j v (by
         rw[oD]at hj;split at hj
         ·exact hj
         ·cases hj)) (by rw[cF];omega) yO),h⟩
        have ah:lo=none:=by cases lo<;>simp_all[Sc]
        subst ah;obtain⟨_,Y,_,_⟩:=(J _ _ L).run w;have F:=eD (P:=P) (w:=w) (k:=k) (n:=(r:Int)) (y:=m) (c:=.sliceAlen) ⟨eO _,yO⟩;simp[Instr.sliceAt,run_underlying hu,Instr.sliceBounds,an,Y,fh,Instr.sureAddr,F]
     ·exact h.elim
   ·exact h.elim
  ·exact h.elim
 ·rename_i b hb;rw[hb]at T;split at h
  ·rename_i ti u;cases hk:isStr ti with
   |false=>rw[hk]at h;exact h.elim
   |true=>
    rw[hk]at h;simp only[cond_true]at h;have hu:=(J _ _ u).str hk;obtain⟨l,h,z⟩:=iP hs h;obtain⟨r,h,C⟩:=iP hs h;obtain⟨⟨q,H⟩,⟨g,O⟩,h⟩:=h;cases T with
    |str s=>
     have fW:s.data.toList.length=s.size:=yS;simp only[fW]at H C;refine⟨.string (s.extract l.toNat r.toNat),.str (s.extract l.toNat r.toNat).data.toList,λw _=>?_,.str _,?_⟩
     ·simp only[Instr.sliceAt,Sem.run_bind,run_underlying hu,Result.andThen_ok,Instr.slice,Ai,n9,cA,if_false,Instr.sliceBounds];rcases C with⟨rfl,rfl⟩|⟨x2,k2,rfl,e2⟩
      ·rcases z with⟨rfl,rfl⟩|⟨x1,U,rfl,e1⟩
       ·simp
       ·simp[e1,eD (P:=P) (w:=w) ⟨g,O⟩]
      ·rcases z with⟨rfl,rfl⟩|⟨x1,U,rfl,e1⟩
       ·simp[e2,eD (P:=P) (w:=w) ⟨q,H⟩]
       ·simp[e1,e2,eD (P:=P) (w:=w) ⟨q,H⟩,eD (P:=P) (w:=w) (k:=U) (n:=l) (y:=r.toNat) ⟨g,yO⟩]
     ·have:(s.extract l.toNat r.toNat).data.toList=(s.data.toList.drop l.toNat).take (r.toNat-l.toNat):=by rw[Dz];simp[F6]
      rw[this];exact h
  ·exact h.elim
 ·rename_i e d hd;rw[hd]at T;split at h
  ·rename_i ti u;split at h
   ·rename_i e0 al;cases hb:nb e0 e with
    |false=>rw[hb]at h;exact h.elim
    |true=>
     rw[hb]at h;have:=cX hb;subst this;obtain⟨hu,aE,_⟩:=(J _ _ u).slice al;simp only[cond_true]at h;split at h
     ·rename_i X L;have ae:bN tt e0=X.bP:=by simp[bN,L]
      have fin:∀(l r m:Nat)(base:Option Addr)(len cap:Nat),VR tt E Pp (.slice base len cap) (.lst e0 d)->l<=r->r<=len->r<=m->m<=cap->
       (∀w:World,(Instr.sliceBounds true len cap (lo.map a.eval) (hi.map a.eval) (mx.map a.eval)).run P w= .ok (l,r,m) w)->((m=r/\K (.om e0 (dS.part d l r)))\/K (.lst e0 (dS.part d l r)))->
       gZ P tt E Pp W (Instr.sliceAt t (.slice base len cap) (lo.map a.eval) (hi.map a.eval) (mx.map a.eval)) K:=by
       intro l r m base len cap hv ar I aw aH ay hk;have S:∀w,W w->(Instr.sliceAt t (.slice base len cap) (lo.map a.eval) (hi.map a.eval) (mx.map a.eval)).run P w= .ok (.slice (if m=l then base else base.map (·.add (l*X.bP.length))) (r-l) (m-l)) w:=by intro w _;have Y:=(J _ _ L).run w;simp[Instr.sliceAt,run_underlying hu,Instr.slice,ay,Y.2.1]
       have iK:RD tt Pp (.slice e0) (.slice (if m=l then base else base.map (·.add (l*X.bP.length))) (r-l) (m-l)) (dS.part d l r):=by
        cases hv with
        |lst _ _ _ hr=>
         cases hr with
         |slnil=>have:r=0:=yO;have:l=0:=yO;have:m=0:=yO;subst_vars;simpa[cg]using RD.slnil (tt:=tt) (Pp:=Pp) _
         |Gy _ ad=>have:r=0:=yO;have:l=0:=yO;have:m=0:=yO;subst_vars;simpa[cg]using RD.Gy (tt:=tt) (Pp:=Pp) _ ad
         |sl _ b o _ _ rows vf hl hc dN hV iK=>
          have:=RD.part (.sl e0 b o len cap rows vf hl hc dN hV iK) ar aw I;rw[ae]at this;by_cases ab:m=l
          ·simpa[ab,cg]using this
          ·simpa[ab,cg,fh]using this
       rcases hk with⟨af,hk⟩|hk
       ·exact⟨_,_,S,by rw[<- af];subst af;exact .om _ _ _ _ iK,hk⟩
       ·exact⟨_,_,S,.lst _ _ _ iK,hk⟩
      have N:∃base len cap,v= .slice base len cap/\((cg d).length:Int)=(len:Int)/\len<=cap:=by
       cases T with
       |lst _ _ _ hr=>
        cases hr with
        |slnil=>exact⟨none,0,0,rfl,by simp[cg],bX _⟩
        |Gy _ ad=>exact⟨some ad,0,0,rfl,by simp[cg],bX _⟩
        |sl _ b o len cap rows vf hl hc dN hV iK=>exact⟨_,len,cap,rfl,by simp[cg,hl],hc⟩
      obtain⟨base,len,cap,rfl,R,az⟩:=N;split at h
      ·obtain⟨l,h,z⟩:=iP hs h;obtain⟨r,h,C⟩:=iP hs h;obtain⟨⟨q,H⟩,⟨g,O⟩,h⟩:=h;rw[R]at H C;refine fin l.toNat r.toNat cap base len cap T yO yO yO (bX _) ?_ (.inr (by rw[oc g,oc q];exact h));intro w;simp only[Instr.sliceBounds,Ai,Sem.run_bind,Sem.run_pure,Result.andThen_ok];rcases C with⟨rfl,rfl⟩|⟨x2,k2,rfl,e2⟩
       ·rcases z with⟨rfl,rfl⟩|⟨x1,U,rfl,e1⟩
        ·simp
        ·simp[e1,eD (P:=P) (w:=w) ⟨g,O⟩]
       ·have F:=eD (P:=P) (w:=w) (k:=k2) (n:=r) (y:=cap) (c:=.sliceAcap) ⟨q,yO⟩;rcases z with⟨rfl,rfl⟩|⟨x1,U,rfl,e1⟩
        ·simp[e2,F]
        ·simp[e1,e2,F,eD (P:=P) (w:=w) (k:=U) (n:=l) (y:=r.toNat) ⟨g,yO⟩]
      ·rename_i m0;obtain⟨l,h,z⟩:=iP hs h;split at h
       ·exact h.elim
       rename_i h0;obtain⟨r,h,C⟩:=iP hs h;obtain⟨m,h,ap⟩:=iP hs h;obtain⟨⟨ao,aq⟩,⟨q,H⟩,⟨g,O⟩,h⟩:=h;rw[R]at aq;refine fin l.toNat r.toNat m.toNat base len cap T yO yO yO yO ?_ (by rw[oc g,oc q];exact h.imp (λh=>⟨by rw[show m=r from h.1],h.2 trivial⟩) (λh=>h trivial));intro w;simp only[Instr.sliceBounds];rcases ap with⟨V,_⟩|⟨x3,k3,ax,e3⟩
       ·simp at V
       rcases C with⟨V,_⟩|⟨x2,k2,ak,e2⟩
       ·simp at V
       cases ax;cases ak;have ag:=eD (P:=P) (w:=w) (k:=k3) (n:=m) (y:=cap) (c:=.slice3Acap) ⟨ao,yO⟩;have F:=eD (P:=P) (w:=w) (k:=k2) (n:=r) (y:=m.toNat) (c:=.slice3B) ⟨q,yO⟩;rcases z with⟨rfl,rfl⟩|⟨x1,U,rfl,e1⟩
       ·simp[e2,e3,F,ag]
       ·simp[e1,e2,e3,F,ag,eD (P:=P) (w:=w) (k:=U) (n:=l) (y:=r.toNat) (c:=.slice3C) ⟨g,yO⟩]
     ·exact h.elim
   ·exact h.elim
  ·exact h.elim
 ·exact h.elim
def Si(I:ez P tt)(H:RW tt E Pp objs W)(hs:∀t,VR tt E Pp (a.tmps.getD t undef) (look s t)){as:Array Operand}
 (h:cH dS tt (.call { callee:=.builtin .len,args:=as,argTypes:=ts }) ty s objs K):gZ P tt E Pp W (Builtin.len_ ts ty (as.map a.eval)) K:=by
 simp only[cH]at h;split at h
 ·rename_i x t L J;obtain rfl:as= #[x]:=by cases as;simp at L;simp[L]
  obtain rfl:ts= #[t]:=by cases ts;simp at J;simp[J]
  split at h
  ·exact h.elim
  rename_i ti F;have q:=I _ _ F;have j:=iL hs t x;have G:Builtin.len_ #[t] ty (#[x].map a.eval)=Builtin.len_ #[t] ty #[a.eval x]:=yS;rw[G];generalize a.eval x=v at*;split at h
  ·rename_i e0 e d h1 h2;rw[h2]at j;obtain⟨hu,_,_⟩:=q.slice h1;cases j with
   |lst _ _ _ hr=>
    cases hr with
    |slnil=>exact⟨_,_,by intro w _;simp only[Builtin.len_];simp[run_underlying hu];rfl,.int _ _,by simpa[cg]using h⟩
    |Gy _ ad=>exact⟨_,_,by intro w _;simp only[Builtin.len_];simp[run_underlying hu];rfl,.int _ _,by simpa[cg]using h⟩
    |sl _ b o len cap rows vf hl hc dN hV iK=>exact⟨_,_,by intro w _;simp only[Builtin.len_];simp[run_underlying hu];rfl,.int _ _,by simpa[cg,hl]using h⟩
  ·rename_i e0 e r h1 h2;rw[h2]at j;obtain⟨hu,_,_⟩:=q.slice h1;split at h
   ·rename_i e' d wr C;cases hb:nb e e' with
    |false=>rw[hb]at h;exact h.elim
    |true=>
     rw[hb]at h;have y:=di C rfl;cases j with
     |row0 _ _ z=>have:d= .list []:=H.row0 _ _ _ _ y z;subst this;exact⟨_,_,by intro w _;simp only[Builtin.len_];simp[run_underlying hu];rfl,.int _ _,by simpa[cg]using h⟩
     |row _ _ g o len cap z=>obtain⟨vals,rows,rfl,hl,dN,u⟩:=H.row _ _ _ _ _ _ _ _ y z;exact⟨_,_,by intro w _;simp only[Builtin.len_];simp[run_underlying hu];rfl,.int _ _,by simpa[cg,hl]using h⟩
   ·exact h.elim
  ·rename_i e0 e r i off h1 h2;rw[h2]at j;obtain⟨hu,_,_⟩:=q.slice h1;split at h
   ·rename_i e' d wr C;cases hb:(nb e e'&&nb off dC)with
    |false=>rw[hb]at h;exact h.elim
    |true=>
     rw[hb]at h;simp only[bn]at hb;have M:=cX hb.2;subst M;have he:=cX hb.1;subst he;have y:=di C rfl;cases j with
     |fM _ _ _ _ _ g o len cap z h0 j=>obtain⟨⟨S,rfl,O⟩,Q⟩:=j.M0;obtain⟨vals,rows,rfl,hl,dN,u⟩:=H.row _ _ _ _ _ _ _ _ y z;refine⟨_,_,by intro w _;simp only[Builtin.len_];simp[run_underlying hu];rfl,.int _ _,?_⟩;have e2:((len-i.toNat:Nat):Int)=(rows.length:Int)-i:=yO;rw[e2];exact h
   ·exact h.elim
  ·rename_i e0 cs off h1 h2;rw[h2]at j;obtain⟨hu,_,_⟩:=q.slice h1;cases hb:nb off dC with
   |false=>rw[hb]at h;exact h.elim
   |true=>
    rw[hb]at h;have hb:=cX hb;subst hb;cases j with
    |du _ vs _ _ b o j hl R=>obtain rfl:=j.M0;refine⟨_,_,by intro w _;simp only[Builtin.len_];simp[run_underlying hu];rfl,.int _ _,?_⟩;have:=hl.length;rw[this,<-cL];exact h
  ·rename_i e0 b off h1 h2;rw[h2]at j;obtain⟨hu,_,_⟩:=q.slice h1;cases hb:iC dC off with
   |false=>rw[hb]at h;exact h.elim
   |true=>
    rw[hb]at h;have hb:=dX hb;cases j with
    |box _ _ _ gu z j=>obtain rfl:=j.2 (off-(dC+1)) yO;exact⟨_,_,by intro w _;simp only[Builtin.len_];simp[run_underlying hu];rfl,.int _ _,h⟩
  ·rename_i b h1 h2;rw[h2]at j;cases hb:isStr ti with
   |false=>rw[hb]at h;exact h.elim
   |true=>
    rw[hb]at h;have hu:=q.str hb;cases j with
    |str s=>exact⟨_,_,by intro w _;simp only[Builtin.len_];simp[run_underlying hu];rfl,.int _ _,yU h⟩
  ·rename_i m h1 h2;rw[h2]at j;cases hb:isMap ti with
   |false=>rw[hb]at h;exact h.elim
   |true=>
    rw[hb]at h;obtain⟨k,e,hu,_,_,_⟩:=q.map hb;simp only[cond_true]at h;split at h
    ·rename_i kc e' d C;have y:=di C rfl;cases j with
     |mp _ b bs cl z=>have u:=H.map _ _ _ _ _ _ _ y z;refine⟨goInt (cg d).length,.int .i64 (cg d).length,λw N=>?_,.int _ _,yU h⟩;obtain⟨es,clock,rows,hb,rfl,hl⟩:=u w N;simp only[Builtin.len_];simp[run_underlying hu,getObj,Sem.run,hb,cg,hl]
    ·exact h.elim
  ·exact h.elim
 ·exact h.elim
def yY{f:Go.Field->Option (Nat×Nat)}:∀{l:List Go.Field}{pl:List (Nat×Nat)},l.mapM f=some pl->∀i:Nat,pl[i]? =(l[i]?).bind f
 |[],pl,h,i=>by simp at h;subst h;simp
 |x::l,pl,h,i=>by
  simp only[DF,Option.bind_eq_bind,Option.pure_def,kE]at h;obtain⟨y,g,ys,d,h⟩:=h;simp at h;subst h;cases i with
  |zero=>simp[g]
  |succ i=>simpa using yY d i
def qk(bP:List CK):eM tt E Pp (bP.map zeroV) (bP.map gT):=by
 induction bP with
 |nil=>exact .nil
 |cons c bP d=>
  refine .cons _ _ _ _ ?_ d;cases c with
  |int=>exact .int _ _
  |bool=>exact .bl _
  |str=>exact .str ⟨#[]⟩
  |slice=>exact .lst _ _ _ (.slnil _)
  |ptr=>exact .nilp
  |map=>exact .nilm
  |fn=>exact .nilf
  |ik=>exact .undef _
def BX{S:Nat}:∀(n off i:Nat)(x:Nat×TypeId),vN (zW e S off n) i=some x->x=(off+i*S,e)
 |0,off,i,x,h=>by simp[zW,vN]at h
 |n+1,off,0,x,h=>by simp[zW,vN]at h;simp[<- h]
 |n+1,off,i+1,x,h=>by simp only[zW,vN]at h;rw[BX n (off+S) i x h,dz];simp;omega
def JE(C:ez P tt)(hs:∀t,VR tt E Pp (a.tmps.getD t undef) (look s t))(y:tt t=some ti)(hb:(ti.agg&&nb ti.ar 0)=true){g:List PV}
 (G:eM tt E Pp (ti.bP.map zeroV) g) (M:mw s tt ti.fs ps.toList g=some cs):∃v,(∀w,(Instr.build t (ps.map λ(i,x)=>(i,a.eval x))).run P w= .ok v w)/\VR tt E Pp v (.agg cs):=by
 have u:=C _ _ y;obtain⟨i,z,d,U,fW,S,hz,J,_,Q,V⟩:=u.info;have q:z.cells=⟨ti.bP.map zeroV⟩:=by rw[<- J]
 simp only[bn]at hb;cases d with
 |struct fields=>obtain⟨_,R,pl,j⟩:=V;have F:=yY j;obtain⟨us,h1,h2⟩:=C4 hs ti.fs (λi=>pl[i]?) (by intro i off B A hf O;obtain⟨_,fl,hu,I,T,N,_⟩:=u.field hf;rw[Q]at hu;cases hu;obtain⟨X,_,_,H,L,_⟩:=(C _ _ O).info;have:=F i;simp only[gM,I,iG,N,H,cv,T,L]at this;exact this) ps.toList g (ti.bP.map zeroV) cs G M;refine⟨.agg ⟨us⟩,λw=>?_,.agg _ _ h2⟩;simp[Instr.build,run_underlying Q,typeInfo,zeroValue,U,hz,pb,run_places w _ _ j,q,h1]
 |array n e=>have:=cX hb.2;simp_all
 |_=>simp_all
def Ny(F:ez P tt)(hs:∀t,VR tt E Pp (a.tmps.getD t undef) (look s t))
 (h:cH dS tt (.build t ps) ty s objs K):gZ P tt E Pp W (Instr.build t (ps.map λ(i,x)=>(i,a.eval x))) K:=by
 simp only[cH]at h;split at h
 ·exact h.elim
 rename_i ti H;have u:=F _ _ H;have V:(ps.map λ(i,x)=>(i,a.eval x)).toList=ps.toList.map λp=>(p.1,a.eval p.2):=yS;obtain⟨i,z,d,T,fW,Z,hz,R,_,L,U⟩:=u.info;have q:z.cells=⟨ti.bP.map zeroV⟩:=by rw[<- R]
 cases hb:(ti.agg&&nb ti.ar 0)with
 |false=>
  rw[hb]at h;simp only[cond_false]at h;cases g:ti.agg with
  |false=>rw[g]at h;exact h.elim
  |true=>
   rw[g]at h;simp only[cond_true]at h;split at h
   ·rename_i M I;split at h
    ·rename_i cs C;cases d with
     |array n e=>
      obtain⟨_,X,N,_⟩:=U;have y:∀w:World,(sizeOf e).run P w= .ok M.bP.length w:=λw=>by obtain⟨_,h2,_,_⟩:=(F _ _ I).run w;rw[<- N];exact h2
      obtain⟨us,h1,h2⟩:=C4 hs (zW ti.el (bY M.bP) 0 (ti.ar-1)) (λi=>some (i*M.bP.length,M.bP.length)) (by intro i off B A hf j;have:=BX _ _ _ _ hf;simp only[gf,cL,dY]at this;obtain⟨rfl,rfl⟩:=this;rw[I]at j;cases j;rfl) ps.toList (ti.bP.map gT) (ti.bP.map zeroV) cs (qk _) C;refine⟨.agg ⟨us⟩,.agg cs,λw _=>?_,.agg _ _ h2,h⟩;simp[Instr.build,run_underlying L,typeInfo,zeroValue,T,hz,y,q,h1]
     |struct fields=>
      have:ti.ar≠0:=by intro h0;rw[g,h0]at hb;simp[jQ]at hb
      obtain⟨n,e,hu⟩:=u.arr g this;rw[L]at hu;cases hu
     |_=>simp_all
    ·exact h.elim
   ·exact h.elim
 |true=>
  rw[hb]at h;simp only[cond_true]at h;simp only[bn]at hb;split at h
  ·rename_i cs C;cases d with
   |struct fields=>obtain⟨_,Y,pl,G⟩:=U;have J:=yY G;obtain⟨us,h1,h2⟩:=C4 hs ti.fs (λi=>pl[i]?) (by intro i off B A hf j;obtain⟨_,fl,hu,Q,ho,S,_⟩:=u.field hf;rw[L]at hu;cases hu;obtain⟨i2,_,_,O,y,_⟩:=(F _ _ j).info;have:=J i;simp only[gM,Q,iG,S,O,cv,ho,y]at this;exact this) ps.toList (ti.bP.map gT) (ti.bP.map zeroV) cs (qk _) C;refine⟨.agg ⟨us⟩,.agg cs,λw _=>?_,.agg _ _ h2,h⟩;simp[Instr.build,run_underlying L,typeInfo,zeroValue,T,hz,pb,run_places w _ _ G,q,h1]
   |array n e=>have:=cX hb.2;simp_all
   |_=>simp_all
  ·exact h.elim
def Bz:∀{cs:List PV}{ns:List Int}{vs:List Value},zq k cs=some ns->eM tt E Pp vs cs->vs=ns.map (Value.int k)
 |[],ns,vs,h,g=>by simp[zq]at h;subst h;cases g;rfl
 |p::cs,ns,vs,h,g=>by
  cases g with
  |cons v _ vs _ h1 h2=>
   cases p<;>simp only[zq]at h<;>try (simp at h;done)
   rename_i k' n;cases hk:Hf k k' with
   |false=>rw[hk]at h;simp at h
   |true=>
    rw[hk]at h;have j:k=k':=by simpa[Hf]using hk
    subst j;simp only[cond_true]at h;split at h
    ·rename_i q d;simp at h;subst h;cases h1;rw[Bz d h2];rfl
    ·simp at h
def MS(q:ez P tt)(hs:∀t,VR tt E Pp (a.tmps.getD t undef) (look s t)){i:Operand}
 (h:cH dS tt (.index t x i) ty s objs K):gZ P tt E Pp W (Instr.index t (a.eval x) (a.eval i)) K:=by
 simp only[cH]at h;split at h
 ·exact h.elim
 rename_i ti S;have C:=q _ _ S;have U:=fa hs x;have M:=fa hs i;generalize a.eval x=v at*;generalize a.eval i=u at*;split at h
 ·rename_i b k n H J;rw[H]at U;rw[J]at M;cases hk:isStr ti with
  |false=>rw[hk]at h;exact h.elim
  |true=>
   rw[hk]at h;simp only[cond_true]at h;have hu:=C.str hk;cases U with
   |str s=>
    cases M;obtain⟨⟨h0,h1⟩,h⟩:=h;have ad:n<(s.size:Int):=yU h1;refine⟨.int .u8 (s[n.toNat]'yO).toNat,_,λw _=>?_,.int _ _,?_⟩
    ·rw[run_index_string w t s _ n hu,dif_pos ⟨h0,ad⟩]
    ·have hb:n.toNat<s.data.toList.length:=yQ;have:(s.data.toList.getD n.toNat 0)=s[n.toNat]'yO:=by simp[cx,bu hb];rfl
     simp only[this]at h;exact h
 ·rename_i cs k n H J;rw[H]at U;rw[J]at M;cases hb:(ti.agg&&iC 0 ti.ar&&nb (bY cs) (ti.ar-1))with
  |false=>rw[hb]at h;exact h.elim
  |true=>
   rw[hb]at h;simp only[bn]at hb;obtain⟨⟨X,T⟩,L⟩:=hb;have L:=cX L;have T:0+1<=ti.ar:=dX T;rw[cL]at L;simp only[cond_true]at h;split at h
   ·rename_i ei G;split at h
    ·rename_i k' I g;split at h
     ·rename_i ns ac;obtain⟨⟨h0,h1⟩,h⟩:=h;cases M;cases U with
      |agg vs _ hl=>
       have ae:=Bz ac hl;have N:=hl.length;subst ae;simp at N;obtain⟨i,z,d,M,fW,ah,hz,ai,_,hd,hm⟩:=C.info;cases d with
       |array m e=>obtain⟨_,aa,ab,_⟩:=hm;have dA:n<(m:Int):=yO;refine⟨.int k' (ns.getD n.toNat 0),_,λw _=>?_,.int _ _,h⟩;obtain⟨_,F,_,_⟩:=(q _ _ G).run w;have Y:=CH (P:=P) (w:=w) (q _ _ G) (vs:=ns.map (Value.int k')) (off:=n.toNat) (by simp[g];omega);rw[ab]at F Y;simp only[Instr.index,asIntOf,Sem.run_bind,Sem.run_pure,Result.andThen_ok,run_underlying hd,if_pos (⟨h0,dA⟩:0<=n/\n<(m:Int)),F,g,dW,p5,Y];simp only[valOf,I,g,cA,if_false,dW];have R:n.toNat<ns.length:=yO;rw[bJ (yU R)];simp[cx,R]
       |struct fs=>obtain⟨n,e,hu⟩:=C.arr X yO;rw[hd]at hu;cases hu
       |_=>simp_all
     ·exact h.elim
    ·rename_i c af I g;split at h
     ·rename_i j hj;cases y:iC j (ti.ar-1)with
      |false=>rw[y]at h;exact h.elim
      |true=>
      rw[y]at h;have y:=dX y;have hn:=rK hj;subst hn;cases M;cases U with
      |agg vs _ hl=>
       have N:=hl.length;obtain⟨m,hu,aa⟩:=C.uC X yO;have dA:((j:Nat):Int)<(m:Int):=yO;have Q:j<vs.length:=yO;refine⟨vs[j],Hj cs j,λw _=>?_,?_,h⟩
       ·obtain⟨_,F,_,_⟩:=(q _ _ G).run w;have Y:=CH (P:=P) (w:=w) (q _ _ G) (vs:=vs) (off:=j) (by simp[g];omega);simp only[Instr.index,asIntOf,Sem.run_bind,Sem.run_pure,Result.andThen_ok,run_underlying hu,if_pos (⟨eO _,dA⟩:0<=((j:Nat):Int)/\((j:Nat):Int)<(m:Int)),F,g,dW,p5,fp,Y];simp only[valOf,I,g,cA,if_false,dW];rw[bJ Q];rfl
       ·rw[I5];have V:j<cs.length:=yO;rw[fc,bu V];obtain⟨u,O,Z⟩:=hl.get (bu V);rw[bu Q]at O;cases O;exact Z
     ·exact h.elim
    ·exact h.elim
   ·exact h.elim
 ·exact h.elim
def Ps{x y:Int}{k':IntKind}:(Builtin.max_ ts ty #[.int k x,.int k' y]).run P w= .ok (.int k (if y>x then y else x)) w:=by simp[Builtin.max_,Builtin.max2]
def HF(q:ez P tt)(J:RW tt E Pp objs W)(hs:∀t,VR tt E Pp (a.tmps.getD t undef) (look s t)){g d:TypeId}
 (h:cH dS tt (.convert g d x) ty s objs K):gZ P tt E Pp W (convert g d (a.eval x)) K:=by
 simp only[cH]at h;have C:=fa hs x;generalize a.eval x=v at*;split at h
 ·rename_i F ti h0 h1;obtain⟨I,_,d0,G,_,_,_,_,_,y,_⟩:=(q _ _ h0).info;split at h
  ·rename_i k k' n hk H;rw[H]at C;have z:=(q _ _ h1).int hk;cases C;have j:P.intKind d=k:=by simp[Program.intKind,z]
   have hr:=λw=>run_convert_int (P:=P) w g d k' n (by simp[y]) (by rw[j];exact z);rw[j]at hr;rcases h with⟨u,h⟩|h
   ·exact⟨.int k n,_,λw _=>by rw[hr,rp u],.int _ _,h trivial⟩
   ·exact⟨.int k (k.wrap n),_,λw _=>hr w,.int _ _,h trivial⟩
  ·exact h.elim
 ·exact h.elim
def A7(q:ez P tt)(C:RW tt E Pp objs W)(hs:∀t,VR tt E Pp (a.tmps.getD t undef) (look s t)){o:Oper}
 (h:cH dS tt o.op o.type s objs K):Rm P tt E Pp W (execOp a.eval o) K:=by
 obtain⟨F,op,ty,pos,after,H⟩:=o;simp only at h;cases op with
 |move x=>exact⟨_,_,λ_ _=>rfl,Hs hs _ _,h⟩
 |assign x=>exact⟨_,_,λ_ _=>rfl,Hs hs _ _,h⟩
 |load t x=>exact(Pv q C hs h).lift
 |binOp op t x y U=>exact(NA q hs h).lift
 |convert src F x=>exact(HF q C hs h).lift
 |fieldAddr t x f=>exact(C5 q hs h).lift
 |field t x f=>exact(M6 q hs h).lift
 |indexAddr t x i=>exact(CY q C hs h).lift
 |build t ps=>exact(Ny q hs h).lift
 |index t x i=>exact(MS q hs h).lift
 |slice t x lo X V=>exact(LF q C hs h).lift
 |pick c x y=>
  have hc:=fa hs c;have g:=fa hs x;have L:=fa hs y;simp only[cH]at h;simp only[execOp];generalize a.eval c=Y at*;generalize a.eval x=O at*;generalize a.eval y=Q at*;split at h
  ·rename_i e;rw[e]at hc;cases hc;exact⟨O,_,by intro w _;simp[asBool],g,h⟩
  ·rename_i e;rw[e]at hc;cases hc;exact⟨Q,_,by intro w _;simp[asBool],L,h⟩
  ·rename_i b e;rw[e]at hc;cases hc
   split at h<;>first
    |exact h.elim
    |(rename_i m n G M
      rw[G]at g;rw[M]at L;cases g;cases L;refine⟨.bool (bif b then m else n),_,λw _=>?_,.bool _,h⟩;cases b<;>simp[asBool])
  ·exact h.elim
 |nilCheck x=>
  have g:=fa hs x;simp only[cH]at h;simp only[execOp];generalize a.eval x=v at*;split at h
  ·rename_i t d e;rw[e]at g;obtain⟨S,h⟩:=h;cases g with
   |dptr _ _ _ hr=>
    cases hr with
    |Ap=>simp at S
    |ptr _ b o ds vf hl hV iK=>exact⟨_,_,λ_ _=>rfl,by simpa using VR.rP t _ 0 b o (.ptr _ b o ds vf hl hV iK),h⟩
  ·rename_i b off e;rw[e]at g;cases g with
   |box _ _ _ _ J hu=>
    cases hb:iD off dC with
    |false=>rw[hb]at h;exact h.elim
    |true=>rw[hb]at h;obtain rfl:=hu.get hb;exact⟨_,_,λ_ _=>rfl,.box _ _ _ _ J (.mk hb),h⟩
  ·rename_i e' d i off e;rw[e]at g;cases g with
   |jv _ _ _ _ _ _ _ _ hr h0 h1=>exact⟨_,_,λ_ _=>rfl,.jv _ _ _ _ _ _ _ _ hr h0 h1,h⟩
  ·rename_i e' r i off e;rw[e]at g;cases g with
   |fM _ _ _ _ _ _ _ _ _ J h0 hu=>
    cases hm:nb off dC with
    |true=>rw[hm]at h;exact h.elim
    |false=>
    rw[hm]at h;obtain⟨rfl,h1⟩:=hu.get hm;exact⟨_,_,λ_ _=>rfl,.fM _ _ _ _ _ _ _ _ _ J h0 (.mk rfl hm h1),h⟩
  ·rename_i cs off e;rw[e]at g;cases g with
   |du _ _ _ _ _ _ hu hl R=>
    cases hm:nb off dC with
    |true=>rw[hm]at h;exact h.elim
    |false=>rw[hm]at h;obtain rfl:=hu.get hm;exact⟨_,_,λ_ _=>rfl,.du _ _ _ _ _ _ hu hl R,h⟩
  ·rename_i t d off e;rw[e]at g;cases g with
   |rP _ _ _ _ _ hr=>exact⟨_,_,λ_ _=>rfl,.rP _ _ _ _ _ hr,h⟩
  ·rename_i f cs e;rw[e]at g;cases g with
   |cu _ f vs _ hu hl=>
    refine⟨_,_,λ_ _=>?_,.cu _ _ _ _ hu hl,h⟩;rcases bR f kB with hb|hb
    ·rw[hu.1 hb];rfl
    ·rw[hu.2 hb];rfl
  ·exact h.elim
 |unOp op t x=>
  have g:=fa hs x;simp only[cH]at h;simp only[execOp];generalize a.eval x=v at*;refine gZ.lift ?_;split at h
  ·rename_i b e;rw[e]at g;cases g;exact⟨.bool !b,_,by intro w _;simp[Op.unary],.bool _,h⟩
  ·rename_i e;rw[e]at g;cases g;exact⟨.bool false,_,by intro w _;simp[Op.unary],.bl _,h⟩
  ·rename_i e;rw[e]at g;cases g;exact⟨.bool true,_,by intro w _;simp[Op.unary],.bl _,h⟩
  ·rename_i k n e;rw[e]at g;cases g;obtain⟨hr,h⟩:=h;exact⟨.int k (0-n),_,by intro w _;simp only[Op.unary,Op.intArith,rp hr,Sem.run_pure],.int _ _,h⟩
  ·exact h.elim
 |makeFunc f first gU=>
  simp only[cH]at h;cases f with
  |func f=>
   simp only at h;split at h
   ·rename_i e;have hf:first= #[]:=by cases first;simp at e;simp[e]
    subst hf;cases hb:iC f kB with
    |false=>rw[hb]at h;exact h.elim
    |true=>
    rw[hb]at h;refine⟨.func (.func f) #[] ⟨gU.toList.map a.eval⟩,_,λw _=>?_,.cu _ _ _ _ (nz.mk hb) (M9 hs _),h⟩;have:gU.map a.eval=⟨gU.toList.map a.eval⟩:=by apply gL;simp
    simp[execOp,Instr.makeFunc,this]
   ·split at h
    ·rename_i e;have hf:gU= #[]:=by cases gU;simp at e;simp[e]
     subst hf;refine⟨.func (.func f) ⟨first.toList.map a.eval⟩ #[],_,λw _=>?_,.cu _ _ _ _ nz.gr (M9 hs _),h⟩;have:first.map a.eval=⟨first.toList.map a.eval⟩:=by apply gL;simp
     simp[execOp,Instr.makeFunc,this]
    ·exact h.elim
  |_=>exact h.elim
 |extract x i=>
  have g:=fa hs x;simp only[cH]at h;simp only[execOp];generalize a.eval x=v at*;refine gZ.lift ?_;split at h
  ·rename_i vs e;rw[e]at g;cases hb:iC i (bY vs)with
   |false=>rw[hb]at h;exact h.elim
   |true=>
    rw[hb]at h;have hb:i+1<=bY vs:=dX hb;rw[cL]at hb;cases g with
    |tup us _ hl=>obtain⟨u,hu,T⟩:=hl.get (j:=i) (p:=vs[i]) (bu yO);refine⟨u,_,by intro w _;simp[Instr.extract,hu],T,?_⟩;rw[I5]at h;simpa[cx,bu (show i<vs.length by omega)]using h
  ·exact h.elim
 |call c=>
  obtain⟨z,as,ts⟩:=c;cases z with
  |value f=>exact h.elim
  |invoke r m=>exact h.elim
  |builtin b=>
   cases b<;>try exact h.elim
   case len=>have:=(Si q C hs h).lift;simpa[execOp,resolve,invoke,builtin]using this
   case max=>
    simp only[cH]at h;split at h
    ·rename_i x y g;obtain rfl:as= #[x,y]:=by cases as;simp at g;simp[g]
     have h1:=fa hs x;have h2:=fa hs y;split at h
     ·rename_i k m k' n G M;rw[G]at h1;rw[M]at h2;refine⟨.int k (if n>m then n else m),_,λw _=>?_,.int _ _,h⟩;simp only[execOp,resolve,pure_bind,invoke,builtin];generalize N:a.eval x=O at*;generalize I:a.eval y=Q at*;cases h1;cases h2;simp[N,I,Ps]
     ·exact h.elim
    ·exact h.elim
 |_=>exact h.elim
def OR.nN{d:D}{g:Nat}(h:OR tt E Pp w (.row g o len cap) (.row e d false)):RD tt Pp (.slice e) (.slice (some ⟨g,o,none⟩) len cap) d:=by
 obtain⟨vs,T,rows,hb,rfl,hl,q,fW,dN,_,hf⟩:=h;obtain⟨C,_⟩:=hf rfl;refine .sl e g o len cap rows (λi j=>vs.getD (o+i*(bN tt e).length+j) undef) hl q (λi row u=>(dN i row u).1) ?_ ?_
 ·intro i j u y;have G:rows[i]? =some rows[i]:=bu yO;obtain⟨H,hc⟩:=dN i _ G;obtain⟨v,z,_⟩:=hc j _ _ (bu yO) (bu y);have:=C i j v u y z;simpa[cx,z]using this
 ·intro i j row d ck u y F;obtain⟨v,z,hr⟩:=(dN i row u).2 j d ck y F;simpa[cx,z]using hr
theorem WR.rw(C:WR tt E Pp objs w):RW tt E Pp objs (λw'=>w'=w):=by
 refine⟨?_,?_,?_,?_,?_,?_⟩
 ·rintro _ rfl ad v h;exact C.pi ad v h
 ·intro i cs b z y;obtain⟨ri,q,u⟩:=C.ob i _ z rfl;rw[y]at q;cases q;obtain⟨vs,T,hb,H,_⟩:=u;exact⟨vs,H,by rintro _ rfl j v G;rw[eE hb];exact G⟩
 ·intro i e d wr z y;obtain⟨ri,q,u⟩:=C.ob i _ z rfl;rw[y]at q;cases q;exact u
 ·intro i e d wr g o len cap z y;obtain⟨ri,q,u⟩:=C.ob i _ z rfl;rw[y]at q;cases q;obtain⟨vs,T,rows,hb,F,hl,I,fW,dN,_,_⟩:=u;exact⟨vs,rows,F,hl,dN,by rintro _ rfl j v G _ _;rw[eE hb];exact G⟩
 ·intro i e d g o len cap z y;obtain⟨ri,q,u⟩:=C.ob i _ z rfl;rw[y]at q;cases q;exact OR.nN u
 ·rintro i kc e d b bs cl z y _ rfl;obtain⟨ri,q,u⟩:=C.ob i _ z rfl;rw[y]at q;cases q;obtain⟨es,rows,hb,F,hl,_⟩:=u;exact⟨es,_,rows,hb,F,yU hl⟩
end
end
section
variable [Inhabited pY]
open Go
structure St where
 s:cS
 o:List Ob
structure jH where
 w0:World
 E0:List RI
 P0:fQ
 mo:Nat->Prop
 d0:List Deferred:=[]
def KK(own:Nat->Prop)(w:World)(Pp Pp':fQ):Prop:=∀ad v,Pp' ad v->Pp ad v\/w.heap.size<=ad.block\/own ad.block
def lT(own:Nat->Prop)(w:World)(E':List RI)(objs':List Ob):Prop:=∀(i:Nat) o ri b,objs'[i]? =some o->o.live=true->E'[i]? =some ri->ri.cZ =some b->w.heap.size<=b\/own b
structure gW (tt:TypeId->Option TI) (N:Nat) (B:jH) (E:List RI) (Pp:fQ) (st:St) (a:Act) (w:World):Prop where
 wr:WR tt E Pp st.o w
 fJ:∀t,VR tt E Pp (a.tmps.getD t undef) (look st.s t)
 size:a.tmps.size=N
 defers:a.defers=B.d0
 pre:pM B.E0 E
 sT:∀ad v,B.P0 ad v->Pp ad v
 fr:Fr B.mo B.w0 w
 jV:KK B.mo B.w0 B.P0 Pp
 fresh:lT B.mo B.w0 E st.o
structure cK (tt:TypeId->Option TI) (B:jH) (E:List RI) (Pp:fQ) (objs:List Ob) (w:World):Prop where
 wr:WR tt E Pp objs w
 pre:pM B.E0 E
 sT:∀ad v,B.P0 ad v->Pp ad v
 fr:Fr B.mo B.w0 w
 jV:KK B.mo B.w0 B.P0 Pp
 fresh:lT B.mo B.w0 E objs
section
variable {P:Program}{tt:TypeId->Option TI}{N:Nat}{B:jH}{E:List RI}{Pp:fQ}{objs:List Ob}{w:World}{st:St}{a:Act}
variable {ri:RI}{w':World}{Pp':fQ}{E':List RI}
def gW.Ih(h:gW tt N B E Pp st a w):cK tt B E Pp st.o w:=⟨h.wr,h.pre,h.sT,h.fr,h.jV,h.fresh⟩
def cK.Oh(h:cK tt B E Pp st.o w)(hs:∀t,VR tt E Pp (a.tmps.getD t undef) (look st.s t))(c:a.tmps.size=N)(b:a.defers=B.d0):gW tt N B E Pp st a w:=⟨h.wr,hs,c,b,h.pre,h.sT,h.fr,h.jV,h.fresh⟩
def mW(f:WR tt E Pp objs w){b:Nat}(h:own E objs b):b<w.heap.size:=by
 obtain⟨i,o,ri,j,hl,g,hb⟩:=h;obtain⟨ri',d,c⟩:=f.ob i o j hl;rw[g]at d;cases d
 have lt:∀(x:Obj),w.heap[b]? =some x->b<w.heap.size:=by
  intro x k;rcases bR b w.heap.size with e|e
  ·exact e
  ·simp[cR e]at k
 cases ri<;>cases o<;>simp[RI.cZ]at hb<;>subst hb<;>simp only[OR]at c
 ·obtain⟨_,_,h,_⟩:=c;exact lt _ h
 ·obtain⟨_,_,_,h,_⟩:=c;exact lt _ h
 ·obtain⟨_,h,_⟩:=c;exact lt _ h
 ·obtain⟨_,_,h,_⟩:=c;exact lt _ h
 ·obtain⟨_,_,_,_,_,h,_⟩:=c;exact lt _ h
 ·obtain⟨_,_,⟨_,_,_,_,_,h⟩|⟨_,_,_,_,_,_,h,_⟩⟩:=c<;>exact lt _ h
 ·obtain⟨_,h,_⟩:=c;exact lt _ h
def OR.M2{o:Ob}(q:pM E E')(z:∀m s,o= .iter m s->∀x,E[m]? =some x->E'[m]? =some x)(l:∀ad v,Pp ad v->Pp' ad v)
 (hb:∀b,ri.cZ =some b->w'.heap[b]? =w.heap[b]?) (f:∀b,ri.cZ =some b->∀ad v,Pp' ad v->ad.block=b->Pp ad v) (h:OR tt E Pp w ri o):OR tt E' Pp' w' ri o:=by
 cases ri<;>cases o<;>simp only[OR]at h ⊢
 case box.box b cs=>obtain⟨vs,T,h1,h2,h3,h4⟩:=h;exact⟨vs,T,by rw[hb b rfl];exact h1,(VR.gq q l).2 h2,λad v k he=>h3 ad v (f b rfl ad v k he) he,h4⟩
 case row0.row e d wr=>exact h
 case map.box b borns clock cs=>obtain⟨es,h1,h2,h3,h4,h5,h6⟩:=h;exact⟨es,by rw[hb b rfl];exact h1,(VR.gq q l).2 h2,h3,h4,h5,λad v k he=>h6 ad v (f b rfl ad v k he) he⟩
 case row.row g o len cap e d wr=>
  obtain⟨vs,T,rows,h1,h2,h3,h4,h5,h6,h7,h8⟩:=h;refine⟨vs,T,rows,by rw[hb g rfl];exact h1,h2,h3,h4,h5,?_,?_,?_⟩
  ·intro i row H;obtain⟨hl,hc⟩:=h6 i row H;refine⟨hl,λj d ck F C=>?_⟩;obtain⟨v,k,hr⟩:=hc j d ck F C;exact⟨v,k,hr.mono l⟩
  ·intro u ad v k he;exact h7 u ad v (f g rfl ad v k he) he
  ·intro u;obtain⟨D,A⟩:=h8 u;exact⟨λi j v a b c=>l _ _ (D i j v a b c),λad v k he=>A ad v (f g rfl ad v k he) he⟩
 case map.map b borns clock kc e d=>obtain⟨es,rows,h1,h2,h3,h4,h5,h6,h7,h8⟩:=h;refine⟨es,rows,by rw[hb b rfl];exact h1,h2,h3,?_,h5,h6,h7,λad v k he=>h8 ad v (f b rfl ad v k he) he⟩;intro i x row I dN;obtain⟨kd,vd,e1,e2,e3,e4,e5,e6⟩:=h4 i x row I dN;exact⟨kd,vd,e1,e2.mono l,e3,e4,λj d ck v a b c=>(e5 j d ck v a b c).mono l,e6⟩
 case iter.iter b m seen=>obtain⟨y,borns,clock,p,h1,h2,h3⟩:=h;exact⟨y,borns,clock,p,z _ _ rfl _ h1,by rw[hb b rfl];exact h2,h3⟩
 case iter.diter b e d seen=>
  obtain⟨p,h1,⟨h2,h3,n,G,m,h4⟩|⟨y,es,clock,rows,h2,h3,h4,h5⟩⟩:=h
  ·exact⟨p,h1,.inl ⟨h2,h3,n,G,m,by rw[hb b rfl];exact h4⟩⟩
  ·exact⟨p,h1,.inr ⟨y,es,clock,rows,h2,h3.mono l,by rw[hb b rfl];exact h4,h5⟩⟩
 case loop.loop b n ps c1 c2 s j=>obtain⟨r,h1,h2,h3⟩:=h;exact⟨r,by rw[hb b rfl];exact h1,h2,λt=>(VR.gq q l).1 (h3 t)⟩
def OR.frame{o:Ob}(d:∀(i:Nat) x,E[i]? =some x->E'[i]? =some x)(e:∀ad v,Pp ad v->Pp' ad v)
 (hb:∀b,ri.cZ =some b->w'.heap[b]? =w.heap[b]?) (c:∀b,ri.cZ =some b->∀ad v,Pp' ad v->ad.block=b->Pp ad v) (h:OR tt E Pp w ri o):OR tt E' Pp' w' ri o:=
 OR.M2 (.of d) (λ_ _ _ x f=>d _ x f) e hb c h
def WR.frame(h:WR tt E Pp objs w)(hb:∀b,own E objs b->w'.heap[b]? =w.heap[b]?)(j:∀ad v,Pp ad v->Pp' ad v)
 (e:∀ad v,Pp' ad v->Pp ad v\/¬own E objs ad.block) (hV:∀ad v,Pp' ad v->pc w' ad=some v):WR tt E Pp' objs w':=by
 refine⟨h.len,hV,?_,h.sep,h.TX j⟩;intro i o f hl;obtain⟨ri,d,g⟩:=h.ob i o f hl;refine⟨ri,d,OR.frame (λ_ _ h=>h) j (λb c=>hb b ⟨i,o,ri,f,hl,d,c⟩) (λb c ad v k he=>?_) g⟩;rcases e ad v k with h1|h1
 ·exact h1
 ·exact absurd ⟨i,o,ri,f,hl,d,by rw[c,he]⟩ h1
def tc{w:World}{ad:Addr}(h:w'.heap[ad.block]? =w.heap[ad.block]?):w'.cell? ad=w.cell? ad:=by simp[World.cell?,h]
def WR.push{o:Ob}(h:WR tt E Pp objs w)(t:o.live=true->OR tt (E++[ri]) Pp w ri o)(l:∀b,ri.cZ =some b->¬own E objs b):WR tt (E++[ri]) Pp (objs++[o]) w:=by
 have v:∀(i:Nat) x,E[i]? =some x->(E++[ri])[i]? =some x:=by
  intro i x f;rw[bO]
  ·exact f
  ·rcases bR i E.length with k|k
   ·exact k
   ·rw[bU k]at f;simp at f
 have split:∀(i:Nat) x,(objs++[o])[i]? =some x->(objs[i]? =some x/\i<objs.length)\/(i=objs.length/\x=o):=by
  intro i x f;rcases Ae i objs.length with k|k|k
  ·rw[bO k]at f;exact .inl ⟨f,k⟩
  ·subst k;simp at f;exact .inr ⟨rfl,f.symm⟩
  ·rw[bU yQ]at f;simp at f
 have c:∀(i:Nat),i<objs.length->(E++[ri])[i]? =E[i]? :=λi u=>by rw[bO (by rw[h.len];exact u)]
 have g:(E++[ri])[objs.length]? =some ri:=by rw[<- h.len];simp
 refine⟨by simp[h.len],h.pi,?_,?_,h.gl⟩
 ·intro i x f hl;rcases split i x f with⟨h1,_⟩|⟨rfl,rfl⟩
  ·obtain⟨r,hr,p⟩:=h.ob i x h1 hl;exact⟨r,v _ _ hr,OR.frame v (λ_ _ h=>h) (λ_ _=>rfl) (λ_ _ _ _ h _=>h) p⟩
  ·exact⟨ri,g,t hl⟩
 ·intro i j oi oj ri' rj b u y s q d e m n;rcases split i oi u with⟨h1,l1⟩|⟨rfl,rfl⟩<;>rcases split j oj y with⟨h2,l2⟩|⟨rfl,rfl⟩
  ·rw[c i l1]at d;rw[c j l2]at e;exact h.sep i j oi oj ri' rj b h1 h2 s q d e m n
  ·rw[c i l1]at d;rw[g]at e;cases e;exact absurd ⟨i,oi,ri',h1,s,d,m⟩ (l b n)
  ·rw[c j l2]at e;rw[g]at d;cases d;exact absurd ⟨j,oj,rj,h2,q,e,n⟩ (l b m)
  ·rfl
def mem_push:∀(i:Nat) x,E[i]? =some x->(E++[ri])[i]? =some x:=by
 intro i x b;rw[bO]
 ·exact b
 ·rcases bR i E.length with c|c
  ·exact c
  ·rw[bU c]at b;simp at b
def qE{E0:List RI}(h:pM E0 E):pM E0 (E++[ri]):=h.trans (.of mem_push)
def lT.push{own:Nat->Prop}{w0:World}{o:Ob}(hl:E.length=objs.length)(h:lT own w0 E objs)(f:∀b,ri.cZ =some b->w0.heap.size<=b\/own b):lT own w0 (E++[ri]) (objs++[o]):=by
 intro i x r b d e hr hb;rcases Ae i objs.length with c|c|c
 ·rw[bO c]at d;rw[bO yO]at hr;exact h i x r b d e hr hb
 ·subst c;rw[<- hl]at hr;simp at hr;subst hr;exact f b hb
 ·rw[bU yQ]at d;simp at d
def cK.alloc(h:cK tt B E Pp objs w)(x:Obj):cK tt B E Pp objs (w.alloc x):=by
 have c:∀k,k<w.heap.size->(w.alloc x).heap[k]? =w.heap[k]? :=λk hk=>RowKit.Below.heap_alloc w x k hk;refine⟨?_,h.pre,h.sT,?_,h.jV,h.fresh⟩
 ·refine h.wr.frame (λb hb=>c b (mW h.wr hb)) (λ_ _ h=>h) (λ_ _ h=>.inl h) (λad v d=>?_);have:=h.wr.pi ad v d;rw[ia (c _ (yu this))];exact this
 ·exact⟨h.fr.os,h.fr.tape,h.fr.output,by have:=h.fr.size;simp;omega,h.fr.drawn,λk hk e=>(c k (by have:=h.fr.size;omega)).trans (h.fr.block k hk e)⟩
def cK.new(h:cK tt B E Pp objs w){x:Obj}{o:Ob}(hb:ri.cZ =some w.heap.size)(d:OR tt (E++[ri]) Pp (w.alloc x) ri o):
 cK tt B (E++[ri]) Pp (objs++[o]) (w.alloc x):=by
 have h1:=h.alloc x;refine⟨h1.wr.push (λ_=>d) ?_,qE h1.pre,h1.sT,h1.fr,h1.jV,h1.fresh.push h1.wr.len ?_⟩
 ·intro b c e;rw[hb]at c;cases c;have:=mW h.wr e;omega
 ·intro b c;rw[hb]at c;cases c;exact .inl h.fr.size
def km(h:WR tt E Pp objs w):∀ad v,Pp ad v->ad.block≠w.heap.size:=by intro ad v b;have:=yu (h.pi ad v b);omega
def cK.lay(h:cK tt B E Pp objs w)(vs:List Value)(T:TypeId):
 cK tt B E (λad v=>Pp ad v\/(ad.block=w.heap.size/\(w.alloc (.cells ⟨vs⟩ T)).cell? ad=some v)) objs (w.alloc (.cells ⟨vs⟩ T)):=by
 have h1:=h.alloc (.cells ⟨vs⟩ T);refine⟨?_,h1.pre,λad v b=>.inl (h1.sT ad v b),h1.fr,?_,h1.fresh⟩
 ·refine h1.wr.frame (λ_ _=>rfl) (λ_ _ h=>.inl h) ?_ ?_
  ·intro ad v b;rcases b with b|⟨b,_⟩
   ·exact .inl b
   ·refine .inr (λc=>?_);have:=mW h.wr c;omega
  ·intro ad v b;rcases b with b|⟨_,b⟩
   ·exact h1.wr.pi ad v b
   ·exact gm b
 ·intro ad v b;rcases b with b|⟨b,_⟩
  ·exact h1.jV ad v b
  ·exact .inr (.inl (by rw[b];exact h.fr.size))
def cK.drew(h:cK tt B E Pp objs w):cK tt B E Pp objs w.drew:=⟨h.wr.frame (λ_ _=>rfl) (λ_ _ h=>h) (λ_ _ h=>.inl h) (λad v c=>h.wr.pi ad v c),h.pre,h.sT,⟨h.fr.os,h.fr.tape,h.fr.output,h.fr.size,λb=>Nat.le_succ_of_le (h.fr.drawn b),h.fr.block⟩,h.jV,h.fresh⟩
end
end
section
variable [Inhabited pY]
open Go
variable {α β:Type}
def qg{α:Type}(f:α->Bool):List α->Bool|[]=>false|x::l=>f x||qg f l
def gF{α:Type}(f:α->Bool):List α->Bool|[]=>true|x::l=>f x&&gF f l
def cQ{α β:Type}(f:α->β):List α->List β|[]=>[]|x::l=>f x::cQ f l
def eT{α β:Type}(f:α->List β):List α->List β|[]=>[]|x::l=>NH (f x) (eT f l)
 where NH:List β->List β->List β|[],k=>k|x::l,k=>x::NH l k
def gh{α:Type}:List α->List α->List α|[],k=>k|x::l,k=>x::gh l k
def eI(n:Nat):List Nat->Bool|[]=>false|x::l=>nb x n||eI n l
def il:List Ob->Nat->Ob->List Ob
 |[],_,_=>[]|_::xs,0,y=>y::xs|x::xs,n+1,y=>x::il xs n y
def gP(f:α->β)(l:List α):cQ f l=l.map f:=by induction l<;>simp[cQ, *]
def eU(l k:List α):gh l k=l++k:=by induction l<;>simp[gh, *]
def uD(f:α->Bool)(l:List α):qg f l=l.any f:=by induction l<;>simp[qg, *]
def xr(f:α->Bool)(l:List α):gF f l=l.all f:=by induction l<;>simp[gF, *]
def kZ(f:α->List β)(l:List α):eT f l=l.flatMap f:=by
 have:∀(a b:List β),eT.NH a b=a++b:=by intro a b;induction a<;>simp[eT.NH, *]
 induction l<;>simp_all[eT]
def gw(l:List Ob)(n:Nat)(y:Ob):il l n y=l.set n y:=by
 induction l generalizing n with
 |nil=>simp[il]
 |cons x xs a=>cases n<;>simp[il,a]
def kW(n:Nat)(l:List Nat):eI n l=true↔n∈l:=by
 induction l with
 |nil=>simp[eI]
 |cons x l a=>
  simp only[eI,fS,a,bx];constructor
  ·rintro(h|h)
   ·exact .inl (cX h).symm
   ·exact .inr h
  ·rintro(h|h)
   ·subst h;exact .inl (jQ n)
   ·exact .inr h
def uN(r:Nat):Nat->PV->Bool
 |0,_=>true
 |n+1,p=>match p with
  | .agg cs=>qg (uN r n) cs
  | .tup cs=>qg (uN r n) cs
  | .cu _ cs=>qg (uN r n) cs
  | .du cs _=>qg (uN r n) cs
  | .box b _=>nb b r
  | .row _ x=>nb x r
  | .fM _ x _ _=>nb x r
  | .mp x=>nb x r
  | .it x=>nb x r
  | .kF x=>nb x r
  |_=>false
def kill(r:Nat)(p:PV):PV:=bif uN r 8 p then .undef else p
def mf(r:Nat):cS->cS|[]=>[]|(t,p)::s=>(t,kill r p)::mf r s
def jz(r:Nat):List Ob->List Ob
 |[]=>[]
 | .box cs::l=>.box (cQ (kill r) cs)::jz r l
 | .loop n ps a c s j::l=>.loop n ps a c (mf r s) j::jz r l
 |o::l=>o::jz r l
def tK(r:Nat)(e:TypeId)(d:D):Nat->PV->PV
 |0,_=>.undef
 |n+1,p=>match p with
  | .mp x=>bif nb x r then .dmp e d else .mp x
  | .agg cs=>.agg (cQ (tK r e d n) cs)
  | .tup cs=>.tup (cQ (tK r e d n) cs)
  | .cu f cs=>.cu f (cQ (tK r e d n) cs)
  | .du cs off=>.du (cQ (tK r e d n) cs) off
  |p=>p
def si(r:Nat)(e:TypeId)(d:D)(p:PV):PV:=bif uN r 8 p then tK r e d 8 p else p
def AY(r:Nat)(e:TypeId)(d:D):cS->cS|[]=>[]|(t,p)::s=>(t,si r e d p)::AY r e d s
def xP(r:Nat)(e:TypeId)(d:D):Ob->Ob
 | .box cs=>.box (cQ (si r e d) cs)
 | .loop n ps a c s j=>.loop n ps a c (AY r e d s) j
 | .iter m s=>bif nb m r then .diter e d s else .iter m s
 |o=>o
def sL(r:Nat)(e:TypeId)(d:D)(l:List Ob):List Ob:=il (cQ (xP r e d) l) r .dead
def vj(r:Nat)(st:St):St:=match eG st.o r with
 | .map kc e d=>bif decide (kc= .str)then⟨AY r e d st.s,sL r e d st.o⟩else st
 |_=>st
def sinks:List Nat->St->St
 |[],st=>st
 |r::l,st=>sinks l (vj r st)
def Mg:Nat->PV->List Nat
 |0,_=>[]
 |n+1,p=>match p with
  | .mp r=>[r]
  | .agg cs=>eT (Mg n) cs
  |_=>[]
def CO:PV->List Nat
 | .tup cs=>eT Pq cs
 | .agg cs=>eT (Mg 8) cs
 |_=>[]
 where Pq:PV->List Nat
 | .agg cs=>eT (Mg 8) cs
 |_=>[]
def nN(objs:List Ob):Nat->PV->PV
 |0,_=>.undef
 |n+1,p=>match p with
  | .row e r=>match eG objs r with
   | .row e' d _=>bif nb e e' then .lst e d else .undef
   |_=>.undef
  | .box b off=>match eG objs b with
   | .box cs=>bif iD dC off then .undef else .du (cQ (nN objs n) cs) off
   |_=>.undef
  | .om e d=>.lst e d
  | .agg cs=>.agg (cQ (nN objs n) cs)
  | .tup cs=>.tup (cQ (nN objs n) cs)
  | .cu f cs=>.cu f (cQ (nN objs n) cs)
  | .du cs off=>.du (cQ (nN objs n) cs) off
  | .fM _ _ _ _=>.undef
  | .mp _=>.undef
  | .it _=>.undef
  | .kF _=>.undef
  |p=>p
def ids(objs:List Ob):Nat->PV->List Nat
 |0,_=>[]
 |n+1,p=>match p with
  | .row _ r=>[r]
  | .box b _=>b::(match eG objs b with| .box cs=>eT (ids objs n) cs|_=>[])
  | .agg cs=>eT (ids objs n) cs
  | .tup cs=>eT (ids objs n) cs
  | .cu _ cs=>eT (ids objs n) cs
  | .du cs _=>eT (ids objs n) cs
  |_=>[]
def wk:Nat->PV->PV
 |0,p=>p
 |n+1,p=>match p with
  | .bl b=>.bool b
  | .agg cs=>.agg (cQ (wk n) cs)
  | .tup cs=>.tup (cQ (wk n) cs)
  |p=>p
def plain:Nat->PV->Bool
 |0,_=>false
 |n+1,p=>match p with
  | .undef=>true
  | .int _ _=>true
  | .bl _=>true
  | .bool _=>true
  | .str _=>true
  | .agg cs=>gF (plain n) cs
  | .tup cs=>gF (plain n) cs
  | .nilp=>true
  | .nilm=>true
  | .nilf=>true
  |_=>false
def wH:Ob->Ob
 | .row e d _=>.row e d false
 | .box _=>.dead
 |o=>o
def fz(F:List Nat):Nat->List Ob->List Ob
 |_,[]=>[]
 |i,o::l=>(bif eI i F then wH o else o)::fz F (i+1) l
def nk(F:List Nat)(objs:List Ob):cS->cS
 |[]=>[]
 |(t,p)::s=>(t,bif qg (λb=>(match eG objs b with| .box _=>uN b 8 p|_=>false)) F then(bif gF (λi=>eI i F) (ids objs 8 p)then nN objs 8 p else .undef)else p)::nk F objs s
def Px(objs:List Ob)(r:Nat):PV->PV
 | .row e x=>bif nb x r then nN objs 8 (.row e x)else .row e x
 |p=>p
def Hd(objs:List Ob)(r:Nat):cS->cS
 |[]=>[]
 |(t,p)::s=>(t,Px objs r p)::Hd objs r s
def vE(objs:List Ob)(r:Nat):∀(s:cS)(t:Nat),look (Hd objs r s) t=Px objs r (look s t)
 |[],t=>rfl
 |(k,p)::s,t=>by simp only[Hd,look];have a:=vE objs r s t;split<;>simp_all
structure dH where
 tt:TypeId->Option TI
 n:Nat
 own:List Nat:=[]
 eh:List FuncId:=[]
 live:List FuncId:=[]
 n0:Nat:=0
 iU:List (Nat×List Nat):=[]
 ox:List Nat:=[]
 DB:Bool:=false
 pC:List Nat:=[]
 view:List Nat:=[]
 GZ:Bool:=false
 R4:List Nat:=[]
 XW:List Nat:=[]
 Bt:List Nat:=[]
 XH:List Nat:=[]
 mrg:Bool:=false
def JW(f:Nat->Nat):Nat->PV->PV
 |0,_=>.undef
 |k+1,p=>match p with
  | .row e r=>.row e (f r)
  | .mp r=>.mp (f r)
  | .agg cs=>.agg (cQ (JW f k) cs)
  | .tup cs=>.tup (cQ (JW f k) cs)
  | .cu g cs=>.cu g (cQ (JW f k) cs)
  | .du cs off=>.du (cQ (JW f k) cs) off
  | .box _ _=>.undef
  | .fM _ _ _ _=>.undef
  | .it _=>.undef
  | .kF _=>.undef
  |p=>p
def r7:List Nat->Nat->Nat->Option Nat
 |[],_,_=>none
 |x::l,k,n=>match nb x n with
  |true=>some k
  |false=>r7 l (k+1) n
def jx(ps:List Nat):Nat->PV->PV
 |0,_=>.undef
 |n+1,p=>match p with
  | .row e r=>(match r7 ps 0 r with|some k=>.row e k|none=>.undef)
  | .mp r=>(match r7 ps 0 r with|some k=>.mp k|none=>.undef)
  | .it r=>(match r7 ps 0 r with|some k=>.it k|none=>.undef)
  | .kF r=>(match r7 ps 0 r with|some k=>.kF k|none=>.undef)
  | .box r off=>(match r7 ps 0 r with|some k=>.box k off|none=>.undef)
  | .fM e r i off=>(match r7 ps 0 r with|some k=>.fM e k i off|none=>.undef)
  | .agg cs=>.agg (cQ (jx ps n) cs)
  | .tup cs=>.tup (cQ (jx ps n) cs)
  | .cu g cs=>.cu g (cQ (jx ps n) cs)
  | .du cs off=>.du (cQ (jx ps n) cs) off
  |p=>p
def A9(ps:List Nat):cS->cS
 |[]=>[]
 |(t,p)::s=>(t,jx ps 8 p)::A9 ps s
def jK(ps:List Nat):Ob->Ob
 | .box cs=>.box (cQ (jx ps 8) cs)
 | .loop n b a c s j=>.loop n b a c (A9 ps s) j
 | .iter m s=>(match r7 ps 0 m with|some k=>.iter k s|none=>.dead)
 |o=>o
def qB(f:Nat->Nat):Nat->PV->PV
 |0,_=>.undef
 |k+1,p=>match p with
  | .row e r=>.row e (f r)
  | .mp r=>.mp (f r)
  | .it r=>.it (f r)
  | .kF r=>.kF (f r)
  | .box r off=>.box (f r) off
  | .fM e r i off=>.fM e (f r) i off
  | .agg cs=>.agg (cQ (qB f k) cs)
  | .tup cs=>.tup (cQ (qB f k) cs)
  | .cu g cs=>.cu g (cQ (qB f k) cs)
  | .du cs off=>.du (cQ (qB f k) cs) off
  |p=>p
def JV(f:Nat->Nat):cS->cS
 |[]=>[]
 |(t,p)::s=>(t,qB f 8 p)::JV f s
def oK(f:Nat->Nat):Ob->Ob
 | .box cs=>.box (cQ (qB f 8) cs)
 | .loop n b a c s j=>.loop n b a c (JV f s) j
 | .iter _ _=>.dead
 |o=>o
def jD:List Nat->Bool
 |[]=>true
 |x::l=>bif eI x l then false else jD l
def iu(n:Nat):List Nat->Nat->Nat
 |[],j=>n+j
 |r::_,0=>r
 |_::F,j+1=>iu n F j
def GU:List Nat->List Ob->List Ob->List Ob
 |[],l,xs=>gh l xs
 |r::F,l,x::xs=>GU F (il l r x) xs
 |_::_,l,[]=>l
def kz(F:List Nat):List Ob->List Ob
 |[]=>[]
 | .iter m s::l=>(bif eI m F then .dead else .iter m s)::kz F l
 |o::l=>o::kz F l
def sO:Nat->PV->List Nat
 |0,_=>[]
 |n+1,p=>match p with
  | .row _ r=>[r]
  | .agg cs=>eT (sO n) cs
  | .tup cs=>eT (sO n) cs
  |_=>[]
def Kq(objs:List Ob):Nat->PV->PV
 |0,_=>.undef
 |n+1,p=>match p with
  | .row e r=>match eG objs r with
   | .row e' d _=>bif nb e e' then .lst e d else .undef
   |_=>.undef
  | .agg cs=>.agg (cQ (Kq objs n) cs)
  | .tup cs=>.tup (cQ (Kq objs n) cs)
  |p=>p
def oL:Nat->PV->List Nat
 |0,_=>[]
 |n+1,p=>match p with
  | .row _ r=>[r]
  | .mp r=>[r]
  | .kF r=>[r]
  | .box b _=>[b]
  | .agg cs=>eT (oL n) cs
  | .tup cs=>eT (oL n) cs
  | .cu _ cs=>eT (oL n) cs
  | .du cs _=>eT (oL n) cs
  |_=>[]
def reach(objs:List Ob):Nat->List Nat->List Nat->List Nat
 |0,_,seen=>seen
 |_+1,[],seen=>seen
 |n+1,x::todo,seen=>match eI x seen with
  |true=>reach objs n todo seen
  |false=>reach objs n (gh todo (match eG objs x with| .box cs=>eT (oL 8) cs| .loop _ _ _ _ s _=>eT (λ(x:Nat×PV)=>oL 8 x.2) s|_=>[])) (gh seen [x])
def lr:Ob->Bool
 | .row _ _ _=>true
 | .map _ _ _=>true
 | .dead=>true
 |_=>false
def Sk(r n:Nat):Nat->Nat
 |0=>r
 |i+1=>n+i
def nw(m:Nat):List Ob->List Ob
 |[]=>[]
 | .iter m' s::l=>(bif nb m' m then .dead else .iter m' s)::nw m l
 |o::l=>o::nw m l
inductive Qj where
 |fn (f:FuncId)|kF
abbrev jm:=Qj->List Ob->List PV->(PV->List Ob->Prop)->Prop
def ib:PV->Bool
 | .undef=>false
 | .agg _=>false
 | .tup _=>false
 |_=>true
def iN:List CK->List PV->Bool
 |[],[]=>true
 |c::cs,p::ps=>s8 c p&&iN cs ps
 |_,_=>false
section
variable (A:pP) (G:dH) (C:jm)
def nr(s:cS):List Operand->List TypeId->List PV
 |x::xs,t::ts=>fG G.tt s t x::nr s xs ts
 |x::xs,[]=>ev s x::nr s xs []
 |[],_=>[]
def ur(s:cS):List Operand->List TypeId->List PV
 |x::xs,t::ts=>(match lO x with|true=>.lj|false=>fG G.tt s t x)::ur s xs ts
 |x::xs,[]=>ev s x::ur s xs []
 |[],_=>[]
def C7(f:FuncId)(s:cS)(xs:List Operand)(ts:List TypeId):List PV:=match eI f G.live with
 |true=>ur G s xs ts
 |false=>nr G s xs ts
def IN(x:Operand)(t:TypeId):Option TypeId:=match lO x with
 |true=>(match G.tt t with|some ti=>some ti.el|none=>none)
 |false=>none
def nV(s:cS):Nat->List Operand->List TypeId->List PV
 |n,x::xs,t::ts=>(match IN G x t with
  |some e=>.row e n::nV s (n+1) xs ts
  |none=>fG G.tt s t x::nV s n xs ts)
 |n,x::xs,[]=>ev s x::nV s n xs []
 |_,[],_=>[]
def oh:List Operand->List TypeId->List Ob
 |x::xs,t::ts=>(match IN G x t with
  |some e=>.row e (.list []) true::oh xs ts
  |none=>oh xs ts)
 |_,_=>[]
def ew:List Nat->Bool|[]=>true|_=>false
def vA(o:Option Nat)(l:List Nat):Bool:=match o with|some n=>eI n l|none=>false
def qL(f:Qj)(args:List PV)(s:cS)(a:List Ob)(F:List Nat)(K:PV->St->Prop):Prop:=
 bif jD F&&gF (λr=>iC r (bY a)) F then
  C f (cQ (λr=>jK F (eG a r)) F) (cQ (jx F 8) args) λv o'=>K (qB (iu (bY a) F) 8 v) ⟨s,GU F (kz F a) (cQ (oK (iu (bY a) F)) o')⟩else False
def vG(f:Qj)(args:List PV)(s:cS)(a:List Ob)(K:PV->St->Prop):Prop:=qL C f args s a (reach a 64 (eT (oL 8) args) []) K
def EP(f:FuncId)(args:List PV)(st:St)(K:PV->St->Prop):Prop:=match eI f G.eh with
 |true=>vG C (.fn f) args st.s st.o K
 |false=>vG C (.fn f) (cQ (Kq st.o 8) args) st.s (fz (eT (sO 8) args) 0 st.o) K
def DJ(i:Nat)(args:List PV)(st:St)(K:PV->St->Prop):Prop:=match eG st.o i with
 | .loop _ _ _ _ _ .ready=>Mt (reach st.o 64 (i::eT (oL 8) args) [])
 |_=>False
 where Mt (F:List Nat):Prop:=qL C .kF args st.s st.o F K
def Hl:CK->Bool
 | .int _=>true
 | .bool=>true
 | .str=>true
 |_=>false
def um(tt:TypeId->Option TI):PV->List Ob->Bool
 | .row e 0,[.row e' _ true]=>nb e e'&&gF Hl (bN tt e)
 |_,_=>false
def uB(kp:Bool)(f:FuncId)(args:List PV)(st:St)(K:PV->St->Prop):Prop:=
 match eI f G.live with
 |true=>EP G C f args st K
 |false=>match kp&&eI f G.eh with
 |true=>(match args with
  | .row e r::rest=>(match eG st.o r with
   | .row e' d true=>bif nb e e'&&ew (eT (ids st.o 8) rest)then
    C (.fn f) [.row e' d true] (.row e 0::cQ (nN st.o 8) rest) (λv o'=>match o' with
     |ob::more=>bif lr ob&&gF lr more then K (JW (Sk r (bY st.o)) 8 v) ⟨st.s,gh (il st.o r ob) more⟩else False
     |_=>False)else False
   |_=>False)
  |_=>False)
 |false=>C (.fn f) [] (cQ (nN st.o 8) args) λv o'=>bif gF lr o' then
  (match plain 8 v with
   |true=>K v st
   |false=>(match eI f G.XW&&um G.tt v o' with
    |true=>K (JW (λi=>bY st.o+i) 8 v) ⟨st.s,gh st.o o'⟩
    |false=>K (JW (λi=>bY st.o+i) 8 v) ⟨nk (eT (ids st.o 8) args) st.o st.s,gh (fz (eT (ids st.o 8) args) 0 st.o) o'⟩))else False
def rJ(a:PV->PV)(tt:TypeId->Option TI)(s:cS)(e:TypeId)(b:TI):Nat->Nat->List (Nat×Operand)->Option (List (List D))
 |i,n,[]=>bif nb i n then some []else none
 |i,n,(j,x)::r=>bif nb i j&&iN b.bP (cQ a (flat (fG tt s e x)))&&gF ib (flat (fG tt s e x))then
  (match rJ a tt s e b (i+1) n r with
   |some rows=>some (cQ rY (cQ a (flat (fG tt s e x)))::rows)
   |none=>none)else none
def sW(s:cS):Nat->Nat->List (Nat×Operand)->Option (List PV)
 |i,n,[]=>bif nb i n then some []else none
 |i,n,(j,x)::r=>bif nb i j&&ib (ev s x)then
  (match sW s (i+1) n r with
   |some l=>some (ev s x::l)
   |none=>none)else none
def LA(ob:List Ob)(p:PV)(K:TypeId->D->Prop):Prop:=match p with
 | .lst e d=>K e d
 | .row e r=>(match eG ob r with
  | .row e' d _=>bif nb e e' then K e d else False
  |_=>False)
 |_=>False
def gN:CK->Bool
 | .int _=>true
 | .str=>true
 | .bool=>true
 |_=>false
def uU(l:List CK):List D:=cQ (λc=>rY (gT c)) l
def pW(ok:Bool)(v:PV)(b:Bool):PV:=bif ok then .tup [v,.bl b]else v
def zZ(b:Bool):PV->Bool
 | .agg _=>b
 | .undef=>false
 |_=>bif b then false else true
def keyOf(a:TI):Option CK:=match a.agg,a.bP with
 |false,[kc]=>bif gN kc then some kc else none
 |true,[.str,.str]=>bif a.Db then some .ik else none
 |_,_=>none
def jR(c:CK)(p:PV):Bool:=match c with
 | .ik=>(match p with| .agg [.str _,.str _]=>true|_=>false)
 |c=>s8 c p
def vw(k:IntKind)(n:Int):List PV->Bool
 |[]=>true
 | .int k' m::_::cs=>(match Hf k k',decide (n=m)with|true,false=>vw k n cs|_,_=>false)
 |_=>false
def getKey(k:IntKind)(n:Int):List PV->Option (Option PV)
 |[]=>some none
 | .int k' m::p::cs=>(match Hf k k',decide (n=m)with|true,true=>some (some p)|true,false=>getKey k n cs|_,_=>none)
 |_=>none
def Z5(o:Option TI):Bool:=match o with|some a=>zp a|none=>false
def Sp:CK->Bool
 | .int _=>true
 |_=>false
def lN:PV->D
 | .agg [.str a,.str b]=>.ptr [.str a,.str b]
 |p=>rY p
def rI(t:TypeId)(m k x:Operand)(st:St)(K:St->Prop):Prop:=match G.tt t with
 |some ti=>bif isMap ti then(match G.tt (ti.ar-1),G.tt ti.el with
  |some f,some a=>match keyOf f with
   |some kc=>bif jR kc (fG G.tt st.s (ti.ar-1) k)then(match ev st.s m with
    | .mp r=>(match eG st.o r with
     | .box cs=>(match kc,fG G.tt st.s (ti.ar-1) k with
      | .int c,.int k' n=>bif Hf c k'&&vw c n cs then K ⟨st.s,il (nw r st.o) r (.box (gh cs [.int k' n,fG G.tt st.s ti.el x]))⟩else False
      |_,_=>False)
     | .map b e d=>bif decide (kc=b)&&nb e ti.el&&iC 0 (bY a.bP)&&iN a.bP (cQ (nN st.o 8) (flat (fG G.tt st.s ti.el x)))&&gF ib (flat (fG G.tt st.s ti.el x))&&zZ a.agg (fG G.tt st.s ti.el x)&&ew (eT (ids st.o 8) (flat (fG G.tt st.s ti.el x)))then
      K ⟨st.s,il (nw r st.o) r (.map kc e (A.lM d (lN (fG G.tt st.s (ti.ar-1) k)) (cQ rY (cQ (nN st.o 8) (flat (fG G.tt st.s ti.el x))))))⟩else False
     |_=>False)
    |_=>False)else False
   |none=>False
  |_,_=>False)else False
 |none=>False
def vC(t:TypeId)(m k x:Operand)(st:St)(K:St->Prop):Prop:=match G.tt t with
 |some ti=>(match fG G.tt st.s ti.el x with
  | .mp j=>rI A G t m k x (vj j st) K
  |_=>rI A G t m k x st K)
 |none=>False
def yZ(t:TypeId)(m k:Operand)(st:St)(K:St->Prop):Prop:=match G.tt t with
 |some ti=>bif isMap ti then(match G.tt (ti.ar-1)with
  |some b=>match keyOf b with
   |some kc=>bif jR kc (fG G.tt st.s (ti.ar-1) k)then(match ev st.s m with
    | .mp r=>(match eG st.o r with
     | .map a e d=>bif decide (kc=a)then K ⟨st.s,il (nw r st.o) r (.map kc e (A.G5 d (lN (fG G.tt st.s (ti.ar-1) k))))⟩else False
     |_=>False)
    |_=>False)else False
   |none=>False
  |none=>False)else False
 |none=>False
def wW:Nat->List CK->List PV
 |_,[]=>[]
 |n,.slice e::cs=>.row e n::wW (n+1) cs
 |n,c::cs=>gT c::wW n cs
def pV:List CK->List Ob
 |[]=>[]
 | .slice e::cs=>.row e (.list []) true::pV cs
 |_::cs=>pV cs
def Pw(A:pP)(d kd:D)(a b:D->Prop):Prop:=(A.nh d kd=true->a kd)/\(A.nh d kd=false->b kd)
def Bu(kd:D)(k:D->Prop):Prop:=k kd
def xj(a:TI):Bool:=match a.agg,a.bP with
 |false,[.int _]=>true
 |false,[.str]=>true
 |false,[.bool]=>true
 |false,[.map _ _]=>true
 |_,_=>false
def Ay(ti:TI)(ps:List PV):Bool:=match nY ps with
 |true=>ti.P9
 |false=>true
def P8(ps cs:List PV):Bool:=match nY ps with
 |true=>nY cs
 |false=>true
def Sn(a:TI):Bool:=match ug a with
 |some .u8=>true
 |_=>false
def BY(e:TypeId)(x:PV)(d2:D)(st:St)(o:Oper)(K:PV->St->Prop):Prop:=match x with
 | .row e4 r=>(match eG st.o r with
  | .row e5 d wr=>bif nb e e4&&nb e e5&&iD G.n0 r then
   A.gr (A.add (A.len d) (A.len d2)) 4294967296/\K (.row e r) ⟨mf r st.s,il (jz r st.o) r (.row e (A.app d d2) wr)⟩else False
  |_=>False)
 | .om e4 d=>bif nb e e4 then
  A.gr (A.add (A.len d) (A.len d2)) 4294967296/\((match vA o.dst G.own with|true=>(A.idx 0 (A.len d2)/\K (.row e (bY st.o)) ⟨st.s,gh st.o [.row e (A.app d d2) true]⟩)|false=>(K (.lst e (A.app d d2)) st)))else False
 |_=>False
def eB(o:Oper)(st:St)(K:PV->St->Prop):Prop:=
 match o.op with
 | .alloc t=>match G.tt t with
  |some ti=>match vA o.dst G.own,eC ti with
   |true,some e=>K (.box (bY st.o+1) 0) ⟨st.s,gh st.o [.row e (.list []) true,.box [.row e (bY st.o)]]⟩
   |true,none=>bif Ay ti (wW (bY st.o) ti.bP)then K (.box (bY st.o+bY (pV ti.bP)) 0) ⟨st.s,gh st.o (gh (pV ti.bP) [.box (wW (bY st.o) ti.bP)])⟩else False
   |_,_=>bif Ay ti (ti.bP.map gT)then K (.box (bY st.o) 0) ⟨st.s,gh st.o [.box (ti.bP.map gT)]⟩else False
  |none=>False
 | .box t x=>match G.tt t with
  |some ti=>bif nb (bY (flat (fG G.tt st.s t x))) (bY ti.bP)&&iC 0 (bY ti.bP)&&Ay ti (flat (fG G.tt st.s t x))then K (.box (bY st.o) 0) ⟨st.s,gh st.o [.box (flat (fG G.tt st.s t x))]⟩else False
  |none=>False
 | .store t x y=>match G.tt t with
  |none=>False
  |some ti=>bif nb (bY (flat (fG G.tt st.s t y))) (bY ti.bP)&&gF ib (flat (fG G.tt st.s t y))&&iC 0 (bY ti.bP)then(match ev st.s x with
   | .box b off=>(match eG st.o b with
    | .box cs=>bif iD off dC&&iD (off+bY ti.bP) (bY cs)&&P8 (od cs off (flat (fG G.tt st.s t y))) cs then K .undef ⟨st.s,il st.o b (.box (od cs off (flat (fG G.tt st.s t y))))⟩else False
    |_=>False)
   | .fM e r i off=>(match eG st.o r,nb off dC with
    | .row e' d true,false=>bif nb e e'&&ic G.tt e off ti.bP&&iN ti.bP (cQ (nN st.o 8) (flat (fG G.tt st.s t y)))&&ew (eT (ids st.o 8) (flat (fG G.tt st.s t y)))then
     K .undef ⟨st.s,il st.o r (.row e' (A.nK d i off (cQ rY (cQ (nN st.o 8) (flat (fG G.tt st.s t y))))) true)⟩else False
    |_,_=>False)
   |_=>False)else False
 | .buildSlice t len ps=>match G.tt t with
  |none=>False
  |some ti=>match eC ti with
   |none=>False
   |some e=>match G.tt e with
    |none=>False
    |some a=>bif iD len 1000&&iD a.bP.length 1000&&iC 0 (bY a.bP)then(match a.bP with
     |[.fn]=>(match sW st.s 0 len ps.toList with
      |none=>False
      |some h=>(match vA o.dst G.own with
       |true=>bif Ay a h then K (.box (bY st.o) (dC+1+len)) ⟨st.s,gh st.o [.box h]⟩else False
       |false=>K (.du (cQ (nN st.o 8) h) dC) ⟨nk (eT (ids st.o 8) h) st.o st.s,fz (eT (ids st.o 8) h) 0 st.o⟩))
     |_=>(match rJ (nN st.o 8) G.tt st.s e a 0 len ps.toList with
     |none=>False
     |some rows=>(match vA o.dst G.own with
      |true=>bif ew (eT (ids st.o 8) (eT (λp=>flat (fG G.tt st.s e p.2)) ps.toList))then K (.row e (bY st.o)) ⟨st.s,gh st.o [.row e (A.lit rows) true]⟩else False
      |false=>(match ew (eT (ids st.o 8) (eT (λp=>flat (fG G.tt st.s e p.2)) ps.toList))with
       |true=>K (.om e (A.lit rows)) st
       |false=>K (.om e (A.lit rows)) ⟨nk (eT (ids st.o 8) (eT (λp=>flat (fG G.tt st.s e p.2)) ps.toList)) st.o st.s,fz (eT (ids st.o 8) (eT (λp=>flat (fG G.tt st.s e p.2)) ps.toList)) 0 st.o⟩))))else False
 | .call { callee:=.builtin .append,args:=as,argTypes:=ts }=>match as.toList,ts.toList with
  |[x,y],[t1,t2]=>match G.tt t1,G.tt t2 with
   |some i1,some i2=>match eC i1 with
    |some e=>(match eC i2 with
     |some e2=>bif nb e e2 then(match G.tt e with
      |none=>False
      |some a=>bif iD a.bytes 1024&&iC 0 (bY a.bP)then LA st.o (fG G.tt st.s t2 y) (λe3 d2=>bif nb e e3 then BY A G e (SB G.tt st.s t1 x) d2 st o K else False)else False)else False
     |none=>(match G.tt e,fG G.tt st.s t2 y with
      |some a,.str u=>bif isStr i2&&Sn a&&iD a.bytes 1024 then BY A G e (SB G.tt st.s t1 x) (A.OP u) st o K else False
      |_,_=>False))
    |none=>False
   |_,_=>False
  |_,_=>False
 | .assign x=>(match vA o.dst G.own&&lO x with
  |true=>(match G.tt o.type with
   |some ti=>K (.row ti.el (bY st.o)) ⟨st.s,gh st.o [.row ti.el (.list []) true]⟩
   |none=>False)
  |false=>cH A G.tt o.op o.type st.s st.o λv=>K v st)
 | .move (.tmp t)=>(match vA o.dst G.own,look st.s t with
  |true,.row e r=>(match eG st.o r with
   | .row e' d wr=>bif nb e e' then K (.row e r) ⟨Hd st.o r st.s,fz [r] 0 st.o⟩else False
   |_=>False)
  |_,_=>cH A G.tt o.op o.type st.s st.o λv=>K v st)
 | .build t ps=>(match vA o.dst G.own with
  |true=>(match G.tt t with
   |some ti=>(match ti.agg&&nb ti.ar 0 with
    |true=>(match mw st.s G.tt ti.fs ps.toList (wW (bY st.o) ti.bP)with
     |some cs=>K (.agg cs) ⟨st.s,gh st.o (pV ti.bP)⟩
     |none=>False)
    |false=>False)
   |none=>False)
  |false=>cH A G.tt o.op o.type st.s st.o λv=>K v st)
 | .slice t (.tmp tx) lo w B=>match look st.s tx with
  | .row e r=>(match vA o.dst G.own with
   |true=>(match lo,w,B with
    |some _,none,none=>(match G.tt t,G.tt e,eG st.o r with
     |some ti,some _,.row e' d _=>(match eC ti with
      |some e0=>bif nb e0 e&&nb e e'&&iD G.n0 r then tW st.s lo 0 λl=>A.gr l (A.len d)/\K (.row e r) ⟨mf r st.s,il (jz r (fz [r] 0 st.o)) r (.row e (A.part d l (A.len d)) false)⟩else False
      |none=>False)
     |_,_,_=>False)
    |none,some _,none=>(match ew G.live,G.tt t,G.tt e,eG st.o r with
     |false,some ti,some _,.row e' d true=>(match eC ti with
      |some e0=>bif nb e0 e&&nb e e'&&iD G.n0 r then tW st.s w 0 λl=>A.idx 0 (A.len d)/\A.gr l (A.len d)/\K (.row e r) ⟨mf r st.s,il (jz r st.o) r (.row e (A.part d 0 l) true)⟩else False
      |none=>False)
     |_,_,_,_=>False)
    |_,_,_=>False)
   |false=>(match vA o.dst G.view with
    |true=>(match lo,w,B with
     |some _,none,none=>(match G.tt t,G.tt e,eG st.o r with
      |some ti,some _,.row e' d _=>(match eC ti with
       |some e0=>bif nb e0 e&&nb e e' then tW st.s lo 0 λl=>A.idx 0 (A.len d)/\A.gr l (A.len d)/\K (.fM e r l dC) st else False
       |none=>False)
      |_,_,_=>False)
     |_,_,_=>False)
    |false=>cH A G.tt o.op o.type st.s (fz [r] 0 st.o) λv=>K v ⟨st.s,fz [r] 0 st.o⟩))
  |_=>cH A G.tt o.op o.type st.s st.o λv=>K v st
 | .makeSlice t x y=>match G.tt t with
  |some ti=>match eC ti with
   |some e=>match G.tt e with
    |some a=>match ev st.s x,ev st.s y with
     | .int _ l,.int _ c=>bif iD a.bytes 1024&&iC 0 (bY a.bP)then A.gr l c/\A.gr c 4294967296/\K (.row e (bY st.o)) ⟨st.s,gh st.o [.row e (A.XK l (uU a.bP)) true]⟩else False
     |_,_=>False
    |none=>False
   |none=>False
  |none=>False
 | .makeMap t none=>match G.tt t with
  |some ti=>bif isMap ti then(match G.tt (ti.ar-1)with
   |some s=>match keyOf s with
    |some kc=>(match Z5 (G.tt ti.el)&&Sp kc with
     |true=>K (.mp (bY st.o)) ⟨st.s,gh st.o [.box []]⟩
     |false=>K (.mp (bY st.o)) ⟨st.s,gh st.o [.map kc ti.el (.list [])]⟩)
    |none=>False
   |none=>False)else False
  |none=>False
 | .lookup t m k ok=>match G.tt t with
  |some ti=>bif isMap ti then(match G.tt (ti.ar-1),G.tt ti.el with
   |some s,some a=>match keyOf s with
    |some kc=>bif jR kc (fG G.tt st.s (ti.ar-1) k)then(match ev st.s m with
     | .mp r=>(match eG st.o r with
      | .box cs=>(match kc,ok,fG G.tt st.s (ti.ar-1) k with
       | .int z,false,.int k' n=>bif Hf z k' then(match getKey z n cs with
        |some (some p)=>K p st
        |some none=>bif zp a then K .nilf st else False
        |none=>False)else False
       |_,_,_=>False)
      | .map q e d=>bif decide (kc=q)&&nb e ti.el&&iC 0 (bY a.bP)then
       (match ok,xj a with
        |false,true=>Bu (lN (fG G.tt st.s (ti.ar-1) k)) λkd=>K (eX a (ir A d kd 0 a.bP)) st
        |_,_=>Pw A d (lN (fG G.tt st.s (ti.ar-1) k)) (λkd=>K (pW ok (eX a (ir A d kd 0 a.bP)) true) st) (λ_=>K (pW ok (eX a (a.bP.map gT)) false) st))else False
      |_=>False)
     | .dmp e d=>bif decide (kc= .str)&&nb e ti.el&&iC 0 (bY a.bP)then
      (match ok,xj a with
       |false,true=>Bu (lN (fG G.tt st.s (ti.ar-1) k)) λkd=>K (eX a (ir A d kd 0 a.bP)) st
       |_,_=>Pw A d (lN (fG G.tt st.s (ti.ar-1) k)) (λkd=>K (pW ok (eX a (ir A d kd 0 a.bP)) true) st) (λ_=>K (pW ok (eX a (a.bP.map gT)) false) st))else False
     |_=>False)else False
    |none=>False
   |_,_=>False)else False
  |none=>False
 | .mapUpdate t m k x=>vC A G t m k x st (K .undef)
 | .insert t m k x=>vC A G t m k x st (K .undef)
 | .call { callee:=.builtin .delete,args:=as,argTypes:=ts }=>(match as.toList,ts.toList with
  |[m,k],t::_=>yZ A G t m k st (K (.tup []))
  |_,_=>False)
 | .range t m=>match G.tt t with
  |some ti=>bif isMap ti then(match ev st.s m with
   | .mp r=>(match eG st.o r with
    | .map _ _ _=>K (.it (bY st.o)) ⟨st.s,gh st.o [.iter r (.list [])]⟩
    |_=>False)
   | .dmp e d=>bif nb e ti.el then K (.it (bY st.o)) ⟨st.s,gh st.o [.diter e d (.list [])]⟩else False
   |_=>False)else False
  |none=>False
 | .next it str=>bif str then False else(match ev st.s it with
  | .it i=>(match eG st.o i with
   | .iter m seen=>(match eG st.o m with
    | .map kc e d=>(match G.tt e with
     |some a=>bif iC 0 (bY a.bP)then(A.n1 d seen->K (.tup [.bl false]) st)/\
      (∀j,A.qp d seen j->K (.tup [.bl true,mr A kc (A.cell d j 0),eX a (jS A d j 1 a.bP)]) ⟨st.s,il st.o i (.iter m (A.oe seen j))⟩)else False
     |none=>False)
    |_=>False)
   | .diter e d seen=>(match G.tt e with
    |some a=>bif iC 0 (bY a.bP)then(A.n1 d seen->K (.tup [.bl false]) st)/\
     (∀j,A.qp d seen j->K (.tup [.bl true,mr A .str (A.cell d j 0),eX a (jS A d j 1 a.bP)]) ⟨st.s,il st.o i (.diter e d (A.oe seen j))⟩)else False
    |none=>False)
   |_=>False)
  |_=>False)
 | .entry it=>(match ev st.s it with
  | .it i=>(match eG st.o i with
   | .iter m seen=>(match eG st.o m with
    | .map kc e d=>(match G.tt e with
     |some a=>bif iC 0 (bY a.bP)then A.idx 0 (A.len seen)/\A.idx (A.last seen) (A.len d)/\K (.tup [mr A kc (A.cell d (A.last seen) 0),eX a (jS A d (A.last seen) 1 a.bP)]) st else False
     |none=>False)
    |_=>False)
   | .diter e d seen=>(match G.tt e with
    |some a=>bif iC 0 (bY a.bP)then A.idx 0 (A.len seen)/\A.idx (A.last seen) (A.len d)/\K (.tup [mr A .str (A.cell d (A.last seen) 0),eX a (jS A d (A.last seen) 1 a.bP)]) st else False
    |none=>False)
   |_=>False)
  |_=>False)
 | .call { callee:=.value (.func f),args:=as,argTypes:=ts }=>(match eI f G.live&&eI f G.eh with
  |true=>uB G C true f (nV G st.s (bY st.o) as.toList ts.toList) ⟨st.s,gh st.o (oh G as.toList ts.toList)⟩ K
  |false=>uB G C true f (C7 G f st.s as.toList ts.toList) st K)
 | .call { callee:=.value f,args:=as,argTypes:=ts }=>match ev st.s f with
  | .cu g gU=>(match iC g kB with
   |true=>uB G C false g (gh (nr G st.s as.toList ts.toList) gU) st K
   |false=>uB G C false (g-kB) (gh gU (nr G st.s as.toList ts.toList)) st K)
  | .kF i=>(match ew G.live with|true=>False|false=>DJ C i (nr G st.s as.toList ts.toList) st K)
  |_=>False
 |op=>cH A G.tt op o.type st.s st.o λv=>K v st
end
end
section
variable [Inhabited pY]
open Go
def cB{α:Type}{l:List α}{i:Nat}{x:α}(h:l[i]? =some x):i<l.length:=by
 rcases bR i l.length with b|b
 ·exact b
 ·rw[bU b]at h;simp at h
def fX{α β:Type}(f:α->β)(l:List α):(cQ f l).length=l.length:=by rw[gP];simp
def oQ{l:List Nat}(h:jD l=true):l.Nodup:=by
 induction l with
 |nil=>exact oC
 |cons x l b=>
  simp only[jD]at h;cases hm:eI x l with
  |true=>rw[hm]at h;cases h
  |false=>rw[hm]at h;rw[cq];refine⟨λc=>?_,b h⟩;rw[(kW x l).2 c]at hm;cases hm
def xF:Nat->Nat->List Nat->Bool
 |0,_,_=>true
 |_+1,_,[]=>false
 |n+1,k,x::l=>nb x k&&xF n (k+1) l
def Ia:∀{n k:Nat}{l:List Nat},xF n k l=true->∀i,i<n->l[i]? =some (k+i)
 |0,_,_,_,i,b=>yO
 |n+1,k,[],h,i,b=>by simp[xF]at h
 |n+1,k,x::l,h,i,b=>by
  simp only[xF,bn]at h;cases i with
  |zero=>simp[cX h.1]
  |succ i=>
   have:=Ia h.2 i yO;simp only[kI,this]
   congr 1;omega
section
variable {P:Program}{tt:TypeId->Option TI}{N:Nat}{B:jH}{E:List RI}{Pp:fQ}{objs:List Ob}{w:World}{st:St}{a:Act}
variable {F ps:List Nat}{n r:Nat}{E2 E':List RI}{v:Value}{cs:List PV}{vs:List Value}{f:Nat->Nat}{p:PV}{ad:Addr}{Pp' Pp:fQ}{ri:RI}
def Sf(e:∀(i:Nat) x,i≠r->E[i]? =some x->E'[i]? =some x):∀(n:Nat)(p:PV)(v:Value),uN r n p=false->VR tt E Pp v p->VR tt E' Pp v p:=by
 intro n;induction n with
 |zero=>intro p v h;simp[uN]at h
 |succ n k=>
  have d:∀(cs:List PV)(vs:List Value),qg (uN r n) cs=false->eM tt E Pp vs cs->eM tt E' Pp vs cs:=by
   intro cs;induction cs with
   |nil=>intro vs _ g;cases g;exact .nil
   |cons c cs j=>
    intro vs h g;simp only[qg,K5]at h;cases g with
    |cons _ _ _ _ h1 h2=>exact .cons _ _ _ _ (k _ _ h.1 h1) (j _ h.2 h2)
  intro p v h g;cases g with
  |undef=>exact .undef _
  |int=>exact .int _ _
  |bl=>exact .bl _
  |bool=>exact .bool _
  |str=>exact .str _
  |lst _ _ _ hr=>exact .lst _ _ _ hr
  |om _ _ _ _ hr=>exact .om _ _ _ _ hr
  |agg vs cs hl=>exact .agg _ _ (d _ _ (by simpa[uN]using h) hl)
  |tup vs cs hl=>exact .tup _ _ (d _ _ (by simpa[uN]using h) hl)
  |box _ b _ _ hb hu=>exact .box _ _ _ _ (e _ _ (by rintro rfl;simp[uN]at h) hb) hu
  |row0 _ b hb=>exact .row0 _ _ (e _ _ (by rintro rfl;simp[uN]at h) hb)
  |row _ b _ _ _ _ hb=>exact .row _ _ _ _ _ _ (e _ _ (by rintro rfl;simp[uN]at h) hb)
  |fM _ _ b _ _ _ _ _ _ hb h0 h1=>exact .fM _ _ _ _ _ _ _ _ _ (e _ _ (by rintro rfl;simp[uN]at h) hb) h0 h1
  |jv _ _ _ _ _ _ _ _ hr h0 h1=>exact .jv _ _ _ _ _ _ _ _ hr h0 h1
  |du u vs cs off b o hu hl hV=>exact .du _ _ _ _ _ _ hu (d _ _ (by simpa[uN]using h) hl) hV
  |dptr _ _ _ hr=>exact .dptr _ _ _ hr
  |dmp _ _ _ _ hr=>exact .dmp _ _ _ _ hr
  |rP _ _ _ _ _ hr=>exact .rP _ _ _ _ _ hr
  |cu u f vs cs hu hl=>exact .cu _ _ _ _ hu (d _ _ (by simpa[uN]using h) hl)
  |nilp=>exact .nilp
  |nilm=>exact .nilm
  |lj=>exact .lj
  |nilf=>exact .nilf
  |mp b _ _ _ hb=>exact .mp _ _ _ _ (e _ _ (by rintro rfl;simp[uN]at h) hb)
  |it b _ hb=>exact .it _ _ (e _ _ (by rintro rfl;simp[uN]at h) hb)
  |kF b _ hb=>exact .kF _ _ (e _ _ (by rintro rfl;simp[uN]at h) hb)
def CX(b:∀(i:Nat) x,i≠r->E[i]? =some x->E'[i]? =some x)(c:VR tt E Pp v p):VR tt E' Pp v (kill r p):=by
 unfold kill;cases h:uN r 8 p with
 |true=>exact .undef _
 |false=>exact Sf b 8 p v h c
def zg(r:Nat)(s:cS)(t:Nat):look (mf r s) t=kill r (look s t):=by
 induction s with
 |nil=>simp[mf,look,kill,uN]
 |cons x s b=>obtain⟨k,p⟩:=x;simp only[mf,look,b];cases nb k t<;>simp
def HV(f:PV->PV):Prop:=∀p,pt (f p)=true->pt p=true
def FI{f:PV->PV}(h:HV f):∀{cs:List PV},nY (cQ f cs)=true->nY cs=true
 |[],hb=>yC hb
 |[_],hb=>yC hb
 |[a,b],hb=>h a hb
 |_::_::_::_,hb=>yC hb
def rk.map{T:TypeId}(h:rk tt T cs){f:PV->PV}(hf:HV f):rk tt T (cQ f cs):=λhb=>h (FI hf hb)
def JI(r:Nat)(e:TypeId)(d:D):HV (si r e d):=by
 intro p;unfold si;cases uN r 8 p with
 |false=>exact id
 |true=>
  simp only[cond_true];cases p<;>simp only[tK]<;>(try exact id)<;>(try exactλh=>(yC h))
  rename_i x;cases nb x r<;>exactλh=>(yC h)
def ME(r:Nat):HV (kill r):=by
 intro p;unfold kill;cases uN r 8 p with
 |false=>exact id
 |true=>exactλh=>(yC h)
def J1(ps:List Nat):HV (jx ps 8):=by
 intro p;cases p<;>simp only[jx]<;>(try exactλh=>by first|exact h|rfl)
 all_goals (split<;>exactλh=>by first|rfl|(cases h;done))
def LX(f:Nat->Nat):HV (qB f 8):=by intro p;cases p<;>simp only[qB]<;>exactλh=>by first|exact h|rfl
def gQ(tt:TypeId->Option TI)(E:List RI)(objs:List Ob)(w:World)(Pp:fQ)(F:List Nat):fQ:=λad v=>
 Pp ad v\/(w.cell? ad=some v/\∃i∈F,(∃cs,E[i]? =some (.box ad.block)/\objs[i]? =some (.box cs))\/
  (∃o len cap e d wr,E[i]? =some (.row ad.block o len cap)/\objs[i]? =some (.row e d wr)/\ad.off<o+len*(bN tt e).length))
def s3(J:WR tt E Pp objs w):∀(n:Nat)(p:PV)(v:Value),VR tt E Pp v p->(∀i∈ids objs n p,i∈F)->VR tt [] (gQ tt E objs w Pp F) v (nN objs n p):=by
 intro n;induction n with
 |zero=>intro p v _ _;exact .undef _
 |succ n Q=>
  have mono:∀ad v,Pp ad v->gQ tt E objs w Pp F ad v:=λad v h=>.inl h
  have m:∀(cs:List PV)(vs:List Value),eM tt E Pp vs cs->(∀i∈eT (ids objs n) cs,i∈F)->eM tt [] (gQ tt E objs w Pp F) vs (cQ (nN objs n) cs):=by
   intro cs;induction cs with
   |nil=>intro vs t _;cases t;exact .nil
   |cons c cs G=>
    intro vs t h;rw[kZ]at h;cases t with
    |cons _ _ _ _ h1 h2=>exact .cons _ _ _ _ (Q _ _ h1 (λi l=>h i (by simp[l]))) (G _ h2 (λi l=>h i (by rw[kZ]at l;simp only[eJ,bE];exact .inr l)))
  intro p v t h;cases t with
  |undef=>exact .undef _
  |int=>exact .int _ _
  |bl=>exact .bl _
  |bool=>exact .bool _
  |str=>exact .str _
  |lst _ _ _ hr=>exact .lst _ _ _ (hr.mono mono)
  |om _ _ _ _ hr=>exact .lst _ _ _ (hr.mono mono)
  |agg vs cs hl=>exact .agg _ _ (m _ _ hl h)
  |tup vs cs hl=>exact .tup _ _ (m _ _ hl h)
  |cu u f vs cs hu hl=>exact .cu _ _ _ _ hu (m _ _ hl h)
  |du u vs cs off b o hu hl hV=>exact .du _ _ _ _ _ _ hu (m _ _ hl h) (λj v z=>mono _ _ (hV j v z))
  |jv _ _ _ _ _ _ _ _ hr h0 h1=>exact .jv _ _ _ _ _ _ _ _ (hr.mono mono) h0 h1
  |dptr _ _ _ hr=>exact .dptr _ _ _ (hr.mono mono)
  |dmp _ _ _ _ hr=>exact .dmp _ _ _ _ (hr.mono mono)
  |rP _ _ _ _ _ hr=>exact .rP _ _ _ _ _ (hr.mono mono)
  |nilp=>exact .nilp
  |nilm=>exact .nilm
  |lj=>exact .lj
  |nilf=>exact .nilf
  |fM=>exact .undef _
  |mp=>exact .undef _
  |it=>exact .undef _
  |kF=>exact .undef _
  |row0 e r x=>
   simp only[nN];split
   ·rename_i e' d wr A;cases hb:nb e e' with
    |false=>exact .undef _
    |true=>obtain⟨ri,k,q⟩:=J.ob r _ (di A rfl) rfl;rw[x]at k;cases k;have:d= .list []:=q;subst this;exact .lst _ _ _ (.slnil _)
   ·exact .undef _
  |row e r g o len cap x=>
   simp only[nN];split
   ·rename_i e' d wr A;cases hb:nb e e' with
    |false=>exact .undef _
    |true=>
     have:=cX hb;subst this;have s:=di A rfl;obtain⟨ri,k,q⟩:=J.ob r _ s rfl;rw[x]at k;cases k;obtain⟨vals,T,rows,y,rfl,hl,C,fW,dN,_,_⟩:=q;refine .lst _ _ _ (.sl e g o len cap rows (λi j=>vals.getD (o+i*(bN tt e).length+j) undef) hl C (λi row l=>(dN i row l).1) ?_ ?_)
     ·intro i j l z;have I:i<rows.length:=yO;obtain⟨O,hc⟩:=dN i _ (bu I);obtain⟨v,t,hr⟩:=hc j _ _ (bu yO) (bu z);refine .inr ⟨?_,r,h r (by simp[ids]),.inr ⟨o,len,cap,e,_,wr,x,s,?_⟩⟩
      ·rw[eE y,t];simp[t]
      ·have:(i+1)*(bN tt e).length<=len*(bN tt e).length:=dq _ l;rw[dz]at this;show o+i*(bN tt e).length+j<o+len*(bN tt e).length;omega
     ·intro i j row d ck l z L;obtain⟨_,hc⟩:=dN i row l;obtain⟨v,t,hr⟩:=hc j d ck z L;simp only[cx,t,eR];exact hr.mono mono
   ·exact .undef _
  |box u b off gu x hu=>
   simp only[nN];split
   ·rename_i cs A;have s:=di A rfl;obtain⟨ri,k,q⟩:=J.ob b _ s rfl;rw[x]at k;cases k;obtain⟨vs,T,y,K,_⟩:=q;cases D:iD dC off with
    |true=>exact .undef _
    |false=>
    have M:off<dC:=by
     rcases bR off dC with H|H
     ·exact H
     ·rw[show iD dC off=true from decide_eq_true H]at D;cases D
    obtain rfl:=hu.1 yO;have D:nb off dC=false:=decide_eq_false yO;have:=VR.du (tt:=tt) (E:=[]) (Pp:=gQ tt E objs w Pp F) (.pointer (some ⟨gu,0+off,none⟩)) vs (cQ (nN objs n) cs) off gu 0 (qF.mk D) (m _ _ K (λi l=>h i (by simp only[ids,A];exact jI _ l))) (by intro j v z;refine .inr ⟨?_,b,h b (by simp[ids]),.inl ⟨cs,x,s⟩⟩;rw[eE y];simpa using z);simpa using this
   ·exact .undef _
def uj(d:WR tt E Pp objs w){ps:List PV}(c:eM tt E Pp vs ps)(h:∀i∈eT (ids objs n) ps,i∈F):
 eM tt [] (gQ tt E objs w Pp F) vs (cQ (nN objs n) ps):=by
 induction ps generalizing vs with
 |nil=>cases c;exact .nil
 |cons p ps e=>
  rw[kZ]at h;cases c with
  |cons _ _ _ _ h1 h2=>exact .cons _ _ _ _ (s3 d n _ _ h1 (λi b=>h i (by simp[b]))) (e h2 (λi b=>h i (by rw[kZ]at b;simp only[eJ,bE];exact .inr b)))
def ju(F:List Nat):∀(l:List Ob)(k i:Nat),(fz F k l)[i]? =(l[i]?).map λo=>bif eI (k+i) F then wH o else o
 |[],k,i=>by simp[fz]
 |o::l,k,i=>by
  cases i with
  |zero=>simp[fz]
  |succ i=>simp only[fz,kI,ju F l (k+1) i];rw[show k+1+i=k+(i+1)by omega]
def ui(F:List Nat):∀(l:List Ob)(k:Nat),(fz F k l).length=l.length
 |[],k=>rfl
 |o::l,k=>by simp[fz,ui F l (k+1)]
def BA(h:gQ tt E objs w Pp F ad v):Pp ad v\/own E objs ad.block:=by
 rcases h with h|⟨_,i,_,⟨cs,h1,h2⟩|⟨o,len,cap,e,d,wr,h1,h2,_⟩⟩
 ·exact .inl h
 ·exact .inr ⟨i,_,_,h2,rfl,h1,rfl⟩
 ·exact .inr ⟨i,_,_,h2,rfl,h1,rfl⟩
def OR.SG{e:TypeId}{d seen:D}(c:∀ad v,Pp ad v->Pp' ad v)(h:OR tt E Pp w ri (.diter e d seen)):OR tt E' Pp' w ri (.diter e d seen):=by
 cases ri<;>try exact h.elim
 obtain⟨b,h1,h2|⟨g,es,clock,rows,h2,h3,h4⟩⟩:=h
 ·exact⟨b,h1,.inl h2⟩
 ·exact⟨b,h1,.inr ⟨g,es,clock,rows,h2,h3.mono c,h4⟩⟩
def Hh(e:WR tt E Pp objs w){i:Nat}{c1 c2:Code}{s:cS}{j:LS}(h:objs[i]? =some (.loop n ps c1 c2 s j))(g:E[i]? =some ri)(d:OR tt E Pp w ri (.loop n ps c1 c2 s j)){b:Nat}(hb:ri.cZ =some b)
 (c:gQ tt E objs w Pp F ad v) (he:ad.block=b):False:=by
 cases ri<;>simp only[OR]at d
 simp only[RI.cZ,cw]at hb;obtain⟨r,h1,_⟩:=d
 have hc:pc w ad=some v:=by
  rcases c with c|⟨c,_⟩
  ·exact e.pi _ _ c
  ·exact gm c
 rw[<- he]at hb;subst hb;simp[pc,h1]at hc
def WR.nM(u:WR tt E Pp objs w)(F:List Nat):WR tt E (gQ tt E objs w Pp F) (fz F 0 objs) w:=by
 have mono:∀ad v,Pp ad v->gQ tt E objs w Pp F ad v:=λad v h=>.inl h;refine⟨by rw[ui];exact u.len,?_,?_,?_,u.TX mono⟩
 ·intro ad v h;rcases h with h|⟨h,_⟩
  ·exact u.pi _ _ h
  ·exact gm h
 ·intro i o q hl;rw[ju]at q;cases t:objs[i]? with
  |none=>rw[t]at q;simp at q
  |some x=>
   rw[t]at q;simp only[cv,cw,dY]at q;by_cases C:i∈F
   ·have O:eI i F=true:=(kW i F).2 C;rw[O]at q;simp only[cond_true]at q;cases x<;>simp only[wH]at q
    case box cs=>subst q;simp[Ob.live]at hl
    case loop=>subst q;obtain⟨ri,c,l⟩:=u.ob i _ t rfl;exact⟨ri,c,OR.frame (λ_ _ h=>h) mono (λ_ _=>rfl) (λb hb ad v H he=>(Hh u t c l hb H he).elim) l⟩
    case row e d wr=>
     subst q;obtain⟨ri,c,l⟩:=u.ob i _ t rfl;refine⟨ri,c,?_⟩;cases ri with
     |row g o len cap=>
      obtain⟨vals,T,rows,h1,h2,h3,h4,h5,h6,h7,h8⟩:=l;refine⟨vals,T,rows,h1,h2,h3,h4,h5,?_,λh=>yE h,λ_=>⟨?_,?_⟩⟩
      ·intro i row G;obtain⟨a,b⟩:=h6 i row G;exact⟨a,λj d ck I R=>let ⟨v,H,hr⟩:=b j d ck I R;⟨v,H,hr.mono mono⟩⟩
      ·intro W j v G I H;refine .inr ⟨by rw[eE h1];exact H,i,C,.inr ⟨o,len,cap,e,d,wr,c,t,?_⟩⟩;have:(W+1)*(bN tt e).length<=len*(bN tt e).length:=dq _ G;rw[dz]at this;show o+W*(bN tt e).length+j<o+len*(bN tt e).length;omega
      ·intro ad v h hb;rcases h with h|⟨hc,k,hk,⟨cs,e1,e2⟩|⟨o2,z,A,e2,d2,D,e3,e4,e5⟩⟩
       ·cases wr with
        |true=>exact absurd hb (h7 rfl ad v h)
        |false=>exact(h8 rfl).2 ad v h hb
       ·have:=u.sep i k _ _ _ _ g t e2 rfl rfl c e1 rfl (by simp[RI.cZ,hb]);subst this;rw[c]at e1;cases e1
       ·have:=u.sep i k _ _ _ _ g t e4 rfl rfl c e3 rfl (by simp[RI.cZ,hb]);subst this;rw[c]at e3;cases e3;rw[t]at e4;cases e4;exact .inr e5
     |row0=>exact l
     |_=>exact l.elim
    case map kc e d=>
     subst q;obtain⟨ri,c,l⟩:=u.ob i _ t rfl;refine⟨ri,c,OR.frame (λ_ _ h=>h) mono (λ_ _=>rfl) ?_ l⟩;intro b hb ad v h he;rcases h with h|⟨hc,k,hk,⟨cs,e1,e2⟩|⟨o2,z,A,e2,d2,D,e3,e4,e5⟩⟩
     ·exact h
     ·have:=u.sep i k _ _ _ _ b t e2 rfl rfl c e1 hb (by simp[RI.cZ,he]);subst this;rw[t]at e2;cases e2
     ·have:=u.sep i k _ _ _ _ b t e4 rfl rfl c e3 hb (by simp[RI.cZ,he]);subst this;rw[t]at e4;cases e4
    case iter m s=>subst q;obtain⟨ri,c,l⟩:=u.ob i _ t rfl;exact⟨ri,c,by cases ri<;>exact l⟩
    case diter e d s=>subst q;obtain⟨ri,c,l⟩:=u.ob i _ t rfl;exact⟨ri,c,l.SG mono⟩
    case dead=>subst q;simp[Ob.live]at hl
   ·have O:eI i F=false:=by
     cases h:eI i F with
     |false=>rfl
     |true=>exact absurd ((kW i F).1 h) C
    rw[O]at q;simp only[cond_false]at q;subst q;obtain⟨ri,c,l⟩:=u.ob i _ t hl;refine⟨ri,c,OR.frame (λ_ _ h=>h) mono (λ_ _=>rfl) ?_ l⟩;intro b hb ad v h he;rcases h with h|⟨hc,k,hk,⟨cs,e1,e2⟩|⟨o2,z,A,e2,d2,D,e3,e4,e5⟩⟩
    ·exact h
    ·have:=u.sep i k _ _ _ _ b t e2 hl rfl c e1 hb (by simp[RI.cZ,he]);subst this;exact absurd hk C
    ·have:=u.sep i k _ _ _ _ b t e4 hl rfl c e3 hb (by simp[RI.cZ,he]);subst this;exact absurd hk C
 ·intro i j oi oj ri rj b G I S Q V M L U
  have back:∀(i:Nat)(o:Ob),(fz F 0 objs)[i]? =some o->o.live=true->∃x,objs[i]? =some x/\x.live=true:=by
   intro i o q hl;rw[ju]at q;cases t:objs[i]? with
   |none=>rw[t]at q;simp at q
   |some x=>
    rw[t]at q;simp only[cv,cw]at q;refine⟨x,rfl,?_⟩;cases x<;>simp[Ob.live]
    subst q;cases eI (0+i) F<;>simp[Ob.live,wH]at hl
  obtain⟨x,t,J⟩:=back i oi G S;obtain⟨y,X,K⟩:=back j oj I Q;exact u.sep i j x y ri rj b t X J K V M L U
def lT.nM{own:Nat->Prop}{w0:World}(h:lT own w0 E objs):lT own w0 E (fz F 0 objs):=by
 intro i o ri b c hl e hb;rw[ju]at c;cases d:objs[i]? with
 |none=>rw[d]at c;simp at c
 |some x=>
  rw[d]at c;simp only[cv,cw]at c;refine h i x ri b d ?_ e hb;cases x<;>simp[Ob.live]
  subst c;cases eI (0+i) F<;>simp[Ob.live,wH]at hl
def cK.nM(h:cK tt B E Pp objs w)(F:List Nat):cK tt B E (gQ tt E objs w Pp F) (fz F 0 objs) w:=by
 refine⟨h.wr.nM F,h.pre,λad v b=>.inl (h.sT ad v b),h.fr,?_,h.fresh.nM⟩;intro ad v b;rcases BA b with h1|⟨i,o,ri,h1,h2,h3,h4⟩
 ·exact h.jV ad v h1
 ·exact .inr (h.fresh i o ri _ h1 h2 h3 h4)
def VR.of_nil(h:VR tt [] Pp v p)(E:List RI):VR tt E Pp v p:=h.mono (λi x b=>yE b) (λ_ _ h=>h)
def eM.of_nil{v:List Value}{p:List PV}(h:eM tt [] Pp v p)(E:List RI):eM tt E Pp v p:=h.mono (λi x b=>yE b) (λ_ _ h=>h)
def L3:∀(n:Nat)(p:PV)(v:Value),plain n p=true->VR tt E Pp v p->VR tt E' Pp' v p:=by
 intro n;induction n with
 |zero=>intro p v h;simp[plain]at h
 |succ n g=>
  have b:∀(cs:List PV)(vs:List Value),gF (plain n) cs=true->eM tt E Pp vs cs->eM tt E' Pp' vs cs:=by
   intro cs;induction cs with
   |nil=>intro vs _ d;cases d;exact .nil
   |cons c cs e=>
    intro vs h d;simp only[gF,bn]at h;cases d with
    |cons _ _ _ _ h1 h2=>exact .cons _ _ _ _ (g _ _ h.1 h1) (e _ h.2 h2)
  intro p v h d
  cases d<;>simp only[plain]at h<;>first
   |exact .undef _|exact .int _ _|exact .bl _|exact .bool _|exact .str _|exact .nilp|exact .nilm|exact .nilf|exact .lj
   |(rename_i hl;exact .agg _ _ (b _ _ h hl))|(rename_i hl;exact .tup _ _ (b _ _ h hl))|simp at h
def GN(hf:∀(i:Nat) x,E[i]? =some x->E2[f i]? =some x):∀(n:Nat)(p:PV)(v:Value),VR tt E Pp v p->VR tt E2 Pp v (JW f n p):=by
 intro n;induction n with
 |zero=>intro p v _;exact .undef _
 |succ n h=>
  have d:∀(cs:List PV)(vs:List Value),eM tt E Pp vs cs->eM tt E2 Pp vs (cQ (JW f n) cs):=by
   intro cs;induction cs with
   |nil=>intro vs e;cases e;exact .nil
   |cons c cs g=>
    intro vs e;cases e with
    |cons _ _ _ _ h1 h2=>exact .cons _ _ _ _ (h _ _ h1) (g _ h2)
  intro p v e;cases e with
  |undef=>exact .undef _
  |int=>exact .int _ _
  |bl=>exact .bl _
  |bool=>exact .bool _
  |str=>exact .str _
  |lst _ _ _ hr=>exact .lst _ _ _ hr
  |om _ _ _ _ hr=>exact .om _ _ _ _ hr
  |agg vs cs hl=>exact .agg _ _ (d _ _ hl)
  |tup vs cs hl=>exact .tup _ _ (d _ _ hl)
  |box=>exact .undef _
  |row0 _ b hb=>exact .row0 _ _ (hf _ _ hb)
  |row _ b _ _ _ _ hb=>exact .row _ _ _ _ _ _ (hf _ _ hb)
  |fM _ _ b _ _ _ _ _ _ hb h0 h1=>exact .undef _
  |jv _ _ _ _ _ _ _ _ hr h0 h1=>exact .jv _ _ _ _ _ _ _ _ hr h0 h1
  |du u vs cs off b o hu hl hV=>exact .du _ _ _ _ _ _ hu (d _ _ hl) hV
  |dptr _ _ _ hr=>exact .dptr _ _ _ hr
  |dmp _ _ _ _ hr=>exact .dmp _ _ _ _ hr
  |rP _ _ _ _ _ hr=>exact .rP _ _ _ _ _ hr
  |cu u f vs cs hu hl=>exact .cu _ _ _ _ hu (d _ _ hl)
  |nilp=>exact .nilp
  |nilm=>exact .nilm
  |lj=>exact .lj
  |nilf=>exact .nilf
  |mp b _ _ _ hb=>exact .mp _ _ _ _ (hf _ _ hb)
  |it b _ hb=>exact .undef _
  |kF b _ hb=>exact .undef _
def QM:∀(n:Nat)(p:PV)(v:Value),VR tt E Pp v p->VR tt E Pp v (wk n p):=by
 intro n;induction n with
 |zero=>intro p v h;exact h
 |succ n i=>
  have e:∀(cs:List PV)(vs:List Value),eM tt E Pp vs cs->eM tt E Pp vs (cQ (wk n) cs):=by
   intro cs;induction cs with
   |nil=>intro vs d;cases d;exact .nil
   |cons c cs g=>
    intro vs d;cases d with
    |cons _ _ _ _ h1 h2=>exact .cons _ _ _ _ (i _ _ h1) (g _ h2)
  intro p v d;cases p<;>try exact d
  case bl b=>cases d;exact .bool _
  case agg cs=>cases d with|agg vs _ hl=>exact .agg _ _ (e _ _ hl)
  case tup cs=>cases d with|tup vs _ hl=>exact .tup _ _ (e _ _ hl)
def xh(hf:∀(i:Nat) x,E[i]? =some x->E2[f i]? =some x):∀(n:Nat)(p:PV)(v:Value),VR tt E Pp v p->VR tt E2 Pp v (qB f n p):=by
 intro n;induction n with
 |zero=>intro p v _;exact .undef _
 |succ n h=>
  have d:∀(cs:List PV)(vs:List Value),eM tt E Pp vs cs->eM tt E2 Pp vs (cQ (qB f n) cs):=by
   intro cs;induction cs with
   |nil=>intro vs e;cases e;exact .nil
   |cons c cs g=>
    intro vs e;cases e with
    |cons _ _ _ _ h1 h2=>exact .cons _ _ _ _ (h _ _ h1) (g _ h2)
  intro p v e;cases e with
  |undef=>exact .undef _
  |int=>exact .int _ _
  |bl=>exact .bl _
  |bool=>exact .bool _
  |str=>exact .str _
  |lst _ _ _ hr=>exact .lst _ _ _ hr
  |om _ _ _ _ hr=>exact .om _ _ _ _ hr
  |agg vs cs hl=>exact .agg _ _ (d _ _ hl)
  |tup vs cs hl=>exact .tup _ _ (d _ _ hl)
  |box _ b _ _ hb hu=>exact .box _ _ _ _ (hf _ _ hb) hu
  |row0 _ b hb=>exact .row0 _ _ (hf _ _ hb)
  |row _ b _ _ _ _ hb=>exact .row _ _ _ _ _ _ (hf _ _ hb)
  |fM _ _ b _ _ _ _ _ _ hb h0 h1=>exact .fM _ _ _ _ _ _ _ _ _ (hf _ _ hb) h0 h1
  |jv _ _ _ _ _ _ _ _ hr h0 h1=>exact .jv _ _ _ _ _ _ _ _ hr h0 h1
  |du u vs cs off b o hu hl hV=>exact .du _ _ _ _ _ _ hu (d _ _ hl) hV
  |dptr _ _ _ hr=>exact .dptr _ _ _ hr
  |dmp _ _ _ _ hr=>exact .dmp _ _ _ _ hr
  |rP _ _ _ _ _ hr=>exact .rP _ _ _ _ _ hr
  |cu u f vs cs hu hl=>exact .cu _ _ _ _ hu (d _ _ hl)
  |nilp=>exact .nilp
  |nilm=>exact .nilm
  |lj=>exact .lj
  |nilf=>exact .nilf
  |mp b _ _ _ hb=>exact .mp _ _ _ _ (hf _ _ hb)
  |it b _ hb=>exact .it _ _ (hf _ _ hb)
  |kF b _ hb=>exact .kF _ _ (hf _ _ hb)
def tQ(hf:∀(i:Nat) x,E[i]? =some x->E2[f i]? =some x)(b:eM tt E Pp vs cs):eM tt E2 Pp vs (cQ (qB f n) cs):=by
 induction cs generalizing vs with
 |nil=>cases b;exact .nil
 |cons c cs d=>
  cases b with
  |cons _ _ _ _ h1 h2=>exact .cons _ _ _ _ (xh hf n _ _ h1) (d h2)
def A5(s:cS)(t:Nat):look (JV f s) t=qB f 8 (look s t):=by
 induction s with
 |nil=>rfl
 |cons x s b=>
  obtain⟨k,p⟩:=x;simp only[JV,jt];split
  ·rfl
  ·exact b
def PT(k:WR tt E Pp objs w):∀(n:Nat)(p:PV)(v:Value),VR tt E Pp v p->(∀i∈sO n p,i∈F)->VR tt E (gQ tt E objs w Pp F) v (Kq objs n p):=by
 intro n;induction n with
 |zero=>intro p v _ _;exact .undef _
 |succ n l=>
  have mono:∀ad v,Pp ad v->gQ tt E objs w Pp F ad v:=λad v h=>.inl h
  have d:∀(cs:List PV)(vs:List Value),eM tt E Pp vs cs->(∀i∈eT (sO n) cs,i∈F)->eM tt E (gQ tt E objs w Pp F) vs (cQ (Kq objs n) cs):=by
   intro cs;induction cs with
   |nil=>intro vs b _;cases b;exact .nil
   |cons c cs j=>
    intro vs b h;rw[kZ]at h;cases b with
    |cons _ _ _ _ h1 h2=>exact .cons _ _ _ _ (l _ _ h1 (λi g=>h i (by simp[g]))) (j _ h2 (λi g=>h i (by rw[kZ]at g;simp only[eJ,bE];exact .inr g)))
  intro p v b h;cases p<;>try exact b.mono (λ_ _ h=>h) mono
  case agg cs=>cases b with|agg vs _ hl=>exact .agg _ _ (d _ _ hl h)
  case tup cs=>cases b with|tup vs _ hl=>exact .tup _ _ (d _ _ hl h)
  case row e r=>exact(s3 (F:=F) k 1 _ _ b h).of_nil _
def M1(g:WR tt E Pp objs w)(e:eM tt E Pp vs cs)(h:∀i∈eT (sO n) cs,i∈F):eM tt E (gQ tt E objs w Pp F) vs (cQ (Kq objs n) cs):=by
 induction cs generalizing vs with
 |nil=>cases e;exact .nil
 |cons c cs d=>
  rw[kZ]at h;cases e with
  |cons _ _ _ _ h1 h2=>exact .cons _ _ _ _ (PT g n _ _ h1 (λi b=>h i (by simp[b]))) (d h2 (λi b=>h i (by rw[kZ]at b;simp only[eJ,bE];exact .inr b)))
def vI:∀{l:List Nat}{k n i:Nat},r7 l k n=some i->∃j,i=k+j/\l[j]? =some n
 |[],k,n,i,h=>by simp[r7]at h
 |x::l,k,n,i,h=>by
  simp only[r7]at h;split at h
  ·rename_i hb;cases h;exact⟨0,rfl,by simp[cX hb]⟩
  ·obtain⟨j,h1,h2⟩:=vI h;exact⟨j+1,yO,yU h2⟩
def tT(hf:∀(i k:Nat) x,r7 ps 0 i=some k->E[i]? =some x->E2[k]? =some x):∀(n:Nat)(p:PV)(v:Value),VR tt E Pp v p->VR tt E2 Pp v (jx ps n p):=by
 intro n;induction n with
 |zero=>intro p v _;exact .undef _
 |succ n h=>
  have d:∀(cs:List PV)(vs:List Value),eM tt E Pp vs cs->eM tt E2 Pp vs (cQ (jx ps n) cs):=by
   intro cs;induction cs with
   |nil=>intro vs e;cases e;exact .nil
   |cons c cs g=>
    intro vs e;cases e with
    |cons _ _ _ _ h1 h2=>exact .cons _ _ _ _ (h _ _ h1) (g _ h2)
  intro p v e;cases e with
  |undef=>exact .undef _
  |int=>exact .int _ _
  |bl=>exact .bl _
  |bool=>exact .bool _
  |str=>exact .str _
  |lst _ _ _ hr=>exact .lst _ _ _ hr
  |om _ _ _ _ hr=>exact .om _ _ _ _ hr
  |agg vs cs hl=>exact .agg _ _ (d _ _ hl)
  |tup vs cs hl=>exact .tup _ _ (d _ _ hl)
  |box _ b _ _ hb hu=>
   simp only[jx];split
   ·rename_i k hk;exact .box _ _ _ _ (hf _ _ _ hk hb) hu
   ·exact .undef _
  |row0 _ b hb=>
   simp only[jx];split
   ·rename_i k hk;exact .row0 _ _ (hf _ _ _ hk hb)
   ·exact .undef _
  |row _ b _ _ _ _ hb=>
   simp only[jx];split
   ·rename_i k hk;exact .row _ _ _ _ _ _ (hf _ _ _ hk hb)
   ·exact .undef _
  |fM _ _ b _ _ _ _ _ _ hb h0 h1=>
   simp only[jx];split
   ·rename_i k hk;exact .fM _ _ _ _ _ _ _ _ _ (hf _ _ _ hk hb) h0 h1
   ·exact .undef _
  |jv _ _ _ _ _ _ _ _ hr h0 h1=>exact .jv _ _ _ _ _ _ _ _ hr h0 h1
  |du u vs cs off b o hu hl hV=>exact .du _ _ _ _ _ _ hu (d _ _ hl) hV
  |dptr _ _ _ hr=>exact .dptr _ _ _ hr
  |dmp _ _ _ _ hr=>exact .dmp _ _ _ _ hr
  |rP _ _ _ _ _ hr=>exact .rP _ _ _ _ _ hr
  |cu u f vs cs hu hl=>exact .cu _ _ _ _ hu (d _ _ hl)
  |nilp=>exact .nilp
  |nilm=>exact .nilm
  |lj=>exact .lj
  |nilf=>exact .nilf
  |mp b _ _ _ hb=>
   simp only[jx];split
   ·rename_i k hk;exact .mp _ _ _ _ (hf _ _ _ hk hb)
   ·exact .undef _
  |it b _ hb=>
   simp only[jx];split
   ·rename_i k hk;exact .it _ _ (hf _ _ _ hk hb)
   ·exact .undef _
  |kF b _ hb=>
   simp only[jx];split
   ·rename_i k hk;exact .kF _ _ (hf _ _ _ hk hb)
   ·exact .undef _
def yp(hf:∀(i k:Nat) x,r7 ps 0 i=some k->E[i]? =some x->E2[k]? =some x)(b:eM tt E Pp vs cs):eM tt E2 Pp vs (cQ (jx ps n) cs):=by
 induction cs generalizing vs with
 |nil=>cases b;exact .nil
 |cons c cs d=>
  cases b with
  |cons _ _ _ _ h1 h2=>exact .cons _ _ _ _ (tT hf n _ _ h1) (d h2)
def yr(s:cS)(t:Nat):look (A9 ps s) t=jx ps 8 (look s t):=by
 induction s with
 |nil=>rfl
 |cons x s b=>
  obtain⟨k,p⟩:=x;simp only[A9,jt];split
  ·rfl
  ·exact b
end
end
section
variable [Inhabited pY]
open Go
section
variable {P:Program}{tt:TypeId->Option TI}{N:Nat}{B:jH}{E:List RI}{Pp:fQ}{objs:List Ob}{w:World}{st:St}{a:Act}
variable {r:Nat}{e:TypeId}{d:D}{Pp':fQ}
def LI(k:∀ad v,Pp ad v->Pp' ad v)(hr:∀b bs cl,E[r]? =some (.map b bs cl)->VR tt E Pp' (.map (some b)) (.dmp e d)):∀(n:Nat)(p:PV)(v:Value),VR tt E Pp v p->VR tt E Pp' v (tK r e d n p):=by
 intro n;induction n with
 |zero=>intro p v _;exact .undef _
 |succ n m=>
  have g:∀(cs:List PV)(vs:List Value),eM tt E Pp vs cs->eM tt E Pp' vs (cQ (tK r e d n) cs):=by
   intro cs;induction cs with
   |nil=>intro vs h;cases h;exact .nil
   |cons c cs i=>
    intro vs h;cases h with
    |cons _ _ _ _ h1 h2=>exact .cons _ _ _ _ (m _ _ h1) (i _ h2)
  intro p v h;have l:=(VR.gq (pM.refl E) k).1 h;cases h with
  |agg vs cs hl=>exact .agg _ _ (g _ _ hl)
  |tup vs cs hl=>exact .tup _ _ (g _ _ hl)
  |cu u f vs cs hu hl=>exact .cu _ _ _ _ hu (g _ _ hl)
  |du u vs cs off b o hu hl hV=>exact .du _ _ _ _ _ _ hu (g _ _ hl) (λj v q=>k _ _ (hV j v q))
  |mp b _ _ _ hb=>
   simp only[tK];cases s:nb b r with
   |false=>exact l
   |true=>have:=cX s;subst this;exact hr _ _ _ hb
  |_=>exact l
def xQ(c:∀ad v,Pp ad v->Pp' ad v)(hr:∀b bs cl,E[r]? =some (.map b bs cl)->VR tt E Pp' (.map (some b)) (.dmp e d)){p:PV}{v:Value}(f:VR tt E Pp v p):VR tt E Pp' v (si r e d p):=by
 unfold si;cases uN r 8 p with
 |true=>exact LI c hr 8 p v f
 |false=>exact(VR.gq (pM.refl E) c).1 f
def AZ(f:∀ad v,Pp ad v->Pp' ad v)(hr:∀b bs cl,E[r]? =some (.map b bs cl)->VR tt E Pp' (.map (some b)) (.dmp e d)){ps:List PV}{vs:List Value}(c:eM tt E Pp vs ps):eM tt E Pp' vs (cQ (si r e d) ps):=by
 induction ps generalizing vs with
 |nil=>cases c;exact .nil
 |cons p ps g=>cases c with|cons _ _ _ _ h1 h2=>exact .cons _ _ _ _ (xQ f hr h1) (g h2)
def zd(r:Nat)(e:TypeId)(d:D)(s:cS)(t:Nat):look (AY r e d s) t=si r e d (look s t):=by
 induction s with
 |nil=>simp[AY,look,si,uN]
 |cons x s b=>obtain⟨k,p⟩:=x;simp only[AY,look,b];cases nb k t<;>simp
def mS{l:List Ob}{i:Nat}{q:Ob}(h:(sL r e d l)[i]? =some q)(hl:q.live=true):i≠r/\∃o,l[i]? =some o/\q=xP r e d o:=by
 rw[sL,gw,gP]at h;by_cases b:i=r
 ·subst b;rw[List.getElem?_set]at h;simp at h;rw[<- h.2]at hl;simp[Ob.live]at hl
 ·rw[bQ (dZ b),cC]at h;cases c:l[i]? with
  |none=>rw[c]at h;simp at h
  |some o=>rw[c]at h;simp at h;exact⟨b,o,rfl,h.symm⟩
def nQ{o:Ob}:(xP r e d o).live=o.live:=by
 cases o with
 |iter m s=>simp only[xP];cases nb m r<;>rfl
 |_=>rfl
def cK.sink(h:cK tt B E Pp objs w)(S:objs[r]? =some (.map .str e d)):
 ∃Pp',cK tt B E Pp' (sL r e d objs) w/\(∀ad v,Pp ad v->Pp' ad v)/\∀{v:Value}{p:PV},VR tt E Pp v p->VR tt E Pp' v (si r e d p):=by
 obtain⟨ri,O,Q⟩:=h.wr.ob r _ S rfl;cases ri with
 |map b borns clock=>
  have Z:own E objs b:=⟨r,_,_,S,rfl,O,rfl⟩;obtain⟨es,rows,hb,rfl,hl,L,g,gx,dA,ab⟩:=Q;let Pp':fQ:=λad v=>Pp ad v\/(ad=⟨b,0,some 0⟩/\v=Fv es clock);have z:∀ad v,Pp ad v->Pp' ad v:=λ_ _ h=>.inl h;have hM:F2 tt Pp' e b es clock rows:=by refine⟨.inr ⟨rfl,rfl⟩,hl,λi x row h1 h2=>?_,by rw[g];exact gx,by rw[g];exact dA⟩;obtain⟨kd,vd,e1,e2,e3,e4,e5,e6⟩:=L i x row h1 h2;exact⟨kd,vd,e1,e2.mono z,e3,e4,λj d ck v a b c=>(e5 j d ck v a b c).mono z,e6⟩
  have hr:∀b' bs cl,E[r]? =some (.map b' bs cl)->VR tt E Pp' (.map (some b')) (.dmp e (.list rows)):=by intro b' bs cl A;rw[O]at A;cases A;exact .dmp 0 _ _ _ (hM.rd 0)
  have hV:∀ad v,Pp' ad v->pc w ad=some v:=by
   rintro ad v (y|⟨rfl,rfl⟩)
   ·exact h.wr.pi _ _ y
   ·simp[pc,hb]
  have G:∀ad v,Pp' ad v->Pp ad v\/ad.block=b:=by
   rintro ad v (y|⟨rfl,rfl⟩)
   ·exact .inl y
   ·exact .inr rfl
  have M:(sL r e (.list rows) objs).length=objs.length:=by rw[sL,gw,gP];simp
  refine⟨Pp',⟨⟨by rw[M];exact h.wr.len,hV,?_,?_,h.wr.TX z⟩,h.pre,λad v y=>z _ _ (h.sT ad v y),h.fr,?_,?_⟩,z,λy=>xQ z hr y⟩
  ·intro i q hq F;obtain⟨W,o,C,rfl⟩:=mS hq F;rw[nQ]at F;obtain⟨ri,R,f⟩:=h.wr.ob i o C F;refine⟨ri,R,?_⟩
   have k:OR tt E Pp' w ri o:=by
    refine OR.frame (λ_ _ h=>h) z (λ_ _=>rfl) (λb' A ad v y he=>?_) f;rcases G ad v y with h1|h1
    ·exact h1
    ·exact absurd (h.wr.sep i r o _ ri _ b C S F rfl R O (by rw[A,<-he,h1]) rfl) W
   cases o with
   |box cs=>
    cases ri<;>try exact f.elim
    ·obtain⟨vs,T,h1,_,h3,h4⟩:=k;obtain⟨ah,T',u,I,_⟩:=f;rw[u]at h1;cases h1;exact⟨vs,T,u,AZ z hr I,h3,h4.map (JI r e (.list rows))⟩
    ·obtain⟨es,h1,_,h3⟩:=k;obtain⟨af,u,I,_⟩:=f;rw[u]at h1;cases h1;exact⟨es,u,AZ z hr I,h3⟩
   |loop n ps c1 c2 s j=>
    cases ri<;>try exact f.elim
    obtain⟨r',h1,h2,h3⟩:=f;exact⟨r',h1,h2,λt=>by rw[zd];exact xQ z hr (h3 t)⟩
   |iter m s=>
    simp only[xP];cases hn:nb m r with
    |false=>exact k
    |true=>
     have:=cX hn;subst this;cases ri<;>try exact f.elim
     obtain⟨bm,bs,cl,ls,h1,h2,h3,h4⟩:=f;rw[O]at h1;cases h1;refine⟨ls,h3,.inr ⟨b,es,clock,rows,rfl,hM,by rw[g];exact h2,λj X=>?_⟩⟩;have:=h4 j X;rw[<- g]at this;simpa[hl]using this
   |row=>exact k
   |map=>exact k
   |diter=>exact k
   |dead=>exact k
  ·intro i j oi oj ri rj b' W X l J K V H Y;obtain⟨_,U,h1,rfl⟩:=mS W l;obtain⟨_,o2,h2,rfl⟩:=mS X J;rw[nQ]at l J;exact h.wr.sep i j U o2 ri rj b' h1 h2 l J K V H Y
  ·intro ad v y;rcases G ad v y with h1|h1
   ·exact h.jV ad v h1
   ·rw[h1];exact .inr (h.fresh r _ _ b S rfl O rfl)
  ·intro i o ri b' C l K H;obtain⟨_,U,h1,rfl⟩:=mS C l;rw[nQ]at l;exact h.fresh i U ri b' h1 l K H
 |_=>exact Q.elim
def Gz{b:Nat}(h:own E (sL r e d objs) b):own E objs b:=by obtain⟨i,o,ri,h1,h2,h3,h4⟩:=h;obtain⟨_,c,h5,rfl⟩:=mS h1 h2;rw[nQ]at h2;exact⟨i,c,ri,h5,h2,h3,h4⟩
def AX(r:Nat)(h:cK tt B E Pp st.o w)(hs:∀t,VR tt E Pp (a.tmps.getD t undef) (look st.s t)):
 ∃Pp',cK tt B E Pp' (vj r st).o w/\(∀ad v,Pp ad v->Pp' ad v)/\(∀t,VR tt E Pp' (a.tmps.getD t undef) (look (vj r st).s t))/\∀b,own E (vj r st).o b->own E st.o b:=by
 unfold vj;split
 ·rename_i kc e d c;cases hk:decide (kc=CK.str)with
  |false=>exact⟨Pp,h,λ_ _ h=>h,hs,λ_ h=>h⟩
  |true=>have:=of_decide_eq_true hk;subst this;obtain⟨Pp',h1,h2,h3⟩:=h.sink (di c rfl);exact⟨Pp',h1,h2,λt=>by simp only[cond_true,zd];exact h3 (hs t),λb hb=>Gz hb⟩
 ·exact⟨Pp,h,λ_ _ h=>h,hs,λ_ h=>h⟩
def tJ(l:List Nat)(h:cK tt B E Pp st.o w)(hs:∀t,VR tt E Pp (a.tmps.getD t undef) (look st.s t)):
 ∃Pp',cK tt B E Pp' (sinks l st).o w/\(∀ad v,Pp ad v->Pp' ad v)/\(∀t,VR tt E Pp' (a.tmps.getD t undef) (look (sinks l st).s t))/\∀b,own E (sinks l st).o b->own E st.o b:=by
 induction l generalizing st Pp with
 |nil=>exact⟨Pp,h,λ_ _ h=>h,hs,λ_ h=>h⟩
 |cons r l j=>obtain⟨Pp1,h1,h2,h3,h4⟩:=AX r h hs;obtain⟨c,f,g,i,k⟩:=j h1 h3;exact⟨c,f,λ_ _ h=>g _ _ (h2 _ _ h),i,λb hb=>h4 b (k b hb)⟩
end
end
section
variable [Inhabited pY]
open Go
variable {tt:TypeId->Option TI}{E:List RI}{Pp Pp':fQ}{objs:List Ob}{w w':World}{v:Value}{ad:Addr}
def oy(tt:TypeId->Option TI)(E:List RI)(Pp:fQ)(objs:List Ob)(w:World)(ad:Addr)(v:Value):Prop:=
 Pp ad v\/(w.cell? ad=some v/\∃(i:Nat),(∃cs,objs[i]? =some (.box cs)/\E[i]? =some (.box ad.block))\/
  (∃e d wr o len cap,objs[i]? =some (.row e d wr)/\E[i]? =some (.row ad.block o len cap)/\ad.off<o+len*(bN tt e).length))
def gi(eh:List FuncId×List FuncId):Op->Bool
 | .store _ _ _=>false
 | .mapUpdate _ _ _ _=>false
 | .insert _ _ _ _=>false
 | .next _ _=>false
 | .slice _ _ none (some _) none=>ew eh.2
 | .call { callee:=.value (.func f),.. }=>bif eI f eh.1 then false else bif eI f eh.2 then false else true
 | .call { callee:=.value _,.. }=>ew eh.2
 | .call { callee:=.builtin .delete,.. }=>false
 |_=>true
def dK(tt:TypeId->Option TI)(B:jH)(eh:List FuncId×List FuncId)(E:List RI)(Pp:fQ)(objs:List Ob)(w:World)(o:Oper)(a:Act)(K:PV->St->Prop):Act->World->Prop:=λc w'=>
 ∃b E' Pp' v pv,c=a.put o.dst v/\VR tt E' Pp' v pv/\(∀t,VR tt E' Pp' (a.tmps.getD t undef) (look b.s t))/\cK tt B E' Pp' b.o w'/\K pv b/\
  (gi eh o.op=true->∀ad v,oy tt E Pp objs w ad v->oy tt E' Pp' b.o w' ad v)/\(∀ad v,Pp ad v->Pp' ad v)
def dK.mk{B:jH}{eh:List FuncId×List FuncId}{o:Oper}{a:Act}{K:PV->St->Prop}{s':cS}{o':List Ob}{E':List RI}{pv:PV}
 (c:VR tt E' Pp' v pv) (hs:∀t,VR tt E' Pp' (a.tmps.getD t undef) (look s' t)) (b:cK tt B E' Pp' o' w') (hK:K pv ⟨s',o'⟩)
 (e:gi eh o.op=true->∀ad v,oy tt E Pp objs w ad v->oy tt E' Pp' o' w' ad v) (d:∀ad v,Pp ad v->Pp' ad v:=by first|exactλ_ _ h=>h|exactλ_ _ h=>.inl h|exactλ_ _ h=>.inl (.inl h)|assumption):dK tt B eh E Pp objs w o a K (a.put o.dst v) w':=
 ⟨⟨s',o'⟩,E',Pp',v,pv,rfl,c,hs,b,hK,e,d⟩
def oy.cell(b:WR tt E Pp objs w)(h:oy tt E Pp objs w ad v):pc w ad=some v:=by
 rcases h with h|⟨h,_⟩
 ·exact b.pi _ _ h
 ·exact gm h
def oy.grow{E2:List RI}{objs2:List Ob}(hl:E.length=objs.length)(f:∀ad v,Pp ad v->Pp' ad v)
 (j:∀k,k<w.heap.size->w'.heap[k]? =w.heap[k]?) (h:oy tt E Pp objs w ad v):oy tt (E++E2) Pp' (objs++objs2) w' ad v:=by
 have app:∀{α:Type}(l k:List α)(i:Nat)(x:α),l[i]? =some x->(l++k)[i]? =some x:=by
  intro α l k i x c;rw[bO]
  ·exact c
  ·rcases bR i l.length with b|b
   ·exact b
   ·rw[bU b]at c;simp at c
 rcases h with h|⟨h,i,g⟩
 ·exact .inl (f _ _ h)
 ·refine .inr ⟨?_,i,?_⟩
  ·rw[tc (j _ (World.block_lt_of_cell? w ad h))];exact h
  ·rcases g with⟨cs,h1,h2⟩|⟨e,d,wr,o,len,cap,h1,h2,h3⟩
   ·exact .inl ⟨cs,app _ _ _ _ h1,app _ _ _ _ h2⟩
   ·exact .inr ⟨e,d,wr,o,len,cap,app _ _ _ _ h1,app _ _ _ _ h2,h3⟩
def oy.nM(F:List Nat)(h:oy tt E Pp objs w ad v):oy tt E (gQ tt E objs w Pp F) (fz F 0 objs) w ad v:=by
 rcases h with h|⟨h,i,f⟩
 ·exact .inl (.inl h)
 ·rcases f with⟨cs,h1,h2⟩|⟨e,d,wr,o,len,cap,h1,h2,h3⟩
  ·by_cases c:i∈F
   ·exact .inl (.inr ⟨h,i,c,.inl ⟨cs,h2,h1⟩⟩)
   ·refine .inr ⟨h,i,.inl ⟨cs,?_,h2⟩⟩
    have b:eI i F=false:=by
     cases h:eI i F with
     |false=>rfl
     |true=>exact absurd ((kW i F).1 h) c
    rw[ju,h1];simp[b]
  ·refine .inr ⟨h,i,?_⟩;cases b:eI i F with
   |false=>exact .inr ⟨e,d,wr,o,len,cap,by rw[ju,h1];simp[b],h2,h3⟩
   |true=>exact .inr ⟨e,d,false,o,len,cap,by rw[ju,h1];simp[b,wH],h2,h3⟩
section
variable {P:Program}{tt:TypeId->Option TI}{N:Nat}{B:jH}{E:List RI}{Pp:fQ}{objs:List Ob}{w:World}{st:St}{a:Act}
variable {o:Oper}{Q:Exit->Act->World->Prop}{ti:TI}{t T:TypeId}{w':World}{K:PV->St->Prop}{eh:List FuncId×List FuncId}{v:Value}{ri ri':RI}{ps:List PV}{next:Act->World->Prop}{i:Nat}{o':Ob}{E':List RI}{objs':List Ob}{Pp':fQ}{vs:List Value}{x:Operand}
def eH(h:(execOp a.eval o).run P w= .ok (.value v) w')(b:next (a.put o.dst v) w'):o.wp P a w next Q:=by simp only[Oper.wp,h];exact b
def xC(h:(execOp a.eval o).run P w= .ok .skip w')(b:next (a.put o.dst undef) w'):o.wp P a w next Q:=by simp only[Oper.wp,h];exact b
def ej(w:World)(x:Obj):(w.alloc x).heap[w.heap.size]? =some x:=by show (w.heap.push x)[w.heap.size]? =some x;simp
def WR.An(h:WR tt E Pp objs w){o:Ob}
 (S:objs[i]? =some o) (hl:o.live=true) (M:E[i]? =some ri)
 (R:E'.length=E.length) (m:∀(j:Nat),j≠i->E'[j]? =E[j]?) (n:E'[i]? =some ri')
 (H:objs'.length=objs.length)
 (hO:∀(j:Nat) e,j≠i->objs'[j]? =some e->e.live=true->∃oj,objs[j]? =some oj/\oj.live=true/\∀rj,E[j]? =some rj->OR tt E Pp w rj oj->OR tt E' Pp w rj e)
 (J:objs'[i]? =some o') (I:o'.live=true->OR tt E' Pp' w' ri' o')
 (G:∀b,b<w.heap.size->ri.cZ ≠some b->w'.heap[b]? =w.heap[b]?)
 (C:∀ad v,Pp ad v->Pp' ad v) (D:∀ad v,Pp' ad v->Pp ad v\/ri.cZ =some ad.block\/w.heap.size<=ad.block)
 (s:∀b,ri'.cZ =some b->ri.cZ =some b\/w.heap.size<=b)
 (hV:∀ad v,Pp' ad v->pc w' ad=some v):WR tt E' Pp' objs' w':=by
 have d:∀(j:Nat) oj rj b,j≠i->objs[j]? =some oj->oj.live=true->E[j]? =some rj->rj.cZ =some b->ri.cZ ≠some b/\b<w.heap.size:=by intro j oj rj b r h1 h2 h3 h4;refine⟨λh5=>r (h.sep j i oj o rj ri b h1 S h2 hl h3 M h4 h5),mW h ⟨j,oj,rj,h1,h2,h3,h4⟩⟩
 have L:=h.len;refine⟨yO,hV,?_,?_,h.TX C⟩
 ·intro j e r p;by_cases c:j=i
  ·subst c;rw[J]at r;cases r;exact⟨ri',n,I p⟩
  ·obtain⟨oj,h1,h2,h3⟩:=hO j e c r p;obtain⟨rj,q,A⟩:=h.ob j oj h1 h2;refine⟨rj,by rw[m j c];exact q,OR.frame (λ_ _ h=>h) C ?_ ?_ (h3 rj q A)⟩
   ·intro b hb;obtain⟨h4,h5⟩:=d j oj rj b c h1 h2 q hb;exact G b h5 h4
   ·intro b hb ad v U he;obtain⟨h4,h5⟩:=d j oj rj b c h1 h2 q hb;rcases D ad v U with h6|h6|h6
    ·exact h6
    ·rw[he]at h6;exact absurd h6 h4
    ·omega
 ·intro j k oj ok rj O b r hk p F g l z u;by_cases c:j=i<;>by_cases f:k=i
  ·omega
  ·subst c;rw[n]at g;cases g;obtain⟨y,h1,h2,_⟩:=hO k ok f hk F;rw[m k f]at l;obtain⟨h4,h5⟩:=d k y O b f h1 h2 l u;rcases s b z with h6|h6
   ·exact absurd h6 h4
   ·omega
  ·subst f;rw[n]at l;cases l;obtain⟨e,h1,h2,_⟩:=hO j oj c r p;rw[m j c]at g;obtain⟨h4,h5⟩:=d j e rj b c h1 h2 g z;rcases s b u with h6|h6
   ·exact absurd h6 h4
   ·omega
  ·obtain⟨e,h1,h2,_⟩:=hO j oj c r p;obtain⟨y,h3,h4,_⟩:=hO k ok f hk F;rw[m j c]at g;rw[m k f]at l;exact h.sep j k e y rj O b h1 h3 h2 h4 g l z u
def cK.An(h:cK tt B E Pp objs w){o:Ob}
 (z:objs[i]? =some o) (hl:o.live=true) (e:E[i]? =some ri)
 (u:E'.length=E.length) (p:∀(j:Nat),j≠i->E'[j]? =E[j]?) (g:E'[i]? =some ri') (f:pM E E'\/B.E0.length<=i)
 (r:objs'.length=objs.length)
 (hO:∀(j:Nat) c,j≠i->objs'[j]? =some c->c.live=true->∃oj,objs[j]? =some oj/\oj.live=true/\∀rj,E[j]? =some rj->OR tt E Pp w rj oj->OR tt E' Pp w rj c)
 (F:objs'[i]? =some o') (D:o'.live=true->OR tt E' Pp' w' ri' o')
 (I:w'.os=w.os) (G:w'.tape=w.tape) (y:w'.output=w.output) (fW:w.heap.size<=w'.heap.size)
 (n:∀b,b<w.heap.size->ri.cZ ≠some b->w'.heap[b]? =w.heap[b]?)
 (s:∀ad v,Pp ad v->Pp' ad v) (l:∀ad v,Pp' ad v->Pp ad v\/ri.cZ =some ad.block\/w.heap.size<=ad.block)
 (m:∀b,ri'.cZ =some b->ri.cZ =some b\/w.heap.size<=b)
 (hV:∀ad v,Pp' ad v->pc w' ad=some v) (H:w.drawn<=w'.drawn:=by first|exact bX _|exact uM _|assumption):cK tt B E' Pp' objs' w':=by
 have R:=h.fr.size;refine⟨h.wr.An z hl e u p g r hO F D n s l m hV,?_,λad v J=>s ad v (h.sT ad v J),?_,?_,?_⟩
 ·intro j x A;rcases f with f|f
  ·exact h.pre.trans f j x A
  ·have:j<B.E0.length:=by
    rcases bR j B.E0.length with C|C
    ·exact C
    ·rw[bU C]at A;simp at A
   rw[p j yO];exact h.pre j x A
 ·refine⟨I.trans h.fr.os,G.trans h.fr.tape,y.trans h.fr.output,yO,λO=>bM (h.fr.drawn O) H,?_⟩;intro k hk M;rw[n k yO]
  ·exact h.fr.block k hk M
  ·intro hb;rcases h.fresh i o ri k z hl e hb with h1|h1
   ·omega
   ·exact M h1
 ·intro ad v J;rcases l ad v J with h1|h1|h1
  ·exact h.jV ad v h1
  ·exact .inr (h.fresh i o ri _ z hl e h1)
  ·exact .inr (.inl yO)
 ·intro j oj rj b S L d hb;by_cases q:j=i
  ·subst q;rw[g]at d;cases d;rcases m b hb with h1|h1
   ·exact h.fresh j o ri b z hl e h1
   ·exact .inl yO
  ·obtain⟨c,h1,h2,_⟩:=hO j oj q S L;rw[p j q]at d;exact h.fresh j c rj b h1 h2 d hb
def fB{s:cS}(hs:∀t,VR tt E Pp (a.tmps.getD t undef) (look s t)):∀t,VR tt (E++[ri]) Pp (a.tmps.getD t undef) (look s t):=λt=>(hs t).mono mem_push (λ_ _ h=>h)
def xq(h:tt T=some ti)(hc:Ay ti ps=true):rk tt T ps:=by intro hb;unfold Ay at hc;rw[hb]at hc;exact⟨ti,h,hc⟩
def oR(h:cK tt B E Pp objs w)(T:TypeId)(c:eM tt E Pp vs ps)(b:rk tt T ps):
 cK tt B (E++[.box w.heap.size]) Pp (objs++[.box ps]) (w.alloc (.cells ⟨vs⟩ T))/\VR tt (E++[.box w.heap.size]) Pp (.pointer (some ⟨w.heap.size,0,none⟩)) (.box objs.length 0):=by
 refine⟨h.new rfl ⟨vs,T,ej w _,c.mono mem_push (λ_ _ h=>h),km h.wr,b⟩,.box _ _ _ _ ?_ (.mk rfl)⟩;rw[<- h.wr.len];simp
def NJ(g:ez P tt)(h:cK tt B E Pp st.o w)(hs:∀t,VR tt E Pp (a.tmps.getD t undef) (look st.s t))(f:o.op= .alloc t)(c:tt t=some ti)(b:rk tt t (ti.bP.map gT))
 (hK:K (.box (bY st.o) 0) ⟨st.s,gh st.o [.box (ti.bP.map gT)]⟩):o.wp P a w (dK tt B eh E Pp st.o w o a K) Q:=by
 obtain⟨_,_,⟨z,hz,d⟩,_⟩:=(g _ _ c).run w;rw[eU]at hK;have e:z.cells=⟨ti.bP.map zeroV⟩:=by rw[<- d]
 have j:=oR h t (qk (E:=E) (Pp:=Pp) (tt:=tt) ti.bP) b;refine eH (v:=.pointer (some ⟨w.heap.size,0,none⟩)) (w':=w.alloc (.cells ⟨ti.bP.map zeroV⟩ t)) ?_ ?_
 ·simp[execOp,f,Instr.alloc,hz,newVar,newRow,e]
 ·exact dK.mk (by rw[cL];exact j.2) (fB hs) j.1 hK (λ_ ad v l=>l.grow h.wr.len (λ_ _ h=>h) (λk hk=>RowKit.Below.heap_alloc w _ k hk))
def Dp(m:ez P tt)(h:cK tt B E Pp st.o w)(hs:∀t,VR tt E Pp (a.tmps.getD t undef) (look st.s t)){e:TypeId}(l:o.op= .alloc t)(g:tt t=some ti)(he:eC ti=some e)
 (hK:K (.box (bY st.o+1) 0) ⟨st.s,gh st.o [.row e (.list []) true,.box [.row e (bY st.o)]]⟩):o.wp P a w (dK tt B eh E Pp st.o w o a K) Q:=by
 obtain⟨_,_,⟨z,hz,j⟩,_⟩:=(m _ _ g).run w;rw[eU,cL]at hK
 have c:ti.bP=[.slice e]:=by
  unfold eC at he;split at he
  ·rename_i h2;cases he;exact h2
  ·cases he
 have d:z.cells=⟨ti.bP.map zeroV⟩:=by rw[<- j]
 rw[c]at d;have f:VR tt (E++[.row0]) Pp (.slice none 0 0) (.row e st.o.length):=.row0 _ _ (by rw[<- h.wr.len];simp);have h1:cK tt B (E++[.row0]) Pp (st.o++[.row e (.list []) true]) w:=⟨h.wr.push (λ_=>rfl) (λb hb=>by simp[RI.cZ]at hb),qE h.pre,h.sT,h.fr,h.jV,h.fresh.push h.wr.len (λb hb=>by simp[RI.cZ]at hb)⟩;have n:=oR h1 t (vs:=[.slice none 0 0]) (.cons _ _ _ _ f .nil) (λhb=>yC hb);refine eH (v:=.pointer (some ⟨w.heap.size,0,none⟩)) (w':=w.alloc (.cells ⟨[.slice none 0 0]⟩ t)) ?_ ?_
 ·simp[execOp,l,Instr.alloc,hz,newVar,newRow,d,zeroV]
 ·refine dK.mk (E':=E++[.row0]++[.box w.heap.size]) (Pp':=Pp) ?_ (fB (fB hs)) ?_ hK (λ_ ad v p=>?_)
  ·have:=n.2;simpa using this
  ·simpa using n.1
  ·have:=p.grow (E2:=[.row0]++[.box w.heap.size]) (objs2:=[.row e (.list []) true,.box [.row e st.o.length]]) (w':=w.alloc (.cells ⟨[.slice none 0 0]⟩ t)) h.wr.len (λ_ _ h=>h) (λk hk=>RowKit.Below.heap_alloc w _ k hk);simpa using this
def SQ(h:cK tt B E Pp st.o w)(hs:∀t,VR tt E Pp (a.tmps.getD t undef) (look st.s t))(d:o.op= .box t x)
 (c:flat (fG tt st.s t x)≠[]) (b:rk tt t (flat (fG tt st.s t x))) (hK:K (.box (bY st.o) 0) ⟨st.s,gh st.o [.box (flat (fG tt st.s t x))]⟩):o.wp P a w (dK tt B eh E Pp st.o w o a K) Q:=by
 rw[eU]at hK;have g:=iL hs t x;have e:=oR h t (nB g c) b;refine eH (v:=.pointer (some ⟨w.heap.size,0,none⟩)) (w':=w.alloc (.cells ⟨(a.eval x).cells.toList⟩ t)) ?_ ?_
 ·simp[execOp,d,Instr.box,newVar,newRow]
 ·exact dK.mk (by rw[cL];exact e.2) (fB hs) e.1 hK (λ_ ad v f=>f.grow h.wr.len (λ_ _ h=>h) (λk hk=>RowKit.Below.heap_alloc w _ k hk))
def Cw:∀(l:List PV)(n:Nat)(ys:List PV),n+ys.length<=l.length->od l n ys=l.take n++ys++l.drop (n+ys.length)
 |l,n,[],_=>by simp[xS]
 |[],n,y::ys,h=>yE h
 |x::xs,0,y::ys,h=>by have:=Cw xs 0 ys (yU h);simp only[od,this];simp
 |x::xs,n+1,y::ys,h=>by have:=Cw xs n (y::ys) (by simp at h ⊢;omega);simp only[od,this];rw[show n+1+(y::ys).length=(n+(y::ys).length)+1 by omega];simp
def G1{p:PV}(h:ib p=true)(c:VR tt E Pp v p):v.oneCell'=true:=by
 cases c with
 |lst e v d hr=>cases hr<;>rfl
 |dptr t v d hr=>cases hr<;>rfl
 |dmp t e v d hr=>rcases hr.rH with⟨rfl,_⟩|⟨_,_,_,_,rfl,_⟩<;>rfl
 |undef|agg|tup=>simp[ib]at h
 |cu _ f _ _ hu _=>
  rcases bR f kB with hb|hb
  ·rw[hu.1 hb];rfl
  ·rw[hu.2 hb];rfl
 |fM _ _ _ _ off _ _ _ _ _ _ hu=>
  by_cases b:off=dC
  ·obtain⟨⟨g,e,_⟩,_⟩:=hu.2 b;rw[e];rfl
  ·rw[(hu.1 b).1];rfl
 |du _ _ _ off _ _ hu _ _=>
  by_cases b:off=dC
  ·rw[hu.2 b];rfl
  ·rw[hu.1 b];rfl
 |box _ _ off _ _ hu=>
  by_cases b:off<=dC
  ·rw[hu.1 b];rfl
  ·rw[hu.2 (off-(dC+1)) yO];rfl
 |_=>rfl
def wB(h:gF ib ps=true)(b:eM tt E Pp vs ps):∀v∈vs,v.oneCell'=true:=by
 induction ps generalizing vs with
 |nil=>cases b;simp
 |cons p ps c=>
  simp only[gF,bn]at h;cases b with
  |cons v _ vs _ h1 h2=>
   intro u hu;rcases bx.1 hu with rfl|hu
   ·exact G1 h.1 h1
   ·exact c h.2 h2 u hu
def we(b:jl P t ti){g o:Nat}{cur:List Value}(d:w.heap[g]? =some (.cells ⟨cur⟩ T (0,0)))
 (hl:v.cells.toList.length=ti.bP.length) (ec:o+ti.bP.length<=cur.length) (h1:∀u∈v.cells.toList,u.oneCell'=true):
 (Instr.storeAt t (.pointer (some ⟨g,o,none⟩)) v).run P w= .ok () (w.setRow g ⟨cur.take o++v.cells.toList++cur.drop (o+ti.bP.length)⟩):=by
 obtain⟨_,h2,_,_⟩:=b.run w;have c:=run_storeCells_at P g o T v.cells.toList 0 ⟨cur⟩ w d (by simpa[hl]using ec) h1;have fW:v.cells.size=ti.bP.length:=yU hl;simp only[Instr.storeAt,Instr.sureAddr,storeVar,pure_bind,Sem.run_bind,h2,Result.andThen_ok,fW,ne_eq,not_true,if_false];rw[c];simp[fW]
def Cr(S:ez P tt)(h:cK tt B E Pp st.o w)(hs:∀t,VR tt E Pp (a.tmps.getD t undef) (look st.s t)){y:Operand}(r:o.op= .store t x y)(O:tt t=some ti)
 (d:(flat (fG tt st.s t y)).length=ti.bP.length) (W:0<ti.bP.length) (z:gF ib (flat (fG tt st.s t y))=true) {b off:Nat} (hx:ev st.s x= .box b off) {cs:List PV} (I:eG st.o b= .box cs)
 (J:iD off dC=true) (ec:off+ti.bP.length<=cs.length) (g:P8 (od cs off (flat (fG tt st.s t y))) cs=true) (hK:K .undef ⟨st.s,il st.o b (.box (od cs off (flat (fG tt st.s t y))))⟩):o.wp P a w (dK tt B eh E Pp st.o w o a K) Q:=by
 have A:=S _ _ O;have Z:=iL hs t y;have l:flat (fG tt st.s t y)≠[]:=by intro h0;rw[h0]at d;simp at d;omega
 have c:=nB Z l;have n:=fa hs x;rw[hx]at n;rw[gw]at hK;have f:=di I rfl;generalize U:a.eval x=vx at n;cases n with
 |box _ _ _ gu L hu=>
  obtain rfl:=hu.get J;obtain⟨ri,F,R⟩:=h.wr.ob b _ f rfl;rw[L]at F;cases F;obtain⟨vs,T,H,q,D,C⟩:=R;have p:rk tt T (od cs off (flat (fG tt st.s t y))):=by intro hb;unfold P8 at g;rw[hb]at g;exact C g
  have ac:=q.length;have Y:=c.length;have u:=we (P:=P) A (v:=a.eval y) H yO (o:=off) yO (wB z c);refine xC (w':=w.setRow gu ⟨vs.take off++(a.eval y).cells.toList++vs.drop (off+ti.bP.length)⟩) ?_ ?_
  ·simp[execOp,r,U,u]
  ·have dA:gu<w.heap.size:=by
    rcases bR gu w.heap.size with m|m
    ·exact m
    ·simp[cR m]at H
   have G:b<st.o.length:=by
    rcases bR b st.o.length with m|m
    ·exact m
    ·rw[bU m]at f;simp at f
   refine dK.mk (.undef _) hs ?_ hK (λV=>by rw[r]at V;simp[gi]at V);refine h.An (o':=.box (od cs off (flat (fG tt st.s t y)))) f rfl L rfl (λ_ _=>rfl) L (.inl (.refl _)) yS ?_ (by simp[G]) ?_ rfl rfl rfl yS ?_ (λ_ _ h=>h) (λ_ _ h=>.inl h) (λb hb=>.inl hb) ?_
   ·intro j M hj s hl;rw[bQ (dZ hj)]at s;exact⟨M,s,hl,λ_ _ h=>h⟩
   ·intro _;refine⟨_,T,setRow_heap w gu _ _ _ _ H,?_,D,p⟩;rw[Cw _ _ _ yO];have:=((q.take off).append c).append (q.drop (off+(flat (fG tt st.s t y)).length))
    rwa [d]at this ⊢
   ·intro k hk l;exact setRow_other w gu k _ (λe=>l (by rw[e];rfl))
   ·intro ad v X;rw[ia (setRow_other w gu ad.block _ (D ad v X))];exact h.wr.pi ad v X
end
end
end Go.VC
