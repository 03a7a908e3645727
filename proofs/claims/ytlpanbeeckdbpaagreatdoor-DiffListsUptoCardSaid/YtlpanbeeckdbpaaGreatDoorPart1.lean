/- Part 1 of the common texts: E1 E2 E3 E4 E5 E6 E7 E8 E9 EM E10. -/
import Derived.Calls
import Derived.Orders
import Derived.Laws.Sem
import Derived.Laws.World
import Derived.Laws.Entries
import Derived.Laws.Cells
import GoSem.Claims
import Derived.Laws.Strings
import Derived.Lib.SliceRun
import Derived.Laws.BytesString
import Derived.Laws.Tables
import Derived.Below
import Derived.Laws.CopyRow
import Derived.Laws.AppendOwn
set_option linter.all false
set_option maxRecDepth 100000
set_option maxHeartbeats 16000000

section
namespace Go.VC
def nb (a b:Nat):Bool:=decide (a=b)
def nle (a b:Nat):Bool:=decide (a≤b)
abbrev nlt (a b:Nat):Bool:=nle (a+1) b
theorem nb_of {a b:Nat} (h:nb a b=true):a=b:=of_decide_eq_true h
@[simp] theorem nb_refl (a:Nat):nb a a=true:=decide_eq_true rfl
@[simp] theorem nb_eq {a b:Nat}:(nb a b=true)=(a=b):=propext ⟨nb_of,fun h=>decide_eq_true h⟩
theorem nle_of {a b:Nat} (h:nle a b=true):a≤b:=of_decide_eq_true h
inductive D where
 |int (n:Int)|bool (b:Bool)|str (s:List UInt8)|list (rows:List (List D))|nil|ptr (cs:List D)
 deriving Inhabited
inductive CK where
 |int (k:IntKind)|bool|str|slice (e:TypeId)|ptr (t:TypeId)|map (t e:TypeId)|fn|str2
 deriving DecidableEq,Inhabited
structure TI where
 agg:Bool
 cks:List CK
 fs:List (Nat×TypeId)
 el:TypeId
 ar:Nat
 bytes:Nat
 eqOk:Bool:=false
 glob:Option Nat:=none
 gtab:List (Nat×IntKind×List Int):=[]
 bld:Bool:=false
 deriving Inhabited
inductive PV where
 |undef
 |int (k:IntKind) (n:Int)
 |bl (b:Bool)
 |bool (b:Bool)
 |str (s:List UInt8)
 |lst (e:TypeId) (d:D)
 |lsf (e:TypeId) (d:D)
 |agg (cs:List PV)
 |tup (vs:List PV)
 |box (b off:Nat)
 |row (e:TypeId) (r:Nat)
 |rptr (e:TypeId) (r:Nat) (i:Int) (off:Nat)
 |eptr (e:TypeId) (d:D) (i:Int) (off:Nat)
 |pptr (cs:List PV) (off:Nat)
 |dptr (t:TypeId) (d:D)
 |dpp (t:TypeId) (d:D) (off:Nat)
 |clos (f:FuncId) (caps:List PV)
 |nilp|nilm|nilf|nils
 |mp (m:Nat)
 |dmp (e:TypeId) (d:D)
 |it (i:Nat)
 |yld (i:Nat)
 deriving Inhabited
abbrev Slots:=List (Nat×PV)
def look:Slots→Nat→PV
 |[],_=>.undef
 |(k,v)::r,n=>(match nb k n with|true=>(v)|false=>(look r n))
theorem look_cons (k:Nat) (v:PV) (r:Slots) (n:Nat):look ((k,v)::r) n=if k=n then v else look r n:=by
 simp only [look]
 cases h:nb k n with
 |true=>rw [if_pos (nb_of h)]
 |false=>rw [if_neg (fun e=>by rw [← nb_eq,h] at e;cases e)]
inductive LS where
 |ready|busy|done (c:Code)
inductive Ob where
 |box (cs:List PV)
 |row (e:TypeId) (d:D) (wr:Bool)
 |map (kc:CK) (e:TypeId) (d:D)
 |iter (m:Nat) (seen:D)
 |diter (e:TypeId) (d seen:D)
 |loop (n:Nat) (ps:List Nat) (assign body:Code) (s:Slots) (j:LS)
 |dead
 deriving Inhabited
inductive RI where
 |box (b:Nat)|row0|row (g o len cap:Nat)|map (b:Nat) (borns:List Nat) (clock:Nat)|iter (b:Nat)|loop (b:Nat)
 deriving Inhabited
def RI.block? :RI→Option Nat
 | .box b| .row b _ _ _| .map b _ _| .iter b| .loop b=>some b
 | .row0=>none
def Ob.live:Ob→Bool
 | .dead=>false
 |_=>true
def zeroV:CK→Value
 | .int k=>.int k 0
 | .bool=>.bool false
 | .str=>.string ⟨#[]⟩
 | .slice _=>.slice none 0 0
 | .ptr _=>.pointer none
 | .map _ _=>.map none
 | .fn=>.nilFunc
 | .str2=>.nilFunc
def zeroPV:CK→PV
 | .int k=>.int k 0
 | .bool=>.bl false
 | .str=>.str []
 | .slice e=>.lst e (.list [])
 | .ptr _=>.nilp
 | .map _ _=>.nilm
 | .fn=>.nilf
 | .str2=>.undef
def sEq:Value→Value→Bool
 | .int _ a,.int _ b=>a==b
 | .bool a,.bool b=>a==b
 | .string a,.string b=>a.data.toList==b.data.toList
 |_,_=>false
def isScalar:CK→Value→Prop
 | .int k,v=>∃ n,v= .int k n
 | .bool,v=>∃ b,v= .bool b
 | .str,v=>∃ s,v= .string s
 |_,_=>False
def sEqs:List Value→List Value→Bool
 |[],[]=>true
 |a::x,b::y=>bif sEq a b then sEqs x y else false
 |_,_=>false
def EqLaw (P:Program) (t:TypeId) (cks:List CK):Prop:=
 ∀ (op:BinOp) (x y:Operand) (us vs:List Value) (w:World),(op= .eql∨op= .neq)→us.length=cks.length→vs.length=cks.length→
  (∀ (j:Nat) c u,cks[j]? =some c→us[j]? =some u→isScalar c u)→(∀ (j:Nat) c u,cks[j]? =some c→vs[j]? =some u→isScalar c u)→
  (do eqGuard op t x y (.agg ⟨us⟩) (.agg ⟨vs⟩);binOp op t (.agg ⟨us⟩) (.agg ⟨vs⟩):Sem Value).run P w= .ok (.bool (if op= .eql then sEqs us vs else !sEqs us vs)) w
def KeyLaw (P:Program) (t:TypeId) (cks:List CK):Prop:=
 (∃ fs,P.underlying t=some (.struct fs))∧∀ (us vs:List Value) (w:World),us.length=cks.length→vs.length=cks.length→
   (∀ (j:Nat) c u,cks[j]? =some c→us[j]? =some u→isScalar c u)→(∀ (j:Nat) c u,cks[j]? =some c→vs[j]? =some u→isScalar c u)→
   (Op.equal t (.agg ⟨us⟩) (.agg ⟨vs⟩)).run P w= .ok (sEqs us vs) w∧∀ b,(Instr.checkKey b 10000 t (.agg ⟨us⟩)).run P w= .ok () w
structure TiOk (P:Program) (t:TypeId) (ti:TI):Prop where
 info:∃ (i:TypeInfo) (z:Value) (d:TypeDesc),P.info? t=some i∧i.size=ti.cks.length∧i.bytes=ti.bytes∧i.zero=some z∧z.cells.toList=ti.cks.map zeroV∧
  ((ti.agg=true→∃ cs,z= .agg cs)∧(ti.agg=false→z.cells= #[z]))∧P.underlying t=some d∧
  (match d with
   | .struct fields=>ti.agg=true∧(∀ f:Nat,(fields[f]?).map (fun (x:Go.Field)=>(x.offset,x.type))=ti.fs[f]?)∧(∃ pl,fields.toList.mapM (fun (f:Go.Field)=>(P.info? f.type).map fun i=>(f.offset,i.size))=some pl)
   | .array n e=>ti.agg=true∧ti.ar=n+1∧ti.el=e∧ti.fs=[]
   | .slice e=>ti.agg=false∧ti.cks=[.slice e]∧ti.el=e∧ti.fs=[]
   | .int k=>ti.agg=false∧ti.cks=[.int k]∧ti.fs=[]
   | .bool=>ti.agg=false∧ti.cks=[.bool]∧ti.fs=[]
   | .string=>ti.agg=false∧ti.cks=[.str]∧ti.fs=[]
   | .pointer e=>ti.agg=false∧ti.cks=[.ptr e]∧ti.fs=[]
   | .map k e=>ti.agg=false∧ti.cks=[.map t e]∧ti.ar=k+1∧ti.el=e∧ti.fs=[]
   | .func _ _ _=>ti.agg=false∧ti.cks=[.fn]∧ti.fs=[]
   |_=>False)
 eqs:ti.eqOk=true→ti.agg=true∧EqLaw P t ti.cks∧KeyLaw P t ti.cks
 arr:ti.agg=true→ti.ar≠0→∃ n e,P.underlying t=some (.array n e)
def TtOk (P:Program) (tt:TypeId→Option TI):Prop:=∀ t ti,tt t=some ti→TiOk P t ti
def cksOf (tt:TypeId→Option TI) (t:TypeId):List CK:=match tt t with|some ti=>ti.cks|none=>[]
abbrev Per:=Addr→Value→Prop
def encE (x:MapEntry):Value:=.agg #[x.key,x.val,.int .i64 x.born]
def encM (es:Array MapEntry) (clock:Nat):Value:=.agg #[.int .i64 clock,.tuple (es.map encE)]
theorem encE_inj {x y:MapEntry} (h:encE x=encE y):x=y:=by
 cases x;cases y
 simp [encE] at h
 obtain ⟨h1,h2,h3⟩:=h
 have h3:_:=Int.ofNat.inj h3
 subst h1 h2 h3;rfl
theorem encM_inj {es es':Array MapEntry} {c c':Nat} (h:encM es c=encM es' c'):es=es'∧c=c':=by
 simp [encM] at h
 obtain ⟨h1,h2⟩:=h
 refine ⟨?_,Int.ofNat.inj h1⟩
 apply Array.ext
 ·have:=congrArg Array.size h2;simpa using this
 ·intro i hi hj
  have:=congrArg (fun a:Array Value=>a[i]?) h2
  simp [hi,hj] at this
  exact encE_inj this
def pc (w:World) (ad:Addr):Option Value:=match w.heap[ad.block]? with
 |some (.cells c _ _)=>if ad.spot=some 1 then some (.int .i64 c.size) else if ad.spot.isSome then none else c[ad.off]?
 |some (.map es clock)=>if ad.spot=some 0 then some (encM es clock) else none
 |_=>none
theorem pc_same {w w':World} {ad:Addr} (h:w'.heap[ad.block]? =w.heap[ad.block]?):pc w' ad=pc w ad:=by unfold pc;rw [h]
theorem pc_none {w:World} {b o:Nat}:pc w ⟨b,o,none⟩=w.cell? ⟨b,o,none⟩:=by
 unfold pc World.cell?
 cases w.heap[b]? with
 |none=>rfl
 |some x=>cases x<;>simp
theorem pc_of_cell {w:World} {ad:Addr} {v:Value} (h:w.cell? ad=some v):pc w ad=some v:=by
 unfold pc;unfold World.cell? at h
 cases hx:w.heap[ad.block]? with
 |none=>rw [hx] at h;simp at h
 |some x=>rw [hx] at h;cases x<;>simp_all
theorem pc_lt {w:World} {ad:Addr} {v:Value} (h:pc w ad=some v):ad.block<w.heap.size:=by
 rcases Nat.lt_or_ge ad.block w.heap.size with h'|h'
 ·exact h'
 ·unfold pc at h;rw [Array.getElem?_eq_none h'] at h;simp at h
theorem pc_cells {w:World} {ad:Addr} {v:Value} {c:Array Value} {T:TypeId} {f:Nat×Nat} (h:pc w ad=some v) (hc:w.heap[ad.block]? =some (.cells c T f)) (hs:ad.spot≠some 1):w.cell? ad=some v:=by
 unfold pc at h;unfold World.cell?;rw [hc] at h ⊢;simp only [if_neg hs] at h;exact h
theorem pc_size {w w':World} {ad:Addr} {v:Value} {c c':Array Value} {T T':TypeId} {f f':Nat×Nat} (h:pc w ad=some v) (hc:w.heap[ad.block]? =some (.cells c T f)) (hc':w'.heap[ad.block]? =some (.cells c' T' f')) (he:c'.size=c.size) (hs:ad.spot=some 1):pc w' ad=some v:=by
 unfold pc at h ⊢;rw [hc] at h;rw [hc'];simp only [if_pos hs] at h ⊢;rw [he];exact h
inductive RD (tt:TypeId→Option TI) (Pp:Per):CK→Value→D→Prop
 |int (k n):RD tt Pp (.int k) (.int k n) (.int n)
 |bool (b):RD tt Pp .bool (.bool b) (.bool b)
 |str (b:ByteArray):RD tt Pp .str (.string b) (.str b.data.toList)
 |slnil (e):RD tt Pp (.slice e) (.slice none 0 0) (.list [])
 |sl0 (e) (ad:Addr):RD tt Pp (.slice e) (.slice (some ad) 0 0) (.list [])
 |sl (e:TypeId) (b o len cap:Nat) (rows:List (List D)) (vf:Nat→Nat→Value) (hl:rows.length=len) (hc:len≤cap)
  (hrow:∀ (i:Nat) (row:List D),rows[i]? =some row→row.length=(cksOf tt e).length)
  (hpi:∀ i j,i<len→j<(cksOf tt e).length→Pp ⟨b,o+i*(cksOf tt e).length+j,none⟩ (vf i j))
  (hrd:∀ (i j:Nat) (row:List D) (d:D) (ck:CK),rows[i]? =some row→row[j]? =some d→(cksOf tt e)[j]? =some ck→RD tt Pp ck (vf i j) d):
  RD tt Pp (.slice e) (.slice (some ⟨b,o,none⟩) len cap) (.list rows)
 |pnil (t):RD tt Pp (.ptr t) (.pointer none) .nil
 |mnil (t e):RD tt Pp (.map t e) (.map none) .nil
 |mdat (t e:TypeId) (b:Nat) (es:Array MapEntry) (clock:Nat) (rows:List (List D)) (hl:es.toList.length=rows.length)
  (hpi:Pp ⟨b,0,some 0⟩ (encM es clock))
  (hk:∀ (i:Nat) (x:MapEntry) (row:List D),es.toList[i]? =some x→rows[i]? =some row→∃ (s:ByteArray) (vd:List D),x.key= .string s∧row= .str s.data.toList::vd∧vd.length=(cksOf tt e).length∧
    x.val.cells.toList.length=vd.length∧(∀ ti,tt e=some ti→(ti.agg=true→∃ cs,x.val= .agg cs)∧(ti.agg=false→x.val.cells= #[x.val])))
  (hnd:(es.toList.map (·.born)).Nodup) (hlt:∀ x,x∈es.toList.map (·.born)→x<clock)
  (hrd:∀ (i j:Nat) (x:MapEntry) (row:List D) (d:D) (ck:CK) (v:Value),es.toList[i]? =some x→rows[i]? =some row→row[j+1]? =some d→(cksOf tt e)[j]? =some ck→x.val.cells.toList[j]? =some v→RD tt Pp ck v d):
  RD tt Pp (.map t e) (.map (some b)) (.list rows)
 |fnil:RD tt Pp .fn .nilFunc .nil
 |junk:RD tt Pp .str2 .nilFunc .nil
 |ptr (t:TypeId) (b o:Nat) (cs:List D) (vf:Nat→Value) (hl:cs.length=(cksOf tt t).length)
  (hpi:∀ j,j<(cksOf tt t).length→Pp ⟨b,o+j,none⟩ (vf j))
  (hrd:∀ (j:Nat) (d:D) (ck:CK),cs[j]? =some d→(cksOf tt t)[j]? =some ck→RD tt Pp ck (vf j) d):
  RD tt Pp (.ptr t) (.pointer (some ⟨b,o,none⟩)) (.ptr cs)
theorem RD.mono {tt:TypeId→Option TI} {Pp Pp':Per} (h:∀ a v,Pp a v→Pp' a v) {ck:CK} {v:Value} {d:D} (hr:RD tt Pp ck v d):RD tt Pp' ck v d:=by
 induction hr with
 |int k n=>exact .int k n
 |bool b=>exact .bool b
 |str b=>exact .str b
 |slnil e=>exact .slnil e
 |sl0 e ad=>exact .sl0 e ad
 |sl e b o len cap rows vf hl hc hrow hpi _ ih=>exact .sl e b o len cap rows vf hl hc hrow (fun i j a b=>h _ _ (hpi i j a b)) ih
 |pnil t=>exact .pnil t
 |mnil t e=>exact .mnil t e
 |mdat t e b es clock rows hl hpi hk hnd hlt _ ih=>exact .mdat t e b es clock rows hl (h _ _ hpi) hk hnd hlt ih
 |fnil=>exact .fnil
 |junk=>exact .junk
 |ptr t b o cs vf hl hpi _ ih=>exact .ptr t b o cs vf hl (fun j a=>h _ _ (hpi j a)) ih
abbrev bndM:Nat:=1000000
abbrev slcM:Nat:=1000003
def closV (v:Value) (f:Nat) (vs:List Value):Prop:=
 (f<bndM→v= .func (.func f) #[] ⟨vs⟩)∧(bndM≤f→v= .func (.func (f-bndM)) ⟨vs⟩ #[])
def pptrV (v:Value) (b o off n:Nat):Prop:=
 (off≠slcM→v= .pointer (some ⟨b,o+off,none⟩))∧(off=slcM→v= .slice (some ⟨b,o,none⟩) n n)
def boxV (v:Value) (b off:Nat):Prop:=
 (off≤slcM→v= .pointer (some ⟨b,off,none⟩))∧(∀ n,off=slcM+1+n→v= .slice (some ⟨b,0,none⟩) n n)
def rptrV (u:Value) (S:Nat) (i:Int) (off g o len cap:Nat):Prop:=
 (off≠slcM→u= .pointer (some ⟨g,o+i.toNat*S+off,none⟩)∧i<len)∧
 (off=slcM→(∃ o1,u= .slice (some ⟨g,o1,none⟩) (len-i.toNat) (cap-i.toNat)∧(o1=o+i.toNat*S∨len=i.toNat))∧i≤len)
section
variable (tt:TypeId→Option TI) (E:List RI) (Pp:Per)
mutual
inductive VR:Value→PV→Prop
 |undef (v):VR v .undef
 |int (k n):VR (.int k n) (.int k n)
 |bl (b):VR (.bool b) (.bl b)
 |bool (b):VR (.bool b) (.bool b)
 |str (b:ByteArray):VR (.string b) (.str b.data.toList)
 |lst (e v d) (h:RD tt Pp (.slice e) v d):VR v (.lst e d)
 |lsf (e a n d) (h:RD tt Pp (.slice e) (.slice a n n) d):VR (.slice a n n) (.lsf e d)
 |agg (vs cs) (h:VRL vs cs):VR (.agg ⟨vs⟩) (.agg cs)
 |tup (vs cs) (h:VRL vs cs):VR (.tuple ⟨vs⟩) (.tup cs)
 |box (u b off blk) (h:E[b]? =some (.box blk)) (hu:boxV u blk off):VR u (.box b off)
 |row0 (e r) (h:E[r]? =some .row0):VR (.slice none 0 0) (.row e r)
 |row (e r g o len cap) (h:E[r]? =some (.row g o len cap)):VR (.slice (some ⟨g,o,none⟩) len cap) (.row e r)
 |rptr (u:Value) (e:TypeId) (r:Nat) (i:Int) (off g o len cap:Nat) (h:E[r]? =some (.row g o len cap)) (h0:0≤i) (h1:rptrV u (cksOf tt e).length i off g o len cap):
  VR u (.rptr e r i off)
 |eptr (e:TypeId) (d:D) (i:Int) (off b o len cap:Nat) (h:RD tt Pp (.slice e) (.slice (some ⟨b,o,none⟩) len cap) d) (h0:0≤i) (h1:i<len):
  VR (.pointer (some ⟨b,o+i.toNat*(cksOf tt e).length+off,none⟩)) (.eptr e d i off)
 |pptr (u vs cs off b o) (hu:pptrV u b o off vs.length) (h:VRL vs cs) (hpi:∀ (j:Nat) v,vs[j]? =some v→Pp ⟨b,o+j,none⟩ v):VR u (.pptr cs off)
 |dptr (t v d) (h:RD tt Pp (.ptr t) v d):VR v (.dptr t d)
 |dpp (t d off b o) (h:RD tt Pp (.ptr t) (.pointer (some ⟨b,o,none⟩)) d):VR (.pointer (some ⟨b,o+off,none⟩)) (.dpp t d off)
 |clos (u f vs cs) (hu:closV u f vs) (h:VRL vs cs):VR u (.clos f cs)
 |nilp:VR (.pointer none) .nilp
 |nilm:VR (.map none) .nilm
 |nils:VR (.slice none 0 0) .nils
 |nilf:VR .nilFunc .nilf
 |mp (m b bs cl) (h:E[m]? =some (.map b bs cl)):VR (.map (some b)) (.mp m)
 |dmp (t e v d) (h:RD tt Pp (.map t e) v d):VR v (.dmp e d)
 |it (i b) (h:E[i]? =some (.iter b)):VR (.pointer (some ⟨b,0,none⟩)) (.it i)
 |yld (i b) (h:E[i]? =some (.loop b)):VR (.func (.yield b) #[] #[]) (.yld i)
inductive VRL:List Value→List PV→Prop
 |nil:VRL [] []
 |cons (v p vs ps) (h:VR v p) (t:VRL vs ps):VRL (v::vs) (p::ps)
end
end
theorem closV.fn {v:Value} {f:Nat} {vs:List Value} (h:closV v f vs):∃ g a c,v= .func g a c:=by
 rcases Nat.lt_or_ge f bndM with hb|hb
 ·exact ⟨_,_,_,h.1 hb⟩
 ·exact ⟨_,_,_,h.2 hb⟩
theorem closV.mk {f:Nat} {vs:List Value} (h:nlt f bndM=true):closV (.func (.func f) #[] ⟨vs⟩) f vs:=⟨fun _=>rfl,fun h'=>by have:=nle_of h;omega⟩
theorem closV.get {v:Value} {f:Nat} {vs:List Value} (h:closV v f vs) (hf:nlt f bndM=true):v= .func (.func f) #[] ⟨vs⟩:=h.1 (nle_of hf)
theorem closV.bnd {f:Nat} {vs:List Value}:closV (.func (.func f) ⟨vs⟩ #[]) (f+bndM) vs:=⟨fun h'=>by omega,fun _=>by simp⟩
theorem closV.getB {v:Value} {f:Nat} {vs:List Value} (h:closV v f vs) (hf:nlt f bndM=false):v= .func (.func (f-bndM)) ⟨vs⟩ #[]:=h.2 (by
 rcases Nat.lt_or_ge f bndM with h'|h'
 ·have:nlt f bndM=true:=decide_eq_true h'
  rw [this] at hf;cases hf
 ·exact h')
theorem boxV.mk {b off:Nat} (h:nle off slcM=true):boxV (.pointer (some ⟨b,off,none⟩)) b off:=⟨fun _=>rfl,fun n h'=>by have:=nle_of h;omega⟩
theorem boxV.get {v:Value} {b off:Nat} (h:boxV v b off) (hf:nle off slcM=true):v= .pointer (some ⟨b,off,none⟩):=h.1 (nle_of hf)
theorem boxV.slc {b n:Nat}:boxV (.slice (some ⟨b,0,none⟩) n n) b (slcM+1+n):=⟨fun h'=>by omega,fun m h'=>by rw [show m=n by omega]⟩
theorem rptrV.mk {g o i' S off len cap:Nat} {i:Int} (hi:i'=i.toNat) (h:nb off slcM=false) (h1:i<len):rptrV (.pointer (some ⟨g,o+i'*S+off,none⟩)) S i off g o len cap:=⟨fun _=>⟨by rw [hi],h1⟩,fun h'=>by rw [h',nb_refl] at h;cases h⟩
theorem rptrV.get {u:Value} {g o S off len cap:Nat} {i:Int} (h:rptrV u S i off g o len cap) (hf:nb off slcM=false):u= .pointer (some ⟨g,o+i.toNat*S+off,none⟩)∧i<len:=h.1 (fun h'=>by rw [h',nb_refl] at hf;cases hf)
theorem rptrV.getS {u:Value} {g o S len cap:Nat} {i:Int} (h:rptrV u S i slcM g o len cap):(∃ o1,u= .slice (some ⟨g,o1,none⟩) (len-i.toNat) (cap-i.toNat)∧(o1=o+i.toNat*S∨len=i.toNat))∧i≤len:=h.2 rfl
theorem pptrV.mk {b o off n:Nat} (h:nb off slcM=false):pptrV (.pointer (some ⟨b,o+off,none⟩)) b o off n:=⟨fun _=>rfl,fun h'=>by rw [h',nb_refl] at h;cases h⟩
theorem pptrV.get {v:Value} {b o off n:Nat} (h:pptrV v b o off n) (hf:nb off slcM=false):v= .pointer (some ⟨b,o+off,none⟩):=h.1 (fun h'=>by rw [h',nb_refl] at hf;cases hf)
theorem pptrV.getS {v:Value} {b o n:Nat} (h:pptrV v b o slcM n):v= .slice (some ⟨b,o,none⟩) n n:=h.2 rfl
theorem VRL.length {tt E Pp vs ps} (h:VRL tt E Pp vs ps):vs.length=ps.length:=by
 induction vs generalizing ps with
 |nil=>cases h;rfl
 |cons v vs ih=>cases h with|cons _ _ _ _ _ t=>simp [ih t]
theorem VRL.get {tt E Pp vs ps} (h:VRL tt E Pp vs ps) {j:Nat} {p:PV} (hp:ps[j]? =some p):∃ v,vs[j]? =some v∧VR tt E Pp v p:=by
 induction vs generalizing ps j with
 |nil=>cases h;simp at hp
 |cons v vs ih=>
  cases h with
  |cons _ q _ qs hv t=>
   cases j with
   |zero=>simp at hp;subst hp;exact ⟨v,rfl,hv⟩
   |succ j=>simp at hp;simpa using ih t hp
theorem VRL.append {tt E Pp vs ps us qs} (h:VRL tt E Pp vs ps) (k:VRL tt E Pp us qs):VRL tt E Pp (vs++us) (ps++qs):=by
 induction vs generalizing ps with
 |nil=>cases h;simpa
 |cons v vs ih=>cases h with|cons _ _ _ _ hv t=>exact .cons _ _ _ _ hv (ih t)
theorem VRL.drop {tt E Pp vs ps} (h:VRL tt E Pp vs ps) (n:Nat):VRL tt E Pp (vs.drop n) (ps.drop n):=by
 induction n generalizing vs ps with
 |zero=>simpa
 |succ n ih=>cases h with
  |nil=>exact .nil
  |cons _ _ _ _ _ t=>simpa using ih t
theorem VRL.take {tt E Pp vs ps} (h:VRL tt E Pp vs ps) (n:Nat):VRL tt E Pp (vs.take n) (ps.take n):=by
 induction n generalizing vs ps with
 |zero=>simp;exact .nil
 |succ n ih=>cases h with
  |nil=>exact .nil
  |cons _ _ _ _ hv t=>simpa using .cons _ _ _ _ hv (ih t)
theorem VRL.of_get {tt E Pp}:∀ {vs:List Value} {ps:List PV},vs.length=ps.length→(∀ (j:Nat) v p,vs[j]? =some v→ps[j]? =some p→VR tt E Pp v p)→VRL tt E Pp vs ps
 |[],[],_,_=>.nil
 |v::vs,p::ps,hl,h=>.cons _ _ _ _ (h 0 v p rfl rfl) (VRL.of_get (by simpa using hl) (fun j v p hv hp=>h (j+1) v p (by simpa using hv) (by simpa using hp)))
 |[],_::_,hl,_=>by simp at hl
 |_::_,[],hl,_=>by simp at hl
def Eok (E E':List RI):Prop:=∀ (i:Nat) x,E[i]? =some x→E'[i]? =some x∨∃ b n c n' c',x= .map b n c∧E'[i]? =some (.map b n' c')
theorem Eok.of {E E':List RI} (h:∀ (i:Nat) x,E[i]? =some x→E'[i]? =some x):Eok E E':=fun i x hx=>.inl (h i x hx)
theorem Eok.refl (E:List RI):Eok E E:=.of fun _ _ h=>h
theorem Eok.trans {E E' E2:List RI} (h:Eok E E') (k:Eok E' E2):Eok E E2:=by
 intro i x hx
 rcases h i x hx with h1|⟨b,n,c,n',c',rfl,h1⟩
 ·exact k i x h1
 ·rcases k i _ h1 with h2|⟨b2,n2,c2,n3,c3,e,h2⟩
  ·exact .inr ⟨b,n,c,n',c',rfl,h2⟩
  ·cases e;exact .inr ⟨b,n,c,n3,c3,rfl,h2⟩
theorem Eok.box {E E':List RI} (h:Eok E E') {i b:Nat} (hx:E[i]? =some (.box b)):E'[i]? =some (.box b):=by
 rcases h i _ hx with h|⟨_,_,_,_,_,h,_⟩
 ·exact h
 ·cases h
theorem Eok.row0 {E E':List RI} (h:Eok E E') {i:Nat} (hx:E[i]? =some .row0):E'[i]? =some .row0:=by
 rcases h i _ hx with h|⟨_,_,_,_,_,h,_⟩
 ·exact h
 ·cases h
theorem Eok.row {E E':List RI} (h:Eok E E') {i g o l c:Nat} (hx:E[i]? =some (.row g o l c)):E'[i]? =some (.row g o l c):=by
 rcases h i _ hx with h|⟨_,_,_,_,_,h,_⟩
 ·exact h
 ·cases h
theorem Eok.iter {E E':List RI} (h:Eok E E') {i b:Nat} (hx:E[i]? =some (.iter b)):E'[i]? =some (.iter b):=by
 rcases h i _ hx with h|⟨_,_,_,_,_,h,_⟩
 ·exact h
 ·cases h
theorem Eok.loop {E E':List RI} (h:Eok E E') {i b:Nat} (hx:E[i]? =some (.loop b)):E'[i]? =some (.loop b):=by
 rcases h i _ hx with h|⟨_,_,_,_,_,h,_⟩
 ·exact h
 ·cases h
theorem Eok.map {E E':List RI} (h:Eok E E') {i b:Nat} {n:List Nat} {c:Nat} (hx:E[i]? =some (.map b n c)):∃ n' c',E'[i]? =some (.map b n' c'):=by
 rcases h i _ hx with h|⟨_,_,_,_,_,h,h'⟩
 ·exact ⟨_,_,h⟩
 ·cases h;exact ⟨_,_,h'⟩
theorem VR.mono_all {tt:TypeId→Option TI} {E E':List RI} {Pp Pp':Per} (hE:Eok E E') (h:∀ a v,Pp a v→Pp' a v):
 (∀ {v p},VR tt E Pp v p→VR tt E' Pp' v p)∧(∀ {vs ps},VRL tt E Pp vs ps→VRL tt E' Pp' vs ps):=by
 have key:∀ n:Nat,(∀ {v:Value} {p:PV},SizeOf.sizeOf p≤n→VR tt E Pp v p→VR tt E' Pp' v p)∧(∀ {vs:List Value} {ps:List PV},SizeOf.sizeOf ps≤n→VRL tt E Pp vs ps→VRL tt E' Pp' vs ps):=by
  intro n
  induction n with
  |zero=>
   refine ⟨fun {v p} hs _=> ?_,fun {vs ps} hs _=> ?_⟩
   ·cases p<;>simp at hs<;>omega
   ·cases ps<;>simp at hs<;>omega
  |succ n ih=>
   refine ⟨fun {v p} hs hv=> ?_,fun {vs ps} hs hv=> ?_⟩
   ·cases hv with
    |undef=>exact .undef _
    |int=>exact .int _ _
    |bl=>exact .bl _
    |bool=>exact .bool _
    |str=>exact .str _
    |lst _ _ _ hr=>exact .lst _ _ _ (hr.mono h)
    |lsf _ _ _ _ hr=>exact .lsf _ _ _ _ (hr.mono h)
    |agg vs cs hl=>simp at hs;exact .agg _ _ (ih.2 (by omega) hl)
    |tup vs cs hl=>simp at hs;exact .tup _ _ (ih.2 (by omega) hl)
    |box _ _ _ _ hb hu=>exact .box _ _ _ _ (hE.box hb) hu
    |row0 _ _ hb=>exact .row0 _ _ (hE.row0 hb)
    |row _ _ _ _ _ _ hb=>exact .row _ _ _ _ _ _ (hE.row hb)
    |rptr _ _ _ _ _ _ _ _ _ hb h0 h1=>exact .rptr _ _ _ _ _ _ _ _ _ (hE.row hb) h0 h1
    |eptr _ _ _ _ _ _ _ _ hr h0 h1=>exact .eptr _ _ _ _ _ _ _ _ (hr.mono h) h0 h1
    |pptr u vs cs off b o hu hl hpi=>simp at hs;exact .pptr _ _ _ _ _ _ hu (ih.2 (by omega) hl) (fun j v hj=>h _ _ (hpi j v hj))
    |dptr _ _ _ hr=>exact .dptr _ _ _ (hr.mono h)
    |dpp _ _ _ _ _ hr=>exact .dpp _ _ _ _ _ (hr.mono h)
    |clos u f vs cs hu hl=>simp at hs;exact .clos _ _ _ _ hu (ih.2 (by omega) hl)
    |nilp=>exact .nilp
    |nilm=>exact .nilm
    |nils=>exact .nils
    |nilf=>exact .nilf
    |mp _ _ _ _ hb=>obtain ⟨_,_,hb'⟩:=hE.map hb;exact .mp _ _ _ _ hb'
    |dmp _ _ _ _ hr=>exact .dmp _ _ _ _ (hr.mono h)
    |it _ _ hb=>exact .it _ _ (hE.iter hb)
    |yld _ _ hb=>exact .yld _ _ (hE.loop hb)
   ·cases hv with
    |nil=>exact .nil
    |cons _ _ _ _ hv ht=>simp at hs;exact .cons _ _ _ _ (ih.1 (by omega) hv) (ih.2 (by omega) ht)
 exact ⟨fun {v p} hv=>(key _).1 (Nat.le_refl _) hv,fun {vs ps} hv=>(key _).2 (Nat.le_refl _) hv⟩
theorem VR.mono {tt:TypeId→Option TI} {E E':List RI} {Pp Pp':Per} (hE:∀ (i:Nat) x,E[i]? =some x→E'[i]? =some x) (h:∀ a v,Pp a v→Pp' a v) {v p} (hv:VR tt E Pp v p):VR tt E' Pp' v p:=
 (VR.mono_all (Eok.of hE) h).1 hv
theorem VRL.mono {tt:TypeId→Option TI} {E E':List RI} {Pp Pp':Per} (hE:∀ (i:Nat) x,E[i]? =some x→E'[i]? =some x) (h:∀ a v,Pp a v→Pp' a v) {v p} (hv:VRL tt E Pp v p):VRL tt E' Pp' v p:=
 (VR.mono_all (Eok.of hE) h).2 hv
def NoPi (Pp:Per) (b:Nat):Prop:=∀ ad v,Pp ad v→ad.block≠b
def RowAt (tt:TypeId→Option TI) (Pp:Per) (e:TypeId) (vs:List Value) (o:Nat) (rows:List (List D)):Prop:=
 ∀ (i:Nat) (row:List D),rows[i]? =some row→row.length=(cksOf tt e).length∧
  ∀ (j:Nat) (d:D) (ck:CK),row[j]? =some d→(cksOf tt e)[j]? =some ck→∃ v,vs[o+i*(cksOf tt e).length+j]? =some v∧RD tt Pp ck v d
def KD (tt:TypeId→Option TI) (Pp:Per) (kc:CK) (v:Value) (d:D):Prop:=
 (kc≠ .str2∧RD tt Pp kc v d)∨(kc= .str2∧∃ a b:ByteArray,v= .agg ⟨[.string a,.string b]⟩∧d= .ptr [.str a.data.toList,.str b.data.toList])
theorem KD.mono {tt:TypeId→Option TI} {Pp Pp':Per} (h:∀ a v,Pp a v→Pp' a v) {ck:CK} {v:Value} {d:D} (hr:KD tt Pp ck v d):KD tt Pp' ck v d:=hr.imp (And.imp id (RD.mono h)) id
def EntryAt (tt:TypeId→Option TI) (Pp:Per) (kc:CK) (e:TypeId) (x:MapEntry) (row:List D):Prop:=
 ∃ (kd:D) (vd:List D),row=kd::vd∧KD tt Pp kc x.key kd∧vd.length=(cksOf tt e).length∧x.val.cells.toList.length=vd.length∧
  (∀ (j:Nat) (d:D) (ck:CK) (v:Value),vd[j]? =some d→(cksOf tt e)[j]? =some ck→x.val.cells.toList[j]? =some v→RD tt Pp ck v d)∧
  (∀ ti,tt e=some ti→(ti.agg=true→∃ cs,x.val= .agg cs)∧(ti.agg=false→x.val.cells= #[x.val]))
structure MapD (tt:TypeId→Option TI) (Pp:Per) (e:TypeId) (b:Nat) (es:Array MapEntry) (clock:Nat) (rows:List (List D)):Prop where
 hpi:Pp ⟨b,0,some 0⟩ (encM es clock)
 len:es.toList.length=rows.length
 ent:∀ (i:Nat) (x:MapEntry) (row:List D),es.toList[i]? =some x→rows[i]? =some row→EntryAt tt Pp .str e x row
 nd:(es.toList.map (·.born)).Nodup
 lt:∀ x,x∈es.toList.map (·.born)→x<clock
theorem MapD.mono {tt:TypeId→Option TI} {Pp Pp':Per} (h:∀ a v,Pp a v→Pp' a v) {e:TypeId} {b:Nat} {es:Array MapEntry} {clock:Nat} {rows:List (List D)} (m:MapD tt Pp e b es clock rows):MapD tt Pp' e b es clock rows:=by
 refine ⟨h _ _ m.hpi,m.len,fun i x row h1 h2=> ?_,m.nd,m.lt⟩
 obtain ⟨kd,vd,e1,e2,e3,e4,e5,e6⟩:=m.ent i x row h1 h2
 exact ⟨kd,vd,e1,e2.mono h,e3,e4,fun j d ck v a b c=>(e5 j d ck v a b c).mono h,e6⟩
theorem RD.map_inv {tt:TypeId→Option TI} {Pp:Per} {t e:TypeId} {v:Value} {d:D} (h:RD tt Pp (.map t e) v d):
 (v= .map none∧d= .nil)∨∃ b es clock rows,v= .map (some b)∧d= .list rows∧MapD tt Pp e b es clock rows:=by
 cases h with
 |mnil=>exact .inl ⟨rfl,rfl⟩
 |mdat _ _ b es clock rows hl hpi hk hnd hlt hrd=>
  refine .inr ⟨b,es,clock,rows,rfl,rfl,hpi,hl,fun i x row h1 h2=> ?_,hnd,hlt⟩
  obtain ⟨s,vd,e1,e2,e3,e4,e5⟩:=hk i x row h1 h2
  refine ⟨_,vd,e2,.inl ⟨by simp,by rw [e1];exact .str s⟩,e3,e4,fun j d ck v a b c=>hrd i j x row d ck v h1 h2 (by rw [e2];simpa using a) b c,e5⟩
theorem MapD.rd {tt:TypeId→Option TI} {Pp:Per} {e:TypeId} {b:Nat} {es:Array MapEntry} {clock:Nat} {rows:List (List D)} (m:MapD tt Pp e b es clock rows) (t:TypeId):RD tt Pp (.map t e) (.map (some b)) (.list rows):=by
 refine .mdat t e b es clock rows m.len m.hpi (fun i x row h1 h2=> ?_) m.nd m.lt (fun i j x row d ck v h1 h2 h3 h4 h5=> ?_)
 ·obtain ⟨kd,vd,e1,e2,e3,e4,_,e6⟩:=m.ent i x row h1 h2
  rcases e2 with ⟨_,e2⟩|⟨e2,_⟩
  ·generalize hv:x.key=kv at e2
   cases e2 with
   |str s=>exact ⟨s,vd,rfl,e1,e3,e4,e6⟩
  ·cases e2
 ·obtain ⟨kd,vd,e1,_,_,_,e5,_⟩:=m.ent i x row h1 h2
  exact e5 j d ck v (by rw [e1] at h3;simpa using h3) h4 h5
theorem pc_map {w:World} {b:Nat} {es:Array MapEntry} {clock:Nat} (h:pc w ⟨b,0,some 0⟩=some (encM es clock)):w.heap[b]? =some (.map es clock):=by
 unfold pc at h
 cases hx:w.heap[b]? with
 |none=>simp only [hx] at h;cases h
 |some x=>
  simp only [hx] at h
  cases x with
  |map es' clock'=>
   simp at h
   obtain ⟨h1,h2⟩:=encM_inj h
   rw [h1,h2]
  |cells c _ _=>simp at h
  |_=>simp at h
def LSok (j:LS) (s:LoopState) (p:Option Code):Prop:=match j with| .ready=>s= .ready∧p=none| .busy=>s= .busy| .done c=>s= .done∧p=some c
def LSnow (j:LS) (s:LoopState):Prop:=match j with| .ready=>s= .ready| .busy=>s= .busy| .done _=>False
structure LoopAt (n:Nat) (ps:List Nat) (c1 c2:Code) (j:LS) (r:Loop):Prop where
 size:r.tmps.size=n
 params:r.params.toList=ps
 assign:r.assign=c1
 body:r.body=c2
 state:LSok j r.state r.pending
def ptrLike:PV→Bool
 | .nilp=>true
 | .box _ _=>true
 |_=>false
def bldLike:List PV→Bool
 |[p,_]=>ptrLike p
 |_=>false
def BldOk (tt:TypeId→Option TI) (T:TypeId) (cs:List PV):Prop:=bldLike cs=true→∃ ti,tt T=some ti∧ti.bld=true
def kvs:List MapEntry→List Value
 |[]=>[]
 |x::es=>x.key::x.val::kvs es
def OR (tt:TypeId→Option TI) (E:List RI) (Pp:Per) (w:World):RI→Ob→Prop
 | .box b,.box cs=>∃ (vs:List Value) (T:TypeId),w.heap[b]? =some (.cells ⟨vs⟩ T (0,0))∧VRL tt E Pp vs cs∧NoPi Pp b∧BldOk tt T cs
 | .row0,.row _ d _=>d= .list []
 | .row g o len cap,.row e d wr=>∃ (vs:List Value) (_:TypeId) (rows:List (List D)),w.heap[g]? =some (.cells ⟨vs⟩ e (0,0))∧d= .list rows∧rows.length=len∧len≤cap∧o+cap*(cksOf tt e).length≤vs.length∧
  RowAt tt Pp e vs o rows∧(wr=true→NoPi Pp g)∧
  (wr=false→(∀ (i j:Nat) (v:Value),i<len→j<(cksOf tt e).length→vs[o+i*(cksOf tt e).length+j]? =some v→Pp ⟨g,o+i*(cksOf tt e).length+j,none⟩ v)∧
    ∀ ad v,Pp ad v→ad.block=g→cap=0∨ad.off<o+len*(cksOf tt e).length)
 | .map b borns clock,.map kc e d=>∃ (es:Array MapEntry) (rows:List (List D)),w.heap[b]? =some (.map es clock)∧d= .list rows∧es.toList.length=rows.length∧
  (∀ (i:Nat) (x:MapEntry) (row:List D),es.toList[i]? =some x→rows[i]? =some row→EntryAt tt Pp kc e x row)∧
  es.toList.map (·.born)=borns∧borns.Nodup∧(∀ x,x∈borns→x<clock)∧NoPi Pp b
 | .map b borns clock,.box cs=>∃ (es:Array MapEntry),w.heap[b]? =some (.map es clock)∧VRL tt E Pp (kvs es.toList) cs∧es.toList.map (·.born)=borns∧borns.Nodup∧(∀ x,x∈borns→x<clock)∧NoPi Pp b
 | .iter b,.iter m seen=>∃ (bm:Nat) (borns:List Nat) (clock:Nat) (ls:List Nat),E[m]? =some (.map bm borns clock)∧w.heap[b]? =some (.mapIter (some bm) clock ⟨ls.map (fun (j:Nat)=>borns.getD j 0)⟩ clock)∧
  seen= .list (ls.map fun (j:Nat)=>[D.int (j:Int)])∧∀ j,j∈ls→j<borns.length
 | .iter b,.diter e d seen=>∃ (ls:List Nat),seen= .list (ls.map fun (j:Nat)=>[D.int (j:Int)])∧
  ((d= .nil∧ls=[]∧∃ n ss m,w.heap[b]? =some (.mapIter none n ss m))∨
    ∃ (bm:Nat) (es:Array MapEntry) (clock:Nat) (rows:List (List D)),d= .list rows∧MapD tt Pp e bm es clock rows∧
     w.heap[b]? =some (.mapIter (some bm) clock ⟨ls.map (fun (j:Nat)=>(es.toList.map (·.born)).getD j 0)⟩ clock)∧∀ j,j∈ls→j<rows.length)
 | .loop b,.loop n ps c1 c2 s j=>∃ r:Loop,w.heap[b]? =some (.loop r)∧LoopAt n ps c1 c2 j r∧∀ t,VR tt E Pp (r.tmps.getD t undef) (look s t)
 |_,_=>False
def globOf (tt:TypeId→Option TI):Option Nat:=match tt 3 with|some ti=>ti.glob|none=>none
def gtabOf (tt:TypeId→Option TI):List (Nat×IntKind×List Int):=match tt 3 with|some ti=>ti.gtab|none=>[]
def TabP (Pp:Per) (g:Nat×IntKind×List Int):Prop:=Pp ⟨g.1,0,some 1⟩ (.int .i64 g.2.2.length)∧∀ i z,g.2.2[i]? =some z→Pp ⟨g.1,i,none⟩ (.int g.2.1 z)
def GlF (tt:TypeId→Option TI) (Pp:Per):Prop:=(∀ b,globOf tt=some b→∃ m:Int,Pp ⟨b,0,none⟩ (.int .i64 m))∧∀ g,g∈gtabOf tt→TabP Pp g
theorem GlF.mono {tt:TypeId→Option TI} {Pp Pp':Per} (h:GlF tt Pp) (hp:∀ ad v,Pp ad v→Pp' ad v):GlF tt Pp':=
 ⟨fun b hb=>(h.1 b hb).imp fun _ hm=>hp _ _ hm,fun g hg=>⟨hp _ _ (h.2 g hg).1,fun i z hz=>hp _ _ ((h.2 g hg).2 i z hz)⟩⟩
structure WR (tt:TypeId→Option TI) (E:List RI) (Pp:Per) (objs:List Ob) (w:World):Prop where
 len:E.length=objs.length
 pi:∀ ad v,Pp ad v→pc w ad=some v
 ob:∀ (i:Nat) o,objs[i]? =some o→o.live=true→∃ ri,E[i]? =some ri∧OR tt E Pp w ri o
 sep:∀ (i j:Nat) oi oj ri rj b,objs[i]? =some oi→objs[j]? =some oj→oi.live=true→oj.live=true→E[i]? =some ri→E[j]? =some rj→
  ri.block? =some b→rj.block? =some b→i=j
 gl:GlF tt Pp
theorem WR.glM {tt:TypeId→Option TI} {E:List RI} {Pp Pp':Per} {objs:List Ob} {w:World} (h:WR tt E Pp objs w) (hp:∀ ad v,Pp ad v→Pp' ad v):GlF tt Pp':=h.gl.mono hp
theorem WR.piN {tt:TypeId→Option TI} {E:List RI} {Pp:Per} {objs:List Ob} {w:World} (h:WR tt E Pp objs w) {b o:Nat} {v:Value} (hp:Pp ⟨b,o,none⟩ v):w.cell? ⟨b,o,none⟩=some v:=by
 rw [← pc_none];exact h.pi _ _ hp
def own (E:List RI) (objs:List Ob) (b:Nat):Prop:=∃ (i:Nat) (o:Ob) (ri:RI),objs[i]? =some o∧o.live=true∧E[i]? =some ri∧ri.block? =some b
structure Fr (own:Nat→Prop) (w0 w:World):Prop where
 os:w.os=w0.os
 tape:w.tape=w0.tape
 output:w.output=w0.output
 size:w0.heap.size≤w.heap.size
 block:∀ k,k<w0.heap.size→¬own k→w.heap[k]? =w0.heap[k]?
theorem Fr.refl (own:Nat→Prop) (w:World):Fr own w w:=⟨rfl,rfl,rfl,Nat.le_refl _,fun _ _ _=>rfl⟩
theorem Fr.trans {o1 o2:Nat→Prop} {a b c:World} (h:Fr o1 a b) (k:Fr o2 b c) (ho:∀ x,x<a.heap.size→o2 x→o1 x):Fr o1 a c:=
 ⟨k.os.trans h.os,k.tape.trans h.tape,k.output.trans h.output,Nat.le_trans h.size k.size,
  fun x hx hn=>(k.block x (Nat.lt_of_lt_of_le hx h.size) (fun h2=>hn (ho x hx h2))).trans (h.block x hx hn)⟩
end Go.VC
end

section
namespace Go.VC
structure Alg where
 asInt:D→Int
 asBool:D→Bool
 asStr:D→List UInt8
 len:D→Int
 cell:D→Int→Nat→D
 pcell:D→Nat→D
 isNil:D→Bool
 add:Int→Int→Int
 sub:Int→Int→Int
 mul:Int→Int→Int
 quo:Int→Int→Int
 rem:Int→Int→Int
 wrap:IntKind→Int→Int
 eq:Int→Int→Bool
 lt:Int→Int→Bool
 le:Int→Int→Bool
 not:Bool→Bool
 ite:Bool→Bool→Bool→Bool
 beq:Bool→Bool→Bool
 seq:List UInt8→List UInt8→Bool
 slt:List UInt8→List UInt8→Bool
 slen:List UInt8→Int
 sapp:List UInt8→List UInt8→List UInt8
 ssub:List UInt8→Int→Int→List UInt8
 sget:List UInt8→Int→Int
 max:Int→Int→Int
 min:Int→Int→Int
 lit:List (List D)→D
 app:D→D→D
 part:D→Int→Int→D
 setc:D→Int→Nat→List D→D
 inr:IntKind→Int→Prop
 idx:Int→Int→Prop
 bnd:Int→Int→Prop
 ne0:Int→Prop
 same:Int→Int→Prop
 mhas:D→D→Bool
 mget:D→D→Nat→D
 mset:D→D→List D→D
 mdel:D→D→D
 allSeen:D→D→Prop
 unseen:D→D→Int→Prop
 see:D→Int→D
 last:D→Int
 rep:Int→List D→D
 sel:List Int→Int→Int
 bstr:D→List UInt8
 strD:List UInt8→D
def byteR:List D→Int
 | .int n::_=>n
 |_=>0
def rowsD:D→List (List D)
 | .list r=>r
 |_=>[]
def ptrD:D→List D
 | .ptr r=>r
 |_=>[]
def keyEq:D→D→Bool
 | .int a,.int b=>a==b
 | .str a,.str b=>a==b
 | .bool a,.bool b=>a==b
 | .ptr [.str a,.str b],.ptr [.str c,.str d]=>a==c&&b==d
 |_,_=>false
def hasKey (k:D) (row:List D):Bool:=match row with|a::_=>keyEq k a|[]=>false
def setKey (k:D) (vs:List D):List (List D)→List (List D)
 |[]=>[k::vs]
 |row::r=>if hasKey k row then (k::vs)::r else row::setKey k vs r
@[reducible] def std:Alg where
 asInt d:=match d with| .int n=>n|_=>0
 asBool d:=match d with| .bool b=>b|_=>false
 asStr d:=match d with| .str s=>s|_=>[]
 len d:=((rowsD d).length:Int)
 cell d i j:=((rowsD d).getD i.toNat []).getD j .nil
 pcell d j:=(ptrD d).getD j .nil
 isNil d:=match d with| .ptr _=>false|_=>true
 add a b:=a+b
 sub a b:=a-b
 mul a b:=a*b
 quo a b:=a.tdiv b
 rem a b:=a.tmod b
 wrap k a:=k.wrap a
 eq a b:=a==b
 lt a b:=decide (a<b)
 le a b:=decide (a≤b)
 not b:= !b
 ite c a b:=bif c then a else b
 beq a b:=a==b
 seq a b:=a==b
 slt a b:=Op.bytesLess a b
 slen s:=(s.length:Int)
 sapp a b:=a++b
 ssub s lo hi:=(s.drop lo.toNat).take (hi.toNat-lo.toNat)
 sget s i:=((s.getD i.toNat 0).toNat:Int)
 max a b:=if b>a then b else a
 min a b:=if b<a then b else a
 lit l:=.list l
 app a b:=.list (rowsD a++rowsD b)
 part d lo hi:=.list (((rowsD d).drop lo.toNat).take (hi.toNat-lo.toNat))
 setc d i off vs:=.list ((rowsD d).modify i.toNat fun row=>row.take off++vs++row.drop (off+vs.length))
 inr k n:=k.min≤n∧n≤k.max
 idx i n:=0≤i∧i<n
 bnd a b:=0≤a∧a≤b
 ne0 a:=a≠0
 same a b:=a=b
 mhas m k:=(rowsD m).any (hasKey k)
 mget m k j:=(((rowsD m).find? (hasKey k)).getD []).getD (j+1) .nil
 mset m k vs:=.list (setKey k vs (rowsD m))
 mdel m k:=.list ((rowsD m).eraseP (hasKey k))
 allSeen m s:=∀ j:Nat,j<(rowsD m).length→[.int (j:Int)]∈rowsD s
 unseen m s i:=0≤i∧i<((rowsD m).length:Int)∧[.int i]∉rowsD s
 see s i:=.list (rowsD s++[[.int i]])
 rep n row:=.list (List.replicate n.toNat row)
 sel l i:=l.getD i.toNat 0
 bstr d:=(rowsD d).map fun r=>UInt8.ofNat (byteR r).toNat
 strD s:=.list (s.map fun b=>[.int (b.toNat:Int)])
 last s:=match (rowsD s).getLast? with|some [.int i]=>i|_=>0
def ofVal:Value→PV
 | .int k n=>.int k n
 | .bool b=>.bl b
 | .string s=>.str s.data.toList
 | .pointer none=>.nilp
 | .map none=>.nilm
 | .nilFunc=>.nilf
 |_=>.undef
def isNils:Operand→Bool
 | .const (.slice none 0 0)=>true
 |_=>false
def norm:PV→PV
 | .lsf e d=>.lst e d
 |p=>p
def ev (s:Slots):Operand→PV
 | .tmp t=>norm (look s t)
 | .const v=>ofVal v
 | .global _=>.undef
 | .func f=>bif nlt f bndM then .clos f [] else .undef
def evM (tt:TypeId→Option TI) (s:Slots) (t:TypeId) (x:Operand):PV:=
 match x with
 | .const (.slice none 0 0)=>match tt t with|some ti=>.lsf ti.el (.list [])|none=>.undef
 | .tmp t=>look s t
 |x=>ev s x
def cellC (c:CK) (v:Value):PV:=match v with
 | .slice none 0 0=>(match c with| .slice e=>.lst e (.list [])|_=>.undef)
 |v=>ofVal v
def cellsC:List CK→List Value→Option (List PV)
 |[],[]=>some []
 |c::cs,v::vs=>(match cellsC cs vs with|some l=>some (cellC c v::l)|none=>none)
 |_,_=>none
def evT (tt:TypeId→Option TI) (s:Slots) (t:TypeId) (x:Operand):PV:=
 match x with
 | .const (.slice none 0 0)=>match tt t with|some ti=>.lst ti.el (.list [])|none=>.undef
 | .const (.agg vs)=>match tt t with
  |some ti=>(match cellsC ti.cks vs.toList with|some l=>.agg l|none=>.undef)
  |none=>.undef
 |x=>ev s x
def lenL {α:Type}:List α→Nat|[]=>0|_::l=>lenL l+1
theorem lenL_eq {α:Type} (l:List α):lenL l=l.length:=by induction l<;>simp [lenL, *]
def getO:List Ob→Nat→Ob
 |[],_=>.dead|x::_,0=>x|_::xs,n+1=>getO xs n
theorem getO_eq (l:List Ob) (n:Nat):getO l n=l.getD n .dead:=by
 induction l generalizing n with
 |nil=>simp [getO]
 |cons x xs ih=>cases n<;>simp [getO,ih]
def takeL:Nat→List PV→List PV
 |0,_=>[]|_,[]=>[]|n+1,x::xs=>x::takeL n xs
theorem takeL_eq (n:Nat) (l:List PV):takeL n l=l.take n:=by
 induction n generalizing l with
 |zero=>simp [takeL]
 |succ n ih=>cases l<;>simp [takeL,ih]
def dropL:Nat→List PV→List PV
 |0,l=>l|_,[]=>[]|n+1,_::xs=>dropL n xs
theorem dropL_eq (n:Nat) (l:List PV):dropL n l=l.drop n:=by
 induction n generalizing l with
 |zero=>simp [dropL]
 |succ n ih=>cases l<;>simp [dropL,ih]
def getF:List (Nat×TypeId)→Nat→Option (Nat×TypeId)
 |[],_=>none|x::_,0=>some x|_::xs,n+1=>getF xs n
theorem getF_eq (l:List (Nat×TypeId)) (n:Nat):getF l n=l[n]? :=by
 induction l generalizing n with
 |nil=>simp [getF]
 |cons x xs ih=>cases n<;>simp [getF,ih]
def getP:List PV→Nat→PV
 |[],_=>.undef|x::_,0=>x|_::xs,n+1=>getP xs n
theorem getP_eq (l:List PV) (n:Nat):getP l n=l.getD n .undef:=by
 induction l generalizing n with
 |nil=>simp [getP]
 |cons x xs ih=>cases n<;>simp [getP,ih]
def setL:List PV→Nat→List PV→List PV
 |xs,_,[]=>xs
 |[],_,_=>[]
 |_::xs,0,y::ys=>y::setL xs 0 ys
 |x::xs,n+1,y::ys=>x::setL xs n (y::ys)
def flat:PV→List PV| .agg cs=>cs| .undef=>[]|v=>[v]
def aggOf (ti:TI) (l:List PV):PV:=bif ti.agg then .agg l else match l with|[x]=>x|_=>.undef
section
variable (A:Alg) (tt:TypeId→Option TI)
def cellPV (c:CK) (d:D):PV:=match c with
 | .int k=>.int k (A.asInt d)| .bool=>.bool (A.asBool d)| .str=>.str (A.asStr d)| .slice e=>.lst e d| .ptr t=>.dptr t d
 | .map _ e=>.dmp e d| .fn=>.undef
 | .str2=>.undef
def kcellPV (c:CK) (d:D):PV:=match c with
 | .str2=>.agg [.str (A.asStr (A.pcell d 0)),.str (A.asStr (A.pcell d 1))]
 |c=>cellPV A c d
def gcells (g:Nat→D):Nat→List CK→List PV
 |_,[]=>[]
 |j,c::cs=>cellPV A c (g j)::gcells g (j+1) cs
def cellsPV (d:D) (i:Int) (j:Nat) (cs:List CK):List PV:=gcells A (A.cell d i) j cs
def pcellsPV (d:D) (j:Nat) (cs:List CK):List PV:=gcells A (A.pcell d) j cs
def mcellsPV (m k:D) (j:Nat) (cs:List CK):List PV:=gcells A (A.mget m k) j cs
def sliceEl (ti:TI):Option TypeId:=match ti.agg,ti.cks with|false,[.slice e]=>some e|_,_=>none
def isStr (ti:TI):Bool:=match ti.agg,ti.cks with|false,[.str]=>true|_,_=>false
def isMap (ti:TI):Bool:=match ti.agg,ti.cks with|false,[.map _ _]=>true|_,_=>false
def intOfTi (ti:TI):Option IntKind:=match ti.agg,ti.cks with|false,[.int k]=>some k|_,_=>none
def ckEq:List CK→List CK→Bool
 |[],[]=>true
 |a::x,b::y=>(decide (a=b))&&ckEq x y
 |_,_=>false
def takeC:Nat→List CK→List CK
 |0,_=>[]|_,[]=>[]|n+1,x::xs=>x::takeC n xs
def dropC:Nat→List CK→List CK
 |0,l=>l|_,[]=>[]|n+1,_::xs=>dropC n xs
def kindsAt (e:TypeId) (off:Nat) (cs:List CK):Bool:=ckEq (takeC (lenL cs) (dropC off (cksOf tt e))) cs
def toD:PV→Option D
 | .int _ n=>some (.int n)| .bl b=>some (.bool b)| .bool b=>some (.bool b)| .str s=>some (.str s)| .lst _ d=>some d
 | .dptr _ d=>some d| .nilp=>some .nil| .nilm=>some .nil| .nilf=>some .nil| .dmp _ d=>some d|_=>none
def binB (op:BinOp) (eq:Bool) (K:PV→Prop):Prop:=match op with
 | .eql=>K (.bool eq)
 | .neq=>K (.bool (A.not eq))
 |_=>False
def binL (op:BinOp) (eq:Bool) (K:PV→Prop):Prop:=match op,eq with
 | .eql,true=>K (.bl true)
 | .eql,false=>K (.bl false)
 | .neq,true=>K (.bl false)
 | .neq,false=>K (.bl true)
 |_,_=>False
def isBool (ti:TI):Bool:=match ti.agg,ti.cks with|false,[.bool]=>true|_,_=>false
def binBool (o:Option TI) (op:BinOp) (b:Bool) (K:PV→Prop):Prop:=match o with
 |some ti=>bif isBool ti then binB A op b K else False
 |none=>False
def binI (op:BinOp) (k:IntKind) (a b:Int) (K:PV→Prop):Prop:=match op with
 | .add=>(A.inr k (A.add a b)∧(True→K (.int k (A.add a b))))∨(True→K (.int k (A.wrap k (A.add a b))))
 | .sub=>(A.inr k (A.sub a b)∧(True→K (.int k (A.sub a b))))∨(True→K (.int k (A.wrap k (A.sub a b))))
 | .mul=>(A.inr k (A.mul a b)∧(True→K (.int k (A.mul a b))))∨(True→K (.int k (A.wrap k (A.mul a b))))
 | .quo=>A.ne0 b∧A.inr k (A.quo a b)∧K (.int k (A.quo a b))
 | .rem=>A.ne0 b∧K (.int k (A.rem a b))
 | .eql=>K (.bool (A.eq a b))
 | .neq=>K (.bool (A.not (A.eq a b)))
 | .lss=>K (.bool (A.lt a b))
 | .leq=>K (.bool (A.le a b))
 | .gtr=>K (.bool (A.lt b a))
 | .geq=>K (.bool (A.le b a))
 |_=>False
def binS (op:BinOp) (a b:List UInt8) (K:PV→Prop):Prop:=match op with
 | .eql=>K (.bool (A.seq a b))
 | .neq=>K (.bool (A.not (A.seq a b)))
 | .lss=>K (.bool (A.slt a b))
 | .gtr=>K (.bool (A.slt b a))
 | .leq=>K (.bool (A.not (A.slt b a)))
 | .geq=>K (.bool (A.not (A.slt a b)))
 | .add=>A.inr .i64 (A.add (A.slen a) (A.slen b))∧K (.str (A.sapp a b))
 |_=>False
def isFn (ti:TI):Bool:=match ti.agg,ti.cks with|false,[.fn]=>true|_,_=>false
def isPtr (ti:TI):Bool:=match ti.agg,ti.cks with|false,[.ptr _]=>true|_,_=>false
def eqPV:PV→PV→Option Bool
 | .int _ a,.int _ b=>some (A.eq a b)
 | .str a,.str b=>some (A.seq a b)
 | .bool a,.bool b=>some (A.beq a b)
 | .bl a,.bool b=>some (A.beq a b)
 | .bool a,.bl b=>some (A.beq a b)
 | .bl a,.bl b=>some (A.beq a b)
 |_,_=>none
def eqPVs:List PV→List PV→Option Bool
 |[],[]=>some true
 |a::x,b::y=>match eqPV A a b,eqPVs x y with
  |some c,some d=>some (A.ite c d false)
  |_,_=>none
 |_,_=>none
def ckScalar:CK→PV→Bool
 | .int k,.int k' _=>decide (k=k')
 | .bool,.bool _=>true
 | .bool,.bl _=>true
 | .str,.str _=>true
 |_,_=>false
def cksScalar:List CK→List PV→Bool
 |[],[]=>true
 |c::cs,p::ps=>ckScalar c p&&cksScalar cs ps
 |_,_=>false
def kEq (a b:IntKind):Bool:=decide (a=b)
theorem kEq_of {a b:IntKind} (h:kEq a b=true):a=b:=of_decide_eq_true h
def optI (s:Slots) (o:Option Operand) (dflt:Int) (K:Int→Prop):Prop:=match o with
 |none=>K dflt
 |some x=>match ev s x with
  | .int _ n=>K n
  |_=>False
def litN (n:Int):Option Nat:=match n with| .ofNat k=>some k| .negSucc _=>none
def noLo (o:Option Operand):Bool:=match o with|none=>true|some _=>false
def litHi (s:Slots) (o:Option Operand):Option Nat:=match o with
 |some x=>(match ev s x with| .int _ n=>litN n|_=>none)
 |none=>none
def ckFits:CK→PV→Bool
 | .int k,.int k' _=>decide (k=k')
 | .bool,.bool _=>true
 | .bool,.bl _=>true
 | .str,.str _=>true
 | .slice e,.lst e' _=>nb e e'
 | .ptr t,.dptr t' _=>nb t t'
 | .ptr _,.nilp=>true
 | .map _ _,.nilm=>true
 | .map _ e,.dmp e' _=>nb e e'
 | .fn,.nilf=>true
 |_,_=>false
def cksFits (cks:List CK):List PV→Bool
 |[]=>true
 |p::ps=>(match cks with|[c]=>ckFits c p|_=>false)&&cksFits cks ps
def toD' (p:PV):D:=match toD p with|some d=>d|none=>.nil
def mapD1:List PV→List (List D)
 |[]=>[]
 |p::ps=>[toD' p]::mapD1 ps
def arrFs (e:TypeId) (S:Nat):Nat→Nat→List (Nat×TypeId)
 |_,0=>[]
 |off,n+1=>(off,e)::arrFs e S (off+S) n
def intsOf (k:IntKind):List PV→Option (List Int)
 |[]=>some []
 | .int k' n::l=>bif kEq k k' then (match intsOf k l with|some ns=>some (n::ns)|none=>none) else none
 |_=>none
def asLst (ob:List Ob) (p:PV):PV:=match p with
 | .row e r=>match getO ob r with
  | .row e' d false=>bif nb e e' then .lst e d else .undef
  |_=>.undef
 |p=>p
def fillAll (s:Slots) (tt:TypeId→Option TI) (fs:List (Nat×TypeId)):List (Nat×Operand)→List PV→Option (List PV)
 |[],acc=>some acc
 |(i,x)::r,acc=>match getF fs i with
  |some (off,ft)=>match tt ft with
   |some fi=>bif nb (lenL (flat (evT tt s ft x))) (lenL fi.cks)&&nle (off+lenL fi.cks) (lenL acc)&&nlt 0 (lenL fi.cks) then fillAll s tt fs r (setL acc off (flat (evT tt s ft x))) else none
   |none=>none
  |none=>none
def pureOp (op:Op) (ty:TypeId) (s:Slots) (ob:List Ob) (K:PV→Prop):Prop:=
 match op with
 | .move x=>K (evM tt s ty x)
 | .assign x=>K (evM tt s ty x)
 | .pick c a b=>match ev s c with
  | .bl true=>K (ev s a)
  | .bl false=>K (ev s b)
  | .bool c=>match ev s a,ev s b with
   | .bool x,.bool y=>K (.bool (A.ite c x y))
   | .bl x,.bool y=>K (.bool (A.ite c x y))
   | .bool x,.bl y=>K (.bool (A.ite c x y))
   | .bl x,.bl y=>K (.bool (A.ite c x y))
   |_,_=>False
  |_=>False
 | .load t x=>match tt t with
  |none=>False
  |some ti=>match ev s x with
   | .box b off=>match getO ob b with
    | .box cs=>bif nle off slcM&&nle (off+lenL ti.cks) (lenL cs) then K (aggOf ti (takeL (lenL ti.cks) (dropL off cs))) else False
    |_=>False
   | .eptr e d i off=>bif kindsAt tt e off ti.cks then K (aggOf ti (cellsPV A d i off ti.cks)) else False
   | .rptr e r i off=>bif nb off slcM then False else match getO ob r with
    | .row e' d _=>bif nb e e'&&kindsAt tt e off ti.cks then K (aggOf ti (cellsPV A d i off ti.cks)) else False
    |_=>False
   | .pptr cs off=>bif (match nb off slcM with|true=>false|false=>nle (off+lenL ti.cks) (lenL cs)) then K (aggOf ti (takeL (lenL ti.cks) (dropL off cs))) else False
   | .dpp t d off=>bif kindsAt tt t off ti.cks then K (aggOf ti (pcellsPV A d off ti.cks)) else False
   | .dptr t d=>bif kindsAt tt t 0 ti.cks then (A.isNil d=false∧K (aggOf ti (pcellsPV A d 0 ti.cks))) else False
   |_=>False
 | .nilCheck x=>match ev s x with
  | .dptr t d=>A.isNil d=false∧K (.dpp t d 0)
  | .box b off=>bif nle off slcM then K (.box b off) else False
  | .eptr e d i off=>K (.eptr e d i off)
  | .rptr e r i off=>bif nb off slcM then False else K (.rptr e r i off)
  | .pptr cs off=>bif nb off slcM then False else K (.pptr cs off)
  | .dpp t d off=>K (.dpp t d off)
  | .clos f cs=>K (.clos f cs)
  |_=>False
 | .binOp op t x y _=>match isNils y with
  |true=>(match op,ev s x,tt t with
   | .eql,.lst _ d,some ti=>(match sliceEl ti with
    |some _=>∀ b:Bool,(b=true→A.same (A.len d) 0)→K (.bool b)
    |none=>False)
   |_,_,_=>False)
  |false=>match ev s x,ev s y with
   | .int k a,.int k' b=>bif kEq k k' then binI A op k a b K else False
   | .str a,.str b=>binS A op a b K
   | .dptr _ d,.nilp=>match tt t with|some ti=>bif isPtr ti then binB A op (A.isNil d) K else False|none=>False
   | .pptr _ off,.nilp=>bif nb off slcM then False else match tt t with|some ti=>bif isPtr ti then binL op false K else False|none=>False
   | .box _ off,.nilp=>match tt t with|some ti=>bif isPtr ti&&nle off slcM then binL op false K else False|none=>False
   | .clos _ _,.nilf=>match tt t with|some ti=>bif isFn ti then binL op false K else False|none=>False
   | .nilf,.nilf=>match tt t with|some ti=>bif isFn ti then binL op true K else False|none=>False
   | .nilp,.nilp=>match tt t with|some ti=>bif isPtr ti then binL op true K else False|none=>False
   | .agg us,.agg vs=>match tt t with
    |some ti=>bif ti.eqOk&&cksScalar ti.cks us&&cksScalar ti.cks vs then (match eqPVs A us vs with|some b=>binB A op b K|none=>False) else False
    |none=>False
   | .bool a,.bool b=>binBool A (tt t) op (A.beq a b) K
   | .bl a,.bool b=>binBool A (tt t) op (A.beq a b) K
   | .bool a,.bl b=>binBool A (tt t) op (A.beq a b) K
   | .bl a,.bl b=>binBool A (tt t) op (A.beq a b) K
   |_,_=>False
 | .unOp op _ x=>match op,ev s x with
  | .not,.bool b=>K (.bool (A.not b))
  | .not,.bl true=>K (.bl false)
  | .not,.bl false=>K (.bl true)
  | .neg,.int k n=>A.inr k (A.sub 0 n)∧K (.int k (A.sub 0 n))
  |_,_=>False
 | .convert src dst x=>match tt src,tt dst with
  |some si,some ti=>match intOfTi ti,ev s x with
   |some k,.int _ n=>(A.inr k n∧(True→K (.int k n)))∨(True→K (.int k (A.wrap k n)))
   |none,.lst e d=>match sliceEl si with
    |none=>False
    |some e'=>match tt e' with
     |none=>False
     |some ei=>match intOfTi ei with
      |some .u8=>bif isStr ti&&nb e e' then K (.str (A.bstr d)) else False
      |_=>False
   |_,_=>False
  |_,_=>False
 | .makeFunc (.func f) first caps=>match first.toList with
  |[]=>bif nlt f bndM then K (.clos f (caps.toList.map (ev s))) else False
  |_=>(match caps.toList with
   |[]=>K (.clos (f+bndM) (first.toList.map (ev s)))
   |_=>False)
 | .fieldAddr t x f=>match tt t with
  |none=>False
  |some ti=>match getF ti.fs f with
   |none=>False
   |some (fo,ft)=>match tt ft with
    |none=>False
    |some fi=>match fi.cks with
     |[]=>False
     |_=>match ev s x with
      | .box b off=>bif nle off slcM&&nle (off+fo) slcM then K (.box b (off+fo)) else False
      | .eptr e d i off=>K (.eptr e d i (off+fo))
      | .rptr e r i off=>bif nb off slcM then False else bif nb (off+fo) slcM then False else K (.rptr e r i (off+fo))
      | .pptr cs off=>bif nb off slcM then False else bif nb (off+fo) slcM then False else K (.pptr cs (off+fo))
      | .dpp t d off=>K (.dpp t d (off+fo))
      |_=>False
 | .field t x f=>match tt t with
  |none=>False
  |some ti=>match getF ti.fs f with
   |none=>False
   |some (fo,ft)=>match tt ft with
    |none=>False
    |some fi=>match ev s x with
     | .agg cs=>bif nle (fo+lenL fi.cks) (lenL cs) then K (aggOf fi (takeL (lenL fi.cks) (dropL fo cs))) else False
     |_=>False
 | .indexAddr t x i=>match tt t with
  |none=>False
  |some ti=>match sliceEl ti,ev s x,ev s i with
   |some e0,.lst e d,.int _ n=>bif nb e0 e then (A.idx n (A.len d)∧match tt e with|some _=>K (.eptr e d n 0)|none=>False) else False
   |some e0,.row e r,.int _ n=>bif nb e0 e then (match getO ob r with
    | .row e' d _=>bif nb e e' then (A.idx n (A.len d)∧match tt e with|some _=>K (.rptr e r n 0)|none=>False) else False
    |_=>False) else False
   |some e0,.rptr e r i off,.int _ n=>bif nb e0 e&&nb off slcM then (match getO ob r with
    | .row e' d _=>bif nb e e' then (A.idx n (A.sub (A.len d) i)∧match tt e with|some _=>K (.rptr e r (A.add i n) 0)|none=>False) else False
    |_=>False) else False
   |some e0,.pptr cs off,.int _ n=>(match tt e0,litN n with
    |some ei,some k=>bif nb off slcM&&nb (lenL ei.cks) 1&&nlt k (lenL cs) then (bif nb k slcM then False else K (.pptr cs k)) else False
    |_,_=>False)
   |some e0,.box b off,.int _ n=>(match tt e0,litN n with
    |some ei,some k=>bif nb (lenL ei.cks) 1&&nlt slcM off&&nlt k (off-(slcM+1))&&nle k slcM then K (.box b k) else False
    |_,_=>False)
   |none,.box b off,.int _ n=>(match tt ti.el,litN n with
    |some ei,some k=>bif ti.agg&&nlt k (ti.ar-1)&&nlt 0 (lenL ei.cks)&&nle off slcM&&nle (off+k*lenL ei.cks) slcM then K (.box b (off+k*lenL ei.cks)) else False
    |_,_=>False)
   |none,.pptr cs off,.int _ n=>(match tt ti.el,litN n with
    |some ei,some k=>bif ti.agg&&nlt k (ti.ar-1)&&nlt 0 (lenL ei.cks) then (bif nb off slcM then False else bif nb (off+k*lenL ei.cks) slcM then False else K (.pptr cs (off+k*lenL ei.cks))) else False
    |_,_=>False)
   |_,_,_=>False
 | .build t ps=>match tt t with
  |none=>False
  |some ti=>match ti.agg&&nb ti.ar 0 with
   |true=>(match fillAll s tt ti.fs ps.toList (ti.cks.map zeroPV) with|some cs=>K (.agg cs)|none=>False)
   |false=>match ti.agg with
    |true=>(match tt ti.el with
     |some ei=>match fillAll s tt (arrFs ti.el (lenL ei.cks) 0 (ti.ar-1)) ps.toList (ti.cks.map zeroPV) with
      |some cs=>K (.agg cs)
      |none=>False
     |none=>False)
    |false=>False
 | .index t x i=>match tt t with
  |none=>False
  |some ti=>match ev s x,ev s i with
   | .str b,.int _ n=>bif isStr ti then A.idx n (A.slen b)∧K (.int .u8 (A.sget b n)) else False
   | .agg cs,.int _ n=>bif ti.agg&&nlt 0 ti.ar&&nb (lenL cs) (ti.ar-1) then (match tt ti.el with
    |some ei=>match ei.agg,ei.cks with
     |false,[.int k]=>match intsOf k cs with
      |some ns=>A.idx n (ti.ar-1:Nat)∧K (.int k (A.sel ns n))
      |none=>False
     |false,[_]=>match litN n with
      |some k=>bif nlt k (ti.ar-1) then K (getP cs k) else False
      |none=>False
     |_,_=>False
    |none=>False) else False
   |_,_=>False
 | .extract x i=>match ev s x with
  | .tup vs=>bif nlt i (lenL vs) then K (getP vs i) else False
  |_=>False
 | .slice t x lo hi mx=>match asLst ob (ev s x) with
  | .pptr cs off=>(match mx,tt t with
   |none,some ti=>(match tt ti.el with
    |some ei=>bif ti.agg&&nb (lenL ei.cks) 1&&nlt 0 ti.ar&&nb off 0&&nb (lenL cs) (ti.ar-1)&&noLo lo then (match litHi s hi with
     |some h=>bif nle h (lenL cs)&&cksFits ei.cks (takeL h cs) then K (.lst ti.el (A.lit (mapD1 (takeL h cs)))) else False
     |none=>False) else False
    |none=>False)
   |_,_=>False)
  | .str b=>match mx,tt t with
   |none,some ti=>bif isStr ti then optI s lo 0 fun l=>optI s hi (A.slen b) fun h=>A.bnd h (A.slen b)∧A.bnd l h∧K (.str (A.ssub b l h)) else False
   |_,_=>False
  | .lst e d=>match tt t with
   |some ti=>match sliceEl ti with
    |some e0=>bif nb e0 e then (match tt e with
     |some _=>match mx with
      |none=>optI s lo 0 fun l=>optI s hi (A.len d) fun h=>A.bnd h (A.len d)∧A.bnd l h∧K (.lst e (A.part d l h))
      |some m=>optI s lo 0 fun l=>match hi with
       |none=>False
       |some _=>optI s hi 0 fun h=>optI s (some m) 0 fun m=>A.bnd m (A.len d)∧A.bnd h m∧A.bnd l h∧((A.same m h∧(True→K (.lsf e (A.part d l h))))∨(True→K (.lst e (A.part d l h))))
     |none=>False) else False
    |none=>False
   |none=>False
  |_=>False
 | .call { callee:=.builtin .len,args:=as,argTypes:=ts }=>match as.toList,ts.toList with
  |[x],[t]=>match tt t with
   |none=>False
   |some ti=>match sliceEl ti,evT tt s t x with
    |some _,.lst _ d=>K (.int .i64 (A.len d))
    |some _,.row e r=>(match getO ob r with
     | .row e' d _=>bif nb e e' then K (.int .i64 (A.len d)) else False
     |_=>False)
    |some _,.rptr e r i off=>(match getO ob r with
     | .row e' d _=>bif nb e e'&&nb off slcM then K (.int .i64 (A.sub (A.len d) i)) else False
     |_=>False)
    |some _,.pptr cs off=>bif nb off slcM then K (.int .i64 (Int.ofNat (lenL cs))) else False
    |some _,.box _ off=>bif nlt slcM off then K (.int .i64 (Int.ofNat (off-(slcM+1)))) else False
    |none,.str b=>bif isStr ti then K (.int .i64 (A.slen b)) else False
    |none,.mp m=>bif isMap ti then (match getO ob m with
     | .map _ _ d=>K (.int .i64 (A.len d))
     |_=>False) else False
    |_,_=>False
  |_,_=>False
 | .call { callee:=.builtin .max,args:=as,.. }=>match as.toList with
  |[x,y]=>match ev s x,ev s y with
   | .int k a,.int _ b=>K (.int k (A.max a b))
   |_,_=>False
  |_=>False
 | .call { callee:=.builtin .min,args:=as,.. }=>match as.toList with
  |[x,y]=>match ev s x,ev s y with
   | .int k a,.int _ b=>K (.int k (A.min a b))
   |_,_=>False
  |_=>False
 |_=>False
end
end Go.VC
end

section
namespace Go.VC
open Go
section
variable {P:Program} {tt:TypeId→Option TI} {E:List RI} {Pp:Per} {objs:List Ob} {w:World} {W:World→Prop}
theorem ofVal_ok (v:Value):VR tt E Pp v (ofVal v):=by
 unfold ofVal
 split<;>first|exact .int _ _|exact .bl _|exact .str _|exact .nilp|exact .nilm|exact .nilf|exact .undef _
theorem norm_ok {v:Value} {p:PV} (h:VR tt E Pp v p):VR tt E Pp v (norm p):=by
 cases h with
 |lsf e a n d hr=>exact .lst _ _ _ hr
 |_=>first|exact .undef _|(simp only [norm];constructor<;>assumption)
theorem ev_ok {a:Act} {s:Slots} (hs:∀ t,VR tt E Pp (a.tmps.getD t undef) (look s t)) (x:Operand):VR tt E Pp (a.eval x) (ev s x):=by
 cases x with
 |tmp t=>exact norm_ok (hs t)
 |const v=>exact ofVal_ok v
 |global g=>exact .undef _
 |func f=>
  simp only [ev]
  cases hb:nlt f bndM with
  |false=>exact .undef _
  |true=>exact .clos _ f [] [] (closV.mk hb) .nil
theorem cellC_ok (c:CK) (v:Value):VR tt E Pp v (cellC c v):=by
 unfold cellC
 split
 ·split
  ·exact .lst _ _ _ (.slnil _)
  ·exact .undef _
 ·exact ev_ok (a:=⟨#[],[]⟩) (s:=[]) (fun _=>.undef _) (.const v)
theorem cellsC_ok:∀ (cs:List CK) (vs:List Value) (l:List PV),cellsC cs vs=some l→VRL tt E Pp vs l
 |[],[],l,h=>by simp [cellsC] at h;subst h;exact .nil
 |c::cs,v::vs,l,h=>by
  rw [cellsC] at h
  split at h
  ·rename_i l' hl
   simp at h;subst h
   exact .cons _ _ _ _ (cellC_ok c v) (cellsC_ok cs vs l' hl)
  ·cases h
 |[],_::_,_,h=>by simp [cellsC] at h
 |_::_,[],_,h=>by simp [cellsC] at h
theorem evT_ok {a:Act} {s:Slots} (hs:∀ t,VR tt E Pp (a.tmps.getD t undef) (look s t)) (t:TypeId) (x:Operand):VR tt E Pp (a.eval x) (evT tt s t x):=by
 unfold evT
 split
 ·split
  ·exact .lst _ _ _ (.slnil _)
  ·exact .undef _
 ·rename_i vs
  split
  ·split
   ·rename_i l hl
    show VR tt E Pp (.agg vs) _
    have:vs=⟨vs.toList⟩:=rfl
    rw [this]
    exact .agg _ _ (cellsC_ok _ _ _ hl)
   ·exact .undef _
  ·exact .undef _
 ·exact ev_ok hs _
theorem evM_ok {a:Act} {s:Slots} (hs:∀ t,VR tt E Pp (a.tmps.getD t undef) (look s t)) (t:TypeId) (x:Operand):VR tt E Pp (a.eval x) (evM tt s t x):=by
 unfold evM
 split
 ·split
  ·exact .lsf _ _ _ _ (.slnil _)
  ·exact .undef _
 ·exact hs _
 ·exact ev_ok hs _
theorem evs_ok {a:Act} {s:Slots} (hs:∀ t,VR tt E Pp (a.tmps.getD t undef) (look s t)) (l:List Operand):VRL tt E Pp (l.map a.eval) (l.map (ev s)):=by
 induction l with
 |nil=>exact .nil
 |cons x l ih=>exact .cons _ _ _ _ (ev_ok hs x) ih
theorem TiOk.run {t:TypeId} {ti:TI} (h:TiOk P t ti) (w:World):
 (isAgg t).run P w= .ok ti.agg w∧(sizeOf t).run P w= .ok ti.cks.length w∧(∃ z,(zeroValue t).run P w= .ok z w∧z.cells.toList=ti.cks.map zeroV)∧
 (∃ i,(typeInfo t).run P w= .ok i w∧i.bytes=ti.bytes):=by
 obtain ⟨i,z,d,hi,hs,hb,hz,hzc,_,hd,hm⟩:=h.info
 refine ⟨?_,?_,⟨z,?_,hzc⟩,⟨i,by simp [typeInfo,hi],hb⟩⟩
 ·simp only [isAgg,Sem.run_bind,run_underlying hd,Result.andThen_ok]
  cases d<;>simp_all
 ·simp [sizeOf,typeInfo,hi,hs]
 ·simp [zeroValue,typeInfo,hi,hz]
theorem TiOk.single {t:TypeId} {ti:TI} (h:TiOk P t ti) (ha:ti.agg=false):∃ c,ti.cks=[c]:=by
 obtain ⟨i,z,d,hi,hs,hb,hz,hzc,_,hd,hm⟩:=h.info
 cases d<;>simp_all
theorem TiOk.slice {t e:TypeId} {ti:TI} (h:TiOk P t ti) (hs:sliceEl ti=some e):P.underlying t=some (.slice e)∧ti.el=e∧ti.cks=[.slice e]:=by
 obtain ⟨i,z,d,hi,_,hb,hz,hzc,_,hd,hm⟩:=h.info
 unfold sliceEl at hs
 split at hs
 ·rename_i e' ha hc
  simp at hs;subst hs
  cases d<;>simp_all
 ·simp at hs
theorem TiOk.str {t:TypeId} {ti:TI} (h:TiOk P t ti) (hs:isStr ti=true):P.underlying t=some .string:=by
 obtain ⟨i,z,d,hi,_,hb,hz,hzc,_,hd,hm⟩:=h.info
 unfold isStr at hs
 split at hs
 ·rename_i ha hc
  cases d<;>simp_all
 ·simp at hs
theorem TiOk.int {t:TypeId} {ti:TI} {k:IntKind} (h:TiOk P t ti) (hs:intOfTi ti=some k):P.underlying t=some (.int k):=by
 obtain ⟨i,z,d,hi,_,hb,hz,hzc,_,hd,hm⟩:=h.info
 unfold intOfTi at hs
 split at hs
 ·rename_i k' ha hc
  simp at hs;subst hs
  cases d<;>simp_all
 ·simp at hs
theorem TiOk.map {t:TypeId} {ti:TI} (h:TiOk P t ti) (hs:isMap ti=true):∃ k e,P.underlying t=some (.map k e)∧ti.cks=[.map t e]∧ti.el=e∧ti.ar=k+1:=by
 obtain ⟨i,z,d,hi,_,hb,hz,hzc,_,hd,hm⟩:=h.info
 unfold isMap at hs
 split at hs
 ·rename_i t' ha hc
  cases d with
  |map k e=>exact ⟨k,e,by simp_all,by simp_all,by simp_all,by simp_all⟩
  |_=>simp_all
 ·simp at hs
theorem TiOk.field {t:TypeId} {ti:TI} (h:TiOk P t ti) {f off:Nat} {ft:TypeId} (hf:getF ti.fs f=some (off,ft)):
 ∃ fields fl,P.underlying t=some (.struct fields)∧fields[f]? =some fl∧fl.offset=off∧fl.type=ft∧ti.agg=true:=by
 obtain ⟨i,z,d,hi,_,hb,hz,hzc,_,hd,hm⟩:=h.info
 rw [getF_eq] at hf
 cases d with
 |struct fields=>
  obtain ⟨ha,hfs,_⟩:=hm
  have:=hfs f
  rw [hf] at this
  cases hx:fields[f]? with
  |none=>rw [hx] at this;simp at this
  |some fl=>rw [hx] at this;simp at this;exact ⟨fields,fl,hd,hx,this.1,this.2,ha⟩
 |_=>simp_all
def valOf (ti:TI) (vs:List Value):Value:=if ti.agg then .agg ⟨vs⟩ else vs.headD undef
theorem valOf_ok {t:TypeId} {ti:TI} (h:TiOk P t ti) {vs:List Value} {ps:List PV} (hl:ps.length=ti.cks.length) (hv:VRL tt E Pp vs ps):VR tt E Pp (valOf ti vs) (aggOf ti ps):=by
 unfold valOf aggOf
 cases ha:ti.agg with
 |true=>simpa using .agg _ _ hv
 |false=>
  obtain ⟨c,hc⟩:=h.single ha
  rw [hc] at hl
  cases hv with
  |nil=>simp at hl
  |cons v p vs ps hv ht=>
   cases ht with
   |nil=>simpa using hv
   |cons _ _ _ _ _ _=>simp at hl
theorem add_none (b o n:Nat):Addr.add ⟨b,o,none⟩ n=⟨b,o+n,none⟩:=Addr.add_lit b o n
theorem loadVar_ok {t:TypeId} {ti:TI} (h:TiOk P t ti) {b o:Nat} {vs:List Value} (hl:vs.length=ti.cks.length)
 (hc:∀ (j:Nat) v,vs[j]? =some v→w.cell? ⟨b,o+j,none⟩=some v):(loadVar t ⟨b,o,none⟩).run P w= .ok (valOf ti vs) w:=by
 obtain ⟨h1,h2,_,_⟩:=h.run w
 unfold loadVar valOf
 simp only [Sem.run_bind,h1,Result.andThen_ok]
 cases ha:ti.agg with
 |true=>
  simp only [if_true,Sem.run_bind,h2,Result.andThen_ok]
  rw [← hl,run_loadCells_list w ⟨b,o,none⟩ vs (fun j v hv=>by rw [add_none];exact hc j v hv)]
  simp
 |false=>
  obtain ⟨c,hcc⟩:=h.single ha
  rw [hcc] at hl
  match vs,hl with
  |[v],_=>simp [show w.cell? ⟨b,o,none⟩=some v from by simpa using hc 0 v rfl]
theorem cellPV_ok {c:CK} {v:Value} {d:D} (h:RD tt Pp c v d):VR tt E Pp v (cellPV std c d):=by
 cases h with
 |int=>exact .int _ _
 |bool=>exact .bool _
 |str=>exact .str _
 |slnil=>exact .lst _ _ _ (.slnil _)
 |sl0 _ ad=>exact .lst _ _ _ (.sl0 _ ad)
 |sl e b o len cap rows vf hl hc hrow hpi hrd=>exact .lst _ _ _ (.sl e b o len cap rows vf hl hc hrow hpi hrd)
 |pnil t=>exact .dptr _ _ _ (.pnil t)
 |mnil t e=>exact .dmp _ _ _ _ (.mnil t e)
 |mdat t e b es clock rows hl hpi hk hnd hlt hrd=>exact .dmp _ _ _ _ (.mdat t e b es clock rows hl hpi hk hnd hlt hrd)
 |fnil=>exact .undef _
 |junk=>exact .undef _
 |ptr t b o cs vf hl hpi hrd=>exact .dptr _ _ _ (.ptr t b o cs vf hl hpi hrd)
theorem kcellPV_ok {c:CK} {v:Value} {d:D} (h:KD tt Pp c v d):VR tt E Pp v (kcellPV std c d):=by
 rcases h with ⟨hn,h⟩|⟨rfl,a,b,rfl,rfl⟩
 ·cases c<;>first|exact cellPV_ok h|exact absurd rfl hn
 ·exact .agg _ _ (.cons _ _ _ _ (.str _) (.cons _ _ _ _ (.str _) .nil))
theorem gcells_ok {g:Nat→D}:∀ {off:Nat} {cs:List CK} {vs:List Value},vs.length=cs.length→
 (∀ (j:Nat) c v,cs[j]? =some c→vs[j]? =some v→RD tt Pp c v (g (off+j)))→VRL tt E Pp vs (gcells std g off cs)
 |_,[],[],_,_=>.nil
 |off,c::cs,v::vs,hl,h=>.cons _ _ _ _ (cellPV_ok (by simpa using h 0 c v rfl rfl))
  (gcells_ok (by simpa using hl) (fun j c v hc hv=>by have:=h (j+1) c v (by simpa using hc) (by simpa using hv);rwa [show off+(j+1)=off+1+j by omega] at this))
 |_,[],_::_,hl,_=>by simp at hl
 |_,_::_,[],hl,_=>by simp at hl
theorem gcells_length (A:Alg) (g:Nat→D):∀ (off:Nat) (cs:List CK),(gcells A g off cs).length=cs.length
 |_,[]=>rfl
 |off,c::cs=>by simp [gcells,gcells_length A g (off+1) cs]
theorem ckEq_eq:∀ {a b:List CK},ckEq a b=true→a=b
 |[],[],_=>rfl
 |a::x,b::y,h=>by simp [ckEq] at h;rw [h.1,ckEq_eq h.2]
 |[],_::_,h=>by simp [ckEq] at h
 |_::_,[],h=>by simp [ckEq] at h
theorem takeC_eq (n:Nat) (l:List CK):takeC n l=l.take n:=by
 induction n generalizing l with
 |zero=>simp [takeC]
 |succ n ih=>cases l<;>simp [takeC,ih]
theorem dropC_eq (n:Nat) (l:List CK):dropC n l=l.drop n:=by
 induction n generalizing l with
 |zero=>simp [dropC]
 |succ n ih=>cases l<;>simp [dropC,ih]
theorem kindsAt_ok {e:TypeId} {off:Nat} {cs:List CK} (h:kindsAt tt e off cs=true) (j:Nat) (c:CK) (hc:cs[j]? =some c):(cksOf tt e)[off+j]? =some c:=by
 unfold kindsAt at h
 have:=ckEq_eq h
 rw [takeC_eq,dropC_eq,lenL_eq] at this
 rw [← this] at hc
 have hlt:j<cs.length:=by
  rcases Nat.lt_or_ge j cs.length with h'|h'
  ·exact h'
  ·rw [List.getElem?_eq_none (by simp;omega)] at hc;simp at hc
 rw [List.getElem?_take_of_lt hlt,List.getElem?_drop] at hc
 exact hc
structure RW (tt:TypeId→Option TI) (E:List RI) (Pp:Per) (objs:List Ob) (W:World→Prop):Prop where
 pi:∀ w,W w→∀ ad v,Pp ad v→pc w ad=some v
 box:∀ (i:Nat) cs b,objs[i]? =some (.box cs)→E[i]? =some (.box b)→∃ vs,VRL tt E Pp vs cs∧∀ w,W w→∀ (j:Nat) v,vs[j]? =some v→w.cell? ⟨b,j,none⟩=some v
 row0:∀ (i:Nat) e d wr,objs[i]? =some (.row e d wr)→E[i]? =some .row0→d= .list []
 row:∀ (i:Nat) e d wr g o len cap,objs[i]? =some (.row e d wr)→E[i]? =some (.row g o len cap)→∃ vs rows,d= .list rows∧rows.length=len∧RowAt tt Pp e vs o rows∧
  ∀ w,W w→∀ (j:Nat) v,vs[j]? =some v→o≤j→j<o+len*(cksOf tt e).length→w.cell? ⟨g,j,none⟩=some v
 frz:∀ (i:Nat) e d g o len cap,objs[i]? =some (.row e d false)→E[i]? =some (.row g o len cap)→RD tt Pp (.slice e) (.slice (some ⟨g,o,none⟩) len cap) d
 map:∀ (i:Nat) kc e d b bs cl,objs[i]? =some (.map kc e d)→E[i]? =some (.map b bs cl)→∀ w,W w→∃ es clock rows,w.heap[b]? =some (.map es clock)∧d= .list rows∧es.size=rows.length
theorem RW.piN (hw:RW tt E Pp objs W) {w:World} (hW:W w) {b o:Nat} {v:Value} (h:Pp ⟨b,o,none⟩ v):w.cell? ⟨b,o,none⟩=some v:=by
 rw [← pc_none];exact hw.pi w hW _ _ h
theorem cell_of_block {b:Nat} {vs:List Value} {T:TypeId} {fr:Nat×Nat} (h:w.heap[b]? =some (.cells ⟨vs⟩ T fr)) (o:Nat):w.cell? ⟨b,o,none⟩=vs[o]? :=by
 simp [World.cell?,h]
theorem elem_ok {e b o len cap:Nat} {d:D} (hw:RW tt E Pp objs W) (hr:RD tt Pp (.slice e) (.slice (some ⟨b,o,none⟩) len cap) d) {i:Int} (h0:0≤i) (h1:i<len)
 {off:Nat} {cs:List CK} (hk:kindsAt tt e off cs=true):
 ∃ vs:List Value,vs.length=cs.length∧(∀ w,W w→∀ (j:Nat) v,vs[j]? =some v→w.cell? ⟨b,o+i.toNat*(cksOf tt e).length+off+j,none⟩=some v)∧VRL tt E Pp vs (cellsPV std d i off cs):=by
 cases hr with
 |sl0 _ ad=>exact absurd h1 (by omega)
 |sl _ _ _ _ _ rows vf hl hc hrow hpi hrd=>
  refine ⟨(List.range cs.length).map (fun j=>vf i.toNat (off+j)),by simp,?_,?_⟩
  ·intro w hW j v hv
   simp at hv
   obtain ⟨_,hj,rfl⟩:∃ x,cs.length>j∧vf i.toNat (off+j)=v:=by
    rcases Nat.lt_or_ge j cs.length with h'|h'
    ·rw [List.getElem?_eq_getElem (by simpa using h')] at hv;simp at hv;exact ⟨0,h',hv⟩
    ·rw [List.getElem?_eq_none (by simpa using h')] at hv;simp at hv
   have hck:=kindsAt_ok hk j cs[j] (List.getElem?_eq_getElem hj)
   have hlt:off+j<(cksOf tt e).length:=by
    rcases Nat.lt_or_ge (off+j) (cksOf tt e).length with h'|h'
    ·exact h'
    ·rw [List.getElem?_eq_none h'] at hck;simp at hck
   have:=hw.piN hW (hpi i.toNat (off+j) (by omega) hlt)
   rw [← this,Nat.add_assoc]
  ·refine gcells_ok (by simp) ?_
   intro j c v hc hv
   have hj:j<cs.length:=by
    rcases Nat.lt_or_ge j cs.length with h'|h'
    ·exact h'
    ·rw [List.getElem?_eq_none h'] at hc;simp at hc
   simp [hj] at hv
   subst hv
   have hck:=kindsAt_ok hk j c hc
   have hlt:off+j<(cksOf tt e).length:=by
    rcases Nat.lt_or_ge (off+j) (cksOf tt e).length with h'|h'
    ·exact h'
    ·rw [List.getElem?_eq_none h'] at hck;simp at hck
   have hi:i.toNat<rows.length:=by omega
   have hri:rows[i.toNat]? =some rows[i.toNat]:=List.getElem?_eq_getElem hi
   have hrl:=hrow _ _ hri
   have hdj:(rows[i.toNat])[off+j]? =some ((rows[i.toNat])[off+j]'(by omega)):=List.getElem?_eq_getElem (by omega)
   have:=hrd _ _ _ _ _ hri hdj hck
   simpa [std,rowsD,List.getD,hri,hdj] using this
theorem pcells_ok {t b o:Nat} {d:D} (hw:RW tt E Pp objs W) (hr:RD tt Pp (.ptr t) (.pointer (some ⟨b,o,none⟩)) d)
 {off:Nat} {cs:List CK} (hk:kindsAt tt t off cs=true):
 ∃ vs:List Value,vs.length=cs.length∧(∀ w,W w→∀ (j:Nat) v,vs[j]? =some v→w.cell? ⟨b,o+off+j,none⟩=some v)∧VRL tt E Pp vs (pcellsPV std d off cs):=by
 cases hr with
 |ptr _ _ _ ds vf hl hpi hrd=>
  have hlt:∀ j,j<cs.length→off+j<(cksOf tt t).length:=by
   intro j hj
   have hck:=kindsAt_ok hk j cs[j] (List.getElem?_eq_getElem hj)
   rcases Nat.lt_or_ge (off+j) (cksOf tt t).length with h'|h'
   ·exact h'
   ·rw [List.getElem?_eq_none h'] at hck;simp at hck
  refine ⟨(List.range cs.length).map (fun j=>vf (off+j)),by simp,?_,?_⟩
  ·intro w hW j v hv
   rcases Nat.lt_or_ge j cs.length with hj|h'
   ·simp [hj] at hv
    subst hv
    have:=hw.piN hW (hpi (off+j) (hlt j hj))
    rw [← this,Nat.add_assoc]
   ·rw [List.getElem?_eq_none (by simpa using h')] at hv;simp at hv
  ·refine gcells_ok (by simp) ?_
   intro j c v hc hv
   have hj:j<cs.length:=by
    rcases Nat.lt_or_ge j cs.length with h'|h'
    ·exact h'
    ·rw [List.getElem?_eq_none h'] at hc;simp at hc
   simp [hj] at hv
   subst hv
   have hck:=kindsAt_ok hk j c hc
   have:=hlt j hj
   have hdj:ds[off+j]? =some (ds[off+j]'(by omega)):=List.getElem?_eq_getElem (by omega)
   have:=hrd _ _ _ hdj hck
   simpa [std,ptrD,List.getD,hdj] using this
theorem relem_ok {e r g o len cap:Nat} {d:D} {wr:Bool} (hw:RW tt E Pp objs W) (ho:objs[r]? =some (.row e d wr)) (hE:E[r]? =some (.row g o len cap)) {i:Int} (h0:0≤i) (h1:i<len)
 {off:Nat} {cs:List CK} (hk:kindsAt tt e off cs=true):
 ∃ vs:List Value,vs.length=cs.length∧(∀ w,W w→∀ (j:Nat) v,vs[j]? =some v→w.cell? ⟨g,o+i.toNat*(cksOf tt e).length+off+j,none⟩=some v)∧VRL tt E Pp vs (cellsPV std d i off cs):=by
 obtain ⟨vals,rows,rfl,hl,hrow,hread⟩:=hw.row r _ _ _ _ _ _ _ ho hE
 have hlt:∀ j,j<cs.length→off+j<(cksOf tt e).length:=by
  intro j hj
  have hck:=kindsAt_ok hk j cs[j] (List.getElem?_eq_getElem hj)
  rcases Nat.lt_or_ge (off+j) (cksOf tt e).length with h'|h'
  ·exact h'
  ·rw [List.getElem?_eq_none h'] at hck;simp at hck
 have hi:i.toNat<rows.length:=by omega
 have hri:rows[i.toNat]? =some rows[i.toNat]:=List.getElem?_eq_getElem hi
 obtain ⟨hrl,hcells⟩:=hrow _ _ hri
 refine ⟨(List.range cs.length).map (fun j=>vals.getD (o+i.toNat*(cksOf tt e).length+(off+j)) undef),by simp,?_,?_⟩
 ·intro w hW j v hv
  rcases Nat.lt_or_ge j cs.length with hj|h'
  ·simp [hj] at hv
   subst hv
   have hck:=kindsAt_ok hk j cs[j] (List.getElem?_eq_getElem hj)
   have:=hlt j hj
   obtain ⟨v,hv,_⟩:=hcells (off+j) _ _ (List.getElem?_eq_getElem (by omega)) hck
   have hv0:=hread w hW _ _ hv (by omega) (by
    have:(i.toNat+1)*(cksOf tt e).length≤len*(cksOf tt e).length:=Nat.mul_le_mul_right _ (by omega)
    rw [Nat.add_mul] at this;omega)
   rw [Nat.add_assoc _ off j,hv0,hv];simp
  ·rw [List.getElem?_eq_none (by simpa using h')] at hv;simp at hv
 ·refine gcells_ok (by simp) ?_
  intro j c v hc hv
  have hj:j<cs.length:=by
   rcases Nat.lt_or_ge j cs.length with h'|h'
   ·exact h'
   ·rw [List.getElem?_eq_none h'] at hc;simp at hc
  simp [hj] at hv
  have hck:=kindsAt_ok hk j c hc
  have:=hlt j hj
  have hdj:(rows[i.toNat])[off+j]? =some ((rows[i.toNat])[off+j]'(by omega)):=List.getElem?_eq_getElem (by omega)
  obtain ⟨v',hv',hrd⟩:=hcells (off+j) _ _ hdj hck
  rw [hv'] at hv;simp at hv;subst hv
  simpa [std,rowsD,List.getD,hri,hdj] using hrd
end
end Go.VC
end

section
namespace Go.VC
open Go
section
variable {P:Program} {tt:TypeId→Option TI} {E:List RI} {Pp:Per} {objs:List Ob} {w:World} {W:World→Prop}
def Gives (P:Program) (tt:TypeId→Option TI) (E:List RI) (Pp:Per) (W:World→Prop) (x:Sem Next) (K:PV→Prop):Prop:=
 ∃ v pv,(∀ w,W w→x.run P w= .ok (.value v) w)∧VR tt E Pp v pv∧K pv
def Gives' (P:Program) (tt:TypeId→Option TI) (E:List RI) (Pp:Per) (W:World→Prop) (x:Sem Value) (K:PV→Prop):Prop:=
 ∃ v pv,(∀ w,W w→x.run P w= .ok v w)∧VR tt E Pp v pv∧K pv
theorem Gives'.lift {x:Sem Value} {K:PV→Prop} (h:Gives' P tt E Pp W x K):Gives P tt E Pp W (do pure (.value (← x))) K:=by
 obtain ⟨v,pv,h1,h2,h3⟩:=h
 exact ⟨v,pv,fun w hW=>by simp [h1 w hW],h2,h3⟩
theorem wrap_in {k:IntKind} {n:Int} (h:k.min≤n∧n≤k.max):k.wrap n=n:=by
 obtain ⟨h1,h2⟩:=h
 cases k<;>simp [IntKind.wrap,IntKind.min,IntKind.max,IntKind.signed,IntKind.bits] at* <;>omega
theorem binI_ok {op:BinOp} {t:TypeId} {x y:Operand} {k:IntKind} {a b:Int} {K:PV→Prop} (h:binI std op k a b K):
 Gives' P tt E Pp W (do eqGuard op t x y (.int k a) (.int k b);binOp op t (.int k a) (.int k b)) K:=by
 cases op<;>simp only [binI] at h
 case add=>
  rcases h with ⟨hr,h⟩|h
  ·exact ⟨.int k (a+b),_,by intro w _;simp [eqGuard_at_int,binOp_add,Op.intArith,wrap_in hr],.int _ _,h trivial⟩
  ·exact ⟨.int k (k.wrap (a+b)),_,by intro w _;simp [eqGuard_at_int,binOp_add,Op.intArith],.int _ _,h trivial⟩
 case sub=>
  rcases h with ⟨hr,h⟩|h
  ·exact ⟨.int k (a-b),_,by intro w _;simp [eqGuard_at_int,binOp_sub,Op.intArith,wrap_in hr],.int _ _,h trivial⟩
  ·exact ⟨.int k (k.wrap (a-b)),_,by intro w _;simp [eqGuard_at_int,binOp_sub,Op.intArith],.int _ _,h trivial⟩
 case mul=>
  rcases h with ⟨hr,h⟩|h
  ·exact ⟨.int k (a*b),_,by intro w _;simp [eqGuard_at_int,binOp_mul,Op.intArith,wrap_in hr],.int _ _,h trivial⟩
  ·exact ⟨.int k (k.wrap (a*b)),_,by intro w _;simp [eqGuard_at_int,binOp_mul,Op.intArith],.int _ _,h trivial⟩
 case quo=>
  obtain ⟨h0,hr,h⟩:=h
  exact ⟨.int k (a.tdiv b),_,by intro w _;simp [eqGuard_at_int,binOp_quo,Op.intDiv,h0,wrap_in hr],.int _ _,h⟩
 case rem=>
  obtain ⟨h0,h⟩:=h
  exact ⟨.int k (a.tmod b),_,by intro w _;simp [eqGuard_at_int,binOp_rem,Op.intDiv,h0],.int _ _,h⟩
 case eql=>exact ⟨.bool (a==b),_,by intro w _;simp only [eqGuard_at_int,binOp_eql,Sem.run_bind,Sem.run_pure,Result.andThen_ok],.bool _,h⟩
 case neq=>exact ⟨.bool (!(a==b)),_,by intro w _;simp only [eqGuard_at_int,binOp_neq,Sem.run_bind,Sem.run_pure,Result.andThen_ok,bne],.bool _,h⟩
 case lss=>exact ⟨.bool (a<b),_,by intro w _;simp only [eqGuard_at_int,binOp_lss,Sem.run_bind,Sem.run_pure,Result.andThen_ok],.bool _,h⟩
 case leq=>exact ⟨.bool (a≤b),_,by intro w _;simp only [eqGuard_at_int,binOp_leq,Sem.run_bind,Sem.run_pure,Result.andThen_ok],.bool _,h⟩
 case gtr=>exact ⟨.bool (a>b),_,by intro w _;simp only [eqGuard_at_int,binOp_gtr,Sem.run_bind,Sem.run_pure,Result.andThen_ok],.bool _,h⟩
 case geq=>exact ⟨.bool (a≥b),_,by intro w _;simp only [eqGuard_at_int,binOp_geq,Sem.run_bind,Sem.run_pure,Result.andThen_ok],.bool _,h⟩
theorem bytesLess_total:∀ (a b:List UInt8),(Op.bytesLess a b||(a==b))= !Op.bytesLess b a
 |[],[]=>rfl
 |[],_::_=>rfl
 |_::_,[]=>rfl
 |x::a,y::b=>by
  have ih:=bytesLess_total a b
  by_cases hxy:x=y
  ·subst hxy
   have hlt:decide (x<x)=false:=by simp
   simp only [Op.bytesLess,hlt,Bool.false_or,beq_self_eq_true,Bool.true_and]
   rw [← ih]
   congr 1
   simp [BEq.beq,List.beq]
  ·have h1:(x==y)=false:=by simpa using hxy
   have h2:(y==x)=false:=by simpa using fun h=>hxy h.symm
   have h3:((x::a)==(y::b))=false:=by simp [hxy]
   simp only [Op.bytesLess,h1,h2,h3,Bool.false_and,Bool.or_false]
   rcases UInt8.lt_or_lt_of_ne hxy with h|h
   ·have h':¬y<x:=UInt8.lt_asymm h
    simp [h,h']
   ·have h':¬x<y:=UInt8.lt_asymm h
    simp [h,h']
theorem binS_ok {op:BinOp} {t:TypeId} {x y:Operand} {a b:ByteArray} {K:PV→Prop} (h:binS std op a.data.toList b.data.toList K):
 Gives' P tt E Pp W (do eqGuard op t x y (.string a) (.string b);binOp op t (.string a) (.string b)) K:=by
 have go:∀ v pv,(∀ w,W w→(binOp op t (.string a) (.string b)).run P w= .ok v w)→VR tt E Pp v pv→K pv→
  Gives' P tt E Pp W (do eqGuard op t x y (.string a) (.string b);binOp op t (.string a) (.string b)) K:=by
  intro v pv h1 h2 h3
  exact ⟨v,pv,fun w hW=>by simp only [eqGuard_at_string,Sem.run_bind,Sem.run_pure,Result.andThen_ok,h1 w hW],h2,h3⟩
 cases op<;>simp only [binS] at h
 case eql=>exact go (.bool (a.data.toList==b.data.toList)) _ (by intro w _;simp only [binOp,Op.stringOp,ByteArray.toList_eq,Sem.run_pure]) (.bool _) h
 case neq=>exact go (.bool (!(a.data.toList==b.data.toList))) _ (by intro w _;simp only [binOp,Op.stringOp,ByteArray.toList_eq,Sem.run_pure]) (.bool _) h
 case lss=>exact go (.bool (Op.bytesLess a.data.toList b.data.toList)) _ (by intro w _;simp only [binOp,Op.stringOp,ByteArray.toList_eq,Sem.run_pure]) (.bool _) h
 case gtr=>exact go (.bool (Op.bytesLess b.data.toList a.data.toList)) _ (by intro w _;simp only [binOp,Op.stringOp,ByteArray.toList_eq,Sem.run_pure,bytesLess_total,Bool.not_not]) (.bool _) h
 case leq=>exact go (.bool (!Op.bytesLess b.data.toList a.data.toList)) _ (by intro w _;simp only [binOp,Op.stringOp,ByteArray.toList_eq,Sem.run_pure,bytesLess_total]) (.bool _) h
 case geq=>exact go (.bool (!Op.bytesLess a.data.toList b.data.toList)) _ (by intro w _;simp only [binOp,Op.stringOp,ByteArray.toList_eq,Sem.run_pure]) (.bool _) h
 case add=>
  obtain ⟨hr,h⟩:=h
  have hs:¬((a.size+b.size:Nat):Int)>IntKind.i64.max:=by
   have:=hr.2
   have e1:a.data.toList.length=a.size:=by simp
   have e2:b.data.toList.length=b.size:=by simp
   simp only [e1,e2] at this
   omega
  refine go (.string (a++b)) (.str (a++b).data.toList) ?_ (.str _) (by simpa using h)
  intro w _
  simp only [binOp,Op.stringOp]
  rw [if_neg hs]
  rfl
theorem binB_ok {op:BinOp} {K:PV→Prop} {b:Bool} {x:Sem Value} (hx:∀ v,v=(if op= .eql then b else !b)→(op= .eql∨op= .neq)→∀ w,W w→x.run P w= .ok (.bool v) w) (h:binB std op b K):Gives' P tt E Pp W x K:=by
 cases op<;>simp only [binB] at h
 case eql=>exact ⟨.bool b,_,hx _ (by simp) (by simp),.bool _,h⟩
 case neq=>exact ⟨.bool (!b),_,hx _ (by simp) (by simp),.bool _,h⟩
theorem ckScalar_ok {c:CK} {v:Value} {p:PV} (h:ckScalar c p=true) (hv:VR tt E Pp v p):isScalar c v:=by
 cases c<;>cases hv<;>simp_all [ckScalar,isScalar]
theorem cksScalar_ok:∀ {cs:List CK} {vs:List Value} {ps:List PV},cksScalar cs ps=true→VRL tt E Pp vs ps→vs.length=cs.length∧∀ (j:Nat) c u,cs[j]? =some c→vs[j]? =some u→isScalar c u
 |[],vs,[],_,hv=>by cases hv;exact ⟨rfl,fun j c u h=>by simp at h⟩
 |c::cs,vs,p::ps,h,hv=>by
  simp only [cksScalar,Bool.and_eq_true] at h
  cases hv with
  |cons v _ vs _ h1 h2=>
   obtain ⟨hl,hj⟩:=cksScalar_ok h.2 h2
   refine ⟨by simp [hl],?_⟩
   intro j c' u hc hu
   cases j with
   |zero=>simp at hc hu;subst hc hu;exact ckScalar_ok h.1 h1
   |succ j=>exact hj j c' u (by simpa using hc) (by simpa using hu)
 |[],_,_::_,h,_=>by simp [cksScalar] at h
 |_::_,_,[],h,_=>by simp [cksScalar] at h
theorem eqPV_ok {u v:Value} {p q:PV} {b:Bool} (h:eqPV std p q=some b) (hu:VR tt E Pp u p) (hv:VR tt E Pp v q):sEq u v=b:=by
 cases hu<;>cases hv<;>simp_all [eqPV,sEq]
theorem eqPVs_ok:∀ {us vs:List Value} {ps qs:List PV} {b:Bool},eqPVs std ps qs=some b→VRL tt E Pp us ps→VRL tt E Pp vs qs→sEqs us vs=b
 |us,vs,[],[],b,h,hu,hv=>by cases hu;cases hv;simpa [eqPVs,sEqs] using h
 |us,vs,p::ps,q::qs,b,h,hu,hv=>by
  cases hu with
  |cons u _ us _ hu1 hu2=>
  cases hv with
  |cons v _ vs _ hv1 hv2=>
  simp only [eqPVs] at h
  split at h
  ·rename_i c d hc hd
   have h1:=eqPV_ok hc hu1 hv1
   have h2:=eqPVs_ok hd hu2 hv2
   simp only [sEqs,h1,h2]
   simpa using h
  ·simp at h
 |_,_,[],_::_,_,h,_,_=>by simp [eqPVs] at h
 |_,_,_::_,[],_,h,_,_=>by simp [eqPVs] at h
theorem TiOk.bool {t:TypeId} {ti:TI} (h:TiOk P t ti) (hs:isBool ti=true):P.underlying t=some .bool:=by
 obtain ⟨i,z,d,hi,_,hb,hz,hzc,_,hd,hm⟩:=h.info
 unfold isBool at hs
 split at hs
 ·rename_i ha hc
  cases d<;>simp_all
 ·simp at hs
theorem TiOk.ptr {t:TypeId} {ti:TI} (h:TiOk P t ti) (hs:isPtr ti=true):∃ e,P.underlying t=some (.pointer e):=by
 obtain ⟨i,z,d,hi,_,hb,hz,hzc,_,hd,hm⟩:=h.info
 unfold isPtr at hs
 split at hs
 ·rename_i ha hc
  cases d<;>simp_all
 ·simp at hs
theorem TiOk.fn {t:TypeId} {ti:TI} (h:TiOk P t ti) (hs:isFn ti=true):∃ a b c,P.underlying t=some (.func a b c):=by
 obtain ⟨i,z,d,hi,_,hb,hz,hzc,_,hd,hm⟩:=h.info
 unfold isFn at hs
 split at hs
 ·rename_i ha hc
  cases d<;>simp_all
 ·simp at hs
theorem equalIn_fn {t:TypeId} {p q:Array TypeId} {v:Bool} (d:Nat) (h:P.underlying t=some (.func p q v)):(∀ f a c,(Op.equalIn (d+1) t (.func f a c) .nilFunc).run P w= .ok false w)∧(Op.equalIn (d+1) t .nilFunc .nilFunc).run P w= .ok true w:=
 ⟨fun f a c=>by simp [Op.equalIn,run_underlying h],by simp [Op.equalIn,run_underlying h]⟩
theorem equal_fn {t:TypeId} {p q:Array TypeId} {v:Bool} (h:P.underlying t=some (.func p q v)):(∀ f a c,(Op.equal t (.func f a c) .nilFunc).run P w= .ok false w)∧(Op.equal t .nilFunc .nilFunc).run P w= .ok true w:=
 equalIn_fn 9999 h
theorem equalIn_bool {t:TypeId} (d:Nat) (h:P.underlying t=some .bool) (a b:Bool):(Op.equalIn (d+1) t (.bool a) (.bool b)).run P w= .ok (a==b) w:=by
 simp [Op.equalIn,run_underlying h]
theorem equal_bool {t:TypeId} (h:P.underlying t=some .bool) (a b:Bool):(Op.equal t (.bool a) (.bool b)).run P w= .ok (a==b) w:=
 equalIn_bool 9999 h a b
theorem equalIn_ptr {t e:TypeId} (d:Nat) (h:P.underlying t=some (.pointer e)) (a:Option Addr):(Op.equalIn (d+1) t (.pointer a) (.pointer none)).run P w= .ok a.isNone w:=by
 cases a<;>simp [Op.equalIn,run_underlying h,samePointer]
theorem equal_ptr {t e:TypeId} (h:P.underlying t=some (.pointer e)) (a:Option Addr):(Op.equal t (.pointer a) (.pointer none)).run P w= .ok a.isNone w:=
 equalIn_ptr 9999 h a
end
end Go.VC
end

section
namespace Go.VC
open Go
section
variable {P:Program} {tt:TypeId→Option TI} {E:List RI} {Pp:Per} {objs:List Ob} {w:World} {W:World→Prop}
theorem load_box {t:TypeId} {ti:TI} (hti:TiOk P t ti) (hw:RW tt E Pp objs W) {b blk off:Nat} {cs:List PV} (hE:E[b]? =some (.box blk)) (ho:getO objs b= .box cs)
 (hlen:off+ti.cks.length≤cs.length):∃ v,(∀ w,W w→(Instr.loadAt t (.pointer (some ⟨blk,off,none⟩))).run P w= .ok v w)∧VR tt E Pp v (aggOf ti ((cs.drop off).take ti.cks.length)):=by
 rw [getO_eq] at ho
 have ho':objs[b]? =some (.box cs):=by
  cases hx:objs[b]? with
  |none=>simp [List.getD,hx] at ho
  |some o=>simp [List.getD,hx] at ho;rw [ho]
 obtain ⟨vs,hvs,hread⟩:=hw.box b _ _ ho' hE
 have hv2:=(hvs.drop off).take ti.cks.length
 have hll:=hvs.length
 have hl:((vs.drop off).take ti.cks.length).length=ti.cks.length:=by simp;omega
 refine ⟨valOf ti ((vs.drop off).take ti.cks.length),?_,valOf_ok hti (by simp;omega) hv2⟩
 intro w hW
 have:=loadVar_ok (P:=P) (w:=w) hti (b:=blk) (o:=off) hl (by
  intro j v hj
  have hjl:j<ti.cks.length:=by
   rcases Nat.lt_or_ge j ti.cks.length with h'|h'
   ·exact h'
   ·rw [List.getElem?_eq_none (by rw [hl];exact h')] at hj;simp at hj
  rw [List.getElem?_take_of_lt hjl,List.getElem?_drop] at hj
  exact hread w hW _ _ hj)
 simpa [Instr.loadAt,Instr.sureAddr] using this
theorem load_pptr {t:TypeId} {ti:TI} (hti:TiOk P t ti) (hw:RW tt E Pp objs W) {vs:List Value} {cs:List PV} {off b o:Nat} (hl:VRL tt E Pp vs cs)
 (hpi:∀ (j:Nat) v,vs[j]? =some v→Pp ⟨b,o+j,none⟩ v) (hlen:off+ti.cks.length≤cs.length):
 ∃ v,(∀ w,W w→(Instr.loadAt t (.pointer (some ⟨b,o+off,none⟩))).run P w= .ok v w)∧VR tt E Pp v (aggOf ti ((cs.drop off).take ti.cks.length)):=by
 have hv2:=(hl.drop off).take ti.cks.length
 have hll:=hl.length
 have hlv:((vs.drop off).take ti.cks.length).length=ti.cks.length:=by simp;omega
 refine ⟨valOf ti ((vs.drop off).take ti.cks.length),?_,valOf_ok hti (by simp;omega) hv2⟩
 intro w hW
 have:=loadVar_ok (P:=P) (w:=w) hti (b:=b) (o:=o+off) hlv (by
  intro j v hj
  have hjl:j<ti.cks.length:=by
   rcases Nat.lt_or_ge j ti.cks.length with h'|h'
   ·exact h'
   ·rw [List.getElem?_eq_none (by rw [hlv];exact h')] at hj;simp at hj
  rw [List.getElem?_take_of_lt hjl,List.getElem?_drop] at hj
  have:=hw.piN hW (hpi _ _ hj)
  rw [← this,Nat.add_assoc])
 simpa [Instr.loadAt,Instr.sureAddr] using this
theorem load_cells {t:TypeId} {ti:TI} (hti:TiOk P t ti) {b o:Nat} {vs:List Value} {ps:List PV} (hl:vs.length=ti.cks.length) (hp:ps.length=ti.cks.length)
 (hc:∀ w,W w→∀ (j:Nat) v,vs[j]? =some v→w.cell? ⟨b,o+j,none⟩=some v) (hv:VRL tt E Pp vs ps):
 ∃ v,(∀ w,W w→(Instr.loadAt t (.pointer (some ⟨b,o,none⟩))).run P w= .ok v w)∧VR tt E Pp v (aggOf ti ps):=by
 refine ⟨valOf ti vs,?_,valOf_ok hti hp hv⟩
 intro w hW
 simpa [Instr.loadAt,Instr.sureAddr] using loadVar_ok (P:=P) (w:=w) hti hl (hc w hW)
theorem load_ok (htt:TtOk P tt) (hw:RW tt E Pp objs W) {a:Act} {s:Slots} (hs:∀ t,VR tt E Pp (a.tmps.getD t undef) (look s t)) {t:TypeId} {x:Operand} {ty:TypeId} {K:PV→Prop}
 (h:pureOp std tt (.load t x) ty s objs K):Gives' P tt E Pp W (Instr.loadAt t (a.eval x)) K:=by
 simp only [pureOp] at h
 split at h
 ·exact h.elim
 rename_i ti hti0
 have hti:=htt _ _ hti0
 have hv:=ev_ok hs x
 simp only [lenL_eq,takeL_eq,dropL_eq] at h
 split at h
 ·rename_i b off hx
  rw [hx] at hv
  split at h
  ·rename_i cs ho
   cases hb:(nle off slcM&&nle (off+ti.cks.length) cs.length) with
   |false=>rw [hb] at h;exact h.elim
   |true=>
    rw [hb] at h
    rw [Bool.and_eq_true] at hb
    generalize a.eval x=u at hv ⊢
    cases hv with
    |box _ _ _ blk hE hu=>
     obtain rfl:=hu.get hb.1
     obtain ⟨v,h1,h2⟩:=load_box hti hw hE ho (nle_of hb.2)
     exact ⟨v,_,h1,h2,h⟩
  ·exact h.elim
 ·rename_i e d i off hx
  rw [hx] at hv
  cases hb:kindsAt tt e off ti.cks with
  |false=>rw [hb] at h;exact h.elim
  |true=>
   rw [hb] at h
   generalize a.eval x=u at hv ⊢
   cases hv with
   |eptr _ _ _ _ blk o len cap hr h0 h1=>
    obtain ⟨vs,hl,hc,hvr⟩:=elem_ok hw hr h0 h1 hb
    obtain ⟨v,h1,h2⟩:=load_cells hti hl (gcells_length _ _ _ _) hc hvr
    exact ⟨v,_,h1,h2,h⟩
 ·rename_i e r i off hx
  rw [hx] at hv
  cases hm:nb off slcM with
  |true=>rw [hm] at h;exact h.elim
  |false=>
  rw [hm] at h
  simp only [cond_false] at h
  split at h
  ·rename_i e' d wr ho
   cases hbb:(nb e e'&&kindsAt tt e off ti.cks) with
   |false=>rw [hbb] at h;exact h.elim
   |true=>
    rw [hbb] at h
    simp only [Bool.and_eq_true] at hbb
    obtain ⟨he,hb⟩:=hbb
    have he':e=e':=nb_of he
    subst he'
    generalize a.eval x=u at hv ⊢
    rw [getO_eq] at ho
    have ho':objs[r]? =some (.row e d wr):=by
     cases hx:objs[r]? with
     |none=>simp [List.getD,hx] at ho
     |some o=>simp [List.getD,hx] at ho;rw [ho]
    cases hv with
    |rptr _ _ _ _ _ g o len cap hE h0 hu=>
     obtain ⟨rfl,h1⟩:=hu.get hm
     obtain ⟨vs,hl,hc,hvr⟩:=relem_ok hw ho' hE h0 h1 hb
     obtain ⟨v,h1,h2⟩:=load_cells hti hl (gcells_length _ _ _ _) hc hvr
     exact ⟨v,_,h1,h2,h⟩
  ·exact h.elim
 ·rename_i cs off hx
  rw [hx] at hv
  cases hm:nb off slcM with
  |true=>rw [hm] at h;exact h.elim
  |false=>
  rw [hm] at h
  cases hb:nle (off+ti.cks.length) cs.length with
  |false=>simp only [hb] at h;exact h.elim
  |true=>
   simp only [hb] at h
   generalize a.eval x=u at hv ⊢
   cases hv with
   |pptr _ vs _ _ b o hu hl hpi=>
    obtain rfl:=hu.get hm
    obtain ⟨v,h1,h2⟩:=load_pptr hti hw hl hpi (nle_of hb)
    exact ⟨v,_,h1,h2,h⟩
 ·rename_i t' d off hx
  rw [hx] at hv
  cases hb:kindsAt tt t' off ti.cks with
  |false=>rw [hb] at h;exact h.elim
  |true=>
   rw [hb] at h
   generalize a.eval x=u at hv ⊢
   cases hv with
   |dpp _ _ _ b o hr=>
    obtain ⟨vs,hl,hc,hvr⟩:=pcells_ok hw hr hb
    obtain ⟨v,h1,h2⟩:=load_cells hti hl (gcells_length _ _ _ _) hc hvr
    exact ⟨v,_,h1,h2,h⟩
 ·rename_i t' d hx
  rw [hx] at hv
  cases hb:kindsAt tt t' 0 ti.cks with
  |false=>rw [hb] at h;exact h.elim
  |true=>
   rw [hb] at h
   obtain ⟨hn,h⟩:=h
   generalize a.eval x=u at hv ⊢
   cases hv with
   |dptr _ _ _ hr=>
    cases hr with
    |pnil=>simp at hn
    |ptr _ b o ds vf hl hpi hrd=>
     obtain ⟨vs,hl,hc,hvr⟩:=pcells_ok hw (.ptr _ b o ds vf hl hpi hrd) hb
     obtain ⟨v,h1,h2⟩:=load_cells hti hl (gcells_length _ _ _ _) (by simpa using hc) hvr
     exact ⟨v,_,h1,h2,h⟩
 ·exact h.elim
theorem binBool_ok (htt:TtOk P tt) {op:BinOp} {t:TypeId} {x y:Operand} {m n:Bool} {K:PV→Prop} (h:binBool std (tt t) op (m==n) K):
 Gives' P tt E Pp W (do eqGuard op t x y (.bool m) (.bool n);binOp op t (.bool m) (.bool n)) K:=by
 unfold binBool at h
 split at h
 ·rename_i ti hti
  cases hk:isBool ti with
  |false=>rw [hk] at h;exact h.elim
  |true=>
   rw [hk] at h
   have hb:=(htt _ _ hti).bool hk
   refine binB_ok ?_ h
   intro v hv ho w _
   rcases ho with rfl|rfl<;>simp [eqGuard_at_bool,binOp,equal_bool hb,hv]
 ·exact h.elim
theorem binOp_ok (htt:TtOk P tt) {a:Act} {s:Slots} (hs:∀ t,VR tt E Pp (a.tmps.getD t undef) (look s t)) {op:BinOp} {t yt:TypeId} {x y:Operand} {ty:TypeId} {K:PV→Prop}
 (h:pureOp std tt (.binOp op t x y yt) ty s objs K):Gives' P tt E Pp W (do eqGuard op t x y (a.eval x) (a.eval y);binOp op t (a.eval x) (a.eval y)) K:=by
 simp only [pureOp] at h
 have hx:=ev_ok hs x
 have hy:=ev_ok hs y
 split at h
 ·rename_i hnil
  have hyv:a.eval y= .slice none 0 0:=by
   unfold isNils at hnil
   split at hnil
   ·rfl
   ·cases hnil
  split at h
  ·rename_i e0 d ti ex hti
   rw [ex] at hx
   split at h
   ·rename_i e hel
    obtain ⟨hu,_,_⟩:=(htt _ _ hti).slice hel
    generalize a.eval x=u at*
    rw [hyv]
    cases hx with
    |lst _ _ _ hr=>
     cases hr with
     |slnil=>
      exact ⟨.bool true,_,by intro w _;simp [eqGuard,Go.Lib.run_eql_slice_nil w t _ none 0 0 0 0 hu],.bool _,h true (fun _=>by simp [std,rowsD])⟩
     |sl0 _ ad=>
      exact ⟨.bool false,_,by intro w _;simp [eqGuard,Go.Lib.run_eql_slice_nil w t _ (some ad) 0 0 0 0 hu],.bool _,h false (fun h=>by cases h)⟩
     |sl _ b o len cap rows vf hl hc hrow hpi hrd=>
      exact ⟨.bool false,_,by intro w _;simp [eqGuard,Go.Lib.run_eql_slice_nil w t _ (some ⟨b,o,none⟩) len cap 0 0 hu],.bool _,h false (fun h=>by cases h)⟩
   ·exact h.elim
  ·exact h.elim
 generalize a.eval x=u at*
 generalize a.eval y=v at*
 split at h
 ·rename_i k m k' n ex ey
  rw [ex] at hx;rw [ey] at hy
  cases hx;cases hy
  cases hk:kEq k k' with
  |false=>rw [hk] at h;exact h.elim
  |true=>
   rw [hk] at h
   have:k=k':=by simpa [kEq] using hk
   subst this
   exact binI_ok h
 ·rename_i m n ex ey
  rw [ex] at hx;rw [ey] at hy
  cases hx;cases hy
  exact binS_ok h
 ·rename_i t' d ex ey
  rw [ex] at hx;rw [ey] at hy
  cases hy
  split at h
  ·rename_i ti hti0
   cases hk:isPtr ti with
   |false=>rw [hk] at h;exact h.elim
   |true=>
    rw [hk] at h
    obtain ⟨e,he⟩:=(htt _ _ hti0).ptr hk
    cases hx with
    |dptr _ _ _ hr=>
     cases hr with
     |pnil=>
      refine binB_ok ?_ h
      intro v hv ho w _
      rcases ho with rfl|rfl<;>simp [eqGuard_at_pointer,binOp,equal_ptr he,hv]
     |ptr _ b o ds vf hl hpi hrd=>
      refine binB_ok ?_ h
      intro v hv ho w _
      rcases ho with rfl|rfl<;>simp [eqGuard_at_pointer,binOp,equal_ptr he,hv]
  ·exact h.elim
 ·rename_i cs off ex ey
  rw [ex] at hx;rw [ey] at hy
  cases hy
  cases hm:nb off slcM with
  |true=>rw [hm] at h;exact h.elim
  |false=>
  rw [hm] at h
  simp only [cond_false] at h
  split at h
  ·rename_i ti hti0
   cases hk:isPtr ti with
   |false=>rw [hk] at h;exact h.elim
   |true=>
    rw [hk] at h
    obtain ⟨e,he⟩:=(htt _ _ hti0).ptr hk
    cases hx with
    |pptr _ vs _ _ b o hu _ _=>
     obtain rfl:=hu.get hm
     cases op<;>first
      |exact h.elim
      |exact ⟨.bool false,_,by intro w _;simp [eqGuard_at_pointer,binOp,equal_ptr he],.bl _,h⟩
      |exact ⟨.bool true,_,by intro w _;simp [eqGuard_at_pointer,binOp,equal_ptr he],.bl _,h⟩
  ·exact h.elim
 ·rename_i b0 off ex ey
  rw [ex] at hx;rw [ey] at hy
  cases hy
  split at h
  ·rename_i ti hti0
   cases hk:(isPtr ti&&nle _ slcM) with
   |false=>rw [hk] at h;exact h.elim
   |true=>
    rw [hk] at h
    rw [Bool.and_eq_true] at hk
    obtain ⟨e,he⟩:=(htt _ _ hti0).ptr hk.1
    cases hx with
    |box _ _ _ blk _ hu=>
     obtain rfl:=hu.get hk.2
     cases op<;>first
      |exact h.elim
      |exact ⟨.bool false,_,by intro w _;simp [eqGuard_at_pointer,binOp,equal_ptr he],.bl _,h⟩
      |exact ⟨.bool true,_,by intro w _;simp [eqGuard_at_pointer,binOp,equal_ptr he],.bl _,h⟩
  ·exact h.elim
 ·rename_i ex ey
  rw [ex] at hx;rw [ey] at hy
  cases hy
  split at h
  ·rename_i ti hti0
   cases hk:isFn ti with
   |false=>rw [hk] at h;exact h.elim
   |true=>
    rw [hk] at h
    obtain ⟨p,q,v,he⟩:=(htt _ _ hti0).fn hk
    cases hx with
    |clos _ f' _ _ hu _=>
    obtain ⟨f,a,c,rfl⟩:=closV.fn hu
    cases op<;>first
     |exact h.elim
     |exact ⟨.bool false,_,by intro w _;simp [eqGuard_at_func,binOp,(equal_fn he).1],.bl _,h⟩
     |exact ⟨.bool true,_,by intro w _;simp [eqGuard_at_func,binOp,(equal_fn he).1],.bl _,h⟩
  ·exact h.elim
 ·rename_i ex ey
  rw [ex] at hx;rw [ey] at hy
  cases hx;cases hy
  split at h
  ·rename_i ti hti0
   cases hk:isFn ti with
   |false=>rw [hk] at h;exact h.elim
   |true=>
    rw [hk] at h
    obtain ⟨p,q,v,he⟩:=(htt _ _ hti0).fn hk
    cases op<;>first
     |exact h.elim
     |exact ⟨.bool false,_,by intro w _;simp [eqGuard_at_nilFunc,binOp,(equal_fn he).2],.bl _,h⟩
     |exact ⟨.bool true,_,by intro w _;simp [eqGuard_at_nilFunc,binOp,(equal_fn he).2],.bl _,h⟩
  ·exact h.elim
 ·rename_i ex ey
  rw [ex] at hx;rw [ey] at hy
  cases hy
  split at h
  ·rename_i ti hti0
   cases hk:isPtr ti with
   |false=>rw [hk] at h;exact h.elim
   |true=>
    rw [hk] at h
    obtain ⟨e,he⟩:=(htt _ _ hti0).ptr hk
    cases hx with
    |nilp=>
     cases op<;>first
      |exact h.elim
      |exact ⟨.bool true,_,by intro w _;simp [eqGuard_at_pointer,binOp,equal_ptr he],.bl _,h⟩
      |exact ⟨.bool false,_,by intro w _;simp [eqGuard_at_pointer,binOp,equal_ptr he],.bl _,h⟩
  ·exact h.elim
 ·rename_i us vs ex ey
  rw [ex] at hx;rw [ey] at hy
  split at h
  ·rename_i ti hti0
   cases hk:(ti.eqOk&&cksScalar ti.cks us&&cksScalar ti.cks vs) with
   |false=>rw [hk] at h;exact h.elim
   |true=>
    rw [hk] at h
    simp only [Bool.and_eq_true] at hk
    obtain ⟨⟨h1,h2⟩,h3⟩:=hk
    obtain ⟨_,hlaw,_⟩:=(htt _ _ hti0).eqs h1
    cases hx with
    |agg xs _ hxs=>
    cases hy with
    |agg ys _ hys=>
     obtain ⟨l1,s1⟩:=cksScalar_ok h2 hxs
     obtain ⟨l2,s2⟩:=cksScalar_ok h3 hys
     split at h
     ·rename_i b hb
      have hbe:=eqPVs_ok hb hxs hys
      refine binB_ok ?_ h
      intro v hv ho w _
      rw [hlaw op x y xs ys w ho l1 l2 s1 s2,hv,hbe]
     ·exact h.elim
  ·exact h.elim
 all_goals first
  |exact h.elim
  |(rename_i m n ex ey
    rw [ex] at hx;rw [ey] at hy
    cases hx;cases hy
    exact binBool_ok htt h)
theorem cells_ok {v:Value} {q:PV} (h:VR tt E Pp v q) (hq:flat q≠[]):VRL tt E Pp v.cells.toList (flat q):=by
 cases h with
 |undef=>simp [flat] at hq
 |agg vs cs hl=>exact hl
 |lst e v d hr=>cases hr<;>exact .cons _ _ _ _ (.lst _ _ _ (by constructor<;>assumption)) .nil
 |lsf e a n d hr=>exact .cons _ _ _ _ (.lsf _ _ _ _ hr) .nil
 |dptr t v d hr=>cases hr<;>exact .cons _ _ _ _ (.dptr _ _ _ (by constructor<;>assumption)) .nil
 |int=>exact .cons _ _ _ _ (.int _ _) .nil
 |bl=>exact .cons _ _ _ _ (.bl _) .nil
 |bool=>exact .cons _ _ _ _ (.bool _) .nil
 |str=>exact .cons _ _ _ _ (.str _) .nil
 |nilp=>exact .cons _ _ _ _ .nilp .nil
 |nilm=>exact .cons _ _ _ _ .nilm .nil
 |nils=>exact .cons _ _ _ _ .nils .nil
 |nilf=>exact .cons _ _ _ _ .nilf .nil
 |tup vs cs hl=>exact .cons _ _ _ _ (.tup _ _ hl) .nil
 |box _ _ off _ hE hu=>
  have:v.cells.toList=[v]:=by
   by_cases hm:off≤slcM
   ·rw [hu.1 hm];rfl
   ·rw [hu.2 (off-(slcM+1)) (by omega)];rfl
  rw [this];exact .cons _ _ _ _ (.box _ _ _ _ hE hu) .nil
 |row0 _ _ hE=>exact .cons _ _ _ _ (.row0 _ _ hE) .nil
 |row _ _ _ _ _ _ hE=>exact .cons _ _ _ _ (.row _ _ _ _ _ _ hE) .nil
 |rptr _ _ _ _ off _ _ _ _ hE h0 h1=>
  have:v.cells.toList=[v]:=by
   by_cases hm:off=slcM
   ·obtain ⟨⟨o1,e,_⟩,_⟩:=h1.2 hm;rw [e];rfl
   ·rw [(h1.1 hm).1];rfl
  rw [this];exact .cons _ _ _ _ (.rptr _ _ _ _ _ _ _ _ _ hE h0 h1) .nil
 |eptr _ _ _ _ _ _ _ _ hr h0 h1=>exact .cons _ _ _ _ (.eptr _ _ _ _ _ _ _ _ hr h0 h1) .nil
 |pptr _ _ _ off _ _ hu hl hp=>
  have:v.cells.toList=[v]:=by
   by_cases hm:off=slcM
   ·rw [hu.2 hm];rfl
   ·rw [hu.1 hm];rfl
  rw [this];exact .cons _ _ _ _ (.pptr _ _ _ _ _ _ hu hl hp) .nil
 |dpp _ _ _ _ _ hr=>exact .cons _ _ _ _ (.dpp _ _ _ _ _ hr) .nil
 |clos _ f _ _ hu hl=>
  have:v.cells.toList=[v]:=by
   rcases Nat.lt_or_ge f bndM with hb|hb
   ·rw [hu.1 hb];rfl
   ·rw [hu.2 hb];rfl
  rw [this];exact .cons _ _ _ _ (.clos _ _ _ _ hu hl) .nil
 |mp _ _ _ _ hE=>exact .cons _ _ _ _ (.mp _ _ _ _ hE) .nil
 |dmp t e v d hr=>
  rcases hr.map_inv with ⟨rfl,rfl⟩|⟨b,es,clock,rows,rfl,rfl,m⟩
  ·exact .cons _ _ _ _ (.dmp _ _ _ _ hr) .nil
  ·exact .cons _ _ _ _ (.dmp _ _ _ _ hr) .nil
 |yld _ _ hE=>exact .cons _ _ _ _ (.yld _ _ hE) .nil
 |it _ _ hE=>exact .cons _ _ _ _ (.it _ _ hE) .nil
theorem setL_nil (l:List PV) (n:Nat):setL l n []=l:=by cases l<;>cases n<;>rfl
theorem setL_length:∀ (l:List PV) (n:Nat) (ys:List PV),(setL l n ys).length=l.length
 |l,n,[]=>by rw [setL_nil]
 |[],n,y::ys=>by cases n<;>rfl
 |x::xs,0,y::ys=>by simp [setL,setL_length xs 0 ys]
 |x::xs,n+1,y::ys=>by simp [setL,setL_length xs n (y::ys)]
theorem setL_get:∀ (l:List PV) (n:Nat) (ys:List PV),n+ys.length≤l.length→∀ j:Nat,(setL l n ys)[j]? =if n≤j∧j<n+ys.length then ys[j-n]? else l[j]?
 |l,n,[],_,j=>by rw [setL_nil,if_neg (by simp<;>omega)]
 |[],n,y::ys,h,j=>by simp at h
 |x::xs,0,y::ys,h,j=>by
  simp only [setL]
  cases j with
  |zero=>simp
  |succ j=>
   have:=setL_get xs 0 ys (by simpa using h) j
   simp only [List.getElem?_cons_succ,this]
   simp
 |x::xs,n+1,y::ys,h,j=>by
  simp only [setL]
  cases j with
  |zero=>simp
  |succ j=>
   have:=setL_get xs n (y::ys) (by simp at h ⊢;omega) j
   simp only [List.getElem?_cons_succ,this]
   by_cases hc:n≤j∧j<n+(y::ys).length
   ·rw [if_pos hc,if_pos (by omega)];congr 1;omega
   ·rw [if_neg hc,if_neg (by omega)]
theorem foldl_set_get (ys:List Value):∀ (off k:Nat) (vs:Array Value) (j:Nat),off+k+ys.length≤vs.size→
 ((ys.zipIdx k).foldl (fun cs (x:Value×Nat)=>cs.setIfInBounds (off+x.2) x.1) vs)[j]? =if off+k≤j∧j<off+k+ys.length then ys[j-(off+k)]? else vs[j]? :=by
 induction ys with
 |nil=>intro off k vs j _;simp;omega
 |cons y ys ih=>
  intro off k vs j h
  simp only [List.zipIdx_cons,List.foldl_cons]
  rw [ih off (k+1) _ j (by simp at h ⊢;omega)]
  by_cases h1:off+(k+1)≤j∧j<off+(k+1)+ys.length
  ·rw [if_pos h1,if_pos (by simp;omega)]
   rw [show j-(off+k)=(j-(off+(k+1)))+1 by omega]
   simp
  ·rw [if_neg h1]
   by_cases h2:j=off+k
   ·subst h2
    rw [if_pos (by simp),Array.getElem?_setIfInBounds_self_of_lt (by simp at h;omega)]
    simp
   ·rw [if_neg (by simp;omega),Array.getElem?_setIfInBounds_ne (by omega)]
theorem foldl_set_size (ys:List Value):∀ (off k:Nat) (vs:Array Value),((ys.zipIdx k).foldl (fun cs (x:Value×Nat)=>cs.setIfInBounds (off+x.2) x.1) vs).size=vs.size:=by
 induction ys with
 |nil=>intro off k vs;simp
 |cons y ys ih=>intro off k vs;simp only [List.zipIdx_cons,List.foldl_cons];rw [ih];simp
theorem setL_ok {vs us:List Value} {acc q:List PV} (hv:VRL tt E Pp vs acc) (hu:VRL tt E Pp us q) {off:Nat} (h:off+q.length≤acc.length):
 VRL tt E Pp ((us.zipIdx).foldl (fun cs (x:Value×Nat)=>cs.setIfInBounds (off+x.2) x.1) (⟨vs⟩:Array Value)).toList (setL acc off q):=by
 have l1:=hv.length
 have l2:=hu.length
 refine VRL.of_get ?_ ?_
 ·have:=foldl_set_size us off 0 ⟨vs⟩
  simp only [setL_length]
  simp at this ⊢
  omega
 ·intro j v p hj hp
  rw [setL_get _ _ _ h] at hp
  have:=foldl_set_get us off 0 ⟨vs⟩ j (by simp;omega)
  rw [Array.getElem?_toList,this] at hj
  simp only [Nat.add_zero] at hj
  by_cases hc:off≤j∧j<off+q.length
  ·rw [if_pos hc] at hp
   rw [if_pos (by omega)] at hj
   obtain ⟨v',h1,h2⟩:=hu.get hp
   rw [hj] at h1;cases h1;exact h2
  ·rw [if_neg hc] at hp
   rw [if_neg (by omega)] at hj
   obtain ⟨v',h1,h2⟩:=hv.get hp
   simp at hj
   rw [hj] at h1;cases h1;exact h2
theorem fill_ok {a:Act} {s:Slots} (hs:∀ t,VR tt E Pp (a.tmps.getD t undef) (look s t)) (fs:List (Nat×TypeId)) (places:Nat→Option (Nat×Nat))
 (hpl:∀ (i off:Nat) ft fi,getF fs i=some (off,ft)→tt ft=some fi→places i=some (off,fi.cks.length)):
 ∀ (ps:List (Nat×Operand)) (acc:List PV) (vs:List Value) (out:List PV),VRL tt E Pp vs acc→fillAll s tt fs ps acc=some out→
  ∃ us,Instr.fill places ⟨vs⟩ (ps.map fun p=>(p.1,a.eval p.2))=some ⟨us⟩∧VRL tt E Pp us out:=by
 intro ps
 induction ps with
 |nil=>intro acc vs out hv h;simp [fillAll] at h;subst h;exact ⟨vs,rfl,hv⟩
 |cons p ps ih=>
  intro acc vs out hv h
  obtain ⟨i,x⟩:=p
  simp only [fillAll] at h
  split at h
  ·rename_i off ft hf
   split at h
   ·rename_i fi hfi
    have hx:=evT_ok hs ft x
    cases hc:(nb (lenL (flat (evT tt s ft x))) (lenL fi.cks)&&nle (off+lenL fi.cks) (lenL acc)&&nlt 0 (lenL fi.cks)) with
    |false=>rw [hc] at h;simp at h
    |true=>
     rw [hc] at h
     simp only [Bool.and_eq_true] at hc
     obtain ⟨⟨h1,h2⟩,h3⟩:=hc
     have h1:=nb_of h1
     have h2:=nle_of h2
     have h3:0+1≤lenL fi.cks:=nle_of h3
     simp only [lenL_eq] at h1 h2 h3
     have hcells:=cells_ok hx (by intro h0;rw [h0] at h1;simp at h1;omega)
     have hcl:=hcells.length
     have hvl:=hv.length
     have hset:=setL_ok hv hcells (off:=off) (by omega)
     obtain ⟨us,hu1,hu2⟩:=ih _ _ _ hset h
     refine ⟨us,?_,hu2⟩
     simp only [List.map_cons,Instr.fill,hpl _ _ _ _ hf hfi]
     have hsz:(a.eval x).cells.size=fi.cks.length:=by
      rw [← Array.length_toList];omega
     rw [if_neg (by simp [hsz];omega)]
     rw [← hu1]
     congr 1
     apply Array.ext'
     simp only [← Array.foldl_toList,Array.toList_zipIdx]
   ·simp at h
  ·simp at h
end
end Go.VC
end

section
namespace Go.VC
open Go
section
variable {P:Program} {tt:TypeId→Option TI} {E:List RI} {Pp:Per} {objs:List Ob} {w:World} {W:World→Prop}
theorem getO_live {i:Nat} {o:Ob} (h:getO objs i=o) (hl:o.live=true):objs[i]? =some o:=by
 rw [getO_eq] at h
 cases hx:objs[i]? with
 |none=>simp [List.getD,hx] at h;subst h;simp [Ob.live] at hl
 |some o'=>simp [List.getD,hx] at h;rw [h]
theorem fieldPlace_ok {ft:TypeId} {fi:TI} (hfi:TiOk P ft fi) (hne:fi.cks≠[]) (f:Go.Field) (hf:f.type=ft) (a:Addr):(fieldPlace a f).run P w= .ok (a.add f.offset) w:=by
 obtain ⟨_,h2,_,_⟩:=hfi.run w
 simp only [fieldPlace,hf,Sem.run_bind,h2,Result.andThen_ok]
 have:fi.cks.length≠0:=by intro h;exact hne (List.length_eq_zero_iff.1 h)
 simp [this]
theorem fieldAddr_ok (htt:TtOk P tt) {a:Act} {s:Slots} (hs:∀ t,VR tt E Pp (a.tmps.getD t undef) (look s t)) {t:TypeId} {x:Operand} {f:Nat} {ty:TypeId} {K:PV→Prop}
 (h:pureOp std tt (.fieldAddr t x f) ty s objs K):Gives' P tt E Pp W (Instr.fieldAt t (a.eval x) f) K:=by
 simp only [pureOp] at h
 split at h
 ·exact h.elim
 rename_i ti hti0
 split at h
 ·exact h.elim
 rename_i fo ft hf
 split at h
 ·exact h.elim
 rename_i fi hfi0
 have hti:=htt _ _ hti0
 have hfi:=htt _ _ hfi0
 split at h
 ·exact h.elim
 rename_i hne
 have hne:fi.cks≠[]:=hne
 obtain ⟨fields,fl,hu,hfl,ho,hty,_⟩:=hti.field hf
 have hx:=ev_ok hs x
 generalize a.eval x=v at*
 have go:∀ (ad:Addr) pv,VR tt E Pp (.pointer (some (ad.add fo))) pv→K pv→Gives' P tt E Pp W (Instr.fieldAt t (.pointer (some ad)) f) K:=by
  intro ad pv h1 h2
  refine ⟨_,pv,fun w _=> ?_,h1,h2⟩
  simp [Instr.fieldAt,run_underlying hu,hfl,Instr.sureAddr,fieldPlace_ok hfi hne fl hty,ho]
 split at h
 ·rename_i b off e;rw [e] at hx
  cases hx with
  |box _ _ _ blk hE hu=>
   cases hb:(nle off slcM&&nle (off+fo) slcM) with
   |false=>rw [hb] at h;exact h.elim
   |true=>
    rw [hb] at h
    rw [Bool.and_eq_true] at hb
    obtain rfl:=hu.get hb.1
    exact go _ _ (by rw [add_none];exact .box _ _ _ _ hE (.mk hb.2)) h
 ·rename_i e' d i off e;rw [e] at hx
  cases hx with
  |eptr _ _ _ _ b o len cap hr h0 h1=>exact go _ _ (by rw [add_none,Nat.add_assoc];exact .eptr _ _ _ _ _ _ _ _ hr h0 h1) h
 ·rename_i e' r i off e;rw [e] at hx
  cases hx with
  |rptr _ _ _ _ _ g o len cap hE h0 hu=>
   cases hm:nb off slcM with
   |true=>rw [hm] at h;exact h.elim
   |false=>
   rw [hm] at h
   simp only [cond_false] at h
   cases hm2:nb (off+fo) slcM with
   |true=>rw [hm2] at h;exact h.elim
   |false=>
   rw [hm2] at h
   obtain ⟨rfl,h1⟩:=hu.get hm
   exact go _ _ (by rw [add_none,Nat.add_assoc];exact .rptr _ _ _ _ _ _ _ _ _ hE h0 (.mk rfl hm2 h1)) h
 ·rename_i cs off e;rw [e] at hx
  cases hx with
  |pptr _ _ _ _ b o hu hl hp=>
   cases hm:nb off slcM with
   |true=>rw [hm] at h;exact h.elim
   |false=>
   rw [hm] at h
   simp only [cond_false] at h
   cases hm2:nb (off+fo) slcM with
   |true=>rw [hm2] at h;exact h.elim
   |false=>
    rw [hm2] at h
    obtain rfl:=hu.get hm
    exact go _ _ (by rw [add_none,Nat.add_assoc];exact .pptr _ _ _ _ _ _ (pptrV.mk hm2) hl hp) h
 ·rename_i t' d off e;rw [e] at hx
  cases hx with
  |dpp _ _ _ b o hr=>exact go _ _ (by rw [add_none,Nat.add_assoc];exact .dpp _ _ _ _ _ hr) h
 ·exact h.elim
theorem part_ok {ft:TypeId} {fi:TI} (hfi:TiOk P ft fi) {vs:List Value} {off:Nat} (h:off+fi.cks.length≤vs.length):
 (part ft ⟨vs⟩ off).run P w= .ok (valOf fi ((vs.drop off).take fi.cks.length)) w:=by
 obtain ⟨h1,h2,_,_⟩:=hfi.run w
 unfold part valOf
 simp only [Sem.run_bind,h1,Result.andThen_ok]
 cases ha:fi.agg with
 |true=>
  simp only [if_true,Sem.run_bind,h2,Result.andThen_ok,Sem.run_pure]
  simp [List.extract_eq_take_drop]
 |false=>
  obtain ⟨c,hc⟩:=hfi.single ha
  rw [hc] at h ⊢
  simp at h
  have:off<vs.length:=by omega
  have e1:(⟨vs⟩:Array Value)[off]? =some vs[off]:=by simp [this]
  have e2:((vs.drop off).take [c].length).headD undef=vs[off]:=by rw [List.drop_eq_getElem_cons this];rfl
  simp only [Bool.false_eq_true,if_false,e1,e2,Sem.run_pure]
theorem field_ok (htt:TtOk P tt) {a:Act} {s:Slots} (hs:∀ t,VR tt E Pp (a.tmps.getD t undef) (look s t)) {t:TypeId} {x:Operand} {f:Nat} {ty:TypeId} {K:PV→Prop}
 (h:pureOp std tt (.field t x f) ty s objs K):Gives' P tt E Pp W (Instr.field t (a.eval x) f) K:=by
 simp only [pureOp] at h
 split at h
 ·exact h.elim
 rename_i ti hti0
 split at h
 ·exact h.elim
 rename_i fo ft hf
 split at h
 ·exact h.elim
 rename_i fi hfi0
 have hti:=htt _ _ hti0
 have hfi:=htt _ _ hfi0
 obtain ⟨fields,fl,hu,hfl,ho,hty,_⟩:=hti.field hf
 have hx:=ev_ok hs x
 generalize a.eval x=v at*
 split at h
 ·rename_i cs e;rw [e] at hx
  simp only [lenL_eq,takeL_eq,dropL_eq] at h
  cases hb:nle (fo+fi.cks.length) cs.length with
  |false=>rw [hb] at h;exact h.elim
  |true=>
   rw [hb] at h
   have hb:=nle_of hb
   cases hx with
   |agg vs _ hl=>
    have hll:=hl.length
    refine ⟨_,_,fun w _=> ?_,valOf_ok hfi (by simp;omega) ((hl.drop fo).take fi.cks.length),h⟩
    have:=part_ok (P:=P) (w:=w) hfi (vs:=vs) (off:=fo) (by omega)
    simp [Instr.field,run_underlying hu,hfl,asAgg,hty,ho,this]
 ·exact h.elim
theorem litN_eq {n:Int} {j:Nat} (h:litN n=some j):n=(j:Int):=by
 cases n with
 |ofNat k=>simp only [litN,Option.some.injEq] at h;subst h;rfl
 |negSucc k=>simp [litN] at h
theorem TiOk.array_el {P:Program} {t:TypeId} {ti:TI} (h:TiOk P t ti) (ha:ti.agg=true) (har:ti.ar≠0):∃ n,P.underlying t=some (.array n ti.el)∧ti.ar=n+1:=by
 obtain ⟨n,e,hu⟩:=h.arr ha har
 obtain ⟨_,_,d,_,_,_,_,_,_,hd,hm⟩:=h.info
 rw [hu] at hd;cases hd
 obtain ⟨_,h1,h2,_⟩:=hm
 exact ⟨n,by rw [h2];exact hu,h1⟩
theorem indexAddr_ok (htt:TtOk P tt) (hw:RW tt E Pp objs W) {a:Act} {s:Slots} (hs:∀ t,VR tt E Pp (a.tmps.getD t undef) (look s t)) {t:TypeId} {x i:Operand} {ty:TypeId} {K:PV→Prop}
 (h:pureOp std tt (.indexAddr t x i) ty s objs K):Gives' P tt E Pp W (Instr.indexAt t (a.eval x) (a.eval i)) K:=by
 simp only [pureOp] at h
 split at h
 ·exact h.elim
 rename_i ti hti0
 have hti:=htt _ _ hti0
 have hx:=ev_ok hs x
 have hi:=ev_ok hs i
 generalize a.eval x=v at*
 generalize a.eval i=u at*
 split at h
 ·rename_i e0 e d k n h1 h2 h3
  rw [h2] at hx;rw [h3] at hi
  cases hb:nb e0 e with
  |false=>rw [hb] at h;exact h.elim
  |true=>
   rw [hb] at h
   have:=nb_of hb;subst this
   obtain ⟨hu,hel,_⟩:=hti.slice h1
   obtain ⟨hidx,h⟩:=h
   split at h
   ·rename_i ei hei
    have hcks:cksOf tt e0=ei.cks:=by simp [cksOf,hei]
    cases hi
    obtain ⟨hi0,hi1⟩:=hidx
    cases hx with
    |lst _ _ _ hr=>
     cases hr with
     |slnil=>simp [rowsD] at hi1;omega
     |sl0 _ ad=>simp [rowsD] at hi1;omega
     |sl _ b o len cap rows vf hl hc hrow hpi hrd=>
      have hlt:n<(len:Int):=by simp [rowsD] at hi1;omega
      refine ⟨_,_,fun w _=> ?_,.eptr e0 _ n 0 b o len cap (.sl e0 b o len cap rows vf hl hc hrow hpi hrd) hi0 hlt,h⟩
      have hs2:=(htt _ _ hei).run w
      have hel2:P.elem t=e0:=by simp [Program.elem,hu]
      rw [run_indexAt_slice w t _ _ _ _ _ (by rw [hel2];exact hu),if_pos ⟨hi0,hlt⟩,hel2,hs2.2.1]
      simp [add_none,hcks]
   ·exact h.elim
 ·rename_i e0 e r k n h1 h2 h3
  rw [h2] at hx;rw [h3] at hi
  cases hb:nb e0 e with
  |false=>rw [hb] at h;exact h.elim
  |true=>
   rw [hb] at h
   have:=nb_of hb;subst this
   obtain ⟨hu,hel,_⟩:=hti.slice h1
   simp only [cond_true] at h
   split at h
   ·rename_i e' d wr ho
    cases hb2:nb e0 e' with
    |false=>rw [hb2] at h;exact h.elim
    |true=>
     rw [hb2] at h
     have:=nb_of hb2;subst this
     obtain ⟨hidx,h⟩:=h
     split at h
     ·rename_i ei hei
      have hcks:cksOf tt e0=ei.cks:=by simp [cksOf,hei]
      cases hi
      obtain ⟨hi0,hi1⟩:=hidx
      have ho':=getO_live ho rfl
      cases hx with
      |row0 _ _ hE=>
       have:d= .list []:=hw.row0 _ _ _ _ ho' hE
       subst this
       simp [rowsD] at hi1;omega
      |row _ _ g o len cap hE=>
       obtain ⟨vals,rows,rfl,hl,hrow,hread⟩:=hw.row _ _ _ _ _ _ _ _ ho' hE
       have hlt:n<(len:Int):=by simp [rowsD] at hi1;omega
       refine ⟨_,_,fun w _=> ?_,.rptr _ e0 r n 0 g o len cap hE hi0 (.mk rfl rfl hlt),h⟩
       have hs2:=(htt _ _ hei).run w
       have hel2:P.elem t=e0:=by simp [Program.elem,hu]
       rw [run_indexAt_slice w t _ _ _ _ _ (by rw [hel2];exact hu),if_pos ⟨hi0,hlt⟩,hel2,hs2.2.1]
       simp [add_none,hcks]
     ·exact h.elim
   ·exact h.elim
 ·rename_i e0 e r i off k n h1 h2 h3
  rw [h2] at hx;rw [h3] at hi
  cases hb:(nb e0 e&&nb off slcM) with
  |false=>rw [hb] at h;exact h.elim
  |true=>
   rw [hb] at h
   simp only [Bool.and_eq_true] at hb
   have:=nb_of hb.1;subst this
   have hm:=nb_of hb.2;subst hm
   obtain ⟨hu,hel,_⟩:=hti.slice h1
   simp only [cond_true] at h
   split at h
   ·rename_i e' d wr ho
    cases hb2:nb e0 e' with
    |false=>rw [hb2] at h;exact h.elim
    |true=>
     rw [hb2] at h
     have:=nb_of hb2;subst this
     obtain ⟨hidx,h⟩:=h
     split at h
     ·rename_i ei hei
      have hcks:cksOf tt e0=ei.cks:=by simp [cksOf,hei]
      cases hi
      obtain ⟨hi0,hi1⟩:=hidx
      have ho':=getO_live ho rfl
      cases hx with
      |rptr _ _ _ _ _ g o len cap hE h0 hv=>
       obtain ⟨⟨o1,rfl,ho1⟩,hle⟩:=hv.getS
       obtain ⟨vals,rows,rfl,hl,hrow,hread⟩:=hw.row _ _ _ _ _ _ _ _ ho' hE
       have hi1:n<(rows.length:Int)-i:=hi1
       have hlt:n<((len-i.toNat:Nat):Int):=by omega
       have ho1:o1=o+i.toNat*(cksOf tt e0).length:=by
        rcases ho1 with e|e
        ·exact e
        ·exfalso;omega
       refine ⟨_,.rptr e0 r (i+n) 0,fun w _=> ?_,.rptr (.pointer (some ⟨g,o+(i+n).toNat*(cksOf tt e0).length+0,none⟩)) e0 r (i+n) 0 g o len cap hE (by omega) (.mk rfl rfl (by omega)),h⟩
       have hs2:=(htt _ _ hei).run w
       have hel2:P.elem t=e0:=by simp [Program.elem,hu]
       rw [run_indexAt_slice w t _ _ _ _ _ (by rw [hel2];exact hu),if_pos ⟨hi0,hlt⟩,hel2,hs2.2.1]
       have e2:(i+n).toNat=i.toNat+n.toNat:=by omega
       simp [add_none,hcks,ho1,e2,Nat.add_mul,Nat.add_assoc]
     ·exact h.elim
   ·exact h.elim
 ·rename_i e0 cs off k n h1 h2 h3
  rw [h2] at hx;rw [h3] at hi
  split at h
  ·rename_i ei j hei hj
   cases hb:(nb off slcM&&nb (lenL ei.cks) 1&&nlt j (lenL cs)) with
   |false=>rw [hb] at h;exact h.elim
   |true=>
    rw [hb] at h
    simp only [Bool.and_eq_true] at hb
    obtain ⟨⟨hm,hone⟩,hjl⟩:=hb
    have hm:=nb_of hm;subst hm
    have hone:=nb_of hone
    have hjl:=nle_of hjl
    rw [lenL_eq] at hone hjl
    have hn:=litN_eq hj;subst hn
    obtain ⟨hu,hel,_⟩:=hti.slice h1
    simp only [cond_true] at h
    cases hm2:nb j slcM with
    |true=>rw [hm2] at h;exact h.elim
    |false=>
    rw [hm2] at h
    cases hi
    cases hx with
    |pptr _ vs _ _ b o hv hl hp=>
     obtain rfl:=hv.getS
     have hll:=hl.length
     have hlt:((j:Nat):Int)<(vs.length:Int):=by omega
     refine ⟨_,_,fun w _=> ?_,.pptr _ vs cs j b o (pptrV.mk hm2) hl hp,h⟩
     have hs2:=(htt _ _ hei).run w
     have hel2:P.elem t=e0:=by simp [Program.elem,hu]
     rw [run_indexAt_slice w t _ _ _ _ _ (by rw [hel2];exact hu),if_pos ⟨Int.natCast_nonneg _,hlt⟩,hel2,hs2.2.1]
     simp [add_none,hone]
  ·exact h.elim
 ·rename_i e0 b off k n h1 h2 h3
  rw [h2] at hx;rw [h3] at hi
  split at h
  ·rename_i ei j hei hj
   cases hb:(nb (lenL ei.cks) 1&&nlt slcM off&&nlt j (off-(slcM+1))&&nle j slcM) with
   |false=>rw [hb] at h;exact h.elim
   |true=>
    rw [hb] at h
    simp only [Bool.and_eq_true] at hb
    obtain ⟨⟨⟨hone,h4⟩,h5⟩,h6⟩:=hb
    have hone:=nb_of hone
    have h4:=nle_of h4
    have h5:=nle_of h5
    rw [lenL_eq] at hone
    have hn:=litN_eq hj;subst hn
    obtain ⟨hu,hel,_⟩:=hti.slice h1
    cases hi
    cases hx with
    |box _ _ _ blk hE hv=>
     obtain rfl:=hv.2 (off-(slcM+1)) (by omega)
     refine ⟨_,_,fun w _=> ?_,.box _ b j blk hE (.mk h6),h⟩
     have hs2:=(htt _ _ hei).run w
     have hel2:P.elem t=e0:=by simp [Program.elem,hu]
     rw [run_indexAt_slice w t _ _ _ _ _ (by rw [hel2];exact hu),if_pos ⟨Int.natCast_nonneg _,by omega⟩,hel2,hs2.2.1]
     simp [add_none,hone]
  ·exact h.elim
 ·rename_i b off k n h1 h2 h3
  rw [h2] at hx;rw [h3] at hi
  split at h
  ·rename_i ei j hei hj
   cases hb:(ti.agg&&nlt j (ti.ar-1)&&nlt 0 (lenL ei.cks)&&nle off slcM&&nle (off+j*lenL ei.cks) slcM) with
   |false=>rw [hb] at h;exact h.elim
   |true=>
    rw [hb] at h
    simp only [Bool.and_eq_true] at hb
    obtain ⟨⟨⟨⟨hag,hjl⟩,hpos⟩,ho1⟩,ho2⟩:=hb
    have hjl:=nle_of hjl
    have hn:=litN_eq hj;subst hn
    obtain ⟨n,hu,har⟩:=hti.array_el hag (by omega)
    cases hi
    cases hx with
    |box _ _ _ blk hE hv=>
     obtain rfl:=hv.get ho1
     refine ⟨_,_,fun w _=> ?_,.box _ b (off+j*lenL ei.cks) blk hE (.mk ho2),h⟩
     have hs2:=(htt _ _ hei).run w
     have hel2:P.elem t=ti.el:=by simp [Program.elem,hu]
     have hlen2:P.arrayLen t=n:=by simp [Program.arrayLen,hu]
     rw [run_indexAt_array w t _ _ _ (by rw [hel2,hlen2];exact hu),hlen2,if_pos ⟨Int.natCast_nonneg _,by omega⟩,hel2,hs2.2.1]
     simp [add_none,lenL_eq,Nat.add_assoc]
  ·exact h.elim
 ·rename_i cs off k n h1 h2 h3
  rw [h2] at hx;rw [h3] at hi
  split at h
  ·rename_i ei j hei hj
   cases hb:(ti.agg&&nlt j (ti.ar-1)&&nlt 0 (lenL ei.cks)) with
   |false=>rw [hb] at h;exact h.elim
   |true=>
    rw [hb] at h
    simp only [Bool.and_eq_true] at hb
    obtain ⟨⟨hag,hjl⟩,hpos⟩:=hb
    have hjl:=nle_of hjl
    have hn:=litN_eq hj;subst hn
    obtain ⟨n,hu,har⟩:=hti.array_el hag (by omega)
    simp only [cond_true] at h
    cases hm:nb off slcM with
    |true=>rw [hm] at h;exact h.elim
    |false=>
    rw [hm] at h
    simp only [cond_false] at h
    cases hm2:nb (off+j*lenL ei.cks) slcM with
    |true=>rw [hm2] at h;exact h.elim
    |false=>
    rw [hm2] at h
    cases hi
    cases hx with
    |pptr _ vs _ _ b o hv hl hp=>
     obtain rfl:=hv.get hm
     refine ⟨_,_,fun w _=> ?_,.pptr _ vs cs (off+j*lenL ei.cks) b o (pptrV.mk hm2) hl hp,h⟩
     have hs2:=(htt _ _ hei).run w
     have hel2:P.elem t=ti.el:=by simp [Program.elem,hu]
     have hlen2:P.arrayLen t=n:=by simp [Program.arrayLen,hu]
     rw [run_indexAt_array w t _ _ _ (by rw [hel2,hlen2];exact hu),hlen2,if_pos ⟨Int.natCast_nonneg _,by omega⟩,hel2,hs2.2.1]
     simp [add_none,lenL_eq,Nat.add_assoc]
  ·exact h.elim
 ·exact h.elim
theorem optI_some {a:Act} {s:Slots} (hs:∀ t,VR tt E Pp (a.tmps.getD t undef) (look s t)) {o:Option Operand} {d:Int} {K:Int→Prop} (h:optI s o d K):
 ∃ n,K n∧((o=none∧n=d)∨∃ x k,o=some x∧a.eval x= .int k n):=by
 unfold optI at h
 split at h
 ·exact ⟨d,h,.inl ⟨rfl,rfl⟩⟩
 ·rename_i x
  split at h
  ·rename_i k n hx
   have:=ev_ok hs x
   rw [hx] at this
   generalize hg:a.eval x=v at*
   cases this
   exact ⟨n,h,.inr ⟨x,_,rfl,hg⟩⟩
  ·exact h.elim
theorem sliceBound_ok {k:IntKind} {n:Int} {y:Nat} {c:BoundsCode} (h:0≤n∧n≤y):(Instr.sliceBound (.int k n) y c).run P w= .ok n.toNat w:=by
 simp [Instr.sliceBound,asIntOf,h]
theorem rows_part {rows:List (List D)} {l h:Nat} {i:Nat}:((rows.drop l).take (h-l))[i]? =if i<h-l then rows[l+i]? else none:=by
 rw [List.getElem?_take]
 split<;>simp [List.getElem?_drop]
theorem RD.part {e b o len cap:Nat} {rows:List (List D)} (hr:RD tt Pp (.slice e) (.slice (some ⟨b,o,none⟩) len cap) (.list rows)) {l h m:Nat} (hlh:l≤h) (hhm:h≤m) (hmc:h≤len):
 RD tt Pp (.slice e) (.slice (some (if m=l then (⟨b,o,none⟩:Addr) else ⟨b,o+l*(cksOf tt e).length,none⟩)) (h-l) (m-l)) (.list ((rows.drop l).take (h-l))):=by
 cases hr with
 |sl0 _ ad=>
  have:h=0:=by omega
  have:l=0:=by omega
  subst_vars
  split<;>exact .sl e b _ 0 _ _ (fun _ _=>undef) (by simp) (by omega) (fun i row hi=>by simp at hi) (fun i j hi=>by omega) (fun i j row d ck hi=>by simp at hi)
 |sl _ _ _ _ _ _ vf hl hc hrow hpi hrd=>
  by_cases hml:m=l
  ·rw [if_pos hml]
   have:h-l=0:=by omega
   rw [this]
   exact .sl e b o 0 (m-l) _ (fun _ _=>undef) (by simp) (by omega) (fun i row hi=>by simp at hi) (fun i j hi=>by omega) (fun i j row d ck hi=>by simp at hi)
  ·rw [if_neg hml]
   refine .sl e b _ (h-l) (m-l) _ (fun i j=>vf (l+i) j) (by simp;omega) (by omega) ?_ ?_ ?_
   ·intro i row hi
    rw [rows_part] at hi
    split at hi
    ·exact hrow _ _ hi
    ·simp at hi
   ·intro i j hi hj
    have:=hpi (l+i) j (by omega) hj
    rwa [show o+l*(cksOf tt e).length+i*(cksOf tt e).length+j=o+(l+i)*(cksOf tt e).length+j by rw [Nat.add_mul];omega]
   ·intro i j row d ck hi hj hck
    rw [rows_part] at hi
    split at hi
    ·exact hrd _ _ _ _ _ hi hj hck
    ·simp at hi
theorem asLst_ok (hw:RW tt E Pp objs W) {v:Value} {p:PV} (h:VR tt E Pp v p):VR tt E Pp v (asLst objs p):=by
 unfold asLst
 split
 ·rename_i e r
  split
  ·rename_i e' d ho
   cases hb:nb e e' with
   |false=>exact .undef _
   |true=>
    have:=nb_of hb
    subst this
    have ho':=getO_live ho rfl
    cases h with
    |row0 _ _ hE=>
     have:=hw.row0 _ _ _ _ ho' hE
     subst this
     exact .lst _ _ _ (.slnil _)
    |row _ _ g o len cap hE=>exact .lst _ _ _ (hw.frz _ _ _ _ _ _ _ ho' hE)
  ·exact .undef _
 ·exact h
theorem fit_rd {c:CK} {v:Value} {p:PV} (h:ckFits c p=true) (hv:VR tt E Pp v p):RD tt Pp c v (toD' p):=by
 cases hv<;>cases c<;>simp only [ckFits,decide_eq_true_eq,Bool.false_eq_true] at h
 case int.int=>subst h;exact .int _ _
 case bl.bool=>exact .bool _
 case bool.bool=>exact .bool _
 case str.str=>exact .str _
 case lst.slice=>have:=nb_of h;subst this;assumption
 case dptr.ptr=>have:=nb_of h;subst this;assumption
 case nilp.ptr=>exact .pnil _
 case nilm.map=>exact .mnil _ _
 case dmp.map=>
  have:=nb_of h;subst this
  rename_i hr
  rcases hr.map_inv with ⟨rfl,rfl⟩|⟨b,es,clock,rows,rfl,rfl,m⟩
  ·exact .mnil _ _
  ·exact m.rd _
 case nilf.fn=>exact .fnil
theorem mapD1_eq (l:List PV):mapD1 l=l.map fun p=>[toD' p]:=by induction l<;>simp [mapD1, *]
theorem cksFits_get {c:CK}:∀ {cs:List PV},cksFits [c] cs=true→∀ p∈cs,ckFits c p=true
 |[],_,p,hp=>by simp at hp
 |q::cs,h,p,hp=>by
  simp only [cksFits,Bool.and_eq_true] at h
  rcases List.mem_cons.1 hp with rfl|hp
  ·exact h.1
  ·exact cksFits_get h.2 p hp
theorem cells_rd {e:TypeId} {cks:List CK} {vs:List Value} {cs:List PV} {b o m r:Nat} (hck:cksOf tt e=cks) (hone:cks.length=1) (hfit:cksFits cks cs=true) (hl:VRL tt E Pp vs cs)
 (hp:∀ (j:Nat) v,vs[j]? =some v→Pp ⟨b,o+j,none⟩ v) (hn:cs.length=r) (hm:r≤m):RD tt Pp (.slice e) (.slice (some ⟨b,o,none⟩) r m) (.list (mapD1 cs)):=by
 match cks,hone with
 |[c],_=>
 have hll:=hl.length
 refine .sl e b o r m _ (fun i _=>vs.getD i undef) (by rw [mapD1_eq,List.length_map,hn]) hm ?_ ?_ ?_
 ·intro i row hi
  rw [mapD1_eq,List.getElem?_map] at hi
  cases hx:cs[i]? with
  |none=>rw [hx] at hi;cases hi
  |some p=>rw [hx] at hi;cases hi;rw [hck];rfl
 ·intro i j hi hj
  rw [hck] at hj ⊢
  have hj0:j=0:=by simpa using hj
  subst hj0
  have hiv:i<vs.length:=by omega
  have:=hp i vs[i] (List.getElem?_eq_getElem hiv)
  simpa [List.getD,hiv] using this
 ·intro i j row d ck hi hj hc
  rw [hck] at hc
  rw [mapD1_eq,List.getElem?_map] at hi
  cases hx:cs[i]? with
  |none=>rw [hx] at hi;cases hi
  |some p=>
   rw [hx] at hi;cases hi
   cases j with
   |succ j=>simp at hc
   |zero=>
    simp at hj hc;subst hj hc
    obtain ⟨v,h1,h2⟩:=hl.get hx
    have:vs.getD i undef=v:=by simp [List.getD,h1]
    rw [this]
    exact fit_rd (cksFits_get hfit p (List.mem_of_getElem? hx)) h2
theorem litHi_eq {a:Act} {s:Slots} (hs:∀ t,VR tt E Pp (a.tmps.getD t undef) (look s t)) {o:Option Operand} {r:Nat} (h:litHi s o=some r):∃ x k,o=some x∧a.eval x= .int k (r:Int):=by
 cases o with
 |none=>simp [litHi] at h
 |some x=>
  simp only [litHi] at h
  have hx:=ev_ok hs x
  split at h
  ·rename_i k n e
   rw [e] at hx
   have:=litN_eq h
   subst this
   obtain ⟨u,hu⟩:∃ u,u=a.eval x:=⟨_,rfl⟩
   rw [← hu] at hx
   cases hx
   exact ⟨x,_,rfl,hu.symm⟩
  ·cases h
theorem slice_ok (htt:TtOk P tt) (hw:RW tt E Pp objs W) {a:Act} {s:Slots} (hs:∀ t,VR tt E Pp (a.tmps.getD t undef) (look s t)) {t:TypeId} {x:Operand} {lo hi mx:Option Operand} {ty:TypeId} {K:PV→Prop}
 (h:pureOp std tt (.slice t x lo hi mx) ty s objs K):Gives' P tt E Pp W (Instr.sliceAt t (a.eval x) (lo.map a.eval) (hi.map a.eval) (mx.map a.eval)) K:=by
 simp only [pureOp] at h
 have hx:=asLst_ok hw (ev_ok hs x)
 generalize a.eval x=v at*
 split at h
 ·rename_i cs off hb
  rw [hb] at hx
  split at h
  ·rename_i ti hti0
   split at h
   ·rename_i ei hei
    cases hb:(ti.agg&&nb (lenL ei.cks) 1&&nlt 0 ti.ar&&nb off 0&&nb (lenL cs) (ti.ar-1)&&noLo lo) with
    |false=>rw [hb] at h;exact h.elim
    |true=>
     rw [hb] at h
     simp only [Bool.and_eq_true] at hb
     obtain ⟨⟨⟨⟨⟨hag,hone⟩,har0⟩,hoff⟩,hcs⟩,hlo⟩:=hb
     have hone:=nb_of hone;have hoff:=nb_of hoff;have hcs:=nb_of hcs;have har0:=nle_of har0
     subst hoff
     rw [lenL_eq] at hone hcs
     simp only [cond_true] at h
     split at h
     ·rename_i r hr
      cases hb:(nle r (lenL cs)&&cksFits ei.cks (takeL r cs)) with
      |false=>rw [hb] at h;exact h.elim
      |true=>
       rw [hb] at h
       simp only [Bool.and_eq_true] at hb
       obtain ⟨hrl,hfit⟩:=hb
       have hrl:=nle_of hrl
       rw [lenL_eq] at hrl
       rw [takeL_eq] at h hfit
       obtain ⟨m,hu,har⟩:=(htt _ _ hti0).array_el hag (by omega)
       obtain ⟨x,k,rfl,hev⟩:=litHi_eq hs hr
       cases hx with
       |pptr _ vs _ _ b o hv hl hp=>
        obtain rfl:=hv.get rfl
        have hll:=hl.length
        have hck:cksOf tt ti.el=ei.cks:=by simp [cksOf,hei]
        refine ⟨.slice (some ⟨b,o,none⟩) r m,_,fun w _=> ?_,.lst ti.el _ _ (cells_rd (m:=m) hck hone hfit (hl.take r) (fun j v hj=>hp j v (by
         rw [List.getElem?_take] at hj;split at hj
         ·exact hj
         ·cases hj)) (by rw [List.length_take];omega) (by omega)),h⟩
        have hlo':lo=none:=by cases lo<;>simp_all [noLo]
        subst hlo'
        obtain ⟨_,hs2,_,_⟩:=(htt _ _ hei).run w
        have hb2:=sliceBound_ok (P:=P) (w:=w) (k:=k) (n:=(r:Int)) (y:=m) (c:=.sliceAlen) ⟨Int.natCast_nonneg _,by omega⟩
        simp [Instr.sliceAt,run_underlying hu,Instr.sliceBounds,hev,hs2,add_none,Instr.sureAddr,hb2]
     ·exact h.elim
   ·exact h.elim
  ·exact h.elim
 ·rename_i b hb
  rw [hb] at hx
  split at h
  ·rename_i ti hti0
   cases hk:isStr ti with
   |false=>rw [hk] at h;exact h.elim
   |true=>
    rw [hk] at h
    simp only [cond_true] at h
    have hu:=(htt _ _ hti0).str hk
    obtain ⟨l,h,hlo⟩:=optI_some hs h
    obtain ⟨r,h,hhi⟩:=optI_some hs h
    obtain ⟨⟨hr0,hr1⟩,⟨hl0,hl1⟩,h⟩:=h
    cases hx with
    |str s=>
     have hsz:s.data.toList.length=s.size:=by simp
     simp only [hsz] at hr1 hhi
     refine ⟨.string (s.extract l.toNat r.toNat),.str (s.extract l.toNat r.toNat).data.toList,fun w _=> ?_,.str _,?_⟩
     ·simp only [Instr.sliceAt,Sem.run_bind,run_underlying hu,Result.andThen_ok,Instr.slice,Option.map_none,Option.isSome_none,Bool.false_eq_true,if_false,Instr.sliceBounds]
      rcases hhi with ⟨rfl,rfl⟩|⟨x2,k2,rfl,e2⟩
      ·rcases hlo with ⟨rfl,rfl⟩|⟨x1,k1,rfl,e1⟩
       ·simp
       ·simp [e1,sliceBound_ok (P:=P) (w:=w) ⟨hl0,hl1⟩]
      ·rcases hlo with ⟨rfl,rfl⟩|⟨x1,k1,rfl,e1⟩
       ·simp [e2,sliceBound_ok (P:=P) (w:=w) ⟨hr0,hr1⟩]
       ·simp [e1,e2,sliceBound_ok (P:=P) (w:=w) ⟨hr0,hr1⟩,sliceBound_ok (P:=P) (w:=w) (k:=k1) (n:=l) (y:=r.toNat) ⟨hl0,by omega⟩]
     ·have:(s.extract l.toNat r.toNat).data.toList=(s.data.toList.drop l.toNat).take (r.toNat-l.toNat):=by
       rw [ByteArray.data_extract]
       simp [List.extract_eq_take_drop]
      rw [this];exact h
  ·exact h.elim
 ·rename_i e d hd
  rw [hd] at hx
  split at h
  ·rename_i ti hti0
   split at h
   ·rename_i e0 he0
    cases hb:nb e0 e with
    |false=>rw [hb] at h;exact h.elim
    |true=>
     rw [hb] at h
     have:=nb_of hb;subst this
     obtain ⟨hu,hel,_⟩:=(htt _ _ hti0).slice he0
     simp only [cond_true] at h
     split at h
     ·rename_i ei hei
      have hcks:cksOf tt e0=ei.cks:=by simp [cksOf,hei]
      have fin:∀ (l r m:Nat) (base:Option Addr) (len cap:Nat),VR tt E Pp (.slice base len cap) (.lst e0 d)→l≤r→r≤len→r≤m→m≤cap→
       (∀ w:World,(Instr.sliceBounds true len cap (lo.map a.eval) (hi.map a.eval) (mx.map a.eval)).run P w= .ok (l,r,m) w)→((m=r∧K (.lsf e0 (std.part d l r)))∨K (.lst e0 (std.part d l r)))→
       Gives' P tt E Pp W (Instr.sliceAt t (.slice base len cap) (lo.map a.eval) (hi.map a.eval) (mx.map a.eval)) K:=by
       intro l r m base len cap hv hlr hrl hrm hmc hbd hk
       have hrun:∀ w,W w→(Instr.sliceAt t (.slice base len cap) (lo.map a.eval) (hi.map a.eval) (mx.map a.eval)).run P w= .ok (.slice (if m=l then base else base.map (·.add (l*ei.cks.length))) (r-l) (m-l)) w:=by
        intro w _
        have hs2:=(htt _ _ hei).run w
        simp [Instr.sliceAt,run_underlying hu,Instr.slice,hbd,hs2.2.1]
       have hrd:RD tt Pp (.slice e0) (.slice (if m=l then base else base.map (·.add (l*ei.cks.length))) (r-l) (m-l)) (std.part d l r):=by
        cases hv with
        |lst _ _ _ hr=>
         cases hr with
         |slnil=>
          have:r=0:=by omega
          have:l=0:=by omega
          have:m=0:=by omega
          subst_vars
          simpa [rowsD] using RD.slnil (tt:=tt) (Pp:=Pp) _
         |sl0 _ ad=>
          have:r=0:=by omega
          have:l=0:=by omega
          have:m=0:=by omega
          subst_vars
          simpa [rowsD] using RD.sl0 (tt:=tt) (Pp:=Pp) _ ad
         |sl _ b o _ _ rows vf hl hc hrow hpi hrd=>
          have:=RD.part (.sl e0 b o len cap rows vf hl hc hrow hpi hrd) hlr hrm hrl
          rw [hcks] at this
          by_cases hml:m=l
          ·simpa [hml,rowsD] using this
          ·simpa [hml,rowsD,add_none] using this
       rcases hk with ⟨hmr,hk⟩|hk
       ·exact ⟨_,_,hrun,by rw [← hmr];subst hmr;exact .lsf _ _ _ _ hrd,hk⟩
       ·exact ⟨_,_,hrun,.lst _ _ _ hrd,hk⟩
      have hshape:∃ base len cap,v= .slice base len cap∧((rowsD d).length:Int)=(len:Int)∧len≤cap:=by
       cases hx with
       |lst _ _ _ hr=>
        cases hr with
        |slnil=>exact ⟨none,0,0,rfl,by simp [rowsD],Nat.le_refl _⟩
        |sl0 _ ad=>exact ⟨some ad,0,0,rfl,by simp [rowsD],Nat.le_refl _⟩
        |sl _ b o len cap rows vf hl hc hrow hpi hrd=>exact ⟨_,len,cap,rfl,by simp [rowsD,hl],hc⟩
      obtain ⟨base,len,cap,rfl,hlen,hcap⟩:=hshape
      split at h
      ·obtain ⟨l,h,hlo⟩:=optI_some hs h
       obtain ⟨r,h,hhi⟩:=optI_some hs h
       obtain ⟨⟨hr0,hr1⟩,⟨hl0,hl1⟩,h⟩:=h
       rw [hlen] at hr1 hhi
       refine fin l.toNat r.toNat cap base len cap hx (by omega) (by omega) (by omega) (Nat.le_refl _) ?_ (.inr (by rw [Int.toNat_of_nonneg hl0,Int.toNat_of_nonneg hr0];exact h))
       intro w
       simp only [Instr.sliceBounds,Option.map_none,Sem.run_bind,Sem.run_pure,Result.andThen_ok]
       rcases hhi with ⟨rfl,rfl⟩|⟨x2,k2,rfl,e2⟩
       ·rcases hlo with ⟨rfl,rfl⟩|⟨x1,k1,rfl,e1⟩
        ·simp
        ·simp [e1,sliceBound_ok (P:=P) (w:=w) ⟨hl0,hl1⟩]
       ·have hb2:=sliceBound_ok (P:=P) (w:=w) (k:=k2) (n:=r) (y:=cap) (c:=.sliceAcap) ⟨hr0,by omega⟩
        rcases hlo with ⟨rfl,rfl⟩|⟨x1,k1,rfl,e1⟩
        ·simp [e2,hb2]
        ·simp [e1,e2,hb2,sliceBound_ok (P:=P) (w:=w) (k:=k1) (n:=l) (y:=r.toNat) ⟨hl0,by omega⟩]
      ·rename_i m0
       obtain ⟨l,h,hlo⟩:=optI_some hs h
       split at h
       ·exact h.elim
       rename_i h0
       obtain ⟨r,h,hhi⟩:=optI_some hs h
       obtain ⟨m,h,hmx⟩:=optI_some hs h
       obtain ⟨⟨hm0,hm1⟩,⟨hr0,hr1⟩,⟨hl0,hl1⟩,h⟩:=h
       rw [hlen] at hm1
       refine fin l.toNat r.toNat m.toNat base len cap hx (by omega) (by omega) (by omega) (by omega) ?_ (by rw [Int.toNat_of_nonneg hl0,Int.toNat_of_nonneg hr0];exact h.imp (fun h=>⟨by rw [show m=r from h.1],h.2 trivial⟩) (fun h=>h trivial))
       intro w
       simp only [Instr.sliceBounds]
       rcases hmx with ⟨hno,_⟩|⟨x3,k3,e3',e3⟩
       ·simp at hno
       rcases hhi with ⟨hno,_⟩|⟨x2,k2,e2',e2⟩
       ·simp at hno
       cases e3';cases e2'
       have hb3:=sliceBound_ok (P:=P) (w:=w) (k:=k3) (n:=m) (y:=cap) (c:=.slice3Acap) ⟨hm0,by omega⟩
       have hb2:=sliceBound_ok (P:=P) (w:=w) (k:=k2) (n:=r) (y:=m.toNat) (c:=.slice3B) ⟨hr0,by omega⟩
       rcases hlo with ⟨rfl,rfl⟩|⟨x1,k1,rfl,e1⟩
       ·simp [e2,e3,hb2,hb3]
       ·simp [e1,e2,e3,hb2,hb3,sliceBound_ok (P:=P) (w:=w) (k:=k1) (n:=l) (y:=r.toNat) (c:=.slice3C) ⟨hl0,by omega⟩]
     ·exact h.elim
   ·exact h.elim
  ·exact h.elim
 ·exact h.elim
theorem len_ok (htt:TtOk P tt) (hw:RW tt E Pp objs W) {a:Act} {s:Slots} (hs:∀ t,VR tt E Pp (a.tmps.getD t undef) (look s t)) {as:Array Operand} {ts:Array TypeId} {ty:TypeId} {K:PV→Prop}
 (h:pureOp std tt (.call { callee:=.builtin .len,args:=as,argTypes:=ts }) ty s objs K):Gives' P tt E Pp W (Builtin.len_ ts ty (as.map a.eval)) K:=by
 simp only [pureOp] at h
 split at h
 ·rename_i x t hx ht
  obtain rfl:as= #[x]:=by cases as;simp at hx;simp [hx]
  obtain rfl:ts= #[t]:=by cases ts;simp at ht;simp [ht]
  split at h
  ·exact h.elim
  rename_i ti hti0
  have hti:=htt _ _ hti0
  have hv:=evT_ok hs t x
  have hlen:Builtin.len_ #[t] ty (#[x].map a.eval)=Builtin.len_ #[t] ty #[a.eval x]:=by simp
  rw [hlen]
  generalize a.eval x=v at*
  split at h
  ·rename_i e0 e d h1 h2
   rw [h2] at hv
   obtain ⟨hu,_,_⟩:=hti.slice h1
   cases hv with
   |lst _ _ _ hr=>
    cases hr with
    |slnil=>exact ⟨_,_,by intro w _;simp only [Builtin.len_];simp [run_underlying hu];rfl,.int _ _,by simpa [rowsD] using h⟩
    |sl0 _ ad=>exact ⟨_,_,by intro w _;simp only [Builtin.len_];simp [run_underlying hu];rfl,.int _ _,by simpa [rowsD] using h⟩
    |sl _ b o len cap rows vf hl hc hrow hpi hrd=>exact ⟨_,_,by intro w _;simp only [Builtin.len_];simp [run_underlying hu];rfl,.int _ _,by simpa [rowsD,hl] using h⟩
  ·rename_i e0 e r h1 h2
   rw [h2] at hv
   obtain ⟨hu,_,_⟩:=hti.slice h1
   split at h
   ·rename_i e' d wr ho
    cases hb:nb e e' with
    |false=>rw [hb] at h;exact h.elim
    |true=>
     rw [hb] at h
     have ho':=getO_live ho rfl
     cases hv with
     |row0 _ _ hE=>
      have:d= .list []:=hw.row0 _ _ _ _ ho' hE
      subst this
      exact ⟨_,_,by intro w _;simp only [Builtin.len_];simp [run_underlying hu];rfl,.int _ _,by simpa [rowsD] using h⟩
     |row _ _ g o len cap hE=>
      obtain ⟨vals,rows,rfl,hl,hrow,hread⟩:=hw.row _ _ _ _ _ _ _ _ ho' hE
      exact ⟨_,_,by intro w _;simp only [Builtin.len_];simp [run_underlying hu];rfl,.int _ _,by simpa [rowsD,hl] using h⟩
   ·exact h.elim
  ·rename_i e0 e r i off h1 h2
   rw [h2] at hv
   obtain ⟨hu,_,_⟩:=hti.slice h1
   split at h
   ·rename_i e' d wr ho
    cases hb:(nb e e'&&nb off slcM) with
    |false=>rw [hb] at h;exact h.elim
    |true=>
     rw [hb] at h
     simp only [Bool.and_eq_true] at hb
     have hm:=nb_of hb.2;subst hm
     have he:=nb_of hb.1;subst he
     have ho':=getO_live ho rfl
     cases hv with
     |rptr _ _ _ _ _ g o len cap hE h0 hv=>
      obtain ⟨⟨o1,rfl,ho1⟩,hle⟩:=hv.getS
      obtain ⟨vals,rows,rfl,hl,hrow,hread⟩:=hw.row _ _ _ _ _ _ _ _ ho' hE
      refine ⟨_,_,by intro w _;simp only [Builtin.len_];simp [run_underlying hu];rfl,.int _ _,?_⟩
      have e2:((len-i.toNat:Nat):Int)=(rows.length:Int)-i:=by omega
      rw [e2];exact h
   ·exact h.elim
  ·rename_i e0 cs off h1 h2
   rw [h2] at hv
   obtain ⟨hu,_,_⟩:=hti.slice h1
   cases hb:nb off slcM with
   |false=>rw [hb] at h;exact h.elim
   |true=>
    rw [hb] at h
    have hb:=nb_of hb;subst hb
    cases hv with
    |pptr _ vs _ _ b o hv hl hp=>
     obtain rfl:=hv.getS
     refine ⟨_,_,by intro w _;simp only [Builtin.len_];simp [run_underlying hu];rfl,.int _ _,?_⟩
     have:=hl.length
     rw [this,←lenL_eq];exact h
  ·rename_i e0 b off h1 h2
   rw [h2] at hv
   obtain ⟨hu,_,_⟩:=hti.slice h1
   cases hb:nlt slcM off with
   |false=>rw [hb] at h;exact h.elim
   |true=>
    rw [hb] at h
    have hb:=nle_of hb
    cases hv with
    |box _ _ _ blk hE hv=>
     obtain rfl:=hv.2 (off-(slcM+1)) (by omega)
     exact ⟨_,_,by intro w _;simp only [Builtin.len_];simp [run_underlying hu];rfl,.int _ _,h⟩
  ·rename_i b h1 h2
   rw [h2] at hv
   cases hb:isStr ti with
   |false=>rw [hb] at h;exact h.elim
   |true=>
    rw [hb] at h
    have hu:=hti.str hb
    cases hv with
    |str s=>exact ⟨_,_,by intro w _;simp only [Builtin.len_];simp [run_underlying hu];rfl,.int _ _,by simpa using h⟩
  ·rename_i m h1 h2
   rw [h2] at hv
   cases hb:isMap ti with
   |false=>rw [hb] at h;exact h.elim
   |true=>
    rw [hb] at h
    obtain ⟨k,e,hu,_,_,_⟩:=hti.map hb
    simp only [cond_true] at h
    split at h
    ·rename_i kc e' d ho
     have ho':=getO_live ho rfl
     cases hv with
     |mp _ b bs cl hE=>
      have hread:=hw.map _ _ _ _ _ _ _ ho' hE
      refine ⟨goInt (rowsD d).length,.int .i64 (rowsD d).length,fun w hW=> ?_,.int _ _,by simpa using h⟩
      obtain ⟨es,clock,rows,hb,rfl,hl⟩:=hread w hW
      simp only [Builtin.len_]
      simp [run_underlying hu,getObj,Sem.run,hb,rowsD,hl]
    ·exact h.elim
  ·exact h.elim
 ·exact h.elim
theorem mapM_get {f:Go.Field→Option (Nat×Nat)}:∀ {l:List Go.Field} {pl:List (Nat×Nat)},l.mapM f=some pl→∀ i:Nat,pl[i]? =(l[i]?).bind f
 |[],pl,h,i=>by simp at h;subst h;simp
 |x::l,pl,h,i=>by
  simp only [List.mapM_cons,Option.bind_eq_bind,Option.pure_def,Option.bind_eq_some_iff] at h
  obtain ⟨y,hy,ys,hys,h⟩:=h
  simp at h;subst h
  cases i with
  |zero=>simp [hy]
  |succ i=>simpa using mapM_get hys i
theorem zeros_ok (cks:List CK):VRL tt E Pp (cks.map zeroV) (cks.map zeroPV):=by
 induction cks with
 |nil=>exact .nil
 |cons c cks ih=>
  refine .cons _ _ _ _ ?_ ih
  cases c with
  |int=>exact .int _ _
  |bool=>exact .bl _
  |str=>exact .str ⟨#[]⟩
  |slice=>exact .lst _ _ _ (.slnil _)
  |ptr=>exact .nilp
  |map=>exact .nilm
  |fn=>exact .nilf
  |str2=>exact .undef _
theorem arrFs_get {e:TypeId} {S:Nat}:∀ (n off i:Nat) (x:Nat×TypeId),getF (arrFs e S off n) i=some x→x=(off+i*S,e)
 |0,off,i,x,h=>by simp [arrFs,getF] at h
 |n+1,off,0,x,h=>by simp [arrFs,getF] at h;simp [← h]
 |n+1,off,i+1,x,h=>by
  simp only [arrFs,getF] at h
  rw [arrFs_get n (off+S) i x h,Nat.add_mul]
  simp;omega
theorem struct_ok (htt:TtOk P tt) {a:Act} {s:Slots} (hs:∀ t,VR tt E Pp (a.tmps.getD t undef) (look s t)) {t:TypeId} {ti:TI} (hti0:tt t=some ti) (hb:(ti.agg&&nb ti.ar 0)=true) {ps:Array (Nat×Operand)} {acc cs:List PV}
 (hz0:VRL tt E Pp (ti.cks.map zeroV) acc) (hcs:fillAll s tt ti.fs ps.toList acc=some cs):∃ v,(∀ w,(Instr.build t (ps.map fun (i,x)=>(i,a.eval x))).run P w= .ok v w)∧VR tt E Pp v (.agg cs):=by
 have hti:=htt _ _ hti0
 obtain ⟨i,z,d,hi,hsz,hbt,hz,hzc,_,hd,hm⟩:=hti.info
 have hzc':z.cells=⟨ti.cks.map zeroV⟩:=by rw [← hzc]
 simp only [Bool.and_eq_true] at hb
 cases d with
 |struct fields=>
  obtain ⟨_,hfs,pl,hpl⟩:=hm
  have hget:=mapM_get hpl
  obtain ⟨us,h1,h2⟩:=fill_ok hs ti.fs (fun i=>pl[i]?) (by
   intro i off ft fi hf hfi
   obtain ⟨_,fl,hu,hfl,ho,hty,_⟩:=hti.field hf
   rw [hd] at hu;cases hu
   obtain ⟨i2,_,_,hi2,hs2,_⟩:=(htt _ _ hfi).info
   have:=hget i
   simp only [Array.getElem?_toList,hfl,Option.bind_some,hty,hi2,Option.map_some,ho,hs2] at this
   exact this) ps.toList acc (ti.cks.map zeroV) cs hz0 hcs
  refine ⟨.agg ⟨us⟩,fun w=> ?_,.agg _ _ h2⟩
  simp [Instr.build,run_underlying hd,typeInfo,zeroValue,hi,hz,Array.mapM_eq_mapM_toList,run_places w _ _ hpl,hzc',h1]
 |array n e=>have:=nb_of hb.2;simp_all
 |_=>simp_all
theorem build_ok (htt:TtOk P tt) {a:Act} {s:Slots} (hs:∀ t,VR tt E Pp (a.tmps.getD t undef) (look s t)) {t:TypeId} {ps:Array (Nat×Operand)} {ty:TypeId} {K:PV→Prop}
 (h:pureOp std tt (.build t ps) ty s objs K):Gives' P tt E Pp W (Instr.build t (ps.map fun (i,x)=>(i,a.eval x))) K:=by
 simp only [pureOp] at h
 split at h
 ·exact h.elim
 rename_i ti hti0
 have hti:=htt _ _ hti0
 have hmap:(ps.map fun (i,x)=>(i,a.eval x)).toList=ps.toList.map fun p=>(p.1,a.eval p.2):=by simp
 obtain ⟨i,z,d,hi,hsz,hbt,hz,hzc,_,hd,hm⟩:=hti.info
 have hzc':z.cells=⟨ti.cks.map zeroV⟩:=by rw [← hzc]
 cases hb:(ti.agg&&nb ti.ar 0) with
 |false=>
  rw [hb] at h
  simp only [cond_false] at h
  cases hag:ti.agg with
  |false=>rw [hag] at h;exact h.elim
  |true=>
   rw [hag] at h
   simp only [cond_true] at h
   split at h
   ·rename_i ei hei
    split at h
    ·rename_i cs hcs
     cases d with
     |array n e=>
      obtain ⟨_,har,hel,_⟩:=hm
      have hs2:∀ w:World,(sizeOf e).run P w= .ok ei.cks.length w:=fun w=>by
       obtain ⟨_,h2,_,_⟩:=(htt _ _ hei).run w
       rw [← hel];exact h2
      obtain ⟨us,h1,h2⟩:=fill_ok hs (arrFs ti.el (lenL ei.cks) 0 (ti.ar-1)) (fun i=>some (i*ei.cks.length,ei.cks.length)) (by
       intro i off ft fi hf hfi
       have:=arrFs_get _ _ _ _ hf
       simp only [Prod.mk.injEq,lenL_eq,Nat.zero_add] at this
       obtain ⟨rfl,rfl⟩:=this
       rw [hei] at hfi;cases hfi;rfl) ps.toList (ti.cks.map zeroPV) (ti.cks.map zeroV) cs (zeros_ok _) hcs
      refine ⟨.agg ⟨us⟩,.agg cs,fun w _=> ?_,.agg _ _ h2,h⟩
      simp [Instr.build,run_underlying hd,typeInfo,zeroValue,hi,hz,hs2,hzc',h1]
     |struct fields=>
      have:ti.ar≠0:=by
       intro h0
       rw [hag,h0] at hb;simp [nb_refl] at hb
      obtain ⟨n,e,hu⟩:=hti.arr hag this
      rw [hd] at hu;cases hu
     |_=>simp_all
    ·exact h.elim
   ·exact h.elim
 |true=>
  rw [hb] at h
  simp only [cond_true] at h
  simp only [Bool.and_eq_true] at hb
  split at h
  ·rename_i cs hcs
   cases d with
   |struct fields=>
    obtain ⟨_,hfs,pl,hpl⟩:=hm
    have hget:=mapM_get hpl
    obtain ⟨us,h1,h2⟩:=fill_ok hs ti.fs (fun i=>pl[i]?) (by
     intro i off ft fi hf hfi
     obtain ⟨_,fl,hu,hfl,ho,hty,_⟩:=hti.field hf
     rw [hd] at hu;cases hu
     obtain ⟨i2,_,_,hi2,hs2,_⟩:=(htt _ _ hfi).info
     have:=hget i
     simp only [Array.getElem?_toList,hfl,Option.bind_some,hty,hi2,Option.map_some,ho,hs2] at this
     exact this) ps.toList (ti.cks.map zeroPV) (ti.cks.map zeroV) cs (zeros_ok _) hcs
    refine ⟨.agg ⟨us⟩,.agg cs,fun w _=> ?_,.agg _ _ h2,h⟩
    simp [Instr.build,run_underlying hd,typeInfo,zeroValue,hi,hz,Array.mapM_eq_mapM_toList,run_places w _ _ hpl,hzc',h1]
   |array n e=>have:=nb_of hb.2;simp_all
   |_=>simp_all
  ·exact h.elim
theorem intsOf_ok {k:IntKind}:∀ {cs:List PV} {ns:List Int} {vs:List Value},intsOf k cs=some ns→VRL tt E Pp vs cs→vs=ns.map (Value.int k)
 |[],ns,vs,h,hv=>by simp [intsOf] at h;subst h;cases hv;rfl
 |p::cs,ns,vs,h,hv=>by
  cases hv with
  |cons v _ vs _ h1 h2=>
   cases p<;>simp only [intsOf] at h<;>try (simp at h;done)
   rename_i k' n
   cases hk:kEq k k' with
   |false=>rw [hk] at h;simp at h
   |true=>
    rw [hk] at h
    have hke:k=k':=by simpa [kEq] using hk
    subst hke
    simp only [cond_true] at h
    split at h
    ·rename_i ns' hns'
     simp at h;subst h
     cases h1
     rw [intsOf_ok hns' h2];rfl
    ·simp at h
theorem index_ok (htt:TtOk P tt) {a:Act} {s:Slots} (hs:∀ t,VR tt E Pp (a.tmps.getD t undef) (look s t)) {t:TypeId} {x i:Operand} {ty:TypeId} {K:PV→Prop}
 (h:pureOp std tt (.index t x i) ty s objs K):Gives' P tt E Pp W (Instr.index t (a.eval x) (a.eval i)) K:=by
 simp only [pureOp] at h
 split at h
 ·exact h.elim
 rename_i ti hti0
 have hti:=htt _ _ hti0
 have hx:=ev_ok hs x
 have hi:=ev_ok hs i
 generalize a.eval x=v at*
 generalize a.eval i=u at*
 split at h
 ·rename_i b k n hxe hie
  rw [hxe] at hx;rw [hie] at hi
  cases hk:isStr ti with
  |false=>rw [hk] at h;exact h.elim
  |true=>
   rw [hk] at h
   simp only [cond_true] at h
   have hu:=hti.str hk
   cases hx with
   |str s=>
    cases hi
    obtain ⟨⟨h0,h1⟩,h⟩:=h
    have h1':n<(s.size:Int):=by simpa using h1
    refine ⟨.int .u8 (s[n.toNat]'(by omega)).toNat,_,fun w _=> ?_,.int _ _,?_⟩
    ·rw [run_index_string w t s _ n hu,dif_pos ⟨h0,h1'⟩]
    ·have hb:n.toNat<s.data.toList.length:=by simp;omega
     have:(s.data.toList.getD n.toNat 0)=s[n.toNat]'(by omega):=by
      simp [List.getD,List.getElem?_eq_getElem hb];rfl
     simp only [this] at h
     exact h
 ·rename_i cs k n hxe hie
  rw [hxe] at hx;rw [hie] at hi
  cases hb:(ti.agg&&nlt 0 ti.ar&&nb (lenL cs) (ti.ar-1)) with
  |false=>rw [hb] at h;exact h.elim
  |true=>
   rw [hb] at h
   simp only [Bool.and_eq_true] at hb
   obtain ⟨⟨hb1,hb2⟩,hb3⟩:=hb
   have hb3:=nb_of hb3
   have hb2:0+1≤ti.ar:=nle_of hb2
   rw [lenL_eq] at hb3
   simp only [cond_true] at h
   split at h
   ·rename_i ei hei
    split at h
    ·rename_i k' hag hck
     split at h
     ·rename_i ns hns
      obtain ⟨⟨h0,h1⟩,h⟩:=h
      cases hi
      cases hx with
      |agg vs _ hl=>
       have hvs:=intsOf_ok hns hl
       have hll:=hl.length
       subst hvs
       simp at hll
       obtain ⟨i,z,d,hi,hsz,hbt,hz,hzc,_,hd,hm⟩:=hti.info
       cases d with
       |array m e=>
        obtain ⟨_,har,hel,_⟩:=hm
        have hlt:n<(m:Int):=by omega
        refine ⟨.int k' (ns.getD n.toNat 0),_,fun w _=> ?_,.int _ _,h⟩
        obtain ⟨_,hs2,_,_⟩:=(htt _ _ hei).run w
        have hp:=part_ok (P:=P) (w:=w) (htt _ _ hei) (vs:=ns.map (Value.int k')) (off:=n.toNat) (by simp [hck];omega)
        rw [hel] at hs2 hp
        simp only [Instr.index,asIntOf,Sem.run_bind,Sem.run_pure,Result.andThen_ok,run_underlying hd,if_pos (⟨h0,hlt⟩:0≤n∧n<(m:Int)),hs2,hck,List.length_singleton,Nat.mul_one,hp]
        simp only [valOf,hag,hck,Bool.false_eq_true,if_false,List.length_singleton]
        have hnl:n.toNat<ns.length:=by omega
        rw [List.drop_eq_getElem_cons (by simpa using hnl)]
        simp [List.getD,hnl]
       |struct fs=>
        obtain ⟨n,e,hu⟩:=hti.arr hb1 (by omega)
        rw [hd] at hu;cases hu
       |_=>simp_all
     ·exact h.elim
    ·rename_i c hnint hag hck
     split at h
     ·rename_i j hj
      cases hjl:nlt j (ti.ar-1) with
      |false=>rw [hjl] at h;exact h.elim
      |true=>
      rw [hjl] at h
      have hjl:=nle_of hjl
      have hn:=litN_eq hj;subst hn
      cases hi
      cases hx with
      |agg vs _ hl=>
       have hll:=hl.length
       obtain ⟨m,hu,har⟩:=hti.array_el hb1 (by omega)
       have hlt:((j:Nat):Int)<(m:Int):=by omega
       have hjv:j<vs.length:=by omega
       refine ⟨vs[j],getP cs j,fun w _=> ?_,?_,h⟩
       ·obtain ⟨_,hs2,_,_⟩:=(htt _ _ hei).run w
        have hp:=part_ok (P:=P) (w:=w) (htt _ _ hei) (vs:=vs) (off:=j) (by simp [hck];omega)
        simp only [Instr.index,asIntOf,Sem.run_bind,Sem.run_pure,Result.andThen_ok,run_underlying hu,if_pos (⟨Int.natCast_nonneg _,hlt⟩:0≤((j:Nat):Int)∧((j:Nat):Int)<(m:Int)),hs2,hck,List.length_singleton,Nat.mul_one,Int.toNat_natCast,hp]
        simp only [valOf,hag,hck,Bool.false_eq_true,if_false,List.length_singleton]
        rw [List.drop_eq_getElem_cons hjv]
        rfl
       ·rw [getP_eq]
        have hjc:j<cs.length:=by omega
        rw [List.getD_eq_getElem?_getD,List.getElem?_eq_getElem hjc]
        obtain ⟨u,hu1,hu2⟩:=hl.get (List.getElem?_eq_getElem hjc)
        rw [List.getElem?_eq_getElem hjv] at hu1;cases hu1
        exact hu2
     ·exact h.elim
    ·exact h.elim
   ·exact h.elim
 ·exact h.elim
theorem max_run {ts:Array TypeId} {ty:TypeId} {x y:Int} {k k':IntKind}:(Builtin.max_ ts ty #[.int k x,.int k' y]).run P w= .ok (.int k (if y>x then y else x)) w:=by
 simp [Builtin.max_,Builtin.max2]
theorem min_run {ts:Array TypeId} {ty:TypeId} {x y:Int} {k k':IntKind}:(Builtin.min_ ts ty #[.int k x,.int k' y]).run P w= .ok (.int k (if y<x then y else x)) w:=by
 simp [Builtin.min_,Builtin.min2]
theorem foldl_push:∀ (ns:List Int) (b:ByteArray),(ns.foldl (fun r n=>r.push (UInt8.ofNat n.toNat)) b).data.toList=b.data.toList++ns.map fun n=>UInt8.ofNat n.toNat
 |[],b=>by simp
 |n::ns,b=>by rw [List.foldl_cons,foldl_push ns];simp [ByteArray.push]
theorem bytes_ok (hw:RW tt E Pp objs W) {e:TypeId} (hc:cksOf tt e=[.int .u8]) {v:Value} {d:D} (h:RD tt Pp (.slice e) v d):
 ∃ b:ByteArray,b.data.toList=std.bstr d∧(∃ a l c,v= .slice a l c)∧∀ w,W w→(Conv.bytesToString v).run P w= .ok (.string b) w:=by
 cases h with
 |slnil=>exact ⟨.empty,rfl,⟨_,_,_,rfl⟩,fun w _=>by simp [Conv.bytesToString,Sem.run_pure]⟩
 |sl0 _ ad=>exact ⟨.empty,rfl,⟨_,_,_,rfl⟩,fun w _=>run_bytesToString w ad 0 0 [] (by simp [loadCells,loadCellsFrom,Sem.run_pure])⟩
 |sl _ b o len cap rows vf hl hcap hrow hpi hrd=>
  obtain ⟨ns,hns⟩:∃ ns:List Int,ns=rows.map byteR:=⟨_,rfl⟩
  have hv:∀ i,i<len→∃ n,vf i 0= .int .u8 n∧ns[i]? =some n:=by
   intro i hi
   have hri:rows[i]? =some (rows[i]'(by omega)):=List.getElem?_eq_getElem (by omega)
   have h1:=hrow _ _ hri
   rw [hc] at h1
   obtain ⟨x,hx⟩:∃ x,rows[i]'(by omega)=[x]:=by
    match hr:rows[i]'(by omega),h1 with
    |[x],_=>exact ⟨x,rfl⟩
   have h2:=hrd i 0 _ x (.int .u8) hri (by rw [hx];rfl) (by rw [hc];rfl)
   generalize hvi:vf i 0=u at h2
   cases h2 with
   |int _ n=>exact ⟨n,rfl,by rw [hns,List.getElem?_map,hri,hx];rfl⟩
  have hlen:ns.length=len:=by rw [hns,List.length_map,hl]
  refine ⟨_,foldl_push ns .empty |>.trans ?_,⟨_,_,_,rfl⟩,fun w hW=>run_bytesToString w ⟨b,o,none⟩ len cap ns ?_⟩
  ·rw [hns];simp [std,rowsD,List.map_map,Function.comp_def]
  ·have:=run_loadCells_list (P:=P) w ⟨b,o,none⟩ (ns.map (Value.int .u8)) (fun j v hj=> ?_)
   ·rw [List.length_map,hlen] at this;exact this
   ·rw [List.getElem?_map] at hj
    have hjl:j<len:=by
     rcases Nat.lt_or_ge j len with h'|h'
     ·exact h'
     ·rw [List.getElem?_eq_none (by omega)] at hj;simp at hj
    obtain ⟨n,e1,e2⟩:=hv j hjl
    rw [e2] at hj;simp at hj;subst hj
    have:=hw.piN hW (hpi j 0 hjl (by rw [hc];decide))
    rw [add_none,←e1,←this,hc];simp
theorem convert_ok (htt:TtOk P tt) (hw:RW tt E Pp objs W) {a:Act} {s:Slots} (hs:∀ t,VR tt E Pp (a.tmps.getD t undef) (look s t)) {src dst:TypeId} {x:Operand} {ty:TypeId} {K:PV→Prop}
 (h:pureOp std tt (.convert src dst x) ty s objs K):Gives' P tt E Pp W (convert src dst (a.eval x)) K:=by
 simp only [pureOp] at h
 have hx:=ev_ok hs x
 generalize a.eval x=v at*
 split at h
 ·rename_i ti0 ti h0 h1
  obtain ⟨i0,_,d0,hi0,_,_,_,_,_,hd0,_⟩:=(htt _ _ h0).info
  split at h
  ·rename_i k k' n hk hn
   rw [hn] at hx
   have hd:=(htt _ _ h1).int hk
   cases hx
   have hk':P.intKind dst=k:=by simp [Program.intKind,hd]
   have hr:=fun w=>run_convert_int (P:=P) w src dst k' n (by simp [hd0]) (by rw [hk'];exact hd)
   rw [hk'] at hr
   rcases h with ⟨hr',h⟩|h
   ·exact ⟨.int k n,_,fun w _=>by rw [hr,wrap_in hr'],.int _ _,h trivial⟩
   ·exact ⟨.int k (k.wrap n),_,fun w _=>hr w,.int _ _,h trivial⟩
  ·rename_i e d hk hn
   rw [hn] at hx
   split at h
   ·exact h.elim
   rename_i e' hsl
   split at h
   ·exact h.elim
   rename_i ei hei
   split at h
   ·rename_i hu8
    cases hb:isStr ti&&nb e e' with
    |false=>rw [hb] at h;exact h.elim
    |true=>
     rw [hb] at h
     simp only [Bool.and_eq_true] at hb
     have he:=nb_of hb.2
     subst he
     have hd:=(htt _ _ h1).str hb.1
     have hu:=(htt _ _ hei).int hu8
     have hs':=((htt _ _ h0).slice hsl).1
     have hck:cksOf tt e=[.int .u8]:=by
      unfold cksOf;rw [hei];simp only
      unfold intOfTi at hu8
      split at hu8
      ·rename_i e1;cases hu8;exact e1
      ·cases hu8
     cases hx with
     |lst _ _ _ hrd=>
      obtain ⟨b,hb1,⟨a1,l1,c1,rfl⟩,hb2⟩:=bytes_ok (P:=P) hw hck hrd
      refine ⟨.string b,_,fun w hW=> ?_,?_,h⟩
      ·rw [run_convert_bytes_string w src dst e a1 l1 c1 hs' hu hd];exact hb2 w hW
      ·have:VR tt E Pp (.string b) (.str (std.bstr d)):=by rw [← hb1];exact .str b
       exact this
   ·exact h.elim
  ·exact h.elim
 ·exact h.elim
theorem pureOp_ok (htt:TtOk P tt) (hw:RW tt E Pp objs W) {a:Act} {s:Slots} (hs:∀ t,VR tt E Pp (a.tmps.getD t undef) (look s t)) {o:Oper} {K:PV→Prop}
 (h:pureOp std tt o.op o.type s objs K):Gives P tt E Pp W (execOp a.eval o) K:=by
 obtain ⟨dst,op,ty,pos,after,guard⟩:=o
 simp only at h
 cases op with
 |move x=>exact ⟨_,_,fun _ _=>rfl,evM_ok hs _ _,h⟩
 |assign x=>exact ⟨_,_,fun _ _=>rfl,evM_ok hs _ _,h⟩
 |load t x=>exact (load_ok htt hw hs h).lift
 |binOp op t x y yt=>exact (binOp_ok htt hs h).lift
 |convert src dst x=>exact (convert_ok htt hw hs h).lift
 |fieldAddr t x f=>exact (fieldAddr_ok htt hs h).lift
 |field t x f=>exact (field_ok htt hs h).lift
 |indexAddr t x i=>exact (indexAddr_ok htt hw hs h).lift
 |build t ps=>exact (build_ok htt hs h).lift
 |index t x i=>exact (index_ok htt hs h).lift
 |slice t x lo hi mx=>exact (slice_ok htt hw hs h).lift
 |pick c x y=>
  have hc:=ev_ok hs c
  have hx:=ev_ok hs x
  have hy:=ev_ok hs y
  simp only [pureOp] at h
  simp only [execOp]
  generalize a.eval c=vc at*
  generalize a.eval x=vx at*
  generalize a.eval y=vy at*
  split at h
  ·rename_i e;rw [e] at hc;cases hc;exact ⟨vx,_,by intro w _;simp [asBool],hx,h⟩
  ·rename_i e;rw [e] at hc;cases hc;exact ⟨vy,_,by intro w _;simp [asBool],hy,h⟩
  ·rename_i b e;rw [e] at hc;cases hc
   split at h<;>first
    |exact h.elim
    |(rename_i m n ex ey
      rw [ex] at hx;rw [ey] at hy
      cases hx;cases hy
      refine ⟨.bool (bif b then m else n),_,fun w _=> ?_,.bool _,h⟩
      cases b<;>simp [asBool])
  ·exact h.elim
 |nilCheck x=>
  have hx:=ev_ok hs x
  simp only [pureOp] at h
  simp only [execOp]
  generalize a.eval x=v at*
  split at h
  ·rename_i t d e;rw [e] at hx
   obtain ⟨hn,h⟩:=h
   cases hx with
   |dptr _ _ _ hr=>
    cases hr with
    |pnil=>simp at hn
    |ptr _ b o ds vf hl hpi hrd=>exact ⟨_,_,fun _ _=>rfl,by simpa using VR.dpp t _ 0 b o (.ptr _ b o ds vf hl hpi hrd),h⟩
  ·rename_i b off e;rw [e] at hx
   cases hx with
   |box _ _ _ _ hE hu=>
    cases hb:nle off slcM with
    |false=>rw [hb] at h;exact h.elim
    |true=>
     rw [hb] at h
     obtain rfl:=hu.get hb
     exact ⟨_,_,fun _ _=>rfl,.box _ _ _ _ hE (.mk hb),h⟩
  ·rename_i e' d i off e;rw [e] at hx
   cases hx with
   |eptr _ _ _ _ _ _ _ _ hr h0 h1=>exact ⟨_,_,fun _ _=>rfl,.eptr _ _ _ _ _ _ _ _ hr h0 h1,h⟩
  ·rename_i e' r i off e;rw [e] at hx
   cases hx with
   |rptr _ _ _ _ _ _ _ _ _ hE h0 hu=>
    cases hm:nb off slcM with
    |true=>rw [hm] at h;exact h.elim
    |false=>
    rw [hm] at h
    obtain ⟨rfl,h1⟩:=hu.get hm
    exact ⟨_,_,fun _ _=>rfl,.rptr _ _ _ _ _ _ _ _ _ hE h0 (.mk rfl hm h1),h⟩
  ·rename_i cs off e;rw [e] at hx
   cases hx with
   |pptr _ _ _ _ _ _ hu hl hp=>
    cases hm:nb off slcM with
    |true=>rw [hm] at h;exact h.elim
    |false=>
     rw [hm] at h
     obtain rfl:=hu.get hm
     exact ⟨_,_,fun _ _=>rfl,.pptr _ _ _ _ _ _ hu hl hp,h⟩
  ·rename_i t d off e;rw [e] at hx
   cases hx with
   |dpp _ _ _ _ _ hr=>exact ⟨_,_,fun _ _=>rfl,.dpp _ _ _ _ _ hr,h⟩
  ·rename_i f cs e;rw [e] at hx
   cases hx with
   |clos _ f vs _ hu hl=>
    refine ⟨_,_,fun _ _=> ?_,.clos _ _ _ _ hu hl,h⟩
    rcases Nat.lt_or_ge f bndM with hb|hb
    ·rw [hu.1 hb];rfl
    ·rw [hu.2 hb];rfl
  ·exact h.elim
 |unOp op t x=>
  have hx:=ev_ok hs x
  simp only [pureOp] at h
  simp only [execOp]
  generalize a.eval x=v at*
  refine Gives'.lift ?_
  split at h
  ·rename_i b e;rw [e] at hx;cases hx;exact ⟨.bool !b,_,by intro w _;simp [Op.unary],.bool _,h⟩
  ·rename_i e;rw [e] at hx;cases hx;exact ⟨.bool false,_,by intro w _;simp [Op.unary],.bl _,h⟩
  ·rename_i e;rw [e] at hx;cases hx;exact ⟨.bool true,_,by intro w _;simp [Op.unary],.bl _,h⟩
  ·rename_i k n e;rw [e] at hx;cases hx
   obtain ⟨hr,h⟩:=h
   exact ⟨.int k (0-n),_,by intro w _;simp only [Op.unary,Op.intArith,wrap_in hr,Sem.run_pure],.int _ _,h⟩
  ·exact h.elim
 |makeFunc f first caps=>
  simp only [pureOp] at h
  cases f with
  |func f=>
   simp only at h
   split at h
   ·rename_i e
    have hf:first= #[]:=by cases first;simp at e;simp [e]
    subst hf
    cases hb:nlt f bndM with
    |false=>rw [hb] at h;exact h.elim
    |true=>
    rw [hb] at h
    refine ⟨.func (.func f) #[] ⟨caps.toList.map a.eval⟩,_,fun w _=> ?_,.clos _ _ _ _ (closV.mk hb) (evs_ok hs _),h⟩
    have:caps.map a.eval=⟨caps.toList.map a.eval⟩:=by apply Array.ext';simp
    simp [execOp,Instr.makeFunc,this]
   ·split at h
    ·rename_i e
     have hf:caps= #[]:=by cases caps;simp at e;simp [e]
     subst hf
     refine ⟨.func (.func f) ⟨first.toList.map a.eval⟩ #[],_,fun w _=> ?_,.clos _ _ _ _ closV.bnd (evs_ok hs _),h⟩
     have:first.map a.eval=⟨first.toList.map a.eval⟩:=by apply Array.ext';simp
     simp [execOp,Instr.makeFunc,this]
    ·exact h.elim
  |_=>exact h.elim
 |extract x i=>
  have hx:=ev_ok hs x
  simp only [pureOp] at h
  simp only [execOp]
  generalize a.eval x=v at*
  refine Gives'.lift ?_
  split at h
  ·rename_i vs e;rw [e] at hx
   cases hb:nlt i (lenL vs) with
   |false=>rw [hb] at h;exact h.elim
   |true=>
    rw [hb] at h
    have hb:i+1≤lenL vs:=nle_of hb
    rw [lenL_eq] at hb
    cases hx with
    |tup us _ hl=>
     obtain ⟨u,hu,hv⟩:=hl.get (j:=i) (p:=vs[i]) (List.getElem?_eq_getElem (by omega))
     refine ⟨u,_,by intro w _;simp [Instr.extract,hu],hv,?_⟩
     rw [getP_eq] at h
     simpa [List.getD,List.getElem?_eq_getElem (show i<vs.length by omega)] using h
  ·exact h.elim
 |call c=>
  obtain ⟨callee,as,ts⟩:=c
  cases callee with
  |value f=>exact h.elim
  |invoke r m=>exact h.elim
  |builtin b=>
   cases b<;>try exact h.elim
   case len=>
    have:=(len_ok htt hw hs h).lift
    simpa [execOp,resolve,invoke,builtin] using this
   case max=>
    simp only [pureOp] at h
    split at h
    ·rename_i x y hx
     obtain rfl:as= #[x,y]:=by cases as;simp at hx;simp [hx]
     have h1:=ev_ok hs x
     have h2:=ev_ok hs y
     split at h
     ·rename_i k m k' n ex ey
      rw [ex] at h1;rw [ey] at h2
      refine ⟨.int k (if n>m then n else m),_,fun w _=> ?_,.int _ _,h⟩
      simp only [execOp,resolve,pure_bind,invoke,builtin]
      generalize hgx:a.eval x=vx at*
      generalize hgy:a.eval y=vy at*
      cases h1;cases h2
      simp [hgx,hgy,max_run]
     ·exact h.elim
    ·exact h.elim
   case min=>
    simp only [pureOp] at h
    split at h
    ·rename_i x y hx
     obtain rfl:as= #[x,y]:=by cases as;simp at hx;simp [hx]
     have h1:=ev_ok hs x
     have h2:=ev_ok hs y
     split at h
     ·rename_i k m k' n ex ey
      rw [ex] at h1;rw [ey] at h2
      refine ⟨.int k (if n<m then n else m),_,fun w _=> ?_,.int _ _,h⟩
      simp only [execOp,resolve,pure_bind,invoke,builtin]
      generalize hgx:a.eval x=vx at*
      generalize hgy:a.eval y=vy at*
      cases h1;cases h2
      simp [hgx,hgy,min_run]
     ·exact h.elim
    ·exact h.elim
 |_=>exact h.elim
theorem OR.frz {e:TypeId} {d:D} {g o len cap:Nat} (h:OR tt E Pp w (.row g o len cap) (.row e d false)):RD tt Pp (.slice e) (.slice (some ⟨g,o,none⟩) len cap) d:=by
 obtain ⟨vs,T,rows,hb,rfl,hl,hcap,hsz,hrow,_,hf⟩:=h
 obtain ⟨hf1,_⟩:=hf rfl
 refine .sl e g o len cap rows (fun i j=>vs.getD (o+i*(cksOf tt e).length+j) undef) hl hcap (fun i row hi=>(hrow i row hi).1) ?_ ?_
 ·intro i j hi hj
  have hri:rows[i]? =some rows[i]:=List.getElem?_eq_getElem (by omega)
  obtain ⟨hlr,hc⟩:=hrow i _ hri
  obtain ⟨v,hv,_⟩:=hc j _ _ (List.getElem?_eq_getElem (by omega)) (List.getElem?_eq_getElem hj)
  have:=hf1 i j v hi hj hv
  simpa [List.getD,hv] using this
 ·intro i j row d ck hi hj hck
  obtain ⟨v,hv,hr⟩:=(hrow i row hi).2 j d ck hj hck
  simpa [List.getD,hv] using hr
theorem WR.rw (hw:WR tt E Pp objs w):RW tt E Pp objs (fun w'=>w'=w):=by
 refine ⟨?_,?_,?_,?_,?_,?_⟩
 ·rintro _ rfl ad v h;exact hw.pi ad v h
 ·intro i cs b ho hE
  obtain ⟨ri,hri,hor⟩:=hw.ob i _ ho rfl
  rw [hE] at hri;cases hri
  obtain ⟨vs,T,hb,hvs,_⟩:=hor
  exact ⟨vs,hvs,by rintro _ rfl j v hj;rw [cell_of_block hb];exact hj⟩
 ·intro i e d wr ho hE
  obtain ⟨ri,hri,hor⟩:=hw.ob i _ ho rfl
  rw [hE] at hri;cases hri
  exact hor
 ·intro i e d wr g o len cap ho hE
  obtain ⟨ri,hri,hor⟩:=hw.ob i _ ho rfl
  rw [hE] at hri;cases hri
  obtain ⟨vs,T,rows,hb,hd,hl,hcap,hsz,hrow,_,_⟩:=hor
  exact ⟨vs,rows,hd,hl,hrow,by rintro _ rfl j v hj _ _;rw [cell_of_block hb];exact hj⟩
 ·intro i e d g o len cap ho hE
  obtain ⟨ri,hri,hor⟩:=hw.ob i _ ho rfl
  rw [hE] at hri;cases hri
  exact OR.frz hor
 ·rintro i kc e d b bs cl ho hE _ rfl
  obtain ⟨ri,hri,hor⟩:=hw.ob i _ ho rfl
  rw [hE] at hri;cases hri
  obtain ⟨es,rows,hb,hd,hl,_⟩:=hor
  exact ⟨es,_,rows,hb,hd,by simpa using hl⟩
end
end Go.VC
end

section
namespace Go.VC
open Go
structure St where
 s:Slots
 o:List Ob
structure Base where
 w0:World
 E0:List RI
 P0:Per
 own0:Nat→Prop
 d0:List Deferred:=[]
def PNew (own:Nat→Prop) (w:World) (Pp Pp':Per):Prop:=∀ ad v,Pp' ad v→Pp ad v∨w.heap.size≤ad.block∨own ad.block
def FreshO (own:Nat→Prop) (w:World) (E':List RI) (objs':List Ob):Prop:=
 ∀ (i:Nat) o ri b,objs'[i]? =some o→o.live=true→E'[i]? =some ri→ri.block? =some b→w.heap.size≤b∨own b
structure Sim (tt:TypeId→Option TI) (N:Nat) (B:Base) (E:List RI) (Pp:Per) (st:St) (a:Act) (w:World):Prop where
 wr:WR tt E Pp st.o w
 slots:∀ t,VR tt E Pp (a.tmps.getD t undef) (look st.s t)
 size:a.tmps.size=N
 defers:a.defers=B.d0
 pre:Eok B.E0 E
 per:∀ ad v,B.P0 ad v→Pp ad v
 fr:Fr B.own0 B.w0 w
 pnew:PNew B.own0 B.w0 B.P0 Pp
 fresh:FreshO B.own0 B.w0 E st.o
structure SimW (tt:TypeId→Option TI) (B:Base) (E:List RI) (Pp:Per) (objs:List Ob) (w:World):Prop where
 wr:WR tt E Pp objs w
 pre:Eok B.E0 E
 per:∀ ad v,B.P0 ad v→Pp ad v
 fr:Fr B.own0 B.w0 w
 pnew:PNew B.own0 B.w0 B.P0 Pp
 fresh:FreshO B.own0 B.w0 E objs
section
variable {P:Program} {tt:TypeId→Option TI} {N:Nat} {B:Base} {E:List RI} {Pp:Per} {objs:List Ob} {w:World} {st:St} {a:Act}
theorem Sim.toW (h:Sim tt N B E Pp st a w):SimW tt B E Pp st.o w:=⟨h.wr,h.pre,h.per,h.fr,h.pnew,h.fresh⟩
theorem SimW.sim (h:SimW tt B E Pp st.o w) (hs:∀ t,VR tt E Pp (a.tmps.getD t undef) (look st.s t)) (hn:a.tmps.size=N) (hd:a.defers=B.d0):Sim tt N B E Pp st a w:=
 ⟨h.wr,hs,hn,hd,h.pre,h.per,h.fr,h.pnew,h.fresh⟩
theorem own_lt (hw:WR tt E Pp objs w) {b:Nat} (h:own E objs b):b<w.heap.size:=by
 obtain ⟨i,o,ri,ho,hl,hE,hb⟩:=h
 obtain ⟨ri',hE',hor⟩:=hw.ob i o ho hl
 rw [hE] at hE';cases hE'
 have lt:∀ (x:Obj),w.heap[b]? =some x→b<w.heap.size:=by
  intro x hx
  rcases Nat.lt_or_ge b w.heap.size with h'|h'
  ·exact h'
  ·simp [Array.getElem?_eq_none h'] at hx
 cases ri<;>cases o<;>simp [RI.block?] at hb<;>subst hb<;>simp only [OR] at hor
 ·obtain ⟨_,_,h,_⟩:=hor;exact lt _ h
 ·obtain ⟨_,_,_,h,_⟩:=hor;exact lt _ h
 ·obtain ⟨_,h,_⟩:=hor;exact lt _ h
 ·obtain ⟨_,_,h,_⟩:=hor;exact lt _ h
 ·obtain ⟨_,_,_,_,_,h,_⟩:=hor;exact lt _ h
 ·obtain ⟨_,_,⟨_,_,_,_,_,h⟩|⟨_,_,_,_,_,_,h,_⟩⟩:=hor<;>exact lt _ h
 ·obtain ⟨_,h,_⟩:=hor;exact lt _ h
theorem OR.frameK {w':World} {Pp':Per} {E':List RI} {ri:RI} {o:Ob} (hE:Eok E E') (hit:∀ m s,o= .iter m s→∀ x,E[m]? =some x→E'[m]? =some x) (hp:∀ ad v,Pp ad v→Pp' ad v)
 (hb:∀ b,ri.block? =some b→w'.heap[b]? =w.heap[b]?) (hnew:∀ b,ri.block? =some b→∀ ad v,Pp' ad v→ad.block=b→Pp ad v) (h:OR tt E Pp w ri o):OR tt E' Pp' w' ri o:=by
 cases ri<;>cases o<;>simp only [OR] at h ⊢
 case box.box b cs=>
  obtain ⟨vs,T,h1,h2,h3,h4⟩:=h
  exact ⟨vs,T,by rw [hb b rfl];exact h1,(VR.mono_all hE hp).2 h2,fun ad v hv he=>h3 ad v (hnew b rfl ad v hv he) he,h4⟩
 case row0.row e d wr=>exact h
 case map.box b borns clock cs=>
  obtain ⟨es,h1,h2,h3,h4,h5,h6⟩:=h
  exact ⟨es,by rw [hb b rfl];exact h1,(VR.mono_all hE hp).2 h2,h3,h4,h5,fun ad v hv he=>h6 ad v (hnew b rfl ad v hv he) he⟩
 case row.row g o len cap e d wr=>
  obtain ⟨vs,T,rows,h1,h2,h3,h4,h5,h6,h7,h8⟩:=h
  refine ⟨vs,T,rows,by rw [hb g rfl];exact h1,h2,h3,h4,h5,?_,?_,?_⟩
  ·intro i row hi
   obtain ⟨hl,hc⟩:=h6 i row hi
   refine ⟨hl,fun j d ck hj hck=> ?_⟩
   obtain ⟨v,hv,hr⟩:=hc j d ck hj hck
   exact ⟨v,hv,hr.mono hp⟩
  ·intro hw ad v hv he
   exact h7 hw ad v (hnew g rfl ad v hv he) he
  ·intro hw
   obtain ⟨h9,h10⟩:=h8 hw
   exact ⟨fun i j v a b c=>hp _ _ (h9 i j v a b c),fun ad v hv he=>h10 ad v (hnew g rfl ad v hv he) he⟩
 case map.map b borns clock kc e d=>
  obtain ⟨es,rows,h1,h2,h3,h4,h5,h6,h7,h8⟩:=h
  refine ⟨es,rows,by rw [hb b rfl];exact h1,h2,h3,?_,h5,h6,h7,fun ad v hv he=>h8 ad v (hnew b rfl ad v hv he) he⟩
  intro i x row hx hrow
  obtain ⟨kd,vd,e1,e2,e3,e4,e5,e6⟩:=h4 i x row hx hrow
  exact ⟨kd,vd,e1,e2.mono hp,e3,e4,fun j d ck v a b c=>(e5 j d ck v a b c).mono hp,e6⟩
 case iter.iter b m seen=>
  obtain ⟨bm,borns,clock,ls,h1,h2,h3⟩:=h
  exact ⟨bm,borns,clock,ls,hit _ _ rfl _ h1,by rw [hb b rfl];exact h2,h3⟩
 case iter.diter b e d seen=>
  obtain ⟨ls,h1,⟨h2,h3,n,ss,m,h4⟩|⟨bm,es,clock,rows,h2,h3,h4,h5⟩⟩:=h
  ·exact ⟨ls,h1,.inl ⟨h2,h3,n,ss,m,by rw [hb b rfl];exact h4⟩⟩
  ·exact ⟨ls,h1,.inr ⟨bm,es,clock,rows,h2,h3.mono hp,by rw [hb b rfl];exact h4,h5⟩⟩
 case loop.loop b n ps c1 c2 s j=>
  obtain ⟨r,h1,h2,h3⟩:=h
  exact ⟨r,by rw [hb b rfl];exact h1,h2,fun t=>(VR.mono_all hE hp).1 (h3 t)⟩
theorem OR.frame {w':World} {Pp':Per} {E':List RI} {ri:RI} {o:Ob} (hE:∀ (i:Nat) x,E[i]? =some x→E'[i]? =some x) (hp:∀ ad v,Pp ad v→Pp' ad v)
 (hb:∀ b,ri.block? =some b→w'.heap[b]? =w.heap[b]?) (hnew:∀ b,ri.block? =some b→∀ ad v,Pp' ad v→ad.block=b→Pp ad v) (h:OR tt E Pp w ri o):OR tt E' Pp' w' ri o:=
 OR.frameK (.of hE) (fun _ _ _ x hx=>hE _ x hx) hp hb hnew h
theorem WR.frame {w':World} {Pp':Per} (h:WR tt E Pp objs w) (hb:∀ b,own E objs b→w'.heap[b]? =w.heap[b]?) (hp:∀ ad v,Pp ad v→Pp' ad v)
 (hnew:∀ ad v,Pp' ad v→Pp ad v∨¬own E objs ad.block) (hpi:∀ ad v,Pp' ad v→pc w' ad=some v):WR tt E Pp' objs w':=by
 refine ⟨h.len,hpi,?_,h.sep,h.glM hp⟩
 intro i o ho hl
 obtain ⟨ri,hri,hor⟩:=h.ob i o ho hl
 refine ⟨ri,hri,OR.frame (fun _ _ h=>h) hp (fun b hbk=>hb b ⟨i,o,ri,ho,hl,hri,hbk⟩) (fun b hbk ad v hv he=> ?_) hor⟩
 rcases hnew ad v hv with h1|h1
 ·exact h1
 ·exact absurd ⟨i,o,ri,ho,hl,hri,by rw [hbk,he]⟩ h1
theorem cell?_same {w w':World} {ad:Addr} (h:w'.heap[ad.block]? =w.heap[ad.block]?):w'.cell? ad=w.cell? ad:=by
 simp [World.cell?,h]
theorem WR.push {ri:RI} {o:Ob} (h:WR tt E Pp objs w) (hor:o.live=true→OR tt (E++[ri]) Pp w ri o) (hsep:∀ b,ri.block? =some b→¬own E objs b):WR tt (E++[ri]) Pp (objs++[o]) w:=by
 have hE:∀ (i:Nat) x,E[i]? =some x→(E++[ri])[i]? =some x:=by
  intro i x hx
  rw [List.getElem?_append_left]
  ·exact hx
  ·rcases Nat.lt_or_ge i E.length with h'|h'
   ·exact h'
   ·rw [List.getElem?_eq_none h'] at hx;simp at hx
 have split:∀ (i:Nat) x,(objs++[o])[i]? =some x→(objs[i]? =some x∧i<objs.length)∨(i=objs.length∧x=o):=by
  intro i x hx
  rcases Nat.lt_trichotomy i objs.length with h'|h'|h'
  ·rw [List.getElem?_append_left h'] at hx;exact .inl ⟨hx,h'⟩
  ·subst h';simp at hx;exact .inr ⟨rfl,hx.symm⟩
  ·rw [List.getElem?_eq_none (by simp;omega)] at hx;simp at hx
 have Eold:∀ (i:Nat),i<objs.length→(E++[ri])[i]? =E[i]? :=fun i hi=>by rw [List.getElem?_append_left (by rw [h.len];exact hi)]
 have Enew:(E++[ri])[objs.length]? =some ri:=by rw [← h.len];simp
 refine ⟨by simp [h.len],h.pi,?_,?_,h.gl⟩
 ·intro i x hx hl
  rcases split i x hx with ⟨h1,_⟩|⟨rfl,rfl⟩
  ·obtain ⟨r,hr,hor'⟩:=h.ob i x h1 hl
   exact ⟨r,hE _ _ hr,OR.frame hE (fun _ _ h=>h) (fun _ _=>rfl) (fun _ _ _ _ h _=>h) hor'⟩
  ·exact ⟨ri,Enew,hor hl⟩
 ·intro i j oi oj ri' rj b hi hj hli hlj hEi hEj hbi hbj
  rcases split i oi hi with ⟨h1,l1⟩|⟨rfl,rfl⟩<;>rcases split j oj hj with ⟨h2,l2⟩|⟨rfl,rfl⟩
  ·rw [Eold i l1] at hEi;rw [Eold j l2] at hEj
   exact h.sep i j oi oj ri' rj b h1 h2 hli hlj hEi hEj hbi hbj
  ·rw [Eold i l1] at hEi;rw [Enew] at hEj;cases hEj
   exact absurd ⟨i,oi,ri',h1,hli,hEi,hbi⟩ (hsep b hbj)
  ·rw [Eold j l2] at hEj;rw [Enew] at hEi;cases hEi
   exact absurd ⟨j,oj,rj,h2,hlj,hEj,hbj⟩ (hsep b hbi)
  ·rfl
theorem mem_push {ri:RI}:∀ (i:Nat) x,E[i]? =some x→(E++[ri])[i]? =some x:=by
 intro i x hx
 rw [List.getElem?_append_left]
 ·exact hx
 ·rcases Nat.lt_or_ge i E.length with h'|h'
  ·exact h'
  ·rw [List.getElem?_eq_none h'] at hx;simp at hx
theorem pre_push {ri:RI} {E0:List RI} (h:Eok E0 E):Eok E0 (E++[ri]):=h.trans (.of mem_push)
theorem FreshO.push {own:Nat→Prop} {w0:World} {ri:RI} {o:Ob} (hl:E.length=objs.length) (h:FreshO own w0 E objs) (hn:∀ b,ri.block? =some b→w0.heap.size≤b∨own b):FreshO own w0 (E++[ri]) (objs++[o]):=by
 intro i x r b hx hlv hr hb
 rcases Nat.lt_trichotomy i objs.length with h'|h'|h'
 ·rw [List.getElem?_append_left h'] at hx
  rw [List.getElem?_append_left (by omega)] at hr
  exact h i x r b hx hlv hr hb
 ·subst h'
  rw [← hl] at hr
  simp at hr;subst hr
  exact hn b hb
 ·rw [List.getElem?_eq_none (by simp;omega)] at hx;simp at hx
theorem SimW.alloc (h:SimW tt B E Pp objs w) (x:Obj):SimW tt B E Pp objs (w.alloc x):=by
 have hold:∀ k,k<w.heap.size→(w.alloc x).heap[k]? =w.heap[k]? :=fun k hk=>RowKit.Below.heap_alloc w x k hk
 refine ⟨?_,h.pre,h.per,?_,h.pnew,h.fresh⟩
 ·refine h.wr.frame (fun b hb=>hold b (own_lt h.wr hb)) (fun _ _ h=>h) (fun _ _ h=>.inl h) (fun ad v hv=> ?_)
  have:=h.wr.pi ad v hv
  rw [pc_same (hold _ (pc_lt this))]
  exact this
 ·exact ⟨h.fr.os,h.fr.tape,h.fr.output,by have:=h.fr.size;simp;omega,fun k hk hn=>(hold k (by have:=h.fr.size;omega)).trans (h.fr.block k hk hn)⟩
theorem SimW.new (h:SimW tt B E Pp objs w) {x:Obj} {ri:RI} {o:Ob} (hb:ri.block? =some w.heap.size) (hor:OR tt (E++[ri]) Pp (w.alloc x) ri o):
 SimW tt B (E++[ri]) Pp (objs++[o]) (w.alloc x):=by
 have h1:=h.alloc x
 refine ⟨h1.wr.push (fun _=>hor) ?_,pre_push h1.pre,h1.per,h1.fr,h1.pnew,h1.fresh.push h1.wr.len ?_⟩
 ·intro b hb2 ho
  rw [hb] at hb2;cases hb2
  have:=own_lt h.wr ho
  omega
 ·intro b hb2
  rw [hb] at hb2;cases hb2
  exact .inl h.fr.size
theorem nopi_new (h:WR tt E Pp objs w):∀ ad v,Pp ad v→ad.block≠w.heap.size:=by
 intro ad v hv
 have:=pc_lt (h.pi ad v hv)
 omega
theorem SimW.lay (h:SimW tt B E Pp objs w) (vs:List Value) (T:TypeId):
 SimW tt B E (fun ad v=>Pp ad v∨(ad.block=w.heap.size∧(w.alloc (.cells ⟨vs⟩ T)).cell? ad=some v)) objs (w.alloc (.cells ⟨vs⟩ T)):=by
 have h1:=h.alloc (.cells ⟨vs⟩ T)
 refine ⟨?_,h1.pre,fun ad v hv=>.inl (h1.per ad v hv),h1.fr,?_,h1.fresh⟩
 ·refine h1.wr.frame (fun _ _=>rfl) (fun _ _ h=>.inl h) ?_ ?_
  ·intro ad v hv
   rcases hv with hv|⟨hv,_⟩
   ·exact .inl hv
   ·refine .inr (fun ho=> ?_)
    have:=own_lt h.wr ho
    omega
  ·intro ad v hv
   rcases hv with hv|⟨_,hv⟩
   ·exact h1.wr.pi ad v hv
   ·exact pc_of_cell hv
 ·intro ad v hv
  rcases hv with hv|⟨hv,_⟩
  ·exact h1.pnew ad v hv
  ·exact .inr (.inl (by rw [hv];exact h.fr.size))
theorem SimW.drew (h:SimW tt B E Pp objs w):SimW tt B E Pp objs w.drew:=
 ⟨h.wr.frame (fun _ _=>rfl) (fun _ _ h=>h) (fun _ _ h=>.inl h) (fun ad v hv=>h.wr.pi ad v hv),h.pre,h.per,
  ⟨h.fr.os,h.fr.tape,h.fr.output,h.fr.size,h.fr.block⟩,h.pnew,h.fresh⟩
end
end Go.VC
end

section
namespace Go.VC
open Go
def anyL {α:Type} (f:α→Bool):List α→Bool|[]=>false|x::l=>f x||anyL f l
def allL {α:Type} (f:α→Bool):List α→Bool|[]=>true|x::l=>f x&&allL f l
def mapL {α β:Type} (f:α→β):List α→List β|[]=>[]|x::l=>f x::mapL f l
def catL {α β:Type} (f:α→List β):List α→List β|[]=>[]|x::l=>app2 (f x) (catL f l)
 where app2:List β→List β→List β|[],k=>k|x::l,k=>x::app2 l k
def appL {α:Type}:List α→List α→List α|[],k=>k|x::l,k=>x::appL l k
def memL (n:Nat):List Nat→Bool|[]=>false|x::l=>nb x n||memL n l
def setO:List Ob→Nat→Ob→List Ob
 |[],_,_=>[]|_::xs,0,y=>y::xs|x::xs,n+1,y=>x::setO xs n y
theorem mapL_eq {α β:Type} (f:α→β) (l:List α):mapL f l=l.map f:=by induction l<;>simp [mapL, *]
theorem appL_eq {α:Type} (l k:List α):appL l k=l++k:=by induction l<;>simp [appL, *]
theorem anyL_eq {α:Type} (f:α→Bool) (l:List α):anyL f l=l.any f:=by induction l<;>simp [anyL, *]
theorem allL_eq {α:Type} (f:α→Bool) (l:List α):allL f l=l.all f:=by induction l<;>simp [allL, *]
theorem catL_eq {α β:Type} (f:α→List β) (l:List α):catL f l=l.flatMap f:=by
 have:∀ (a b:List β),catL.app2 a b=a++b:=by intro a b;induction a<;>simp [catL.app2, *]
 induction l<;>simp_all [catL]
theorem setO_eq (l:List Ob) (n:Nat) (y:Ob):setO l n y=l.set n y:=by
 induction l generalizing n with
 |nil=>simp [setO]
 |cons x xs ih=>cases n<;>simp [setO,ih]
theorem memL_eq (n:Nat) (l:List Nat):memL n l=true↔n∈l:=by
 induction l with
 |nil=>simp [memL]
 |cons x l ih=>
  simp only [memL,Bool.or_eq_true,ih,List.mem_cons]
  constructor
  ·rintro (h|h)
   ·exact .inl (nb_of h).symm
   ·exact .inr h
  ·rintro (h|h)
   ·subst h;exact .inl (nb_refl n)
   ·exact .inr h
def men (r:Nat):Nat→PV→Bool
 |0,_=>true
 |n+1,p=>match p with
  | .agg cs=>anyL (men r n) cs
  | .tup cs=>anyL (men r n) cs
  | .clos _ cs=>anyL (men r n) cs
  | .pptr cs _=>anyL (men r n) cs
  | .box b _=>nb b r
  | .row _ x=>nb x r
  | .rptr _ x _ _=>nb x r
  | .mp x=>nb x r
  | .it x=>nb x r
  | .yld x=>nb x r
  |_=>false
def kill (r:Nat) (p:PV):PV:=bif men r 8 p then .undef else p
def killS (r:Nat):Slots→Slots|[]=>[]|(t,p)::s=>(t,kill r p)::killS r s
def killO (r:Nat):List Ob→List Ob
 |[]=>[]
 | .box cs::l=>.box (mapL (kill r) cs)::killO r l
 | .loop n ps a c s j::l=>.loop n ps a c (killS r s) j::killO r l
 |o::l=>o::killO r l
def sinkP (r:Nat) (e:TypeId) (d:D):Nat→PV→PV
 |0,_=>.undef
 |n+1,p=>match p with
  | .mp x=>bif nb x r then .dmp e d else .mp x
  | .agg cs=>.agg (mapL (sinkP r e d n) cs)
  | .tup cs=>.tup (mapL (sinkP r e d n) cs)
  | .clos f cs=>.clos f (mapL (sinkP r e d n) cs)
  | .pptr cs off=>.pptr (mapL (sinkP r e d n) cs) off
  |p=>p
def sink1 (r:Nat) (e:TypeId) (d:D) (p:PV):PV:=bif men r 8 p then sinkP r e d 8 p else p
def sinkS (r:Nat) (e:TypeId) (d:D):Slots→Slots|[]=>[]|(t,p)::s=>(t,sink1 r e d p)::sinkS r e d s
def sinkO1 (r:Nat) (e:TypeId) (d:D):Ob→Ob
 | .box cs=>.box (mapL (sink1 r e d) cs)
 | .loop n ps a c s j=>.loop n ps a c (sinkS r e d s) j
 | .iter m s=>bif nb m r then .diter e d s else .iter m s
 |o=>o
def sinkOs (r:Nat) (e:TypeId) (d:D) (l:List Ob):List Ob:=setO (mapL (sinkO1 r e d) l) r .dead
def sinkSt (r:Nat) (st:St):St:=match getO st.o r with
 | .map kc e d=>bif decide (kc= .str) then ⟨sinkS r e d st.s,sinkOs r e d st.o⟩ else st
 |_=>st
def sinks:List Nat→St→St
 |[],st=>st
 |r::l,st=>sinks l (sinkSt r st)
def mpsIn:Nat→PV→List Nat
 |0,_=>[]
 |n+1,p=>match p with
  | .mp r=>[r]
  | .agg cs=>catL (mpsIn n) cs
  |_=>[]
def mpsAgg:PV→List Nat
 | .tup cs=>catL mpsAgg1 cs
 | .agg cs=>catL (mpsIn 8) cs
 |_=>[]
 where mpsAgg1:PV→List Nat
 | .agg cs=>catL (mpsIn 8) cs
 |_=>[]
def frz (objs:List Ob):Nat→PV→PV
 |0,_=>.undef
 |n+1,p=>match p with
  | .row e r=>match getO objs r with
   | .row e' d _=>bif nb e e' then .lst e d else .undef
   |_=>.undef
  | .box b off=>match getO objs b with
   | .box cs=>bif nle slcM off then .undef else .pptr (mapL (frz objs n) cs) off
   |_=>.undef
  | .lsf e d=>.lst e d
  | .agg cs=>.agg (mapL (frz objs n) cs)
  | .tup cs=>.tup (mapL (frz objs n) cs)
  | .clos f cs=>.clos f (mapL (frz objs n) cs)
  | .pptr cs off=>.pptr (mapL (frz objs n) cs) off
  | .rptr _ _ _ _=>.undef
  | .mp _=>.undef
  | .it _=>.undef
  | .yld _=>.undef
  |p=>p
def ids (objs:List Ob):Nat→PV→List Nat
 |0,_=>[]
 |n+1,p=>match p with
  | .row _ r=>[r]
  | .box b _=>b::(match getO objs b with| .box cs=>catL (ids objs n) cs|_=>[])
  | .agg cs=>catL (ids objs n) cs
  | .tup cs=>catL (ids objs n) cs
  | .clos _ cs=>catL (ids objs n) cs
  | .pptr cs _=>catL (ids objs n) cs
  |_=>[]
def wk:Nat→PV→PV
 |0,p=>p
 |n+1,p=>match p with
  | .bl b=>.bool b
  | .agg cs=>.agg (mapL (wk n) cs)
  | .tup cs=>.tup (mapL (wk n) cs)
  |p=>p
def plain:Nat→PV→Bool
 |0,_=>false
 |n+1,p=>match p with
  | .undef=>true
  | .int _ _=>true
  | .bl _=>true
  | .bool _=>true
  | .str _=>true
  | .agg cs=>allL (plain n) cs
  | .tup cs=>allL (plain n) cs
  | .nilp=>true
  | .nilm=>true
  | .nilf=>true
  |_=>false
def hurt1:Ob→Ob
 | .row e d _=>.row e d false
 | .box _=>.dead
 |o=>o
def hurtO (F:List Nat):Nat→List Ob→List Ob
 |_,[]=>[]
 |i,o::l=>(bif memL i F then hurt1 o else o)::hurtO F (i+1) l
def hurtS (F:List Nat) (objs:List Ob):Slots→Slots
 |[]=>[]
 |(t,p)::s=>(t,bif anyL (fun b=>(match getO objs b with| .box _=>men b 8 p|_=>false)) F then (bif allL (fun i=>memL i F) (ids objs 8 p) then frz objs 8 p else .undef) else p)::hurtS F objs s
def litP (objs:List Ob) (r:Nat):PV→PV
 | .row e x=>bif nb x r then frz objs 8 (.row e x) else .row e x
 |p=>p
def litS (objs:List Ob) (r:Nat):Slots→Slots
 |[]=>[]
 |(t,p)::s=>(t,litP objs r p)::litS objs r s
theorem look_litS (objs:List Ob) (r:Nat):∀ (s:Slots) (t:Nat),look (litS objs r s) t=litP objs r (look s t)
 |[],t=>rfl
 |(k,p)::s,t=>by
  simp only [litS,look]
  have ih:=look_litS objs r s t
  split<;>simp_all
structure Cfg where
 tt:TypeId→Option TI
 n:Nat -- the number of slots
 own:List Nat:=[] -- slots whose slices the call owns
 keep:List FuncId:=[] -- functions that turn the row that they are handed
 live:List FuncId:=[] -- functions that are handed objects as they are
 n0:Nat:=0 -- the number of objects that the call was handed
 sch:List (Nat×List Nat):=[] -- in which order a region of any order is run
 cuts:List Nat:=[] -- regions behind which the states are drawn together
 rnd:Bool:=false -- the code is a round's
 hard:List Nat:=[] -- slots of draw regions' operations that are no floats
 view:List Nat:=[] -- slots of slices that are looked at only
 pers:Bool:=false -- operations in any order look at persistent memory alone
 rng:List Nat:=[] -- slots that a range over a function keeps (none: all)
 frs:List Nat:=[] -- functions whose new rows of plain cells hold nothing that was handed
 lnd:List Nat:=[] -- element types whose rows,handed,stay the caller's
 snk:List Nat:=[] -- slots whose maps are data from a loop's start on
 mrg:Bool:=false -- states of several orders are drawn together where they are the same
def ren (f:Nat→Nat):Nat→PV→PV
 |0,_=>.undef
 |k+1,p=>match p with
  | .row e r=>.row e (f r)
  | .mp r=>.mp (f r)
  | .agg cs=>.agg (mapL (ren f k) cs)
  | .tup cs=>.tup (mapL (ren f k) cs)
  | .clos g cs=>.clos g (mapL (ren f k) cs)
  | .pptr cs off=>.pptr (mapL (ren f k) cs) off
  | .box _ _=>.undef
  | .rptr _ _ _ _=>.undef
  | .it _=>.undef
  | .yld _=>.undef
  |p=>p
def ixOf:List Nat→Nat→Nat→Option Nat
 |[],_,_=>none
 |x::l,k,n=>match nb x n with
  |true=>some k
  |false=>ixOf l (k+1) n
def pickP (ps:List Nat):Nat→PV→PV
 |0,_=>.undef
 |n+1,p=>match p with
  | .row e r=>(match ixOf ps 0 r with|some k=>.row e k|none=>.undef)
  | .mp r=>(match ixOf ps 0 r with|some k=>.mp k|none=>.undef)
  | .it r=>(match ixOf ps 0 r with|some k=>.it k|none=>.undef)
  | .yld r=>(match ixOf ps 0 r with|some k=>.yld k|none=>.undef)
  | .box r off=>(match ixOf ps 0 r with|some k=>.box k off|none=>.undef)
  | .rptr e r i off=>(match ixOf ps 0 r with|some k=>.rptr e k i off|none=>.undef)
  | .agg cs=>.agg (mapL (pickP ps n) cs)
  | .tup cs=>.tup (mapL (pickP ps n) cs)
  | .clos g cs=>.clos g (mapL (pickP ps n) cs)
  | .pptr cs off=>.pptr (mapL (pickP ps n) cs) off
  |p=>p
def pickS (ps:List Nat):Slots→Slots
 |[]=>[]
 |(t,p)::s=>(t,pickP ps 8 p)::pickS ps s
def pickO (ps:List Nat):Ob→Ob
 | .box cs=>.box (mapL (pickP ps 8) cs)
 | .loop n qs a c s j=>.loop n qs a c (pickS ps s) j
 | .iter m s=>(match ixOf ps 0 m with|some k=>.iter k s|none=>.dead)
 |o=>o
def renP (f:Nat→Nat):Nat→PV→PV
 |0,_=>.undef
 |k+1,p=>match p with
  | .row e r=>.row e (f r)
  | .mp r=>.mp (f r)
  | .it r=>.it (f r)
  | .yld r=>.yld (f r)
  | .box r off=>.box (f r) off
  | .rptr e r i off=>.rptr e (f r) i off
  | .agg cs=>.agg (mapL (renP f k) cs)
  | .tup cs=>.tup (mapL (renP f k) cs)
  | .clos g cs=>.clos g (mapL (renP f k) cs)
  | .pptr cs off=>.pptr (mapL (renP f k) cs) off
  |p=>p
def renS (f:Nat→Nat):Slots→Slots
 |[]=>[]
 |(t,p)::s=>(t,renP f 8 p)::renS f s
def renO (f:Nat→Nat):Ob→Ob
 | .box cs=>.box (mapL (renP f 8) cs)
 | .loop n qs a c s j=>.loop n qs a c (renS f s) j
 | .iter _ _=>.dead
 |o=>o
def nodupL:List Nat→Bool
 |[]=>true
 |x::l=>bif memL x l then false else nodupL l
def backIx (n:Nat):List Nat→Nat→Nat
 |[],j=>n+j
 |r::_,0=>r
 |_::F,j+1=>backIx n F j
def putF:List Nat→List Ob→List Ob→List Ob
 |[],l,xs=>appL l xs
 |r::F,l,x::xs=>putF F (setO l r x) xs
 |_::_,l,[]=>l
def endIts (F:List Nat):List Ob→List Ob
 |[]=>[]
 | .iter m s::l=>(bif memL m F then .dead else .iter m s)::endIts F l
 |o::l=>o::endIts F l
def rowsIn:Nat→PV→List Nat
 |0,_=>[]
 |n+1,p=>match p with
  | .row _ r=>[r]
  | .agg cs=>catL (rowsIn n) cs
  | .tup cs=>catL (rowsIn n) cs
  |_=>[]
def frzR (objs:List Ob):Nat→PV→PV
 |0,_=>.undef
 |n+1,p=>match p with
  | .row e r=>match getO objs r with
   | .row e' d _=>bif nb e e' then .lst e d else .undef
   |_=>.undef
  | .agg cs=>.agg (mapL (frzR objs n) cs)
  | .tup cs=>.tup (mapL (frzR objs n) cs)
  |p=>p
def refs1:Nat→PV→List Nat
 |0,_=>[]
 |n+1,p=>match p with
  | .row _ r=>[r]
  | .mp r=>[r]
  | .yld r=>[r]
  | .box b _=>[b]
  | .agg cs=>catL (refs1 n) cs
  | .tup cs=>catL (refs1 n) cs
  | .clos _ cs=>catL (refs1 n) cs
  | .pptr cs _=>catL (refs1 n) cs
  |_=>[]
def reach (objs:List Ob):Nat→List Nat→List Nat→List Nat
 |0,_,seen=>seen
 |_+1,[],seen=>seen
 |n+1,x::todo,seen=>match memL x seen with
  |true=>reach objs n todo seen
  |false=>reach objs n (appL todo (match getO objs x with| .box cs=>catL (refs1 8) cs| .loop _ _ _ _ s _=>catL (fun (x:Nat×PV)=>refs1 8 x.2) s|_=>[])) (appL seen [x])
def goesO:Ob→Bool
 | .row _ _ _=>true
 | .map _ _ _=>true
 | .dead=>true
 |_=>false
def keepIx (r n:Nat):Nat→Nat
 |0=>r
 |i+1=>n+i
def endIt (m:Nat):List Ob→List Ob
 |[]=>[]
 | .iter m' s::l=>(bif nb m' m then .dead else .iter m' s)::endIt m l
 |o::l=>o::endIt m l
inductive Who where
 |fn (f:FuncId)|yld
abbrev CallP:=Who→List Ob→List PV→(PV→List Ob→Prop)→Prop
def oneCell:PV→Bool
 | .undef=>false
 | .agg _=>false
 | .tup _=>false
 |_=>true
def cksFit:List CK→List PV→Bool
 |[],[]=>true
 |c::cs,p::ps=>ckFits c p&&cksFit cs ps
 |_,_=>false
section
variable (A:Alg) (G:Cfg) (C:CallP)
def evArgs (s:Slots):List Operand→List TypeId→List PV
 |x::xs,t::ts=>evT G.tt s t x::evArgs s xs ts
 |x::xs,[]=>ev s x::evArgs s xs []
 |[],_=>[]
def evArgsN (s:Slots):List Operand→List TypeId→List PV
 |x::xs,t::ts=>(match isNils x with|true=>.nils|false=>evT G.tt s t x)::evArgsN s xs ts
 |x::xs,[]=>ev s x::evArgsN s xs []
 |[],_=>[]
def evArgsF (f:FuncId) (s:Slots) (xs:List Operand) (ts:List TypeId):List PV:=match memL f G.live with
 |true=>evArgsN G s xs ts
 |false=>evArgs G s xs ts
def nilEl (x:Operand) (t:TypeId):Option TypeId:=match isNils x with
 |true=>(match G.tt t with|some ti=>some ti.el|none=>none)
 |false=>none
def nilArgs (s:Slots):Nat→List Operand→List TypeId→List PV
 |n,x::xs,t::ts=>(match nilEl G x t with
  |some e=>.row e n::nilArgs s (n+1) xs ts
  |none=>evT G.tt s t x::nilArgs s n xs ts)
 |n,x::xs,[]=>ev s x::nilArgs s n xs []
 |_,[],_=>[]
def nilObs:List Operand→List TypeId→List Ob
 |x::xs,t::ts=>(match nilEl G x t with
  |some e=>.row e (.list []) true::nilObs xs ts
  |none=>nilObs xs ts)
 |_,_=>[]
def isEmptyL:List Nat→Bool|[]=>true|_=>false
def memO (o:Option Nat) (l:List Nat):Bool:=match o with|some n=>memL n l|none=>false
def liveC2 (f:Who) (args:List PV) (s:Slots) (o1:List Ob) (F:List Nat) (K:PV→St→Prop):Prop:=
 bif nodupL F&&allL (fun r=>nlt r (lenL o1)) F then
  C f (mapL (fun r=>pickO F (getO o1 r)) F) (mapL (pickP F 8) args) fun v o'=>
   K (renP (backIx (lenL o1) F) 8 v) ⟨s,putF F (endIts F o1) (mapL (renO (backIx (lenL o1) F)) o')⟩ else False
def liveC1 (f:Who) (args:List PV) (s:Slots) (o1:List Ob) (K:PV→St→Prop):Prop:=
 liveC2 C f args s o1 (reach o1 64 (catL (refs1 8) args) []) K
def liveC (f:FuncId) (args:List PV) (st:St) (K:PV→St→Prop):Prop:=match memL f G.keep with
 |true=>liveC1 C (.fn f) args st.s st.o K
 |false=>liveC1 C (.fn f) (mapL (frzR st.o 8) args) st.s (hurtO (catL (rowsIn 8) args) 0 st.o) K
def yldC (i:Nat) (args:List PV) (st:St) (K:PV→St→Prop):Prop:=match getO st.o i with
 | .loop _ _ _ _ _ .ready=>liveY (reach st.o 64 (i::catL (refs1 8) args) [])
 |_=>False
 where liveY (F:List Nat):Prop:=liveC2 C .yld args st.s st.o F K
def flatCk:CK→Bool
 | .int _=>true
 | .bool=>true
 | .str=>true
 |_=>false
def flatRow (tt:TypeId→Option TI):PV→List Ob→Bool
 | .row e 0,[.row e' _ true]=>nb e e'&&allL flatCk (cksOf tt e)
 |_,_=>false
def callC (kp:Bool) (f:FuncId) (args:List PV) (st:St) (K:PV→St→Prop):Prop:=
 match memL f G.live with
 |true=>liveC G C f args st K
 |false=>match kp&&memL f G.keep with
 |true=>(match args with
  | .row e r::rest=>(match getO st.o r with
   | .row e' d true=>bif nb e e'&&isEmptyL (catL (ids st.o 8) rest) then
    C (.fn f) [.row e' d true] (.row e 0::mapL (frz st.o 8) rest) (fun v o'=>match o' with
     |ob::more=>bif goesO ob&&allL goesO more then K (ren (keepIx r (lenL st.o)) 8 v) ⟨st.s,appL (setO st.o r ob) more⟩ else False
     |_=>False) else False
   |_=>False)
  |_=>False)
 |false=>C (.fn f) [] (mapL (frz st.o 8) args) fun v o'=>bif allL goesO o' then
  (match plain 8 v with
   |true=>K v st
   |false=>(match memL f G.frs&&flatRow G.tt v o' with
    |true=>K (ren (fun i=>lenL st.o+i) 8 v) ⟨st.s,appL st.o o'⟩
    |false=>K (ren (fun i=>lenL st.o+i) 8 v) ⟨hurtS (catL (ids st.o 8) args) st.o st.s,appL (hurtO (catL (ids st.o 8) args) 0 st.o) o'⟩)) else False
def litRows (fz:PV→PV) (tt:TypeId→Option TI) (s:Slots) (e:TypeId) (ei:TI):Nat→Nat→List (Nat×Operand)→Option (List (List D))
 |i,n,[]=>bif nb i n then some [] else none
 |i,n,(j,x)::r=>bif nb i j&&cksFit ei.cks (mapL fz (flat (evT tt s e x)))&&allL oneCell (flat (evT tt s e x)) then
  (match litRows fz tt s e ei (i+1) n r with
   |some rows=>some (mapL toD' (mapL fz (flat (evT tt s e x)))::rows)
   |none=>none) else none
def litFns (s:Slots):Nat→Nat→List (Nat×Operand)→Option (List PV)
 |i,n,[]=>bif nb i n then some [] else none
 |i,n,(j,x)::r=>bif nb i j&&oneCell (ev s x) then
  (match litFns s (i+1) n r with
   |some l=>some (ev s x::l)
   |none=>none) else none
def srcD (ob:List Ob) (p:PV) (K:TypeId→D→Prop):Prop:=match p with
 | .lst e d=>K e d
 | .row e r=>(match getO ob r with
  | .row e' d _=>bif nb e e' then K e d else False
  |_=>False)
 |_=>False
def scalarCk:CK→Bool
 | .int _=>true
 | .str=>true
 | .bool=>true
 |_=>false
def zeroDs (l:List CK):List D:=mapL (fun c=>toD' (zeroPV c)) l
def okTup (ok:Bool) (v:PV) (b:Bool):PV:=bif ok then .tup [v,.bl b] else v
def aggIs (b:Bool):PV→Bool
 | .agg _=>b
 | .undef=>false
 |_=>bif b then false else true
def keyOf (ki:TI):Option CK:=match ki.agg,ki.cks with
 |false,[kc]=>bif scalarCk kc then some kc else none
 |true,[.str,.str]=>bif ki.eqOk then some .str2 else none
 |_,_=>none
def keyFits (c:CK) (p:PV):Bool:=match c with
 | .str2=>(match p with| .agg [.str _,.str _]=>true|_=>false)
 |c=>ckFits c p
def newKey (k:IntKind) (n:Int):List PV→Bool
 |[]=>true
 | .int k' m::_::cs=>(match kEq k k',decide (n=m) with|true,false=>newKey k n cs|_,_=>false)
 |_=>false
def getKey (k:IntKind) (n:Int):List PV→Option (Option PV)
 |[]=>some none
 | .int k' m::p::cs=>(match kEq k k',decide (n=m) with|true,true=>some (some p)|true,false=>getKey k n cs|_,_=>none)
 |_=>none
def fnEl (o:Option TI):Bool:=match o with|some ei=>isFn ei|none=>false
def isIntK:CK→Bool
 | .int _=>true
 |_=>false
def keyD:PV→D
 | .agg [.str a,.str b]=>.ptr [.str a,.str b]
 |p=>toD' p
def mapPut0 (t:TypeId) (m k x:Operand) (st:St) (K:St→Prop):Prop:=match G.tt t with
 |some ti=>bif isMap ti then (match G.tt (ti.ar-1),G.tt ti.el with
  |some ki,some ei=>match keyOf ki with
   |some kc=>bif keyFits kc (evT G.tt st.s (ti.ar-1) k) then (match ev st.s m with
    | .mp r=>(match getO st.o r with
     | .box cs=>(match kc,evT G.tt st.s (ti.ar-1) k with
      | .int kk,.int k' n=>bif kEq kk k'&&newKey kk n cs then K ⟨st.s,setO (endIt r st.o) r (.box (appL cs [.int k' n,evT G.tt st.s ti.el x]))⟩ else False
      |_,_=>False)
     | .map kc' e d=>bif decide (kc=kc')&&nb e ti.el&&nlt 0 (lenL ei.cks)&&cksFit ei.cks (mapL (frz st.o 8) (flat (evT G.tt st.s ti.el x)))&&allL oneCell (flat (evT G.tt st.s ti.el x))&&aggIs ei.agg (evT G.tt st.s ti.el x)&&isEmptyL (catL (ids st.o 8) (flat (evT G.tt st.s ti.el x))) then
      K ⟨st.s,setO (endIt r st.o) r (.map kc e (A.mset d (keyD (evT G.tt st.s (ti.ar-1) k)) (mapL toD' (mapL (frz st.o 8) (flat (evT G.tt st.s ti.el x))))))⟩ else False
     |_=>False)
    |_=>False) else False
   |none=>False
  |_,_=>False) else False
 |none=>False
def mapPut (t:TypeId) (m k x:Operand) (st:St) (K:St→Prop):Prop:=match G.tt t with
 |some ti=>(match evT G.tt st.s ti.el x with
  | .mp j=>mapPut0 A G t m k x (sinkSt j st) K
  |_=>mapPut0 A G t m k x st K)
 |none=>False
def mapDel (t:TypeId) (m k:Operand) (st:St) (K:St→Prop):Prop:=match G.tt t with
 |some ti=>bif isMap ti then (match G.tt (ti.ar-1) with
  |some ki=>match keyOf ki with
   |some kc=>bif keyFits kc (evT G.tt st.s (ti.ar-1) k) then (match ev st.s m with
    | .mp r=>(match getO st.o r with
     | .map kc' e d=>bif decide (kc=kc') then K ⟨st.s,setO (endIt r st.o) r (.map kc e (A.mdel d (keyD (evT G.tt st.s (ti.ar-1) k))))⟩ else False
     |_=>False)
    |_=>False) else False
   |none=>False
  |none=>False) else False
 |none=>False
def ownZ:Nat→List CK→List PV
 |_,[]=>[]
 |n,.slice e::cs=>.row e n::ownZ (n+1) cs
 |n,c::cs=>zeroPV c::ownZ n cs
def ownZO:List CK→List Ob
 |[]=>[]
 | .slice e::cs=>.row e (.list []) true::ownZO cs
 |_::cs=>ownZO cs
def lkup (A:Alg) (d kd:D) (k1 k2:D→Prop):Prop:=(A.mhas d kd=true→k1 kd)∧(A.mhas d kd=false→k2 kd)
def lkup1 (kd:D) (k:D→Prop):Prop:=k kd
def plainEl (ei:TI):Bool:=match ei.agg,ei.cks with
 |false,[.int _]=>true
 |false,[.str]=>true
 |false,[.bool]=>true
 |false,[.map _ _]=>true
 |_,_=>false
def bldC (ti:TI) (ps:List PV):Bool:=match bldLike ps with
 |true=>ti.bld
 |false=>true
def bldS (ps cs:List PV):Bool:=match bldLike ps with
 |true=>bldLike cs
 |false=>true
def isU8 (ei:TI):Bool:=match intOfTi ei with
 |some .u8=>true
 |_=>false
def appTo (e:TypeId) (x:PV) (d2:D) (st:St) (o:Oper) (K:PV→St→Prop):Prop:=match x with
 | .row e4 r=>(match getO st.o r with
  | .row e5 d wr=>bif nb e e4&&nb e e5&&nle G.n0 r then
   A.bnd (A.add (A.len d) (A.len d2)) 4294967296∧K (.row e r) ⟨killS r st.s,setO (killO r st.o) r (.row e (A.app d d2) wr)⟩ else False
  |_=>False)
 | .lsf e4 d=>bif nb e e4 then
  A.bnd (A.add (A.len d) (A.len d2)) 4294967296∧((match memO o.dst G.own with|true=>(A.idx 0 (A.len d2)∧K (.row e (lenL st.o)) ⟨st.s,appL st.o [.row e (A.app d d2) true]⟩)|false=>(K (.lst e (A.app d d2)) st))) else False
 |_=>False
def stepC (o:Oper) (st:St) (K:PV→St→Prop):Prop:=
 match o.op with
 | .alloc t=>match G.tt t with
  |some ti=>match memO o.dst G.own,sliceEl ti with
   |true,some e=>K (.box (lenL st.o+1) 0) ⟨st.s,appL st.o [.row e (.list []) true,.box [.row e (lenL st.o)]]⟩
   |true,none=>bif bldC ti (ownZ (lenL st.o) ti.cks) then K (.box (lenL st.o+lenL (ownZO ti.cks)) 0) ⟨st.s,appL st.o (appL (ownZO ti.cks) [.box (ownZ (lenL st.o) ti.cks)])⟩ else False
   |_,_=>bif bldC ti (ti.cks.map zeroPV) then K (.box (lenL st.o) 0) ⟨st.s,appL st.o [.box (ti.cks.map zeroPV)]⟩ else False
  |none=>False
 | .box t x=>match G.tt t with
  |some ti=>bif nb (lenL (flat (evT G.tt st.s t x))) (lenL ti.cks)&&nlt 0 (lenL ti.cks)&&bldC ti (flat (evT G.tt st.s t x)) then K (.box (lenL st.o) 0) ⟨st.s,appL st.o [.box (flat (evT G.tt st.s t x))]⟩ else False
  |none=>False
 | .store t x y=>match G.tt t with
  |none=>False
  |some ti=>bif nb (lenL (flat (evT G.tt st.s t y))) (lenL ti.cks)&&allL oneCell (flat (evT G.tt st.s t y))&&nlt 0 (lenL ti.cks) then (match ev st.s x with
   | .box b off=>(match getO st.o b with
    | .box cs=>bif nle off slcM&&nle (off+lenL ti.cks) (lenL cs)&&bldS (setL cs off (flat (evT G.tt st.s t y))) cs then K .undef ⟨st.s,setO st.o b (.box (setL cs off (flat (evT G.tt st.s t y))))⟩ else False
    |_=>False)
   | .rptr e r i off=>(match getO st.o r,nb off slcM with
    | .row e' d true,false=>bif nb e e'&&kindsAt G.tt e off ti.cks&&cksFit ti.cks (mapL (frz st.o 8) (flat (evT G.tt st.s t y)))&&isEmptyL (catL (ids st.o 8) (flat (evT G.tt st.s t y))) then
     K .undef ⟨st.s,setO st.o r (.row e' (A.setc d i off (mapL toD' (mapL (frz st.o 8) (flat (evT G.tt st.s t y))))) true)⟩ else False
    |_,_=>False)
   |_=>False) else False
 | .buildSlice t len ps=>match G.tt t with
  |none=>False
  |some ti=>match sliceEl ti with
   |none=>False
   |some e=>match G.tt e with
    |none=>False
    |some ei=>bif nle len 1000&&nle ei.cks.length 1000&&nlt 0 (lenL ei.cks) then (match ei.cks with
     |[.fn]=>(match litFns st.s 0 len ps.toList with
      |none=>False
      |some ps'=>(match memO o.dst G.own with
       |true=>bif bldC ei ps' then K (.box (lenL st.o) (slcM+1+len)) ⟨st.s,appL st.o [.box ps']⟩ else False
       |false=>K (.pptr (mapL (frz st.o 8) ps') slcM) ⟨hurtS (catL (ids st.o 8) ps') st.o st.s,hurtO (catL (ids st.o 8) ps') 0 st.o⟩))
     |_=>(match litRows (frz st.o 8) G.tt st.s e ei 0 len ps.toList with
     |none=>False
     |some rows=>(match memO o.dst G.own with
      |true=>bif isEmptyL (catL (ids st.o 8) (catL (fun p=>flat (evT G.tt st.s e p.2)) ps.toList)) then K (.row e (lenL st.o)) ⟨st.s,appL st.o [.row e (A.lit rows) true]⟩ else False
      |false=>(match isEmptyL (catL (ids st.o 8) (catL (fun p=>flat (evT G.tt st.s e p.2)) ps.toList)) with
       |true=>K (.lsf e (A.lit rows)) st
       |false=>K (.lsf e (A.lit rows)) ⟨hurtS (catL (ids st.o 8) (catL (fun p=>flat (evT G.tt st.s e p.2)) ps.toList)) st.o st.s,hurtO (catL (ids st.o 8) (catL (fun p=>flat (evT G.tt st.s e p.2)) ps.toList)) 0 st.o⟩)))) else False
 | .call { callee:=.builtin .append,args:=as,argTypes:=ts }=>match as.toList,ts.toList with
  |[x,y],[t1,t2]=>match G.tt t1,G.tt t2 with
   |some i1,some i2=>match sliceEl i1 with
    |some e=>(match sliceEl i2 with
     |some e2=>bif nb e e2 then (match G.tt e with
      |none=>False
      |some ei=>bif nle ei.bytes 1024&&nlt 0 (lenL ei.cks) then srcD st.o (evT G.tt st.s t2 y) (fun e3 d2=>bif nb e e3 then appTo A G e (evM G.tt st.s t1 x) d2 st o K else False) else False) else False
     |none=>(match G.tt e,evT G.tt st.s t2 y with
      |some ei,.str u=>bif isStr i2&&isU8 ei&&nle ei.bytes 1024 then appTo A G e (evM G.tt st.s t1 x) (A.strD u) st o K else False
      |_,_=>False))
    |none=>False
   |_,_=>False
  |_,_=>False
 | .assign x=>(match memO o.dst G.own&&isNils x with
  |true=>(match G.tt o.type with
   |some ti=>K (.row ti.el (lenL st.o)) ⟨st.s,appL st.o [.row ti.el (.list []) true]⟩
   |none=>False)
  |false=>pureOp A G.tt o.op o.type st.s st.o fun v=>K v st)
 | .move (.tmp t)=>(match memO o.dst G.own,look st.s t with
  |true,.row e r=>(match getO st.o r with
   | .row e' d wr=>bif nb e e' then K (.row e r) ⟨litS st.o r st.s,hurtO [r] 0 st.o⟩ else False
   |_=>False)
  |_,_=>pureOp A G.tt o.op o.type st.s st.o fun v=>K v st)
 | .build t ps=>(match memO o.dst G.own with
  |true=>(match G.tt t with
   |some ti=>(match ti.agg&&nb ti.ar 0 with
    |true=>(match fillAll st.s G.tt ti.fs ps.toList (ownZ (lenL st.o) ti.cks) with
     |some cs=>K (.agg cs) ⟨st.s,appL st.o (ownZO ti.cks)⟩
     |none=>False)
    |false=>False)
   |none=>False)
  |false=>pureOp A G.tt o.op o.type st.s st.o fun v=>K v st)
 | .slice t (.tmp tx) lo hi mx=>match look st.s tx with
  | .row e r=>(match memO o.dst G.own with
   |true=>(match lo,hi,mx with
    |some _,none,none=>(match G.tt t,G.tt e,getO st.o r with
     |some ti,some _,.row e' d _=>(match sliceEl ti with
      |some e0=>bif nb e0 e&&nb e e'&&nle G.n0 r then optI st.s lo 0 fun l=>A.bnd l (A.len d)∧K (.row e r) ⟨killS r st.s,setO (killO r (hurtO [r] 0 st.o)) r (.row e (A.part d l (A.len d)) false)⟩ else False
      |none=>False)
     |_,_,_=>False)
    |none,some _,none=>(match isEmptyL G.live,G.tt t,G.tt e,getO st.o r with
     |false,some ti,some _,.row e' d true=>(match sliceEl ti with
      |some e0=>bif nb e0 e&&nb e e'&&nle G.n0 r then optI st.s hi 0 fun l=>A.idx 0 (A.len d)∧A.bnd l (A.len d)∧K (.row e r) ⟨killS r st.s,setO (killO r st.o) r (.row e (A.part d 0 l) true)⟩ else False
      |none=>False)
     |_,_,_,_=>False)
    |_,_,_=>False)
   |false=>(match memO o.dst G.view with
    |true=>(match lo,hi,mx with
     |some _,none,none=>(match G.tt t,G.tt e,getO st.o r with
      |some ti,some _,.row e' d _=>(match sliceEl ti with
       |some e0=>bif nb e0 e&&nb e e' then optI st.s lo 0 fun l=>A.idx 0 (A.len d)∧A.bnd l (A.len d)∧K (.rptr e r l slcM) st else False
       |none=>False)
      |_,_,_=>False)
     |_,_,_=>False)
    |false=>pureOp A G.tt o.op o.type st.s (hurtO [r] 0 st.o) fun v=>K v ⟨st.s,hurtO [r] 0 st.o⟩))
  |_=>pureOp A G.tt o.op o.type st.s st.o fun v=>K v st
 | .makeSlice t x y=>match G.tt t with
  |some ti=>match sliceEl ti with
   |some e=>match G.tt e with
    |some ei=>match ev st.s x,ev st.s y with
     | .int _ l,.int _ c=>bif nle ei.bytes 1024&&nlt 0 (lenL ei.cks) then A.bnd l c∧A.bnd c 4294967296∧K (.row e (lenL st.o)) ⟨st.s,appL st.o [.row e (A.rep l (zeroDs ei.cks)) true]⟩ else False
     |_,_=>False
    |none=>False
   |none=>False
  |none=>False
 | .makeMap t none=>match G.tt t with
  |some ti=>bif isMap ti then (match G.tt (ti.ar-1) with
   |some ki=>match keyOf ki with
    |some kc=>(match fnEl (G.tt ti.el)&&isIntK kc with
     |true=>K (.mp (lenL st.o)) ⟨st.s,appL st.o [.box []]⟩
     |false=>K (.mp (lenL st.o)) ⟨st.s,appL st.o [.map kc ti.el (.list [])]⟩)
    |none=>False
   |none=>False) else False
  |none=>False
 | .lookup t m k ok=>match G.tt t with
  |some ti=>bif isMap ti then (match G.tt (ti.ar-1),G.tt ti.el with
   |some ki,some ei=>match keyOf ki with
    |some kc=>bif keyFits kc (evT G.tt st.s (ti.ar-1) k) then (match ev st.s m with
     | .mp r=>(match getO st.o r with
      | .box cs=>(match kc,ok,evT G.tt st.s (ti.ar-1) k with
       | .int kk,false,.int k' n=>bif kEq kk k' then (match getKey kk n cs with
        |some (some p)=>K p st
        |some none=>bif isFn ei then K .nilf st else False
        |none=>False) else False
       |_,_,_=>False)
      | .map kc' e d=>bif decide (kc=kc')&&nb e ti.el&&nlt 0 (lenL ei.cks) then
       (match ok,plainEl ei with
        |false,true=>lkup1 (keyD (evT G.tt st.s (ti.ar-1) k)) fun kd=>K (aggOf ei (mcellsPV A d kd 0 ei.cks)) st
        |_,_=>lkup A d (keyD (evT G.tt st.s (ti.ar-1) k)) (fun kd=>K (okTup ok (aggOf ei (mcellsPV A d kd 0 ei.cks)) true) st) (fun _=>K (okTup ok (aggOf ei (ei.cks.map zeroPV)) false) st)) else False
      |_=>False)
     | .dmp e d=>bif decide (kc= .str)&&nb e ti.el&&nlt 0 (lenL ei.cks) then
      (match ok,plainEl ei with
       |false,true=>lkup1 (keyD (evT G.tt st.s (ti.ar-1) k)) fun kd=>K (aggOf ei (mcellsPV A d kd 0 ei.cks)) st
       |_,_=>lkup A d (keyD (evT G.tt st.s (ti.ar-1) k)) (fun kd=>K (okTup ok (aggOf ei (mcellsPV A d kd 0 ei.cks)) true) st) (fun _=>K (okTup ok (aggOf ei (ei.cks.map zeroPV)) false) st)) else False
     |_=>False) else False
    |none=>False
   |_,_=>False) else False
  |none=>False
 | .mapUpdate t m k x=>mapPut A G t m k x st (K .undef)
 | .insert t m k x=>mapPut A G t m k x st (K .undef)
 | .call { callee:=.builtin .delete,args:=as,argTypes:=ts }=>(match as.toList,ts.toList with
  |[m,k],t::_=>mapDel A G t m k st (K (.tup []))
  |_,_=>False)
 | .call { callee:=.builtin .clear,args:=as,argTypes:=ts }=>(match as.toList,ts.toList with
  |[x],t::_=>(match G.tt t,ev st.s x with
   |some ti,.rptr e r i off=>(match sliceEl ti,G.tt e,getO st.o r with
    |some e0,some ei,.row e' d true=>bif nb e0 e&&nb e e'&&nb off slcM&&nlt 0 (lenL ei.cks) then K (.tup []) ⟨st.s,setO st.o r (.row e' (A.app (A.part d 0 i) (A.rep (A.sub (A.len d) i) (zeroDs ei.cks))) true)⟩ else False
    |_,_,_=>False)
   |_,_=>False)
  |_,_=>False)
 | .range t m=>match G.tt t with
  |some ti=>bif isMap ti then (match ev st.s m with
   | .mp r=>(match getO st.o r with
    | .map _ _ _=>K (.it (lenL st.o)) ⟨st.s,appL st.o [.iter r (.list [])]⟩
    |_=>False)
   | .dmp e d=>bif nb e ti.el then K (.it (lenL st.o)) ⟨st.s,appL st.o [.diter e d (.list [])]⟩ else False
   |_=>False) else False
  |none=>False
 | .next it str=>bif str then False else (match ev st.s it with
  | .it i=>(match getO st.o i with
   | .iter m seen=>(match getO st.o m with
    | .map kc e d=>(match G.tt e with
     |some ei=>bif nlt 0 (lenL ei.cks) then (A.allSeen d seen→K (.tup [.bl false]) st)∧
      (∀ j,A.unseen d seen j→K (.tup [.bl true,kcellPV A kc (A.cell d j 0),aggOf ei (cellsPV A d j 1 ei.cks)]) ⟨st.s,setO st.o i (.iter m (A.see seen j))⟩) else False
     |none=>False)
    |_=>False)
   | .diter e d seen=>(match G.tt e with
    |some ei=>bif nlt 0 (lenL ei.cks) then (A.allSeen d seen→K (.tup [.bl false]) st)∧
     (∀ j,A.unseen d seen j→K (.tup [.bl true,kcellPV A .str (A.cell d j 0),aggOf ei (cellsPV A d j 1 ei.cks)]) ⟨st.s,setO st.o i (.diter e d (A.see seen j))⟩) else False
    |none=>False)
   |_=>False)
  |_=>False)
 | .entry it=>(match ev st.s it with
  | .it i=>(match getO st.o i with
   | .iter m seen=>(match getO st.o m with
    | .map kc e d=>(match G.tt e with
     |some ei=>bif nlt 0 (lenL ei.cks) then A.idx 0 (A.len seen)∧A.idx (A.last seen) (A.len d)∧K (.tup [kcellPV A kc (A.cell d (A.last seen) 0),aggOf ei (cellsPV A d (A.last seen) 1 ei.cks)]) st else False
     |none=>False)
    |_=>False)
   | .diter e d seen=>(match G.tt e with
    |some ei=>bif nlt 0 (lenL ei.cks) then A.idx 0 (A.len seen)∧A.idx (A.last seen) (A.len d)∧K (.tup [kcellPV A .str (A.cell d (A.last seen) 0),aggOf ei (cellsPV A d (A.last seen) 1 ei.cks)]) st else False
    |none=>False)
   |_=>False)
  |_=>False)
 | .call { callee:=.value (.func f),args:=as,argTypes:=ts }=>(match memL f G.live&&memL f G.keep with
  |true=>callC G C true f (nilArgs G st.s (lenL st.o) as.toList ts.toList) ⟨st.s,appL st.o (nilObs G as.toList ts.toList)⟩ K
  |false=>callC G C true f (evArgsF G f st.s as.toList ts.toList) st K)
 | .call { callee:=.value f,args:=as,argTypes:=ts }=>match ev st.s f with
  | .clos g caps=>(match nlt g bndM with
   |true=>callC G C false g (appL (evArgs G st.s as.toList ts.toList) caps) st K
   |false=>callC G C false (g-bndM) (appL caps (evArgs G st.s as.toList ts.toList)) st K)
  | .yld i=>(match isEmptyL G.live with|true=>False|false=>yldC C i (evArgs G st.s as.toList ts.toList) st K)
  |_=>False
 |op=>pureOp A G.tt op o.type st.s st.o fun v=>K v st
end
end Go.VC
end

section
namespace Go.VC
open Go
theorem lt_of_get {α:Type} {l:List α} {i:Nat} {x:α} (h:l[i]? =some x):i<l.length:=by
 rcases Nat.lt_or_ge i l.length with h'|h'
 ·exact h'
 ·rw [List.getElem?_eq_none h'] at h;simp at h
theorem mapL_length {α β:Type} (f:α→β) (l:List α):(mapL f l).length=l.length:=by rw [mapL_eq];simp
theorem nodupL_eq {l:List Nat} (h:nodupL l=true):l.Nodup:=by
 induction l with
 |nil=>exact List.nodup_nil
 |cons x l ih=>
  simp only [nodupL] at h
  cases hm:memL x l with
  |true=>rw [hm] at h;cases h
  |false=>
   rw [hm] at h
   rw [List.nodup_cons]
   refine ⟨fun hx=> ?_,ih h⟩
   rw [(memL_eq x l).2 hx] at hm
   cases hm
def upTo:Nat→Nat→List Nat→Bool
 |0,_,_=>true
 |_+1,_,[]=>false
 |n+1,k,x::l=>nb x k&&upTo n (k+1) l
theorem upTo_ok:∀ {n k:Nat} {l:List Nat},upTo n k l=true→∀ i,i<n→l[i]? =some (k+i)
 |0,_,_,_,i,hi=>by omega
 |n+1,k,[],h,i,hi=>by simp [upTo] at h
 |n+1,k,x::l,h,i,hi=>by
  simp only [upTo,Bool.and_eq_true] at h
  cases i with
  |zero=>simp [nb_of h.1]
  |succ i=>
   have:=upTo_ok h.2 i (by omega)
   simp only [List.getElem?_cons_succ,this]
   congr 1;omega
section
variable {P:Program} {tt:TypeId→Option TI} {N:Nat} {B:Base} {E:List RI} {Pp:Per} {objs:List Ob} {w:World} {st:St} {a:Act}
theorem men_ok {r:Nat} {E':List RI} (hE:∀ (i:Nat) x,i≠r→E[i]? =some x→E'[i]? =some x):∀ (n:Nat) (p:PV) (v:Value),men r n p=false→VR tt E Pp v p→VR tt E' Pp v p:=by
 intro n
 induction n with
 |zero=>intro p v h;simp [men] at h
 |succ n ih=>
  have ihs:∀ (cs:List PV) (vs:List Value),anyL (men r n) cs=false→VRL tt E Pp vs cs→VRL tt E' Pp vs cs:=by
   intro cs
   induction cs with
   |nil=>intro vs _ hv;cases hv;exact .nil
   |cons c cs ihc=>
    intro vs h hv
    simp only [anyL,Bool.or_eq_false_iff] at h
    cases hv with
    |cons _ _ _ _ h1 h2=>exact .cons _ _ _ _ (ih _ _ h.1 h1) (ihc _ h.2 h2)
  intro p v h hv
  cases hv with
  |undef=>exact .undef _
  |int=>exact .int _ _
  |bl=>exact .bl _
  |bool=>exact .bool _
  |str=>exact .str _
  |lst _ _ _ hr=>exact .lst _ _ _ hr
  |lsf _ _ _ _ hr=>exact .lsf _ _ _ _ hr
  |agg vs cs hl=>exact .agg _ _ (ihs _ _ (by simpa [men] using h) hl)
  |tup vs cs hl=>exact .tup _ _ (ihs _ _ (by simpa [men] using h) hl)
  |box _ b _ _ hb hu=>exact .box _ _ _ _ (hE _ _ (by rintro rfl;simp [men] at h) hb) hu
  |row0 _ b hb=>exact .row0 _ _ (hE _ _ (by rintro rfl;simp [men] at h) hb)
  |row _ b _ _ _ _ hb=>exact .row _ _ _ _ _ _ (hE _ _ (by rintro rfl;simp [men] at h) hb)
  |rptr _ _ b _ _ _ _ _ _ hb h0 h1=>exact .rptr _ _ _ _ _ _ _ _ _ (hE _ _ (by rintro rfl;simp [men] at h) hb) h0 h1
  |eptr _ _ _ _ _ _ _ _ hr h0 h1=>exact .eptr _ _ _ _ _ _ _ _ hr h0 h1
  |pptr u vs cs off b o hu hl hpi=>exact .pptr _ _ _ _ _ _ hu (ihs _ _ (by simpa [men] using h) hl) hpi
  |dptr _ _ _ hr=>exact .dptr _ _ _ hr
  |dmp _ _ _ _ hr=>exact .dmp _ _ _ _ hr
  |dpp _ _ _ _ _ hr=>exact .dpp _ _ _ _ _ hr
  |clos u f vs cs hu hl=>exact .clos _ _ _ _ hu (ihs _ _ (by simpa [men] using h) hl)
  |nilp=>exact .nilp
  |nilm=>exact .nilm
  |nils=>exact .nils
  |nilf=>exact .nilf
  |mp b _ _ _ hb=>exact .mp _ _ _ _ (hE _ _ (by rintro rfl;simp [men] at h) hb)
  |it b _ hb=>exact .it _ _ (hE _ _ (by rintro rfl;simp [men] at h) hb)
  |yld b _ hb=>exact .yld _ _ (hE _ _ (by rintro rfl;simp [men] at h) hb)
theorem kill_ok {r:Nat} {E':List RI} (hE:∀ (i:Nat) x,i≠r→E[i]? =some x→E'[i]? =some x) {p:PV} {v:Value} (hv:VR tt E Pp v p):VR tt E' Pp v (kill r p):=by
 unfold kill
 cases h:men r 8 p with
 |true=>exact .undef _
 |false=>exact men_ok hE 8 p v h hv
theorem look_killS (r:Nat) (s:Slots) (t:Nat):look (killS r s) t=kill r (look s t):=by
 induction s with
 |nil=>simp [killS,look,kill,men]
 |cons x s ih=>
  obtain ⟨k,p⟩:=x
  simp only [killS,look,ih]
  cases nb k t<;>simp
def BldF (f:PV→PV):Prop:=∀ p,ptrLike (f p)=true→ptrLike p=true
theorem bldLike_map {f:PV→PV} (h:BldF f):∀ {cs:List PV},bldLike (mapL f cs)=true→bldLike cs=true
 |[],hb=>by cases hb
 |[_],hb=>by cases hb
 |[a,b],hb=>h a hb
 |_::_::_::_,hb=>by cases hb
theorem BldOk.map {T:TypeId} {cs:List PV} (h:BldOk tt T cs) {f:PV→PV} (hf:BldF f):BldOk tt T (mapL f cs):=fun hb=>h (bldLike_map hf hb)
theorem sink1_bld (r:Nat) (e:TypeId) (d:D):BldF (sink1 r e d):=by
 intro p
 unfold sink1
 cases men r 8 p with
 |false=>exact id
 |true=>
  simp only [cond_true]
  cases p<;>simp only [sinkP]<;>(try exact id)<;>(try exact fun h=>(by cases h))
  rename_i x
  cases nb x r<;>exact fun h=>(by cases h)
theorem kill_bld (r:Nat):BldF (kill r):=by
 intro p
 unfold kill
 cases men r 8 p with
 |false=>exact id
 |true=>exact fun h=>(by cases h)
theorem pickP_bld (ps:List Nat):BldF (pickP ps 8):=by
 intro p
 cases p<;>simp only [pickP]<;>(try exact fun h=>by first|exact h|rfl)
 all_goals (split<;>exact fun h=>by first|rfl|(cases h;done))
theorem renP_bld (f:Nat→Nat):BldF (renP f 8):=by
 intro p
 cases p<;>simp only [renP]<;>exact fun h=>by first|exact h|rfl
def hurtP (tt:TypeId→Option TI) (E:List RI) (objs:List Ob) (w:World) (Pp:Per) (F:List Nat):Per:=fun ad v=>
 Pp ad v∨(w.cell? ad=some v∧∃ i∈F,(∃ cs,E[i]? =some (.box ad.block)∧objs[i]? =some (.box cs))∨
  (∃ o len cap e d wr,E[i]? =some (.row ad.block o len cap)∧objs[i]? =some (.row e d wr)∧ad.off<o+len*(cksOf tt e).length))
theorem frz_ok (hw:WR tt E Pp objs w) {F:List Nat}:∀ (n:Nat) (p:PV) (v:Value),VR tt E Pp v p→(∀ i∈ids objs n p,i∈F)→VR tt [] (hurtP tt E objs w Pp F) v (frz objs n p):=by
 intro n
 induction n with
 |zero=>intro p v _ _;exact .undef _
 |succ n ih=>
  have mono:∀ ad v,Pp ad v→hurtP tt E objs w Pp F ad v:=fun ad v h=>.inl h
  have ihs:∀ (cs:List PV) (vs:List Value),VRL tt E Pp vs cs→(∀ i∈catL (ids objs n) cs,i∈F)→VRL tt [] (hurtP tt E objs w Pp F) vs (mapL (frz objs n) cs):=by
   intro cs
   induction cs with
   |nil=>intro vs hv _;cases hv;exact .nil
   |cons c cs ihc=>
    intro vs hv h
    rw [catL_eq] at h
    cases hv with
    |cons _ _ _ _ h1 h2=>
     exact .cons _ _ _ _ (ih _ _ h1 (fun i hi=>h i (by simp [hi]))) (ihc _ h2 (fun i hi=>h i (by rw [catL_eq] at hi;simp only [List.flatMap_cons,List.mem_append];exact .inr hi)))
  intro p v hv h
  cases hv with
  |undef=>exact .undef _
  |int=>exact .int _ _
  |bl=>exact .bl _
  |bool=>exact .bool _
  |str=>exact .str _
  |lst _ _ _ hr=>exact .lst _ _ _ (hr.mono mono)
  |lsf _ _ _ _ hr=>exact .lst _ _ _ (hr.mono mono)
  |agg vs cs hl=>exact .agg _ _ (ihs _ _ hl h)
  |tup vs cs hl=>exact .tup _ _ (ihs _ _ hl h)
  |clos u f vs cs hu hl=>exact .clos _ _ _ _ hu (ihs _ _ hl h)
  |pptr u vs cs off b o hu hl hpi=>exact .pptr _ _ _ _ _ _ hu (ihs _ _ hl h) (fun j v hj=>mono _ _ (hpi j v hj))
  |eptr _ _ _ _ _ _ _ _ hr h0 h1=>exact .eptr _ _ _ _ _ _ _ _ (hr.mono mono) h0 h1
  |dptr _ _ _ hr=>exact .dptr _ _ _ (hr.mono mono)
  |dmp _ _ _ _ hr=>exact .dmp _ _ _ _ (hr.mono mono)
  |dpp _ _ _ _ _ hr=>exact .dpp _ _ _ _ _ (hr.mono mono)
  |nilp=>exact .nilp
  |nilm=>exact .nilm
  |nils=>exact .nils
  |nilf=>exact .nilf
  |rptr=>exact .undef _
  |mp=>exact .undef _
  |it=>exact .undef _
  |yld=>exact .undef _
  |row0 e r hE=>
   simp only [frz]
   split
   ·rename_i e' d wr ho
    cases hb:nb e e' with
    |false=>exact .undef _
    |true=>
     obtain ⟨ri,hri,hor⟩:=hw.ob r _ (getO_live ho rfl) rfl
     rw [hE] at hri;cases hri
     have:d= .list []:=hor
     subst this
     exact .lst _ _ _ (.slnil _)
   ·exact .undef _
  |row e r g o len cap hE=>
   simp only [frz]
   split
   ·rename_i e' d wr ho
    cases hb:nb e e' with
    |false=>exact .undef _
    |true=>
     have:=nb_of hb;subst this
     have ho':=getO_live ho rfl
     obtain ⟨ri,hri,hor⟩:=hw.ob r _ ho' rfl
     rw [hE] at hri;cases hri
     obtain ⟨vals,T,rows,hbk,rfl,hl,hcap,hsz,hrow,_,_⟩:=hor
     refine .lst _ _ _ (.sl e g o len cap rows (fun i j=>vals.getD (o+i*(cksOf tt e).length+j) undef) hl hcap (fun i row hi=>(hrow i row hi).1) ?_ ?_)
     ·intro i j hi hj
      have hi':i<rows.length:=by omega
      obtain ⟨hrl,hc⟩:=hrow i _ (List.getElem?_eq_getElem hi')
      obtain ⟨v,hv,hr⟩:=hc j _ _ (List.getElem?_eq_getElem (by omega)) (List.getElem?_eq_getElem hj)
      refine .inr ⟨?_,r,h r (by simp [ids]),.inr ⟨o,len,cap,e,_,wr,hE,ho',?_⟩⟩
      ·rw [cell_of_block hbk,hv];simp [hv]
      ·have:(i+1)*(cksOf tt e).length≤len*(cksOf tt e).length:=Nat.mul_le_mul_right _ hi
       rw [Nat.add_mul] at this
       show o+i*(cksOf tt e).length+j<o+len*(cksOf tt e).length
       omega
     ·intro i j row d ck hi hj hck
      obtain ⟨_,hc⟩:=hrow i row hi
      obtain ⟨v,hv,hr⟩:=hc j d ck hj hck
      simp only [List.getD,hv,Option.getD_some]
      exact hr.mono mono
   ·exact .undef _
  |box u b off blk hE hu=>
   simp only [frz]
   split
   ·rename_i cs ho
    have ho':=getO_live ho rfl
    obtain ⟨ri,hri,hor⟩:=hw.ob b _ ho' rfl
    rw [hE] at hri;cases hri
    obtain ⟨vs,T,hbk,hvs,_⟩:=hor
    cases hm:nle slcM off with
    |true=>exact .undef _
    |false=>
    have hm0:off<slcM:=by
     rcases Nat.lt_or_ge off slcM with h'|h'
     ·exact h'
     ·rw [show nle slcM off=true from decide_eq_true h'] at hm;cases hm
    obtain rfl:=hu.1 (by omega)
    have hm:nb off slcM=false:=decide_eq_false (by omega)
    have:=VR.pptr (tt:=tt) (E:=[]) (Pp:=hurtP tt E objs w Pp F) (.pointer (some ⟨blk,0+off,none⟩)) vs (mapL (frz objs n) cs) off blk 0 (pptrV.mk hm) (ihs _ _ hvs (fun i hi=>h i (by simp only [ids,ho];exact List.mem_cons_of_mem _ hi))) (by
     intro j v hj
     refine .inr ⟨?_,b,h b (by simp [ids]),.inl ⟨cs,hE,ho'⟩⟩
     rw [cell_of_block hbk];simpa using hj)
    simpa using this
   ·exact .undef _
theorem frzs_ok (hw:WR tt E Pp objs w) {F:List Nat} {n:Nat} {ps:List PV} {vs:List Value} (hv:VRL tt E Pp vs ps) (h:∀ i∈catL (ids objs n) ps,i∈F):
 VRL tt [] (hurtP tt E objs w Pp F) vs (mapL (frz objs n) ps):=by
 induction ps generalizing vs with
 |nil=>cases hv;exact .nil
 |cons p ps ih=>
  rw [catL_eq] at h
  cases hv with
  |cons _ _ _ _ h1 h2=>exact .cons _ _ _ _ (frz_ok hw n _ _ h1 (fun i hi=>h i (by simp [hi]))) (ih h2 (fun i hi=>h i (by rw [catL_eq] at hi;simp only [List.flatMap_cons,List.mem_append];exact .inr hi)))
theorem hurtO_get (F:List Nat):∀ (l:List Ob) (k i:Nat),(hurtO F k l)[i]? =(l[i]?).map fun o=>bif memL (k+i) F then hurt1 o else o
 |[],k,i=>by simp [hurtO]
 |o::l,k,i=>by
  cases i with
  |zero=>simp [hurtO]
  |succ i=>
   simp only [hurtO,List.getElem?_cons_succ,hurtO_get F l (k+1) i]
   rw [show k+1+i=k+(i+1) by omega]
theorem hurtO_length (F:List Nat):∀ (l:List Ob) (k:Nat),(hurtO F k l).length=l.length
 |[],k=>rfl
 |o::l,k=>by simp [hurtO,hurtO_length F l (k+1)]
theorem hurtP_own {F:List Nat} {ad:Addr} {v:Value} (h:hurtP tt E objs w Pp F ad v):Pp ad v∨own E objs ad.block:=by
 rcases h with h|⟨_,i,_,⟨cs,h1,h2⟩|⟨o,len,cap,e,d,wr,h1,h2,_⟩⟩
 ·exact .inl h
 ·exact .inr ⟨i,_,_,h2,rfl,h1,rfl⟩
 ·exact .inr ⟨i,_,_,h2,rfl,h1,rfl⟩
theorem OR.diterP {Pp':Per} {E':List RI} {ri:RI} {e:TypeId} {d seen:D} (hp:∀ ad v,Pp ad v→Pp' ad v) (h:OR tt E Pp w ri (.diter e d seen)):OR tt E' Pp' w ri (.diter e d seen):=by
 cases ri<;>try exact h.elim
 obtain ⟨ls,h1,h2|⟨bm,es,clock,rows,h2,h3,h4⟩⟩:=h
 ·exact ⟨ls,h1,.inl h2⟩
 ·exact ⟨ls,h1,.inr ⟨bm,es,clock,rows,h2,h3.mono hp,h4⟩⟩
theorem hurtP_loop {F:List Nat} (hw:WR tt E Pp objs w) {i:Nat} {n:Nat} {ps:List Nat} {c1 c2:Code} {s:Slots} {j:LS} {ri:RI} (hx:objs[i]? =some (.loop n ps c1 c2 s j)) (hri:E[i]? =some ri) (hor:OR tt E Pp w ri (.loop n ps c1 c2 s j)) {b:Nat} (hb:ri.block? =some b)
 {ad:Addr} {v:Value} (hv:hurtP tt E objs w Pp F ad v) (he:ad.block=b):False:=by
 cases ri<;>simp only [OR] at hor
 simp only [RI.block?,Option.some.injEq] at hb
 obtain ⟨r,h1,_⟩:=hor
 have hc:pc w ad=some v:=by
  rcases hv with hv|⟨hv,_⟩
  ·exact hw.pi _ _ hv
  ·exact pc_of_cell hv
 rw [← he] at hb
 subst hb
 simp [pc,h1] at hc
theorem WR.hurt (hw:WR tt E Pp objs w) (F:List Nat):WR tt E (hurtP tt E objs w Pp F) (hurtO F 0 objs) w:=by
 have mono:∀ ad v,Pp ad v→hurtP tt E objs w Pp F ad v:=fun ad v h=>.inl h
 refine ⟨by rw [hurtO_length];exact hw.len,?_,?_,?_,hw.glM mono⟩
 ·intro ad v h
  rcases h with h|⟨h,_⟩
  ·exact hw.pi _ _ h
  ·exact pc_of_cell h
 ·intro i o ho hl
  rw [hurtO_get] at ho
  cases hx:objs[i]? with
  |none=>rw [hx] at ho;simp at ho
  |some x=>
   rw [hx] at ho
   simp only [Option.map_some,Option.some.injEq,Nat.zero_add] at ho
   by_cases hF:i∈F
   ·have hm:memL i F=true:=(memL_eq i F).2 hF
    rw [hm] at ho
    simp only [cond_true] at ho
    cases x<;>simp only [hurt1] at ho
    case box cs=>subst ho;simp [Ob.live] at hl
    case loop=>
     subst ho
     obtain ⟨ri,hri,hor⟩:=hw.ob i _ hx rfl
     exact ⟨ri,hri,OR.frame (fun _ _ h=>h) mono (fun _ _=>rfl) (fun b hb ad v hv he=>(hurtP_loop hw hx hri hor hb hv he).elim) hor⟩
    case row e d wr=>
     subst ho
     obtain ⟨ri,hri,hor⟩:=hw.ob i _ hx rfl
     refine ⟨ri,hri,?_⟩
     cases ri with
     |row g o len cap=>
      obtain ⟨vals,T,rows,h1,h2,h3,h4,h5,h6,h7,h8⟩:=hor
      refine ⟨vals,T,rows,h1,h2,h3,h4,h5,?_,fun h=>by simp at h,fun _=>⟨?_,?_⟩⟩
      ·intro i row hi
       obtain ⟨a,b⟩:=h6 i row hi
       exact ⟨a,fun j d ck hj hck=>let ⟨v,hv,hr⟩:=b j d ck hj hck;⟨v,hv,hr.mono mono⟩⟩
      ·intro i2 j v hi hj hv
       refine .inr ⟨by rw [cell_of_block h1];exact hv,i,hF,.inr ⟨o,len,cap,e,d,wr,hri,hx,?_⟩⟩
       have:(i2+1)*(cksOf tt e).length≤len*(cksOf tt e).length:=Nat.mul_le_mul_right _ hi
       rw [Nat.add_mul] at this
       show o+i2*(cksOf tt e).length+j<o+len*(cksOf tt e).length
       omega
      ·intro ad v h hb
       rcases h with h|⟨hc,k,hk,⟨cs,e1,e2⟩|⟨o2,len2,cap2,e2,d2,wr2,e3,e4,e5⟩⟩
       ·cases wr with
        |true=>exact absurd hb (h7 rfl ad v h)
        |false=>exact (h8 rfl).2 ad v h hb
       ·have:=hw.sep i k _ _ _ _ g hx e2 rfl rfl hri e1 rfl (by simp [RI.block?,hb])
        subst this;rw [hri] at e1;cases e1
       ·have:=hw.sep i k _ _ _ _ g hx e4 rfl rfl hri e3 rfl (by simp [RI.block?,hb])
        subst this
        rw [hri] at e3;cases e3
        rw [hx] at e4;cases e4
        exact .inr e5
     |row0=>exact hor
     |_=>exact hor.elim
    case map kc e d=>
     subst ho
     obtain ⟨ri,hri,hor⟩:=hw.ob i _ hx rfl
     refine ⟨ri,hri,OR.frame (fun _ _ h=>h) mono (fun _ _=>rfl) ?_ hor⟩
     intro b hb ad v h he
     rcases h with h|⟨hc,k,hk,⟨cs,e1,e2⟩|⟨o2,len2,cap2,e2,d2,wr2,e3,e4,e5⟩⟩
     ·exact h
     ·have:=hw.sep i k _ _ _ _ b hx e2 rfl rfl hri e1 hb (by simp [RI.block?,he])
      subst this;rw [hx] at e2;cases e2
     ·have:=hw.sep i k _ _ _ _ b hx e4 rfl rfl hri e3 hb (by simp [RI.block?,he])
      subst this;rw [hx] at e4;cases e4
    case iter m s=>
     subst ho
     obtain ⟨ri,hri,hor⟩:=hw.ob i _ hx rfl
     exact ⟨ri,hri,by cases ri<;>exact hor⟩
    case diter e d s=>
     subst ho
     obtain ⟨ri,hri,hor⟩:=hw.ob i _ hx rfl
     exact ⟨ri,hri,hor.diterP mono⟩
    case dead=>subst ho;simp [Ob.live] at hl
   ·have hm:memL i F=false:=by
     cases h:memL i F with
     |false=>rfl
     |true=>exact absurd ((memL_eq i F).1 h) hF
    rw [hm] at ho
    simp only [cond_false] at ho
    subst ho
    obtain ⟨ri,hri,hor⟩:=hw.ob i _ hx hl
    refine ⟨ri,hri,OR.frame (fun _ _ h=>h) mono (fun _ _=>rfl) ?_ hor⟩
    intro b hb ad v h he
    rcases h with h|⟨hc,k,hk,⟨cs,e1,e2⟩|⟨o2,len2,cap2,e2,d2,wr2,e3,e4,e5⟩⟩
    ·exact h
    ·have:=hw.sep i k _ _ _ _ b hx e2 hl rfl hri e1 hb (by simp [RI.block?,he])
     subst this;exact absurd hk hF
    ·have:=hw.sep i k _ _ _ _ b hx e4 hl rfl hri e3 hb (by simp [RI.block?,he])
     subst this;exact absurd hk hF
 ·intro i j oi oj ri rj b hi hj hli hlj hEi hEj hbi hbj
  have back:∀ (i:Nat) (o:Ob),(hurtO F 0 objs)[i]? =some o→o.live=true→∃ x,objs[i]? =some x∧x.live=true:=by
   intro i o ho hl
   rw [hurtO_get] at ho
   cases hx:objs[i]? with
   |none=>rw [hx] at ho;simp at ho
   |some x=>
    rw [hx] at ho
    simp only [Option.map_some,Option.some.injEq] at ho
    refine ⟨x,rfl,?_⟩
    cases x<;>simp [Ob.live]
    subst ho
    cases memL (0+i) F<;>simp [Ob.live,hurt1] at hl
  obtain ⟨x,hx,hxl⟩:=back i oi hi hli
  obtain ⟨y,hy,hyl⟩:=back j oj hj hlj
  exact hw.sep i j x y ri rj b hx hy hxl hyl hEi hEj hbi hbj
theorem FreshO.hurt {own:Nat→Prop} {w0:World} {F:List Nat} (h:FreshO own w0 E objs):FreshO own w0 E (hurtO F 0 objs):=by
 intro i o ri b ho hl hE hb
 rw [hurtO_get] at ho
 cases hx:objs[i]? with
 |none=>rw [hx] at ho;simp at ho
 |some x=>
  rw [hx] at ho
  simp only [Option.map_some,Option.some.injEq] at ho
  refine h i x ri b hx ?_ hE hb
  cases x<;>simp [Ob.live]
  subst ho
  cases memL (0+i) F<;>simp [Ob.live,hurt1] at hl
theorem SimW.hurt (h:SimW tt B E Pp objs w) (F:List Nat):SimW tt B E (hurtP tt E objs w Pp F) (hurtO F 0 objs) w:=by
 refine ⟨h.wr.hurt F,h.pre,fun ad v hv=>.inl (h.per ad v hv),h.fr,?_,h.fresh.hurt⟩
 intro ad v hv
 rcases hurtP_own hv with h1|⟨i,o,ri,h1,h2,h3,h4⟩
 ·exact h.pnew ad v h1
 ·exact .inr (h.fresh i o ri _ h1 h2 h3 h4)
theorem VR.of_nil {Pp:Per} {v:Value} {p:PV} (h:VR tt [] Pp v p) (E:List RI):VR tt E Pp v p:=h.mono (fun i x hx=>by simp at hx) (fun _ _ h=>h)
theorem VRL.of_nil {Pp:Per} {v:List Value} {p:List PV} (h:VRL tt [] Pp v p) (E:List RI):VRL tt E Pp v p:=h.mono (fun i x hx=>by simp at hx) (fun _ _ h=>h)
theorem plain_ok {E':List RI} {Pp':Per}:∀ (n:Nat) (p:PV) (v:Value),plain n p=true→VR tt E Pp v p→VR tt E' Pp' v p:=by
 intro n
 induction n with
 |zero=>intro p v h;simp [plain] at h
 |succ n ih=>
  have ihs:∀ (cs:List PV) (vs:List Value),allL (plain n) cs=true→VRL tt E Pp vs cs→VRL tt E' Pp' vs cs:=by
   intro cs
   induction cs with
   |nil=>intro vs _ hv;cases hv;exact .nil
   |cons c cs ihc=>
    intro vs h hv
    simp only [allL,Bool.and_eq_true] at h
    cases hv with
    |cons _ _ _ _ h1 h2=>exact .cons _ _ _ _ (ih _ _ h.1 h1) (ihc _ h.2 h2)
  intro p v h hv
  cases hv<;>simp only [plain] at h<;>first
   |exact .undef _|exact .int _ _|exact .bl _|exact .bool _|exact .str _|exact .nilp|exact .nilm|exact .nilf|exact .nils
   |(rename_i hl;exact .agg _ _ (ihs _ _ h hl))|(rename_i hl;exact .tup _ _ (ihs _ _ h hl))|simp at h
theorem ren_ok {f:Nat→Nat} {E2:List RI} (hf:∀ (i:Nat) x,E[i]? =some x→E2[f i]? =some x):∀ (n:Nat) (p:PV) (v:Value),VR tt E Pp v p→VR tt E2 Pp v (ren f n p):=by
 intro n
 induction n with
 |zero=>intro p v _;exact .undef _
 |succ n ih=>
  have ihs:∀ (cs:List PV) (vs:List Value),VRL tt E Pp vs cs→VRL tt E2 Pp vs (mapL (ren f n) cs):=by
   intro cs
   induction cs with
   |nil=>intro vs hv;cases hv;exact .nil
   |cons c cs ihc=>
    intro vs hv
    cases hv with
    |cons _ _ _ _ h1 h2=>exact .cons _ _ _ _ (ih _ _ h1) (ihc _ h2)
  intro p v hv
  cases hv with
  |undef=>exact .undef _
  |int=>exact .int _ _
  |bl=>exact .bl _
  |bool=>exact .bool _
  |str=>exact .str _
  |lst _ _ _ hr=>exact .lst _ _ _ hr
  |lsf _ _ _ _ hr=>exact .lsf _ _ _ _ hr
  |agg vs cs hl=>exact .agg _ _ (ihs _ _ hl)
  |tup vs cs hl=>exact .tup _ _ (ihs _ _ hl)
  |box=>exact .undef _
  |row0 _ b hb=>exact .row0 _ _ (hf _ _ hb)
  |row _ b _ _ _ _ hb=>exact .row _ _ _ _ _ _ (hf _ _ hb)
  |rptr _ _ b _ _ _ _ _ _ hb h0 h1=>exact .undef _
  |eptr _ _ _ _ _ _ _ _ hr h0 h1=>exact .eptr _ _ _ _ _ _ _ _ hr h0 h1
  |pptr u vs cs off b o hu hl hpi=>exact .pptr _ _ _ _ _ _ hu (ihs _ _ hl) hpi
  |dptr _ _ _ hr=>exact .dptr _ _ _ hr
  |dmp _ _ _ _ hr=>exact .dmp _ _ _ _ hr
  |dpp _ _ _ _ _ hr=>exact .dpp _ _ _ _ _ hr
  |clos u f vs cs hu hl=>exact .clos _ _ _ _ hu (ihs _ _ hl)
  |nilp=>exact .nilp
  |nilm=>exact .nilm
  |nils=>exact .nils
  |nilf=>exact .nilf
  |mp b _ _ _ hb=>exact .mp _ _ _ _ (hf _ _ hb)
  |it b _ hb=>exact .undef _
  |yld b _ hb=>exact .undef _
theorem wk_ok:∀ (n:Nat) (p:PV) (v:Value),VR tt E Pp v p→VR tt E Pp v (wk n p):=by
 intro n
 induction n with
 |zero=>intro p v h;exact h
 |succ n ih=>
  have ihs:∀ (cs:List PV) (vs:List Value),VRL tt E Pp vs cs→VRL tt E Pp vs (mapL (wk n) cs):=by
   intro cs
   induction cs with
   |nil=>intro vs hv;cases hv;exact .nil
   |cons c cs ihc=>
    intro vs hv
    cases hv with
    |cons _ _ _ _ h1 h2=>exact .cons _ _ _ _ (ih _ _ h1) (ihc _ h2)
  intro p v hv
  cases p<;>try exact hv
  case bl b=>cases hv;exact .bool _
  case agg cs=>cases hv with|agg vs _ hl=>exact .agg _ _ (ihs _ _ hl)
  case tup cs=>cases hv with|tup vs _ hl=>exact .tup _ _ (ihs _ _ hl)
theorem renP_ok {f:Nat→Nat} {E2:List RI} (hf:∀ (i:Nat) x,E[i]? =some x→E2[f i]? =some x):∀ (n:Nat) (p:PV) (v:Value),VR tt E Pp v p→VR tt E2 Pp v (renP f n p):=by
 intro n
 induction n with
 |zero=>intro p v _;exact .undef _
 |succ n ih=>
  have ihs:∀ (cs:List PV) (vs:List Value),VRL tt E Pp vs cs→VRL tt E2 Pp vs (mapL (renP f n) cs):=by
   intro cs
   induction cs with
   |nil=>intro vs hv;cases hv;exact .nil
   |cons c cs ihc=>
    intro vs hv
    cases hv with
    |cons _ _ _ _ h1 h2=>exact .cons _ _ _ _ (ih _ _ h1) (ihc _ h2)
  intro p v hv
  cases hv with
  |undef=>exact .undef _
  |int=>exact .int _ _
  |bl=>exact .bl _
  |bool=>exact .bool _
  |str=>exact .str _
  |lst _ _ _ hr=>exact .lst _ _ _ hr
  |lsf _ _ _ _ hr=>exact .lsf _ _ _ _ hr
  |agg vs cs hl=>exact .agg _ _ (ihs _ _ hl)
  |tup vs cs hl=>exact .tup _ _ (ihs _ _ hl)
  |box _ b _ _ hb hu=>exact .box _ _ _ _ (hf _ _ hb) hu
  |row0 _ b hb=>exact .row0 _ _ (hf _ _ hb)
  |row _ b _ _ _ _ hb=>exact .row _ _ _ _ _ _ (hf _ _ hb)
  |rptr _ _ b _ _ _ _ _ _ hb h0 h1=>exact .rptr _ _ _ _ _ _ _ _ _ (hf _ _ hb) h0 h1
  |eptr _ _ _ _ _ _ _ _ hr h0 h1=>exact .eptr _ _ _ _ _ _ _ _ hr h0 h1
  |pptr u vs cs off b o hu hl hpi=>exact .pptr _ _ _ _ _ _ hu (ihs _ _ hl) hpi
  |dptr _ _ _ hr=>exact .dptr _ _ _ hr
  |dmp _ _ _ _ hr=>exact .dmp _ _ _ _ hr
  |dpp _ _ _ _ _ hr=>exact .dpp _ _ _ _ _ hr
  |clos u f vs cs hu hl=>exact .clos _ _ _ _ hu (ihs _ _ hl)
  |nilp=>exact .nilp
  |nilm=>exact .nilm
  |nils=>exact .nils
  |nilf=>exact .nilf
  |mp b _ _ _ hb=>exact .mp _ _ _ _ (hf _ _ hb)
  |it b _ hb=>exact .it _ _ (hf _ _ hb)
  |yld b _ hb=>exact .yld _ _ (hf _ _ hb)
theorem renPs_ok {f:Nat→Nat} {E2:List RI} (hf:∀ (i:Nat) x,E[i]? =some x→E2[f i]? =some x) {n:Nat} {cs:List PV} {vs:List Value} (hv:VRL tt E Pp vs cs):VRL tt E2 Pp vs (mapL (renP f n) cs):=by
 induction cs generalizing vs with
 |nil=>cases hv;exact .nil
 |cons c cs ih=>
  cases hv with
  |cons _ _ _ _ h1 h2=>exact .cons _ _ _ _ (renP_ok hf n _ _ h1) (ih h2)
theorem renS_look {f:Nat→Nat} (s:Slots) (t:Nat):look (renS f s) t=renP f 8 (look s t):=by
 induction s with
 |nil=>rfl
 |cons x s ih=>
  obtain ⟨k,p⟩:=x
  simp only [renS,look_cons]
  split
  ·rfl
  ·exact ih
theorem frzR_ok (hw:WR tt E Pp objs w) {F:List Nat}:∀ (n:Nat) (p:PV) (v:Value),VR tt E Pp v p→(∀ i∈rowsIn n p,i∈F)→VR tt E (hurtP tt E objs w Pp F) v (frzR objs n p):=by
 intro n
 induction n with
 |zero=>intro p v _ _;exact .undef _
 |succ n ih=>
  have mono:∀ ad v,Pp ad v→hurtP tt E objs w Pp F ad v:=fun ad v h=>.inl h
  have ihs:∀ (cs:List PV) (vs:List Value),VRL tt E Pp vs cs→(∀ i∈catL (rowsIn n) cs,i∈F)→VRL tt E (hurtP tt E objs w Pp F) vs (mapL (frzR objs n) cs):=by
   intro cs
   induction cs with
   |nil=>intro vs hv _;cases hv;exact .nil
   |cons c cs ihc=>
    intro vs hv h
    rw [catL_eq] at h
    cases hv with
    |cons _ _ _ _ h1 h2=>
     exact .cons _ _ _ _ (ih _ _ h1 (fun i hi=>h i (by simp [hi]))) (ihc _ h2 (fun i hi=>h i (by rw [catL_eq] at hi;simp only [List.flatMap_cons,List.mem_append];exact .inr hi)))
  intro p v hv h
  cases p<;>try exact hv.mono (fun _ _ h=>h) mono
  case agg cs=>cases hv with|agg vs _ hl=>exact .agg _ _ (ihs _ _ hl h)
  case tup cs=>cases hv with|tup vs _ hl=>exact .tup _ _ (ihs _ _ hl h)
  case row e r=>exact (frz_ok (F:=F) hw 1 _ _ hv h).of_nil _
theorem frzRs_ok (hw:WR tt E Pp objs w) {F:List Nat} {n:Nat} {cs:List PV} {vs:List Value} (hv:VRL tt E Pp vs cs) (h:∀ i∈catL (rowsIn n) cs,i∈F):VRL tt E (hurtP tt E objs w Pp F) vs (mapL (frzR objs n) cs):=by
 induction cs generalizing vs with
 |nil=>cases hv;exact .nil
 |cons c cs ihc=>
  rw [catL_eq] at h
  cases hv with
  |cons _ _ _ _ h1 h2=>
   exact .cons _ _ _ _ (frzR_ok hw n _ _ h1 (fun i hi=>h i (by simp [hi]))) (ihc h2 (fun i hi=>h i (by rw [catL_eq] at hi;simp only [List.flatMap_cons,List.mem_append];exact .inr hi)))
theorem ixOf_some:∀ {l:List Nat} {k n i:Nat},ixOf l k n=some i→∃ j,i=k+j∧l[j]? =some n
 |[],k,n,i,h=>by simp [ixOf] at h
 |x::l,k,n,i,h=>by
  simp only [ixOf] at h
  split at h
  ·rename_i hb
   cases h
   exact ⟨0,rfl,by simp [nb_of hb]⟩
  ·obtain ⟨j,h1,h2⟩:=ixOf_some h
   exact ⟨j+1,by omega,by simpa using h2⟩
theorem pickP_ok {ps:List Nat} {E2:List RI} (hf:∀ (i k:Nat) x,ixOf ps 0 i=some k→E[i]? =some x→E2[k]? =some x):∀ (n:Nat) (p:PV) (v:Value),VR tt E Pp v p→VR tt E2 Pp v (pickP ps n p):=by
 intro n
 induction n with
 |zero=>intro p v _;exact .undef _
 |succ n ih=>
  have ihs:∀ (cs:List PV) (vs:List Value),VRL tt E Pp vs cs→VRL tt E2 Pp vs (mapL (pickP ps n) cs):=by
   intro cs
   induction cs with
   |nil=>intro vs hv;cases hv;exact .nil
   |cons c cs ihc=>
    intro vs hv
    cases hv with
    |cons _ _ _ _ h1 h2=>exact .cons _ _ _ _ (ih _ _ h1) (ihc _ h2)
  intro p v hv
  cases hv with
  |undef=>exact .undef _
  |int=>exact .int _ _
  |bl=>exact .bl _
  |bool=>exact .bool _
  |str=>exact .str _
  |lst _ _ _ hr=>exact .lst _ _ _ hr
  |lsf _ _ _ _ hr=>exact .lsf _ _ _ _ hr
  |agg vs cs hl=>exact .agg _ _ (ihs _ _ hl)
  |tup vs cs hl=>exact .tup _ _ (ihs _ _ hl)
  |box _ b _ _ hb hu=>
   simp only [pickP]
   split
   ·rename_i k hk;exact .box _ _ _ _ (hf _ _ _ hk hb) hu
   ·exact .undef _
  |row0 _ b hb=>
   simp only [pickP]
   split
   ·rename_i k hk;exact .row0 _ _ (hf _ _ _ hk hb)
   ·exact .undef _
  |row _ b _ _ _ _ hb=>
   simp only [pickP]
   split
   ·rename_i k hk;exact .row _ _ _ _ _ _ (hf _ _ _ hk hb)
   ·exact .undef _
  |rptr _ _ b _ _ _ _ _ _ hb h0 h1=>
   simp only [pickP]
   split
   ·rename_i k hk;exact .rptr _ _ _ _ _ _ _ _ _ (hf _ _ _ hk hb) h0 h1
   ·exact .undef _
  |eptr _ _ _ _ _ _ _ _ hr h0 h1=>exact .eptr _ _ _ _ _ _ _ _ hr h0 h1
  |pptr u vs cs off b o hu hl hpi=>exact .pptr _ _ _ _ _ _ hu (ihs _ _ hl) hpi
  |dptr _ _ _ hr=>exact .dptr _ _ _ hr
  |dmp _ _ _ _ hr=>exact .dmp _ _ _ _ hr
  |dpp _ _ _ _ _ hr=>exact .dpp _ _ _ _ _ hr
  |clos u f vs cs hu hl=>exact .clos _ _ _ _ hu (ihs _ _ hl)
  |nilp=>exact .nilp
  |nilm=>exact .nilm
  |nils=>exact .nils
  |nilf=>exact .nilf
  |mp b _ _ _ hb=>
   simp only [pickP]
   split
   ·rename_i k hk;exact .mp _ _ _ _ (hf _ _ _ hk hb)
   ·exact .undef _
  |it b _ hb=>
   simp only [pickP]
   split
   ·rename_i k hk;exact .it _ _ (hf _ _ _ hk hb)
   ·exact .undef _
  |yld b _ hb=>
   simp only [pickP]
   split
   ·rename_i k hk;exact .yld _ _ (hf _ _ _ hk hb)
   ·exact .undef _
theorem picks_ok {ps:List Nat} {E2:List RI} (hf:∀ (i k:Nat) x,ixOf ps 0 i=some k→E[i]? =some x→E2[k]? =some x) {n:Nat} {cs:List PV} {vs:List Value} (hv:VRL tt E Pp vs cs):VRL tt E2 Pp vs (mapL (pickP ps n) cs):=by
 induction cs generalizing vs with
 |nil=>cases hv;exact .nil
 |cons c cs ih=>
  cases hv with
  |cons _ _ _ _ h1 h2=>exact .cons _ _ _ _ (pickP_ok hf n _ _ h1) (ih h2)
theorem pickS_look {ps:List Nat} (s:Slots) (t:Nat):look (pickS ps s) t=pickP ps 8 (look s t):=by
 induction s with
 |nil=>rfl
 |cons x s ih=>
  obtain ⟨k,p⟩:=x
  simp only [pickS,look_cons]
  split
  ·rfl
  ·exact ih
end
end Go.VC
end

section
namespace Go.VC
open Go
section
variable {P:Program} {tt:TypeId→Option TI} {N:Nat} {B:Base} {E:List RI} {Pp:Per} {objs:List Ob} {w:World} {st:St} {a:Act}
theorem sinkP_ok {Pp':Per} {r:Nat} {e:TypeId} {d:D} (hp:∀ ad v,Pp ad v→Pp' ad v) (hr:∀ b bs cl,E[r]? =some (.map b bs cl)→VR tt E Pp' (.map (some b)) (.dmp e d)):∀ (n:Nat) (p:PV) (v:Value),VR tt E Pp v p→VR tt E Pp' v (sinkP r e d n p):=by
 intro n
 induction n with
 |zero=>intro p v _;exact .undef _
 |succ n ih=>
  have ihs:∀ (cs:List PV) (vs:List Value),VRL tt E Pp vs cs→VRL tt E Pp' vs (mapL (sinkP r e d n) cs):=by
   intro cs
   induction cs with
   |nil=>intro vs hv;cases hv;exact .nil
   |cons c cs ihc=>
    intro vs hv
    cases hv with
    |cons _ _ _ _ h1 h2=>exact .cons _ _ _ _ (ih _ _ h1) (ihc _ h2)
  intro p v hv
  have hm:=(VR.mono_all (Eok.refl E) hp).1 hv
  cases hv with
  |agg vs cs hl=>exact .agg _ _ (ihs _ _ hl)
  |tup vs cs hl=>exact .tup _ _ (ihs _ _ hl)
  |clos u f vs cs hu hl=>exact .clos _ _ _ _ hu (ihs _ _ hl)
  |pptr u vs cs off b o hu hl hpi=>exact .pptr _ _ _ _ _ _ hu (ihs _ _ hl) (fun j v hj=>hp _ _ (hpi j v hj))
  |mp b _ _ _ hb=>
   simp only [sinkP]
   cases hn:nb b r with
   |false=>exact hm
   |true=>
    have:=nb_of hn;subst this
    exact hr _ _ _ hb
  |_=>exact hm
theorem sink1_ok {Pp':Per} {r:Nat} {e:TypeId} {d:D} (hp:∀ ad v,Pp ad v→Pp' ad v) (hr:∀ b bs cl,E[r]? =some (.map b bs cl)→VR tt E Pp' (.map (some b)) (.dmp e d)) {p:PV} {v:Value} (hv:VR tt E Pp v p):VR tt E Pp' v (sink1 r e d p):=by
 unfold sink1
 cases men r 8 p with
 |true=>exact sinkP_ok hp hr 8 p v hv
 |false=>exact (VR.mono_all (Eok.refl E) hp).1 hv
theorem sink1s_ok {Pp':Per} {r:Nat} {e:TypeId} {d:D} (hp:∀ ad v,Pp ad v→Pp' ad v) (hr:∀ b bs cl,E[r]? =some (.map b bs cl)→VR tt E Pp' (.map (some b)) (.dmp e d)) {ps:List PV} {vs:List Value} (hv:VRL tt E Pp vs ps):VRL tt E Pp' vs (mapL (sink1 r e d) ps):=by
 induction ps generalizing vs with
 |nil=>cases hv;exact .nil
 |cons p ps ih=>cases hv with|cons _ _ _ _ h1 h2=>exact .cons _ _ _ _ (sink1_ok hp hr h1) (ih h2)
theorem look_sinkS (r:Nat) (e:TypeId) (d:D) (s:Slots) (t:Nat):look (sinkS r e d s) t=sink1 r e d (look s t):=by
 induction s with
 |nil=>simp [sinkS,look,sink1,men]
 |cons x s ih=>
  obtain ⟨k,p⟩:=x
  simp only [sinkS,look,ih]
  cases nb k t<;>simp
theorem sinkOs_get {r:Nat} {e:TypeId} {d:D} {l:List Ob} {i:Nat} {q:Ob} (h:(sinkOs r e d l)[i]? =some q) (hl:q.live=true):i≠r∧∃ o,l[i]? =some o∧q=sinkO1 r e d o:=by
 rw [sinkOs,setO_eq,mapL_eq] at h
 by_cases hi:i=r
 ·subst hi
  rw [List.getElem?_set] at h
  simp at h
  rw [← h.2] at hl
  simp [Ob.live] at hl
 ·rw [List.getElem?_set_ne (Ne.symm hi),List.getElem?_map] at h
  cases hx:l[i]? with
  |none=>rw [hx] at h;simp at h
  |some o=>rw [hx] at h;simp at h;exact ⟨hi,o,rfl,h.symm⟩
theorem sinkO1_live {r:Nat} {e:TypeId} {d:D} {o:Ob}:(sinkO1 r e d o).live=o.live:=by
 cases o with
 |iter m s=>simp only [sinkO1];cases nb m r<;>rfl
 |_=>rfl
theorem SimW.sink {r:Nat} {e:TypeId} {d:D} (h:SimW tt B E Pp objs w) (ho:objs[r]? =some (.map .str e d)):
 ∃ Pp',SimW tt B E Pp' (sinkOs r e d objs) w∧(∀ ad v,Pp ad v→Pp' ad v)∧∀ {v:Value} {p:PV},VR tt E Pp v p→VR tt E Pp' v (sink1 r e d p):=by
 obtain ⟨ri,hE,hor⟩:=h.wr.ob r _ ho rfl
 cases ri with
 |map b borns clock=>
  have hown:own E objs b:=⟨r,_,_,ho,rfl,hE,rfl⟩
  obtain ⟨es,rows,hb,rfl,hl,hent,hborn,hnd,hlt,hno⟩:=hor
  let Pp':Per:=fun ad v=>Pp ad v∨(ad=⟨b,0,some 0⟩∧v=encM es clock)
  have hp:∀ ad v,Pp ad v→Pp' ad v:=fun _ _ h=>.inl h
  have hM:MapD tt Pp' e b es clock rows:=by
   refine ⟨.inr ⟨rfl,rfl⟩,hl,fun i x row h1 h2=> ?_,by rw [hborn];exact hnd,by rw [hborn];exact hlt⟩
   obtain ⟨kd,vd,e1,e2,e3,e4,e5,e6⟩:=hent i x row h1 h2
   exact ⟨kd,vd,e1,e2.mono hp,e3,e4,fun j d ck v a b c=>(e5 j d ck v a b c).mono hp,e6⟩
  have hr:∀ b' bs cl,E[r]? =some (.map b' bs cl)→VR tt E Pp' (.map (some b')) (.dmp e (.list rows)):=by
   intro b' bs cl hb'
   rw [hE] at hb';cases hb'
   exact .dmp 0 _ _ _ (hM.rd 0)
  have hpi:∀ ad v,Pp' ad v→pc w ad=some v:=by
   rintro ad v (hv|⟨rfl,rfl⟩)
   ·exact h.wr.pi _ _ hv
   ·simp [pc,hb]
  have hnew:∀ ad v,Pp' ad v→Pp ad v∨ad.block=b:=by
   rintro ad v (hv|⟨rfl,rfl⟩)
   ·exact .inl hv
   ·exact .inr rfl
  have hlen:(sinkOs r e (.list rows) objs).length=objs.length:=by rw [sinkOs,setO_eq,mapL_eq];simp
  refine ⟨Pp',⟨⟨by rw [hlen];exact h.wr.len,hpi,?_,?_,h.wr.glM hp⟩,h.pre,fun ad v hv=>hp _ _ (h.per ad v hv),h.fr,?_,?_⟩,hp,fun hv=>sink1_ok hp hr hv⟩
  ·intro i q hq hql
   obtain ⟨hi,o,hoi,rfl⟩:=sinkOs_get hq hql
   rw [sinkO1_live] at hql
   obtain ⟨ri,hri,hor'⟩:=h.wr.ob i o hoi hql
   refine ⟨ri,hri,?_⟩
   have hfr:OR tt E Pp' w ri o:=by
    refine OR.frame (fun _ _ h=>h) hp (fun _ _=>rfl) (fun b' hb' ad v hv he=> ?_) hor'
    rcases hnew ad v hv with h1|h1
    ·exact h1
    ·exact absurd (h.wr.sep i r o _ ri _ b hoi ho hql rfl hri hE (by rw [hb',←he,h1]) rfl) hi
   cases o with
   |box cs=>
    cases ri<;>try exact hor'.elim
    ·obtain ⟨vs,T,h1,_,h3,h4⟩:=hfr
     obtain ⟨vs',T',h1',h2',_⟩:=hor'
     rw [h1'] at h1;cases h1
     exact ⟨vs,T,h1',sink1s_ok hp hr h2',h3,h4.map (sink1_bld r e (.list rows))⟩
    ·obtain ⟨es,h1,_,h3⟩:=hfr
     obtain ⟨es',h1',h2',_⟩:=hor'
     rw [h1'] at h1;cases h1
     exact ⟨es,h1',sink1s_ok hp hr h2',h3⟩
   |loop n ps c1 c2 s j=>
    cases ri<;>try exact hor'.elim
    obtain ⟨r',h1,h2,h3⟩:=hor'
    exact ⟨r',h1,h2,fun t=>by rw [look_sinkS];exact sink1_ok hp hr (h3 t)⟩
   |iter m s=>
    simp only [sinkO1]
    cases hn:nb m r with
    |false=>exact hfr
    |true=>
     have:=nb_of hn;subst this
     cases ri<;>try exact hor'.elim
     obtain ⟨bm,bs,cl,ls,h1,h2,h3,h4⟩:=hor'
     rw [hE] at h1;cases h1
     refine ⟨ls,h3,.inr ⟨b,es,clock,rows,rfl,hM,by rw [hborn];exact h2,fun j hj=> ?_⟩⟩
     have:=h4 j hj
     rw [← hborn] at this
     simpa [hl] using this
   |row=>exact hfr
   |map=>exact hfr
   |diter=>exact hfr
   |dead=>exact hfr
  ·intro i j oi oj ri rj b' hi hj hli hlj hEi hEj hbi hbj
   obtain ⟨_,o1,h1,rfl⟩:=sinkOs_get hi hli
   obtain ⟨_,o2,h2,rfl⟩:=sinkOs_get hj hlj
   rw [sinkO1_live] at hli hlj
   exact h.wr.sep i j o1 o2 ri rj b' h1 h2 hli hlj hEi hEj hbi hbj
  ·intro ad v hv
   rcases hnew ad v hv with h1|h1
   ·exact h.pnew ad v h1
   ·rw [h1]
    exact .inr (h.fresh r _ _ b ho rfl hE rfl)
  ·intro i o ri b' hoi hli hEi hbi
   obtain ⟨_,o1,h1,rfl⟩:=sinkOs_get hoi hli
   rw [sinkO1_live] at hli
   exact h.fresh i o1 ri b' h1 hli hEi hbi
 |_=>exact hor.elim
theorem sinkOs_own {r:Nat} {e:TypeId} {d:D} {b:Nat} (h:own E (sinkOs r e d objs) b):own E objs b:=by
 obtain ⟨i,o,ri,h1,h2,h3,h4⟩:=h
 obtain ⟨_,o1,h5,rfl⟩:=sinkOs_get h1 h2
 rw [sinkO1_live] at h2
 exact ⟨i,o1,ri,h5,h2,h3,h4⟩
theorem sinkSt_ok (r:Nat) (h:SimW tt B E Pp st.o w) (hs:∀ t,VR tt E Pp (a.tmps.getD t undef) (look st.s t)):
 ∃ Pp',SimW tt B E Pp' (sinkSt r st).o w∧(∀ ad v,Pp ad v→Pp' ad v)∧(∀ t,VR tt E Pp' (a.tmps.getD t undef) (look (sinkSt r st).s t))∧∀ b,own E (sinkSt r st).o b→own E st.o b:=by
 unfold sinkSt
 split
 ·rename_i kc e d ho
  cases hk:decide (kc=CK.str) with
  |false=>exact ⟨Pp,h,fun _ _ h=>h,hs,fun _ h=>h⟩
  |true=>
   have:=of_decide_eq_true hk;subst this
   obtain ⟨Pp',h1,h2,h3⟩:=h.sink (getO_live ho rfl)
   exact ⟨Pp',h1,h2,fun t=>by simp only [cond_true,look_sinkS];exact h3 (hs t),fun b hb=>sinkOs_own hb⟩
 ·exact ⟨Pp,h,fun _ _ h=>h,hs,fun _ h=>h⟩
theorem sinks_ok (l:List Nat) (h:SimW tt B E Pp st.o w) (hs:∀ t,VR tt E Pp (a.tmps.getD t undef) (look st.s t)):
 ∃ Pp',SimW tt B E Pp' (sinks l st).o w∧(∀ ad v,Pp ad v→Pp' ad v)∧(∀ t,VR tt E Pp' (a.tmps.getD t undef) (look (sinks l st).s t))∧∀ b,own E (sinks l st).o b→own E st.o b:=by
 induction l generalizing st Pp with
 |nil=>exact ⟨Pp,h,fun _ _ h=>h,hs,fun _ h=>h⟩
 |cons r l ih=>
  obtain ⟨Pp1,h1,h2,h3,h4⟩:=sinkSt_ok r h hs
  obtain ⟨Pp2,k1,k2,k3,k4⟩:=ih h1 h3
  exact ⟨Pp2,k1,fun _ _ h=>k2 _ _ (h2 _ _ h),k3,fun b hb=>h4 b (k4 b hb)⟩
end
end Go.VC
end

section
namespace Go.VC
open Go
def Held (tt:TypeId→Option TI) (E:List RI) (Pp:Per) (objs:List Ob) (w:World) (ad:Addr) (v:Value):Prop:=
 Pp ad v∨(w.cell? ad=some v∧∃ (i:Nat),(∃ cs,objs[i]? =some (.box cs)∧E[i]? =some (.box ad.block))∨
  (∃ e d wr o len cap,objs[i]? =some (.row e d wr)∧E[i]? =some (.row ad.block o len cap)∧ad.off<o+len*(cksOf tt e).length))
def quietOp (keep:List FuncId×List FuncId):Op→Bool
 | .store _ _ _=>false
 | .mapUpdate _ _ _ _=>false
 | .insert _ _ _ _=>false
 | .next _ _=>false
 | .slice _ _ none (some _) none=>isEmptyL keep.2
 | .call { callee:=.value (.func f),.. }=>bif memL f keep.1 then false else bif memL f keep.2 then false else true
 | .call { callee:=.value _,.. }=>isEmptyL keep.2
 | .call { callee:=.builtin .delete,.. }=>false
 | .call { callee:=.builtin .clear,.. }=>false
 |_=>true
def Post (tt:TypeId→Option TI) (B:Base) (keep:List FuncId×List FuncId) (E:List RI) (Pp:Per) (objs:List Ob) (w:World) (o:Oper) (a:Act) (K:PV→St→Prop):Act→World→Prop:=fun a' w'=>
 ∃ st' E' Pp' v pv,a'=a.put o.dst v∧VR tt E' Pp' v pv∧(∀ t,VR tt E' Pp' (a.tmps.getD t undef) (look st'.s t))∧SimW tt B E' Pp' st'.o w'∧K pv st'∧
  (quietOp keep o.op=true→∀ ad v,Held tt E Pp objs w ad v→Held tt E' Pp' st'.o w' ad v)∧(∀ ad v,Pp ad v→Pp' ad v)
theorem Post.mk {tt:TypeId→Option TI} {B:Base} {keep:List FuncId×List FuncId} {E:List RI} {Pp:Per} {objs:List Ob} {w:World} {o:Oper} {a:Act} {K:PV→St→Prop} {w':World} {s':Slots} {o':List Ob} {E':List RI} {Pp':Per} {v:Value} {pv:PV}
 (hv:VR tt E' Pp' v pv) (hs:∀ t,VR tt E' Pp' (a.tmps.getD t undef) (look s' t)) (hw:SimW tt B E' Pp' o' w') (hK:K pv ⟨s',o'⟩)
 (hq:quietOp keep o.op=true→∀ ad v,Held tt E Pp objs w ad v→Held tt E' Pp' o' w' ad v) (hm:∀ ad v,Pp ad v→Pp' ad v:=by first|exact fun _ _ h=>h|exact fun _ _ h=>.inl h|exact fun _ _ h=>.inl (.inl h)|assumption):Post tt B keep E Pp objs w o a K (a.put o.dst v) w':=
 ⟨⟨s',o'⟩,E',Pp',v,pv,rfl,hv,hs,hw,hK,hq,hm⟩
theorem Held.cell {tt:TypeId→Option TI} {E:List RI} {Pp:Per} {objs:List Ob} {w:World} (hw:WR tt E Pp objs w) {ad:Addr} {v:Value} (h:Held tt E Pp objs w ad v):pc w ad=some v:=by
 rcases h with h|⟨h,_⟩
 ·exact hw.pi _ _ h
 ·exact pc_of_cell h
theorem Held.grow {tt:TypeId→Option TI} {E:List RI} {Pp Pp':Per} {objs:List Ob} {w w':World} {E2:List RI} {objs2:List Ob} (hl:E.length=objs.length) (hp:∀ ad v,Pp ad v→Pp' ad v)
 (hh:∀ k,k<w.heap.size→w'.heap[k]? =w.heap[k]?) {ad:Addr} {v:Value} (h:Held tt E Pp objs w ad v):Held tt (E++E2) Pp' (objs++objs2) w' ad v:=by
 have app:∀ {α:Type} (l k:List α) (i:Nat) (x:α),l[i]? =some x→(l++k)[i]? =some x:=by
  intro α l k i x hx
  rw [List.getElem?_append_left]
  ·exact hx
  ·rcases Nat.lt_or_ge i l.length with h'|h'
   ·exact h'
   ·rw [List.getElem?_eq_none h'] at hx;simp at hx
 rcases h with h|⟨h,i,ho⟩
 ·exact .inl (hp _ _ h)
 ·refine .inr ⟨?_,i,?_⟩
  ·rw [cell?_same (hh _ (World.block_lt_of_cell? w ad h))];exact h
  ·rcases ho with ⟨cs,h1,h2⟩|⟨e,d,wr,o,len,cap,h1,h2,h3⟩
   ·exact .inl ⟨cs,app _ _ _ _ h1,app _ _ _ _ h2⟩
   ·exact .inr ⟨e,d,wr,o,len,cap,app _ _ _ _ h1,app _ _ _ _ h2,h3⟩
theorem Held.hurt {tt:TypeId→Option TI} {E:List RI} {Pp:Per} {objs:List Ob} {w:World} (F:List Nat) {ad:Addr} {v:Value} (h:Held tt E Pp objs w ad v):Held tt E (hurtP tt E objs w Pp F) (hurtO F 0 objs) w ad v:=by
 rcases h with h|⟨h,i,ho⟩
 ·exact .inl (.inl h)
 ·rcases ho with ⟨cs,h1,h2⟩|⟨e,d,wr,o,len,cap,h1,h2,h3⟩
  ·by_cases hF:i∈F
   ·exact .inl (.inr ⟨h,i,hF,.inl ⟨cs,h2,h1⟩⟩)
   ·refine .inr ⟨h,i,.inl ⟨cs,?_,h2⟩⟩
    have hm:memL i F=false:=by
     cases h:memL i F with
     |false=>rfl
     |true=>exact absurd ((memL_eq i F).1 h) hF
    rw [hurtO_get,h1]
    simp [hm]
  ·refine .inr ⟨h,i,?_⟩
   cases hm:memL i F with
   |false=>exact .inr ⟨e,d,wr,o,len,cap,by rw [hurtO_get,h1];simp [hm],h2,h3⟩
   |true=>exact .inr ⟨e,d,false,o,len,cap,by rw [hurtO_get,h1];simp [hm,hurt1],h2,h3⟩
section
variable {P:Program} {tt:TypeId→Option TI} {N:Nat} {B:Base} {E:List RI} {Pp:Per} {objs:List Ob} {w:World} {st:St} {a:Act}
theorem wp_val {o:Oper} {v:Value} {w':World} {next:Act→World→Prop} {Q:Exit→Act→World→Prop} (h:(execOp a.eval o).run P w= .ok (.value v) w') (hn:next (a.put o.dst v) w'):o.wp P a w next Q:=by
 simp only [Oper.wp,h];exact hn
theorem wp_skp {o:Oper} {w':World} {next:Act→World→Prop} {Q:Exit→Act→World→Prop} (h:(execOp a.eval o).run P w= .ok .skip w') (hn:next (a.put o.dst undef) w'):o.wp P a w next Q:=by
 simp only [Oper.wp,h];exact hn
theorem heap_alloc_at (w:World) (x:Obj):(w.alloc x).heap[w.heap.size]? =some x:=by show (w.heap.push x)[w.heap.size]? =some x;simp
theorem WR.turn (h:WR tt E Pp objs w) {i:Nat} {o o':Ob} {ri ri':RI} {E':List RI} {objs':List Ob} {Pp':Per} {w':World}
 (ho:objs[i]? =some o) (hl:o.live=true) (hEi:E[i]? =some ri)
 (hlen:E'.length=E.length) (hE':∀ (j:Nat),j≠i→E'[j]? =E[j]?) (hEi':E'[i]? =some ri')
 (hlen':objs'.length=objs.length)
 (hO:∀ (j:Nat) oj',j≠i→objs'[j]? =some oj'→oj'.live=true→∃ oj,objs[j]? =some oj∧oj.live=true∧∀ rj,E[j]? =some rj→OR tt E Pp w rj oj→OR tt E' Pp w rj oj')
 (hOi:objs'[i]? =some o') (hor:o'.live=true→OR tt E' Pp' w' ri' o')
 (hblk:∀ b,b<w.heap.size→ri.block? ≠some b→w'.heap[b]? =w.heap[b]?)
 (hPp:∀ ad v,Pp ad v→Pp' ad v) (hnew:∀ ad v,Pp' ad v→Pp ad v∨ri.block? =some ad.block∨w.heap.size≤ad.block)
 (hri':∀ b,ri'.block? =some b→ri.block? =some b∨w.heap.size≤b)
 (hpi:∀ ad v,Pp' ad v→pc w' ad=some v):WR tt E' Pp' objs' w':=by
 have other:∀ (j:Nat) oj rj b,j≠i→objs[j]? =some oj→oj.live=true→E[j]? =some rj→rj.block? =some b→ri.block? ≠some b∧b<w.heap.size:=by
  intro j oj rj b hj h1 h2 h3 h4
  refine ⟨fun h5=>hj (h.sep j i oj o rj ri b h1 ho h2 hl h3 hEi h4 h5),own_lt h ⟨j,oj,rj,h1,h2,h3,h4⟩⟩
 have hlen0:=h.len
 refine ⟨by omega,hpi,?_,?_,h.glM hPp⟩
 ·intro j oj' hj hlj
  by_cases hji:j=i
  ·subst hji
   rw [hOi] at hj;cases hj
   exact ⟨ri',hEi',hor hlj⟩
  ·obtain ⟨oj,h1,h2,h3⟩:=hO j oj' hji hj hlj
   obtain ⟨rj,hrj,horj⟩:=h.ob j oj h1 h2
   refine ⟨rj,by rw [hE' j hji];exact hrj,OR.frame (fun _ _ h=>h) hPp ?_ ?_ (h3 rj hrj horj)⟩
   ·intro b hb
    obtain ⟨h4,h5⟩:=other j oj rj b hji h1 h2 hrj hb
    exact hblk b h5 h4
   ·intro b hb ad v hv he
    obtain ⟨h4,h5⟩:=other j oj rj b hji h1 h2 hrj hb
    rcases hnew ad v hv with h6|h6|h6
    ·exact h6
    ·rw [he] at h6;exact absurd h6 h4
    ·omega
 ·intro j k oj ok rj rk b hj hk hlj hlk hEj hEk hbj hbk
  by_cases hji:j=i<;>by_cases hki:k=i
  ·omega
  ·subst hji
   rw [hEi'] at hEj;cases hEj
   obtain ⟨ok',h1,h2,_⟩:=hO k ok hki hk hlk
   rw [hE' k hki] at hEk
   obtain ⟨h4,h5⟩:=other k ok' rk b hki h1 h2 hEk hbk
   rcases hri' b hbj with h6|h6
   ·exact absurd h6 h4
   ·omega
  ·subst hki
   rw [hEi'] at hEk;cases hEk
   obtain ⟨oj',h1,h2,_⟩:=hO j oj hji hj hlj
   rw [hE' j hji] at hEj
   obtain ⟨h4,h5⟩:=other j oj' rj b hji h1 h2 hEj hbj
   rcases hri' b hbk with h6|h6
   ·exact absurd h6 h4
   ·omega
  ·obtain ⟨oj',h1,h2,_⟩:=hO j oj hji hj hlj
   obtain ⟨ok',h3,h4,_⟩:=hO k ok hki hk hlk
   rw [hE' j hji] at hEj;rw [hE' k hki] at hEk
   exact h.sep j k oj' ok' rj rk b h1 h3 h2 h4 hEj hEk hbj hbk
theorem SimW.turn (h:SimW tt B E Pp objs w) {i:Nat} {o o':Ob} {ri ri':RI} {E':List RI} {objs':List Ob} {Pp':Per} {w':World}
 (ho:objs[i]? =some o) (hl:o.live=true) (hEi:E[i]? =some ri)
 (hlen:E'.length=E.length) (hE':∀ (j:Nat),j≠i→E'[j]? =E[j]?) (hEi':E'[i]? =some ri') (hi0:Eok E E'∨B.E0.length≤i)
 (hlen':objs'.length=objs.length)
 (hO:∀ (j:Nat) oj',j≠i→objs'[j]? =some oj'→oj'.live=true→∃ oj,objs[j]? =some oj∧oj.live=true∧∀ rj,E[j]? =some rj→OR tt E Pp w rj oj→OR tt E' Pp w rj oj')
 (hOi:objs'[i]? =some o') (hor:o'.live=true→OR tt E' Pp' w' ri' o')
 (hos:w'.os=w.os) (htp:w'.tape=w.tape) (hout:w'.output=w.output) (hsz:w.heap.size≤w'.heap.size)
 (hblk:∀ b,b<w.heap.size→ri.block? ≠some b→w'.heap[b]? =w.heap[b]?)
 (hPp:∀ ad v,Pp ad v→Pp' ad v) (hnew:∀ ad v,Pp' ad v→Pp ad v∨ri.block? =some ad.block∨w.heap.size≤ad.block)
 (hri':∀ b,ri'.block? =some b→ri.block? =some b∨w.heap.size≤b)
 (hpi:∀ ad v,Pp' ad v→pc w' ad=some v) (hdr:w.drawn≤w'.drawn:=by first|exact Nat.le_refl _|exact Nat.le_succ _|assumption):SimW tt B E' Pp' objs' w':=by
 have hfr:=h.fr.size
 refine ⟨h.wr.turn ho hl hEi hlen hE' hEi' hlen' hO hOi hor hblk hPp hnew hri' hpi,?_,fun ad v hv=>hPp ad v (h.per ad v hv),?_,?_,?_⟩
 ·intro j x hx
  rcases hi0 with hi0|hi0
  ·exact h.pre.trans hi0 j x hx
  ·have:j<B.E0.length:=by
    rcases Nat.lt_or_ge j B.E0.length with h'|h'
    ·exact h'
    ·rw [List.getElem?_eq_none h'] at hx;simp at hx
   rw [hE' j (by omega)];exact h.pre j x hx
 ·refine ⟨hos.trans h.fr.os,htp.trans h.fr.tape,hout.trans h.fr.output,by omega,?_⟩
  intro k hk hn
  rw [hblk k (by omega)]
  ·exact h.fr.block k hk hn
  ·intro hb
   rcases h.fresh i o ri k ho hl hEi hb with h1|h1
   ·omega
   ·exact hn h1
 ·intro ad v hv
  rcases hnew ad v hv with h1|h1|h1
  ·exact h.pnew ad v h1
  ·exact .inr (h.fresh i o ri _ ho hl hEi h1)
  ·exact .inr (.inl (by omega))
 ·intro j oj rj b hj hlj hEj hb
  by_cases hji:j=i
  ·subst hji
   rw [hEi'] at hEj;cases hEj
   rcases hri' b hb with h1|h1
   ·exact h.fresh j o ri b ho hl hEi h1
   ·exact .inl (by omega)
  ·obtain ⟨oj',h1,h2,_⟩:=hO j oj hji hj hlj
   rw [hE' j hji] at hEj
   exact h.fresh j oj' rj b h1 h2 hEj hb
theorem slots_push {ri:RI} {s:Slots} (hs:∀ t,VR tt E Pp (a.tmps.getD t undef) (look s t)):∀ t,VR tt (E++[ri]) Pp (a.tmps.getD t undef) (look s t):=
 fun t=>(hs t).mono mem_push (fun _ _ h=>h)
theorem bldC_ok {T:TypeId} {ti:TI} {ps:List PV} (h:tt T=some ti) (hc:bldC ti ps=true):BldOk tt T ps:=by
 intro hb
 unfold bldC at hc
 rw [hb] at hc
 exact ⟨ti,h,hc⟩
theorem newVar_ok (h:SimW tt B E Pp objs w) (T:TypeId) {vs:List Value} {ps:List PV} (hv:VRL tt E Pp vs ps) (hbl:BldOk tt T ps):
 SimW tt B (E++[.box w.heap.size]) Pp (objs++[.box ps]) (w.alloc (.cells ⟨vs⟩ T))∧VR tt (E++[.box w.heap.size]) Pp (.pointer (some ⟨w.heap.size,0,none⟩)) (.box objs.length 0):=by
 refine ⟨h.new rfl ⟨vs,T,heap_alloc_at w _,hv.mono mem_push (fun _ _ h=>h),nopi_new h.wr,hbl⟩,.box _ _ _ _ ?_ (.mk rfl)⟩
 rw [← h.wr.len];simp
theorem alloc_ok (htt:TtOk P tt) (h:SimW tt B E Pp st.o w) (hs:∀ t,VR tt E Pp (a.tmps.getD t undef) (look st.s t)) {o:Oper} {t:TypeId} (hop:o.op= .alloc t) {ti:TI} (hti:tt t=some ti) (hbl:BldOk tt t (ti.cks.map zeroPV))
 {K:PV→St→Prop} (hK:K (.box (lenL st.o) 0) ⟨st.s,appL st.o [.box (ti.cks.map zeroPV)]⟩) {keep:List FuncId×List FuncId} {Q:Exit→Act→World→Prop}:o.wp P a w (Post tt B keep E Pp st.o w o a K) Q:=by
 obtain ⟨_,_,⟨z,hz,hzc⟩,_⟩:=(htt _ _ hti).run w
 rw [appL_eq] at hK
 have hz':z.cells=⟨ti.cks.map zeroV⟩:=by rw [← hzc]
 have hn:=newVar_ok h t (zeros_ok (E:=E) (Pp:=Pp) (tt:=tt) ti.cks) hbl
 refine wp_val (v:=.pointer (some ⟨w.heap.size,0,none⟩)) (w':=w.alloc (.cells ⟨ti.cks.map zeroV⟩ t)) ?_ ?_
 ·simp [execOp,hop,Instr.alloc,hz,newVar,newRow,hz']
 ·exact Post.mk (by rw [lenL_eq];exact hn.2) (slots_push hs) hn.1 hK (fun _ ad v hv=>hv.grow h.wr.len (fun _ _ h=>h) (fun k hk=>RowKit.Below.heap_alloc w _ k hk))
theorem alloc_own_ok (htt:TtOk P tt) (h:SimW tt B E Pp st.o w) (hs:∀ t,VR tt E Pp (a.tmps.getD t undef) (look st.s t)) {o:Oper} {t e:TypeId} (hop:o.op= .alloc t) {ti:TI} (hti:tt t=some ti) (he:sliceEl ti=some e)
 {K:PV→St→Prop} (hK:K (.box (lenL st.o+1) 0) ⟨st.s,appL st.o [.row e (.list []) true,.box [.row e (lenL st.o)]]⟩) {keep:List FuncId×List FuncId} {Q:Exit→Act→World→Prop}:o.wp P a w (Post tt B keep E Pp st.o w o a K) Q:=by
 obtain ⟨_,_,⟨z,hz,hzc⟩,_⟩:=(htt _ _ hti).run w
 rw [appL_eq,lenL_eq] at hK
 have hcks:ti.cks=[.slice e]:=by
  unfold sliceEl at he
  split at he
  ·rename_i h2;cases he;exact h2
  ·cases he
 have hz':z.cells=⟨ti.cks.map zeroV⟩:=by rw [← hzc]
 rw [hcks] at hz'
 have hv0:VR tt (E++[.row0]) Pp (.slice none 0 0) (.row e st.o.length):=.row0 _ _ (by rw [← h.wr.len];simp)
 have h1:SimW tt B (E++[.row0]) Pp (st.o++[.row e (.list []) true]) w:=
  ⟨h.wr.push (fun _=>rfl) (fun b hb=>by simp [RI.block?] at hb),pre_push h.pre,h.per,h.fr,h.pnew,h.fresh.push h.wr.len (fun b hb=>by simp [RI.block?] at hb)⟩
 have hn:=newVar_ok h1 t (vs:=[.slice none 0 0]) (.cons _ _ _ _ hv0 .nil) (fun hb=>by cases hb)
 refine wp_val (v:=.pointer (some ⟨w.heap.size,0,none⟩)) (w':=w.alloc (.cells ⟨[.slice none 0 0]⟩ t)) ?_ ?_
 ·simp [execOp,hop,Instr.alloc,hz,newVar,newRow,hz',zeroV]
 ·refine Post.mk (E':=E++[.row0]++[.box w.heap.size]) (Pp':=Pp) ?_ (slots_push (slots_push hs)) ?_ hK (fun _ ad v hv=> ?_)
  ·have:=hn.2
   simpa using this
  ·simpa using hn.1
  ·have:=hv.grow (E2:=[.row0]++[.box w.heap.size]) (objs2:=[.row e (.list []) true,.box [.row e st.o.length]]) (w':=w.alloc (.cells ⟨[.slice none 0 0]⟩ t)) h.wr.len (fun _ _ h=>h) (fun k hk=>RowKit.Below.heap_alloc w _ k hk)
   simpa using this
theorem box_ok (h:SimW tt B E Pp st.o w) (hs:∀ t,VR tt E Pp (a.tmps.getD t undef) (look st.s t)) {o:Oper} {t:TypeId} {x:Operand} (hop:o.op= .box t x)
 (hne:flat (evT tt st.s t x)≠[]) (hbl:BldOk tt t (flat (evT tt st.s t x))) {K:PV→St→Prop} (hK:K (.box (lenL st.o) 0) ⟨st.s,appL st.o [.box (flat (evT tt st.s t x))]⟩) {keep:List FuncId×List FuncId} {Q:Exit→Act→World→Prop}:o.wp P a w (Post tt B keep E Pp st.o w o a K) Q:=by
 rw [appL_eq] at hK
 have hx:=evT_ok hs t x
 have hn:=newVar_ok h t (cells_ok hx hne) hbl
 refine wp_val (v:=.pointer (some ⟨w.heap.size,0,none⟩)) (w':=w.alloc (.cells ⟨(a.eval x).cells.toList⟩ t)) ?_ ?_
 ·simp [execOp,hop,Instr.box,newVar,newRow]
 ·exact Post.mk (by rw [lenL_eq];exact hn.2) (slots_push hs) hn.1 hK (fun _ ad v hv=>hv.grow h.wr.len (fun _ _ h=>h) (fun k hk=>RowKit.Below.heap_alloc w _ k hk))
theorem setL_eq:∀ (l:List PV) (n:Nat) (ys:List PV),n+ys.length≤l.length→setL l n ys=l.take n++ys++l.drop (n+ys.length)
 |l,n,[],_=>by simp [setL_nil]
 |[],n,y::ys,h=>by simp at h
 |x::xs,0,y::ys,h=>by
  have:=setL_eq xs 0 ys (by simpa using h)
  simp only [setL,this]
  simp
 |x::xs,n+1,y::ys,h=>by
  have:=setL_eq xs n (y::ys) (by simp at h ⊢;omega)
  simp only [setL,this]
  rw [show n+1+(y::ys).length=(n+(y::ys).length)+1 by omega]
  simp
theorem oneCell_ok {v:Value} {p:PV} (h:oneCell p=true) (hv:VR tt E Pp v p):v.oneCell'=true:=by
 cases hv with
 |lst e v d hr=>cases hr<;>rfl
 |dptr t v d hr=>cases hr<;>rfl
 |dmp t e v d hr=>rcases hr.map_inv with ⟨rfl,_⟩|⟨_,_,_,_,rfl,_⟩<;>rfl
 |undef|agg|tup=>simp [oneCell] at h
 |clos _ f _ _ hu _=>
  rcases Nat.lt_or_ge f bndM with hb|hb
  ·rw [hu.1 hb];rfl
  ·rw [hu.2 hb];rfl
 |rptr _ _ _ _ off _ _ _ _ _ _ hu=>
  by_cases hm:off=slcM
  ·obtain ⟨⟨o1,e,_⟩,_⟩:=hu.2 hm;rw [e];rfl
  ·rw [(hu.1 hm).1];rfl
 |pptr _ _ _ off _ _ hu _ _=>
  by_cases hm:off=slcM
  ·rw [hu.2 hm];rfl
  ·rw [hu.1 hm];rfl
 |box _ _ off _ _ hu=>
  by_cases hm:off≤slcM
  ·rw [hu.1 hm];rfl
  ·rw [hu.2 (off-(slcM+1)) (by omega)];rfl
 |_=>rfl
theorem oneCells_ok {vs:List Value} {ps:List PV} (h:allL oneCell ps=true) (hv:VRL tt E Pp vs ps):∀ v∈vs,v.oneCell'=true:=by
 induction ps generalizing vs with
 |nil=>cases hv;simp
 |cons p ps ih=>
  simp only [allL,Bool.and_eq_true] at h
  cases hv with
  |cons v _ vs _ h1 h2=>
   intro u hu
   rcases List.mem_cons.1 hu with rfl|hu
   ·exact oneCell_ok h.1 h1
   ·exact ih h.2 h2 u hu
theorem storeAt_run {t:TypeId} {ti:TI} (hti:TiOk P t ti) {g o:Nat} {T:TypeId} {cur:List Value} {v:Value} (hg:w.heap[g]? =some (.cells ⟨cur⟩ T (0,0)))
 (hl:v.cells.toList.length=ti.cks.length) (hfit:o+ti.cks.length≤cur.length) (h1:∀ u∈v.cells.toList,u.oneCell'=true):
 (Instr.storeAt t (.pointer (some ⟨g,o,none⟩)) v).run P w= .ok () (w.setRow g ⟨cur.take o++v.cells.toList++cur.drop (o+ti.cks.length)⟩):=by
 obtain ⟨_,h2,_,_⟩:=hti.run w
 have hst:=run_storeCells_at P g o T v.cells.toList 0 ⟨cur⟩ w hg (by simpa [hl] using hfit) h1
 have hsz:v.cells.size=ti.cks.length:=by simpa using hl
 simp only [Instr.storeAt,Instr.sureAddr,storeVar,pure_bind,Sem.run_bind,h2,Result.andThen_ok,hsz,ne_eq,not_true,if_false]
 rw [hst]
 simp [hsz]
theorem store_box_ok (htt:TtOk P tt) (h:SimW tt B E Pp st.o w) (hs:∀ t,VR tt E Pp (a.tmps.getD t undef) (look st.s t)) {o:Oper} {t:TypeId} {x y:Operand} (hop:o.op= .store t x y) {ti:TI} (hti:tt t=some ti)
 (hlen:(flat (evT tt st.s t y)).length=ti.cks.length) (hpos:0<ti.cks.length) (hone:allL oneCell (flat (evT tt st.s t y))=true) {b off:Nat} (hx:ev st.s x= .box b off) {cs:List PV} (hob:getO st.o b= .box cs)
 (hfo:nle off slcM=true) (hfit:off+ti.cks.length≤cs.length) (hbs:bldS (setL cs off (flat (evT tt st.s t y))) cs=true) {K:PV→St→Prop} (hK:K .undef ⟨st.s,setO st.o b (.box (setL cs off (flat (evT tt st.s t y))))⟩) {keep:List FuncId×List FuncId} {Q:Exit→Act→World→Prop}:o.wp P a w (Post tt B keep E Pp st.o w o a K) Q:=by
 have hti':=htt _ _ hti
 have hy:=evT_ok hs t y
 have hne:flat (evT tt st.s t y)≠[]:=by
  intro h0;rw [h0] at hlen;simp at hlen;omega
 have hcells:=cells_ok hy hne
 have hxv:=ev_ok hs x
 rw [hx] at hxv
 rw [setO_eq] at hK
 have ho':=getO_live hob rfl
 generalize hgx:a.eval x=vx at hxv
 cases hxv with
 |box _ _ _ blk hE hu=>
  obtain rfl:=hu.get hfo
  obtain ⟨ri,hri,hor⟩:=h.wr.ob b _ ho' rfl
  rw [hE] at hri;cases hri
  obtain ⟨vs,T,hg,hvs,hnp,hbld⟩:=hor
  have hbld2:BldOk tt T (setL cs off (flat (evT tt st.s t y))):=by
   intro hb
   unfold bldS at hbs
   rw [hb] at hbs
   exact hbld hbs
  have hl1:=hvs.length
  have hl2:=hcells.length
  have hrun:=storeAt_run (P:=P) hti' (v:=a.eval y) hg (by omega) (o:=off) (by omega) (oneCells_ok hone hcells)
  refine wp_skp (w':=w.setRow blk ⟨vs.take off++(a.eval y).cells.toList++vs.drop (off+ti.cks.length)⟩) ?_ ?_
  ·simp [execOp,hop,hgx,hrun]
  ·have hlt:blk<w.heap.size:=by
    rcases Nat.lt_or_ge blk w.heap.size with h'|h'
    ·exact h'
    ·simp [Array.getElem?_eq_none h'] at hg
   have hlb:b<st.o.length:=by
    rcases Nat.lt_or_ge b st.o.length with h'|h'
    ·exact h'
    ·rw [List.getElem?_eq_none h'] at ho';simp at ho'
   refine Post.mk (.undef _) hs ?_ hK (fun hq=>by rw [hop] at hq;simp [quietOp] at hq)
   refine h.turn (o':=.box (setL cs off (flat (evT tt st.s t y)))) ho' rfl hE rfl (fun _ _=>rfl) hE (.inl (.refl _)) (by simp) ?_ (by simp [hlb]) ?_ rfl rfl rfl (by simp) ?_ (fun _ _ h=>h) (fun _ _ h=>.inl h) (fun b hb=>.inl hb) ?_
   ·intro j oj' hj hoj hl
    rw [List.getElem?_set_ne (Ne.symm hj)] at hoj
    exact ⟨oj',hoj,hl,fun _ _ h=>h⟩
   ·intro _
    refine ⟨_,T,setRow_heap w blk _ _ _ _ hg,?_,hnp,hbld2⟩
    rw [setL_eq _ _ _ (by omega)]
    have:=((hvs.take off).append hcells).append (hvs.drop (off+(flat (evT tt st.s t y)).length))
    rwa [hlen] at this ⊢
   ·intro k hk hne
    exact setRow_other w blk k _ (fun e=>hne (by rw [e];rfl))
   ·intro ad v hv
    rw [pc_same (setRow_other w blk ad.block _ (hnp ad v hv))]
    exact h.wr.pi ad v hv
end
end Go.VC
end
