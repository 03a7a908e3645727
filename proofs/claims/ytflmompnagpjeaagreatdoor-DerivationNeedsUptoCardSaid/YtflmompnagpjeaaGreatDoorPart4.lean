/- Part 4 of the common texts. -/
import Derived.Test.YtflmompnagpjeaaGreatDoorPart3
set_option linter.all false
set_option maxRecDepth 100000
set_option maxHeartbeats 16000000
open Int renaming ofNat→bk
open List renaming sizeOf_lt_of_mem→JJ,take_length→bD
open Nat renaming le_refl→cg
open SizeOf renaming sizeOf→oV
namespace Go.VC
section
variable {p q r:Prop}{A:pM}{i n:Nat}{d:D}
def zf{P:Prop}(h:P:=by kernel_rfl):FF->P:=λ_=>h
def iX{α:Type}{f:α->List D}{l:List α}(a:A=Std)(b:d=bA f l)(h:i<l.length):A.idx (Int.ofNat i) (A.len d):=by rw[a,b];exact cY h
def jX(a:A=Std)(h:i<n)(b:n<4294967297:=by omega):A.inr .i64 (A.add (Int.ofNat i) 1):=by rw[a];exact fm h b
def lX(a:A=Std)(b:Std.len d=Int.ofNat n)(h:A.lt (Int.ofNat i) (A.len d)=true):i<n:=by subst a;rw[b]at h;exact Int.ofNat_lt.1 (of_decide_eq_true h)
def gX(a:A=Std)(b:Std.len d=Int.ofNat n)(h:A.lt (Int.ofNat i) (A.len d)=false):n<=i:=by subst a;rw[b]at h;have:=of_decide_eq_false h;exact Int.ofNat_le.1 (Int.not_lt.1 this)
def lY(a:A=Std)(b:Std.len d=Int.ofNat n)(h:A.lt (Int.ofNat i) (A.len d)=true)(k:i<n->p:=by intro;omega):p:=k (lX a b h)
def gY(a:A=Std)(b:Std.len d=Int.ofNat n)(h:A.lt (Int.ofNat i) (A.len d)=false)(k:n<=i->p:=by intro;omega):p:=k (gX a b h)
def yX(h:p:=by rw[X.a];rfl):p:=h
def yc(h:p:=by cbv;and_intros;all_goals first|trivial|(rw[X.a];rfl)):p:=h
def yR(e:q)(h:q->p:=by intro e;rw[X.a,e];simp only[SD];omega):p:=h e
def yH(h:p:=by rw[Y,Z];rfl):p:=h
def p1(k:q)(h:q->p:=by intro a;cbv;(repeat' (first|apply And.intro|exact zf|(intro J;cbv)|apply Or.inl));all_goals first|(clear a;assumption)|exact a):p:=h k
def p2(k:q)(l:r)(h:q->r->p:=by intro z y;cbv;(repeat' (first|apply And.intro|exact zf|(intro J;cbv)|apply Or.inl));all_goals first|(clear z y;assumption)|((try revert J);first|exact z|exact y)):p:=h k l
def p3{s:Prop}(k:q)(l:r)(m:s)(h:q->r->s->p:=by intro z y x;cbv;(repeat' (first|apply And.intro|exact zf|(intro J;cbv)|apply Or.inl));all_goals first|(clear z y x;assumption)|((try revert J);first|exact z|exact y|exact x)):p:=h k l m
def ZS(k:Nat)(p:PV):cU->PV
 |[]=>p
 |(j,q)::u=>match nb j k with|true=>q|false=>ZS k p u
def SZ(u a:cU):cU->cU
 |[]=>[]
 |(k,_)::s=>(k,ZS k (look a k) u)::SZ u a s
section
variable {P:Program}{G:ea}{A:pM}{C:iZ}{L:Code->St->(Ex->St->Prop)->Prop}{α:Type}{c:Code}{st:St}{Q:Ex->St->Prop}
def lp(X:Ctx P G A C L)(b:α->Prop)(j:α->Nat)(h:α)(h0:b h)(I:α->St)
 (round:∀x,b x->mC A G C L c (I x) λe a=>match e with| .normal=>∃k,b k/\j k<j x/\Sub G.n0 a (I k)| .exit i=>Q (.exit i) a| .ret=>Q .ret a) (g:Sub G.n0 st (I h):=by exact yc):L (.loop c) st Q:=X.loop I b j h h0 g round
def lu(X:Ctx P G A C L)(b:α->Prop)(j:α->Nat)(h:α)(h0:b h)(u:α->cU)
 (round:∀x,b x->mC A G C L c ⟨SZ (u x) st.s st.s,st.o⟩ λe a=>match e with| .normal=>∃k,b k/\j k<j x/\Sub G.n0 a ⟨SZ (u k) st.s st.s,st.o⟩| .exit i=>Q (.exit i) a| .ret=>Q .ret a) (g:Sub G.n0 st ⟨SZ (u h) st.s st.s,st.o⟩:=by exact yc):L (.loop c) st Q:=X.loop (λx=>⟨SZ (u x) st.s st.s,st.o⟩) b j h h0 g round
def lP(X:Ctx P G A C L)(b:α->Prop)(h:α->Nat)(g:α)(h0:b g)(ps:List Nat)(I:α->St)
 (round:∀x,b x->mC A G C L c (I x) λe a=>match e with| .normal=>∃j,b j/\h j<h x/\Cl G.n0 a (I j)| .exit i=>Q (.exit i) a| .ret=>Q .ret a) (k:(jz ps&&xd G.n0 0 ps)=true:=by rfl) (hs:Sub G.n0 (uT ps st) (I g):=by exact yc):L (.loop c) st Q:=X.j0 I b h g h0 ⟨ps,k,hs⟩ round
end
end
end Go.VC
namespace Go.VC.cG
open Go Go.VC Go.Proofs
section
variable {f:FuncId}{fn:Func}{c:Code}{args:List PV}{K:PV->List Ob->Prop}
abbrev FT:=FC Tryz.prog tt
def en(G:ea)(hf:Tryz.prog.funcs[f]? =some fn)(h:∀(A:pM)(C:iZ)(L:Code->St->(Ex->St->Prop)->Prop),Ctx Tryz.prog G A C L->
 mC A G C L c ⟨lR 0 args,[]⟩ λe st=>match e with| .exit _=>False|_=>BK G 0 fn.results.toList st K)
 (hb:fn.body=some c:=by rfl) (g:(fn.name== "runtime.NumGoroutine")=false:=by rfl) (h1:G.tt=tt:=by rfl) (j:fn.ntmps=G.n:=by rfl) (b:G.n0=0:=by rfl) (a:ir (ch args) G.n=true:=by rfl):FC Tryz.prog tt f [] args K:=by
 rw[<- h1];exact FC.enter (by rw[h1];exact k9) mixed ⟨hf,g,hb⟩ j b a h
def eo(G:ea)(hf:Tryz.prog.funcs[f]? =some fn)(h:∀(A:pM)(C:iZ)(L:Code->St->(Ex->St->Prop)->Prop),Ctx Tryz.prog G A C L->
 mC A G C L c ⟨lR 0 args,[]⟩ λe st=>match e with| .exit _=>False|_=>wC G 0 fn.results.toList st K)
 (hb:fn.body=some c:=by rfl) (g:(fn.name== "runtime.NumGoroutine")=false:=by rfl) (h1:G.tt=tt:=by rfl) (j:fn.ntmps=G.n:=by rfl) (b:G.n0=0:=by rfl) (a:ir (ch args) G.n=true:=by rfl):FC Tryz.prog tt f [] args K:=by
 rw[<- h1];exact FC.L1 (by rw[h1];exact k9) mixed ⟨hf,g,hb⟩ j b a h
end
def el(G:ea){f:FuncId}{fn:Func}{c:Code}{objs:List Ob}{args:List PV}{K:PV->List Ob->Prop}(hf:Tryz.prog.funcs[f]? =some fn)(h:∀(A:pM)(C:iZ)(L:Code->St->(Ex->St->Prop)->Prop),Ctx Tryz.prog G A C L->
 mC A G C L c (oD objs args) λe st=>match e with| .exit _=>False|_=>gD G G.n0 fn.results.toList st K)
 (hb:fn.body=some c:=by rfl) (g:(fn.name== "runtime.NumGoroutine")=false:=by rfl) (h1:G.tt=tt:=by rfl) (j:fn.ntmps=G.n:=by rfl) (b:ch objs=G.n0:=by rfl) (a:ir (ch args) G.n=true:=by rfl):FC Tryz.prog tt f objs args K:=by
 rw[<- h1];exact FC.Jl (by rw[h1];exact k9) mixed ⟨hf,g,hb⟩ j b a h
end Go.VC.cG
namespace Go.VC
section
abbrev S:=List UInt8
mutual
inductive Ty where|mk (k:Int) (m n:S) (ar:List Ty) (fl:List Fe)
inductive Fe where|mk (s:S) (t:Ty) (b:Bool)
end
def Ty.k:Ty->Int| .mk k _ _ _ _=>k
def Ty.m:Ty->S| .mk _ m _ _ _=>m
def Ty.n:Ty->S| .mk _ _ n _ _=>n
def Ty.ar:Ty->List Ty| .mk _ _ _ ar _=>ar
def Ty.fl:Ty->List Fe| .mk _ _ _ _ fl=>fl
def Fe.s:Fe->S| .mk s _ _=>s
def Fe.t:Fe->Ty| .mk _ t _=>t
def Fe.b:Fe->Bool| .mk _ _ b=>b
mutual
def cq:Ty->List D| .mk k m n ar fl=>[.int k,.str m,.str n,.list (vq ar),.list (vt fl)]
def eZ:Fe->List D| .mk s t b=>.str s::(cq t++[.bool b])
def vq:List Ty->List (List D)|[]=>[]|t::l=>cq t::vq l
def vt:List Fe->List (List D)|[]=>[]|f::l=>eZ f::vt l
end
def AW:∀l:List Ty,vq l=l.map cq
 |[]=>by simp[vq]
 |t::l=>by simp[vq,AW l]
def AY:∀l:List Fe,vt l=l.map eZ
 |[]=>by simp[vt]
 |t::l=>by simp[vt,AY l]
def dk(t:Ty):cq t=[.int t.k,.str t.m,.str t.n,bA cq t.ar,bA eZ t.fl]:=by cases t;simp[cq,AW,AY,bA,Ty.k,Ty.m,Ty.n,Ty.ar,Ty.fl]
def ku(f:Fe):eZ f=[.str f.s,.int f.t.k,.str f.t.m,.str f.t.n,bA cq f.t.ar,bA eZ f.t.fl,.bool f.b]:=by cases f;simp[eZ,dk,Fe.s,Fe.t,Fe.b]
def cD(t:Ty)(b:Int)(c1 c2:S)(c a:D):Prop:=b=t.k/\c1=t.m/\c2=t.n/\c=bA cq t.ar/\a=bA eZ t.fl
structure Pm where
 name:S
 var:Int
 bound:Ty
structure TE where
 name:S
 params:List Pm
 lower:Ty
 upper:Ty
structure VE where
 name:S
 params:List Pm
 ty:Ty
structure AE where
 name:S
 module:S
 target:S
structure DE where
 name:S
 note:S
structure IF where
 path:S
 types:List TE
 values:List VE
 aliases:List AE
 deprecated:List DE
structure US where
 module:S
 name:S
def eU(p:Pm):List D:=.str p.name:: .int p.var::cq p.bound
def fY(x:TE):List D:=.str x.name::bA eU x.params::(cq x.lower++cq x.upper)
def lS(x:VE):List D:=.str x.name::bA eU x.params::cq x.ty
def qI(x:AE):List D:=[.str x.name,.str x.module,.str x.target]
def ui(x:DE):List D:=[.str x.name,.str x.note]
def dC(x:IF):List D:=[.str x.path,bA fY x.types,bA lS x.values,bA qI x.aliases,bA ui x.deprecated]
def encS(s:S):List D:=[.str s]
def y8(p:Pm):eU p=[.str p.name,.int p.var,.int p.bound.k,.str p.bound.m,.str p.bound.n,bA cq p.bound.ar,bA eZ p.bound.fl]:=by simp[eU,dk]
def oK(x:TE):fY x=[.str x.name,bA eU x.params,.int x.lower.k,.str x.lower.m,.str x.lower.n,bA cq x.lower.ar,bA eZ x.lower.fl,.int x.upper.k,.str x.upper.m,.str x.upper.n,bA cq x.upper.ar,bA eZ x.upper.fl]:=by simp[fY,dk]
def y5(x:VE):lS x=[.str x.name,bA eU x.params,.int x.ty.k,.str x.ty.m,.str x.ty.n,bA cq x.ty.ar,bA eZ x.ty.fl]:=by simp[lS,dk]
section
variable {A:pM}{d:D}{i:Nat}
variable {l:List TE}{α:Type}
def cellAt{f:α->List D}{l:List α}(ha:A=Std)(a:d=bA f l)(h:i<l.length)(j:Nat):A.cell d (bk i) j=(f l[i]).getD j .nil:=by subst ha a;exact dN h
def gT{l:List Ty}(ha:A=Std)(a:d=bA cq l)(h:i<l.length):cD l[i] (A.asInt (A.cell d (bk i) 0)) (A.bH (A.cell d (bk i) 1)) (A.bH (A.cell d (bk i) 2)) (A.cell d (bk i) 3) (A.cell d (bk i) 4):=by simp only[cellAt ha a h];subst ha;rw[dk];exact⟨rfl,rfl,rfl,rfl,rfl⟩
def jS{l:List Fe}(ha:A=Std)(a:d=bA eZ l)(h:i<l.length):cD l[i].t (A.asInt (A.cell d (bk i) 1)) (A.bH (A.cell d (bk i) 2)) (A.bH (A.cell d (bk i) 3)) (A.cell d (bk i) 4) (A.cell d (bk i) 5):=by simp only[cellAt ha a h];subst ha;rw[ku];exact⟨rfl,rfl,rfl,rfl,rfl⟩
def zK{l:List Fe}(ha:A=Std)(a:d=bA eZ l)(h:i<l.length):A.bH (A.cell d (bk i) 0)=l[i].s/\A.asBool (A.cell d (bk i) 6)=l[i].b:=by simp only[cellAt ha a h];subst ha;rw[ku];exact⟨rfl,rfl⟩
def FO{l:List Pm}(ha:A=Std)(a:d=bA eU l)(h:i<l.length):cD l[i].bound (A.asInt (A.cell d (bk i) 2)) (A.bH (A.cell d (bk i) 3)) (A.bH (A.cell d (bk i) 4)) (A.cell d (bk i) 5) (A.cell d (bk i) 6):=by simp only[cellAt ha a h];subst ha;rw[y8];exact⟨rfl,rfl,rfl,rfl,rfl⟩
def Dv{l:List Pm}(ha:A=Std)(a:d=bA eU l)(h:i<l.length):A.bH (A.cell d (bk i) 0)=l[i].name/\A.asInt (A.cell d (bk i) 1)=l[i].var:=by simp only[cellAt ha a h];subst ha;rw[y8];exact⟨rfl,rfl⟩
def QE(ha:A=Std)(a:d=bA fY l)(h:i<l.length):cD l[i].lower (A.asInt (A.cell d (bk i) 2)) (A.bH (A.cell d (bk i) 3)) (A.bH (A.cell d (bk i) 4)) (A.cell d (bk i) 5) (A.cell d (bk i) 6):=by simp only[cellAt ha a h];subst ha;rw[oK];exact⟨rfl,rfl,rfl,rfl,rfl⟩
def QD(ha:A=Std)(a:d=bA fY l)(h:i<l.length):cD l[i].upper (A.asInt (A.cell d (bk i) 7)) (A.bH (A.cell d (bk i) 8)) (A.bH (A.cell d (bk i) 9)) (A.cell d (bk i) 10) (A.cell d (bk i) 11):=by simp only[cellAt ha a h];subst ha;rw[oK];exact⟨rfl,rfl,rfl,rfl,rfl⟩
def S3(ha:A=Std)(a:d=bA fY l)(h:i<l.length):A.bH (A.cell d (bk i) 0)=l[i].name/\A.cell d (bk i) 1=bA eU l[i].params:=by simp only[cellAt ha a h];subst ha;rw[oK];exact⟨rfl,rfl⟩
def Qy{l:List VE}(ha:A=Std)(a:d=bA lS l)(h:i<l.length):cD l[i].ty (A.asInt (A.cell d (bk i) 2)) (A.bH (A.cell d (bk i) 3)) (A.bH (A.cell d (bk i) 4)) (A.cell d (bk i) 5) (A.cell d (bk i) 6):=by simp only[cellAt ha a h];subst ha;rw[y5];exact⟨rfl,rfl,rfl,rfl,rfl⟩
def SY{l:List VE}(ha:A=Std)(a:d=bA lS l)(h:i<l.length):A.bH (A.cell d (bk i) 0)=l[i].name/\A.cell d (bk i) 1=bA eU l[i].params:=by simp only[cellAt ha a h];subst ha;rw[y5];exact⟨rfl,rfl⟩
def UP{l:List AE}(ha:A=Std)(a:d=bA qI l)(h:i<l.length):A.bH (A.cell d (bk i) 0)=l[i].name/\A.bH (A.cell d (bk i) 1)=l[i].module/\A.bH (A.cell d (bk i) 2)=l[i].target:=by simp only[cellAt ha a h];subst ha;exact⟨rfl,rfl,rfl⟩
def XX{l:List DE}(ha:A=Std)(a:d=bA ui l)(h:i<l.length):A.bH (A.cell d (bk i) 0)=l[i].name/\A.bH (A.cell d (bk i) 1)=l[i].note:=by simp only[cellAt ha a h];subst ha;exact⟨rfl,rfl⟩
def WI{l:List IF}(ha:A=Std)(a:d=bA dC l)(h:i<l.length):A.bH (A.cell d (bk i) 0)=l[i].path/\A.cell d (bk i) 1=bA fY l[i].types/\A.cell d (bk i) 2=bA lS l[i].values/\A.cell d (bk i) 3=bA qI l[i].aliases/\A.cell d (bk i) 4=bA ui l[i].deprecated:=by simp only[cellAt ha a h];subst ha;exact⟨rfl,rfl,rfl,rfl,rfl⟩
def tv{l:List S}(ha:A=Std)(a:d=bA encS l)(h:i<l.length):A.bH (A.cell d (bk i) 0)=l[i]:=by simp only[cellAt ha a h];subst ha;rfl
def iW{f:α->List D}{l:List α}(ha:A=Std)(a:d=bA f l):A.len d=bk l.length:=by subst ha a;exact da
end
def Ty.parts{P:Ty->Prop}(h:∀t:Ty,(∀u∈t.ar,P u)->(∀f∈t.fl,P f.t)->P t):∀t,P t:=by
 have key:∀(n:Nat)(t:Ty),oV t<=n->P t:=by
  intro n;induction n with
  |zero=>intro t a;cases t;simp at a
  |succ n b=>
   intro t a;refine h t (λu hu=>b u ?_) (λf hf=>b f.t ?_)
   ·cases t with
    |mk k m s ar fl=>have:=JJ (show u∈ar from hu);simp at a;omega
   ·cases t with
    |mk k m s ar fl=>
     have:=JJ (show f∈fl from hf);have J:oV f.t<oV f:=by cases f;simp[Fe.t];omega
     simp at a;omega
 exactλt=>key _ t (cg _)
def Ty.ext{t u:Ty}(h0:t.k=u.k)(h1:t.m=u.m)(J:t.n=u.n)(h3:t.ar=u.ar)(h4:t.fl=u.fl):t=u:=by cases t;cases u;simp only[Ty.k,Ty.m,Ty.n,Ty.ar,Ty.fl]at *;subst h0 h1 J h3 h4;rfl
def Fe.ext{t u:Fe}(h0:t.s=u.s)(h1:t.t=u.t)(J:t.b=u.b):t=u:=by cases t;cases u;simp only[Fe.s,Fe.t,Fe.b]at *;subst h0 h1 J;rfl
open Classical in
noncomputable def same{α:Type}(a b:α):Bool:=decide (a=b)
def fX{α:Type}{a b:α}:same a b=true↔a=b:=by simp[same]
def jW{α:Type}(a:α):same a a=true:=fX.2 rfl
def o6{α:Type}{a b:α}(h:a≠b):same a b=false:=by
 cases hb:same a b with
 |false=>rfl
 |true=>exact absurd (fX.1 hb) h
inductive Ty.le (n:Nat):Ty->Prop
 |mk (t:Ty) (ha:t.ar.length<=n) (hf:t.fl.length<=n) (h1:∀u∈t.ar,Ty.le n u) (h2:∀f∈t.fl,Ty.le n f.t):Ty.le n t
end
section
variable {α:Type}
abbrev dO(b:Int)(c1 c2:S)(c a:D):PV:=.agg [.int .i64 b,.str c1,.str c2,.lst 29 c,.lst 57 a]
def tC{l m:List α}(h:l.length≠m.length):same l m=false:=o6 λe=>h (by rw[e])
def tD{l m:List α}{i:Nat}(h1:i<l.length)(J:i<m.length)(h:l[i]≠m[i]):same l m=false:=o6 λe=>by subst e;exact h rfl
def IE{l m:List α}(hl:l.length=m.length)(h:l.take l.length=m.take l.length):same l m=true:=by rw[bD,hl,bD]at h;exact fX.2 h
end
end Go.VC
namespace Go.VC.cG
open Go Go.VC Go.Proofs
end Go.VC.cG
namespace Go.VC
section
variable {t u:Ty}{n:Nat}
def ID(h:t.k≠u.k):same t u=false:=o6 λe=>h (by rw[e])
def IC(h:t.m≠u.m):same t u=false:=o6 λe=>h (by rw[e])
def IB(h:t.n≠u.n):same t u=false:=o6 λe=>h (by rw[e])
def Am(h:same t.fl u.fl=false):same t u=false:=o6 λe=>by rw[e,jW]at h;cases h
def NY(h0:t.k=u.k)(h1:t.m=u.m)(J:t.n=u.n)(h4:t.fl=u.fl):same t.ar u.ar=same t u:=by
 cases hb:same t.ar u.ar with
 |true=>exact(fX.2 (Ty.ext h0 h1 J (fX.1 hb) h4)).symm
 |false=>exact(o6 λe=>by rw[e,jW]at hb;cases hb).symm
def uG{α:Type}{l m:List α}(hl:l.length=m.length)(h:l.take l.length=m.take l.length):l=m:=by rw[bD,hl,bD]at h;exact h
def q9(h:Ty.le n t):t.ar.length<=n:=by cases h;assumption
def wB(h:Ty.le n t):t.fl.length<=n:=by cases h;assumption
def qd(h:Ty.le n t):∀u∈t.ar,Ty.le n u:=by cases h;assumption
def sB(h:Ty.le n t):∀f∈t.fl,Ty.le n f.t:=by cases h;assumption
end
end Go.VC
namespace Go.VC.cG
open Go Go.VC Go.Proofs
end Go.VC.cG
