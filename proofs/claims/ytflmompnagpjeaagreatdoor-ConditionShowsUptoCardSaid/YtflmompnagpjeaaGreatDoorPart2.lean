/- Part 2 of the common texts. -/
import Derived.CallsIn
import Derived.Laws.MakeOwn
import Derived.Lib.AppendStr
import Derived.Laws.AppendOwn
import Derived.Laws.IdiomRangeMap
import Derived.RangeFuncLeaves
import Derived.RangeFuncNested
import Derived.OrdersIn
import Derived.Test.YtflmompnagpjeaaGreatDoorPart1
set_option linter.all false
set_option maxRecDepth 100000
set_option maxHeartbeats 16000000
open Array renaming ext'→gL,filter→HY,filter_eq_empty_iff→DI,foldl_toList→vZ,getD_eq_getD_getElem?→cO,getElem?_eq_getElem→pd,getElem?_eq_none→cR,getElem?_setIfInBounds→AK,getElem?_setIfInBounds_ne→fT,getElem?_setIfInBounds_self_of_lt→eb,getElem?_toList→gM,length_toList→fI,range→KW,size_map→DA,toList_inj→QI,toList_modify→K7,toList_push→Ou,toList_zipIdx→K6
open Bool renaming and_eq_true→bn,and_false→oE,false_eq_true→cA
open Int renaming toNat_natCast→fp
open List renaming all_eq_true→dE,any_eq_false→xx,append_assoc→bL,dropLast_concat_getLast→B3,drop_eq_getElem_cons→bJ,drop_eq_nil_of_le→fH,eq_nil_of_length_eq_zero→cm,eraseIdx_sublist→KR,ext_getElem?→xw,find?_eq_none→gg,getD→cx,getElem?_append_left→bO,getElem?_append_right→cd,getElem?_drop→eN,getElem?_eq_getElem→bu,getElem?_eq_none→bU,getElem?_eq_some_iff→dr,getElem?_eraseIdx→rW,getElem?_inj→QH,getElem?_map→cC,getElem?_modify→tm,getElem?_of_mem→ig,getElem?_range→uR,getElem?_set_ne→bQ,getElem?_set_self→bT,getElem?_take_of_lt→cN,getElem_mem→br,length→jJ,length_append→bp,length_cons→bI,length_drop→qi,length_eraseIdx→K3,length_map→bA,length_nil→bZ,length_pos_iff→gz,length_set→fR,length_take→cF,map_cons→bF,mem_append→bE,mem_cons→bx,mem_flatMap→cb,mem_map→bH,mem_of_getElem?→fA,nodup_append→dk,nodup_cons→cq,nodup_nil→oC,pairwise_iff_getElem→hX,range→dF,replicate→fb,size_toArray→QG,take_of_length_le→ek
open List.cons renaming injEq→lW
open Nat renaming add_assoc→fi,add_comm→Af,add_mul→dz,add_zero→iw,div_eq_of_lt→rn,div_lt_iff_lt_mul→K1,eq_zero_or_pos→xe,le_refl→bX,le_succ→uM,le_trans→bM,lor→jc,lt_or_ge→bR,lt_trichotomy→Ae,mod_eq_of_lt→AH,mod_lt→QF,mul_add_div→sC,mul_add_mod→Dx,mul_comm→jb,mul_le_mul→lG,mul_le_mul_right→dq,mul_one→p5,shiftLeft→eu,zero_add→dY
open Ne renaming symm→dZ
open Option renaming bind_some→iG,getD_none→xv,getD_some→eR,map_eq_some_iff→qh,map_none→Ai,map_some→cv
open Option.some renaming injEq→cw
open Prod.mk renaming injEq→gf
namespace Go.VC
section
variable [Inhabited pY]
open Go
variable {P:Program}{f:FuncId}
def lV(tt:TypeId->Option TI)(E:List RI)(Pp:fQ)(objs:List Ob)(w:World)(K:PV->List Ob->Prop):Ending->World->Prop:=λe w'=>
 ∃v E' Pp' objs' pv,e= .returned v/\pM E E'/\(∀ad v,Pp ad v->Pp' ad v)/\
  WR tt E' Pp' objs' w'/\VR tt E' Pp' v pv/\K pv objs'/\Fr (own E objs) w w'/\KK (own E objs) w Pp Pp'/\lT (own E objs) w E' objs'
def mA(P:Program)(f:FuncId)(vals:List Value)(w:World)(R:Ending->World->Prop):Prop:=((callFunc f ⟨vals⟩).run P w= .ok (.enter f ⟨vals⟩) w/\Calls P f ⟨vals⟩ w R)\/∃v w',(callFunc f ⟨vals⟩).run P w= .ok (.value v) w'/\R (.returned v) w'
def mA.mono{vals:List Value}{w:World}{R b:Ending->World->Prop}(h:mA P f vals w R)(hr:∀e w',R e w'->b e w'):mA P f vals w b:=by
 rcases h with⟨h1,h2⟩|⟨v,w',h1,h2⟩
 ·exact .inl ⟨h1,h2.mono hr⟩
 ·exact .inr ⟨v,w',h1,hr _ _ h2⟩
def FC(P:Program)(tt:TypeId->Option TI)(f:FuncId)(objs:List Ob)(args:List PV)(K:PV->List Ob->Prop):Prop:=∀E Pp w vals,WR tt E Pp objs w->eM tt E Pp vals args->mA P f vals w (lV tt E Pp objs w K)
def YC(P:Program)(tt:TypeId->Option TI)(objs:List Ob)(args:List PV)(K:PV->List Ob->Prop):Prop:=
 ∀E Pp w vals l rec,WR tt E Pp objs w->E[0]? =some (.loop l)->w.heap[l]? =some (.loop rec)->eM tt E Pp vals args->
  vals.length=rec.params.size/\RoundIn Fence.wide 0 P l rec.fn ((rec.params.zip (⟨vals⟩:Array Value)).foldl (λtmps (t,a)=>tmps.setIfInBounds t a) rec.tmps) rec.assign rec.body w (lV tt E Pp objs w K)
def lU(P:Program)(tt:TypeId->Option TI):jm:=λc objs args K=>match c with
 | .fn f=>FC P tt f objs args K
 | .kF=>YC P tt objs args K
def FC.mono{tt:TypeId->Option TI}{objs:List Ob}{args:List PV}{K b:PV->List Ob->Prop}(h:FC P tt f objs args K)(hk:∀v o,K v o->b v o):FC P tt f objs args b:=by intro E Pp w vals c d;exact(h E Pp w vals c d).mono λe w' ⟨v,E',Pp',objs',pv,h1,h2,h3,h4,h5,h6,h7,h8,g⟩=>⟨v,E',Pp',objs',pv,h1,h2,h3,h4,h5,hk _ _ h6,h7,h8,g⟩
section
variable {P:Program}{tt:TypeId->Option TI}{N:Nat}{B:jH}{E:List RI}{Pp:fQ}{objs:List Ob}{w:World}{st:St}{a:Act}
def WR.nil{Pp':fQ}(c:∀ad v,Pp' ad v->pc w ad=some v)(d:N6 tt Pp'):WR tt [] Pp' [] w:=⟨rfl,c,λi o h=>yE h,λi j oi oj ri rj b h=>yE h,d⟩
def nU{b:Nat}(h:own [] [] b):False:=by obtain⟨i,o,ri,h,_⟩:=h;simp at h
def Fh(b:WR tt E Pp objs w){F:List Nat}{ad:Addr}{v:Value}(h:gQ tt E objs w Pp F ad v):pc w ad=some v:=by
 rcases h with h|⟨h,_⟩
 ·exact b.pi _ _ h
 ·exact gm h
def cK.called{Pp1 Pp':fQ}{w':World}{c:List Ob}(h1:cK tt B E Pp1 c w)(m:∀ad v,Pp1 ad v->Pp' ad v)
 (g:Fr (own [] []) w w') (hV:∀ad v,Pp' ad v->pc w' ad=some v) (d:KK (own [] []) w Pp1 Pp'):cK tt B E Pp' c w':=by
 have j:∀k,k<w.heap.size->w'.heap[k]? =w.heap[k]? :=λk hk=>g.block k hk (λh=>nU h);refine⟨h1.wr.frame (λb hb=>j b (mW h1.wr hb)) m ?_ hV,h1.pre,λad v e=>m ad v (h1.sT ad v e),?_,?_,h1.fresh⟩
 ·intro ad v e;rcases d ad v e with h2|h2|h2
  ·exact .inl h2
  ·refine .inr (λn=>?_);have:=mW h1.wr n;omega
  ·exact(nU h2).elim
 ·exact h1.fr.trans g (λx _ h=>(nU h).elim)
 ·intro ad v e;rcases d ad v e with h2|h2|h2
  ·exact h1.jV ad v h2
  ·exact .inr (.inl (by have:=h1.fr.size;omega))
  ·exact(nU h2).elim
section
variable {α:Type}
def mU:List Nat->List α->List α->List α
 |[],l,xs=>l++xs
 |r::F,l,x::xs=>mU F (l.set r x) xs
 |_::_,l,[]=>l
def BW:∀{F:List Nat}{n j r:Nat},F[j]? =some r->iu n F j=r
 |[],n,j,r,h=>yE h
 |x::F,n,0,r,h=>by simp at h;exact h
 |x::F,n,j+1,r,h=>BW (F:=F) (yU h)
def yi:∀{F:List Nat}{l xs:List α},F.length<=xs.length->(mU F l xs).length+F.length=l.length+xs.length
 |[],l,xs,_=>by simp[mU]
 |r::F,l,x::xs,h=>by have:=yi (F:=F) (l:=l.set r x) (xs:=xs) (yU h);simp only[mU,bI,fR]at*;omega
 |_::_,l,[],h=>yE h
def yh:∀{F:List Nat}{l xs:List α}{i:Nat},F.length<=xs.length->i<l.length->i∉F->(mU F l xs)[i]? =l[i]?
 |[],l,xs,i,_,b,_=>by simp[mU,bO b]
 |r::F,l,x::xs,i,h,b,c=>by simp only[bx,not_or]at c;show (mU F (l.set r x) xs)[i]? =_;rw[yh (yU h) (yU b) c.2,bQ (dZ c.1)]
 |_::_,l,[],i,h,_,_=>yE h
def Eo:∀{F:List Nat}{l xs:List α}{j:Nat}{x:α},F.Nodup->(∀r∈F,r<l.length)->F.length<=xs.length->xs[j]? =some x->(mU F l xs)[iu l.length F j]? =some x
 |[],l,xs,j,x,_,_,_,b=>by show (l++xs)[l.length+j]? =_;rw[cd yO];simpa using b
 |r::F,l,y::xs,0,x,gx,dA,h,b=>by simp at b;subst b;rw[cq]at gx;show (mU F (l.set r y) xs)[r]? =_;rw[yh (yU h) (by simpa using dA r yS) gx.1,bT (dA r yS)]
 |r::F,l,y::xs,j+1,x,gx,dA,h,b=>by rw[cq]at gx;show (mU F (l.set r y) xs)[iu l.length F j]? =_;have:=Eo (F:=F) (l:=l.set r y) (xs:=xs) (j:=j) (x:=x) gx.2 (λr' hr=>by simpa using dA r' (by simp[hr])) (yU h) (yU b);simpa using this
 |_::_,l,[],j,x,_,_,h,_=>yE h
def yj:∀{F:List Nat}{l xs:List α}{i:Nat}{x:α},(∀r∈F,r<l.length)->F.length<=xs.length->F.Nodup->(mU F l xs)[i]? =some x->
 (i<l.length/\i∉F/\l[i]? =some x)\/∃j,i=iu l.length F j/\xs[j]? =some x
 |[],l,xs,i,x,_,_,_,h=>by
  rcases bR i l.length with b|b
  ·simp only[mU,bO b]at h;exact .inl ⟨b,yS,h⟩
  ·simp only[mU,cd b]at h;exact .inr ⟨i-l.length,by simp[iu];omega,h⟩
 |r::F,l,y::xs,i,x,dA,h,gx,d=>by
  rw[cq]at gx;rcases yj (F:=F) (l:=l.set r y) (xs:=xs) (λr' hr=>by simpa using dA r' (by simp[hr])) (yU h) gx.2 d with⟨h1,h2,h3⟩|⟨j,h1,h2⟩
  ·by_cases c:i=r
   ·subst c;rw[bT (yU h1)]at h3;exact .inr ⟨0,rfl,yU h3⟩
   ·rw[bQ (dZ c)]at h3;exact .inl ⟨yU h1,by simp[c,h2],h3⟩
  ·exact .inr ⟨j+1,by simpa[iu]using h1,yU h2⟩
 |_::_,l,[],i,x,_,h,_,_=>yE h
end
variable {F ps:List Nat}{i k r:Nat}{ri:RI}{o q:Ob}{w':World}{α:Type}{E' E2:List RI}{args:List PV}{vals:List Value}{K:PV->St->Prop}{l:List Ob}{Pp':fQ}{G:dH}{f:FuncId}
def Iw:∀(F:List Nat)(l xs:List Ob),GU F l xs=mU F l xs
 |[],l,xs=>by simp[GU,mU,eU]
 |r::F,l,x::xs=>by simp only[GU,mU,gw];exact Iw F _ xs
 |_::_,l,[]=>rfl
def zI(F:List Nat):∀(l:List Ob)(i:Nat),(kz F l)[i]? =(l[i]?).map λo=>match o with| .iter m s=>bif eI m F then .dead else .iter m s|o=>o
 |[],i=>by simp[kz]
 |o::l,i=>by cases o<;>cases i<;>simp[kz,zI F l]
def jO(F:List Nat):∀(l:List Ob),(kz F l).length=l.length
 |[]=>rfl
 |o::l=>by cases o<;>simp[kz,jO F l]
def Fu(h:(kz F l)[i]? =some o)(hl:o.live=true):l[i]? =some o/\∀m s,o= .iter m s->m∉F:=by
 rw[zI]at h;cases c:l[i]? with
 |none=>rw[c]at h;simp at h
 |some o'=>
  rw[c]at h;simp only[cv,cw]at h;cases o' with
  |iter m s=>
   simp only at h;cases hm:eI m F with
   |true=>rw[hm]at h;simp at h;subst h;simp[Ob.live]at hl
   |false=>rw[hm]at h;simp at h;subst h;refine⟨rfl,λm' s' e=>?_⟩;cases e;intro b;rw[(kW _ _).2 b]at hm;cases hm
  |_=>simp only at h;subst h;exact⟨rfl,λm s e=>yC e⟩
def qH(hk:ps[k]? =some r)(b:E[r]? =some ri):(ps.map λr=>E.getD r .row0)[k]? =some ri:=by simp[hk,cx,b]
def pw{x:RI}(hk:r7 ps 0 i=some k)(c:E[i]? =some x):(ps.map λr=>E.getD r .row0)[k]? =some x:=by obtain⟨j,rfl,b⟩:=vI hk;rw[dY];exact qH b c
def L4(b:(cQ (λr=>jK ps (eG objs r)) ps)[k]? =some q)(hl:q.live=true):∃r o',ps[k]? =some r/\objs[r]? =some o'/\o'.live=true/\q=jK ps o':=by
 rw[gP,cC]at b;cases d:ps[k]? with
 |none=>rw[d]at b;simp at b
 |some r=>
  rw[d]at b;simp only[cv,cw]at b;rw[rO]at b;cases c:objs[r]? with
  |none=>simp only[cx,c,xv,jK]at b;subst b;simp[Ob.live]at hl
  |some o'=>simp only[cx,c,eR]at b;refine⟨r,o',rfl,c,?_,b.symm⟩;cases o'<;>first|rfl|(subst b;simp[jK,Ob.live]at hl)
def qG(c:WR tt E Pp objs w)(d:(cQ (λr=>jK ps (eG objs r)) ps)[k]? =some q)(hl:q.live=true)(b:(ps.map λr=>E.getD r .row0)[k]? =some ri):
 ∃r o',ps[k]? =some r/\objs[r]? =some o'/\o'.live=true/\E[r]? =some ri:=by
 obtain⟨r,o',h1,h2,h3,h4⟩:=L4 d hl;obtain⟨ri',h5,_⟩:=c.ob r o' h2 h3;have:=qH h1 h5;rw[b]at this;cases this;exact⟨r,o',h1,h2,h3,h5⟩
def WR.pick(g:WR tt E Pp objs w)(gx:ps.Nodup):WR tt (ps.map λr=>E.getD r .row0) Pp (cQ (λr=>jK ps (eG objs r)) ps) w:=by
 refine⟨by simp[gP],g.pi,?_,?_,g.gl⟩
 ·intro k q A hl;obtain⟨r,o',h1,h2,h3,rfl⟩:=L4 A hl;obtain⟨ri,h5,h6⟩:=g.ob r o' h2 h3;refine⟨ri,qH h1 h5,?_⟩;cases o' with
  |box cs=>
   cases ri<;>simp only[OR]at h6<;>simp only[jK,OR]
   ·obtain⟨vs,T,a1,a2,a3,a4⟩:=h6;exact⟨vs,T,a1,yp (λ_ _ _=>pw) a2,a3,a4.map (J1 ps)⟩
   ·exact h6.imp λ_ a=>⟨a.1,yp (λ_ _ _=>pw) a.2.1,a.2.2⟩
  |row e d wr=>cases ri<;>exact h6
  |map kc e d=>cases ri<;>exact h6
  |diter e d seen=>cases ri<;>exact h6
  |iter m seen=>
   simp only[jK]at hl ⊢;cases y:r7 ps 0 m with
   |none=>rw[y]at hl;simp[Ob.live]at hl
   |some k=>
    cases ri<;>simp only[OR]at h6<;>simp only[OR]
    obtain⟨z,borns,clock,J,a1,a2⟩:=h6;exact⟨z,borns,clock,J,pw y a1,a2⟩
  |loop n M c1 c2 s j=>
   cases ri<;>simp only[OR]at h6<;>simp only[jK,OR]
   obtain⟨r,a1,a2,a3⟩:=h6;exact⟨r,a1,a2,λt=>by rw[yr];exact tT (λ_ _ _=>pw) 8 _ _ (a3 t)⟩
  |dead=>simp[jK,Ob.live]at hl
 ·intro i j oi oj ri rj b D C c h v x p u;obtain⟨r,L,a1,a2,a3,a4⟩:=qG g D c v;obtain⟨r',o2,b1,b2,I,H⟩:=qG g C h x;have:=g.sep r r' L o2 ri rj b a2 b2 a3 I a4 H p u;subst this;have c:=(dr.1 a1).1;exact(QH c gx).1 (a1.trans b1.symm)
theorem OR.oK{f:Nat->Nat}(hf:∀(i:Nat) x,E[i]? =some x->E2[f i]? =some x)(hl:(oK f o).live=true)(h:OR tt E Pp w ri o):OR tt E2 Pp w ri (oK f o):=by
 cases o with
 |box cs=>
  cases ri<;>simp only[OR]at h<;>simp only[VC.oK,OR]
  ·obtain⟨vs,T,a1,a2,a3,a4⟩:=h;exact⟨vs,T,a1,tQ hf a2,a3,a4.map (LX f)⟩
  ·exact h.imp λ_ a=>⟨a.1,tQ hf a.2.1,a.2.2⟩
 |row e d wr=>cases ri<;>exact h
 |map kc e d=>cases ri<;>exact h
 |diter e d seen=>cases ri<;>exact h
 |iter m seen=>simp[VC.oK,Ob.live]at hl
 |loop n b c1 c2 s j=>
  cases ri<;>simp only[OR]at h<;>simp only[VC.oK,OR]
  obtain⟨r,a1,a2,a3⟩:=h;exact⟨r,a1,a2,λt=>by rw[A5];exact xh hf 8 _ _ (a3 t)⟩
 |dead=>simp[VC.oK,Ob.live]at hl
def cK.back(h:cK tt B E Pp objs w)(gx:F.Nodup)(dA:∀r∈F,r<objs.length){J:fQ}{o2:List Ob}(T:pM (F.map λr=>E.getD r .row0) E2)
 (hp:∀ad v,Pp ad v->J ad v) (y:WR tt E2 J o2 w') (ag:Fr (own (F.map λr=>E.getD r .row0) (cQ (λr=>jK F (eG objs r)) F)) w w')
 (ak:KK (own (F.map λr=>E.getD r .row0) (cQ (λr=>jK F (eG objs r)) F)) w Pp J) (hf:lT (own (F.map λr=>E.getD r .row0) (cQ (λr=>jK F (eG objs r)) F)) w E2 o2):
 cK tt B (mU F E E2) J (GU F (kz F objs) (cQ (oK (iu (bY objs) F)) o2)) w'/\pM E (mU F E E2)/\∀(j:Nat) x,E2[j]? =some x->(mU F E E2)[iu (bY objs) F j]? =some x:=by
 have hl:=h.wr.len;have ao:=y.len;rw[Iw,cL]
 have R:F.length<=E2.length:=by
  rcases bR E2.length F.length with h'|h'
  ·exfalso;have C:(F.map λr=>E.getD r .row0)[E2.length]? =some (E.getD F[E2.length] .row0):=by simp[h']
   rcases T _ _ C with h1|⟨_,_,_,_,_,_,h1⟩<;>(have:=cB h1;omega)
  ·exact h'
 have ah:∀r∈F,r<E.length:=λr hr=>by rw[hl];exact dA r hr
 have d:∀(j:Nat) x,E2[j]? =some x->(mU F E E2)[iu objs.length F j]? =some x:=by intro j x C;rw[<- hl];exact Eo gx ah R C
 have g:∀(i:Nat),i<E.length->i∉F->(mU F E E2)[i]? =E[i]? :=λi hi hn=>yh R hi hn
 have X:pM E (mU F E E2):=by
  intro i x C;have hi:=cB C;by_cases hm:i∈F
  ·obtain⟨k,hk⟩:=ig hm;have af:iu objs.length F k=i:=BW hk;rcases T k x (qH hk C)with h1|⟨b,n,c,n',c',rfl,h1⟩
   ·have:=d k x h1;rw[af]at this;exact .inl this
   ·have:=d k _ h1;rw[af]at this;exact .inr ⟨b,n,c,n',c',rfl,this⟩
  ·rw[g i hi hm];exact .inl C
 have S:∀b,own (F.map λr=>E.getD r .row0) (cQ (λr=>jK F (eG objs r)) F) b->∃r o ri,r∈F/\objs[r]? =some o/\o.live=true/\E[r]? =some ri/\ri.cZ =some b:=by rintro b ⟨i,q,ri,h1,h2,h3,h4⟩;obtain⟨r,o',a1,a2,a3,a4⟩:=qG h.wr h1 h2 h3;exact⟨r,o',ri,fA a1,a2,a3,a4,h4⟩
 have V:∀b,own (F.map λr=>E.getD r .row0) (cQ (λr=>jK F (eG objs r)) F) b->B.w0.heap.size<=b\/B.mo b:=by intro b hb;obtain⟨r,o,ri,_,h2,h3,h4,h5⟩:=S b hb;exact h.fresh r o ri b h2 h3 h4 h5
 have z:∀(i:Nat) o ri b,i∉F->objs[i]? =some o->o.live=true->E[i]? =some ri->ri.cZ =some b->b<w.heap.size/\¬own (F.map λr=>E.getD r .row0) (cQ (λr=>jK F (eG objs r)) F) b:=by intro i o ri b hi h1 h2 h3 h4;refine⟨mW h.wr ⟨i,o,ri,h1,h2,h3,h4⟩,λhb=>?_⟩;obtain⟨r,o',ri',h5,h6,h7,h8,h9⟩:=S b hb;have:=h.wr.sep i r o o' ri ri' b h1 h6 h2 h7 h3 h8 h4 h9;subst this;exact hi h5
 have ai:F.length<=(cQ (oK (iu objs.length F)) o2).length:=by rw[fX,<-ao];exact R
 have am:∀r∈F,r<(kz F objs).length:=λr hr=>by rw[jO];exact dA r hr
 have t:∀(i:Nat) o,(mU F (kz F objs) (cQ (oK (iu objs.length F)) o2))[i]? =some o->o.live=true->
  (i<objs.length/\i∉F/\objs[i]? =some o/\∀m s,o= .iter m s->m∉F)\/∃j o',i=iu objs.length F j/\o2[j]? =some o'/\o'.live=true/\o=oK (iu objs.length F) o':=by
  intro i o ho u;rcases yj am ai gx ho with⟨h1,h2,h3⟩|⟨j,h1,h2⟩
  ·rw[jO]at h1;obtain⟨h4,h5⟩:=Fu h3 u;exact .inl ⟨h1,h2,h4,h5⟩
  ·rw[jO]at h1;rw[gP,cC]at h2;cases C:o2[j]? with
   |none=>rw[C]at h2;simp at h2
   |some o'=>rw[C]at h2;simp only[cv,cw]at h2;refine .inr ⟨j,o',h1,C,?_,h2.symm⟩;cases o'<;>first|rfl|(subst h2;simp[oK,Ob.live]at u)
 refine⟨⟨⟨?_,y.pi,?_,?_,y.gl⟩,h.pre.trans X,λad v hv=>hp _ _ (h.sT ad v hv),?_,?_,?_⟩,X,d⟩
 ·have h1:=yi (F:=F) (l:=E) (xs:=E2) R;have h2:=yi (F:=F) (l:=kz F objs) (xs:=cQ (oK (iu objs.length F)) o2) ai;rw[jO,fX]at h2;omega
 ·intro i o ho u;rcases t i o ho u with⟨h1,h2,h3,h4⟩|⟨j,o',rfl,h2,h3,rfl⟩
  ·obtain⟨ri,I,Z⟩:=h.wr.ob i o h3 u;refine⟨ri,by rw[g i yO h2];exact I,OR.M2 X ?_ hp ?_ ?_ Z⟩
   ·intro m s e x C;rw[g m (cB C) (h4 m s e)];exact C
   ·intro b hb;obtain⟨h5,h6⟩:=z i o ri b h2 h3 u I hb;exact ag.block b h5 h6
   ·intro b hb ad v hv he;obtain⟨h5,h6⟩:=z i o ri b h2 h3 u I hb;rcases ak ad v hv with h7|h7|h7
    ·exact h7
    ·omega
    ·rw[he]at h7;exact absurd h7 h6
  ·obtain⟨ri,I,Z⟩:=y.ob j o' h2 h3;exact⟨ri,d j ri I,OR.oK d u Z⟩
 ·intro i j oi oj ri rj b hi hj ac ab H D L Q;rcases t i oi hi ac with⟨h1,h2,h3,_⟩|⟨i',O,rfl,h2,h3,rfl⟩<;>rcases t j oj hj ab with⟨k1,U,W,_⟩|⟨j',M,rfl,U,W,rfl⟩
  ·rw[g i yO h2]at H;rw[g j yO U]at D;exact h.wr.sep i j oi oj ri rj b h3 W ac ab H D L Q
  ·rw[g i yO h2]at H;obtain⟨h5,h6⟩:=z i oi ri b h2 h3 ac H L;obtain⟨Y,A,_⟩:=y.ob j' M U W;have:=d j' Y A;rw[D]at this;cases this;rcases hf j' M rj b U W A Q with h7|h7
   ·omega
   ·exact absurd h7 h6
  ·rw[g j yO U]at D;obtain⟨h5,h6⟩:=z j oj rj b U W ab D Q;obtain⟨ri',p,_⟩:=y.ob i' O h2 h3;have:=d i' ri' p;rw[H]at this;cases this;rcases hf i' O ri b h2 h3 p L with h7|h7
   ·omega
   ·exact absurd h7 h6
  ·obtain⟨ri',p,_⟩:=y.ob i' O h2 h3;have e1:=d i' ri' p;rw[H]at e1;cases e1;obtain⟨Y,A,_⟩:=y.ob j' M U W;have e2:=d j' Y A;rw[D]at e2;cases e2;rw[y.sep i' j' O M ri rj b h2 U h3 W p A L Q]
 ·refine h.fr.trans ag (λx C an=>?_);rcases V x an with h1|h1
  ·omega
  ·exact h1
 ·intro ad v hv;rcases ak ad v hv with h1|h1|h1
  ·exact h.jV ad v h1
  ·exact .inr (.inl (bM h.fr.size h1))
  ·exact .inr (V _ h1)
 ·intro i o ri b ho u hE hb;rcases t i o ho u with⟨h1,h2,h3,_⟩|⟨j,o',rfl,h2,h3,rfl⟩
  ·rw[g i yO h2]at hE;exact h.fresh i o ri b h3 u hE hb
  ·obtain⟨ri',p,_⟩:=y.ob j o' h2 h3;have:=d j ri' p;rw[hE]at this;cases this;rcases hf j o' ri b h2 h3 p hb with h7|h7
   ·exact .inl (bM h.fr.size h7)
   ·exact V b h7
def Hb(F:List Nat)(s:cS)(t:Nat):look (nk F objs s) t=look s t\/(look (nk F objs s) t=nN objs 8 (look s t)/\∀i∈ids objs 8 (look s t),i∈F)\/look (nk F objs s) t= .undef:=by
 induction s with
 |nil=>exact .inl rfl
 |cons x s c=>
  obtain⟨k,p⟩:=x;simp only[nk,look];cases nb k t with
  |false=>simpa using c
  |true=>
   simp only[cond_true];cases qg (λb=>(match eG objs b with| .box _=>uN b 8 p|_=>false)) F with
   |false=>exact .inl rfl
   |true=>
    cases hc:gF (λi=>eI i F) (ids objs 8 p)with
    |false=>exact .inr (.inr rfl)
    |true=>refine .inr (.inl ⟨rfl,λi d=>?_⟩);rw[xr,dE]at hc;exact(kW i F).1 (hc i d)
def uh(b:WR tt E Pp objs w){s:cS}(hs:∀t,VR tt E Pp (a.tmps.getD t undef) (look s t)):
 ∀t,VR tt E (gQ tt E objs w Pp F) (a.tmps.getD t undef) (look (nk F objs s) t):=by
 intro t;rcases Hb (objs:=objs) F s t with h|⟨h,c⟩|h
 ·rw[h];exact(hs t).mono (λ_ _ h=>h) (λ_ _ h=>.inl h)
 ·rw[h];exact(s3 b 8 _ _ (hs t) c).of_nil E
 ·rw[h];exact .undef _
def jw{l k:List α}{x:α}(h:(l++k)[i]? =some x):(i<l.length/\l[i]? =some x)\/∃j,i=l.length+j/\k[j]? =some x:=by
 rcases bR i l.length with b|b
 ·rw[bO b]at h;exact .inl ⟨b,h⟩
 ·rw[cd b]at h;exact .inr ⟨i-l.length,yO,h⟩
def ga{l k:List α}{x:α}(h:l[i]? =some x):(l++k)[i]? =some x:=by
 rw[bO]
 ·exact h
 ·rcases bR i l.length with b|b
  ·exact b
  ·rw[bU b]at h;simp at h
def kT{l k:List α}{j:Nat}{x:α}(h:k[j]? =some x):(l++k)[l.length+j]? =some x:=by rw[cd yO];simpa using h
def OR.goes(b:lr o=true)(hl:o.live=true)(h:OR tt E Pp w ri o):OR tt E' Pp w ri o:=by
 cases o<;>simp[lr,Ob.live]at b hl
 ·cases ri<;>exact h
 ·cases ri<;>exact h
def Fj(h:gF lr l=true)(b:l[i]? =some o):lr o=true:=by rw[xr,dE]at h;exact h o (fA b)
def cK.MG{Pp1:fQ}{e objs':List Ob}(h:cK tt B E Pp' e w')(m:WR tt E' Pp' objs' w')(D:gF lr objs'=true)
 (u:∀b,own E e b->b<w.heap.size) (fW:B.w0.heap.size<=w.heap.size) (hf:lT (own [] []) w E' objs'):cK tt B (E++E') Pp' (e++objs') w':=by
 have hl:=h.wr.len
 have new:∀(j:Nat) o ri b,objs'[j]? =some o->o.live=true->E'[j]? =some ri->ri.cZ =some b->w.heap.size<=b:=by
  intro j o ri b h1 h2 h3 h4;rcases hf j o ri b h1 h2 h3 h4 with h5|h5
  ·exact h5
  ·exact(nU h5).elim
 refine⟨⟨by simp[hl,m.len],m.pi,?_,?_,m.gl⟩,h.pre.trans (.of λ_ _=>ga),h.sT,h.fr,h.jV,?_⟩
 ·intro i o z g;rcases jw z with⟨_,h1⟩|⟨j,rfl,h1⟩
  ·obtain⟨ri,x,v⟩:=h.wr.ob i o h1 g;exact⟨ri,ga x,OR.frame (λ_ _=>ga) (λ_ _ h=>h) (λ_ _=>rfl) (λ_ _ _ _ h _=>h) v⟩
  ·obtain⟨ri,x,v⟩:=m.ob j o h1 g;exact⟨ri,by rw[<- hl];exact kT x,v.goes (Fj D h1) g⟩
 ·intro i j oi oj ri rj b H C s n c d p t;rcases jw H with⟨l1,h1⟩|⟨i',rfl,h1⟩<;>rcases jw C with⟨l2,h2⟩|⟨A,rfl,h2⟩
  ·rw[bO yO]at c d;exact h.wr.sep i j oi oj ri rj b h1 h2 s n c d p t
  ·rw[bO yO]at c;rw[<- hl,cd yO]at d;have:=u b ⟨i,oi,ri,h1,s,c,p⟩;have:=new A oj rj b h2 n (yU d) t;omega
  ·rw[bO yO]at d;rw[<- hl,cd yO]at c;have:=u b ⟨j,oj,rj,h2,n,d,t⟩;have:=new i' oi ri b h1 s (yU c) p;omega
  ·rw[<- hl,cd yO]at c d;have:=m.sep i' A oi oj ri rj b h1 h2 s n (yU c) (yU d) p t;omega
 ·intro i o ri b z g y hb;rcases jw z with⟨l1,h1⟩|⟨i',rfl,h1⟩
  ·rw[bO yO]at y;exact h.fresh i o ri b h1 g y hb
  ·rw[<- hl,cd yO]at y;exact .inl (bM fW (new i' o ri b h1 g (yU y) hb))
def oU{ad:Addr}{v:Value}(h:gQ tt E objs w Pp [] ad v):Pp ad v:=by
 rcases h with h|⟨_,i,b,_⟩
 ·exact h
 ·simp at b
def ke{l:List Nat}(h:ew l=true):l=[]:=by cases l<;>simp_all[ew]
def cK.kept{s ob:Ob}{more:List Ob}(h:cK tt B E Pp objs w)(Y:objs[r]? =some s)(Q:s.live=true)(hr:E[r]? =some ri)
 (n:WR tt (ri::E') Pp' (ob::more) w') (ab:lr ob=true) (hg:gF lr more=true) (hp:∀ad v,Pp ad v->Pp' ad v)
 (O:Fr (own [ri] [s]) w w') (U:KK (own [ri] [s]) w Pp Pp') (hf:lT (own [ri] [s]) w (ri::E') (ob::more)):cK tt B (E++E') Pp' (objs.set r ob++more) w':=by
 have hl:=h.wr.len
 have p:∀b,own [ri] [s] b->ri.cZ =some b:=by
  rintro b ⟨i,o,r',h1,h2,h3,h4⟩;cases i with
  |zero=>simp at h1 h3;subst h1 h3;exact h4
  |succ i=>simp at h1
 have D:∀b,ri.cZ =some b->B.w0.heap.size<=b\/B.mo b:=λb hb=>h.fresh r s ri b Y Q hr hb
 have ac:r<objs.length:=by
  rcases bR r objs.length with h'|h'
  ·exact h'
  ·rw[bU h']at Y;simp at Y
 have old:∀(j:Nat) o rj b,j≠r->objs[j]? =some o->o.live=true->E[j]? =some rj->rj.cZ =some b->b<w.heap.size/\ri.cZ ≠some b:=by intro j o rj b H h1 h2 h3 h4;exact⟨mW h.wr ⟨j,o,rj,h1,h2,h3,h4⟩,λh5=>H (h.wr.sep j r o s rj ri b h1 Y h2 Q h3 hr h4 h5)⟩
 have new:∀(j:Nat) o rj b,more[j]? =some o->o.live=true->E'[j]? =some rj->rj.cZ =some b->w.heap.size<=b\/ri.cZ =some b:=by
  intro j o rj b h1 h2 h3 h4;rcases hf (j+1) o rj b (yU h1) h2 (yU h3) h4 with h5|h5
  ·exact .inl h5
  ·exact .inr (p b h5)
 have g:∀(j:Nat) o,(objs.set r ob)[j]? =some o->(j=r/\o=ob)\/(j≠r/\objs[j]? =some o):=by
  intro j o H;by_cases L:j=r
  ·subst L;rw[bT ac]at H;simp at H;exact .inl ⟨rfl,H.symm⟩
  ·rw[bQ (dZ L)]at H;exact .inr ⟨L,H⟩
 have S:=n.len;simp only[bI]at S;refine⟨⟨by simp[hl];omega,n.pi,?_,?_,n.gl⟩,h.pre.trans (.of λ_ _=>ga),λad v V=>hp _ _ (h.sT ad v V),?_,?_,?_⟩
 ·intro i o T e;rcases jw T with⟨_,h1⟩|⟨j,rfl,h1⟩
  ·rcases g i o h1 with⟨rfl,rfl⟩|⟨m,h2⟩
   ·obtain⟨r',R,C⟩:=n.ob 0 o rfl e;simp at R;subst R;exact⟨ri,ga hr,C.goes ab e⟩
   ·obtain⟨rj,A,C⟩:=h.wr.ob i o h2 e;refine⟨rj,ga A,OR.frame (λ_ _=>ga) hp ?_ ?_ C⟩
    ·intro b hb;obtain⟨h3,h4⟩:=old i o rj b m h2 e A hb;exact O.block b h3 (λh5=>h4 (p b h5))
    ·intro b hb ad v V he;obtain⟨h3,h4⟩:=old i o rj b m h2 e A hb;rcases U ad v V with h5|h5|h5
     ·exact h5
     ·omega
     ·exact absurd (p _ h5) (by rw[he];exact h4)
  ·obtain⟨rj,A,C⟩:=n.ob (j+1) o (yU h1) e;simp at A;refine⟨rj,?_,C.goes (Fj hg h1) e⟩;rw[fR,<-hl];exact kT A
 ·intro i j oi oj ri' rj b T H z y d c t u;rcases jw T with⟨l1,h1⟩|⟨i',rfl,h1⟩<;>rcases jw H with⟨l2,h2⟩|⟨X,rfl,h2⟩
  ·rw[fR]at l1 l2;rw[bO yO]at d c;rcases g i oi h1 with⟨rfl,rfl⟩|⟨m,h3⟩<;>rcases g j oj h2 with⟨rfl,rfl⟩|⟨W,h4⟩
   ·rfl
   ·rw[hr]at d;cases d;exact absurd t (old j oj rj b W h4 y c u).2
   ·rw[hr]at c;cases c;exact absurd u (old i oi ri' b m h3 z d t).2
   ·exact h.wr.sep i j oi oj ri' rj b h3 h4 z y d c t u
  ·rw[fR]at l1;rw[bO yO]at d;rw[fR,<-hl,cd yO]at c;have I:E'[X]? =some rj:=yU c;rcases g i oi h1 with⟨rfl,rfl⟩|⟨m,h3⟩
   ·rw[hr]at d;cases d;have:=n.sep 0 (X+1) oi oj ri rj b rfl (yU h2) z y rfl (yU I) t u;omega
   ·have h5:=old i oi ri' b m h3 z d t;rcases new X oj rj b h2 y I u with h6|h6
    ·omega
    ·exact absurd h6 h5.2
  ·rw[fR]at l2;rw[bO yO]at c;rw[fR,<-hl,cd yO]at d;have J:E'[i']? =some ri':=yU d;rcases g j oj h2 with⟨rfl,rfl⟩|⟨m,h3⟩
   ·rw[hr]at c;cases c;have:=n.sep (i'+1) 0 oi oj ri' ri b (yU h1) rfl z y (yU J) rfl t u;omega
   ·have h5:=old j oj rj b m h3 y c u;rcases new i' oi ri' b h1 z J t with h6|h6
    ·omega
    ·exact absurd h6 h5.2
  ·rw[fR,<-hl,cd yO]at d c;have:=n.sep (i'+1) (X+1) oi oj ri' rj b (yU h1) (yU h2) z y (yU d) (yU c) t u;omega
 ·refine h.fr.trans O (λx hx Z=>?_);rcases D x (p x Z)with h1|h1
  ·omega
  ·exact h1
 ·intro ad v V;rcases U ad v V with h1|h1|h1
  ·exact h.jV ad v h1
  ·exact .inr (.inl (bM h.fr.size h1))
  ·exact .inr (D _ (p _ h1))
 ·intro i o ri' b T e M hb;rcases jw T with⟨l1,h1⟩|⟨i',rfl,h1⟩
  ·rw[fR]at l1;rw[bO yO]at M;rcases g i o h1 with⟨rfl,rfl⟩|⟨m,h3⟩
   ·rw[hr]at M;cases M;exact D b hb
   ·exact h.fresh i o ri' b h3 e M hb
  ·rw[fR,<-hl,cd yO]at M;rcases new i' o ri' b h1 e (yU M) hb with h4|h4
   ·exact .inl (bM h.fr.size h4)
   ·exact D b h4
def CS(h:cK tt B E Pp objs w)(hs:∀t,VR tt E Pp (a.tmps.getD t undef) (look st.s t))(p:eM tt E Pp vals args)(gx:F.Nodup)(dA:∀r∈F,r<objs.length):
 WR tt (F.map λr=>E.getD r .row0) Pp (cQ (λr=>jK F (eG objs r)) F) w/\eM tt (F.map λr=>E.getD r .row0) Pp vals (cQ (jx F 8) args)/\
 ∀e w',lV tt (F.map λr=>E.getD r .row0) Pp (cQ (λr=>jK F (eG objs r)) F) w (λv o'=>K (qB (iu (bY objs) F) 8 v) ⟨st.s,GU F (kz F objs) (cQ (oK (iu (bY objs) F)) o')⟩) e w'->
  ∃v pv s' o' E' Pp',e= .returned v/\VR tt E' Pp' v pv/\(∀t,VR tt E' Pp' (a.tmps.getD t undef) (look s' t))/\cK tt B E' Pp' o' w'/\K pv ⟨s',o'⟩/\(∀ad v,Pp ad v->Pp' ad v)/\pM E E'/\s'=st.s:=by
 refine⟨h.wr.pick gx,yp (λ_ _ _=>pw) p,?_⟩;rintro e w' ⟨v,E2,n,o2,pv,rfl,b,c,g,m,hK,j,d,hf⟩;obtain⟨h1,h2,h3⟩:=cK.back h gx dA b c g j d hf;exact⟨v,_,st.s,_,_,n,rfl,xh h3 8 _ _ m,λt=>(VR.gq h2 c).1 (hs t),h1,hK,c,h2,rfl⟩
def qC:∀(n:Nat)(b seen:List Nat)(i:Nat),seen[0]? =some i->(reach objs n b seen)[0]? =some i
 |0,_,_,_,h=>h
 |_+1,[],_,_,h=>h
 |n+1,x::b,seen,i,h=>by
  simp only[reach];cases eI x seen with
  |true=>exact qC n _ _ _ h
  |false=>refine qC n _ _ _ ?_;rw[eU];exact ga h
def GP(n:Nat)(i:Nat)(b:List Nat):(reach objs (n+1) (i::b) [])[0]? =some i:=by simp only[reach,eI,cond_false];exact qC n _ _ _ rfl
def NL{n:Nat}(h:gF (λr=>iC r n) F=true):∀r∈F,r<n:=by rw[xr,dE]at h;exactλr hr=>dX (h r hr)
def Mu(h:cK tt B E Pp st.o w)(hs:∀t,VR tt E Pp (a.tmps.getD t undef) (look st.s t))(m:eM tt E Pp vals args)
 (hc:EP G (lU P tt) f args st K):
 mA P f vals w λe w'=>∃v pv s' o' E' Pp',e= .returned v/\VR tt E' Pp' v pv/\(∀t,VR tt E' Pp' (a.tmps.getD t undef) (look s' t))/\cK tt B E' Pp' o' w'/\K pv ⟨s',o'⟩/\(∀ad v,Pp ad v->Pp' ad v):=by
 have key:∀{b:fQ}{c:List Ob}{as:List PV}{F:List Nat},cK tt B E b c w->(∀t,VR tt E b (a.tmps.getD t undef) (look st.s t))->eM tt E b vals as->(∀ad v,Pp ad v->b ad v)->qL (lU P tt) (.fn f) as st.s c F K->
  mA P f vals w λe w'=>∃v pv s' o' E' Pp',e= .returned v/\VR tt E' Pp' v pv/\(∀t,VR tt E' Pp' (a.tmps.getD t undef) (look s' t))/\cK tt B E' Pp' o' w'/\K pv ⟨s',o'⟩/\(∀ad v,Pp ad v->Pp' ad v):=by
  intro b c as F h1 g j d hc;unfold qL at hc;cases hb:(jD F&&gF (λr=>iC r (bY c)) F)with
  |false=>rw[hb]at hc;exact hc.elim
  |true=>rw[hb]at hc;simp only[bn,cL]at hb;have hl:=CS (K:=K) h1 g j (oQ hb.1) (NL hb.2);refine(hc _ _ w vals hl.1 hl.2.1).mono λe w' n=>?_;obtain⟨v,pv,s',o',E',Pp',x,z,y,p,C,s,_⟩:=hl.2.2 e w' n;exact⟨v,pv,s',o',E',Pp',x,z,y,p,C,λad u hu=>s _ _ (d _ _ hu)⟩
 unfold EP at hc;split at hc
 ·exact key h hs m (λ_ _ h=>h) hc
 ·exact key (h.nM (eT (sO 8) args)) (λt=>(hs t).mono (λ_ _ h=>h) (λ_ _ h=>.inl h)) (M1 h.wr m (λi A=>A)) (λ_ _ h=>.inl h) hc
def Nx(hG:G.tt=tt)(h:cK tt B E Pp st.o w)(hs:∀t,VR tt E Pp (a.tmps.getD t undef) (look st.s t)){kp:Bool}(V:eM tt E Pp vals args)
 (hc:uB G (lU P tt) kp f args st K):
 mA P f vals w λe w'=>∃v pv s' o' E' Pp',e= .returned v/\VR tt E' Pp' v pv/\(∀t,VR tt E' Pp' (a.tmps.getD t undef) (look s' t))/\cK tt B E' Pp' o' w'/\K pv ⟨s',o'⟩/\
  ((kp&&eI f G.eh)=false->eI f G.live=false->∀ad v,oy tt E Pp st.o w ad v->oy tt E' Pp' o' w' ad v)/\(∀ad v,Pp ad v->Pp' ad v):=by
 unfold uB at hc;cases L:eI f G.live with
 |true=>rw[L]at hc;refine(Mu (a:=a) h hs V hc).mono λe w'=>?_;rintro⟨v,pv,s',o',E',Pp',q1,q2,q3,q4,q5,q6⟩;exact⟨v,pv,s',o',E',Pp',q1,q2,q3,q4,q5,(λ_ hf=>nomatch hf),q6⟩
 |false=>
 rw[L]at hc;simp only at hc;cases hk:(kp&&eI f G.eh)with
 |true=>
  rw[hk]at hc;simp only[cond_true]at hc;split at hc
  ·rename_i e r rest;split at hc
   ·rename_i e' d X;cases hb:(nb e e'&&ew (eT (ids st.o 8) rest))with
    |false=>rw[hb]at hc;exact hc.elim
    |true=>
     rw[hb]at hc;simp only[bn]at hb;have he:=cX hb.1;subst he;have Y:=ke hb.2;have Z:=di X rfl;obtain⟨ri,A,z⟩:=h.wr.ob r _ Z rfl;cases V with
     |cons v0 _ vr _ ag H=>
      have s:=uj (n:=8) h.wr (F:=[]) H (λi C=>by rw[Y]at C;exact C)
      have ah:WR tt [ri] Pp [.row e d true] w:=by
       refine⟨rfl,h.wr.pi,?_,?_,h.wr.gl⟩
       ·intro i o C L;cases i with
        |zero=>simp at C;subst C;exact⟨ri,rfl,z.goes rfl rfl⟩
        |succ i=>simp at C
       ·intro i j oi oj ri rj b C hj;cases i<;>cases j<;>simp at C hj
        intros;rfl
      have ac:VR tt [ri] Pp v0 (.row e 0):=by
       cases ag with
       |row0 _ _ O=>rw[A]at O;cases O;exact .row0 _ _ rfl
       |row _ _ g o len cap O=>rw[A]at O;cases O;exact .row _ _ _ _ _ _ rfl
      refine(hc [ri] Pp w _ ah (.cons _ _ _ _ ac ((s.mono (λ_ _ h=>h) (λ_ _=>oU)).of_nil _))).mono ?_;rintro ee w' ⟨v,E',Pp',objs',pv,rfl,Q,I,p,aa,hK,y,U,m⟩;split at hK
      ·rename_i ob more;cases M:(lr ob&&gF lr more)with
       |false=>rw[M]at hK;exact hK.elim
       |true=>
        rw[M]at hK;simp only[bn]at M;cases E' with
        |nil=>rcases Q 0 _ rfl with W|⟨_,_,_,_,_,_,W⟩<;>simp at W
        |cons ri' E'=>
         have:ri'=ri:=by
          rcases Q 0 _ rfl with W|⟨b,n,c,n',c',e1,W⟩
          ·simp at W;exact W
          ·subst e1;cases z
         subst this;have hS:=cK.kept h Z rfl A p M.1 M.2 I y U m;refine⟨v,_,st.s,_,E++E',Pp',rfl,?_,?_,?_,hK,λhf=>yE hf,I⟩
         ·refine GN ?_ 8 pv v aa;intro i x R;cases i with
          |zero=>simp at R;subst R;exact ga A
          |succ i=>simp at R;show (E++E')[bY st.o+i]? =some x;rw[cL,<-h.wr.len];exact kT R
         ·intro t;exact(hs t).mono (λ_ _=>ga) I
         ·rw[eU,gw];exact hS
      ·exact hK.elim
   ·exact hc.elim
  ·exact hc.elim
 |false=>
  rw[hk]at hc;simp only[cond_false]at hc;have s:=uj (n:=8) h.wr (F:=eT (ids st.o 8) args) V (λi C=>C);have ae:WR tt [] (gQ tt E st.o w Pp (eT (ids st.o 8) args)) [] w:=WR.nil (λad v V=>Fh h.wr V) (h.wr.TX λ_ _ V=>.inl V);refine(hc [] _ w vals ae s).mono ?_;rintro e w' ⟨v,E',Pp',objs',pv,rfl,_,I,p,H,hK,y,U,m⟩;have D:∀k,k<w.heap.size->w'.heap[k]? =w.heap[k]? :=λk hk=>y.block k hk (λh=>nU h);cases M:gF lr objs' with
  |false=>rw[M]at hK;exact hK.elim
  |true=>
   rw[M]at hK;simp only[cond_true]at hK;cases S:plain 8 pv with
   |true=>
    rw[S]at hK;refine⟨v,pv,st.s,st.o,E,Pp,rfl,L3 8 _ _ S H,hs,?_,hK,?_,λ_ _ h=>h⟩
    ·refine cK.called h (λ_ _ h=>h) y ?_ (λ_ _ h=>.inl h);intro ad u hu;exact p.pi _ _ (I _ _ (.inl hu))
    ·intro _ _ ad u hu;simpa using hu.grow (E2:=[]) (objs2:=[]) h.wr.len (λ_ _ h=>h) D
   |false=>
    rw[S]at hK;simp only[cond_false]at hK;cases J:(eI f G.XW&&um G.tt pv objs')with
    |true=>
     rw[J]at hK;simp only at hK;rw[bn]at J;rw[hG]at J
     obtain⟨e,d,rfl,rfl,aj⟩:∃e d,pv= .row e 0/\objs'=[.row e d true]/\∀ck∈bN tt e,Hl ck=true:=by
      have h0:=J.2;unfold um at h0;split at h0
      ·rename_i e e' d;rw[bn]at h0;have:=cX h0.1;subst this;exact⟨e,d,rfl,rfl,λck hm=>by have:=h0.2;rw[xr]at this;exact dE.1 this ck hm⟩
      ·cases h0
     have hV:∀ad u,Pp ad u->pc w' ad=some u:=λad u hu=>p.pi _ _ (I _ _ (.inl hu));have h2:cK tt B E Pp st.o w':=cK.called h (λ_ _ h=>h) y hV (λ_ _ h=>.inl h)
     have af:WR tt E' Pp [.row e d true] w':=by
      refine⟨p.len,hV,?_,p.sep,h.wr.gl⟩;intro i o X L;obtain⟨ri,A,z⟩:=p.ob i o X L;refine⟨ri,A,?_⟩;cases i with
      |succ i=>simp at X
      |zero=>
       simp at X;subst X;cases ri with
       |row0=>exact z
       |row g o len cap=>obtain⟨us,T,rows,a1,a2,a3,a4,a5,a6,a7,a8⟩:=z;refine⟨us,T,rows,a1,a2,a3,a4,a5,?_,λ_=>λad u hu=>a7 rfl ad u (I _ _ (.inl hu)),λh=>yC h⟩;intro i row C;obtain⟨b1,b2⟩:=a6 i row C;refine⟨b1,λj x ck hj hk=>?_⟩;obtain⟨u,c1,c2⟩:=b2 j x ck hj hk;refine⟨u,c1,?_⟩;have:=aj ck (fA hk);cases c2<;>simp[Hl]at this<;>constructor
       |_=>cases z
     have h3:=cK.MG (w:=w) (Pp1:=Pp) h2 af M (λb hb=>mW h.wr hb) h.fr.size m
     have ab:VR tt E' Pp v (.row e 0):=by
      cases H with
      |row0 _ _ O=>exact .row0 _ _ O
      |row _ _ g o len cap O=>exact .row _ _ _ _ _ _ O
     refine⟨v,_,st.s,_,E++E',Pp,rfl,?_,λt=>(hs t).mono (λ_ _=>ga) (λ_ _ h=>h),?_,hK,?_,λ_ _ h=>h⟩
     ·refine GN ?_ 8 _ v ab;intro i x R;show (E++E')[bY st.o+i]? =some x;rw[cL,<-h.wr.len];exact kT R
     ·rw[eU];exact h3
     ·intro _ _ ad u hu;rw[eU];exact hu.grow h.wr.len (λ_ _ h=>h) D
    |false=>
    rw[J]at hK;simp only at hK;have h1:=h.nM (eT (ids st.o 8) args);have h2:=cK.called h1 I y p.pi U;have h3:=cK.MG (w:=w) (Pp1:=Pp') h2 p M (λb hb=>mW h1.wr hb) h.fr.size m;refine⟨v,_,_,_,E++E',Pp',rfl,?_,?_,?_,hK,?_,λad u hu=>I _ _ (.inl hu)⟩
    ·refine GN ?_ 8 pv v H;intro i x R;show (E++E')[bY st.o+i]? =some x;rw[cL,<-h.wr.len];exact kT R
    ·intro t;exact(uh h.wr hs t).mono (λ_ _=>ga) I
    ·rw[eU];exact h3
    ·intro _ _ ad u hu;rw[eU];exact(hu.nM _).grow h1.wr.len I D
end
end
section
variable [Inhabited pY]
open Go
section
variable {P:Program}{tt:TypeId->Option TI}{N:Nat}{B:jH}{E:List RI}{Pp:fQ}{objs:List Ob}{w:World}{st:St}{a:Act}{eh:List FuncId×List FuncId}
variable {e t:TypeId}{o:Oper}{ti f:TI}{K:PV->St->Prop}{Q:Exit->Act->World->Prop}{len j n i s p:Nat}{ps:Array (Nat×Operand)}{vs us:List Value}{x y:Operand}{F:List Nat}{rows:List (List D)}{l:List PV}
def CZ{cs:List CK}{ps:List PV}(h:iN cs ps=true)(k:eM tt E Pp vs ps):cs.length=ps.length/\
 ∀(j:Nat) c v d,cs[j]? =some c->vs[j]? =some v->(cQ rY ps)[j]? =some d->RD tt Pp c v d:=by
 induction cs generalizing vs ps with
 |nil=>cases ps with
  |nil=>exact⟨rfl,λj c v d h=>yE h⟩
  |cons=>simp[iN]at h
 |cons c cs q=>cases ps with
  |nil=>simp[iN]at h
  |cons p ps=>
   simp only[iN,bn]at h;cases k with
   |cons v _ vs _ h1 h2=>
    obtain⟨hl,r⟩:=q h.2 h2;refine⟨by simp[hl],?_⟩;intro j u m d hc b g;cases j with
    |zero=>simp[cQ]at hc b g;subst hc b g;exact Hm h.1 h1
    |succ j=>exact r j u m d (yU hc) (yU b) (by simpa[cQ]using g)
def Fm(c:WR tt E Pp objs w){ps:List PV}(d:eM tt E Pp vs ps)(h:ew (eT (ids objs 8) ps)=true):eM tt E Pp vs (cQ (nN objs 8) ps):=by have g:=ke h;exact((uj (n:=8) c (F:=[]) d (λi b=>by rw[g]at b;exact b)).mono (λ_ _ h=>h) (λ_ _=>oU)).of_nil E
def j9(b:i<n)(c:j<s):i*s+j<n*s:=by have:(i+1)*s<=n*s:=dq _ b;rw[dz]at this;omega
def NI{k l:Nat}(b:j<s)(hl:l<s)(h:i*s+j=k*s+l):i=k/\j=l:=by
 have h1:(i*s+j)/s=i:=by rw[jb,sC yO];simp[rn b]
 have h2:(k*s+l)/s=k:=by rw[jb,sC yO];simp[rn hl]
 have h3:i=k:=by rw[<- h1,<-h2,h]
 subst h3;exact⟨rfl,yO⟩
def mR(h:p+us.length<=vs.length):(vs.take p++us++vs.drop (p+us.length))[j]? =if p<=j/\j<p+us.length then us[j-p]? else vs[j]? :=by
 rw[bL];by_cases h1:j<p
 ·rw[bO yQ,if_neg yO,cN h1]
 ·rw[cd yQ];have dA:(vs.take p).length=p:=yQ;rw[dA];by_cases h2:j<p+us.length
  ·rw[bO yO,if_pos yO]
  ·rw[cd yO,if_neg yO,eN]
   congr 1;omega
def D0{vs us:List D}(h:p+us.length<=vs.length):(vs.take p++us++vs.drop (p+us.length))[j]? =if p<=j/\j<p+us.length then us[j-p]? else vs[j]? :=by
 rw[bL];by_cases h1:j<p
 ·rw[bO yQ,if_neg yO,cN h1]
 ·rw[cd yQ];have dA:(vs.take p).length=p:=yQ;rw[dA];by_cases h2:j<p+us.length
  ·rw[bO yO,if_pos yO]
  ·rw[cd yO,if_neg yO,eN]
   congr 1;omega
def Cq(au:ez P tt)(h:cK tt B E Pp st.o w)(hs:∀t,VR tt E Pp (a.tmps.getD t undef) (look st.s t))(X:o.op= .store t x y)(aq:tt t=some ti)
 (u:(flat (fG tt st.s t y)).length=ti.bP.length) (aA:0<ti.bP.length) (ae:gF ib (flat (fG tt st.s t y))=true) {e r off:Nat}{i:Int} (hx:ev st.s x= .fM e r i off) (hm:nb off dC=false) {d:D} (am:eG st.o r= .row e d true)
 (hk:ic tt e off ti.bP=true) (ec:iN ti.bP (cQ (nN st.o 8) (flat (fG tt st.s t y)))=true) (W:ew (eT (ids st.o 8) (flat (fG tt st.s t y)))=true)
 (hK:K .undef ⟨st.s,il st.o r (.row e (dS.nK d i off (cQ rY (cQ (nN st.o 8) (flat (fG tt st.s t y))))) true)⟩):o.wp P a w (dK tt B eh E Pp st.o w o a K) Q:=by
 have ai:=au _ _ aq;have hy:=iL hs t y;have J:flat (fG tt st.s t y)≠[]:=by intro h0;rw[h0]at u;simp at u;omega
 have m:=nB hy J;have ax:=Fm h.wr m W;obtain⟨_,iK⟩:=CZ ec ax;generalize al:cQ rY (cQ (nN st.o 8) (flat (fG tt st.s t y)))=ds at*;have aG:ds.length=ti.bP.length:=by rw[<- al,fX,fX];exact u
 have M:=fa hs x;rw[hx]at M;rw[gw]at hK;have R:=di am rfl;generalize aw:a.eval x=vx at M;cases M with
 |fM _ _ _ _ _ g o0 len cap hE h0 hu=>
  obtain⟨rfl,h1⟩:=hu.get hm;obtain⟨ri,aj,ar⟩:=h.wr.ob r _ R rfl;rw[hE]at aj;cases aj;obtain⟨vs,T,rows,hg,rfl,hl,aa,fW,dN,C,_⟩:=ar;have C:=C rfl;generalize hi:i.toNat=n at*;have hn:n<len:=yO;generalize V:(bN tt e).length=S at*;have aC:off+ti.bP.length<=S:=by have:=iJ hk (ti.bP.length-1) (ti.bP[ti.bP.length-1]'yO) (bu yO);have:=cB this;rw[V]at this;omega
  have an:(n+1)*S<=cap*S:=dq _ yO;rw[dz]at an;have aD:=m.length;generalize L:(a.eval y).cells.toList=us at*;have Y:us.length=ti.bP.length:=yO;have H:=we (P:=P) ai (v:=a.eval y) hg (o:=o0+n*S+off) (by rw[L];omega) yO (by rw[L];exact wB ae m);rw[L]at H;refine xC (w':=w.setRow g ⟨vs.take (o0+n*S+off)++us++vs.drop (o0+n*S+off+ti.bP.length)⟩) ?_ ?_
  ·simp[execOp,X,aw,H]
  ·have av:r<st.o.length:=cB R;have O:rows[n]? =some (rows[n]'yO):=bu yO;have aB:=(dN n _ O).1;refine dK.mk (.undef _) hs ?_ hK (λhq=>by rw[X]at hq;simp[gi]at hq);refine h.An (o':=.row e (dS.nK (.list rows) i off ds) true) R rfl hE rfl (λ_ _=>rfl) hE (.inl (.refl _)) yS ?_ (by simp[av]) ?_ rfl rfl rfl yS ?_ (λ_ _ h=>h) (λ_ _ h=>.inl h) (λb hb=>.inl hb) ?_
   ·intro j ap hj Z hl;rw[bQ (dZ hj)]at Z;exact⟨ap,Z,hl,λ_ _ h=>h⟩
   ·intro _;refine⟨_,T,_,setRow_heap w g _ _ _ _ hg,rfl,by simp[cg,hl],aa,?_,?_,λ_=>C,λhf=>yE hf⟩
    ·rw[V];simp;omega
    ·intro k row c;simp only[cg,tm,hi]at c;rw[V];by_cases I:n=k
     ·subst I;rw[O]at c;simp at c;refine⟨by rw[<- c];simp;omega,?_⟩;intro j dd ck hj q;have A:=cB q;rw[V]at A;have z:(rows[n].take off++ds++rows[n].drop (off+ds.length))[j]? =some dd:=by rw[<- hj,<-c];simp
      rw[D0 yO]at z;rw[<- Y,mR yO];by_cases ab:off<=j/\j<off+ds.length
      ·rw[if_pos ab]at z;rw[if_pos yO,show o0+n*S+j-(o0+n*S+off)=j-off by omega];have hu:us[j-off]? =some (us[j-off]'yO):=bu yO;refine⟨_,hu,?_⟩;have ac:=iJ hk (j-off) (ti.bP[j-off]'yO) (bu yO);rw[show off+(j-off)=j by omega,q]at ac;cases ac;exact iK (j-off) _ _ _ (bu yO) hu z
      ·rw[if_neg ab]at z;rw[if_neg yO];obtain⟨v,U,hr⟩:=(dN n _ O).2 j dd ck z q;rw[V]at U;exact⟨v,U,hr⟩
     ·have af:rows[k]? =some row:=by
       cases G:rows[k]? with
       |none=>rw[G]at c;simp at c
       |some r0=>rw[G]at c;simp[I]at c;rw[c]
      obtain⟨e1,e2⟩:=dN k row af;rw[V]at e1 e2;refine⟨e1,?_⟩;intro j dd ck hj q;have A:=cB q;rw[V]at A;obtain⟨v,U,hr⟩:=e2 j dd ck hj q;refine⟨v,?_,hr⟩;rw[<- Y,mR yO,if_neg]
      ·exact U
      ·rintro⟨q1,q2⟩;have:n*S+(k*S+j-n*S)=k*S+j:=yO;have:=NI (i:=n) (k:=k) (s:=S) (j:=k*S+j-n*S) (l:=j) yO A this;exact I this.1
   ·intro k hk J;exact setRow_other w g k _ (λe=>J (by rw[e];rfl))
   ·intro ad v U;rw[ia (setRow_other w g _ _ (C ad v U))];exact h.wr.pi ad v U
def G0(h:cK tt B E Pp st.o w)(hs:∀t,VR tt E Pp (a.tmps.getD t undef) (look st.s t))(d:o.op= .assign x)(g:lO x=true)
 (hK:K (.row e (bY st.o)) ⟨st.s,gh st.o [.row e (.list []) true]⟩):o.wp P a w (dK tt B eh E Pp st.o w o a K) Q:=by
 have c:a.eval x= .slice none 0 0:=by
  unfold lO at g;split at g
  ·rfl
  ·simp at g
 rw[eU,cL]at hK;refine eH (v:=.slice none 0 0) (w':=w) ?_ ?_
 ·simp[execOp,d,c]
 ·refine dK.mk (E':=E++[.row0]) (Pp':=Pp) (.row0 _ _ (by rw[<- h.wr.len];simp)) (fB hs) ?_ hK (λ_ ad v c=>c.grow h.wr.len (λ_ _ h=>h) (λ_ _=>rfl));refine⟨h.wr.push (λ_=>rfl) (λb hb=>by simp[RI.cZ]at hb),qE h.pre,h.sT,h.fr,h.jV,h.fresh.push h.wr.len (λb hb=>by simp[RI.cZ]at hb)⟩
def kV:∀(bP:List CK){E:List RI}{c:List Ob},cK tt B E Pp c w->
 ∃E2,cK tt B (E++E2) Pp (c++pV bP) w/\eM tt (E++E2) Pp (bP.map zeroV) (wW c.length bP)
 |[],E,c,h=>⟨[],by simpa[pV]using h,by simp[wW];exact .nil⟩
 | .slice e::bP,E,c,h=>by have d:cK tt B (E++[.row0]) Pp (c++[.row e (.list []) true]) w:=⟨h.wr.push (λ_=>rfl) (λb hb=>by simp[RI.cZ]at hb),qE h.pre,h.sT,h.fr,h.jV,h.fresh.push h.wr.len (λb hb=>by simp[RI.cZ]at hb)⟩;obtain⟨E2,h1,h2⟩:=kV bP d;refine⟨.row0::E2,by simpa[pV]using h1,?_⟩;rw[show E++RI.row0::E2=E++[.row0]++E2 by simp];refine .cons _ _ _ _ (.row0 _ _ ?_) (yU h2);rw[<- h.wr.len];simp
 | .int k::bP,E,c,h=>let ⟨E2,h1,h2⟩:=kV bP h;⟨E2,h1,.cons _ _ _ _ (.int _ _) h2⟩
 | .bool::bP,E,c,h=>let ⟨E2,h1,h2⟩:=kV bP h;⟨E2,h1,.cons _ _ _ _ (.bl _) h2⟩
 | .str::bP,E,c,h=>let ⟨E2,h1,h2⟩:=kV bP h;⟨E2,h1,.cons _ _ _ _ (.str ⟨#[]⟩) h2⟩
 | .ptr t::bP,E,c,h=>let ⟨E2,h1,h2⟩:=kV bP h;⟨E2,h1,.cons _ _ _ _ .nilp h2⟩
 | .map t e::bP,E,c,h=>let ⟨E2,h1,h2⟩:=kV bP h;⟨E2,h1,.cons _ _ _ _ .nilm h2⟩
 | .fn::bP,E,c,h=>let ⟨E2,h1,h2⟩:=kV bP h;⟨E2,h1,.cons _ _ _ _ .nilf h2⟩
 | .ik::bP,E,c,h=>let ⟨E2,h1,h2⟩:=kV bP h;⟨E2,h1,.cons _ _ _ _ (.undef _) h2⟩
def AB(q:ez P tt)(h:cK tt B E Pp st.o w)(hs:∀t,VR tt E Pp (a.tmps.getD t undef) (look st.s t))(m:o.op= .alloc t)(c:tt t=some ti)(b:rk tt t (wW st.o.length ti.bP))
 (hK:K (.box (bY st.o+bY (pV ti.bP)) 0) ⟨st.s,gh st.o (gh (pV ti.bP) [.box (wW (bY st.o) ti.bP)])⟩) {eh:List FuncId×List FuncId}:o.wp P a w (dK tt B eh E Pp st.o w o a K) Q:=by
 obtain⟨_,_,⟨z,hz,d⟩,_⟩:=(q _ _ c).run w;rw[eU,eU,cL,cL]at hK;have g:z.cells=⟨ti.bP.map zeroV⟩:=by rw[<- d]
 obtain⟨E2,h1,h2⟩:=kV ti.bP h;have r:=oR h1 t h2 b;refine eH (v:=.pointer (some ⟨w.heap.size,0,none⟩)) (w':=w.alloc (.cells ⟨ti.bP.map zeroV⟩ t)) ?_ ?_
 ·simp[execOp,m,Instr.alloc,hz,newVar,newRow,g]
 ·refine dK.mk (E':=E++E2++[.box w.heap.size]) (Pp':=Pp) ?_ (λt=>(hs t).mono (λi x u=>?_) (λ_ _ h=>h)) ?_ hK (λ_ ad v A=>?_)
  ·simpa using r.2
  ·rw[bL,bO]
   ·exact u
   ·exact(dr.1 u).1
  ·simpa using r.1
  ·have:=A.grow (E2:=E2++[.box w.heap.size]) (objs2:=pV ti.bP++[.box (wW st.o.length ti.bP)]) (w':=w.alloc (.cells ⟨ti.bP.map zeroV⟩ t)) h.wr.len (λ_ _ h=>h) (λk hk=>RowKit.Below.heap_alloc w _ k hk);simpa using this
def Eu(m:ez P tt)(h:cK tt B E Pp st.o w)(hs:∀t,VR tt E Pp (a.tmps.getD t undef) (look st.s t))(k:o.op= .build t ps)(g:tt t=some ti)(hb:(ti.agg&&nb ti.ar 0)=true){cs:List PV}
 (c:mw st.s tt ti.fs ps.toList (wW (bY st.o) ti.bP)=some cs)
 (hK:K (.agg cs) ⟨st.s,gh st.o (pV ti.bP)⟩):o.wp P a w (dK tt B eh E Pp st.o w o a K) Q:=by
 rw[eU]at hK;rw[cL]at c;obtain⟨E2,h1,h2⟩:=kV ti.bP h
 have b:∀t,VR tt (E++E2) Pp (a.tmps.getD t undef) (look st.s t):=λt=>(hs t).mono (λi x q=>by
  rw[bO]
  ·exact q
  ·exact(dr.1 q).1) (λ_ _ h=>h)
 obtain⟨v,hr,d⟩:=JE m b g hb h2 c;refine eH (v:=v) (w':=w) ?_ ?_
 ·simp[execOp,k,hr]
 ·exact dK.mk (E':=E++E2) (Pp':=Pp) d b h1 hK (λ_ ad v d=>d.grow h.wr.len (λ_ _ h=>h) (λ_ _=>rfl))
def RB(c:CK):RD tt Pp c (zeroV c) (rY (gT c)):=by
 cases c with
 |int=>exact .int _ _
 |bool=>exact .bool _
 |str=>exact .str ⟨#[]⟩
 |slice=>exact .slnil _
 |ptr=>exact .Ap _
 |map=>exact .CP _ _
 |fn=>exact .M3
 |ik=>exact .PH
def CR(I:ez P tt)(h:cK tt B E Pp st.o w)(hs:∀t,VR tt E Pp (a.tmps.getD t undef) (look st.s t))(L:o.op= .makeSlice t x y)(T:tt t=some ti)(he:eC ti=some e)(J:tt e=some f)
 (hb:f.bytes<=1024) (V:0<f.bP.length) {k k':IntKind}{l c:Int} (Z:ev st.s x= .int k l) (X:ev st.s y= .int k' c) (h1:0<=l/\l<=c) (h2:0<=c/\c<=4294967296)
 (hK:K (.row e (bY st.o)) ⟨st.s,gh st.o [.row e (dS.XK l (uU f.bP)) true]⟩):o.wp P a w (dK tt B eh E Pp st.o w o a K) Q:=by
 obtain⟨hu,_,_⟩:=(I _ _ T).slice he;obtain⟨i,z,d,Y,fW,S,hz,H,_⟩:=(I _ _ J).info;have r:=fa hs x;have q:=fa hs y;rw[Z]at r;rw[X]at q;generalize U:a.eval x=vx at r;generalize O:a.eval y=vy at q;cases r;cases q;rw[eU,cL]at hK;have b:(i.bytes:Int)*c<=281474976710656:=by rw[S];have:(f.bytes:Int)*c<=1024*4294967296:=Int.mul_le_mul yO h2.2 h2.1 yO;omega
 have g:=run_make (P:=P) w t e i z hu Y hz k k' l c h1.1 h1.2 b yO;have m:bN tt e=f.bP:=by simp[bN,J]
 have M:z.cells.size=f.bP.length:=by rw[<- fI,H];simp
 have R:madeCells z.cells (c.toNat*i.size)=⟨(madeCells z.cells (c.toNat*i.size)).toList⟩:=rfl;rw[R]at g;refine eH (v:=.slice (some ⟨w.heap.size,0,none⟩) l.toNat c.toNat) (w':=w.alloc (.cells ⟨(madeCells z.cells (c.toNat*i.size)).toList⟩ e)) ?_ ?_
 ·simp[execOp,L,U,O,g]
 ·refine dK.mk (E':=E++[.row w.heap.size 0 l.toNat c.toNat]) (Pp':=Pp) (.row _ _ _ _ _ _ (by rw[<- h.wr.len];simp)) (fB hs) ?_ hK (λ_ ad v hv=>hv.grow h.wr.len (λ_ _ h=>h) (λk hk=>RowKit.Below.heap_alloc w _ k hk));refine h.new rfl ⟨_,e,fb l.toNat (uU f.bP),ej w _,rfl,yS,yO,?_,?_,λ_=>km h.wr,λhf=>yE hf⟩
  ·rw[m];simp[madeCells,fW]
  ·intro k row hk;have C:=cB hk;simp at C;have dN:row=uU f.bP:=by rw[bu (yU C)]at hk;simp at hk;exact hk.symm
   subst dN;rw[m];refine⟨by simp[uU,fX],?_⟩;intro j dd ck W A;have G:=cB A;have u:=j9 (i:=k) (n:=c.toNat) (s:=f.bP.length) (j:=j) yO G;refine⟨zeroV ck,?_,?_⟩
   ·simp only[madeCells,Array.toList_map,Array.toList_range,dY,cC];rw[uR (by rw[fW];exact u)];simp only[cv,M];have hm:(k*f.bP.length+j) % f.bP.length=j:=by rw[jb,Dx];exact AH G
    rw[hm,getElem!_pos z.cells j yO];have:z.cells.toList[j]? =some (zeroV ck):=by rw[H];simp[A]
    rw[gM,pd yO]at this;exact this
   ·have:dd=rY (gT ck):=by simp only[uU,gP,cC,A,cv,cw]at W;exact W.symm
    rw[this];exact RB ck
def He(W:WR tt E Pp objs w)(hs:∀t,VR tt E Pp (a.tmps.getD t undef) (look st.s t))(U:0<f.bP.length):∀(r:List (Nat×Operand))(i:Nat)(rows:List (List D))(vs:List Value),
 rJ (nN objs 8) tt st.s e f i n r=some rows->(∀p∈r,∀k∈eT (ids objs 8) (flat (fG tt st.s e p.2)),k∈F)->vs.length=n*f.bP.length->
 ∃us,Instr.fill (λk=>some (k*f.bP.length,f.bP.length)) ⟨vs⟩ (r.map λp=>(p.1,a.eval p.2))=some ⟨us⟩/\us.length=n*f.bP.length/\i+rows.length=n/\(∀p,p<i*f.bP.length->us[p]? =vs[p]?)/\
  ∀(k:Nat)(row:List D),rows[k]? =some row->row.length=f.bP.length/\∀(j:Nat)(d:D)(ck:CK),row[j]? =some d->f.bP[j]? =some ck->
   ∃v,us[(i+k)*f.bP.length+j]? =some v/\RD tt (gQ tt E objs w Pp F) ck v d:=by
 intro r;induction r with
 |nil=>
  intro i rows vs h I H;simp only[rJ]at h;cases hb:nb i n with
  |false=>rw[hb]at h;simp at h
  |true=>rw[hb]at h;simp at h;subst h;have:=cX hb;exact⟨vs,rfl,H,by simp[this],λ_ _=>rfl,λk row hk=>yE hk⟩
 |cons p r R=>
  intro i rows vs h I H;obtain⟨X,x⟩:=p;simp only[rJ]at h;cases hb:(nb i X&&iN f.bP (cQ (nN objs 8) (flat (fG tt st.s e x)))&&gF ib (flat (fG tt st.s e x)))with
  |false=>rw[hb]at h;simp at h
  |true=>
   rw[hb]at h;simp only[cond_true]at h;simp only[bn]at hb;have M:=cX hb.1.1;subst M;split at h
   ·rename_i q b;simp at h;subst h;generalize C:flat (fG tt st.s e x)=ps at*
    have u:(cQ (nN objs 8) ps).length=f.bP.length:=by
     have:∀(cs:List CK)(G:List PV),iN cs G=true->G.length=cs.length:=by
      intro cs;induction cs with
      |nil=>intro G h;cases G<;>simp_all[iN]
      |cons c cs R=>intro G h;cases G<;>simp_all[iN]
     exact this _ _ hb.1.2
    rw[fX]at u;have g:eM tt E Pp (a.eval x).cells.toList ps:=by rw[<- C];exact nB (iL hs e x) (by rw[C];intro h0;rw[h0]at u;simp at u;omega)
    have T:=(uj (n:=8) W (F:=F) g (λk hk=>I (i,x) yS k (by rw[C];exact hk)));obtain⟨_,iK⟩:=CZ hb.1.2 T;have oV:=g.length;let m:=((a.eval x).cells.toList.zipIdx.foldl (λcs (x:Value×Nat)=>cs.setIfInBounds (i*f.bP.length+x.2) x.1) (⟨vs⟩:Array Value)).toList;have O:i<n:=by obtain⟨_,_,_,h3,_⟩:=R (i+1) q (fb (n*f.bP.length) undef) b (λp J=>I p (by simp[J])) yS;omega
    have ec:=j9 (i:=i) (n:=n) (s:=f.bP.length) (j:=f.bP.length-1) O yO;have A:∀j,m[j]? =if i*f.bP.length<=j/\j<i*f.bP.length+f.bP.length then(a.eval x).cells.toList[j-i*f.bP.length]? else vs[j]? :=by intro j;have:=sv (a.eval x).cells.toList (i*f.bP.length) 0 ⟨vs⟩ j (by simp only[QG];omega);simp only[m,gM,this,iw];rw[show (a.eval x).cells.toList.length=f.bP.length by omega];simp
    have L:m.length=n*f.bP.length:=by have:=qU (a.eval x).cells.toList (i*f.bP.length) 0 ⟨vs⟩;simp only[m,fI,this];simpa using H
    obtain⟨us,h1,h2,h3,h4,h5⟩:=R (i+1) q m b (λp J=>I p (by simp[J])) L;refine⟨us,?_,h2,yQ,?_,?_⟩
    ·simp only[bF,Instr.fill];have fW:(a.eval x).cells.size=f.bP.length:=by rw[<- fI];omega
     rw[if_neg (by simp[fW];omega)];rw[<- h1]
     congr 1
     apply gL;simp only[m,<-vZ,K6]
    ·intro p J;rw[h4 p (by rw[dz];omega),A,if_neg yO]
    ·intro k row hk;cases k with
     |zero=>simp at hk;subst hk;refine⟨by simp[fX,u],?_⟩;intro j d ck S z;have V:=cB z;have hu:(a.eval x).cells.toList[j]? =some ((a.eval x).cells.toList[j]'yO):=bu yO;refine⟨_,?_,iK j _ _ _ z hu S⟩;rw[h4 _ (by rw[iw,dz];omega),A,iw,if_pos yO,show i*f.bP.length+j-i*f.bP.length=j by omega];exact hu
     |succ k=>obtain⟨e1,e2⟩:=h5 k row (yU hk);refine⟨e1,λj d ck S z=>?_⟩;obtain⟨v,H,hr⟩:=e2 j d ck S z;exact⟨v,by rw[show i+(k+1)=i+1+k by omega];exact H,hr⟩
   ·simp at h
def nC(d:ez P tt)(m:tt t=some ti)(he:eC ti=some e)(h:tt e=some f)(c:len<=1000)(q:f.bP.length<=1000){parts:List (Nat×Value)}:
 ∃vs:List Value,vs.length=len*f.bP.length/\∀us,Instr.fill (λk=>some (k*f.bP.length,f.bP.length)) ⟨vs⟩ parts=some ⟨us⟩->
  (Instr.buildSlice t len ⟨parts⟩).run P w= .ok (.slice (some ⟨w.heap.size,0,none⟩) len len) (w.alloc (.cells ⟨us⟩ e)):=by
 obtain⟨hu,_,_⟩:=(d _ _ m).slice he;obtain⟨_,h2,⟨z,hz,u⟩,_⟩:=(d _ _ h).run w;have r:len*f.bP.length<=1000*1000:=lG c q;refine⟨((KW (len*f.bP.length)).map ((if len*f.bP.length=0 then #[]else z.cells)[· % (if len*f.bP.length=0 then #[]else z.cells).size]!)).toList,yS,?_⟩;intro us hf;have g:¬len*f.bP.length>2 ^ 24:=yO;simp only[Instr.buildSlice,run_underlying hu,Sem.run_bind,Result.andThen_ok,h2,g,if_false];by_cases h0:len*f.bP.length=0
 ·simp only[h0,if_true]at hf ⊢;have b:Instr.fill (λk=>some (k*f.bP.length,f.bP.length)) ((KW 0).map ((#[]:Array Value)[· % (#[]:Array Value).size]!)) parts=some ⟨us⟩:=hf;simp only[Sem.run_pure,Result.andThen_ok,b,newRow,Sem.run_bind];simp
 ·simp only[h0,if_false]at hf ⊢;have b:Instr.fill (λk=>some (k*f.bP.length,f.bP.length)) ((KW (len*f.bP.length)).map (z.cells[· % z.cells.size]!)) parts=some ⟨us⟩:=hf;simp only[Sem.run_pure,Sem.run_bind,hz,Result.andThen_ok,b,newRow];simp
def PL{l:List (Nat×Operand)}{s:cS}:∀p∈l,∀k∈eT (ids objs 8) (flat (fG tt s e p.2)),k∈eT (ids objs 8) (eT (λp=>flat (fG tt s e p.2)) l):=by intro p b k hk;rw[kZ,cb]at hk ⊢;obtain⟨q,c,hk⟩:=hk;exact⟨q,by rw[kZ,cb];exact⟨p,b,c⟩,hk⟩
def RD.laid{g:Nat}(hl:rows.length=len)
 (h:∀(k:Nat)(row:List D),rows[k]? =some row->row.length=(bN tt e).length/\∀(j:Nat)(d:D)(ck:CK),row[j]? =some d->(bN tt e)[j]? =some ck->∃v,us[k*(bN tt e).length+j]? =some v/\RD tt Pp ck v d)
 (u:∀(j:Nat) v,us[j]? =some v->Pp ⟨g,j,none⟩ v):RD tt Pp (.slice e) (.slice (some ⟨g,0,none⟩) len len) (.list rows):=by
 refine .sl e g 0 len len rows (λi j=>us.getD (i*(bN tt e).length+j) undef) hl (bX _) (λi row c=>(h i row c).1) ?_ ?_
 ·intro i j c m;have r:rows[i]? =some rows[i]:=bu yO;obtain⟨z,hc⟩:=h i _ r;obtain⟨v,b,_⟩:=hc j _ _ (bu yO) (bu m);have:=u _ _ b;simpa[cx,b]using this
 ·intro i j row d ck c m q;obtain⟨v,b,hr⟩:=(h i row c).2 j d ck m q;simpa[cx,b]using hr
def Aw(L:ez P tt)(h:cK tt B E Pp st.o w)(hs:∀t,VR tt E Pp (a.tmps.getD t undef) (look st.s t))(I:o.op= .buildSlice t len ps)(J:tt t=some ti)(he:eC ti=some e)(G:tt e=some f)
 (A:len<=1000) (m:f.bP.length<=1000) (z:0<f.bP.length) (u:rJ (nN st.o 8) tt st.s e f 0 len ps.toList=some rows) (R:F=eT (ids st.o 8) (eT (λp=>flat (fG tt st.s e p.2)) ps.toList))
 (hK:(ew F=true/\(K (.row e (bY st.o)) ⟨st.s,gh st.o [.row e (dS.lit rows) true]⟩\/K (.om e (dS.lit rows)) st))\/K (.om e (dS.lit rows)) ⟨nk F st.o st.s,fz F 0 st.o⟩)
:o.wp P a w (dK tt B eh E Pp st.o w o a K) Q:=by
 obtain⟨vs,H,c⟩:=nC (w:=w) (parts:=ps.toList.map λp=>(p.1,a.eval p.2)) L J he G A m;obtain⟨us,h1,h2,h3,_,h5⟩:=He h.wr hs z (F:=F) ps.toList 0 rows vs u (by rw[R];exact PL) H;have c:=c us h1;have g:bN tt e=f.bP:=by simp[bN,G]
 have q:(ps.map λ(i,x)=>(i,a.eval x))=⟨ps.toList.map λp=>(p.1,a.eval p.2)⟩:=by apply gL;simp
 have hb:∀k,k<w.heap.size->(w.alloc (.cells ⟨us⟩ e)).heap[k]? =w.heap[k]? :=λk hk=>RowKit.Below.heap_alloc w _ k hk;refine eH (v:=.slice (some ⟨w.heap.size,0,none⟩) len len) (w':=w.alloc (.cells ⟨us⟩ e)) ?_ ?_
 ·simp only[execOp,I,q];simp[c]
 have laid:∀(Pp1:fQ),(∀ad v,gQ tt E st.o w Pp F ad v->Pp1 ad v)->RD tt (λad v=>Pp1 ad v\/(ad.block=w.heap.size/\(w.alloc (.cells ⟨us⟩ e)).cell? ad=some v)) (.slice e) (.slice (some ⟨w.heap.size,0,none⟩) len len) (.list rows):=by
  intro Pp1 S;refine RD.laid yO ?_ ?_ (us:=us)
  ·intro k row hk;rw[g];obtain⟨e1,e2⟩:=h5 k row hk;refine⟨e1,λj d ck C m=>?_⟩;obtain⟨v,r,hr⟩:=e2 j d ck C m;exact⟨v,yU r,hr.mono (λad v h=>.inl (S ad v h))⟩
  ·intro j v C;exact .inr ⟨rfl,by rw[eE (ej w _)];exact C⟩
 rcases hK with⟨b,hK|hK⟩|hK
 ·have b:=ke b;subst b;rw[eU,cL]at hK;refine dK.mk (E':=E++[.row w.heap.size 0 len len]) (Pp':=Pp) (.row _ _ _ _ _ _ (by rw[<- h.wr.len];simp)) (fB hs) ?_ hK (λ_ ad v r=>r.grow h.wr.len (λ_ _ h=>h) hb);refine h.new rfl ⟨us,e,rows,ej w _,rfl,yO,bX _,by rw[g];omega,?_,λ_=>km h.wr,λhf=>yE hf⟩;intro k row hk;rw[g];obtain⟨e1,e2⟩:=h5 k row hk;refine⟨e1,λj d ck C m=>?_⟩;obtain⟨v,r,hr⟩:=e2 j d ck C m;exact⟨v,yU r,hr.mono (λ_ _=>oU)⟩
 ·have b:=ke b;subst b;have M:=h.lay us e;refine dK.mk (s':=st.s) (o':=st.o) (.om _ _ _ _ (laid Pp (λ_ _=>oU))) (λt=>(hs t).mono (λ_ _ h=>h) (λ_ _ h=>.inl h)) M hK ?_;intro _ ad v r;simpa using r.grow (E2:=[]) (objs2:=[]) (Pp':=λad v=>Pp ad v\/(ad.block=w.heap.size/\(w.alloc (.cells ⟨us⟩ e)).cell? ad=some v)) h.wr.len (λ_ _ h=>.inl h) hb
 ·have O:=h.nM F;have M:=O.lay us e;refine dK.mk (.om _ _ _ _ (laid _ (λ_ _ h=>h))) (λt=>(uh h.wr hs t).mono (λ_ _ h=>h) (λ_ _ h=>.inl h)) M hK ?_;intro _ ad v r;simpa using(r.nM F).grow (E2:=[]) (objs2:=[]) (Pp':=λad v=>gQ tt E st.o w Pp F ad v\/(ad.block=w.heap.size/\(w.alloc (.cells ⟨us⟩ e)).cell? ad=some v)) O.wr.len (λ_ _ h=>.inl h) hb
def Bv{sz:Nat}(fW:sz=1){s:cS}(hs:∀t,VR tt E Pp (a.tmps.getD t undef) (look s t)):∀(r:List (Nat×Operand))(i:Nat)(l:List PV)(vs:List Value),sW s i n r=some l->vs.length=n->
 ∃us,Instr.fill (λk=>some (k*sz,sz)) ⟨vs⟩ (r.map λp=>(p.1,a.eval p.2))=some ⟨us⟩/\us.length=n/\i+l.length=n/\(∀p,p<i->us[p]? =vs[p]?)/\∀(k:Nat) p,l[k]? =some p->∃v,us[i+k]? =some v/\VR tt E Pp v p:=by
 subst fW;intro r;induction r with
 |nil=>
  intro i l vs h c;simp only[sW]at h;cases hb:nb i n with
  |false=>rw[hb]at h;simp at h
  |true=>rw[hb]at h;simp at h;subst h;have:=cX hb;exact⟨vs,rfl,c,by simp[this],λ_ _=>rfl,λk p hk=>yE hk⟩
 |cons p r C=>
  intro i l vs h c;obtain⟨G,x⟩:=p;simp only[sW]at h;cases hb:(nb i G&&ib (ev s x))with
  |false=>rw[hb]at h;simp at h
  |true=>
   rw[hb]at h;simp only[cond_true]at h;simp only[bn]at hb;have A:=cX hb.1;subst A;split at h
   ·rename_i H g;simp at h;subst h;have I:=fa hs x;have d:flat (ev s x)=[ev s x]:=by have:=hb.2;generalize ev s x=p at this;cases p<;>first|rfl|simp[ib]at this
    have b:eM tt E Pp (a.eval x).cells.toList [ev s x]:=by rw[<- d];exact nB I (by rw[d];simp)
    obtain⟨u,hu,z⟩:∃u,(a.eval x).cells.toList=[u]/\VR tt E Pp u (ev s x):=by
     generalize (a.eval x).cells.toList=us at b;cases b with
     |cons v _ vs _ h1 h2=>cases h2;exact⟨v,rfl,h1⟩
    have q:(a.eval x).cells= #[u]:=gL (by rw[hu]);have m:(vs.set i u).length=n:=by simp[c]
    obtain⟨us,h1,h2,h3,h4,h5⟩:=C (i+1) H (vs.set i u) g m;refine⟨us,?_,h2,yQ,?_,?_⟩
    ·simp only[bF,Instr.fill,q];rw[if_neg yQ];rw[<- h1]
     congr 1
     simp
    ·intro p J;rw[h4 p yO,bQ yO]
    ·intro k p hk;cases k with
     |zero=>simp at hk;subst hk;refine⟨u,?_,z⟩;rw[iw,h4 i yO,bT yO]
     |succ k=>obtain⟨v,c,hr⟩:=h5 k p (yU hk);exact⟨v,by rw[show i+(k+1)=i+1+k by omega];exact c,hr⟩
   ·simp at h
def FE(z:ez P tt)(h:cK tt B E Pp st.o w)(hs:∀t,VR tt E Pp (a.tmps.getD t undef) (look st.s t))(r:o.op= .buildSlice t len ps)(u:tt t=some ti)(he:eC ti=some e)(C:tt e=some f)
 (g:len<=1000) (m:f.bP.length=1) (hl:sW st.s 0 len ps.toList=some l) (I:F=eT (ids st.o 8) l)
 (hK:K (.du (cQ (nN st.o 8) l) dC) ⟨nk F st.o st.s,fz F 0 st.o⟩)
:o.wp P a w (dK tt B eh E Pp st.o w o a K) Q:=by
 obtain⟨vs,c,b⟩:=nC (w:=w) (parts:=ps.toList.map λp=>(p.1,a.eval p.2)) z u he C g yO;rw[m,p5]at c;obtain⟨us,h1,h2,h3,_,h5⟩:=Bv m hs ps.toList 0 l vs hl c;have b:=b us h1;have d:(ps.map λ(i,x)=>(i,a.eval x))=⟨ps.toList.map λp=>(p.1,a.eval p.2)⟩:=by apply gL;simp
 refine eH (v:=.slice (some ⟨w.heap.size,0,none⟩) len len) (w':=w.alloc (.cells ⟨us⟩ e)) ?_ ?_
 ·simp only[execOp,r,d];simp[b]
 have q:us.length=l.length:=yO;have c:eM tt E Pp us l:=eM.mX q (λj v p A J=>by obtain⟨S,h6,h7⟩:=h5 j p J;rw[dY,A]at h6;cases h6;exact h7);have G:=uj (n:=8) h.wr (F:=F) c (λi L=>by rw[I];exact L);have H:=h.nM F;have R:=H.lay us e;have hb:∀k,k<w.heap.size->(w.alloc (.cells ⟨us⟩ e)).heap[k]? =w.heap[k]? :=λk hk=>RowKit.Below.heap_alloc w _ k hk;refine dK.mk (.du _ us _ _ w.heap.size 0 ⟨λh=>absurd rfl h,λ_=>by rw[show us.length=len by omega]⟩ (G.mono (λi x M=>yE M) (λ_ _ h=>.inl h)) (λj v O=>.inr ⟨rfl,by rw[eE (ej w _)];simpa using O⟩)) (λt=>(uh h.wr hs t).mono (λ_ _ h=>h) (λ_ _ h=>.inl h)) R hK ?_;intro _ ad v A;simpa using(A.nM F).grow (E2:=[]) (objs2:=[]) (Pp':=λad v=>gQ tt E st.o w Pp F ad v\/(ad.block=w.heap.size/\(w.alloc (.cells ⟨us⟩ e)).cell? ad=some v)) H.wr.len (λ_ _ h=>.inl h) hb
def Dk(G:ez P tt)(h:cK tt B E Pp st.o w)(hs:∀t,VR tt E Pp (a.tmps.getD t undef) (look st.s t))(C:o.op= .buildSlice t len ps)(A:tt t=some ti)(he:eC ti=some e)(z:tt e=some f)
 (m:len<=1000) (g:f.bP.length=1) (hl:sW st.s 0 len ps.toList=some l) (q:rk tt e l)
 (hK:K (.box (bY st.o) (dC+1+len)) ⟨st.s,gh st.o [.box l]⟩)
:o.wp P a w (dK tt B eh E Pp st.o w o a K) Q:=by
 obtain⟨vs,d,b⟩:=nC (w:=w) (parts:=ps.toList.map λp=>(p.1,a.eval p.2)) G A he z m yO;rw[g,p5]at d;obtain⟨us,h1,h2,h3,_,h5⟩:=Bv g hs ps.toList 0 l vs hl d;have b:=b us h1;have c:(ps.map λ(i,x)=>(i,a.eval x))=⟨ps.toList.map λp=>(p.1,a.eval p.2)⟩:=by apply gL;simp
 rw[eU,cL]at hK;have r:us.length=l.length:=yO;have d:eM tt E Pp us l:=eM.mX r (λj v p u H=>by obtain⟨J,h6,h7⟩:=h5 j p H;rw[dY,u]at h6;cases h6;exact h7);have I:=oR h e d q;refine eH (v:=.slice (some ⟨w.heap.size,0,none⟩) len len) (w':=w.alloc (.cells ⟨us⟩ e)) ?_ ?_
 ·simp only[execOp,C,c];simp[b]
 refine dK.mk ?_ (fB hs) I.1 hK (λ_ ad v u=>u.grow h.wr.len (λ_ _ h=>h) (λk hk=>RowKit.Below.heap_alloc w _ k hk));exact .box _ _ _ w.heap.size (by rw[<- h.wr.len];simp) FG.slc
end
end
section
variable [Inhabited pY]
open Go
section
variable {P:Program}{tt:TypeId->Option TI}{N:Nat}{B:jH}{E:List RI}{Pp:fQ}{objs:List Ob}{w:World}{st:St}{a:Act}{eh:List FuncId×List FuncId}
variable {A F G ti:TI}{r cap n g:Nat}{q f ty t T:TypeId}{K:PV->St->Prop}{Q:Exit->Act->World->Prop}{y:Operand}{wr:Bool}{olds:List (List D)}{C:Array Operand}{ts:Array TypeId}{vs oldc:List Value}{w':World}{base:Option Addr}{Pp':fQ}{l:Int}{E':List RI}{ri ri':RI}{ad:Addr}{H:IntKind}
structure Reads (tt:TypeId->Option TI) (Pp:fQ) (w:World) (e:TypeId) (x:Value) (rows:List (List D)) (news:List Value):Prop where
 len:news.length=rows.length*(bN tt e).length
 shape:(∃ba:Option Addr,x= .slice ba 0 0/\rows=[])\/(∃b o c,x= .slice (some ⟨b,o,none⟩) rows.length c/\rows.length<=c/\∀(j:Nat) u,news[j]? =some u->w.cell? ⟨b,o+j,none⟩=some u)\/
  ∃s:ByteArray,x= .string s/\news=Lib.strCells s/\rows.length=s.size
 rd:∀(k:Nat)(row:List D),rows[k]? =some row->row.length=(bN tt e).length/\∀(j:Nat)(d:D)(ck:CK),row[j]? =some d->(bN tt e)[j]? =some ck->
  ∃v,news[k*(bN tt e).length+j]? =some v/\RD tt Pp ck v d
def RD.one{c:CK}{v:Value}{d:D}(h:RD tt Pp c v d):v.oneCell'=true:=by cases h<;>rfl
def zN{x S:Nat}(h:x<n*S):x/S<n/\x % S<S/\x/S*S+x % S=x:=by
 have b:0<S:=by
  rcases xe S with h0|h0
  ·subst h0;simp at h
  ·exact h0
 refine⟨by rw[K1 b];exact h,QF _ b,?_⟩;rw[jb];exact Nat.div_add_mod x S
def Reads.one{e:TypeId}{x:Value}{rows:List (List D)}{news:List Value}(h:Reads tt Pp w e x rows news):∀u∈news,u.oneCell'=true:=by intro u hu;obtain⟨p,b⟩:=ig hu;have dA:=cB b;rw[h.len]at dA;obtain⟨h1,h2,h3⟩:=zN dA;obtain⟨e1,e2⟩:=h.rd _ _ (bu h1);obtain⟨v,c,hr⟩:=e2 _ _ _ (bu yO) (bu h2);rw[h3,b]at c;cases c;exact hr.one
def Reads.QZ{e:TypeId}{v:Value}{d:D}(s:WR tt E Pp objs w)(h:RD tt Pp (.slice e) v d):∃rows news,d= .list rows/\Reads tt Pp w e v rows news:=by
 cases h with
 |slnil=>exact⟨[],[],rfl,yS,.inl ⟨none,rfl,rfl⟩,λk row h=>yE h⟩
 |Gy _ ad=>exact⟨[],[],rfl,yS,.inl ⟨some ad,rfl,rfl⟩,λk row h=>yE h⟩
 |sl _ b o len cap rows vf hl hc dN hV iK=>
  refine⟨rows,(dF (rows.length*(bN tt e).length)).map (λx=>vf (x/(bN tt e).length) (x % (bN tt e).length)),rfl,yS,.inr (.inl ⟨b,o,cap,by rw[hl],yO,?_⟩),?_⟩
  ·intro j u i;have dA:=cB i;simp at dA;obtain⟨h1,h2,h3⟩:=zN dA;simp only[cC,uR dA,cv,cw]at i;subst i;have:=s.R7 (hV (j/(bN tt e).length) (j % (bN tt e).length) (by rw[<- hl];exact h1) h2)
   rwa [fi,h3]at this
  ·intro k row hk;refine⟨dN k row hk,λj d ck i m=>⟨vf k j,?_,iK k j row d ck hk i m⟩⟩;have c:=cB m;have p:=cB hk;have dA:=j9 p c;simp only[cC,uR dA,cv,cw];have e1:(k*(bN tt e).length+j)/(bN tt e).length=k:=by rw[jb,sC yO];simp[rn c]
   have e2:(k*(bN tt e).length+j) % (bN tt e).length=j:=by rw[jb,Dx];exact AH c
   rw[e1,e2]
def wR.reads{e:TypeId}{o len:Nat}{rows:List (List D)}(h:wR tt Pp e vs o rows)(hl:rows.length=len)(fW:o+len*(bN tt e).length<=vs.length):
 ((vs.drop o).take (len*(bN tt e).length)).length=rows.length*(bN tt e).length/\∀(k:Nat)(row:List D),rows[k]? =some row->row.length=(bN tt e).length/\∀(j:Nat)(d:D)(ck:CK),row[j]? =some d->(bN tt e)[j]? =some ck->
 ∃v,((vs.drop o).take (len*(bN tt e).length))[k*(bN tt e).length+j]? =some v/\RD tt Pp ck v d:=by
 refine⟨by rw[hl];simp;omega,λk row hk=>?_⟩;obtain⟨e1,e2⟩:=h k row hk;refine⟨e1,λj d ck m b=>?_⟩;obtain⟨v,p,hr⟩:=e2 j d ck m b;have c:=cB b;have i:=cB hk;have dA:=j9 i c;refine⟨v,?_,hr⟩;rw[cN (by rw[<- hl];exact dA),eN];rw[show o+(k*(bN tt e).length+j)=o+k*(bN tt e).length+j by omega];exact p
def Reads.Sa{K:TypeId->D->Prop}(z:WR tt E Pp objs w){v:Value}{p:PV}(I:VR tt E Pp v p)(h:LA objs p K):∃e rows news,K e (.list rows)/\Reads tt Pp w e v rows news:=by
 unfold LA at h;split at h
 ·cases I with
  |lst e _ _ hr=>obtain⟨rows,news,rfl,L⟩:=Reads.QZ z hr;exact⟨_,rows,news,h,L⟩
 ·rename_i e r;split at h
  ·rename_i e' d wr J;cases hb:nb e e' with
   |false=>rw[hb]at h;exact h.elim
   |true=>
    rw[hb]at h;have:=cX hb;subst this;have x:=di J rfl;obtain⟨ri,b,c⟩:=z.ob r _ x rfl;cases I with
    |row0 _ _ m=>rw[m]at b;cases b;have:d= .list []:=c;subst this;exact⟨_,[],[],h,yS,.inl ⟨none,rfl,rfl⟩,λk row h=>yE h⟩
    |row _ _ g o len cap m=>rw[m]at b;cases b;obtain⟨vs,T,rows,O,rfl,hl,i,fW,dN,_,_⟩:=c;have M:len*(bN tt e).length<=cap*(bN tt e).length:=dq _ i;obtain⟨h1,h2⟩:=dN.reads hl yO;refine⟨_,rows,(vs.drop o).take (len*(bN tt e).length),h,h1,.inr (.inl ⟨g,o,cap,by rw[hl],yO,?_⟩),h2⟩;intro j u s;have dA:=cB s;rw[h1,hl]at dA;rw[cN dA,eN]at s;rw[eE O];exact s
  ·exact h.elim
 ·exact h.elim
def Reads.R9{e:TypeId}(he:bN tt e=[.int .u8])(b:ByteArray):Reads tt Pp w e (.string b) (b.data.toList.map λc=>[.int (c.toNat:Int)]) (Lib.strCells b):=by
 have hl:(b.data.toList.map λc=>[D.int (c.toNat:Int)]).length=b.size:=by rw[bA,fI];rfl
 refine⟨by rw[Lib.strCells_length,he,hl];exact(p5 _).symm,.inr (.inr ⟨b,rfl,rfl,hl⟩),λk row hk=>?_⟩;rw[cC]at hk;obtain⟨c,hc,rfl⟩:=qh.1 hk;refine⟨by rw[he];rfl,λj d ck i h=>?_⟩;rw[he]at h ⊢;cases j with
 |succ j=>simp at i
 |zero=>simp at i h;subst i h;exact⟨.int .u8 c.toNat,by simp[Lib.strCells,hc],.int _ _⟩
def Reads.first{e:TypeId}{x:Value}{rows:List (List D)}{news:List Value}(h:Reads tt Pp w e x rows news)(k:w'.heap=w.heap):
 (Builtin.lenOf x).run P w'= .ok rows.length w'/\(Builtin.firstCells (bN tt e).length rows.length x).run P w'= .ok news.toArray w':=by
 rcases h.shape with⟨ba,rfl,rfl⟩|⟨b,o,c,rfl,hc,d⟩|⟨s,rfl,rfl,hs⟩
 ·have hl:=h.len;simp at hl;subst hl;cases ba with
  |none=>exact⟨by simp[Builtin.lenOf],by simp[Builtin.firstCells]⟩
  |some ad=>exact⟨by simp[Builtin.lenOf],run_firstCells_some (P:=P) w' _ _ _ _ _ [] yS (λj u i=>yE i)⟩
 ·refine⟨by simp[Builtin.lenOf],run_firstCells_some (P:=P) w' _ _ _ _ _ news h.len ?_⟩;intro j u i;rw[fh];have:=d j u i;rw[<- this];simp[World.cell?,k]
 ·exact⟨by simp[Builtin.lenOf,hs],by rw[hs];exact Lib.run_firstCells_string w' _ s⟩
def FM{e:TypeId}(h1:tt q=some F)(h2:tt f=some G)(s:eC F=some e)(p:P.underlying f=some (.slice e)\/P.underlying f=some .string)(h:tt e=some A)(k:ez P tt)
 {x:Value}{rows:List (List D)}{news:List Value} (u:Reads tt Pp w e x rows news) {o:Nat}{cur:List Value} (I:w.heap[g]? =some (.cells ⟨cur⟩ T (0,0)))
 (b:n+rows.length<=cap) (ec:o+n*(bN tt e).length+news.length<=cur.length):
 (Builtin.append_ #[q,f] ty #[.slice (some ⟨g,o,none⟩) n cap,x]).run P w= .ok (.slice (some ⟨g,o,none⟩) (n+rows.length) cap) (w.setRow g ⟨cur.take (o+n*(bN tt e).length)++news++cur.drop (o+n*(bN tt e).length+news.length)⟩):=by
 obtain⟨m,_,_⟩:=(k _ _ h1).slice s;have d:bN tt e=A.bP:=by simp[bN,h]
 obtain⟨_,i,_,_⟩:=(k _ _ h).run w;rw[<- d]at i;obtain⟨z,v⟩:=u.first (P:=P) (w':=w) rfl;have c:=run_storeCells_at P g (o+n*(bN tt e).length) T news 0 ⟨cur⟩ w I (yU ec) u.one;simp only[iw]at c;rcases p with j|j<;>simp[Builtin.append_,run_underlying m,run_underlying j,i,z,b,v,fh,c]
def wP{e:TypeId}(h1:tt q=some F)(h2:tt f=some G)(L:eC F=some e)(I:P.underlying f=some (.slice e)\/P.underlying f=some .string)(m:tt e=some A)(j:ez P tt)
 {x y:Value}{rows:List (List D)}{news:List Value} (R:Reads tt Pp w e x rows news) (hO:Reads tt Pp w e y olds oldc) (V:y= .slice base olds.length cap) (O:olds.length<=cap)
 (hg:cap<olds.length+rows.length) (v:olds.length+rows.length<=4294967296) (hb:A.bytes<=1024):
 ∃(M:Nat) (zs:List Value),olds.length+rows.length<=M/\zs.length=(M-(olds.length+rows.length))*(bN tt e).length/\
 (Builtin.append_ #[q,f] ty #[y,x]).run P w= .ok (.slice (some ⟨w.heap.size,0,none⟩) (olds.length+rows.length) M) (w.drew.alloc (.cells ⟨oldc++news++zs⟩ e)):=by
 obtain⟨p,_,_⟩:=(j _ _ h1).slice L;have b:bN tt e=A.bP:=by simp[bN,m]
 obtain⟨i,z,d,W,fW,U,hz,J,_⟩:=(j _ _ m).info;rw[<- b]at fW;have u:z.cells.size=(bN tt e).length:=by rw[<- fI,J,b];simp
 obtain⟨S,_⟩:=R.first (P:=P) (w':=w) rfl;obtain⟨_,X⟩:=R.first (P:=P) (w':=w.drew) rfl;obtain⟨_,Y⟩:=hO.first (P:=P) (w':=w.drew) rfl;have o:¬(olds.length+rows.length<=cap):=yO;have Z:(olds.length+rows.length)*i.bytes<=4294967296*1024:=lG v yO;have s:=growslice_fits (need:=olds.length+rows.length) (old:=cap) (bytes:=i.bytes) yO yO;have k:¬(281474976710656<Builtin.nextslicecap (olds.length+rows.length) cap*i.bytes):=yO;have h:¬(9223372036854775807<((olds.length:Int)+(rows.length:Int))):=yO;refine⟨grownCap w (olds.length+rows.length) cap e,(Builtin.zeroCells z.cells (grownCap w (olds.length+rows.length) cap e-(olds.length+rows.length))).toList,grownCap_ge _ _ _ _,by simp[Builtin.zeroCells,u],?_⟩;subst V
 rcases I with c|c<;>(
  simp[Builtin.append_,run_underlying p,run_underlying c,sizeOf,typeInfo,zeroValue,W,hz,fW,S,o,h,k,Question.forced,X,Y,newRow,grownCap]
  congr 2
  apply gL;simp[bL])
def q9{e:TypeId}(h1:tt q=some F)(h2:tt f=some G)(u:eC F=some e)(m:P.underlying f=some (.slice e)\/P.underlying f=some .string)(j:tt e=some A)(o:ez P tt)
 {x:Value}{news:List Value} (v:Reads tt Pp w e x [] news) (c:n<=cap):
 (Builtin.append_ #[q,f] ty #[.slice base n cap,x]).run P w= .ok (.slice base n cap) w:=by
 obtain⟨k,_,_⟩:=(o _ _ h1).slice u;have i:bN tt e=A.bP:=by simp[bN,j]
 obtain⟨_,h,_,_⟩:=(o _ _ j).run w;rw[<- i]at h;obtain⟨s,p⟩:=v.first (P:=P) (w':=w) rfl;have hl:=v.len;simp at hl;subst hl;simp only[bZ]at s p;cases base with
 |none=>rcases m with d|d<;>simp[Builtin.append_,run_underlying k,run_underlying d,h,s,c,p]
 |some b=>rcases m with d|d<;>simp[Builtin.append_,run_underlying k,run_underlying d,h,s,c,p,storeCells]
def Nv{e:TypeId}{rows:List (List D)}{news zs:List Value}(i:oldc.length=olds.length*(bN tt e).length)
 (m:∀(k:Nat)(row:List D),olds[k]? =some row->row.length=(bN tt e).length/\∀(j:Nat)(d:D)(ck:CK),row[j]? =some d->(bN tt e)[j]? =some ck->∃v,oldc[k*(bN tt e).length+j]? =some v/\RD tt Pp ck v d)
 (o:news.length=rows.length*(bN tt e).length)
 (p:∀(k:Nat)(row:List D),rows[k]? =some row->row.length=(bN tt e).length/\∀(j:Nat)(d:D)(ck:CK),row[j]? =some d->(bN tt e)[j]? =some ck->∃v,news[k*(bN tt e).length+j]? =some v/\RD tt Pp ck v d):
 ∀(k:Nat)(row:List D),(olds++rows)[k]? =some row->row.length=(bN tt e).length/\∀(j:Nat)(d:D)(ck:CK),row[j]? =some d->(bN tt e)[j]? =some ck->∃v,(oldc++news++zs)[k*(bN tt e).length+j]? =some v/\RD tt Pp ck v d:=by
 intro k row hk;rcases jw hk with⟨dA,h1⟩|⟨k',rfl,h1⟩
 ·obtain⟨e1,e2⟩:=m k row h1;refine⟨e1,λj d ck c b=>?_⟩;obtain⟨v,h,hr⟩:=e2 j d ck c b;exact⟨v,ga (ga h),hr⟩
 ·obtain⟨e1,e2⟩:=p k' row h1;refine⟨e1,λj d ck c b=>?_⟩;obtain⟨v,h,hr⟩:=e2 j d ck c b;refine⟨v,ga ?_,hr⟩;rw[show (olds.length+k')*(bN tt e).length+j=oldc.length+(k'*(bN tt e).length+j)by rw[i,dz];omega];exact kT h
theorem kl{o:Oper}{x y:Operand}{q f:TypeId}{C:Array Operand}{ts:Array TypeId}(c:o.op= .call { callee:=.builtin .append,args:=C,argTypes:=ts })(has:C.toList=[x,y])(b:ts.toList=[q,f]){v:Value}{w':World}
 (h:(Builtin.append_ #[q,f] o.type #[a.eval x,a.eval y]).run P w= .ok v w'):(execOp a.eval o).run P w= .ok (.value v) w':=by
 obtain rfl:C= #[x,y]:=by cases C;simp at has;simp[has]
 obtain rfl:ts= #[q,f]:=by cases ts;simp at b;simp[b]
 simp[execOp,c,resolve,invoke,builtin,h]
def AA(O:ez P tt)(h:cK tt B E Pp st.o w)(hs:∀t,VR tt E Pp (a.tmps.getD t undef) (look st.s t)){o:Oper}{x:Operand}{e:TypeId}
 (W:o.op= .call { callee:=.builtin .append,args:=C,argTypes:=ts }) (has:C.toList=[x,y]) (Y:ts.toList=[q,f])
 (h1:tt q=some F) (h2:tt f=some G) (M:eC F=some e) (J:P.underlying f=some (.slice e)\/P.underlying f=some .string) (U:tt e=some A) (hb:A.bytes<=1024)
 {rows:List (List D)}{news:List Value} (S:Reads tt Pp w e (a.eval y) rows news) {d:D} (hx:VR tt E Pp (a.eval x) (.om e d))
 (z:dS.len d+rows.length<=4294967296)
 (hK:(0<rows.length/\K (.row e (bY st.o)) ⟨st.s,gh st.o [.row e (dS.app d (.list rows)) true]⟩)\/K (.lst e (dS.app d (.list rows))) st)
:o.wp P a w (dK tt B eh E Pp st.o w o a K) Q:=by
 have s:= @kl _ P w a o x y q f C ts W has Y;generalize aj:a.eval x=vx at hx s;cases hx with
 |om _ base n _ hr=>
  obtain⟨olds,oldc,rfl,hO⟩:=Reads.QZ h.wr hr
  have hn:n=olds.length:=by
   rcases hO.shape with⟨_,he,h0⟩|⟨b,o',c,he,_⟩|⟨_,he,_⟩
   ·cases he;simp[h0]
   ·cases he;rfl
   ·cases he
  subst hn;by_cases h0:rows=[]
  ·subst h0;rcases hK with⟨hp,_⟩|hK
   ·simp at hp
   ·have m:=q9 (ty:=o.type) (n:=olds.length) (cap:=olds.length) (base:=base) h1 h2 M J U O S (bX _);refine eH (s m) ?_;refine dK.mk (s':=st.s) (o':=st.o) (.lst _ _ _ ?_) hs h hK (λ_ ad v p=>p);simpa[cg]using hr
  ·have ac:0<rows.length:=gz.2 h0;obtain⟨Z,zs,I,X,m⟩:=wP (ty:=o.type) h1 h2 M J U O S hO rfl (bX _) yO (by simp[cg]at z;omega) hb;have iK:=Nv (zs:=zs) hO.len hO.rd S.len S.rd;have hd:cK tt B E Pp st.o w.drew:=h.drew;have L:∀k,k<w.heap.size->(w.drew.alloc (.cells ⟨oldc++news++zs⟩ e)).heap[k]? =w.heap[k]? :=λk hk=>RowKit.Below.heap_alloc w.drew _ k hk
   have fW:(oldc++news++zs).length=Z*(bN tt e).length:=by
    simp only[bp,hO.len,S.len,X,<-dz]
    congr 1;omega
   refine eH (s m) ?_;rcases hK with⟨_,hK⟩|hK
   ·rw[eU,cL]at hK;refine dK.mk (E':=E++[.row w.heap.size 0 (olds.length+rows.length) Z]) (Pp':=Pp) (.row _ _ _ _ _ _ (by rw[<- h.wr.len];simp)) (fB hs) ?_ hK (λ_ ad v p=>p.grow h.wr.len (λ_ _ h=>h) L);refine hd.new rfl ⟨_,e,olds++rows,ej w.drew _,rfl,yS,I,yO,?_,λ_=>km h.wr,λhf=>yE hf⟩;intro k row hk;obtain⟨e1,e2⟩:=iK k row hk;refine⟨e1,λj d ck R u=>?_⟩;obtain⟨v,p,hr⟩:=e2 j d ck R u;exact⟨v,yU p,hr⟩
   ·have hS:=hd.lay (oldc++news++zs) e;refine dK.mk (s':=st.s) (o':=st.o) (.lst _ _ _ ?_) (λt=>(hs t).mono (λ_ _ h=>h) (λ_ _ h=>.inl h)) hS hK ?_
    ·refine .sl e w.heap.size 0 _ Z (olds++rows) (λi j=>(oldc++news++zs).getD (i*(bN tt e).length+j) undef) yS I (λi row V=>(iK i row V).1) ?_ ?_
     ·intro i j V R;have aa:(olds++rows)[i]? =some ((olds++rows)[i]'yQ):=bu _;obtain⟨ah,hc⟩:=iK i _ aa;obtain⟨v,p,_⟩:=hc j _ _ (bu yO) (bu R);refine .inr ⟨rfl,?_⟩;exact(eE (ej w.drew (.cells ⟨oldc++news++zs⟩ e)) (0+i*(bN tt e).length+j)).trans (by rw[dY,cx,p];rfl)
     ·intro i j row d ck V R u;obtain⟨v,p,hr⟩:=(iK i row V).2 j d ck R u;simp only[cx,p,eR];exact hr.mono (λ_ _ h=>.inl h)
    ·intro _ ad v p;simpa using p.grow (E2:=[]) (objs2:=[]) (Pp':=λad v=>Pp ad v\/(ad.block=w.drew.heap.size/\(w.drew.alloc (.cells ⟨oldc++news++zs⟩ e)).cell? ad=some v)) h.wr.len (λ_ _ h=>.inl h) L
def rM(r:Nat):∀(l:List Ob)(i:Nat),(jz r l)[i]? =(l[i]?).map λo=>match o with| .box cs=>.box (cQ (kill r) cs)| .loop n ps a c s j=>.loop n ps a c (mf r s) j|o=>o
 |[],i=>by simp[jz]
 |o::l,i=>by cases o<;>cases i<;>simp[jz,rM r l]
def mq(r:Nat):∀(l:List Ob),(jz r l).length=l.length
 |[]=>rfl
 |o::l=>by cases o<;>simp[jz,mq r l]
def E4(c:∀(i:Nat) x,i≠r->E[i]? =some x->E'[i]? =some x){ps:List PV}(b:eM tt E Pp vs ps):eM tt E' Pp vs (cQ (kill r) ps):=by
 induction ps generalizing vs with
 |nil=>cases b;exact .nil
 |cons p ps d=>cases b with|cons _ _ _ _ h1 h2=>exact .cons _ _ _ _ (CX c h1) (d h2)
def cK.rB{e:TypeId}{d d':D}(h:cK tt B E Pp objs w)(Z:objs[r]? =some (.row e d wr))(Y:E[r]? =some ri)(R:B.E0.length<=r)
 (S:OR tt (E.set r ri') Pp' w' ri' (.row e d' wr)) (I:∀b n c,ri≠ .map b n c)
 (V:w'.os=w.os) (U:w'.tape=w.tape) (z:w'.output=w.output) (fW:w.heap.size<=w'.heap.size)
 (L:∀b,b<w.heap.size->ri.cZ ≠some b->w'.heap[b]? =w.heap[b]?)
 (O:∀ad v,Pp ad v->Pp' ad v) (u:∀ad v,Pp' ad v->Pp ad v\/ri.cZ =some ad.block\/w.heap.size<=ad.block)
 (J:∀b,ri'.cZ =some b->ri.cZ =some b\/w.heap.size<=b)
 (hV:∀ad v,Pp' ad v->pc w' ad=some v) (ag:w.drawn<=w'.drawn:=by first|exact bX _|exact uM _|assumption):cK tt B (E.set r ri') Pp' ((jz r objs).set r (.row e d' wr)) w':=by
 have hl:=h.wr.len;have hr:=cB Z;have p:∀(i:Nat) x,i≠r->E[i]? =some x->(E.set r ri')[i]? =some x:=by intro i x hi M;rw[bQ (dZ hi)];exact M
 refine h.An Z rfl Y yS (λj W=>bQ (dZ W)) (by rw[bT yO]) (.inr R) (by simp[mq]) ?_ (by rw[bT (by rw[mq];exact hr)]) (λ_=>S) V U z fW L O u J hV;intro j ac W k X;rw[bQ (dZ W),rM]at k;cases M:objs[j]? with
 |none=>rw[M]at k;simp at k
 |some oj=>
  rw[M]at k;simp only[cv,cw]at k;refine⟨oj,rfl,by cases oj<;>simp_all[Ob.live]<;>(subst k;simp at X),?_⟩;intro rj aa o;cases oj with
  |box cs=>
   simp only at k;subst k;cases rj<;>try exact o.elim
   ·obtain⟨vs,T,h1,h2,h3,h4⟩:=o;exact⟨vs,T,h1,E4 p h2,h3,h4.map (ME r)⟩
   ·exact o.imp λ_ a=>⟨a.1,E4 p a.2.1,a.2.2⟩
  |row=>simp only at k;subst k;cases rj<;>exact o
  |map=>simp only at k;subst k;cases rj<;>exact o
  |diter=>simp only at k;subst k;cases rj<;>exact o
  |iter m s=>
   simp only at k;subst k;cases rj<;>try exact o.elim
   obtain⟨bm,borns,clock,ls,h1,h2⟩:=o;refine⟨bm,borns,clock,ls,p _ _ ?_ h1,h2⟩;rintro rfl;rw[Y]at h1;cases h1;exact I _ _ _ rfl
  |loop n qs c1 c2 s jj=>
   simp only at k;subst k;cases rj<;>try exact o.elim
   obtain⟨r',h1,h2,h3⟩:=o;exact⟨r',h1,h2,λt=>by rw[zg];exact CX p (h3 t)⟩
  |dead=>simp only at k;subst k;cases rj<;>exact o
def oy.zk{ob:Ob}{v:Value}(m:oy tt E Pp objs w ad v)(hr:r<objs.length)
 (p:∀ad v,Pp ad v->Pp' ad v) (k:∀(i:Nat) x,i≠r->E[i]? =some x->E'[i]? =some x) (hc:∀(i:Nat),i≠r->w.cell? ad=some v->(∃cs,objs[i]? =some (.box cs)/\E[i]? =some (.box ad.block))\/
 (∃e d wr o len cap,objs[i]? =some (.row e d wr)/\E[i]? =some (.row ad.block o len cap))->w'.cell? ad=some v)
 (b:w.cell? ad=some v->((∃cs,objs[r]? =some (.box cs)/\E[r]? =some (.box ad.block))\/(∃e d wr o len cap,objs[r]? =some (.row e d wr)/\E[r]? =some (.row ad.block o len cap)/\ad.off<o+len*(bN tt e).length))->
   oy tt E' Pp' ((jz r objs).set r ob) w' ad v):oy tt E' Pp' ((jz r objs).set r ob) w' ad v:=by
 rcases m with m|⟨j,i,h⟩
 ·exact .inl (p _ _ m)
 ·by_cases c:i=r
  ·subst c;exact b j h
  ·refine .inr ⟨hc i c j ?_,i,?_⟩
   ·rcases h with h|⟨e,d,wr,o,len,cap,h1,h2,h3⟩
    ·exact .inl h
    ·exact .inr ⟨e,d,wr,o,len,cap,h1,h2⟩
   ·rcases h with⟨cs,h1,h2⟩|⟨e,d,wr,o,len,cap,h1,h2,h3⟩
    ·exact .inl ⟨cQ (kill r) cs,by rw[bQ (dZ c),rM,h1];rfl,k _ _ c h2⟩
    ·exact .inr ⟨e,d,wr,o,len,cap,by rw[bQ (dZ c),rM,h1];rfl,k _ _ c h2,h3⟩
def Ax{v:Value}{fr:Nat×Nat}(b:w.heap[ad.block]? =some (.cells ⟨vs⟩ T fr))(h:w.cell? ad=some v):ad.spot.isSome=false/\vs[ad.off]? =some v:=by
 simp only[World.cell?,b]at h;cases hs:ad.spot.isSome with
 |true=>simp[hs]at h
 |false=>simp[hs]at h;exact⟨rfl,h⟩
def kO(hs:∀t,VR tt E Pp (a.tmps.getD t undef) (look st.s t))(b:∀ad v,Pp ad v->Pp' ad v):∀t,VR tt (E.set r ri') Pp' (a.tmps.getD t undef) (look (mf r st.s) t):=by intro t;rw[zg];exact(CX (λi x c d=>by rw[bQ (dZ c)];exact d) (hs t)).mono (λ_ _ h=>h) b
def wj(ai:ez P tt)(h:cK tt B E Pp st.o w)(hs:∀t,VR tt E Pp (a.tmps.getD t undef) (look st.s t)){o:Oper}{x:Operand}{e:TypeId}
 (Z:o.op= .call { callee:=.builtin .append,args:=C,argTypes:=ts }) (has:C.toList=[x,y]) (aj:ts.toList=[q,f])
 (h1:tt q=some F) (h2:tt f=some G) (af:eC F=some e) (ae:P.underlying f=some (.slice e)\/P.underlying f=some .string) (al:tt e=some A) (hb:A.bytes<=1024)
 {rows:List (List D)}{news:List Value} (X:Reads tt Pp w e (a.eval y) rows news) (hO:Reads tt Pp w e (a.eval x) olds oldc) (hx:a.eval x= .slice base olds.length cap) (O:olds.length<=cap)
 (hg:cap<olds.length+rows.length) (R:olds.length+rows.length<=4294967296) (J:st.o[r]? =some (.row e (.list olds) wr)) (hE:E[r]? =some ri) (ab:B.E0.length<=r)
 (p:ri= .row0\/∃g V s,ri= .row g V olds.length s)
 (hK:K (.row e r) ⟨mf r st.s,il (jz r st.o) r (.row e (.list (olds++rows)) wr)⟩)
:o.wp P a w (dK tt B eh E Pp st.o w o a K) Q:=by
 have W:= @kl _ P w a o x y q f C ts Z has aj;obtain⟨nc,zs,ac,aa,S⟩:=wP (ty:=o.type) h1 h2 af ae al ai X hO hx O hg R hb;have iK:=Nv (zs:=zs) hO.len hO.rd X.len X.rd
 have fW:(oldc++news++zs).length=nc*(bN tt e).length:=by
  simp only[bp,hO.len,X.len,aa,<-dz]
  congr 1;omega
 have L:∀k,k<w.heap.size->(w.drew.alloc (.cells ⟨oldc++news++zs⟩ e)).heap[k]? =w.heap[k]? :=λk hk=>RowKit.Below.heap_alloc w.drew _ k hk;have I:(w.drew.alloc (.cells ⟨oldc++news++zs⟩ e)).heap[w.heap.size]? =some (.cells ⟨oldc++news++zs⟩ e (0,0)):=ej w.drew _;generalize u:w.drew.alloc (.cells ⟨oldc++news++zs⟩ e)=w' at*;have aw:w.drawn<=w'.drawn:=by rw[<- u];exact uM _
 let Pp':fQ:=λad v=>Pp ad v\/(wr=false/\ad.block=w.heap.size/\ad.off<(olds.length+rows.length)*(bN tt e).length/\w'.cell? ad=some v)\/
  (w.cell? ad=some v/\ri.cZ =some ad.block/\∃g V s,ri= .row g V olds.length s/\ad.off<V+olds.length*(bN tt e).length)
 have z:∀ad v,w.cell? ad=some v->w'.cell? ad=some v:=λad v hc=>by rw[tc (L _ (World.block_lt_of_cell? w ad hc))];exact hc
 have U:=cB J
 have hS:cK tt B (E.set r (.row w.heap.size 0 (olds.length+rows.length) nc)) Pp' ((jz r st.o).set r (.row e (.list (olds++rows)) wr)) w':=by
  refine h.rB J hE ab ?_ ?_ (by rw[<- u];rfl) (by rw[<- u];rfl) (by rw[<- u];rfl) (by rw[<- u];simp) (λb hb _=>L b hb) (λ_ _ h=>.inl h) ?_ (λb hb=>.inr ?_) ?_
  ·refine⟨_,e,olds++rows,I,rfl,yS,ac,yO,?_,?_,?_⟩
   ·intro k row hk;obtain⟨e1,e2⟩:=iK k row hk;refine⟨e1,λj d ck hj am=>?_⟩;obtain⟨v,m,hr⟩:=e2 j d ck hj am;exact⟨v,by rw[dY];exact m,hr.mono (λ_ _ h=>.inl h)⟩
   ·intro M ad v m;rcases m with m|⟨hf,_⟩|⟨hc,_⟩
    ·exact km h.wr ad v m
    ·rw[M]at hf;cases hf
    ·have:=World.block_lt_of_cell? w ad hc;omega
   ·intro M;refine⟨?_,?_⟩
    ·intro i j v hi hj m;refine .inr (.inl ⟨M,rfl,?_,?_⟩)
     ·show 0+i*(bN tt e).length+j<_;have:=j9 hi hj;omega
     ·rw[eE I];exact m
    ·intro ad v m Y;rcases m with m|⟨_,_,dA,_⟩|⟨hc,_⟩
     ·exact absurd Y (km h.wr ad v m)
     ·rw[dY];exact .inr dA
     ·have:=World.block_lt_of_cell? w ad hc;omega
  ·rintro b n c rfl;rcases p with p|⟨_,_,_,p⟩<;>cases p
  ·intro ad v m;rcases m with m|⟨_,hb,_⟩|⟨_,hb,_⟩
   ·exact .inl m
   ·exact .inr (.inr yO)
   ·exact .inr (.inl hb)
  ·simp[RI.cZ]at hb;omega
  ·intro ad v m;rcases m with m|⟨_,_,_,hc⟩|⟨hc,_⟩
   ·rw[ia (L _ (yu (h.wr.pi ad v m)))];exact h.wr.pi ad v m
   ·exact gm hc
   ·exact gm (z ad v hc)
 refine eH (W S) ?_;rw[gw]at hK;refine dK.mk (.row _ _ _ _ _ _ (by rw[bT (by rw[h.wr.len];exact U)])) (kO hs (λ_ _ h=>.inl h)) hS hK ?_;intro _ ad v m;refine m.zk U (λ_ _ h=>.inl h) (λi x hi hx=>by rw[bQ (dZ hi)];exact hx) (λi _ hc _=>z ad v hc) ?_;intro hc ho;rcases ho with⟨cs,h3,_⟩|⟨e',d',au,o',an,s,h3,h4,h5⟩
 ·rw[J]at h3;cases h3
 ·rw[J]at h3;cases h3;rw[hE]at h4;cases h4;rcases p with p|⟨g,V,ao,p⟩
  ·cases p
  ·cases p;exact .inl (.inr (.inr ⟨hc,rfl,_,_,_,rfl,h5⟩))
def Eh(aA:ez P tt)(h:cK tt B E Pp st.o w)(hs:∀t,VR tt E Pp (a.tmps.getD t undef) (look st.s t)){o:Oper}{x:Operand}{e:TypeId}
 (aq:o.op= .call { callee:=.builtin .append,args:=C,argTypes:=ts }) (has:C.toList=[x,y]) (aB:ts.toList=[q,f])
 (h1:tt q=some F) (h2:tt f=some G) (ay:eC F=some e) (aw:P.underlying f=some (.slice e)\/P.underlying f=some .string) (aD:tt e=some A)
 {rows:List (List D)}{news:List Value} (hR:Reads tt Pp w e (a.eval y) rows news) {u:Nat} (hx:a.eval x= .slice (some ⟨g,u,none⟩) olds.length cap)
 (J:olds.length+rows.length<=cap) (L:st.o[r]? =some (.row e (.list olds) wr)) (hE:E[r]? =some (.row g u olds.length cap)) (av:B.E0.length<=r)
 (hK:K (.row e r) ⟨mf r st.s,il (jz r st.o) r (.row e (.list (olds++rows)) wr)⟩)
:o.wp P a w (dK tt B eh E Pp st.o w o a K) Q:=by
 have Z:= @kl _ P w a o x y q f C ts aq has aB;obtain⟨ri,ao,ax⟩:=h.wr.ob r _ L rfl;rw[hE]at ao;cases ao;obtain⟨vs,T,ap,hg,aE,hl,aG,fW,dN,an,am⟩:=ax;cases aE;generalize O:(bN tt e).length=S at*;have ai:=hR.len;rw[O]at ai;have aF:(olds.length+rows.length)*S<=cap*S:=dq _ J;rw[dz]at aF;have Y:=FM (ty:=o.type) (n:=olds.length) (o:=u) (cur:=vs) h1 h2 ay aw aD aA hR hg J (by rw[O];omega);rw[O]at Y;rw[hx]at Z;generalize z:w.setRow g ⟨vs.take (u+olds.length*S)++news++vs.drop (u+olds.length*S+news.length)⟩=w' at*;have aK:w.drawn<=w'.drawn:=by rw[<- z];exact bX _
 have W:w'.heap[g]? =some (.cells ⟨vs.take (u+olds.length*S)++news++vs.drop (u+olds.length*S+news.length)⟩ e (0,0)):=by rw[<- z];exact setRow_heap w g _ _ _ _ hg
 have R:∀k,k≠g->w'.heap[k]? =w.heap[k]? :=λk hk=>by rw[<- z];exact setRow_other w g k _ hk
 have X:=cB L
 have M:∀ad v,w.cell? ad=some v->(ad.block=g->cap=0\/ad.off<u+olds.length*S)->w'.cell? ad=some v:=by
  intro ad v hc dA;by_cases p:ad.block=g
  ·have dA:=dA p;obtain⟨h3,h4⟩:=Ax (by rw[p];exact hg) hc;simp only[World.cell?,p,W,h3,cA,if_false]
   have af:¬(u+olds.length*S<=ad.off/\ad.off<u+olds.length*S+news.length):=by
    rcases dA with h0|dA
    ·have:rows.length=0:=yO;rw[this,Nat.zero_mul]at ai;omega
    ·omega
   rw[<- gM,mR yO,if_neg af];exact h4
  ·rw[tc (R _ p)];exact hc
 let Pp':fQ:=λad v=>Pp ad v\/(wr=false/\ad.block=g/\ad.off<u+(olds.length+rows.length)*S/\w'.cell? ad=some v)
 have al:cK tt B (E.set r (.row g u (olds.length+rows.length) cap)) Pp' ((jz r st.o).set r (.row e (.list (olds++rows)) wr)) w':=by
  refine h.rB L hE av ?_ (λb n c hc=>yC hc) (by rw[<- z];rfl) (by rw[<- z];rfl) (by rw[<- z];rfl) (by rw[<- z];simp) ?_ (λ_ _ h=>.inl h) ?_ (λb hb=>.inl hb) ?_
  ·refine⟨_,T,olds++rows,W,rfl,yS,J,by rw[O];simp;omega,?_,?_,?_⟩
   ·intro k row hk;rw[O];rcases jw hk with⟨dA,h3⟩|⟨k',rfl,h3⟩
    ·obtain⟨e1,e2⟩:=dN k row h3;rw[O]at e1 e2;refine⟨e1,λj d ck hj V=>?_⟩;obtain⟨v,m,hr⟩:=e2 j d ck hj V;have U:=cB V;rw[O]at U;have:=j9 dA U;exact⟨v,by rw[mR yO,if_neg yO];exact m,hr.mono (λ_ _ h=>.inl h)⟩
    ·obtain⟨e1,e2⟩:=hR.rd k' row h3;rw[O]at e1 e2;refine⟨e1,λj d ck hj V=>?_⟩;obtain⟨v,m,hr⟩:=e2 j d ck hj V;have U:=cB V;rw[O]at U;have:=j9 (cB h3) U;refine⟨v,?_,hr.mono (λ_ _ h=>.inl h)⟩;rw[mR yO,if_pos (by rw[dz];omega),show u+(olds.length+k')*S+j-(u+olds.length*S)=k'*S+j by rw[dz];omega];exact m
   ·intro s ad v m;rcases m with m|⟨hf,_⟩
    ·exact an s ad v m
    ·rw[s]at hf;cases hf
   ·intro s;obtain⟨_,aa⟩:=am s;rw[O];refine⟨?_,?_⟩
    ·intro i j v hi hj m;refine .inr ⟨s,rfl,?_,?_⟩
     ·show u+i*S+j<_;have:=j9 hi hj;omega
     ·rw[eE W];exact m
    ·intro ad v m I;rcases m with m|⟨_,_,dA,_⟩
     ·have:=aa ad v m I;rw[dz];omega
     ·exact .inr dA
  ·intro b _ hb;exact R b (λe=>hb (by rw[e];rfl))
  ·intro ad v m;rcases m with m|⟨_,hb,_⟩
   ·exact .inl m
   ·exact .inr (.inl (by rw[hb];rfl))
  ·intro ad v m;rcases m with m|⟨_,_,_,hc⟩
   ·by_cases p:ad.block=g
    rotate_left
    ·rw[ia (R _ p)];exact h.wr.pi ad v m
    by_cases aj:ad.spot=some 1
    ·exact Pd (h.wr.pi ad v m) (by rw[p];exact hg) (by rw[p];exact W) (show jJ _=jJ _ by simp only[bp,cF,qi];omega) aj
    refine gm (M ad v (L5 (h.wr.pi ad v m) (by rw[p];exact hg) aj) (λI=>?_));cases s:wr with
    |true=>exact absurd I (an s ad v m)
    |false=>obtain⟨_,aa⟩:=am s;exact aa ad v m I
   ·exact gm hc
 refine eH (Z Y) ?_;rw[gw]at hK;refine dK.mk (.row _ _ _ _ _ _ (by rw[bT (by rw[h.wr.len];exact X)])) (kO hs (λ_ _ h=>.inl h)) al hK ?_;intro _ ad v m;refine m.zk X (λ_ _ h=>.inl h) (λi x hi hx=>by rw[bQ (dZ hi)];exact hx) ?_ ?_
 ·intro i hi hc ho;refine M ad v hc (λI=>?_);exfalso;rcases ho with⟨cs,h3,h4⟩|⟨e',d',ar,o',ag,ac,h3,h4⟩
  ·exact hi (h.wr.sep i r _ _ _ _ g h3 L rfl rfl h4 hE (by rw[I];rfl) rfl)
  ·exact hi (h.wr.sep i r _ _ _ _ g h3 L rfl rfl h4 hE (by rw[I];rfl) rfl)
 ·intro hc ho;rcases ho with⟨cs,h3,_⟩|⟨e',d',ar,o',ag,ac,h3,h4,h5⟩
  ·rw[L]at h3;cases h3
  ·rw[L]at h3;cases h3;rw[hE]at h4;simp only[cw,RI.row.injEq]at h4;obtain⟨q1,q2,q3,q4⟩:=h4;rw[O]at h5;refine .inr ⟨M ad v hc (λ_=>.inr (by rw[q2,q3];exact h5)),r,.inr ⟨e,_,wr,u,olds.length+rows.length,cap,by rw[bT (by rw[mq];exact X)],?_,?_⟩⟩
   ·rw[bT (by rw[h.wr.len];exact X),<-q1]
   ·rw[O,dz];rw[<- q2,<-q3]at h5;omega
def Ei(am:ez P tt)(h:cK tt B E Pp st.o w)(hs:∀t,VR tt E Pp (a.tmps.getD t undef) (look st.s t)){o:Oper}{e:TypeId}{x:Operand}{lo:Option Operand}
 (af:o.op= .slice t x lo none none) (az:tt t=some ti) (he:eC ti=some e) (ap:tt e=some A) {d:D} (ag:st.o[r]? =some (.row e d wr))
 (u:VR tt E Pp (a.eval x) (.row e r)) (ai:B.E0.length<=r) (au:0<=l) (ao:l<=((cg d).length:Int)) (aA:(lo=none/\l=0)\/∃y k,lo=some y/\a.eval y= .int k l)
 (hK:K (.row e r) ⟨mf r st.s,il (jz r (fz [r] 0 st.o)) r (.row e (dS.part d l (dS.len d)) false)⟩)
:o.wp P a w (dK tt B eh E Pp st.o w o a K) Q:=by
 have h1:=h.nM [r];have aj:∀t,VR tt E (gQ tt E st.o w Pp [r]) (a.tmps.getD t undef) (look st.s t):=λt=>(hs t).mono (λ_ _ h=>h) (λ_ _ h=>.inl h);have m:(fz [r] 0 st.o)[r]? =some (.row e d false):=by rw[ju,ag];simp[eI,wH]
 have I:r<(fz [r] 0 st.o).length:=cB m;have ae:r<E.length:=by rw[h1.wr.len];exact I
 have hu:=((am _ _ az).slice he).1;have al:=(am _ _ ap).run (P:=P) w;have an:bN tt e=A.bP:=by simp[bN,ap]
 have ab:∀len cap:Nat,(cg d).length=len->len<=cap->(Instr.sliceBounds true len cap (lo.map a.eval) none none).run P w= .ok (l.toNat,len,cap) w:=by
  intro len cap L J;simp only[Instr.sliceBounds,Ai,Sem.run_bind,Sem.run_pure,Result.andThen_ok];rcases aA with⟨rfl,rfl⟩|⟨x1,H,rfl,e1⟩
  ·simp
  ·simp[e1,eD (P:=P) (w:=w) (k:=H) (n:=l) (y:=len) ⟨au,yO⟩]
 obtain⟨ri,p,Y⟩:=h1.wr.ob r _ m rfl;generalize hx:a.eval x=vx at u;cases u with
 |row0 _ _ hE=>
  rw[p]at hE;cases hE;simp only[OR]at Y;subst Y;obtain rfl:l=0:=by simp[cg]at ao;omega
  have s:(execOp a.eval o).run P w= .ok (.value (.slice none 0 0)) w:=by simp[execOp,af,hx,Instr.sliceAt,run_underlying hu,Instr.slice,ab 0 0 rfl (bX _),al.2.1]
  have W:=h1.rB (d':=dS.part (.list []) 0 (dS.len (.list []))) (ri':=.row0) (w':=w) m p ai (by simp only[OR];rfl) (λb n c hc=>yC hc) rfl rfl rfl (bX _) (λb _ _=>rfl) (λ_ _ h=>h) (λ_ _ h=>.inl h) (λb hb=>by simp[RI.cZ]at hb) h1.wr.pi;refine eH s ?_;rw[gw]at hK;refine dK.mk (.row0 _ _ (by rw[bT ae])) (kO aj (λ_ _ h=>h)) W hK ?_ (λ_ _ h=>.inl h);intro _ ad v u;refine(u.nM [r]).zk I (λ_ _ h=>h) (λi x V hx=>by rw[bQ (dZ V)];exact hx) (λi _ hc _=>hc) ?_;intro hc ho;rcases ho with⟨cs,h3,_⟩|⟨e',d',av,o',U,R,h3,h4,h5⟩
  ·rw[m]at h3;cases h3
  ·rw[p]at h4;cases h4
 |row _ _ g z len cap hE=>
  rw[p]at hE;cases hE;obtain⟨vs,T,rows,hg,aB,L,J,ec,dN,aK,O⟩:=Y;subst aB;have O:=O rfl;generalize W:(bN tt e).length=S at*;obtain⟨k,rfl⟩:∃k:Nat,l=k:=⟨l.toNat,yO⟩;simp only[cg]at ao ab;have hk:k<=len:=yO
  have s:(execOp a.eval o).run P w= .ok (.value (.slice (some (if cap=k then(⟨g,z,none⟩:Addr)else⟨g,z+k*S,none⟩)) (len-k) (cap-k))) w:=by
   have:(if cap=k then some (⟨g,z,none⟩:Addr)else some ⟨g,z+k*S,none⟩)=some (if cap=k then(⟨g,z,none⟩:Addr)else⟨g,z+k*S,none⟩):=by split<;>rfl
   rw[<- this];rw[an]at W;simp[execOp,af,hx,Instr.sliceAt,run_underlying hu,Instr.slice,ab len cap L J,al.2.1,W,fh]
  have X:dS.part (.list rows) (k:Int) (dS.len (.list rows))= .list (rows.drop k):=by show D.list ((rows.drop (k:Int).toNat).take (((rows.length:Nat):Int).toNat-(k:Int).toNat))=_;simp only[fp];rw[ek yS]
  rw[X]at hK;obtain⟨o1,M⟩:∃o1,o1=(if cap=k then z else z+k*S):=⟨_,rfl⟩;have ax:(if cap=k then(⟨g,z,none⟩:Addr)else⟨g,z+k*S,none⟩)=⟨g,o1,none⟩:=by rw[M];split<;>rfl
  rw[ax]at s;have ak:(len-k)*S=len*S-k*S:=Nat.sub_mul _ _ _;have Z:(cap-k)*S=cap*S-k*S:=Nat.sub_mul _ _ _;have aD:k*S<=len*S:=dq _ hk;have aF:len*S<=cap*S:=dq _ J
  have ay:=h1.rB (d':=.list (rows.drop k)) (ri':=.row g o1 (len-k) (cap-k)) (w':=w) m p ai (by
   refine⟨vs,T,rows.drop k,hg,rfl,by simp[L],yO,?_,?_,yS,λ_=>⟨?_,?_⟩⟩
   ·rw[W,Z,M];split<;>omega
   ·intro i row V;rw[eN]at V;have dA:k+i<rows.length:=cB V;obtain⟨a1,a2⟩:=dN (k+i) row V;rw[W]at a1 a2 ⊢;refine⟨a1,λj dd ck hj aa=>?_⟩;obtain⟨v,b1,b2⟩:=a2 j dd ck hj aa;refine⟨v,?_,b2⟩;rw[<- b1,M,if_neg yO,dz];congr 1;omega
   ·intro i j v V hj u;rw[W]at hj u ⊢;rw[M,if_neg yO]at u ⊢;have hh:=O.1 (k+i) j v yO hj;rw[dz]at hh;have e3:z+k*S+i*S+j=z+(k*S+i*S)+j:=yO;rw[e3]at u ⊢;exact hh u
   ·intro ad v u hb;rw[W,ak,M];rcases O.2 ad v u hb with h0|h0
    ·left;omega
    ·by_cases aa:cap=k
     ·left;omega
     ·right;rw[if_neg aa];omega) (λb n c hc=>yC hc) rfl rfl rfl (bX _) (λb _ _=>rfl) (λ_ _ h=>h) (λ_ _ h=>.inl h) (λb hb=>.inl hb) h1.wr.pi
  refine eH s ?_;rw[gw]at hK;refine dK.mk (.row _ _ _ _ _ _ (by rw[bT ae])) (kO aj (λ_ _ h=>h)) ay hK ?_ (λ_ _ h=>.inl h);intro _ ad v u;refine(u.nM [r]).zk I (λ_ _ h=>h) (λi x V hx=>by rw[bQ (dZ V)];exact hx) (λi _ hc _=>hc) ?_;intro hc ho;rcases ho with⟨cs,h3,_⟩|⟨e',d',av,o',U,R,h3,h4,h5⟩
  ·rw[m]at h3;cases h3
  ·rw[p]at h4;simp only[cw,RI.row.injEq]at h4;obtain⟨q1,q2,q3,q4⟩:=h4;rw[m]at h3;cases h3;refine .inl (.inr ⟨hc,r,yS,.inr ⟨o',U,R,e,.list rows,wr,by rw[p,<-q1,q2,q3,q4],ag,h5⟩⟩)
def Ej(O:ez P tt)(h:cK tt B E Pp st.o w)(hs:∀t,VR tt E Pp (a.tmps.getD t undef) (look st.s t)){o:Oper}{e:TypeId}{x:Operand}
 (J:o.op= .slice t x none (some y) none) (aa:tt t=some ti) (he:eC ti=some e) (U:tt e=some A) {d:D} (s:st.o[r]? =some (.row e d true))
 (hv:VR tt E Pp (a.eval x) (.row e r)) (Z:B.E0.length<=r) (I:0<((cg d).length:Int)) (W:0<=l) (ae:l<=((cg d).length:Int)) (e1:a.eval y= .int H l) (hq:ew eh.2=false)
 (hK:K (.row e r) ⟨mf r st.s,il (jz r st.o) r (.row e (dS.part d 0 l) true)⟩)
:o.wp P a w (dK tt B eh E Pp st.o w o a K) Q:=by
 have X:r<E.length:=by rw[h.wr.len];exact cB s
 have hu:=((O _ _ aa).slice he).1;have ab:=(O _ _ U).run (P:=P) w;have R:bN tt e=A.bP:=by simp[bN,U]
 have V:∀len cap:Nat,(cg d).length=len->len<=cap->(Instr.sliceBounds true len cap none (some (a.eval y)) none).run P w= .ok (0,l.toNat,cap) w:=by intro len cap p m;simp only[Instr.sliceBounds,Sem.run_bind,Sem.run_pure,Result.andThen_ok];simp[e1,eD (P:=P) (w:=w) (k:=H) (n:=l) (y:=cap) ⟨W,yO⟩]
 obtain⟨ri,z,v⟩:=h.wr.ob r _ s rfl;generalize hx:a.eval x=vx at hv;cases hv with
 |row0 _ _ L=>rw[z]at L;cases L;simp only[OR]at v;subst v;simp[cg]at I
 |row _ _ g o0 len cap L=>
  rw[z]at L;cases L;obtain⟨vs,T,rows,hg,ag,p,m,ec,dN,ah,ao⟩:=v;subst ag;generalize hS:(bN tt e).length=S at*;obtain⟨k,rfl⟩:∃k:Nat,l=k:=⟨l.toNat,yO⟩;simp only[cg]at ae V I;have hk:k<=len:=yO;have M:(execOp a.eval o).run P w= .ok (.value (.slice (some (⟨g,o0,none⟩:Addr)) k cap)) w:=by rw[R]at hS;simp[execOp,J,hx,Instr.sliceAt,run_underlying hu,Instr.slice,V len cap p m,ab.2.1,hS,fh]
  have u:dS.part (.list rows) 0 (k:Int)= .list (rows.take k):=by show D.list ((rows.drop (0:Int).toNat).take ((k:Int).toNat-(0:Int).toNat))=_;simp
  rw[u]at hK;have ak:k*S<=len*S:=dq _ hk;have Y:=h.rB (d':=.list (rows.take k)) (ri':=.row g o0 k cap) (w':=w) s z Z (by refine⟨vs,T,rows.take k,hg,rfl,yQ,yO,by rw[hS];exact ec,?_,ah,yS⟩;intro i row hi;have dA:=cB hi;simp at dA;rw[cN yO]at hi;exact dN i row hi) (λb n c hc=>yC hc) rfl rfl rfl (bX _) (λb _ _=>rfl) (λ_ _ h=>h) (λ_ _ h=>.inl h) (λb hb=>.inl hb) h.wr.pi;refine eH M ?_;rw[gw]at hK;refine dK.mk (.row _ _ _ _ _ _ (by rw[bT X])) (kO hs (λ_ _ h=>h)) Y hK (λj=>?_) (λ_ _ h=>h);rw[J]at j;simp only[gi]at j;rw[hq]at j;cases j
def GH(z:ez P tt)(h:cK tt B E Pp st.o w)(hs:∀t,VR tt E Pp (a.tmps.getD t undef) (look st.s t)){o:Oper}{e:TypeId}{x:Operand}
 (O:o.op= .slice t x (some y) none none) (U:tt t=some ti) (he:eC ti=some e) (J:tt e=some A) {d:D} (R:st.o[r]? =some (.row e d wr))
 (Z:VR tt E Pp (a.eval x) (.row e r)) (M:0<((cg d).length:Int)) (p:0<=l) (W:l<=((cg d).length:Int)) (e1:a.eval y= .int H l)
 (hK:K (.fM e r l dC) st)
:o.wp P a w (dK tt B eh E Pp st.o w o a K) Q:=by
 have hu:=((z _ _ U).slice he).1;have V:=(z _ _ J).run (P:=P) w;have I:bN tt e=A.bP:=by simp[bN,J]
 have L:∀len cap:Nat,(cg d).length=len->len<=cap->(Instr.sliceBounds true len cap (some (a.eval y)) none none).run P w= .ok (l.toNat,len,cap) w:=by intro len cap i c;simp only[Instr.sliceBounds,Sem.run_bind,Sem.run_pure,Result.andThen_ok];simp[e1,eD (P:=P) (w:=w) (k:=H) (n:=l) (y:=len) ⟨p,yO⟩]
 obtain⟨ri,m,j⟩:=h.wr.ob r _ R rfl;generalize hx:a.eval x=vx at Z;cases Z with
 |row0 _ _ s=>rw[m]at s;cases s;simp only[OR]at j;subst j;simp[cg]at M
 |row _ _ g b len cap s=>
  rw[m]at s;cases s;obtain⟨vs,T,rows,hg,Y,i,c,ec,dN,ae,ac⟩:=j;subst Y;generalize X:(bN tt e).length=S at*;obtain⟨k,rfl⟩:∃k:Nat,l=k:=⟨l.toNat,yO⟩;simp only[cg]at W L;have hk:k<=len:=yO
  have u:(execOp a.eval o).run P w= .ok (.value (.slice (some (if cap=k then(⟨g,b,none⟩:Addr)else⟨g,b+k*S,none⟩)) (len-k) (cap-k))) w:=by
   have:(if cap=k then some (⟨g,b,none⟩:Addr)else some ⟨g,b+k*S,none⟩)=some (if cap=k then(⟨g,b,none⟩:Addr)else⟨g,b+k*S,none⟩):=by split<;>rfl
   rw[<- this];rw[I]at X;simp[execOp,O,hx,Instr.sliceAt,run_underlying hu,Instr.slice,L len cap i c,V.2.1,X,fh]
  refine eH u ?_;refine dK.mk (.fM _ _ _ _ _ g b len cap m p ⟨λhn=>absurd rfl hn,λ_=>⟨⟨if cap=k then b else b+k*S,?_,?_⟩,yO⟩⟩) hs h hK (λ_ ad v h=>h) (λ_ _ h=>h)
  ·simp only[fp];split<;>rfl
  ·simp only[fp,X];split
   ·right;omega
   ·left;rfl
def Az(O:ez P tt)(h:cK tt B E Pp st.o w)(hs:∀t,VR tt E Pp (a.tmps.getD t undef) (look st.s t)){o:Oper}{x:Operand}{e:TypeId}
 (I:o.op= .call { callee:=.builtin .append,args:=C,argTypes:=ts }) (has:C.toList=[x,y]) (R:ts.toList=[q,f])
 (h1:tt q=some F) (h2:tt f=some G) (M:eC F=some e) (L:P.underlying f=some (.slice e)\/P.underlying f=some .string) (S:tt e=some A) (hb:A.bytes<=1024)
 {rows:List (List D)}{news:List Value} (hR:Reads tt Pp w e (a.eval y) rows news) (hx:VR tt E Pp (a.eval x) (.row e r)) {d:D} (ai:eG st.o r= .row e d wr) (J:B.E0.length<=r)
 (V:dS.len d+rows.length<=4294967296) (hK:K (.row e r) ⟨mf r st.s,il (jz r st.o) r (.row e (dS.app d (.list rows)) wr)⟩)
:o.wp P a w (dK tt B eh E Pp st.o w o a K) Q:=by
 have m:=di ai rfl;have ab:=cB m;obtain⟨ri,U,aa⟩:=h.wr.ob r _ m rfl;generalize p:a.eval x=vx at hx;cases hx with
 |row0 _ _ z=>
  rw[z]at U;cases U;have:d= .list []:=aa;subst this;by_cases h0:rows=[]
  ·subst h0;have W:= @kl _ P w a o x y q f C ts I has R;rw[p]at W;have Z:=q9 (ty:=o.type) (n:=0) (cap:=0) (base:=none) h1 h2 M L S O hR (bX _);refine eH (W Z) ?_;rw[gw]at hK
   have ah:E.set r .row0=E:=by
    apply xw;intro i;by_cases hi:i=r
    ·subst hi;rw[bT (by rw[h.wr.len];exact ab),z]
    ·rw[bQ (dZ hi)]
   have hS:=h.rB (d':=dS.app (.list []) (.list [])) (ri':=.row0) (w':=w) (Pp':=Pp) m z J rfl (λb n c hc=>yC hc) rfl rfl rfl (bX _) (λ_ _ _=>rfl) (λ_ _ h=>h) (λ_ _ h=>.inl h) (λb hb=>by simp[RI.cZ]at hb) h.wr.pi;refine dK.mk (.row0 _ _ (by rw[ah];exact z)) (kO hs (λ_ _ h=>h)) hS hK ?_;intro _ ad v hv;refine hv.zk ab (λ_ _ h=>h) (λi x hi hx=>by rw[bQ (dZ hi)];exact hx) (λi _ hc _=>hc) ?_;intro hc ho;rcases ho with⟨cs,h3,_⟩|⟨e',d',ao,o',al,ak,h3,h4,h5⟩
   ·rw[m]at h3;cases h3
   ·rw[z]at h4;cases h4
  ·have Y:0<rows.length:=gz.2 h0;exact wj (olds:=[]) (oldc:=[]) (base:=none) (cap:=0) O h hs I has R h1 h2 M L S hb hR ⟨yS,.inl ⟨none,p,rfl⟩,λk row h=>yE h⟩ p (bX _) (yU Y) (by simp[cg]at V ⊢;omega) m z J (.inl rfl) (by simpa[cg]using hK)
 |row _ _ g o0 len cap z=>
  rw[z]at U;cases U;obtain⟨vs,T,olds,hg,rfl,hl,s,fW,dN,aw,av⟩:=aa;subst hl;have ac:K (.row e r) ⟨mf r st.s,il (jz r st.o) r (.row e (.list (olds++rows)) wr)⟩:=by simpa[cg]using hK
  by_cases X:olds.length+rows.length<=cap
  ·exact Eh O h hs I has R h1 h2 M L S hR p X m z J ac
  ·have au:olds.length*(bN tt e).length<=cap*(bN tt e).length:=dq _ s;obtain⟨e1,e2⟩:=dN.reads rfl yO;refine wj O h hs I has R h1 h2 M L S hb hR ⟨e1,.inr (.inl ⟨g,o0,cap,p,s,?_⟩),e2⟩ p s yO (by simp[cg]at V;omega) m z J (.inr ⟨g,o0,cap,rfl⟩) ac;intro j u hj;have dA:=cB hj;rw[e1]at dA;rw[cN dA,eN]at hj;rw[eE hg];exact hj
end
end
section
variable [Inhabited pY]
open Go
section
variable {P:Program}{tt:TypeId->Option TI}{N:Nat}{B:jH}{E:List RI}{Pp:fQ}{objs:List Ob}{w:World}{st:St}{a:Act}{eh:List FuncId×List FuncId}
variable {t:TypeId}{o:Oper}{K:PV->St->Prop}{Q:Exit->Act->World->Prop}{F ti A:TI}{m:Operand}{r cl G:Nat}{C:IntKind}{n:Int}{p p0:PV}{ok:Bool}{bs H:List Nat}{I:Array MapEntry}{cs:List PV}
def kX:CK->TypeDesc
 | .int k=>.int k
 | .str=>.string
 |_=>.bool
theorem E5{kt:TypeId}{kc:CK}(h:jl P kt F)(ha:F.agg=false)(hc:F.bP=[kc])(hs:gN kc=true):P.underlying kt=some (kX kc):=by obtain⟨i,z,d,f,_,hb,hz,b,_,c,e⟩:=h.info;cases kc<;>simp[gN]at hs<;>cases d<;>simp_all[kX]
theorem NC(a b:ByteArray):(a==b)=(a.data.toList==b.data.toList):=(Array.beq_toList a.data b.data).symm
theorem GD{kc:CK}(hs:gN kc=true){u v:Value}{d d':D}(hu:RD tt Pp kc u d)(b:RD tt Pp kc v d'):Instr.sameNow (kX kc) u v=some (nW d d'):=by cases hu<;>cases b<;>simp_all[gN,kX,Instr.sameNow,nW,NC]
theorem Eb{kc:CK}(hs:gN kc=true){u v:Value}{d d':D}(hu:RD tt Pp kc u d)(b:RD tt Pp kc v d')(h:nW d d'=true)(n:Nat):Instr.sameBits n v u=true:=by cases hu<;>cases b<;>simp_all[gN,Instr.sameBits,nW,NC]
theorem oT{kc:CK}(hs:gN kc=true){v:Value}{d:D}(h:KD tt Pp kc v d):RD tt Pp kc v d:=by
 rcases h with h|⟨rfl,_⟩
 ·exact h.2
 ·simp[gN]at hs
def rU(tt:TypeId->Option TI)(Pp:fQ)(kc:CK)(e:TypeId)(es:List MapEntry)(rows:List (List D)):Prop:=es.length=rows.length/\∀(i:Nat)(x:MapEntry)(row:List D),es[i]? =some x->rows[i]? =some row->uK tt Pp kc e x row
theorem rU.tail{kc:CK}{e:TypeId}{x:MapEntry}{es:List MapEntry}{row:List D}{rows:List (List D)}(h:rU tt Pp kc e (x::es) (row::rows)):uK tt Pp kc e x row/\rU tt Pp kc e es rows:=⟨h.2 0 x row rfl rfl,yU h.1,λi y r h1 h2=>h.2 (i+1) y r (yU h1) (yU h2)⟩
theorem zE{kc:CK}(hs:gN kc=true){e:TypeId}{k:Value}{kd:D}(hk:RD tt Pp kc k kd):∀(es:List MapEntry)(rows:List (List D))(n:Nat),rU tt Pp kc e es rows->
 (∃i x row,es[i]? =some x/\rows[i]? =some row/\eP kd row=true/\rows.any (eP kd)=true/\rows.find? (eP kd)=some row/\(∀vs,iT kd vs rows=rows.set i (kd::vs))/\rows.eraseP (eP kd)=rows.eraseIdx i/\Instr.findNow (kX kc) k es n=some (some (n+i,x.val)))\/
 (rows.any (eP kd)=false/\(∀vs,iT kd vs rows=rows++[kd::vs])/\rows.eraseP (eP kd)=rows/\Instr.findNow (kX kc) k es n=some none)
 |[],rows,n,h=>by have:=h.1;have:rows=[]:=cm (yU this.symm);subst this;exact .inr ⟨rfl,λ_=>rfl,rfl,rfl⟩
 |x::es,[],n,h=>by have:=h.1;simp at this
 |x::es,row::rows,n,h=>by
  obtain⟨⟨d,vd,rfl,hr,_⟩,g⟩:=h.tail;have f:=GD hs hk (oT hs hr);have b:eP kd (d::vd)=nW kd d:=rfl;cases c:nW kd d with
  |true=>refine .inl ⟨0,x,d::vd,rfl,rfl,by rw[b,c],by simp[b,c],by simp[b,c],λvs=>by simp[iT,b,c],by simp[b,c],?_⟩;simp[Instr.findNow,f,c]
  |false=>
   rcases zE hs hk es rows (n+1) g with⟨i,y,r,h1,h2,h3,h4,h5,h6,h8,h7⟩|⟨h1,h2,h8,h3⟩
   ·refine .inl ⟨i+1,y,r,yU h1,yU h2,h3,by simp[h4],by simp[b,c,h5],λvs=>by simp[iT,b,c,h6],by simp[b,c,h8],?_⟩;simp only[Instr.findNow,f,c];rw[h7,show n+1+i=n+(i+1)by omega]
   ·exact .inr ⟨by simp[b,c,h1],λvs=>by simp[iT,b,c,h2],by simp[b,c,h8],by simp[Instr.findNow,f,c,h3]⟩
theorem qZ{kt:TypeId}{kc:CK}(hs:gN kc=true)(hu:P.underlying kt=some (kX kc)){k:Value}{kd:D}(hk:RD tt Pp kc k kd)(b:Bool):(Instr.checkKey b 10000 kt k).run P w= .ok () w:=by
 have he:∀n,(Instr.checkKey b (n+1) kt k).run P w= .ok () w:=by intro n;cases hk<;>simp[gN]at hs<;>simp[Instr.checkKey,run_underlying hu,kX]
 exact he 9999
theorem zF{kt:TypeId}{kc:CK}(hu:P.underlying kt=some (kX kc)){k:Value}{es:List MapEntry}{r:Option (Nat×Value)}(h:Instr.findNow (kX kc) k es 0=some r):(Instr.findKey kt k es).run P w= .ok r w:=by simp[Instr.findKey,run_underlying hu,h]
structure WU (P:Program) (tt:TypeId->Option TI) (kt:TypeId) (kc:CK):Prop where
 find:∀{Pp:fQ}{e:TypeId}{k:Value}{kd:D}(w:World),KD tt Pp kc k kd->∀(es:List MapEntry)(rows:List (List D)),rU tt Pp kc e es rows->
  (∃i x row,es[i]? =some x/\rows[i]? =some row/\eP kd row=true/\rows.any (eP kd)=true/\rows.find? (eP kd)=some row/\(∀vs,iT kd vs rows=rows.set i (kd::vs))/\rows.eraseP (eP kd)=rows.eraseIdx i/\(Instr.findKey kt k es).run P w= .ok (some (i,x.val)) w)\/
  (rows.any (eP kd)=false/\(∀vs,iT kd vs rows=rows++[kd::vs])/\rows.eraseP (eP kd)=rows/\(Instr.findKey kt k es).run P w= .ok none w)
 check:∀{Pp:fQ}{k:Value}{kd:D}(w:World),KD tt Pp kc k kd->∀b,(Instr.checkKey b 10000 kt k).run P w= .ok () w
 bits:∀{Pp:fQ}{u v:Value}{d d':D},KD tt Pp kc u d->KD tt Pp kc v d'->nW d d'=true->Instr.sameBits 10000 v u=true
theorem sx{kt:TypeId}{kc:CK}{e:TypeId}{k:Value}{kd:D}(j:∀(v:Value)(d:D),KD tt Pp kc v d->(Op.equal kt k v).run P w= .ok (nW kd d) w):∀(es:List MapEntry)(rows:List (List D))(n:Nat),rU tt Pp kc e es rows->
 (∃i x row,es[i]? =some x/\rows[i]? =some row/\eP kd row=true/\rows.any (eP kd)=true/\rows.find? (eP kd)=some row/\(∀vs,iT kd vs rows=rows.set i (kd::vs))/\rows.eraseP (eP kd)=rows.eraseIdx i/\(Instr.findAsking kt k es n).run P w= .ok (some (n+i,x.val)) w)\/
 (rows.any (eP kd)=false/\(∀vs,iT kd vs rows=rows++[kd::vs])/\rows.eraseP (eP kd)=rows/\(Instr.findAsking kt k es n).run P w= .ok none w)
 |[],rows,n,h=>by have:=h.1;have:rows=[]:=cm (yU this.symm);subst this;exact .inr ⟨rfl,λ_=>rfl,rfl,by simp[Instr.findAsking]⟩
 |x::es,[],n,h=>by have:=h.1;simp at this
 |x::es,row::rows,n,h=>by
  obtain⟨⟨g,vd,rfl,hr,_⟩,l⟩:=h.tail;have f:=j _ _ hr;have b:eP kd (g::vd)=nW kd g:=rfl;cases c:nW kd g with
  |true=>rw[c]at f;refine .inl ⟨0,x,g::vd,rfl,rfl,by rw[b,c],by simp[b,c],by simp[b,c],λvs=>by simp[iT,b,c],by simp[b,c],?_⟩;simp[Instr.findAsking,f]
  |false=>
   rw[c]at f;rcases sx j es rows (n+1) l with⟨i,y,r,h1,h2,h3,h4,h5,h6,h8,h7⟩|⟨h1,h2,h8,h3⟩
   ·refine .inl ⟨i+1,y,r,yU h1,yU h2,h3,by simp[h4],by simp[b,c,h5],λvs=>by simp[iT,b,c,h6],by simp[b,c,h8],?_⟩;simp only[Instr.findAsking,Sem.run_bind,f,Result.andThen_ok,cA,if_false];rw[h7,show n+1+i=n+(i+1)by omega]
   ·exact .inr ⟨by simp[b,c,h1],λvs=>by simp[iT,b,c,h2],by simp[b,c,h8],by simp[Instr.findAsking,f,h3]⟩
theorem ub{kt:TypeId}{kc:CK}(h:jl P kt F)(hk:keyOf F=some kc):WU P tt kt kc:=by
 unfold keyOf at hk;split at hk
 ·rename_i c ha hc;cases hs:gN c with
  |false=>rw[hs]at hk;cases hk
  |true=>
   rw[hs]at hk;simp at hk;subst hk;have hu:=E5 h ha hc hs;refine⟨λ{Pp e k kd} w f es rows he=>?_,λ{Pp k kd} w f b=>qZ hs hu (oT hs f) b,λ{Pp u v d d'} h1 h2 h3=>Eb hs (oT hs h1) (oT hs h2) h3 10000⟩;rcases zE hs (oT hs f) es rows 0 he with⟨i,x,row,h1,h2,h3,h4,h5,h6,h8,h7⟩|⟨h1,h2,h8,h3⟩
   ·rw[dY]at h7;exact .inl ⟨i,x,row,h1,h2,h3,h4,h5,h6,h8,zF hu h7⟩
   ·exact .inr ⟨h1,h2,h8,zF hu h3⟩
 ·rename_i ha hc;cases hs:F.Db with
  |false=>rw[hs]at hk;cases hk
  |true=>
   rw[hs]at hk;simp at hk;subst hk;obtain⟨_,⟨fs,hu⟩,g⟩:=h.eqs hs;rw[hc]at g
   have l:∀(a b:ByteArray),∀(j:Nat) c u,[CK.str,CK.str][j]? =some c->[Value.string a,Value.string b][j]? =some u->isScalar c u:=by
    intro a b j c u h1 h2
    match j with
    |0=>simp at h1 h2;subst h1 h2;exact⟨_,rfl⟩
    |1=>simp at h1 h2;subst h1 h2;exact⟨_,rfl⟩
    |j+2=>simp at h1
   have ik:∀{Pp:fQ}{v:Value}{d:D},KD tt Pp .ik v d->∃a b:ByteArray,v= .agg ⟨[.string a,.string b]⟩/\d= .ptr [.str a.data.toList,.str b.data.toList]:=by
    intro Pp v d h;rcases h with h|h
    ·exact absurd rfl h.1
    ·exact h.2
   have eqs:∀(a b c d:ByteArray),GG [.string a,.string b] [.string c,.string d]=nW (.ptr [.str a.data.toList,.str b.data.toList]) (.ptr [.str c.data.toList,.str d.data.toList]):=by intro a b c d;simp only[GG,XI,nW];cases a.data.toList==c.data.toList<;>cases b.data.toList==d.data.toList<;>rfl
   refine⟨λ{Pp e k kd} w f es rows he=>?_,λ{Pp k kd} w f b=>?_,λ{Pp u v d d'} h1 h2 h3=>?_⟩
   ·obtain⟨a,b,rfl,rfl⟩:=ik f
    have q:(Instr.findKey kt (.agg ⟨[.string a,.string b]⟩) es).run P w=(Instr.findAsking kt (.agg ⟨[.string a,.string b]⟩) es).run P w:=by
     cases es with
     |nil=>simp[Instr.findKey,run_underlying hu,Instr.findNow,Instr.findAsking]
     |cons x es=>simp[Instr.findKey,run_underlying hu,Instr.findNow,Instr.sameNow]
    rw[q];have:=sx (P:=P) (w:=w) (kt:=kt) (k:=.agg ⟨[.string a,.string b]⟩) (kd:=.ptr [.str a.data.toList,.str b.data.toList]) (λv d s=>by obtain⟨c,d',rfl,rfl⟩:=ik s;rw[(g _ _ w rfl rfl (l a b) (l c d')).1,eqs]) es rows 0 he;simpa only[dY]using this
   ·obtain⟨a,b',rfl,rfl⟩:=ik f;exact(g _ _ w rfl rfl (l a b') (l a b')).2 b
   ·obtain⟨a,b,rfl,rfl⟩:=ik h1;obtain⟨c,d',rfl,rfl⟩:=ik h2;simp only[nW,bn,beq_iff_eq]at h3;have e1:a=c:=by cases a;cases c;congr 1;exact QI.1 h3.1
    have e2:b=d':=by cases b;cases d';congr 1;exact QI.1 h3.2
    subst e1 e2;simp[Instr.sameBits,NC]
 ·cases hk
theorem C3{c:CK}{v:Value}(h:jR c p=true)(d:VR tt E Pp v p):KD tt Pp c v (lN p):=by
 unfold jR at h;split at h
 ·split at h
  ·rename_i a b;cases d with
   |agg vs _ hl=>
    cases hl with
    |cons _ _ _ _ h1 h2=>cases h2 with|cons _ _ _ _ h3 h4=>cases h4;cases h1;cases h3;exact .inr ⟨rfl,_,_,rfl,rfl⟩
  ·cases h
 ·rename_i f
  have e:lN p=rY p:=by
   unfold lN;split
   ·rename_i a b;cases c<;>simp[s8]at h
   ·rfl
  rw[e];exact .inl ⟨f,Hm h d⟩
theorem G7(h:cK tt B E Pp st.o w)(hs:∀t,VR tt E Pp (a.tmps.getD t undef) (look st.s t)){e:TypeId}{f:Option Operand}(c:o.op= .makeMap t f)(b:f=none){kc:CK}
 (hK:K (.mp (bY st.o)) ⟨st.s,gh st.o [.map kc e (.list [])]⟩):o.wp P a w (dK tt B eh E Pp st.o w o a K) Q:=by
 subst b;rw[eU,cL]at hK;refine eH (v:=.map (some w.heap.size)) (w':=w.alloc (.map #[] 0)) ?_ ?_
 ·simp[execOp,c,Instr.makeMap]
 ·refine dK.mk (E':=E++[.map w.heap.size [] 0]) (Pp':=Pp) (.mp _ _ [] 0 (by rw[<- h.wr.len];simp)) (fB hs) ?_ hK (λ_ ad v g=>g.grow h.wr.len (λ_ _ h=>h) (λk hk=>RowKit.Below.heap_alloc w _ k hk));exact h.new rfl ⟨#[],[],ej w _,rfl,rfl,λi x row d=>yE d,rfl,oC,λx d=>yE d,km h.wr⟩
theorem Cg(k:ez P tt){e:TypeId}(b:tt e=some A){x:Value}{vd:List D}{g:Nat->D}{off:Nat}(hl:vd.length=(bN tt e).length)(q:x.cells.toList.length=vd.length)
 (iK:∀(j:Nat)(d:D)(ck:CK)(v:Value),vd[j]? =some d->(bN tt e)[j]? =some ck->x.cells.toList[j]? =some v->RD tt Pp ck v d)
 (i:∀ti,tt e=some ti->(ti.agg=true->∃cs,x= .agg cs)/\(ti.agg=false->x.cells= #[x])) (s:∀j d,vd[j]? =some d->g (off+j)=d):VR tt E Pp x (eX A (qT dS g off A.bP)):=by
 have f:bN tt e=A.bP:=by simp[bN,b]
 rw[f]at hl iK;have hc:=oW (tt:=tt) (E:=E) (Pp:=Pp) (g:=g) (off:=off) (cs:=A.bP) (vs:=x.cells.toList) yO (by intro j c v hc i;have u:=cB hc;have l:vd[j]? =some (vd[j]'yO):=bu yO;rw[s j _ l];exact iK j _ c v l hc i);have h:=mO (k _ _ b) (iQ dS g off A.bP) hc
 have:valOf A x.cells.toList=x:=by
  obtain⟨h1,h2⟩:=i A b;unfold valOf;cases ha:A.agg with
  |true=>obtain⟨cs,rfl⟩:=h1 ha;rfl
  |false=>rw[h2 ha];rfl
 rwa [this]at h
theorem Bs(f:ez P tt)(h:cK tt B E Pp st.o w)(hs:∀t,VR tt E Pp (a.tmps.getD t undef) (look st.s t)){k:Operand}(L:o.op= .lookup t m k ok)(ac:tt t=some ti)(hm:isMap ti=true)
 (U:tt (ti.ar-1)=some F) (g:tt ti.el=some A) {kc:CK} (W:keyOf F=some kc) (ec:jR kc (fG tt st.s (ti.ar-1) k)=true) (hx:ev st.s m= .mp r) {d:D} (X:eG st.o r= .map kc ti.el d)
 (ai:dS.nh d (lN (fG tt st.s (ti.ar-1) k))=true->K (pW ok (eX A (ir dS d (lN (fG tt st.s (ti.ar-1) k)) 0 A.bP)) true) st)
 (O:dS.nh d (lN (fG tt st.s (ti.ar-1) k))=false->∀{E:List RI}{Pp:fQ}{v:Value},VR tt E Pp v (eX A (A.bP.map gT))->VR tt E Pp v p0) (Z:dS.nh d (lN (fG tt st.s (ti.ar-1) k))=false->K (pW ok p0 false) st):o.wp P a w (dK tt B eh E Pp st.o w o a K) Q:=by
 obtain⟨kt,e,hu,_,Y,ao⟩:=(f _ _ ac).map hm;subst Y;have aa:ti.ar-1=kt:=yO;simp only[aa]at*;have R:=ub (tt:=tt) (f _ _ U) W;have J:=C3 ec (iL hs kt k);generalize ap:lN (fG tt st.s kt k)=kd at*;have q:=fa hs m;rw[hx]at q;have ae:=di X rfl;obtain⟨ri,T,af⟩:=h.wr.ob r _ ae rfl;generalize y:a.eval m=vm at q;cases q with
 |mp _ b bs cl hE=>
  rw[hE]at T;cases T;obtain⟨es,rows,hb,rfl,hl,l,ag,gx,dA,an⟩:=af;have S:=R.check w J es.isEmpty;rcases R.find w J es.toList rows ⟨hl,l⟩with⟨i,x,row,h1,h2,h3,h4,h5,_,_,s⟩|⟨h1,_,_,s⟩
  ·obtain⟨av,vd,rfl,e2,e3,e4,e5,e6⟩:=l i x row h1 h2;have c:VR tt E Pp x.val (eX A (ir dS (.list rows) kd 0 A.bP)):=by refine Cg f g e3 e4 e5 e6 ?_;intro j dd hj;simp[dS,cg,h5,cx,hj]
   refine eH (v:=if ok then .tuple #[x.val,.bool true]else x.val) (w':=w) ?_ ?_
   ·simp only[execOp,L,y,Instr.lookup,run_underlying hu,Sem.run_bind,Result.andThen_ok,getObj,Sem.run,hb,Sem.run_pure,S,s]
   ·refine dK.mk (s':=st.s) (o':=st.o) (pv:=pW ok (eX A (ir dS (.list rows) kd 0 A.bP)) true) ?_ hs h (ai (by simpa[dS,cg]using h4)) (λ_ ad v hv=>hv);cases ok with
    |true=>exact .tup _ _ (.cons _ _ _ _ c (.cons _ _ _ _ (.bl _) .nil))
    |false=>exact c
  ·obtain⟨_,_,⟨z,hz,M⟩,_⟩:=(f _ _ g).run w;obtain⟨i0,z0,d0,ak,_,_,V,al,u,_⟩:=(f _ _ g).info
   have aj:z=z0:=by
    have:(zeroValue ti.el).run P w= .ok z0 w:=by simp[zeroValue,typeInfo,ak,V]
    rw[hz]at this;cases this;rfl
   subst aj
   have c:VR tt E Pp z (eX A (A.bP.map gT)):=by
    have ab:=mO (tt:=tt) (f _ _ g) (E:=E) (Pp:=Pp) yS (qk A.bP)
    have:valOf A (A.bP.map zeroV)=z:=by
     unfold valOf;cases ha:A.agg with
     |true=>obtain⟨cs,rfl⟩:=u.1 ha;rw[<- M];rfl
     |false=>rw[<- M,u.2 ha];rfl
    rwa [this]at ab
   refine eH (v:=if ok then .tuple #[z,.bool false]else z) (w':=w) ?_ ?_
   ·simp only[execOp,L,y,Instr.lookup,run_underlying hu,Sem.run_bind,Result.andThen_ok,getObj,Sem.run,hb,Sem.run_pure,S,s,hz]
   ·refine dK.mk (s':=st.s) (o':=st.o) (pv:=pW ok p0 false) ?_ hs h (Z (by simpa[dS,cg]using h1)) (λ_ ad v hv=>hv);cases ok with
    |true=>exact .tup _ _ (.cons _ _ _ _ (O (by simpa[dS,cg]using h1) c) (.cons _ _ _ _ (.bl _) .nil))
    |false=>exact O (by simpa[dS,cg]using h1) c
theorem zc(sY:ez P tt)(h:cK tt B E Pp st.o w)(hs:∀t,VR tt E Pp (a.tmps.getD t undef) (look st.s t)){k:Operand}(Ys:o.op= .lookup t m k ok)(hti:tt t=some ti)(hm:isMap ti=true)
 (hki:tt (ti.ar-1)=some F) (XT:tt ti.el=some A) {kc:CK} (hkc:keyOf F=some kc) (ec:jR kc (fG tt st.s (ti.ar-1) k)=true) {d:D} (hx:ev st.s m= .dmp ti.el d) (Yq:kc= .str)
 (hK1:dS.nh d (lN (fG tt st.s (ti.ar-1) k))=true->K (pW ok (eX A (ir dS d (lN (fG tt st.s (ti.ar-1) k)) 0 A.bP)) true) st)
 (hp0:dS.nh d (lN (fG tt st.s (ti.ar-1) k))=false->∀{E:List RI}{Pp:fQ}{v:Value},VR tt E Pp v (eX A (A.bP.map gT))->VR tt E Pp v p0) (hK2:dS.nh d (lN (fG tt st.s (ti.ar-1) k))=false->K (pW ok p0 false) st):o.wp P a w (dK tt B eh E Pp st.o w o a K) Q:=by
 obtain⟨kt,e,hu,_,hel,har⟩:=(sY _ _ hti).map hm;subst hel;have hkt:ti.ar-1=kt:=yO;simp only[hkt]at*;have XS:=ub (tt:=tt) (sY _ _ hki) hkc;have XR:=C3 ec (iL hs kt k);generalize hkd:lN (fG tt st.s kt k)=kd at*;have Yu:=fa hs m;rw[hx]at Yu;generalize Yv:a.eval m=vm at Yu;subst Yq
 have Q7:∀(XQ:dS.nh d kd=false)(Q8:∀ z,(zeroValue ti.el).run P w= .ok z w->(execOp a.eval o).run P w= .ok (.value (if ok then .tuple #[z,.bool false]else z)) w),o.wp P a w (dK tt B eh E Pp st.o w o a K) Q:=by
  intro XQ Q8;obtain⟨_,_,⟨z,hz,hzc⟩,_⟩:=(sY _ _ XT).run w;obtain⟨i0,z0,d0,hi0,_,_,hz0,ac3,hag,_⟩:=(sY _ _ XT).info
  have hzz:z=z0:=by
   have:(zeroValue ti.el).run P w= .ok z0 w:=by simp[zeroValue,typeInfo,hi0,hz0]
   rw[hz]at this;cases this;rfl
  subst hzz
  have MU:VR tt E Pp z (eX A (A.bP.map gT)):=by
   have hvo:=mO (tt:=tt) (sY _ _ XT) (E:=E) (Pp:=Pp) yS (qk A.bP)
   have:valOf A (A.bP.map zeroV)=z:=by
    unfold valOf;cases ha:A.agg with
    |true=>obtain⟨cs,rfl⟩:=hag.1 ha;rw[<- hzc];rfl
    |false=>rw[<- hzc,hag.2 ha];rfl
   rwa [this]at hvo
  refine eH (v:=if ok then .tuple #[z,.bool false]else z) (w':=w) (Q8 z hz) ?_;refine dK.mk (s':=st.s) (o':=st.o) (pv:=pW ok p0 false) ?_ hs h (hK2 XQ) (λ_ ad v hv=>hv);cases ok with
  |true=>exact .tup _ _ (.cons _ _ _ _ (hp0 XQ MU) (.cons _ _ _ _ (.bl _) .nil))
  |false=>exact hp0 XQ MU
 have iK:∃t',RD tt Pp (.map t' ti.el) vm d:=by
  cases Yu with
  |dmp t' _ _ _ hr=>exact⟨t',hr⟩
 obtain⟨t',iK⟩:=iK;rcases iK.rH with⟨rfl,rfl⟩|⟨b,es,clock,rows,rfl,rfl,m⟩
 ·have XU:=XS.check w XR true;rcases XS.find (e:=0) w XR [] [] ⟨rfl,λi x row h1=>yE h1⟩with⟨i,x,row,h1,_⟩|⟨_,_,_,UO⟩
  ·simp at h1
  ·refine Q7 (by simp[dS,cg]) (λz hz=>?_);simp only[execOp,Ys,Yv,Instr.lookup,run_underlying hu,Sem.run_bind,Result.andThen_ok,Sem.run,Sem.run_pure,show (#[]:Array MapEntry).isEmpty=true from rfl,XU,UO,hz]
 ·have hb:=CG (h.wr.pi _ _ m.hV);have hl:=m.len;have UP:=m.Rf;have XU:=XS.check w XR es.isEmpty;rcases XS.find w XR es.toList rows ⟨hl,UP⟩with⟨i,x,row,h1,h2,h3,h4,h5,_,_,UO⟩|⟨h1,_,_,UO⟩
  ·obtain⟨kd',vd,rfl,e2,e3,e4,e5,e6⟩:=UP i x row h1 h2;have MU:VR tt E Pp x.val (eX A (ir dS (.list rows) kd 0 A.bP)):=by refine Cg sY XT e3 e4 e5 e6 ?_;intro j dd hj;simp[dS,cg,h5,cx,hj]
   refine eH (v:=if ok then .tuple #[x.val,.bool true]else x.val) (w':=w) ?_ ?_
   ·simp only[execOp,Ys,Yv,Instr.lookup,run_underlying hu,Sem.run_bind,Result.andThen_ok,getObj,Sem.run,hb,Sem.run_pure,XU,UO]
   ·refine dK.mk (s':=st.s) (o':=st.o) (pv:=pW ok (eX A (ir dS (.list rows) kd 0 A.bP)) true) ?_ hs h (hK1 (by simpa[dS,cg]using h4)) (λ_ ad v hv=>hv);cases ok with
    |true=>exact .tup _ _ (.cons _ _ _ _ MU (.cons _ _ _ _ (.bl _) .nil))
    |false=>exact MU
  ·refine Q7 (by simpa[dS,cg]using h1) (λz hz=>?_);simp only[execOp,Ys,Yv,Instr.lookup,run_underlying hu,Sem.run_bind,Result.andThen_ok,getObj,Sem.run,hb,Sem.run_pure,XU,UO,hz]
theorem BI(m:Nat):∀(l:List Ob)(i:Nat),(nw m l)[i]? =(l[i]?).map λo=>match o with| .iter m' s=>bif nb m' m then .dead else .iter m' s|o=>o
 |[],i=>by simp[nw]
 |o::l,i=>by cases o<;>cases i<;>simp[nw,BI m l]
theorem pF(m:Nat):∀(l:List Ob),(nw m l).length=l.length
 |[]=>rfl
 |o::l=>by cases o<;>simp[nw,pF m l]
theorem cK.EI{b:Nat}{o o':Ob}(h:cK tt B E Pp objs w)(M:objs[r]? =some o)(g:o.live=true)(u:N4 Pp b)(L:E[r]? =some (.map b bs cl))
 (hb:∃es,w.heap[b]? =some (.map es cl)) (z:OR tt (E.set r (.map b H G)) Pp { w with heap:=w.heap.setIfInBounds b (.map I G) } (.map b H G) o'):
 cK tt B (E.set r (.map b H G)) Pp ((nw r objs).set r o') { w with heap:=w.heap.setIfInBounds b (.map I G) }:=by
 have hl:=h.wr.len;have hr:=cB M;obtain⟨es,hb⟩:=hb
 have S:b<w.heap.size:=by
  rcases bR b w.heap.size with y|y
  ·exact y
  ·simp[cR y]at hb
 have dJ:pM E (E.set r (.map b H G)):=by
  intro i x q;by_cases O:i=r
  ·subst O;rw[L]at q;cases q;exact .inr ⟨b,bs,cl,H,G,rfl,by rw[bT yO]⟩
  ·exact .inl (by rw[bQ (dZ O)];exact q)
 refine h.An M g L yS (λj J=>bQ (dZ J)) (by rw[bT yO]) (.inl dJ) (by simp[pF]) ?_ (by rw[bT (by rw[pF];exact hr)]) (λ_=>z) rfl rfl rfl yS ?_ (λ_ _ h=>h) (λ_ _ h=>.inl h) (λb' D=>.inl D) ?_
 ·intro j V J c g;rw[bQ (dZ J),BI]at c;cases q:objs[j]? with
  |none=>rw[q]at c;simp at c
  |some oj=>
   rw[q]at c;simp only[cv,cw]at c;cases oj with
   |box cs=>
    simp only at c;subst c;refine⟨_,rfl,rfl,λrj f d=>?_⟩;cases rj<;>try exact d.elim
    ·obtain⟨vs,T,h1,h2,h3⟩:=d;exact⟨vs,T,h1,(VR.gq dJ (λ_ _ h=>h)).2 h2,h3⟩
    ·exact d.imp λ_ a=>⟨a.1,(VR.gq dJ (λ_ _ h=>h)).2 a.2.1,a.2.2⟩
   |row=>simp only at c;subst c;exact⟨_,rfl,rfl,λrj f d=>by cases rj<;>exact d⟩
   |map=>simp only at c;subst c;exact⟨_,rfl,rfl,λrj f d=>by cases rj<;>exact d⟩
   |iter m s=>
    simp only at c;cases hm:nb m r with
    |true=>rw[hm]at c;simp at c;subst c;simp[Ob.live]at g
    |false=>
     rw[hm]at c;simp at c;subst c;refine⟨_,rfl,rfl,λrj f d=>?_⟩;cases rj<;>try exact d.elim
     obtain⟨W,borns,clock,U,h1,h2⟩:=d;refine⟨W,borns,clock,U,?_,h2⟩;rw[bQ]
     ·exact h1
     ·rintro rfl;rw[jQ]at hm;cases hm
   |loop n Y c1 c2 s X=>
    simp only at c;subst c;refine⟨_,rfl,rfl,λrj f d=>?_⟩;cases rj<;>try exact d.elim
    obtain⟨r',h1,h2,h3⟩:=d;exact⟨r',h1,h2,λt=>(VR.gq dJ (λ_ _ h=>h)).1 (h3 t)⟩
   |diter=>simp only at c;subst c;exact⟨_,rfl,rfl,λrj f d=>by cases rj<;>exact d⟩
   |dead=>simp only at c;subst c;simp[Ob.live]at g
 ·intro k _ l;have:k≠b:=λe=>l (by rw[e];rfl);simp[fT (dZ this)]
 ·intro ad v R;have hc:=h.wr.pi ad v R;have l:ad.block≠b:=u ad v R;rw[<- hc];refine ia ?_;simp[fT (dZ l)]
theorem cK.xo{b:Nat}{kc:CK}{e:TypeId}{d d':D}(h:cK tt B E Pp objs w)(i:objs[r]? =some (.map kc e d))(g:E[r]? =some (.map b bs cl))
 (hb:∃es,w.heap[b]? =some (.map es cl)) (f:OR tt (E.set r (.map b H G)) Pp { w with heap:=w.heap.setIfInBounds b (.map I G) } (.map b H G) (.map kc e d')):
 cK tt B (E.set r (.map b H G)) Pp ((nw r objs).set r (.map kc e d')) { w with heap:=w.heap.setIfInBounds b (.map I G) }:=by
 refine h.EI i rfl ?_ g hb f;obtain⟨ri,c,h2⟩:=h.wr.ob r _ i rfl;rw[g]at c;cases c;obtain⟨_,_,_,_,_,_,_,_,_,h3⟩:=h2;exact h3
theorem NO{b:Bool}{v:Value}(h:zZ b p=true)(g:VR tt E Pp v p)(i:gF ib (flat p)=true):(b=true->∃cs,v= .agg cs)/\(b=false->v.cells= #[v]):=by
 cases b with
 |true=>
  refine⟨λ_=>?_,λh=>yC h⟩;cases g<;>simp[zZ]at h
  exact⟨_,rfl⟩
 |false=>
  refine⟨λh=>(yC h),λ_=>?_⟩;cases g with
  |lst e v d hr=>cases hr<;>rfl
  |dptr t v d hr=>cases hr<;>rfl
  |dmp t e v d hr=>rcases hr.rH with⟨rfl,_⟩|⟨_,_,_,_,rfl,_⟩<;>rfl
  |undef=>simp[zZ]at h
  |agg=>simp[zZ]at h
  |cu _ f _ _ hu _=>
   rcases bR f kB with hb|hb
   ·rw[hu.1 hb];rfl
   ·rw[hu.2 hb];rfl
  |fM _ _ _ _ off _ _ _ _ _ _ hu=>
   by_cases c:off=dC
   ·obtain⟨⟨j,e,_⟩,_⟩:=hu.2 c;rw[e];rfl
   ·rw[(hu.1 c).1];rfl
  |du _ _ _ off _ _ hu _ _=>
   by_cases c:off=dC
   ·rw[hu.2 c];rfl
   ·rw[hu.1 c];rfl
  |box _ _ off _ _ hu=>
   by_cases c:off<=dC
   ·rw[hu.1 c];rfl
   ·rw[hu.2 (off-(dC+1)) yO];rfl
  |_=>rfl
theorem Kc(ak:ez P tt)(h:cK tt B E Pp st.o w)(hs:∀t,VR tt E Pp (a.tmps.getD t undef) (look st.s t)){k x:Operand}(f:o.op= .mapUpdate t m k x\/o.op= .insert t m k x)(aD:tt t=some ti)(hm:isMap ti=true)
 (aq:tt (ti.ar-1)=some F) (am:tt ti.el=some A) {kc:CK} (av:keyOf F=some kc) (ec:jR kc (fG tt st.s (ti.ar-1) k)=true) (hx:ev st.s m= .mp r) {d:D} (ay:eG st.o r= .map kc ti.el d)
 (aI:0<A.bP.length) (aj:iN A.bP (cQ (nN st.o 8) (flat (fG tt st.s ti.el x)))=true) (ai:gF ib (flat (fG tt st.s ti.el x))=true) (an:zZ A.agg (fG tt st.s ti.el x)=true) (ae:ew (eT (ids st.o 8) (flat (fG tt st.s ti.el x)))=true)
 (hK:K .undef ⟨st.s,il (nw r st.o) r (.map kc ti.el (dS.lM d (lN (fG tt st.s (ti.ar-1) k)) (cQ rY (cQ (nN st.o 8) (flat (fG tt st.s ti.el x))))))⟩):o.wp P a w (dK tt B eh E Pp st.o w o a K) Q:=by
 obtain⟨kt,e,hu,_,az,aM⟩:=(ak _ _ aD).map hm;subst az;have aB:ti.ar-1=kt:=yO;simp only[aB]at*;have Z:=ub (tt:=tt) (ak _ _ aq) av;have R:=C3 ec (iL hs kt k);generalize aN:lN (fG tt st.s kt k)=kd at*;have ah:=iL hs ti.el x;have W:=NO an ah ai;generalize al:flat (fG tt st.s ti.el x)=ps at*
 have V:ps.length=A.bP.length:=by
  have:∀(cs:List CK)(qs:List PV),iN cs qs=true->qs.length=cs.length:=by
   intro cs;induction cs with
   |nil=>intro qs h;cases qs<;>simp_all[iN]
   |cons c cs ih=>intro qs h;cases qs<;>simp_all[iN]
  have:=this _ _ aj
  rwa [fX]at this
 have u:eM tt E Pp (a.eval x).cells.toList ps:=by rw[<- al];exact nB ah (by rw[al];intro h0;rw[h0]at V;simp at V;omega)
 obtain⟨_,iK⟩:=CZ aj (Fm h.wr u ae);generalize ar:cQ rY (cQ (nN st.o 8) ps)=ds at*;have aF:ds.length=A.bP.length:=by rw[<- ar,fX,fX];exact V
 have oV:=u.length;have T:bN tt ti.el=A.bP:=by simp[bN,am]
 have q:∀y:MapEntry,y.key=a.eval k->y.val=a.eval x->uK tt Pp kc ti.el y (kd::ds):=by
  intro y h1 h2;refine⟨kd,ds,rfl,by rw[h1];exact R,by rw[T];exact aF,by rw[h2];omega,?_,?_⟩
  ·intro j dd ck v hj O hv;rw[h2]at hv;rw[T]at O;exact iK j ck v dd O hv hj
  ·intro aL U;rw[am]at U;cases U;rw[h2];exact W
 have X:=fa hs m;rw[hx]at X;have Y:=di ay rfl;obtain⟨ri,ao,aE⟩:=h.wr.ob r _ Y rfl;have g:execOp a.eval o=(do Instr.mapUpdate t (a.eval m) (a.eval k) (a.eval x);pure .skip:Sem Next):=by rcases f with f|f<;>simp[execOp,f]
 have s:gi eh o.op=false:=by rcases f with f|f<;>rw[f]<;>rfl
 generalize au:a.eval m=vm at X;rw[au]at g;cases X with
 |mp _ b bs cl hE=>
  rw[hE]at ao;cases ao;obtain⟨es,rows,hb,rfl,hl,l,M,gx,dA,ad⟩:=aE;have O:=Z.check w R false;rw[gw]at hK
  have ap:b<w.heap.size:=by
   rcases bR b w.heap.size with h'|h'
   ·exact h'
   ·simp[cR h']at hb
  have S:∀(x:Obj),(w.heap.setIfInBounds b x)[b]? =some x:=λx=>eb ap
  have fJ:∀H G,∀t,VR tt (E.set r (.map b H G)) Pp (a.tmps.getD t undef) (look st.s t):=by
   intro H G t;refine(VR.gq (λi y hy=>?_) (λ_ _ h=>h)).1 (hs t);by_cases hi:i=r
   ·subst hi;rw[hE]at hy;cases hy;exact .inr ⟨b,bs,cl,H,G,rfl,by rw[bT (cB hE)]⟩
   ·exact .inl (by rw[bQ (dZ hi)];exact hy)
  rcases Z.find w R es.toList rows ⟨hl,l⟩with⟨i,y,row,h1,h2,h3,h4,h5,h6,_,aa⟩|⟨h1,h2,_,aa⟩
  ·obtain⟨aQ,vd,rfl,e2,_⟩:=l i y row h1 h2;have aA:=Z.bits R e2 (by simpa[eP]using h3);have ax:es[i]? =some y:=yU h1;refine xC (w':={ w with heap:=w.heap.setIfInBounds b (.map (es.modify i λe=>{ e with key:=a.eval k,val:=a.eval x }) cl) }) ?_ ?_
   ·rw[g];simp[Instr.mapUpdate,run_underlying hu,getObj,setObj,Sem.run,hb,O,aa,ax,Instr.keyThatStays,aA]
   ·refine dK.mk (.undef _) (fJ bs cl) ?_ hK (λhq=>by rw[s]at hq;cases hq);refine h.xo Y hE ⟨_,hb⟩ ?_;refine⟨_,rows.set i (kd::ds),S _,by simp[cg,h6],by simp[hl],?_,?_,gx,dA,ad⟩
    ·intro j z rw hz dN;simp only[K7,tm]at hz;by_cases J:i=j
     ·subst J;rw[h1]at hz;rw[bT (cB h2)]at dN;simp at hz dN;subst dN;exact q z (by rw[<- hz]) (by rw[<- hz])
     ·rw[bQ J]at dN;simp only[J,if_false]at hz;exact l j z rw (yU hz) dN
    ·rw[<- M];apply xw;intro j;simp only[K7,cC,tm];by_cases J:i=j
     ·subst J;simp[h1]
     ·simp[J]
  ·refine xC (w':={ w with heap:=w.heap.setIfInBounds b (.map (es.push { key:=a.eval k,val:=a.eval x,born:=cl }) (cl+1)) }) ?_ ?_
   ·rw[g];simp[Instr.mapUpdate,run_underlying hu,getObj,setObj,Sem.run,hb,O,aa]
   ·refine dK.mk (.undef _) (fJ (bs++[cl]) (cl+1)) ?_ hK (λhq=>by rw[s]at hq;cases hq);refine h.xo Y hE ⟨_,hb⟩ ?_;refine⟨_,rows++[kd::ds],S _,by simp[cg,h2],by simp[hl],?_,by simp[M],?_,?_,ad⟩
    ·intro j z rw hz dN;simp only[Ou]at hz;rcases jw hz with⟨aH,L⟩|⟨j',rfl,L⟩
     ·rw[bO yO]at dN;exact l j z rw L dN
     ·rw[hl,cd yO]at dN;cases j' with
      |zero=>simp at L dN;subst dN;exact q z (by rw[<- L]) (by rw[<- L])
      |succ j'=>simp at L
    ·rw[dk];refine⟨gx,yS,?_⟩;intro a ha b hb;simp at hb;subst hb;have:=dA a ha;omega
    ·intro x hx;simp at hx;rcases hx with hx|rfl
     ·have:=dA x hx;omega
     ·omega
theorem EL(h:cK tt B E Pp st.o w)(hs:∀t,VR tt E Pp (a.tmps.getD t undef) (look st.s t))(b:o.op= .makeMap t none)
 (hK:K (.mp (bY st.o)) ⟨st.s,gh st.o [.box []]⟩):o.wp P a w (dK tt B eh E Pp st.o w o a K) Q:=by
 rw[eU,cL]at hK;refine eH (v:=.map (some w.heap.size)) (w':=w.alloc (.map #[] 0)) ?_ ?_
 ·simp[execOp,b,Instr.makeMap]
 ·refine dK.mk (E':=E++[.map w.heap.size [] 0]) (Pp':=Pp) (.mp _ _ [] 0 (by rw[<- h.wr.len];simp)) (fB hs) ?_ hK (λ_ ad v c=>c.grow h.wr.len (λ_ _ h=>h) (λk hk=>RowKit.Below.heap_alloc w _ k hk));exact h.new rfl ⟨#[],ej w _,.nil,rfl,oC,λx d=>yE d,km h.wr⟩
theorem Bj:∀(es:List MapEntry)(cs:List PV)(j:Nat),eM tt E Pp (Sj es) cs->vw C n cs=true->Instr.findNow (.int C) (.int C n) es j=some none
 |[],_,_,_,_=>rfl
 |x::es,cs,j,h,b=>by
  cases h with
  |cons _ q _ ps h1 h2=>
   cases h2 with
   |cons _ i _ f h3 h4=>
    unfold vw at b;split at b
    ·rename_i e;cases e
    ·rename_i k' m _ cs e;cases e;split at b
     ·rename_i hk c;have d:=zn hk;subst d;generalize g:x.key=y at h1;cases h1;have hb:(n==m)=false:=by simpa using of_decide_eq_false c
      simp only[Instr.findNow,g,Instr.sameNow,if_true,hb];exact Bj es _ _ h4 b
     ·cases b
    ·cases b
theorem BC:∀(es:List MapEntry)(cs:List PV)(j:Nat),eM tt E Pp (Sj es) cs->∀o,getKey C n cs=some o->
 (match o with|none=>Instr.findNow (.int C) (.int C n) es j=some none|some p=>∃i v,Instr.findNow (.int C) (.int C n) es j=some (some (i,v))/\VR tt E Pp v p)
 |[],_,_,h,o,b=>by cases h;simp[getKey]at b;subst b;rfl
 |x::es,cs,j,h,o,b=>by
  cases h with
  |cons _ q _ ps h1 h2=>
   cases h2 with
   |cons _ l _ k h3 h4=>
    unfold getKey at b;split at b
    ·rename_i e;cases e
    ·rename_i k' m _ cs e;cases e;split at b
     ·rename_i hk c;have d:=zn hk;subst d;generalize g:x.key=y at h1;cases h1;have f:=of_decide_eq_true c;cases b;exact⟨j,x.val,by simp[Instr.findNow,g,Instr.sameNow,f],h3⟩
     ·rename_i hk c;have d:=zn hk;subst d;generalize g:x.key=y at h1;cases h1;have hb:(n==m)=false:=by simpa using of_decide_eq_false c
      simp only[Instr.findNow,g,Instr.sameNow,if_true,hb];exact BC es _ _ h4 o b
     ·cases b
    ·cases b
theorem keyOf_int(h:jl P t F)(hk:keyOf F=some (.int C)):P.underlying t=some (.int C):=by
 unfold keyOf at hk;split at hk
 ·rename_i c ha hc;cases hs:gN c with
  |false=>rw[hs]at hk;cases hk
  |true=>rw[hs]at hk;simp at hk;subst hk;exact E5 h ha hc hs
 ·cases hs:F.Db with
  |false=>rw[hs]at hk;cases hk
  |true=>rw[hs]at hk;cases hk
 ·cases hk
theorem G6(M:ez P tt)(h:cK tt B E Pp st.o w)(hs:∀t,VR tt E Pp (a.tmps.getD t undef) (look st.s t)){k x:Operand}(c:o.op= .mapUpdate t m k x\/o.op= .insert t m k x)(ad:tt t=some ti)(hm:isMap ti=true)
 (T:tt (ti.ar-1)=some F) (V:keyOf F=some (.int C)) (hn:fG tt st.s (ti.ar-1) k= .int C n) (u:ev st.s m= .mp r) (X:eG st.o r= .box cs) (D:vw C n cs=true)
 (hK:K .undef ⟨st.s,il (nw r st.o) r (.box (gh cs [.int C n,fG tt st.s ti.el x]))⟩):o.wp P a w (dK tt B eh E Pp st.o w o a K) Q:=by
 obtain⟨kt,e,hu,_,Y,aj⟩:=(M _ _ ad).map hm;subst Y;have aa:ti.ar-1=kt:=yO;simp only[aa]at*;have z:=keyOf_int (M _ _ T) V;have q:=iL hs kt k;rw[hn]at q;have ab:=iL hs ti.el x;have j:=fa hs m;rw[u]at j;have J:=di X rfl;obtain⟨ri,O,ae⟩:=h.wr.ob r _ J rfl;have d:execOp a.eval o=(do Instr.mapUpdate t (a.eval m) (a.eval k) (a.eval x);pure .skip:Sem Next):=by rcases c with c|c<;>simp[execOp,c]
 have f:gi eh o.op=false:=by rcases c with c|c<;>rw[c]<;>rfl
 generalize U:a.eval m=vm at j;generalize Z:a.eval k=vk at q;rw[U,Z]at d;cases q;cases j with
 |mp _ b bs cl R=>
  rw[R]at O;cases O;obtain⟨es,hb,g,s,gx,dA,v⟩:=ae;have ag:(Instr.checkKey false 10000 kt (.int C n)).run P w= .ok () w:=qZ (kc:=.int C) (tt:=tt) (Pp:=Pp) (kd:=.int n) rfl z (by constructor) _;have af:(Instr.findKey kt (.int C n) es.toList).run P w= .ok none w:=by simp[Instr.findKey,run_underlying z,Bj es.toList cs 0 g D]
  rw[gw]at hK
  have S:b<w.heap.size:=by
   rcases bR b w.heap.size with W|W
   ·exact W
   ·simp[cR W]at hb
  have L:∀(x:Obj),(w.heap.setIfInBounds b x)[b]? =some x:=λx=>eb S
  have dJ:pM E (E.set r (.map b (bs++[cl]) (cl+1))):=by
   intro i y hy;by_cases hi:i=r
   ·subst hi;rw[R]at hy;cases hy;exact .inr ⟨b,bs,cl,_,_,rfl,by rw[bT (cB R)]⟩
   ·exact .inl (by rw[bQ (dZ hi)];exact hy)
  refine xC (w':={ w with heap:=w.heap.setIfInBounds b (.map (es.push { key:=.int C n,val:=a.eval x,born:=cl }) (cl+1)) }) ?_ ?_
  ·rw[d];simp[Instr.mapUpdate,run_underlying hu,getObj,setObj,Sem.run,hb,ag,af]
  ·refine dK.mk (.undef _) (λt=>(VR.gq dJ (λ_ _ h=>h)).1 (hs t)) ?_ hK (λhq=>by rw[f]at hq;cases hq);refine h.EI J rfl v R ⟨_,hb⟩ ?_;refine⟨_,L _,?_,by simp[s],?_,?_,v⟩
   ·have e1:∀l:List MapEntry,Sj (l++[{ key:=.int C n,val:=a.eval x,born:=cl }])=Sj l++[.int C n,a.eval x]:=by
     intro l;induction l with
     |nil=>rfl
     |cons y l ih=>simp[Sj,ih]
    rw[Ou,e1,eU];exact eM.append ((VR.gq dJ (λ_ _ h=>h)).2 g) (.cons _ _ _ _ (.int _ _) (.cons _ _ _ _ ((VR.gq dJ (λ_ _ h=>h)).1 ab) .nil))
   ·rw[dk];refine⟨gx,yS,?_⟩;intro a ha b hb;simp at hb;subst hb;have:=dA a ha;omega
   ·intro x u;simp at u;rcases u with u|rfl
    ·have:=dA x u;omega
    ·omega
theorem zb(c:ez P tt)(h:cK tt B E Pp st.o w)(hs:∀t,VR tt E Pp (a.tmps.getD t undef) (look st.s t)){k:Operand}(u:o.op= .lookup t m k false)(Y:tt t=some ti)(hm:isMap ti=true)
 (O:tt (ti.ar-1)=some F) (J:tt ti.el=some A) (U:keyOf F=some (.int C)) (hn:fG tt st.s (ti.ar-1) k= .int C n) (hx:ev st.s m= .mp r) (V:eG st.o r= .box cs) {g:Option PV} (hg:getKey C n cs=some g)
 (hK:match g with|some p=>K p st|none=>zp A=true/\K .nilf st):o.wp P a w (dK tt B eh E Pp st.o w o a K) Q:=by
 obtain⟨kt,e,hu,_,W,ak⟩:=(c _ _ Y).map hm;subst W;have X:ti.ar-1=kt:=yO;simp only[X]at*;have f:=keyOf_int (c _ _ O) U;have j:=iL hs kt k;rw[hn]at j;have d:=fa hs m;rw[hx]at d;have Z:=di V rfl;obtain⟨ri,M,aa⟩:=h.wr.ob r _ Z rfl;generalize s:a.eval m=vm at d;generalize x:a.eval k=vk at j;cases j;cases d with
 |mp _ b bs cl hE=>
  rw[hE]at M;cases M;obtain⟨es,hb,q,ab,gx,dA,ai⟩:=aa;have L:(Instr.checkKey es.isEmpty 10000 kt (.int C n)).run P w= .ok () w:=qZ (kc:=.int C) (tt:=tt) (Pp:=Pp) (kd:=.int n) rfl f (by constructor) _;have D:=BC es.toList cs 0 q g hg;cases g with
  |some p=>
   obtain⟨i,v,h1,h2⟩:=D;have l:(Instr.findKey kt (.int C n) es.toList).run P w= .ok (some (i,v)) w:=by simp[Instr.findKey,run_underlying f,h1]
   refine eH (v:=v) (w':=w) ?_ (dK.mk (s':=st.s) (o':=st.o) h2 hs h hK (λ_ ad v hv=>hv));simp only[execOp,u,s,x,Instr.lookup,run_underlying hu,Sem.run_bind,Result.andThen_ok,getObj,Sem.run,hb,Sem.run_pure,L,l];rfl
  |none=>
   have l:(Instr.findKey kt (.int C n) es.toList).run P w= .ok none w:=by simp[Instr.findKey,run_underlying f,D]
   obtain⟨_,_,⟨z,hz,y⟩,_⟩:=(c _ _ J).run w;obtain⟨i0,z0,d0,af,_,_,R,ag,S,_⟩:=(c _ _ J).info
   have ae:z=z0:=by
    have:(zeroValue ti.el).run P w= .ok z0 w:=by simp[zeroValue,typeInfo,af,R]
    rw[hz]at this;cases this;rfl
   subst ae
   have T:z= .nilFunc:=by
    have hf:=hK.1;unfold zp at hf;split at hf
    ·rename_i ha hc;rw[S.2 ha,hc]at y;simpa[zeroV]using y
    ·cases hf
   subst T;refine eH (v:=.nilFunc) (w':=w) ?_ (dK.mk (s':=st.s) (o':=st.o) .nilf hs h hK.2 (λ_ ad v hv=>hv));simp only[execOp,u,s,x,Instr.lookup,run_underlying hu,Sem.run_bind,Result.andThen_ok,getObj,Sem.run,hb,Sem.run_pure,L,l,hz];rfl
theorem Kd(V:ez P tt)(h:cK tt B E Pp st.o w)(hs:∀t,VR tt E Pp (a.tmps.getD t undef) (look st.s t)){k:Operand}{as:Array Operand}{ts:Array TypeId}{tr:List TypeId}(S:o.op= .call { callee:=.builtin .delete,args:=as,argTypes:=ts })(has:as.toList=[m,k])(W:ts.toList=t::tr)(ai:tt t=some ti)(hm:isMap ti=true)
 (ab:tt (ti.ar-1)=some F) {kc:CK} (ad:keyOf F=some kc) (ec:jR kc (fG tt st.s (ti.ar-1) k)=true) (hx:ev st.s m= .mp r) {e:TypeId}{d:D} (af:eG st.o r= .map kc e d)
 (hK:K (.tup []) ⟨st.s,il (nw r st.o) r (.map kc e (dS.G5 d (lN (fG tt st.s (ti.ar-1) k))))⟩):o.wp P a w (dK tt B eh E Pp st.o w o a K) Q:=by
 obtain⟨kt,e',hu,_,ao,an⟩:=(V _ _ ai).map hm;have ag:ti.ar-1=kt:=yO;simp only[ag]at*;have X:=ub (tt:=tt) (V _ _ ab) ad;have R:=C3 ec (iL hs kt k);generalize ap:lN (fG tt st.s kt k)=kd at*;have u:=fa hs m;rw[hx]at u;have L:=di af rfl;obtain⟨ri,Z,aj⟩:=h.wr.ob r _ L rfl;have f:gi eh o.op=false:=by rw[S];rfl
 obtain⟨as⟩:=as;obtain⟨ts⟩:=ts;simp only at has W;subst has W;generalize ac:a.eval m=vm at u;cases u with
 |mp _ b bs cl U=>
  rw[U]at Z;cases Z;obtain⟨es,rows,hb,rfl,hl,c,q,gx,dA,O⟩:=aj;have Y:=X.check w R es.isEmpty;rw[gw]at hK
  have aa:b<w.heap.size:=by
   rcases bR b w.heap.size with h'|h'
   ·exact h'
   ·simp[cR h']at hb
  have s:∀(x:Obj),(w.heap.setIfInBounds b x)[b]? =some x:=λx=>eb aa
  have fJ:∀H G,∀t,VR tt (E.set r (.map b H G)) Pp (a.tmps.getD t undef) (look st.s t):=by
   intro H G t;refine(VR.gq (λi y hy=>?_) (λ_ _ h=>h)).1 (hs t);by_cases hi:i=r
   ·subst hi;rw[U]at hy;cases hy;exact .inr ⟨b,bs,cl,H,G,rfl,by rw[bT (cB U)]⟩
   ·exact .inl (by rw[bQ (dZ hi)];exact hy)
  have l:execOp a.eval o=(do let v <-Builtin.delete_ ⟨t::tr⟩ o.type #[.map (some b),a.eval k];pure (.value v):Sem Next):=by simp[execOp,S,resolve,invoke,builtin,ac]
  rcases X.find w R es.toList rows ⟨hl,c⟩with⟨i,y,row,h1,h2,h3,h4,h5,h6,h8,M⟩|⟨h1,h2,h8,M⟩
  ·have al:=cB h1;refine eH (v:=.tuple #[]) (w':={ w with heap:=w.heap.setIfInBounds b (.map (es.eraseIdxIfInBounds i) cl) }) ?_ ?_
   ·rw[l];simp[Builtin.delete_,run_underlying hu,getObj,setObj,Sem.run,hb,Y,M]
   ·refine dK.mk (.tup _ _ .nil) (fJ (bs.eraseIdx i) cl) ?_ hK (λT=>by rw[f]at T;cases T);refine h.xo L U ⟨_,hb⟩ ?_;have g:(es.eraseIdxIfInBounds i).toList=es.toList.eraseIdx i:=yS;refine⟨_,rows.eraseIdx i,s _,by simp[cg,h8],?_,?_,?_,?_,?_,O⟩
    ·rw[g,K3,K3,hl]
    ·intro j z rw hz dN;rw[g,rW]at hz;rw[rW]at dN;split at hz
     ·rename_i J;rw[if_pos J]at dN;exact c j z rw hz dN
     ·rename_i J;rw[if_neg J]at dN;exact c (j+1) z rw hz dN
    ·rw[g,<-q];apply xw;intro j;simp only[cC,rW];split<;>simp
    ·exact gx.sublist (KR _ _)
    ·intro x hx;exact dA x ((KR _ _).subset hx)
  ·refine eH (v:=.tuple #[]) (w':={ w with heap:=w.heap.setIfInBounds b (.map es cl) }) ?_ ?_
   ·rw[l];simp[Builtin.delete_,run_underlying hu,getObj,setObj,Sem.run,hb,Y,M]
   ·refine dK.mk (.tup _ _ .nil) (fJ bs cl) ?_ hK (λT=>by rw[f]at T;cases T);refine h.xo L U ⟨_,hb⟩ ?_;exact⟨_,rows,s _,by simp[cg,h8],hl,c,q,gx,dA,O⟩
theorem LZ(y:ez P tt)(h:cK tt B E Pp st.o w)(hs:∀t,VR tt E Pp (a.tmps.getD t undef) (look st.s t))(x:o.op= .range t m)(l:tt t=some ti)(L:isMap ti=true)
 (S:ev st.s m= .mp r) {kc:CK}{e:TypeId}{d:D} (i:eG st.o r= .map kc e d)
 (hK:K (.it (bY st.o)) ⟨st.s,gh st.o [.iter r (.list [])]⟩):o.wp P a w (dK tt B eh E Pp st.o w o a K) Q:=by
 obtain⟨kt,e',hu,_,_,_⟩:=(y _ _ l).map L;have c:=fa hs m;rw[S]at c;have q:=di i rfl;obtain⟨ri,f,s⟩:=h.wr.ob r _ q rfl;rw[eU,cL]at hK;generalize u:a.eval m=T at c;cases c with
 |mp _ b bs cl z=>
  rw[z]at f;cases f;obtain⟨es,rows,hb,rfl,hl,J,g,gx,dA,M⟩:=s;refine eH (v:=.pointer (some ⟨w.heap.size,0,none⟩)) (w':=w.alloc (.mapIter (some b) cl #[] cl)) ?_ ?_
  ·simp[execOp,x,u,Instr.range,run_underlying hu,getObj,Sem.run,hb]
  ·refine dK.mk (E':=E++[.iter w.heap.size]) (Pp':=Pp) (.it _ _ (by rw[<- h.wr.len];simp)) (fB hs) ?_ hK (λ_ ad v O=>O.grow h.wr.len (λ_ _ h=>h) (λk hk=>RowKit.Below.heap_alloc w _ k hk));exact h.new rfl ⟨b,bs,cl,[],ga z,ej w _,rfl,λj R=>yE R⟩
theorem JX(q:ez P tt)(h:cK tt B E Pp st.o w)(hs:∀t,VR tt E Pp (a.tmps.getD t undef) (look st.s t))(f:o.op= .range t m)(l:tt t=some ti)(s:isMap ti=true)
 {e:TypeId}{d:D} (y:ev st.s m= .dmp e d)
 (hK:K (.it (bY st.o)) ⟨st.s,gh st.o [.diter e d (.list [])]⟩):o.wp P a w (dK tt B eh E Pp st.o w o a K) Q:=by
 obtain⟨kt,e',hu,_,_,_⟩:=(q _ _ l).map s;have c:=fa hs m;rw[y]at c;rw[eU,cL]at hK;generalize g:a.eval m=x at c
 have iK:∃t',RD tt Pp (.map t' e) x d:=by
  cases c with
  |dmp t' _ _ _ hr=>exact⟨t',hr⟩
 obtain⟨t',iK⟩:=iK;rcases iK.rH with⟨rfl,rfl⟩|⟨b,es,clock,rows,rfl,rfl,m⟩
 ·refine eH (v:=.pointer (some ⟨w.heap.size,0,none⟩)) (w':=w.alloc (.mapIter none 0 #[] 0)) ?_ ?_
  ·simp[execOp,f,g,Instr.range,run_underlying hu]
  ·refine dK.mk (E':=E++[.iter w.heap.size]) (Pp':=Pp) (.it _ _ (by rw[<- h.wr.len];simp)) (fB hs) ?_ hK (λ_ ad v i=>i.grow h.wr.len (λ_ _ h=>h) (λk hk=>RowKit.Below.heap_alloc w _ k hk));exact h.new rfl ⟨[],rfl,.inl ⟨rfl,rfl,_,_,_,ej w _⟩⟩
 ·have hb:=CG (h.wr.pi _ _ m.hV);refine eH (v:=.pointer (some ⟨w.heap.size,0,none⟩)) (w':=w.alloc (.mapIter (some b) clock #[] clock)) ?_ ?_
  ·simp[execOp,f,g,Instr.range,run_underlying hu,getObj,Sem.run,hb]
  ·refine dK.mk (E':=E++[.iter w.heap.size]) (Pp':=Pp) (.it _ _ (by rw[<- h.wr.len];simp)) (fB hs) ?_ hK (λ_ ad v i=>i.grow h.wr.len (λ_ _ h=>h) (λk hk=>RowKit.Below.heap_alloc w _ k hk));exact h.new rfl ⟨[],rfl,.inr ⟨b,es,clock,rows,rfl,m,ej w _,λj u=>yE u⟩⟩
theorem Me{b l clock:Nat}{es:Array MapEntry}{arr:List Nat}(hb:w.heap[b]? =some (.mapIter (some l) clock ⟨arr⟩ clock))(u:w.heap[l]? =some (.map es clock))(d:∀x∈es.toList,x.born<clock)(ty:TypeId):
 ((∀x∈es.toList,x.born∈arr)/\(Instr.next (.pointer (some ⟨b,0,none⟩)) false ty).run P w= .ok (.tuple #[.bool false]) w)\/
 ∃x g,x∈es.toList/\x.born∉arr/\(g=w\/g=w.drew)/\(Instr.next (.pointer (some ⟨b,0,none⟩)) false ty).run P w= .ok (.tuple #[.bool true,x.key,x.val]) { g with heap:=w.heap.setIfInBounds b (.mapIter (some l) clock ⟨arr++[x.born]⟩ clock) }:=by
 simp only[Instr.next,getObj,Sem.run_bind,Sem.run,hb,u,Result.andThen,next_test_false ⟨arr⟩ es clock clock d (bX _),cA,if_false];have c:∀x∈(HY (λe=> !(⟨arr⟩:Array Nat).contains e.born) es).toList,x∈es.toList/\x.born∉arr:=λx f=>by simp at f ⊢;exact f
 have h:(HY (λe=> !(⟨arr⟩:Array Nat).contains e.born) es)= #[]->∀x∈es.toList,x.born∈arr:=λh0 x f=>by rw[DI]at h0;have:=h0 x (yU f);simpa using this
 generalize HY (λe=> !(⟨arr⟩:Array Nat).contains e.born) es=L at c h ⊢;have e1:L.filter (λx=>decide (x.born<clock))=L:=Array.filter_eq_self.2 (λx f=>by simpa using d x (c x (yU f)).1);have e2:L.filter (λx=>decide (x.born>=clock))= #[]:=by rw[DI];intro x f;have:=d x (c x (yU f)).1;simp;omega
 simp only[e1,e2,Array.append_empty];by_cases h0:L.size=0
 ·left;have:L= #[]:=Array.eq_empty_of_size_eq_zero h0;subst this;refine⟨h rfl,?_⟩;simp[choose,Sem.run,Question.forced]
 ·right;have q:L.isEmpty=false:=by simp[Array.isEmpty,h0]
  simp only[q,cA,if_false,Array.empty_append,DA]
  have s:∃(j:Nat) (g:World),j<L.size/\(g=w\/g=w.drew)/\(choose (Question.mapNext L.size)).run P w= .ok j g:=by
   by_cases hf:L.size<=1
   ·exact⟨0,w,yO,.inl rfl,by simp[choose,Sem.run,Question.forced,hf]⟩
   ·refine⟨w.tape w.drawn (.mapNext L.size) % L.size,w.drew,QF _ yO,.inr rfl,?_⟩;simp only[choose,Sem.run,Question.forced,decide_eq_true_eq,hf,if_false,Question.cut];rfl
  obtain⟨j,g,v,k,i⟩:=s;have f:=c L[j] yS;refine⟨L[j],g,f.1,f.2,k,?_⟩;have y:g.heap=w.heap:=by rcases k with rfl|rfl<;>rfl
  simp only[i,Array.getElem?_map,pd v,cv,Sem.run_bind,setObj,Sem.run,y,hb,Result.andThen,Sem.run_pure];simp
theorem Bg{l:List Nat}(h:l.Nodup){i j:Nat}{x:Nat}(c:l[i]? =some x)(b:l[j]? =some x):i=j:=by
 have h1:=cB c;have h2:=cB b;rw[bu h1]at c;rw[bu h2]at b;simp at c b;have d:=hX.1 h;rcases Ae i j with h3|h3|h3
 ·exact absurd (c.trans b.symm) (d i j h1 h2 h3)
 ·exact h3
 ·exact absurd (b.trans c.symm) (d j i h2 h1 h3)
theorem mNx:(∀(S:ez P tt)(h:cK tt B E Pp st.o w)(hs:∀ t,VR tt E Pp (a.tmps.getD t undef) (look st.s t)){o:Oper}{it:Operand}(g:o.op= .next it false){i m:Nat}(hx:ev st.s it= .it i){seen d:D}(U:eG st.o i= .iter m seen){kc:CK}{e:TypeId}(an:eG st.o m= .map kc e d){A:TI}(T:tt e=some A){K:PV->St->Prop}(L:dS.n1 d seen->K (.tup [.bl false]) st)(M:∀ j,dS.qp d seen j->K (.tup [.bl true,mr dS kc (dS.cell d j 0),eX A (jS dS d j 1 A.bP)]) ⟨st.s,il st.o i (.iter m (dS.oe seen j))⟩){Q:Exit->Act->World->Prop},o.wp P a w (dK tt B eh E Pp st.o w o a K) Q)/\
 (∀(S:ez P tt)(h:cK tt B E Pp st.o w)(hs:∀ t,VR tt E Pp (a.tmps.getD t undef) (look st.s t)){o:Oper}{it:Operand}(g:o.op= .next it false){i:Nat}(hx:ev st.s it= .it i){e:TypeId}{seen d:D}(U:eG st.o i= .diter e d seen){A:TI}(T:tt e=some A){K:PV->St->Prop}(L:dS.n1 d seen->K (.tup [.bl false]) st)(M:∀ j,dS.qp d seen j->K (.tup [.bl true,mr dS .str (dS.cell d j 0),eX A (jS dS d j 1 A.bP)]) ⟨st.s,il st.o i (.diter e d (dS.oe seen j))⟩){Q:Exit->Act->World->Prop},o.wp P a w (dK tt B eh E Pp st.o w o a K) Q):=by
 refine⟨?_,?_⟩;have zA:=trivial
 rotate_left
 have zB:=trivial
 rotate_left
 all_goals (
  first
   |(have X:=zA;intro S h hs o it g i m hx seen d U kc e an A T K L M Q)
   |(have X:=zB;intro S h hs o it g i hx e seen d U A T K L M Q)
  have ag:=fa hs it;rw[hx]at ag;have s:=di U rfl
  first
   |(have X:=zA
     have al:=di an rfl)
   |(skip)
  obtain⟨ri,aw,aa⟩:=h.wr.ob i _ s rfl
  first
   |(have X:=zA
     obtain⟨rm,av,aj⟩:=h.wr.ob m _ al rfl)
   |(skip)
  have f:gi eh o.op=false:=by rw[g];rfl
  generalize ae:a.eval it=vi at ag;cases ag with
  |it _ b hE=>
   rw[hE]at aw;cases aw
   first
    |(have X:=zA
      obtain⟨bm,borns,clock,q,aq,hb,rfl,V⟩:=aa;rw[aq]at av;cases av;obtain⟨es,rows,ak,rfl,hl,W,c,gx,dA,aK⟩:=aj)
    |(obtain⟨q,rfl,⟨rfl,rfl,n,ss,mm,hb⟩|⟨bm,es,clock,rows,rfl,m,hb,V⟩⟩:=aa
      ·refine eH (v:=.tuple #[.bool false]) (w':=w) (by simp[execOp,g,ae,Instr.next,getObj,Sem.run,hb]) ?_;refine dK.mk (s':=st.s) (o':=st.o) (.tup _ _ (.cons _ _ _ _ (.bl _) .nil)) hs h (L ?_) (λY=>by rw[f]at Y;cases Y);intro j l;simp[cg]at l
      have ak:=CG (h.wr.pi _ _ m.hV);have hl:=m.len;have W:=m.Rf;have gx:=m.nd;have dA:=m.lt;obtain⟨borns,c⟩:∃borns,es.toList.map (·.born)=borns:=⟨_,rfl⟩;rw[c]at gx dA hb)
   have aL:borns.length=es.toList.length:=by rw[<- c];simp
   have ao:∀x∈es.toList,x.born<clock:=λx hx=>dA _ (by rw[<- c];exact List.mem_map_of_mem hx);have u:∀(j:Nat) x,es.toList[j]? =some x->borns[j]? =some x.born:=λj x l=>by rw[<- c,cC,l];rfl
   have ac:∀(j:Nat) x,es.toList[j]? =some x->(x.born∈q.map (λ(j:Nat)=>borns.getD j 0)↔j∈q):=by
    intro j x l;rw[bH];constructor
    ·rintro⟨k,hk,aF⟩;have h1:=u j x l
     have h2:borns[k]? =some x.born:=by
      first
       |(have X:=zA
         have:=V k hk)
       |(have:k<borns.length:=by have:=V k hk;omega)
      rw[bu this,<-aF];simp[cx,this]
     rw[Bg gx h1 h2];exact hk
    ·intro hk;exact⟨j,hk,by have:=u j x l;simp[cx,this]⟩
   have J:∀(j:Nat),([D.int (j:Int)]∈q.map (λ(j:Nat)=>[D.int (j:Int)])↔j∈q):=by
    intro j;rw[bH];constructor
    ·rintro⟨k,hk,aE⟩;simp at aE;have:k=j:=yO;rw[<- this];exact hk
    ·intro hk;exact⟨j,hk,rfl⟩
   rcases Me (P:=P) hb ak ao o.type with⟨ar,z⟩|⟨x,w1,aH,aD,R,z⟩
   ·refine eH (v:=.tuple #[.bool false]) (w':=w) (by simp[execOp,g,ae,z]) ?_;refine dK.mk (s':=st.s) (o':=st.o) (.tup _ _ (.cons _ _ _ _ (.bl _) .nil)) hs h (L ?_) (λY=>by rw[f]at Y;cases Y);intro j l;have O:j<es.toList.length:=by rw[hl];exact l
    show [D.int (j:Int)]∈q.map _;rw[J];exact(ac j _ (bu O)).1 (ar _ (br O))
   ·obtain⟨j,l⟩:=ig aH;have aM:=cB l;have aC:j∉q:=λhk=>aD ((ac j x l).2 hk);have dN:rows[j]? =some (rows[j]'yO):=bu yO;obtain⟨kd,vd,iK,e2,e3,e4,e5,e6⟩:=W j x _ l dN;have y:∀n,dS.cell (.list rows) (j:Int) n=(kd::vd).getD n .nil:=by intro n;show ((cg (.list rows)).getD (j:Int).toNat []).getD n .nil=_;simp[cg,cx,dN,iK]
    have Z:b<w.heap.size:=by
     rcases bR b w.heap.size with h'|h'
     ·exact h'
     ·simp[cR h']at hb
    refine eH (v:=.tuple #[.bool true,x.key,x.val]) (w':={ w1 with heap:=w.heap.setIfInBounds b (.mapIter (some bm) clock ⟨q.map (λ(j:Nat)=>borns.getD j 0)++[x.born]⟩ clock) }) (by simp[execOp,g,ae,z]) ?_;have ax:=M (j:Int) ⟨yO,by show (j:Int)<((cg (.list rows)).length:Int);simp[cg];omega,by show [D.int (j:Int)]∉q.map _;rw[J];exact aC⟩;rw[gw]at ax;refine dK.mk (E':=E) (Pp':=Pp) ?_ hs ?_ ax (λY=>by rw[f]at Y;cases Y)
    ·refine .tup _ _ (.cons _ _ _ _ (.bl _) (.cons _ _ _ _ ?_ (.cons _ _ _ _ ?_ .nil)))
     ·rw[y 0];exact zm e2
     ·refine Cg S T e3 e4 e5 e6 ?_;intro n dd hn;rw[y,Af];simp[cx,hn]
    ·have ap:=cB s;have aJ:w1.os=w.os:=by rcases R with rfl|rfl<;>rfl
     have aG:w1.tape=w.tape:=by rcases R with rfl|rfl<;>rfl
     have au:w1.output=w.output:=by rcases R with rfl|rfl<;>rfl
     have aP:w.drawn<=w1.drawn:=by rcases R with rfl|rfl;exact bX _;exact uM _
     refine h.An s rfl hE rfl (λ_ _=>rfl) hE (.inl (.refl _)) yS ?_ (by rw[bT ap]) (λ_=>?_) aJ aG au yS ?_ (λ_ _ h=>h) (λ_ _ h=>.inl h) (λb' aI=>.inl aI) ?_
     ·intro j' aB O am hl;rw[bQ (dZ O)]at am;exact⟨aB,am,hl,λ_ _ h=>h⟩
     ·skip
      first
       |(have X:=zA
         refine⟨bm,borns,clock,q++[j],aq,?_,?_,?_⟩)
       |(refine⟨q++[j],by simp[dS,cg],.inr ⟨bm,es,clock,rows,rfl,m,?_,?_⟩⟩)
      ·show (w.heap.setIfInBounds b _)[b]? =_
       first
        |(have X:=zA
          rw[eb Z])
        |(rw[eb Z,c])
       have:=u j x l;simp[cx,this]
      first
       |(have X:=zA
         ·simp[dS,cg])
       |(skip)
      ·intro k hk;simp at hk;rcases hk with hk|rfl
       ·exact V k hk
       ·omega
     ·intro k _ af;have:k≠b:=λe=>af (by rw[e];rfl);simp[fT (dZ this)]
     ·intro ad v hv;have hc:=h.wr.pi ad v hv;have af:ad.block≠b:=by intro e;simp[pc,e,hb]at hc
      rw[<- hc];refine ia ?_;simp[fT (dZ af)])
theorem mEn:(∀(s:ez P tt)(h:cK tt B E Pp st.o w)(hs:∀ t,VR tt E Pp (a.tmps.getD t undef) (look st.s t)){o:Oper}{it:Operand}(q:o.op= .entry it){i m:Nat}(hx:ev st.s it= .it i){seen d:D}(y:eG st.o i= .iter m seen){kc:CK}{e:TypeId}(X:eG st.o m= .map kc e d){A:TI}(u:tt e=some A)(g:dS.idx 0 (dS.len seen))(c:dS.idx (dS.last seen) (dS.len d)){K:PV->St->Prop}(hK:K (.tup [mr dS kc (dS.cell d (dS.last seen) 0),eX A (jS dS d (dS.last seen) 1 A.bP)]) st){Q:Exit->Act->World->Prop},o.wp P a w (dK tt B eh E Pp st.o w o a K) Q)/\
 (∀(s:ez P tt)(h:cK tt B E Pp st.o w)(hs:∀ t,VR tt E Pp (a.tmps.getD t undef) (look st.s t)){o:Oper}{it:Operand}(q:o.op= .entry it){i:Nat}(hx:ev st.s it= .it i){e:TypeId}{seen d:D}(y:eG st.o i= .diter e d seen){A:TI}(u:tt e=some A)(g:dS.idx 0 (dS.len seen))(c:dS.idx (dS.last seen) (dS.len d)){K:PV->St->Prop}(hK:K (.tup [mr dS .str (dS.cell d (dS.last seen) 0),eX A (jS dS d (dS.last seen) 1 A.bP)]) st){Q:Exit->Act->World->Prop},o.wp P a w (dK tt B eh E Pp st.o w o a K) Q):=by
 refine⟨?_,?_⟩;have zA:=trivial
 rotate_left
 have zB:=trivial
 rotate_left
 all_goals (
  first
   |(have zz:=zA;intro s h hs o it q i m hx seen d y kc e X A u g c K hK Q)
   |(have zz:=zB;intro s h hs o it q i hx e seen d y A u g c K hK Q)
  have R:=fa hs it;rw[hx]at R;have W:=di y rfl
  first
   |(have zz:=zA
     have V:=di X rfl)
   |(skip)
  obtain⟨ri,Z,L⟩:=h.wr.ob i _ W rfl
  first
   |(have zz:=zA
     obtain⟨rm,Y,S⟩:=h.wr.ob m _ V rfl)
   |(skip)
  generalize af:a.eval it=vi at R;cases R with
  |it _ b hE=>
   rw[hE]at Z;cases Z
   first
    |(have zz:=zA
      obtain⟨bm,borns,clock,U,ah,hb,rfl,ak⟩:=L;rw[ah]at Y;cases Y;obtain⟨es,rows,T,rfl,hl,z,f,gx,dA,al⟩:=S)
    |(obtain⟨U,rfl,⟨rfl,rfl,n,ss,mm,hb⟩|⟨bm,es,clock,rows,rfl,m,hb,ak⟩⟩:=L
      ·have:=g.2;simp[dS,cg]at this
      have T:=CG (h.wr.pi _ _ m.hV);have hl:=m.len;have z:=m.Rf;have gx:=m.nd;obtain⟨borns,f⟩:∃borns,es.toList.map (·.born)=borns:=⟨_,rfl⟩;rw[f]at gx hb)
   have J:U≠[]:=by rintro rfl;have:=g.2;simp[dS,cg]at this
   obtain⟨l,j,rfl⟩:∃l j,U=l++[j]:=⟨U.dropLast,U.getLast J,(B3 J).symm⟩;have ai:dS.last (.list ((l++[j]).map λ(j:Nat)=>[D.int (j:Int)]))=(j:Int):=by simp[dS,cg]
   rw[ai]at hK c;have ag:j<es.toList.length:=by have:=c.2;simp[dS,cg]at this;omega
   have hj:es.toList[j]? =some (es.toList[j]):=bu ag;generalize es.toList[j]=x at hj;have dN:rows[j]? =some (rows[j]'yO):=bu yO;obtain⟨kd,vd,iK,e2,e3,e4,e5,e6⟩:=z j x _ hj dN;have k:∀n,dS.cell (.list rows) (j:Int) n=(kd::vd).getD n .nil:=by intro n;show ((cg (.list rows)).getD (j:Int).toNat []).getD n .nil=_;simp[cg,cx,dN,iK]
   have aj:borns[j]? =some x.born:=by rw[<- f,cC,hj];rfl
   have M:es.find? (·.born==x.born)=some x:=by rw[<- Array.find?_toList];exact find_born x es.toList (by rw[f];exact gx) (fA hj)
   refine eH (v:=.tuple #[x.key,x.val]) (w':=w) ?_ ?_
   ·have O:(⟨(l++[j]).map (λ(j:Nat)=>borns.getD j 0)⟩:Array Nat).back? =some x.born:=by simp[Array.back?,cx,aj]
    simp only[execOp,q,af,Instr.entry,getObj,Sem.run_bind,Sem.run,hb,T,Result.andThen_ok,O,bne_self_eq_false,cA,if_false,M,Sem.run_pure]
   ·refine dK.mk (s':=st.s) (o':=st.o) ?_ hs h hK (λ_ ad v hv=>hv);refine .tup _ _ (.cons _ _ _ _ ?_ (.cons _ _ _ _ ?_ .nil))
    ·rw[k 0];exact zm e2
    ·refine Cg s u e3 e4 e5 e6 ?_;intro n dd hn;rw[k,Af];simp[cx,hn])
end
end
section
variable [Inhabited pY]
open Go
section
variable {P:Program}{G:dH}{B:jH}{E:List RI}{Pp:fQ}{w:World}{st:St}{a:Act}
variable {o:Oper}{Q:Exit->Act->World->Prop}{K:PV->St->Prop}{r r0:Option Nat}{x m k:Operand}{f:FuncId}{t e:TypeId}{z:Array Operand}{ts:Array TypeId}{n:Nat}{w:World}{R:Ending->World->Prop}{q:TI}
def oX(r:Option Nat):Fence:={ Fence.wide with round:=r }
def x9(n:Nat):(oX r).room n:=λ_ h=>by simp[oX,Fence.wide]at h
def wN{args:Array Value}(h:Calls P f args w R):CallsIn (oX r) n P f args w R:=by have h1:CallsIn Fence.wide n P f args w R:=callsIn_wide.2 h;exact⟨trivial,λcs _=>h1.2 cs (room_wide _)⟩
def Ek{l:Nat}{tmps:Array Value}{assign body:Code}(h:RoundIn Fence.wide n P l f tmps assign body w R):RoundIn (oX r) n P l f tmps assign body w R:=⟨trivial,λc cs _=>h.2 c cs (room_wide _)⟩
def T7{next:Act->World->Prop}(i:∀c,o.op≠ .defer c)(h:o.wp P a w next Q):o.wpIn (oX r) 0 P a w next Q:=by
 refine⟨λ_ _=>trivial,?_⟩;show o.uponIn (oX r) 0 P a next Q ((o.semAt r a.eval).run P w)
 rw[Oper.semAt_eq r _ _ i];unfold Oper.wp at h;have b:∀{n:Nat},(oX r).depth.isSome=true->1<=n:=λh=>by simp[oX,Fence.wide]at h
 cases g:(execOp a.eval o).run P w with
 |ok j w'=>
  rw[g]at h;cases j with
  |value v=>exact h
  |skip=>exact h
  |defer d=>exact h
  |enter f args=>exact⟨b,wN h⟩
  |row row args=>exact⟨b,λc cs _=>let ⟨v,l,r2,s⟩:=h c cs;⟨v,l,r2,stepsIn_wide.2 s⟩⟩
  |_=>exact h.elim
 |halt x w'=>
  rw[g]at h;cases x with
  |panic v=>exact h
  |_=>exact h.elim
def mF(c:ez P G.tt)(h:cK G.tt B E Pp st.o w)(hs:∀t,VR G.tt E Pp (a.tmps.getD t undef) (look st.s t))(hc:cH dS G.tt o.op o.type st.s st.o λv=>K v st):
 o.wp P a w (dK G.tt B (G.eh,G.live) E Pp st.o w o a K) Q:=by
 obtain⟨v,pv,hr,b,hK⟩:=A7 c h.wr.rw hs hc;exact eH (hr w rfl) (dK.mk (s':=st.s) (o':=st.o) b hs h hK (λ_ ad v b=>b))
def mJ(hs:∀t,VR G.tt E Pp (a.tmps.getD t undef) (look st.s t)):∀(xs:List Operand)(ts:List TypeId),eM G.tt E Pp (xs.map a.eval) (nr G st.s xs ts)
 |[],_=>by simp[nr];exact .nil
 |x::xs,[]=>.cons _ _ _ _ (fa hs x) (mJ hs xs [])
 |x::xs,t::ts=>.cons _ _ _ _ (iL hs t x) (mJ hs xs ts)
def E8(h:lO x=true):a.eval x= .slice none 0 0:=by
 unfold lO at h;split at h
 ·rfl
 ·cases h
def s6(hs:∀t,VR G.tt E Pp (a.tmps.getD t undef) (look st.s t)):∀(xs:List Operand)(ts:List TypeId),eM G.tt E Pp (xs.map a.eval) (ur G st.s xs ts)
 |[],_=>by simp[ur];exact .nil
 |x::xs,[]=>.cons _ _ _ _ (fa hs x) (s6 hs xs [])
 |x::xs,t::ts=>.cons _ _ _ _ (by
  cases b:lO x with
  |true=>rw[E8 b];exact .lj
  |false=>exact iL hs t x) (s6 hs xs ts)
def Ht(hs:∀t,VR G.tt E Pp (a.tmps.getD t undef) (look st.s t))(f:FuncId)(xs:List Operand)(ts:List TypeId):eM G.tt E Pp (xs.map a.eval) (C7 G f st.s xs ts):=by
 unfold C7;cases eI f G.live with
 |true=>exact s6 hs xs ts
 |false=>exact mJ hs xs ts
def pz:∀(xs:List Operand)(ts:List TypeId){E:List RI}{c:List Ob},cK G.tt B E Pp c w->(∀t,VR G.tt E Pp (a.tmps.getD t undef) (look st.s t))->
 ∃E',cK G.tt B E' Pp (c++oh G xs ts) w/\(∀(i:Nat) x,E[i]? =some x->E'[i]? =some x)/\eM G.tt E' Pp (xs.map a.eval) (nV G st.s c.length xs ts)
 |[],ts,E,c,h,_=>⟨E,by simpa[oh]using h,λ_ _ h=>h,by simp[nV];exact .nil⟩
 |x::xs,[],E,c,h,hs=>by
  obtain⟨E',h1,h2,h3⟩:=pz xs [] h hs;have l:oh G xs []=[]:=by cases xs<;>rfl
  rw[l]at h1;refine⟨E',by simpa[oh]using h1,h2,?_⟩;exact .cons _ _ _ _ ((fa hs x).mono h2 (λ_ _ h=>h)) h3
 |x::xs,t::ts,E,c,h,hs=>by
  cases he:IN G x t with
  |none=>obtain⟨E',h1,h2,h3⟩:=pz xs ts h hs;refine⟨E',by simpa[oh,he]using h1,h2,?_⟩;simp only[nV,he,bF];exact .cons _ _ _ _ ((iL hs t x).mono h2 (λ_ _ h=>h)) h3
  |some e=>
   have d:a.eval x= .slice none 0 0:=by
    unfold IN at he;split at he
    ·rename_i d;unfold lO at d;split at d
     ·rfl
     ·simp at d
    ·cases he
   have g:cK G.tt B (E++[.row0]) Pp (c++[.row e (.list []) true]) w:=⟨h.wr.push (λ_=>rfl) (λb hb=>by simp[RI.cZ]at hb),qE h.pre,h.sT,h.fr,h.jV,h.fresh.push h.wr.len (λb hb=>by simp[RI.cZ]at hb)⟩;obtain⟨E',h1,h2,h3⟩:=pz xs ts g (λt=>(hs t).mono mem_push (λ_ _ h=>h));refine⟨E',by simpa[oh,he]using h1,λi y j=>h2 i y (mem_push i y j),?_⟩;simp only[nV,he,bF,d];refine .cons _ _ _ _ (.row0 _ _ (h2 _ _ ?_)) (yU h3);rw[<- h.wr.len];simp
def SF(h:cK G.tt B E Pp st.o w)(hs:∀t,VR G.tt E Pp (a.tmps.getD t undef) (look st.s t)){t r:Nat}(b:o.op= .move (.tmp t))(hl:look st.s t= .row e r){kp:List FuncId×List FuncId}
 (hK:K (.row e r) ⟨Hd st.o r st.s,fz [r] 0 st.o⟩):o.wp P a w (dK G.tt B kp E Pp st.o w o a K) Q:=by
 have c:=hs t;rw[hl]at c;have h1:=h.nM [r];refine eH (v:=a.tmps.getD t undef) (w':=w) ?_ ?_
 ·simp only[execOp,b];rfl
 ·refine dK.mk (c.mono (λ_ _ h=>h) (λ_ _ h=>.inl h)) ?_ h1 hK (λ_ ad u hu=>hu.nM _);intro t';rw[vE];have h2:=hs t';generalize look st.s t'=p at h2;unfold Px;split
  ·rename_i e' x;cases hb:nb x r with
   |false=>exact h2.mono (λ_ _ h=>h) (λ_ _ h=>.inl h)
   |true=>have:=cX hb;subst this;exact(s3 h.wr 8 _ _ h2 (λi d=>d)).mono (λ_ _ h=>yE h) (λ_ _ h=>h)
  ·exact h2.mono (λ_ _ h=>h) (λ_ _ h=>.inl h)
def rR{vals:List Value}{kp:Bool}{args:List PV}(A:ez P G.tt)(h:cK G.tt B E Pp st.o w)(hs:∀t,VR G.tt E Pp (a.tmps.getD t undef) (look st.s t))(s:eM G.tt E Pp vals args)
 (b:(execOp a.eval o).run P w=(callFunc f ⟨vals⟩).run P w) (hc:uB G (lU P G.tt) kp f args st K) (p:gi (G.eh,G.live) o.op=true->(kp&&eI f G.eh)=false/\eI f G.live=false):
 o.wp P a w (dK G.tt B (G.eh,G.live) E Pp st.o w o a K) Q:=by
 have fin:∀e w',(∃v pv s' o' E' Pp',e=Ending.returned v/\VR G.tt E' Pp' v pv/\(∀t,VR G.tt E' Pp' (a.tmps.getD t undef) (look s' t))/\cK G.tt B E' Pp' o' w'/\K pv ⟨s',o'⟩/\
  ((kp&&eI f G.eh)=false->eI f G.live=false->∀ad v,oy G.tt E Pp st.o w ad v->oy G.tt E' Pp' o' w' ad v)/\(∀ad v,Pp ad v->Pp' ad v))->∃v,e= .returned v/\dK G.tt B (G.eh,G.live) E Pp st.o w o a K (a.put o.dst v) w':=by
  rintro e w' ⟨v,pv,s',o',E',Pp',rfl,l,j,i,hK,u,y⟩;exact⟨v,rfl,dK.mk l j i hK (λc=>u (p c).1 (p c).2) y⟩
 rcases Nx rfl h hs s hc with⟨h1,h2⟩|⟨v,w',h1,h2⟩
 ·simp only[Oper.wp,b,h1];refine h2.mono ?_;intro e w' he;obtain⟨v,rfl,d⟩:=fin e w' he;exact d
 ·obtain⟨C,g,d⟩:=fin _ _ h2;cases g;exact eH (by rw[b];exact h1) d
def ua(s:ez P G.tt)(h:cK G.tt B E Pp st.o w)(hs:∀t,VR G.tt E Pp (a.tmps.getD t undef) (look st.s t))(j:o.op= .mapUpdate t m k x\/o.op= .insert t m k x)
 (hc:rI dS G t m k x st (K .undef)):o.wp P a w (dK G.tt B (G.eh,G.live) E Pp st.o w o a K) Q:=by
 unfold rI at hc;split at hc
 ·rename_i ti p;cases hb:isMap ti with
  |false=>rw[hb]at hc;exact hc.elim
  |true=>
   rw[hb]at hc;simp only[cond_true]at hc;split at hc
   ·rename_i N q i y;split at hc
    ·rename_i kc l;cases g:jR kc (fG G.tt st.s (ti.ar-1) k)with
     |false=>rw[g]at hc;exact hc.elim
     |true=>
      rw[g]at hc;simp only[cond_true]at hc;split at hc
      ·rename_i r F;split at hc
       ·rename_i cs c;split at hc
        ·rename_i C k' n L;cases b:(Hf C k'&&vw C n cs)with
         |false=>rw[b]at hc;exact hc.elim
         |true=>rw[b]at hc;rw[bn]at b;have u:=zn b.1;subst u;exact G6 s h hs j p hb i l L F c b.2 hc
        ·exact hc.elim
       ·rename_i v e d c;cases b:(decide (kc=v)&&nb e ti.el&&iC 0 (bY q.bP)&&iN q.bP (cQ (nN st.o 8) (flat (fG G.tt st.s ti.el x)))&&gF ib (flat (fG G.tt st.s ti.el x))&&zZ q.agg (fG G.tt st.s ti.el x)&&ew (eT (ids st.o 8) (flat (fG G.tt st.s ti.el x))))with
        |false=>rw[b]at hc;exact hc.elim
        |true=>rw[b]at hc;simp only[bn,decide_eq_true_eq,cL]at b;obtain⟨⟨⟨⟨⟨⟨u,A⟩,D⟩,J⟩,I⟩,H⟩,M⟩:=b;have A:=cX A;have D:0+1<=q.bP.length:=dX D;subst u A;exact Kc s h hs j p hb i y l g F c yO J I H M hc
       ·exact hc.elim
      ·exact hc.elim
    ·exact hc.elim
   ·exact hc.elim
 ·exact hc.elim
def wE(c:ez P G.tt)(h:cK G.tt B E Pp st.o w)(hs:∀t,VR G.tt E Pp (a.tmps.getD t undef) (look st.s t))(b:o.op= .mapUpdate t m k x\/o.op= .insert t m k x)
 (hc:vC dS G t m k x st (K .undef)):o.wp P a w (dK G.tt B (G.eh,G.live) E Pp st.o w o a K) Q:=by
 unfold vC at hc;split at hc
 ·rename_i ti p;split at hc
  ·rename_i j s;obtain⟨Pp',h1,h2,h3,_⟩:=AX j h hs;refine Oper.wp_mono ?_ (ua (K:=K) c h1 h3 b hc);rintro u w' ⟨d,E',g,v,pv,e1,e2,e3,e4,e5,_,e7⟩;refine⟨d,E',g,v,pv,e1,e2,e3,e4,e5,λi=>?_,λad v l=>e7 _ _ (h2 _ _ l)⟩;rcases b with b|b<;>rw[b]at i<;>cases i
  ·exact ua c h hs b hc
 ·exact hc.elim
def yo(h:xj q=true){d kd:D}(g:dS.nh d kd=false){E:List RI}{Pp:fQ}{v:Value}(c:VR G.tt E Pp v (eX q (q.bP.map gT))):VR G.tt E Pp v (eX q (ir dS d kd 0 q.bP)):=by
 have i:∀j,dS.eY d kd j= .nil:=by
  intro j;have g:(cg d).any (eP kd)=false:=g;have:(cg d).find? (eP kd)=none:=by rw[gg];intro x l;rw[xx]at g;exact g x l
  simp[dS,this]
 unfold xj at h;split at h
 ·rename_i ha b;rw[b]at c ⊢;show VR _ _ _ _ (eX q [ta dS _ (dS.eY d kd 0)]);rw[i];exact c
 ·rename_i ha b;rw[b]at c ⊢;show VR _ _ _ _ (eX q [ta dS _ (dS.eY d kd 0)]);rw[i];exact c
 ·rename_i ha b;rw[b]at c ⊢;show VR _ _ _ _ (eX q [ta dS _ (dS.eY d kd 0)]);rw[i];simp only[eX,ha,List.map,cond_false]at c ⊢;cases c;exact .bool _
 ·rename_i ha b;rw[b]at c ⊢;show VR _ _ _ _ (eX q [ta dS _ (dS.eY d kd 0)]);rw[i];simp only[eX,ha,List.map,cond_false]at c ⊢;rename_i p e0;cases c;exact .dmp p _ _ _ (.CP _ _)
 ·cases h
def EJ(v:ez P G.tt)(h:cK G.tt B E Pp st.o w)(hs:∀t,VR G.tt E Pp (a.tmps.getD t undef) (look st.s t)){tr:List TypeId}(u:o.op= .call { callee:=.builtin .delete,args:=z,argTypes:=ts })(has:z.toList=[m,k])(g:ts.toList=t::tr)
 (hc:yZ dS G t m k st (K (.tup []))):o.wp P a w (dK G.tt B (G.eh,G.live) E Pp st.o w o a K) Q:=by
 unfold yZ at hc;split at hc
 ·rename_i ti s;cases hb:isMap ti with
  |false=>rw[hb]at hc;exact hc.elim
  |true=>
   rw[hb]at hc;simp only[cond_true]at hc;split at hc
   ·rename_i A l;split at hc
    ·rename_i kc i;cases c:jR kc (fG G.tt st.s (ti.ar-1) k)with
     |false=>rw[c]at hc;exact hc.elim
     |true=>
      rw[c]at hc;simp only[cond_true]at hc;split at hc
      ·rename_i r y;split at hc
       ·rename_i j e d p;cases b:decide (kc=j)with
        |false=>rw[b]at hc;exact hc.elim
        |true=>rw[b]at hc;simp only[decide_eq_true_eq]at b;subst b;exact Kd v h hs u has g s hb l i c y p hc
       ·exact hc.elim
      ·exact hc.elim
    ·exact hc.elim
   ·exact hc.elim
 ·exact hc.elim
def K9(h:cK G.tt B E Pp st.o w)(hs:∀t,VR G.tt E Pp (a.tmps.getD t undef) (look st.s t)){f:Operand}(p:o.op= .call { callee:=.value f,args:=z,argTypes:=ts })(L:∀g,f≠ .func g){i:Nat}(hi:ev st.s f= .kF i)
 (b:ew G.live=false) (hc:DJ (lU P G.tt) i (nr G st.s z.toList ts.toList) st K):o.wpIn (oX r0) 0 P a w (dK G.tt B (G.eh,G.live) E Pp st.o w o a K) Q:=by
 unfold DJ at hc;split at hc
 ·rename_i n ps c1 c2 s N;simp only[DJ.Mt]at hc;have hv:=mJ (G:=G) hs z.toList ts.toList;generalize X:reach st.o 64 (i::eT (oL 8) (nr G st.s z.toList ts.toList)) []=F at hc;have M:F[0]? =some i:=by rw[<- X];exact GP 63 _ _
  unfold qL at hc;cases hb:(jD F&&gF (λr=>iC r (bY st.o)) F)with
  |false=>rw[hb]at hc;exact hc.elim
  |true=>
   rw[hb]at hc;simp only[bn,cL]at hb;have hl:=CS (K:=K) h hs hv (oQ hb.1) (NL hb.2);have u:=fa hs f;rw[hi]at u;generalize J:a.eval f=vf at u;cases u with
   |kF _ l S=>
    obtain⟨ri,I,O⟩:=h.wr.ob i _ (di N rfl) rfl;rw[S]at I;cases I;obtain⟨rec,j,T,_⟩:=O;obtain⟨A,d⟩:=hc _ _ w _ l rec hl.1 (qH M S) j hl.2.1;refine⟨λ_ _=>trivial,?_⟩;have D:o.semAt r0 a.eval=execOp a.eval o:=Oper.semAt_eq _ _ _ (λc=>by rw[p];intro h;cases h);have H:z.map a.eval=⟨z.toList.map a.eval⟩:=by apply gL;simp
    have C:(execOp a.eval o).run P w= .ok (.round l rec.fn ((rec.params.zip (⟨z.toList.map a.eval⟩:Array Value)).foldl (λtmps (t,a)=>tmps.setIfInBounds t a) rec.tmps) rec.assign rec.body) w:=by have Z:=run_yield (P:=P) j (args:=⟨z.toList.map a.eval⟩) (yU A);simp[execOp,p,resolve,invoke,J,Deferred.ofValue,H];simpa using Z
    show o.uponIn (oX r0) 0 P a _ Q ((o.semAt r0 a.eval).run P w);rw[D,C];refine⟨λh=>by simp[oX,Fence.wide]at h,(Ek d).mono ?_⟩;intro e w' y;obtain⟨v,pv,s',o',E',Pp',rfl,q2,V,Y,W,U,_⟩:=hl.2.2 e w' y;refine dK.mk q2 V Y W (λy=>?_) U;exfalso;rw[p]at y;cases f<;>first|exact absurd rfl (L _)|(simp only[gi]at y;rw[y]at b;cases b)
 ·exact hc.elim
def FN(s:ez P G.tt)(hB:B.E0.length=G.n0)(h:cK G.tt B E Pp st.o w)(hs:∀t,VR G.tt E Pp (a.tmps.getD t undef) (look st.s t)){y:Operand}{C A:TypeId}
 (i:o.op= .call { callee:=.builtin .append,args:=z,argTypes:=ts }) (has:z.toList=[x,y]) (u:ts.toList=[C,A])
 {L N:TI} (h1:G.tt C=some L) (h2:G.tt A=some N) (p:eC L=some e) (l:P.underlying A=some (.slice e)\/P.underlying A=some .string) (v:G.tt e=some q) (j:q.bytes<=1024)
 {rows:List (List D)}{news:List Value} (M:Reads G.tt Pp w e (a.eval y) rows news) (hc:BY dS G e (SB G.tt st.s C x) (.list rows) st o K):
 o.wp P a w (dK G.tt B (G.eh,G.live) E Pp st.o w o a K) Q:=by
 have g:=Hs hs C x;unfold BY at hc;split at hc
 ·rename_i e4 r I;rw[I]at g;split at hc
  ·rename_i e5 d wr F;cases b:(nb e e4&&nb e e5&&iD G.n0 r)with
   |false=>rw[b]at hc;exact hc.elim
   |true=>rw[b]at hc;simp only[bn]at b;have H:=cX b.1.1;have S:=cX b.1.2;have T:=dX b.2;subst H S;obtain⟨c,hc⟩:=hc;exact Az s h hs i has u h1 h2 p l v j M g F yO (by have:=c.2;simpa[dS,cg]using this) hc
  ·exact hc.elim
 ·rename_i e4 d I;rw[I]at g;cases b:nb e e4 with
  |false=>rw[b]at hc;exact hc.elim
  |true=>
   rw[b]at hc;have H:=cX b;subst H;simp only[cond_true]at hc;obtain⟨c,hc⟩:=hc;refine AA s h hs i has u h1 h2 p l v j M g (by have:=c.2;simpa[dS,cg]using this) ?_;cases J:vA o.dst G.own with
   |true=>rw[J]at hc;obtain⟨O,hc⟩:=hc;refine .inl ⟨?_,hc⟩;have:=O.2;simpa[dS,cg]using this
   |false=>rw[J]at hc;exact .inr hc
 ·exact hc.elim
def Lv(s:ez P G.tt)(hB:B.E0.length=G.n0)(h:cK G.tt B E Pp st.o w)(hs:∀t,VR G.tt E Pp (a.tmps.getD t undef) (look st.s t))(hc:eB dS G (lU P G.tt) o st K)(hy:∀f z ts i,o.op= .call { callee:=.value f,args:=z,argTypes:=ts }->(∀g,f≠ .func g)->ev st.s f≠ .kF i):
 o.wp P a w (dK G.tt B (G.eh,G.live) E Pp st.o w o a K) Q:=by
 unfold eB at hc;split at hc
 ·
  rename_i t j;split at hc
  ·rename_i ti A;split at hc
   ·rename_i e ho he;exact Dp s h hs j A he hc
   ·cases hb:Ay ti (wW (bY st.o) ti.bP)with
    |false=>rw[hb]at hc;exact hc.elim
    |true=>rw[hb]at hc;exact AB s h hs j A (by rw[cL]at hb;exact xq A hb) hc
   ·cases hb:Ay ti (ti.bP.map gT)with
    |false=>rw[hb]at hc;exact hc.elim
    |true=>rw[hb]at hc;exact NJ s h hs j A (xq A hb) hc
  ·exact hc.elim
 ·
  rename_i t x j;split at hc
  ·rename_i ti A;cases hb:(nb (bY (flat (fG G.tt st.s t x))) (bY ti.bP)&&iC 0 (bY ti.bP)&&Ay ti (flat (fG G.tt st.s t x)))with
   |false=>rw[hb]at hc;exact hc.elim
   |true=>rw[hb]at hc;simp only[bn,cL]at hb;have h1:=cX hb.1.1;have h2:0+1<=ti.bP.length:=dX hb.1.2;exact SQ h hs j (by intro h0;rw[h0]at h1;simp at h1;omega) (xq A hb.2) hc
  ·exact hc.elim
 ·
  rename_i t x y j;split at hc
  ·exact hc.elim
  rename_i ti A;cases hb:(nb (bY (flat (fG G.tt st.s t y))) (bY ti.bP)&&gF ib (flat (fG G.tt st.s t y))&&iC 0 (bY ti.bP))with
  |false=>rw[hb]at hc;exact hc.elim
  |true=>
   rw[hb]at hc;simp only[bn,cL]at hb;have h1:=cX hb.1.1;have h2:0+1<=ti.bP.length:=dX hb.2;simp only[cond_true]at hc;split at hc
   ·rename_i b off J;split at hc
    ·rename_i cs H;simp only[cL]at hc;cases C:(iD off dC&&iD (off+ti.bP.length) cs.length&&P8 (od cs off (flat (fG G.tt st.s t y))) cs)with
     |false=>rw[C]at hc;exact hc.elim
     |true=>rw[C]at hc;rw[bn,bn]at C;exact Cr s h hs j A h1 yO hb.1.2 J H C.1.1 (dX C.1.2) C.2 hc
    ·exact hc.elim
   ·rename_i e r i off J;split at hc
    ·rename_i e' d H hm;cases C:(nb e e'&&ic G.tt e off ti.bP&&iN ti.bP (cQ (nN st.o 8) (flat (fG G.tt st.s t y)))&&ew (eT (ids st.o 8) (flat (fG G.tt st.s t y))))with
     |false=>rw[C]at hc;exact hc.elim
     |true=>rw[C]at hc;simp only[bn]at C;have he:=cX C.1.1.1;subst he;exact Cq s h hs j A h1 yO hb.1.2 J hm H C.1.1.2 C.1.2 C.2 hc
    ·exact hc.elim
   ·exact hc.elim
 ·
  rename_i t len ps j;split at hc
  ·exact hc.elim
  rename_i ti A;split at hc
  ·exact hc.elim
  rename_i e he;split at hc
  ·exact hc.elim
  rename_i q D;cases hb:(iD len 1000&&iD q.bP.length 1000&&iC 0 (bY q.bP))with
  |false=>rw[hb]at hc;exact hc.elim
  |true=>
   rw[hb]at hc;simp only[bn,cL]at hb;have h1:=dX hb.1.1;have h2:=dX hb.1.2;have h3:0+1<=q.bP.length:=dX hb.2;simp only[cond_true]at hc;split at hc
   ·rename_i ax;split at hc
    ·exact hc.elim
    rename_i l hl;split at hc
    ·cases hb:Ay q l with
     |false=>rw[hb]at hc;exact hc.elim
     |true=>rw[hb]at hc;exact Dk s h hs j A he D h1 (by rw[ax];rfl) hl (xq D hb) hc
    ·exact FE s h hs j A he D h1 (by rw[ax];rfl) hl rfl hc
   split at hc
   ·exact hc.elim
   rename_i rows an;refine Aw s h hs j A he D h1 h2 yO an rfl ?_;cases ho:vA o.dst G.own with
   |true=>
    rw[ho]at hc;simp only[cond_true]at hc;cases W:ew (eT (ids st.o 8) (eT (λp=>flat (fG G.tt st.s e p.2)) ps.toList))with
    |false=>rw[W]at hc;exact hc.elim
    |true=>rw[W]at hc;exact .inl ⟨rfl,.inl hc⟩
   |false=>
    rw[ho]at hc;simp only[cond_false]at hc;cases W:ew (eT (ids st.o 8) (eT (λp=>flat (fG G.tt st.s e p.2)) ps.toList))with
    |false=>rw[W]at hc;exact .inr hc
    |true=>rw[W]at hc;exact .inl ⟨rfl,.inr hc⟩
 ·
  rename_i z ts j;split at hc
  ·rename_i x y t1 t2 has Z;split at hc
   ·rename_i i1 i2 h1 h2;split at hc
    ·rename_i e aw;split at hc
     ·rename_i e2 aF;cases hb:nb e e2 with
      |false=>rw[hb]at hc;exact hc.elim
      |true=>
       rw[hb]at hc;have:=cX hb;subst this;simp only[cond_true]at hc;split at hc
       ·exact hc.elim
       rename_i q D;cases C:(iD q.bytes 1024&&iC 0 (bY q.bP))with
       |false=>rw[C]at hc;exact hc.elim
       |true=>
        rw[C]at hc;simp only[bn]at C;have aC:=dX C.1;simp only[cond_true]at hc;obtain⟨e3,rows,news,hc,hR⟩:=Reads.Sa h.wr (iL hs t2 y) hc;cases F:nb e e3 with
        |false=>rw[F]at hc;exact hc.elim
        |true=>rw[F]at hc;have:=cX F;subst this;simp only[cond_true]at hc;exact FN s hB h hs j has Z h1 h2 aw (.inl ((s _ _ h2).slice aF).1) D aC hR hc
     ·split at hc
      ·rename_i q u D hu;cases hb:(isStr i2&&Sn q&&iD q.bytes 1024)with
       |false=>rw[hb]at hc;exact hc.elim
       |true=>
        rw[hb]at hc;simp only[bn]at hb;simp only[cond_true]at hc;have N:=iL hs t2 y;rw[hu]at N
        have aI:bN G.tt e=[.int .u8]:=by
         have h8:=hb.1.2;unfold Sn ug at h8;unfold bN;rw[D];simp only;split at h8
         ·rename_i h9;split at h9
          ·rename_i hk;cases h9;exact hk
          ·cases h9
         ·cases h8
        generalize hy:a.eval y=vy at N;cases N with
        |str b=>exact FN s hB h hs j has Z h1 h2 aw (.inr ((s _ _ h2).str hb.1.1)) D (dX hb.2) (by rw[hy];exact Reads.R9 aI b) hc
      ·exact hc.elim
    ·exact hc.elim
   ·exact hc.elim
  ·exact hc.elim
 ·
  rename_i x j;cases hb:(vA o.dst G.own&&lO x)with
  |false=>rw[hb]at hc;exact mF s h hs (yU hc)
  |true=>
   rw[hb]at hc;simp only[bn]at hb;simp only[cond_true]at hc;split at hc
   ·exact G0 h hs j hb.2 hc
   ·exact hc.elim
 ·
  rename_i t j;split at hc
  ·rename_i e r ar hl;split at hc
   ·rename_i e' d wr H;cases hb:nb e e' with
    |false=>rw[hb]at hc;exact hc.elim
    |true=>rw[hb]at hc;exact SF h hs j hl hc
   ·exact hc.elim
  ·exact mF s h hs hc
 ·
  rename_i t ps j;cases hb:vA o.dst G.own with
  |false=>rw[hb]at hc;exact mF s h hs (yU hc)
  |true=>
   rw[hb]at hc;simp only at hc;split at hc
   ·rename_i ti A;cases am:(ti.agg&&nb ti.ar 0)with
    |false=>rw[am]at hc;exact hc.elim
    |true=>
     rw[am]at hc;simp only at hc;split at hc
     ·rename_i cs aG;exact Eu s h hs j A am aG hc
     ·exact hc.elim
   ·exact hc.elim
 ·
  rename_i t tx lo W mx j;split at hc
  ·rename_i e r hl;split at hc
   ·rename_i ar;split at hc
    ·rename_i y0;split at hc
     ·rename_i ti q e' d wr A D H;split at hc
      ·rename_i e0 V;cases hb:(nb e0 e&&nb e e'&&iD G.n0 r)with
       |false=>rw[hb]at hc;exact hc.elim
       |true=>rw[hb]at hc;simp only[cond_true]at hc;simp only[bn]at hb;obtain⟨⟨X,C⟩,F⟩:=hb;obtain rfl:=cX X;obtain rfl:=cX C;obtain⟨l,⟨M,hc⟩,L⟩:=iP hs hc;refine Ei s h hs j A V D (di H rfl) (by have:=hs tx;rw[hl]at this;exact this) (by rw[hB];exact dX F) M.1 M.2 L hc
      ·exact hc.elim
     ·exact hc.elim
    ·rename_i y0;split at hc
     ·rename_i ti q e' d aJ A D H;split at hc
      ·rename_i e0 V;cases hb:(nb e0 e&&nb e e'&&iD G.n0 r)with
       |false=>rw[hb]at hc;exact hc.elim
       |true=>
        rw[hb]at hc;simp only[cond_true]at hc;simp only[bn]at hb;obtain⟨⟨X,C⟩,F⟩:=hb;obtain rfl:=cX X;obtain rfl:=cX C;obtain⟨l,⟨af,M,hc⟩,L⟩:=iP hs hc;obtain⟨L,_⟩|⟨y1,k1,ag,ak⟩:=L
        ·cases L
        ·cases ag;exact Ej s h hs j A V D (di H rfl) (by have:=hs tx;rw[hl]at this;exact this) (by rw[hB];exact dX F) af.2 M.1 M.2 ak aJ hc
      ·exact hc.elim
     ·exact hc.elim
    ·exact hc.elim
   split at hc
   ·split at hc
    ·rename_i y0;split at hc
     ·rename_i ti q e' d wr A D H;split at hc
      ·rename_i e0 V;cases hb:(nb e0 e&&nb e e')with
       |false=>rw[hb]at hc;exact hc.elim
       |true=>
        rw[hb]at hc;simp only[cond_true]at hc;simp only[bn]at hb;obtain⟨X,C⟩:=hb;obtain rfl:=cX X;obtain rfl:=cX C;obtain⟨l,⟨af,M,hc⟩,L⟩:=iP hs hc;obtain⟨L,_⟩|⟨y1,k1,ag,ak⟩:=L
        ·cases L
        ·cases ag;exact GH s h hs j A V D (di H rfl) (by have:=hs tx;rw[hl]at this;exact this) af.2 M.1 M.2 ak hc
      ·exact hc.elim
     ·exact hc.elim
    ·exact hc.elim
   have h1:=h.nM [r];have aD:∀t,VR G.tt E (gQ G.tt E st.o w Pp [r]) (a.tmps.getD t undef) (look st.s t):=λt=>(hs t).mono (λ_ _ h=>h) (λ_ _ h=>.inl h);have ai:=mF (st:=⟨st.s,fz [r] 0 st.o⟩) (K:=K) (Q:=Q) s h1 aD (o:=o) hc;refine Oper.wp_mono ?_ ai;rintro a' w' ⟨ao,E',Pp',v,pv,e1,e2,e3,e4,e5,e6,e7⟩;exact⟨ao,E',Pp',v,pv,e1,e2,e3,e4,e5,λI ad v N=>e6 I ad v (N.nM [r]),λad v N=>e7 ad v (.inl N)⟩
  ·exact mF s h hs hc
 ·
  rename_i t x y j;split at hc
  ·rename_i ti A;split at hc
   ·rename_i e he;split at hc
    ·rename_i q D;split at hc
     ·rename_i k l k' c J hy;cases hb:(iD q.bytes 1024&&iC 0 (bY q.bP))with
      |false=>rw[hb]at hc;exact hc.elim
      |true=>rw[hb]at hc;simp only[bn,cL]at hb;have h3:0+1<=q.bP.length:=dX hb.2;obtain⟨q1,q2,hc⟩:=hc;exact CR s h hs j A he D (dX hb.1) yO J hy q1 q2 hc
     ·exact hc.elim
    ·exact hc.elim
   ·exact hc.elim
  ·exact hc.elim
 ·
  rename_i t j;split at hc
  ·rename_i ti A;cases hb:isMap ti with
   |false=>rw[hb]at hc;exact hc.elim
   |true=>
    rw[hb]at hc;simp only[cond_true]at hc;split at hc
    ·split at hc
     ·split at hc
      ·exact EL h hs j hc
      ·exact G7 h hs j rfl hc
     ·exact hc.elim
    ·exact hc.elim
  ·exact hc.elim
 ·
  rename_i t m k ok j;split at hc
  ·rename_i ti A;cases hb:isMap ti with
   |false=>rw[hb]at hc;exact hc.elim
   |true=>
    rw[hb]at hc;simp only[cond_true]at hc;split at hc
    ·rename_i ki q T D;split at hc
     ·rename_i kc U;cases C:jR kc (fG G.tt st.s (ti.ar-1) k)with
      |false=>rw[C]at hc;exact hc.elim
      |true=>
       rw[C]at hc;simp only[cond_true]at hc;split at hc
       ·rename_i r J;split at hc
        ·rename_i cs H;split at hc
         ·rename_i kk k' n hn;cases F:Hf kk k' with
          |false=>rw[F]at hc;exact hc.elim
          |true=>
           rw[F]at hc;have q1:=zn F;subst q1;simp only[cond_true]at hc;split at hc
           ·rename_i p hg;exact zb s h hs j A hb T D U hn J H hg hc
           ·rename_i hg;refine zb s h hs j A hb T D U hn J H hg ?_;cases hf:zp q with
            |false=>rw[hf]at hc;exact hc.elim
            |true=>rw[hf]at hc;exact⟨rfl,hc⟩
           ·exact hc.elim
         ·exact hc.elim
        ·rename_i aE e d H;cases F:(decide (kc=aE)&&nb e ti.el&&iC 0 (bY q.bP))with
         |false=>rw[F]at hc;exact hc.elim
         |true=>
          rw[F]at hc;simp only[bn,decide_eq_true_eq]at F;obtain⟨⟨q1,q2⟩,q3⟩:=F;have q2:=cX q2;subst q1 q2;simp only[cond_true]at hc;split at hc
          ·rename_i ah;simp only[Bu]at hc;exact Bs (p0:=eX q (ir dS d (lN (fG G.tt st.s (ti.ar-1) k)) 0 q.bP)) s h hs j A hb T D U C J H (λ_=>hc) (λae {_ _ _} N=>yo ah ae N) (λ_=>hc)
          ·exact Bs s h hs j A hb T D U C J H hc.1 (λ_ {_ _ _} h=>h) hc.2
        ·exact hc.elim
       ·rename_i e d J;cases F:(decide (kc=CK.str)&&nb e ti.el&&iC 0 (bY q.bP))with
        |false=>rw[F]at hc;exact hc.elim
        |true=>
         rw[F]at hc;simp only[bn,decide_eq_true_eq]at F;obtain⟨⟨q1,q2⟩,q3⟩:=F;have q2:=cX q2;subst q2;simp only[cond_true]at hc;split at hc
         ·rename_i ah;simp only[Bu]at hc;exact zc (p0:=eX q (ir dS d (lN (fG G.tt st.s (ti.ar-1) k)) 0 q.bP)) s h hs j A hb T D U C J q1 (λ_=>hc) (λae {_ _ _} N=>yo ah ae N) (λ_=>hc)
         ·exact zc s h hs j A hb T D U C J q1 hc.1 (λ_ {_ _ _} h=>h) hc.2
       ·exact hc.elim
     ·exact hc.elim
    ·exact hc.elim
  ·exact hc.elim
 ·rename_i t m k x j;exact wE s h hs (.inl j) hc
 ·rename_i t m k x j;exact wE s h hs (.inr j) hc
 ·
  rename_i z ts j;split at hc
  ·rename_i m k t tr has Z;exact EJ s h hs j has Z hc
  ·exact hc.elim
 ·
  rename_i t m j;split at hc
  ·rename_i ti A;cases hb:isMap ti with
   |false=>rw[hb]at hc;exact hc.elim
   |true=>
    rw[hb]at hc;simp only[cond_true]at hc;split at hc
    ·rename_i r J;split at hc
     ·rename_i kc e d H;exact LZ s h hs j A hb J H hc
     ·exact hc.elim
    ·rename_i e d J;cases F:nb e ti.el with
     |false=>rw[F]at hc;exact hc.elim
     |true=>rw[F]at hc;exact JX s h hs j A hb J hc
    ·exact hc.elim
  ·exact hc.elim
 ·
  rename_i it str j;cases str with
  |true=>exact hc.elim
  |false=>
   simp only[cond_false]at hc;split at hc
   ·rename_i i J;split at hc
    ·rename_i m seen O;split at hc
     ·rename_i kc e d al;split at hc
      ·rename_i q D;cases hb:iC 0 (bY q.bP)with
       |false=>rw[hb]at hc;exact hc.elim
       |true=>rw[hb]at hc;exact mNx.1 s h hs j J O al D hc.1 hc.2
      ·exact hc.elim
     ·exact hc.elim
    ·rename_i e d seen O;split at hc
     ·rename_i q D;cases hb:iC 0 (bY q.bP)with
      |false=>rw[hb]at hc;exact hc.elim
      |true=>rw[hb]at hc;exact mNx.2 s h hs j J O D hc.1 hc.2
     ·exact hc.elim
    ·exact hc.elim
   ·exact hc.elim
 ·
  rename_i it j;split at hc
  ·rename_i i J;split at hc
   ·rename_i m seen O;split at hc
    ·rename_i kc e d al;split at hc
     ·rename_i q D;cases hb:iC 0 (bY q.bP)with
      |false=>rw[hb]at hc;exact hc.elim
      |true=>rw[hb]at hc;exact mEn.1 s h hs j J O al D hc.1 hc.2.1 hc.2.2
     ·exact hc.elim
    ·exact hc.elim
   ·rename_i e d seen O;split at hc
    ·rename_i q D;cases hb:iC 0 (bY q.bP)with
     |false=>rw[hb]at hc;exact hc.elim
     |true=>rw[hb]at hc;exact mEn.2 s h hs j J O D hc.1 hc.2.1 hc.2.2
    ·exact hc.elim
   ·exact hc.elim
  ·exact hc.elim
 ·
  rename_i f z ts j
  have ac:(execOp a.eval o).run P w=(callFunc f ⟨z.toList.map a.eval⟩).run P w:=by
   have:z.map a.eval=⟨z.toList.map a.eval⟩:=by apply gL;simp
   simp[execOp,j,resolve,invoke,Act.eval,this,Deferred.ofValue]
  split at hc
  ·rename_i Y;simp only[bn]at Y;rw[cL,eU]at hc;obtain⟨E',h1,h2,h3⟩:=pz (a:=a) (st:=st) z.toList ts.toList h hs
   have ai:=rR (st:=⟨st.s,st.o++oh G z.toList ts.toList⟩) (f:=f) (kp:=true) (Q:=Q) s h1 (λt=>(hs t).mono h2 (λ_ _ h=>h)) h3 ac hc (λI=>by
    rw[j]at I;simp only[gi]at I;cases hm:eI f G.eh with
    |true=>rw[hm]at I;simp at I
    |false=>rw[hm]at Y;cases Y.2)
   refine Oper.wp_mono ?_ ai;rintro a' w' ⟨ao,E2,Pp',v,pv,e1,e2,e3,e4,e5,e6,e7⟩;refine⟨ao,E2,Pp',v,pv,e1,e2,e3,e4,e5,λI=>?_,e7⟩;rw[j]at I;simp only[gi,Y.2,cond_true]at I;cases I
  have N:=Ht (G:=G) hs f z.toList ts.toList
  refine rR (f:=f) (kp:=true) s h hs N ac hc (λI=>by
   rw[j]at I;simp only[gi]at I;cases hm:eI f G.eh with
   |true=>rw[hm]at I;simp at I
   |false=>
    rw[hm]at I;cases aA:eI f G.live with
    |true=>rw[aA]at I;simp at I
    |false=>exact⟨rfl,rfl⟩)
 ·
  rename_i f z ts _ j;split at hc
  ·rename_i g gU hf;have aj:=fa hs f;rw[hf]at aj;generalize au:a.eval f=vf at aj;cases aj with
   |cu _ _ vs _ hu oV=>
    have S:gi (G.eh,G.live) o.op=true->eI g G.live=false/\eI (g-kB) G.live=false:=by
     intro I;rw[j]at I;cases f with
     |func g'=>rename_i az;exact absurd rfl (az g')
     |_=>simp only[gi]at I;have:=ke I;simp[this,eI]
    split at hc
    ·rename_i aq;have hu:=hu.get aq;subst hu;have N:=(mJ (G:=G) hs z.toList ts.toList).append oV;rw[eU]at hc;refine rR (f:=g) (kp:=false) s h hs N ?_ hc (λI=>⟨rfl,(S I).1⟩);have:z.map a.eval++⟨vs⟩=⟨z.toList.map a.eval++vs⟩:=by apply gL;simp
     simp[execOp,j,resolve,invoke,au,this,Deferred.ofValue]
    ·rename_i aq;have hu:=hu.YB aq;subst hu;have N:=oV.append (mJ (G:=G) hs z.toList ts.toList);rw[eU]at hc;refine rR (f:=g-kB) (kp:=false) s h hs N ?_ hc (λI=>⟨rfl,(S I).2⟩);have:(⟨vs⟩:Array Value)++z.map a.eval=⟨vs++z.toList.map a.eval⟩:=by apply gL;simp
     simp[execOp,j,resolve,invoke,au,this,Deferred.ofValue]
  ·rename_i i W;refine absurd W (hy f z ts i j ?_);intro g e;subst e;simp only[ev]at W;cases hb:iC g kB<;>rw[hb]at W<;>cases W
  ·exact hc.elim
 ·exact mF s h hs hc
def Ao(hc:eB dS G (lU P G.tt) o st K):∀c,o.op≠ .defer c:=by intro c h;unfold eB at hc;rw[h]at hc;simp[cH]at hc
def DZ(j:ez P G.tt)(hB:B.E0.length=G.n0)(h:cK G.tt B E Pp st.o w)(hs:∀t,VR G.tt E Pp (a.tmps.getD t undef) (look st.s t))(hc:eB dS G (lU P G.tt) o st K):
 o.wpIn (oX r0) 0 P a w (dK G.tt B (G.eh,G.live) E Pp st.o w o a K) Q:=by
 by_cases l:∃f z ts i,o.op= .call { callee:=.value f,args:=z,argTypes:=ts }/\(∀g,f≠ .func g)/\ev st.s f= .kF i
 ·obtain⟨f,z,ts,i,c,d,p⟩:=l
  have b:ew G.live=false/\DJ (lU P G.tt) i (nr G st.s z.toList ts.toList) st K:=by
   unfold eB at hc;rw[c]at hc;cases f with
   |func g=>exact absurd rfl (d g)
   |_=>
    simp only[p]at hc;cases hl:ew G.live with
    |true=>rw[hl]at hc;exact hc.elim
    |false=>rw[hl]at hc;exact⟨rfl,hc⟩
  exact K9 h hs c d p b.1 b.2
 ·exact T7 (Ao hc) (Lv j hB h hs hc λf z ts i h1 h2 h3=>l ⟨f,z,ts,i,h1,h2,h3⟩)
end
end
section
variable [Inhabited pY]
open Go
section
variable {r:Option Nat}{P:Program}{g:Array Oper}{D:Nat->Bool}{Q:Exit->Act->World->Prop}
variable {J:World->Prop}{w:World}{oi oj:Oper}{a:Act}{j:Nat}{K:Act->World->Prop}{v:Value}
def iH(r:Option Nat)(P:Program)(g:Array Oper)(D:Nat->Bool)(Q:Exit->Act->World->Prop)(J:World->Prop):Nat->Array Bool->Act->World->Prop
 |0,listed,a,w=>J w/\Region.ready .any g listed=[]/\Q .normal a w
 |n+1,listed,a,w=>J w/\(Region.ready .any g listed=[]->Q .normal a w)/\∀i∈Region.ready .any g listed,wpOpIn (oX r) 0 P g Q i (λb w'=>if D i then wpAnyIn (oX r) 0 P .any g Q n (listed.setIfInBounds i true) b w' else iH r P g D Q J n (listed.setIfInBounds i true) b w') a w
def iH.holds{n:Nat}{listed:Array Bool}(h:iH r P g D Q J n listed a w):J w:=by cases n<;>exact h.1
def iH.any:∀{n:Nat}{listed:Array Bool}{a:Act}{w:World},iH r P g D Q J n listed a w->wpAnyIn (oX r) 0 P .any g Q n listed a w
 |0,_,_,_,h=>h.2
 |n+1,listed,a,w,h=>⟨h.2.1,λi d=>wpOpIn_mono (λe w' b=>by
  cases c:D i with
  |true=>rw[c]at b;exact b
  |false=>rw[c]at b;exact iH.any b) (h.2.2 i d)⟩
def iH.mono{d:World->Prop}(c:∀w,J w->d w):∀{n:Nat}{listed:Array Bool}{a:Act}{w:World},iH r P g D Q J n listed a w->iH r P g D Q d n listed a w
 |0,_,_,_,h=>⟨c _ h.1,h.2⟩
 |n+1,listed,a,w,h=>⟨c _ h.1,h.2.1,λi f=>wpOpIn_mono (λk w' b=>by
  cases e:D i with
  |true=>rw[e]at b;exact b
  |false=>rw[e]at b;exact iH.mono c b) (h.2.2 i f)⟩
def uF(P:Program)(g:Array Oper)(J:World->Prop)(o:Oper)(v:Value)(a:Act):Prop:=(Region.wanted o (yielded g a.tmps)=true/\∀w,J w->(execOp a.eval o).run P w= .ok (.value v) w)\/(Region.wanted o (yielded g a.tmps)=false/\v=undef)
def PG{b:Act}(q:g[j]? =some oj)(gx:∀c,oj.op≠ .defer c)(o:∀d,oj.dst=some d->d∉oi.looksAt g)(i:∀cs b,oi.op≠ .select cs b)(h:wpOpIn (oX r) 0 P g Q j K b w):
 wpOpIn (oX r) 0 P g Q j (λb' w'=>K b' w'/\execOp b'.eval oi=execOp b.eval oi/\Region.wanted oi (yielded g b'.tmps)=Region.wanted oi (yielded g b.tmps)) b w:=by
 have key:∀u,execOp (b.put oj.dst u).eval oi=execOp b.eval oi/\Region.wanted oi (yielded g (b.put oj.dst u).tmps)=Region.wanted oi (yielded g b.tmps):=λu=>⟨execOp_put oi i b oj.dst u o,wanted_put oi b oj.dst u o⟩;have k:∀(ds:List Deferred) u,execOp (({ b with defers:=ds }:Act).put oj.dst u).eval oi=execOp b.eval oi/\Region.wanted oi (yielded g (({ b with defers:=ds }:Act).put oj.dst u).tmps)=Region.wanted oi (yielded g b.tmps):=λds u=>⟨execOp_put oi i { b with defers:=ds } oj.dst u o,wanted_put oi { b with defers:=ds } oj.dst u o⟩;unfold wpOpIn at*;simp only[q]at*;split
 ·rename_i p;simp only[p,if_true]at h;refine⟨h.1,?_⟩;have h:=h.2;rw[Oper.semAt_eq _ _ _ gx]at h ⊢;generalize (execOp b.eval oj).run P w=res at*;cases res with
  |ok n w'=>
   cases n<;>simp only[Oper.uponIn]at h ⊢
   case value u=>exact⟨h,key u⟩
   case skip=>exact⟨h,key _⟩
   case defer d=>exact⟨h,k _ _⟩
   case enter f args=>
    refine⟨h.1,CallsIn.mono h.2 λe m he=>?_⟩;cases e with
    |returned u=>exact⟨he,key u⟩
    |panicked c=>exact he
    |outgrown=>exact he
   case row row args=>exact⟨h.1,RowsIn.mono h.2 λu m he=>⟨he,key u⟩⟩
   case round l f tmps assign body=>
    refine⟨h.1,RoundIn.mono h.2 λe m he=>?_⟩;cases e with
    |returned u=>exact⟨he,key u⟩
    |panicked c=>exact he
    |outgrown=>exact he
  |halt x w'=>cases x<;>simp only[Oper.uponIn]at h ⊢;exact h
 ·rename_i p;simp only[p]at h;exact⟨h.1,h.2,key _⟩
def R6(t:g[j]? =some oj)(gx:∀c,oj.op≠ .defer c)(o:oi.apart g oj=true)(q:∀cs b,oj.op≠ .select cs b)(p:∀c a w,¬Q (.panic c) a w)
 (h:wpOpIn (oX r) 0 P g Q j K (a.put oi.dst v) w):wpOpIn (oX r) 0 P g Q j (λy w'=>K (y.put oi.dst v) w') a w:=by
 obtain⟨h1,h2,_⟩:=Oper.apart_spec o;have i:∀(b:Act) u,(b.put oi.dst v).put oj.dst u=(b.put oj.dst u).put oi.dst v:=λb u=>Act.put_comm b v u h2;unfold wpOpIn at*;simp only[t]at*;rw[wanted_put oj a oi.dst v h1]at h;split
 ·rename_i m;simp only[m,if_true]at h;refine⟨λ_ _=>trivial,?_⟩;have h:=h.2;rw[Oper.semAt_eq _ _ _ gx,execOp_put oj q a oi.dst v h1]at h;rw[Oper.semAt_eq _ _ _ gx];generalize s:(execOp a.eval oj).run P w=res at*;cases res with
  |ok n w'=>
   cases n<;>simp only[Oper.uponIn]at h ⊢
   case value u=>rw[<- i];exact h
   case skip=>rw[<- i];exact h
   case defer d=>rw[<- i,<-Act.put_defers];exact h
   case enter f args=>
    refine⟨h.1,CallsIn.mono h.2 λe k he=>?_⟩;cases e with
    |returned u=>simp only at he ⊢;rw[i]at he;exact he
    |panicked c=>exact(p _ _ _ he).elim
    |outgrown=>exact he
   case row row args=>exact⟨h.1,RowsIn.mono h.2 λu k he=>by rw[i]at he;exact he⟩
   case round l f tmps assign body=>
    refine⟨h.1,RoundIn.mono h.2 λe k he=>?_⟩;cases e with
    |returned u=>simp only at he ⊢;rw[i]at he;exact he
    |panicked c=>exact(p _ _ _ he).elim
    |outgrown=>exact he
  |halt x w'=>
   cases x<;>simp only[Oper.uponIn]at h ⊢
   case panic u=>exact(p _ _ _ h).elim
 ·rename_i m;simp only[m]at h;refine⟨λ_ _=>trivial,?_⟩;rw[<- i];exact h.2
def B7{i:Nat}(L:g[i]? =some oi)(p:∀(j:Nat)(o:Oper) cs b,g[j]? =some o->o.op≠ .select cs b)(gx:∀(j:Nat)(o:Oper) c,g[j]? =some o->o.op≠ .defer c)(hQ:∀c a w,¬Q (.panic c) a w)(hD:D i=false)(l:∀d,oi.dst=some d->d∉oi.looksAt g)(Z:List Nat)(V:∀z∈Z,∀oz,g[z]? =some oz->∃e∈oz.after,Region.binds .any e=true/\(e.on=i\/e.on∈Z)):
 ∀(fuel:Nat)(listed:Array Bool)(a:Act)(w:World),
  (∀z∈Z,listed.getD z false=false)->(∀j oj,g[j]? =some oj->j≠i->listed.getD j true=false->j∉Z->oi.apart g oj=true/\D j=false)->
  i∈Region.ready .any g listed->uF P g J oi v a->J w->iH r P g D Q J fuel (listed.setIfInBounds i true) (a.put oi.dst v) w->iH r P g D Q J (fuel+1) listed a w:=by
 have f:∀(fuel:Nat)(listed:Array Bool)(a:Act)(w:World),uF P g J oi v a->J w->iH r P g D Q J fuel (listed.setIfInBounds i true) (a.put oi.dst v) w->
  wpOpIn (oX r) 0 P g Q i (λu w'=>if D i then wpAnyIn (oX r) 0 P .any g Q fuel (listed.setIfInBounds i true) u w' else iH r P g D Q J fuel (listed.setIfInBounds i true) u w') a w:=by
  intro fuel listed a w C B H;unfold wpOpIn;simp only[L,hD];rcases C with⟨hw,hv⟩|⟨hw,rfl⟩
  ·simp only[hw,if_true];refine⟨λ_ _=>trivial,?_⟩;rw[Oper.semAt_eq _ _ _ (λc=>gx i oi c L),hv w B];exact H
  ·simp only[hw,cA,if_false];exact⟨λ_ _=>trivial,H⟩
 intro fuel;induction fuel with
 |zero=>
  intro listed a w _ _ hr C B H;refine⟨B,λh=>(by rw[h]at hr;cases hr),λj O=>?_⟩;by_cases m:j=i
  ·subst m;exact f 0 listed a w C B H
  ·have:=ready_mono O m;rw[H.2.1]at this;cases this
 |succ fuel ih=>
  intro listed a w G q hr C B H;refine⟨B,λh=>(by rw[h]at hr;cases hr),λj O=>?_⟩;by_cases m:j=i
  ·subst m;exact f _ listed a w C B H
  ·have h1:=H.2.2 j (ready_mono O m);obtain⟨x,oj,n,A⟩:=mem_ready.1 O
   have ab:listed.getD i false=false:=by
    have h0:=(mem_ready.1 hr).1;rcases bR i listed.size with U|U
    ·rw[cO]at h0 ⊢;simp[U]at h0 ⊢;exact h0
    ·rw[cO,cR U];rfl
   have y:j∉Z:=λhz=>by
    obtain⟨e,he,hb,h0|h0⟩:=V j hz oj n
    ·have h1:=A e he hb;rw[h0,ab]at h1;cases h1
    ·have h1:=A e he hb;rw[G _ h0]at h1;cases h1
   obtain⟨W,F⟩:=q j oj n m x y;simp only[F,cA,if_false]at h1;obtain⟨a1,a2,a3⟩:=Oper.apart_spec W;let s:Oper:={ oi with op:=.move (.const v),guard:=none }
   have N:s.apart g oj=true:=by
    have hl:s.looksAt g=[]:=rfl;unfold Oper.apart;simp only[hl];have aa:s.dst=oi.dst:=rfl;rw[aa];cases hd:oi.dst with
    |none=>cases oj.dst<;>rfl
    |some d=>
     have b1:=a1 d hd;have b2:=a2 d hd;cases Y:oj.dst with
     |none=>simp[b1]
     |some d'=>rw[Y]at b2;simp[b1];exactλh=>b2 (by rw[h])
   have h2:=PG (oi:=oi) (b:=a.put oi.dst v) n (λc=>gx j oj c n) a3 (λcs b=>p i oi cs b L) h1;have h3:=R6 (oi:=s) n (λc=>gx j oj c n) N (λcs b=>p j oj cs b n) hQ h2;simp only[F,cA,if_false];refine wpOpIn_mono (λu w' h4=>?_) h3;obtain⟨h5,h6,h7⟩:=h4
   have t:∀k ok,g[k]? =some ok->k≠i->(listed.setIfInBounds j true).getD k true=false->
    k∉Z->oi.apart g ok=true/\D k=false:=λk ok hk S M R=>by
    refine q k ok hk S ?_ R;by_cases E:j=k
    ·subst E;exact x
    ·rw[getD_set_ne true E]at M;exact M
   have e0:s.dst=oi.dst:=rfl;rw[e0]at h5 h6 h7
   have T:uF P g J oi v u:=by
    have e1:execOp u.eval oi=execOp a.eval oi:=by rw[<- execOp_put oi (λcs b=>p i oi cs b L) u oi.dst v l,h6,execOp_put oi (λcs b=>p i oi cs b L) a oi.dst v l]
    have e2:Region.wanted oi (yielded g u.tmps)=Region.wanted oi (yielded g a.tmps):=by rw[<- wanted_put oi u oi.dst v l,h7,wanted_put oi a oi.dst v l]
    unfold uF at*;rw[e1,e2];exact C
   rw[Array.setIfInBounds_comm _ _ (dZ m)]at h5;have I:∀z∈Z,(listed.setIfInBounds j true).getD z false=false:=λz hz=>by have X:j≠z:=λe=>y (by rw[e];exact hz);rw[getD_set_ne false X];exact G z hz
   exact ih (listed.setIfInBounds j true) u w' I t (ready_mono hr (dZ m)) T h5.holds h5
end
end
section
variable [Inhabited pY]
open Go
variable {w D:World}{tt:TypeId->Option TI}{N:Nat}{st F:St}{E E2:List RI}{Pp Rj:fQ}{d d2:List Deferred}{a a2:Act}
inductive Ex where
 |normal|exit (id:Nat)|ret
def uq:Exit->Ex->Prop
 | .normal,.normal=>True
 | .exit i,.exit j=>i=j
 | .ret,.ret=>True
 |_,_=>False
def Se(b:Nat):Deferred:={ target:=.collected b,args:= #[] }
def Mk(w:World)(d:List Deferred)(E':List RI)(objs':List Ob)(d':List Deferred)(w':World):Prop:=∃bs:List Nat,d'=bs.map Se++d/\bs.Nodup/\∀b∈bs,w.heap.size<=b/\b<w'.heap.size/\w'.heap[b]? =some (.deferred (some []))/\¬own E' objs' b
def Mk.none{w':World}{d':List Deferred}{E':List RI}{objs':List Ob}(h:d'=d):Mk w d E' objs' d' w':=⟨[],by simp[h],oC,λb hb=>yE hb⟩
def jH.at(B:jH)(d:List Deferred):jH:={ B with d0:=d }
def jH.here(B:jH)(E:List RI)(Pp:fQ)(objs:List Ob)(d:List Deferred)(w:World):jH:={ w0:=w,E0:=B.E0,P0:=Pp,mo:=own E objs,d0:=d }
def gW.at{B:jH}(h:gW tt N B E Pp st a w):gW tt N (B.at a.defers) E Pp st a w:=⟨h.wr,h.fJ,h.size,rfl,h.pre,h.sT,h.fr,h.jV,h.fresh⟩
def gW.here{B:jH}(h:gW tt N B E Pp st a w):gW tt N (B.here E Pp st.o a.defers w) E Pp st a w:=⟨h.wr,h.fJ,h.size,rfl,h.pre,λ_ _ h=>h,Fr.refl _ _,λ_ _ h=>.inl h,λi o ri b h1 h2 h3 h4=>.inr ⟨i,o,ri,h1,h2,h3,h4⟩⟩
def gW.back{B:jH}(h:gW tt N B E Pp st a w)(k:gW tt N ((B.here E Pp st.o d w).at d2) E2 Rj F a2 D):gW tt N (B.at a2.defers) E2 Rj F a2 D:=by
 have c:∀b,own E st.o b->B.w0.heap.size<=b\/B.mo b:=λb ⟨i,o,ri,h1,h2,h3,h4⟩=>h.fresh i o ri b h1 h2 h3 h4;refine⟨k.wr,k.fJ,k.size,rfl,k.pre,λad v e=>k.sT ad v (h.sT ad v e),?_,?_,?_⟩
 ·refine h.fr.trans k.fr (λx f g=>?_);have f:x<B.w0.heap.size:=f;rcases c x g with h1|h1
  ·omega
  ·exact h1
 ·intro ad v e;rcases k.jV ad v e with h1|h1|h1
  ·exact h.jV ad v h1
  ·exact .inr (.inl (bM h.fr.size h1))
  ·exact .inr (c _ h1)
 ·intro i o ri b h1 h2 h3 h4;rcases k.fresh i o ri b h1 h2 h3 h4 with h5|h5
  ·exact .inl (bM h.fr.size h5)
  ·exact c _ h5
def Mk.trans{B:jH}{w0:World}{d0:List Deferred}(fW:w0.heap.size<=w.heap.size)(m:Mk w0 d0 E st.o d w)(k:gW tt N ((B.here E Pp st.o d w).at d2) E2 Rj F a2 D)(s:Mk w d E2 F.o a2.defers D):Mk w0 d0 E2 F.o a2.defers D:=by
 obtain⟨bs,rfl,h2,h3⟩:=m;obtain⟨g,h4,h5,h6⟩:=s;refine⟨g++bs,by simp[h4],?_,?_⟩
 ·rw[dk];refine⟨h5,h2,?_⟩;intro x v y t e;have:=(h6 x v).1;have:=(h3 y t).2.1;omega
 ·intro b hb;rcases bE.1 hb with hb|hb
  ·obtain⟨n,l,h,c⟩:=h6 b hb;exact⟨yO,l,h,c⟩
  ·obtain⟨n,l,h,c⟩:=h3 b hb;have hs:w.heap.size<=D.heap.size:=k.fr.size;refine⟨n,yO,?_,?_⟩
   ·rw[k.fr.block b l c];exact h
   ·rintro⟨i,o,ri,u,r2,r,p⟩;rcases k.fresh i o ri b u r2 r p with f|f
    ·have f:w.heap.size<=b:=f;omega
    ·exact c f
def sB(P:Program)(tt:TypeId->Option TI)(N n0:Nat)(r:Option Nat)(c:Code)(st:St)(Q:Ex->St->Prop):Prop:=∀B E Pp a w,B.E0.length=n0->gW tt N B E Pp st a w->c.wpIn (oX r) 0 P (λe g w'=>∃h f E' Pp',uq e h/\gW tt N (B.at g.defers) E' Pp' f g w'/\Mk w a.defers E' f.o g.defers w'/\w.heap.size<=w'.heap.size/\Q h f) a w
def sB.mono{P:Program}{n0:Nat}{r:Option Nat}{c:Code}{Q Q':Ex->St->Prop}(h:sB P tt N n0 r c st Q)(i:∀e s,Q e s->Q' e s):sB P tt N n0 r c st Q':=by intro B E Pp a w hb hs;exact wpIn_mono (h B E Pp a w hb hs) λe k w' ⟨g,f,E',Pp',h1,h2,h3,h4,h5⟩=>⟨g,f,E',Pp',h1,h2,h3,h4,i _ _ h5⟩
def tX:List Oper->Nat->Option Oper
 |[],_=>none|x::_,0=>some x|_::l,n+1=>tX l n
def yI(l:List Oper)(n:Nat):tX l n=l[n]? :=by
 induction l generalizing n with
 |nil=>simp[tX]
 |cons x xs c=>cases n<;>simp[tX,c]
def KB:Bool->Bool->Bool|true,true=>true|false,false=>true|_,_=>false
def fP:Bool->Bool|true=>false|false=>true
section
variable (A:pP) (G:dH) (C:jm)
def sR(d:Option Nat)(v:PV)(st:St)(K:St->Prop):Prop:=match d with
 |some d=>bif iC d G.n then(match st with|⟨s,o⟩=>K ⟨(d,v)::s,o⟩)else False
 |none=>K st
def guarded(all:List Oper)(o:Oper)(st:St)(run:St->(PV->St->Prop)->Prop)(K:St->Prop):Prop:=match o.guard with
 |none=>run st λv c=>sR G o.dst v c K
 |some (j,z)=>match tX all j with
  |none=>False
  |some oj=>match oj.dst with
   |none=>False
   |some q=>match look st.s q with
    | .bl b=>(match KB b z with|true=>((run st λv c=>sR G o.dst v c K))|false=>(sR G o.dst (.tup []) st K))
    | .bool b=>(b=z->run ⟨(q,.bl z)::st.s,st.o⟩ λv c=>sR G o.dst v c K)/\
     (b=fP z->sR G o.dst (.tup []) ⟨(q,.bl (fP z))::st.s,st.o⟩ K)
    | .tup []=>sR G o.dst (.tup []) st K
    |_=>False
def CA(all:List Oper):List Oper->St->(St->Prop)->Prop
 |[],st,Q=>Q st
 |o::os,st,Q=>guarded G all o st (λst K=>eB A G C o st K) λc=>CA all os c Q
def oq(e:Edge):Bool:=match e.ground with
 | .textOnly _=>false
 | .gcOnly _=>false
 |_=>true
def tZ:List Edge->Nat
 |[]=>0
 |e::l=>bif oq e then jc (eu 1 e.on) (tZ l)else tZ l
def nS:Nat->List Oper->List (Nat×Nat×Oper)
 |_,[]=>[]
 |i,o::os=>(i,tZ o.after.toList,o)::nS (i+1) os
def Au(m L:Nat):Bool:=nb (Nat.land m L) m
def jh(L:Nat):List (Nat×Nat×Oper)->List (Nat×Oper)
 |[]=>[]
 |(i,m,o)::r=>bif Au m L then(i,o)::jh L r else jh L r
def iF(i:Nat):List (Nat×Nat×Oper)->List (Nat×Nat×Oper)
 |[]=>[]
 |(j,m,o)::r=>bif nb j i then r else(j,m,o)::iF i r
def MN:Op->Bool
 | .move _=>true
 | .assign _=>true
 | .pick _ _ _=>true
 | .load _ _=>true
 | .binOp _ _ _ _ _=>true
 | .unOp _ _ _=>true
 | .convert _ _ _=>true
 | .fieldAddr _ _ _=>true
 | .field _ _ _=>true
 | .indexAddr _ _ _=>true
 | .index _ _ _=>true
 | .build _ _=>true
 | .extract _ _=>true
 | .slice _ _ _ _ _=>true
 | .nilCheck _=>true
 | .makeFunc _ _ _=>true
 | .call { callee:=.builtin .len,.. }=>true
 | .call { callee:=.builtin .max,.. }=>true
 |_=>false
def GY:List Edge->Bool
 |[]=>false
 |e::l=>match e.ground with
  | .phase=>true
  |_=>GY l
def ML(o:Oper):Bool:=match o.dst with
 |some d=>eI d G.pC
 |none=>false
def MR:Op->Bool
 | .fieldAddr _ _ _=>true
 | .indexAddr _ _ _=>true
 | .move _=>true
 | .assign _=>true
 | .build _ _=>true
 | .extract _ _=>true
 | .binOp _ _ _ _ _=>true
 | .unOp _ _ _=>true
 | .convert _ _ _=>true
 |_=>false
def ud(o:Oper):Bool:=bif GY o.after.toList&&fP (MR o.op)then false else bif ML G o then false else(MN o.op&&gi (G.eh,G.live) o.op)
def By{G:dH}{o:Oper}(h:ud G o=true):MN o.op=true/\gi (G.eh,G.live) o.op=true:=by
 unfold ud at h;cases c:(GY o.after.toList&&fP (MR o.op))with
 |true=>rw[c]at h;cases h
 |false=>
  cases e:ML G o with
  |true=>rw[c,e]at h;cases h
  |false=>rw[c,e]at h;simpa using h
def MO{G:dH}{o:Oper}(h:ud G o=true):MN o.op=true:=(By h).1
def ov(L:Nat):List (Nat×Nat×Oper)->Option (Nat×Oper)
 |[]=>none
 |(i,m,o)::r=>bif ud G o&&Au m L then some (i,o)else ov L r
def kN:List Ob->List Ob
 |[]=>[]
 | .map _ _ _::l=>.dead::kN l
 | .iter _ _::l=>.dead::kN l
 | .diter _ _ _::l=>.dead::kN l
 | .loop _ _ _ _ _ _::l=>.dead::kN l
 |o::l=>o::kN l
def BR:List Ob->List Ob
 |[]=>[]
 |_::l=>.dead::BR l
def AM(o:List Ob):List Ob:=match G.GZ with
 |true=>BR o
 |false=>kN o
def jU(o:Op):Bool:=match G.GZ with
 |true=>true
 |false=>gi (G.eh,G.live) o
def FQ(f:Nat->Oper->Prop):List (Nat×Oper)->Prop
 |[]=>True
 |[x]=>f x.1 x.2
 |x::l=>f x.1 x.2/\FQ f l
def MJ{α:Type}:List α->Bool
 |[]=>true
 |_::_=>false
def vu(ps:List Nat)(st:St):St:=match st with
 |⟨s,o⟩=>⟨A9 ps s,cQ (λr=>jK ps (eG o r)) ps⟩
def vo(n0:Nat)(f e:St):Prop:=∃c,(c=e\/∃ps,(jD ps&&xF n0 0 ps)=true/\c=vu ps e)/\(∀t,look f.s t=look c.s t)/\f.o=c.o
def nE(all:List Oper):Nat->List (Nat×Nat×Oper)->Nat->St->(St->Prop)->Prop
 |0,rest,L,st,Q=>match jh L rest with|[]=>Q st|_=>False
 |n+1,rest,L,st,Q=>match ov G L rest with
  |some (i,o)=>guarded G all o st (λst K=>cH A G.tt o.op o.type st.s (AM G st.o) λv=>K v st) λc=>nE all n (iF i rest) (jc L (eu 1 i)) c Q
  |none=>match jh L rest with
   |[]=>Q st
   |r::rs=>match G.mrg&&fP (MJ rs)with
    |true=>guarded G all r.2 st (λst K=>eB A G C r.2 st K) λc=>nE all n (iF r.1 rest) (jc L (eu 1 r.1)) c λe=>FQ (λi o=>guarded G all o st (λst K=>eB A G C o st K) λc=>nE all n (iF i rest) (jc L (eu 1 i)) c λf=>vo G.n0 e f) rs/\Q e
    |false=>FQ (λi o=>guarded G all o st (λst K=>eB A G C o st K) λc=>nE all n (iF i rest) (jc L (eu 1 i)) c Q) (r::rs)
def zh(all:List Oper):List Nat->St->(St->Prop)->Prop
 |[],st,Q=>Q st
 |i::p,st,Q=>match tX all i with
  |none=>False
  |some o=>(match ud G o with|true=>(guarded G all o st (λst K=>cH A G.tt o.op o.type st.s (AM G st.o) λv=>K v st) λc=>zh all p c Q)|false=>(guarded G all o st (λst K=>eB A G C o st K) λc=>zh all p c Q))
def A2:Nat->List (Nat×Nat×Oper)->Nat->List Nat->Bool
 |0,rest,L,p=>match jh L rest,p with
  |[],[]=>true
  |_,_=>false
 |n+1,rest,L,p=>match ov G L rest with
  |some (i,_)=>(match p with
   |j::p'=>nb i j&&A2 n (iF i rest) (jc L (eu 1 i)) p'
   |[]=>false)
  |none=>match jh L rest,p with
   |[],[]=>true
   |[(i,o)],j::p'=>nb i j&&(bif ud G o then false else true)&&A2 n (iF i rest) (jc L (eu 1 i)) p'
   |_,_=>false
def QX:List (Nat×List Nat)->Nat->Option (List Nat)
 |[],_=>none
 |(k,p)::r,i=>bif nb k i then some p else QX r i
def Mo(i:Nat)(o:Oper):Bool:=qg (λe=>oq e&&nb e.on i) o.after.toList
def MI:Op->Bool
 | .select _ _=>true
 | .defer _=>true
 |_=>false
def behind(i:Nat):Nat->List Nat->List Oper->List Nat
 |_,acc,[]=>acc
 |k,acc,o::l=>behind i (k+1) (bif qg (λe=>oq e&&(bif nb e.on i then true else eI e.on acc)) o.after.toList then k::acc else acc) l
def tU(c:Array Oper)(i:Nat)(oi:Oper)(Z:List Nat):Nat->List Oper->Bool
 |_,[]=>true
 |j,oj::l=>(bif nb i j then(match oi.dst with|some d=>bif eI d (oi.looksAt c)then false else true|none=>true)else
  bif eI j Z then true else bif Mo j oi then true else Oper.apart c oi oj&&jU G oj.op)&&tU c i oi Z (j+1) l
def s7(c:Array Oper)(all:List Oper):Nat->List Oper->Bool
 |_,[]=>true
 |i,o::l=>(bif MI o.op then false else bif ud G o then tU G c i o (behind i 0 [] all) 0 all else true)&&s7 c all (i+1) l
def my(s:cS)(all:List Oper):List Oper->List Nat
 |[]=>[]
 |o::l=>match o.op with
  | .slice _ (.tmp t) _ _ _=>gh (yN s t all) (my s all l)
  |_=>my s all l
 where yN (s:cS) (t:Nat):List Oper->List Nat
 |[]=>[]
 |o::l=>match o.dst,o.op with
  |some d,.move (.tmp u)=>bif nb d t then(match look s u with| .row _ r=>[r]|_=>[])else yN s t l
  |_,_=>yN s t l
def JJ(c:Operand)(b:Bool)(st:St):St:=match c with
 | .tmp t=>⟨(t,.bl b)::st.s,st.o⟩
 |_=>st
def GO(id:Nat)(c:Array Oper)(d:Bool)(st:St)(Q:St->Prop):Prop:=match d with
 |false=>CA A G C c.toList c.toList st Q
 |true=>match QX G.iU id with
  |none=>((False->False)->s7 G c c.toList 0 c.toList=true)/\nE A G C c.toList (bY c.toList) (nS 0 c.toList) 0 ⟨st.s,fz (my st.s c.toList c.toList) 0 st.o⟩ Q
  |some p=>((False->False)->(s7 G c c.toList 0 c.toList&&A2 G (bY c.toList) (nS 0 c.toList) 0 p)=true)/\zh A G C c.toList p ⟨st.s,fz (my st.s c.toList c.toList) 0 st.o⟩ Q
def oA(LP:Code->St->(Ex->St->Prop)->Prop):Code->St->(Ex->St->Prop)->Prop
 | .skip,st,Q=>Q .normal st
 | .region id ops d,st,Q=>(match eI id G.ox with
  |true=>LP (.region id ops d) st Q
  |false=>GO A G C id ops d st (Q .normal))
 | .seq x y,st,Q=>oA LP x st λe f=>match e with| .normal=>oA LP y f Q| .exit i=>Q (.exit i) f| .ret=>Q .ret f
 | .cond c x y,st,Q=>match ev st.s c with
  | .bl true=>oA LP x st Q
  | .bl false=>oA LP y st Q
  | .bool t=>(t=true->oA LP x (JJ c true st) Q)/\(t=false->oA LP y (JJ c false st) Q)
  |_=>False
 | .block id c,st,Q=>oA LP c st λe f=>match e with| .exit j=>(match nb j id with|true=>Q .normal f|false=>Q (.exit j) f)| .normal=>Q .normal f| .ret=>Q .ret f
 | .exit id,st,Q=>Q (.exit id) st
 | .ret,st,Q=>Q .ret st
 | .loop c,st,Q=>LP (.loop c) st Q
 | .rangeFunc g ps c1 c2,st,Q=>LP (.rangeFunc g ps c1 c2) st Q
 |_,_,_=>False
def mg:Nat->List PV->cS
 |_,[]=>[]
 |i,p::ps=>(i,p)::mg (i+1) ps
def ya(st:St):List ResultVar->Option (List PV)
 |[]=>some []
 | .tmp t::r=>match ya st r with|some l=>some (wk 8 (norm (look st.s t))::l)|none=>none
 | .cell t ty::r=>match look st.s t,G.tt ty,ya st r with
  | .box b off,some ti,some l=>(match eG st.o b with
   | .box cs=>bif iD off dC&&iD (off+bY ti.bP) (bY cs)then some (wk 8 (eX ti (qw (bY ti.bP) (wL off cs)))::l)else none
   |_=>none)
  |_,_,_=>none
def yb(st:St)(l:List ResultVar):Option PV:=match ya G st l with
 |some [v]=>some v
 |some vs=>some (.tup vs)
 |none=>none
def CD(n0:Nat)(rs:List ResultVar)(st:St)(K:PV->List Ob->Prop):Prop:=match yb G st rs with
 |some v=>K (nN st.o 8 v) (QR n0 (fz (ids st.o 8 v) 0 st.o))
 |none=>False
 where QR:Nat->List Ob->List Ob
 |0,_=>[]|_,[]=>[]|n+1,x::xs=>x::QR n xs
def wz(n0:Nat)(st:St):Nat->List PV->Option (List PV×List Nat)
 |_,[]=>some ([],[])
 |k,p::l=>match p with
  | .row e r=>(match eG st.o r with
   | .row e' _ true=>bif nb e e'&&iD n0 r then(match wz n0 st (k+1) l with|some (ps,rs)=>some (.row e k::ps,r::rs)|none=>none)else none
   |_=>none)
  | .mp r=>(match eG st.o r with
   | .map _ _ _=>bif iD n0 r then(match wz n0 st (k+1) l with|some (ps,rs)=>some (.mp k::ps,r::rs)|none=>none)else none
   |_=>none)
  |p=>bif ew (ids st.o 8 p)then(match wz n0 st k l with|some (ps,rs)=>some (nN st.o 8 p::ps,rs)|none=>none)else none
def partsOf:PV->List PV×Bool
 | .tup cs=>(cs,true)
 |p=>([p],false)
def H4(b:Bool)(ps:List PV):PV:=bif b then .tup ps else match ps with|[p]=>p|_=>.undef
def CC(n0:Nat)(rs:List ResultVar)(st:St)(K:PV->List Ob->Prop):Prop:=match yb G st rs with
 |some v=>(match wz n0 st 0 (partsOf v).1 with
  |some (ps,rs)=>bif jD rs then K (H4 (partsOf v).2 ps) (cQ (eG st.o) rs)else False
  |none=>False)
 |none=>False
def xg(n0:Nat)(rs:List ResultVar)(st:St)(K:PV->List Ob->Prop):Prop:=match yb G st rs with
 |some v=>CC G n0 rs (sinks (CO v) st) K
 |none=>False
def zD{L:Nat}:∀{r:List (Nat×Nat×Oper)}{i:Nat}{o:Oper},ov G L r=some (i,o)->ud G o=true/\∃m,(i,m,o)∈r
 |[],i,o,h=>by simp[ov]at h
 |(k,m,x)::r,i,o,h=>by
  simp only[ov]at h;cases hf:(ud G x&&Au m L)with
  |true=>rw[hf]at h;simp at h;obtain⟨rfl,rfl⟩:=h;simp only[bn]at hf;exact⟨hf.1,m,by simp⟩
  |false=>rw[hf]at h;obtain⟨h1,m',h2⟩:=zD h;exact⟨h1,m',by simp[h2]⟩
def sQ{L:Nat}:∀{r:List (Nat×Nat×Oper)}{i:Nat}{o:Oper},(i,o)∈jh L r->∃m,(i,m,o)∈r
 |[],i,o,h=>by simp[jh]at h
 |(k,m,x)::r,i,o,h=>by
  simp only[jh]at h;cases hf:Au m L with
  |true=>
   rw[hf]at h;simp only[cond_true,bx,gf]at h;rcases h with⟨rfl,rfl⟩|h
   ·exact⟨m,yS⟩
   ·obtain⟨m',h⟩:=sQ h;exact⟨m',by simp[h]⟩
  |false=>rw[hf]at h;obtain⟨m',h⟩:=sQ (yU h);exact⟨m',by simp[h]⟩
def BO{i:Nat}:∀{r:List (Nat×Nat×Oper)}{x:Nat×Nat×Oper},x∈iF i r->x∈r
 |[],x,h=>by simp[iF]at h
 |(k,m,y)::r,x,h=>by
  simp only[iF]at h;cases hb:nb k i with
  |true=>rw[hb]at h;simp at h;simp[h]
  |false=>
   rw[hb]at h;simp only[cond_false,bx]at h;rcases h with rfl|h
   ·simp
   ·simp[BO h]
def CU{all:List Oper}{Q:St->Prop}:∀(n:Nat)(rest:List (Nat×Nat×Oper))(L:Nat)(p:List Nat)(st:St),(∀i m o,(i,m,o)∈rest->tX all i=some o)->A2 G n rest L p=true->zh A G C all p st Q=nE A G C all n rest L st Q
 |0,rest,L,p,st,hr,h=>by
  simp only[A2]at h;split at h
  ·rename_i h1;simp only[nE,h1,zh]
  ·simp at h
 |n+1,rest,L,p,st,hr,h=>by
  simp only[A2]at h;have g:∀k i m o,(i,m,o)∈iF k rest->tX all i=some o:=λk i m o f=>hr i m o (BO f);split at h
  ·rename_i i o hf;split at h
   ·rename_i j p';simp only[bn]at h;have:=cX h.1;subst this;obtain⟨e,m,f⟩:=zD G hf;have l:(λc=>zh A G C all p' c Q)=λc=>nE A G C all n (iF i rest) (jc L (eu 1 i)) c Q:=funext λc=>CU n _ _ p' c (g i) h.2;simp only[zh,hr i m o f,e,cond_true,nE,hf];rw[l]
   ·simp at h
  ·rename_i hf;split at h
   ·rename_i h1;simp only[nE,hf,h1,zh]
   ·rename_i i o j p' h1;simp only[bn]at h;have:=cX h.1.1;subst this;obtain⟨m,f⟩:=sQ (L:=L) (r:=rest) (i:=i) (o:=o) (by rw[h1];simp)
    have e:ud G o=false:=by
     cases s:ud G o with
     |false=>rfl
     |true=>rw[s]at h;simp at h
    have l:(λc=>zh A G C all p' c Q)=λc=>nE A G C all n (iF i rest) (jc L (eu 1 i)) c Q:=funext λc=>CU n _ _ p' c (g i) h.2;simp only[zh,hr i m o f,e,cond_false,nE,hf,h1,FQ,MJ,fP,oE];rw[l]
   ·simp at h
end
section
variable {P:Program}{G:dH}{B:jH}{E:List RI}{Pp:fQ}{w:World}{st:St}{a:Act}
variable {b z:Bool}{all:Array Oper}{o oj:Oper}{j q:Nat}
def zV{a:Bool}:KB a b=true↔a=b:=by cases a<;>cases b<;>simp[KB]
def Ji(b:Bool):fP b= !b:=by cases b<;>rfl
def Pb(a:Act)(d:Nat)(v:Value)(t:Nat)(c:d<a.tmps.size):(a.put (some d) v).tmps.getD t undef=if d=t then v else a.tmps.getD t undef:=by
 simp only[Act.put,cO,AK];split
 ·simp[c]
 ·rfl
def tR{v:Value}{pv:PV}{E':List RI}{Pp':fQ}{w':World}{s':cS}{o':List Ob}{d:Option Nat}{K:St->Prop}(g:a.tmps.size=G.n)(e:a.defers=B.d0)(h:VR G.tt E' Pp' v pv)
 (hs:∀t,VR G.tt E' Pp' (a.tmps.getD t undef) (look s' t)) (f:cK G.tt B E' Pp' o' w') (hK:sR G d pv ⟨s',o'⟩ K):
 ∃c,gW G.tt G.n B E' Pp' c (a.put d v) w'/\K c/\c.o=o':=by
 cases d with
 |none=>exact⟨⟨s',o'⟩,cK.Oh (st:=⟨s',o'⟩) f hs g e,hK,rfl⟩
 |some d=>
  simp only[sR]at hK;cases hb:iC d G.n with
  |false=>rw[hb]at hK;exact hK.elim
  |true=>
   rw[hb]at hK;have dA:d+1<=G.n:=dX hb;refine⟨⟨(d,pv)::s',o'⟩,cK.Oh (st:=⟨(d,pv)::s',o'⟩) f ?_ (by simp[Act.put,g]) e,hK,rfl⟩;intro t;rw[Pb a d v t (by omega),jt];split
   ·exact h
   ·exact hs t
def qy{d:Nat}{c:Bool}(h:gW G.tt G.n B E Pp st a w)(hl:look st.s d= .bool b)(hb:b=c):gW G.tt G.n B E Pp ⟨(d,.bl c)::st.s,st.o⟩ a w:=by
 refine cK.Oh (st:=⟨(d,.bl c)::st.s,st.o⟩) h.Ih ?_ h.size h.defers;intro t;rw[jt];split
 ·rename_i e;subst e;have:=h.fJ d;rw[hl]at this;generalize a.tmps.getD d undef=v at*;cases this;subst hb;exact .bl _
 ·exact h.fJ t
def rr{p:PV}(l:o.guard=some (j,z))(k:all[j]? =some oj)(e:oj.dst=some q)(h:gW G.tt G.n B E Pp st a w)
 (hl:look st.s q=p) (i:p= .bl b\/p= .bool b):Region.wanted o (yielded all a.tmps)=KB b z:=by
 have f:=h.fJ q;rw[hl]at f
 have c:a.tmps[q]? =some (.bool b):=by
  have:a.tmps.getD q undef= .bool b:=by generalize a.tmps.getD q undef=v at*;rcases i with rfl|rfl<;>cases f<;>rfl
  rw[cO]at this;cases g:a.tmps[q]? with
  |none=>rw[g]at this;simp[undef]at this
  |some v=>rw[g]at this;simp at this;rw[this]
 simp only[Region.wanted,l,yielded,k,iG,e,c];cases b<;>cases z<;>rfl
def Ca(i:o.guard=some (j,z))(g:all[j]? =some oj)(e:oj.dst=some q)(h:gW G.tt G.n B E Pp st a w)
 (hl:look st.s q= .tup []):Region.wanted o (yielded all a.tmps)=false:=by
 have f:=h.fJ q;rw[hl]at f
 have c:a.tmps.getD q undef= .tuple ⟨[]⟩:=by
  generalize a.tmps.getD q undef=v at*;cases f with
  |tup vs _ hl=>cases hl;rfl
 rw[cO]at c;simp only[Region.wanted,i,yielded,g,iG,e];cases k:a.tmps[q]? with
 |none=>rfl
 |some v=>rw[k]at c;simp at c;rw[c];cases z<;>rfl
def zt{r:Option Nat}(hB:B.E0.length=G.n0){all:Array Oper}{o:Oper}{K:St->Prop}{run:St->(PV->St->Prop)->Prop}{next:Act->World->Prop}{Q:Exit->Act->World->Prop}{k:Nat}(hk:all[k]? =some o)
 (l:∀t,gW G.tt G.n B E Pp t a w->t.o=st.o->run t (λv g=>sR G o.dst v g K)->Region.wanted o (yielded all a.tmps)=true->o.wpIn (oX r) 0 P a w next Q)
 (n:∀c,gW G.tt G.n B E Pp c (a.put o.dst undef) w->K c->Region.wanted o (yielded all a.tmps)=false->c.o=st.o->next (a.put o.dst undef) w)
 (h:gW G.tt G.n B E Pp st a w) (e:guarded G all.toList o st run K):wpOpIn (oX r) 0 P all Q k next a w:=by
 unfold wpOpIn;simp only[hk];have skip:∀(g:St),gW G.tt G.n B E Pp g a w->g.o=st.o->sR G o.dst (.tup []) g K->Region.wanted o (yielded all a.tmps)=false->next (a.put o.dst undef) w:=by intro g u I hc H;obtain⟨c,h1,h2,h3⟩:=tR (v:=undef) u.size u.defers (.tup [] [] .nil) u.fJ u.Ih hc;exact n c h1 h2 H (h3.trans I)
 unfold guarded at e;split at e
 ·rename_i i;have mi:Region.wanted o (yielded all a.tmps)=true:=by simp[Region.wanted,i]
  rw[if_pos mi];exact l st h rfl e mi
 ·rename_i j z i;split at e
  ·exact e.elim
  rename_i oj x;rw[yI]at x;have p:all[j]? =some oj:=by simpa using x
  split at e
  ·exact e.elim
  rename_i q s;split at e
  ·rename_i b hl;have mi:=rr i p s h hl (.inl rfl);cases hb:KB b z with
   |true=>rw[hb]at e mi;rw[if_pos mi];exact l st h rfl e mi
   |false=>rw[hb]at e mi;rw[if_neg (by rw[mi];simp)];exact⟨λ_ _=>trivial,skip st h rfl e mi⟩
  ·rename_i b hl;have mi:=rr i p s h hl (.inr rfl);cases hb:KB b z with
   |true=>have m:=zV.1 hb;rw[hb]at mi;rw[if_pos mi];exact l _ (qy h hl m) rfl (e.1 m) mi
   |false=>
    have m:b=fP z:=by rw[Ji];cases b<;>cases z<;>simp_all[KB]
    rw[hb]at mi;rw[if_neg (by rw[mi];simp)];exact⟨λ_ _=>trivial,skip _ (qy h hl m) rfl (e.2 m) mi⟩
  ·rename_i hl;have y:=h.fJ q;rw[hl]at y
   have f:a.tmps.getD q undef= .tuple ⟨[]⟩:=by
    generalize a.tmps.getD q undef=v at*;cases y with
    |tup vs _ hl=>cases hl;rfl
   have mi:Region.wanted o (yielded all a.tmps)=false:=by
    rw[cO]at f;simp only[Region.wanted,i,yielded,p,iG,s];cases J:a.tmps[q]? with
    |none=>rfl
    |some v=>rw[J]at f;simp at f;rw[f];cases z<;>rfl
   rw[if_neg (by rw[mi];simp)];exact⟨λ_ _=>trivial,skip st h rfl e mi⟩
  ·exact e.elim
def JR{r:Option Nat}(g:ez P G.tt)(hB:B.E0.length=G.n0){all:Array Oper}{Q:St->Prop}{Q':Exit->Act->World->Prop}(s:∀E Pp st a w,gW G.tt G.n B E Pp st a w->Q st->Q' .normal a w):
 ∀(l:List Oper)(k:Nat),all.toList.drop k=l->∀(st:St)(E:List RI)(Pp:fQ)(a:Act)(w:World),gW G.tt G.n B E Pp st a w->CA dS G (lU P G.tt) all.toList l st Q->
  wpOpsIn (oX r) 0 P all Q' (List.range' k l.length) a w:=by
 intro l;induction l with
 |nil=>intro k _ st E Pp a w h hr;exact s _ _ _ _ _ h hr
 |cons o os i=>
  intro k hk st E Pp a w h hr
  have dA:k<all.toList.length:=by
   rcases bR k all.toList.length with f|f
   ·exact f
   ·rw[fH f]at hk;simp at hk
  have dJ:all[k]? =some o:=by rw[bJ dA]at hk;simp only[lW]at hk;rw[<- hk.1];simp
  have e:all.toList.drop (k+1)=os:=by rw[bJ dA]at hk;simp only[lW]at hk;exact hk.2
  simp only[bI,List.range'_succ,wpOpsIn_cons];refine zt hB dJ ?_ ?_ h hr
  ·intro st h _ hc _;refine Oper.wpIn_mono ?_ (DZ g hB h.Ih h.fJ hc);rintro t w' ⟨p,E',Pp',v,pv,rfl,n,hs,m,hK,_,_⟩;obtain⟨c,h1,h2,_⟩:=tR h.size h.defers n hs m hK;exact i (k+1) e c E' Pp' _ w' h1 h2
  ·intro c h1 h2 _ _;exact i (k+1) e c E Pp _ w h1 h2
end
end
end Go.VC
