/- Part 2 of the common texts. -/
import Derived.Lib.AppendStr
import Derived.Laws.AppendOwn
import Derived.Laws.IdiomRangeMap
import Derived.RangeFuncLeaves
import Derived.RangeFuncNested
import Derived.OrdersIn
import Derived.Laws.StructEq
import Derived.ChangeArms
import Derived.ChangeShapes
import Derived.ChangeSame
import Derived.Carry
import Derived.JoinedCond
import Derived.Test.YtefbdgenddbehaaGreatDoorProg
import Derived.Sort.Walk0
import Derived.Test.YtefbdgenddbehaaGreatDoorPart1
set_option linter.all false
set_option maxRecDepth 100000
set_option maxHeartbeats 16000000
open And renaming intro→bw
open Array renaming ext'→j4,filter→Hg,find?_toList→M1,foldl_toList→wM,getD_eq_getD_getElem?→cS,getElem?_append_left→im,getElem?_eq_getElem→pG,getElem?_eq_none→dJ,getElem?_eq_some_iff→il,getElem?_setIfInBounds→AI,getElem?_setIfInBounds_ne→eD,getElem?_setIfInBounds_self_of_lt→gy,getElem?_toList→iq,length_toList→gZ,mapM_eq_mapM_toList→pF,replicate→kX,size_map→Df,toList_inj→O7,toList_modify→J2
open Bool renaming and_eq_true→bI,false_eq_true→cC,not_eq_true'→fX,not_false→oR,not_true→FE,or_eq_false_iff→J0,or_eq_true→gh,true_and→fB,true_eq_false→Na
open Classical renaming skolem→JT
open ForInStep renaming yield→qH
open Int renaming natCast_nonneg→cW,ofNat→br,ofNat_eq_natCast→bz,ofNat_lt→jy,toNat_natCast→jV
open List renaming all_append→nS,all_eq_false→qo,all_eq_true→dk,any_cons→kW,any_eq_false→gS,any_eq_true→dZ,append_assoc→bN,append_nil→cA,cons_append→cO,dropLast_concat_getLast→nR,drop_eq_getElem_cons→bM,drop_eq_nil_of_le→fD,eq_nil_iff_forall_not_mem→Ae,eq_nil_of_length_eq_zero→cz,eraseIdx_sublist→JR,ext_getElem→Ad,ext_getElem?→xQ,find?_eq_none→eV,findIdx?_eq_none_iff→pJ,findIdx?_eq_some_iff_getElem→lF,getD→cj,getD_eq_getElem?_getD→fW,getElem?_append_left→bU,getElem?_append_right→cq,getElem?_drop→fw,getElem?_eq_getElem→bB,getElem?_eq_none→bY,getElem?_eq_some_iff→dF,getElem?_inj→O5,getElem?_map→cw,getElem?_modify→uf,getElem?_of_mem→gH,getElem?_range→vO,getElem?_set_ne→cc,getElem?_set_self→dh,getElem?_take→xu,getElem?_take_of_lt→cQ,getElem_map→jg,getElem_mem→bx,length→jt,length_append→bE,length_cons→bS,length_drop→mL,length_map→bQ,length_nil→cH,length_pos_iff→ej,length_take→cZ,mapM_cons→Dj,map_cons→bO,map_map→ju,map_take→FA,mem_append→bJ,mem_cons→bP,mem_cons_of_mem→gG,mem_map→bT,mem_map_of_mem→MY,mem_of_getElem?→fv,mem_singleton→cU,mem_take_iff_getElem→iE,nil_append→ep,nodup_append→eb,nodup_cons→cn,nodup_nil→ud,pairwise_iff_getElem→iD,range→gU,sizeOf_lt_of_mem→JP,size_toArray→O4,sum_cons→ch,take_append_drop→dG,take_length→bF,take_of_length_le→cG,take_succ_eq_append_getElem→l7
open List.cons renaming injEq→kr
open Nat renaming add_assoc→eR,add_comm→mn,add_mul→ez,add_zero→iS,div_eq_of_lt→r7,div_lt_iff_lt_mul→JY,le_refl→ca,le_succ→qF,le_trans→bR,lor→nq,lt_or_ge→cb,lt_trichotomy→Aa,mod_eq_of_lt→AD,mod_lt→O3,mul_add_div→tg,mul_add_mod→Dd,mul_comm→jx,mul_le_mul→Fy,mul_le_mul_right→dE,mul_one→vL,one_mul→qE,shiftLeft→fV,testBit_two_pow→M7,zero_add→fk
open Ne renaming symm→eh
open Option renaming bind_eq_some_iff→lA,bind_some→iY,getD_some→dQ,isSome_iff_exists→dy,map_eq_some_iff→lE,map_none→Ab,map_some→cu
open Option.some renaming injEq→cr
open PUnit renaming unit→lz
open Prod.mk renaming injEq→ey
open SizeOf renaming sizeOf→pI
namespace Go.VC
open Go
section
section
variable {P:Program}{tt:TypeId->Option TI}{N:Nat}{B:kk}{E:List RI}{Pp:ga}{objs:List Ob}{w:World}{st:St}{a:Act}{eB:List FuncId×List FuncId}
variable {A F G ti:TI}{r cap n g:Nat}{q f ty t T:TypeId}{K:PV->St->Prop}{Q:Exit->Act->World->Prop}{y:Operand}{wr:Bool}{olds:List (List D)}{C:Array Operand}{ts:Array TypeId}{vs oldc:List Value}{w':World}{base:Option Addr}{Pp':ga}{l:Int}{E':List RI}{ri ri':RI}{ad:Addr}{H:IntKind}
structure Reads (tt:TypeId->Option TI) (Pp:ga) (w:World) (e:TypeId) (x:Value) (rows:List (List D)) (news:List Value):Prop where
 len:news.length=rows.length*(bV tt e).length
 shape:(∃ba:Option Addr,x= .slice ba 0 0/\rows=[])\/(∃b o c,x= .slice (some ⟨b,o,none⟩) rows.length c/\rows.length<=c/\∀(j:Nat) u,news[j]? =some u->w.cell? ⟨b,o+j,none⟩=some u)\/
  ∃s:ByteArray,x= .string s/\news=Lib.strCells s/\rows.length=s.size
 rd:∀(k:Nat)(row:List D),rows[k]? =some row->row.length=(bV tt e).length/\∀(j:Nat)(d:D)(ck:CK),row[j]? =some d->(bV tt e)[j]? =some ck->
  ∃v,news[k*(bV tt e).length+j]? =some v/\RD tt Pp ck v d
theorem RD.one{c:CK}{v:Value}{d:D}(h:RD tt Pp c v d):v.oneCell'=true:=by cases h<;>rfl
theorem zO{x S:Nat}(h:x<n*S):x/S<n/\x % S<S/\x/S*S+x % S=x:=by
 have b:0<S:=by grind
 refine⟨by rw[JY b];exact h,O3 _ b,?_⟩;rw[jx];exact Nat.div_add_mod x S
theorem Reads.one{e:TypeId}{x:Value}{rows:List (List D)}{news:List Value}(h:Reads tt Pp w e x rows news):∀u∈news,u.oneCell'=true:=by intro u hu;obtain⟨p,b⟩:=gH hu;have da:=cF b;rw[h.len]at da;obtain⟨h1,h2,h3⟩:=zO da;obtain⟨e1,e2⟩:=h.rd _ _ (bB h1);obtain⟨v,c,hr⟩:=e2 _ _ _ (bB yO) (bB h2);rw[h3,b]at c;cases c;exact hr.one
theorem Reads.Pj{e:TypeId}{v:Value}{d:D}(s:WR tt E Pp objs w)(h:RD tt Pp (.slice e) v d):∃rows news,d= .list rows/\Reads tt Pp w e v rows news:=by
 cases h with
 |slnil=>exact⟨[],[],rfl,yS,.inl ⟨none,rfl,rfl⟩,λk row h=>yE h⟩
 |Fz _ ad=>exact⟨[],[],rfl,yS,.inl ⟨some ad,rfl,rfl⟩,λk row h=>yE h⟩
 |sl _ b o len cap rows vf hl hc ef iJ iF=>
  refine⟨rows,(gU (rows.length*(bV tt e).length)).map (λx=>vf (x/(bV tt e).length) (x % (bV tt e).length)),rfl,yS,.inr (.inl ⟨b,o,cap,by rw[hl],yO,?_⟩),?_⟩
  ·intro j u i;have da:=cF i;simp at da;obtain⟨h1,h2,h3⟩:=zO da;simp only[cw,vO da,cu,cr]at i;subst i;have:=s.Ph (iJ (j/(bV tt e).length) (j % (bV tt e).length) yO h2)
   rwa [eR,h3]at this
  ·intro k row hk;refine⟨ef k row hk,λj d ck i m=>⟨vf k j,?_,iF k j row d ck hk i m⟩⟩;have c:=cF m;have p:=cF hk;have da:=kM p c;simp only[cw,vO da,cu,cr];have e1:(k*(bV tt e).length+j)/(bV tt e).length=k:=by rw[jx,tg yO];simp[r7 c]
   have e2:(k*(bV tt e).length+j) % (bV tt e).length=j:=by rw[jx,Dd];exact AD c
   rw[e1,e2]
theorem xr.reads{e:TypeId}{o len:Nat}{rows:List (List D)}(h:xr tt Pp e vs o rows)(hl:rows.length=len)(fL:o+len*(bV tt e).length<=vs.length):
 ((vs.drop o).take (len*(bV tt e).length)).length=rows.length*(bV tt e).length/\∀(k:Nat)(row:List D),rows[k]? =some row->row.length=(bV tt e).length/\∀(j:Nat)(d:D)(ck:CK),row[j]? =some d->(bV tt e)[j]? =some ck->
 ∃v,((vs.drop o).take (len*(bV tt e).length))[k*(bV tt e).length+j]? =some v/\RD tt Pp ck v d:=by
 refine⟨by rw[hl];simp;omega,λk row hk=>?_⟩;obtain⟨e1,e2⟩:=h k row hk;refine⟨e1,λj d ck m b=>?_⟩;obtain⟨v,p,hr⟩:=e2 j d ck m b;have c:=cF b;have i:=cF hk;have da:=kM i c;refine⟨v,?_,hr⟩;rw[cQ (by grind),fw];rw[show o+(k*(bV tt e).length+j)=o+k*(bV tt e).length+j by omega];exact p
theorem Reads.Qn{K:TypeId->D->Prop}(z:WR tt E Pp objs w){v:Value}{p:PV}(I:VR tt E Pp v p)(h:Qe objs p K):∃e rows news,K e (.list rows)/\Reads tt Pp w e v rows news:=by
 unfold Qe at h;split at h
 ·cases I with
  |lst e _ _ hr=>obtain⟨rows,news,rfl,L⟩:=Reads.Pj z hr;exact⟨_,rows,news,h,L⟩
 ·rename_i e r;split at h
  ·rename_i O d wr J;cases hb:nb e O with
   |false=>rw[hb]at h;exact h.elim
   |true=>
    rw[hb]at h;have:=dH hb;subst this;have x:=dB J rfl;obtain⟨ri,b,c⟩:=z.ob r _ x rfl;cases I with
    |row0 _ _ m=>rw[m]at b;cases b;have:d= .list []:=c;subst this;exact⟨_,[],[],h,yS,.inl ⟨none,rfl,rfl⟩,λk row h=>yE h⟩
    |row _ _ g o len cap m=>rw[m]at b;cases b;obtain⟨vs,T,rows,R,rfl,hl,i,fL,ef,_,_⟩:=c;have M:len*(bV tt e).length<=cap*(bV tt e).length:=dE _ i;obtain⟨h1,h2⟩:=ef.reads hl yO;refine⟨_,rows,(vs.drop o).take (len*(bV tt e).length),h,h1,.inr (.inl ⟨g,o,cap,by rw[hl],yO,?_⟩),h2⟩;intro j u s;have da:=cF s;rw[h1,hl]at da;rw[cQ da,fw]at s;rw[eN R];exact s
  ·exact h.elim
 ·exact h.elim
theorem Reads.Qm{e:TypeId}(i:bV tt e=[.int .u8])(b:ByteArray):Reads tt Pp w e (.string b) (b.data.toList.map λc=>[.int (c.toNat:Int)]) (Lib.strCells b):=by
 have hl:(b.data.toList.map λc=>[D.int (c.toNat:Int)]).length=b.size:=yS;refine⟨by rw[Lib.strCells_length,i,hl];exact(vL _).symm,.inr (.inr ⟨b,rfl,rfl,hl⟩),λk row hk=>?_⟩;rw[cw]at hk;obtain⟨c,hc,rfl⟩:=lE.1 hk;refine⟨by rw[i];rfl,λj d ck m h=>?_⟩;rw[i]at h ⊢;cases j with
 |succ j=>simp at m
 |zero=>simp at m h;subst m h;exact⟨.int .u8 c.toNat,by simp[Lib.strCells,hc],.int _ _⟩
theorem Reads.first{e:TypeId}{x:Value}{rows:List (List D)}{news:List Value}(h:Reads tt Pp w e x rows news)(k:w'.heap=w.heap):
 (Builtin.lenOf x).run P w'= .ok rows.length w'/\(Builtin.firstCells (bV tt e).length rows.length x).run P w'= .ok news.toArray w':=by
 rcases h.shape with⟨ba,rfl,rfl⟩|⟨b,o,c,rfl,hc,d⟩|⟨s,rfl,rfl,hs⟩
 ·have hl:=h.len;simp at hl;subst hl;cases ba with
  |none=>exact⟨by simp[Builtin.lenOf],by simp[Builtin.firstCells]⟩
  |some ad=>exact⟨by simp[Builtin.lenOf],run_firstCells_some (P:=P) w' _ _ _ _ _ [] yS (λj u i=>yE i)⟩
 ·refine⟨by simp[Builtin.lenOf],run_firstCells_some (P:=P) w' _ _ _ _ _ news h.len ?_⟩;intro j u i;rw[fA];have:=d j u i;rw[<- this];simp[World.cell?,k]
 ·exact⟨by simp[Builtin.lenOf,hs],by rw[hs];exact Lib.run_firstCells_string w' _ s⟩
theorem Fj{e:TypeId}(h1:tt q=some F)(h2:tt f=some G)(s:eJ F=some e)(p:P.underlying f=some (.slice e)\/P.underlying f=some .string)(h:tt e=some A)(k:fp P tt)
 {x:Value}{rows:List (List D)}{news:List Value} (v:Reads tt Pp w e x rows news) {o:Nat}{cur:List Value} (J:w.heap[g]? =some (.cells ⟨cur⟩ T (0,0)))
 (b:n+rows.length<=cap) (u:o+n*(bV tt e).length+news.length<=cur.length):
 (Builtin.append_ #[q,f] ty #[.slice (some ⟨g,o,none⟩) n cap,x]).run P w= .ok (.slice (some ⟨g,o,none⟩) (n+rows.length) cap) (w.setRow g ⟨cur.take (o+n*(bV tt e).length)++news++cur.drop (o+n*(bV tt e).length+news.length)⟩):=by
 obtain⟨m,_,_⟩:=(k _ _ h1).slice s;have d:bV tt e=A.cd:=by simp[bV,h]
 obtain⟨_,i,_,_⟩:=(k _ _ h).run w;rw[<- d]at i;obtain⟨I,z⟩:=v.first (P:=P) (w':=w) rfl;have c:=run_storeCells_at P g (o+n*(bV tt e).length) T news 0 ⟨cur⟩ w J (by grind) v.one;simp only[iS]at c;rcases p with j|j<;>simp[Builtin.append_,run_underlying m,run_underlying j,i,I,b,z,fA,c]
theorem xq{e:TypeId}(h1:tt q=some F)(h2:tt f=some G)(L:eJ F=some e)(I:P.underlying f=some (.slice e)\/P.underlying f=some .string)(m:tt e=some A)(j:fp P tt)
 {x y:Value}{rows:List (List D)}{news:List Value} (R:Reads tt Pp w e x rows news) (U:Reads tt Pp w e y olds oldc) (X:y= .slice base olds.length cap) (O:olds.length<=cap)
 (hg:cap<olds.length+rows.length) (v:olds.length+rows.length<=4294967296) (hb:A.bytes<=1024):
 ∃(M:Nat) (zs:List Value),olds.length+rows.length<=M/\zs.length=(M-(olds.length+rows.length))*(bV tt e).length/\
 (Builtin.append_ #[q,f] ty #[y,x]).run P w= .ok (.slice (some ⟨w.heap.size,0,none⟩) (olds.length+rows.length) M) (w.drew.alloc (.cells ⟨oldc++news++zs⟩ e)):=by
 obtain⟨p,_,_⟩:=(j _ _ h1).slice L;have b:bV tt e=A.cd:=by simp[bV,m]
 obtain⟨i,z,d,Y,fL,W,V,J,_⟩:=(j _ _ m).info;rw[<- b]at fL;have u:z.cells.size=(bV tt e).length:=by rw[<- gZ,J,b];simp
 obtain⟨S,_⟩:=R.first (P:=P) (w':=w) rfl;obtain⟨_,Z⟩:=R.first (P:=P) (w':=w.drew) rfl;obtain⟨_,f3⟩:=U.first (P:=P) (w':=w.drew) rfl;have o:¬(olds.length+rows.length<=cap):=yO;have ab:(olds.length+rows.length)*i.bytes<=4294967296*1024:=Fy v yO;have s:=growslice_fits (need:=olds.length+rows.length) (old:=cap) (bytes:=i.bytes) yO yO;have k:¬(281474976710656<Builtin.nextslicecap (olds.length+rows.length) cap*i.bytes):=yO;have h:¬(9223372036854775807<((olds.length:Int)+(rows.length:Int))):=yO;refine⟨grownCap w (olds.length+rows.length) cap e,(Builtin.zeroCells z.cells (grownCap w (olds.length+rows.length) cap e-(olds.length+rows.length))).toList,grownCap_ge _ _ _ _,by simp[Builtin.zeroCells,u],?_⟩;subst X
 rcases I with c|c<;>(
  simp[Builtin.append_,run_underlying p,run_underlying c,sizeOf,typeInfo,zeroValue,Y,V,fL,S,o,h,k,Question.forced,Z,f3,newRow,grownCap]
  congr 2
  apply j4;simp[bN])
theorem rU{e:TypeId}(h1:tt q=some F)(h2:tt f=some G)(u:eJ F=some e)(m:P.underlying f=some (.slice e)\/P.underlying f=some .string)(j:tt e=some A)(o:fp P tt)
 {x:Value}{news:List Value} (v:Reads tt Pp w e x [] news) (c:n<=cap):
 (Builtin.append_ #[q,f] ty #[.slice base n cap,x]).run P w= .ok (.slice base n cap) w:=by
 obtain⟨k,_,_⟩:=(o _ _ h1).slice u;have i:bV tt e=A.cd:=by simp[bV,j]
 obtain⟨_,h,_,_⟩:=(o _ _ j).run w;rw[<- i]at h;obtain⟨s,p⟩:=v.first (P:=P) (w':=w) rfl;have hl:=v.len;simp at hl;subst hl;simp only[cH]at s p;cases base with
 |none=>rcases m with d|d<;>simp[Builtin.append_,run_underlying k,run_underlying d,h,s,c,p]
 |some b=>rcases m with d|d<;>simp[Builtin.append_,run_underlying k,run_underlying d,h,s,c,p,storeCells]
theorem Mf{e:TypeId}{rows:List (List D)}{news zs:List Value}(c:oldc.length=olds.length*(bV tt e).length)
 (i:∀(k:Nat)(row:List D),olds[k]? =some row->row.length=(bV tt e).length/\∀(j:Nat)(d:D)(ck:CK),row[j]? =some d->(bV tt e)[j]? =some ck->∃v,oldc[k*(bV tt e).length+j]? =some v/\RD tt Pp ck v d)
 (b:news.length=rows.length*(bV tt e).length)
 (h:∀(k:Nat)(row:List D),rows[k]? =some row->row.length=(bV tt e).length/\∀(j:Nat)(d:D)(ck:CK),row[j]? =some d->(bV tt e)[j]? =some ck->∃v,news[k*(bV tt e).length+j]? =some v/\RD tt Pp ck v d):
 ∀(k:Nat)(row:List D),(olds++rows)[k]? =some row->row.length=(bV tt e).length/\∀(j:Nat)(d:D)(ck:CK),row[j]? =some d->(bV tt e)[j]? =some ck->∃v,(oldc++news++zs)[k*(bV tt e).length+j]? =some v/\RD tt Pp ck v d:=by
 intro k row hk;rcases kq hk with⟨da,h1⟩|⟨k',rfl,h1⟩
 ·grind
 ·grind
theorem lb{o:Oper}{x y:Operand}{q f:TypeId}{C:Array Operand}{ts:Array TypeId}(b:o.op= .call { callee:=.builtin .append,args:=C,argTypes:=ts })(has:C.toList=[x,y])(c:ts.toList=[q,f]){v:Value}{w':World}
 (h:(Builtin.append_ #[q,f] o.type #[a.eval x,a.eval y]).run P w= .ok v w'):(execOp a.eval o).run P w= .ok (.value v) w':=by
 obtain rfl:C= #[x,y]:=by grind
 obtain rfl:ts= #[q,f]:=by grind
 simp[execOp,b,resolve,invoke,builtin,h]
theorem Av(S:fp P tt)(h:cY tt B E Pp st.o w)(hs:∀t,VR tt E Pp (a.tmps.getD t undef) (look st.s t)){o:Oper}{x:Operand}{e:TypeId}
 (Y:o.op= .call { callee:=.builtin .append,args:=C,argTypes:=ts }) (has:C.toList=[x,y]) (aa:ts.toList=[q,f])
 (h1:tt q=some F) (h2:tt f=some G) (R:eJ F=some e) (M:P.underlying f=some (.slice e)\/P.underlying f=some .string) (W:tt e=some A) (hb:A.bytes<=1024)
 {rows:List (List D)}{news:List Value} (V:Reads tt Pp w e (a.eval y) rows news) {d:D} (hx:VR tt E Pp (a.eval x) (.pe e d))
 (J:ec.len d+rows.length<=4294967296)
 (u:(0<rows.length/\K (.row e (cv st.o)) ⟨st.s,iR st.o [.row e (ec.app d (.list rows)) true]⟩)\/K (.lst e (ec.app d (.list rows))) st)
:o.wp P a w (er tt B eB E Pp st.o w o a K) Q:=by
 have p:= @lb P w a o x y q f C ts Y has aa;generalize ak:a.eval x=vx at hx p;cases hx with
 |pe _ base n _ hr=>
  obtain⟨olds,oldc,rfl,I⟩:=Reads.Pj h.wr hr
  have hn:n=olds.length:=by
   rcases I.shape with⟨_,he,h0⟩|⟨b,o',c,he,_⟩|⟨_,he,_⟩
   ·grind
   ·cases he;rfl
   ·cases he
  subst hn;by_cases h0:rows=[]
  ·subst h0;rcases u with⟨hp,_⟩|u
   ·simp at hp
   ·have m:=rU (ty:=o.type) (n:=olds.length) (cap:=olds.length) (base:=base) h1 h2 R M W S V (ca _);refine eZ (p m) ?_;refine er.mk (s':=st.s) (o':=st.o) (.lst _ _ _ ?_) hs h u (λ_ ad v s=>s);simpa[cp]using hr
  ·have ae:0<rows.length:=ej.2 h0;obtain⟨nc,zs,L,Z,m⟩:=xq (ty:=o.type) h1 h2 R M W S V I rfl (ca _) yO (by simp[cp]at J;omega) hb;have iF:=Mf (zs:=zs) I.len I.rd V.len V.rd;have hd:cY tt B E Pp st.o w.drew:=h.drew;have O:∀k,k<w.heap.size->(w.drew.alloc (.cells ⟨oldc++news++zs⟩ e)).heap[k]? =w.heap[k]? :=λk hk=>RowKit.Below.heap_alloc w.drew _ k hk
   have fL:(oldc++news++zs).length=nc*(bV tt e).length:=by
    simp only[bE,I.len,V.len,Z,<-ez]
    congr 1;omega
   refine eZ (p m) ?_;rcases u with⟨_,u⟩|u
   ·rw[fK,cX]at u;refine er.mk (E':=E++[.row w.heap.size 0 (olds.length+rows.length) nc]) (Pp':=Pp) (.row _ _ _ _ _ _ (by rw[<- h.wr.len];simp)) (gE hs) ?_ u (λ_ ad v s=>s.grow h.wr.len (λ_ _ h=>h) O);refine hd.new rfl ⟨_,e,olds++rows,eM w.drew _,rfl,yS,L,yO,?_,λ_=>l9 h.wr,λhf=>yE hf⟩;intro k row hk;obtain⟨e1,e2⟩:=iF k row hk;refine⟨e1,λj d ck U z=>?_⟩;obtain⟨v,s,hr⟩:=e2 j d ck U z;exact⟨v,yU s,hr⟩
   ·have hS:=hd.lay (oldc++news++zs) e;refine er.mk (s':=st.s) (o':=st.o) (.lst _ _ _ ?_) (λt=>(hs t).mono (λ_ _ h=>h) (λ_ _ h=>.inl h)) hS u ?_
    ·refine .sl e w.heap.size 0 _ nc (olds++rows) (λi j=>(oldc++news++zs).getD (i*(bV tt e).length+j) undef) yS L (λi row X=>(iF i row X).1) ?_ ?_
     ·intro i j X U;have ac:(olds++rows)[i]? =some ((olds++rows)[i]'(by grind)):=bB _;obtain⟨ai,hc⟩:=iF i _ ac;obtain⟨v,s,_⟩:=hc j _ _ (bB yO) (bB U);refine .inr ⟨rfl,?_⟩;exact(eN (eM w.drew (.cells ⟨oldc++news++zs⟩ e)) (0+i*(bV tt e).length+j)).trans (by grind)
     ·intro i j row d ck X U z;obtain⟨v,s,hr⟩:=(iF i row X).2 j d ck U z;simp only[cj,s,dQ];exact hr.mono (λ_ _ h=>.inl h)
    ·intro _ ad v s;simpa using s.grow (E2:=[]) (objs2:=[]) (Pp':=λad v=>Pp ad v\/(ad.block=w.drew.heap.size/\(w.drew.alloc (.cells ⟨oldc++news++zs⟩ e)).cell? ad=some v)) h.wr.len (λ_ _ h=>.inl h) O
theorem sy(r:Nat):∀(l:List Ob)(i:Nat),(jT r l)[i]? =(l[i]?).map λo=>match o with| .box cs=>.box (c9 (kill r) cs)| .loop n ps a c s j=>.loop n ps a c (mG r s) j|o=>o
 |[],i=>by simp[jT]
 |o::l,i=>by cases o<;>cases i<;>simp[jT,sy r l]
theorem mP(r:Nat):∀(l:List Ob),(jT r l).length=l.length
 |[]=>rfl
 |o::l=>by cases o<;>simp[jT,mP r l]
theorem Ln(c:∀(i:Nat) x,i≠r->E[i]? =some x->E'[i]? =some x){ps:List PV}(b:fe tt E Pp vs ps):fe tt E' Pp vs (c9 (kill r) ps):=by
 induction ps generalizing vs with
 |nil=>cases b;exact .nil
 |cons p ps d=>cases b with|cons _ _ _ _ h1 h2=>exact .cons _ _ _ _ (CE c h1) (d h2)
theorem cY.se{e:TypeId}{d d':D}(h:cY tt B E Pp objs w)(Y:objs[r]? =some (.row e d wr))(X:E[r]? =some ri)(O:B.E0.length<=r)
 (R:OR tt (E.set r ri') Pp' w' ri' (.row e d' wr)) (I:∀b n c,ri≠ .map b n c)
 (U:w'.os=w.os) (S:w'.tape=w.tape) (z:w'.output=w.output) (fL:w.heap.size<=w'.heap.size)
 (L:∀b,b<w.heap.size->ri.du ≠some b->w'.heap[b]? =w.heap[b]?)
 (M:∀ad v,Pp ad v->Pp' ad v) (u:∀ad v,Pp' ad v->Pp ad v\/ri.du =some ad.block\/w.heap.size<=ad.block)
 (J:∀b,ri'.du =some b->ri.du =some b\/w.heap.size<=b)
 (iJ:∀ad v,Pp' ad v->pc w' ad=some v) (ag:w.drawn<=w'.drawn:=by first|exact ca _|exact qF _|assumption):cY tt B (E.set r ri') Pp' ((jT r objs).set r (.row e d' wr)) w':=by
 have hl:=h.wr.len;have hr:=cF Y;have p:∀(i:Nat) x,i≠r->E[i]? =some x->(E.set r ri')[i]? =some x:=by grind
 refine h.x7 Y rfl X yS (λj V=>cc (eh V)) (by grind) (.inr O) (by simp[mP]) ?_ (by rw[dh (by rw[mP];exact hr)]) (λ_=>R) U S z fL L M u J iJ;intro j ae V k W;rw[cc (eh V),sy]at k;cases Z:objs[j]? with
 |none=>rw[Z]at k;simp at k
 |some oj=>
  rw[Z]at k;simp only[cu,cr]at k;refine⟨oj,rfl,by cases oj<;>simp_all[Ob.live]<;>(subst k;simp at W),?_⟩;intro rj ab o;cases oj with
  |box cs=>
   simp only at k;subst k;cases rj<;>try exact o.elim
   obtain⟨vs,T,h1,h2,h3,h4⟩:=o;exact⟨vs,T,h1,Ln p h2,h3,h4.map (Lo r)⟩
  |row=>simp only at k;subst k;cases rj<;>exact o
  |map=>simp only at k;subst k;cases rj<;>exact o
  |diter=>simp only at k;subst k;cases rj<;>exact o
  |iter m s=>
   simp only at k;subst k;cases rj<;>try exact o.elim
   obtain⟨bm,borns,clock,ls,h1,h2⟩:=o;refine⟨bm,borns,clock,ls,p _ _ ?_ h1,h2⟩;rintro rfl;rw[X]at h1;cases h1;exact I _ _ _ rfl
  |loop n qs c1 c2 s jj=>
   simp only at k;subst k;cases rj<;>try exact o.elim
   obtain⟨r',h1,h2,h3⟩:=o;exact⟨r',h1,h2,λt=>by rw[zk];exact CE p (h3 t)⟩
  |dead=>simp only at k;subst k;cases rj<;>exact o
theorem oO.zl{ob:Ob}{v:Value}(h:oO tt E Pp objs w ad v)(hr:r<objs.length)
 (m:∀ad v,Pp ad v->Pp' ad v) (b:∀(i:Nat) x,i≠r->E[i]? =some x->E'[i]? =some x) (hc:∀(i:Nat),i≠r->w.cell? ad=some v->(∃cs,objs[i]? =some (.box cs)/\E[i]? =some (.box ad.block))\/
 (∃e d wr o len cap,objs[i]? =some (.row e d wr)/\E[i]? =some (.row ad.block o len cap))->w'.cell? ad=some v)
 (k:w.cell? ad=some v->((∃cs,objs[r]? =some (.box cs)/\E[r]? =some (.box ad.block))\/(∃e d wr o len cap,objs[r]? =some (.row e d wr)/\E[r]? =some (.row ad.block o len cap)/\ad.off<o+len*(bV tt e).length))->
   oO tt E' Pp' ((jT r objs).set r ob) w' ad v):oO tt E' Pp' ((jT r objs).set r ob) w' ad v:=by
 rcases h with h|⟨j,i,p⟩
 ·exact .inl (m _ _ h)
 ·by_cases c:i=r
  ·grind
  ·refine .inr ⟨hc i c j ?_,i,?_⟩
   ·grind
   ·rcases p with⟨cs,h1,h2⟩|⟨e,d,wr,o,len,cap,h1,h2,h3⟩
    ·exact .inl ⟨c9 (kill r) cs,by rw[cc (eh c),sy,h1];rfl,b _ _ c h2⟩
    ·exact .inr ⟨e,d,wr,o,len,cap,by rw[cc (eh c),sy,h1];rfl,b _ _ c h2,h3⟩
theorem As{v:Value}{fr:Nat×Nat}(b:w.heap[ad.block]? =some (.cells ⟨vs⟩ T fr))(h:w.cell? ad=some v):ad.spot.isSome=false/\vs[ad.off]? =some v:=by
 simp only[World.cell?,b]at h;cases hs:ad.spot.isSome with
 |true=>simp[hs]at h
 |false=>simp[hs]at h;exact⟨rfl,h⟩
theorem lM(hs:∀t,VR tt E Pp (a.tmps.getD t undef) (look st.s t))(b:∀ad v,Pp ad v->Pp' ad v):∀t,VR tt (E.set r ri') Pp' (a.tmps.getD t undef) (look (mG r st.s) t):=by intro t;rw[zk];exact(CE (λi x c d=>by rw[cc (eh c)];exact d) (hs t)).mono (λ_ _ h=>h) b
theorem wT(ah:fp P tt)(h:cY tt B E Pp st.o w)(hs:∀t,VR tt E Pp (a.tmps.getD t undef) (look st.s t)){o:Oper}{x:Operand}{e:TypeId}
 (Y:o.op= .call { callee:=.builtin .append,args:=C,argTypes:=ts }) (has:C.toList=[x,y]) (ai:ts.toList=[q,f])
 (h1:tt q=some F) (h2:tt f=some G) (ae:eJ F=some e) (ac:P.underlying f=some (.slice e)\/P.underlying f=some .string) (al:tt e=some A) (hb:A.bytes<=1024)
 {rows:List (List D)}{news:List Value} (W:Reads tt Pp w e (a.eval y) rows news) (V:Reads tt Pp w e (a.eval x) olds oldc) (hx:a.eval x= .slice base olds.length cap) (L:olds.length<=cap)
 (hg:cap<olds.length+rows.length) (M:olds.length+rows.length<=4294967296) (I:st.o[r]? =some (.row e (.list olds) wr)) (hE:E[r]? =some ri) (aa:B.E0.length<=r)
 (u:ri= .row0\/∃g R m,ri= .row g R olds.length m)
 (hK:K (.row e r) ⟨mG r st.s,ja (jT r st.o) r (.row e (.list (olds++rows)) wr)⟩)
:o.wp P a w (er tt B eB E Pp st.o w o a K) Q:=by
 have S:= @lb P w a o x y q f C ts Y has ai;obtain⟨nc,zs,ab,Z,O⟩:=xq (ty:=o.type) h1 h2 ae ac al ah W V hx L hg M hb;have iF:=Mf (zs:=zs) V.len V.rd W.len W.rd
 have fL:(oldc++news++zs).length=nc*(bV tt e).length:=by
  simp only[bE,V.len,W.len,Z,<-ez]
  congr 1;omega
 have J:∀k,k<w.heap.size->(w.drew.alloc (.cells ⟨oldc++news++zs⟩ e)).heap[k]? =w.heap[k]? :=λk hk=>RowKit.Below.heap_alloc w.drew _ k hk;have s:(w.drew.alloc (.cells ⟨oldc++news++zs⟩ e)).heap[w.heap.size]? =some (.cells ⟨oldc++news++zs⟩ e (0,0)):=eM w.drew _;generalize z:w.drew.alloc (.cells ⟨oldc++news++zs⟩ e)=w' at*;have ax:w.drawn<=w'.drawn:=by rw[<- z];exact qF _
 let Pp':ga:=λad v=>Pp ad v\/(wr=false/\ad.block=w.heap.size/\ad.off<(olds.length+rows.length)*(bV tt e).length/\w'.cell? ad=some v)\/
  (w.cell? ad=some v/\ri.du =some ad.block/\∃g R m,ri= .row g R olds.length m/\ad.off<R+olds.length*(bV tt e).length)
 have p:∀ad v,w.cell? ad=some v->w'.cell? ad=some v:=λad v hc=>by rw[tR (J _ (World.block_lt_of_cell? w ad hc))];exact hc
 have aj:=cF I
 have hS:cY tt B (E.set r (.row w.heap.size 0 (olds.length+rows.length) nc)) Pp' ((jT r st.o).set r (.row e (.list (olds++rows)) wr)) w':=by
  refine h.se I hE aa ?_ ?_ (by rw[<- z];rfl) (by rw[<- z];rfl) (by rw[<- z];rfl) (by grind) (λb hb _=>J b hb) (λ_ _ h=>.inl h) ?_ (λb hb=>.inr ?_) ?_
  ·refine⟨_,e,olds++rows,s,rfl,yS,ab,yO,?_,?_,?_⟩
   ·intro k row hk;obtain⟨e1,e2⟩:=iF k row hk;refine⟨e1,λj d ck hj am=>?_⟩;obtain⟨v,c,hr⟩:=e2 j d ck hj am;exact⟨v,by rw[fk];exact c,hr.mono (λ_ _ h=>.inl h)⟩
   ·intro U ad v c;rcases c with c|⟨hf,_⟩|⟨hc,_⟩
    ·exact l9 h.wr ad v c
    ·grind
    ·have:=World.block_lt_of_cell? w ad hc;omega
   ·intro U;refine⟨?_,?_⟩
    ·intro i j v hi hj c;refine .inr (.inl ⟨U,rfl,?_,?_⟩)
     ·show 0+i*(bV tt e).length+j<_;have:=kM hi hj;omega
     ·rw[eN s];exact c
    ·intro ad v c X;rcases c with c|⟨_,_,da,_⟩|⟨hc,_⟩
     ·exact absurd X (l9 h.wr ad v c)
     ·omega
     ·have:=World.block_lt_of_cell? w ad hc;omega
  ·grind
  ·grind
  ·simp[RI.du]at hb;omega
  ·intro ad v c;rcases c with c|⟨_,_,_,hc⟩|⟨hc,_⟩
   ·rw[iu (J _ (yT (h.wr.pi ad v c)))];exact h.wr.pi ad v c
   ·exact gF hc
   ·exact gF (p ad v hc)
 refine eZ (S O) ?_;rw[gO]at hK;refine er.mk (.row _ _ _ _ _ _ (by grind)) (lM hs (λ_ _ h=>.inl h)) hS hK ?_;intro _ ad v c;refine c.zl aj (λ_ _ h=>.inl h) (λi x hi hx=>by rw[cc (eh hi)];exact hx) (λi _ hc _=>p ad v hc) ?_;intro hc ho;rcases ho with⟨cs,h3,_⟩|⟨e',d',av,o',ao,m,h3,h4,h5⟩
 ·grind
 ·rw[I]at h3;cases h3;rw[hE]at h4;cases h4;rcases u with u|⟨g,R,ap,u⟩
  ·cases u
  ·cases u;exact .inl (.inr (.inr ⟨hc,rfl,_,_,_,rfl,h5⟩))
theorem DU(aA:fp P tt)(h:cY tt B E Pp st.o w)(hs:∀t,VR tt E Pp (a.tmps.getD t undef) (look st.s t)){o:Oper}{x:Operand}{e:TypeId}
 (ap:o.op= .call { callee:=.builtin .append,args:=C,argTypes:=ts }) (has:C.toList=[x,y]) (aB:ts.toList=[q,f])
 (h1:tt q=some F) (h2:tt f=some G) (ay:eJ F=some e) (aw:P.underlying f=some (.slice e)\/P.underlying f=some .string) (aD:tt e=some A)
 {rows:List (List D)}{news:List Value} (hR:Reads tt Pp w e (a.eval y) rows news) {s:Nat} (hx:a.eval x= .slice (some ⟨g,s,none⟩) olds.length cap)
 (z:olds.length+rows.length<=cap) (L:st.o[r]? =some (.row e (.list olds) wr)) (hE:E[r]? =some (.row g s olds.length cap)) (au:B.E0.length<=r)
 (hK:K (.row e r) ⟨mG r st.s,ja (jT r st.o) r (.row e (.list (olds++rows)) wr)⟩)
:o.wp P a w (er tt B eB E Pp st.o w o a K) Q:=by
 have Y:= @lb P w a o x y q f C ts ap has aB;obtain⟨ri,an,ax⟩:=h.wr.ob r _ L rfl;rw[hE]at an;cases an;obtain⟨vs,T,ao,hg,aE,hl,aH,fL,ef,am,al⟩:=ax;cases aE;generalize V:(bV tt e).length=S at*;have av:=hR.len;rw[V]at av;have aF:(olds.length+rows.length)*S<=cap*S:=dE _ z;rw[ez]at aF;have X:=Fj (ty:=o.type) (n:=olds.length) (o:=s) (cur:=vs) h1 h2 ay aw aD aA hR hg z (by grind);rw[V]at X;rw[hx]at Y;generalize u:w.setRow g ⟨vs.take (s+olds.length*S)++news++vs.drop (s+olds.length*S+news.length)⟩=w' at*;have aJ:w.drawn<=w'.drawn:=by rw[<- u];exact ca _
 have W:w'.heap[g]? =some (.cells ⟨vs.take (s+olds.length*S)++news++vs.drop (s+olds.length*S+news.length)⟩ e (0,0)):=by rw[<- u];exact setRow_heap w g _ _ _ _ hg
 have O:∀k,k≠g->w'.heap[k]? =w.heap[k]? :=λk hk=>by rw[<- u];exact setRow_other w g k _ hk
 have ag:=cF L
 have I:∀ad v,w.cell? ad=some v->(ad.block=g->cap=0\/ad.off<s+olds.length*S)->w'.cell? ad=some v:=by
  intro ad v hc da;by_cases p:ad.block=g
  ·have da:=da p;obtain⟨h3,h4⟩:=As (by rw[p];exact hg) hc;simp only[World.cell?,p,W,h3,cC,if_false];have ac:¬(s+olds.length*S<=ad.off/\ad.off<s+olds.length*S+news.length):=by grind
   rw[<- iq,ny yO,if_neg ac];exact h4
  ·rw[tR (O _ p)];exact hc
 let Pp':ga:=λad v=>Pp ad v\/(wr=false/\ad.block=g/\ad.off<s+(olds.length+rows.length)*S/\w'.cell? ad=some v)
 have ak:cY tt B (E.set r (.row g s (olds.length+rows.length) cap)) Pp' ((jT r st.o).set r (.row e (.list (olds++rows)) wr)) w':=by
  refine h.se L hE au ?_ (λb n c hc=>yC hc) (by rw[<- u];rfl) (by rw[<- u];rfl) (by rw[<- u];rfl) (by rw[<- u];simp) ?_ (λ_ _ h=>.inl h) ?_ (λb hb=>.inl hb) ?_
  ·refine⟨_,T,olds++rows,W,rfl,yS,z,by rw[V];simp;omega,?_,?_,?_⟩
   ·intro k row hk;rw[V];rcases kq hk with⟨da,h3⟩|⟨k',rfl,h3⟩
    ·obtain⟨e1,e2⟩:=ef k row h3;rw[V]at e1 e2;refine⟨e1,λj d ck hj U=>?_⟩;obtain⟨v,m,hr⟩:=e2 j d ck hj U;have R:=cF U;rw[V]at R;have:=kM da R;exact⟨v,by rw[ny yO,if_neg yO];exact m,hr.mono (λ_ _ h=>.inl h)⟩
    ·obtain⟨e1,e2⟩:=hR.rd k' row h3;rw[V]at e1 e2;refine⟨e1,λj d ck hj U=>?_⟩;obtain⟨v,m,hr⟩:=e2 j d ck hj U;have R:=cF U;rw[V]at R;have:=kM (cF h3) R;refine⟨v,?_,hr.mono (λ_ _ h=>.inl h)⟩;rw[ny yO,if_pos (by grind),show s+(olds.length+k')*S+j-(s+olds.length*S)=k'*S+j by rw[ez];omega];exact m
   ·intro J ad v m;rcases m with m|⟨hf,_⟩
    ·exact am J ad v m
    ·grind
   ·intro J;obtain⟨_,ah⟩:=al J;rw[V];refine⟨?_,?_⟩
    ·intro i j v Z hj m;refine .inr ⟨J,rfl,?_,?_⟩
     ·show s+i*S+j<_;have:=kM Z hj;omega
     ·rw[eN W];exact m
    ·grind
  ·intro b _ hb;exact O b (λe=>hb (by rw[e];rfl))
  ·intro ad v m;rcases m with m|⟨_,hb,_⟩
   ·exact .inl m
   ·exact .inr (.inl (by rw[hb];rfl))
  ·intro ad v m;rcases m with m|⟨_,_,_,hc⟩
   ·by_cases p:ad.block=g
    rotate_left
    ·rw[iu (O _ p)];exact h.wr.pi ad v m
    by_cases ai:ad.spot=some 1
    ·exact NL (h.wr.pi ad v m) (by rw[p];exact hg) (by rw[p];exact W) (show jt _=jt _ by simp only[bE,cZ,mL];omega) ai
    refine gF (I ad v (KR (h.wr.pi ad v m) (by rw[p];exact hg) ai) (λM=>?_));cases J:wr with
    |true=>exact absurd M (am J ad v m)
    |false=>obtain⟨_,ah⟩:=al J;exact ah ad v m M
   ·exact gF hc
 refine eZ (Y X) ?_;rw[gO]at hK;refine er.mk (.row _ _ _ _ _ _ (by grind)) (lM hs (λ_ _ h=>.inl h)) ak hK ?_;intro _ ad v m;refine m.zl ag (λ_ _ h=>.inl h) (λi x Z hx=>by rw[cc (eh Z)];exact hx) ?_ ?_
 ·intro i Z hc ho;refine I ad v hc (λM=>?_);exfalso;rcases ho with⟨cs,h3,h4⟩|⟨e',d',aq,o',ae,aa,h3,h4⟩
  ·exact Z (h.wr.sep i r _ _ _ _ g h3 L rfl rfl h4 hE (by rw[M];rfl) rfl)
  ·exact Z (h.wr.sep i r _ _ _ _ g h3 L rfl rfl h4 hE (by rw[M];rfl) rfl)
 ·intro hc ho;rcases ho with⟨cs,h3,_⟩|⟨e',d',aq,o',ae,aa,h3,h4,h5⟩
  ·grind
  ·rw[L]at h3;cases h3;rw[hE]at h4;simp only[cr,RI.row.injEq]at h4;obtain⟨q1,q2,q3,q4⟩:=h4;rw[V]at h5;refine .inr ⟨I ad v hc (λ_=>.inr (by grind)),r,.inr ⟨e,_,wr,s,olds.length+rows.length,cap,by rw[dh (by rw[mP];exact ag)],?_,?_⟩⟩
   ·grind
   ·grind
theorem DV(al:fp P tt)(h:cY tt B E Pp st.o w)(hs:∀t,VR tt E Pp (a.tmps.getD t undef) (look st.s t)){o:Oper}{e:TypeId}{x:Operand}{lo:Option Operand}
 (ac:o.op= .slice t x lo none none) (ay:tt t=some ti) (he:eJ ti=some e) (ao:tt e=some A) {d:D} (ae:st.o[r]? =some (.row e d wr))
 (s:VR tt E Pp (a.eval x) (.row e r)) (ah:B.E0.length<=r) (ar:0<=l) (an:l<=((cp d).length:Int)) (az:(lo=none/\l=0)\/∃y k,lo=some y/\a.eval y= .int k l)
 (hK:K (.row e r) ⟨mG r st.s,ja (jT r (gB [r] 0 st.o)) r (.row e (ec.part d l (ec.len d)) false)⟩)
:o.wp P a w (er tt B eB E Pp st.o w o a K) Q:=by
 have h1:=h.qc [r];have ai:∀t,VR tt E (iO tt E st.o w Pp [r]) (a.tmps.getD t undef) (look st.s t):=λt=>(hs t).mono (λ_ _ h=>h) (λ_ _ h=>.inl h);have m:(gB [r] 0 st.o)[r]? =some (.row e d false):=by rw[jP,ae];simp[fP,xi]
 have I:r<(gB [r] 0 st.o).length:=cF m;have aH:r<E.length:=by rw[h1.wr.len];exact I
 have hu:=((al _ _ ay).slice he).1;have ak:=(al _ _ ao).run (P:=P) w;have am:bV tt e=A.cd:=by simp[bV,ao]
 have aa:∀len cap:Nat,(cp d).length=len->len<=cap->(Instr.sliceBounds true len cap (lo.map a.eval) none none).run P w= .ok (l.toNat,len,cap) w:=by
  intro len cap L J;simp only[Instr.sliceBounds,Ab,Sem.run_bind,Sem.run_pure,Result.andThen_ok];rcases az with⟨rfl,rfl⟩|⟨x1,H,rfl,e1⟩
  ·simp
  ·simp[e1,eL (P:=P) (w:=w) (k:=H) (n:=l) (y:=len) ⟨ar,yO⟩]
 obtain⟨ri,u,X⟩:=h1.wr.ob r _ m rfl;generalize hx:a.eval x=vx at s;cases s with
 |row0 _ _ hE=>
  rw[u]at hE;cases hE;simp only[OR]at X;subst X;obtain rfl:l=0:=by simp[cp]at an;omega
  have p:(execOp a.eval o).run P w= .ok (.value (.slice none 0 0)) w:=by simp[execOp,ac,hx,Instr.sliceAt,run_underlying hu,Instr.slice,aa 0 0 rfl (ca _),ak.2.1]
  have Y:=h1.se (d':=ec.part (.list []) 0 (ec.len (.list []))) (ri':=.row0) (w':=w) m u ah (by rfl) (λb n c hc=>yC hc) rfl rfl rfl (ca _) (λb _ _=>rfl) (λ_ _ h=>h) (λ_ _ h=>.inl h) (λb hb=>by simp[RI.du]at hb) h1.wr.pi;refine eZ p ?_;rw[gO]at hK;refine er.mk (.row0 _ _ (by grind)) (lM ai (λ_ _ h=>h)) Y hK ?_ (λ_ _ h=>.inl h);intro _ ad v s;refine(s.qc [r]).zl I (λ_ _ h=>h) (λi x U hx=>by rw[cc (eh U)];exact hx) (λi _ hc _=>hc) ?_;intro hc ho;rcases ho with⟨cs,h3,_⟩|⟨e',d',au,o',R,O,h3,h4,h5⟩
  ·grind
  ·grind
 |row _ _ g z len cap hE=>
  rw[u]at hE;cases hE;obtain⟨vs,T,rows,hg,aB,L,J,aC,ef,aO,M⟩:=X;subst aB;have M:=M rfl;generalize Y:(bV tt e).length=S at*;obtain⟨k,rfl⟩:∃k:Nat,l=k:=⟨l.toNat,yO⟩;simp only[cp]at an aa;have hk:k<=len:=yO
  have p:(execOp a.eval o).run P w= .ok (.value (.slice (some (if cap=k then(⟨g,z,none⟩:Addr)else⟨g,z+k*S,none⟩)) (len-k) (cap-k))) w:=by
   have:(if cap=k then some (⟨g,z,none⟩:Addr)else some ⟨g,z+k*S,none⟩)=some (if cap=k then(⟨g,z,none⟩:Addr)else⟨g,z+k*S,none⟩):=by grind
   rw[<- this];rw[am]at Y;simp[execOp,ac,hx,Instr.sliceAt,run_underlying hu,Instr.slice,aa len cap L J,ak.2.1,Y,fA]
  have V:ec.part (.list rows) (k:Int) (ec.len (.list rows))= .list (rows.drop k):=by show D.list ((rows.drop (k:Int).toNat).take (((rows.length:Nat):Int).toNat-(k:Int).toNat))=_;simp only[jV];rw[cG yS]
  rw[V]at hK;obtain⟨o1,W⟩:∃o1,o1=(if cap=k then z else z+k*S):=⟨_,rfl⟩;have aw:(if cap=k then(⟨g,z,none⟩:Addr)else⟨g,z+k*S,none⟩)=⟨g,o1,none⟩:=by grind
  rw[aw]at p;have aj:(len-k)*S=len*S-k*S:=Nat.sub_mul _ _ _;have aA:(cap-k)*S=cap*S-k*S:=Nat.sub_mul _ _ _;have aE:k*S<=len*S:=dE _ hk;have aI:len*S<=cap*S:=dE _ J
  have ax:=h1.se (d':=.list (rows.drop k)) (ri':=.row g o1 (len-k) (cap-k)) (w':=w) m u ah (by
   refine⟨vs,T,rows.drop k,hg,rfl,by simp[L],yO,?_,?_,yS,λ_=>⟨?_,?_⟩⟩
   ·grind
   ·intro i row U;rw[fw]at U;have da:k+i<rows.length:=cF U;obtain⟨a1,a2⟩:=ef (k+i) row U;rw[Y]at a1 a2 ⊢;refine⟨a1,λj dd ck hj Z=>?_⟩;obtain⟨v,b1,b2⟩:=a2 j dd ck hj Z;refine⟨v,?_,b2⟩;rw[<- b1,W,if_neg yO,ez];congr 1;omega
   ·intro i j v U hj s;rw[Y]at hj s ⊢;rw[W,if_neg yO]at s ⊢;have hh:=M.1 (k+i) j v yO hj;rw[ez]at hh;have e3:z+k*S+i*S+j=z+(k*S+i*S)+j:=yO;rw[e3]at s ⊢;exact hh s
   ·intro ad v s hb;rw[Y,aj,W];rcases M.2 ad v s hb with h0|h0
    ·left;omega
    ·by_cases Z:cap=k
     ·left;omega
     ·right;rw[if_neg Z];omega) (λb n c hc=>yC hc) rfl rfl rfl (ca _) (λb _ _=>rfl) (λ_ _ h=>h) (λ_ _ h=>.inl h) (λb hb=>.inl hb) h1.wr.pi
  refine eZ p ?_;rw[gO]at hK;refine er.mk (.row _ _ _ _ _ _ (by grind)) (lM ai (λ_ _ h=>h)) ax hK ?_ (λ_ _ h=>.inl h);intro _ ad v s;refine(s.qc [r]).zl I (λ_ _ h=>h) (λi x U hx=>by rw[cc (eh U)];exact hx) (λi _ hc _=>hc) ?_;intro hc ho;rcases ho with⟨cs,h3,_⟩|⟨e',d',au,o',R,O,h3,h4,h5⟩
  ·grind
  ·rw[u]at h4;simp only[cr,RI.row.injEq]at h4;obtain⟨q1,q2,q3,q4⟩:=h4;rw[m]at h3;cases h3;refine .inl (.inr ⟨hc,r,yS,.inr ⟨o',R,O,e,.list rows,wr,by rw[u,<-q1,q2,q3,q4],ae,h5⟩⟩)
theorem DW(R:fp P tt)(h:cY tt B E Pp st.o w)(hs:∀t,VR tt E Pp (a.tmps.getD t undef) (look st.s t)){o:Oper}{e:TypeId}{x:Operand}
 (J:o.op= .slice t x none (some y) none) (ab:tt t=some ti) (he:eJ ti=some e) (V:tt e=some A) {d:D} (s:st.o[r]? =some (.row e d true))
 (hv:VR tt E Pp (a.eval x) (.row e r)) (Z:B.E0.length<=r) (I:0<((cp d).length:Int)) (X:0<=l) (af:l<=((cp d).length:Int)) (e1:a.eval y= .int H l) (hq:eH eB.2=false)
 (Y:K (.row e r) ⟨mG r st.s,ja (jT r st.o) r (.row e (ec.part d 0 l) true)⟩)
:o.wp P a w (er tt B eB E Pp st.o w o a K) Q:=by
 have an:r<E.length:=by rw[h.wr.len];exact cF s
 have hu:=((R _ _ ab).slice he).1;have ac:=(R _ _ V).run (P:=P) w;have U:bV tt e=A.cd:=by simp[bV,V]
 have W:∀len cap:Nat,(cp d).length=len->len<=cap->(Instr.sliceBounds true len cap none (some (a.eval y)) none).run P w= .ok (0,l.toNat,cap) w:=by intro len cap p m;simp only[Instr.sliceBounds,Sem.run_bind,Sem.run_pure,Result.andThen_ok];simp[e1,eL (P:=P) (w:=w) (k:=H) (n:=l) (y:=cap) ⟨X,yO⟩]
 obtain⟨ri,z,v⟩:=h.wr.ob r _ s rfl;generalize hx:a.eval x=vx at hv;cases hv with
 |row0 _ _ L=>rw[z]at L;cases L;simp only[OR]at v;subst v;simp[cp]at I
 |row _ _ g o0 len cap L=>
  rw[z]at L;cases L;obtain⟨vs,T,rows,hg,ah,p,m,M,ef,ai,ar⟩:=v;subst ah;generalize hS:(bV tt e).length=S at*;obtain⟨k,rfl⟩:∃k:Nat,l=k:=⟨l.toNat,yO⟩;simp only[cp]at af W I;have hk:k<=len:=yO;have O:(execOp a.eval o).run P w= .ok (.value (.slice (some (⟨g,o0,none⟩:Addr)) k cap)) w:=by rw[U]at hS;simp[execOp,J,hx,Instr.sliceAt,run_underlying hu,Instr.slice,W len cap p m,ac.2.1,hS,fA]
  have u:ec.part (.list rows) 0 (k:Int)= .list (rows.take k):=by rfl
  rw[u]at Y;have al:k*S<=len*S:=dE _ hk;have aa:=h.se (d':=.list (rows.take k)) (ri':=.row g o0 k cap) (w':=w) s z Z (by refine⟨vs,T,rows.take k,hg,rfl,yQ,yO,by rw[hS];exact M,?_,ai,yS⟩;intro i row hi;have da:=cF hi;simp at da;rw[cQ yO]at hi;exact ef i row hi) (λb n c hc=>yC hc) rfl rfl rfl (ca _) (λb _ _=>rfl) (λ_ _ h=>h) (λ_ _ h=>.inl h) (λb hb=>.inl hb) h.wr.pi;refine eZ O ?_;rw[gO]at Y;refine er.mk (.row _ _ _ _ _ _ (by grind)) (lM hs (λ_ _ h=>h)) aa Y (λj=>?_) (λ_ _ h=>h);rw[J]at j;simp only[gA]at j;rw[hq]at j;cases j
theorem FV(z:fp P tt)(h:cY tt B E Pp st.o w)(hs:∀t,VR tt E Pp (a.tmps.getD t undef) (look st.s t)){o:Oper}{e:TypeId}{x:Operand}
 (O:o.op= .slice t x (some y) none none) (U:tt t=some ti) (he:eJ ti=some e) (J:tt e=some A) {d:D} (R:st.o[r]? =some (.row e d wr))
 (Z:VR tt E Pp (a.eval x) (.row e r)) (M:0<((cp d).length:Int)) (p:0<=l) (W:l<=((cp d).length:Int)) (e1:a.eval y= .int H l)
 (hK:K (.gp e r l fY) st)
:o.wp P a w (er tt B eB E Pp st.o w o a K) Q:=by
 have hu:=((z _ _ U).slice he).1;have V:=(z _ _ J).run (P:=P) w;have I:bV tt e=A.cd:=by simp[bV,J]
 have L:∀len cap:Nat,(cp d).length=len->len<=cap->(Instr.sliceBounds true len cap (some (a.eval y)) none none).run P w= .ok (l.toNat,len,cap) w:=by intro len cap i c;simp only[Instr.sliceBounds,Sem.run_bind,Sem.run_pure,Result.andThen_ok];simp[e1,eL (P:=P) (w:=w) (k:=H) (n:=l) (y:=len) ⟨p,yO⟩]
 obtain⟨ri,m,j⟩:=h.wr.ob r _ R rfl;generalize hx:a.eval x=vx at Z;cases Z with
 |row0 _ _ s=>rw[m]at s;cases s;simp only[OR]at j;subst j;simp[cp]at M
 |row _ _ g b len cap s=>
  rw[m]at s;cases s;obtain⟨vs,T,rows,hg,X,i,c,Y,ef,ah,ag⟩:=j;subst X;generalize hS:(bV tt e).length=S at*;obtain⟨k,rfl⟩:∃k:Nat,l=k:=⟨l.toNat,yO⟩;simp only[cp]at W L;have hk:k<=len:=yO
  have u:(execOp a.eval o).run P w= .ok (.value (.slice (some (if cap=k then(⟨g,b,none⟩:Addr)else⟨g,b+k*S,none⟩)) (len-k) (cap-k))) w:=by
   have:(if cap=k then some (⟨g,b,none⟩:Addr)else some ⟨g,b+k*S,none⟩)=some (if cap=k then(⟨g,b,none⟩:Addr)else⟨g,b+k*S,none⟩):=by grind
   rw[<- this];rw[I]at hS;simp[execOp,O,hx,Instr.sliceAt,run_underlying hu,Instr.slice,L len cap i c,V.2.1,hS,fA]
  refine eZ u ?_;refine er.mk (.gp _ _ _ _ _ g b len cap m p ⟨λhn=>absurd rfl hn,λ_=>⟨⟨if cap=k then b else b+k*S,?_,?_⟩,yO⟩⟩) hs h hK (λ_ ad v h=>h) (λ_ _ h=>h)
  ·grind
  ·grind
theorem Au(M:fp P tt)(h:cY tt B E Pp st.o w)(hs:∀t,VR tt E Pp (a.tmps.getD t undef) (look st.s t)){o:Oper}{x:Operand}{e:TypeId}
 (z:o.op= .call { callee:=.builtin .append,args:=C,argTypes:=ts }) (has:C.toList=[x,y]) (O:ts.toList=[q,f])
 (h1:tt q=some F) (h2:tt f=some G) (L:eJ F=some e) (J:P.underlying f=some (.slice e)\/P.underlying f=some .string) (R:tt e=some A) (hb:A.bytes<=1024)
 {rows:List (List D)}{news:List Value} (hR:Reads tt Pp w e (a.eval y) rows news) (hx:VR tt E Pp (a.eval x) (.row e r)) {d:D} (af:eT st.o r= .row e d wr) (I:B.E0.length<=r)
 (X:ec.len d+rows.length<=4294967296) (hK:K (.row e r) ⟨mG r st.s,ja (jT r st.o) r (.row e (ec.app d (.list rows)) wr)⟩)
:o.wp P a w (er tt B eB E Pp st.o w o a K) Q:=by
 have m:=dB af rfl;have ag:=cF m;obtain⟨ri,S,Z⟩:=h.wr.ob r _ m rfl;generalize p:a.eval x=vx at hx;cases hx with
 |row0 _ _ W=>
  rw[W]at S;cases S;have:d= .list []:=Z;subst this;by_cases h0:rows=[]
  ·subst h0;have U:= @lb P w a o x y q f C ts z has O;rw[p]at U;have Y:=rU (ty:=o.type) (n:=0) (cap:=0) (base:=none) h1 h2 L J R M hR (ca _);refine eZ (U Y) ?_;rw[gO]at hK
   have an:E.set r .row0=E:=by
    apply xQ;intro i;by_cases hi:i=r
    ·grind
    ·grind
   have hS:=h.se (d':=ec.app (.list []) (.list [])) (ri':=.row0) (w':=w) (Pp':=Pp) m W I rfl (λb n c hc=>yC hc) rfl rfl rfl (ca _) (λ_ _ _=>rfl) (λ_ _ h=>h) (λ_ _ h=>.inl h) (λb hb=>by simp[RI.du]at hb) h.wr.pi;refine er.mk (.row0 _ _ (by grind)) (lM hs (λ_ _ h=>h)) hS hK ?_;intro _ ad v hv;refine hv.zl ag (λ_ _ h=>h) (λi x hi hx=>by rw[cc (eh hi)];exact hx) (λi _ hc _=>hc) ?_;intro hc ho;rcases ho with⟨cs,h3,_⟩|⟨e',d',ap,o',ak,ai,h3,h4,h5⟩
   ·grind
   ·grind
  ·have aj:0<rows.length:=ej.2 h0;exact wT (olds:=[]) (oldc:=[]) (base:=none) (cap:=0) M h hs z has O h1 h2 L J R hb hR ⟨yS,.inl ⟨none,p,rfl⟩,λk row h=>yE h⟩ p (ca _) (by grind) (by grind) m W I (.inl rfl) (by simpa[cp]using hK)
 |row _ _ g o0 len cap W=>
  rw[W]at S;cases S;obtain⟨vs,T,olds,hg,rfl,hl,s,fL,ef,ax,aw⟩:=Z;subst hl;have aa:K (.row e r) ⟨mG r st.s,ja (jT r st.o) r (.row e (.list (olds++rows)) wr)⟩:=by simpa[cp]using hK
  by_cases V:olds.length+rows.length<=cap
  ·exact DU M h hs z has O h1 h2 L J R hR p V m W I aa
  ·have av:olds.length*(bV tt e).length<=cap*(bV tt e).length:=dE _ s;obtain⟨e1,e2⟩:=ef.reads rfl yO;refine wT M h hs z has O h1 h2 L J R hb hR ⟨e1,.inr (.inl ⟨g,o0,cap,p,s,?_⟩),e2⟩ p s yO (by simp[cp]at X;omega) m W I (.inr ⟨g,o0,cap,rfl⟩) aa;intro j u hj;have da:=cF hj;rw[e1]at da;rw[cQ da,fw]at hj;rw[eN hg];exact hj
end
end
section
section
variable {P:Program}{tt:TypeId->Option TI}{N:Nat}{B:kk}{E:List RI}{Pp:ga}{objs:List Ob}{w:World}{st:St}{a:Act}{eB:List FuncId×List FuncId}
variable {o:Oper}{K:PV->St->Prop}{Q:Exit->Act->World->Prop}{q A ti:TI}{t:TypeId}{m it:Operand}{r:Nat}{seen:D}{p p0:PV}{ok:Bool}
def l3:CK->TypeDesc
 | .int k=>.int k
 | .str=>.string
 |_=>.bool
theorem Lp{kt:TypeId}{kc:CK}(h:kj P kt A)(ha:A.agg=false)(hc:A.cd=[kc])(hs:jC kc=true):P.underlying kt=some (l3 kc):=by obtain⟨i,z,d,e,_,hb,f,b,_,hd,c⟩:=h.info;cases kc<;>simp[jC]at hs<;>cases d<;>simp_all[l3]
theorem Mo(a b:ByteArray):(a==b)=(a.data.toList==b.data.toList):=(Array.beq_toList a.data b.data).symm
theorem FR{kc:CK}(hs:jC kc=true){u v:Value}{d d':D}(hu:RD tt Pp kc u d)(b:RD tt Pp kc v d'):Instr.sameNow (l3 kc) u v=some (oh d d'):=by cases hu<;>cases b<;>simp_all[jC,l3,Instr.sameNow,oh,Mo]
theorem DT{kc:CK}(hs:jC kc=true){u v:Value}{d d':D}(hu:RD tt Pp kc u d)(b:RD tt Pp kc v d')(h:oh d d'=true)(n:Nat):Instr.sameBits n v u=true:=by cases hu<;>cases b<;>simp_all[jC,Instr.sameBits,oh,Mo]
theorem ph{kc:CK}(hs:jC kc=true){v:Value}{d:D}(h:KD tt Pp kc v d):RD tt Pp kc v d:=by
 rcases h with h|⟨rfl,_⟩
 ·exact h.2
 ·trivial
def sI(tt:TypeId->Option TI)(Pp:ga)(kc:CK)(e:TypeId)(es:List MapEntry)(rows:List (List D)):Prop:=es.length=rows.length/\∀(i:Nat)(x:MapEntry)(row:List D),es[i]? =some x->rows[i]? =some row->vJ tt Pp kc e x row
theorem sI.tail{kc:CK}{e:TypeId}{x:MapEntry}{es:List MapEntry}{row:List D}{rows:List (List D)}(h:sI tt Pp kc e (x::es) (row::rows)):vJ tt Pp kc e x row/\sI tt Pp kc e es rows:=⟨h.2 0 x row rfl rfl,yU h.1,λi y r h1 h2=>h.2 (i+1) y r (by grind) (by grind)⟩
theorem zD{kc:CK}(hs:jC kc=true){e:TypeId}{k:Value}{kd:D}(hk:RD tt Pp kc k kd):∀(es:List MapEntry)(rows:List (List D))(n:Nat),sI tt Pp kc e es rows->
 (∃i x row,es[i]? =some x/\rows[i]? =some row/\fa kd row=true/\rows.any (fa kd)=true/\rows.find? (fa kd)=some row/\(∀vs,jr kd vs rows=rows.set i (kd::vs))/\rows.eraseP (fa kd)=rows.eraseIdx i/\Instr.findNow (l3 kc) k es n=some (some (n+i,x.val)))\/
 (rows.any (fa kd)=false/\(∀vs,jr kd vs rows=rows++[kd::vs])/\rows.eraseP (fa kd)=rows/\Instr.findNow (l3 kc) k es n=some none)
 |[],rows,n,h=>by have:=h.1;have:rows=[]:=cz (yU this.symm);subst this;exact .inr ⟨rfl,λ_=>rfl,rfl,rfl⟩
 |x::es,[],n,h=>by have:=h.1;simp at this
 |x::es,row::rows,n,h=>by
  obtain⟨⟨d,vd,rfl,hr,_⟩,g⟩:=h.tail;have f:=FR hs hk (ph hs hr);have b:fa kd (d::vd)=oh kd d:=rfl;cases c:oh kd d with
  |true=>refine .inl ⟨0,x,d::vd,rfl,rfl,by rw[b,c],by simp[b,c],by simp[b,c],λvs=>by simp[jr,b,c],by simp[b,c],?_⟩;simp[Instr.findNow,f,c]
  |false=>
   rcases zD hs hk es rows (n+1) g with⟨i,y,r,h1,h2,h3,h4,h5,h6,h8,h7⟩|⟨h1,h2,h8,h3⟩
   ·refine .inl ⟨i+1,y,r,yU h1,yU h2,h3,by simp[h4],by simp[b,c,h5],λvs=>by simp[jr,b,c,h6],by simp[b,c,h8],?_⟩;simp only[Instr.findNow,f,c];rw[h7,show n+1+i=n+(i+1)by omega]
   ·exact .inr ⟨by simp[b,c,h1],λvs=>by simp[jr,b,c,h2],by simp[b,c,h8],by simp[Instr.findNow,f,c,h3]⟩
theorem Fa{kt:TypeId}{kc:CK}(hs:jC kc=true)(hu:P.underlying kt=some (l3 kc)){k:Value}{kd:D}(hk:RD tt Pp kc k kd)(b:Bool):(Instr.checkKey b 10000 kt k).run P w= .ok () w:=by
 have c:∀n,(Instr.checkKey b (n+1) kt k).run P w= .ok () w:=by cases hk<;>simp[Instr.checkKey,run_underlying hu,l3]
 exact c 9999
theorem zE{kt:TypeId}{kc:CK}(hu:P.underlying kt=some (l3 kc)){k:Value}{es:List MapEntry}{r:Option (Nat×Value)}(h:Instr.findNow (l3 kc) k es 0=some r):(Instr.findKey kt k es).run P w= .ok r w:=by simp[Instr.findKey,run_underlying hu,h]
structure Tx (P:Program) (tt:TypeId->Option TI) (kt:TypeId) (kc:CK):Prop where
 find:∀{Pp:ga}{e:TypeId}{k:Value}{kd:D}(w:World),KD tt Pp kc k kd->∀(es:List MapEntry)(rows:List (List D)),sI tt Pp kc e es rows->
  (∃i x row,es[i]? =some x/\rows[i]? =some row/\fa kd row=true/\rows.any (fa kd)=true/\rows.find? (fa kd)=some row/\(∀vs,jr kd vs rows=rows.set i (kd::vs))/\rows.eraseP (fa kd)=rows.eraseIdx i/\(Instr.findKey kt k es).run P w= .ok (some (i,x.val)) w)\/
  (rows.any (fa kd)=false/\(∀vs,jr kd vs rows=rows++[kd::vs])/\rows.eraseP (fa kd)=rows/\(Instr.findKey kt k es).run P w= .ok none w)
 check:∀{Pp:ga}{k:Value}{kd:D}(w:World),KD tt Pp kc k kd->∀b,(Instr.checkKey b 10000 kt k).run P w= .ok () w
 bits:∀{Pp:ga}{u v:Value}{d d':D},KD tt Pp kc u d->KD tt Pp kc v d'->oh d d'=true->Instr.sameBits 10000 v u=true
theorem tc{kt:TypeId}{kc:CK}{e:TypeId}{k:Value}{kd:D}(j:∀(v:Value)(d:D),KD tt Pp kc v d->(Op.equal kt k v).run P w= .ok (oh kd d) w):∀(es:List MapEntry)(rows:List (List D))(n:Nat),sI tt Pp kc e es rows->
 (∃i x row,es[i]? =some x/\rows[i]? =some row/\fa kd row=true/\rows.any (fa kd)=true/\rows.find? (fa kd)=some row/\(∀vs,jr kd vs rows=rows.set i (kd::vs))/\rows.eraseP (fa kd)=rows.eraseIdx i/\(Instr.findAsking kt k es n).run P w= .ok (some (n+i,x.val)) w)\/
 (rows.any (fa kd)=false/\(∀vs,jr kd vs rows=rows++[kd::vs])/\rows.eraseP (fa kd)=rows/\(Instr.findAsking kt k es n).run P w= .ok none w)
 |[],rows,n,h=>by have:=h.1;have:rows=[]:=cz (yU this.symm);subst this;exact .inr ⟨rfl,λ_=>rfl,rfl,by simp[Instr.findAsking]⟩
 |x::es,[],n,h=>by have:=h.1;simp at this
 |x::es,row::rows,n,h=>by
  obtain⟨⟨g,vd,rfl,hr,_⟩,l⟩:=h.tail;have f:=j _ _ hr;have b:fa kd (g::vd)=oh kd g:=rfl;cases c:oh kd g with
  |true=>rw[c]at f;refine .inl ⟨0,x,g::vd,rfl,rfl,by rw[b,c],by simp[b,c],by simp[b,c],λvs=>by simp[jr,b,c],by simp[b,c],?_⟩;simp[Instr.findAsking,f]
  |false=>
   rw[c]at f;rcases tc j es rows (n+1) l with⟨i,y,r,h1,h2,h3,h4,h5,h6,h8,h7⟩|⟨h1,h2,h8,h3⟩
   ·refine .inl ⟨i+1,y,r,yU h1,yU h2,h3,by simp[h4],by simp[b,c,h5],λvs=>by simp[jr,b,c,h6],by simp[b,c,h8],?_⟩;simp only[Instr.findAsking,Sem.run_bind,f,Result.andThen_ok,cC,if_false];rw[h7,show n+1+i=n+(i+1)by omega]
   ·exact .inr ⟨by simp[b,c,h1],λvs=>by simp[jr,b,c,h2],by simp[b,c,h8],by simp[Instr.findAsking,f,h3]⟩
theorem u7{kt:TypeId}{kc:CK}(h:kj P kt A)(hk:keyOf A=some kc):Tx P tt kt kc:=by
 unfold keyOf at hk;split at hk
 ·rename_i c ha hc;cases hs:jC c with
  |false=>rw[hs]at hk;cases hk
  |true=>
   rw[hs]at hk;simp at hk;subst hk;have hu:=Lp h ha hc hs;refine⟨λ{Pp e k kd} w f es rows s=>?_,λ{Pp k kd} w f b=>Fa hs hu (ph hs f) b,λ{Pp u v d d'} h1 h2 h3=>DT hs (ph hs h1) (ph hs h2) h3 10000⟩;rcases zD hs (ph hs f) es rows 0 s with⟨i,x,row,h1,h2,h3,h4,h5,h6,h8,h7⟩|⟨h1,h2,h8,h3⟩
   ·rw[fk]at h7;exact .inl ⟨i,x,row,h1,h2,h3,h4,h5,h6,h8,zE hu h7⟩
   ·exact .inr ⟨h1,h2,h8,zE hu h3⟩
 ·rename_i ha hc;cases hs:A.Ao with
  |false=>rw[hs]at hk;cases hk
  |true=>
   rw[hs]at hk;simp at hk;subst hk;obtain⟨_,_,⟨fs,hu⟩,g⟩:=h.eqs hs;rw[hc]at g
   have l:∀(a b:ByteArray),∀(j:Nat) c u,[CK.str,CK.str][j]? =some c->[Value.string a,Value.string b][j]? =some u->isScalar c u:=by
    intro a b j c u h1 h2
    match j with
    |0=>simp at h1 h2;subst h1 h2;exact⟨_,rfl⟩
    |1=>simp at h1 h2;subst h1 h2;exact⟨_,rfl⟩
    |j+2=>simp at h1
   have iM:∀{Pp:ga}{v:Value}{d:D},KD tt Pp .iM v d->∃a b:ByteArray,v= .agg ⟨[.string a,.string b]⟩/\d= .ptr [.str a.data.toList,.str b.data.toList]:=by
    intro Pp v d h;rcases h with h|h
    ·exact absurd rfl h.1
    ·exact h.2
   have eqs:∀(a b c d:ByteArray),vY [.string a,.string b] [.string c,.string d]=oh (.ptr [.str a.data.toList,.str b.data.toList]) (.ptr [.str c.data.toList,.str d.data.toList]):=by intro a b c d;simp only[vY,Rp,oh];cases a.data.toList==c.data.toList<;>cases b.data.toList==d.data.toList<;>rfl
   refine⟨λ{Pp e k kd} w f es rows s=>?_,λ{Pp k kd} w f b=>?_,λ{Pp u v d d'} h1 h2 h3=>?_⟩
   ·obtain⟨a,b,rfl,rfl⟩:=iM f
    have n:(Instr.findKey kt (.agg ⟨[.string a,.string b]⟩) es).run P w=(Instr.findAsking kt (.agg ⟨[.string a,.string b]⟩) es).run P w:=by
     cases es with
     |nil=>simp[Instr.findKey,run_underlying hu,Instr.findNow,Instr.findAsking]
     |cons x es=>simp[Instr.findKey,run_underlying hu,Instr.findNow,Instr.sameNow]
    rw[n];have:=tc (P:=P) (w:=w) (kt:=kt) (k:=.agg ⟨[.string a,.string b]⟩) (kd:=.ptr [.str a.data.toList,.str b.data.toList]) (λv d y=>by obtain⟨c,d',rfl,rfl⟩:=iM y;rw[(g _ _ w rfl rfl (l a b) (l c d')).1,eqs]) es rows 0 s;simpa only[fk]using this
   ·obtain⟨a,b',rfl,rfl⟩:=iM f;exact(g _ _ w rfl rfl (l a b') (l a b')).2 b
   ·obtain⟨a,b,rfl,rfl⟩:=iM h1;obtain⟨c,d',rfl,rfl⟩:=iM h2;simp only[oh,bI,beq_iff_eq]at h3;have e1:a=c:=by cases a;cases c;congr 1;exact O7.1 h3.1
    have e2:b=d':=by cases b;cases d';congr 1;exact O7.1 h3.2
    subst e1 e2;simp[Instr.sameBits,Mo]
 ·cases hk
theorem CI{c:CK}{v:Value}(h:kn c p=true)(d:VR tt E Pp v p):KD tt Pp c v (mQ p):=by
 unfold kn at h;split at h
 ·split at h
  ·rename_i a b;cases d with
   |agg vs _ hl=>
    cases hl with
    |cons _ _ _ _ h1 h2=>cases h2 with|cons _ _ _ _ h3 h4=>cases h4;cases h1;cases h3;exact .inr ⟨rfl,_,_,rfl,rfl⟩
  ·cases h
 ·rename_i f
  have e:mQ p=sN p:=by
   unfold mQ;split
   ·rename_i a b;cases c<;>simp[tP]at h
   ·rfl
  rw[e];exact .inl ⟨f,GG h d⟩
theorem Gr(h:cY tt B E Pp st.o w)(hs:∀t,VR tt E Pp (a.tmps.getD t undef) (look st.s t)){e:TypeId}{g:Option Operand}(c:o.op= .makeMap t g)(b:g=none){kc:CK}
 (f:K (.mp (cv st.o)) ⟨st.s,iR st.o [.map kc e (.list [])]⟩):o.wp P a w (er tt B eB E Pp st.o w o a K) Q:=by
 subst b;rw[fK,cX]at f;refine eZ (v:=.map (some w.heap.size)) (w':=w.alloc (.map #[] 0)) ?_ ?_
 ·simp[execOp,c,Instr.makeMap]
 ·refine er.mk (E':=E++[.map w.heap.size [] 0]) (Pp':=Pp) (.mp _ _ [] 0 (by rw[<- h.wr.len];simp)) (gE hs) ?_ f (λ_ ad v j=>j.grow h.wr.len (λ_ _ h=>h) (λk hk=>RowKit.Below.heap_alloc w _ k hk));exact h.new rfl ⟨#[],[],eM w _,rfl,rfl,λi x row d=>yE d,rfl,ud,λx d=>yE d,l9 h.wr⟩
theorem vS(k:fp P tt){e:TypeId}(b:tt e=some q){x:Value}{vd:List D}{g:Nat->D}{off:Nat}(hl:vd.length=(bV tt e).length)(l:x.cells.toList.length=vd.length)
 (iF:∀(j:Nat)(d:D)(ck:CK)(v:Value),vd[j]? =some d->(bV tt e)[j]? =some ck->x.cells.toList[j]? =some v->RD tt Pp ck v d)
 (i:∀ti,tt e=some ti->(ti.agg=true->∃cs,x= .agg cs)/\(ti.agg=false->x.cells= #[x])) (n:∀j d,vd[j]? =some d->g (off+j)=d):VR tt E Pp x (fg q (rH ec g off q.cd)):=by
 have f:bV tt e=q.cd:=by simp[bV,b]
 rw[f]at hl iF;have hc:=po (tt:=tt) (E:=E) (Pp:=Pp) (g:=g) (off:=off) (cs:=q.cd) (vs:=x.cells.toList) yO (by intro j c v hc i;have s:=cF hc;have hd:vd[j]? =some (vd[j]'yO):=bB yO;rw[n j _ hd];exact iF j _ c v hd hc i);have h:=nw (k _ _ b) (jn ec g off q.cd) hc
 have:valOf q x.cells.toList=x:=by
  obtain⟨h1,h2⟩:=i q b;unfold valOf;cases ha:q.agg with
  |true=>obtain⟨cs,rfl⟩:=h1 ha;rfl
  |false=>rw[h2 ha];rfl
 rwa [this]at h
theorem Bp(f:fp P tt)(h:cY tt B E Pp st.o w)(hs:∀t,VR tt E Pp (a.tmps.getD t undef) (look st.s t)){k:Operand}(F:o.op= .lookup t m k ok)(Y:tt t=some ti)(hm:isMap ti=true)
 (O:tt (ti.ar-1)=some A) (g:tt ti.el=some q) {kc:CK} (S:keyOf A=some kc) (G:kn kc (gj tt st.s (ti.ar-1) k)=true) (hx:ev st.s m= .mp r) {d:D} (T:eT st.o r= .map kc ti.el d)
 (ae:ec.pb d (mQ (gj tt st.s (ti.ar-1) k))=true->K (qv ok (fg q (iN ec d (mQ (gj tt st.s (ti.ar-1) k)) 0 q.cd)) true) st)
 (I:ec.pb d (mQ (gj tt st.s (ti.ar-1) k))=false->∀{E:List RI}{Pp:ga}{v:Value},VR tt E Pp v (fg q (q.cd.map iy))->VR tt E Pp v p0) (V:ec.pb d (mQ (gj tt st.s (ti.ar-1) k))=false->K (qv ok p0 false) st):o.wp P a w (er tt B eB E Pp st.o w o a K) Q:=by
 obtain⟨kt,e,hu,_,U,al⟩:=(f _ _ Y).map hm;subst U;have W:ti.ar-1=kt:=yO;simp only[W]at*;have J:=u7 (tt:=tt) (f _ _ O) S;have C:=CI G (jZ hs kt k);generalize am:mQ (gj tt st.s kt k)=kd at*;have n:=ff hs m;rw[hx]at n;have Z:=dB T rfl;obtain⟨ri,M,aa⟩:=h.wr.ob r _ Z rfl;generalize y:a.eval m=vm at n;cases n with
 |mp _ b bs cl hE=>
  rw[hE]at M;cases M;obtain⟨es,rows,hb,rfl,hl,l,ab,gV,da,ak⟩:=aa;have L:=J.check w C es.isEmpty;rcases J.find w C es.toList rows ⟨hl,l⟩with⟨i,x,row,h1,h2,h3,h4,h5,_,_,s⟩|⟨h1,_,_,s⟩
  ·obtain⟨aq,vd,rfl,e2,e3,e4,e5,e6⟩:=l i x row h1 h2;have c:VR tt E Pp x.val (fg q (iN ec (.list rows) kd 0 q.cd)):=by refine vS f g e3 e4 e5 e6 ?_;intro j dd hj;simp[ec,cp,h5,cj,hj]
   refine eZ (v:=if ok then .tuple #[x.val,.bool true]else x.val) (w':=w) ?_ ?_
   ·simp only[execOp,F,y,Instr.lookup,run_underlying hu,Sem.run_bind,Result.andThen_ok,getObj,Sem.run,hb,Sem.run_pure,L,s]
   ·refine er.mk (s':=st.s) (o':=st.o) (pv:=qv ok (fg q (iN ec (.list rows) kd 0 q.cd)) true) ?_ hs h (ae (by simpa[ec,cp]using h4)) (λ_ ad v hv=>hv);cases ok with
    |true=>exact .tup _ _ (.cons _ _ _ _ c (.cons _ _ _ _ (.bl _) .nil))
    |false=>exact c
  ·obtain⟨_,_,⟨z,hz,H⟩,_⟩:=(f _ _ g).run w;obtain⟨i0,z0,d0,ag,_,_,R,ai,u,_⟩:=(f _ _ g).info
   have af:z=z0:=by
    have:(zeroValue ti.el).run P w= .ok z0 w:=by simp[zeroValue,typeInfo,ag,R]
    rw[hz]at this;cases this;rfl
   subst af
   have c:VR tt E Pp z (fg q (q.cd.map iy)):=by
    have X:=nw (tt:=tt) (f _ _ g) (E:=E) (Pp:=Pp) yS (qP q.cd)
    have:valOf q (q.cd.map zeroV)=z:=by
     unfold valOf;cases ha:q.agg with
     |true=>obtain⟨cs,rfl⟩:=u.1 ha;rw[<- H];rfl
     |false=>rw[<- H,u.2 ha];rfl
    rwa [this]at X
   refine eZ (v:=if ok then .tuple #[z,.bool false]else z) (w':=w) ?_ ?_
   ·simp only[execOp,F,y,Instr.lookup,run_underlying hu,Sem.run_bind,Result.andThen_ok,getObj,Sem.run,hb,Sem.run_pure,L,s,hz]
   ·refine er.mk (s':=st.s) (o':=st.o) (pv:=qv ok p0 false) ?_ hs h (V (by simpa[ec,cp]using h1)) (λ_ ad v hv=>hv);cases ok with
    |true=>exact .tup _ _ (.cons _ _ _ _ (I (by simpa[ec,cp]using h1) c) (.cons _ _ _ _ (.bl _) .nil))
    |false=>exact I (by simpa[ec,cp]using h1) c
theorem zh(htt:fp P tt)(h:cY tt B E Pp st.o w)(hs:∀t,VR tt E Pp (a.tmps.getD t undef) (look st.s t)){k:Operand}(hop:o.op= .lookup t m k ok)(hti:tt t=some ti)(hm:isMap ti=true)
 (hki:tt (ti.ar-1)=some A) (hei:tt ti.el=some q) {kc:CK} (hkc:keyOf A=some kc) (hfit:kn kc (gj tt st.s (ti.ar-1) k)=true) {d:D} (hx:ev st.s m= .dmp ti.el d) (hstr:kc= .str)
 (hK1:ec.pb d (mQ (gj tt st.s (ti.ar-1) k))=true->K (qv ok (fg q (iN ec d (mQ (gj tt st.s (ti.ar-1) k)) 0 q.cd)) true) st)
 (hp0:ec.pb d (mQ (gj tt st.s (ti.ar-1) k))=false->∀{E:List RI}{Pp:ga}{v:Value},VR tt E Pp v (fg q (q.cd.map iy))->VR tt E Pp v p0) (hK2:ec.pb d (mQ (gj tt st.s (ti.ar-1) k))=false->K (qv ok p0 false) st):o.wp P a w (er tt B eB E Pp st.o w o a K) Q:=by
 obtain⟨kt,e,hu,_,hel,har⟩:=(htt _ _ hti).map hm;subst hel;have hkt:ti.ar-1=kt:=yO;simp only[hkt]at*;have hko:=u7 (tt:=tt) (htt _ _ hki) hkc;have hkr:=CI hfit (jZ hs kt k);generalize hkd:mQ (gj tt st.s kt k)=kd at*;have hmv:=ff hs m;rw[hx]at hmv;generalize hgm:a.eval m=vm at hmv;subst hstr
 have hmiss:∀(hmh:ec.pb d kd=false)(hcode:∀ z,(zeroValue ti.el).run P w= .ok z w->(execOp a.eval o).run P w= .ok (.value (if ok then .tuple #[z,.bool false]else z)) w),o.wp P a w (er tt B eB E Pp st.o w o a K) Q:=by
  intro hmh hcode;obtain⟨_,_,⟨z,hz,hzc⟩,_⟩:=(htt _ _ hei).run w;obtain⟨i0,z0,d0,hi0,_,_,hz0,hzc0,hag,_⟩:=(htt _ _ hei).info
  have hzz:z=z0:=by
   have:(zeroValue ti.el).run P w= .ok z0 w:=by simp[zeroValue,typeInfo,hi0,hz0]
   rw[hz]at this;cases this;rfl
  subst hzz
  have hval:VR tt E Pp z (fg q (q.cd.map iy)):=by
   have hvo:=nw (tt:=tt) (htt _ _ hei) (E:=E) (Pp:=Pp) yS (qP q.cd)
   have:valOf q (q.cd.map zeroV)=z:=by
    unfold valOf;cases ha:q.agg with
    |true=>obtain⟨cs,rfl⟩:=hag.1 ha;rw[<- hzc];rfl
    |false=>rw[<- hzc,hag.2 ha];rfl
   rwa [this]at hvo
  refine eZ (v:=if ok then .tuple #[z,.bool false]else z) (w':=w) (hcode z hz) ?_;refine er.mk (s':=st.s) (o':=st.o) (pv:=qv ok p0 false) ?_ hs h (hK2 hmh) (λ_ ad v hv=>hv);cases ok with
  |true=>exact .tup _ _ (.cons _ _ _ _ (hp0 hmh hval) (.cons _ _ _ _ (.bl _) .nil))
  |false=>exact hp0 hmh hval
 have iF:∃t',RD tt Pp (.map t' ti.el) vm d:=by
  cases hmv with
  |dmp t' _ _ _ hr=>exact⟨t',hr⟩
 obtain⟨t',iF⟩:=iF;rcases iF.sr with⟨rfl,rfl⟩|⟨b,es,clock,rows,rfl,rfl,m⟩
 ·have hck:=hko.check w hkr true;rcases hko.find (e:=0) w hkr [] [] ⟨rfl,λi x row h1=>yE h1⟩with⟨i,x,row,h1,_⟩|⟨_,_,_,hfk⟩
  ·simp at h1
  ·refine hmiss (by simp[ec,cp]) (λz hz=>?_);simp only[execOp,hop,hgm,Instr.lookup,run_underlying hu,Sem.run_bind,Result.andThen_ok,Sem.run,Sem.run_pure,show (#[]:Array MapEntry).isEmpty=true from rfl,hck,hfk,hz]
 ·have hb:=Cs (h.wr.pi _ _ m.iJ);have hl:=m.len;have hent:=m.Px;have hck:=hko.check w hkr es.isEmpty;rcases hko.find w hkr es.toList rows ⟨hl,hent⟩with⟨i,x,row,h1,h2,h3,h4,h5,_,_,hfk⟩|⟨h1,_,_,hfk⟩
  ·obtain⟨kd',vd,rfl,e2,e3,e4,e5,e6⟩:=hent i x row h1 h2;have hval:VR tt E Pp x.val (fg q (iN ec (.list rows) kd 0 q.cd)):=by refine vS htt hei e3 e4 e5 e6 ?_;intro j dd hj;simp[ec,cp,h5,cj,hj]
   refine eZ (v:=if ok then .tuple #[x.val,.bool true]else x.val) (w':=w) ?_ ?_
   ·simp only[execOp,hop,hgm,Instr.lookup,run_underlying hu,Sem.run_bind,Result.andThen_ok,getObj,Sem.run,hb,Sem.run_pure,hck,hfk]
   ·refine er.mk (s':=st.s) (o':=st.o) (pv:=qv ok (fg q (iN ec (.list rows) kd 0 q.cd)) true) ?_ hs h (hK1 (by simpa[ec,cp]using h4)) (λ_ ad v hv=>hv);cases ok with
    |true=>exact .tup _ _ (.cons _ _ _ _ hval (.cons _ _ _ _ (.bl _) .nil))
    |false=>exact hval
  ·refine hmiss (by simpa[ec,cp]using h1) (λz hz=>?_);simp only[execOp,hop,hgm,Instr.lookup,run_underlying hu,Sem.run_bind,Result.andThen_ok,getObj,Sem.run,hb,Sem.run_pure,hck,hfk,hz]
theorem Bx(m:Nat):∀(l:List Ob)(i:Nat),(qx m l)[i]? =(l[i]?).map λo=>match o with| .iter m' s=>bif nb m' m then .dead else .iter m' s|o=>o
 |[],i=>by simp[qx]
 |o::l,i=>by cases o<;>cases i<;>simp[qx,Bx m l]
theorem qg(m:Nat):∀(l:List Ob),(qx m l).length=l.length
 |[]=>rfl
 |o::l=>by cases o<;>simp[qx,qg m l]
theorem cY.xI{b:Nat}{kc:CK}{e:TypeId}{d d':D}{bs u:List Nat}{cl g:Nat}{C:Array MapEntry}(h:cY tt B E Pp objs w)(I:objs[r]? =some (.map kc e d))(R:E[r]? =some (.map b bs cl))
 (hb:∃es,w.heap[b]? =some (.map es cl)) (J:OR tt (E.set r (.map b u g)) Pp { w with heap:=w.heap.setIfInBounds b (.map C g) } (.map b u g) (.map kc e d')):
 cY tt B (E.set r (.map b u g)) Pp ((qx r objs).set r (.map kc e d')) { w with heap:=w.heap.setIfInBounds b (.map C g) }:=by
 have hl:=h.wr.len;have hr:=cF I;have H:OV Pp b:=by obtain⟨ri,G,h2⟩:=h.wr.ob r _ I rfl;rw[R]at G;cases G;obtain⟨_,_,_,_,_,_,_,_,_,h3⟩:=h2;exact h3
 obtain⟨es,hb⟩:=hb
 have z:qA E (E.set r (.map b u g)):=by
  intro i x L;by_cases hi:i=r
  ·grind
  ·grind
 refine h.x7 I rfl R yS (λj O=>cc (eh O)) (by rw[dh yO]) (.inl z) (by simp[qg]) ?_ (by rw[dh (by rw[qg];exact hr)]) (λ_=>J) rfl rfl rfl yS ?_ (λ_ _ h=>h) (λ_ _ h=>.inl h) (λb' M=>.inl M) ?_
 ·intro j W O c F;rw[cc (eh O),Bx]at c;cases L:objs[j]? with
  |none=>rw[L]at c;simp at c
  |some oj=>
   rw[L]at c;simp only[cu,cr]at c;cases oj with
   |box cs=>
    simp only at c;subst c;refine⟨_,rfl,rfl,λrj l f=>?_⟩;cases rj<;>try exact f.elim
    obtain⟨vs,T,h1,h2,h3⟩:=f;exact⟨vs,T,h1,(VR.jE z (λ_ _ h=>h)).2 h2,h3⟩
   |row=>simp only at c;subst c;exact⟨_,rfl,rfl,λrj l f=>by cases rj<;>exact f⟩
   |map=>simp only at c;subst c;exact⟨_,rfl,rfl,λrj l f=>by cases rj<;>exact f⟩
   |iter m s=>
    simp only at c;cases hm:nb m r with
    |true=>rw[hm]at c;simp at c;subst c;simp[Ob.live]at F
    |false=>
     rw[hm]at c;simp at c;subst c;refine⟨_,rfl,rfl,λrj l f=>?_⟩;cases rj<;>try exact f.elim
     obtain⟨X,borns,clock,V,h1,h2⟩:=f;refine⟨X,borns,clock,V,?_,h2⟩;rw[cc]
     ·exact h1
     ·rintro rfl;rw[lW]at hm;cases hm
   |loop n Z c1 c2 s Y=>
    simp only at c;subst c;refine⟨_,rfl,rfl,λrj l f=>?_⟩;cases rj<;>try exact f.elim
    obtain⟨U,h1,h2,h3⟩:=f;exact⟨U,h1,h2,λt=>(VR.jE z (λ_ _ h=>h)).1 (h3 t)⟩
   |diter=>simp only at c;subst c;exact⟨_,rfl,rfl,λrj l f=>by cases rj<;>exact f⟩
   |dead=>simp only at c;subst c;simp[Ob.live]at F
 ·intro k _ y;have:k≠b:=λe=>y (by rw[e];rfl);simp[eD (eh this)]
 ·intro ad v S;have hc:=h.wr.pi ad v S;have y:ad.block≠b:=H ad v S;rw[<- hc];refine iu ?_;simp[eD (eh y)]
theorem Mx{b:Bool}{v:Value}(h:zX b p=true)(g:VR tt E Pp v p)(i:iw iH (flat p)=true):(b=true->∃cs,v= .agg cs)/\(b=false->v.cells= #[v]):=by
 cases b with
 |true=>
  refine⟨λ_=>?_,λh=>yC h⟩;cases g<;>simp[zX]at h
  exact⟨_,rfl⟩
 |false=>
  refine⟨λh=>(yC h),λ_=>?_⟩;cases g with
  |lst e v d hr=>cases hr<;>rfl
  |dptr t v d hr=>cases hr<;>rfl
  |dmp t e v d hr=>rcases hr.sr with⟨rfl,_⟩|⟨_,_,_,_,rfl,_⟩<;>rfl
  |undef=>simp[zX]at h
  |agg=>simp[zX]at h
  |cy _ f _ _ hu _=>
   rcases cb f lR with hb|hb
   ·rw[hu.1 hb];rfl
   ·rw[hu.2 hb];rfl
  |gp _ _ _ _ off _ _ _ _ _ _ hu=>
   by_cases c:off=fY
   ·obtain⟨⟨j,e,_⟩,_⟩:=hu.2 c;rw[e];rfl
   ·rw[(hu.1 c).1];rfl
  |cR _ _ _ off _ _ hu _ _=>
   by_cases c:off=fY
   ·rw[hu.2 c];rfl
   ·rw[hu.1 c];rfl
  |_=>rfl
theorem I6(af:fp P tt)(h:cY tt B E Pp st.o w)(hs:∀t,VR tt E Pp (a.tmps.getD t undef) (look st.s t)){k x:Operand}(f:o.op= .mapUpdate t m k x\/o.op= .insert t m k x)(aB:tt t=some ti)(hm:isMap ti=true)
 (an:tt (ti.ar-1)=some A) (aj:tt ti.el=some q) {kc:CK} (aq:keyOf A=some kc) (ac:kn kc (gj tt st.s (ti.ar-1) k)=true) (X:ev st.s m= .mp r) {d:D} (av:eT st.o r= .map kc ti.el d)
 (aE:0<q.cd.length) (ae:je q.cd (c9 (om st.o 8) (flat (gj tt st.s ti.el x)))=true) (ad:iw iH (flat (gj tt st.s ti.el x))=true) (ak:zX q.agg (gj tt st.s ti.el x)=true) (Z:eH (fo (ids st.o 8) (flat (gj tt st.s ti.el x)))=true)
 (hK:K .undef ⟨st.s,ja (qx r st.o) r (.map kc ti.el (ec.p6 d (mQ (gj tt st.s (ti.ar-1) k)) (c9 sN (c9 (om st.o 8) (flat (gj tt st.s ti.el x))))))⟩):o.wp P a w (er tt B eB E Pp st.o w o a K) Q:=by
 obtain⟨kt,e,hu,_,aw,aH⟩:=(af _ _ aB).map hm;subst aw;have az:ti.ar-1=kt:=yO;simp only[az]at*;have U:=u7 (tt:=tt) (af _ _ an) aq;have G:=CI ac (jZ hs kt k);generalize aI:mQ (gj tt st.s kt k)=kd at*;have ab:=jZ hs ti.el x;have O:=Mx ak ab ad;generalize ag:flat (gj tt st.s ti.el x)=ps at*
 have M:ps.length=q.cd.length:=by
  have:∀(cs:List CK)(W:List PV),je cs W=true->W.length=cs.length:=by
   intro cs;induction cs with
   |nil=>intro W h;cases W<;>simp_all[je]
   |cons c cs ih=>intro W h;cases W<;>simp_all[je]
  have:=this _ _ ae
  rwa [gq]at this
 have n:fe tt E Pp (a.eval x).cells.toList ps:=by rw[<- ag];exact nM ab (by rw[ag];intro h0;rw[h0]at M;simp at M;omega)
 obtain⟨_,iF⟩:=CH ae (ER h.wr n Z);generalize ao:c9 sN (c9 (om st.o 8) ps)=ds at*;have aD:ds.length=q.cd.length:=by rw[<- ao,gq,gq];exact M
 have aP:=n.length;have J:bV tt ti.el=q.cd:=by simp[bV,aj]
 have H:∀y:MapEntry,y.key=a.eval k->y.val=a.eval x->vJ tt Pp kc ti.el y (kd::ds):=by
  intro y h1 h2;refine⟨kd,ds,rfl,by rw[h1];exact G,by rw[J];exact aD,by rw[h2];omega,?_,?_⟩
  ·intro j dd ck v hj F hv;rw[h2]at hv;rw[J]at F;exact iF j ck v dd F hv hj
  ·intro aG L;rw[aj]at L;cases L;rw[h2];exact O
 have R:=ff hs m;rw[X]at R;have T:=dB av rfl;obtain⟨ri,al,aC⟩:=h.wr.ob r _ T rfl;have g:execOp a.eval o=(do Instr.mapUpdate t (a.eval m) (a.eval k) (a.eval x);pure .skip:Sem Next):=by rcases f with f|f<;>simp[execOp,f]
 have l:gA eB o.op=false:=by rcases f with f|f<;>rw[f]<;>rfl
 generalize ap:a.eval m=vm at R;rw[ap]at g;cases R with
 |mp _ b bs cl hE=>
  rw[hE]at al;cases al;obtain⟨es,rows,hb,rfl,hl,u,C,gV,da,Y⟩:=aC;have F:=U.check w G false;rw[gO]at hK
  have am:b<w.heap.size:=by
   rcases cb b w.heap.size with h'|h'
   ·exact h'
   ·simp[dJ h']at hb
  have I:∀(x:Obj),(w.heap.setIfInBounds b x)[b]? =some x:=λx=>gy am
  have gJ:∀ai ah,∀t,VR tt (E.set r (.map b ai ah)) Pp (a.tmps.getD t undef) (look st.s t):=by
   intro ai ah t;refine(VR.jE (λi y hy=>?_) (λ_ _ h=>h)).1 (hs t);by_cases hi:i=r
   ·grind
   ·exact .inl (by rw[cc (eh hi)];exact hy)
  rcases U.find w G es.toList rows ⟨hl,u⟩with⟨i,y,row,h1,h2,h3,h4,h5,h6,_,V⟩|⟨h1,h2,_,V⟩
  ·obtain⟨aN,vd,rfl,e2,_⟩:=u i y row h1 h2;have ay:=U.bits G e2 (by simpa[fa]using h3);have au:es[i]? =some y:=yU h1;refine B1 (w':={ w with heap:=w.heap.setIfInBounds b (.map (es.modify i λe=>{ e with key:=a.eval k,val:=a.eval x }) cl) }) ?_ ?_
   ·rw[g];simp[Instr.mapUpdate,run_underlying hu,getObj,setObj,Sem.run,hb,F,V,au,Instr.keyThatStays,ay]
   ·refine er.mk (.undef _) (gJ bs cl) ?_ hK (λhq=>by rw[l]at hq;cases hq);refine h.xI T hE ⟨_,hb⟩ ?_;refine⟨_,rows.set i (kd::ds),I _,by simp[cp,h6],by simp[hl],?_,?_,gV,da,Y⟩
    ·intro j z rw S ef;simp only[J2,uf]at S;by_cases s:i=j
     ·subst s;rw[h1]at S;rw[dh (cF h2)]at ef;simp at S ef;subst ef;exact H z (by rw[<- S]) (by rw[<- S])
     ·rw[cc s]at ef;simp only[s,if_false]at S;exact u j z rw (yU S) ef
    ·rw[<- C];apply xQ;intro j;simp only[J2,cw,uf];by_cases s:i=j
     ·subst s;simp[h1]
     ·simp[s]
  ·refine B1 (w':={ w with heap:=w.heap.setIfInBounds b (.map (es.push { key:=a.eval k,val:=a.eval x,born:=cl }) (cl+1)) }) ?_ ?_
   ·rw[g];simp[Instr.mapUpdate,run_underlying hu,getObj,setObj,Sem.run,hb,F,V]
   ·refine er.mk (.undef _) (gJ (bs++[cl]) (cl+1)) ?_ hK (λhq=>by rw[l]at hq;cases hq);refine h.xI T hE ⟨_,hb⟩ ?_;refine⟨_,rows++[kd::ds],I _,by simp[cp,h2],by simp[hl],?_,by simp[C],?_,?_,Y⟩
    ·grind
    ·grind
    ·intro x X;simp at X;rcases X with X|rfl
     ·have:=da x X;omega
     ·omega
theorem I7(M:fp P tt)(h:cY tt B E Pp st.o w)(hs:∀t,VR tt E Pp (a.tmps.getD t undef) (look st.s t)){k:Operand}{V:Array Operand}{ts:Array TypeId}{tr:List TypeId}(G:o.op= .call { callee:=.builtin .delete,args:=V,argTypes:=ts })(has:V.toList=[m,k])(O:ts.toList=t::tr)(af:tt t=some ti)(hm:isMap ti=true)
 (X:tt (ti.ar-1)=some A) {kc:CK} (Z:keyOf A=some kc) (J:kn kc (gj tt st.s (ti.ar-1) k)=true) (hx:ev st.s m= .mp r) {e:TypeId}{d:D} (ab:eT st.o r= .map kc e d)
 (hK:K (.tup []) ⟨st.s,ja (qx r st.o) r (.map kc e (ec.Gn d (mQ (gj tt st.s (ti.ar-1) k))))⟩):o.wp P a w (er tt B eB E Pp st.o w o a K) Q:=by
 obtain⟨kt,e',hu,_,ak,aj⟩:=(M _ _ af).map hm;have ad:ti.ar-1=kt:=yO;simp only[ad]at*;have R:=u7 (tt:=tt) (M _ _ X) Z;have F:=CI J (jZ hs kt k);have s:=ff hs m;rw[hx]at s;have u:=dB ab rfl;obtain⟨ri,U,ag⟩:=h.wr.ob r _ u rfl;have c:gA eB o.op=false:=by rw[G];rfl
 obtain⟨V⟩:=V;obtain⟨ts⟩:=ts;simp only at has O;subst has O;generalize Y:a.eval m=vm at s;cases s with
 |mp _ b bs cl hE=>
  rw[hE]at U;cases U;obtain⟨es,rows,hb,rfl,hl,l,g,gV,da,C⟩:=ag;have T:=R.check w F es.isEmpty;rw[gO]at hK
  have W:b<w.heap.size:=by
   rcases cb b w.heap.size with h'|h'
   ·exact h'
   ·simp[dJ h']at hb
  have n:∀(x:Obj),(w.heap.setIfInBounds b x)[b]? =some x:=λx=>gy W
  have gJ:∀S L,∀t,VR tt (E.set r (.map b S L)) Pp (a.tmps.getD t undef) (look st.s t):=by
   intro S L t;refine(VR.jE (λi y hy=>?_) (λ_ _ h=>h)).1 (hs t);by_cases hi:i=r
   ·grind
   ·grind
  have f:execOp a.eval o=(do let v <-Builtin.delete_ ⟨t::tr⟩ o.type #[.map (some b),a.eval k];pure (.value v):Sem Next):=by simp[execOp,G,resolve,invoke,builtin,Y]
  rcases R.find w F es.toList rows ⟨hl,l⟩with⟨i,y,row,h1,h2,h3,h4,h5,h6,h8,z⟩|⟨h1,h2,h8,z⟩
  ·have ai:=cF h1;refine eZ (v:=.tuple #[]) (w':={ w with heap:=w.heap.setIfInBounds b (.map (es.eraseIdxIfInBounds i) cl) }) ?_ ?_
   ·rw[f];simp[Builtin.delete_,run_underlying hu,getObj,setObj,Sem.run,hb,T,z]
   ·refine er.mk (.tup _ _ .nil) (gJ (bs.eraseIdx i) cl) ?_ hK (λI=>by rw[c]at I;cases I);refine h.xI u hE ⟨_,hb⟩ ?_;have H:(es.eraseIdxIfInBounds i).toList=es.toList.eraseIdx i:=yS;refine⟨_,rows.eraseIdx i,n _,by simp[cp,h8],?_,?_,?_,?_,?_,C⟩
    ·grind
    ·grind
    ·rw[H,<-g];apply xQ;intro j;simp only[cw,List.getElem?_eraseIdx];split<;>simp
    ·exact gV.sublist (JR _ _)
    ·intro x hx;exact da x ((JR _ _).subset hx)
  ·refine eZ (v:=.tuple #[]) (w':={ w with heap:=w.heap.setIfInBounds b (.map es cl) }) ?_ ?_
   ·rw[f];simp[Builtin.delete_,run_underlying hu,getObj,setObj,Sem.run,hb,T,z]
   ·refine er.mk (.tup _ _ .nil) (gJ bs cl) ?_ hK (λI=>by rw[c]at I;cases I);refine h.xI u hE ⟨_,hb⟩ ?_;exact⟨_,rows,n _,by simp[cp,h8],hl,l,g,gV,da,C⟩
theorem KI(u:fp P tt)(h:cY tt B E Pp st.o w)(hs:∀t,VR tt E Pp (a.tmps.getD t undef) (look st.s t))(g:o.op= .range t m)(l:tt t=some ti)(I:isMap ti=true)
 (H:ev st.s m= .mp r) {kc:CK}{e:TypeId}{d:D} (i:eT st.o r= .map kc e d)
 (C:K (.it (cv st.o)) ⟨st.s,iR st.o [.iter r (.list [])]⟩):o.wp P a w (er tt B eB E Pp st.o w o a K) Q:=by
 obtain⟨kt,M,hu,_,_,_⟩:=(u _ _ l).map I;have c:=ff hs m;rw[H]at c;have n:=dB i rfl;obtain⟨ri,f,s⟩:=h.wr.ob r _ n rfl;rw[fK,cX]at C;generalize y:a.eval m=O at c;cases c with
 |mp _ b bs cl F=>
  rw[F]at f;cases f;obtain⟨es,rows,hb,rfl,hl,z,x,gV,da,G⟩:=s;refine eZ (v:=.pointer (some ⟨w.heap.size,0,none⟩)) (w':=w.alloc (.mapIter (some b) cl #[] cl)) ?_ ?_
  ·simp[execOp,g,y,Instr.range,run_underlying hu,getObj,Sem.run,hb]
  ·refine er.mk (E':=E++[.iter w.heap.size]) (Pp':=Pp) (.it _ _ (by rw[<- h.wr.len];simp)) (gE hs) ?_ C (λ_ ad v J=>J.grow h.wr.len (λ_ _ h=>h) (λk hk=>RowKit.Below.heap_alloc w _ k hk));exact h.new rfl ⟨b,bs,cl,[],iQ F,eM w _,rfl,λj L=>yE L⟩
theorem IS(s:fp P tt)(h:cY tt B E Pp st.o w)(hs:∀t,VR tt E Pp (a.tmps.getD t undef) (look st.s t))(f:o.op= .range t m)(l:tt t=some ti)(u:isMap ti=true)
 {e:TypeId}{d:D} (z:ev st.s m= .dmp e d)
 (n:K (.it (cv st.o)) ⟨st.s,iR st.o [.diter e d (.list [])]⟩):o.wp P a w (er tt B eB E Pp st.o w o a K) Q:=by
 obtain⟨kt,C,hu,_,_,_⟩:=(s _ _ l).map u;have c:=ff hs m;rw[z]at c;rw[fK,cX]at n;generalize g:a.eval m=y at c
 have iF:∃t',RD tt Pp (.map t' e) y d:=by
  cases c with
  |dmp t' _ _ _ hr=>exact⟨t',hr⟩
 obtain⟨t',iF⟩:=iF;rcases iF.sr with⟨rfl,rfl⟩|⟨b,es,clock,rows,rfl,rfl,m⟩
 ·refine eZ (v:=.pointer (some ⟨w.heap.size,0,none⟩)) (w':=w.alloc (.mapIter none 0 #[] 0)) ?_ ?_
  ·simp[execOp,f,g,Instr.range,run_underlying hu]
  ·refine er.mk (E':=E++[.iter w.heap.size]) (Pp':=Pp) (.it _ _ (by rw[<- h.wr.len];simp)) (gE hs) ?_ n (λ_ ad v i=>i.grow h.wr.len (λ_ _ h=>h) (λk hk=>RowKit.Below.heap_alloc w _ k hk));exact h.new rfl ⟨[],rfl,.inl ⟨rfl,rfl,_,_,_,eM w _⟩⟩
 ·have hb:=Cs (h.wr.pi _ _ m.iJ);refine eZ (v:=.pointer (some ⟨w.heap.size,0,none⟩)) (w':=w.alloc (.mapIter (some b) clock #[] clock)) ?_ ?_
  ·simp[execOp,f,g,Instr.range,run_underlying hu,getObj,Sem.run,hb]
  ·refine er.mk (E':=E++[.iter w.heap.size]) (Pp':=Pp) (.it _ _ (by rw[<- h.wr.len];simp)) (gE hs) ?_ n (λ_ ad v i=>i.grow h.wr.len (λ_ _ h=>h) (λk hk=>RowKit.Below.heap_alloc w _ k hk));exact h.new rfl ⟨[],rfl,.inr ⟨b,es,clock,rows,rfl,m,eM w _,λj x=>yE x⟩⟩
theorem Ef{b l clock:Nat}{es:Array MapEntry}{arr:List Nat}(hb:w.heap[b]? =some (.mapIter (some l) clock ⟨arr⟩ clock))(u:w.heap[l]? =some (.map es clock))(g:∀x∈es.toList,x.born<clock)(ty:TypeId):
 ((∀x∈es.toList,x.born∈arr)/\(Instr.next (.pointer (some ⟨b,0,none⟩)) false ty).run P w= .ok (.tuple #[.bool false]) w)\/
 ∃x d,x∈es.toList/\x.born∉arr/\(d=w\/d=w.drew)/\(Instr.next (.pointer (some ⟨b,0,none⟩)) false ty).run P w= .ok (.tuple #[.bool true,x.key,x.val]) { d with heap:=w.heap.setIfInBounds b (.mapIter (some l) clock ⟨arr++[x.born]⟩ clock) }:=by
 simp only[Instr.next,getObj,Sem.run_bind,Sem.run,hb,u,Result.andThen,next_test_false ⟨arr⟩ es clock clock g (ca _),cC,if_false];have c:∀x∈(Hg (λe=> !(⟨arr⟩:Array Nat).contains e.born) es).toList,x∈es.toList/\x.born∉arr:=λx h=>by simp at h ⊢;exact h
 have f:(Hg (λe=> !(⟨arr⟩:Array Nat).contains e.born) es)= #[]->∀x∈es.toList,x.born∈arr:=λh0 x h=>by grind
 generalize Hg (λe=> !(⟨arr⟩:Array Nat).contains e.born) es=L at c f ⊢;have e1:L.filter (λx=>decide (x.born<clock))=L:=Array.filter_eq_self.2 (λx h=>by simpa using g x (c x (yU h)).1);have e2:L.filter (λx=>decide (x.born>=clock))= #[]:=by simp_all
 simp only[e1,e2,Array.append_empty];by_cases h0:L.size=0
 ·left;have:L= #[]:=Array.eq_empty_of_size_eq_zero h0;subst this;refine⟨f rfl,?_⟩;simp[choose,Sem.run,Question.forced]
 ·right;have n:L.isEmpty=false:=by simp[Array.isEmpty,h0]
  simp only[n,cC,if_false,Array.empty_append,Df]
  have s:∃(j:Nat) (d:World),j<L.size/\(d=w\/d=w.drew)/\(choose (Question.mapNext L.size)).run P w= .ok j d:=by
   by_cases hf:L.size<=1
   ·exact⟨0,w,yO,.inl rfl,by simp[choose,Sem.run,Question.forced,hf]⟩
   ·refine⟨w.tape w.drawn (.mapNext L.size) % L.size,w.drew,O3 _ yO,.inr rfl,?_⟩;simp only[choose,Sem.run,Question.forced,decide_eq_true_eq,hf,if_false,Question.cut];rfl
  obtain⟨j,d,v,k,i⟩:=s;have h:=c L[j] yS;refine⟨L[j],d,h.1,h.2,k,?_⟩;have y:d.heap=w.heap:=by rcases k with rfl|rfl<;>rfl
  simp only[i,Array.getElem?_map,pG v,cu,Sem.run_bind,setObj,Sem.run,y,hb,Result.andThen,Sem.run_pure];simp
theorem wm{l:List Nat}(h:l.Nodup){i j:Nat}{x:Nat}(c:l[i]? =some x)(b:l[j]? =some x):i=j:=by
 have h1:=cF c;have h2:=cF b;have d:=iD.1 h;rcases Aa i j with h3|h3|h3
 ·grind
 ·exact h3
 ·grind
theorem NN(ar:fp P tt)(h:cY tt B E Pp st.o w)(hs:∀t,VR tt E Pp (a.tmps.getD t undef) (look st.s t))(J:o.op= .next it false){i m:Nat}(hx:ev st.s it= .it i){d:D}(ay:eT st.o i= .iter m seen){kc:CK}{e:TypeId}(ai:eT st.o m= .map kc e d)
 (ax:tt e=some q)
 (az:ec.qm d seen->K (.tup [.bl false]) st) (aj:∀j,ec.tu d seen j->K (.tup [.bl true,mR ec kc (ec.cell d j 0),fg q (ko ec d j 1 q.cd)]) ⟨st.s,ja st.o i (.iter m (ec.oC seen j))⟩)
:o.wp P a w (er tt B eB E Pp st.o w o a K) Q:=by
 have L:=ff hs it;rw[hx]at L;have g:=dB ay rfl;have T:=dB ai rfl;obtain⟨ri,af,Y⟩:=h.wr.ob i _ g rfl;obtain⟨rm,ac,O⟩:=h.wr.ob m _ T rfl;have f:gA eB o.op=false:=by rw[J];rfl
 generalize R:a.eval it=vi at L;cases L with
 |it _ b hE=>
  rw[hE]at af;cases af;obtain⟨bm,borns,clock,z,Z,hb,rfl,ae⟩:=Y;rw[Z]at ac;cases ac;obtain⟨es,rows,ah,rfl,hl,S,c,gV,da,aC⟩:=O;have aD:borns.length=es.toList.length:=by rw[<- c];simp
  have W:∀x∈es.toList,x.born<clock:=λx hx=>da _ (by rw[<- c];exact MY hx);have G:∀(j:Nat) x,es.toList[j]? =some x->borns[j]? =some x.born:=λj x y=>by rw[<- c,cw,y];rfl
  have H:∀(j:Nat) x,es.toList[j]? =some x->(x.born∈z.map (λ(j:Nat)=>borns.getD j 0)↔j∈z):=by
   intro j x y;rw[bT];constructor
   ·rintro⟨k,hk,ao⟩;have h1:=G j x y;have h2:borns[k]? =some x.born:=by have:=ae k hk;rw[bB this,<-ao];simp[cj,this]
    rw[wm gV h1 h2];exact hk
   ·intro hk;exact⟨j,hk,by have:=G j x y;simp[cj,this]⟩
  have u:∀(j:Nat),([D.int (j:Int)]∈z.map (λ(j:Nat)=>[D.int (j:Int)])↔j∈z):=by grind
  rcases Ef (P:=P) hb ah W o.type with⟨aa,s⟩|⟨x,M,au,an,F,s⟩
  ·refine eZ (v:=.tuple #[.bool false]) (w':=w) (by simp[execOp,J,R,s]) ?_;refine er.mk (s':=st.s) (o':=st.o) (.tup _ _ (.cons _ _ _ _ (.bl _) .nil)) hs h (az ?_) (λV=>by rw[f]at V;cases V);intro j y;have C:j<es.toList.length:=by rw[hl];exact y
   show [D.int (j:Int)]∈z.map _;rw[u];exact(H j _ (bB C)).1 (aa _ (bx C))
  ·obtain⟨j,y⟩:=gH au;have aE:=cF y;have am:j∉z:=λhk=>an ((H j x y).2 hk);have ef:rows[j]? =some (rows[j]'yO):=bB yO;obtain⟨kd,vd,iF,e2,e3,e4,e5,e6⟩:=S j x _ y ef;have l:∀n,ec.cell (.list rows) (j:Int) n=(kd::vd).getD n .nil:=by intro n;simp[cp,cj,ef,iF]
   have aA:b<w.heap.size:=by grind
   refine eZ (v:=.tuple #[.bool true,x.key,x.val]) (w':={ M with heap:=w.heap.setIfInBounds b (.mapIter (some bm) clock ⟨z.map (λ(j:Nat)=>borns.getD j 0)++[x.born]⟩ clock) }) (by simp[execOp,J,R,s]) ?_;have ag:=aj (j:Int) ⟨yO,by show (j:Int)<((cp (.list rows)).length:Int);simp[cp];omega,by show [D.int (j:Int)]∉z.map _;rw[u];exact am⟩;rw[gO]at ag;refine er.mk (E':=E) (Pp':=Pp) ?_ hs ?_ ag (λV=>by rw[f]at V;cases V)
   ·refine .tup _ _ (.cons _ _ _ _ (.bl _) (.cons _ _ _ _ ?_ (.cons _ _ _ _ ?_ .nil)))
    ·rw[l 0];exact p9 e2
    ·refine vS ar ax e3 e4 e5 e6 ?_;intro n dd hn;rw[l,mn];simp[cj,hn]
   ·have X:=cF g;have aw:M.os=w.os:=by rcases F with rfl|rfl<;>rfl
    have ap:M.tape=w.tape:=by rcases F with rfl|rfl<;>rfl
    have ab:M.output=w.output:=by rcases F with rfl|rfl<;>rfl
    have aG:w.drawn<=M.drawn:=by rcases F with rfl|rfl;exact ca _;exact qF _
    refine h.x7 g rfl hE rfl (λ_ _=>rfl) hE (.inl (.refl _)) yS ?_ (by rw[dh X]) (λ_=>?_) aw ap ab yS ?_ (λ_ _ h=>h) (λ_ _ h=>.inl h) (λb' av=>.inl av) ?_
    ·intro j' al C U hl;rw[cc (eh C)]at U;exact⟨al,U,hl,λ_ _ h=>h⟩
    ·refine⟨bm,borns,clock,z++[j],Z,?_,?_,?_⟩
     ·grind
     ·simp[ec,cp]
     ·intro k hk;simp at hk;rcases hk with hk|rfl
      ·exact ae k hk
      ·omega
    ·intro k _ I;have:k≠b:=λe=>I (by rw[e];rfl);simp[eD (eh this)]
    ·intro ad v hv;have hc:=h.wr.pi ad v hv;have I:ad.block≠b:=by intro e;simp[pc,e,hb]at hc
     rw[<- hc];refine iu ?_;simp[eD (eh I)]
theorem KX(ap:fp P tt)(h:cY tt B E Pp st.o w)(hs:∀t,VR tt E Pp (a.tmps.getD t undef) (look st.s t))(F:o.op= .next it false){i:Nat}(hx:ev st.s it= .it i){e:TypeId}{d:D}(aw:eT st.o i= .diter e d seen)
 (av:tt e=some q)
 (aa:ec.qm d seen->K (.tup [.bl false]) st) (ah:∀j,ec.tu d seen j->K (.tup [.bl true,mR ec .str (ec.cell d j 0),fg q (ko ec d j 1 q.cd)]) ⟨st.s,ja st.o i (.diter e d (ec.oC seen j))⟩)
:o.wp P a w (er tt B eB E Pp st.o w o a K) Q:=by
 have O:=ff hs it;rw[hx]at O;have l:=dB aw rfl;obtain⟨ri,ac,X⟩:=h.wr.ob i _ l rfl;have f:gA eB o.op=false:=by rw[F];rfl
 generalize L:a.eval it=vi at O;cases O with
 |it _ b hE=>
  rw[hE]at ac;cases ac;obtain⟨C,rfl,⟨rfl,rfl,n,ss,mm,hb⟩|⟨bm,es,clock,rows,rfl,m,hb,ab⟩⟩:=X
  ·refine eZ (v:=.tuple #[.bool false]) (w':=w) (by simp[execOp,F,L,Instr.next,getObj,Sem.run,hb]) ?_;refine er.mk (s':=st.s) (o':=st.o) (.tup _ _ (.cons _ _ _ _ (.bl _) .nil)) hs h (aa ?_) (λI=>by rw[f]at I;cases I);intro j g;simp[cp]at g
  have af:=Cs (h.wr.pi _ _ m.iJ);have hl:=m.len;have S:=m.Px;have gV:=m.nd;have da:=m.lt;obtain⟨borns,c⟩:∃borns,es.toList.map (·.born)=borns:=⟨_,rfl⟩;rw[c]at gV da hb;have ay:borns.length=es.toList.length:=by rw[<- c];simp
  have V:∀x∈es.toList,x.born<clock:=λx hx=>da _ (by rw[<- c];exact MY hx);have s:∀(j:Nat) x,es.toList[j]? =some x->borns[j]? =some x.born:=λj x g=>by rw[<- c,cw,g];rfl
  have J:∀(j:Nat) x,es.toList[j]? =some x->(x.born∈C.map (λ(j:Nat)=>borns.getD j 0)↔j∈C):=by
   intro j x g;rw[bT];constructor
   ·rintro⟨k,hk,am⟩;have h1:=s j x g
    have h2:borns[k]? =some x.born:=by
     have:k<borns.length:=by have:=ab k hk;omega
     rw[bB this,<-am];simp[cj,this]
    rw[wm gV h1 h2];exact hk
   ·intro hk;exact⟨j,hk,by have:=s j x g;simp[cj,this]⟩
  have z:∀(j:Nat),([D.int (j:Int)]∈C.map (λ(j:Nat)=>[D.int (j:Int)])↔j∈C):=by grind
  rcases Ef (P:=P) hb af V o.type with⟨Y,y⟩|⟨x,R,aq,al,H,y⟩
  ·refine eZ (v:=.tuple #[.bool false]) (w':=w) (by simp[execOp,F,L,y]) ?_;refine er.mk (s':=st.s) (o':=st.o) (.tup _ _ (.cons _ _ _ _ (.bl _) .nil)) hs h (aa ?_) (λI=>by rw[f]at I;cases I);intro j g;have G:j<es.toList.length:=by rw[hl];exact g
   show [D.int (j:Int)]∈C.map _;rw[z];exact(J j _ (bB G)).1 (Y _ (bx G))
  ·obtain⟨j,g⟩:=gH aq;have az:=cF g;have ak:j∉C:=λhk=>al ((J j x g).2 hk);have ef:rows[j]? =some (rows[j]'yO):=bB yO;obtain⟨kd,vd,iF,e2,e3,e4,e5,e6⟩:=S j x _ g ef;have u:∀n,ec.cell (.list rows) (j:Int) n=(kd::vd).getD n .nil:=by intro n;show ((cp (.list rows)).getD (j:Int).toNat []).getD n .nil=_;simp[cp,cj,ef,iF]
   have U:b<w.heap.size:=by
    rcases cb b w.heap.size with h'|h'
    ·exact h'
    ·simp[dJ h']at hb
   refine eZ (v:=.tuple #[.bool true,x.key,x.val]) (w':={ R with heap:=w.heap.setIfInBounds b (.mapIter (some bm) clock ⟨C.map (λ(j:Nat)=>borns.getD j 0)++[x.born]⟩ clock) }) (by simp[execOp,F,L,y]) ?_;have ae:=ah (j:Int) ⟨yO,by show (j:Int)<((cp (.list rows)).length:Int);simp[cp];omega,by show [D.int (j:Int)]∉C.map _;rw[z];exact ak⟩;rw[gO]at ae;refine er.mk (E':=E) (Pp':=Pp) ?_ hs ?_ ae (λI=>by rw[f]at I;cases I)
   ·refine .tup _ _ (.cons _ _ _ _ (.bl _) (.cons _ _ _ _ ?_ (.cons _ _ _ _ ?_ .nil)))
    ·rw[u 0];exact p9 e2
    ·refine vS ap av e3 e4 e5 e6 ?_;intro n dd hn;rw[u,mn];simp[cj,hn]
   ·have W:=cF l;have au:R.os=w.os:=by rcases H with rfl|rfl<;>rfl
    have an:R.tape=w.tape:=by rcases H with rfl|rfl<;>rfl
    have Z:R.output=w.output:=by rcases H with rfl|rfl<;>rfl
    have aB:w.drawn<=R.drawn:=by rcases H with rfl|rfl;exact ca _;exact qF _
    refine h.x7 l rfl hE rfl (λ_ _=>rfl) hE (.inl (.refl _)) yS ?_ (by rw[dh W]) (λ_=>?_) au an Z yS ?_ (λ_ _ h=>h) (λ_ _ h=>.inl h) (λb' ar=>.inl ar) ?_
    ·intro j' aj G T hl;rw[cc (eh G)]at T;exact⟨aj,T,hl,λ_ _ h=>h⟩
    ·refine⟨C++[j],by simp[ec,cp],.inr ⟨bm,es,clock,rows,rfl,m,?_,?_⟩⟩
     ·show (w.heap.setIfInBounds b _)[b]? =_;rw[gy U,c];have:=s j x g;simp[cj,this]
     ·intro k hk;simp at hk;rcases hk with hk|rfl
      ·exact ab k hk
      ·omega
    ·intro k _ M;have:k≠b:=λe=>M (by rw[e];rfl);simp[eD (eh this)]
    ·intro ad v hv;have hc:=h.wr.pi ad v hv;have M:ad.block≠b:=by intro e;simp[pc,e,hb]at hc
     rw[<- hc];refine iu ?_;simp[eD (eh M)]
theorem LY(Y:fp P tt)(h:cY tt B E Pp st.o w)(hs:∀t,VR tt E Pp (a.tmps.getD t undef) (look st.s t))(T:o.op= .entry it){i m:Nat}(hx:ev st.s it= .it i){d:D}(ab:eT st.o i= .iter m seen){kc:CK}{e:TypeId}(V:eT st.o m= .map kc e d)
 (Z:tt e=some q) (R:ec.idx 0 (ec.len seen)) (c:ec.idx (ec.last seen) (ec.len d))
 (hK:K (.tup [mR ec kc (ec.cell d (ec.last seen) 0),fg q (ko ec d (ec.last seen) 1 q.cd)]) st)
:o.wp P a w (er tt B eB E Pp st.o w o a K) Q:=by
 have y:=ff hs it;rw[hx]at y;have G:=dB ab rfl;have F:=dB V rfl;obtain⟨ri,J,H⟩:=h.wr.ob i _ G rfl;obtain⟨rm,I,z⟩:=h.wr.ob m _ F rfl;generalize O:a.eval it=vi at y;cases y with
 |it _ b hE=>
  rw[hE]at J;cases J;obtain⟨bm,borns,clock,L,W,hb,rfl,aj⟩:=H;rw[W]at I;cases I;obtain⟨es,rows,S,rfl,hl,C,g,gV,da,ae⟩:=z;have l:L≠[]:=by rintro rfl;have:=R.2;simp[ec,cp]at this
  obtain⟨k,j,rfl⟩:∃k j,L=k++[j]:=⟨L.dropLast,L.getLast l,(nR l).symm⟩;have X:ec.last (.list ((k++[j]).map λ(j:Nat)=>[D.int (j:Int)]))=(j:Int):=by simp[ec,cp]
  rw[X]at hK c;have U:j<es.toList.length:=by have:=c.2;simp[ec,cp]at this;omega
  have M:es.toList[j]? =some (es.toList[j]):=bB U;generalize es.toList[j]=x at M;have ef:rows[j]? =some (rows[j]'yO):=bB yO;obtain⟨kd,vd,iF,e2,e3,e4,e5,e6⟩:=C j x _ M ef;have f:∀n,ec.cell (.list rows) (j:Int) n=(kd::vd).getD n .nil:=by intro n;show ((cp (.list rows)).getD (j:Int).toNat []).getD n .nil=_;simp[cp,cj,ef,iF]
  have aa:borns[j]? =some x.born:=by rw[<- g,cw,M];rfl
  have s:es.find? (·.born==x.born)=some x:=by rw[<- M1];exact find_born x es.toList (by rw[g];exact gV) (fv M)
  refine eZ (v:=.tuple #[x.key,x.val]) (w':=w) ?_ ?_
  ·have u:(⟨(k++[j]).map (λ(j:Nat)=>borns.getD j 0)⟩:Array Nat).back? =some x.born:=by simp[Array.back?,cj,aa]
   simp only[execOp,T,O,Instr.entry,getObj,Sem.run_bind,Sem.run,hb,S,Result.andThen_ok,u,bne_self_eq_false,cC,if_false,s,Sem.run_pure]
  ·refine er.mk (s':=st.s) (o':=st.o) ?_ hs h hK (λ_ ad v hv=>hv);refine .tup _ _ (.cons _ _ _ _ ?_ (.cons _ _ _ _ ?_ .nil))
   ·rw[f 0];exact p9 e2
   ·refine vS Y Z e3 e4 e5 e6 ?_;intro n dd hn;rw[f,mn];simp[cj,hn]
theorem Jt(S:fp P tt)(h:cY tt B E Pp st.o w)(hs:∀t,VR tt E Pp (a.tmps.getD t undef) (look st.s t))(M:o.op= .entry it){i:Nat}(Z:ev st.s it= .it i){e:TypeId}{d:D}(W:eT st.o i= .diter e d seen)
 (U:tt e=some q) (J:ec.idx 0 (ec.len seen)) (k:ec.idx (ec.last seen) (ec.len d))
 (X:K (.tup [mR ec .str (ec.cell d (ec.last seen) 0),fg q (ko ec d (ec.last seen) 1 q.cd)]) st)
:o.wp P a w (er tt B eB E Pp st.o w o a K) Q:=by
 have u:=ff hs it;rw[Z]at u;have C:=dB W rfl;obtain⟨ri,G,F⟩:=h.wr.ob i _ C rfl;generalize I:a.eval it=vi at u;cases u with
 |it _ b Y=>
  rw[Y]at G;cases G;obtain⟨H,rfl,⟨rfl,rfl,n,ss,mm,hb⟩|⟨bm,es,clock,rows,rfl,m,hb,ac⟩⟩:=F
  ·trivial
  have L:=Cs (h.wr.pi _ _ m.iJ);have hl:=m.len;have z:=m.Px;have gV:=m.nd;obtain⟨borns,y⟩:∃borns,es.toList.map (·.born)=borns:=⟨_,rfl⟩;rw[y]at gV hb;have g:H≠[]:=by rintro rfl;have:=J.2;simp[ec,cp]at this
  obtain⟨f,j,rfl⟩:∃f j,H=f++[j]:=⟨H.dropLast,H.getLast g,(nR g).symm⟩;have R:ec.last (.list ((f++[j]).map λ(j:Nat)=>[D.int (j:Int)]))=(j:Int):=by simp[ec,cp]
  rw[R]at X k;have O:j<es.toList.length:=by simp_all
  have T:=bB O;generalize es.toList[j]=x at T;have ef:rows[j]? =some (rows[j]'yO):=bB yO;obtain⟨kd,vd,iF,e2,e3,e4,e5,e6⟩:=z j x _ T ef;have c:∀n,ec.cell (.list rows) (j:Int) n=(kd::vd).getD n .nil:=by simp[cp,ef,iF]
  have V:borns[j]? =some x.born:=by grind
  have l:es.find? (·.born==x.born)=some x:=by rw[<- M1];exact find_born x es.toList (by grind) (fv T)
  refine eZ (v:=.tuple #[x.key,x.val]) (w':=w) ?_ ?_
  ·have s:(⟨(f++[j]).map (λ(j:Nat)=>borns.getD j 0)⟩:Array Nat).back? =some x.born:=by simp[Array.back?,cj,V]
   simp only[execOp,M,I,Instr.entry,getObj,Sem.run_bind,Sem.run,hb,L,Result.andThen_ok,s,bne_self_eq_false,cC,if_false,l,Sem.run_pure]
  ·refine er.mk (s':=st.s) (o':=st.o) ?_ hs h X (λ_ ad v hv=>hv);refine .tup _ _ (.cons _ _ _ _ ?_ (.cons _ _ _ _ ?_ .nil))
   ·rw[c 0];exact p9 e2
   ·refine vS S U e3 e4 e5 e6 ?_;intro n dd hn;rw[c,mn];simp[cj,hn]
end
end
section
section
variable {P:Program}{G:eE}{B:kk}{E:List RI}{Pp:ga}{w:World}{st:St}{a:Act}
variable {o:Oper}{Q:Exit->Act->World->Prop}{K:PV->St->Prop}{x m k:Operand}{r r0:Option Nat}{f:FuncId}{t:TypeId}{z:Array Operand}{ts:Array TypeId}{n:Nat}{w:World}{R:Ending->World->Prop}{q:TI}
def sB(r:Option Nat):Fence:={ Fence.wide with round:=r }
def xo{args:Array Value}(h:Calls P f args w R):CallsIn (sB r) n P f args w R:=by have h1:CallsIn Fence.wide n P f args w R:=callsIn_wide.2 h;exact⟨trivial,λcs _=>h1.2 cs (room_wide _)⟩
def DX{l:Nat}{tmps:Array Value}{assign body:Code}(h:RoundIn Fence.wide n P l f tmps assign body w R):RoundIn (sB r) n P l f tmps assign body w R:=⟨trivial,λc cs _=>h.2 c cs (room_wide _)⟩
def RM{next:Act->World->Prop}(hd:∀c,o.op≠ .defer c)(h:o.wp P a w next Q):o.wpIn (sB r) 0 P a w next Q:=by
 refine⟨λ_ _=>trivial,?_⟩;show o.uponIn (sB r) 0 P a next Q ((o.semAt r a.eval).run P w)
 rw[Oper.semAt_eq r _ _ hd];unfold Oper.wp at h;have b:∀{n:Nat},(sB r).depth.isSome=true->1<=n:=λh=>by simp[sB,Fence.wide]at h
 cases e:(execOp a.eval o).run P w with
 |ok i w'=>
  rw[e]at h;cases i with
  |value v=>exact h
  |skip=>exact h
  |defer d=>exact h
  |enter f args=>exact⟨b,xo h⟩
  |row row args=>exact⟨b,λc cs _=>let ⟨v,g,r2,s⟩:=h c cs;⟨v,g,r2,stepsIn_wide.2 s⟩⟩
  |_=>exact h.elim
 |halt x w'=>
  rw[e]at h;cases x with
  |panic v=>exact h
  |_=>exact h.elim
def o8(c:fp P G.tt)(h:cY G.tt B E Pp st.o w)(hs:∀t,VR G.tt E Pp (a.tmps.getD t undef) (look st.s t))(hc:eU ec G.tt o.op o.type st.s st.o λv=>K v st):
 o.wp P a w (er G.tt B (G.eB,G.live) E Pp st.o w o a K) Q:=by
 obtain⟨v,pv,hr,b,d⟩:=A4 c h.wr.rw hs hc;exact eZ (hr w rfl) (er.mk (s':=st.s) (o':=st.o) b hs h d (λ_ ad v b=>b))
def nk(hs:∀t,VR G.tt E Pp (a.tmps.getD t undef) (look st.s t)):∀(xs:List Operand)(ts:List TypeId),fe G.tt E Pp (xs.map a.eval) (nK G st.s xs ts)
 |[],_=>by simp[nK];exact .nil
 |x::xs,[]=>.cons _ _ _ _ (ff hs x) (nk hs xs [])
 |x::xs,t::ts=>.cons _ _ _ _ (jZ hs t x) (nk hs xs ts)
def EG(h:mz x=true):a.eval x= .slice none 0 0:=by
 unfold mz at h;split at h
 ·rfl
 ·cases h
def tM(hs:∀t,VR G.tt E Pp (a.tmps.getD t undef) (look st.s t)):∀(xs:List Operand)(ts:List TypeId),fe G.tt E Pp (xs.map a.eval) (vt G st.s xs ts)
 |[],_=>by simp[vt];exact .nil
 |x::xs,[]=>.cons _ _ _ _ (ff hs x) (tM hs xs [])
 |x::xs,t::ts=>.cons _ _ _ _ (by
  cases b:mz x with
  |true=>rw[EG b];exact .nF
  |false=>exact jZ hs t x) (tM hs xs ts)
def GL(hs:∀t,VR G.tt E Pp (a.tmps.getD t undef) (look st.s t))(f:FuncId)(xs:List Operand)(ts:List TypeId):fe G.tt E Pp (xs.map a.eval) (CN G f st.s xs ts):=by
 unfold CN;cases fP f G.live with
 |true=>exact tM hs xs ts
 |false=>exact nk hs xs ts
def p5:∀(xs:List Operand)(ts:List TypeId){E:List RI}{c:List Ob},cY G.tt B E Pp c w->(∀t,VR G.tt E Pp (a.tmps.getD t undef) (look st.s t))->
 ∃E',cY G.tt B E' Pp (c++oG G xs ts) w/\(∀(i:Nat) x,E[i]? =some x->E'[i]? =some x)/\fe G.tt E' Pp (xs.map a.eval) (og G st.s c.length xs ts)
 |[],ts,E,c,h,_=>⟨E,by simpa[oG]using h,λ_ _ h=>h,by simp[og];exact .nil⟩
 |x::xs,[],E,c,h,hs=>by
  obtain⟨E',h1,h2,h3⟩:=p5 xs [] h hs;have l:oG G xs []=[]:=by cases xs<;>rfl
  rw[l]at h1;refine⟨E',by simpa[oG]using h1,h2,?_⟩;exact .cons _ _ _ _ ((ff hs x).mono h2 (λ_ _ h=>h)) h3
 |x::xs,t::ts,E,c,h,hs=>by
  cases he:HT G x t with
  |none=>obtain⟨E',h1,h2,h3⟩:=p5 xs ts h hs;refine⟨E',by simpa[oG,he]using h1,h2,?_⟩;simp only[og,he,bO];exact .cons _ _ _ _ ((jZ hs t x).mono h2 (λ_ _ h=>h)) h3
  |some e=>
   have d:a.eval x= .slice none 0 0:=by
    unfold HT at he;split at he
    ·rename_i d;unfold mz at d;split at d
     ·rfl
     ·simp at d
    ·cases he
   have g:cY G.tt B (E++[.row0]) Pp (c++[.row e (.list []) true]) w:=⟨h.wr.push (λ_=>rfl) (λb hb=>by simp[RI.du]at hb),rr h.pre,h.ua,h.fr,h.kV,h.fresh.push h.wr.len (λb hb=>by simp[RI.du]at hb)⟩;obtain⟨E',h1,h2,h3⟩:=p5 xs ts g (λt=>(hs t).mono mem_push (λ_ _ h=>h));refine⟨E',by simpa[oG,he]using h1,λi y j=>h2 i y (mem_push i y j),?_⟩;simp only[og,he,bO,d];refine .cons _ _ _ _ (.row0 _ _ (h2 _ _ ?_)) (yU h3);rw[<- h.wr.len];simp
def sF{vals:List Value}{kp:Bool}{args:List PV}(D:fp P G.tt)(h:cY G.tt B E Pp st.o w)(hs:∀t,VR G.tt E Pp (a.tmps.getD t undef) (look st.s t))(s:fe G.tt E Pp vals args)
 (b:(execOp a.eval o).run P w=(callFunc f ⟨vals⟩).run P w) (hc:zU G (xP P G.tt) kp f args st K) (p:gA (G.eB,G.live) o.op=true->(kp&&fP f G.eB)=false/\fP f G.live=false):
 o.wp P a w (er G.tt B (G.eB,G.live) E Pp st.o w o a K) Q:=by
 have fin:∀e w',(∃v pv s' o' E' Pp',e=Ending.returned v/\VR G.tt E' Pp' v pv/\(∀t,VR G.tt E' Pp' (a.tmps.getD t undef) (look s' t))/\cY G.tt B E' Pp' o' w'/\K pv ⟨s',o'⟩/\
  ((kp&&fP f G.eB)=false->fP f G.live=false->∀ad v,oO G.tt E Pp st.o w ad v->oO G.tt E' Pp' o' w' ad v)/\(∀ad v,Pp ad v->Pp' ad v))->∃v,e= .returned v/\er G.tt B (G.eB,G.live) E Pp st.o w o a K (a.put o.dst v) w':=by
  rintro e w' ⟨v,pv,s',o',E',Pp',rfl,l,j,i,A,y,C⟩;exact⟨v,rfl,er.mk l j i A (λc=>y (p c).1 (p c).2) C⟩
 rcases Mh rfl h hs s hc with⟨h1,h2⟩|⟨v,w',h1,h2⟩
 ·simp only[Oper.wp,b,h1];refine h2.mono ?_;intro e w' u;obtain⟨v,rfl,d⟩:=fin e w' u;exact d
 ·obtain⟨F,g,d⟩:=fin _ _ h2;cases g;exact eZ (by rw[b];exact h1) d
def uX(u:fp P G.tt)(h:cY G.tt B E Pp st.o w)(hs:∀t,VR G.tt E Pp (a.tmps.getD t undef) (look st.s t))(i:o.op= .mapUpdate t m k x\/o.op= .insert t m k x)
 (hc:xJ ec G t m k x st (K .undef)):o.wp P a w (er G.tt B (G.eB,G.live) E Pp st.o w o a K) Q:=by
 unfold xJ at hc;split at hc
 ·rename_i ti s;cases hb:isMap ti with
  |false=>rw[hb]at hc;exact hc.elim
  |true=>
   rw[hb]at hc;simp only[cond_true]at hc;split at hc
   ·rename_i L q g v;split at hc
    ·rename_i kc j;cases c:kn kc (gj G.tt st.s (ti.ar-1) k)with
     |false=>rw[c]at hc;exact hc.elim
     |true=>
      rw[c]at hc;simp only[cond_true]at hc;split at hc
      ·rename_i r I;split at hc
       ·rename_i p e d l;cases b:(decide (kc=p)&&nb e ti.el&&jv 0 (cv q.cd)&&je q.cd (c9 (om st.o 8) (flat (gj G.tt st.s ti.el x)))&&iw iH (flat (gj G.tt st.s ti.el x))&&zX q.agg (gj G.tt st.s ti.el x)&&eH (fo (ids st.o 8) (flat (gj G.tt st.s ti.el x))))with
        |false=>rw[b]at hc;exact hc.elim
        |true=>rw[b]at hc;simp only[bI,decide_eq_true_eq,cX]at b;obtain⟨⟨⟨⟨⟨⟨F,y⟩,A⟩,H⟩,D⟩,C⟩,J⟩:=b;have y:=dH y;have A:0+1<=q.cd.length:=eO A;subst F y;exact I6 u h hs i s hb g v j c I l yO H D C J hc
       ·exact hc.elim
      ·exact hc.elim
    ·exact hc.elim
   ·exact hc.elim
 ·exact hc.elim
def xd(c:fp P G.tt)(h:cY G.tt B E Pp st.o w)(hs:∀t,VR G.tt E Pp (a.tmps.getD t undef) (look st.s t))(b:o.op= .mapUpdate t m k x\/o.op= .insert t m k x)
 (hc:Cw ec G t m k x st (K .undef)):o.wp P a w (er G.tt B (G.eB,G.live) E Pp st.o w o a K) Q:=by
 unfold Cw at hc;split at hc
 ·rename_i ti l;split at hc
  ·rename_i j p;obtain⟨Pp',h1,h2,h3,_⟩:=AW j h hs;refine Oper.wp_mono ?_ (uX (K:=K) c h1 h3 b hc);rintro s w' ⟨d,E',e,v,pv,e1,e2,e3,e4,e5,_,e7⟩;refine⟨d,E',e,v,pv,e1,e2,e3,e4,e5,λg=>?_,λad v i=>e7 _ _ (h2 _ _ i)⟩;rcases b with b|b<;>rw[b]at g<;>cases g
  ·exact uX c h hs b hc
 ·exact hc.elim
def yI(g:xE q=true){d kd:D}(e:ec.pb d kd=false){E:List RI}{Pp:ga}{v:Value}(c:VR G.tt E Pp v (fg q (q.cd.map iy))):VR G.tt E Pp v (fg q (iN ec d kd 0 q.cd)):=by
 have h:∀j,ec.fI d kd j= .nil:=by
  intro j;have e:(cp d).any (fa kd)=false:=e;have:(cp d).find? (fa kd)=none:=by rw[eV];intro x i;rw[gS]at e;exact e x i
  simp[ec,this]
 unfold xE at g;split at g
 ·rename_i ha b;rw[b]at c ⊢;show VR _ _ _ _ (fg q [tQ ec _ (ec.fI d kd 0)]);rw[h];exact c
 ·rename_i ha b;rw[b]at c ⊢;show VR _ _ _ _ (fg q [tQ ec _ (ec.fI d kd 0)]);rw[h];exact c
 ·rename_i ha b;rw[b]at c ⊢;show VR _ _ _ _ (fg q [tQ ec _ (ec.fI d kd 0)]);rw[h];simp only[fg,ha,List.map,cond_false]at c ⊢;cases c;exact .bool _
 ·rename_i ha b;rw[b]at c ⊢;show VR _ _ _ _ (fg q [tQ ec _ (ec.fI d kd 0)]);rw[h];simp only[fg,ha,List.map,cond_false]at c ⊢;rename_i l p;cases c;exact .dmp l _ _ _ (.Cv _ _)
 ·cases g
def Ej(v:fp P G.tt)(h:cY G.tt B E Pp st.o w)(hs:∀t,VR G.tt E Pp (a.tmps.getD t undef) (look st.s t)){tr:List TypeId}(u:o.op= .call { callee:=.builtin .delete,args:=z,argTypes:=ts })(has:z.toList=[m,k])(g:ts.toList=t::tr)
 (hc:Gq ec G t m k st (K (.tup []))):o.wp P a w (er G.tt B (G.eB,G.live) E Pp st.o w o a K) Q:=by
 unfold Gq at hc;split at hc
 ·rename_i ti s;cases hb:isMap ti with
  |false=>rw[hb]at hc;exact hc.elim
  |true=>
   rw[hb]at hc;simp only[cond_true]at hc;split at hc
   ·rename_i A l;split at hc
    ·rename_i kc i;cases c:kn kc (gj G.tt st.s (ti.ar-1) k)with
     |false=>rw[c]at hc;exact hc.elim
     |true=>
      rw[c]at hc;simp only[cond_true]at hc;split at hc
      ·rename_i r y;split at hc
       ·rename_i j e d p;cases b:decide (kc=j)with
        |false=>rw[b]at hc;exact hc.elim
        |true=>rw[b]at hc;simp only[decide_eq_true_eq]at b;subst b;exact I7 v h hs u has g s hb l i c y p hc
       ·exact hc.elim
      ·exact hc.elim
    ·exact hc.elim
   ·exact hc.elim
 ·exact hc.elim
def J5(h:cY G.tt B E Pp st.o w)(hs:∀t,VR G.tt E Pp (a.tmps.getD t undef) (look st.s t)){f:Operand}(p:o.op= .call { callee:=.value f,args:=z,argTypes:=ts })(L:∀g,f≠ .func g){i:Nat}(hi:ev st.s f= .lS i)
 (b:eH G.live=false) (hc:J6 (xP P G.tt) i (nK G st.s z.toList ts.toList) st K):o.wpIn (sB r0) 0 P a w (er G.tt B (G.eB,G.live) E Pp st.o w o a K) Q:=by
 unfold J6 at hc;split at hc
 ·rename_i n ps c1 c2 s N;simp only[J6.Pr]at hc;have hv:=nk (G:=G) hs z.toList ts.toList;generalize X:reach st.o 64 (i::fo (o6 8) (nK G st.s z.toList ts.toList)) []=F at hc;have M:F[0]? =some i:=by rw[<- X];exact FZ 63 _ _
  unfold wv at hc;cases hb:(lg F&&iw (λr=>jv r (cv st.o)) F)with
  |false=>rw[hb]at hc;exact hc.elim
  |true=>
   rw[hb]at hc;simp only[bI,cX]at hb;have hl:=Cz (K:=K) h hs hv (pa hb.1) (Mw hb.2);have u:=ff hs f;rw[hi]at u;generalize J:a.eval f=vf at u;cases u with
   |lS _ l S=>
    obtain⟨ri,I,O⟩:=h.wr.ob i _ (dB N rfl) rfl;rw[S]at I;cases I;obtain⟨rec,j,T,_⟩:=O;obtain⟨A,d⟩:=hc _ _ w _ l rec hl.1 (rz M S) j hl.2.1;refine⟨λ_ _=>trivial,?_⟩;have D:o.semAt r0 a.eval=execOp a.eval o:=Oper.semAt_eq _ _ _ (λc=>by rw[p];intro h;cases h);have H:z.map a.eval=⟨z.toList.map a.eval⟩:=by apply j4;simp
    have C:(execOp a.eval o).run P w= .ok (.round l rec.fn ((rec.params.zip (⟨z.toList.map a.eval⟩:Array Value)).foldl (λtmps (t,a)=>tmps.setIfInBounds t a) rec.tmps) rec.assign rec.body) w:=by have Z:=run_yield (P:=P) j (args:=⟨z.toList.map a.eval⟩) (yU A);simp[execOp,p,resolve,invoke,J,Deferred.ofValue,H];simpa using Z
    show o.uponIn (sB r0) 0 P a _ Q ((o.semAt r0 a.eval).run P w);rw[D,C];refine⟨λh=>by simp[sB,Fence.wide]at h,(DX d).mono ?_⟩;intro e w' y;obtain⟨v,pv,s',o',E',Pp',rfl,q2,V,Y,W,U,_⟩:=hl.2.2 e w' y;refine er.mk q2 V Y W (λy=>?_) U;exfalso;rw[p]at y;cases f<;>first|exact absurd rfl (L _)|(simp only[gA]at y;rw[y]at b;cases b)
 ·exact hc.elim
def Fk(s:fp P G.tt)(U:B.E0.length=G.n0)(h:cY G.tt B E Pp st.o w)(hs:∀t,VR G.tt E Pp (a.tmps.getD t undef) (look st.s t)){y:Operand}{C A e:TypeId}
 (i:o.op= .call { callee:=.builtin .append,args:=z,argTypes:=ts }) (has:z.toList=[x,y]) (u:ts.toList=[C,A])
 {L N:TI} (h1:G.tt C=some L) (h2:G.tt A=some N) (p:eJ L=some e) (l:P.underlying A=some (.slice e)\/P.underlying A=some .string) (v:G.tt e=some q) (j:q.bytes<=1024)
 {rows:List (List D)}{news:List Value} (M:Reads G.tt Pp w e (a.eval y) rows news) (hc:Ih ec G e (QB G.tt st.s C x) (.list rows) st o K):
 o.wp P a w (er G.tt B (G.eB,G.live) E Pp st.o w o a K) Q:=by
 have g:=GK hs C x;unfold Ih at hc;split at hc
 ·rename_i e4 r I;rw[I]at g;split at hc
  ·rename_i e5 d wr F;cases b:(nb e e4&&nb e e5&&nE G.n0 r)with
   |false=>rw[b]at hc;exact hc.elim
   |true=>rw[b]at hc;simp only[bI]at b;have H:=dH b.1.1;have S:=dH b.1.2;have T:=eO b.2;subst H S;obtain⟨c,hc⟩:=hc;exact Au s h hs i has u h1 h2 p l v j M g F yO (by have:=c.2;simpa[ec,cp]using this) hc
  ·exact hc.elim
 ·rename_i e4 d I;rw[I]at g;cases b:nb e e4 with
  |false=>rw[b]at hc;exact hc.elim
  |true=>
   rw[b]at hc;have H:=dH b;subst H;simp only[cond_true]at hc;obtain⟨c,hc⟩:=hc;refine Av s h hs i has u h1 h2 p l v j M g (by have:=c.2;simpa[ec,cp]using this) ?_;cases J:zb o.dst G.own with
   |true=>rw[J]at hc;obtain⟨O,hc⟩:=hc;refine .inl ⟨?_,hc⟩;have:=O.2;simpa[ec,cp]using this
   |false=>rw[J]at hc;exact .inr hc
 ·exact hc.elim
def Kr(s:fp P G.tt)(hB:B.E0.length=G.n0)(h:cY G.tt B E Pp st.o w)(hs:∀t,VR G.tt E Pp (a.tmps.getD t undef) (look st.s t))(hc:uv ec G (xP P G.tt) o st K)(hy:∀f z ts i,o.op= .call { callee:=.value f,args:=z,argTypes:=ts }->(∀g,f≠ .func g)->ev st.s f≠ .lS i):
 o.wp P a w (er G.tt B (G.eB,G.live) E Pp st.o w o a K) Q:=by
 unfold uv at hc;split at hc
 ·
  rename_i t j;split at hc
  ·rename_i ti A;split at hc
   ·rename_i e ho he;exact C3 s h hs j A he hc
   ·cases hb:Fg ti (xx (cv st.o) ti.cd)with
    |false=>rw[hb]at hc;exact hc.elim
    |true=>rw[hb]at hc;exact Ax s h hs j A (by rw[cX]at hb;exact CX A hb) hc
   ·cases hb:Fg ti (ti.cd.map iy)with
    |false=>rw[hb]at hc;exact hc.elim
    |true=>rw[hb]at hc;exact Mu s h hs j A (CX A hb) hc
  ·exact hc.elim
 ·
  rename_i t x j;split at hc
  ·rename_i ti A;cases hb:(nb (cv (flat (gj G.tt st.s t x))) (cv ti.cd)&&jv 0 (cv ti.cd)&&Fg ti (flat (gj G.tt st.s t x)))with
   |false=>rw[hb]at hc;exact hc.elim
   |true=>rw[hb]at hc;simp only[bI,cX]at hb;have h1:=dH hb.1.1;have h2:0+1<=ti.cd.length:=eO hb.1.2;exact QT h hs j (by intro h0;rw[h0]at h1;simp at h1;omega) (CX A hb.2) hc
  ·exact hc.elim
 ·
  rename_i t x y j;split at hc
  ·exact hc.elim
  rename_i ti A;cases hb:(nb (cv (flat (gj G.tt st.s t y))) (cv ti.cd)&&iw iH (flat (gj G.tt st.s t y))&&jv 0 (cv ti.cd))with
  |false=>rw[hb]at hc;exact hc.elim
  |true=>
   rw[hb]at hc;simp only[bI,cX]at hb;have h1:=dH hb.1.1;have h2:0+1<=ti.cd.length:=eO hb.2;simp only[cond_true]at hc;split at hc
   ·rename_i b off J;split at hc
    ·rename_i cs H;simp only[cX]at hc;cases C:(nE (off+ti.cd.length) cs.length&&OC (oB cs off (flat (gj G.tt st.s t y))) cs)with
     |false=>rw[C]at hc;exact hc.elim
     |true=>rw[C]at hc;rw[bI]at C;exact Ck s h hs j A h1 yO hb.1.2 J H (eO C.1) C.2 hc
    ·exact hc.elim
   ·rename_i e r i off J;split at hc
    ·rename_i e' d H hm;cases C:(nb e e'&&iI G.tt e off ti.cd&&je ti.cd (c9 (om st.o 8) (flat (gj G.tt st.s t y)))&&eH (fo (ids st.o 8) (flat (gj G.tt st.s t y))))with
     |false=>rw[C]at hc;exact hc.elim
     |true=>rw[C]at hc;simp only[bI]at C;have he:=dH C.1.1.1;subst he;exact Cj s h hs j A h1 yO hb.1.2 J hm H C.1.1.2 C.1.2 C.2 hc
    ·exact hc.elim
   ·exact hc.elim
 ·
  rename_i t len ps j;split at hc
  ·exact hc.elim
  rename_i ti A;split at hc
  ·exact hc.elim
  rename_i e he;split at hc
  ·exact hc.elim
  rename_i q D;cases hb:(nE len 1000&&nE q.cd.length 1000&&jv 0 (cv q.cd))with
  |false=>rw[hb]at hc;exact hc.elim
  |true=>
   rw[hb]at hc;simp only[bI,cX]at hb;have h1:=eO hb.1.1;have h2:=eO hb.1.2;have h3:0+1<=q.cd.length:=eO hb.2;simp only[cond_true]at hc;split at hc
   ·rename_i aK;split at hc
    ·exact hc.elim
    rename_i l hl;exact Fb s h hs j A he D h1 (by rw[aK];rfl) hl rfl hc
   split at hc
   ·exact hc.elim
   rename_i rows ao;refine Aq s h hs j A he D h1 h2 yO ao rfl ?_;cases ho:zb o.dst G.own with
   |true=>
    rw[ho]at hc;simp only[cond_true]at hc;cases U:eH (fo (ids st.o 8) (fo (λp=>flat (gj G.tt st.s e p.2)) ps.toList))with
    |false=>rw[U]at hc;exact hc.elim
    |true=>rw[U]at hc;exact .inl ⟨rfl,.inl hc⟩
   |false=>
    rw[ho]at hc;simp only[cond_false]at hc;cases U:eH (fo (ids st.o 8) (fo (λp=>flat (gj G.tt st.s e p.2)) ps.toList))with
    |false=>rw[U]at hc;exact .inr hc
    |true=>rw[U]at hc;exact .inl ⟨rfl,.inr hc⟩
 ·
  rename_i z ts j;split at hc
  ·rename_i x y t1 t2 has Z;split at hc
   ·rename_i i1 i2 h1 h2;split at hc
    ·rename_i e ay;split at hc
     ·rename_i e2 aH;cases hb:nb e e2 with
      |false=>rw[hb]at hc;exact hc.elim
      |true=>
       rw[hb]at hc;have:=dH hb;subst this;simp only[cond_true]at hc;split at hc
       ·exact hc.elim
       rename_i q D;cases C:(nE q.bytes 1024&&jv 0 (cv q.cd))with
       |false=>rw[C]at hc;exact hc.elim
       |true=>
        rw[C]at hc;simp only[bI]at C;have aE:=eO C.1;simp only[cond_true]at hc;obtain⟨e3,rows,news,hc,hR⟩:=Reads.Qn h.wr (jZ hs t2 y) hc;cases F:nb e e3 with
        |false=>rw[F]at hc;exact hc.elim
        |true=>rw[F]at hc;have:=dH F;subst this;simp only[cond_true]at hc;exact Fk s hB h hs j has Z h1 h2 ay (.inl ((s _ _ h2).slice aH).1) D aE hR hc
     ·split at hc
      ·rename_i q u D hu;cases hb:(isStr i2&&Qw q&&nE q.bytes 1024)with
       |false=>rw[hb]at hc;exact hc.elim
       |true=>
        rw[hb]at hc;simp only[bI]at hb;simp only[cond_true]at hc;have N:=jZ hs t2 y;rw[hu]at N
        have aL:bV G.tt e=[.int .u8]:=by
         have h8:=hb.1.2;unfold Qw qa at h8;unfold bV;rw[D];simp only;split at h8
         ·rename_i h9;split at h9
          ·rename_i hk;cases h9;exact hk
          ·cases h9
         ·cases h8
        generalize hy:a.eval y=vy at N;cases N with
        |str b=>exact Fk s hB h hs j has Z h1 h2 ay (.inr ((s _ _ h2).str hb.1.1)) D (eO hb.2) (by rw[hy];exact Reads.Qm aL b) hc
      ·exact hc.elim
    ·exact hc.elim
   ·exact hc.elim
  ·exact hc.elim
 ·
  rename_i x j;cases hb:(zb o.dst G.own&&mz x)with
  |false=>rw[hb]at hc;exact o8 s h hs (yU hc)
  |true=>
   rw[hb]at hc;simp only[bI]at hb;simp only[cond_true]at hc;split at hc
   ·exact Gf h hs j hb.2 hc
   ·exact hc.elim
 ·
  rename_i t ps j;cases hb:zb o.dst G.own with
  |false=>rw[hb]at hc;exact o8 s h hs (yU hc)
  |true=>
   rw[hb]at hc;simp only at hc;split at hc
   ·rename_i ti A;cases an:(ti.agg&&nb ti.ar 0)with
    |false=>rw[an]at hc;exact hc.elim
    |true=>
     rw[an]at hc;simp only at hc;split at hc
     ·rename_i cs aI;exact D8 s h hs j A an aI hc
     ·exact hc.elim
   ·exact hc.elim
 ·
  rename_i t tx lo U mx j;split at hc
  ·rename_i e r hl;split at hc
   ·rename_i aP;split at hc
    ·rename_i y0;split at hc
     ·rename_i ti q e' d wr A D H;split at hc
      ·rename_i e0 T;cases hb:(nb e0 e&&nb e e'&&nE G.n0 r)with
       |false=>rw[hb]at hc;exact hc.elim
       |true=>rw[hb]at hc;simp only[cond_true]at hc;simp only[bI]at hb;obtain⟨⟨V,C⟩,F⟩:=hb;obtain rfl:=dH V;obtain rfl:=dH C;obtain⟨l,⟨M,hc⟩,L⟩:=jm hs hc;refine DV s h hs j A T D (dB H rfl) (by have:=hs tx;rw[hl]at this;exact this) (by rw[hB];exact eO F) M.1 M.2 L hc
      ·exact hc.elim
     ·exact hc.elim
    ·rename_i y0;split at hc
     ·rename_i ti q e' d aM A D H;split at hc
      ·rename_i e0 T;cases hb:(nb e0 e&&nb e e'&&nE G.n0 r)with
       |false=>rw[hb]at hc;exact hc.elim
       |true=>
        rw[hb]at hc;simp only[cond_true]at hc;simp only[bI]at hb;obtain⟨⟨V,C⟩,F⟩:=hb;obtain rfl:=dH V;obtain rfl:=dH C;obtain⟨l,⟨af,M,hc⟩,L⟩:=jm hs hc;obtain⟨L,_⟩|⟨y1,k1,ag,ak⟩:=L
        ·cases L
        ·cases ag;exact DW s h hs j A T D (dB H rfl) (by have:=hs tx;rw[hl]at this;exact this) (by rw[hB];exact eO F) af.2 M.1 M.2 ak aM hc
      ·exact hc.elim
     ·exact hc.elim
    ·exact hc.elim
   split at hc
   ·split at hc
    ·rename_i y0;split at hc
     ·rename_i ti q e' d wr A D H;split at hc
      ·rename_i e0 T;cases hb:(nb e0 e&&nb e e')with
       |false=>rw[hb]at hc;exact hc.elim
       |true=>
        rw[hb]at hc;simp only[cond_true]at hc;simp only[bI]at hb;obtain⟨V,C⟩:=hb;obtain rfl:=dH V;obtain rfl:=dH C;obtain⟨l,⟨af,M,hc⟩,L⟩:=jm hs hc;obtain⟨L,_⟩|⟨y1,k1,ag,ak⟩:=L
        ·cases L
        ·cases ag;exact FV s h hs j A T D (dB H rfl) (by have:=hs tx;rw[hl]at this;exact this) af.2 M.1 M.2 ak hc
      ·exact hc.elim
     ·exact hc.elim
    ·exact hc.elim
   have h1:=h.qc [r];have aF:∀t,VR G.tt E (iO G.tt E st.o w Pp [r]) (a.tmps.getD t undef) (look st.s t):=λt=>(hs t).mono (λ_ _ h=>h) (λ_ _ h=>.inl h);have ai:=o8 (st:=⟨st.s,gB [r] 0 st.o⟩) (K:=K) (Q:=Q) s h1 aF (o:=o) hc;refine Oper.wp_mono ?_ ai;rintro a' w' ⟨ap,E',Pp',v,pv,e1,e2,e3,e4,e5,e6,e7⟩;exact⟨ap,E',Pp',v,pv,e1,e2,e3,e4,e5,λI ad v N=>e6 I ad v (N.qc [r]),λad v N=>e7 ad v (.inl N)⟩
  ·exact o8 s h hs hc
 ·
  rename_i t x y j;split at hc
  ·rename_i ti A;split at hc
   ·rename_i e he;split at hc
    ·rename_i q D;split at hc
     ·rename_i k l k' c J hy;cases hb:(nE q.bytes 1024&&jv 0 (cv q.cd))with
      |false=>rw[hb]at hc;exact hc.elim
      |true=>rw[hb]at hc;simp only[bI,cX]at hb;have h3:0+1<=q.cd.length:=eO hb.2;obtain⟨q1,q2,hc⟩:=hc;exact Cx s h hs j A he D (eO hb.1) yO J hy q1 q2 hc
     ·exact hc.elim
    ·exact hc.elim
   ·exact hc.elim
  ·exact hc.elim
 ·
  rename_i t j;split at hc
  ·rename_i ti A;cases hb:isMap ti with
   |false=>rw[hb]at hc;exact hc.elim
   |true=>
    rw[hb]at hc;simp only[cond_true]at hc;split at hc
    ·split at hc
     ·exact Gr h hs j rfl hc
     ·exact hc.elim
    ·exact hc.elim
  ·exact hc.elim
 ·
  rename_i t m k ok j;split at hc
  ·rename_i ti A;cases hb:isMap ti with
   |false=>rw[hb]at hc;exact hc.elim
   |true=>
    rw[hb]at hc;simp only[cond_true]at hc;split at hc
    ·rename_i ki q W D;split at hc
     ·rename_i kc X;cases C:kn kc (gj G.tt st.s (ti.ar-1) k)with
      |false=>rw[C]at hc;exact hc.elim
      |true=>
       rw[C]at hc;simp only[cond_true]at hc;split at hc
       ·rename_i r J;split at hc
        ·rename_i aG e d H;cases F:(decide (kc=aG)&&nb e ti.el&&jv 0 (cv q.cd))with
         |false=>rw[F]at hc;exact hc.elim
         |true=>
          rw[F]at hc;simp only[bI,decide_eq_true_eq]at F;obtain⟨⟨q1,q2⟩,q3⟩:=F;have q2:=dH q2;subst q1 q2;simp only[cond_true]at hc;split at hc
          ·rename_i ah;simp only[HW]at hc;exact Bp (p0:=fg q (iN ec d (mQ (gj G.tt st.s (ti.ar-1) k)) 0 q.cd)) s h hs j A hb W D X C J H (λ_=>hc) (λae {_ _ _} N=>yI ah ae N) (λ_=>hc)
          ·exact Bp s h hs j A hb W D X C J H hc.1 (λ_ {_ _ _} h=>h) hc.2
        ·exact hc.elim
       ·rename_i e d J;cases F:(decide (kc=CK.str)&&nb e ti.el&&jv 0 (cv q.cd))with
        |false=>rw[F]at hc;exact hc.elim
        |true=>
         rw[F]at hc;simp only[bI,decide_eq_true_eq]at F;obtain⟨⟨q1,q2⟩,q3⟩:=F;have q2:=dH q2;subst q2;simp only[cond_true]at hc;split at hc
         ·rename_i ah;simp only[HW]at hc;exact zh (p0:=fg q (iN ec d (mQ (gj G.tt st.s (ti.ar-1) k)) 0 q.cd)) s h hs j A hb W D X C J q1 (λ_=>hc) (λae {_ _ _} N=>yI ah ae N) (λ_=>hc)
         ·exact zh s h hs j A hb W D X C J q1 hc.1 (λ_ {_ _ _} h=>h) hc.2
       ·exact hc.elim
     ·exact hc.elim
    ·exact hc.elim
  ·exact hc.elim
 ·rename_i t m k x j;exact xd s h hs (.inl j) hc
 ·rename_i t m k x j;exact xd s h hs (.inr j) hc
 ·
  rename_i z ts j;split at hc
  ·rename_i m k t tr has Z;exact Ej s h hs j has Z hc
  ·exact hc.elim
 ·
  rename_i t m j;split at hc
  ·rename_i ti A;cases hb:isMap ti with
   |false=>rw[hb]at hc;exact hc.elim
   |true=>
    rw[hb]at hc;simp only[cond_true]at hc;split at hc
    ·rename_i r J;split at hc
     ·rename_i kc e d H;exact KI s h hs j A hb J H hc
     ·exact hc.elim
    ·rename_i e d J;cases F:nb e ti.el with
     |false=>rw[F]at hc;exact hc.elim
     |true=>rw[F]at hc;exact IS s h hs j A hb J hc
    ·exact hc.elim
  ·exact hc.elim
 ·
  rename_i it str j;cases str with
  |true=>exact hc.elim
  |false=>
   simp only[cond_false]at hc;split at hc
   ·rename_i i J;split at hc
    ·rename_i m seen O;split at hc
     ·rename_i kc e d al;split at hc
      ·rename_i q D;cases hb:jv 0 (cv q.cd)with
       |false=>rw[hb]at hc;exact hc.elim
       |true=>rw[hb]at hc;exact NN s h hs j J O al D hc.1 hc.2
      ·exact hc.elim
     ·exact hc.elim
    ·rename_i e d seen O;split at hc
     ·rename_i q D;cases hb:jv 0 (cv q.cd)with
      |false=>rw[hb]at hc;exact hc.elim
      |true=>rw[hb]at hc;exact KX s h hs j J O D hc.1 hc.2
     ·exact hc.elim
    ·exact hc.elim
   ·exact hc.elim
 ·
  rename_i it j;split at hc
  ·rename_i i J;split at hc
   ·rename_i m seen O;split at hc
    ·rename_i kc e d al;split at hc
     ·rename_i q D;cases hb:jv 0 (cv q.cd)with
      |false=>rw[hb]at hc;exact hc.elim
      |true=>rw[hb]at hc;exact LY s h hs j J O al D hc.1 hc.2.1 hc.2.2
     ·exact hc.elim
    ·exact hc.elim
   ·rename_i e d seen O;split at hc
    ·rename_i q D;cases hb:jv 0 (cv q.cd)with
     |false=>rw[hb]at hc;exact hc.elim
     |true=>rw[hb]at hc;exact Jt s h hs j J O D hc.1 hc.2.1 hc.2.2
    ·exact hc.elim
   ·exact hc.elim
  ·exact hc.elim
 ·
  rename_i f z ts j
  have ab:(execOp a.eval o).run P w=(callFunc f ⟨z.toList.map a.eval⟩).run P w:=by
   have:z.map a.eval=⟨z.toList.map a.eval⟩:=by apply j4;simp
   simp[execOp,j,resolve,invoke,Act.eval,this,Deferred.ofValue]
  split at hc
  ·rename_i Y;simp only[bI]at Y;rw[cX,fK]at hc;obtain⟨E',h1,h2,h3⟩:=p5 (a:=a) (st:=st) z.toList ts.toList h hs
   have ai:=sF (st:=⟨st.s,st.o++oG G z.toList ts.toList⟩) (f:=f) (kp:=true) (Q:=Q) s h1 (λt=>(hs t).mono h2 (λ_ _ h=>h)) h3 ab hc (λI=>by
    rw[j]at I;simp only[gA]at I;cases hm:fP f G.eB with
    |true=>rw[hm]at I;simp at I
    |false=>rw[hm]at Y;cases Y.2)
   refine Oper.wp_mono ?_ ai;rintro a' w' ⟨ap,E2,Pp',v,pv,e1,e2,e3,e4,e5,e6,e7⟩;refine⟨ap,E2,Pp',v,pv,e1,e2,e3,e4,e5,λI=>?_,e7⟩;rw[j]at I;simp only[gA,Y.2,cond_true]at I;cases I
  have N:=GL (G:=G) hs f z.toList ts.toList
  refine sF (f:=f) (kp:=true) s h hs N ab hc (λI=>by
   rw[j]at I;simp only[gA]at I;cases hm:fP f G.eB with
   |true=>rw[hm]at I;simp at I
   |false=>
    rw[hm]at I;cases aC:fP f G.live with
    |true=>rw[aC]at I;simp at I
    |false=>exact⟨rfl,rfl⟩)
 ·
  rename_i f z ts _ j;split at hc
  ·rename_i g oM hf;have aj:=ff hs f;rw[hf]at aj;generalize aw:a.eval f=vf at aj;cases aj with
   |cy _ _ vs _ hu az=>
    have S:gA (G.eB,G.live) o.op=true->fP g G.live=false/\fP (g-lR) G.live=false:=by
     intro I;rw[j]at I;cases f with
     |func g'=>rename_i aB;exact absurd rfl (aB g')
     |_=>simp only[gA]at I;have:=kP I;simp[this,fP]
    split at hc
    ·rename_i ar;have hu:=hu.get ar;subst hu;have N:=(nk (G:=G) hs z.toList ts.toList).append az;rw[fK]at hc;refine sF (f:=g) (kp:=false) s h hs N ?_ hc (λI=>⟨rfl,(S I).1⟩);have:z.map a.eval++⟨vs⟩=⟨z.toList.map a.eval++vs⟩:=by apply j4;simp
     simp[execOp,j,resolve,invoke,aw,this,Deferred.ofValue]
    ·rename_i ar;have hu:=hu.UU ar;subst hu;have N:=az.append (nk (G:=G) hs z.toList ts.toList);rw[fK]at hc;refine sF (f:=g-lR) (kp:=false) s h hs N ?_ hc (λI=>⟨rfl,(S I).2⟩);have:(⟨vs⟩:Array Value)++z.map a.eval=⟨vs++z.toList.map a.eval⟩:=by apply j4;simp
     simp[execOp,j,resolve,invoke,aw,this,Deferred.ofValue]
  ·rename_i i U;refine absurd U (hy f z ts i j ?_);intro g e;subst e;simp only[ev]at U;cases hb:jv g lR<;>rw[hb]at U<;>cases U
  ·exact hc.elim
 ·exact o8 s h hs hc
def Af(hc:uv ec G (xP P G.tt) o st K):∀c,o.op≠ .defer c:=by intro c h;unfold uv at hc;rw[h]at hc;simp[eU]at hc
def DK(e:fp P G.tt)(p:B.E0.length=G.n0)(h:cY G.tt B E Pp st.o w)(hs:∀t,VR G.tt E Pp (a.tmps.getD t undef) (look st.s t))(hc:uv ec G (xP P G.tt) o st K):
 o.wpIn (sB r0) 0 P a w (er G.tt B (G.eB,G.live) E Pp st.o w o a K) Q:=by
 by_cases j:∃f z ts i,o.op= .call { callee:=.value f,args:=z,argTypes:=ts }/\(∀g,f≠ .func g)/\ev st.s f= .lS i
 ·obtain⟨f,z,ts,i,c,d,l⟩:=j
  have b:eH G.live=false/\J6 (xP P G.tt) i (nK G st.s z.toList ts.toList) st K:=by
   unfold uv at hc;rw[c]at hc;cases f with
   |func g=>exact absurd rfl (d g)
   |_=>
    simp only[l]at hc;cases hl:eH G.live with
    |true=>rw[hl]at hc;exact hc.elim
    |false=>rw[hl]at hc;exact⟨rfl,hc⟩
  exact J5 h hs c d l b.1 b.2
 ·exact RM (Af hc) (Kr e p h hs hc λf z ts i h1 h2 h3=>j ⟨f,z,ts,i,h1,h2,h3⟩)
end
end
section
section
variable {r:Option Nat}{P:Program}{g:Array Oper}{D:Nat->Bool}{Q:Exit->Act->World->Prop}
variable {J:World->Prop}{w:World}{oi oj:Oper}{a:Act}{j:Nat}{K:Act->World->Prop}{v:Value}
def jq(r:Option Nat)(P:Program)(g:Array Oper)(D:Nat->Bool)(Q:Exit->Act->World->Prop)(J:World->Prop):Nat->Array Bool->Act->World->Prop
 |0,listed,a,w=>J w/\Region.ready .any g listed=[]/\Q .normal a w
 |n+1,listed,a,w=>J w/\(Region.ready .any g listed=[]->Q .normal a w)/\∀i∈Region.ready .any g listed,wpOpIn (sB r) 0 P g Q i (λb w'=>if D i then wpAnyIn (sB r) 0 P .any g Q n (listed.setIfInBounds i true) b w' else jq r P g D Q J n (listed.setIfInBounds i true) b w') a w
def jq.holds{n:Nat}{listed:Array Bool}(h:jq r P g D Q J n listed a w):J w:=by cases n<;>exact h.1
def jq.any:∀{n:Nat}{listed:Array Bool}{a:Act}{w:World},jq r P g D Q J n listed a w->wpAnyIn (sB r) 0 P .any g Q n listed a w
 |0,_,_,_,h=>h.2
 |n+1,listed,a,w,h=>⟨h.2.1,λi d=>wpOpIn_mono (λe w' b=>by
  cases c:D i with
  |true=>rw[c]at b;exact b
  |false=>rw[c]at b;exact jq.any b) (h.2.2 i d)⟩
def jq.mono{d:World->Prop}(c:∀w,J w->d w):∀{n:Nat}{listed:Array Bool}{a:Act}{w:World},jq r P g D Q J n listed a w->jq r P g D Q d n listed a w
 |0,_,_,_,h=>⟨c _ h.1,h.2⟩
 |n+1,listed,a,w,h=>⟨c _ h.1,h.2.1,λi f=>wpOpIn_mono (λk w' b=>by
  cases e:D i with
  |true=>rw[e]at b;exact b
  |false=>rw[e]at b;exact jq.mono c b) (h.2.2 i f)⟩
def vC(P:Program)(g:Array Oper)(J:World->Prop)(o:Oper)(v:Value)(a:Act):Prop:=(Region.wanted o (yielded g a.tmps)=true/\∀w,J w->(execOp a.eval o).run P w= .ok (.value v) w)\/(Region.wanted o (yielded g a.tmps)=false/\v=undef)
def Oa{b:Act}(q:g[j]? =some oj)(gV:∀c,oj.op≠ .defer c)(hd:∀d,oj.dst=some d->d∉oi.looksAt g)(k:∀cs b,oi.op≠ .select cs b)(h:wpOpIn (sB r) 0 P g Q j K b w):
 wpOpIn (sB r) 0 P g Q j (λb' w'=>K b' w'/\execOp b'.eval oi=execOp b.eval oi/\Region.wanted oi (yielded g b'.tmps)=Region.wanted oi (yielded g b.tmps)) b w:=by
 have key:∀u,execOp (b.put oj.dst u).eval oi=execOp b.eval oi/\Region.wanted oi (yielded g (b.put oj.dst u).tmps)=Region.wanted oi (yielded g b.tmps):=λu=>⟨execOp_put oi k b oj.dst u hd,wanted_put oi b oj.dst u hd⟩;have m:∀(ds:List Deferred) u,execOp (({ b with defers:=ds }:Act).put oj.dst u).eval oi=execOp b.eval oi/\Region.wanted oi (yielded g (({ b with defers:=ds }:Act).put oj.dst u).tmps)=Region.wanted oi (yielded g b.tmps):=λds u=>⟨execOp_put oi k { b with defers:=ds } oj.dst u hd,wanted_put oi { b with defers:=ds } oj.dst u hd⟩;unfold wpOpIn at*;simp only[q]at*;split
 ·rename_i p;simp only[p,if_true]at h;refine⟨h.1,?_⟩;have h:=h.2;rw[Oper.semAt_eq _ _ _ gV]at h ⊢;generalize (execOp b.eval oj).run P w=res at*;cases res with
  |ok n w'=>
   cases n<;>simp only[Oper.uponIn]at h ⊢
   case value u=>exact⟨h,key u⟩
   case skip=>exact⟨h,key _⟩
   case defer d=>exact⟨h,m _ _⟩
   case enter f args=>
    refine⟨h.1,CallsIn.mono h.2 λe o i=>?_⟩;cases e with
    |returned u=>exact⟨i,key u⟩
    |panicked c=>exact i
    |outgrown=>exact i
   case row row args=>exact⟨h.1,RowsIn.mono h.2 λu o i=>⟨i,key u⟩⟩
   case round l f tmps assign body=>
    refine⟨h.1,RoundIn.mono h.2 λe o i=>?_⟩;cases e with
    |returned u=>exact⟨i,key u⟩
    |panicked c=>exact i
    |outgrown=>exact i
  |halt x w'=>cases x<;>simp only[Oper.uponIn]at h ⊢;exact h
 ·rename_i p;simp only[p]at h;exact⟨h.1,h.2,key _⟩
def Qh(y:g[j]? =some oj)(gV:∀c,oj.op≠ .defer c)(p:oi.apart g oj=true)(s:∀cs b,oj.op≠ .select cs b)(q:∀c a w,¬Q (.panic c) a w)
 (h:wpOpIn (sB r) 0 P g Q j K (a.put oi.dst v) w):wpOpIn (sB r) 0 P g Q j (λz w'=>K (z.put oi.dst v) w') a w:=by
 obtain⟨h1,h2,_⟩:=Oper.apart_spec p;have k:∀(b:Act) u,(b.put oi.dst v).put oj.dst u=(b.put oj.dst u).put oi.dst v:=λb u=>Act.put_comm b v u h2;unfold wpOpIn at*;simp only[y]at*;rw[wanted_put oj a oi.dst v h1]at h;split
 ·rename_i o;simp only[o,if_true]at h;refine⟨λ_ _=>trivial,?_⟩;have h:=h.2;rw[Oper.semAt_eq _ _ _ gV,execOp_put oj s a oi.dst v h1]at h;rw[Oper.semAt_eq _ _ _ gV];generalize t:(execOp a.eval oj).run P w=res at*;cases res with
  |ok n w'=>
   cases n<;>simp only[Oper.uponIn]at h ⊢
   case value u=>rw[<- k];exact h
   case skip=>rw[<- k];exact h
   case defer d=>rw[<- k,<-Act.put_defers];exact h
   case enter f args=>
    refine⟨h.1,CallsIn.mono h.2 λe m i=>?_⟩;cases e with
    |returned u=>simp only at i ⊢;rw[k]at i;exact i
    |panicked c=>exact(q _ _ _ i).elim
    |outgrown=>exact i
   case row row args=>exact⟨h.1,RowsIn.mono h.2 λu m i=>by rw[k]at i;exact i⟩
   case round l f tmps assign body=>
    refine⟨h.1,RoundIn.mono h.2 λe m i=>?_⟩;cases e with
    |returned u=>simp only at i ⊢;rw[k]at i;exact i
    |panicked c=>exact(q _ _ _ i).elim
    |outgrown=>exact i
  |halt x w'=>
   cases x<;>simp only[Oper.uponIn]at h ⊢
   case panic u=>exact(q _ _ _ h).elim
 ·rename_i o;simp only[o]at h;refine⟨λ_ _=>trivial,?_⟩;rw[<- k];exact h.2
def B2{i:Nat}(L:g[i]? =some oi)(p:∀(j:Nat)(o:Oper) cs b,g[j]? =some o->o.op≠ .select cs b)(gV:∀(j:Nat)(o:Oper) c,g[j]? =some o->o.op≠ .defer c)(hQ:∀c a w,¬Q (.panic c) a w)(hD:D i=false)(l:∀d,oi.dst=some d->d∉oi.looksAt g)(Z:List Nat)(W:∀z∈Z,∀oz,g[z]? =some oz->∃e∈oz.after,Region.binds .any e=true/\(e.on=i\/e.on∈Z)):
 ∀(fuel:Nat)(listed:Array Bool)(a:Act)(w:World),
  (∀z∈Z,listed.getD z false=false)->(∀j oj,g[j]? =some oj->j≠i->listed.getD j true=false->j∉Z->oi.apart g oj=true/\D j=false)->
  i∈Region.ready .any g listed->vC P g J oi v a->J w->jq r P g D Q J fuel (listed.setIfInBounds i true) (a.put oi.dst v) w->jq r P g D Q J (fuel+1) listed a w:=by
 have f:∀(fuel:Nat)(listed:Array Bool)(a:Act)(w:World),vC P g J oi v a->J w->jq r P g D Q J fuel (listed.setIfInBounds i true) (a.put oi.dst v) w->
  wpOpIn (sB r) 0 P g Q i (λu w'=>if D i then wpAnyIn (sB r) 0 P .any g Q fuel (listed.setIfInBounds i true) u w' else jq r P g D Q J fuel (listed.setIfInBounds i true) u w') a w:=by
  intro fuel listed a w C B H;unfold wpOpIn;simp only[L,hD];rcases C with⟨hw,hv⟩|⟨hw,rfl⟩
  ·simp only[hw,if_true];refine⟨λ_ _=>trivial,?_⟩;rw[Oper.semAt_eq _ _ _ (λc=>gV i oi c L),hv w B];exact H
  ·simp only[hw,cC,if_false];exact⟨λ_ _=>trivial,H⟩
 intro fuel;induction fuel with
 |zero=>
  intro listed a w _ _ hr C B H;refine⟨B,λh=>(by rw[h]at hr;cases hr),λj R=>?_⟩;by_cases m:j=i
  ·subst m;exact f 0 listed a w C B H
  ·have:=ready_mono R m;rw[H.2.1]at this;cases this
 |succ fuel ih=>
  intro listed a w G q hr C B H;refine⟨B,λh=>(by rw[h]at hr;cases hr),λj R=>?_⟩;by_cases m:j=i
  ·subst m;exact f _ listed a w C B H
  ·have h1:=H.2.2 j (ready_mono R m);obtain⟨x,oj,n,A⟩:=mem_ready.1 R
   have ac:listed.getD i false=false:=by
    have h0:=(mem_ready.1 hr).1;rcases cb i listed.size with V|V
    ·rw[cS]at h0 ⊢;simp[V]at h0 ⊢;exact h0
    ·rw[cS,dJ V];rfl
   have y:j∉Z:=λO=>by
    obtain⟨e,he,hb,h0|h0⟩:=W j O oj n
    ·have h1:=A e he hb;rw[h0,ac]at h1;cases h1
    ·have h1:=A e he hb;rw[G _ h0]at h1;cases h1
   obtain⟨X,F⟩:=q j oj n m x y;simp only[F,cC,if_false]at h1;obtain⟨a1,a2,a3⟩:=Oper.apart_spec X;let s:Oper:={ oi with op:=.move (.const v),guard:=none }
   have N:s.apart g oj=true:=by
    have hl:s.looksAt g=[]:=rfl;unfold Oper.apart;simp only[hl];have ab:s.dst=oi.dst:=rfl;rw[ab];cases hd:oi.dst with
    |none=>cases oj.dst<;>rfl
    |some d=>
     have b1:=a1 d hd;have b2:=a2 d hd;cases aa:oj.dst with
     |none=>simp[b1]
     |some d'=>rw[aa]at b2;simp[b1];exactλh=>b2 (by rw[h])
   have h2:=Oa (oi:=oi) (b:=a.put oi.dst v) n (λc=>gV j oj c n) a3 (λcs b=>p i oi cs b L) h1;have h3:=Qh (oi:=s) n (λc=>gV j oj c n) N (λcs b=>p j oj cs b n) hQ h2;simp only[F,cC,if_false];refine wpOpIn_mono (λu w' h4=>?_) h3;obtain⟨h5,h6,h7⟩:=h4
   have t:∀k ok,g[k]? =some ok->k≠i->(listed.setIfInBounds j true).getD k true=false->
    k∉Z->oi.apart g ok=true/\D k=false:=λk ok hk T M S=>by
    refine q k ok hk T ?_ S;by_cases E:j=k
    ·subst E;exact x
    ·rw[getD_set_ne true E]at M;exact M
   have e0:s.dst=oi.dst:=rfl;rw[e0]at h5 h6 h7
   have U:vC P g J oi v u:=by
    have e1:execOp u.eval oi=execOp a.eval oi:=by rw[<- execOp_put oi (λcs b=>p i oi cs b L) u oi.dst v l,h6,execOp_put oi (λcs b=>p i oi cs b L) a oi.dst v l]
    have e2:Region.wanted oi (yielded g u.tmps)=Region.wanted oi (yielded g a.tmps):=by rw[<- wanted_put oi u oi.dst v l,h7,wanted_put oi a oi.dst v l]
    unfold vC at*;rw[e1,e2];exact C
   rw[Array.setIfInBounds_comm _ _ (eh m)]at h5;have I:∀z∈Z,(listed.setIfInBounds j true).getD z false=false:=λz O=>by have Y:j≠z:=λe=>y (by rw[e];exact O);rw[getD_set_ne false Y];exact G z O
   exact ih (listed.setIfInBounds j true) u w' I t (ready_mono hr (eh m)) U h5.holds h5
end
end
section
variable {w D:World}{tt:TypeId->Option TI}{N:Nat}{st F:St}{E E2:List RI}{Pp V6:ga}{d d2:List Deferred}{a a2:Act}
inductive Ex where
 |normal|exit (id:Nat)|ret
def vq:Exit->Ex->Prop
 | .normal,.normal=>True
 | .exit i,.exit j=>i=j
 | .ret,.ret=>True
 |_,_=>False
def Qq(b:Nat):Deferred:={ target:=.collected b,args:= #[] }
def Mk(w:World)(d:List Deferred)(E':List RI)(objs':List Ob)(d':List Deferred)(w':World):Prop:=∃bs:List Nat,d'=bs.map Qq++d/\bs.Nodup/\∀b∈bs,w.heap.size<=b/\b<w'.heap.size/\w'.heap[b]? =some (.deferred (some []))/\¬own E' objs' b
def Mk.none{w':World}{d':List Deferred}{E':List RI}{objs':List Ob}(h:d'=d):Mk w d E' objs' d' w':=⟨[],by simp[h],ud,λb hb=>yE hb⟩
def kk.at(B:kk)(d:List Deferred):kk:={ B with d0:=d }
def kk.here(B:kk)(E:List RI)(Pp:ga)(objs:List Ob)(d:List Deferred)(w:World):kk:={ w0:=w,E0:=B.E0,P0:=Pp,o9:=own E objs,d0:=d }
def jl.at{B:kk}(h:jl tt N B E Pp st a w):jl tt N (B.at a.defers) E Pp st a w:=⟨h.wr,h.gJ,h.size,rfl,h.pre,h.ua,h.fr,h.kV,h.fresh⟩
def jl.here{B:kk}(h:jl tt N B E Pp st a w):jl tt N (B.here E Pp st.o a.defers w) E Pp st a w:=⟨h.wr,h.gJ,h.size,rfl,h.pre,λ_ _ h=>h,Fr.refl _ _,λ_ _ h=>.inl h,λi o ri b h1 h2 h3 h4=>.inr ⟨i,o,ri,h1,h2,h3,h4⟩⟩
def jl.back{B:kk}(h:jl tt N B E Pp st a w)(k:jl tt N ((B.here E Pp st.o d w).at d2) E2 V6 F a2 D):jl tt N (B.at a2.defers) E2 V6 F a2 D:=by
 have c:∀b,own E st.o b->B.w0.heap.size<=b\/B.o9 b:=λb ⟨i,o,ri,h1,h2,h3,h4⟩=>h.fresh i o ri b h1 h2 h3 h4;refine⟨k.wr,k.gJ,k.size,rfl,k.pre,λad v e=>k.ua ad v (h.ua ad v e),?_,?_,?_⟩
 ·refine h.fr.trans k.fr (λx f g=>?_);have f:x<B.w0.heap.size:=f;rcases c x g with h1|h1
  ·omega
  ·exact h1
 ·intro ad v e;rcases k.kV ad v e with h1|h1|h1
  ·exact h.kV ad v h1
  ·exact .inr (.inl (bR h.fr.size h1))
  ·exact .inr (c _ h1)
 ·intro i o ri b h1 h2 h3 h4;rcases k.fresh i o ri b h1 h2 h3 h4 with h5|h5
  ·exact .inl (bR h.fr.size h5)
  ·exact c _ h5
def Mk.trans{B:kk}{w0:World}{d0:List Deferred}(fL:w0.heap.size<=w.heap.size)(m:Mk w0 d0 E st.o d w)(k:jl tt N ((B.here E Pp st.o d w).at d2) E2 V6 F a2 D)(s:Mk w d E2 F.o a2.defers D):Mk w0 d0 E2 F.o a2.defers D:=by
 obtain⟨bs,rfl,h2,h3⟩:=m;obtain⟨g,h4,h5,h6⟩:=s;refine⟨g++bs,by simp[h4],?_,?_⟩
 ·rw[eb];refine⟨h5,h2,?_⟩;intro x v y t e;have:=(h6 x v).1;have:=(h3 y t).2.1;omega
 ·intro b hb;rcases bJ.1 hb with hb|hb
  ·obtain⟨n,l,h,c⟩:=h6 b hb;exact⟨yO,l,h,c⟩
  ·obtain⟨n,l,h,c⟩:=h3 b hb;have hs:w.heap.size<=D.heap.size:=k.fr.size;refine⟨n,yO,?_,?_⟩
   ·rw[k.fr.block b l c];exact h
   ·rintro⟨i,o,ri,u,r2,r,p⟩;rcases k.fresh i o ri b u r2 r p with f|f
    ·have f:w.heap.size<=b:=f;omega
    ·exact c f
def xt(P:Program)(tt:TypeId->Option TI)(N n0:Nat)(r:Option Nat)(c:Code)(st:St)(Q:Ex->St->Prop):Prop:=∀B E Pp a w,B.E0.length=n0->jl tt N B E Pp st a w->c.wpIn (sB r) 0 P (λe g w'=>∃h f E' Pp',vq e h/\jl tt N (B.at g.defers) E' Pp' f g w'/\Mk w a.defers E' f.o g.defers w'/\w.heap.size<=w'.heap.size/\Q h f) a w
def xt.mono{P:Program}{n0:Nat}{r:Option Nat}{c:Code}{Q Q':Ex->St->Prop}(h:xt P tt N n0 r c st Q)(i:∀e s,Q e s->Q' e s):xt P tt N n0 r c st Q':=by intro B E Pp a w hb hs;exact wpIn_mono (h B E Pp a w hb hs) λe k w' ⟨g,f,E',Pp',h1,h2,h3,h4,h5⟩=>⟨g,f,E',Pp',h1,h2,h3,h4,i _ _ h5⟩
def xc:List Oper->Nat->Option Oper
 |[],_=>none|x::_,0=>some x|_::l,n+1=>xc l n
def y7(l:List Oper)(n:Nat):xc l n=l[n]? :=by
 induction l generalizing n with
 |nil=>simp[xc]
 |cons x xs c=>cases n<;>simp[xc,c]
def M6:Bool->Bool->Bool|true,true=>true|false,false=>true|_,_=>false
def dq:Bool->Bool|true=>false|false=>true
section
variable (A:qC) (G:eE) (C:ml)
def xw(d:Option Nat)(v:PV)(st:St)(K:St->Prop):Prop:=match d with
 |some d=>bif jv d G.n then(match st with|⟨s,o⟩=>K ⟨(d,v)::s,o⟩)else False
 |none=>K st
def guarded(all:List Oper)(o:Oper)(st:St)(run:St->(PV->St->Prop)->Prop)(K:St->Prop):Prop:=match o.guard with
 |none=>run st λv c=>xw G o.dst v c K
 |some (j,z)=>match xc all j with
  |none=>False
  |some oj=>match oj.dst with
   |none=>False
   |some q=>match look st.s q with
    | .bl b=>(match M6 b z with|true=>((run st λv c=>xw G o.dst v c K))|false=>(xw G o.dst (.tup []) st K))
    | .bool b=>(b=z->run ⟨(q,.bl z)::st.s,st.o⟩ λv c=>xw G o.dst v c K)/\
     (b=dq z->xw G o.dst (.tup []) ⟨(q,.bl (dq z))::st.s,st.o⟩ K)
    | .tup []=>xw G o.dst (.tup []) st K
    |_=>False
def FU(all:List Oper):List Oper->St->(St->Prop)->Prop
 |[],st,Q=>Q st
 |o::os,st,Q=>guarded G all o st (λst K=>uv A G C o st K) λc=>FU all os c Q
def oI(e:Edge):Bool:=match e.ground with
 | .textOnly _=>false
 | .gcOnly _=>false
 |_=>true
def uV:List Edge->Nat
 |[]=>0
 |e::l=>bif oI e then nq (fV 1 e.on) (uV l)else uV l
def od:Nat->List Oper->List (Nat×Nat×Oper)
 |_,[]=>[]
 |i,o::os=>(i,uV o.after.toList,o)::od (i+1) os
def Am(m L:Nat):Bool:=nb (Nat.land m L) m
def jY(L:Nat):List (Nat×Nat×Oper)->List (Nat×Oper)
 |[]=>[]
 |(i,m,o)::r=>bif Am m L then(i,o)::jY L r else jY L r
def kf(i:Nat):List (Nat×Nat×Oper)->List (Nat×Nat×Oper)
 |[]=>[]
 |(j,m,o)::r=>bif nb j i then r else(j,m,o)::kf i r
def Lt:Op->Bool
 | .move _=>true
 | .assign _=>true
 | .pick _ _ _=>true
 | .load _ _=>true
 | .binOp _ _ _ _ _=>true
 | .unOp _ _ _=>true
 | .convert _ _ _=>true
 | .fieldAddr _ _ _=>true
 | .field _ _ _=>true
 | .indexAddr _ _ _=>true
 | .index _ _ _=>true
 | .build _ _=>true
 | .extract _ _=>true
 | .slice _ _ _ _ _=>true
 | .nilCheck _=>true
 | .makeFunc _ _ _=>true
 | .call { callee:=.builtin .len,.. }=>true
 | .call { callee:=.builtin .max,.. }=>true
 | .call { callee:=.builtin .min,.. }=>true
 |_=>false
def KP:List Edge->Bool
 |[]=>false
 |e::l=>match e.ground with
  | .phase=>true
  |_=>KP l
def Ls(o:Oper):Bool:=match o.dst with
 |some d=>fP d G.xz
 |none=>false
def ve(o:Oper):Bool:=match KP o.after.toList with
 |true=>false
 |false=>bif Ls G o then false else(Lt o.op&&gA (G.eB,G.live) o.op)
def Br{G:eE}{o:Oper}(h:ve G o=true):Lt o.op=true/\gA (G.eB,G.live) o.op=true:=by
 unfold ve at h;split at h
 ·cases h
 ·cases c:Ls G o with
  |true=>rw[c]at h;cases h
  |false=>rw[c]at h;simpa using h
def Lu{G:eE}{o:Oper}(h:ve G o=true):Lt o.op=true:=(Br h).1
def qd(L:Nat):List (Nat×Nat×Oper)->Option (Nat×Oper)
 |[]=>none
 |(i,m,o)::r=>bif ve G o&&Am m L then some (i,o)else qd L r
def lJ:List Ob->List Ob
 |[]=>[]
 | .map _ _ _::l=>.dead::lJ l
 | .iter _ _::l=>.dead::lJ l
 | .diter _ _ _::l=>.dead::lJ l
 | .loop _ _ _ _ _ _::l=>.dead::lJ l
 |o::l=>o::lJ l
def BJ:List Ob->List Ob
 |[]=>[]
 |_::l=>.dead::BJ l
def Ds(o:List Ob):List Ob:=match G.KQ with
 |true=>BJ o
 |false=>lJ o
def lI(o:Op):Bool:=match G.KQ with
 |true=>true
 |false=>gA (G.eB,G.live) o
def OH(f:Nat->Oper->Prop):List (Nat×Oper)->Prop
 |[]=>True
 |[x]=>f x.1 x.2
 |x::l=>f x.1 x.2/\OH f l
def rV(all:List Oper):Nat->List (Nat×Nat×Oper)->Nat->St->(St->Prop)->Prop
 |0,rest,L,st,Q=>match jY L rest with|[]=>Q st|_=>False
 |n+1,rest,L,st,Q=>match qd G L rest with
  |some (i,o)=>guarded G all o st (λst K=>eU A G.tt o.op o.type st.s (Ds G st.o) λv=>K v st) λc=>rV all n (kf i rest) (nq L (fV 1 i)) c Q
  |none=>match jY L rest with
   |[]=>Q st
   |r::e=>OH (λi o=>guarded G all o st (λst K=>uv A G C o st K) λc=>rV all n (kf i rest) (nq L (fV 1 i)) c Q) (r::e)
def Ak(all:List Oper):List Nat->St->(St->Prop)->Prop
 |[],st,Q=>Q st
 |i::p,st,Q=>match xc all i with
  |none=>False
  |some o=>(match ve G o with|true=>(guarded G all o st (λst K=>eU A G.tt o.op o.type st.s (Ds G st.o) λv=>K v st) λc=>Ak all p c Q)|false=>(guarded G all o st (λst K=>uv A G C o st K) λc=>Ak all p c Q))
def AZ:Nat->List (Nat×Nat×Oper)->Nat->List Nat->Bool
 |0,rest,L,p=>match jY L rest,p with
  |[],[]=>true
  |_,_=>false
 |n+1,rest,L,p=>match qd G L rest with
  |some (i,_)=>(match p with
   |j::p'=>nb i j&&AZ n (kf i rest) (nq L (fV 1 i)) p'
   |[]=>false)
  |none=>match jY L rest,p with
   |[],[]=>true
   |[(i,o)],j::p'=>nb i j&&(bif ve G o then false else true)&&AZ n (kf i rest) (nq L (fV 1 i)) p'
   |_,_=>false
def Pf:List (Nat×List Nat)->Nat->Option (List Nat)
 |[],_=>none
 |(k,p)::r,i=>bif nb k i then some p else Pf r i
def K6(i:Nat)(o:Oper):Bool:=sT (λe=>oI e&&nb e.on i) o.after.toList
def Lr:Op->Bool
 | .select _ _=>true
 | .defer _=>true
 |_=>false
def behind(i:Nat):Nat->List Nat->List Oper->List Nat
 |_,acc,[]=>acc
 |k,acc,o::l=>behind i (k+1) (bif sT (λe=>oI e&&(bif nb e.on i then true else fP e.on acc)) o.after.toList then k::acc else acc) l
def uI(c:Array Oper)(i:Nat)(oi:Oper)(Z:List Nat):Nat->List Oper->Bool
 |_,[]=>true
 |j,oj::l=>(bif nb i j then(match oi.dst with|some d=>bif fP d (oi.looksAt c)then false else true|none=>true)else
  bif fP j Z then true else bif K6 j oi then true else Oper.apart c oi oj&&lI G oj.op)&&uI c i oi Z (j+1) l
def tN(c:Array Oper)(all:List Oper):Nat->List Oper->Bool
 |_,[]=>true
 |i,o::l=>(bif Lr o.op then false else bif ve G o then uI G c i o (behind i 0 [] all) 0 all else true)&&tN c all (i+1) l
def mV(s:dS)(all:List Oper):List Oper->List Nat
 |[]=>[]
 |o::l=>match o.op with
  | .slice _ (.tmp t) _ _ _=>iR (y8 s t all) (mV s all l)
  |_=>mV s all l
 where y8 (s:dS) (t:Nat):List Oper->List Nat
 |[]=>[]
 |o::l=>match o.dst,o.op with
  |some d,.move (.tmp u)=>bif nb d t then(match look s u with| .row _ r=>[r]|_=>[])else y8 s t l
  |_,_=>y8 s t l
def Nv(c:Operand)(b:Bool)(st:St):St:=match c with
 | .tmp t=>⟨(t,.bl b)::st.s,st.o⟩
 |_=>st
def NB(id:Nat)(c:Array Oper)(d:Bool)(st:St)(Q:St->Prop):Prop:=match d with
 |false=>FU A G C c.toList c.toList st Q
 |true=>match Pf G.gK id with
  |none=>((False->False)->tN G c c.toList 0 c.toList=true)/\rV A G C c.toList (cv c.toList) (od 0 c.toList) 0 ⟨st.s,gB (mV st.s c.toList c.toList) 0 st.o⟩ Q
  |some p=>((False->False)->(tN G c c.toList 0 c.toList&&AZ G (cv c.toList) (od 0 c.toList) 0 p)=true)/\Ak A G C c.toList p ⟨st.s,gB (mV st.s c.toList c.toList) 0 st.o⟩ Q
def wa(h:Code->St->(Ex->St->Prop)->Prop):Code->St->(Ex->St->Prop)->Prop
 | .skip,st,Q=>Q .normal st
 | .region id ops d,st,Q=>(match fP id G.qk with
  |true=>h (.region id ops d) st Q
  |false=>NB A G C id ops d st (Q .normal))
 | .seq x y,st,Q=>wa h x st λe f=>match e with| .normal=>wa h y f Q| .exit i=>Q (.exit i) f| .ret=>Q .ret f
 | .cond c x y,st,Q=>match ev st.s c with
  | .bl true=>wa h x st Q
  | .bl false=>wa h y st Q
  | .bool t=>(t=true->wa h x (Nv c true st) Q)/\(t=false->wa h y (Nv c false st) Q)
  |_=>False
 | .block id c,st,Q=>wa h c st λe f=>match e with| .exit j=>(match nb j id with|true=>Q .normal f|false=>Q (.exit j) f)| .normal=>Q .normal f| .ret=>Q .ret f
 | .exit id,st,Q=>Q (.exit id) st
 | .ret,st,Q=>Q .ret st
 | .loop c,st,Q=>h (.loop c) st Q
 | .rangeFunc g ps c1 c2,st,Q=>h (.rangeFunc g ps c1 c2) st Q
 |_,_,_=>False
def pj:Nat->List PV->dS
 |_,[]=>[]
 |i,p::ps=>(i,p)::pj (i+1) ps
def yr(st:St):List ResultVar->Option (List PV)
 |[]=>some []
 | .tmp t::r=>match yr st r with|some l=>some (wk 8 (norm (look st.s t))::l)|none=>none
 | .cell t ty::r=>match look st.s t,G.tt ty,yr st r with
  | .box b off,some ti,some l=>(match eT st.o b with
   | .box cs=>bif nE (off+cv ti.cd) (cv cs)then some (wk 8 (fg ti (qV (cv ti.cd) (xm off cs)))::l)else none
   |_=>none)
  |_,_,_=>none
def A2(st:St)(l:List ResultVar):Option PV:=match yr G st l with
 |some [v]=>some v
 |some vs=>some (.tup vs)
 |none=>none
def NA(n0:Nat)(rs:List ResultVar)(st:St)(K:PV->List Ob->Prop):Prop:=match A2 G st rs with
 |some v=>K (om st.o 8 v) (Pd n0 (gB (ids st.o 8 v) 0 st.o))
 |none=>False
 where Pd:Nat->List Ob->List Ob
 |0,_=>[]|_,[]=>[]|n+1,x::xs=>x::Pd n xs
def wZ(n0:Nat)(st:St):Nat->List PV->Option (List PV×List Nat)
 |_,[]=>some ([],[])
 |k,p::l=>match p with
  | .row e r=>(match eT st.o r with
   | .row f _ true=>bif nb e f&&nE n0 r then(match wZ n0 st (k+1) l with|some (ps,c)=>some (.row e k::ps,r::c)|none=>none)else none
   |_=>none)
  | .mp r=>(match eT st.o r with
   | .map _ _ _=>bif nE n0 r then(match wZ n0 st (k+1) l with|some (ps,c)=>some (.mp k::ps,r::c)|none=>none)else none
   |_=>none)
  |p=>bif eH (ids st.o 8 p)then(match wZ n0 st k l with|some (ps,c)=>some (om st.o 8 p::ps,c)|none=>none)else none
def partsOf:PV->List PV×Bool
 | .tup cs=>(cs,true)
 |p=>([p],false)
def Hn(b:Bool)(ps:List PV):PV:=bif b then .tup ps else match ps with|[p]=>p|_=>.undef
def Co(n0:Nat)(c:List ResultVar)(st:St)(K:PV->List Ob->Prop):Prop:=match A2 G st c with
 |some v=>(match wZ n0 st 0 (partsOf v).1 with
  |some (ps,c)=>bif lg c then K (Hn (partsOf v).2 ps) (c9 (eT st.o) c)else False
  |none=>False)
 |none=>False
def xB(n0:Nat)(c:List ResultVar)(st:St)(K:PV->List Ob->Prop):Prop:=match A2 G st c with
 |some v=>Co G n0 c (sinks (K0 v) st) K
 |none=>False
def zA{L:Nat}:∀{r:List (Nat×Nat×Oper)}{i:Nat}{o:Oper},qd G L r=some (i,o)->ve G o=true/\∃m,(i,m,o)∈r
 |[],i,o,h=>by simp[qd]at h
 |(k,m,x)::r,i,o,h=>by
  simp only[qd]at h;cases hf:(ve G x&&Am m L)with
  |true=>rw[hf]at h;simp at h;obtain⟨rfl,rfl⟩:=h;simp only[bI]at hf;exact⟨hf.1,m,by simp⟩
  |false=>rw[hf]at h;obtain⟨h1,m',h2⟩:=zA h;exact⟨h1,m',by simp[h2]⟩
def tF{L:Nat}:∀{r:List (Nat×Nat×Oper)}{i:Nat}{o:Oper},(i,o)∈jY L r->∃m,(i,m,o)∈r
 |[],i,o,h=>by simp[jY]at h
 |(k,m,x)::r,i,o,h=>by
  simp only[jY]at h;cases hf:Am m L with
  |true=>
   rw[hf]at h;simp only[cond_true,bP,ey]at h;rcases h with⟨rfl,rfl⟩|h
   ·exact⟨m,yS⟩
   ·obtain⟨m',h⟩:=tF h;exact⟨m',by simp[h]⟩
  |false=>rw[hf]at h;obtain⟨m',h⟩:=tF (yU h);exact⟨m',by simp[h]⟩
def BF{i:Nat}:∀{r:List (Nat×Nat×Oper)}{x:Nat×Nat×Oper},x∈kf i r->x∈r
 |[],x,h=>by simp[kf]at h
 |(k,m,y)::r,x,h=>by
  simp only[kf]at h;cases hb:nb k i with
  |true=>rw[hb]at h;simp at h;simp[h]
  |false=>
   rw[hb]at h;simp only[cond_false,bP]at h;rcases h with rfl|h
   ·simp
   ·simp[BF h]
def CB{all:List Oper}{Q:St->Prop}:∀(n:Nat)(rest:List (Nat×Nat×Oper))(L:Nat)(p:List Nat)(st:St),(∀i m o,(i,m,o)∈rest->xc all i=some o)->AZ G n rest L p=true->Ak A G C all p st Q=rV A G C all n rest L st Q
 |0,rest,L,p,st,hr,h=>by
  simp only[AZ]at h;split at h
  ·rename_i h1;simp only[rV,h1,Ak]
  ·simp at h
 |n+1,rest,L,p,st,hr,h=>by
  simp only[AZ]at h;have g:∀k i m o,(i,m,o)∈kf k rest->xc all i=some o:=λk i m o f=>hr i m o (BF f);split at h
  ·rename_i i o hf;split at h
   ·rename_i j p';simp only[bI]at h;have:=dH h.1;subst this;obtain⟨e,m,f⟩:=zA G hf;have l:(λc=>Ak A G C all p' c Q)=λc=>rV A G C all n (kf i rest) (nq L (fV 1 i)) c Q:=funext λc=>CB n _ _ p' c (g i) h.2;simp only[Ak,hr i m o f,e,cond_true,rV,hf];rw[l]
   ·simp at h
  ·rename_i hf;split at h
   ·rename_i h1;simp only[rV,hf,h1,Ak]
   ·rename_i i o j p' h1;simp only[bI]at h;have:=dH h.1.1;subst this;obtain⟨m,f⟩:=tF (L:=L) (r:=rest) (i:=i) (o:=o) (by rw[h1];simp)
    have e:ve G o=false:=by
     cases s:ve G o with
     |false=>rfl
     |true=>rw[s]at h;simp at h
    have l:(λc=>Ak A G C all p' c Q)=λc=>rV A G C all n (kf i rest) (nq L (fV 1 i)) c Q:=funext λc=>CB n _ _ p' c (g i) h.2;simp only[Ak,hr i m o f,e,cond_false,rV,hf,h1,OH];rw[l]
   ·simp at h
end
section
variable {P:Program}{G:eE}{B:kk}{E:List RI}{Pp:ga}{w:World}{st:St}{a:Act}
variable {b z:Bool}{all:Array Oper}{o oj:Oper}{j q:Nat}
def Mp{a:Bool}:M6 a b=true↔a=b:=by cases a<;>cases b<;>simp[M6]
def Ig(b:Bool):dq b= !b:=by cases b<;>rfl
def ND(a:Act)(d:Nat)(v:Value)(t:Nat)(hd:d<a.tmps.size):(a.put (some d) v).tmps.getD t undef=if d=t then v else a.tmps.getD t undef:=by
 simp only[Act.put,cS,AI];split
 ·simp[hd]
 ·rfl
def uF{v:Value}{pv:PV}{E':List RI}{Pp':ga}{w':World}{s':dS}{o':List Ob}{d:Option Nat}{K:St->Prop}(g:a.tmps.size=G.n)(hd:a.defers=B.d0)(h:VR G.tt E' Pp' v pv)
 (hs:∀t,VR G.tt E' Pp' (a.tmps.getD t undef) (look s' t)) (f:cY G.tt B E' Pp' o' w') (e:xw G d pv ⟨s',o'⟩ K):
 ∃c,jl G.tt G.n B E' Pp' c (a.put d v) w'/\K c/\c.o=o':=by
 cases d with
 |none=>exact⟨⟨s',o'⟩,cY.Qg (st:=⟨s',o'⟩) f hs g hd,e,rfl⟩
 |some d=>
  simp only[xw]at e;cases hb:jv d G.n with
  |false=>rw[hb]at e;exact e.elim
  |true=>
   rw[hb]at e;have da:d+1<=G.n:=eO hb;refine⟨⟨(d,pv)::s',o'⟩,cY.Qg (st:=⟨(d,pv)::s',o'⟩) f ?_ (by simp[Act.put,g]) hd,e,rfl⟩;intro t;rw[ND a d v t (by omega),kO];split
   ·exact h
   ·exact hs t
def q9{d:Nat}{c:Bool}(h:jl G.tt G.n B E Pp st a w)(hl:look st.s d= .bool b)(hb:b=c):jl G.tt G.n B E Pp ⟨(d,.bl c)::st.s,st.o⟩ a w:=by
 refine cY.Qg (st:=⟨(d,.bl c)::st.s,st.o⟩) h.Ke ?_ h.size h.defers;intro t;rw[kO];split
 ·rename_i e;subst e;have:=h.gJ d;rw[hl]at this;generalize a.tmps.getD d undef=v at*;cases this;subst hb;exact .bl _
 ·exact h.gJ t
def r9{p:PV}(l:o.guard=some (j,z))(k:all[j]? =some oj)(e:oj.dst=some q)(h:jl G.tt G.n B E Pp st a w)
 (hl:look st.s q=p) (i:p= .bl b\/p= .bool b):Region.wanted o (yielded all a.tmps)=M6 b z:=by
 have f:=h.gJ q;rw[hl]at f
 have c:a.tmps[q]? =some (.bool b):=by
  have:a.tmps.getD q undef= .bool b:=by generalize a.tmps.getD q undef=v at*;rcases i with rfl|rfl<;>cases f<;>rfl
  rw[cS]at this;cases g:a.tmps[q]? with
  |none=>rw[g]at this;simp[undef]at this
  |some v=>rw[g]at this;simp at this;rw[this]
 simp only[Region.wanted,l,yielded,k,iY,e,c];cases b<;>cases z<;>rfl
def B7(i:o.guard=some (j,z))(g:all[j]? =some oj)(e:oj.dst=some q)(h:jl G.tt G.n B E Pp st a w)
 (hl:look st.s q= .tup []):Region.wanted o (yielded all a.tmps)=false:=by
 have f:=h.gJ q;rw[hl]at f
 have c:a.tmps.getD q undef= .tuple ⟨[]⟩:=by
  generalize a.tmps.getD q undef=v at*;cases f with
  |tup vs _ hl=>cases hl;rfl
 rw[cS]at c;simp only[Region.wanted,i,yielded,g,iY,e];cases k:a.tmps[q]? with
 |none=>rfl
 |some v=>rw[k]at c;simp at c;rw[c];cases z<;>rfl
def zt{r:Option Nat}(M:B.E0.length=G.n0){all:Array Oper}{o:Oper}{K:St->Prop}{run:St->(PV->St->Prop)->Prop}{next:Act->World->Prop}{Q:Exit->Act->World->Prop}{k:Nat}(hk:all[k]? =some o)
 (m:∀s,jl G.tt G.n B E Pp s a w->s.o=st.o->run s (λv i=>xw G o.dst v i K)->Region.wanted o (yielded all a.tmps)=true->o.wpIn (sB r) 0 P a w next Q)
 (p:∀e,jl G.tt G.n B E Pp e (a.put o.dst undef) w->K e->Region.wanted o (yielded all a.tmps)=false->e.o=st.o->next (a.put o.dst undef) w)
 (h:jl G.tt G.n B E Pp st a w) (f:guarded G all.toList o st run K):wpOpIn (sB r) 0 P all Q k next a w:=by
 unfold wpOpIn;simp only[hk];have skip:∀(i:St),jl G.tt G.n B E Pp i a w->i.o=st.o->xw G o.dst (.tup []) i K->Region.wanted o (yielded all a.tmps)=false->next (a.put o.dst undef) w:=by intro i x J hc I;obtain⟨e,h1,h2,h3⟩:=uF (v:=undef) x.size x.defers (.tup [] [] .nil) x.gJ x.Ke hc;exact p e h1 h2 I (h3.trans J)
 unfold guarded at f;split at f
 ·rename_i l;have c:Region.wanted o (yielded all a.tmps)=true:=by simp[Region.wanted,l]
  rw[if_pos c];exact m st h rfl f c
 ·rename_i j z l;split at f
  ·exact f.elim
  rename_i oj y;rw[y7]at y;have t:all[j]? =some oj:=by simpa using y
  split at f
  ·exact f.elim
  rename_i q u;split at f
  ·rename_i b hl;have c:=r9 l t u h hl (.inl rfl);cases hb:M6 b z with
   |true=>rw[hb]at f c;rw[if_pos c];exact m st h rfl f c
   |false=>rw[hb]at f c;rw[if_neg (by rw[c];simp)];exact⟨λ_ _=>trivial,skip st h rfl f c⟩
  ·rename_i b hl;have c:=r9 l t u h hl (.inr rfl);cases hb:M6 b z with
   |true=>have n:=Mp.1 hb;rw[hb]at c;rw[if_pos c];exact m _ (q9 h hl n) rfl (f.1 n) c
   |false=>
    have n:b=dq z:=by rw[Ig];cases b<;>cases z<;>simp_all[M6]
    rw[hb]at c;rw[if_neg (by rw[c];simp)];exact⟨λ_ _=>trivial,skip _ (q9 h hl n) rfl (f.2 n) c⟩
  ·rename_i hl;have H:=h.gJ q;rw[hl]at H
   have g:a.tmps.getD q undef= .tuple ⟨[]⟩:=by
    generalize a.tmps.getD q undef=v at*;cases H with
    |tup vs _ hl=>cases hl;rfl
   have c:Region.wanted o (yielded all a.tmps)=false:=by
    rw[cS]at g;simp only[Region.wanted,l,yielded,t,iY,u];cases L:a.tmps[q]? with
    |none=>rfl
    |some v=>rw[L]at g;simp at g;rw[g];cases z<;>rfl
   rw[if_neg (by rw[c];simp)];exact⟨λ_ _=>trivial,skip st h rfl f c⟩
  ·exact f.elim
def IM{r:Option Nat}(i:fp P G.tt)(n:B.E0.length=G.n0){all:Array Oper}{Q:St->Prop}{Q':Exit->Act->World->Prop}(x:∀E Pp st a w,jl G.tt G.n B E Pp st a w->Q st->Q' .normal a w):
 ∀(l:List Oper)(k:Nat),all.toList.drop k=l->∀(st:St)(E:List RI)(Pp:ga)(a:Act)(w:World),jl G.tt G.n B E Pp st a w->FU ec G (xP P G.tt) all.toList l st Q->
  wpOpsIn (sB r) 0 P all Q' (List.range' k l.length) a w:=by
 intro l;induction l with
 |nil=>intro k _ st E Pp a w h hr;exact x _ _ _ _ _ h hr
 |cons o os m=>
  intro k hk st E Pp a w h hr
  have da:k<all.toList.length:=by
   rcases cb k all.toList.length with g|g
   ·exact g
   ·rw[fD g]at hk;simp at hk
  have f:all[k]? =some o:=by rw[bM da]at hk;simp only[kr]at hk;rw[<- hk.1];simp
  have e:all.toList.drop (k+1)=os:=by rw[bM da]at hk;simp only[kr]at hk;exact hk.2
  simp only[bS,List.range'_succ,wpOpsIn_cons];refine zt n f ?_ ?_ h hr
  ·intro st h _ hc _;refine Oper.wpIn_mono ?_ (DK i n h.Ke h.gJ hc);rintro y w' ⟨t,E',Pp',v,pv,rfl,s,hs,p,u,_,_⟩;obtain⟨c,h1,h2,_⟩:=uF h.size h.defers s hs p u;exact m (k+1) e c E' Pp' _ w' h1 h2
  ·intro c h1 h2 _ _;exact m (k+1) e c E Pp _ w h1 h2
end
end
section
section
variable {P:Program}{tt:TypeId->Option TI}{G:eE}{B:kk}{E:List RI}{Pp:ga}{objs:List Ob}{w:World}{st:St}{a:Act}
variable {p:Array Oper}{d:D}
def nH(L:Nat):∀(r:List (Nat×Nat×Oper))(j:Nat)(o:Oper),(j,o)∈jY L r↔∃m,(j,m,o)∈r/\Am m L=true
 |[],j,o=>by simp[jY]
 |(i,m,x)::r,j,o=>by
  have c:=nH L r j o;simp only[jY];cases hm:Am m L with
  |true=>
   simp only[cond_true,bP,ey,c];constructor
   ·rintro(⟨rfl,rfl⟩|⟨m',h,b⟩)
    ·exact⟨m,.inl ⟨rfl,rfl,rfl⟩,hm⟩
    ·exact⟨m',.inr h,b⟩
   ·rintro⟨m',⟨rfl,rfl,rfl⟩|h,b⟩
    ·exact .inl ⟨rfl,rfl⟩
    ·exact .inr ⟨m',h,b⟩
  |false=>
   simp only[cond_false,bP,ey,c];constructor
   ·rintro⟨m',h,b⟩;exact⟨m',.inr h,b⟩
   ·rintro⟨m',⟨rfl,rfl,rfl⟩|h,b⟩
    ·rw[hm]at b;cases b
    ·exact⟨m',h,b⟩
def CY(L i j:Nat):(nq L (fV 1 i)).testBit j=(L.testBit j||decide (i=j)):=by show (L ||| (1 <<< i)).testBit j=_;rw[Nat.testBit_or,Nat.shiftLeft_eq,qE,M7]
def Bn(l:List Edge)(k:Nat):(uV l).testBit k=l.any (λe=>oI e&&decide (e.on=k)):=by
 induction l with
 |nil=>simp[uV]
 |cons e l b=>
  simp only[uV,kW];cases hb:oI e with
  |true=>simp only[cond_true,fB];show ((1 <<< e.on) ||| uV l).testBit k=_;rw[Nat.testBit_or,Nat.shiftLeft_eq,qE,M7,b]
  |false=>simpa using b
def EH(m L:Nat):Am m L=true↔∀k,m.testBit k=true->L.testBit k=true:=by
 unfold Am;constructor
 ·intro h k hk;have h:=dH h;have h2:(m &&& L).testBit k=true:=by show (Nat.land m L).testBit k=true;rw[h];exact hk
  rw[Nat.testBit_and]at h2;simp only[bI]at h2;exact h2.2
 ·intro h
  have:Nat.land m L=m:=by
   apply Nat.eq_of_testBit_eq;intro k;show (m &&& L).testBit k=_;rw[Nat.testBit_and];cases hm:m.testBit k with
   |false=>rfl
   |true=>rw[h k hm];rfl
  rw[this];exact lW m
def ni(e:Edge):Region.binds .any e=oI e:=by unfold Region.binds oI;cases e.ground<;>rfl
structure nO (all:Array Oper) (rest:List (Nat×Nat×Oper)) (L:Nat) (listed:Array Bool):Prop where
 size:listed.size=all.size
 bit:∀i,i<all.size->listed.getD i true=L.testBit i
 low:∀i,L.testBit i=true->i<all.size
 mem:∀i m o,(i,m,o)∈rest↔all[i]? =some o/\L.testBit i=false/\m=uV o.after.toList
 nodup:(rest.map (·.1)).Nodup
 cl:∀j o,all[j]? =some o->L.testBit j=true->∀e∈o.after,Region.binds .any e=true->L.testBit e.on=true
def nO.get{all:Array Oper}{rest:List (Nat×Nat×Oper)}{L:Nat}{listed:Array Bool}(h:nO all rest L listed)(i:Nat):listed.getD i false=L.testBit i:=by
 by_cases b:i<all.size
 ·have:=h.bit i b;rw[cS]at this ⊢;have hs:i<listed.size:=by rw[h.size];exact b
  simp[hs]at this ⊢;exact this
 ·have:L.testBit i=false:=by
   cases hm:L.testBit i with
   |false=>rfl
   |true=>exact absurd (h.low i hm) b
  rw[this,cS,dJ (by rw[h.size];omega)];rfl
def o7{all:Array Oper}{rest:List (Nat×Nat×Oper)}{L:Nat}{listed:Array Bool}(h:nO all rest L listed)(j:Nat):j∈Region.ready .any all listed↔∃o,(j,o)∈jY L rest:=by
 rw[mem_ready];constructor
 ·rintro⟨h1,o,b,h2⟩;have c:j<all.size:=(il.1 b).1;refine⟨o,(nH L rest j o).2 ⟨_,(h.mem j _ o).2 ⟨b,by rw[<- h.bit j c];exact h1,rfl⟩,?_⟩⟩;rw[EH];intro k hk;rw[Bn,dZ]at hk;obtain⟨e,f,hb⟩:=hk;simp only[bI,decide_eq_true_eq]at hb;have:=h2 e (yU f) (by rw[ni];exact hb.1);rw[h.get,hb.2]at this;exact this
 ·rintro⟨o,b⟩;obtain⟨m,h1,h2⟩:=(nH L rest j o).1 b;obtain⟨h3,h4,rfl⟩:=(h.mem j m o).1 h1;have c:j<all.size:=(il.1 h3).1;refine⟨by rw[h.bit j c];exact h4,o,h3,?_⟩;intro e f hb;rw[h.get];rw[EH]at h2;refine h2 e.on ?_;rw[Bn,dZ];rw[ni]at hb;exact⟨e,yU f,by simp[hb]⟩
def Bm(i:Nat):∀(r:List (Nat×Nat×Oper)),(r.map (·.1)).Nodup->∀j m o,((j,m,o)∈kf i r↔(j,m,o)∈r/\j≠i)
 |[],_,j,m,o=>by simp[kf]
 |(k,m',x)::r,e,j,m,o=>by
  simp only[bO,cn]at e;have f:=Bm i r e.2 j m o;simp only[kf];cases hb:nb k i with
  |true=>
   have:=dH hb;subst this;simp only[cond_true,bP,ey];constructor
   ·intro h;refine⟨.inr h,?_⟩;rintro rfl;exact e.1 (bT.2 ⟨_,h,rfl⟩)
   ·rintro⟨⟨rfl,_⟩|h,b⟩
    ·exact absurd rfl b
    ·exact h
  |false=>
   have c:k≠i:=by rintro rfl;rw[lW]at hb;cases hb
   simp only[cond_false,bP,ey,f];constructor
   ·rintro(⟨rfl,rfl,rfl⟩|⟨h,b⟩)
    ·exact⟨.inl ⟨rfl,rfl,rfl⟩,c⟩
    ·exact⟨.inr h,b⟩
   ·rintro⟨⟨rfl,rfl,rfl⟩|h,b⟩
    ·exact .inl ⟨rfl,rfl,rfl⟩
    ·exact .inr ⟨h,b⟩
def BE(i:Nat):∀(r:List (Nat×Nat×Oper)),List.Sublist ((kf i r).map (·.1)) (r.map (·.1))
 |[]=>by simp[kf]
 |(k,m',x)::r=>by
  simp only[kf];cases nb k i with
  |true=>simp
  |false=>simpa using BE i r
def nO.push{all:Array Oper}{rest:List (Nat×Nat×Oper)}{L:Nat}{listed:Array Bool}(h:nO all rest L listed){i:Nat}(n:i<all.size)(iF:i∈Region.ready .any all listed):nO all (kf i rest) (nq L (fV 1 i)) (listed.setIfInBounds i true):=by
 refine⟨by simp[h.size],?_,?_,?_,(BE i rest).nodup h.nodup,?_⟩
 ·intro j b;rw[CY];by_cases c:i=j
  ·subst c;have:i<listed.size:=by rw[h.size];exact n
   simp[this]
  ·rw[getD_set_ne true c,h.bit j b];simp[c]
 ·intro j b;rw[CY]at b;simp only[gh,decide_eq_true_eq]at b;rcases b with b|rfl
  ·exact h.low j b
  ·exact n
 ·intro j m o;rw[Bm i rest h.nodup,h.mem,CY];constructor
  ·rintro⟨⟨h1,h2,h3⟩,q⟩;exact⟨h1,by simp[h2];omega,h3⟩
  ·rintro⟨h1,h2,h3⟩;simp only[J0,decide_eq_false_iff_not]at h2;exact⟨⟨h1,h2.1,h3⟩,yO⟩
 ·intro j o k b e l hb;rw[CY]at b ⊢;simp only[gh,decide_eq_true_eq]at b ⊢;left;rcases b with b|rfl
  ·exact h.cl j o k b e l hb
  ·obtain⟨_,r,g,f⟩:=mem_ready.1 iF;rw[k]at g;cases g;rw[<- h.get];exact f e l hb
def wc:∀(l:List Oper)(k:Nat)(i m:Nat)(o:Oper),(i,m,o)∈od k l↔∃j,l[j]? =some o/\i=k+j/\m=uV o.after.toList
 |[],k,i,m,o=>by simp[od]
 |x::l,k,i,m,o=>by
  simp only[od,bP,ey,wc l (k+1) i m o];constructor
  ·rintro(⟨rfl,rfl,rfl⟩|⟨j,h1,h2,h3⟩)
   ·exact⟨0,rfl,yO,rfl⟩
   ·exact⟨j+1,yU h1,yO,h3⟩
  ·rintro⟨j,h1,h2,h3⟩;cases j with
   |zero=>simp at h1;subst h1;exact .inl ⟨yO,h3,rfl⟩
   |succ j=>exact .inr ⟨j,yU h1,yO,h3⟩
def A7:∀(l:List Oper)(k:Nat) i,i∈(od k l).map (·.1)->k<=i
 |[],k,i,h=>by simp[od]at h
 |x::l,k,i,h=>by
  simp only[od,bO,bP]at h;rcases h with rfl|h
  ·exact ca _
  ·have:=A7 l (k+1) i h;omega
def wV:∀(l:List Oper)(k:Nat),((od k l).map (·.1)).Nodup
 |[],_=>by simp[od]
 |x::l,k=>by simp only[od,bO,cn];refine⟨λh=>?_,wV l (k+1)⟩;have:=A7 l (k+1) k h;omega
def nO.start(all:Array Oper):nO all (od 0 all.toList) 0 (kX all.size false):=by
 refine⟨yS,λi b=>by simp[b],λi b=>yE b,?_,wV _ _,λj o e c=>yE c⟩;intro i m o;rw[wc];constructor
 ·rintro⟨j,h1,h2,h3⟩;have:i=j:=yO;subst this;exact⟨yU h1,yS,h3⟩
 ·rintro⟨h1,_,h3⟩;exact⟨i,yU h1,yO,h3⟩
def xj{L:Nat}:∀{r:List (Nat×Nat×Oper)}{i:Nat}{o:Oper},qd G L r=some (i,o)->(i,o)∈jY L r/\ve G o=true
 |[],i,o,h=>by simp[qd]at h
 |(k,m,x)::r,i,o,h=>by
  simp only[qd]at h;simp only[jY];cases hf:(ve G x&&Am m L)with
  |true=>rw[hf]at h;simp at h;obtain⟨rfl,rfl⟩:=h;simp only[bI]at hf;rw[hf.2];exact⟨yS,hf.1⟩
  |false=>
   rw[hf]at h;obtain⟨h1,h2⟩:=xj h;refine⟨?_,h2⟩;cases Am m L with
   |true=>simp[h1]
   |false=>simpa using h1
def Fl{f:Nat->Oper->Prop}:∀{l:List (Nat×Oper)}{i:Nat}{o:Oper},OH f l->(i,o)∈l->f i o
 |[],_,_,_,h=>yE h
 |[x],i,o,h,hm=>by simp at hm;subst hm;exact h
 |x::y::l,i,o,h,hm=>by
  rcases bP.1 hm with rfl|hm
  ·exact h.1
  ·exact Fl h.2 hm
def wY{i:Nat}{oi:Oper}{Z:List Nat}:∀{l:List Oper}{k:Nat},uI G p i oi Z k l=true->∀(j:Nat) oj,l[j]? =some oj->
 (i=k+j->∀d,oi.dst=some d->d∉oi.looksAt p)/\(i≠k+j->fP (k+j) Z=true\/K6 (k+j) oi=true\/(Oper.apart p oi oj=true/\lI G oj.op=true))
 |[],_,_,j,oj,h=>yE h
 |x::l,k,h,j,oj,b=>by
  simp only[uI,bI]at h;obtain⟨h1,h2⟩:=h;cases j with
  |succ j=>
   have:=wY h2 j oj (yU b)
   rwa [show k+1+j=k+(j+1)by omega]at this
  |zero=>
   simp at b;subst b;refine⟨?_,?_⟩
   ·intro c d hd e;have:nb i k=true:=by rw[Pl];omega
    rw[this,hd]at h1;simp only[cond_true]at h1;rw[(lZ _ _).2 e]at h1;cases h1
   ·intro c
    have:nb i k=false:=by
     cases hb:nb i k with
     |false=>rfl
     |true=>exact absurd (dH hb) yO
    rw[this]at h1;simp only[cond_false]at h1;cases ha:fP k Z with
    |true=>exact .inl (yU ha)
    |false=>
     rw[ha]at h1;simp only[cond_false]at h1;cases hb:K6 k oi with
     |true=>exact .inr (.inl (yU hb))
     |false=>rw[hb]at h1;simp only[cond_false,bI]at h1;exact .inr (.inr h1)
def qi{all:List Oper}:∀{l:List Oper}{k:Nat},tN G p all k l=true->∀(j:Nat) oj,l[j]? =some oj->
 Lr oj.op=false/\(ve G oj=true->uI G p (k+j) oj (behind (k+j) 0 [] all) 0 all=true)
 |[],_,_,j,oj,h=>yE h
 |x::l,k,h,j,oj,b=>by
  simp only[tN,bI]at h;obtain⟨h1,h2⟩:=h;cases j with
  |succ j=>
   have:=qi h2 j oj (yU b)
   rwa [show k+1+j=k+(j+1)by omega]at this
  |zero=>
   simp at b;subst b;cases hs:Lr x.op with
   |true=>rw[hs]at h1;cases h1
   |false=>refine⟨rfl,λhf=>?_⟩;rw[hs,hf]at h1;exact h1
def K5{i:Nat}{o:Oper}:K6 i o=true↔∃e∈o.after,Region.binds .any e=true/\e.on=i:=by
 unfold K6;rw[CZ,dZ];constructor
 ·rintro⟨e,b,h⟩;simp only[bI]at h;exact⟨e,yU b,by rw[ni];exact h.1,dH h.2⟩
 ·rintro⟨e,b,h1,h2⟩;exact⟨e,yU b,by rw[ni]at h1;simp[h1,h2]⟩
def zV{i:Nat}:∀(l:List Oper)(k:Nat)(b:List Nat),∀z∈b,z∈behind i k b l
 |[],_,b,z,c=>c
 |o::l,k,b,z,c=>by
  simp only[behind];refine zV l (k+1) _ z ?_;cases sT (λe=>oI e&&(bif nb e.on i then true else fP e.on b)) o.after.toList with
  |true=>exact gG _ c
  |false=>exact c
def xp{i:Nat}{all:List Oper}:∀(l:List Oper)(k:Nat)(b:List Nat),(∀j,l[j]? =all[k+j]?)->
 (∀z∈b,∀c,all[z]? =some c->∃e∈c.after,Region.binds .any e=true/\(e.on=i\/e.on∈behind i k b l))->
 ∀z∈behind i k b l,∀c,all[z]? =some c->∃e∈c.after,Region.binds .any e=true/\(e.on=i\/e.on∈behind i k b l)
 |[],k,b,hl,ha,z,f,c,g=>ha z f c g
 |o::l,k,b,hl,ha,z,f,c,g=>by
  simp only[behind]at ha f ⊢;refine xp l (k+1) _ (λj=>by have:=hl (j+1);rw[show k+1+j=k+(j+1)by omega];simpa using this) ?_ z f c g;cases hb:sT (λe=>oI e&&(bif nb e.on i then true else fP e.on b)) o.after.toList with
  |false=>rw[hb]at ha;exact ha
  |true=>
   rw[hb]at ha;intro z f c g;rcases bP.1 f with rfl|f
   ·have h0:=hl 0;rw[iS,g]at h0;simp at h0;subst h0;rw[CZ,dZ]at hb;obtain⟨e,m,hb⟩:=hb;simp only[bI]at hb;refine⟨e,yU m,by rw[ni];exact hb.1,?_⟩;cases h:nb e.on i with
    |true=>exact .inl (dH h)
    |false=>rw[h]at hb;exact .inr (zV _ _ _ _ (gG _ ((lZ _ _).1 hb.2)))
   ·exact ha z f c g
def BM{i:Nat}{all:Array Oper}{rest:List (Nat×Nat×Oper)}{L:Nat}{listed:Array Bool}(h:nO all rest L listed)(f:L.testBit i=false):∀(l:List Oper)(k:Nat)(b:List Nat),(∀j,l[j]? =all[k+j]?)->(∀z∈b,L.testBit z=false)->∀z∈behind i k b l,L.testBit z=false
 |[],k,b,hl,ha,z,c=>ha z c
 |o::l,k,b,hl,ha,z,c=>by
  simp only[behind]at c;refine BM h f l (k+1) _ (λj=>by have:=hl (j+1);rw[show k+1+j=k+(j+1)by omega];simpa using this) ?_ z c;cases hb:sT (λe=>oI e&&(bif nb e.on i then true else fP e.on b)) o.after.toList with
  |false=>exact ha
  |true=>
   intro z c;rcases bP.1 c with rfl|c
   ·cases n:L.testBit z with
    |false=>rfl
    |true=>
     exfalso;rw[CZ,dZ]at hb;obtain⟨e,m,hb⟩:=hb;simp only[bI]at hb;have h0:all[z]? =some o:=by have:=hl 0;simpa using this.symm
     have h1:=h.cl z o h0 n e (yU m) (by rw[ni];exact hb.1);cases g:nb e.on i with
     |true=>rw[dH g,f]at h1;cases h1
     |false=>rw[g]at hb;rw[ha _ ((lZ _ _).1 hb.2)]at h1;cases h1
   ·exact ha z c
def Ag(tt:TypeId->Option TI)(E:List RI)(Pp:ga)(objs:List Ob)(w:World)(b:World):Prop:=∀ad v,oO tt E Pp objs w ad v->pc b ad=some v
def Ag.self(b:WR tt E Pp objs w):Ag tt E Pp objs w w:=λ_ _ h=>h.cell b
def pZ:∀(l:List Ob)(i:Nat),(lJ l)[i]? =(l[i]?).map λo=>match o with| .map _ _ _=>.dead| .iter _ _=>.dead| .diter _ _ _=>.dead| .loop _ _ _ _ _ _=>.dead|o=>o
 |[],i=>by simp[lJ]
 |o::l,i=>by cases o<;>cases i<;>simp[lJ,pZ l]
def Gk{i:Nat}{cs:List PV}(h:(lJ objs)[i]? =some (.box cs)):objs[i]? =some (.box cs):=by
 rw[pZ]at h;cases b:objs[i]? with
 |none=>rw[b]at h;simp at h
 |some o=>rw[b]at h;cases o<;>simp at h;rw[h]
def tH{i:Nat}{e:TypeId}{wr:Bool}(h:(lJ objs)[i]? =some (.row e d wr)):objs[i]? =some (.row e d wr):=by
 rw[pZ]at h;cases b:objs[i]? with
 |none=>rw[b]at h;simp at h
 |some o=>rw[b]at h;cases o<;>simp at h;obtain⟨rfl,rfl,rfl⟩:=h;rfl
def Gj{i:Nat}{k:CK}{e:TypeId}(h:(lJ objs)[i]? =some (.map k e d)):False:=by
 rw[pZ]at h;cases b:objs[i]? with
 |none=>rw[b]at h;simp at h
 |some o=>rw[b]at h;cases o<;>simp at h
def WR.UE(l:WR tt E Pp objs w):RW tt E Pp (lJ objs) (Ag tt E Pp objs w):=by
 refine⟨?_,?_,?_,?_,?_,?_⟩
 ·intro q h2 ad v s;exact h2 ad v (.inl s)
 ·intro i cs b f k;have f:=Gk f;obtain⟨ri,c,h⟩:=l.ob i _ f rfl;rw[k]at c;cases c;obtain⟨vs,T,hb,m,_⟩:=h;refine⟨vs,m,λq h2 j v n=>by rw[<- pY];exact h2 _ _ (.inr ⟨by rw[eN hb];exact n,i,.inl ⟨cs,f,k⟩⟩)⟩
 ·intro i e d wr f k;have f:=tH f;obtain⟨ri,c,h⟩:=l.ob i _ f rfl;rw[k]at c;cases c;exact h
 ·intro i e d wr g o len cap f k;have f:=tH f;obtain⟨ri,c,h⟩:=l.ob i _ f rfl;rw[k]at c;cases c;obtain⟨vs,T,rows,hb,hd,hl,r,fL,ef,_,_⟩:=h;exact⟨vs,rows,hd,hl,ef,λq h2 j v n _ da=>by rw[<- pY];exact h2 _ _ (.inr ⟨by rw[eN hb];exact n,i,.inr ⟨e,d,wr,o,len,cap,f,k,da⟩⟩)⟩
 ·intro i e d g o len cap f k;have f:=tH f;obtain⟨ri,c,h⟩:=l.ob i _ f rfl;rw[k]at c;cases c;exact OR.om h
 ·intro i kc e d b bs cl f;exact(Gj f).elim
def He(G:eE)(E:List RI)(Pp:ga)(objs:List Ob)(w:World)(b:World):Prop:=match G.KQ with
 |true=>∀ad v,Pp ad v->pc b ad=some v
 |false=>Ag G.tt E Pp objs w b
def He.self(b:WR G.tt E Pp objs w):He G E Pp objs w w:=by
 unfold He;split
 ·exactλad v h=>b.pi _ _ h
 ·exact Ag.self b
def nm:∀(l:List Ob)(i:Nat)(o:Ob),(BJ l)[i]? =some o->o= .dead
 |[],i,o,h=>by simp[BJ]at h
 |x::l,0,o,h=>by simp[BJ]at h;exact h.symm
 |x::l,i+1,o,h=>by simp[BJ]at h;exact nm l i o h
def WR.RZ(f:WR G.tt E Pp objs w):RW G.tt E Pp (Ds G objs) (He G E Pp objs w):=by
 unfold Ds He;cases G.KQ with
 |true=>
  refine⟨λh h2=>h2,?_,?_,?_,?_,?_⟩
  ·intro i cs b c;cases nm _ _ _ c
  ·intro i e d wr c;cases nm _ _ _ c
  ·intro i e d wr g o len cap c;cases nm _ _ _ c
  ·intro i e d g o len cap c;cases nm _ _ _ c
  ·intro i kc e d b bs cl c;cases nm _ _ _ c
 |false=>exact f.UE
def OG{r0:Option Nat}(ag:fp P G.tt)(hB:B.E0.length=G.n0){all:Array Oper}(X:tN G all all.toList 0 all.toList=true){Q:St->Prop}{Q':Exit->Act->World->Prop}(hQ:∀E Pp st a w,jl G.tt G.n B E Pp st a w->Q st->Q' .normal a w)(aA:∀c a w,¬Q' (.panic c) a w):
 ∀(n:Nat)(rest:List (Nat×Nat×Oper))(L:Nat)(listed:Array Bool)(st:St)(E:List RI)(Pp:ga)(a:Act)(w:World),nO all rest L listed->jl G.tt G.n B E Pp st a w->rV ec G (xP P G.tt) all.toList n rest L st Q->
  jq r0 P all (λi=>match all[i]? with|some o=> !lI G o.op|none=>false) Q' (He G E Pp st.o w) n listed a w:=by
 have ae:∀(j:Nat)(o:Oper) cs b,all[j]? =some o->o.op≠ .select cs b:=by intro j o cs b s he;have:=(qi X j o (yU s)).1;rw[he]at this;cases this
 have gV:∀(j:Nat)(o:Oper) c,all[j]? =some o->o.op≠ .defer c:=by intro j o c s he;have:=(qi X j o (yU s)).1;rw[he]at this;cases this
 intro n;induction n with
 |zero=>
  intro rest L listed st E Pp a w hl h hr;simp only[rV]at hr;split at hr
  ·rename_i iF;refine⟨He.self h.wr,?_,hQ _ _ _ _ _ h hr⟩;apply Ae.2;intro j I;obtain⟨o,s⟩:=(o7 hl j).1 I;rw[iF]at s;simp at s
  ·exact hr.elim
 |succ n ih=>
  intro rest L listed st E Pp a w hl h hr;simp only[rV]at hr;split at hr
  ·
    rename_i g o hf;obtain⟨R,y⟩:=xj hf;have m:=(o7 hl g).2 ⟨o,R⟩;obtain⟨mk,K,_⟩:=(nH L rest g o).1 R;have h1:all.toList[g]? =some o:=by simpa using((hl.mem g mk o).1 K).1
    have q:all[g]? =some o:=yU h1;have fL:g<all.size:=(il.1 q).1;have hp:=(qi X g o h1).2 y;rw[fk]at hp;have S:=wY hp;have W:gA (G.eB,G.live) o.op=true:=(Br y).2;have y:=Lu y
    have W:lI G o.op=true:=by
     unfold lI;split
     ·rfl
     ·exact W
    have hu:L.testBit g=false:=((hl.mem g mk o).1 K).2.1;have ay:∀z∈behind g 0 [] all.toList,listed.getD z false=false:=λz hz=>by rw[hl.get];exact BM hl hu all.toList 0 [] (λj=>yS) yS z hz
    have ar:∀z∈behind g 0 [] all.toList,∀oz,all[z]? =some oz->∃e∈oz.after,Region.binds .any e=true/\(e.on=g\/e.on∈behind g 0 [] all.toList):=λz hz oz s=>xp (all:=all.toList) all.toList 0 [] (λj=>yS) yS z hz oz (yU s)
    have C:∀j oj,all[j]? =some oj->j≠g->listed.getD j true=false->j∉behind g 0 [] all.toList->o.apart all oj=true/\(match all[j]? with|some o=> !lI G o.op|none=>false)=false:=by
     intro j oj I aF M ao;have O:=(S j oj (yU I)).2 yO;rw[fk]at O;rcases O with O|O|⟨av,aw⟩
     ·exact absurd ((lZ _ _).1 O) ao
     ·obtain⟨e,he,hb,ap⟩:=K5.1 O;obtain⟨_,o2,ak,ai⟩:=mem_ready.1 m;rw[q]at ak;cases ak;have:=ai e he hb;rw[ap]at this;exfalso;have aq:j<listed.size:=by rw[hl.size];exact(il.1 I).1
      rw[cS]at this M;simp[aq]at this M;rw[this]at M;cases M
     ·exact⟨av,by rw[I];simp[aw]⟩
    have H:=(S g o h1).1 yO;have hD:(match all[g]? with|some o=> !lI G o.op|none=>false)=false:=by rw[q];simp[W]
    have Y:=h.wr.RZ (G:=G)
    have go:∀v f,jl G.tt G.n B E Pp f (a.put o.dst v) w->f.o=st.o->rV ec G (xP P G.tt) all.toList n (kf g rest) (nq L (fV 1 g)) f Q->vC P all (He G E Pp st.o w) o v a->
     jq r0 P all (λi=>match all[i]? with|some o=> !lI G o.op|none=>false) Q' (He G E Pp st.o w) (n+1) listed a w:=by
     intro v f h5 h6 h7 h8;have N:=ih _ _ (listed.setIfInBounds g true) f E Pp _ w (hl.push fL m) h5 h7;rw[h6]at N;exact B2 q ae gV aA hD H (behind g 0 [] all.toList) ar n listed a w ay C m h8 (He.self h.wr) N
    have run:∀k,jl G.tt G.n B E Pp k a w->k.o=st.o->eU ec G.tt o.op o.type k.s (Ds G k.o) (λv=>xw G o.dst v k (λJ=>rV ec G (xP P G.tt) all.toList n (kf g rest) (nq L (fV 1 g)) J Q))->Region.wanted o (yielded all a.tmps)=true->
     jq r0 P all (λi=>match all[i]? with|some o=> !lI G o.op|none=>false) Q' (He G E Pp st.o w) (n+1) listed a w:=by
     intro k h5 h6 h7 h8;rw[h6]at h7;obtain⟨v,pv,af,hv,hK⟩:=A4 ag Y h5.gJ h7;obtain⟨f,T,q2,U⟩:=uF h5.size h5.defers hv h5.gJ h5.Ke hK;exact go v f T (U.trans h6) q2 (.inl ⟨h8,af⟩)
    have skip:∀k,jl G.tt G.n B E Pp k a w->k.o=st.o->xw G o.dst (.tup []) k (λJ=>rV ec G (xP P G.tt) all.toList n (kf g rest) (nq L (fV 1 g)) J Q)->Region.wanted o (yielded all a.tmps)=false->
     jq r0 P all (λi=>match all[i]? with|some o=> !lI G o.op|none=>false) Q' (He G E Pp st.o w) (n+1) listed a w:=by
     intro k h5 h6 h7 h8;obtain⟨f,T,q2,U⟩:=uF (v:=undef) h5.size h5.defers (.tup [] [] .nil) h5.gJ h5.Ke h7;exact go undef f T (U.trans h6) q2 (.inr ⟨h8,rfl⟩)
    unfold guarded at hr;split at hr
    ·rename_i A;exact run st h rfl hr (by unfold Region.wanted;rw[A])
    ·rename_i j x A;split at hr
     ·exact hr.elim
     rename_i oj I;rw[y7]at I;have V:all[j]? =some oj:=yU I;split at hr
     ·exact hr.elim
     rename_i dj Z;split at hr
     ·rename_i b t;have l:=r9 A V Z h t (.inl rfl);cases hb:M6 b x with
      |true=>rw[hb]at hr l;exact run st h rfl hr l
      |false=>rw[hb]at hr l;exact skip st h rfl hr l
     ·rename_i b t;have l:=r9 A V Z h t (.inr rfl);cases hb:M6 b x with
      |true=>have F:=Mp.1 hb;rw[hb]at l;exact run _ (q9 h t F) rfl (hr.1 F) l
      |false=>
       have F:b=dq x:=by clear hr C S H hD run skip go ih;rw[Ig];cases b<;>cases x<;>first|rfl|(simp[M6]at hb)
       rw[hb]at l;exact skip _ (q9 h t F) rfl (hr.2 F) l
     ·rename_i t;exact skip st h rfl hr (B7 A V Z h t)
     ·exact hr.elim
  ·split at hr
   ·rename_i iF;have ac:Region.ready .any all listed=[]:=by apply Ae.2;intro j I;obtain⟨o,s⟩:=(o7 hl j).1 I;rw[iF]at s;simp at s
    exact⟨He.self h.wr,λ_=>hQ _ _ _ _ _ h hr,λi hi=>by rw[ac]at hi;cases hi⟩
   ·
    rename_i r rs iF;refine⟨He.self h.wr,λh0=>?_,λg hi=>?_⟩
    ·exfalso;have:(r.1,r.2)∈jY L rest:=by rw[iF];simp
     have:=(o7 hl r.1).2 ⟨r.2,this⟩;rw[h0]at this;cases this
    ·obtain⟨o,s⟩:=(o7 hl g).1 hi;obtain⟨mk,K,_⟩:=(nH L rest g o).1 s;have q:all[g]? =some o:=((hl.mem g mk o).1 K).1;have fL:g<all.size:=(il.1 q).1;rw[iF]at s;have O:=Fl hr s;refine zt hB q ?_ ?_ h O
     ·intro k h5 h6 hc _;refine Oper.wpIn_mono ?_ (DK ag hB h5.Ke h5.gJ hc);rintro a' w' ⟨J,E',Pp',v,pv,rfl,hv,hs,hw,hK,hH,hM⟩;obtain⟨f,T,q2,U⟩:=uF h5.size h5.defers hv hs hw hK;have N:=ih _ _ (listed.setIfInBounds g true) f E' Pp' _ w' (hl.push fL hi) T q2;simp only[q];cases hq:lI G o.op with
      |false=>simp only[oR,if_true];exact N.any
      |true=>
       simp only[FE,cC,if_false];refine N.mono (λw2 h2=>?_);unfold He at h2 ⊢;unfold lI at hq;cases ah:G.KQ with
       |true=>rw[ah]at h2;exactλad u hu=>h2 ad u (hM ad u hu)
       |false=>rw[ah]at h2 hq;intro ad u hu;refine h2 ad u ?_;rw[U];rw[<- h6]at hu;exact hH hq ad u hu
     ·intro f T q2 _ U;have N:=ih _ _ (listed.setIfInBounds g true) f E Pp _ w (hl.push fL hi) T q2;rw[U]at N;simp only[q];cases hq:lI G o.op with
      |false=>simp only[oR,if_true];exact N.any
      |true=>simp only[FE,cC,if_false];exact N
end
end
section
section
variable {P:Program}{G:eE}{B:kk}{E:List RI}{Pp:ga}{w:World}{st:St}{a:Act}
variable {fn:Func}{c:Code}{args:List PV}{tt:TypeId->Option TI}{f:FuncId}{N n0:Nat}{r:Option Nat}{K:PV->List Ob->Prop}{vals:List Value}
def xt.xF{st:St}{Q:Ex->St->Prop}
 (h:∀B E Pp a w,B.E0.length=n0->jl tt N B E Pp st a w->c.wpIn (sB r) 0 P (λe i w'=>∃g b E' Pp',vq e g/\jl tt N B E' Pp' b i w'/\Q g b) a w):xt P tt N n0 r c st Q:=by
 intro B E Pp a w hb hs;refine wpIn_mono (h (B.here E Pp st.o a.defers w) E Pp a w hb hs.here) ?_;rintro e i w' ⟨g,b,E',Pp',k,d,j⟩;exact⟨g,b,E',Pp',k,hs.back (d2:=i.defers) d.at,Mk.none d.defers,d.fr.size,j⟩
def HG(n:fp P G.tt)(p:P.follows .mixedOrders=true)(id:Nat)(b:Array Oper)(g:Bool):∀(st:St)(Q:Ex->St->Prop),NB ec G (xP P G.tt) id b g st (Q .normal)->xt P G.tt G.n G.n0 r (.region id b g) st Q:=by
 intro st Q h;refine xt.xF λB E Pp a w hb hs=>?_;cases g with
 |true=>
  refine wpIn_region_any p ?_
  have l:tN G b b.toList 0 b.toList=true/\rV ec G (xP P G.tt) b.toList (cv b.toList) (od 0 b.toList) 0 ⟨st.s,gB (mV st.s b.toList b.toList) 0 st.o⟩ (Q .normal):=by
   simp only[NB]at h;split at h
   ·exact⟨h.1 (λh=>h),h.2⟩
   ·have h1:=h.1 (λh=>h);simp only[bI]at h1;refine⟨h1.1,?_⟩;rw[<- CB ec G (xP P G.tt) _ _ _ _ _ ?_ h1.2]
    ·exact h.2
    ·intro i m o p;obtain⟨j,e1,e2,_⟩:=(wc _ _ _ _ _).1 p;rw[y7,e2,fk];exact e1
  obtain⟨h1,h2⟩:=l;have hd:jl G.tt G.n B E (iO G.tt E st.o w Pp (mV st.s b.toList b.toList)) ⟨st.s,gB (mV st.s b.toList b.toList) 0 st.o⟩ a { w with drawn:=w.drawn+1 }:=by have:=(hs.Ke.qc (mV st.s b.toList b.toList)).drew;exact cY.Qg (st:=⟨st.s,gB (mV st.s b.toList b.toList) 0 st.o⟩) this (λt=>(hs.gJ t).mono (λ_ _ h=>h) (λ_ _ h=>.inl h)) hs.size hs.defers
  have hl:=nO.start b;rw[cX,gZ]at h2
  exact(OG (r0:=r) (B:=B) n hb h1 (Q:=Q .normal) (Q':=λe s w'=>∃k d E' Pp',vq e k/\jl G.tt G.n B E' Pp' d s w'/\Q k d)
   (λE Pp st a w hs q=>⟨.normal,st,E,Pp,trivial,hs,q⟩) (by rintro c a w ⟨k,_,_,_,h,_⟩;cases k<;>exact h) b.size _ _ _ _ E _ a _ hl hd h2).any
 |false=>
  refine wpIn_region ?_
  have:=IM (r:=r) (B:=B) n hb (all:=b) (Q:=Q .normal) (Q':=λe s w'=>∃k d E' Pp',vq e k/\jl G.tt G.n B E' Pp' d s w'/\Q k d)
   (λE Pp st a w hs q=>⟨.normal,st,E,Pp,trivial,hs,q⟩) b.toList 0 rfl st E Pp a w hs h
  simpa[List.range_eq_range']using this
def v8(M:fp P G.tt)(T:P.follows .mixedOrders=true):∀(c:Code)(st:St)(Q:Ex->St->Prop),wa ec G (xP P G.tt) (λc st Q=>xt P G.tt G.n G.n0 r c st Q) c st Q->xt P G.tt G.n G.n0 r c st Q:=by
 intro c;induction c with
 |skip=>intro st Q h;exact xt.xF λB E Pp a w hb hs=>wpIn_skip ⟨.normal,st,E,Pp,trivial,hs,h⟩
 |region id ops draw=>
  intro st Q h;simp only[wa]at h;split at h
  ·exact h
  ·exact HG M T id ops draw st Q h
 |seq x y s q=>
  intro st Q h B E Pp a w hb hs;refine wpIn_seq (wpIn_mono (s _ _ h B E Pp a w hb hs) ?_);rintro e C w' ⟨D,o,E',Pp',A,m,n,fL,p⟩;cases e<;>cases D<;>simp only[vq]at A
  ·refine wpIn_mono (q _ _ p (B.here E' Pp' o.o C.defers w') E' Pp' C w' hb m.here) ?_;rintro e2 a2 W ⟨F,I,E2,H,L,k,O,J,V⟩;exact⟨F,I,E2,H,L,jl.back (B:=B.at C.defers) m k,Mk.trans fL n k O,bR fL J,V⟩
  ·subst A;exact⟨.exit _,o,E',Pp',rfl,m,n,fL,p⟩
  ·exact⟨.ret,o,E',Pp',trivial,m,n,fL,p⟩
 |cond c x y s q=>
  intro st Q h B E Pp a w hb hs;have hc:=ff hs.gJ c;simp only[wa]at h
  have l:∀(b t:Bool),ev st.s c= .bool t->t=b->jl G.tt G.n B E Pp (Nv c b st) a w:=by
   intro b t g R;cases c with
   |tmp d=>
    simp only[Nv];simp only[ev]at g
    have hl:look st.s d= .bool t:=by
     cases S:look st.s d<;>rw[S]at g<;>simp[norm]at g
     rw[g]
    exact q9 hs hl R
   |_=>exact hs
  split at h
  ·rename_i g;rw[g]at hc;generalize z:a.eval c=v at hc;cases hc;exact wpIn_cond_true z (s _ _ h B E Pp a w hb hs)
  ·rename_i g;rw[g]at hc;generalize z:a.eval c=v at hc;cases hc;exact wpIn_cond_false z (q _ _ h B E Pp a w hb hs)
  ·rename_i t g;rw[g]at hc;generalize z:a.eval c=v at hc;cases hc;cases t with
   |true=>exact wpIn_cond_true z (s _ _ (h.1 rfl) B E Pp a w hb (l _ _ g rfl))
   |false=>exact wpIn_cond_false z (q _ _ (h.2 rfl) B E Pp a w hb (l _ _ g rfl))
  ·exact h.elim
 |block id c U=>
  intro st Q h B E Pp a w hb hs;refine wpIn_block (wpIn_mono (U _ _ h B E Pp a w hb hs) ?_);rintro e C w' ⟨D,o,E',Pp',A,m,n,fL,p⟩;cases e<;>cases D<;>simp only[vq]at A
  ·exact⟨.normal,o,E',Pp',trivial,m,n,fL,p⟩
  ·rename_i i j;subst A;simp only[Exit.inBlock];simp only at p;by_cases u:i=id
   ·subst u;rw[lW]at p;rw[if_pos rfl];exact⟨.normal,o,E',Pp',trivial,m,n,fL,p⟩
   ·have hb:nb i id=false:=by
     cases hb:nb i id with
     |false=>rfl
     |true=>exact absurd (dH hb) u
    rw[hb]at p;rw[if_neg u];exact⟨.exit _,o,E',Pp',rfl,m,n,fL,p⟩
  ·exact⟨.ret,o,E',Pp',trivial,m,n,fL,p⟩
 |loop c _=>intro st Q h;exact h
 |exit id=>intro st Q h;exact xt.xF λB E Pp a w hb hs=>wpIn_exit ⟨.exit id,st,E,Pp,rfl,hs,h⟩
 |ret=>intro st Q h;exact xt.xF λB E Pp a w hb hs=>wpIn_ret ⟨.ret,st,E,Pp,trivial,hs,h⟩
 |rangeFunc=>intro st Q h;exact h
 |scope=>intro st Q h;exact h.elim
 |label=>intro st Q h;exact h.elim
 |goto=>intro st Q h;exact h.elim
 |refuse=>intro st Q h;exact h.elim
def s6:∀(ps:List PV)(i t:Nat),look (pj i ps) t=if i<=t/\t<i+ps.length then ps.getD (t-i) .undef else .undef
 |[],i,t=>by simp[pj,look]
 |p::ps,i,t=>by
  simp only[pj,kO,s6 ps (i+1) t];by_cases h:i=t
  ·subst h;simp
  ·rw[if_neg h];by_cases h2:i+1<=t/\t<i+1+ps.length
   ·rw[if_pos h2,if_pos yQ];rw[show t-i=(t-(i+1))+1 by omega];simp
   ·rw[if_neg h2,if_neg yQ]
def EK{n:Nat}(b:fe G.tt E Pp vals args):
 ∀t,VR G.tt E Pp (((⟨vals⟩:Array Value)++kX n undef).getD t undef) (look (pj 0 args) t):=by
 intro t;rw[s6];have hl:=b.length;by_cases h:0<=t/\t<0+args.length
 ·rw[if_pos h];have da:t<args.length:=yO;obtain⟨v,h1,h2⟩:=b.get (j:=t) (p:=args[t]) (bB da);have e1:args.getD (t-0) .undef=args[t]:=by simp[cj,bB da]
  have e2:((⟨vals⟩:Array Value)++kX n undef).getD t undef=v:=by rw[cS,im (by simpa using(by omega:t<vals.length))];simp[h1]
  rw[e1,e2];exact h2
 ·rw[if_neg h];exact .undef _
def IP(tmps:Array Value):ResultVar->Sem Value
 | .tmp t=>pure (tmps.getD t undef)
 | .cell a t=>do loadVar t (<- asAddr (tmps.getD a undef))
def FY(fn:Func)(tmps:Array Value):results fn tmps=(do let vs <-fn.results.mapM (IP tmps);pure (if h:vs.size=1 then vs[0]else .tuple vs)):=rfl
def IN{tmps:Array Value}{t:Nat}{ty:TypeId}{ad:Addr}(h:tmps.getD t undef= .pointer (some ad)):IP tmps (.cell t ty)=loadVar ty ad:=by simp only[IP,h,asAddr,pure_bind]
def uE(d:fp P G.tt)(hs:jl G.tt G.n B E Pp st a w):∀{l:List ResultVar}{ps:List PV},yr G st l=some ps->
 ∃vs,(l.mapM (IP a.tmps)).run P w= .ok vs w/\fe G.tt E Pp vs ps
 |[],ps,h=>by simp[yr]at h;subst h;exact⟨[],yS,.nil⟩
 | .tmp t::r,ps,h=>by
  simp only[yr]at h;split at h
  ·rename_i l hl;simp at h;subst h;obtain⟨vs,h1,h2⟩:=uE d hs hl;exact⟨a.tmps.getD t undef::vs,by simp only[Dj,IP,Sem.run_bind,Sem.run_pure,Result.andThen_ok,h1],.cons _ _ _ _ (Pb 8 _ _ (HS (hs.gJ t))) h2⟩
  ·simp at h
 | .cell t ty::r,ps,h=>by
  simp only[yr]at h;split at h
  ·rename_i b off ti l hb g hl;split at h
   ·rename_i cs i;simp only[cX,uo,zN]at h;cases hle:nE (off+ti.cd.length) cs.length with
    |false=>rw[hle]at h;simp at h
    |true=>
     rw[hle]at h;simp at h;subst h;obtain⟨vs,h1,h2⟩:=uE d hs hl;have e:=hs.gJ t;rw[hb]at e;generalize k:a.tmps.getD t undef=v at e;cases e with
     |box _ _ gW j=>
      obtain⟨v,h3,h4⟩:=Eo (d _ _ g) hs.wr.rw j i (eO hle);refine⟨v::vs,?_,.cons _ _ _ _ (Pb 8 _ _ h4) h2⟩;have h5:(loadVar ty ⟨gW,off,none⟩).run P w= .ok v w:=by simpa[Instr.loadAt,Instr.sureAddr]using h3 w rfl
      simp only[Dj,IN k,Sem.run_bind,Sem.run_pure,Result.andThen_ok,h5,h1]
   ·simp at h
  ·simp at h
def yt(e:fp P G.tt)(hs:jl G.tt G.n B E Pp st a w){p:PV}(h:A2 G st fn.results.toList=some p):
 ∃v,(results fn a.tmps).run P w= .ok v w/\VR G.tt E Pp v p:=by
 unfold A2 at h
 have b:∀vs:List Value,(fn.results.toList.mapM (IP a.tmps)).run P w= .ok vs w->
  (results fn a.tmps).run P w= .ok (if h:(⟨vs⟩:Array Value).size=1 then(⟨vs⟩:Array Value)[0]else .tuple ⟨vs⟩) w:=by
  intro vs d;simp only[FY,Sem.run_bind,pF,Sem.run_map,d,Result.andThen_ok];rfl
 split at h
 ·rename_i v d;simp at h;subst h;obtain⟨vs,h1,h2⟩:=uE e hs d;cases h2 with
  |cons u _ vs _ hu i=>cases i;exact⟨u,by rw[b _ h1];simp,hu⟩
 ·rename_i vs g d;simp at h;subst h;obtain⟨us,h1,h2⟩:=uE e hs d;refine⟨.tuple ⟨us⟩,?_,.tup _ _ h2⟩;rw[b _ h1];have hl:=h2.length
  have:¬(⟨us⟩:Array Value).size=1:=by
   intro h1;have:vs.length=1:=by rw[<- hl];simpa using h1
   match vs,this with
   |[x],_=>exact g x rfl
  rw[dif_neg this]
 ·simp at h
def pr(hf:P.funcs[f]? =some fn)(hb:fn.body=some c)(b:(fn.name== "runtime.NumGoroutine")=false):(callFunc f ⟨vals⟩).run P w= .ok (.enter f ⟨vals⟩) w:=by have h2:¬fn.name= "runtime.NumGoroutine" :=yU b;simp[callFunc,hf,hb,h2]
def jl.NF{b:Nat}{g:Obj}(h:jl tt N B E Pp st a w)(hd:w.heap[b]? =some (.deferred (some [])))(d:¬own E st.o b)(j:B.w0.heap.size<=b):jl tt N B E Pp st a (w.putObj b g):=by
 have same:∀k,k≠b->(w.putObj b g).heap[k]? =w.heap[k]? :=λk hk=>World.putObj_heap_other hk;refine⟨h.wr.frame (λk hk=>same k (λe=>d (e▸hk))) (λ_ _ h=>h) (λ_ _ h=>.inl h) (λad v i=>?_),h.gJ,h.size,h.defers,h.pre,h.ua,?_,h.kV,h.fresh⟩
 ·have hc:=h.wr.pi ad v i;rw[iu (same ad.block ?_)]
  ·exact hc
  ·intro e;simp[pc,e,hd]at hc
 ·exact⟨h.fr.os,h.fr.tape,h.fr.output,by simpa[World.putObj]using h.fr.size,h.fr.drawn,λk hk l=>(same k yO).trans (h.fr.block k hk l)⟩
def HZ{R:Ending->World->Prop}:∀(bs:List Nat)(w:World)(a:Act),bs.Nodup->(∀b∈bs,B.w0.heap.size<=b/\w.heap[b]? =some (.deferred (some []))/\¬own E st.o b)->jl tt N B E Pp st a w->
 (∀w',jl tt N B E Pp st a w'->∃v,(results fn a.tmps).run P w'= .ok v w'/\R (.returned v) w')->LeavesInM (sB none) 0 P fn a.tmps R (bs.map Qq) .returning w
 |[],w,a,_,_,hs,h=>h w hs
 |b::bs,w,a,gV,hb,hs,h=>by rw[cn]at gV;obtain⟨h1,h2,h3⟩:=hb b yS;refine⟨yS,.inl ⟨b,w.putObj b (.deferred none),rfl,run_takeDeferred h2,?_⟩⟩;refine HZ bs _ a gV.2 (λb' d=>?_) (hs.NF h2 h3 h1) h;obtain⟨i,e,g⟩:=hb b' (by simp[d]);refine⟨i,?_,g⟩;rw[World.putObj_heap_other (by rintro rfl;exact gV.1 d)];exact e
def G9(y:fp P G.tt)(D:P.follows .mixedOrders=true)(j:(fn.name== "runtime.NumGoroutine")=false)(hf:P.funcs[f]? =some fn)(hb:fn.body=some c){objs:List Ob}(z:objs.length=G.n0)(o:St)
 (q:∀E Pp w vals,WR G.tt E Pp objs w->fe G.tt E Pp vals args->∃A,jl G.tt G.n { w0:=w,E0:=E,P0:=Pp,o9:=own E objs } A Pp o ⟨(⟨vals⟩:Array Value)++kX (fn.ntmps-(⟨vals⟩:Array Value).size) undef,[]⟩ w)
 {fin:St->Prop} (h:wa ec G (xP P G.tt) (λc st Q=>xt P G.tt G.n G.n0 none c st Q) c o λe st=>match e with| .exit _=>False|_=>fin st)
 (m:∀{E Pp w E' Pp' i k w' d},WR G.tt E Pp objs w->fin i->jl G.tt G.n { w0:=w,E0:=E,P0:=Pp,o9:=own E objs,d0:=d } E' Pp' i k w'->∃v,(results fn k.tmps).run P w'= .ok v w'/\nQ G.tt E Pp objs w K (.returned v) w'):FC P G.tt f objs args K:=by
 intro E Pp w vals u H;obtain⟨A,s⟩:=q E Pp w vals u H;refine .inl ⟨pr hf hb j,?_⟩;refine callsIn_wide.1 (callsIn_of_wp_marks (F:=sB none) (n:=0) hf hb trivial (wpIn_mono (v8 y D c _ _ h _ A Pp _ w (by rw[<- z];exact u.len) s) ?_));rintro e k w' ⟨C,i,E',Pp',I,p,⟨bs,l,gV,g⟩,_,t⟩;rw[cA]at l;have go:fin i->LeavesInM (sB none) 0 P fn k.tmps (nQ G.tt E Pp objs w K) k.defers .returning w':=by intro hr;have:=HZ (fn:=fn) (R:=nQ G.tt E Pp objs w K) bs w' k gV (λb hb=>⟨(g b hb).1,(g b hb).2.2.1,(g b hb).2.2.2⟩) p (λJ x=>m u hr x);rw[l];exact this
 cases e<;>cases C<;>simp only[vq]at I
 ·exact go t
 ·exact t.elim
 ·exact go t
def Ks(m:fn.ntmps=G.n)(d:nE (cv args) G.n=true):∀E Pp w vals,WR G.tt E Pp [] w->fe G.tt E Pp vals args->∃l,jl G.tt G.n { w0:=w,E0:=E,P0:=Pp,o9:=own E [] } l Pp ⟨pj 0 args,[]⟩ ⟨(⟨vals⟩:Array Value)++kX (fn.ntmps-(⟨vals⟩:Array Value).size) undef,[]⟩ w:=by intro E Pp w vals g e;have j:=e.length;rw[cX]at d;have k:=eO d;exact⟨E,g,EK e,yQ,rfl,.refl _,λ_ _ h=>h,Fr.refl _ _,λad v h=>.inl h,λi o ri b h=>yE h⟩
def TA(m:fp P G.tt)(s:P.follows .mixedOrders=true)(j:(fn.name== "runtime.NumGoroutine")=false)(hf:P.funcs[f]? =some fn)(hb:fn.body=some c)(z:fn.ntmps=G.n)(n:G.n0=0)(l:nE (cv args) G.n=true)
 (h:wa ec G (xP P G.tt) (λc st Q=>xt P G.tt G.n G.n0 none c st Q) c ⟨pj 0 args,[]⟩ λe st=>match e with| .exit _=>False|_=>NA G 0 fn.results.toList st K):FC P G.tt f [] args K:=by
 refine G9 m s j hf hb n.symm _ (Ks z l) h ?_;intro E Pp w E' Pp' k C w' d q hr g;have t:E=[]:=cz (by rw[q.len];rfl);subst t;unfold NA at hr;split at hr
 ·rename_i p x;obtain⟨v,h1,h2⟩:=yt m g x;refine⟨v,h1,v,[],iO G.tt E' k.o w' Pp' (ids k.o 8 p),[],_,rfl,.refl _,λad u hu=>.inl (g.ua ad u hu),?_,zz g.wr 8 _ _ h2 (λi A=>A),hr,g.fr,?_,λi o ri b h=>yE h⟩
  ·exact WR.nil (λad u hu=>EM g.wr hu) (g.wr.Ru λ_ _ y=>.inl y)
  ·intro ad u hu;rcases Bv hu with h3|⟨i,o,ri,h3,h4,h5,h6⟩
   ·exact g.kV ad u h3
   ·exact .inr (g.fresh i o ri _ h3 h4 h5 h6)
 ·exact hr.elim
def uJ(A:WR tt E Pp st.o w):∀{l:List PV}{k:Nat}{vs:List Value}{ps:List PV}{s:List Nat}{E0:List RI},wZ n0 st k l=some (ps,s)->fe tt E Pp vs l->E0.length=k->
 fe tt (E0++s.map (λr=>E.getD r .row0)) Pp vs ps/\∀r∈s,n0<=r/\∃o,st.o[r]? =some o/\mH o=true/\o.live=true
 |[],k,vs,ps,s,E0,h,H,_=>by simp[wZ]at h;obtain⟨rfl,rfl⟩:=h;cases H;exact⟨.nil,λr hr=>yE hr⟩
 |p::l,k,vs,ps,s,E0,h,H,t=>by
  cases H with
  |cons v _ vs _ u x=>
  have m:(bif eH (ids st.o 8 p)then(match wZ n0 st k l with|some (ps,s)=>some (om st.o 8 p::ps,s)|none=>none)else none)=some (ps,s)->
   fe tt (E0++s.map (λr=>E.getD r .row0)) Pp (v::vs) ps/\∀r∈s,n0<=r/\∃o,st.o[r]? =some o/\mH o=true/\o.live=true:=by
   intro h;cases hb:eH (ids st.o 8 p)with
   |false=>rw[hb]at h;simp at h
   |true=>
    rw[hb]at h;simp only[cond_true]at h;split at h
    ·rename_i z b g;simp at h;obtain⟨rfl,rfl⟩:=h;obtain⟨h1,h2⟩:=uJ A g x t;refine⟨.cons _ _ _ _ ?_ h1,h2⟩;have I:=zz A (F:=[]) 8 p v u (λi J=>by rw[kP hb]at J;exact J);exact(I.mono (λ_ _ h=>h) (λ_ _=>pn)).of_nil _
    ·simp at h
  have n:∀(r:Nat) ri,E[r]? =some ri->E.getD r .row0=ri:=λr ri h=>by simp[cj,h]
  have hk:∀(r:Nat)(b:List Nat),(E0++(r::b).map (λr=>E.getD r .row0))[k]? =some (E.getD r .row0):=λr b=>by rw[cq yO,t];simp
  have q:∀(r:Nat)(b:List Nat),(E0++[E.getD r .row0])++b.map (λr=>E.getD r .row0)=E0++(r::b).map (λr=>E.getD r .row0):=λr b=>yS;simp only[wZ]at h;split at h
  ·rename_i e r;split at h
   ·rename_i L d D;cases hb:(nb e L&&nE n0 r)with
    |false=>rw[hb]at h;simp at h
    |true=>
     rw[hb]at h;simp only[cond_true]at h;simp only[bI]at hb;split at h
     ·rename_i z b g;simp at h;obtain⟨rfl,rfl⟩:=h;obtain⟨h1,h2⟩:=uJ (E0:=E0++[E.getD r .row0]) A g x (by simp[t]);rw[q]at h1;refine⟨.cons _ _ _ _ ?_ h1,?_⟩
      ·cases u with
       |row0 _ _ y=>exact .row0 _ _ (by rw[hk,n r _ y])
       |row _ _ _ _ _ _ y=>exact .row _ _ _ _ _ _ (by rw[hk,n r _ y])
      ·intro C j;rcases bP.1 j with rfl|j
       ·exact⟨eO hb.2,_,dB D rfl,rfl,rfl⟩
       ·exact h2 C j
     ·simp at h
   ·simp at h
  ·rename_i r;split at h
   ·rename_i kc e d D;cases hb:nE n0 r with
    |false=>rw[hb]at h;simp at h
    |true=>
     rw[hb]at h;simp only[cond_true]at h;split at h
     ·rename_i z b g;simp at h;obtain⟨rfl,rfl⟩:=h;obtain⟨h1,h2⟩:=uJ (E0:=E0++[E.getD r .row0]) A g x (by simp[t]);rw[q]at h1;refine⟨.cons _ _ _ _ ?_ h1,?_⟩
      ·cases u with
       |mp _ _ _ _ y=>exact .mp _ _ _ _ (by rw[hk,n r _ y])
      ·intro C j;rcases bP.1 j with rfl|j
       ·exact⟨eO hb,_,dB D rfl,rfl,rfl⟩
       ·exact h2 C j
     ·simp at h
   ·simp at h
  ·exact m h
def Q1(O:fp P G.tt)(hm:P.follows .mixedOrders=true)(F:(fn.name== "runtime.NumGoroutine")=false)(hf:P.funcs[f]? =some fn)(hb:fn.body=some c)(hN:fn.ntmps=G.n)(Z:G.n0=0)(J:nE (cv args) G.n=true)
 (h:wa ec G (xP P G.tt) (λc st Q=>xt P G.tt G.n G.n0 none c st Q) c ⟨pj 0 args,[]⟩ λe st=>match e with| .exit _=>False|_=>xB G 0 fn.results.toList st K):FC P G.tt f [] args K:=by
 refine G9 O hm F hf hb Z.symm _ (Ks hN J) h ?_;intro E Pp w E' Pp' l a' w' d hw hr g;have hE:E=[]:=cz (by rw[hw.len];rfl);subst hE
 have key:∀(l:St)(Pp':ga),jl G.tt G.n { w0:=w,E0:=[],P0:=Pp,o9:=own [] [],d0:=d } E' Pp' l a' w'->Co G 0 fn.results.toList l K->∃v,Sem.run P (results fn a'.tmps) w'=Result.ok v w'/\nQ G.tt [] Pp [] w K (Ending.returned v) w':=by
  clear g hr;intro l Pp' g hr;unfold Co at hr;split at hr
  ·rename_i p hp;obtain⟨v,h1,h2⟩:=yt O g hp;split at hr
   ·rename_i ps C R;cases gV:lg C with
    |false=>rw[gV]at hr;exact hr.elim
    |true=>
     rw[gV]at hr;simp only[cond_true]at hr;have gV:=pa gV
     have parts:∃vs,fe G.tt E' Pp' vs (partsOf p).1/\∀E2 ps,fe G.tt E2 Pp' vs ps->ps.length=(partsOf p).1.length->VR G.tt E2 Pp' v (Hn (partsOf p).2 ps):=by
      cases p with
      |tup cs=>
       cases h2 with
       |tup us _ hl=>exact⟨us,hl,λE2 ps h _=>.tup _ _ h⟩
      |_=>
       refine⟨[v],.cons _ _ _ _ h2 .nil,λE2 ps h hl=>?_⟩;cases h with
       |cons _ q _ _ h3 h4=>cases h4;exact h3
     obtain⟨vs,S,t⟩:=parts;obtain⟨h3,h4⟩:=uJ (E0:=[]) g.wr R S rfl;rw[ep]at h3;have z:∀(j:Nat) r,C[j]? =some r->∀ri,E'[r]? =some ri->(C.map (λr=>E'.getD r .row0))[j]? =some ri:=by intro j r m ri k;simp[m,cj,k]
     have y:∀(j:Nat) o,(c9 (eT l.o) C)[j]? =some o->∃r,C[j]? =some r/\l.o[r]? =some o/\mH o=true/\o.live=true:=by
      intro j o m;rw[iv,cw]at m;cases Y:C[j]? with
      |none=>rw[Y]at m;simp at m
      |some r=>
       rw[Y]at m;simp at m;obtain⟨_,o',s,A,I⟩:=h4 r (fv Y);have:eT l.o r=o':=by rw[sA];simp[cj,s]
       rw[this]at m;subst m;exact⟨r,rfl,s,A,I⟩
     refine⟨v,h1,v,C.map (λr=>E'.getD r .row0),Pp',c9 (eT l.o) C,_,rfl,λi x h=>yE h,λad u hu=>g.ua ad u hu,?_,t _ _ h3 (by rw[<- h3.length,<-S.length]),hr,g.fr,g.kV,?_⟩
     ·refine⟨by simp[iv],g.wr.pi,?_,?_,g.wr.gl⟩
      ·intro j o m hl;obtain⟨r,s,A,I,D⟩:=y j o m;obtain⟨ri,k,X⟩:=g.wr.ob r o A D;exact⟨ri,z j r s ri k,X.goes I D⟩
      ·intro i j oi oj ri rj b hi m am al L n V aa;obtain⟨r,s,A,I,D⟩:=y i oi hi;obtain⟨U,p1,p2,p3,p4⟩:=y j oj m;obtain⟨ri',k,_⟩:=g.wr.ob r oi A D;obtain⟨W,H,_⟩:=g.wr.ob U oj p2 p4;rw[z i r s ri' k]at L;cases L;rw[z j U p1 W H]at n;cases n;have:=g.wr.sep r U oi oj ri rj b A p2 D p4 k H V aa;subst this;exact wm gV s p1
     ·intro j o ri b m hl n hb;obtain⟨r,s,A,I,D⟩:=y j o m;obtain⟨ri',k,_⟩:=g.wr.ob r o A D;rw[z j r s ri' k]at n;cases n;exact g.fresh r o ri b A D k hb
   ·exact hr.elim
  ·exact hr.elim
 unfold xB at hr;split at hr
 ·rename_i p0 ai;obtain⟨ae,M,_,T,_⟩:=DR (K0 p0) g.Ke g.gJ;exact key _ _ (cY.Qg M T g.size g.defers) hr
 ·exact hr.elim
end
end
section
def Cp:PV->PV->Prop
 |_,.undef=>True
 | .bl a,.bool b=>a=b
 | .pe e d,.lst c d'=>e=c/\d=d'
 | .lst e d,.lst c d'=>e=c/\d=d'
 | .int k n,.int k' n'=>k=k'/\n=n'
 | .bool a,.bool b=>a=b
 | .str a,.str b=>a=b
 | .nilp,.dptr _ d=>d= .nil
 |p,q=>p=q
def HI:List PV->List PV->Prop
 |[],[]=>True
 |p::ps,q::b=>Cp p q/\HI ps b
 |_,_=>False
def IA(s:dS):dS->Prop
 |[]=>True
 |(t,q)::r=>Cp (look s t) q/\IA s r
def I1:Ob->Ob->Prop
 |_,.dead=>True
 | .box cs,.box h=>HI cs h
 | .row e d b,.row f d' b'=>e=f/\d=d'/\b=b'
 | .map k e d,.map k' f d'=>k=k'/\e=f/\d=d'
 | .iter m s,.iter m' s'=>m=m'/\s=s'
 | .diter e d s,.diter f d' s'=>e=f/\d=d'/\s=s'
 | .loop n ps a c s j,.loop n' i o r s' l=>n=n'/\ps=i/\a=o/\c=r/\IA s s'/\j=l
 |_,_=>False
def Nq:List Ob->List Ob->Prop
 |_,[]=>True
 |o::os,q::b=>I1 o q/\Nq os b
 |[],_::_=>False
def pf(n:Nat):Nat->PV->Bool
 |0,_=>false
 |k+1,p=>match p with
  | .agg cs=>iw (pf n k) cs
  | .tup cs=>iw (pf n k) cs
  | .cy _ cs=>iw (pf n k) cs
  | .cR cs _=>iw (pf n k) cs
  | .box b _=>jv b n
  | .row _ b=>jv b n
  | .gp _ b _ _=>jv b n
  | .mp b=>jv b n
  | .it b=>jv b n
  | .lS b=>jv b n
  |_=>true
def Gt(n:Nat):dS->Bool
 |[]=>true
 |(_,p)::s=>pf n 8 p&&Gt n s
def zg(n:Nat):List Ob->Bool
 |[]=>true
 | .box cs::l=>iw (pf n 8) cs&&zg n l
 | .iter m _::l=>jv m n&&zg n l
 | .loop _ _ _ _ s _::l=>Gt n s&&zg n l
 |_::l=>zg n l
def Sub(n0:Nat)(st g:St):Prop:=(Gt (cv g.o) g.s&&zg (cv g.o) g.o&&nE n0 (cv g.o))=true/\IA st.s g.s/\Nq st.o g.o
section
variable {P:Program}{tt:TypeId->Option TI}{N n0:Nat}{B:kk}{E:List RI}{Pp:ga}{w:World}{st:St}{a:Act}
variable {n:Nat}{α:Type}{args:List PV}{K:PV->List Ob->Prop}{p q:PV}{s:dS}{g:St}
def xD{v:Value}(h:Cp p q)(b:VR tt E Pp v p):VR tt E Pp v q:=by
 unfold Cp at h;split at h
 ·exact .undef _
 ·subst h;cases b;exact .bool _
 ·obtain⟨rfl,rfl⟩:=h;cases b with
  |pe _ _ _ _ hr=>exact .lst _ _ _ hr
 ·obtain⟨rfl,rfl⟩:=h;exact b
 ·obtain⟨rfl,rfl⟩:=h;exact b
 ·subst h;exact b
 ·subst h;exact b
 ·subst h;cases b;exact .dptr _ _ _ (.Ah _)
 ·subst h;exact b
def DY:∀{ps c:List PV}{vs:List Value},HI ps c->fe tt E Pp vs ps->fe tt E Pp vs c
 |[],[],_,_,b=>b
 |p::ps,q::c,vs,h,b=>by
  cases b with
  |cons _ _ _ _ h1 h2=>exact .cons _ _ _ _ (xD h.1 h1) (DY h.2 h2)
 |[],_::_,_,h,_=>h.elim
 |_::_,[],_,h,_=>h.elim
def ze:∀(k:Nat)(p:PV)(v:Value),pf n k p=true->VR tt E Pp v p->VR tt (E.take n) Pp v p:=by
 intro k;induction k with
 |zero=>intro p v h;simp[pf]at h
 |succ k j=>
  have get:∀(b:Nat)(x:RI),jv b n=true->E[b]? =some x->(E.take n)[b]? =some x:=by intro b x hb l;rw[cQ (eO hb)];exact l
  have d:∀(cs:List PV)(vs:List Value),iw (pf n k) cs=true->fe tt E Pp vs cs->fe tt (E.take n) Pp vs cs:=by
   intro cs;induction cs with
   |nil=>intro vs _ e;cases e;exact .nil
   |cons c cs i=>
    intro vs h e;simp only[iw,bI]at h;cases e with
    |cons _ _ _ _ h1 h2=>exact .cons _ _ _ _ (j _ _ h.1 h1) (i _ h.2 h2)
  intro p v h e;cases e with
  |undef=>exact .undef _
  |int=>exact .int _ _
  |bl=>exact .bl _
  |bool=>exact .bool _
  |str=>exact .str _
  |lst _ _ _ hr=>exact .lst _ _ _ hr
  |pe _ _ _ _ hr=>exact .pe _ _ _ _ hr
  |agg vs cs hl=>exact .agg _ _ (d _ _ h hl)
  |tup vs cs hl=>exact .tup _ _ (d _ _ h hl)
  |box b _ _ hb=>exact .box _ _ _ (get _ _ h hb)
  |row0 _ b hb=>exact .row0 _ _ (get _ _ h hb)
  |row _ b _ _ _ _ hb=>exact .row _ _ _ _ _ _ (get _ _ h hb)
  |gp _ _ b _ _ _ _ _ _ hb h0 h1=>exact .gp _ _ _ _ _ _ _ _ _ (get _ _ h hb) h0 h1
  |kF _ _ _ _ _ _ _ _ hr h0 h1=>exact .kF _ _ _ _ _ _ _ _ hr h0 h1
  |cR u vs cs off b o hu hl iJ=>exact .cR _ _ _ _ _ _ hu (d _ _ h hl) iJ
  |dptr _ _ _ hr=>exact .dptr _ _ _ hr
  |dmp _ _ _ _ hr=>exact .dmp _ _ _ _ hr
  |tO _ _ _ _ _ hr=>exact .tO _ _ _ _ _ hr
  |cy u f vs cs hu hl=>exact .cy _ _ _ _ hu (d _ _ h hl)
  |nilp=>exact .nilp
  |nilm=>exact .nilm
  |nF=>exact .nF
  |nilf=>exact .nilf
  |mp b _ _ _ hb=>exact .mp _ _ _ _ (get _ _ h hb)
  |it b _ hb=>exact .it _ _ (get _ _ h hb)
  |lS b _ hb=>exact .lS _ _ (get _ _ h hb)
def NX{k:Nat}{cs:List PV}{vs:List Value}(h:iw (pf n k) cs=true)(b:fe tt E Pp vs cs):fe tt (E.take n) Pp vs cs:=by
 induction cs generalizing vs with
 |nil=>cases b;exact .nil
 |cons c cs d=>
  simp only[iw,bI]at h;cases b with
  |cons _ _ _ _ h1 h2=>exact .cons _ _ _ _ (ze k _ _ h.1 h1) (d h.2 h2)
def Bo(h:Gt n s=true)(t:Nat):pf n 8 (look s t)=true:=by
 induction s with
 |nil=>rfl
 |cons x s b=>
  obtain⟨k,p⟩:=x;simp only[Gt,bI]at h;rw[kO];split
  ·exact h.1
  ·exact b h.2
def El:∀{l:List Ob}{i:Nat}{o:Ob},zg n l=true->l[i]? =some o->(∀cs,o= .box cs->iw (pf n 8) cs=true)/\(∀m s,o= .iter m s->m<n)/\(∀k ps a c s j,o= .loop k ps a c s j->Gt n s=true)
 |[],i,o,_,d=>yE d
 |x::l,i,o,h,d=>by
  cases i with
  |zero=>
   simp at d;subst d;refine⟨?_,?_,?_⟩
   ·intro cs b;subst b;simp only[zg,bI]at h;exact h.1
   ·intro m s b;subst b;simp only[zg,bI]at h;exact eO h.1
   ·intro k ps a c s j b;subst b;simp only[zg,bI]at h;exact h.1
  |succ i=>
   have hl:zg n l=true:=by cases x<;>simp_all[zg]
   exact El hl (yU d)
def ya:∀{l k:List Ob}{i:Nat}{q:Ob},Nq l k->k[i]? =some q->∃o,l[i]? =some o/\I1 o q
 |_,[],i,q,_,h=>yE h
 |[],_::_,_,_,h,_=>h.elim
 |o::os,q::d,i,c,h,b=>by
  cases i with
  |zero=>simp at b;subst b;exact⟨o,rfl,h.1⟩
  |succ i=>simpa using ya h.2 (yU b)
def DH:∀{l k:List Ob},Nq l k->k.length<=l.length
 |_,[],_=>yS
 |[],_::_,h=>h.elim
 |o::os,q::b,h=>by simpa using DH h.2
def sb:∀{r:dS},IA s r->∀t,Cp (look s t) (look r t)
 |[],_,t=>by simp[look,Cp]
 |(k,q)::r,h,t=>by
  rw[kO];split
  ·rename_i hk;subst hk;exact h.1
  ·exact sb h.2 t
def KJ(h:Cp p q)(c:pW q=true):pW p=true:=by
 cases q with
 |nilp=>cases p<;>first|rfl|(simp only[Cp]at h;cases h)
 |box b off=>cases p<;>first|rfl|(simp only[Cp]at h;cases h)
 |_=>cases c
def IT:∀{ps e:List PV},HI ps e->oo e=true->oo ps=true
 |_,[],_,h=>yC h
 |_,[_],_,h=>yC h
 |[],_::_::_,h,_=>h.elim
 |[_],[_,_],h,_=>h.2.elim
 |[a,b],[c,d],h,hb=>KJ (p:=a) (q:=c) h.1 hb
 |_::_::_::_,[_,_],h,_=>h.2.2.elim
 |_,_::_::_::_,_,h=>yC h
def OR.le{ri:RI}{o q:Ob}(h:I1 o q)(hl:q.live=true)(i:(∀cs,q= .box cs->iw (pf n 8) cs=true)/\(∀m s,q= .iter m s->m<n)/\(∀k ps a c s j,q= .loop k ps a c s j->Gt n s=true))(f:OR tt E Pp w ri o):o.live=true/\OR tt (E.take n) Pp w ri q:=by
 cases o<;>cases q<;>simp only[I1]at h<;>simp[Ob.live]at hl
 case box.box cs v=>
  refine⟨rfl,?_⟩;cases ri<;>simp only[OR]at f ⊢
  obtain⟨vs,T,h1,h2,h3,h4⟩:=f;exact⟨vs,T,h1,NX (i.1 _ rfl) (DY h h2),h3,λhb=>h4 (IT h hb)⟩
 case row.row e d b l d' b'=>obtain⟨rfl,rfl,rfl⟩:=h;exact⟨rfl,by cases ri<;>exact f⟩
 case map.map k e d k' l d'=>obtain⟨rfl,rfl,rfl⟩:=h;exact⟨rfl,by cases ri<;>exact f⟩
 case iter.iter m s m' s'=>
  obtain⟨rfl,rfl⟩:=h;refine⟨rfl,?_⟩;cases ri<;>try exact f.elim
  obtain⟨u,borns,clock,y,h1,h2⟩:=f;exact⟨u,borns,clock,y,by rw[cQ (i.2.1 _ _ rfl)];exact h1,h2⟩
 case diter.diter e d s l d' s'=>obtain⟨rfl,rfl,rfl⟩:=h;exact⟨rfl,by cases ri<;>exact f⟩
 case loop.loop k ps a c s j k' x A C s' z=>
  obtain⟨rfl,rfl,rfl,rfl,h5,rfl⟩:=h;refine⟨rfl,?_⟩;cases ri<;>try exact f.elim
  obtain⟨r,h1,h2,h3⟩:=f;exact⟨r,h1,h2,λt=>ze 8 _ _ (Bo (i.2.2 _ _ _ _ _ _ rfl) t) (xD (sb h5 t) (h3 t))⟩
def jl.sub(hb:B.E0.length=n0)(h:jl tt N B E Pp st a w)(hs:Sub n0 st g):jl tt N B (E.take g.o.length) Pp g a w:=by
 obtain⟨hc,h1,h2⟩:=hs;simp only[bI,cX]at hc;obtain⟨⟨c1,c2⟩,L⟩:=hc;have L:=eO L;have J:=DH h2
 have get:∀(i:Nat)(x:RI),(E.take g.o.length)[i]? =some x->E[i]? =some x:=by
  intro i x c;rw[xu]at c;split at c
  ·exact c
  ·simp at c
 have live:∀(i:Nat) q,g.o[i]? =some q->q.live=true->∃o ri,st.o[i]? =some o/\o.live=true/\E[i]? =some ri/\(E.take g.o.length)[i]? =some ri/\OR tt (E.take g.o.length) Pp w ri q:=by
  intro i q e hl;obtain⟨o,m,F⟩:=ya h2 e;have k:o.live=true:=by cases o<;>cases q<;>simp_all[I1,Ob.live]
  obtain⟨ri,l,z⟩:=h.wr.ob i o m k;obtain⟨_,f⟩:=OR.le F hl (El c2 e) z
  have da:i<g.o.length:=by
   rcases cb i g.o.length with d|d
   ·exact d
   ·rw[bY d]at e;simp at e
  exact⟨o,ri,m,k,l,by rw[cQ da];exact l,f⟩
 refine⟨⟨by simp[h.wr.len];omega,h.wr.pi,?_,?_,h.wr.gl⟩,?_,h.size,h.defers,?_,h.ua,h.fr,h.kV,?_⟩
 ·intro i q e hl;obtain⟨_,ri,_,_,_,h4,h5⟩:=live i q e hl;exact⟨ri,h4,h5⟩
 ·intro i j oi oj ri rj b M S G D I C v H;obtain⟨o,r,h3,h4,h5,h6,_⟩:=live i oi M G;obtain⟨o',T,A,u,O,Q,_⟩:=live j oj S D;exact h.wr.sep i j o o' ri rj b h3 A h4 u (get _ _ I) (get _ _ C) v H
 ·intro t;exact ze 8 _ _ (Bo c1 t) (xD (sb h1 t) (h.gJ t))
 ·intro i x c
  have M:i<B.E0.length:=by
   rcases cb i B.E0.length with d|d
   ·exact d
   ·rw[bY d]at c;simp at c
  rw[cQ yO];exact h.pre i x c
 ·intro i o ri b m hl R y;obtain⟨o',r,h3,h4,h5,_,_⟩:=live i o m hl;exact h.fresh i o' ri b h3 h4 (get _ _ R) y
def AJ{r:Option Nat}{c:Code}{Q:Exit->Act->World->Prop}(I:α->Act->World->Prop)(C:α->Nat)(F:α)(z:I F a w)
 (round:∀x a w,I x a w->c.wpIn (sB r) 0 P (Exit.then (λu w'=>∃G,I G u w'/\C G<C x) Q) a w):(Code.loop c).wpIn (sB r) 0 P Q a w:=by
 intro b k cs D hb hr
 have key:∀n x a w,C x=n->I x a w->
  ∃e u w',Q e u w'/\ArrivesIn (Machine.fenced P (sB r)) P (lone (b.atR a (.code c:: .inLoop c::k)) cs w) b k cs e u w':=by
  intro n;induction n using Nat.strongRecOn with
  |_ n L=>
   intro x a w J H;obtain⟨e,h,f,j,d⟩:=round x a w H b (.inLoop c::k) cs D hb hr;cases e with
   |normal=>obtain⟨m,t,da⟩:=j;obtain⟨v,y,A,o,i⟩:=L (C m) (J▸da) m h f rfl t;exact⟨v,y,A,o,.of_steps (StepsIn.trans d (.one (fenced_calm hb hr rfl) stepR_inLoop)) i⟩
   |exit id=>exact⟨_,h,f,j,.pass (x:=.inLoop c) rfl (λ_ _=>.inl yS) d⟩
   |goto l=>exact⟨_,h,f,j,.pass (x:=.inLoop c) rfl (λ_ _=>.inl yS) d⟩
   |ret=>exact⟨_,h,f,j,.pass (x:=.inLoop c) rfl (λ_ _=>.inl yS) d⟩
   |panic M=>exact⟨_,h,f,j,.pass (x:=.inLoop c) rfl (λ_ _=>.inl yS) d⟩
   |outgrown=>exact⟨_,h,f,j,.pass (x:=.inLoop c) rfl (λ_ _=>.inl yS) d⟩
 obtain⟨e,u,w',j,d⟩:=key _ F a w rfl z;exact⟨e,u,w',j,.of_steps (.one (fenced_calm hb hr rfl) stepR_loop) d⟩
def Mk.sub{d d':List Deferred}{w0 w:World}{E2:List RI}{o c:List Ob}(m:Mk w0 d E o d' w)(h:∀b,own E2 c b->own E o b):Mk w0 d E2 c d' w:=by obtain⟨bs,h1,h2,h3⟩:=m;exact⟨bs,h1,h2,λb hb=>⟨(h3 b hb).1,(h3 b hb).2.1,(h3 b hb).2.2.1,λe=>(h3 b hb).2.2.2 (h b e)⟩⟩
def Em{r:Option Nat}{c:Code}{Q:Ex->St->Prop}(o:St->St->Prop)
 (d:∀{B:kk}{E:List RI}{Pp:ga}{st g:St}{a:Act}{w:World},B.E0.length=n0->jl tt N B E Pp st a w->o st g->∃E',jl tt N B E' Pp g a w/\∀b,own E' g.o b->own E st.o b)
 (I:α->St) (u:α->Prop) (y:α->Nat) (v:α) (h0:u v) (A:o st (I v))
 (round:∀x,u x->xt P tt N n0 r c (I x) λe l=>match e with| .normal=>∃t,u t/\y t<y x/\o l (I t)| .exit i=>Q (.exit i) l| .ret=>Q .ret l):xt P tt N n0 r (.loop c) st Q:=by
 intro B E Pp a w hb hs;obtain⟨V,F,_⟩:=d hb hs A;refine AJ (λx D w'=>∃E Pp,u x/\jl tt N (B.at D.defers) E Pp (I x) D w'/\Mk w a.defers E (I x).o D.defers w'/\w.heap.size<=w'.heap.size) y v ⟨V,Pp,h0,F.at,Mk.none rfl,ca _⟩ ?_;rintro x a1 H ⟨E,Pp,T,hs,U,J⟩;refine wpIn_mono (round x T (B.here E Pp (I x).o a1.defers H) E Pp a1 H hb hs.here) ?_;rintro e a2 W ⟨M,g,E2,f,L,k,O,C,G⟩;have m:=jl.back (B:=B.at a1.defers) hs k;have h:=Mk.trans J U k O;have j:=bR J C;cases e<;>cases M<;>simp only[vq]at L
 ·obtain⟨t,h1,h2,h3⟩:=G;obtain⟨R,z,S⟩:=d (B:=B.at a2.defers) hb m h3;exact⟨t,⟨R,f,h1,z,h.sub S,j⟩,h2⟩
 ·subst L;exact⟨.exit _,g,E2,f,rfl,m,h,j,G⟩
 ·exact⟨.ret,g,E2,f,trivial,m,h,j,G⟩
theorem Sub.own(hs:Sub n0 st g):∀b,own (E.take g.o.length) g.o b->VC.own E st.o b:=by
 rintro b ⟨i,q,ri,h1,h2,h3,h4⟩;obtain⟨o,c,d⟩:=ya hs.2.2 h1;refine⟨i,o,ri,c,?_,?_,h4⟩
 ·cases o<;>cases q<;>simp_all[I1,Ob.live]
 ·rw[xu]at h3;split at h3
  ·exact h3
  ·simp at h3
def I9{r:Option Nat}{c:Code}{Q:Ex->St->Prop}(I:α->St)(d:α->Prop)(k:α->Nat)(j:α)(h0:d j)(f:Sub n0 st (I j))
 (round:∀x,d x->xt P tt N n0 r c (I x) λe b=>match e with| .normal=>∃l,d l/\k l<k x/\Sub n0 b (I l)| .exit i=>Q (.exit i) b| .ret=>Q .ret b):xt P tt N n0 r (.loop c) st Q:=
 Em (Sub n0) (λhb h hk=>⟨_,h.sub hb hk,hk.own⟩) I d k j h0 f round
def Std:qC:=ec
structure Ctx (P:Program) (G:eE) (A:qC) (C:ml) (L:Code->St->(Ex->St->Prop)->Prop):Prop where
 a:A=Std
 c:C=xP P G.tt
 l:∃r:Option Nat,(G.Nz=false->r=none)/\L=(λc st Q=>xt P G.tt G.n G.n0 r c st Q)
 tt:fp P G.tt
 m:P.follows .mixedOrders=true
structure Has (P:Program) (f:FuncId) (fn:Func) (c:Code):Prop where
 f:P.funcs[f]? =some fn
 name:(fn.name== "runtime.NumGoroutine")=false
 b:fn.body=some c
def FC.enter{G:eE}(d:fp P G.tt)(j:P.follows .mixedOrders=true){f:FuncId}{fn:Func}{c:Code}(hf:Has P f fn c)(k:fn.ntmps=G.n)(i:G.n0=0)(b:nE (cv args) G.n=true)
 (h:∀(A:qC)(C:ml)(L:Code->St->(Ex->St->Prop)->Prop),Ctx P G A C L->
   wa A G C L c ⟨pj 0 args,[]⟩ λe st=>match e with| .exit _=>False|_=>NA G 0 fn.results.toList st K):FC P G.tt f [] args K:=
 TA d j hf.name hf.f hf.b k i b (h _ _ _ ⟨rfl,rfl,⟨_,λ_=>rfl,rfl⟩,d,j⟩)
def FC.ln{G:eE}(d:fp P G.tt)(j:P.follows .mixedOrders=true){f:FuncId}{fn:Func}{c:Code}(hf:Has P f fn c)(k:fn.ntmps=G.n)(i:G.n0=0)(b:nE (cv args) G.n=true)
 (h:∀(A:qC)(C:ml)(L:Code->St->(Ex->St->Prop)->Prop),Ctx P G A C L->
   wa A G C L c ⟨pj 0 args,[]⟩ λe st=>match e with| .exit _=>False|_=>xB G 0 fn.results.toList st K):FC P G.tt f [] args K:=
 Q1 d j hf.name hf.f hf.b k i b (h _ _ _ ⟨rfl,rfl,⟨_,λ_=>rfl,rfl⟩,d,j⟩)
def Ctx.loop{G:eE}{A:qC}{C:ml}{L:Code->St->(Ex->St->Prop)->Prop}(X:Ctx P G A C L)
 (I:α->St) (d:α->Prop) (j:α->Nat) (h:α) {c:Code}{st:St}{Q:Ex->St->Prop} (h0:d h) (f:Sub G.n0 st (I h))
 (round:∀x,d x->wa A G C L c (I x) λe b=>match e with| .normal=>∃k,d k/\j k<j x/\Sub G.n0 b (I k)| .exit i=>Q (.exit i) b| .ret=>Q .ret b):L (.loop c) st Q:=by
 obtain⟨rfl,rfl,⟨r,_,rfl⟩,l,m⟩:=X;exact I9 I d j h h0 f λx o=>v8 l m c _ _ (round x o)
def Ctx.call{G:eE}{A:qC}{C:ml}{L:Code->St->(Ex->St->Prop)->Prop}(X:Ctx P G A C L){f:FuncId}{objs:List Ob}(h:FC P G.tt f objs args K):C (.fn f) objs args K:=by rw[X.c];exact h
end
end
section
variable {P:Program}{t:TypeId}{cd:List CK}
def FH:Value->CK->Bool
 | .int k n,.int k'=>decide (k=k')&&decide (n=0)
 | .bool b,.bool=> !b
 | .string s,.str=>s.data.size==0
 | .slice none 0 0,.slice _=>true
 | .pointer none,.ptr _=>true
 | .map none,.map _ _=>true
 | .nilFunc,.fn=>true
 |_,_=>false
def oT:List Value->List CK->Bool
 |[],[]=>true
 |v::vs,c::cs=>FH v c&&oT vs cs
 |_,_=>false
def L5(P:Program)(t:TypeId)(ti:TI):TypeDesc->Bool
 | .struct fields=>ti.agg&&decide (fields.toList.map (λ(x:Go.Field)=>(x.offset,x.type))=ti.fs)&&(fields.toList.mapM (λ(f:Go.Field)=>(P.info? f.type).map λi=>(f.offset,i.size))).isSome
 | .array n e=>ti.agg&&decide (ti.ar=n+1)&&decide (ti.el=e)&&decide (ti.fs=[])
 | .slice e=> !ti.agg&&decide (ti.cd=[.slice e])&&decide (ti.el=e)&&decide (ti.fs=[])
 | .int k=> !ti.agg&&decide (ti.cd=[.int k])&&decide (ti.fs=[])
 | .bool=> !ti.agg&&decide (ti.cd=[.bool])&&decide (ti.fs=[])
 | .string=> !ti.agg&&decide (ti.cd=[.str])&&decide (ti.fs=[])
 | .pointer e=> !ti.agg&&decide (ti.cd=[.ptr e])&&decide (ti.fs=[])
 | .map k e=> !ti.agg&&decide (ti.cd=[.map t e])&&decide (ti.ar=k+1)&&decide (ti.el=e)&&decide (ti.fs=[])
 | .func _ _ _=> !ti.agg&&decide (ti.cd=[.fn])&&decide (ti.fs=[])
 |_=>false
def Ce(P:Program)(t:TypeId)(ti:TI):Bool:=
 match P.info? t,P.underlying t with
 |some i,some d=>(match i.zero with
  |some z=>decide (i.size=ti.cd.length)&&decide (i.bytes=ti.bytes)&&oT z.cells.toList ti.cd&&(match z with| .agg _=>ti.agg|_=> !ti.agg)&&L5 P t ti d&&(decide (ti.ar=0)|| !ti.agg||(match d with| .array _ _=>true|_=>false))
  |none=>false)
 |_,_=>false
def xk:List (TypeId×TI)->TypeId->Option TI
 |[],_=>none
 |(k,ti)::r,t=>bif nb k t then some ti else xk r t
def Ir{v:Value}{c:CK}(h:FH v c=true):v=zeroV c:=by
 unfold FH at h;split at h<;>simp at h<;>simp only[zeroV]
 ·rw[h.1,h.2]
 ·rw[h]
 ·rename_i s;obtain⟨d⟩:=s;first|(subst h;rfl)|(simp at h;rw[h])|(rw[h];rfl)
def wN:∀{vs:List Value}{cs:List CK},oT vs cs=true->vs=cs.map zeroV
 |[],[],_=>rfl
 |v::vs,c::cs,h=>by simp only[oT,bI]at h;simp only[bO];rw[Ir h.1,wN h.2]
 |[],_::_,h=>by simp[oT]at h
 |_::_,[],h=>by simp[oT]at h
def FK{ti:TI}(h:Ce P t ti=true)(g:ti.Ao=true->ti.agg=true/\Fx P t ti.cd/\KeyLaw P t ti.cd):kj P t ti:=by
 unfold Ce at h;split at h
 ·rename_i i d j hd;split at h
  ·rename_i z m;simp only[bI,decide_eq_true_eq,gh,fX]at h;obtain⟨⟨⟨⟨⟨h1,h2⟩,h3⟩,h4⟩,h5⟩,h6⟩:=h;refine⟨⟨i,z,d,j,h1,h2,m,wN h3,?_,hd,?_⟩,g,?_⟩
   ·cases z<;>simp at h4<;>simp[h4,Value.cells]
   ·cases d<;>simp only[L5,bI,decide_eq_true_eq,fX,cC]at h5
    case struct fields=>obtain⟨⟨a,b⟩,c⟩:=h5;refine⟨a,?_,dy.1 c⟩;intro f;rw[<- b];simp
    case array n e=>obtain⟨⟨⟨a,b⟩,c⟩,d⟩:=h5;exact⟨a,b,c,d⟩
    case slice e=>obtain⟨⟨⟨a,b⟩,c⟩,d⟩:=h5;exact⟨a,b,c,d⟩
    case int k=>obtain⟨⟨a,b⟩,c⟩:=h5;exact⟨a,b,c⟩
    case bool=>obtain⟨⟨a,b⟩,c⟩:=h5;exact⟨a,b,c⟩
    case string=>obtain⟨⟨a,b⟩,c⟩:=h5;exact⟨a,b,c⟩
    case pointer e=>obtain⟨⟨a,b⟩,c⟩:=h5;exact⟨a,b,c⟩
    case map k e=>obtain⟨⟨⟨⟨a,b⟩,c⟩,d⟩,f⟩:=h5;exact⟨a,b,c,d,f⟩
    case func=>obtain⟨⟨a,b⟩,c⟩:=h5;exact⟨a,b,c⟩
   ·intro ha l;rcases h6 with(h6|h6)|h6
    ·exact absurd h6 l
    ·rw[ha]at h6;cases h6
    ·cases d<;>simp at h6
     exact⟨_,_,hd⟩
  ·simp at h
 ·simp at h
def uq(P:Program):List (TypeId×TI)->Bool
 |[]=>true
 |(t,ti)::r=>Ce P t ti&&uq P r
def OJ{Iz:List (TypeId×TI)}(h:uq P Iz=true)(a:∀t ti,(t,ti)∈Iz->ti.Ao=true->ti.agg=true/\Fx P t ti.cd/\KeyLaw P t ti.cd):fp P (xk Iz):=by
 induction Iz with
 |nil=>intro t ti h;simp[xk]at h
 |cons x r c=>
  obtain⟨k,i⟩:=x;simp only[uq,bI]at h;intro t ti hf;simp only[xk]at hf;cases hb:nb k t with
  |true=>rw[hb]at hf;simp at hf;subst hf;have:=dH hb;subst this;exact FK h.1 (a k i yS)
  |false=>rw[hb]at hf;exact c h.2 (λt ti b=>a t ti (by simp[b])) t ti hf
def jd(P:Program):Nat->List Go.Field->List CK->Bool
 |_,[],[]=>true
 |k,f::fs,c::cs=>decide (f.offset=k)&&decide (f.name≠ "_")&&(match P.underlying f.type,c with
  |some (.int k),.int k'=>decide (k=k')
  |some .bool,.bool=>true
  |some .string,.str=>true
  |_,_=>false)&&jd P (k+1) fs cs
 |_,_,_=>false
def vu(P:Program)(t:TypeId)(cd:List CK):Bool:=
 match P.underlying t with
 |some (.struct fs)=>jd P 0 fs.toList cd&& !(P.stoodInHeld t)&& !(P.eqGuardType P.depth t)
 |_=>false
def rK{P:Program}(w:World)(d:Nat):∀(fs:List Go.Field)(cs:List CK)(k:Nat)(us vs:List Value),jd P k fs cs=true->us.length=k+cs.length->vs.length=k+cs.length->
 (∀(j:Nat) c u,cs[j]? =some c->us[k+j]? =some u->isScalar c u)->(∀(j:Nat) c u,cs[j]? =some c->vs[k+j]? =some u->isScalar c u)->
 (Op.eqFields (d+1) ⟨us⟩ ⟨vs⟩ fs).run P w= .ok (vY (us.drop k) (vs.drop k)) w
 |[],[],k,us,vs,_,hu,o,_,_=>by rw[fD (by simp at hu;omega),fD (by simp at o;omega)];rfl
 |f::fs,c::cs,k,us,vs,h,hu,o,v,x=>by
  simp only[jd,bI,decide_eq_true_eq]at h;obtain⟨⟨⟨h1,h2⟩,h3⟩,h4⟩:=h;simp only[bS]at hu o;have m:k<us.length:=yO;have b:k<vs.length:=yO
  have y:=rK (P:=P) w d fs cs (k+1) us vs h4 (by omega) (by omega)
   (λj c u hc r=>v (j+1) c u (yU hc) (by rw[show k+(j+1)=k+1+j by omega];exact r))
   (λj c u hc r=>x (j+1) c u (yU hc) (by rw[show k+(j+1)=k+1+j by omega];exact r))
  have q:=v 0 c us[k] rfl (by simp[m]);have p:=x 0 c vs[k] rfl (by simp[b]);rw[bM m,bM b];have s:∀(l:List Value)(hl:k<l.length)(a:TypeDesc),P.underlying f.type=some a->(∀fs,a≠ .struct fs)->(∀n e,a≠ .array n e)->(part f.type ⟨l⟩ f.offset).run P w= .ok l[k] w:=by intro l hl a hd g i;unfold part isAgg;simp only[Sem.run_bind,run_underlying hd,Result.andThen_ok];cases a<;>first|exact absurd rfl (g _)|exact absurd rfl (i _ _)|simp[h1,hl]
  have fin:∀a,P.underlying f.type=some a->(∀fs,a≠ .struct fs)->(∀n e,a≠ .array n e)->(Op.equalIn (d+1) f.type us[k] vs[k]).run P w= .ok (Rp us[k] vs[k]) w->
   (Op.eqFields (d+1) ⟨us⟩ ⟨vs⟩ (f::fs)).run P w= .ok (vY (us[k]::us.drop (k+1)) (vs[k]::vs.drop (k+1))) w:=by
   intro a hd g i z;have e1:=s us m a hd g i;have e2:=s vs b a hd g i;simp only[Op.eqFields,if_pos h2,Sem.run_bind,e1,e2,Result.andThen_ok,z,vY];cases Rp us[k] vs[k]with
   |true=>simpa using y
   |false=>simp
  split at h3
  ·rename_i A B hd;obtain⟨g,e1⟩:=q;obtain⟨i,e2⟩:=p;refine fin _ hd (λ_ h=>yC h) (λ_ _ h=>yC h) ?_;rw[e1,e2,run_equalIn_int w d f.type _ _ _ _ hd];rfl
  ·rename_i hd;obtain⟨g,e1⟩:=q;obtain⟨i,e2⟩:=p;refine fin _ hd (λ_ h=>yC h) (λ_ _ h=>yC h) ?_;rw[e1,e2,run_equalIn_bool' w d f.type _ _ hd];rfl
  ·rename_i hd;obtain⟨g,e1⟩:=q;obtain⟨i,e2⟩:=p;refine fin _ hd (λ_ h=>yC h) (λ_ _ h=>yC h) ?_;rw[e1,e2,run_equalIn_string w d f.type _ _ hd,ByteArray.toList_eq,ByteArray.toList_eq];rfl
  ·simp at h3
 |[],_::_,_,_,_,h,_,_,_,_=>by simp[jd]at h
 |_::_,[],_,_,_,h,_,_,_,_=>by simp[jd]at h
def LV(h:vu P t cd=true):Fx P t cd:=by
 unfold vu at h;split at h
 ·rename_i fs hd;simp only[bI,fX]at h;obtain⟨⟨h1,h2⟩,h3⟩:=h;intro op x y us vs w b hu f d e;have hf:P.fieldsOf t=fs:=by simp[Program.fieldsOf,hd]
  have a:(Op.equalIn 10000 t (.agg ⟨us⟩) (.agg ⟨vs⟩)).run P w= .ok (vY us vs) w:=by have:=run_equalIn_struct (P:=P) w 9999 t ⟨us⟩ ⟨vs⟩ (by rw[hf];exact hd) h2;rw[hf]at this;rw[this];have:=rK (P:=P) w 9998 fs.toList cd 0 us vs h1 yO yO (yU d) (yU e);simpa using this
  have c:=run_eqGuard_agg (P:=P) w op t x y ⟨us⟩ ⟨vs⟩ h3;rcases b with rfl|rfl
  ·simp only[Sem.run_bind,c,Result.andThen_ok,run_eql_struct,a,if_true]
  ·simp only[Sem.run_bind,c,Result.andThen_ok,run_neq_struct,a];rfl
 ·simp at h
def vc{P:Program}(w:World)(b:Bool):∀(fs:List Go.Field)(cs:List CK)(k:Nat)(us:List Value),jd P k fs cs=true->us.length=k+cs.length->
 (∀(j:Nat) c u,cs[j]? =some c->us[k+j]? =some u->isScalar c u)->
 (forIn (m:=Sem) fs lz (λf _=>if f.name≠ "_" then(do let x <-part f.type ⟨us⟩ f.offset;Instr.checkKey b 9999 f.type x;pure (qH lz))else pure (qH lz))).run P w= .ok lz w
 |[],_,_,_,_,_,_=>yS
 |f::fs,[],_,_,h,_,_=>by simp[jd]at h
 |f::fs,c::cs,k,us,h,hu,o=>by
  simp only[jd,bI,decide_eq_true_eq]at h;obtain⟨⟨⟨h1,h2⟩,h3⟩,h4⟩:=h;simp only[bS]at hu;have g:k<us.length:=yO;have q:=vc (P:=P) w b fs cs (k+1) us h4 (by omega) (λj c u hc s=>o (j+1) c u (by simpa using hc) (by rw[show k+(j+1)=k+1+j by omega];exact s));have i:=o 0 c us[k] rfl (by simp[g]);have p:∀(a:TypeDesc),P.underlying f.type=some a->(∀fs,a≠ .struct fs)->(∀n e,a≠ .array n e)->(part f.type ⟨us⟩ f.offset).run P w= .ok us[k] w:=by intro a hd d l;unfold part isAgg;simp only[Sem.run_bind,run_underlying hd,Result.andThen_ok];cases a<;>first|exact absurd rfl (d _)|exact absurd rfl (l _ _)|simp[h1,g]
  have fin:∀a,P.underlying f.type=some a->(∀fs,a≠ .struct fs)->(∀n e,a≠ .array n e)->(Instr.checkKey b 9999 f.type us[k]).run P w= .ok () w->
   (forIn (m:=Sem) (f::fs) lz (λf _=>if f.name≠ "_" then(do let x <-part f.type ⟨us⟩ f.offset;Instr.checkKey b 9999 f.type x;pure (qH lz))else pure (qH lz))).run P w= .ok lz w:=by
   intro a hd d l r;have e1:=p a hd d l;simp only[List.forIn_cons,if_pos h2,Sem.run_bind,e1,r,Result.andThen_ok,Sem.run_pure];exact q
  split at h3
  ·rename_i v y hd;obtain⟨d,e1⟩:=i;refine fin _ hd (λ_ h=>yC h) (λ_ _ h=>yC h) ?_;rw[e1,show (9999:Nat)=9998+1 from rfl,Instr.checkKey];simp only[Sem.run_bind,run_underlying hd,Result.andThen_ok,Sem.run_pure]
  ·rename_i hd;obtain⟨d,e1⟩:=i;refine fin _ hd (λ_ h=>yC h) (λ_ _ h=>yC h) ?_;rw[e1,show (9999:Nat)=9998+1 from rfl,Instr.checkKey];simp only[Sem.run_bind,run_underlying hd,Result.andThen_ok,Sem.run_pure]
  ·rename_i hd;obtain⟨d,e1⟩:=i;refine fin _ hd (λ_ h=>yC h) (λ_ _ h=>yC h) ?_;rw[e1,show (9999:Nat)=9998+1 from rfl,Instr.checkKey];simp only[Sem.run_bind,run_underlying hd,Result.andThen_ok,Sem.run_pure]
  ·simp at h3
def Jg(h:vu P t cd=true):KeyLaw P t cd:=by
 unfold vu at h;split at h
 ·rename_i fs hd;simp only[bI,fX]at h;obtain⟨⟨h1,h2⟩,h3⟩:=h;refine⟨⟨fs,hd⟩,?_⟩;intro us vs w hu e a c;have hf:P.fieldsOf t=fs:=by simp[Program.fieldsOf,hd]
  refine⟨?_,λb=>?_⟩
  ·have:=run_equalIn_struct (P:=P) w 9999 t ⟨us⟩ ⟨vs⟩ (by rw[hf];exact hd) h2;rw[hf]at this;unfold Op.equal Op.maxDepth;rw[this];have:=rK (P:=P) w 9998 fs.toList cd 0 us vs h1 yO yO (yU a) (yU c);simpa using this
  ·have:=vc (P:=P) w b fs.toList cd 0 us h1 yO (yU a);rw[show (10000:Nat)=9999+1 from rfl,Instr.checkKey];simp only[Sem.run_bind,run_underlying hd,Result.andThen_ok];rw[<- Array.forIn_toList];have d:∀{r:Result PUnit},r= .ok lz w->(r.andThen λ_ w'=>Sem.run P (pure ()) w')= .ok () w:=λh=>by rw[h];rfl
   exact d this
 ·simp at h
def qe(P:Program):List (TypeId×TI)->Bool
 |[]=>true
 |(t,ti)::r=>(!ti.Ao||(ti.agg&&vu P t ti.cd))&&qe P r
def EU:∀{Iz:List (TypeId×TI)},qe P Iz=true->∀t ti,(t,ti)∈Iz->ti.Ao=true->ti.agg=true/\Fx P t ti.cd/\KeyLaw P t ti.cd
 |[],_,t,ti,h,_=>yE h
 |(k,i)::r,h,t,ti,hm,he=>by
  simp only[qe,bI,gh,fX]at h;rcases bP.1 hm with e|e
  ·cases e;rcases h.1 with h1|h1
   ·rw[he]at h1;simp at h1
   ·exact⟨h1.1,LV h1.2,Jg h1.2⟩
  ·exact EU h.2 t ti e he
end
section
def Cq(ps:List Nat)(st:St):St:=match st with
 |⟨s,o⟩=>⟨A9 ps s,c9 (λr=>j7 ps (eT o r)) ps⟩
def C7(n0:Nat)(st b:St):Prop:=∃ps,(lg ps&&Cc n0 0 ps)=true/\Sub n0 (Cq ps st) b
section
variable {P:Program}{tt:TypeId->Option TI}{N n0:Nat}{B:kk}{E:List RI}{Pp:ga}{w:World}{st:St}{a:Act}{ps:List Nat}
variable {α:Type}{Q:Ex->St->Prop}{c:Code}{G:eE}{A:qC}{C:ml}{L:Code->St->(Ex->St->Prop)->Prop}{st:St}{ps:List Nat}{o:List Ob}{r:Option Nat}
def jl.pick(hb:B.E0.length=n0)(h:jl tt N B E Pp st a w)(d:(lg ps&&Cc n0 0 ps)=true):jl tt N B (ps.map λr=>E.getD r .row0) Pp (Cq ps st) a w:=by
 simp only[bI]at d;have gV:=pa d.1;have e:=Hs d.2;obtain⟨s,o⟩:=st;refine⟨h.wr.pick gV,?_,h.size,h.defers,?_,h.ua,h.fr,h.kV,?_⟩
 ·intro t;show VR tt _ Pp _ (look (A9 ps s) t);rw[yM];exact uG (λ_ _ _=>sg) 8 _ _ (h.gJ t)
 ·intro i x j;have m:i<n0:=by rw[<- hb];exact(dF.1 j).1
  have:=e i m;rw[fk]at this;rcases h.pre i x j with h1|⟨b,n,c,n',l,rfl,h1⟩
  ·exact .inl (rz this h1)
  ·exact .inr ⟨b,n,c,n',l,rfl,rz this h1⟩
 ·intro i q ri b k hl g f;obtain⟨r,p,a1,a2,a3,a4⟩:=rv h.wr k hl g;exact h.fresh r p ri b a2 a3 a4 f
def yJ{s:dS}(d:WR tt E Pp o w):∀b,own (ps.map λr=>E.getD r .row0) (Cq ps ⟨s,o⟩).o b->own E o b:=by rintro b ⟨i,q,ri,h1,h2,h3,h4⟩;obtain⟨r,o',a1,a2,a3,a4⟩:=rv d h1 h2 h3;exact⟨r,o',ri,a2,a3,a4,h4⟩
def Gu(I:α->St)(f:α->Prop)(k:α->Nat)(j:α)(h0:f j)(g:C7 n0 st (I j))
 (round:∀x,f x->xt P tt N n0 r c (I x) λe d=>match e with| .normal=>∃l,f l/\k l<k x/\C7 n0 d (I l)| .exit i=>Q (.exit i) d| .ret=>Q .ret d):xt P tt N n0 r (.loop c) st Q:=
 Em (C7 n0) (λ{B E Pp st n a w} hb h hk=>by obtain⟨ps,h1,h2⟩:=hk;exact⟨_,(h.pick hb h1).sub hb h2,λb m=>yJ h.wr b (h2.own b m)⟩) I f k j h0 g round
def Ctx.iC(X:Ctx P G A C L)
 (I:α->St) (d:α->Prop) (h:α->Nat) (g:α) (h0:d g) (f:C7 G.n0 st (I g))
 (round:∀x,d x->wa A G C L c (I x) λe b=>match e with| .normal=>∃j,d j/\h j<h x/\C7 G.n0 b (I j)| .exit i=>Q (.exit i) b| .ret=>Q .ret b):L (.loop c) st Q:=by
 obtain⟨rfl,rfl,⟨r,_,rfl⟩,k,l⟩:=X;exact Gu I d h g h0 f λx m=>v8 k l c _ _ (round x m)
def Qy(F:List Nat)(st:St):St:=match st with
 |⟨s,o⟩=>⟨pk F o s,gB F 0 o⟩
def MA(n0:Nat)(st b:St):Prop:=∃d F,C7 n0 (Qy F (sinks d st)) b
def Jo{F:List Nat}{b:Nat}(h:own E (gB F 0 o) b):own E o b:=by
 obtain⟨i,q,ri,h1,h2,h3,h4⟩:=h;rw[jP]at h1;cases d:o[i]? with
 |none=>rw[d]at h1;simp at h1
 |some x=>
  rw[d]at h1;simp only[cu,cr]at h1;refine⟨i,x,ri,d,?_,h3,h4⟩;cases hm:fP (0+i) F<;>rw[hm]at h1<;>simp only[cond_true,cond_false]at h1
  ·rw[h1];exact h2
  ·subst h1;cases x<;>simp_all[xi,Ob.live]
def jl.RV{d:St}(hb:B.E0.length=n0)(h:jl tt N B E Pp st a w)(hk:MA n0 st d):∃E' Pp',jl tt N B E' Pp' d a w/\∀b,own E' d.o b->own E st.o b:=by obtain⟨f,F,ps,h1,h2⟩:=hk;obtain⟨Pp1,g,q,p,k⟩:=DR f h.Ke h.gJ;generalize j:sinks f st=st1 at*;obtain⟨n,i⟩:=st1;have m:=g.qc F;have l:=vl g.wr (F:=F) p;have hs:=cY.Qg (st:=⟨pk F i n,gB F 0 i⟩) m l h.size h.defers;exact⟨_,_,(hs.pick hb h1).sub hb h2,λb e=>k b (Jo (yJ hs.wr b (h2.own b e)))⟩
def Gv(I:α->St)(m:α->Prop)(p:α->Nat)(n:α)(h0:m n)(s:MA n0 st (I n))
 (round:∀x,m x->xt P tt N n0 r c (I x) λe f=>match e with| .normal=>∃l,m l/\p l<p x/\MA n0 f (I l)| .exit i=>Q (.exit i) f| .ret=>Q .ret f):xt P tt N n0 r (.loop c) st Q:=by
 intro B E Pp a w hb hs;obtain⟨U,Pp1,y,R⟩:=hs.RV hb s;refine AJ (λx u w'=>∃E Pp,m x/\jl tt N (B.at u.defers) E Pp (I x) u w'/\Mk w a.defers E (I x).o u.defers w'/\w.heap.size<=w'.heap.size) p n ⟨U,Pp1,h0,y.at,Mk.none rfl,ca _⟩ ?_;rintro x a1 D ⟨E,Pp,S,hs,T,F⟩;refine wpIn_mono (round x S (B.here E Pp (I x).o a1.defers D) E Pp a1 D hb hs.here) ?_;rintro e a2 V ⟨J,j,E2,h,H,k,K,t,z⟩;have g:=jl.back (B:=B.at a1.defers) hs k;have b:=Mk.trans F T k K;have d:=bR F t;cases e<;>cases J<;>simp only[vq]at H
 ·obtain⟨l,h1,h2,h3⟩:=z;obtain⟨M,v,q,O⟩:=jl.RV (B:=B.at a2.defers) hb g h3;exact⟨l,⟨M,v,h1,q,b.sub O,d⟩,h2⟩
 ·subst H;exact⟨.exit _,j,E2,h,rfl,g,b,d,z⟩
 ·exact⟨.ret,j,E2,h,trivial,g,b,d,z⟩
def Ctx.K8(X:Ctx P G A C L)
 (I:α->St) (d:α->Prop) (h:α->Nat) (g:α) (h0:d g) (f:MA G.n0 st (I g))
 (round:∀x,d x->wa A G C L c (I x) λe b=>match e with| .normal=>∃j,d j/\h j<h x/\MA G.n0 b (I j)| .exit i=>Q (.exit i) b| .ret=>Q .ret b):L (.loop c) st Q:=by
 obtain⟨rfl,rfl,⟨r,_,rfl⟩,k,l⟩:=X;exact Gv I d h g h0 f λx m=>v8 k l c _ _ (round x m)
def Ctx.cut(X:Ctx P G A C L)
 (I:α->St) (i:α->Prop) {id:Nat}{g:Array Oper}{d:Bool}
 (h1:NB A G C id g d st λf=>∃x,i x/\C7 G.n0 f (I x)) (h2:∀x,i x->Q .normal (I x)):L (.region id g d) st Q:=by
 obtain⟨rfl,rfl,⟨r,_,rfl⟩,l,p⟩:=X;intro B E Pp a w hb hs;refine wpIn_mono (HG l p id g d st (λe f=>match e with| .normal=>∃x,i x/\C7 G.n0 f (I x)|_=>False) h1 B E Pp a w hb hs) ?_;rintro e n w' ⟨q,f,E',Pp',s,h,j,t,m⟩;cases q<;>simp only at m
 obtain⟨x,h3,ps,h4,h5⟩:=m;exact⟨.normal,I x,_,Pp',s,(jl.pick (B:=B.at n.defers) hb h h4).sub (B:=B.at n.defers) hb h5,j.sub (λb k=>yJ h.wr b (h5.own b k)),t,h2 x h3⟩
end
end
section
def jb:List Ob->Nat->List Nat
 |[],_=>[]
 | .row _ _ _::l,i=>i::jb l (i+1)
 |_::l,i=>jb l (i+1)
def M5(R:List Nat)(n j:Nat):Nat:=match sR R n j with|some k=>k|none=>j
def XG(f:Nat->Nat):Ob->Ob
 | .row _ _ _=>.dead
 |o=>o5 f o
def Pn(R:List Nat)(n:Nat)(objs:List Ob):List Ob:=iR (c9 (XG (M5 R n)) objs) (c9 (eT objs) R)
def wu(objs:List Ob)(args:List PV):St:=⟨pj 0 (c9 (rh (M5 (jb objs 0) (cv objs)) 8) args),Pn (jb objs 0) (cv objs) objs⟩
def Lv:Nat->Nat->List Nat
 |0,_=>[]
 |n+1,k=>k::Lv n (k+1)
def R1:Ob->List Nat
 | .box cs=>fo (o6 8) cs
 | .loop _ _ _ _ s _=>fo (λ(x:Nat×PV)=>o6 8 x.2) s
 |_=>[]
def ED(n0:Nat)(st:St)(v:PV):List Nat:=reach st.o 64 (iR (o6 8 v) (fo (λi=>R1 (eT st.o i)) (Lv n0 0))) (Lv n0 0)
def Gg(n0:Nat)(v:PV)(o:List Ob)(ps:List Nat)(K:PV->List Ob->Prop):Prop:=bif lg ps&&Cc n0 0 ps then K (jS ps 8 v) (c9 (λr=>j7 ps (eT o r)) ps)else False
def yq(G:eE)(n0:Nat)(b:List ResultVar)(st:St)(K:PV->List Ob->Prop):Prop:=match A2 G st b with
 |some v=>Gg n0 v st.o (ED n0 st v) K
 |none=>False
section
variable {P:Program}{tt:TypeId->Option TI}{G:eE}{N:Nat}{B:kk}{E:List RI}{Pp:ga}{objs:List Ob}{w:World}{st:St}{a:Act}
variable {fn:Func}{args oM:List PV}{K:PV->List Ob->Prop}{G:eE}{f:FuncId}{c1 c2 m:Code}{ps:List Nat}{objs:List Ob}{n:Nat}{A:qC}{C:ml}{L:Code->St->(Ex->St->Prop)->Prop}{g:Operand}{Q:Ex->St->Prop}
def pV:∀(l:List Ob)(k r:Nat),r∈jb l k↔∃i e d wr,r=k+i/\l[i]? =some (.row e d wr)
 |[],k,r=>by simp[jb]
 |o::l,k,r=>by
  have b:=pV l (k+1) r
  have key:(∃i e d wr,r=k+i/\(o::l)[i]? =some (.row e d wr))↔((∃e d wr,r=k/\o= .row e d wr)\/∃i e d wr,r=k+1+i/\l[i]? =some (.row e d wr)):=by
   constructor
   ·rintro⟨i,e,d,wr,h1,h2⟩;cases i with
    |zero=>exact .inl ⟨e,d,wr,h1,yU h2⟩
    |succ i=>exact .inr ⟨i,e,d,wr,yO,yU h2⟩
   ·rintro(⟨e,d,wr,h1,h2⟩|⟨i,e,d,wr,h1,h2⟩)
    ·exact⟨0,e,d,wr,h1,by simp[h2]⟩
    ·exact⟨i+1,e,d,wr,yO,yU h2⟩
  rw[key,<-b];cases o<;>simp[jb]
def FW:∀(l:List Ob)(k r:Nat),r∈jb l k->k<=r:=by intro l k r h;obtain⟨i,_,_,_,h1,_⟩:=(pV l k r).1 h;omega
def uD:∀(l:List Ob)(k:Nat),(jb l k).Nodup
 |[],_=>ud
 |o::l,k=>by
  have b:=uD l (k+1);cases o<;>simp only[jb]<;>first|exact b|skip
  rw[cn];exact⟨λh=>by have:=FW l (k+1) k h;omega,b⟩
def WR.mv(hw:WR tt E Pp objs w):∃E1,qA E E1/\(∀(i:Nat) x,E[i]? =some x->E1[M5 (jb objs 0) (cv objs) i]? =some x)/\WR tt E1 Pp (Pn (jb objs 0) (cv objs) objs) w/\
 ∀b,own E1 (Pn (jb objs 0) (cv objs) objs) b->own E objs b:=by
 generalize hR:jb objs 0=R;have UR:R.Nodup:=hR▸uD objs 0;have Sm:∀r∈R,∃e d wr,objs[r]? =some (.row e d wr):=by intro r hr;rw[<- hR]at hr;obtain⟨i,e,d,wr,h1,h2⟩:=(pV objs 0 r).1 hr;rw[h1,fk];exact⟨e,d,wr,h2⟩
 have XL:∀i e d wr,objs[i]? =some (.row e d wr)->i∈R:=by intro i e d wr h;rw[<- hR];exact(pV objs 0 i).2 ⟨i,e,d,wr,yO,h⟩
 have hl:=hw.len;rw[cX];have Ur:∀(i:Nat) x,E[i]? =some x->(E++R.map λr=>E.getD r .row0)[i]? =some x:=λi x h=>iQ h;have UT:∀(k r:Nat) x,R[k]? =some r->E[r]? =some x->(E++R.map λr=>E.getD r .row0)[objs.length+k]? =some x:=by intro k r x hk hx;rw[<- hl];exact pz (rz hk hx)
 have hf:∀(i:Nat) x,E[i]? =some x->(E++R.map λr=>E.getD r .row0)[M5 R objs.length i]? =some x:=by
  intro i x hx;unfold M5;split
  ·rename_i k hk;obtain⟨j,rfl,hj⟩:=wy hk;exact UT j i x hj hx
  ·exact Ur i x hx
 have Mg:∀(i:Nat) o,(Pn R objs.length objs)[i]? =some o->o.live=true->(i<objs.length/\∃o',objs[i]? =some o'/\o'.live=true/\(∀e d wr,o'≠ .row e d wr)/\o=o5 (M5 R objs.length) o')\/
  ∃k r,i=objs.length+k/\R[k]? =some r/\objs[r]? =some o/\∃e d wr,o= .row e d wr:=by
  intro i o ho Rt;unfold Pn at ho;rw[fK]at ho;rcases kq ho with⟨h1,h2⟩|⟨k,h1,h2⟩
  ·rw[iv,bQ]at h1;rw[iv,cw]at h2;cases hx:objs[i]? with
   |none=>rw[hx]at h2;simp at h2
   |some o'=>rw[hx]at h2;simp only[cu,cr]at h2;refine .inl ⟨h1,o',rfl,?_⟩;cases o'<;>simp only[XG]at h2<;>subst h2<;>first|(simp[o5,Ob.live]at Rt;done)|exact⟨rfl,(λ_ _ _ h=>yC h),rfl⟩
  ·rw[iv,bQ]at h1;rw[iv,cw]at h2;cases hx:R[k]? with
   |none=>rw[hx]at h2;simp at h2
   |some r=>
    rw[hx]at h2;simp only[cu,cr]at h2;obtain⟨e,d,wr,hr⟩:=Sm r (fv hx);have hg:eT objs r= .row e d wr:=by rw[sA];simp[cj,hr]
    rw[hg]at h2;subst h2;exact .inr ⟨k,r,h1,hx,hr,e,d,wr,rfl⟩
 have src:∀(i:Nat) o ri,(Pn R objs.length objs)[i]? =some o->o.live=true->(E++R.map λr=>E.getD r .row0)[i]? =some ri->∃j o',objs[j]? =some o'/\o'.live=true/\E[j]? =some ri/\
  ((i=j/\i<objs.length/\∀e d wr,o'≠ .row e d wr)\/∃k e d wr,i=objs.length+k/\R[k]? =some j/\o'= .row e d wr):=by
  intro i o ri ho Rt Rs;rcases Mg i o ho Rt with⟨h1,o',h2,h3,h4,_⟩|⟨k,r,rfl,h2,h3,e,d,wr,rfl⟩
  ·obtain⟨ri',LD,_⟩:=hw.ob i o' h2 h3;have:=Ur i ri' LD;rw[Rs]at this;cases this;exact⟨i,o',h2,h3,LD,.inl ⟨rfl,h1,h4⟩⟩
  ·obtain⟨ri',LD,_⟩:=hw.ob r _ h3 rfl;have:=UT k r ri' h2 LD;rw[Rs]at this;cases this;exact⟨r,_,h3,rfl,LD,.inr ⟨k,e,d,wr,rfl,h2,rfl⟩⟩
 refine⟨E++R.map λr=>E.getD r .row0,.of Ur,hf,⟨?_,hw.pi,?_,?_,hw.gl⟩,?_⟩
 ·simp[Pn,fK,iv,hl]
 ·intro i o ho Rt;rcases Mg i o ho Rt with⟨h1,o',h2,h3,h4,rfl⟩|⟨k,r,rfl,h2,h3,e,d,wr,rfl⟩
  ·obtain⟨ri,Rs,UO⟩:=hw.ob i o' h2 h3;exact⟨ri,Ur i ri Rs,OR.o5 hf Rt UO⟩
  ·obtain⟨ri,Rs,UO⟩:=hw.ob r _ h3 rfl;exact⟨ri,UT k r ri h2 Rs,UO.goes rfl rfl⟩
 ·intro i j oi oj ri rj b hi hj Ym Yl Yq Yp Yo Yn;obtain⟨i',Yi,h1,h2,h3,h4⟩:=src i oi ri hi Ym Yq;obtain⟨j',Yh,k1,k2,k3,k4⟩:=src j oj rj hj Yl Yp;have:=hw.sep i' j' Yi Yh ri rj b h1 k1 h2 k2 h3 k3 Yo Yn;subst this;rw[h1]at k1;cases k1;rcases h4 with⟨rfl,_,h5⟩|⟨k,e,d,wr,rfl,h6,rfl⟩<;>rcases k4 with⟨rfl,_,k5⟩|⟨k',e',d',Z6,rfl,k6,e1⟩
  ·rfl
  ·exact absurd e1 (h5 _ _ _)
  ·exact absurd rfl (k5 _ _ _)
  ·rw[Gi UR h6 k6]
 ·rintro b ⟨i,o,ri,h1,h2,h3,h4⟩;obtain⟨j,o',k1,k2,k3,_⟩:=src i o ri h1 h2 h3;exact⟨j,o',ri,k1,k2,k3,h4⟩
 where Gi {l:List Nat} (h:l.Nodup) {i j x:Nat} (hi:l[i]? =some x) (hj:l[j]? =some x):i=j:=
 (O5 (dF.1 hi).1 h).1 (hi.trans hj.symm)
def Qd(t:fn.ntmps=G.n)(c:nE (cv args) G.n=true):∀E Pp w vals,WR G.tt E Pp objs w->fe G.tt E Pp vals args->∃d,jl G.tt G.n { w0:=w,E0:=E,P0:=Pp,o9:=own E objs } d Pp (wu objs args) ⟨(⟨vals⟩:Array Value)++kX (fn.ntmps-(⟨vals⟩:Array Value).size) undef,[]⟩ w:=by intro E Pp w vals j e;have l:=e.length;rw[cX]at c;have p:=eO c;obtain⟨d,h1,h2,h3,h4⟩:=j.mv;exact⟨d,h3,EK (yu h2 e),yQ,rfl,h1,λ_ _ h=>h,Fr.refl _ _,λad v h=>.inl h,λi o ri b q s r k=>.inr (h4 b ⟨i,o,ri,q,s,r,k⟩)⟩
def HP{v:Value}{pv:PV}{E':List RI}{Pp':ga}{w':World}{o':List Ob}{d:List Deferred}{s':dS}{i:Act}(c:WR tt E Pp objs w)
 (hs:jl tt N { w0:=w,E0:=E,P0:=Pp,o9:=own E objs,d0:=d } E' Pp' ⟨s',o'⟩ i w') (e:VR tt E' Pp' v pv) (h:Gg objs.length pv o' ps K):nQ tt E Pp objs w K (.returned v) w':=by
 unfold Gg at h;cases hb:(lg ps&&Cc objs.length 0 ps)with
 |false=>rw[hb]at h;exact h.elim
 |true=>rw[hb]at h;have b:=hs.pick (n0:=objs.length) c.len hb;simp only[bI]at hb;exact⟨v,_,Pp',_,_,rfl,b.pre,b.ua,b.wr,uG (λ_ _ _=>sg) 8 _ _ e,h,b.fr,b.kV,b.fresh⟩
def FC.sC(i:fp P G.tt)(o:P.follows .mixedOrders=true){c:Code}(hf:Has P f fn c)(s:fn.ntmps=G.n)(b:cv objs=G.n0)(l:nE (cv args) G.n=true)
 (h:∀(A:qC)(C:ml)(L:Code->St->(Ex->St->Prop)->Prop),Ctx P G A C L->
   wa A G C L c (wu objs args) λe st=>match e with| .exit _=>False|_=>yq G G.n0 fn.results.toList st K):FC P G.tt f objs args K:=by
 rw[cX]at b;refine G9 i o hf.name hf.f hf.b b _ (Qd s l) (h _ _ _ ⟨rfl,rfl,⟨_,λ_=>rfl,rfl⟩,i,o⟩) ?_;intro E Pp w E' Pp' k t w' d q hr j;unfold yq at hr;split at hr
 ·rename_i p r;obtain⟨v,h1,h2⟩:=yt i j r;rw[<- b]at hr;exact⟨v,h1,HP q (s':=k.s) (o':=k.o) j h2 hr⟩
 ·exact hr.elim
def setArgs:dS->List Nat->List PV->dS
 |s,t::ts,p::ps=>setArgs ((t,p)::s) ts ps
 |s,_,_=>s
def yp(s:dS)(ps:List Nat)(objs:List Ob)(args:List PV):St:=⟨setArgs (IQ (M5 (jb objs 0) (cv objs)) s) ps (c9 (rh (M5 (jb objs 0) (cv objs)) 8) args),Pn (jb objs 0) (cv objs) objs⟩
def lT(st:St)(j:LS)(b:LS)(K:St->Prop):Prop:=match eT st.o 0 with
 | .loop n ps c1 c2 s i=>(match i,j with
  | .ready,.ready=>K ⟨st.s,ja st.o 0 (.loop n ps c1 c2 s b)⟩
  | .busy,.busy=>K ⟨st.s,ja st.o 0 (.loop n ps c1 c2 s b)⟩
  |_,_=>False)
 |_=>False
def KE(n0:Nat)(e:Ex)(st:St)(K:PV->List Ob->Prop):Prop:=match e with
 | .normal=>lT st .busy .ready λst=>Gg n0 (.bl true) st.o (ED n0 st (.bl true)) K
 | .ret=>lT st .busy (.done .ret) λst=>Gg n0 (.bl false) st.o (ED n0 st (.bl false)) K
 | .exit id=>lT st .busy (.done (.exit id)) λst=>Gg n0 (.bl false) st.o (ED n0 st (.bl false)) K
def C4(n:Nat):List Nat->Bool
 |[]=>true
 |x::l=>jv x n&&C4 n l
def yh{E:List RI}{Pp:ga}:∀(ps:List Nat)(args:List PV)(vals:List Value)(tmps:Array Value)(s:dS),(∀t,VR tt E Pp (tmps.getD t undef) (look s t))->fe tt E Pp vals args->ps.length=args.length->(∀t∈ps,t<tmps.size)->
 (∀t,VR tt E Pp (((ps.zip vals).foldl (λ(tmps:Array Value) (x:Nat×Value)=>tmps.setIfInBounds x.1 x.2) tmps).getD t undef) (look (setArgs s ps args) t))/\((ps.zip vals).foldl (λ(tmps:Array Value) (x:Nat×Value)=>tmps.setIfInBounds x.1 x.2) tmps).size=tmps.size
 |[],[],_,tmps,s,hs,c,_,_=>by cases c;exact⟨hs,rfl⟩
 |p::ps,q::args,_,tmps,s,hs,c,hl,da=>by
  cases c with
  |cons v _ vals _ d b=>
   have i:=da p yS
   have:=yh ps args vals (tmps.setIfInBounds p v) ((p,q)::s) (by
    intro t;rw[kO];simp only[cS,AI];split
    ·rename_i e;subst e;simp[i];exact d
    ·rename_i e;simpa only[cS]using hs t) b (yU hl) (λt j=>by simpa using da t (by simp[j]))
   refine⟨this.1,this.2.trans yS⟩
 |[],_::_,_,_,_,_,_,h,_=>yE h
 |_::_,[],_,_,_,_,_,h,_=>yE h
def jl.lT{B:kk}{w:World}{j p:LS}{K:St->Prop}(h:jl tt N B E Pp st a w)(hc:VC.lT st j p K):∃(l:Nat) (r:Loop) (d:St),E[0]? =some (.loop l)/\w.heap[l]? =some (.loop r)/\K d/\d.s=st.s/\
 PD j r.state/\∀(z:LoopState)(p2:Option Code),Tw p z p2->jl tt N B E Pp d a (w.putObj l (.loop { r with state:=z,pending:=p2 })):=by
 unfold VC.lT at hc;split at hc
 ·rename_i n ps c1 c2 s i H;have c:=dB H rfl;obtain⟨ri,o,u⟩:=h.wr.ob 0 _ c rfl;cases ri<;>try exact u.elim
  rename_i l;obtain⟨r,h1,h2,h3⟩:=u
  have x:PD j r.state/\K ⟨st.s,ja st.o 0 (.loop n ps c1 c2 s p)⟩:=by
   split at hc
   ·exact⟨h2.state.1,hc⟩
   ·exact⟨h2.state,hc⟩
   ·exact hc.elim
  refine⟨l,r,⟨st.s,ja st.o 0 (.loop n ps c1 c2 s p)⟩,o,h1,x.2,rfl,x.1,?_⟩
  ·intro z p2 y;generalize t:({ r with state:=z,pending:=p2 }:Loop)=r2
   have da:l<w.heap.size:=by
    rcases cb l w.heap.size with D|D
    ·exact D
    ·simp[dJ D]at h1
   have I:=cF c;have same:∀k,k≠l->(w.putObj l (.loop r2)).heap[k]? =w.heap[k]? :=λk hk=>World.putObj_heap_other hk;refine cY.Qg (st:=⟨st.s,ja st.o 0 (.loop n ps c1 c2 s p)⟩) ?_ h.gJ h.size h.defers;simp only[gO];refine h.Ke.x7 c rfl o rfl (λ_ _=>rfl) o (.inl (.refl _)) yS ?_ (by rw[dh I]) (λ_=>?_) rfl rfl rfl (by simp[World.putObj]) ?_ (λ_ _ h=>h) (λ_ _ h=>.inl h) (λ_ hb=>.inl hb) ?_
   ·intro j oj M q J;rw[cc (eh M)]at q;exact⟨oj,q,J,λ_ _ h=>h⟩
   ·refine⟨r2,World.putObj_heap_same da,?_,?_⟩
    ·rw[<- t];exact⟨h2.size,h2.params,h2.assign,h2.body,y⟩
    ·rw[<- t];exact h3
   ·intro b _ F;exact same b (λe=>F (by rw[e];rfl))
   ·intro ad v O;have hc:=h.wr.pi ad v O;rw[iu (same ad.block ?_)]
    ·exact hc
    ·intro e;simp[pc,e,h1]at hc
 ·exact hc.elim
def YC.enter(z:fp P G.tt)(hm:P.follows .mixedOrders=true)(M:G.Nz=true){s:dS}{os:List Ob}(hN:nb n G.n=true)(F:nb (cv os+1) G.n0=true)(p:nb (cv args) (cv ps)=true)(da:C4 n ps=true)
 (h:∀(A:qC)(C:ml)(L:Code->St->(Ex->St->Prop)->Prop),Ctx P G A C L->
   wa A G C L c1 (yp s ps (.loop n ps c1 c2 s .ready::os) args) λe st=>match e with
    | .normal=>lT st .ready .busy λst=>wa A G C L c2 st λe st=>KE G.n0 e st K
    |_=>False):YC P G.tt (.loop n ps c1 c2 s .ready::os) args K:=by
 intro E Pp w vals l rec R hE U hv;obtain⟨ri,W,ag⟩:=R.ob 0 _ rfl rfl;rw[hE]at W;cases W;obtain⟨aq,h1,h2,h3⟩:=ag;rw[U]at h1;cases h1;have hN:=dH hN;have F:=dH F;have p:=dH p;rw[cX]at F;rw[cX,cX]at p;have ax:ps.length=rec.params.size:=by rw[<- h2.params];simp
 have aB:=hv.length;refine⟨yO,?_⟩;obtain⟨E1,q1,q2,q3,q4⟩:=R.mv
 have V:∀(l:List Nat),C4 n l=true->∀t∈l,t<n:=by
  intro l;induction l with
  |nil=>intro _ t u;simp at u
  |cons x l ih=>
   intro h t u;simp only[C4,bI]at h;rcases bP.1 u with rfl|u
   ·exact eO h.1
   ·exact ih h.2 t u
 have O:=yh (tt:=G.tt) (E:=E1) (Pp:=Pp) ps (c9 (rh (M5 (jb (.loop n ps c1 c2 s .ready::os) 0) (cv (.loop n ps c1 c2 s .ready::os))) 8) args) vals rec.tmps (IQ (M5 (jb (.loop n ps c1 c2 s .ready::os) 0) (cv (.loop n ps c1 c2 s .ready::os))) s)
  (λt=>by rw[A3];exact xC q2 8 _ _ (h3 t)) (yu q2 hv) (by rw[gq];omega) (λt u=>by rw[h2.size];exact V ps da t u)
 have D:(rec.params.zip (⟨vals⟩:Array Value)).foldl (λtmps (t,a)=>tmps.setIfInBounds t a) rec.tmps=(ps.zip vals).foldl (λ(tmps:Array Value) (x:Nat×Value)=>tmps.setIfInBounds x.1 x.2) rec.tmps:=by rw[<- wM,Array.toList_zip,h2.params]
 rw[D];obtain⟨rfl,rfl⟩:rec.assign=c1/\rec.body=c2:=⟨h2.assign,h2.body⟩;refine roundIn_of_wpIn trivial ?_;have ae:jl G.tt G.n { w0:=w,E0:=E,P0:=Pp,o9:=own E (.loop n ps rec.assign rec.body s .ready::os) } E1 Pp (yp s ps (.loop n ps rec.assign rec.body s .ready::os) args) ⟨(ps.zip vals).foldl (λ(tmps:Array Value) (x:Nat×Value)=>tmps.setIfInBounds x.1 x.2) rec.tmps,[]⟩ w:=⟨q3,O.1,by rw[O.2,h2.size,hN],rfl,q1,λ_ _ h=>h,Fr.refl _ _,λad v h=>.inl h,λi o ri b r1 r2 r3 r4=>.inr (q4 b ⟨i,o,ri,r1,r2,r3,r4⟩)⟩;have y:E.length=G.n0:=by rw[R.len];simp;omega
 have hX:Ctx P G Std (xP P G.tt) (λc st Q=>xt P G.tt G.n G.n0 (some l) c st Q):=⟨rfl,rfl,⟨some l,(λh=>by rw[M]at h;cases h),rfl⟩,z,hm⟩;have I:∀{B:kk}{E':List RI}{Pp':ga}{T:St}{a':Act}{w':World},B.E0=E->jl G.tt G.n B E' Pp' T a' w'->E'[0]? =some (.loop l):=by intro B E' Pp' T a' w' hB hs;have:=hs.pre;rw[hB]at this;exact this.loop hE
 refine wpIn_mono (v8 (r:=some l) z hm _ _ _ (h _ _ _ hX) _ E1 Pp _ w y ae) ?_;rintro e a1 w1 ⟨Z,az,E2,ab,Y,S,_,_,X⟩;cases e<;>cases Z<;>simp only[vq]at Y<;>try exact X.elim
 obtain⟨l1,r1,an,b1,b2,b3,_,b5,b6⟩:=S.lT X;have:=I rfl S;rw[b1]at this;cases this;refine⟨_,run_beginRound b2 b5,?_⟩;have ah:=b6 .busy r1.pending rfl;refine wpIn_mono (v8 (r:=some l) z hm _ _ _ b3 _ E2 ab _ _ y ah.at) ?_;rintro e a2 w2 ⟨Z,ac,E3,aE,Y,J,_,_,H⟩
 have k:∀(j:LS)(d:Option Code)(b:Bool),(match j with| .ready=>d=none| .done c=>d=some c| .busy=>False)->(b=d.isNone)->lT ac .busy j (λst=>Gg G.n0 (.bl b) st.o (ED G.n0 st (.bl b)) K)->
  ∃v w',(Instr.endRound l d).run P w2= .ok v w'/\nQ G.tt E Pp (.loop n ps rec.assign rec.body s .ready::os) w K (.returned v) w':=by
  intro j d b hj hb X;subst hb;obtain⟨l2,r2,q,d1,d2,d3,_,d5,d6⟩:=J.lT X;have:=I rfl J;rw[d1]at this;cases this;refine⟨_,_,run_endRound d d2,?_⟩
  have af:=d6 (if d.isNone then .ready else .done) d (by
   cases j<;>simp only at hj
   ·subst hj;exact⟨rfl,rfl⟩
   ·subst hj;exact⟨rfl,rfl⟩)
  rw[<- y,R.len]at d3;exact HP R (s':=q.s) (o':=q.o) af (.bl _) d3
 cases e<;>cases Z<;>simp only[vq]at Y
 ·exact k .ready none true rfl rfl H
 ·subst Y;exact k (.done (.exit _)) (some (.exit _)) false rfl rfl H
 ·exact k (.done .ret) (some .ret) false rfl rfl H
def Ctx.round(X:Ctx P G A C L)(h:YC P G.tt objs args K):C .lS objs args K:=by rw[X.c];exact h
def yv(n:Nat)(st:St)(Q:Ex->St->Prop):Prop:=match eT st.o n with
 | .loop _ _ _ _ _ j=>(match j with
  | .ready=>Q .normal ⟨st.s,ja st.o n .dead⟩
  | .done .ret=>Q .ret ⟨st.s,ja st.o n .dead⟩
  | .done (.exit id)=>Q (.exit id) ⟨st.s,ja st.o n .dead⟩
  |_=>False)
 |_=>False
def F1(G:eE)(C:ml)(f:FuncId)(oM:List PV)(ps:Array Tmp)(c1 c2:Code)(c:dS)(st:St)(Q:Ex->St->Prop):Prop:=CA C (.fn f) (.lS (cv st.o)::oM) st.s (iR st.o [.loop G.n ps.toList c1 c2 c .ready]) λ_ b=>yv (cv st.o) b Q
def cY.L3{l:Nat}{ob:Ob}{r2:Loop}(h:cY tt B E Pp objs w)(q:objs[n]? =some ob)(o:E[n]? =some (.loop l))(hl:ob.live=true):cY tt B E Pp (objs.set n .dead) (w.putObj l (.loop r2)):=by
 obtain⟨ri,i,d⟩:=h.wr.ob n _ q hl;rw[o]at i;cases i;have u:∃k ps c1 c2 s j,ob= .loop k ps c1 c2 s j:=by cases ob<;>first|exact⟨_,_,_,_,_,_,rfl⟩|exact d.elim
 obtain⟨k,ps,c1,c2,s,j,rfl⟩:=u;obtain⟨r,h1,_⟩:=d;have p:=cF q;have same:∀k,k≠l->(w.putObj l (.loop r2)).heap[k]? =w.heap[k]? :=λk hk=>World.putObj_heap_other hk;refine h.x7 (o':=.dead) q rfl o rfl (λ_ _=>rfl) o (.inl (.refl _)) yS ?_ (by rw[dh p]) (λh=>yC h) rfl rfl rfl (by simp[World.putObj]) ?_ (λ_ _ h=>h) (λ_ _ h=>.inl h) (λ_ hb=>.inl hb) ?_
 ·intro j oj y c x;rw[cc (eh y)]at c;exact⟨oj,c,x,λ_ _ h=>h⟩
 ·intro b _ t;exact same b (λe=>t (by rw[e];rfl))
 ·intro ad v z;have hc:=h.wr.pi ad v z;rw[iu (same ad.block ?_)]
  ·exact hc
  ·intro e;simp[pc,e,h1]at hc
def cY.compose{j:World}{E2:List RI}{d:ga}{l:List Ob}(h:cY tt B E Pp objs w)(k:cY tt { w0:=w,E0:=B.E0,P0:=Pp,o9:=own E objs } E2 d l j):cY tt B E2 d l j:=by
 have c:∀b,own E objs b->B.w0.heap.size<=b\/B.o9 b:=λb ⟨i,o,ri,h1,h2,h3,h4⟩=>h.fresh i o ri b h1 h2 h3 h4;refine⟨k.wr,k.pre,λad v e=>k.ua ad v (h.ua ad v e),?_,?_,?_⟩
 ·refine h.fr.trans k.fr (λx p q=>?_);have p:x<B.w0.heap.size:=p;rcases c x q with h1|h1
  ·omega
  ·exact h1
 ·intro ad v e;rcases k.kV ad v e with h1|h1|h1
  ·exact h.kV ad v h1
  ·exact .inr (.inl (bR h.fr.size h1))
  ·exact .inr (c _ h1)
 ·intro i o ri b h1 h2 h3 h4;rcases k.fresh i o ri b h1 h2 h3 h4 with h5|h5
  ·exact .inl (bR h.fr.size h5)
  ·exact c _ h5
def F2{ps:Array Tmp}(hg:ev st.s g= .cy f oM)(hf:Has P f fn m)(aw:jv f lR=true){S:dS}(aD:IA st.s S)
 (hk:F1 G (xP P G.tt) f oM ps c1 c2 S st Q):xt P G.tt G.n G.n0 none (.rangeFunc g ps c1 c2) st Q:=by
 intro B E Pp a w hb hs;have af:=ff hs.gJ g;rw[hg]at af;generalize au:a.eval g=vg at af;cases af with
 |cy _ _ vs _ hu ac=>
 obtain rfl:=hu.get aw;have an:=hs.wr.len;refine wpIn_rangeFunc (F:=sB none) λam _=>?_;generalize I:({ state:=.ready,pending:=none,fn:=am,tmps:=a.tmps,params:=ps,assign:=c1,body:=c2,defers:=w.heap.size }:Loop)=rec;generalize u:(w.alloc (.deferred (some []))).alloc (.loop rec)=q;have aI:q.heap.size=w.heap.size+2:=by rw[<- u];simp
 have aC:q.heap[w.heap.size]? =some (.deferred (some [])):=by rw[<- u,RowKit.Below.heap_alloc _ _ _ yS];exact eM w _
 have ax:q.heap[w.heap.size+1]? =some (.loop rec):=by have:=eM (w.alloc (.deferred (some []))) (.loop rec);rw[u]at this;simpa using this
 have y:∀(i:Nat) x,E[i]? =some x->(E++[RI.loop (w.heap.size+1)])[i]? =some x:=mem_push
 have h1:cY G.tt B (E++[.loop (w.heap.size+1)]) Pp (st.o++[.loop G.n ps.toList c1 c2 S .ready]) q:=by
  have ha:=hs.Ke.alloc (.deferred (some []));have:=ha.new (x:=.loop rec) (ri:=.loop (w.heap.size+1)) (o:=.loop G.n ps.toList c1 c2 S .ready) (by simp[RI.du]) ?_
  ·rw[u]at this;exact this
  ·refine⟨rec,?_,?_,?_⟩
   ·rw[u];exact ax
   ·subst I;exact⟨hs.size,rfl,rfl,rfl,rfl,rfl⟩
   ·intro t;have:rec.tmps=a.tmps:=by subst I;rfl
    rw[this];exact xD (sb aD t) ((hs.gJ t).mono y (λ_ _ h=>h))
 have z:∀t,VR G.tt (E++[.loop (w.heap.size+1)]) Pp (a.tmps.getD t undef) (look st.s t):=λt=>(hs.gJ t).mono y (λ_ _ h=>h);have Z:(E++[RI.loop (w.heap.size+1)])[st.o.length]? =some (.loop (w.heap.size+1)):=by rw[<- an];simp
 have hv:fe G.tt (E++[.loop (w.heap.size+1)]) Pp (.func (.yield (w.heap.size+1)) #[] #[]::vs) (.lS (cv st.o)::oM):=.cons _ _ _ _ (.lS _ _ (by rw[cX];exact Z)) (ac.mono y (λ_ _ h=>h));unfold F1 CA at hk;rw[fK]at hk;generalize hF:reach (st.o++[.loop G.n ps.toList c1 c2 S .ready]) 64 (fo (o6 8) (.lS (cv st.o)::oM)) []=F at hk;unfold wv at hk;cases H:(lg F&&iw (λr=>jv r (cv (st.o++[.loop G.n ps.toList c1 c2 S .ready]))) F)with
 |false=>rw[H]at hk;exact hk.elim
 |true=>
 rw[H]at hk;simp only[bI,cX]at H;have aa:cY G.tt { w0:=q,E0:=B.E0,P0:=Pp,o9:=own (E++[.loop (w.heap.size+1)]) (st.o++[.loop G.n ps.toList c1 c2 S .ready]) } (E++[.loop (w.heap.size+1)]) Pp (st.o++[.loop G.n ps.toList c1 c2 S .ready]) q:=⟨h1.wr,h1.pre,λ_ _ h=>h,Fr.refl _ _,λ_ _ h=>.inl h,λi o ri b q1 q2 q3 W=>.inr ⟨i,o,ri,q1,q2,q3,W⟩⟩;have hl:=Cz (st:=st) (a:=a) (K:=λ_ l=>yv (cv st.o) l Q) aa z hv (pa H.1) (Mw H.2);have ae:=hk _ _ q (.func (.yield (w.heap.size+1)) #[] #[]::vs) hl.1 hl.2.1;rcases ae with⟨_,U⟩|⟨v,w',X,_⟩
 case inr=>rw[pr hf.f hf.b hf.name]at X;cases X
 refine⟨w.heap.size+1,[Qq w.heap.size],q,{ target:=.fn (.func f) ⟨vs⟩,args:= #[.func (.yield (w.heap.size+1)) #[] #[]] },q,f,⟨.func (.yield (w.heap.size+1)) #[] #[]::vs⟩,q,?_,?_,λ_ _=>trivial,?_,λh=>by simp[sB,Fence.wide]at h,?_⟩
 ·have:=run_enterLoop_outer (P:=P) (w:=w) am a.tmps ps c1 c2;rw[I,u]at this;exact this
 ·have he:(#[Operand.const (.func (.yield (w.heap.size+1)) #[] #[])]:Array Operand).map a.eval= #[.func (.yield (w.heap.size+1)) #[] #[]]:=by simp[Act.eval]
  simp[resolve,rangeCall,au,Deferred.ofValue,he]
 ·have:=pr (w:=q) (vals:=.func (.yield (w.heap.size+1)) #[] #[]::vs) hf.f hf.b hf.name;simpa[invoke]using this
 ·refine(xo U).mono ?_;intro e R hq;obtain⟨v,pv,s',o',E',Pp',rfl,_,q3,W,T,q6,q7,q8⟩:=hl.2.2 e R hq;have ad:cY G.tt B E' Pp' o' R:=h1.compose W;have V:E'[st.o.length]? =some (.loop (w.heap.size+1)):=q7.loop Z
  have ap:R.heap[w.heap.size]? =some (.deferred (some []))/\¬own E' o' w.heap.size:=by
   have ai:¬own (E++[.loop (w.heap.size+1)]) (st.o++[.loop G.n ps.toList c1 c2 S .ready]) w.heap.size:=by
    rintro⟨i,o,ri,O,r2,p,r4⟩;rcases kq O with⟨t1,t2⟩|⟨j,rfl,t2⟩
    ·rw[bU yO]at p;have:=oD hs.wr ⟨i,o,ri,t2,r2,p,r4⟩;omega
    ·cases j with
     |zero=>simp only[iS]at p;rw[Z]at p;cases p;simp only[RI.du,cr]at r4;omega
     |succ j=>simp at t2
   refine⟨(W.fr.block _ (by show w.heap.size<q.heap.size;omega) ai).trans aC,?_⟩;rintro⟨i,o,ri,O,r2,p,r4⟩;rcases W.fresh i o ri _ O r2 p r4 with r5|r5
   ·have r5:q.heap.size<=w.heap.size:=r5;omega
   ·exact ai r5
  unfold yv at T;rw[cX]at T;split at T
  ·rename_i n' aR aL aQ s' j az;have J:=dB az rfl;obtain⟨ri,aq,aE⟩:=W.wr.ob _ _ J rfl;rw[V]at aq;cases aq;obtain⟨p,t1,t2,_⟩:=aE;subst q8
   have s:∀(D:Option Code),p.state≠ .busy->p.pending=D->∀(e4:Exit)(M:Ex),vq e4 M->Q M ⟨st.s,ja o' st.o.length .dead⟩->
    (∀(Q':Exit->Act->World->Prop)(a4:Act)(w4:World),Q' e4 a4 w4->match D with|none=>Q' .normal a4 w4|some c=>c.wpIn (sB none) 0 P Q' a4 w4)->
    rangePost (sB none) 0 P (w.heap.size+1) (λe a' w'=>∃M l E' Pp',vq e M/\jl G.tt G.n (B.at a'.defers) E' Pp' l a' w'/\Mk w a.defers E' l.o a'.defers w'/\w.heap.size<=w'.heap.size/\Q M l) { a with defers:=[Qq w.heap.size]++a.defers } (.returned v) R:=by
    intro D av Y e4 M ay hQ aF;subst Y;have ak:=run_endLoop (P:=P) t1 av;have k:=ad.L3 (r2:={ p with state:=.exhausted }) J V rfl;rw[<- gO]at k;have ao:jl G.tt G.n (B.at ([Qq w.heap.size]++a.defers)) E' Pp' ⟨st.s,ja o' st.o.length .dead⟩ { a with defers:=[Qq w.heap.size]++a.defers } (R.putObj (w.heap.size+1) (.loop { p with state:=.exhausted })):=⟨k.wr,q3,hs.size,rfl,k.pre,k.ua,k.fr,k.kV,k.fresh⟩
    have aG:Mk w a.defers E' (ja o' st.o.length .dead) ([Qq w.heap.size]++a.defers) (R.putObj (w.heap.size+1) (.loop { p with state:=.exhausted })):=by
     refine⟨[w.heap.size],rfl,yS,λb al=>?_⟩;rw[cU]at al;subst al;have hz:q.heap.size<=R.heap.size:=W.fr.size;refine⟨ca _,by simp[World.putObj];omega,?_,?_⟩
     ·rw[World.putObj_heap_other yO];exact ap.1
     ·rintro⟨i,o,ri,O,r2,p,r4⟩;rw[gO]at O;by_cases hi:i=st.o.length
      ·subst hi;rw[dh (cF J)]at O;cases O;simp[Ob.live]at r2
      ·rw[cc (eh hi)]at O;exact ap.2 ⟨i,o,ri,O,r2,p,r4⟩
    have hz:w.heap.size<=(R.putObj (w.heap.size+1) (.loop { p with state:=.exhausted })).heap.size:=by have hz:q.heap.size<=R.heap.size:=W.fr.size;simp[World.putObj];omega
    exact⟨p.pending,_,ak,aF (λe a' w'=>∃M l E' Pp',vq e M/\jl G.tt G.n (B.at a'.defers) E' Pp' l a' w'/\Mk w a.defers E' l.o a'.defers w'/\w.heap.size<=w'.heap.size/\Q M l) _ _ ⟨M,_,E',Pp',ay,ao,aG,hz,hQ⟩⟩
   have d:=t2.state;split at T
   ·exact s none (by rw[d.1];decide) d.2 .normal .normal trivial T (λQ' a4 w4 h=>h)
   ·exact s (some .ret) (by rw[d.1];decide) d.2 .ret .ret trivial T (λQ' a4 w4 h=>wpIn_ret h)
   ·exact s (some (.exit _)) (by rw[d.1];decide) d.2 (.exit _) (.exit _) rfl T (λQ' a4 w4 h=>wpIn_exit h)
   ·exact T.elim
  ·exact T.elim
def Ctx.range(X:Ctx P G A C L)(hr:G.Nz=false){ps:Array Tmp}{st:St}(hf:Has P f fn m)(e:ev st.s g= .cy f oM)(d:dS)(c:IA st.s d)
 (hk:F1 G C f oM ps c1 c2 d st Q) (b:jv f lR=true:=by rfl):L (.rangeFunc g ps c1 c2) st Q:=by
 obtain⟨rfl,rfl,⟨r,h0,rfl⟩,h,i⟩:=X;obtain rfl:=h0 hr;exact F2 e hf b c hk
end
end
end Go.VC
namespace Go.VC
open Go Go.ChangeShapes
section
def Dc(w:World):ga:=λad v=>w.cell? ad=some v
inductive Bd (n:Nat):D->Prop
 |int (k):Bd n (.int k)
 |bool (b):Bd n (.bool b)
 |str (s:List UInt8) (h:s.length<=n):Bd n (.str s)
 |nil:Bd n .nil
 |list (rows:List (List D)) (h:rows.length<=n) (hr:∀row∈rows,∀d∈row,Bd n d):Bd n (.list rows)
 |ptr (cs:List D) (hr:∀d∈cs,Bd n d):Bd n (.ptr cs)
mutual
def wD:D->Nat
 | .int _=>1
 | .bool _=>1
 | .str _=>1
 | .nil=>1
 | .ptr cs=>1+kH cs
 | .list rows=>1+M2 rows
def kH:List D->Nat
 |[]=>0
 |d::l=>wD d+kH l
def M2:List (List D)->Nat
 |[]=>0
 |r::l=>kH r+M2 l
end
theorem Hp:∀(a b:List D),kH (a++b)=kH a+kH b
 |[],b=>by simp[kH]
 |d::a,b=>by simp only[cO,kH,Hp a b];omega
theorem B8:∀(l:List (List D)),M2 l=(l.map kH).sum
 |[]=>by simp[M2]
 |r::l=>by simp only[M2,bO,ch,B8 l]
theorem Hq{r:List D}:∀{l:List (List D)},r∈l->kH r<=M2 l
 |x::l,h=>by
  simp only[M2];rcases bP.1 h with rfl|h
  ·omega
  ·have:=Hq h;omega
structure MU {H:Type} (bulk:DataW H->Nat):Prop where
 str:∀s,s.length<=bulk (.lit (.string s))
 slice:∀es sp,es.length<=bulk (.slice es sp)/\∀e∈es,bulk e<=bulk (.slice es sp)
 agg:∀ps,∀e∈ps,bulk e<=bulk (.agg ps)
 ptr:∀d,bulk d<=bulk (.ptr d)
 one:∀d,1<=bulk d
 RT:∀es sp,1+(es.map bulk).sum<=bulk (.slice es sp)
 RU:∀ps,(ps.map bulk).sum<=bulk (.agg ps)
inductive gw (tt:TypeId->Option TI) (Pp:ga) (n:Nat):List CK->List Value->List D->Prop
 |nil:gw tt Pp n [] [] []
 |cons (ck v d cd vs ds) (h:RD tt Pp ck v d) (hb:Bd n d) (t:gw tt Pp n cd vs ds):gw tt Pp n (ck::cd) (v::vs) (d::ds)
section
variable {tt:TypeId->Option TI}{Pp:ga}{n:Nat}
theorem gw.append{cd a:List CK}{vs c:List Value}{ds b:List D}(h:gw tt Pp n cd vs ds)(k:gw tt Pp n a c b):gw tt Pp n (cd++a) (vs++c) (ds++b):=by
 induction h with
 |nil=>exact k
 |cons ck v d cd vs ds h hb _ e=>exact .cons _ _ _ _ _ _ h hb e
theorem gw.len{cd:List CK}{vs:List Value}{ds:List D}(h:gw tt Pp n cd vs ds):vs.length=cd.length/\ds.length=cd.length:=by
 induction h with
 |nil=>exact⟨rfl,rfl⟩
 |cons _ _ _ _ _ _ _ _ _ a=>simp[a.1,a.2]
theorem gw.get{cd:List CK}{vs:List Value}{ds:List D}(h:gw tt Pp n cd vs ds):∀{j:Nat}{ck:CK}{v:Value}{d:D},cd[j]? =some ck->vs[j]? =some v->ds[j]? =some d->RD tt Pp ck v d/\Bd n d:=by
 induction h with
 |nil=>intro j ck v d h;simp at h
 |cons ck v d cd vs ds h hb _ a=>
  intro j b c d' h1 h2 h3;cases j with
  |zero=>simp at h1 h2 h3;subst h1 h2 h3;exact⟨h,hb⟩
  |succ j=>exact a (yU h1) (yU h2) (yU h3)
theorem gw.bd{cd:List CK}{vs:List Value}{ds:List D}(h:gw tt Pp n cd vs ds):∀d∈ds,Bd n d:=by
 induction h with
 |nil=>intro d hd;simp at hd
 |cons ck v d cd vs ds h hb _ a=>
  intro d' hd;rcases bP.1 hd with rfl|hd
  ·exact hb
  ·exact a d' hd
theorem gw.oE:∀{cd:List CK}{vs:List Value}{ds:List D},vs.length=cd.length->ds.length=cd.length->
 (∀(j:Nat)(ck:CK)(v:Value)(d:D),cd[j]? =some ck->vs[j]? =some v->ds[j]? =some d->RD tt Pp ck v d/\Bd n d)->gw tt Pp n cd vs ds
 |[],[],[],_,_,_=>.nil
 |ck::cd,v::vs,d::ds,h1,h2,h=>.cons _ _ _ _ _ _ (h 0 ck v d rfl rfl rfl).1 (h 0 ck v d rfl rfl rfl).2 (gw.oE (yU h1) (yU h2) λj ck v d a b c=>h (j+1) ck v d (yU a) (yU b) (yU c))
 |[],_::_,_,h1,_,_=>yE h1
 |[],[],_::_,_,h2,_=>yE h2
 |_::_,[],_,h1,_,_=>yE h1
 |_::_,_::_,[],_,h2,_=>yE h2
theorem RD.rows{e:TypeId}{v:Value}{d:D}(h:RD tt Pp (.slice e) v d)(hb:Bd n d):∃rows,d= .list rows/\rows.length<=n/\∀row∈rows,∃vs,gw tt Pp n (bV tt e) vs row:=by
 cases hb with
 |list rows hl hr=>
  refine⟨rows,rfl,hl,?_⟩;cases h with
  |slnil=>intro row h;simp at h
  |Fz=>intro row h;simp at h
  |sl _ b o len cap _ vf hlen hc ef iJ iF=>intro row a;obtain⟨i,c⟩:=gH a;refine⟨(gU (bV tt e).length).map (vf i),gw.oE yS (ef i row c) ?_⟩;intro j ck v d h1 h2 h3;have f:=cF h1;simp[f]at h2;subst h2;exact⟨iF i j row d ck c h3 h1,hr row a d (fv h3)⟩
 |int=>cases h
 |bool=>cases h
 |str=>cases h
 |nil=>cases h
 |ptr=>cases h
theorem lift_map{α β:Type}{f:α->β}{p:α->Prop}:∀{rows:List β},(∀r∈rows,∃x,r=f x/\p x)->∃l:List α,rows=l.map f/\∀x∈l,p x
 |[],_=>⟨[],rfl,λx h=>yE h⟩
 |r::rows,h=>by
  obtain⟨x,rfl,b⟩:=h r yS;obtain⟨l,rfl,hl⟩:=lift_map (rows:=rows) (λr hr=>h r (by simp[hr]));refine⟨x::l,rfl,λy a=>?_⟩;rcases bP.1 a with rfl|a
  ·exact b
  ·exact hl y a
end
theorem ur{f:Nat->Nat}:∀{len:Nat}{l:List Nat},(∀i,i<len->f i<=l.getD i 0)->len<=l.length->((gU len).map f).sum<=l.sum
 |len,[],_,hl=>by simp at hl;subst hl;simp
 |0,l,_,_=>yS
 |len+1,x::l,h,hl=>by rw[List.range_succ_eq_map,bO,ch,ju,ch];have h0:=h 0 yO;have:=ur (f:=f∘Nat.succ) (len:=len) (l:=l) (λi a=>by have:=h (i+1) yO;simpa using this) (yU hl);simp at h0;omega
def DC(tt:TypeId->Option TI)(S:List TypeId):Nat->List (Nat×TypeId)->List CK->Bool
 |_,[],cd=>cd.isEmpty
 |off,(o,a)::fs,cd=>nb o off&&S.contains a&&decide (cd.take (bV tt a).length=bV tt a)&&DC tt S (off+(bV tt a).length) fs (cd.drop (bV tt a).length)
def E8(tt:TypeId->Option TI)(S:List TypeId)(t:TypeId):Bool:=match tt t with
 |none=>false
 |some ti=>match ti.agg with
  |true=>nb ti.ar 0&&DC tt S 0 ti.fs ti.cd
  |false=>match ti.cd with
   |[.int _]=>true
   |[.bool]=>true
   |[.str]=>true
   |[.slice e]=>S.contains e&& !(bV tt e).isEmpty
   |_=>false
section
variable {P:Program}{tt:TypeId->Option TI}{H:Type}{enc:TypeId×Value->H}{w:World}{n:Nat}
variable {S:List TypeId}{W:World}
theorem GZ(a:fp P tt){t:TypeId}{ti:TI}(h:tt t=some ti):P.cellsOf t=(bV tt t).length:=by obtain⟨i,z,d,b,fL,_⟩:=(a t ti h).info;simp[Program.cellsOf,b,bV,h,fL]
theorem zS{base:Nat}{a:Addr}{m:Nat}{cs:List Value}(h:w.cells? base a m=some cs):cs.length=m/\∀j,j<m->w.cell? (a.add j)=cs[j]? :=by
 unfold World.cells? at h;split at h
 ·exact⟨by simpa using mapM_some_length h,λj b=>mapM_some_get h j j (by simp[b])⟩
 ·cases h
theorem DB{fuel:Nat}{cs:List Value}{bulk:DataW H->Nat}(hcell:∀ft,S.contains ft=true->P.cellsOf ft=(bV tt ft).length):
 ∀(xs:List (DataW H×List MemPlace))(fs:List (Nat×TypeId))(off:Nat)(cd:List CK),
  (∀(t:TypeId)(cs:List Value)(x:DataW H×List MemPlace),S.contains t=true->x∈xs->DataW.trod enc P w 0 (λ_=>true) true fuel t cs=some x->∃ds,gw tt (Dc w) n (bV tt t) cs ds/\kH ds<=bulk x.1)->
  DC tt S off fs cd=true->cs.length=off+cd.length->
  (∀(i o:Nat)(ft:TypeId),fs[i]? =some (o,ft)->∃x,xs[i]? =some x/\DataW.trod enc P w 0 (λ_=>true) true fuel ft ((cs.drop o).take (P.cellsOf ft))=some x)->
  ∃ds,gw tt (Dc w) n cd (cs.drop off) ds/\kH ds<=(xs.map λx=>bulk x.1).sum
 |xs,[],off,cd,_,h,hl,_=>by simp only[DC,List.isEmpty_iff]at h;subst h;simp at hl;rw[fD yO];exact⟨[],.nil,by simp[kH]⟩
 |[],(o,ft)::fs,off,cd,_,h,hl,hx=>by obtain⟨x,hm,_⟩:=hx 0 o ft rfl;simp at hm
 |x0::xs,(o,ft)::fs,off,cd,ih,h,hl,hx=>by
  simp only[DC,bI,decide_eq_true_eq]at h;obtain⟨⟨⟨h1,h2⟩,h3⟩,h4⟩:=h;have:=dH h1;subst this;obtain⟨x,hm,ht⟩:=hx 0 o ft rfl;simp at hm;subst hm;obtain⟨ds1,hd1,hw1⟩:=ih _ _ _ h2 yS ht;rw[hcell ft h2]at hd1;have hlen:(bV tt ft).length<=cd.length:=by have:=congrArg jt h3;simp at this;omega
  obtain⟨ds2,hd2,hw2⟩:=DB (cs:=cs) hcell xs fs (o+(bV tt ft).length) (cd.drop (bV tt ft).length) (λt cs x a b c=>ih t cs x a (by simp[b]) c) h4 yQ (λi o ft hi=>by obtain⟨x,h5,h6⟩:=hx (i+1) o ft (yU hi);exact⟨x,yU h5,h6⟩);refine⟨ds1++ds2,?_,by rw[Hp,bO,ch];omega⟩;have:=hd1.append hd2;rw[<- h3]at this;rw[show (List.take (bV tt ft).length cd).length=(bV tt ft).length by rw[h3]]at this
  rwa [dG,<-List.drop_drop,dG]at this
theorem DA(O:fp P tt)(hS:S.all (E8 tt S)=true){bulk:DataW H->Nat}(hb:MU bulk):
 ∀(fuel:Nat)(t:TypeId)(cs:List Value)(x:DataW H×List MemPlace),S.contains t=true->DataW.trod enc P w 0 (λ_=>true) true fuel t cs=some x->bulk x.1<=n->∃ds,gw tt (Dc w) n (bV tt t) cs ds/\kH ds<=bulk x.1:=by
 have N:∀t,S.contains t=true->E8 tt S t=true:=λt J=>dk.1 hS t (yU J)
 have p:∀t,S.contains t=true->P.cellsOf t=(bV tt t).length:=by
  intro t J;have:=N t J;unfold E8 at this;split at this
  ·cases this
  ·rename_i ti F;exact GZ O F
 intro fuel;induction fuel with
 |zero=>intro t cs x _ h;simp[DataW.trod]at h
 |succ fuel ih=>
  intro t cs x J h E;have hd:=N t J;have ad:=p t J;unfold E8 at hd;split at hd
  ·cases hd
  rename_i ti F;have Q:bV tt t=ti.cd:=by simp[bV,F]
  obtain⟨i,z,d,l,fL,_,_,_,_,hu,c⟩:=(O t ti F).info;rw[Q]at ad ⊢;cases d with
  |int k=>obtain⟨m,rfl,rfl,_⟩:=DataW.trod_int hu h;rw[c.2.1];exact⟨_,.cons _ _ _ _ _ _ (.int _ _) (.int _) .nil,by simp only[kH,wD];exact hb.one _⟩
  |bool=>obtain⟨m,rfl,rfl⟩:=DataW.trod_bool hu h;rw[c.2.1];exact⟨_,.cons _ _ _ _ _ _ (.bool _) (.bool _) .nil,by simp only[kH,wD];exact hb.one _⟩
  |string=>obtain⟨s,rfl,rfl,_⟩:=DataW.trod_string hu h;rw[c.2.1];exact⟨_,.cons _ _ _ _ _ _ (.str _) (.str _ (bR (hb.str _) E)) .nil,by simp only[kH,wD];exact hb.one _⟩
  |struct fields=>
   obtain⟨ha,hf,_⟩:=c;rw[ha]at hd;simp only[bI]at hd;obtain⟨xs,m,hm,rfl,hl,am,hx⟩:=DataW.trod_struct hu h;cases hm;have V:∀y∈xs,bulk y.1<=n:=λy hy=>bR (hb.agg _ _ (bT.2 ⟨y,hy,rfl⟩)) E;have:=DB (n:=n) (cs:=cs) (bulk:=bulk) p xs ti.fs 0 ti.cd (λt' g x' h1 h2 h3=>ih t' g x' h1 h3 (V _ h2)) hd.2 yO ?_
   ·obtain⟨ds,h1,h2⟩:=this;refine⟨ds,yU h1,bR h2 ?_⟩;have:=hb.RU (xs.map (·.1));rw[ju]at this;exact this
   ·intro j o ft C;rw[<- hf j]at C;rw[lE]at C;obtain⟨f,G,T⟩:=C;cases T
    have da:j<fields.size:=by
     rcases cb j fields.size with h'|h'
     ·exact h'
     ·rw[dJ h']at G;cases G
    have:=hx j f G;rw[bB yO]at this;exact⟨_,bB yO,this⟩
  |slice e=>
   obtain⟨ha,A,_⟩:=c;rw[ha,A]at hd;simp only[bI,fX,List.isEmpty_eq_false_iff]at hd;obtain⟨T,X⟩:=hd;have ae:=p e T;have L:0<(bV tt e).length:=ej.2 X;rw[A];rcases DataW.trod_slice hu h with⟨rfl,rfl⟩|⟨a,len,cap,elems,rest,m,hm,rfl,rfl,_,ag,ak,ap,B,I,_⟩
   ·exact⟨_,.cons _ _ _ _ _ _ (.slnil _) (.list _ yS (λrow h=>yE h)) .nil,by simp only[kH,wD,M2];exact hb.one _⟩
   ·cases hm;obtain⟨av,M⟩:=I rfl;have K:=hb.slice (elems.map (·.1)) (rest.map (·.1));rw[ae]at B M;by_cases Y:cap=0
    ·subst Y;have:len=0:=yO;subst this;exact⟨_,.cons _ _ _ _ _ _ (.Fz _ a) (.list _ yS (λrow h=>yE h)) .nil,by simp only[kH,wD,M2];exact hb.one _⟩
    ·
     have u:a.spot=none:=by
      have:∃g,w.cells? 0 (a.add 0) (bV tt e).length=some g:=by
       by_cases Z:0<len
       ·have:=B 0 Z;rw[bB yO,lA]at this;obtain⟨g,h1,_⟩:=this;exact⟨g,yU h1⟩
       ·have:=M 0 yO;rw[bB yO,lA]at this;obtain⟨g,h1,_⟩:=this;have hz:len=0:=yO;subst hz;exact⟨g,yU h1⟩
      obtain⟨g,h1⟩:=this;obtain⟨h2,h3⟩:=zS h1;have:=h3 0 L;rw[bB yO]at this;simpa[Addr.add]using World.cell?_spot this
     obtain⟨b,o,sp⟩:=a;simp only at u;subst u
     have key:∀i,∃g ds,i<len->(g.length=(bV tt e).length/\(∀j,j<(bV tt e).length->w.cell? ⟨b,o+i*(bV tt e).length+j,none⟩=g[j]?)/\gw tt (Dc w) n (bV tt e) g ds/\kH ds<=(elems.map λx=>bulk x.1).getD i 0):=by
      intro i;by_cases l:i<len
      ·have:=B i l;rw[bB yO,lA]at this;obtain⟨g,h1,h2⟩:=this;have aj:bulk (elems[i]'yO).1<=n:=bR (K.2 _ (bT.2 ⟨_,bx _,rfl⟩)) E;obtain⟨ds,aa,ah⟩:=ih e g _ T h2 aj;obtain⟨h3,h4⟩:=zS h1;refine⟨g,ds,λ_=>⟨h3,λj C=>?_,aa,by rw[fW,cw,bB yO];exact ah⟩⟩;have:=h4 j C
       rwa [fA,fA]at this
      ·exact⟨[],[],λh=>absurd h l⟩
     have⟨cf,key⟩:=JT.1 key;have⟨R,key⟩:=JT.1 key;have q:∀(i:Nat)(row:List D),((gU len).map R)[i]? =some row->i<len/\row=R i:=by intro i row l;have da:=cF l;simp at da;simp[da]at l;exact⟨da,l.symm⟩
     refine⟨_,.cons _ _ _ _ _ _ (.sl e b o len cap ((gU len).map R) (λi j=>(cf i).getD j undef) yS ag ?_ ?_ ?_) (.list _ ?_ ?_) .nil,?_⟩
     ·intro i row l;obtain⟨da,rfl⟩:=q i row l;exact(key i da).2.2.1.len.2
     ·intro i j l C;obtain⟨U,k2,_⟩:=key i l;have:=k2 j C;rw[bB yO]at this;show w.cell? _=some _;rw[this];simp[fW,U,C]
     ·intro i j row d ck l C A;obtain⟨da,rfl⟩:=q i row l;obtain⟨U,_,k3,_⟩:=key i da;have ac:=cF A;exact(k3.get A (v:=(cf i).getD j undef) (by rw[bB yO];simp[fW,U,ac]) C).1
     ·have h1:=K.1;have h2:bulk (DataW.slice (elems.map (·.1)) (rest.map (·.1)))<=n:=E;rw[bQ]at h1;rw[bQ,List.length_range];omega
     ·intro row ef d ai;obtain⟨i,l⟩:=gH ef;obtain⟨da,rfl⟩:=q i row l;exact(key i da).2.2.1.bd d ai
     ·simp only[kH,wD];have r:=hb.RT (elems.map (·.1)) (rest.map (·.1));rw[ju]at r;have r:1+(elems.map λx=>bulk x.1).sum<=bulk (DataW.slice (elems.map (·.1)) (rest.map (·.1))):=r;have az:M2 ((gU len).map R)<=(elems.map λx=>bulk x.1).sum:=by rw[B8,ju];exact ur (λi l=>(key i l).2.2.2) (by rw[bQ];omega)
      omega
  |array m e=>obtain⟨ha,an,_⟩:=c;rw[ha]at hd;simp only[bI]at hd;have:=dH hd.1;omega
  |pointer e=>rw[c.1,c.2.1]at hd;cases hd
  |map k e=>rw[c.1,c.2.1]at hd;cases hd
  |func=>rw[c.1,c.2.1]at hd;cases hd
  |_=>exact c.elim
def MV(w:World):ga:=λad v=>w.cell? ad=some v\/(ad.spot=some 1/\pc w ad=some v)
def Tz(tt:TypeId->Option TI)(w:World):Prop:=(∀b,wC tt=some b->∃m:Int,w.cell? ⟨b,0,none⟩=some (.int .i64 m))/\
 ∀g,g∈wB tt->∃T f,w.heap[g.1]? =some (.cells (g.2.2.map (Value.int g.2.1)).toArray T f)
theorem Tz.Yr{w:World}(h:Tz tt w):ML tt (MV w):=⟨λb hb=>(h.1 b hb).imp λ_ c=>.inl c,λg a=>by
 obtain⟨T,f,hc⟩:=h.2 g a;refine⟨.inr ⟨rfl,?_⟩,λi z d=>.inl ?_⟩
 ·simp only[pc,hc,if_true,O4,bQ]
 ·simp only[World.cell?,hc];simp[d]⟩
theorem MV.wr(w:World)(a:Tz tt w):WR tt [] (MV w) [] w:=⟨rfl,λ_ _ h=>h.elim gF (·.2),λi o h=>yE h,λi j oi oj ri rj b h=>yE h,a.Yr⟩
theorem sX(hl:laidOutB P=true){c:World}(hb:Go.RowKit.Below W.heap.size W c){sp:Nat->Bool}:∀{ts:List TypeId}{vs:List Value}{ds:List (DataW H)}{ps:List MemPlace},(∀t∈ts,P.readableRec t=true/\t<P.types.size)->
 DataW.TrodAll enc P W 0 (λ_=>true) true ts vs ds ps->(∀p∈ps,p.block<W.heap.size)->(∀p∈ps,sp p.block=true)->DataW.TrodAll enc P c 0 sp true ts vs ds ps
 |[],[],[],_,_,h,_,_=>h
 |_::_,_::_,_::_,_,b,⟨p,q,h1,h2,e⟩,da,hs=>by subst e;refine⟨p,q,WideElems.Trod_stays hl (b _ yS).1 (b _ yS).2 h1 (λx a=>hb.same (da x (by simp[a]))) (λx a=>hs x (by simp[a])),?_,rfl⟩;exact sX hl hb (λt h=>b t (by simp[h])) h2 (λx a=>da x (by simp[a])) (λx a=>hs x (by simp[a]))
theorem EB{fn:Func}{s:ChangeSpec}{j fresh b:Bool}{f:FuncId}{vals:List Value}{ds D:List (DataW H)}{l:List MemPlace}{tb:TypeId}{c:Code}
 (m:DataW.Whole enc P fn.params.toList s.vars j W vals ds D l) (g:s.vars=[]) (hl:laidOutB P=true) (hr:∀t∈fn.params.toList,P.readableRec t=true/\t<P.types.size)
 (u:fn.resultTypes= #[tb]) (z:P.underlying tb=some .bool) (a:(s.fn H ds).results=[.lit (.bool true)]/\(s.fn H ds).args=ds/\(s.fn H ds).vars=[])
 (hf:Has P f fn c) {args:List PV} (G:fe tt [] (Dc W) vals args) (C:Tz tt W) (h:FC P tt f [] args λv _=>v= .bool true):
 Calls P f ⟨vals⟩ W λe y=>∃v,e= .returned v/\s.post enc P fn j fresh b false W ⟨vals⟩ v y:=by
 have da:=m.lt;have o:=m;obtain⟨p,q,E,B,rfl,I,gV⟩:=m;rw[g]at B;obtain⟨rfl,rfl⟩:=trodVars_none B;rw[cA]at da;rcases h [] (MV W) W vals (MV.wr W C) (G.mono (λ_ _ h=>h) λ_ _ h=>.inl h)with⟨_,hc⟩|⟨v,w',hc,_⟩
 ·refine hc.mono ?_;rintro e y ⟨v,E',Pp',objs',pv,rfl,_,_,_,r,rfl,d,_⟩;cases r;have hb:Go.RowKit.Below W.heap.size W y:=⟨d.os,d.tape,d.output,d.size,λk hk=>d.block k hk oe⟩;refine⟨_,rfl,ds,[],_,[],p,[],o,?_,?_,?_,?_,λh=>yC h⟩
  ·rw[cA,a.1,u];exact trodAll_mk1 (Go.RowKit.shut_bool z true)
  ·rw[cA,a.2.1];exact sX hl hb hr E da (λx F=>by simpa using da x F)
  ·rw[cA,a.2.2,g];rfl
  ·refine⟨hb.os,hb.output,λi A=>?_⟩;rw[hb.block i A];exact(World.keptBut_refl W (λx=>x∈p++[]/\(x∈[]\/x∈p\/x∈[]))).2.2 i A
 ·rw[pr hf.f hf.b hf.name]at hc;cases hc
end
end
end Go.VC
namespace Go.VC.cK
open Go Go.VC Go.Proofs
def we:List Int:=[1,10,100,1000,10000,100000,1000000,10000000,100000000,1000000000,10000000000,100000000000,1000000000000,10000000000000,100000000000000,1000000000000000,10000000000000000,100000000000000000,1000000000000000000,10000000000000000000]
def tS(e:TypeId):TI:={ agg:=false,cd:=[.slice e],fs:=[],el:=e,ar:=0,bytes:=24 }
def tB(c:List CK)(b:Nat):TI:={ agg:=false,cd:=c,fs:=[],el:=0,ar:=0,bytes:=b }
def tA(c:List CK)(f:List (Nat×TypeId))(b:Nat):TI:={ agg:=true,cd:=c,fs:=f,el:=0,ar:=0,bytes:=b }
def Iz:List (TypeId×TI):=[
 (3,{ agg:=false,cd:=[.int .i64],fs:=[],el:=0,ar:=0,bytes:=8,Sp:=some 3,Sn:=[(0,.u64,we)] }),
 (4,tB [.bool] 1),
 (5,tB [.int .u8] 1),
 (9,tB [.str] 16),
 (21,tB [.int .i32] 4),
 (22,tS 51),
 (23,tS 51),
 (24,tS 56),
 (25,tS 56),
 (26,tS 29),
 (27,tS 42),
 (29,tA [.int .i64,.str,.str,.slice 29,.slice 42] [(0,3),(1,9),(2,9),(3,26),(4,27)] 88),
 (35,tB [.int .i64] 8),
 (39,tB [.fn] 8),
 (40,tB [.fn] 8),
 (42,tA [.str,.int .i64,.str,.str,.slice 29,.slice 42,.bool] [(0,9),(1,29),(6,4)] 112),
 (43,tB [.fn] 8),
 (45,tA [.str,.slice 56,.int .i64,.str,.str,.slice 29,.slice 42,.int .i64,.str,.str,.slice 29,.slice 42] [(0,9),(1,24),(2,29),(7,29)] 216),
 (46,tS 45),
 (47,tS 99),
 (48,tS 141),
 (49,tS 152),
 (51,tA [.str,.slice 45,.slice 99,.slice 141,.slice 152] [(0,9),(1,46),(2,47),(3,48),(4,49)] 112),
 (52,tB [.fn] 8),
 (56,tA [.str,.int .i64,.int .i64,.str,.str,.slice 29,.slice 42] [(0,9),(1,3),(2,29)] 112),
 (59,tS 9),
 (61,tB [.ptr 64] 8),
 (62,{ agg:=false,cd:=[.map 62 4],fs:=[],el:=4,ar:=10,bytes:=8 }),
 (64,tA [.slice 51,.slice 56,.map 62 4,.slice 9] [(0,23),(1,25),(2,62),(3,59)] 80),
 (65,tB [.fn] 8),
 (67,tA [.int .i64,.str,.str,.slice 29,.slice 42,.int .i64,.str,.str,.slice 29,.slice 42] [(0,29),(5,29)] 176),
 (68,tS 97),
 (70,tA [.slice 97,.slice 97] [(0,68),(1,68)] 48),
 (83,tB [.fn] 8),
 (87,tB [.fn] 8),
 (88,tB [.fn] 8),
 (89,{ agg:=true,cd:=[.fn,.fn,.fn,.fn,.fn],fs:=[],el:=88,ar:=6,bytes:=40 }),
 (90,tS 67),
 (97,tA [.int .i64,.str,.str,.slice 29,.slice 42,.int .i64,.str,.str,.slice 29,.slice 42] [(0,29),(5,29)] 176),
 (99,tA [.str,.slice 56,.int .i64,.str,.str,.slice 29,.slice 42] [(0,9),(1,24),(2,29)] 128),
 (103,{ agg:=false,cd:=[.map 103 59],fs:=[],el:=59,ar:=10,bytes:=8 }),
 (109,tB [.fn] 8),
 (113,tB [.ptr 116] 8),
 (114,tS 5),
 (116,{ agg:=true,cd:=[.ptr 116,.slice 5],fs:=[(0,113),(1,114)],el:=0,ar:=0,bytes:=32,BL:=true }),
 (119,tB [.fn] 8),
 (131,tA [.slice 51,.str,.slice 45,.slice 99,.slice 141,.slice 152] [(0,23),(1,51)] 136),
 (132,tB [.fn] 8),
 (133,tS 132),
 (134,tS 137),
 (137,{ agg:=true,cd:=[.str,.str],fs:=[(0,9),(1,9)],el:=0,ar:=0,bytes:=32,Ao:=true }),
 (138,tB [.fn] 8),
 (139,tB [.fn] 8),
 (141,tA [.str,.str,.str] [(0,9),(1,9),(2,9)] 48),
 (143,tB [.fn] 8),
 (144,tB [.fn] 8),
 (152,tA [.str,.str] [(0,9),(1,9)] 32),
 (153,tB [.fn] 8),
 (154,tS 3),
 (164,tB [.fn] 8),
 (165,tB [.ptr 45] 8),
 (166,tB [.ptr 99] 8),
 (167,tB [.ptr 141] 8),
 (169,tA [.str,.str,.ptr 45,.ptr 99,.ptr 141] [(0,9),(1,9),(2,165),(3,166),(4,167)] 56),
 (179,{ agg:=true,cd:=[.slice 9,.slice 9,.slice 9,.slice 9],fs:=[],el:=59,ar:=5,bytes:=96 }),
 (180,{ agg:=true,cd:=[.fn,.fn,.fn,.fn],fs:=[],el:=83,ar:=5,bytes:=32 }),
 (187,tS 59),
 (188,{ agg:=false,cd:=[.map 188 4],fs:=[],el:=4,ar:=138,bytes:=8 }),
 (189,tB [.fn] 8),
 (190,tB [.fn] 8),
 (193,tB [.fn] 8),
 (194,tB [.fn] 8),
 (198,tB [.fn] 8),
 (202,tS 206),
 (206,tA [.int .i64,.int .i64,.str] [(0,3),(1,3),(2,9)] 32),
 (221,tB [.fn] 8),
 (229,{ agg:=false,cd:=[.map 229 45],fs:=[],el:=45,ar:=10,bytes:=8 }),
 (230,{ agg:=false,cd:=[.map 230 62],fs:=[],el:=62,ar:=10,bytes:=8 }),
 (232,tA [.slice 51,.map 229 45,.map 230 62] [(0,23),(1,229),(2,230)] 40),
 (234,tB [.fn] 8),
 (236,tB [.fn] 8),
 (239,tB [.fn] 8),
 (243,tB [.int .u64] 8),
 (256,tB [.fn] 8),
 (258,tB [.fn] 8),
 (266,tB [.fn] 8),
 (267,tS 35),
 (268,tB [.fn] 8),
 (269,tB [.fn] 8),
 (277,tB [.int .i64] 8),
 (287,tB [.int .u64] 8),
 (298,tB [.fn] 8),
 (299,tB [.fn] 8),
 (302,tB [.fn] 8),
 (308,tB [.int .u64] 8),
 (312,tB [.ptr 3] 8),
 (322,tB [.fn] 8)]
def tt:TypeId->Option TI:=xk Iz
def Qb:uq Tryz.prog Iz=true:=by kernel_rfl
def QC:qe Tryz.prog Iz=true:=by kernel_rfl
def eX:fp Tryz.prog tt:=OJ Qb (EU QC)
def mixed:Tryz.prog.follows .mixedOrders=true:=by kernel_rfl
end Go.VC.cK
namespace Go.VC.cK
open Go Go.VC
abbrev cf(n:Nat):eE:={tt:=tt,n:=n}
def g2:=cf 1
def g3:eE:={tt:=tt,n:=44,gK:=[(3,[0,1,2,3,4,5,6,7,8,9,10,11,13,14,15,16,12,17,18,19,20,21,22,23,25,26,27,28,24,29,30,31,32,33])]}
def g4:=cf 44
def g5:eE:={tt:=tt,n:=145,gK:=[(11,[0,1,2,3,4,5,6,7,8,9,10,11,12,13,14,15,16,17,18,19,20,21,22,23,24,25,26,27,28,29,30,31,32,33,35,34,36,37,38,39,40,41,43,42,44,45,46,47,48,49,50,51,52,53,54,55,56,59,57,58,60,61,62,63,64,65,66,67,68,69,70,71,72,73,74])],qk:=[7]}
def g6:eE:={tt:=tt,n:=110,gK:=[(23,[0,1,3,4,5,6,2,7,8])]}
def g7:=cf 20
def g8:=cf 21
def g9:=cf 21
def g10:=cf 21
def g11:eE:={tt:=tt,n:=49,gK:=[(10,[0,1,2,3,4,5,6,7,8,9,10,11,12,13,14,15])]}
def g12:eE:={tt:=tt,n:=92,gK:=[(14,[0,1,2,3,4,5,6])]}
def g13:eE:={tt:=tt,n:=48,gK:=[(11,[0,1,2,3,4,5,6])]}
def g14:eE:={tt:=tt,n:=60,gK:=[(11,[0,1,2,4,5,6,7,3,8,9]),(12,[0,1,2,3,4,5,6,7,8,9])]}
def g18:eE:={tt:=tt,n:=90,gK:=[(6,[0,1,2,3,4,5,6,7,8,9,10,11,12,13,14,15,16,17,18,19,20,21,22,23,24,25,26,27,28,29,30,31,32,33,34,35,36,37,38,39,40,41,42,43])]}
def g21:eE:={tt:=tt,n:=57,gK:=[(10,[0,1,2,3,4,5,6,7,8,9])]}
def g23:eE:={tt:=tt,n:=21,own:=[5]}
def g24:eE:={tt:=tt,n:=91,gK:=[(6,[0,1,2,3,4,5,6,7,8,9,10])]}
def Y2:eE:={tt:=tt,n:=97,gK:=[(2,[0,1,2]),(4,[0,1,2]),(14,[0,1,2,3,4,5,6,7,8,9,10,11,12,13,14,15,16,17,18]),(16,[0,1,2])],qk:=[10,18]}
def Y1:eE:={tt:=tt,n:=96,gK:=[(5,[0,1,2,3,4,5,6,7,8,9,10,11,12,13,14,15])]}
def Y0:eE:={tt:=tt,n:=26,own:=[5]}
def YZ:eE:={tt:=tt,n:=55,gK:=[(9,[0,1,2,3,4,6,7,8,9,10,5,11,12,13,14])]}
def YY:eE:={tt:=tt,n:=85,gK:=[(7,[0,1,2,3,4,5,6,7,8,9,10,11,12,13]),(9,[0,1,2,3,4,5,6,7,8,9,10,11,12,13]),(14,[0,1,2,3,4,5])]}
def YX:eE:={tt:=tt,n:=113,gK:=[(6,[0,1,2,3,4,5,6,7,8,9,10,11,12,13,14,15]),(8,[0,1,2,3,4,5,6,7,8,9,10,11,12,13,14,15]),(17,[0,1,2,3,4,5,6,7,8,9,10,11,12,13,14,15,16])]}
def YW:eE:={tt:=tt,n:=27,gK:=[(5,[0,1,2,3,4,5,6,7,8,9,10,11,12,13,14])]}
def YV:eE:={tt:=tt,n:=27,gK:=[(6,[0,1,2,3,4,5,6,7,8,9])]}
def YU:eE:={tt:=tt,n:=48,gK:=[(5,[0,1,2,3,4,5,6]),(10,[0,1,2,3,4,5,6,7,8])],qk:=[1]}
def YS:eE:={tt:=tt,n:=106,gK:=[(5,[0,1,2,3,4,5,6,7,8,9,10,11]),(19,[0,1,2,3,4,5,6,7,8,9,12,10,11,13,14])]}
def YR:eE:={tt:=tt,n:=149,gK:=[(3,[0,1,2,3,4,5,6,7,8,9,10,11,12,13,14,15]),(4,[0,1,2,3,4,5,6,7,8,9,10,11,12,13,14,15]),(13,[0,1,2,3,4,5,6,7,8,9,10,11,12,13,14]),(15,[0,1,2,3,4,5,6,7,8,9,10,11,12,13,14])],qk:=[5]}
def YQ:eE:={tt:=tt,n:=30,gK:=[(4,[0,1,2,3,4,5,6,7,8,9,10,11,12,13,14,15])]}
def YP:eE:={tt:=tt,n:=110,gK:=[(3,[0,1,2,3,4,5,6,7,8,9,10,11,12,13,14,15,16,17,18,19,20,21,22,23,24,25,26,27,28,29])]}
def YO:eE:={tt:=tt,n:=90,gK:=[(5,[0,1,2,3,4,5,6]),(11,[0,1,2,3,4,5,6,7,8,9,10,11,12,13])],own:=[44]}
def YN:eE:={tt:=tt,n:=68,live:=[87,89,91,90]}
def YM:eE:={tt:=tt,n:=159,gK:=[(14,[0,1,2,3,4,5,6,7,8])]}
def YL:eE:={tt:=tt,n:=69,gK:=[(14,[0,1,2,3,4,6,7,8,9,10,5,11,12,13,14])]}
def YK:eE:={tt:=tt,n:=8,own:=[5,2]}
def YJ:eE:={tt:=tt,n:=8,own:=[5,2]}
def YH:eE:={tt:=tt,n:=23,gK:=[(2,[0,1,2,3,4,5,6,7])]}
def YG:eE:={tt:=tt,n:=36,xz:=[34,35],qk:=[6]}
def YF:eE:={tt:=tt,n:=96,gK:=[(4,[0,1,2,3,4,5,6,7,8,9,10,11])],qk:=[16,17]}
def YE:eE:={tt:=tt,n:=146,gK:=[(13,[0,1,2,3,4,5,6,7,8,9,10,11,12,13,14]),(15,[0,1,2,3,4,5,6,7,8,9,10,11,12,13,14])]}
def YD:eE:={tt:=tt,n:=48,gK:=[(8,[0,1,2,3,4,5,6,7])]}
def YB:eE:={tt:=tt,n:=60,gK:=[(14,[0,1,2,3,4,5])]}
def Yz:eE:={tt:=tt,n:=38,gK:=[(5,[0,2,3,1,4,5,6])]}
def Yy:eE:={tt:=tt,n:=16,n0:=2}
def Yx:eE:={tt:=tt,n:=21,live:=[128,127]}
def U0:eE:={tt:=tt,n:=21,n0:=3,Nz:=true,live:=[128,127]}
def Yw:eE:={tt:=tt,n:=16,live:=[87],n0:=3}
def Yv:eE:={tt:=tt,n:=9,live:=[132],eB:=[133],n0:=2}
def UZ:eE:={tt:=tt,n:=4,n0:=1}
def Yu:eE:={tt:=tt,n:=117,gK:=[(7,[0,1,2,3,4,5,6,7,8,9,10,11,12,13,14,15,16,17,18,19]),(8,[0,1,2,3,4,5,6,7,8,9,10,11]),(17,[0,1,2,3,4,5,6,7,8,9,10,11,12,13,14,15,16,17,18,19,20,21,22,23,24,25,26,27,28,29,30,31])]}
def Yt:eE:={tt:=tt,n:=44,gK:=[(8,[0,1,2,3,4,5,6,7,8,9,10,11])]}
def Ys:eE:={tt:=tt,n:=75,gK:=[(19,[0,1,2,3,4,5,6])]}
def VY:eE:={tt:=tt,n:=79,gK:=[(8,[0,1,2,3,4,5,6,7,8]),(13,[0,1,2,3,4,5,6,7,8,9,10])],qk:=[4]}
def VX:eE:={tt:=tt,n:=176,gK:=[(27,[0,1,2,3,4,5,6,7,8,9,10,11,12,13,14])]}
def Qz:=cf 19
def VW:eE:={tt:=tt,n:=40,gK:=[(8,[0,1,2,3,4,5,6,7,8,9,10,11])]}
def VV:eE:={tt:=tt,n:=15,gK:=[(1,[0,1,2,3,5,6,8,9,4,7,10,11,12])]}
def VU:eE:={tt:=tt,n:=100,gK:=[(8,[0,1,2,3,4,5,6,7,8,9,10,11,12]),(15,[0,1,2,3,4,5,6,7,8,9,10,11,12,13])],qk:=[5,12]}
def VT:eE:={tt:=tt,n:=54,gK:=[(5,[0,1,2,3,4,5,6]),(10,[0,1,2,3,4,5,6])],qk:=[1,12]}
def VS:eE:={tt:=tt,n:=61,gK:=[(5,[0,1,2,3,4,6,7,8,9,10,5,11,12,13,14]),(10,[0,1,3,2,4,5,6])]}
def VQ:eE:={tt:=tt,n:=46,gK:=[(8,[0,1,2,3,4,5,6,7,8])]}
def VP:eE:={tt:=tt,n:=12,live:=[183],eB:=[184],n0:=2}
def SZ:eE:={tt:=tt,n:=4,n0:=1}
def VO:eE:={tt:=tt,n:=17,gK:=[(1,[0,1,2,3,5,6,7,8,4,9,10,11,12])]}
def VM:eE:={tt:=tt,n:=5,live:=[187],eB:=[187],n0:=2}
def SY:eE:={tt:=tt,n:=14,live:=[134],n0:=5}
def VL:eE:={tt:=tt,n:=62,gK:=[(6,[0,1,2,3,4,5,6,7])]}
def VK:eE:={tt:=tt,n:=64,gK:=[(5,[0,1,2,3,4,5,6,7,8,9,10,11,12])]}
def VJ:eE:={tt:=tt,n:=38,gK:=[(6,[0,1,2,3,4,5,6,7,8,10,9,11,12])]}
def VI:eE:={tt:=tt,n:=44,gK:=[(9,[0,1,2,3,4,5,6,7,8])]}
def VH:eE:={tt:=tt,n:=85,gK:=[(8,[0,1,2,3,4,5,6,7,8,9,10,11,12,13,14,15,16,17,18,19,20]),(14,[0,1,2,3,4,5,6,7,8])]}
def VG:eE:={tt:=tt,n:=45,qk:=[6]}
def VF:eE:={tt:=tt,n:=8,own:=[5,2]}
def VD:eE:={tt:=tt,n:=8,own:=[5,2]}
def VB:eE:={tt:=tt,n:=12,gK:=[(1,[0,1,2,3,5,6,4,7,8,9])]}
def VA:eE:={tt:=tt,n:=8,own:=[5,2]}
def Vz:eE:={tt:=tt,n:=8,own:=[5,2]}
def Vy:eE:={tt:=tt,n:=31,gK:=[(6,[0,1,2,3,4,5,6])]}
def Vx:eE:={tt:=tt,n:=36,gK:=[(8,[0,1,2,3,4,5,6])]}
def Vw:eE:={tt:=tt,n:=36,xz:=[34,35],qk:=[6]}
def Vv:eE:={tt:=tt,n:=8,live:=[181],n0:=3}
def Vu:eE:={tt:=tt,n:=23,live:=[181],n0:=5}
def Vt:eE:={tt:=tt,n:=5,live:=[231],eB:=[231],n0:=2}
def SM:eE:={tt:=tt,n:=14,live:=[185],n0:=5}
def SL:eE:={tt:=tt,n:=13,n0:=3}
def SK:eE:={tt:=tt,n:=13,n0:=3,Nz:=true}
def Vs:eE:={tt:=tt,n:=37,gK:=[(7,[0,1,2,3,4,5,6,7,8,9,10,11,12,13,14,15,16,17])]}
def Vr:eE:={tt:=tt,n:=45,gK:=[(5,[0,1,2,3,4,5,6])]}
def SI:eE:={tt:=tt,n:=45,gK:=[(2,[0,1,2,3,4,5,6,7,8,9,10,11]),(4,[0,1,2,3,4,5,6,7,8,9,10,11])],qk:=[6]}
def Vq:eE:={tt:=tt,n:=8,own:=[5,2]}
def SA:eE:={tt:=tt,n:=13,n0:=3}
def Sz:eE:={tt:=tt,n:=13,n0:=3,Nz:=true}
def Vo:eE:={tt:=tt,n:=52,gK:=[(2,[0,1,3,4,2,5,6,7]),(7,[0,1,2,3,4,5,6,7,8,9,10,11,12,13,14,15,16])]}
def Ss:=cf 9
def Vk:eE:={tt:=tt,n:=106,gK:=[(1,[0,1,2,3,4,5,6,7,8,9,10,11,12,13,14,15])]}
def Sr:=cf 9
def Vj:eE:={tt:=tt,n:=33,gK:=[(4,[0,1,2,3,4,5,7,8,9,10,11,6,12,13,14])]}
def Sq:=cf 19
end Go.VC.cK
namespace Go.VC
section
section
variable {a b:Int}{k:IntKind}{x y:List UInt8}{p q:Bool}{d e:D}
theorem ik:Std.lt a b=decide (a<b):=rfl
theorem tW:Std.le a b=decide (a<=b):=rfl
theorem fR:Std.eq a b=(a==b):=rfl
theorem dO:Std.add a b=a+b:=rfl
theorem iK:Std.sub a b=a-b:=rfl
theorem OK:Std.mul a b=a*b:=rfl
theorem fh:Std.not p= !p:=rfl
theorem OP:Std.beq p q=(p==q):=rfl
theorem C9{c:Bool}:Std.ite c p q=(bif c then p else q):=rfl
theorem vE:Std.seq x y=(x==y):=rfl
theorem fJ:Std.dz x=(x.length:Int):=rfl
def OM:Std.max a b=if b>a then b else a:=rfl
def OL:Std.min a b=if b<a then b else a:=rfl
theorem l6:Std.idx a b=(0<=a/\a<b):=rfl
theorem OO:Std.fU a b=(0<=a/\a<=b):=rfl
theorem zZ:Std.same a b=(a=b):=rfl
theorem dK:Std.inr .i64 a=(-9223372036854775808<=a/\a<=9223372036854775807):=rfl
theorem ON{n:Int}:Std.asInt (.int n)=n:=rfl
theorem MH:Std.asBool (.bool p)=p:=rfl
theorem oq:Std.bL (.str x)=x:=rfl
end
variable {α:Type}{i:Nat}{l:List Int}{j:Int}{a b:List UInt8}
def bH{α:Type}(f:α->List D)(l:List α):D:=.list (l.map f)
theorem cT{α:Type}{f:α->List D}{l:List α}:Std.len (bH f l)=(l.length:Int):=by simp[Std,ec,bH,cp]
def ix{f:α->List D}{l:List α}{j:Nat}(h:i<l.length):Std.cell (bH f l) (br i) j=(f l[i]).getD j .nil:=by simp[Std,ec,bH,cp,cj,h]
theorem cx{α:Type}{f:α->List D}{l k:List α}:Std.app (bH f l) (bH f k)=bH f (l++k):=by simp[Std,ec,bH,cp]
def cP{f:α->List D}{l:List α}(h:i<l.length):Std.idx (br i) (Std.len (bH f l)):=⟨cW _,by rw[cT];exact jy.2 h⟩
def ek{n:Nat}(h:i<n)(c:n<4294967297):Std.inr .i64 (Std.add (br i) 1):=by rw[dK,dO];simp only[bz];omega
def pA{p:α->Bool}{l:List α}(h:i<l.length)(ha:(l.take i).all p=true)(c:p l[i]=true):(l.take (i+1)).all p=true:=by rw[l7 h,nS,ha];simp[c]
def all_false{p:α->Bool}{l:List α}(h:i<l.length)(c:p l[i]=false):l.all p=false:=by rw[qo];exact⟨l[i],bx h,by simp[c]⟩
def mi{f:α->List D}{l:List α}{a b:Nat}:Std.part (bH f l) (a:Int) (b:Int)=bH f ((l.drop a).take (b-a)):=by simp[Std,ec,bH,cp,List.map_drop,FA]
def vD{f:α->List D}{l:List α}{a:Int}{off:Nat}{vs:List D}{y:α}(ha:a=i)(h:i<l.length)(g:(f l[i]).take off++vs++(f l[i]).drop (off+vs.length)=f y):Std.o4 (bH f l) a off vs=bH f (l.set i y):=by
 subst ha;simp only[Std,ec,bH,cp,jV]
 congr 1
 apply Ad (by simp);intro j h1 J;simp only[List.getElem_modify,jg,List.getElem_set];split
 ·rename_i c;subst c;exact g
 ·rfl
theorem z8{a b:Int}:Std.max a b=max a b:=by rw[OM];split<;>omega
theorem MD{a b:Int}:Std.min a b=min a b:=by rw[OL];split<;>omega
theorem nn{α:Type}{f:α->List D}{l:List α}{a b:Int}:Std.part (bH f l) a b=bH f ((l.drop a.toNat).take (b.toNat-a.toNat)):=by simp[Std,ec,bH,cp,List.map_drop,FA]
theorem Fq{d e:D}:Std.len (Std.app d e)=Std.len d+Std.len e:=by simp[Std,ec,cp]
theorem iW{l:List (List D)}:Std.len (Std.lit l)=(l.length:Int):=by simp[Std,ec,cp]
def Qs{f:α->List D}{x:α}{l:List D}(h:l=f x):Std.lit [l]=bH f [x]:=by subst h;rfl
theorem C8{d:D}{i:Int}{off:Nat}{vs:List D}:Std.len (Std.o4 d i off vs)=Std.len d:=by simp[Std,ec,cp]
def slt(a b:List UInt8):Bool:=Op.bytesLess a b
theorem MB{a b:List UInt8}:Std.slt a b=slt a b:=rfl
def lO(l:List Int):D:=bH (λj=>[D.int j]) l
def xO:Std.oC (lO l) j=lO (l++[j]):=by simp[Std,ec,lO,bH,cp]
def vF:Std.last (lO (l++[j]))=j:=by simp[Std,ec,lO,bH,cp]
def tV{f:α->List D}{m:List α}(h:Std.tu (bH f m) (lO l) j):0<=j/\j<m.length/\j∉l:=by obtain⟨h1,J,h3⟩:=h;simp only[bH,lO,cp,bQ]at J h3;refine⟨h1,J,λc=>h3 (bT.2 ⟨j,c,rfl⟩)⟩
def rY{f:α->List D}{m:List α}(h:Std.qm (bH f m) (lO l)):∀j:Nat,j<m.length->(j:Int)∈l:=by intro j g;have:=h j (by simp[bH,cp];exact g);simp only[lO,bH,cp,bT]at this;obtain⟨x,n,c⟩:=this;simp at c;subst c;exact n
def pw:Std.len (lO l)=(l.length:Int):=cT
def px{a:Int}:Std.asInt (Std.cell (lO l) a 0)=l.getD a.toNat 0:=by
 simp only[Std,ec,lO,bH,cp];rcases cb a.toNat l.length with h|h
 ·simp[fW,h]
 ·simp[fW,h]
def vU(a b:List UInt8):slt a b=decide (a<b):=Go.Proofs.bytesLess_eq a b
def fi(a:List UInt8):slt a a=false:=by rw[vU];simp
def mZ{c:List UInt8}(h:slt a b=true)(f:slt b c=true):slt a c=true:=by rw[vU]at *;simp at *;exact List.lt_trans h f
def mM(h:slt a b=false)(c:slt b a=false):a=b:=by rw[vU]at *;simp at *;exact List.le_antisymm c h
def vV(h:slt a b=true):slt b a=false:=by rw[vU]at *;simp at *;exact List.le_of_lt h
def mg{α:Type}(p:α->Bool)(l:List α):Int:=match l.findIdx? p with|some i=>i|none=> -1
def kQ{p:α->Bool}{l:List α}(h:i<l.length)(ha:∀x∈l.take i,p x=false)(c:p l[i]=true):mg p l=i:=by
 have:l.findIdx? p=some i:=by rw[lF];refine⟨h,c,λj f=>?_⟩;have:=ha l[j] (by rw[iE];exact⟨j,by omega,rfl⟩);simp[this]
 rw[mg,this]
def kR{p:α->Bool}{l:List α}(ha:∀x∈l,p x=false):mg p l= -1:=by
 have:l.findIdx? p=none:=by rw[pJ];exact ha
 rw[mg,this]
def rE{p:α->Bool}{l:List α}:l.any p=decide (0<=mg p l):=by
 cases h:l.findIdx? p with
 |none=>
  have h1:=pJ.1 h;have:l.any p=false:=by rw[gS];intro x c;rw[h1 x c];simp
  simp only[mg,h,this];rfl
 |some i=>
  obtain⟨h1,J,_⟩:=lF.1 h;have:l.any p=true:=by rw[dZ];exact⟨_,bx h1,J⟩
  simp only[mg,h,this];simp
def tK(p:α->Bool)(l:List α):(mg p l= -1/\∀x∈l,p x=false)\/∃i,∃h:i<l.length,mg p l=(i:Int)/\p l[i]=true/\∀x∈l.take i,p x=false:=by
 cases h:l.findIdx? p with
 |none=>exact .inl ⟨by simp only[mg,h],pJ.1 h⟩
 |some i=>obtain⟨h1,J,h3⟩:=lF.1 h;refine .inr ⟨i,h1,by simp only[mg,h],J,λx c=>?_⟩;rw[iE]at c;obtain⟨j,f,rfl⟩:=c;have:=h3 j (by omega);simpa using this
def bX{l:List α}(h:i<l.length):l.take (i+1)=l.take i++[l[i]]:=l7 h
theorem Yk:dq false=true:=rfl
theorem Yj:dq true=false:=rfl
def SD:=bw @Yk (bw @Yj (bw @cT (bw @ik (bw @tW (bw @fR (bw @dO (bw @iK (bw @OK (bw @fh (bw @C9 (bw @oq (bw @MH (bw @ON (bw @fJ (bw @vE (bw @MB (bw @OP (bw @l6 (bw @OO (bw @zZ (bw @z8 (bw @MD (bw @nn (bw @cx (bw @Fq (bw @iW (bw @C8 (bw @cZ.{0} (bw @mL.{0} (bw @bE.{0} (bw @bS.{0} (bw @cH.{0} (bw @jV (bw @dK (bw @bz (bw @Int.natCast_zero (bw @decide_eq_true_eq (bw @decide_eq_false_iff_not (bw @Bool.not_eq_true (bw @Bool.not_eq_false (bw @Bool.not_eq_eq_eq_not (bw @FE (bw @oR (bw @beq_iff_eq.{0} (bw @beq_eq_false_iff_ne.{0} (bw @ne_eq.{1} (bw @Na (bw @cC (bw @cond_true.{1} (@cond_false.{1}))))))))))))))))))))))))))))))))))))))))))))))))))
abbrev FF:Prop:=False->False
section
variable {A:qC}
def fz(h:A=Std):∀b:Bool,A.not b= !b:=by rw[h];exactλ_=>rfl
def mI(h:A=Std):∀a b:Int,A.eq a b=(a==b):=by rw[h];exactλ_ _=>rfl
def Dh(h:A=Std):∀a b:Int,A.lt a b=decide (a<b):=by rw[h];exactλ_ _=>rfl
def Dg(h:A=Std):∀a b:List UInt8,A.seq a b=(a==b):=by rw[h];exactλ_ _=>rfl
def Uo(h:A=Std):∀a b:List UInt8,A.slt a b=slt a b:=by rw[h];exactλ_ _=>rfl
def lenOf{α:Type}{f:α->List D}{l:List α}{d:D}(h:d=bH f l):∃n,n=l.length/\Std.len d=br n:=⟨_,rfl,by rw[h,cT];rfl⟩
end
end
section
variable {p q r:Prop}{A:qC}{i n:Nat}{d:D}
def zf{P:Prop}(h:P:=by kernel_rfl):FF->P:=λ_=>h
def iX{α:Type}{f:α->List D}{l:List α}(a:A=Std)(hd:d=bH f l)(h:i<l.length):A.idx (Int.ofNat i) (A.len d):=by rw[a,hd];exact cP h
def jX(a:A=Std)(h:i<n)(b:n<4294967297:=by omega):A.inr .i64 (A.add (Int.ofNat i) 1):=by rw[a];exact ek h b
def lX(a:A=Std)(hd:Std.len d=Int.ofNat n)(h:A.lt (Int.ofNat i) (A.len d)=true):i<n:=by subst a;rw[hd]at h;exact Int.ofNat_lt.1 (of_decide_eq_true h)
def gX(a:A=Std)(hd:Std.len d=Int.ofNat n)(h:A.lt (Int.ofNat i) (A.len d)=false):n<=i:=by subst a;rw[hd]at h;have:=of_decide_eq_false h;exact Int.ofNat_le.1 (Int.not_lt.1 this)
def lY(a:A=Std)(hd:Std.len d=Int.ofNat n)(h:A.lt (Int.ofNat i) (A.len d)=true)(k:i<n->p:=by intro;omega):p:=k (lX a hd h)
def gY(a:A=Std)(hd:Std.len d=Int.ofNat n)(h:A.lt (Int.ofNat i) (A.len d)=false)(k:n<=i->p:=by intro;omega):p:=k (gX a hd h)
def yX(h:p:=by rw[X.a];rfl):p:=h
def yc(h:p:=by cbv;and_intros;all_goals first|trivial|(rw[X.a];rfl)):p:=h
def yR(e:q)(h:q->p:=by intro e;rw[X.a,e];simp only[SD];omega):p:=h e
def yH(h:p:=by rw[Y,Z];rfl):p:=h
def p1(k:q)(h:q->p:=by intro a;cbv;(repeat' (first|apply And.intro|exact zf|(intro J;cbv)|apply Or.inl));all_goals first|(clear a;assumption)|exact a):p:=h k
def p2(k:q)(l:r)(h:q->r->p:=by intro z y;cbv;(repeat' (first|apply And.intro|exact zf|(intro J;cbv)|apply Or.inl));all_goals first|(clear z y;assumption)|((try revert J);first|exact z|exact y)):p:=h k l
def p3{s:Prop}(k:q)(l:r)(m:s)(h:q->r->s->p:=by intro z y x;cbv;(repeat' (first|apply And.intro|exact zf|(intro J;cbv)|apply Or.inl));all_goals first|(clear z y x;assumption)|((try revert J);first|exact z|exact y|exact x)):p:=h k l m
def XE(k:Nat)(p:PV):dS->PV
 |[]=>p
 |(j,q)::u=>match nb j k with|true=>q|false=>XE k p u
def RO(u a:dS):dS->dS
 |[]=>[]
 |(k,_)::s=>(k,XE k (look a k) u)::RO u a s
section
variable {P:Program}{G:eE}{A:qC}{C:ml}{L:Code->St->(Ex->St->Prop)->Prop}{α:Type}{c:Code}{st:St}{Q:Ex->St->Prop}
def lp(X:Ctx P G A C L)(b:α->Prop)(j:α->Nat)(h:α)(h0:b h)(I:α->St)
 (round:∀x,b x->wa A G C L c (I x) λe a=>match e with| .normal=>∃k,b k/\j k<j x/\Sub G.n0 a (I k)| .exit i=>Q (.exit i) a| .ret=>Q .ret a) (g:Sub G.n0 st (I h):=by exact yc):L (.loop c) st Q:=X.loop I b j h h0 g round
def lu(X:Ctx P G A C L)(b:α->Prop)(j:α->Nat)(h:α)(h0:b h)(u:α->dS)
 (round:∀x,b x->wa A G C L c ⟨RO (u x) st.s st.s,st.o⟩ λe a=>match e with| .normal=>∃k,b k/\j k<j x/\Sub G.n0 a ⟨RO (u k) st.s st.s,st.o⟩| .exit i=>Q (.exit i) a| .ret=>Q .ret a) (g:Sub G.n0 st ⟨RO (u h) st.s st.s,st.o⟩:=by exact yc):L (.loop c) st Q:=X.loop (λx=>⟨RO (u x) st.s st.s,st.o⟩) b j h h0 g round
def lP(X:Ctx P G A C L)(b:α->Prop)(h:α->Nat)(g:α)(h0:b g)(ps:List Nat)(I:α->St)
 (round:∀x,b x->wa A G C L c (I x) λe a=>match e with| .normal=>∃j,b j/\h j<h x/\C7 G.n0 a (I j)| .exit i=>Q (.exit i) a| .ret=>Q .ret a) (k:(lg ps&&Cc G.n0 0 ps)=true:=by rfl) (hs:Sub G.n0 (Cq ps st) (I g):=by exact yc):L (.loop c) st Q:=X.iC I b h g h0 ⟨ps,k,hs⟩ round
end
end
end Go.VC
namespace Go.VC.cK
open Go Go.VC Go.Proofs
section
variable {f:FuncId}{fn:Func}{c:Code}{args:List PV}{K:PV->List Ob->Prop}
abbrev FT:=FC Tryz.prog tt
def en(G:eE)(hf:Tryz.prog.funcs[f]? =some fn)(h:∀(A:qC)(C:ml)(L:Code->St->(Ex->St->Prop)->Prop),Ctx Tryz.prog G A C L->
 wa A G C L c ⟨pj 0 args,[]⟩ λe st=>match e with| .exit _=>False|_=>NA G 0 fn.results.toList st K)
 (hb:fn.body=some c:=by rfl) (g:(fn.name== "runtime.NumGoroutine")=false:=by rfl) (h1:G.tt=tt:=by rfl) (j:fn.ntmps=G.n:=by rfl) (b:G.n0=0:=by rfl) (a:nE (cv args) G.n=true:=by rfl):FC Tryz.prog tt f [] args K:=by
 rw[<- h1];exact FC.enter (by rw[h1];exact eX) mixed ⟨hf,g,hb⟩ j b a h
def eo(G:eE)(hf:Tryz.prog.funcs[f]? =some fn)(h:∀(A:qC)(C:ml)(L:Code->St->(Ex->St->Prop)->Prop),Ctx Tryz.prog G A C L->
 wa A G C L c ⟨pj 0 args,[]⟩ λe st=>match e with| .exit _=>False|_=>xB G 0 fn.results.toList st K)
 (hb:fn.body=some c:=by rfl) (g:(fn.name== "runtime.NumGoroutine")=false:=by rfl) (h1:G.tt=tt:=by rfl) (j:fn.ntmps=G.n:=by rfl) (b:G.n0=0:=by rfl) (a:nE (cv args) G.n=true:=by rfl):FC Tryz.prog tt f [] args K:=by
 rw[<- h1];exact FC.ln (by rw[h1];exact eX) mixed ⟨hf,g,hb⟩ j b a h
end
def el(G:eE){f:FuncId}{fn:Func}{c:Code}{objs:List Ob}{args:List PV}{K:PV->List Ob->Prop}(hf:Tryz.prog.funcs[f]? =some fn)(h:∀(A:qC)(C:ml)(L:Code->St->(Ex->St->Prop)->Prop),Ctx Tryz.prog G A C L->
 wa A G C L c (wu objs args) λe st=>match e with| .exit _=>False|_=>yq G G.n0 fn.results.toList st K)
 (hb:fn.body=some c:=by rfl) (g:(fn.name== "runtime.NumGoroutine")=false:=by rfl) (h1:G.tt=tt:=by rfl) (j:fn.ntmps=G.n:=by rfl) (b:cv objs=G.n0:=by rfl) (a:nE (cv args) G.n=true:=by rfl):FC Tryz.prog tt f objs args K:=by
 rw[<- h1];exact FC.sC (by rw[h1];exact eX) mixed ⟨hf,g,hb⟩ j b a h
end Go.VC.cK
namespace Go.VC
section
abbrev S:=List UInt8
mutual
inductive Ty where|mk (k:Int) (m n:S) (ar:List Ty) (fl:List Fe)
inductive Fe where|mk (s:S) (t:Ty) (b:Bool)
end
def Ty.k:Ty->Int| .mk k _ _ _ _=>k
def Ty.m:Ty->S| .mk _ m _ _ _=>m
def Ty.n:Ty->S| .mk _ _ n _ _=>n
def Ty.ar:Ty->List Ty| .mk _ _ _ ar _=>ar
def Ty.fl:Ty->List Fe| .mk _ _ _ _ fl=>fl
def Fe.s:Fe->S| .mk s _ _=>s
def Fe.t:Fe->Ty| .mk _ t _=>t
def Fe.b:Fe->Bool| .mk _ _ b=>b
mutual
def cE:Ty->List D| .mk k m n ar fl=>[.int k,.str m,.str n,.list (zK ar),.list (zM fl)]
def fq:Fe->List D| .mk s t b=>.str s::(cE t++[.bool b])
def zK:List Ty->List (List D)|[]=>[]|t::l=>cE t::zK l
def zM:List Fe->List (List D)|[]=>[]|f::l=>fq f::zM l
end
def By:∀l:List Ty,zK l=l.map cE
 |[]=>by simp[zK]
 |t::l=>by simp[zK,By l]
def BA:∀l:List Fe,zM l=l.map fq
 |[]=>by simp[zM]
 |t::l=>by simp[zM,BA l]
def dI(t:Ty):cE t=[.int t.k,.str t.m,.str t.n,bH cE t.ar,bH fq t.fl]:=by cases t;simp[cE,By,BA,bH,Ty.k,Ty.m,Ty.n,Ty.ar,Ty.fl]
def mh(f:Fe):fq f=[.str f.s,.int f.t.k,.str f.t.m,.str f.t.n,bH cE f.t.ar,bH fq f.t.fl,.bool f.b]:=by cases f;simp[fq,dI,Fe.s,Fe.t,Fe.b]
def cD(t:Ty)(b:Int)(c1 c2:S)(c a:D):Prop:=b=t.k/\c1=t.m/\c2=t.n/\c=bH cE t.ar/\a=bH fq t.fl
structure Pm where
 name:S
 var:Int
 bound:Ty
structure TE where
 name:S
 params:List Pm
 lower:Ty
 upper:Ty
structure VE where
 name:S
 params:List Pm
 ty:Ty
structure AE where
 name:S
 module:S
 target:S
structure DE where
 name:S
 note:S
structure IF where
 path:S
 types:List TE
 values:List VE
 aliases:List AE
 deprecated:List DE
structure US where
 module:S
 name:S
def ew(p:Pm):List D:=.str p.name:: .int p.var::cE p.bound
def gv(x:TE):List D:=.str x.name::bH ew x.params::(cE x.lower++cE x.upper)
def mJ(x:VE):List D:=.str x.name::bH ew x.params::cE x.ty
def rP(x:AE):List D:=[.str x.name,.str x.module,.str x.target]
def vw(x:DE):List D:=[.str x.name,.str x.note]
def dC(x:IF):List D:=[.str x.path,bH gv x.types,bH mJ x.values,bH rP x.aliases,bH vw x.deprecated]
def encS(s:S):List D:=[.str s]
def zL(p:Pm):ew p=[.str p.name,.int p.var,.int p.bound.k,.str p.bound.m,.str p.bound.n,bH cE p.bound.ar,bH fq p.bound.fl]:=by simp[ew,dI]
def pt(x:TE):gv x=[.str x.name,bH ew x.params,.int x.lower.k,.str x.lower.m,.str x.lower.n,bH cE x.lower.ar,bH fq x.lower.fl,.int x.upper.k,.str x.upper.m,.str x.upper.n,bH cE x.upper.ar,bH fq x.upper.fl]:=by simp[gv,dI]
def zI(x:VE):mJ x=[.str x.name,bH ew x.params,.int x.ty.k,.str x.ty.m,.str x.ty.n,bH cE x.ty.ar,bH fq x.ty.fl]:=by simp[mJ,dI]
section
variable {A:qC}{d:D}{i:Nat}
variable {l:List TE}{α:Type}
def cellAt{f:α->List D}{l:List α}(ha:A=Std)(hd:d=bH f l)(h:i<l.length)(j:Nat):A.cell d (br i) j=(f l[i]).getD j .nil:=by subst ha hd;exact ix h
def gI{l:List Ty}(ha:A=Std)(hd:d=bH cE l)(h:i<l.length):cD l[i] (A.asInt (A.cell d (br i) 0)) (A.bL (A.cell d (br i) 1)) (A.bL (A.cell d (br i) 2)) (A.cell d (br i) 3) (A.cell d (br i) 4):=by simp only[cellAt ha hd h];subst ha;rw[dI];exact⟨rfl,rfl,rfl,rfl,rfl⟩
def kE{l:List Fe}(ha:A=Std)(hd:d=bH fq l)(h:i<l.length):cD l[i].t (A.asInt (A.cell d (br i) 1)) (A.bL (A.cell d (br i) 2)) (A.bL (A.cell d (br i) 3)) (A.cell d (br i) 4) (A.cell d (br i) 5):=by simp only[cellAt ha hd h];subst ha;rw[mh];exact⟨rfl,rfl,rfl,rfl,rfl⟩
def wF{l:List Fe}(ha:A=Std)(hd:d=bH fq l)(h:i<l.length):A.bL (A.cell d (br i) 0)=l[i].s/\A.asBool (A.cell d (br i) 6)=l[i].b:=by simp only[cellAt ha hd h];subst ha;rw[mh];exact⟨rfl,rfl⟩
def Gd{l:List Pm}(ha:A=Std)(hd:d=bH ew l)(h:i<l.length):cD l[i].bound (A.asInt (A.cell d (br i) 2)) (A.bL (A.cell d (br i) 3)) (A.bL (A.cell d (br i) 4)) (A.cell d (br i) 5) (A.cell d (br i) 6):=by simp only[cellAt ha hd h];subst ha;rw[zL];exact⟨rfl,rfl,rfl,rfl,rfl⟩
def Aj{l:List Pm}(ha:A=Std)(hd:d=bH ew l)(h:i<l.length):A.bL (A.cell d (br i) 0)=l[i].name/\A.asInt (A.cell d (br i) 1)=l[i].var:=by simp only[cellAt ha hd h];subst ha;rw[zL];exact⟨rfl,rfl⟩
def Qa(ha:A=Std)(hd:d=bH gv l)(h:i<l.length):cD l[i].lower (A.asInt (A.cell d (br i) 2)) (A.bL (A.cell d (br i) 3)) (A.bL (A.cell d (br i) 4)) (A.cell d (br i) 5) (A.cell d (br i) 6):=by simp only[cellAt ha hd h];subst ha;rw[pt];exact⟨rfl,rfl,rfl,rfl,rfl⟩
def P9(ha:A=Std)(hd:d=bH gv l)(h:i<l.length):cD l[i].upper (A.asInt (A.cell d (br i) 7)) (A.bL (A.cell d (br i) 8)) (A.bL (A.cell d (br i) 9)) (A.cell d (br i) 10) (A.cell d (br i) 11):=by simp only[cellAt ha hd h];subst ha;rw[pt];exact⟨rfl,rfl,rfl,rfl,rfl⟩
def Nl(ha:A=Std)(hd:d=bH gv l)(h:i<l.length):A.bL (A.cell d (br i) 0)=l[i].name/\A.cell d (br i) 1=bH ew l[i].params:=by simp only[cellAt ha hd h];subst ha;rw[pt];exact⟨rfl,rfl⟩
def PX{l:List VE}(ha:A=Std)(hd:d=bH mJ l)(h:i<l.length):cD l[i].ty (A.asInt (A.cell d (br i) 2)) (A.bL (A.cell d (br i) 3)) (A.bL (A.cell d (br i) 4)) (A.cell d (br i) 5) (A.cell d (br i) 6):=by simp only[cellAt ha hd h];subst ha;rw[zI];exact⟨rfl,rfl,rfl,rfl,rfl⟩
def Nd{l:List VE}(ha:A=Std)(hd:d=bH mJ l)(h:i<l.length):A.bL (A.cell d (br i) 0)=l[i].name/\A.cell d (br i) 1=bH ew l[i].params:=by simp only[cellAt ha hd h];subst ha;rw[zI];exact⟨rfl,rfl⟩
def OI{l:List AE}(ha:A=Std)(hd:d=bH rP l)(h:i<l.length):A.bL (A.cell d (br i) 0)=l[i].name/\A.bL (A.cell d (br i) 1)=l[i].module/\A.bL (A.cell d (br i) 2)=l[i].target:=by simp only[cellAt ha hd h];subst ha;exact⟨rfl,rfl,rfl⟩
def Tf{l:List DE}(ha:A=Std)(hd:d=bH vw l)(h:i<l.length):A.bL (A.cell d (br i) 0)=l[i].name/\A.bL (A.cell d (br i) 1)=l[i].note:=by simp only[cellAt ha hd h];subst ha;exact⟨rfl,rfl⟩
def UN{l:List IF}(ha:A=Std)(hd:d=bH dC l)(h:i<l.length):A.bL (A.cell d (br i) 0)=l[i].path/\A.cell d (br i) 1=bH gv l[i].types/\A.cell d (br i) 2=bH mJ l[i].values/\A.cell d (br i) 3=bH rP l[i].aliases/\A.cell d (br i) 4=bH vw l[i].deprecated:=by simp only[cellAt ha hd h];subst ha;exact⟨rfl,rfl,rfl,rfl,rfl⟩
def jR{l:List S}(ha:A=Std)(hd:d=bH encS l)(h:i<l.length):A.bL (A.cell d (br i) 0)=l[i]:=by simp only[cellAt ha hd h];subst ha;rfl
def gr{f:α->List D}{l:List α}(ha:A=Std)(hd:d=bH f l):A.len d=br l.length:=by subst ha hd;exact cT
end
def Ty.parts{P:Ty->Prop}(h:∀t:Ty,(∀u∈t.ar,P u)->(∀f∈t.fl,P f.t)->P t):∀t,P t:=by
 have key:∀(n:Nat)(t:Ty),pI t<=n->P t:=by
  intro n;induction n with
  |zero=>intro t a;cases t;simp at a
  |succ n b=>
   intro t a;refine h t (λu hu=>b u ?_) (λf hf=>b f.t ?_)
   ·cases t with
    |mk k m s ar fl=>have:=JP (show u∈ar from hu);simp at a;omega
   ·cases t with
    |mk k m s ar fl=>
     have:=JP (show f∈fl from hf);have J:pI f.t<pI f:=by cases f;simp[Fe.t];omega
     simp at a;omega
 exactλt=>key _ t (ca _)
def Ty.ext{t u:Ty}(h0:t.k=u.k)(h1:t.m=u.m)(J:t.n=u.n)(h3:t.ar=u.ar)(h4:t.fl=u.fl):t=u:=by cases t;cases u;simp only[Ty.k,Ty.m,Ty.n,Ty.ar,Ty.fl]at *;subst h0 h1 J h3 h4;rfl
def Fe.ext{t u:Fe}(h0:t.s=u.s)(h1:t.t=u.t)(J:t.b=u.b):t=u:=by cases t;cases u;simp only[Fe.s,Fe.t,Fe.b]at *;subst h0 h1 J;rfl
open Classical in
noncomputable def same{α:Type}(a b:α):Bool:=decide (a=b)
def ir{α:Type}{a b:α}:same a b=true↔a=b:=by simp[same]
def jM{α:Type}(a:α):same a a=true:=ir.2 rfl
def pT{α:Type}{a b:α}(h:a≠b):same a b=false:=by
 cases hb:same a b with
 |false=>rfl
 |true=>exact absurd (ir.1 hb) h
inductive Ty.le (n:Nat):Ty->Prop
 |mk (t:Ty) (ha:t.ar.length<=n) (hf:t.fl.length<=n) (h1:∀u∈t.ar,Ty.le n u) (h2:∀f∈t.fl,Ty.le n f.t):Ty.le n t
end
section
variable {α:Type}
abbrev df(b:Int)(c1 c2:S)(c a:D):PV:=.agg [.int .i64 b,.str c1,.str c2,.lst 29 c,.lst 42 a]
def yk{l m:List α}(h:l.length≠m.length):same l m=false:=pT λe=>h (by rw[e])
def yl{l m:List α}{i:Nat}(h1:i<l.length)(J:i<m.length)(h:l[i]≠m[i]):same l m=false:=pT λe=>by subst e;exact h rfl
def IL{l m:List α}(hl:l.length=m.length)(h:l.take l.length=m.take l.length):same l m=true:=by rw[bF,hl,bF]at h;exact ir.2 h
end
end Go.VC
namespace Go.VC.cK
open Go Go.VC Go.Proofs
end Go.VC.cK
namespace Go.VC
section
variable {t u:Ty}{n:Nat}
def IK(h:t.k≠u.k):same t u=false:=pT λe=>h (by rw[e])
def IJ(h:t.m≠u.m):same t u=false:=pT λe=>h (by rw[e])
def II(h:t.n≠u.n):same t u=false:=pT λe=>h (by rw[e])
def A0(h:same t.fl u.fl=false):same t u=false:=pT λe=>by rw[e,jM]at h;cases h
def Nx(h0:t.k=u.k)(h1:t.m=u.m)(J:t.n=u.n)(h4:t.fl=u.fl):same t.ar u.ar=same t u:=by
 cases hb:same t.ar u.ar with
 |true=>exact(ir.2 (Ty.ext h0 h1 J (ir.1 hb) h4)).symm
 |false=>exact(pT λe=>by rw[e,jM]at hb;cases hb).symm
def AR{α:Type}{l m:List α}(hl:l.length=m.length)(h:l.take l.length=m.take l.length):l=m:=by rw[bF,hl,bF]at h;exact h
def pO(h:Ty.le n t):t.ar.length<=n:=by cases h;assumption
def um(h:Ty.le n t):t.fl.length<=n:=by cases h;assumption
def pP(h:Ty.le n t):∀u∈t.ar,Ty.le n u:=by cases h;assumption
def qT(h:Ty.le n t):∀f∈t.fl,Ty.le n f.t:=by cases h;assumption
end
end Go.VC
namespace Go.VC.cK
open Go Go.VC Go.Proofs
end Go.VC.cK
