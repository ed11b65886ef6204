/-
  ABSTRACT VALUES, 29: a list still open behind its end, handed back by a call.
-/
import Derived.Test.YtppjieiiibgagaaGreatDoorQXAv27toXL28
import Derived.Test.YtppjieiiibgagaaGreatDoorQXM1toXL49
import Derived.Test.YtppjieiiibgagaaGreatDoorQXL19toXL25
set_option linter.all false
namespace Go.Av
open Go Go.RowKit List
abbrev KC:=Option (Nat×Nat×List AV)
def cAV (c:KC) (n:Nat):AV:=match c with
 |none=>.nil
 |some (b,cap,_)=>.sc (.slice (some ⟨b,0,none⟩) n cap)
def cSt (e:TypeId) (c:KC) (rows:List (List AV)):Store:=match c with
 |none=>[]
 |some (b,_,pad)=>[(b,.cells e (rows.flatten++pad))]
def cOk (sz:Nat) (c:KC) (rows:List (List AV)):Prop:=match c with
 |none=>rows=[]
 |some (b,cap,pad)=>rows.length<=cap/\cap<=maxLen/\(∀r∈rows,r.length=sz)/\(rows.flatten++pad).length=cap*sz
def Own (e:TypeId) (sz:Nat) (rows:List (List AV)) (r:AV) (σ:Store):Prop:=∃c,cOk sz c rows/\r=cAV c rows.length/\σ=cSt e c rows
def cWS {e:TypeId} {sz:Nat} {c:KC} {rows:List (List AV)} (h:cOk sz c rows):WS (cSt e c rows) e sz (cAV c rows.length) rows (c.map (·.1)):=by
 cases c with
 |none=>exact .inl ⟨h,rfl,.inl rfl⟩
 |some p=>
  obtain⟨b,cap,pad⟩:=p;obtain⟨D,E,F,I⟩:=h;exact .inr ⟨b,cap,pad,rfl,rfl,by simp[cSt,Store.get],F,I,D,E⟩
def cErase (e:TypeId) (c:KC) (rows:List (List AV)):(cSt e c rows).erase (c.map (·.1))=[]:=by
 cases c with
 |none=>rfl
 |some p=>obtain⟨b,cap,pad⟩:=p;simp[cSt,Store.erase]
def Opn (e:TypeId) (sz:Nat) (rows:List (List AV)) (r:AV) (σ:Store):Prop:=∃c,r= .own c e sz rows/\σ=tokS c e (rows.length*sz)
section
variable {G:Glob} {P:Program} {k:FuncId} {args:List AV} {e:TypeId} {sz:Nat} {rows:List (List AV)}
def RET.opn {c:Option Nat} {σ:Store} (D:SubN (tokS c e (rows.length*sz)) σ):RET (.own c e sz rows) σ (Opn e sz rows):=
 ⟨_,_,rW _,D,⟨c,rfl,rfl⟩⟩
def sJ {g:List Nat} {E:List (Nat×Option (Bool×Nat))} {s:SCode} (F:fnAt P k g=some (E,s))
  (h:∀R,(∀c σ D,D=rows->SubN (tokS c e (D.length*sz)) σ->RET (.own c e sz D) σ R)->W G P s (retQ E R) (dA 0 args) [] ⟨⟩):aj G P k args [] (Opn e sz rows):=
 aj.at F (h _ λc σ D I J=>by subst I;exact RET.opn J)
def aj.lst (h:aj G P k args [] (Opn e sz rows)):Pure G P k args (.lst sz rows):=
 ⟨h.1,λρ w vs N M=>(h.2 ρ w vs N M).mono λen w' ⟨v,r,σ',O,⟨c,T,J⟩,E,F,D⟩=>by
  subst T J
  have I:=SubN.nil (tokS c e (rows.length*sz))
  exact⟨v,.lst sz rows,[],O,⟨rfl,rfl⟩,E.subN I,F.trans (rN I.1 _),aH.rep (x:=.own c e sz rows) (y:=.lst sz rows) (.inr ⟨rfl,rfl⟩) (Rep.ev (rN I.1 w') _ _ D)⟩⟩
end
/-! ### rows that point nowhere -/
def AV.flat:AV->Bool
 | .bool _=>true
 | .int _ _=>true
 | .str _=>true
 |_=>false
def tU {σ σ':Store} {w w':World}:∀{x:AV} {u:Value},x.flat=true->Rep σ w x u->Rep σ' w' x u
 | .bool _,_,_,h=>by simp only[Rep]at h ⊢;exact h
 | .int _ _,_,_,h=>by simp only[Rep]at h ⊢;exact h
 | .str _,_,_,h=>by simp only[Rep]at h ⊢;exact h
def RepL.flat {σ σ':Store} {w w':World}:∀{xs:List AV} {us:List Value},(∀x∈xs,x.flat=true)->RepL σ w xs us->RepL σ' w' xs us
 |[],_,_,h=>by simp only[RepL]at h ⊢;exact h
 |x::xs,us,hf,h=>by
  simp only[RepL]at h ⊢;obtain⟨u,D,rfl,E,F⟩:=h;exact⟨u,D,rfl,tU (hf x (by simp)) E,RepL.flat (λy I=>hf y (by simp[I])) F⟩
def un {σ:Store} {w:World}:∀us:List Value,RepL σ w (List.replicate us.length .any) us
 |[]=>by simp[RepL]
 |u::us=>by
  simp only[length_cons,replicate_succ,RepL];exact⟨u,us,rfl,by simp only[Rep],un us⟩
section
variable {G:Glob} {P:Program} {k:FuncId} {args:List AV} {e:TypeId} {sz:Nat} {rows:List (List AV)}
def aj.thaw (bb:∀r∈rows,∀x∈r,x.flat=true) (h:aj G P k args [] (Opn e sz rows)):aj G P k args [] (Own e sz rows):=
 ⟨h.1,λρ w vs hS hA=>(h.2 ρ w vs hS hA).mono λen w' ⟨v,r,σ',he,⟨c,hr,bk⟩,N,D,E⟩=>by
  subst hr bk
  cases c with
  |none=>
   simp only[Rep]at E
   obtain⟨hv,h0⟩:=E
   subst h0
   exact⟨v,.nil,[],he,⟨none,rfl,rfl,rfl⟩,N,D,by simp only[Rep];exact hv⟩
  |some b=>
   simp only[tokS]at N D E
   simp only[Rep]at E
   obtain⟨cap,hv,Z,aw,F,M⟩:=E
   obtain⟨I,hh,hk,al⟩:=N.obj b _ (mem_append.2 (.inl (mem_singleton.2 rfl)))
   have bh:I.size=cap*sz:=by simp[World.shape?,hh]at F;exact F
   obtain⟨O,l1,l2,l3,l4⟩:=M.vals
   obtain⟨_,_,an⟩:=M.flat
   have ah:O=I.toList.take (rows.length*sz):=by
    apply ext_getElem?
    intro j
    by_cases hj:j<rows.length*sz
    ·have Y:j<O.length:=by omega
     have:=l4 j O[j] (getElem?_eq_getElem Y)
     rw[add_lit,Nat.zero_add,cell_of_row w' b j I e (0,0) hh]at this
     rw[getElem?_eq_getElem Y,getElem?_take,if_pos hj,←this]
     simp
    ·rw[getElem?_eq_none (by omega),getElem?_take,if_neg hj]
   let pad:List AV:=List.replicate (I.toList.drop (rows.length*sz)).length .any
   have ac:¬b<w.heap.size:=λbd=>(D.block b bd (by simp[Store.keys])).2 (by simp[Store.keys])
   have T:Ev [] w [(b,AObj.cells e (rows.flatten++pad))] w':=by
    refine⟨D.os,D.tape,D.output,D.size,λq hq hn=>⟨(D.block q hq hn).1,?_⟩,D.shape,λad u hu hm=>⟨(D.cell ad u hu hm).1,?_⟩⟩
    ·intro J
     simp only[Store.keys,map_cons,map_nil,mem_singleton]at J
     exact ac (J ▸ hq)
    ·intro be
     have J:=be.of_key
     simp only[Store.keys,map_cons,map_nil,mem_singleton]at J
     exact ac (J ▸ fA hu)
   have V:Sat G ([(b,AObj.cells e (rows.flatten++pad))]++ρ) w':=by
    refine(show Sat G ([]++ρ) w from hS).step T (by simp[Store.keys]) (λq hq=>?_) (λq x X=>?_)
    ·simp only[Store.keys,map_cons,map_nil,mem_singleton]at hq
     exact .inr (by omega)
    ·simp only[mem_singleton,Prod.mk.injEq]at X
     obtain⟨rfl,rfl⟩:=X
     refine⟨I,hh,al,?_⟩
     rw[←take_append_drop (rows.length*sz) I.toList]
     refine RepL.append ?_ ?_
     ·rw[←ah]
      exact RepL.flat (λx X=>by obtain⟨r,hr,X⟩:=mem_flatten.1 X;exact bb r hr x X) l2
     ·exact un _
   have aa:rows.flatten.length=rows.length*sz:=az rows an
   refine⟨v,.sc (.slice (some ⟨b,0,none⟩) rows.length cap),[(b,.cells e (rows.flatten++pad))],he,⟨some (b,cap,pad),⟨Z,aw,an,?_⟩,rfl,rfl⟩,V,T,by simp only[Rep];exact hv⟩
   simp only[length_append,aa,pad,length_replicate,length_drop,Array.length_toList,bh]
   have:=Nat.mul_le_mul_right sz Z
   omega⟩
end
end Go.Av
namespace Go.Av
open Go Go.RowKit Go.Proofs List
def uN {σ:Store} {w w':World} (h:Below w.heap.size w w'):Ev σ w σ w':=
 let e:=Ev.below h
 ⟨e.os,e.tape,e.output,e.size,λb D F=>⟨(e.block b D (by simp[Store.keys])).1,F⟩,e.shape,λa v I E=>⟨(e.cell a v I (by rintro⟨x,J,_⟩;simp at J)).1,E⟩⟩
def Det (σ:Store):Prop:=∀b x,(b,x)∈σ->∃(e:TypeId) (vs:List Value),x= .cells e (vs.map AV.sc)
def ua {τ:Store} {w:World}:∀{vs us:List Value},RepL τ w (vs.map AV.sc) us->us=vs
 |[],us,h=>by simpa[RepL]using h
 |v::vs,us,h=>by
  simp only[map_cons,RepL]at h;obtain⟨u,F,rfl,D,E⟩:=h;simp only[Rep]at D;rw[D,ua E]
def Det.keep {G:Glob} {σ ρ:Store} {w w':World} (V:Det σ) (O:Sat G (σ++ρ) w) (T:Sat G (σ++ρ) w') (ev:Ev σ w σ w'):Below w.heap.size w w':=by
 refine⟨ev.os,ev.tape,ev.output,ev.size,λk X=>?_⟩;by_cases F:k∈σ.keys
 ·obtain⟨⟨b,x⟩,D,rfl⟩:=mem_map.1 F;obtain⟨e,vs,rfl⟩:=V b x D;obtain⟨us,M,_,N⟩:=O.obj b _ (mem_append.2 (.inl D));obtain⟨E,k1,_,Y⟩:=T.obj b _ (mem_append.2 (.inl D));have I:=ua N;have J:=ua Y
  have:us=E:=by apply Array.ext';rw[I,J]
  show w'.heap[b]? =w.heap[b]?;rw[M,k1,this]
 ·exact(ev.block k X F).1
def uw {G:Glob} {P:Program} {k:FuncId} {fn:Func} {args:List AV} {r:AV} {σ:Store} (N:P.funcs[k]? =some fn) (O:(fn.name== "runtime.NumGoroutine")=false) (J:fn.body.isNone=false)
  (h:∀(ρ:Store) (w:World) (vs:Array Value),Sat G (σ++ρ) w->RepL (σ++ρ) w args vs.toList->∃v,(∀D w',Rep D w' r v)/\Calls P k vs w λe w'=>e= .returned v/\Below w.heap.size w w'):aj G P k args σ λx σ'=>x=r/\σ'=σ:=
 ⟨⟨fn,N,O,J⟩,λρ w vs F I=>by
  obtain⟨v,T,M⟩:=h ρ w vs F I
  refine M.mono ?_
  rintro e w' ⟨rfl,E⟩
  exact⟨v,r,σ,rfl,⟨rfl,rfl⟩,Sat.below F E,uN E,T _ _⟩⟩
section
variable (G:Glob)
def pM {g b:Nat} {p:Nat->Bool} {σ ρ:Store} {w:World} (M:Det σ) (I:Sat G (σ++ρ) w)
  (N:∀n:Nat,aj G Tryz.prog g [.int .i32 (n:Int),.p b] σ λx σ'=>x= .bool (p n)/\σ'=σ):PredGrows Tryz.prog g #[.p b] p w:=λW x O J=>by
 have D:=Sat.below I J
 have:=(N x).2 ρ W (#[encR x]++#[.p b]) D (by simp[RepL,Rep])
 refine this.mono ?_
 rintro e w' ⟨v,r,σ',rfl,⟨rfl,rfl⟩,E,ev,F⟩
 simp only[Rep]at F
 exact⟨by rw[F],M.keep D E ev⟩
def index_k (g b:Nat) (p:Nat->Bool) (s:List UInt8) {σ:Store} (M:Det σ) (F:∀args w,(callFunc g args).run Tryz.prog w= .ok (.enter g args) w) (O:∀n,128<=n->p n=true)
  (N:∀n:Nat,aj G Tryz.prog g [.int .i32 (n:Int),.p b] σ λx σ'=>x= .bool (p n)/\σ'=σ):
  aj G Tryz.prog 335 [.str s,.sc (.func (.func g) #[] #[.p b])] σ λx σ'=>x= .i (idxF (λc:UInt8=>p c.toNat) 0 s)/\σ'=σ:=by
 refine uw Tryz.func335 (by kernel_rfl) (by kernel_rfl) λρ w vs J I=>?_
 obtain⟨u,v,rfl,D,E⟩:=gT I
 simp only[Rep]at D E
 subst D E
 refine⟨.i (idxF (λc:UInt8=>p c.toNat) 0 s),λ_ _=>by simp only[Rep],?_⟩
 have h:=Any.strings_IndexFunc_grows Tryz.laysGw15 g #[.p b] F p ⟨⟨s⟩⟩ w (pM G M J N)
 have e:Lib.idxFunc p true ⟨⟨s⟩⟩=idxF (λc:UInt8=>p c.toNat) 0 s:=eD p O s s.length 0 (by omega) (by omega)
 rw[e]at h
 exact h
def fitN (n:Nat):Bool:=(decide ((97:Int)<=n)&&decide ((n:Int)<=122))||((decide ((48:Int)<=n)&&decide ((n:Int)<=57))||decide ((n:Int)=45))
def f334 (n:Nat):Pure G Tryz.prog 334 [.int .i32 (n:Int)] (.bool (fitN n)):=by
 refine Pure.w c334 λR D=>?_;unfold s334 r334;(repeat' (first|(with_reducible (refine af (λh=>?_) λh=>?_)<;>(try simp only[DZ]at h))|simp only[EV,seval]|(exfalso;omega)));(all_goals(((refine RET.eq D ?_;(refine congrArg AV.bool (Bool.eq_iff_iff.2 ?_);simp only[fitN,EVB]at*;omega)))))
def fitS (b:Nat):Store:=[(b,.cells 242 [.sc (.func (.func 334) #[] #[])])]
def fitS_det (b:Nat):Det (fitS b):=λE x D=>by
 simp only[fitS,mem_singleton,Prod.mk.injEq]at D;exact⟨_,[.func (.func 334) #[] #[]],D.2⟩
end
def dw {G:Glob} {P:Program} {f:Value} {args:List AV} {σ:Store} {K:AV->Store->Prop} {t:Tag K} {v:AV}
  (h:du G P f args σ λr σ'=>r=v/\σ'=σ) (D:K v σ):CALL G P f args σ K t:=
 bv σ [] h (hU _) (by rw[append_nil];exact SubN.refl _) (by rintro _ _ ⟨rfl,rfl⟩;rw[append_nil];exact D)
def sX {G:Glob} {P:Program} {k:FuncId} {args:List AV} {σ:Store} {r:AV} {g:List Nat} {D:List (Nat×Option (Bool×Nat))} {s:SCode} (E:fnAt P k g=some (D,s))
  (h:∀R,(∀x σ',AVle x r->SubN σ σ'->RET x σ' R)->W G P s (retQ D R) (dA 0 args) σ ⟨⟩):aj G P k args σ λx σ'=>x=r/\σ'=σ:=
 aj.at E (h _ λx σ' I F=>⟨r,σ,I,F,rfl,rfl⟩)
section
variable (G:Glob)
def f167k (σ:Store) (f:Value) (p:Itm->Bool) (l:List Itm) (N:l.length<9000000000000000000) (I:∀x∈l,du G Tryz.prog f [.agg x.cs] σ λr σ'=>r= .bool (p x)/\σ'=σ):
  aj G Tryz.prog 167 [.lst 25 (l.map Itm.cs),.sc f] σ λr σ'=>r= .i (idxF p 0 l)/\σ'=σ:=by
 refine sX c167 λR F=>?_
 unfold s167 r167
 (repeat' (first|(with_reducible (refine ae (λh=>?_) λh=>?_)<;>(try simp only[DZ]at h))|simp only[EV,seval,E.yes,E.le0,E.lt',E.get,E.row,M]|simp only[EV,seval,J]|simp only[EV,seval]|(refine ak E () ?_ (dT _ _))|(refine ap l (λi r (c:Unit)=>idxF p 0 l=idxF p i r) (λi c=>[(0,.lst 25 (l.map Itm.cs)),(1,.sc f),(7,.i l.length),(8,.i i)]) (λ_ _=>σ) () rfl (dT _ _) (by omega) (λi x r c D E M=>?_) (λc D J=>?_))|(refine dw (I _ E.mem) ?_)))
 ·refine F _ _ (.inl (.inl ?_)) (SubN.refl _)
  rw[D,idxF,if_pos h]
 ·rw[D,idxF,h];rfl
 ·refine F _ _ (.inl (.inl ?_)) (SubN.refl _)
  rw[D];rfl
def f92k (σ:Store) (f:Value) (p:Itm->Bool) (l:List Itm) (I:l.length<9000000000000000000) (F:∀x∈l,du G Tryz.prog f [.agg x.cs] σ λr σ'=>r= .bool (p x)/\σ'=σ):
  aj G Tryz.prog 92 [.lst 25 (l.map Itm.cs),.sc f] σ λr σ'=>r= .bool (l.any p)/\σ'=σ:=by
 refine sX c92 λR E=>?_
 unfold s92 r92
 have D:=f167k G σ f p l I F
 (repeat' (first|simp only[EV,seval]|(refine dw D.v ?_)))
 exact E _ _ (.inl (.inl (by rw[dZ]))) (SubN.refl _)
end
def oV {e:TypeId} {sz bytes n m m':Nat} {τ:Store} (κ:Store) {g:Option Nat} {rows:List (List AV)} {cs:List AV} {K:AV->Store->Prop} {b k1:Nat} (F:τ=κ++tokS g e m) (O:∀d,g=some d->d∉κ.keys) (Z:rows.length=n) (X:m=n*sz)
  (E:m'=(n+1)*sz) (V:cs.length=sz) (N:b∉τ.keys) (Y:(n+1)*bytes<=140737488355328) (T:∀D,(∀d,D=some d->d∉κ.keys)->K (.own D e sz (rows++[cs])) (κ++tokS D e m')):
  appX e sz bytes ((b,.tok e k1)::τ) g rows [cs] K:=by
 obtain⟨rs,J,h2,I,M⟩:=eM (K:=λ_=>K) (k1:=k1) κ F O Z X E V N Y T
 obtain⟨r,rfl⟩:=length_eq_one_iff.1 J
 simp only[flatten_cons,flatten_nil,append_nil]at I
 subst I
 exact M
section
variable (G:Glob)
def v_clo2 {k:Nat} {b c:Nat} {args:List AV} {σ:Store} {R:AV->Store->Prop} (h:aj G Tryz.prog k (args++[.p b,.p c]) σ R):du G Tryz.prog (.func (.func k) #[] #[.p b,.p c]) args σ R:=
 ⟨k,#[],#[.p b,.p c],rfl,by simpa[AV.ofValue,AV.ofOne]using h⟩
end
def ly:∀l:List (List UInt8),l≠[]->Lib.join l [10]++[10]=l.flatMap λs=>s++[10]
 |[],h=>absurd rfl h
 |[s],_=>by simp[Lib.join,List.intercalate]
 |s::t::l,_=>by
  have ih:=ly (t::l) (by simp)
  have e:Lib.join (s::t::l) [10]=s++([10]++Lib.join (t::l) [10]):=by simp[Lib.join,List.intercalate]
  rw[e,flatMap_cons,←ih];simp
def textT_len (u:U) (M:u.flat.length<1000000):(textT u).length<=20001000000:=by
 have F:=U.lines_len u 0;have D:=lines_short u 0;unfold textT
 have key:∀l:List (List UInt8),(∀s∈l,s.length<=20000)->(l.flatMap λs=>s++[10]).length<=l.length*20001:=by
  intro l
  induction l with
  |nil=>intro _;simp
  |cons s l ih=>
   intro h;have I:=h s (by simp);have J:=ih λt E=>h t (by simp[E]);simp only[flatMap_cons,length_append,length_cons,length_nil]at*;omega
 have:=key _ D;omega
def LnSt (E D:Nat) (g:Option Nat) (v:AV) (n:Nat):Store:=(D,.cells 313 [.sc (.func (.func 386) #[] #[.p E,.p D])])::(E,.cells 29 [v])::tokS g 9 n
def LnOk (E D:Nat) (g:Option Nat) (v:AV) (rows:List (List UInt8)):Prop:=(v= .own g 9 1 (rows.map srow)\/v= .nil/\g=none/\rows=[])/\(∀d,g=some d->d≠E/\d≠D)/\D≠E
section
variable (G:Glob) (hG:GOk G)
include hG
set_option maxHeartbeats 2000000 in
def f386:∀(u:U) (n:Nat),u.Short->n+u.flat.length<=1000000->∀(M F:Nat) (g:Option Nat) (v:AV) (rows:List (List UInt8)),LnOk M F g v rows->rows.length+u.flat.length<=1000000->
  aj G Tryz.prog 386 [.agg u.cs,.i n,.p M,.p F] (LnSt M F g v rows.length)
   (λr σ'=>r= .tup []/\∃Z,LnOk M F Z (.own Z 9 1 ((rows++u.lines n).map srow)) (rows++u.lines n)/\σ'=LnSt M F Z (.own Z 9 1 ((rows++u.lines n).map srow)) (rows++u.lines n).length):=by
 refine U.ind λu ih n hs hn M F g v rows I bh=>?_
 have bd:=hs.1.kids
 have bb:u.flat.length=1+(U.flats u.kids).length:=by rw[U.flat_eq,length_cons];omega
 have Y:IntKind.i64.wrap ((n:Int)+1)=((n+1:Nat):Int):=by rw[av (by omega) (by omega)];omega
 obtain⟨hv,hg,E⟩:=I
 have J:¬M=F:=λe=>E e.symm
 have hL:=f387 G hG u n hs (by omega)
 have ad:=U.lines_len u n
 refine aj.w c386 ?_
 unfold s386 r386 LnSt
 rcases hv with rfl|⟨rfl,rfl,rfl⟩
 ·(repeat' (first|(with_reducible refine ab hL ?_)|simp only[EV,seval,E,J,ac]|simp only[EV,seval,E,J]|(with_reducible intro ah V;(try(have X:=V;simp only[EVK]at X;(have ac:=X))))|(with_reducible first|refine ag ?_ ?_|refine ai ?_)|(refine⟨[[.str (lineOf u n)]],rfl,(by simp),rfl,?_⟩)|(refine oV (n:=rows.length) (m':=rows.length+1) [_,_] (by rfl) (λd hd=>by simp[Store.keys];exact⟨(hg d hd).2,(hg d hd).1⟩) (by simp) (by omega) (by omega) rfl (by assumption) (by omega) (λgn aa=>?_))))
  all_goals(
   refine ap (ι:=Option Nat×List (List UInt8)) u.kids (λi r c=>LnOk M F c.1 (.own c.1 9 1 (c.2.map srow)) c.2/\rows++u.lines n=c.2++U.liness (n+1) r/\c.2.length+(U.liness (n+1) r).length<=1000000)
    (λi c=>[(1,.i n),(3,.p F),(15,.lst 8 (u.kids.map U.cs)),(16,.i u.kids.length),(17,.i i)])
    (λi c=>LnSt M F c.1 (.own c.1 9 1 (c.2.map srow)) c.2.length) (gn,rows++[lineOf u n]) ⟨⟨.inl rfl,λd hd=>by have:=aa d hd;simp[Store.keys]at this;exact⟨this.2,this.1⟩,E⟩,by rw[U.lines_eq];simp,by have:=ad;simp only[U.lines_eq,length_cons,length_append,length_nil]at*;omega⟩
    (by simp only[LnSt,map_append,map_cons,map_nil,length_append,length_cons,length_nil,srow];exact dT _ _) (by omega) (λi x r c I D hw=>?_) (λc I hn=>?_)
   ·obtain⟨o1,N,o3⟩:=I
    rw[U.liness_cons]at N o3
    rw[length_append]at o3
    have an:=U.lines_len x (n+1)
    have al:=sH D.mem
    unfold LnSt
    (try simp only[EV,seval,D.yes,D.le0,D.lt',D.row,hw,Y,E,J])
    intro b7 O
    have T:¬b7=F:=by simp only[EVK]at O;exact O.1
    (try simp only[EV,seval,D.yes,D.le0,D.lt',D.row,hw,Y,E,J,T])
    refine bv (LnSt M F c.1 (.own c.1 9 1 (c.2.map srow)) c.2.length) [(b7,.cells 27 x.cs)] (v_clo2 G (ih x D.mem (n+1) (hs.kid D.mem) (by omega) M F c.1 _ c.2 o1 (by omega))) (hU _) sS ?_
    rintro r' aw ⟨rfl,Z,hk,rfl⟩
    (try simp only[EV,seval,hw])
    refine ak D (Z,c.2++x.lines (n+1)) ⟨hk,by have:=N;simp only[append_assoc,nil_append]at this ⊢;exact this,by simp only[length_append];omega⟩ (Weak.sub SubN.left)
   ·obtain⟨o1,N,o3⟩:=I
    rw[U.liness,append_nil]at N
    (try simp only[EV,seval,hn])
    (try rw[nil_append]at N)
    exact RET.mk (SubN.refl _) ⟨rfl,c.1,by rw[N];exact o1,by rw[N];rfl⟩)
 ·(repeat' (first|(with_reducible refine ab hL ?_)|simp only[EV,seval,E,J,ac]|simp only[EV,seval,E,J]|(with_reducible intro ah V;(try(have X:=V;simp only[EVK]at X;(have ac:=X))))|(with_reducible first|refine ag ?_ ?_|refine ai ?_)|(refine⟨[[.str (lineOf u n)]],rfl,(by simp),rfl,?_⟩)|(refine oV (n:=0) (m':=1) [_,_] (by rfl) (by simp) (by simp) (by omega) (by omega) rfl (by assumption) (by omega) (λgn aa=>?_))))
  all_goals(
   refine ap (ι:=Option Nat×List (List UInt8)) u.kids (λi r c=>LnOk M F c.1 (.own c.1 9 1 (c.2.map srow)) c.2/\[]++u.lines n=c.2++U.liness (n+1) r/\c.2.length+(U.liness (n+1) r).length<=1000000)
    (λi c=>[(1,.i n),(3,.p F),(15,.lst 8 (u.kids.map U.cs)),(16,.i u.kids.length),(17,.i i)])
    (λi c=>LnSt M F c.1 (.own c.1 9 1 (c.2.map srow)) c.2.length) (gn,[lineOf u n]) ⟨⟨.inl rfl,λd hd=>by have:=aa d hd;simp[Store.keys]at this;exact⟨this.2,this.1⟩,E⟩,by rw[U.lines_eq];simp,by have:=ad;simp only[U.lines_eq,length_cons,length_append,length_nil]at*;omega⟩
    (by simp only[LnSt,map_append,map_cons,map_nil,length_append,length_cons,length_nil,srow];exact dT _ _) (by omega) (λi x r c I D hw=>?_) (λc I hn=>?_)
   ·obtain⟨o1,N,o3⟩:=I
    rw[U.liness_cons]at N o3
    rw[length_append]at o3
    have an:=U.lines_len x (n+1)
    have al:=sH D.mem
    unfold LnSt
    (try simp only[EV,seval,D.yes,D.le0,D.lt',D.row,hw,Y,E,J])
    intro b7 O
    have T:¬b7=F:=by simp only[EVK]at O;exact O.1
    (try simp only[EV,seval,D.yes,D.le0,D.lt',D.row,hw,Y,E,J,T])
    refine bv (LnSt M F c.1 (.own c.1 9 1 (c.2.map srow)) c.2.length) [(b7,.cells 27 x.cs)] (v_clo2 G (ih x D.mem (n+1) (hs.kid D.mem) (by omega) M F c.1 _ c.2 o1 (by omega))) (hU _) sS ?_
    rintro r' aw ⟨rfl,Z,hk,rfl⟩
    (try simp only[EV,seval,hw])
    refine ak D (Z,c.2++x.lines (n+1)) ⟨hk,by have:=N;simp only[append_assoc,nil_append]at this ⊢;exact this,by simp only[length_append];omega⟩ (Weak.sub SubN.left)
   ·obtain⟨o1,N,o3⟩:=I
    rw[U.liness,append_nil]at N
    (try simp only[EV,seval,hn])
    (try rw[nil_append]at N)
    exact RET.mk (SubN.refl _) ⟨rfl,c.1,by rw[N];exact o1,by rw[N];rfl⟩)
def f352 (u:U) (N:u.Short):aj G Tryz.prog 352 [.agg u.cs] [] (λr σ'=>(dC u=false/\r= .nil)\/(dC u=true/\∃g,r= .own g 9 1 ((u.lines 0).map srow))):=by
 have O:=f385 G u N;have D:=f275 G hG u.strip (kL N);rw[lM]at D;have Z:=N.1.2;refine aj.w c352 ?_;unfold s352 r352
 cases F:dC u with
 |false=>
  rw[F]at D;(repeat' (first|(with_reducible first|refine ab O ?_|refine ab D ?_)|simp only[EV,seval]));exact RET.mk (SubN.nil _) (by simp)
 |true=>
  rw[F]at D;(try simp only[EV,seval,O]);refine ab O ?_;(try simp only[EV,seval]);refine ab D ?_;(try simp only[EV,seval]);intro J X I E
  have M:¬I=J:=by simp only[EVK]at E;exact E
  have T:¬J=I:=λe=>M e.symm;(try simp only[EV,seval,M,T]);have V:=f386 G hG u 0 N (by omega) J I none .nil [] ⟨.inr ⟨rfl,rfl,rfl⟩,by simp,M⟩ (by simp;omega);refine bv (LnSt J I none .nil 0) [] (v_clo2 G V) (hU _) (by rw[append_nil];exact SubN.refl _) ?_;rintro r σ' ⟨rfl,Y,_,rfl⟩;unfold LnSt;(try simp only[EV,seval,M,T]);exact RET.mk (SubN.nil _) (by simp)
def f317 (u:U) (M:u.Short):Pure G Tryz.prog 317 [.agg u.cs] (.tup [.str (textOf u).1,.i (textOf u).2]):=by
 have O:=f352 G hG u M;have T:=M.1.2;have J:=U.lines_len u 0
 have D:1<=(u.lines 0).length:=by rw[J];exact u.flat_pos
 have V:=ly (u.lines 0) (by intro e;rw[e]at D;simp at D);have Y:=textT_len u T;have F:Lib.join (u.lines 0) [10]++[10]=textT u:=V
 have X:(Lib.join (u.lines 0) [10]).length+1=(textT u).length:=by rw[←F];simp
 refine Pure.w c317 λR E=>?_;unfold s317 r317;(try simp only[EV,seval]);refine bv [] [] O.v (hU _) (SubN.refl _) ?_;rintro r σ' (⟨hsh,rfl⟩|⟨hsh,g,rfl⟩)
 ·have I:textOf u=([],1):=by unfold textOf;rw[hsh];rfl
  rw[I]at E;(try simp only[EV,seval]);exact RET.eq E rfl
 ·have I:textOf u=if (16384:Int)<(textT u).length then ([],6)else (textT u,0):=by unfold textOf;rw[hsh];rfl
  rw[I]at E;have Z:decide (((u.lines 0).length:Int)=0)=false:=decide_eq_false (by omega);have N:=f353 G g (u.lines 0) [10] (by omega) (by omega);(repeat' (first|(with_reducible (refine ae (λh=>?_) λh=>?_)<;>(try simp only[DZ]at h))|(with_reducible first|refine AI (by omega) ?_|refine ab N ?_)|simp only[EV,seval,Z,F,length_cons,length_nil]))
  ·rw[if_pos (by omega)]at E;exact RET.eq E rfl
  ·rw[if_neg (by omega)]at E;exact RET.eq E rfl
end
end Go.Av
namespace Go.Av
open Go Go.RowKit Go.MapKept List
section
variable {G:Glob} {P:Program} {env:Env} {σ:Store} {K:AV->Store->Prop} {κ:Type} [DecidableEq κ] {kT:TypeId} {val:κ->Value}
def px (k:Int):∀(l:List Int) (ents:List MapEntry) (i:Nat),ents.map (·.key)=l.map (λn=>Value.int .i64 n)->
  Instr.findNow (.int .i64) (.i k) ents i=some ((((l.zip ents).zipIdx i).find? λq=>decide (q.1.1=k)).map λq=>(q.2,q.1.2.val))
 |[],[],i,_=>by simp[Instr.findNow]
 |[],e::es,i,h=>by simp at h
 |b::l,[],i,h=>by simp at h
 |b::l,e::es,i,h=>by
  simp only[map_cons,List.cons.injEq]at h;simp only[Instr.findNow,h.1,Instr.sameNow,if_true,zip_cons_cons,zipIdx_cons,find?_cons];by_cases D:k=b
  ·subst D;simp
  ·have E:(k==b)=false:=by simpa using D
   have F:decide (b=k)=false:=by simp;exact λe=>D e.symm
   simp only[E,F];exact px k l es (i+1) h.2
def mapK_int (D:P.underlying kT=some (.int .i64)):MapK P kT (λn:Int=>Value.int .i64 n) where
 ck em k w:=run_checkKey D (by simp[IsKey]) em 9999
 find k l ents w he:=run_findKey D (px k l ents 0 he)
 stays k w:=run_keyThatStays (d:=.int .i64) (by simp[IsKey])
def gx (M:MapK P kT val) {E eT:TypeId} {x D y:Operand} {b:Nat} {l:List (κ×AV)} {k:κ} {yv:AV} (X:(SOpd.of x).eval G env= .sc (.map (some b)))
  (F:∀τ w v,Rep τ w ((SOpd.of D).eval G env) v->v=val k) (Y:(SOpd.of y).eval G env=yv) (V:P.underlying E=some (.map kT eT)) (N:σ.get b=some (.map (df val l)))
  (O:K aG (σ.set b (.map (df val (d9 k yv l))))):RAW G P (.insert E x D y) env σ K ⟨⟩:=by
 intro ρ w a o T J I
 have h:=fN (K:=K) M X F Y V N O ρ w a {o with op:=.mapUpdate E x D y} rfl J I
 have e:execOp a.eval {o with op:=.mapUpdate E x D y}=execOp a.eval o:=by simp[execOp,T]
 rwa [e]at h
end
end Go.Av
namespace Go.Av
open Go Go.RowKit Go.Proofs List
section
variable (G:Glob) (hG:GOk G)
include hG
def f230 (u:U) (F:u.Short):Pure G Tryz.prog 230 [.agg u.cs] (.bool (gu u&&(decide (u.kind≠0)&&decide ((textOf u).2=0)))):=by
 have I:=f317 G hG u F;have D:=f318 G hG u F;rw[←jr]at D;refine Pure.w c230 λR E=>?_;unfold s230 r230;(repeat' (first|(with_reducible (refine af (λh=>?_) λh=>?_)<;>(try simp only[DZ]at h))|(with_reducible first|refine ab I ?_|refine ab D ?_)|simp only[EV,seval]));(all_goals(first|(refine RET.eq E ?_;(refine congrArg AV.bool (Bool.eq_iff_iff.2 ?_);simp only[EVB]at*;omega))|(refine RET.eq E ?_;((simp_all[];done)))))
def f228 (x:Itm) (F:x.unit.Short):Pure G Tryz.prog 228 [.agg x.cs] (.bool (inR x.wh 0 3&&(gu x.unit&&(decide (x.unit.kind≠0)&&decide ((textOf x.unit).2=0))))):=by
 have E:=f230 G hG x.unit F;refine Pure.w c228 λR D=>?_;unfold s228 r228;generalize (gu x.unit&&(decide (x.unit.kind≠0)&&decide ((textOf x.unit).2=0)))=q at*;(repeat' (first|(with_reducible (refine af (λh=>?_) λh=>?_)<;>(try simp only[DZ]at h))|(with_reducible first|refine ab (f229 G _) ?_|refine ab E ?_)|simp only[EV,seval,pt]));(all_goals(((refine RET.eq D ?_;((simp_all[];done))))))
end
section
variable (G:Glob)
def f234 (x:Itm) (q:x.Short1):Pure G Tryz.prog 234 [.agg x.cs] (.bool (dB x.old 1&&(dB x.new 0&&inR x.nth 0 256))):=by
 have F:=λn=>f235 G x.old n (by have:=q.old;omega);have E:=λn=>f235 G x.new n (by have:=q.new;omega);refine Pure.w c234 λR D=>?_;unfold s234 r234;unfold dB at*;(repeat' (first|(with_reducible (refine af (λh=>?_) λh=>?_)<;>(try simp only[DZ]at h))|(with_reducible first|refine ab (F _) ?_|refine ab (E _) ?_|refine ab (f236 G x) ?_)|simp only[EV,seval]));(all_goals(((refine RET.eq D ?_;first|(simp_all[];done)|grind))))
def f238 (x:Itm) (q:x.Short1):Pure G Tryz.prog 238 [.agg x.cs] (.bool (dB x.old 0&&(dB x.new 1&&(inR x.nth 0 256&&(decide (0<(x.old.length:Int))||decide (x.nth=0)))))):=by
 have I:=f235 G x.old 0 (by have:=q.old;omega);have F:=f235 G x.new 1 (by have:=q.new;omega);refine Pure.w c238 λR E=>?_;unfold s238 r238;unfold dB at*;generalize (ee x.old&&decide ((0:Int)<=(x.old.length:Int)))=q1 at*;generalize (ee x.new&&decide ((1:Int)<=(x.new.length:Int)))=q2 at*;have D:=f236 G x;generalize inR x.nth 0 256=q3 at*;(repeat' (first|(with_reducible (refine af (λh=>?_) λh=>?_)<;>(try simp only[DZ]at h))|(with_reducible first|refine ab I ?_|refine ab F ?_|refine ab D ?_)|simp only[EV,seval]));(all_goals(((refine RET.eq E ?_;((simp_all[];done))))))
def f240 (x:Itm) (q:x.Short1):Pure G Tryz.prog 240 [.agg x.cs] (.bool (dB x.new 0)):=by
 have E:=λn=>f235 G x.new n (by have:=q.new;omega);refine Pure.w c240 λR D=>?_;unfold s240 r240;unfold dB at*;(repeat' (first|(with_reducible refine ab (E _) ?_)|simp only[EV,seval]));(all_goals((exact RET.eq D rfl)))
def f242 (x:Itm):Pure G Tryz.prog 242 [.agg x.cs] (.bool (bK x.label)):=by
 refine Pure.w c242 λR D=>?_;unfold s242 r242;(repeat' (first|(with_reducible refine ab (f198 G _) ?_)|simp only[EV,seval]));(all_goals((exact RET.eq D rfl)))
def f244 (x:Itm) (q:x.Short1):Pure G Tryz.prog 244 [.agg x.cs] (.bool (inR x.wh 0 3&&cP x.to_)):=by
 have E:=f131 G x.to_ q.to_;refine Pure.w c244 λR D=>?_;unfold s244 r244;(repeat' (first|(with_reducible (refine af (λh=>?_) λh=>?_)<;>(try simp only[DZ]at h))|(with_reducible first|refine ab (f229 G _) ?_|refine ab E ?_)|simp only[EV,seval]));(all_goals(((refine RET.eq D ?_;((simp_all[];done))))))
def f246 (x:Itm) (q:x.Short1):Pure G Tryz.prog 246 [.agg x.cs] (.bool (cQ x.event&&inR x.day 0 1048576)):=by
 have E:=f132 G x.event q.event;refine Pure.w c246 λR D=>?_;unfold s246 r246;(repeat' (first|(with_reducible (refine af (λh=>?_) λh=>?_)<;>(try simp only[DZ]at h))|(with_reducible first|refine ab (f247 G _ _ _) ?_|refine ab E ?_)|simp only[EV,seval]));(all_goals(((refine RET.eq D ?_;((simp_all[];done))))))
def f249 (x:Itm) (q:x.Short1) (M:∀y∈x.by_,Pure G Tryz.prog 60 [.agg y.cs] (.bool y.may)):
  Pure G Tryz.prog 249 [.agg x.cs] (.bool (inR x.act 1 1048576&&(inR x.item 0 31&&Itm.mayOne x.by_))):=by
 refine Pure.w c249 λR E=>?_
 unfold s249 r249
 have F:=f250 G x 0
 generalize inR x.act 1 1048576=q1 at*
 generalize inR x.item 0 31=q2 at*
 rcases D:x.by_ with _|⟨y,_|⟨z,l⟩⟩
 ·rw[D,Itm.mayOne]at E
  (repeat' (first|(with_reducible (refine af (λh=>?_) λh=>?_)<;>(try simp only[DZ]at h))|(with_reducible refine ab F ?_)|simp only[EV,seval,D,map_nil,length_nil]));(all_goals(((refine RET.eq E ?_;((simp_all[];done))))))
 ·rw[D,rX]at E
  have I:=M y (by rw[D];simp);(repeat' (first|(with_reducible (refine af (λh=>?_) λh=>?_)<;>(try simp only[DZ]at h))|(with_reducible first|refine ab F ?_|refine ab (f54 G _) ?_|refine ab I ?_)|simp only[EV,seval,D,map_cons,map_nil,length_nil,length_cons,getD_cons_zero]));(all_goals(((refine RET.eq E ?_;((simp_all[];done))))))
 ·rw[D,rX]at E
  have J:decide (((x.by_.length:Nat):Int)=1)=false:=by rw[D];simp;omega
  (repeat' (first|(with_reducible (refine af (λh=>?_) λh=>?_)<;>(try simp only[DZ]at h))|(with_reducible refine ab F ?_)|simp only[EV,seval,J]));(all_goals(((refine RET.eq E ?_;((simp_all[];done))))))
end
def fnv (k:Nat):AV:=.sc (.func (.func k) #[] #[])
def intK (n:Int):Value:=.i n
def aK:List (Int×AV):=[(0,.agg [fnv 227,fnv 228]),(1,.agg [fnv 231,fnv 232]),(2,.agg [fnv 233,fnv 234]),(3,.agg [fnv 237,fnv 238]),
 (4,.agg [fnv 239,fnv 240]),(5,.agg [fnv 241,fnv 242]),(6,.agg [fnv 243,fnv 244]),(7,.agg [fnv 438,fnv 439]),(8,.agg [fnv 438,fnv 439]),
 (9,.agg [fnv 438,fnv 439]),(10,.agg [fnv 245,fnv 246]),(11,.agg [fnv 248,fnv 249])]
def bE {b:Nat} {x:AObj} {σ:Store}:Store.get ((b,x)::σ) b=some x:=by simp[Store.get]
def bU:MapK Tryz.prog 3 intK:=mapK_int (by kernel_rfl)
def oA {G:Glob} {env:Env} (n:Int):∀τ w v,Rep τ w ((SOpd.of (.const (.i n))).eval G env) v->v=intK n:=by
 intro τ w v h
 have D:v= .i n:=by simpa only[SOpd.of,SOpd.eval,AV.ofValue,AV.ofOne,Rep]using h
 exact D
section
variable (G:Glob) (hG:GOk G)
include hG
def f130:aj G Tryz.prog 130 [] [] (λr σ=>∃b,r= .sc (.map (some b))/\σ=[(b,.map (df intK aK))]):=by
 have D:=eval_g hG.order;refine aj.w c130 ?_;unfold s130 r130;(try simp only[EV,seval]);refine fD ?_;intro b E;(try simp only[EV,seval]);refine gx bU (l:=[]) (k:=0) (eT:=170) rfl (oA 0) rfl (by kernel_rfl) bE ?_;(repeat' (first|simp only[EV,seval,D]|(refine gx bU (eT:=170) rfl (oA _) rfl (by kernel_rfl) bE ?_)));exact RET.mk (SubN.refl _) ⟨b,rfl,rfl⟩
end
section
variable (G:Glob)
def f170 (f:Value) (a b:List Itm) (ha:a.length<9000000000000000000) (Y:∀x∈a,∀y,gg G Tryz.prog f [.agg x.cs,.agg y.cs] (.bool (decide (x=y)))):
  Pure G Tryz.prog 170 [.lst 25 (a.map Itm.cs),.lst 25 (b.map Itm.cs),.sc f] (.bool (decide (a=b))):=by
 refine Pure.w c170 λR T=>?_
 unfold s170 r170
 by_cases N:a.length=b.length
 ·have J:decide ((a.length:Int)≠(b.length:Int))=false:=by simp[N]
  (repeat' (first|(with_reducible (refine ae (λh=>?_) λh=>?_)<;>(try simp only[DZ]at h))|(with_reducible refine AI (by omega) ?_)|simp only[EV,seval,J,D.yes,D.le0,D.lt',D.get,D.row,V,O.row,O.lt',E]|simp only[EV,seval,J,D.yes,D.le0,D.lt',D.get,D.row,V,O.row,O.lt']|simp only[EV,seval,J,Z]|simp only[EV,seval,J]|(with_reducible intro X M;(try(have F:=M;simp only[EVK]at F;first|(have E:=AI F E)|(have E:=F))))|(refine ak D () ?_ (Weak.sub (SubN.nil _)))|(refine aM (Y _ D.mem y) ?_)|(refine ap (a) (λi r (c:Unit)=>a.length=b.length/\decide (a=b)=decide (r=b.drop i)) (λi c=>[(1,.lst 25 (b.map Itm.cs)),(2,.sc f),(15,.lst 25 (a.map Itm.cs)),(16,.i a.length),(17,.i i)]) (λ_ _=>[]) () (by((simp[*];done))) (dT _ _) (by omega) (λi x r c I D V=>?_) (λc I Z=>?_)<;>(try(obtain⟨y,r2,O,aa,I⟩:=cH I D)))));(all_goals(first|(refine RET.eq T ?_;((simp_all[N];done)))|(simp_all[N];done)))
 ·have J:decide ((a.length:Int)≠(b.length:Int))=true:=by simp;omega
  rw[or N]at T;(repeat' (simp only[EV,seval,J]));(all_goals((exact RET.eq T rfl)))
set_option maxHeartbeats 4000000 in
def f94:∀(a:Itm),a.fit->∀b:Itm,Pure G Tryz.prog 94 [.agg a.cs,.agg b.cs] (.bool (decide (a=b))):=by
 refine Itm.ind λa ih D b=>?_;obtain⟨M,N,I,O,T,V,J⟩:=(su a).1 D;refine Pure.w c94 λR E=>?_;unfold s94 r94;(repeat' (first|(with_reducible (refine af (λh=>?_) λh=>?_)<;>(try simp only[DZ]at h))|(with_reducible first|refine ab (f159 G _ _ (by omega)) ?_|refine ab (f168 G _ _ (by omega)) ?_|refine ab (f169 G a.unit I b.unit) ?_|refine ab (f170 G _ _ _ (by omega) (λx F y=>(ih x F (J x F) y).v)) ?_)|simp only[EV,seval,pt]))
 all_goals first
  |(refine RET.eq E (congrArg AV.bool (Eq.symm (decide_eq_false ?_)));rintro rfl;first|exact absurd rfl h|exact absurd rfl ‹¬_=_› |exact sta_ne (by assumption) rfl)
  |(refine RET.eq E (congrArg AV.bool (decide_eq_decide.2 ⟨λe=>?_,λe=>by rw[e]⟩))
    exact Itm.ext' (by assumption) (by assumption) (by assumption) (by assumption) (by assumption) (by assumption) (by assumption) (by assumption) (by assumption) (by assumption) (sta_eq (by assumption)) (by assumption) (by assumption) (by assumption) (by assumption) e)
  |trace_state
end
end Go.Av
