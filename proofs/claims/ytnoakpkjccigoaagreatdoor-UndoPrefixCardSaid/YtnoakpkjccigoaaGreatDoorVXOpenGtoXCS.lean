/-
  WHAT IS HANDED, OPENED: any value built of truth values, integers, strings, structs and slices, as abstract cells.
-/
import Derived.Test.YtnoakpkjccigoaaGreatDoorProg
import Derived.Test.YtnoakpkjccigoaaGreatDoorVXAv24toXAv26
import Derived.Deep.Slices
import Derived.Deep.DeepHandedRow
import Derived.OpenShut
import Derived.LaidMore
import Derived.LaidHandle
import Derived.Lib.LaidU8
import Derived.Test.YtnoakpkjccigoaaGreatDoorVXAv16toXAv23
namespace Go.Av
open Go Go.RowKit List
set_option linter.unusedSimpArgs false
set_option linter.unusedVariables false
def ShpF (p:TypeId->List AV->Prop):List Field->List AV->Prop
 |[],avs=>avs=[]
 |f::fs,avs=>∃a b,avs=a++b/\p f.type a/\ShpF p fs b
def Shp (P:Program) (B:Nat):Nat->TypeId->List AV->Prop
 |0,_,_=>False
 |n+1,t,avs=>
  match P.underlying t with
  |some .bool=>∃b,avs=[.bool b]
  |some (.int k)=>∃i,avs=[.int k i]
  |some .string=>∃s:List UInt8,s.length<=B/\avs=[.str s]
  |some (.slice e)=>∃rows,avs=[.lst (P.cellsOf e) rows]/\rows.length<=B/\rows.length*P.bytesOf e<=B/\∀r∈rows,Shp P B n e r
  |some (.struct fs)=>ShpF (Shp P B n) fs.toList avs
  |_=>False
def tiles (P:Program):List Field->Nat->Option Nat
 |[],o=>some o
 |f::fs,o=>if f.offset=o then tiles P fs (o+P.cellsOf f.type)else none
def rQ (P:Program) (S:List TypeId):Bool:=S.all λt=>
 match P.underlying t with
 |some .bool|some (.int _)|some .string=>P.cellsOf t==1
 |some (.slice e)=>S.contains e&&P.bytesOf e != 0&&P.cellsOf t==1
 |some (.struct fs)=>(fs.toList.all λf=>S.contains f.type)&&tiles P fs.toList 0==some (P.cellsOf t)
 |_=>false
theorem gY {H:Type} {P:Program} {e:TypeId}:∀{l:List (DataW H)} {d:DataW H},d∈l->∀n∈d.weights P e,n∈DataW.weightsAll P e l
 |x::l,d,hd,n,hn=>by
  simp only[DataW.weightsAll,mem_append]
  rcases mem_cons.1 hd with rfl|hd
  ·exact Or.inl hn
  ·exact Or.inr (gY hd n hn)
theorem dn {H:Type} {P:Program}:∀{D:List TypeId} {l:List (DataW H)} {i:Nat} {t:TypeId} {d:DataW H},D[i]? =some t->l[i]? =some d->∀n∈d.weights P t,n∈DataW.weightsEach P D l
 |t'::D,x::l,0,t,d,h1,h2,n,hn=>by
  simp only[getElem?_cons_zero,Option.some.injEq]at h1 h2
  subst h1 h2
  simp only[DataW.weightsEach,mem_append]
  exact .inl hn
 |t'::D,x::l,i+1,t,d,h1,h2,n,hn=>by
  simp only[DataW.weightsEach,mem_append]
  exact .inr (dn (i:=i) (by simpa using h1) (by simpa using h2) n hn)
 |[],_,_,_,_,h1,_,_,_=>by simp at h1
 |_::_,[],_,_,_,_,h2,_,_=>by simp at h2
theorem fy {w:World} {a:Addr} {u:Value} (h:w.cell? a=some u):jq [] w a u:=⟨h,by rintro⟨x,D,_⟩;cases D⟩
theorem jB {P:Program} {w:World} {p:TypeId->List AV->Prop} {cs:List Value}:∀(M:List Field) (o D:Nat),tiles P M o=some D->D<=cs.length->
  (∀f∈M,∃E,p f.type E/\RepL [] w E ((cs.drop f.offset).take (P.cellsOf f.type))/\∀v∈(cs.drop f.offset).take (P.cellsOf f.type),v.oneCell'=true)->
  o<=D/\∃E,ShpF p M E/\RepL [] w E ((cs.drop o).take (D-o))/\∀v∈(cs.drop o).take (D-o),v.oneCell'=true
 |[],o,D,ht,_,_=>by
  simp only[tiles,Option.some.injEq]at ht
  subst ht
  exact⟨Nat.le_refl _,[],rfl,by simp[RepL],by simp⟩
 |f::M,o,D,ht,hl,h=>by
  simp only[tiles]at ht
  split at ht
  ·rename_i T
   obtain⟨X,I,s2,r2,V⟩:=jB M _ _ ht hl λg O=>h g (mem_cons_of_mem _ O)
   obtain⟨F,s1,r1,N⟩:=h f (mem_cons_self ..)
   rw[T]at r1 N
   have e:(cs.drop o).take (D-o)=(cs.drop o).take (P.cellsOf f.type)++(cs.drop (o+P.cellsOf f.type)).take (D-(o+P.cellsOf f.type)):=by
    rw[←drop_drop,show D-o=P.cellsOf f.type+(D-(o+P.cellsOf f.type))by omega,take_add]
   refine⟨by omega,F++I,⟨F,I,rfl,s1,s2⟩,by rw[e];exact RepL.append r1 r2,?_⟩
   intro v J
   rw[e]at J
   rcases mem_append.1 J with J|J
   ·exact N v J
   ·exact V v J
  ·cases ht
theorem lz {w:World} {D:Nat} {a:Addr} {n:Nat} {cs:List Value} (h:w.cells? D a n=some cs):cs.length=n/\∀j,(E:j<cs.length)->w.cell? (a.add j)=some cs[j]:=by
 obtain⟨J,F,I⟩:=World.cells?_some h
 refine⟨F,λj E=>?_⟩
 have:=I j (by omega)
 rw[this,getElem?_eq_getElem E]
theorem j4 {H:Type} {enc:TypeId×Value->H} {P:Program} {w:World} {S:List TypeId} (hS:rQ P S=true):∀(fuel:Nat) (t:TypeId) (cs:List Value) (x:DataW H×List MemPlace),t∈S->
  DataW.trod enc P w 0 (λ_=>true) true fuel t cs=some x->(∀n∈x.1.weights P t,n<=reachBytes)->cs.length=P.cellsOf t/\∃E,Shp P reachBytes fuel t E/\RepL [] w E cs/\∀v∈cs,v.oneCell'=true
 |0,t,cs,x,_,h,_=>by simp[DataW.trod]at h
 |fuel+1,t,cs,x,ht,h,hw=>by
  have M:=all_eq_true.1 hS t ht
  simp only[Shp]
  split at M
  ·rename_i J
   have J:P.underlying t=some .bool:=J
   have:∃b,cs=[.bool b]:=by
    unfold DataW.trod at h
    rw[J]at h
    split at h<;>simp_all
   obtain⟨b,rfl⟩:=this
   exact⟨by simpa using(beq_iff_eq.1 M).symm,[.bool b],⟨b,rfl⟩,by simp only[RepL,Rep];exact⟨_,_,rfl,rfl,rfl⟩,by simp[Value.oneCell']⟩
  ·rename_i k J
   obtain⟨n,rfl,_,_⟩:=DataW.trod_int J h
   exact⟨by simpa using(beq_iff_eq.1 M).symm,[.int k n],⟨n,rfl⟩,by simp only[RepL,Rep];exact⟨_,_,rfl,rfl,rfl⟩,by simp[Value.oneCell']⟩
  ·rename_i J
   obtain⟨s,rfl,rfl,_⟩:=DataW.trod_string J h
   refine⟨by simpa using(beq_iff_eq.1 M).symm,[.str s.data.toList],⟨s.data.toList,hw _ (by simp[DataW.weights]),rfl⟩,by simp only[RepL,Rep];exact⟨_,_,rfl,by simp,rfl⟩,by simp[Value.oneCell']⟩
  ·rename_i e J
   simp only[Bool.and_eq_true,bne_iff_ne,ne_eq,beq_iff_eq]at M
   obtain⟨⟨he,ah⟩,O⟩:=M
   have he:e∈S:=by simpa using he
   rcases DataW.trod_slice J h with⟨rfl,_⟩|⟨a,len,cap,D,rest,n,hn,rfl,rfl,hb,hl,hm,be,hx,_,_⟩
   ·exact⟨by simpa using O.symm,[.lst (P.cellsOf e) []],⟨[],rfl,Nat.zero_le _,by simp,λr hr=>by cases hr⟩,by simp only[RepL,Rep];exact⟨_,_,rfl,.inl ⟨rfl,trivial⟩,rfl⟩,by simp[Value.oneCell']⟩
   ·obtain rfl:n=fuel:=by omega
    simp only[DataW.weights,J,length_map]at hw
    have ba:=hw _ (mem_cons_self ..)
    have T:len<=reachBytes:=by
     have h2:D.length+rest.length<=(D.length+rest.length)*P.bytesOf e:=Nat.le_mul_of_pos_right _ (Nat.pos_of_ne_zero ah)
     omega
    have key:∀i,i<len->∃r:List AV,Shp P reachBytes n e r/\r.length=P.cellsOf e/\RepAt [] w a (i*P.cellsOf e) r:=by
     intro i hi
     have ac:=hx i hi
     have X:i<D.length:=by omega
     rw[getElem?_eq_getElem X]at ac
     obtain⟨cs',k1,k2⟩:=Option.bind_eq_some_iff.1 ac
     obtain⟨q1,E,q2,q3,q4⟩:=j4 hS n e cs' _ he k2 λq hq=>hw q (mem_cons_of_mem _ (mem_append_left _ (gY (d:=(D[i]).1) (mem_map.2 ⟨_,getElem_mem X,rfl⟩) _ hq)))
     obtain⟨g1,g2⟩:=lz k1
     have bd:=q3.length
     refine⟨E,q2,by omega,RepAt.of_get λj Z=>?_⟩
     have N:j<cs'.length:=by omega
     refine⟨cs'[j],fy ?_,q4 _ (getElem_mem N),q3.get j Z N⟩
     rw[←iD]
     exact g2 j N
    obtain⟨F,hF⟩:=Go.Deep.choose_lt key
    have I:((List.range len).map F).length=len:=by simp
    refine⟨by simpa using O.symm,[.lst (P.cellsOf e) ((List.range len).map F)],⟨_,rfl,by rw[I];exact T,by rw[I];exact Nat.le_trans (Nat.mul_le_mul_right _ (by omega)) ba,?_⟩,?_,by simp[Value.oneCell']⟩
    ·intro r hr
     obtain⟨i,hi,rfl⟩:=mem_map.1 hr
     exact(hF i (mem_range.1 hi)).1
    ·simp only[RepL]
     refine⟨_,_,rfl,?_,rfl⟩
     simp only[Rep]
     right
     refine⟨a,cap,by rw[I],by rw[I];exact hl,hm,ar.of_get λj Z=>?_⟩
     rw[I]at Z
     simp only[getElem_map,getElem_range,Nat.zero_add]
     exact⟨(hF j Z).2.1,(hF j Z).2.2⟩
  ·rename_i fs J
   simp only[Bool.and_eq_true,beq_iff_eq,all_eq_true]at M
   obtain⟨al,an⟩:=M
   obtain⟨xs,n,hn,rfl,hl,bh,bb⟩:=DataW.trod_struct J h
   obtain rfl:n=fuel:=by omega
   simp only[DataW.weights,J]at hw
   obtain⟨_,E,s1,r1,o1⟩:=jB (w:=w) (p:=Shp P reachBytes n) (cs:=cs) fs.toList 0 _ an (by omega) λf hf=>by
    obtain⟨i,hi,rfl⟩:=getElem_of_mem hf
    have V:i<fs.size:=by simpa using hi
    have aw:fs[i]? =some fs[i]:=Array.getElem?_eq_getElem V
    have hx:=bb i fs[i] aw
    have Y:i<xs.length:=by omega
    rw[getElem?_eq_getElem Y]at hx
    have hT:fs[i].type∈S:=by simpa using al fs[i] (by simp)
    obtain⟨g1,E,g2,g3,g4⟩:=j4 hS n fs[i].type _ _ hT hx (λq hq=>hw q (dn (i:=i) (t:=fs[i].type) (d:=(xs[i]).1) (by simp[V]) (by simp[Y]) q hq))
    exact⟨E,by simpa using g2,by simpa using g3,by simpa using g4⟩
   rw[Nat.sub_zero,drop_zero,←hl,take_length]at r1 o1
   exact⟨hl,E,s1,r1,o1⟩
  ·cases M
theorem ju {H:Type} {enc:TypeId×Value->H} {P:Program} {w:World} {S:List TypeId} (E:rQ P S=true) {t:TypeId} (M:t∈S) (O:P.cellsOf t≠1) {v:Value} {d:DataW H} {ps:List MemPlace}
  (F:DataW.Trod enc P w 0 (λ_=>true) true t v d ps) (N:∀n∈d.weights P t,n<=reachBytes):∃fuel D,Shp P reachBytes fuel t D/\Rep [] w (.agg D) v:=by
 obtain⟨fuel,I⟩:=F
 obtain⟨J,D,s,r,o⟩:=j4 E fuel t _ _ M I N
 refine⟨fuel,D,s,?_⟩
 cases v with
 |agg vs=>simp only[Rep];exact⟨vs,rfl,o,r⟩
 |_=>simp[Value.cells]at J;omega
def gG {α β:Type} (f:α->Option β):List α->Option (List β)
 |[]=>some []
 |x::xs=>match f x,gG f xs with
  |some y,some ys=>some (y::ys)
  |_,_=>none
theorem rg {α β:Type} {f:α->Option β}:∀{xs:List α} {ys:List β},gG f xs=some ys->ys.length=xs.length/\∀(i:Nat) (x:α),xs[i]? =some x->∃y,ys[i]? =some y/\f x=some y
 |[],ys,h=>by simp only[gG,Option.some.injEq]at h;subst h;exact⟨rfl,λi x I=>by simp at I⟩
 |x::xs,ys,h=>by
  simp only[gG]at h
  split at h
  ·rename_i y J E F
   simp only[Option.some.injEq]at h
   subst h
   obtain⟨l,g⟩:=rg F
   refine⟨by simp[l],λi z D=>?_⟩
   cases i with
   |zero=>simp only[getElem?_cons_zero,Option.some.injEq]at D;subst D;exact⟨y,rfl,E⟩
   |succ i=>simpa using g i z (by simpa using D)
  ·cases h
def avD (P:Program):Nat->TypeId->DataW Unit->Option (List AV)
 |0,_,_=>none
 |n+1,t,d=>
  match P.underlying t,d with
  |some .bool,.lit (.bool b)=>some [.bool b]
  |some (.int k),.lit (.int k' z)=>if k=k' then some [.int k z]else none
  |some .string,.lit (.string s)=>some [.str s]
  |some (.slice _),.nil=>some [.nil]
  |some (.slice e),.slice ds _=>(gG (avD P n e) ds).map λrows=>[.lst (P.cellsOf e) rows]
  |some (.array m e),.agg ds=>if P.cellsOf t=m*P.cellsOf e then (gG (avD P n e) ds).map List.flatten else none
  |_,_=>none
def kJ (w:World) (D:List AV) (cs:List Value):Prop:=RepL [] w D cs/\∀v∈cs,v.oneCell'=true
theorem chunks {w:World} {sz:Nat}:∀(rows:List (List AV)) (cs:List Value),cs.length=rows.length*sz->(∀(i:Nat) (r:List AV),rows[i]? =some r->kJ w r ((cs.drop (i*sz)).take sz))->kJ w rows.flatten cs
 |[],cs,hl,_=>by
  have:cs=[]:=eq_nil_of_length_eq_zero (by simpa using hl)
  subst this
  exact⟨by simp[RepL],by simp⟩
 |r::rows,cs,hl,h=>by
  have E:=h 0 r rfl
  simp only[Nat.zero_mul,drop_zero]at E
  have F:cs.length=rows.length*sz+sz:=by rw[hl,length_cons,Nat.add_mul];omega
  have ih:=chunks (sz:=sz) rows (cs.drop sz) (by rw[length_drop,F];omega) λi q I=>by
   have:=h (i+1) q (by simpa using I)
   rw[drop_drop,show sz+i*sz=(i+1)*sz by rw[Nat.add_mul];omega]
   exact this
  refine⟨?_,?_⟩
  ·rw[flatten_cons,←take_append_drop sz cs]
   exact RepL.append E.1 ih.1
  ·intro v D
   rw[←take_append_drop sz cs]at D
   rcases mem_append.1 D with D|D
   ·exact E.2 v D
   ·exact ih.2 v D
theorem mE {enc:TypeId×Value->Unit} {P:Program} {w:World} {sp:Nat->Bool} {ah:Bool}:∀(n:Nat) (t:TypeId) (d:DataW Unit) (O:List AV),avD P n t d=some O->∀(fuel:Nat) (cs:List Value) (ps:List MemPlace),
  DataW.trod enc P w 0 sp ah fuel t cs=some (d,ps)->kJ w O cs
 |0,t,d,O,h,_,_,_,_=>by simp[avD]at h
 |n+1,t,d,O,h,fuel,cs,ps,ht=>by
  simp only[avD]at h
  split at h
  ·rename_i b M
   have:∃b',cs=[.bool b']/\b'=b:=by
    cases fuel with
    |zero=>simp[DataW.trod]at ht
    |succ m=>
     unfold DataW.trod at ht
     rw[M]at ht
     split at ht<;>simp_all
   obtain⟨_,rfl,rfl⟩:=this
   simp only[Option.some.injEq]at h
   subst h
   exact⟨by simp only[RepL,Rep];exact⟨_,_,rfl,rfl,rfl⟩,by simp[Value.oneCell']⟩
  ·rename_i k k' z M
   split at h
   ·rename_i hk
    subst hk
    simp only[Option.some.injEq]at h
    subst h
    obtain⟨z',rfl,E,_⟩:=DataW.trod_int M ht
    simp only[Prod.mk.injEq,DataW.lit.injEq,Lit.int.injEq,true_and]at E
    rw[E.1]
    exact⟨by simp only[RepL,Rep];exact⟨_,_,rfl,rfl,rfl⟩,by simp[Value.oneCell']⟩
   ·cases h
  ·rename_i s M
   simp only[Option.some.injEq]at h
   subst h
   obtain⟨s',rfl,E,_⟩:=DataW.trod_string M ht
   simp only[Prod.mk.injEq,DataW.lit.injEq,Lit.string.injEq]at E
   rw[E.1]
   exact⟨by simp only[RepL,Rep];exact⟨_,_,rfl,by simp,rfl⟩,by simp[Value.oneCell']⟩
  ·rename_i e M
   simp only[Option.some.injEq]at h
   subst h
   rcases DataW.trod_slice M ht with⟨rfl,_⟩|⟨a,len,cap,D,rest,m,hn,rfl,E,hb,hl,hm,ac,an,_,_⟩
   ·exact⟨by simp only[RepL,Rep];exact⟨_,_,rfl,rfl,rfl⟩,by simp[Value.oneCell']⟩
   ·simp at E
  ·rename_i e ds be M
   obtain⟨rows,hr,rfl⟩:=Option.map_eq_some_iff.1 h
   obtain⟨X,V⟩:=rg hr
   rcases DataW.trod_slice M ht with⟨rfl,E⟩|⟨a,len,cap,D,rest,m,hn,rfl,E,hb,hl,hm,ac,an,_,_⟩
   ·simp at E
   ·simp only[Prod.mk.injEq,DataW.slice.injEq]at E
    obtain⟨⟨I,_⟩,_⟩:=E
    have F:rows.length=len:=by rw[X,I,length_map,ac]
    refine⟨?_,by simp[Value.oneCell']⟩
    simp only[RepL]
    refine⟨_,_,rfl,?_,rfl⟩
    simp only[Rep]
    right
    refine⟨a,cap,by rw[F],by rw[F];exact hl,hm,ar.of_get λj hj=>?_⟩
    have J:j<D.length:=by omega
    have Z:=an j (by omega)
    rw[getElem?_eq_getElem J]at Z
    obtain⟨cs',k1,k2⟩:=Option.bind_eq_some_iff.1 Z
    obtain⟨y,N,Y⟩:=V j (D[j]).1 (by rw[I,getElem?_map,getElem?_eq_getElem J];rfl)
    rw[getElem?_eq_getElem hj,Option.some.injEq]at N
    rw[N]
    obtain⟨q3,q4⟩:=mE n e _ y Y m cs' (D[j]).2 k2
    obtain⟨g1,g2⟩:=lz k1
    have bh:=q3.length
    rw[Nat.zero_add]
    refine⟨by omega,RepAt.of_get λi hi=>?_⟩
    have T:i<cs'.length:=by omega
    refine⟨cs'[i],fy ?_,q4 _ (getElem_mem T),q3.get i hi T⟩
    rw[←iD]
    exact g2 i T
  ·rename_i m e ds M
   split at h
   rotate_left
   ·cases h
   rename_i ba
   obtain⟨rows,hr,rfl⟩:=Option.map_eq_some_iff.1 h
   obtain⟨X,V⟩:=rg hr
   obtain⟨xs,m',hn,E,hl,bb,bd⟩:=DataW.trod_array M ht
   simp only[Prod.mk.injEq,DataW.agg.injEq]at E
   obtain⟨I,_⟩:=E
   have F:rows.length=m:=by rw[X,I,length_map,bb]
   have aw:∀(i:Nat) (r:List AV),rows[i]? =some r->kJ w r ((cs.drop (i*P.cellsOf e)).take (P.cellsOf e)):=by
    intro i r al
    have hi:i<rows.length:=(List.getElem?_eq_some_iff.1 al).1
    have J:i<xs.length:=by omega
    have Z:=bd i (by omega)
    rw[getElem?_eq_getElem J]at Z
    obtain⟨y,N,Y⟩:=V i (xs[i]).1 (by rw[I,getElem?_map,getElem?_eq_getElem J];rfl)
    rw[al,Option.some.injEq]at N
    subst N
    exact mE n e _ _ Y m' _ (xs[i]).2 Z
   exact chunks rows cs (by rw[hl,ba,F]) aw
  ·cases h
theorem l0 {P:Program} {w:World} {F:String} {g:Nat} {cs:Array Value} {D:List AV} (I:P.globalNamed F=some g) (M:w.var? P F=some cs) (h:kJ w D cs.toList):RepAt [] w ⟨g,0,none⟩ 0 D:=by
 refine RepAt.of_get λj J=>?_
 have N:=h.1.length
 have E:j<cs.toList.length:=by omega
 refine⟨cs.toList[j],fy ?_,h.2 _ (getElem_mem E),h.1.get j J E⟩
 rw[Nat.zero_add,add_lit,Nat.zero_add]
 have:=World.var?_cell I M j
 rw[this]
 simp
def globOf (l:List (Nat×List AV)):Glob where
 tab g:=(l.find? λp=>p.1==g).map (·.2)
 holds σ w:=∀p∈l,RepAt σ w ⟨p.1,0,none⟩ 0 p.2
 ev he h:=λp D=>RepAt.ev he _ _ _ (h p D)
 tabs:=by
  intro σ w g cs h I
  obtain⟨p,D,rfl⟩:=Option.map_eq_some_iff.1 I
  have E:=find?_some D
  have F:=mem_of_find?_eq_some D
  have e:p.1=g:=by simpa using E
  rw[←e]
  exact h p F
structure Idd where
 act:Int
 item:Int
 n:Int
 deriving DecidableEq,Inhabited
structure Wd where
 text:List UInt8
 act:Int
 item:Int
 at_:Int
 deriving DecidableEq,Inhabited
structure Stp where
 kind:Int
 label:List UInt8
 deriving DecidableEq,Inhabited
structure Sta where
 kind:Int
 day:Int
 event:List UInt8
 deriving DecidableEq,Inhabited
structure U where
 id:Idd
 kind:Int
 label:List UInt8
 head:List Wd
 words:List Wd
 kids:List U
 deriving Inhabited
structure Itm where
 kind:Int
 at_:List Stp
 to_:List Stp
 wh:Int
 nth:Int
 unit:U
 old:List (List UInt8)
 new:List (List UInt8)
 label:List UInt8
 for_:List UInt8
 start:Sta
 act:Int
 item:Int
 day:Int
 event:List UInt8
 by_:List Itm
 deriving Inhabited
structure Fnd where
 at_:Int
 id:Idd
 why:Int
 text:List UInt8
 deriving DecidableEq,Inhabited
def zU:List AV:=[.int .i64 0,.int .i64 0,.int .i64 0,.int .i64 0,.str [],.nil,.nil,.nil]
def zItm:List AV:=[.int .i64 0,.nil,.nil,.int .i64 0,.int .i64 0,.int .i64 0,.int .i64 0,.int .i64 0,.int .i64 0,.str [],.nil,.nil,.nil,.nil,.nil,.str [],.str [],.int .i64 0,.int .i64 0,.str [],.int .i64 0,.int .i64 0,.int .i64 0,.str [],.nil]
def srow (s:List UInt8):List AV:=[.str s]
def Wd.cs (w:Wd):List AV:=[.str w.text,.int .i64 w.act,.int .i64 w.item,.int .i64 w.at_]
def Stp.cs (s:Stp):List AV:=[.int .i64 s.kind,.str s.label]
def Idd.cs (i:Idd):List AV:=[.int .i64 i.act,.int .i64 i.item,.int .i64 i.n]
def Fnd.cs (f:Fnd):List AV:=[.int .i64 f.at_,.int .i64 f.id.act,.int .i64 f.id.item,.int .i64 f.id.n,.int .i64 f.why,.str f.text]
mutual
def U.cs:U->List AV
 |⟨i,k,l,h,w,ks⟩=>[.int .i64 i.act,.int .i64 i.item,.int .i64 i.n,.int .i64 k,.str l,.lst 4 (h.map Wd.cs),.lst 4 (w.map Wd.cs),.lst 8 (U.css ks)]
def U.css:List U->List (List AV)
 |[]=>[]
 |u::us=>U.cs u::U.css us
end
theorem U.css_map:∀us:List U,U.css us=us.map U.cs
 |[]=>rfl
 |u::us=>by rw[U.css,U.css_map us];rfl
theorem U.cs_eq (u:U):U.cs u=[.int .i64 u.id.act,.int .i64 u.id.item,.int .i64 u.id.n,.int .i64 u.kind,.str u.label,.lst 4 (u.head.map Wd.cs),.lst 4 (u.words.map Wd.cs),.lst 8 (u.kids.map U.cs)]:=by
 cases u
 simp only[U.cs,U.css_map]
mutual
def Itm.cs:Itm->List AV
 |⟨k,a,t,wh,n,u,o,w,l,f,s,ac,it,d,e,b⟩=>[.int .i64 k,.lst 2 (a.map Stp.cs),.lst 2 (t.map Stp.cs),.int .i64 wh,.int .i64 n,.int .i64 u.id.act,.int .i64 u.id.item,.int .i64 u.id.n,.int .i64 u.kind,.str u.label,.lst 4 (u.head.map Wd.cs),.lst 4 (u.words.map Wd.cs),.lst 8 (u.kids.map U.cs),
   .lst 1 (o.map srow),.lst 1 (w.map srow),.str l,.str f,.int .i64 s.kind,.int .i64 s.day,.str s.event,.int .i64 ac,.int .i64 it,.int .i64 d,.str e,.lst 25 (Itm.css b)]
def Itm.css:List Itm->List (List AV)
 |[]=>[]
 |u::us=>Itm.cs u::Itm.css us
end
theorem Itm.css_map:∀us:List Itm,Itm.css us=us.map Itm.cs
 |[]=>rfl
 |u::us=>by rw[Itm.css,Itm.css_map us];rfl
theorem Itm.cs_eq (x:Itm):Itm.cs x=[.int .i64 x.kind,.lst 2 (x.at_.map Stp.cs),.lst 2 (x.to_.map Stp.cs),.int .i64 x.wh,.int .i64 x.nth,.int .i64 x.unit.id.act,.int .i64 x.unit.id.item,.int .i64 x.unit.id.n,.int .i64 x.unit.kind,.str x.unit.label,.lst 4 (x.unit.head.map Wd.cs),.lst 4 (x.unit.words.map Wd.cs),.lst 8 (x.unit.kids.map U.cs),
   .lst 1 (x.old.map srow),.lst 1 (x.new.map srow),.str x.label,.str x.for_,.int .i64 x.start.kind,.int .i64 x.start.day,.str x.start.event,.int .i64 x.act,.int .i64 x.item,.int .i64 x.day,.str x.event,.lst 25 (x.by_.map Itm.cs)]:=by
 cases x
 simp only[Itm.cs,Itm.css_map]
theorem U.cs_len (u:U):u.cs.length=8:=by rw[U.cs_eq];rfl
theorem Itm.cs_len (u:Itm):u.cs.length=25:=by rw[Itm.cs_eq];rfl
/-! ### trees -/
theorem U.size_kid {u k:U} (h:k∈u.kids):SizeOf.sizeOf k<SizeOf.sizeOf u:=by
 have:=sizeOf_lt_of_mem h
 cases u
 simp at*
 omega
theorem U.ind {p:U->Prop} (h:∀u,(∀k∈u.kids,p k)->p u) (u:U):p u:=by
 have:∀n (u:U),SizeOf.sizeOf u<n->p u:=by
  intro n
  induction n with
  |zero=>intro u E;omega
  |succ n ih=>exact λu E=>h u λk D=>ih k (by have:=U.size_kid D;omega)
 exact this _ u (Nat.lt_succ_self _)
theorem Itm.size_by {u k:Itm} (h:k∈u.by_):SizeOf.sizeOf k<SizeOf.sizeOf u:=by
 have:=sizeOf_lt_of_mem h
 cases u
 simp at*
 omega
theorem Itm.ind {p:Itm->Prop} (h:∀u,(∀k∈u.by_,p k)->p u) (u:Itm):p u:=by
 have:∀n (u:Itm),SizeOf.sizeOf u<n->p u:=by
  intro n
  induction n with
  |zero=>intro u E;omega
  |succ n ih=>exact λu E=>h u λk D=>ih k (by have:=Itm.size_by D;omega)
 exact this _ u (Nat.lt_succ_self _)
mutual
def U.flat:U->List U
 |⟨i,k,l,h,w,ks⟩=>⟨i,k,l,h,w,ks⟩::U.flats ks
def U.flats:List U->List U
 |[]=>[]
 |u::us=>U.flat u++U.flats us
end
theorem U.flat_eq (u:U):u.flat=u::U.flats u.kids:=by cases u;rw[U.flat]
mutual
def U.deep:U->Nat
 |⟨_,_,_,_,_,ks⟩=>U.deeps ks
def U.deeps:List U->Nat
 |[]=>0
 |u::us=>max (1+U.deep u) (U.deeps us)
end
theorem U.deep_eq (u:U):u.deep=U.deeps u.kids:=by cases u;rw[U.deep]
mutual
def U.beq:U->U->Bool
 |⟨i,k,l,h,w,ks⟩,⟨i',k',l',h',w',ks'⟩=>decide (i=i')&&(decide (k=k')&&(decide (l=l')&&(decide (h=h')&&(decide (w=w')&&U.beqs ks ks'))))
def U.beqs:List U->List U->Bool
 |[],[]=>true
 |u::us,v::vs=>U.beq u v&&U.beqs us vs
 |_,_=>false
end
theorem U.beqs_iff_of {us:List U}:(∀k∈us,∀v,U.beq k v=true↔k=v)->∀vs,U.beqs us vs=true↔us=vs:=by
 induction us with
 |nil=>intro _ vs;cases vs<;>simp[U.beqs]
 |cons u us ih=>
  intro h vs
  cases vs with
  |nil=>simp[U.beqs]
  |cons v vs=>rw[U.beqs,Bool.and_eq_true,h u (by simp),ih (λk D=>h k (by simp[D]))];simp
theorem U.beq_iff:∀u v:U,U.beq u v=true↔u=v:=by
 refine U.ind λu ih v=>?_
 cases u;cases v
 simp only[U.beq,Bool.and_eq_true,decide_eq_true_eq,U.mk.injEq]
 rw[U.beqs_iff_of ih]
instance:DecidableEq U:=λu v=>if h:U.beq u v=true then isTrue ((U.beq_iff u v).1 h)else isFalse λe=>h ((U.beq_iff u v).2 e)
mutual
def Itm.beq:Itm->Itm->Bool
 |⟨k,a,t,wh,n,u,o,w,l,f,s,ac,it,d,e,b⟩,⟨k',a',t',wh',n',u',o',w',l',f',s',ac',it',d',e',b'⟩=>
  decide (k=k')&&(decide (a=a')&&(decide (t=t')&&(decide (wh=wh')&&(decide (n=n')&&(U.beq u u'&&(decide (o=o')&&(decide (w=w')&&(decide (l=l')&&(decide (f=f')&&(decide (s=s')&&
  (decide (ac=ac')&&(decide (it=it')&&(decide (d=d')&&(decide (e=e')&&Itm.beqs b b'))))))))))))))
def Itm.beqs:List Itm->List Itm->Bool
 |[],[]=>true
 |u::us,v::vs=>Itm.beq u v&&Itm.beqs us vs
 |_,_=>false
end
theorem Itm.beqs_iff_of {us:List Itm}:(∀k∈us,∀v,Itm.beq k v=true↔k=v)->∀vs,Itm.beqs us vs=true↔us=vs:=by
 induction us with
 |nil=>intro _ vs;cases vs<;>simp[Itm.beqs]
 |cons u us ih=>
  intro h vs
  cases vs with
  |nil=>simp[Itm.beqs]
  |cons v vs=>rw[Itm.beqs,Bool.and_eq_true,h u (by simp),ih (λk D=>h k (by simp[D]))];simp
theorem Itm.beq_iff:∀u v:Itm,Itm.beq u v=true↔u=v:=by
 refine Itm.ind λu ih v=>?_
 cases u;cases v
 simp only[Itm.beq,Bool.and_eq_true,decide_eq_true_eq,Itm.mk.injEq]
 rw[Itm.beqs_iff_of ih,U.beq_iff]
instance:DecidableEq Itm:=λu v=>if h:Itm.beq u v=true then isTrue ((Itm.beq_iff u v).1 h)else isFalse λe=>h ((Itm.beq_iff u v).2 e)
/-! ### loops over a list: what is left from i on -/
theorem nt {α:Type} {l:List α} {i:Nat} (h:l.drop i=[]) (hi:i<=l.length):i=l.length:=by
 have:=congrArg List.length h
 simp at this
 omega
structure Rest {α:Type} (l:List α) (i:Nat) (x:α) (r:List α):Prop where
 lt:i<l.length
 lt':(i:Int)<(l.length:Int)
 yes:decide ((i:Int)<(l.length:Int))=true
 le0:(0:Int)<=(i:Int)
 next:l.drop (i+1)=r
 get:∀d,l.getD i d=x
 row:∀{β:Type} (f:α->β) (d:β),(l.map f).getD i d=f x
 mem:x∈l
 le:i+1<=l.length
 step:l.length-(i+1)<l.length-i
 take:l.take (i+1)=l.take i++[x]
theorem gk {α:Type} {l:List α} {i:Nat} {x:α} {r:List α} (h:l.drop i=x::r):Rest l i x r:=by
 have hi:i<l.length:=by
  have:=congrArg List.length h
  simp at this
  omega
 have e:l.drop i=l[i]::l.drop (i+1):=drop_eq_getElem_cons hi
 rw[e]at h
 injection h with h1 h2
 refine⟨hi,by omega,by simpa using hi,by omega,h2,λd=>by simp[hi,h1],λf d=>by simp[hi,h1],h1 ▸ getElem_mem hi,hi,by omega,by rw[take_succ_eq_append_getElem hi,h1]⟩
theorem jE {i:Nat} (h:i<9223372036854775807):IntKind.i64.wrap ((i:Int)+1)=((i+1:Nat):Int):=by
 have:=IntWalk.i64_in ((i:Int)+1) ⟨by omega,by omega⟩
 rw[show((i+1:Nat):Int)=(i:Int)+1 from by omega]
 exact this
/-! ### rules for cells -/
theorem U.cs_drop (u:U) (n:Nat):u.cs.drop (n+1)=[AV.int .i64 u.id.item,.int .i64 u.id.n,.int .i64 u.kind,.str u.label,.lst 4 (u.head.map Wd.cs),.lst 4 (u.words.map Wd.cs),.lst 8 (u.kids.map U.cs)].drop n:=by rw[U.cs_eq];rfl
theorem U.cs_take (u:U):u.cs.take 8=u.cs:=by rw[U.cs_eq];rfl
theorem U.cs_take3 (u:U):u.cs.take 3=[AV.int .i64 u.id.act,.int .i64 u.id.item,.int .i64 u.id.n]:=by rw[U.cs_eq];rfl
theorem U.cs_head (u:U) (d:AV):u.cs.headD d= .int .i64 u.id.act:=by rw[U.cs_eq];rfl
theorem Itm.cs_drop (x:Itm) (n:Nat):x.cs.drop (n+1)=[AV.lst 2 (x.at_.map Stp.cs),.lst 2 (x.to_.map Stp.cs),.int .i64 x.wh,.int .i64 x.nth,.int .i64 x.unit.id.act,.int .i64 x.unit.id.item,.int .i64 x.unit.id.n,.int .i64 x.unit.kind,.str x.unit.label,.lst 4 (x.unit.head.map Wd.cs),.lst 4 (x.unit.words.map Wd.cs),.lst 8 (x.unit.kids.map U.cs),
   .lst 1 (x.old.map srow),.lst 1 (x.new.map srow),.str x.label,.str x.for_,.int .i64 x.start.kind,.int .i64 x.start.day,.str x.start.event,.int .i64 x.act,.int .i64 x.item,.int .i64 x.day,.str x.event,.lst 25 (x.by_.map Itm.cs)].drop n:=by rw[Itm.cs_eq];rfl
theorem Itm.cs_take (u:Itm):u.cs.take 25=u.cs:=by rw[Itm.cs_eq];rfl
theorem Itm.cs_head (u:Itm) (d:AV):u.cs.headD d= .int .i64 u.kind:=by rw[Itm.cs_eq];rfl
theorem U.cs_fold (u:U):[AV.int .i64 u.id.act,.int .i64 u.id.item,.int .i64 u.id.n,.int .i64 u.kind,.str u.label,.lst 4 (u.head.map Wd.cs),.lst 4 (u.words.map Wd.cs),.lst 8 (u.kids.map U.cs)]=u.cs:=(U.cs_eq u).symm
theorem wd_cs (w:Wd):w.cs=[.str w.text,.int .i64 w.act,.int .i64 w.item,.int .i64 w.at_]:=(rfl)
theorem stp_cs (s:Stp):s.cs=[.int .i64 s.kind,.str s.label]:=(rfl)
theorem idd_cs (i:Idd):i.cs=[.int .i64 i.act,.int .i64 i.item,.int .i64 i.n]:=(rfl)
theorem fnd_cs (f:Fnd):f.cs=[.int .i64 f.at_,.int .i64 f.id.act,.int .i64 f.id.item,.int .i64 f.id.n,.int .i64 f.why,.str f.text]:=(rfl)
theorem mc (s:List UInt8):srow s=[.str s]:=(rfl)
theorem zU_eq:zU=[.int .i64 0,.int .i64 0,.int .i64 0,.int .i64 0,.str [],.nil,.nil,.nil]:=(rfl)
theorem zItm_eq:zItm=[.int .i64 0,.nil,.nil,.int .i64 0,.int .i64 0,.int .i64 0,.int .i64 0,.int .i64 0,.int .i64 0,.str [],.nil,.nil,.nil,.nil,.nil,.str [],.str [],.int .i64 0,.int .i64 0,.str [],.int .i64 0,.int .i64 0,.int .i64 0,.str [],.nil]:=(rfl)
set_option linter.defProp false
def EV7:=AI (AI (AI U.cs_len Itm.cs_len) (AI U.cs_drop Itm.cs_drop)) (AI (AI (AI U.cs_take (AI U.cs_take3 U.cs_head)) (AI Itm.cs_take Itm.cs_head)) (AI (AI (AI wd_cs stp_cs) (AI idd_cs fnd_cs)) (AI (AI mc (AI zU_eq zItm_eq)) (AI (AI @List.length_map.{0,0} @Int.toNat_natCast) @List.append_nil.{0}))))
/-! ### walks: either order; a loop over a list -/
theorem ae {G:Glob} {P:Program} {a b:DT} {env:Env} {σ:Store} {K:Env->Store->Prop} {t:Tag K} (D:TR G P a env σ K ⟨⟩) (E:TR G P b env σ K ⟨⟩):TR G P (.both a b) env σ K t:=⟨D,E⟩
theorem af {G:Glob} {env:Env} {σ:Store} {K:Env->Store->Prop} (h:K env σ):∃D σ',Weak G env σ D σ'/\K D σ':=⟨env,σ,Weak.rfl' _ _,h⟩
def LK {α ι:Type} (G:Glob) (l:List α) (ok:Nat->List α->ι->Prop) (st:Nat->ι->Env) (D:Nat->ι->Store) (i:Nat):Env->Store->Prop:=
 λenv σ=>∃j:Nat×List α×ι,(l.drop j.1=j.2.1/\j.1<=l.length/\ok j.1 j.2.1 j.2.2)/\l.length-j.1<l.length-i/\Weak G env σ (st j.1 j.2.2) (D j.1 j.2.2)
theorem ap {α ι:Type} {G:Glob} {l:List α} {ok:Nat->List α->ι->Prop} {st:Nat->ι->Env} {E:Nat->ι->Store} {i:Nat} {x:α} {r:List α} {env:Env} {σ:Store} (D:Rest l i x r) (c:ι) (h:ok (i+1) r c)
  (F:Weak G env σ (st (i+1) c) (E (i+1) c)):LK G l ok st E i env σ:=⟨(i+1,r,c),⟨D.next,D.le,h⟩,D.step,F⟩
theorem ay {α ι:Type} {G:Glob} {P:Program} {a:SCode} {Q:Exit->Env->Store->Prop} {V:Tag Q} {env:Env} {σ:Store} (l:List α) (ok:Nat->List α->ι->Prop) (st:Nat->ι->Env) (D:Nat->ι->Store) (c0:ι)
  (O:ok 0 l c0) (T:Weak G env σ (st 0 c0) (D 0 c0)) (X:l.length<9000000000000000000)
  (E:∀i x r c,ok i (x::r) c->Rest l i x r->IntKind.i64.wrap ((i:Int)+1)=((i+1:Nat):Int)->W G P a (NR (LK G l ok st D i) Q ⟨⟩ ⟨⟩) (st i c) (D i c) ⟨⟩)
  (F:∀c,ok l.length [] c->decide ((l.length:Int)<(l.length:Int))=false->W G P a (NR (LK G l ok st D l.length) Q ⟨⟩ ⟨⟩) (st l.length c) (D l.length c) ⟨⟩):W G P (.loop a) Q env σ V:=by
 refine jf (ι:=Nat×List α×ι) (λj=>l.drop j.1=j.2.1/\j.1<=l.length/\ok j.1 j.2.1 j.2.2) (λj=>l.length-j.1) (λj=>st j.1 j.2.2) (λj=>D j.1 j.2.2) (0,l,c0) ⟨rfl,Nat.zero_le _,O⟩ T ?_
 rintro⟨i,r,c⟩ ⟨I,M,J⟩
 simp only at I M J ⊢
 cases r with
 |nil=>
  obtain rfl:=nt I M
  exact F c J (by simp)
 |cons x r=>
  have N:=gk I
  exact E i x r c J N (jE (by have:=N.lt;omega))
theorem keys_cons {k:Nat} {x:AObj} {σ:Store}:Store.keys ((k,x)::σ)=k::σ.keys:=rfl
theorem keys_nil:Store.keys []=[]:=rfl
def EVC:=(AI (AI (AI @List.all_cons.{0} (AI @List.all_nil.{0} @List.any_cons.{0})) (AI (AI @List.any_nil.{0} @Bool.not_false) (AI @Bool.not_true @Bool.false_and))) (AI (AI @Bool.and_false (AI @Bool.true_and @Bool.and_true)) (AI (AI @Bool.false_or @Bool.or_false) (AI @Bool.true_or @Bool.or_true))))
def EVB:=(AI (AI (AI (AI @Bool.and_eq_false_iff @Bool.or_eq_false_iff) (AI @beq_eq_false_iff_ne.{0} (AI @Bool.not_true @Bool.not_false))) (AI (AI @Bool.and_eq_true (AI @Bool.or_eq_true @decide_eq_true_eq)) (AI @decide_eq_false_iff_not (AI @beq_iff_eq.{0} @bne_iff_ne.{0})))) (AI (AI (AI @ne_eq.{1} @Bool.not_eq_true') (AI @Bool.not_eq_true (AI @Bool.not_eq_false @Bool.false_eq_true))) (AI (AI @Bool.true_eq_false (AI @false_iff @iff_false)) (AI @true_iff (AI @iff_true @Bool.not_eq_eq_eq_not)))))
def EVK:=(AI (AI (AI @keys_cons @keys_nil) (AI @List.mem_cons.{0} @List.not_mem_nil.{0})) (AI (AI @not_or @or_false) (AI @not_false_eq_true (AI @and_true @true_and))))
def EVz:=(AI (AI (AI EV1 EV2) (AI EV3 EV4)) (AI EV5 (AI @eq_self.{1} (AI @Option.map_some.{0,0} (AI @decide_true @decide_false)))))
end Go.Av
namespace Go.Av
open Go List
set_option linter.unusedSimpArgs false
set_option linter.unusedVariables false
abbrev qa (d:Nat) (x:SOp):SOper:=⟨some d,none,x⟩
abbrev qb (d g:Nat) (x:SOp):SOper:=⟨some d,some (g,true),x⟩
abbrev qc (d g:Nat) (x:SOp):SOper:=⟨some d,some (g,false),x⟩
abbrev qi (n:Int):SOpd:=.c (.int .i64 n)
abbrev qt:SOpd:=.c (.bool true)
abbrev qf:SOpd:=.c (.bool false)
abbrev qs (a b:SCode):SCode:=.seq a b
abbrev ql (x:SOpd):SOp:=.load false 1 x
abbrev mt (a:Nat):SOp:=.mov (.t a)
abbrev fa (a b:Nat):SOp:=.fieldA a (.t b)
abbrev lo (a:Nat):SOp:=ql (.t a)
abbrev lm (a b:Nat):SOp:=.load true a (.t b)
abbrev qr (a:List SOper) (b:List Nat):SCode:=.region a b
abbrev RL:=List (Nat×Option (Bool×Nat))
abbrev Qm (d:Nat) (a:Nat):SOper:=qa d (mt a)
abbrev Bm (d k:Nat) (a:Nat):SOper:=qb d k (mt a)
abbrev Ym (d k:Nat) (a:Nat):SOper:=qc d k (mt a)
abbrev Qo (d:Nat) (a:Nat):SOper:=qa d (lo a)
abbrev Qa (d:Nat) (a:Nat) (b:Nat):SOper:=qa d (fa a b)
abbrev Ql (d:Nat) (a:Nat) (b:Nat):SOper:=qa d (lm a b)
abbrev Qe (d:Nat) (a:Nat) (b:Nat):SOper:=qa d (.extract a (.t b))
abbrev Qb (d:Nat) (a:Nat) (b:Nat):SOper:=qa d (.boxR a (.t b))
abbrev QB (d:Nat) (a:Nat) (b:Nat) (c:Nat):SOper:=qa d (.box a b (.t c))
abbrev Qi (d:Nat) (m:Int):SOper:=qa d (.mov (qi m))
abbrev Qf (d:Nat):SOper:=qa d (.mov qf)
abbrev Qt (d:Nat):SOper:=qa d (.mov qt)
abbrev Qz (d:Nat):SOper:=qa d (.mov (.c .nil))
abbrev Qp (d:Nat) (a:Nat) (b:Nat):SOper:=qa d (.pick (.t a) (.t b) qf)
abbrev Qq (d:Nat) (a:Nat) (b:Nat):SOper:=qa d (.pick (.t a) qt (.t b))
abbrev Qn (d:Nat) (a:Nat):SOper:=qa d (.len (.t a))
abbrev QN (d:Nat) (a:Nat):SOper:=qa d (.lenS (.t a))
abbrev Qx (d:Nat) (a:Nat) (b:Nat) (c:Nat):SOper:=qa d (.indexA a (.t b) (.t c))
abbrev QU (d:Nat) (a:Nat):SOper:=qa d (.alloc a zU)
abbrev Qw (d:Nat) (a:Nat) (b:Nat) (c:Nat) (e:Nat) (f:Nat):SOper:=qa d (.append a b c (.t e) (.t f))
abbrev Qc (d:Nat) (a:Nat):SOper:=qa d (.nilCheck (.t a))
abbrev Qr (d:Nat) (a:Nat):SOper:=qa d (.not (.t a))
abbrev Qs (d:Nat) (a:Nat) (b:Nat):SOper:=qa d (.loadF true a (.t b))
abbrev Q0 (d:Nat) (a:Nat):SOper:=qa d (.call (.f a) [])
abbrev Q1 (d:Nat) (a:Nat) (b:Nat):SOper:=qa d (.call (.f a) [.t b])
abbrev Q2 (d:Nat) (a:Nat) (b:Nat) (c:Nat):SOper:=qa d (.call (.f a) [.t b,.t c])
abbrev Q3 (d:Nat) (a:Nat) (b:Nat) (c:Nat) (e:Nat):SOper:=qa d (.call (.f a) [.t b,.t c,.t e])
abbrev Q4 (d:Nat) (a:Nat) (b:Nat) (c:Nat) (e:Nat) (f:Nat):SOper:=qa d (.call (.f a) [.t b,.t c,.t e,.t f])
abbrev Q5 (d:Nat) (a:Nat) (b:Nat) (c:Nat) (e:Nat) (f:Nat) (g:Nat):SOper:=qa d (.call (.f a) [.t b,.t c,.t e,.t f,.t g])
abbrev Q6 (d:Nat) (a:Nat) (b:Nat) (c:Nat) (e:Nat) (f:Nat) (g:Nat) (h:Nat):SOper:=qa d (.call (.f a) [.t b,.t c,.t e,.t f,.t g,.t h])
abbrev Qu (d:Nat) (o:BinOp) (a:Nat) (m:Int):SOper:=qa d (.bin o (.t a) (qi m))
abbrev Qv (d:Nat) (o:BinOp) (a:Nat) (b:Nat):SOper:=qa d (.bin o (.t a) (.t b))
abbrev QA (d:Nat):SOper:=qa d (.build zU [])
abbrev QI (d:Nat) (a:Nat) (b:Nat):SOper:=qa d (.index (.t a) (.t b))
abbrev QS (a b c:Nat):SOper:=⟨none,none,.store a (.t b) (.t c)⟩
abbrev qR (a:List SOper) (b:List Nat) (c:SCode):SCode:=qs (qr a b) c
abbrev qX (a:Nat):SCode:=.cond (.t a) .skip (.exit 0)
abbrev qL (a:SCode):SCode:=.block 0 (.loop a)
noncomputable abbrev FB (k:Nat) (l:List Nat):=fnAt Proofs.Tryz.prog k l
end Go.Av
