/-
  ABSTRACT VALUES, 26: a slice over cells of the call's own: made, grown, read and written; and how it becomes one that no one will write.
-/
import Derived.Test.YtjdccoplpljmlaaGreatDoorVXAv21toXAv25
import Derived.Deep.Slices
import Derived.Deep.DeepHandedRow
import Derived.OpenShut
import Derived.LaidMore
import Derived.LaidHandle
import Derived.Lib.LaidU8
namespace Go.Av
open Go Go.RowKit List
set_option linter.unusedSimpArgs false
set_option linter.unusedVariables false
def iS (v:Value):Prop:=v= .slice none 0 0\/∃a,v= .slice (some a) 0 0
theorem jd {b:Nat} {x y:AObj}:∀{σ:Store},b∈σ.keys->(b,y)∈σ.set b y
 |[],h=>by simp[Store.keys]at h
 |(k,z)::σ,h=>by
  simp only[Store.set]
  by_cases E:k=b
  ·rw[if_pos E,E];simp
  ·rw[if_neg E]
   simp only[Store.keys,map_cons,mem_cons]at h
   rcases h with h|h
   ·exact absurd h.symm E
   ·exact mem_cons_of_mem _ (jd (x:=x) h)
theorem gD {b:Nat} {y:AObj}:∀{σ:Store} {q:Nat×AObj},q∈σ->q.1≠b->q∈σ.set b y
 |[],q,h,_=>by cases h
 |(k,z)::σ,q,h,hq=>by
  simp only[Store.set]
  rcases mem_cons.1 h with rfl|h
  ·rw[if_neg hq];simp
  ·split
   ·exact mem_cons_of_mem _ h
   ·exact mem_cons_of_mem _ (gD h hq)
theorem set_subN {σ:Store} {b:Nat} {x:AObj} (J:b∈σ.keys):SubN ((b,x)::σ.erase (some b)) (σ.set b x):=by
 refine⟨λq E=>?_,λI=>?_⟩
 ·rcases mem_cons.1 E with rfl|E
  ·exact jd (x:=x) J
  ·have F:=mem_filter.1 E
   exact gD F.1 (by simpa using F.2)
 ·rw[dj]at I
  simp only[Store.keys,map_cons,nodup_cons]
  exact⟨co σ b,(bR σ (some b)).2 I⟩
def WS (σ:Store) (e:TypeId) (sz:Nat) (xv:AV) (rows:List (List AV)) (g:Option Nat):Prop:=
 (rows=[]/\g=none/\(xv= .nil\/∃v,xv= .sc v/\iS v))\/
 ∃b cap pad,g=some b/\xv= .sc (.slice (some ⟨b,0,none⟩) rows.length cap)/\σ.get b=some (.cells e (rows.flatten++pad))/\(∀r∈rows,r.length=sz)/\(rows.flatten++pad).length=cap*sz/\rows.length<=cap/\cap<=maxLen
section
variable {G:Glob} {P:Program} {σ ρ:Store} {w:World} {env:Env} {K:AV->Store->Prop}
theorem RepL.any:∀(τ:Store) (w:World) (us:List Value),RepL τ w (List.replicate us.length .any) us
 |_,_,[]=>by simp[RepL]
 |τ,w,u::us=>by simp only[length_cons,replicate_succ,RepL];exact⟨u,us,rfl,by simp only[Rep],RepL.any τ w us⟩
theorem np {t tx ty e e':TypeId} {i:TypeInfo} {z:List AV} {x y:Operand} {rows ys:List (List AV)} {g:Option Nat} {xv:AV}
  (hu:P.underlying t=some (.slice e)) (hk:P.underlying tx=some (.slice e')) (hi:P.info? e=some i) (hz:cu P e=some z) (g2:z.length=i.size) (ft:i.size≠0) (e0:i.bytes≠0)
  (eb:(SOpd.of x).eval G env=xv) (hW:WS σ e i.size xv rows g) (eg:srcX i.size ((SOpd.of y).eval G env) λl=>l=ys) (an:(rows.length+ys.length)*i.bytes<=140737488355328)
  (e4:rows=[]->ys=[]->K xv σ)
  (cm:∀b cap pad,b∉(σ.erase g).keys->(rows++ys).length<=cap->cap<=maxLen->(∀r∈rows++ys,r.length=i.size)->((rows++ys).flatten++pad).length=cap*i.size->
   K (.sc (.slice (some ⟨b,0,none⟩) (rows++ys).length cap)) ((b,.cells e ((rows++ys).flatten++pad))::σ.erase g)):RAW G P (.call (.mk (.builtin .append) #[x,y] #[t,tx])) env σ K ⟨⟩:=by
 intro ρ w a o ho hS hE
 have Y:=ar (G:=G) hS hE x
 have hy:=ar (G:=G) hS hE y
 rw[eb]at Y
 obtain⟨i',zv,ch,fl,ex,ew⟩:=cD (τ:=σ++ρ) (w:=w) hz
 rw[hi]at ch;cases ch
 have d4:zv.cells.size=i.size:=by have:=ex.length;simp at this;omega
 have bh:∀{v:Value} {w':World},(Builtin.append_ #[t,tx] o.type #[a.eval x,a.eval y]).run P w= .ok v w'->(execOp a.eval o).run P w= .ok (.value v) w':=by
  intro v w' M
  simp[execOp,ho,resolve,invoke,builtin,M]
 obtain⟨E,X,rfl,F,d1,bk⟩:=srcX_ok hk hy eg
 have be:=F.newsLen
 have V:rows.length+E.length<=maxLen:=by
  have:=Nat.le_mul_of_pos_right (rows.length+E.length) (Nat.pos_of_ne_zero e0)
  unfold maxLen;omega
 have O:(rows++E).length=rows.length+E.length:=by simp
 have grow:∀(I:Option Addr) (cap:Nat) (J:List Value),a.eval x= .slice I rows.length cap->J.length=rows.length*i.size->RepL (σ++ρ) w rows.flatten J->(∀v∈J,v.oneCell'=true)->(∀r∈rows,r.length=i.size)->
   (Builtin.firstCells i.size rows.length (.slice I rows.length cap)).run P w.drew= .ok J.toArray w.drew->cap<rows.length+E.length->
   ∃v w' r σ',((execOp a.eval o).run P w= .ok (.value v) w'\/(execOp a.eval o).run P w= .ok .skip w'/\v=undef)/\K r σ'/\Sat G (σ'++ρ) w'/\Ev σ w σ' w'/\Rep (σ'++ρ) w' r v:=by
  intro I cap J hv aw e8 e7 al e2 cw
  have M:=run_append_grow_src (P:=P) w t tx o.type e i zv hu hi fl I rows.length cap J e2 (a.eval y) E.length X F cw (by unfold maxLen at V;omega) (growslice_fits cw an)
  rw[←hv]at M
  have bx:=grownCap_ge w (rows.length+E.length) cap e
  have bo:=grownCap_le_maxLen w (rows.length+E.length) cap e V
  generalize grownCap w (rows.length+E.length) cap e=c2 at M bx bo
  let C:Array Value:=(J++X).toArray++Builtin.zeroCells zv.cells (c2-(rows.length+E.length))
  have g0:C.size=c2*i.size:=by
   simp only[C,Array.size_append,size_toArray,length_append,aw,be,size_zeroCells,d4,←Nat.add_mul]
   congr 1;omega
  have ds:w.heap.size∉(σ.erase g).keys:=λhm=>Nat.lt_irrefl _ (hS.lt_left (cj (bR σ g).1 hm))
  let Z:=(Builtin.zeroCells zv.cells (c2-(rows.length+E.length))).toList
  have bd:∀r∈rows++E,r.length=i.size:=λr M=>by rcases mem_append.1 M with M|M<;>first|exact al r M|exact bk r M
  have ag:=ap _ bd
  have e5:=cm w.heap.size c2 (List.replicate Z.length .any) ds (by rw[O];exact bx) bo bd (by
   have:Z.length=(c2-(rows.length+E.length))*i.size:=by simp[Z,size_zeroCells,d4]
   rw[length_append,ag,length_replicate,this,O,←Nat.add_mul]
   congr 1;omega)
  have s1:Sat G (σ.erase g++ρ) w:=hS.subN (bR σ g)
  have s2:Sat G (σ.erase g++ρ) w.drew:=s1.step Ev.drew s1.nodup_left (λb hb=>.inl hb) (λb q hq=>(s1.obj b q (mem_append.2 (.inl hq))).keep Ev.drew rfl)
  have dc:Ev σ w (σ.erase g) w.drew:=(Ev.of_sub (bR σ g).1 w).trans Ev.drew
  have dd:Ev (σ.erase g) w.drew ((w.heap.size,.cells e ((rows++E).flatten++List.replicate Z.length .any))::σ.erase g) (w.drew.alloc (.cells C e)):=Ev.alloc (σ:=σ.erase g) (w:=w.drew) _ _
  have ev:=dc.trans dd
  have s3:=s2.alloc (.cells C e) (.cells e ((rows++E).flatten++List.replicate Z.length .any)) ⟨C,heap_alloc_new w.drew _,by
    intro v hv
    simp only[C,Array.toList_append,mem_append]at hv
    rcases hv with(hv|hv)|hv
    ·exact e7 v hv
    ·exact F.one v hv
    ·exact ew _ (ct hv),by
    have h9:=RepL.append (RepL.ev ev _ _ e8) (RepL.ev ev _ _ d1)
    rw[←flatten_append]at h9
    have dl:=RepL.append h9 (RepL.any _ _ Z)
    rw[show C.toList=J++X++Z by simp only[C,Z,Array.toList_append]]
    exact dl⟩
  exact⟨_,_,_,_,.inl (bh M),e5,s3,ev,by simp only[Rep];rw[O]⟩
 rcases hW with⟨rfl,rfl,hW⟩|⟨b,cap,pad,rfl,rfl,hg,al,ag,g1,bp⟩
 ·by_cases hm:E.length=0
  ·have ef:E=[]:=eq_nil_of_length_eq_zero hm
   subst ef
   have M:(Builtin.append_ #[t,tx] o.type #[a.eval x,a.eval y]).run P w= .ok (a.eval x) w:=by
    rcases hW with rfl|⟨v,rfl,rfl|⟨ad,rfl⟩⟩
    ·simp only[Rep]at Y
     rw[Y];exact dR hu hi F
    ·simp only[Rep]at Y
     rw[Y];exact dR hu hi F
    ·simp only[Rep]at Y
     rw[Y]
     have e6:X=[]:=eq_nil_of_length_eq_zero (by rw[be];simp)
     subst e6
     have bn:=F.cells
     simp only[length_nil]at bn
     rcases F.kind with⟨fx,cl⟩|cl<;>simp[Builtin.append_,run_underlying hu,run_underlying cl,sizeOf,typeInfo,hi,F.len,bn,storeCells]
   exact⟨_,_,_,_,.inl (bh M),e4 rfl rfl,hS,Ev.refl σ w,Y⟩
  ·have T:∃I,a.eval x= .slice I 0 0:=by
    rcases hW with rfl|⟨v,rfl,rfl|⟨ad,rfl⟩⟩<;>simp only[Rep]at Y<;>exact⟨_,Y⟩
   obtain⟨I,T⟩:=T
   refine grow I 0 [] T (by simp) (by simp[RepL]) (by simp) (by simp) ?_ (by simp;omega)
   cases I with
   |none=>simp[Builtin.firstCells]
   |some ad=>exact run_firstCells_some w.drew i.size 0 ad 0 0 [] (by simp) (by simp)
 ·simp only[Rep]at Y
  have hm:=Store.get_mem hg
  have cp:b∈σ.keys:=mem_map.2 ⟨_,hm,rfl⟩
  have ah:=ap _ al
  by_cases N:rows.length+E.length<=cap
  ·have ac:rows.length*i.size+E.flatten.length<=(rows.flatten++pad).length:=by
    rw[ag,ap _ bk,←Nat.add_mul];exact Nat.mul_le_mul_right _ N
   obtain⟨vs,hh,e9,bw,bm⟩:=hS.setRow hg d1 F.one (off:=rows.length*i.size) ac
   have M:=dU (P:=P) (ty:=o.type) hu hi hh F N (by rw[e9,ag,be,←Nat.add_mul];exact Nat.mul_le_mul_right _ N)
   rw[←Y]at M
   have e1:splice (rows.flatten++pad) (rows.length*i.size) E.flatten=(rows++E).flatten++pad.drop E.flatten.length:=by
    rw[aR _ _ _ ac,←ah,take_append_of_le_length (Nat.le_refl _),take_length,flatten_append]
    congr 1
    rw[drop_append]
    simp
   rw[e1]at bw bm
   have d3:=set_subN (x:=AObj.cells e ((rows++E).flatten++pad.drop E.flatten.length)) cp
   refine⟨_,_,_,_,.inl (bh M),cm b cap (pad.drop E.flatten.length) (co σ b) (by rw[O];exact N) bp (λr M=>by rcases mem_append.1 M with M|M<;>first|exact al r M|exact bk r M) ?_,bm.subN d3,bw.trans (Ev.of_sub d3.1 _),by simp only[Rep];rw[O]⟩
   ·rw[flatten_append,length_append,length_append,length_drop]
    rw[length_append]at ag ac
    omega
  ·obtain⟨vs,hh,d0,bb⟩:=hS.obj b _ (mem_append.2 (.inl hm))
   have ea:=bb.length
   have d2:=RepL.take rows.flatten.length bb
   rw[take_append_of_le_length (Nat.le_refl _),take_length]at d2
   have aw:(vs.toList.take rows.flatten.length).length=rows.length*i.size:=by rw[length_take,ea,←ah,length_append];omega
   refine grow (some ⟨b,0,none⟩) cap (vs.toList.take rows.flatten.length) Y aw d2 (λv hv=>d0 v (mem_of_mem_take hv)) al (run_firstCells_some w.drew i.size rows.length _ _ _ _ aw ?_) (by omega)
   intro j v hj
   rw[add_lit,Nat.zero_add]
   have e3:vs.toList[j]? =some v:=by rw[getElem?_take]at hj;split at hj;exact hj;cases hj
   have:w.drew.cell? ⟨b,j,none⟩=w.cell? ⟨b,j,none⟩:=rfl
   rw[this,cell_of_row w b j vs e (0,0) hh]
   simpa using e3
theorem ov {op:Op} {t:Tag K} (E σr:Store) (J:SubN (E++σr) σ) (h:RAW G P op env E (λr σ'=>(σ'++σr:Store).keys.Nodup->K r (σ'++σr)) ⟨⟩):RAW G P op env σ K t:=by
 intro ρ w a o X V T
 have I:Sat G (E++(σr++ρ)) w:=by have:=V.subN J;rwa [append_assoc]at this
 obtain⟨v,w',r,σ',M,N,Y,O,Z⟩:=h (σr++ρ) w a o X I (λj=>by
  have:=Rep.ev (Ev.of_sub J.1 w) _ _ (T j)
  rwa [append_assoc]at this)
 have F:Sat G ((σ'++σr)++ρ) w':=by rwa [append_assoc]
 exact⟨v,w',r,σ'++σr,M,N F.nodup_left,F,O.frame J.1,by rwa [append_assoc]⟩
theorem ez {t e:TypeId} {n:Nat} (X:P.underlying t=some (.slice e)) (T:(P.info? e).map (·.size)=some n) (O:∀v,iS v->K (.sc v) σ):RAW G P (.buildSlice t 0 #[]) env σ K ⟨⟩:=by
 intro ρ w a o V F Y
 obtain⟨i,hi,_⟩:=Option.map_eq_some_iff.1 T
 have E:Ev σ w σ (w.alloc (.cells #[] e)):=Ev.alloc0 _
 have J:∀b x,(b,x)∈σ++ρ->b<w.heap.size:=λb x I=>(F.obj b x I).lt
 refine⟨.slice (some ⟨w.heap.size,0,none⟩) 0 0,w.alloc (.cells #[] e),.sc (.slice (some ⟨w.heap.size,0,none⟩) 0 0),σ,.inl ?_,O _ (.inr ⟨_,rfl⟩),?_,E,by simp only[Rep]⟩
 ·have M:(Array.range 0).map (λ_=>(default:Value))=#[]:=by apply Array.ext';simp
  simp[execOp,V,Instr.buildSlice,run_underlying X,sizeOf,typeInfo,hi,Instr.fill,newRow,M]
 ·exact F.step E F.nodup_left (λb N=>.inl N) (λb x I=>(F.obj b x (mem_append.2 (.inl I))).keep E (Below.heap_alloc _ _ b (J b x (mem_append.2 (.inl I)))))
/-! ### from now on no one writes -/
def fw (e:TypeId) (sz:Nat) (rows:List (List AV)) (E:Option Addr) (cap:Nat) (σ:Store):Prop:=
 (rows=[]/\cap=0/\σ=[])\/
 ∃b pad,E=some ⟨b,0,none⟩/\σ=[(b,.cells e (rows.flatten++pad))]/\rows.length<=cap/\cap<=maxLen/\(∀r∈rows,r.length=sz)/\(rows.flatten++pad).length=cap*sz
def aO (e:TypeId) (sz:Nat) (rows:List (List AV)) (v:AV) (σ:Store):Prop:=∃E cap,v= .sc (.slice E rows.length cap)/\fw e sz rows E cap σ
theorem fw.freeze {e:TypeId} {sz:Nat} {rows:List (List AV)} {E:Option Addr} {cap:Nat} {O σ':Store} {u:Value} (h:fw e sz rows E cap O) (hS:Sat G (σ'++ρ) w) (N:Sub O σ') (hr:u= .slice E rows.length cap):Rep ρ w (.lst sz rows) u:=by
 rcases h with⟨rfl,rfl,rfl⟩|⟨b,pad,rfl,rfl,V,T,Y,ac⟩
 ·subst hr
  simp only[Rep]
  cases E with
  |none=>exact .inl ⟨rfl,trivial⟩
  |some ad=>exact .inr ⟨ad,0,rfl,Nat.le_refl _,Nat.zero_le _,by simp only[az]⟩
 ·have hm:(b,AObj.cells e (rows.flatten++pad))∈σ':=N _ (by simp)
  obtain⟨vs,hh,M,F⟩:=hS.obj b _ (mem_append.2 (.inl hm))
  simp only[Rep]
  refine .inr ⟨_,cap,hr,V,T,az.of_flat Y (RepAt.of_get λj hj=>?_)⟩
  rw[Nat.zero_mul,Nat.zero_add,add_lit,Nat.zero_add]
  have Z:=F.length
  have I:j<vs.toList.length:=by rw[Z,length_append];omega
  have hg:=F.get j (by rw[length_append];omega) I
  rw[getElem_append_left hj]at hg
  refine⟨vs.toList[j],⟨?_,?_⟩,M _ (getElem_mem I),Rep.sub (λq hq=>mem_append.2 (.inr hq)) hg⟩
  ·rw[cell_of_row w b j vs e (0,0) hh]
   simp
  ·intro X
   have hk:=X.of_key
   have J:=hS.nodup
   rw[aB]at J
   exact(nodup_append.1 J).2.2 b (mem_map.2 ⟨_,hm,rfl⟩) b hk rfl
theorem aO.freeze {e:TypeId} {sz:Nat} {rows:List (List AV)} {v:AV} {F σ':Store} {u:Value} (h:aO e sz rows v F) (M:Sat G (σ'++ρ) w) (E:Sub F σ') (J:Rep (σ'++ρ) w v u):Rep ρ w (.lst sz rows) u:=by
 obtain⟨I,cap,rfl,h⟩:=h
 simp only[Rep]at J
 exact h.freeze M E J
def FrzL (σ:Store):List AV->List AV->Prop
 |[],[]=>True
 |x::xs,y::ys=>(x=y\/∃e sz rows E,aO e sz rows x E/\Sub E σ/\y= .lst sz rows)/\FrzL σ xs ys
 |_,_=>False
theorem FrzL.rep {σ':Store} (I:Sat G (σ'++ρ) w):∀{xs ys:List AV} {us:List Value},FrzL σ' xs ys->RepL (σ'++ρ) w xs us->RepL ρ w ys us
 |[],[],us,_,h=>by simpa[RepL]using h
 |x::xs,y::ys,us,hf,h=>by
  simp only[RepL]at h ⊢
  obtain⟨u,E,rfl,F,J⟩:=h
  refine⟨u,E,rfl,?_,FrzL.rep I hf.2 J⟩
  rcases hf.1 with rfl|⟨e,sz,rows,T,M,O,rfl⟩
  ·exact Rep.sub (λq N=>mem_append.2 (.inr N)) F
  ·exact M.freeze I O F
 |[],_::_,_,h,_=>h.elim
 |_::_,[],_,h,_=>h.elim
theorem aj.freeze {k:FuncId} {args ys:List AV} (h:aj G P k args [] (λr σ=>∃xs,r= .agg xs/\FrzL σ xs ys)):Pure G P k args (.agg ys):=
 ⟨h.1,λρ w vs X T=>(h.2 ρ w vs X T).mono λe w' ⟨v,r,σ',Y,⟨xs,Z,V⟩,F,I,E⟩=>by
  subst Z
  refine⟨v,.agg ys,[],Y,⟨rfl,rfl⟩,F.subN (SubN.nil _),I.trans (Ev.of_sub (SubN.nil _).1 _),?_⟩
  simp only[Rep]at E ⊢
  obtain⟨J,M,N,O⟩:=E
  exact⟨J,M,N,by simpa using FrzL.rep F V O⟩⟩
end
/-! ### stores put together -/
theorem ao {σ τ:Store} {b:Nat} (h:b∉σ.keys):Store.get (σ++τ) b=Store.get τ b:=by
 induction σ with
 |nil=>rfl
 |cons p σ ih=>
  obtain⟨k,x⟩:=p
  simp only[Store.keys,map_cons,mem_cons,not_or]at h
  simp only[cons_append,Store.get,if_neg (Ne.symm h.1)]
  exact ih h.2
theorem au {σ τ:Store} {b:Nat} {y:AObj} (h:b∉σ.keys):Store.set (σ++τ) b y=σ++Store.set τ b y:=by
 induction σ with
 |nil=>rfl
 |cons p σ ih=>
  obtain⟨k,x⟩:=p
  simp only[Store.keys,map_cons,mem_cons,not_or]at h
  simp only[cons_append,Store.set,if_neg (Ne.symm h.1)]
  rw[ih h.2]
theorem SubN.perm {σ' σ:Store} (h:List.Perm σ' σ):SubN σ' σ:=
 ⟨λq F=>h.mem_iff.1 F,λE=>by unfold Store.keys at*;exact(h.map Prod.fst).nodup_iff.2 E⟩
theorem SubN.trans {a b c:Store} (h:SubN a b) (k:SubN b c):SubN a c:=⟨λq F=>k.1 q (h.1 q F),λE=>h.2 (k.2 E)⟩
theorem SubN.appL {σ τ:Store}:SubN σ (σ++τ):=by
 refine⟨λq F=>mem_append.2 (.inl F),λE=>?_⟩
 rw[aB]at E
 exact(nodup_append.1 E).1
theorem SubN.appR {σ τ:Store}:SubN τ (σ++τ):=by
 refine⟨λq F=>mem_append.2 (.inr F),λE=>?_⟩
 rw[aB]at E
 exact(nodup_append.1 E).2.1
theorem SubN.app {a b c:Store} (h:SubN b c):SubN (a++b) (a++c):=by
 refine⟨λq E=>?_,λF=>?_⟩
 ·rcases mem_append.1 E with E|E
  ·exact mem_append.2 (.inl E)
  ·exact mem_append.2 (.inr (h.1 q E))
 ·rw[aB]at F ⊢
  obtain⟨M,N,O⟩:=nodup_append.1 F
  exact nodup_append.2 ⟨M,h.2 N,λx I y J=>O x I y (cj h.1 J)⟩
/-! ### rows in a block -/
theorem iT {sz:Nat}:∀{rows:List (List AV)} {pad:List AV} {i:Nat},(∀r∈rows,r.length=sz)->(h:i<rows.length)->((rows.flatten++pad).drop (i*sz)).take sz=rows[i]
 |[],_,_,_,h=>by simp at h
 |r::rows,pad,0,hr,_=>by
  have:=hr r (by simp)
  simp[←this]
 |r::rows,pad,i+1,hr,h=>by
  have E:=hr r (by simp)
  rw[flatten_cons,append_assoc,drop_append,drop_of_length_le (by rw[E,Nat.add_mul];omega),nil_append,show(i+1)*sz-r.length=i*sz by rw[E,Nat.add_mul];omega]
  exact iT (λq F=>hr q (mem_cons_of_mem _ F)) (by simpa using h)
theorem ob {l m:List AV} {o:Nat} {c:List AV} (h:o+c.length<=l.length):splice (l++m) o c=splice l o c++m:=by
 rw[aR _ _ _ h,aR _ _ _ (by simp;omega),take_append_of_le_length (by omega),drop_append_of_le_length h,append_assoc,append_assoc,append_assoc]
theorem gO {l:List AV} {o:Nat} {c:List AV} (h:o+c.length<=l.length):(splice l o c).length=l.length:=by
 rw[aR _ _ _ h];simp;omega
theorem cS {sz:Nat} {c:List AV} {off:Nat} (O:off+c.length<=sz):∀{rows:List (List AV)} {pad:List AV} {i:Nat},(∀r∈rows,r.length=sz)->(h:i<rows.length)->
  splice (rows.flatten++pad) (i*sz+off) c=(rows.set i (splice rows[i] off c)).flatten++pad
 |[],_,_,_,h=>by simp at h
 |r::rows,pad,0,hr,_=>by
  have F:=hr r (by simp)
  simp only[Nat.zero_mul,Nat.zero_add,flatten_cons,append_assoc,set_cons_zero,getElem_cons_zero]
  rw[ob (by omega)]
 |r::rows,pad,i+1,hr,h=>by
  have F:=hr r (by simp)
  have N:i<rows.length:=by simpa using h
  have ih:=cS O (pad:=pad) (λq M=>hr q (mem_cons_of_mem _ M)) N
  have I:=ap rows (λq M=>hr q (mem_cons_of_mem _ M))
  have J:i*sz+off+c.length<=(rows.flatten++pad).length:=by
   have:=Nat.mul_le_mul_right sz (show i+1<=rows.length from N)
   rw[Nat.add_mul]at this
   rw[length_append,I];omega
  rw[aR _ _ _ J]at ih
  have E:(i+1)*sz+off+c.length<=(r++(rows.flatten++pad)).length:=by rw[length_append,F,Nat.add_mul];omega
  rw[flatten_cons,append_assoc,aR _ _ _ E]
  simp only[set_cons_succ,getElem_cons_succ,flatten_cons,append_assoc]
  rw[←ih]
  have e:(i+1)*sz+off=r.length+(i*sz+off):=by rw[F,Nat.add_mul];omega
  rw[e,Nat.add_assoc,take_length_add_append,drop_length_add_append]
  simp[append_assoc]
def ShpF (p:TypeId->List AV->Prop):List Field->List AV->Prop
 |[],avs=>avs=[]
 |f::fs,avs=>∃a b,avs=a++b/\p f.type a/\ShpF p fs b
def Shp (P:Program) (B:Nat):Nat->TypeId->List AV->Prop
 |0,_,_=>False
 |n+1,t,avs=>
  match P.underlying t with
  |some .bool=>∃b,avs=[.bool b]
  |some (.int k)=>∃i,avs=[.int k i]
  |some .string=>∃s:List UInt8,s.length<=B/\avs=[.str s]
  |some (.slice e)=>∃rows,avs=[.lst (P.cellsOf e) rows]/\rows.length<=B/\rows.length*P.bytesOf e<=B/\∀r∈rows,Shp P B n e r
  |some (.struct fs)=>ShpF (Shp P B n) fs.toList avs
  |_=>False
def tiles (P:Program):List Field->Nat->Option Nat
 |[],o=>some o
 |f::fs,o=>if f.offset=o then tiles P fs (o+P.cellsOf f.type)else none
def closedT (P:Program) (S:List TypeId):Bool:=S.all λt=>
 match P.underlying t with
 |some .bool|some (.int _)|some .string=>P.cellsOf t==1
 |some (.slice e)=>S.contains e&&P.bytesOf e != 0&&P.cellsOf t==1
 |some (.struct fs)=>(fs.toList.all λf=>S.contains f.type)&&tiles P fs.toList 0==some (P.cellsOf t)
 |_=>false
theorem gI {H:Type} {P:Program} {e:TypeId}:∀{l:List (DataW H)} {d:DataW H},d∈l->∀n∈d.weights P e,n∈DataW.weightsAll P e l
 |x::l,d,hd,n,hn=>by
  simp only[DataW.weightsAll,mem_append]
  rcases mem_cons.1 hd with rfl|hd
  ·exact Or.inl hn
  ·exact Or.inr (gI hd n hn)
theorem eo {H:Type} {P:Program}:∀{E:List TypeId} {l:List (DataW H)} {i:Nat} {t:TypeId} {d:DataW H},E[i]? =some t->l[i]? =some d->∀n∈d.weights P t,n∈DataW.weightsEach P E l
 |t'::E,x::l,0,t,d,h1,h2,n,hn=>by
  simp only[getElem?_cons_zero,Option.some.injEq]at h1 h2
  subst h1 h2
  simp only[DataW.weightsEach,mem_append]
  exact .inl hn
 |t'::E,x::l,i+1,t,d,h1,h2,n,hn=>by
  simp only[DataW.weightsEach,mem_append]
  exact .inr (eo (i:=i) (by simpa using h1) (by simpa using h2) n hn)
 |[],_,_,_,_,h1,_,_,_=>by simp at h1
 |_::_,[],_,_,_,_,h2,_,_=>by simp at h2
theorem gZ {w:World} {a:Addr} {u:Value} (h:w.cell? a=some u):jh [] w a u:=⟨h,by rintro⟨x,E,_⟩;cases E⟩
theorem ji {P:Program} {w:World} {p:TypeId->List AV->Prop} {cs:List Value}:∀(N:List Field) (o E:Nat),tiles P N o=some E->E<=cs.length->
  (∀f∈N,∃F,p f.type F/\RepL [] w F ((cs.drop f.offset).take (P.cellsOf f.type))/\∀v∈(cs.drop f.offset).take (P.cellsOf f.type),v.oneCell'=true)->
  o<=E/\∃F,ShpF p N F/\RepL [] w F ((cs.drop o).take (E-o))/\∀v∈(cs.drop o).take (E-o),v.oneCell'=true
 |[],o,E,ht,_,_=>by
  simp only[tiles,Option.some.injEq]at ht
  subst ht
  exact⟨Nat.le_refl _,[],rfl,by simp[RepL],by simp⟩
 |f::N,o,E,ht,hl,h=>by
  simp only[tiles]at ht
  split at ht
  ·rename_i V
   obtain⟨Y,J,s2,r2,X⟩:=ji N _ _ ht hl λg T=>h g (mem_cons_of_mem _ T)
   obtain⟨I,s1,r1,O⟩:=h f (mem_cons_self ..)
   rw[V]at r1 O
   have e:(cs.drop o).take (E-o)=(cs.drop o).take (P.cellsOf f.type)++(cs.drop (o+P.cellsOf f.type)).take (E-(o+P.cellsOf f.type)):=by
    rw[←drop_drop,show E-o=P.cellsOf f.type+(E-(o+P.cellsOf f.type))by omega,take_add]
   refine⟨by omega,I++J,⟨I,J,rfl,s1,s2⟩,by rw[e];exact RepL.append r1 r2,?_⟩
   intro v M
   rw[e]at M
   rcases mem_append.1 M with M|M
   ·exact O v M
   ·exact X v M
  ·cases ht
theorem lS {w:World} {E:Nat} {a:Addr} {n:Nat} {cs:List Value} (h:w.cells? E a n=some cs):cs.length=n/\∀j,(F:j<cs.length)->w.cell? (a.add j)=some cs[j]:=by
 obtain⟨M,I,J⟩:=World.cells?_some h
 refine⟨I,λj F=>?_⟩
 have:=J j (by omega)
 rw[this,getElem?_eq_getElem F]
theorem kb {H:Type} {enc:TypeId×Value->H} {P:Program} {w:World} {S:List TypeId} (hS:closedT P S=true):∀(fuel:Nat) (t:TypeId) (cs:List Value) (x:DataW H×List MemPlace),t∈S->
  DataW.trod enc P w 0 (λ_=>true) true fuel t cs=some x->(∀n∈x.1.weights P t,n<=reachBytes)->cs.length=P.cellsOf t/\∃I,Shp P reachBytes fuel t I/\RepL [] w I cs/\∀v∈cs,v.oneCell'=true
 |0,t,cs,x,_,h,_=>by simp[DataW.trod]at h
 |fuel+1,t,cs,x,ht,h,hw=>by
  have N:=all_eq_true.1 hS t ht
  simp only[Shp]
  split at N
  ·rename_i M
   have M:P.underlying t=some .bool:=M
   have:∃b,cs=[.bool b]:=by
    unfold DataW.trod at h
    rw[M]at h
    split at h<;>simp_all
   obtain⟨b,rfl⟩:=this
   exact⟨by simpa using(beq_iff_eq.1 N).symm,[.bool b],⟨b,rfl⟩,by simp only[RepL,Rep];exact⟨_,_,rfl,rfl,rfl⟩,by simp[Value.oneCell']⟩
  ·rename_i k M
   obtain⟨n,rfl,_,_⟩:=DataW.trod_int M h
   exact⟨by simpa using(beq_iff_eq.1 N).symm,[.int k n],⟨n,rfl⟩,by simp only[RepL,Rep];exact⟨_,_,rfl,rfl,rfl⟩,by simp[Value.oneCell']⟩
  ·rename_i M
   obtain⟨s,rfl,rfl,_⟩:=DataW.trod_string M h
   refine⟨by simpa using(beq_iff_eq.1 N).symm,[.str s.data.toList],⟨s.data.toList,hw _ (by simp[DataW.weights]),rfl⟩,by simp only[RepL,Rep];exact⟨_,_,rfl,by simp,rfl⟩,by simp[Value.oneCell']⟩
  ·rename_i e M
   simp only[Bool.and_eq_true,bne_iff_ne,ne_eq,beq_iff_eq]at N
   obtain⟨⟨he,ad⟩,T⟩:=N
   have he:e∈S:=by simpa using he
   rcases DataW.trod_slice M h with⟨rfl,_⟩|⟨a,len,cap,E,rest,n,hn,rfl,rfl,hb,hl,hm,bd,hx,_,_⟩
   ·exact⟨by simpa using T.symm,[.lst (P.cellsOf e) []],⟨[],rfl,Nat.zero_le _,by simp,λr hr=>by cases hr⟩,by simp only[RepL,Rep];exact⟨_,_,rfl,.inl ⟨rfl,trivial⟩,rfl⟩,by simp[Value.oneCell']⟩
   ·obtain rfl:n=fuel:=by omega
    simp only[DataW.weights,M,length_map]at hw
    have an:=hw _ (mem_cons_self ..)
    have V:len<=reachBytes:=by
     have h2:E.length+rest.length<=(E.length+rest.length)*P.bytesOf e:=Nat.le_mul_of_pos_right _ (Nat.pos_of_ne_zero ad)
     omega
    have key:∀i,i<len->∃r:List AV,Shp P reachBytes n e r/\r.length=P.cellsOf e/\RepAt [] w a (i*P.cellsOf e) r:=by
     intro i hi
     have ac:=hx i hi
     have Y:i<E.length:=by omega
     rw[getElem?_eq_getElem Y]at ac
     obtain⟨cs',k1,k2⟩:=Option.bind_eq_some_iff.1 ac
     obtain⟨q1,I,q2,q3,q4⟩:=kb hS n e cs' _ he k2 λq hq=>hw q (mem_cons_of_mem _ (mem_append_left _ (gI (d:=(E[i]).1) (mem_map.2 ⟨_,getElem_mem Y,rfl⟩) _ hq)))
     obtain⟨g1,g2⟩:=lS k1
     have bb:=q3.length
     refine⟨I,q2,by omega,RepAt.of_get λj hj=>?_⟩
     have O:j<cs'.length:=by omega
     refine⟨cs'[j],gZ ?_,q4 _ (getElem_mem O),q3.get j hj O⟩
     rw[←iv]
     exact g2 j O
    obtain⟨F,hF⟩:=Go.Deep.choose_lt key
    have J:((List.range len).map F).length=len:=by simp
    refine⟨by simpa using T.symm,[.lst (P.cellsOf e) ((List.range len).map F)],⟨_,rfl,by rw[J];exact V,by rw[J];exact Nat.le_trans (Nat.mul_le_mul_right _ (by omega)) an,?_⟩,?_,by simp[Value.oneCell']⟩
    ·intro r hr
     obtain⟨i,hi,rfl⟩:=mem_map.1 hr
     exact(hF i (mem_range.1 hi)).1
    ·simp only[RepL]
     refine⟨_,_,rfl,?_,rfl⟩
     simp only[Rep]
     right
     refine⟨a,cap,by rw[J],by rw[J];exact hl,hm,az.of_get λj hj=>?_⟩
     rw[J]at hj
     simp only[getElem_map,getElem_range,Nat.zero_add]
     exact⟨(hF j hj).2.1,(hF j hj).2.2⟩
  ·rename_i fs M
   simp only[Bool.and_eq_true,beq_iff_eq,all_eq_true]at N
   obtain⟨ag,ah⟩:=N
   obtain⟨xs,n,hn,rfl,hl,be,aw⟩:=DataW.trod_struct M h
   obtain rfl:n=fuel:=by omega
   simp only[DataW.weights,M]at hw
   obtain⟨_,I,s1,r1,o1⟩:=ji (w:=w) (p:=Shp P reachBytes n) (cs:=cs) fs.toList 0 _ ah (by omega) λf hf=>by
    obtain⟨i,hi,rfl⟩:=getElem_of_mem hf
    have X:i<fs.size:=by simpa using hi
    have al:fs[i]? =some fs[i]:=Array.getElem?_eq_getElem X
    have hx:=aw i fs[i] al
    have Z:i<xs.length:=by omega
    rw[getElem?_eq_getElem Z]at hx
    have hT:fs[i].type∈S:=by simpa using ag fs[i] (by simp)
    obtain⟨g1,I,g2,g3,g4⟩:=kb hS n fs[i].type _ _ hT hx (λq hq=>hw q (eo (i:=i) (t:=fs[i].type) (d:=(xs[i]).1) (by simp[X]) (by simp[Z]) q hq))
    exact⟨I,by simpa using g2,by simpa using g3,by simpa using g4⟩
   rw[Nat.sub_zero,drop_zero,←hl,take_length]at r1 o1
   exact⟨hl,I,s1,r1,o1⟩
  ·cases N
def gq {α β:Type} (f:α->Option β):List α->Option (List β)
 |[]=>some []
 |x::xs=>match f x,gq f xs with
  |some y,some ys=>some (y::ys)
  |_,_=>none
theorem fQ {α β:Type} {f:α->Option β}:∀{xs:List α} {ys:List β},gq f xs=some ys->ys.length=xs.length/\∀(i:Nat) (x:α),xs[i]? =some x->∃y,ys[i]? =some y/\f x=some y
 |[],ys,h=>by simp only[gq,Option.some.injEq]at h;subst h;exact⟨rfl,λi x J=>by simp at J⟩
 |x::xs,ys,h=>by
  simp only[gq]at h
  split at h
  ·rename_i y M F I
   simp only[Option.some.injEq]at h
   subst h
   obtain⟨l,g⟩:=fQ I
   refine⟨by simp[l],λi z E=>?_⟩
   cases i with
   |zero=>simp only[getElem?_cons_zero,Option.some.injEq]at E;subst E;exact⟨y,rfl,F⟩
   |succ i=>simpa using g i z (by simpa using E)
  ·cases h
def avD (P:Program):Nat->TypeId->DataW Unit->Option (List AV)
 |0,_,_=>none
 |n+1,t,d=>
  match P.underlying t,d with
  |some .bool,.lit (.bool b)=>some [.bool b]
  |some (.int k),.lit (.int k' z)=>if k=k' then some [.int k z]else none
  |some .string,.lit (.string s)=>some [.str s]
  |some (.slice _),.nil=>some [.nil]
  |some (.slice e),.slice ds _=>(gq (avD P n e) ds).map λrows=>[.lst (P.cellsOf e) rows]
  |some (.array m e),.agg ds=>if P.cellsOf t=m*P.cellsOf e then (gq (avD P n e) ds).map List.flatten else none
  |_,_=>none
def j1 (w:World) (E:List AV) (cs:List Value):Prop:=RepL [] w E cs/\∀v∈cs,v.oneCell'=true
theorem chunks {w:World} {sz:Nat}:∀(rows:List (List AV)) (cs:List Value),cs.length=rows.length*sz->(∀(i:Nat) (r:List AV),rows[i]? =some r->j1 w r ((cs.drop (i*sz)).take sz))->j1 w rows.flatten cs
 |[],cs,hl,_=>by
  have:cs=[]:=eq_nil_of_length_eq_zero (by simpa using hl)
  subst this
  exact⟨by simp[RepL],by simp⟩
 |r::rows,cs,hl,h=>by
  have F:=h 0 r rfl
  simp only[Nat.zero_mul,drop_zero]at F
  have I:cs.length=rows.length*sz+sz:=by rw[hl,length_cons,Nat.add_mul];omega
  have ih:=chunks (sz:=sz) rows (cs.drop sz) (by rw[length_drop,I];omega) λi q J=>by
   have:=h (i+1) q (by simpa using J)
   rw[drop_drop,show sz+i*sz=(i+1)*sz by rw[Nat.add_mul];omega]
   exact this
  refine⟨?_,?_⟩
  ·rw[flatten_cons,←take_append_drop sz cs]
   exact RepL.append F.1 ih.1
  ·intro v E
   rw[←take_append_drop sz cs]at E
   rcases mem_append.1 E with E|E
   ·exact F.2 v E
   ·exact ih.2 v E
theorem avD_ok {enc:TypeId×Value->Unit} {P:Program} {w:World} {sp:Nat->Bool} {ad:Bool}:∀(n:Nat) (t:TypeId) (d:DataW Unit) (T:List AV),avD P n t d=some T->∀(fuel:Nat) (cs:List Value) (ps:List MemPlace),
  DataW.trod enc P w 0 sp ad fuel t cs=some (d,ps)->j1 w T cs
 |0,t,d,T,h,_,_,_,_=>by simp[avD]at h
 |n+1,t,d,T,h,fuel,cs,ps,ht=>by
  simp only[avD]at h
  split at h
  ·rename_i b N
   have:∃b',cs=[.bool b']/\b'=b:=by
    cases fuel with
    |zero=>simp[DataW.trod]at ht
    |succ m=>
     unfold DataW.trod at ht
     rw[N]at ht
     split at ht<;>simp_all
   obtain⟨_,rfl,rfl⟩:=this
   simp only[Option.some.injEq]at h
   subst h
   exact⟨by simp only[RepL,Rep];exact⟨_,_,rfl,rfl,rfl⟩,by simp[Value.oneCell']⟩
  ·rename_i k k' z N
   split at h
   ·rename_i hk
    subst hk
    simp only[Option.some.injEq]at h
    subst h
    obtain⟨z',rfl,F,_⟩:=DataW.trod_int N ht
    simp only[Prod.mk.injEq,DataW.lit.injEq,Lit.int.injEq,true_and]at F
    rw[F.1]
    exact⟨by simp only[RepL,Rep];exact⟨_,_,rfl,rfl,rfl⟩,by simp[Value.oneCell']⟩
   ·cases h
  ·rename_i s N
   simp only[Option.some.injEq]at h
   subst h
   obtain⟨s',rfl,F,_⟩:=DataW.trod_string N ht
   simp only[Prod.mk.injEq,DataW.lit.injEq,Lit.string.injEq]at F
   rw[F.1]
   exact⟨by simp only[RepL,Rep];exact⟨_,_,rfl,by simp,rfl⟩,by simp[Value.oneCell']⟩
  ·rename_i e N
   simp only[Option.some.injEq]at h
   subst h
   rcases DataW.trod_slice N ht with⟨rfl,_⟩|⟨a,len,cap,E,rest,m,hn,rfl,F,hb,hl,hm,ac,ah,_,_⟩
   ·exact⟨by simp only[RepL,Rep];exact⟨_,_,rfl,rfl,rfl⟩,by simp[Value.oneCell']⟩
   ·simp at F
  ·rename_i e ds bd N
   obtain⟨rows,hr,rfl⟩:=Option.map_eq_some_iff.1 h
   obtain⟨Y,X⟩:=fQ hr
   rcases DataW.trod_slice N ht with⟨rfl,F⟩|⟨a,len,cap,E,rest,m,hn,rfl,F,hb,hl,hm,ac,ah,_,_⟩
   ·simp at F
   ·simp only[Prod.mk.injEq,DataW.slice.injEq]at F
    obtain⟨⟨J,_⟩,_⟩:=F
    have I:rows.length=len:=by rw[Y,J,length_map,ac]
    refine⟨?_,by simp[Value.oneCell']⟩
    simp only[RepL]
    refine⟨_,_,rfl,?_,rfl⟩
    simp only[Rep]
    right
    refine⟨a,cap,by rw[I],by rw[I];exact hl,hm,az.of_get λj hj=>?_⟩
    have M:j<E.length:=by omega
    have h1:=ah j (by omega)
    rw[getElem?_eq_getElem M]at h1
    obtain⟨cs',k1,k2⟩:=Option.bind_eq_some_iff.1 h1
    obtain⟨y,O,Z⟩:=X j (E[j]).1 (by rw[J,getElem?_map,getElem?_eq_getElem M];rfl)
    rw[getElem?_eq_getElem hj,Option.some.injEq]at O
    rw[O]
    obtain⟨q3,q4⟩:=avD_ok n e _ y Z m cs' (E[j]).2 k2
    obtain⟨g1,g2⟩:=lS k1
    have be:=q3.length
    rw[Nat.zero_add]
    refine⟨by omega,RepAt.of_get λi hi=>?_⟩
    have V:i<cs'.length:=by omega
    refine⟨cs'[i],gZ ?_,q4 _ (getElem_mem V),q3.get i hi V⟩
    rw[←iv]
    exact g2 i V
  ·rename_i m e ds N
   split at h
   rotate_left
   ·cases h
   rename_i an
   obtain⟨rows,hr,rfl⟩:=Option.map_eq_some_iff.1 h
   obtain⟨Y,X⟩:=fQ hr
   obtain⟨xs,m',hn,F,hl,aw,bb⟩:=DataW.trod_array N ht
   simp only[Prod.mk.injEq,DataW.agg.injEq]at F
   obtain⟨J,_⟩:=F
   have I:rows.length=m:=by rw[Y,J,length_map,aw]
   have al:∀(i:Nat) (r:List AV),rows[i]? =some r->j1 w r ((cs.drop (i*P.cellsOf e)).take (P.cellsOf e)):=by
    intro i r ag
    have hi:i<rows.length:=(List.getElem?_eq_some_iff.1 ag).1
    have M:i<xs.length:=by omega
    have h1:=bb i (by omega)
    rw[getElem?_eq_getElem M]at h1
    obtain⟨y,O,Z⟩:=X i (xs[i]).1 (by rw[J,getElem?_map,getElem?_eq_getElem M];rfl)
    rw[ag,Option.some.injEq]at O
    subst O
    exact avD_ok n e _ _ Z m' _ (xs[i]).2 h1
   exact chunks rows cs (by rw[hl,an,I]) al
  ·cases h
theorem lK {P:Program} {w:World} {I:String} {g:Nat} {cs:Array Value} {E:List AV} (J:P.globalNamed I=some g) (N:w.var? P I=some cs) (h:j1 w E cs.toList):RepAt [] w ⟨g,0,none⟩ 0 E:=by
 refine RepAt.of_get λj M=>?_
 have O:=h.1.length
 have F:j<cs.toList.length:=by omega
 refine⟨cs.toList[j],gZ ?_,h.2 _ (getElem_mem F),h.1.get j M F⟩
 rw[Nat.zero_add,add_lit,Nat.zero_add]
 have:=World.var?_cell J N j
 rw[this]
 simp
def globOf (l:List (Nat×List AV)):Glob where
 tab g:=(l.find? λp=>p.1==g).map (·.2)
 holds σ w:=∀p∈l,RepAt σ w ⟨p.1,0,none⟩ 0 p.2
 ev he h:=λp E=>RepAt.ev he _ _ _ (h p E)
 tabs:=by
  intro σ w g cs h J
  obtain⟨p,E,rfl⟩:=Option.map_eq_some_iff.1 J
  have F:=find?_some E
  have I:=mem_of_find?_eq_some E
  have e:p.1=g:=by simpa using F
  rw[←e]
  exact h p I
end Go.Av
