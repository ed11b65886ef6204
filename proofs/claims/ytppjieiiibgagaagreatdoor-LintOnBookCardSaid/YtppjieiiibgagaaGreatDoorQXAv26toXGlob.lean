/-
  ABSTRACT VALUES, 26: a slice over cells of the call's own: made, grown, read and written; and how it becomes one that no one will write.
-/
import Derived.Test.YtppjieiiibgagaaGreatDoorQXAv23toXAv25
import Derived.Deep.Slices
import Derived.Deep.DeepHandedRow
import Derived.OpenShut
import Derived.LaidMore
import Derived.LaidHandle
import Derived.Lib.LaidU8
set_option linter.all false
namespace Go.Av
open Go Go.RowKit List
def l5 (v:Value):Prop:=v= .slice none 0 0\/∃a,v= .slice (some a) 0 0
def kM {b:Nat} {x y:AObj}:∀{σ:Store},b∈σ.keys->(b,y)∈σ.set b y
 |[],h=>by simp[Store.keys]at h
 |(k,z)::σ,h=>by
  simp only[Store.set];by_cases D:k=b
  ·rw[if_pos D,D];simp
  ·rw[if_neg D];simp only[Store.keys,map_cons,mem_cons]at h
   rcases h with h|h
   ·exact absurd h.symm D
   ·exact mem_cons_of_mem _ (kM (x:=x) h)
def iX {b:Nat} {y:AObj}:∀{σ:Store} {q:Nat×AObj},q∈σ->q.1≠b->q∈σ.set b y
 |[],q,h,_=>by cases h
 |(k,z)::σ,q,h,hq=>by
  simp only[Store.set]
  rcases mem_cons.1 h with rfl|h
  ·rw[if_neg hq];simp
  ·split
   ·exact mem_cons_of_mem _ h
   ·exact mem_cons_of_mem _ (iX h hq)
def set_subN {σ:Store} {b:Nat} {x:AObj} (I:b∈σ.keys):SubN ((b,x)::σ.erase (some b)) (σ.set b x):=by
 refine⟨λq D=>?_,λF=>?_⟩
 ·rcases mem_cons.1 D with rfl|D
  ·exact kM (x:=x) I
  ·have E:=mem_filter.1 D;exact iX E.1 (by simpa using E.2)
 ·rw[dV]at F;simp only[Store.keys,map_cons,nodup_cons];exact⟨cY σ b,(cq σ (some b)).2 F⟩
def WS (σ:Store) (e:TypeId) (sz:Nat) (xv:AV) (rows:List (List AV)) (g:Option Nat):Prop:=
 (rows=[]/\g=none/\(xv= .nil\/∃v,xv= .sc v/\l5 v))\/
 ∃b cap pad,g=some b/\xv= .sc (.slice (some ⟨b,0,none⟩) rows.length cap)/\σ.get b=some (.cells e (rows.flatten++pad))/\(∀r∈rows,r.length=sz)/\(rows.flatten++pad).length=cap*sz/\rows.length<=cap/\cap<=maxLen
section
variable {G:Glob} {P:Program} {σ ρ:Store} {w:World} {env:Env} {K:AV->Store->Prop}
def RepL.any:∀(τ:Store) (w:World) (us:List Value),RepL τ w (List.replicate us.length .any) us
 |_,_,[]=>by simp[RepL]
 |τ,w,u::us=>by simp only[length_cons,replicate_succ,RepL];exact⟨u,us,rfl,by simp only[Rep],RepL.any τ w us⟩
def pn {t tx ty e e':TypeId} {i:TypeInfo} {z:List AV} {x y:Operand} {rows ys:List (List AV)} {g:Option Nat} {xv:AV}
  (hu:P.underlying t=some (.slice e)) (hk:P.underlying tx=some (.slice e')) (hi:P.info? e=some i) (hz:da P e=some z) (g3:z.length=i.size) (fx:i.size≠0) (e3:i.bytes≠0)
  (eg:(SOpd.of x).eval G env=xv) (hW:WS σ e i.size xv rows g) (ew:srcX i.size ((SOpd.of y).eval G env) λl=>l=ys) (an:(rows.length+ys.length)*i.bytes<=140737488355328)
  (e6:rows=[]->ys=[]->K xv σ)
  (cp:∀b cap pad,b∉(σ.erase g).keys->(rows++ys).length<=cap->cap<=maxLen->(∀r∈rows++ys,r.length=i.size)->((rows++ys).flatten++pad).length=cap*i.size->
   K (.sc (.slice (some ⟨b,0,none⟩) (rows++ys).length cap)) ((b,.cells e ((rows++ys).flatten++pad))::σ.erase g)):RAW G P (.call (.mk (.builtin .append) #[x,y] #[t,tx])) env σ K ⟨⟩:=by
 intro ρ w a o ho hS hE
 have X:=au (G:=G) hS hE x
 have hy:=au (G:=G) hS hE y
 rw[eg]at X
 obtain⟨i',zv,ch,ft,fl,ex⟩:=dz (τ:=σ++ρ) (w:=w) hz
 rw[hi]at ch;cases ch
 have dd:zv.cells.size=i.size:=by have:=fl.length;simp at this;omega
 have bh:∀{v:Value} {w':World},(Builtin.append_ #[t,tx] o.type #[a.eval x,a.eval y]).run P w= .ok v w'->(execOp a.eval o).run P w= .ok (.value v) w':=by
  intro v w' J;simp[execOp,ho,resolve,invoke,builtin,J]
 obtain⟨D,V,rfl,E,d2,bk⟩:=srcX_ok hk hy ew
 have be:=E.newsLen
 have T:rows.length+D.length<=maxLen:=by
  have:=Nat.le_mul_of_pos_right (rows.length+D.length) (Nat.pos_of_ne_zero e3);unfold maxLen;omega
 have N:(rows++D).length=rows.length+D.length:=by simp
 have grow:∀(F:Option Addr) (cap:Nat) (I:List Value),a.eval x= .slice F rows.length cap->I.length=rows.length*i.size->RepL (σ++ρ) w rows.flatten I->(∀v∈I,v.oneCell'=true)->(∀r∈rows,r.length=i.size)->
   (Builtin.firstCells i.size rows.length (.slice F rows.length cap)).run P w.drew= .ok I.toArray w.drew->cap<rows.length+D.length->
   ∃v w' r σ',((execOp a.eval o).run P w= .ok (.value v) w'\/(execOp a.eval o).run P w= .ok .skip w'/\v=undef)/\K r σ'/\Sat G (σ'++ρ) w'/\Ev σ w σ' w'/\Rep (σ'++ρ) w' r v:=by
  intro F cap I Y aw ea e9 al e4 d0
  have J:=run_append_grow_src (P:=P) w t tx o.type e i zv hu hi ft F rows.length cap I e4 (a.eval y) D.length V E d0 (by unfold maxLen at T;omega) (growslice_fits d0 an)
  rw[←Y]at J
  have bx:=grownCap_ge w (rows.length+D.length) cap e
  have bo:=grownCap_le_maxLen w (rows.length+D.length) cap e T
  generalize grownCap w (rows.length+D.length) cap e=c2 at J bx bo
  let C:Array Value:=(I++V).toArray++Builtin.zeroCells zv.cells (c2-(rows.length+D.length))
  have g1:C.size=c2*i.size:=by
   simp only[C,Array.size_append,size_toArray,length_append,aw,be,size_zeroCells,dd,←Nat.add_mul];congr 1;omega
  have e2:w.heap.size∉(σ.erase g).keys:=λhm=>Nat.lt_irrefl _ (hS.lt_left (cV (cq σ g).1 hm))
  let Z:=(Builtin.zeroCells zv.cells (c2-(rows.length+D.length))).toList
  have bd:∀r∈rows++D,r.length=i.size:=λr J=>by rcases mem_append.1 J with J|J<;>first|exact al r J|exact bk r J
  have ac:=az _ bd
  have e7:=cp w.heap.size c2 (List.replicate Z.length .any) e2 (by rw[N];exact bx) bo bd (by
   have:Z.length=(c2-(rows.length+D.length))*i.size:=by simp[Z,size_zeroCells,dd]
   rw[length_append,ac,length_replicate,this,N,←Nat.add_mul]
   congr 1;omega)
  have s1:Sat G (σ.erase g++ρ) w:=hS.subN (cq σ g)
  have s2:Sat G (σ.erase g++ρ) w.drew:=s1.step Ev.drew s1.nodup_left (λb hb=>.inl hb) (λb q hq=>(s1.obj b q (mem_append.2 (.inl hq))).keep Ev.drew rfl)
  have dl:Ev σ w (σ.erase g) w.drew:=(rN (cq σ g).1 w).trans Ev.drew
  have ds:Ev (σ.erase g) w.drew ((w.heap.size,.cells e ((rows++D).flatten++List.replicate Z.length .any))::σ.erase g) (w.drew.alloc (.cells C e)):=Ev.alloc (σ:=σ.erase g) (w:=w.drew) _ _
  have ev:=dl.trans ds
  have s3:=s2.alloc (.cells C e) (.cells e ((rows++D).flatten++List.replicate Z.length .any)) ⟨C,heap_alloc_new w.drew _,by
    intro v Y
    simp only[C,Array.toList_append,mem_append]at Y
    rcases Y with(Y|Y)|Y
    ·exact e9 v Y
    ·exact E.one v Y
    ·exact ex _ (cX Y),by
    have h9:=RepL.append (RepL.ev ev _ _ ea) (RepL.ev ev _ _ d2)
    rw[←flatten_append]at h9
    have e0:=RepL.append h9 (RepL.any _ _ Z)
    rw[show C.toList=I++V++Z by simp only[C,Z,Array.toList_append]]
    exact e0⟩
  exact⟨_,_,_,_,.inl (bh J),e7,s3,ev,by simp only[Rep];rw[N]⟩
 rcases hW with⟨rfl,rfl,hW⟩|⟨b,cap,pad,rfl,rfl,hg,al,ac,g2,bs⟩
 ·by_cases hm:D.length=0
  ·have el:D=[]:=eq_nil_of_length_eq_zero hm;subst el
   have J:(Builtin.append_ #[t,tx] o.type #[a.eval x,a.eval y]).run P w= .ok (a.eval x) w:=by
    rcases hW with rfl|⟨v,rfl,rfl|⟨ad,rfl⟩⟩
    ·simp only[Rep]at X;rw[X];exact eQ hu hi E
    ·simp only[Rep]at X;rw[X];exact eQ hu hi E
    ·simp only[Rep]at X;rw[X];have e8:V=[]:=eq_nil_of_length_eq_zero (by rw[be];simp);subst e8;have bn:=E.cells;simp only[length_nil]at bn
     rcases E.kind with⟨g0,cm⟩|cm<;>simp[Builtin.append_,run_underlying hu,run_underlying cm,sizeOf,typeInfo,hi,E.len,bn,storeCells]
   exact⟨_,_,_,_,.inl (bh J),e6 rfl rfl,hS,Ev.refl σ w,X⟩
  ·have O:∃F,a.eval x= .slice F 0 0:=by
    rcases hW with rfl|⟨v,rfl,rfl|⟨ad,rfl⟩⟩<;>simp only[Rep]at X<;>exact⟨_,X⟩
   obtain⟨F,O⟩:=O;refine grow F 0 [] O (by simp) (by simp[RepL]) (by simp) (by simp) ?_ (by simp;omega)
   cases F with
   |none=>simp[Builtin.firstCells]
   |some ad=>exact run_firstCells_some w.drew i.size 0 ad 0 0 [] (by simp) (by simp)
 ·simp only[Rep]at X
  have hm:=rv hg;have cw:b∈σ.keys:=mem_map.2 ⟨_,hm,rfl⟩;have ah:=az _ al;by_cases M:rows.length+D.length<=cap
  ·have aa:rows.length*i.size+D.flatten.length<=(rows.flatten++pad).length:=by
    rw[ac,az _ bk,←Nat.add_mul];exact Nat.mul_le_mul_right _ M
   obtain⟨vs,hh,eb,bw,bm⟩:=hS.setRow hg d2 E.one (off:=rows.length*i.size) aa;have J:=eR (P:=P) (ty:=o.type) hu hi hh E M (by rw[eb,ac,be,←Nat.add_mul];exact Nat.mul_le_mul_right _ M);rw[←X]at J
   have e1:aJ (rows.flatten++pad) (rows.length*i.size) D.flatten=(rows++D).flatten++pad.drop D.flatten.length:=by
    rw[bg _ _ _ aa,←ah,take_append_of_le_length (Nat.le_refl _),take_length,flatten_append];congr 1;rw[drop_append];simp
   rw[e1]at bw bm;have dc:=set_subN (x:=AObj.cells e ((rows++D).flatten++pad.drop D.flatten.length)) cw;refine⟨_,_,_,_,.inl (bh J),cp b cap (pad.drop D.flatten.length) (cY σ b) (by rw[N];exact M) bs (λr J=>by rcases mem_append.1 J with J|J<;>first|exact al r J|exact bk r J) ?_,bm.subN dc,bw.trans (rN dc.1 _),by simp only[Rep];rw[N]⟩
   ·rw[flatten_append,length_append,length_append,length_drop];rw[length_append]at ac aa;omega
  ·obtain⟨vs,hh,d1,bb⟩:=hS.obj b _ (mem_append.2 (.inl hm));have ef:=bb.length;have d3:=RepL.take rows.flatten.length bb;rw[take_append_of_le_length (Nat.le_refl _),take_length]at d3
   have aw:(vs.toList.take rows.flatten.length).length=rows.length*i.size:=by rw[length_take,ef,←ah,length_append];omega
   refine grow (some ⟨b,0,none⟩) cap (vs.toList.take rows.flatten.length) X aw d3 (λv Y=>d1 v (mem_of_mem_take Y)) al (run_firstCells_some w.drew i.size rows.length _ _ _ _ aw ?_) (by omega);intro j v hj;rw[add_lit,Nat.zero_add]
   have e5:vs.toList[j]? =some v:=by rw[getElem?_take]at hj;split at hj;exact hj;cases hj
   have:w.drew.cell? ⟨b,j,none⟩=w.cell? ⟨b,j,none⟩:=rfl;rw[this,cell_of_row w b j vs e (0,0) hh];simpa using e5
def mo {op:Op} {t:Tag K} (D σr:Store) (I:SubN (D++σr) σ) (h:RAW G P op env D (λr σ'=>(σ'++σr:Store).keys.Nodup->K r (σ'++σr)) ⟨⟩):RAW G P op env σ K t:=by
 intro ρ w a o V T O
 have F:Sat G (D++(σr++ρ)) w:=by have:=T.subN I;rwa [append_assoc]at this
 obtain⟨v,w',r,σ',J,M,X,N,Y⟩:=h (σr++ρ) w a o V F (λj=>by
  have:=Rep.ev (rN I.1 w) _ _ (O j)
  rwa [append_assoc]at this)
 have E:Sat G ((σ'++σr)++ρ) w':=by rwa [append_assoc]
 exact⟨v,w',r,σ'++σr,J,M E.nodup_left,E,N.frame I.1,by rwa [append_assoc]⟩
def g9 {t e:TypeId} {n:Nat} (V:P.underlying t=some (.slice e)) (O:(P.info? e).map (·.size)=some n) (N:∀v,l5 v->K (.sc v) σ):RAW G P (.buildSlice t 0 #[]) env σ K ⟨⟩:=by
 intro ρ w a o T E X;obtain⟨i,hi,_⟩:=Option.map_eq_some_iff.1 O;have D:Ev σ w σ (w.alloc (.cells #[] e)):=tA _;have I:∀b x,(b,x)∈σ++ρ->b<w.heap.size:=λb x F=>(E.obj b x F).lt;refine⟨.slice (some ⟨w.heap.size,0,none⟩) 0 0,w.alloc (.cells #[] e),.sc (.slice (some ⟨w.heap.size,0,none⟩) 0 0),σ,.inl ?_,N _ (.inr ⟨_,rfl⟩),?_,D,by simp only[Rep]⟩
 ·have J:(Array.range 0).map (λ_=>(default:Value))=#[]:=by apply Array.ext';simp
  simp[execOp,T,Instr.buildSlice,run_underlying V,sizeOf,typeInfo,hi,Instr.fill,newRow,J]
 ·exact E.step D E.nodup_left (λb M=>.inl M) (λb x F=>(E.obj b x (mem_append.2 (.inl F))).keep D (Below.heap_alloc _ _ b (I b x (mem_append.2 (.inl F)))))
/-! ### from now on no one writes -/
def gK (e:TypeId) (sz:Nat) (rows:List (List AV)) (D:Option Addr) (cap:Nat) (σ:Store):Prop:=
 (rows=[]/\cap=0/\σ=[])\/
 ∃b pad,D=some ⟨b,0,none⟩/\σ=[(b,.cells e (rows.flatten++pad))]/\rows.length<=cap/\cap<=maxLen/\(∀r∈rows,r.length=sz)/\(rows.flatten++pad).length=cap*sz
def bW (e:TypeId) (sz:Nat) (rows:List (List AV)) (v:AV) (σ:Store):Prop:=∃D cap,v= .sc (.slice D rows.length cap)/\gK e sz rows D cap σ
def gK.freeze {e:TypeId} {sz:Nat} {rows:List (List AV)} {D:Option Addr} {cap:Nat} {N σ':Store} {u:Value} (h:gK e sz rows D cap N) (Z:Sat G (σ'++ρ) w) (M:Sub N σ') (hr:u= .slice D rows.length cap):Rep ρ w (.lst sz rows) u:=by
 rcases h with⟨rfl,rfl,rfl⟩|⟨b,pad,rfl,rfl,T,O,X,aa⟩
 ·subst hr;simp only[Rep]
  cases D with
  |none=>exact .inl ⟨rfl,trivial⟩
  |some ad=>exact .inr ⟨ad,0,rfl,Nat.le_refl _,Nat.zero_le _,by simp only[aA]⟩
 ·have hm:(b,AObj.cells e (rows.flatten++pad))∈σ':=M _ (by simp);obtain⟨vs,hh,J,E⟩:=Z.obj b _ (mem_append.2 (.inl hm));simp only[Rep];refine .inr ⟨_,cap,hr,T,O,sP X (rP λj hj=>?_)⟩;rw[Nat.zero_mul,Nat.zero_add,add_lit,Nat.zero_add];have Y:=E.length
  have F:j<vs.toList.length:=by rw[Y,length_append];omega
  have hg:=E.get j (by rw[length_append];omega) F;rw[getElem_append_left hj]at hg;refine⟨vs.toList[j],⟨?_,?_⟩,J _ (getElem_mem F),Rep.sub (λq hq=>mem_append.2 (.inr hq)) hg⟩
  ·rw[cell_of_row w b j vs e (0,0) hh];simp
  ·intro V;have hk:=V.of_key;have I:=Z.nodup;rw[aC]at I;exact(nodup_append.1 I).2.2 b (mem_map.2 ⟨_,hm,rfl⟩) b hk rfl
def bW.freeze {e:TypeId} {sz:Nat} {rows:List (List AV)} {v:AV} {E σ':Store} {u:Value} (h:bW e sz rows v E) (J:Sat G (σ'++ρ) w) (D:Sub E σ') (I:Rep (σ'++ρ) w v u):Rep ρ w (.lst sz rows) u:=by
 obtain⟨F,cap,rfl,h⟩:=h;simp only[Rep]at I;exact h.freeze J D I
def FrzL (σ:Store):List AV->List AV->Prop
 |[],[]=>True
 |x::xs,y::ys=>(x=y\/∃e sz rows D,bW e sz rows x D/\Sub D σ/\y= .lst sz rows)/\FrzL σ xs ys
 |_,_=>False
def FrzL.rep {σ':Store} (F:Sat G (σ'++ρ) w):∀{xs ys:List AV} {us:List Value},FrzL σ' xs ys->RepL (σ'++ρ) w xs us->RepL ρ w ys us
 |[],[],us,_,h=>by simpa[RepL]using h
 |x::xs,y::ys,us,hf,h=>by
  simp only[RepL]at h ⊢;obtain⟨u,D,rfl,E,I⟩:=h;refine⟨u,D,rfl,?_,FrzL.rep F hf.2 I⟩
  rcases hf.1 with rfl|⟨e,sz,rows,O,J,N,rfl⟩
  ·exact Rep.sub (λq M=>mem_append.2 (.inr M)) E
  ·exact J.freeze F N E
 |[],_::_,_,h,_=>h.elim
 |_::_,[],_,h,_=>h.elim
def aj.freeze {k:FuncId} {args ys:List AV} (h:aj G P k args [] (λr σ=>∃xs,r= .agg xs/\FrzL σ xs ys)):Pure G P k args (.agg ys):=
 ⟨h.1,λρ w vs V O=>(h.2 ρ w vs V O).mono λe w' ⟨v,r,σ',X,⟨xs,Y,T⟩,E,F,D⟩=>by
  subst Y
  refine⟨v,.agg ys,[],X,⟨rfl,rfl⟩,E.subN (SubN.nil _),F.trans (rN (SubN.nil _).1 _),?_⟩
  simp only[Rep]at D ⊢
  obtain⟨I,J,M,N⟩:=D
  exact⟨I,J,M,by simpa using FrzL.rep E T N⟩⟩
end
/-! ### stores put together -/
def ao {σ τ:Store} {b:Nat} (h:b∉σ.keys):Store.get (σ++τ) b=Store.get τ b:=by
 induction σ with
 |nil=>rfl
 |cons p σ ih=>
  obtain⟨k,x⟩:=p;simp only[Store.keys,map_cons,mem_cons,not_or]at h;simp only[cons_append,Store.get,if_neg (Ne.symm h.1)];exact ih h.2
def ar {σ τ:Store} {b:Nat} {y:AObj} (h:b∉σ.keys):Store.set (σ++τ) b y=σ++Store.set τ b y:=by
 induction σ with
 |nil=>rfl
 |cons p σ ih=>
  obtain⟨k,x⟩:=p;simp only[Store.keys,map_cons,mem_cons,not_or]at h;simp only[cons_append,Store.set,if_neg (Ne.symm h.1)];rw[ih h.2]
def o6 {σ' σ:Store} (h:List.Perm σ' σ):SubN σ' σ:=
 ⟨λq E=>h.mem_iff.1 E,λD=>by unfold Store.keys at*;exact(h.map Prod.fst).nodup_iff.2 D⟩
def SubN.trans {a b c:Store} (h:SubN a b) (k:SubN b c):SubN a c:=⟨λq E=>k.1 q (h.1 q E),λD=>h.2 (k.2 D)⟩
def tC {σ τ:Store}:SubN σ (σ++τ):=by
 refine⟨λq E=>mem_append.2 (.inl E),λD=>?_⟩;rw[aC]at D;exact(nodup_append.1 D).1
def tD {σ τ:Store}:SubN τ (σ++τ):=by
 refine⟨λq E=>mem_append.2 (.inr E),λD=>?_⟩;rw[aC]at D;exact(nodup_append.1 D).2.1
def sO {a b c:Store} (h:SubN b c):SubN (a++b) (a++c):=by
 refine⟨λq D=>?_,λE=>?_⟩
 ·rcases mem_append.1 D with D|D
  ·exact mem_append.2 (.inl D)
  ·exact mem_append.2 (.inr (h.1 q D))
 ·rw[aC]at E ⊢;obtain⟨J,M,N⟩:=nodup_append.1 E;exact nodup_append.2 ⟨J,h.2 M,λx F y I=>N x F y (cV h.1 I)⟩
/-! ### rows in a block -/
def iO {sz:Nat}:∀{rows:List (List AV)} {pad:List AV} {i:Nat},(∀r∈rows,r.length=sz)->(h:i<rows.length)->((rows.flatten++pad).drop (i*sz)).take sz=rows[i]
 |[],_,_,_,h=>by simp at h
 |r::rows,pad,0,hr,_=>by
  have:=hr r (by simp);simp[←this]
 |r::rows,pad,i+1,hr,h=>by
  have D:=hr r (by simp);rw[flatten_cons,append_assoc,drop_append,drop_of_length_le (by rw[D,Nat.add_mul];omega),nil_append,show(i+1)*sz-r.length=i*sz by rw[D,Nat.add_mul];omega];exact iO (λq E=>hr q (mem_cons_of_mem _ E)) (by simpa using h)
def qY {l m:List AV} {o:Nat} {c:List AV} (h:o+c.length<=l.length):aJ (l++m) o c=aJ l o c++m:=by
 rw[bg _ _ _ h,bg _ _ _ (by simp;omega),take_append_of_le_length (by omega),drop_append_of_le_length h,append_assoc,append_assoc,append_assoc]
def mg {l:List AV} {o:Nat} {c:List AV} (h:o+c.length<=l.length):(aJ l o c).length=l.length:=by
 rw[bg _ _ _ h];simp;omega
def dM {sz:Nat} {c:List AV} {off:Nat} (N:off+c.length<=sz):∀{rows:List (List AV)} {pad:List AV} {i:Nat},(∀r∈rows,r.length=sz)->(h:i<rows.length)->
  aJ (rows.flatten++pad) (i*sz+off) c=(rows.set i (aJ rows[i] off c)).flatten++pad
 |[],_,_,_,h=>by simp at h
 |r::rows,pad,0,hr,_=>by
  have E:=hr r (by simp);simp only[Nat.zero_mul,Nat.zero_add,flatten_cons,append_assoc,set_cons_zero,getElem_cons_zero];rw[qY (by omega)]
 |r::rows,pad,i+1,hr,h=>by
  have E:=hr r (by simp)
  have M:i<rows.length:=by simpa using h
  have ih:=dM N (pad:=pad) (λq J=>hr q (mem_cons_of_mem _ J)) M;have F:=az rows (λq J=>hr q (mem_cons_of_mem _ J))
  have I:i*sz+off+c.length<=(rows.flatten++pad).length:=by
   have:=Nat.mul_le_mul_right sz (show i+1<=rows.length from M);rw[Nat.add_mul]at this;rw[length_append,F];omega
  rw[bg _ _ _ I]at ih
  have D:(i+1)*sz+off+c.length<=(r++(rows.flatten++pad)).length:=by rw[length_append,E,Nat.add_mul];omega
  rw[flatten_cons,append_assoc,bg _ _ _ D];simp only[set_cons_succ,getElem_cons_succ,flatten_cons,append_assoc];rw[←ih]
  have e:(i+1)*sz+off=r.length+(i*sz+off):=by rw[E,Nat.add_mul];omega
  rw[e,Nat.add_assoc,take_length_add_append,drop_length_add_append];simp[append_assoc]
def ShpF (p:TypeId->List AV->Prop):List Field->List AV->Prop
 |[],avs=>avs=[]
 |f::fs,avs=>∃a b,avs=a++b/\p f.type a/\ShpF p fs b
def Shp (P:Program) (B:Nat):Nat->TypeId->List AV->Prop
 |0,_,_=>False
 |n+1,t,avs=>
  match P.underlying t with
  |some .bool=>∃b,avs=[.bool b]
  |some (.int k)=>∃i,avs=[.int k i]
  |some .string=>∃s:List UInt8,s.length<=B/\avs=[.str s]
  |some (.slice e)=>∃rows,avs=[.lst (P.cellsOf e) rows]/\rows.length<=B/\rows.length*P.bytesOf e<=B/\∀r∈rows,Shp P B n e r
  |some (.struct fs)=>ShpF (Shp P B n) fs.toList avs
  |_=>False
def tiles (P:Program):List Field->Nat->Option Nat
 |[],o=>some o
 |f::fs,o=>if f.offset=o then tiles P fs (o+P.cellsOf f.type)else none
def closedT (P:Program) (S:List TypeId):Bool:=S.all λt=>
 match P.underlying t with
 |some .bool|some (.int _)|some .string=>P.cellsOf t==1
 |some (.slice e)=>S.contains e&&P.bytesOf e != 0&&P.cellsOf t==1
 |some (.struct fs)=>(fs.toList.all λf=>S.contains f.type)&&tiles P fs.toList 0==some (P.cellsOf t)
 |_=>false
def iW {H:Type} {P:Program} {e:TypeId}:∀{l:List (DataW H)} {d:DataW H},d∈l->∀n∈d.weights P e,n∈DataW.weightsAll P e l
 |x::l,d,hd,n,hn=>by
  simp only[DataW.weightsAll,mem_append]
  rcases mem_cons.1 hd with rfl|hd
  ·exact Or.inl hn
  ·exact Or.inr (iW hd n hn)
def d5 {H:Type} {P:Program}:∀{D:List TypeId} {l:List (DataW H)} {i:Nat} {t:TypeId} {d:DataW H},D[i]? =some t->l[i]? =some d->∀n∈d.weights P t,n∈DataW.weightsEach P D l
 |t'::D,x::l,0,t,d,h1,h2,n,hn=>by
  simp only[getElem?_cons_zero,Option.some.injEq]at h1 h2;subst h1 h2;simp only[DataW.weightsEach,mem_append];exact .inl hn
 |t'::D,x::l,i+1,t,d,h1,h2,n,hn=>by
  simp only[DataW.weightsEach,mem_append];exact .inr (d5 (i:=i) (by simpa using h1) (by simpa using h2) n hn)
 |[],_,_,_,_,h1,_,_,_=>by simp at h1
 |_::_,[],_,_,_,_,h2,_,_=>by simp at h2
def gv {w:World} {a:Addr} {u:Value} (h:w.cell? a=some u):kF [] w a u:=⟨h,by rintro⟨x,D,_⟩;cases D⟩
def kB {P:Program} {w:World} {p:TypeId->List AV->Prop} {cs:List Value}:∀(M:List Field) (o D:Nat),tiles P M o=some D->D<=cs.length->
  (∀f∈M,∃E,p f.type E/\RepL [] w E ((cs.drop f.offset).take (P.cellsOf f.type))/\∀v∈(cs.drop f.offset).take (P.cellsOf f.type),v.oneCell'=true)->
  o<=D/\∃E,ShpF p M E/\RepL [] w E ((cs.drop o).take (D-o))/\∀v∈(cs.drop o).take (D-o),v.oneCell'=true
 |[],o,D,ht,_,_=>by
  simp only[tiles,Option.some.injEq]at ht;subst ht;exact⟨Nat.le_refl _,[],rfl,by simp[RepL],by simp⟩
 |f::M,o,D,ht,hl,h=>by
  simp only[tiles]at ht;split at ht
  ·rename_i T;obtain⟨X,I,s2,r2,V⟩:=kB M _ _ ht hl λg O=>h g (mem_cons_of_mem _ O);obtain⟨F,s1,r1,N⟩:=h f (mem_cons_self ..);rw[T]at r1 N
   have e:(cs.drop o).take (D-o)=(cs.drop o).take (P.cellsOf f.type)++(cs.drop (o+P.cellsOf f.type)).take (D-(o+P.cellsOf f.type)):=by
    rw[←drop_drop,show D-o=P.cellsOf f.type+(D-(o+P.cellsOf f.type))by omega,take_add]
   refine⟨by omega,F++I,⟨F,I,rfl,s1,s2⟩,by rw[e];exact RepL.append r1 r2,?_⟩;intro v J;rw[e]at J
   rcases mem_append.1 J with J|J
   ·exact N v J
   ·exact V v J
  ·cases ht
def nj {w:World} {D:Nat} {a:Addr} {n:Nat} {cs:List Value} (h:w.cells? D a n=some cs):cs.length=n/\∀j,(E:j<cs.length)->w.cell? (a.add j)=some cs[j]:=by
 obtain⟨J,F,I⟩:=World.cells?_some h;refine⟨F,λj E=>?_⟩;have:=I j (by omega);rw[this,getElem?_eq_getElem E]
def lQ {H:Type} {enc:TypeId×Value->H} {P:Program} {w:World} {S:List TypeId} (hS:closedT P S=true):∀(fuel:Nat) (t:TypeId) (cs:List Value) (x:DataW H×List MemPlace),t∈S->
  DataW.trod enc P w 0 (λ_=>true) true fuel t cs=some x->(∀n∈x.1.weights P t,n<=reachBytes)->cs.length=P.cellsOf t/\∃E,Shp P reachBytes fuel t E/\RepL [] w E cs/\∀v∈cs,v.oneCell'=true
 |0,t,cs,x,_,h,_=>by simp[DataW.trod]at h
 |fuel+1,t,cs,x,ht,h,hw=>by
  have M:=all_eq_true.1 hS t ht;simp only[Shp];split at M
  ·rename_i J;have J:P.underlying t=some .bool:=J
   have:∃b,cs=[.bool b]:=by
    unfold DataW.trod at h;rw[J]at h;split at h<;>simp_all
   obtain⟨b,rfl⟩:=this;exact⟨by simpa using(beq_iff_eq.1 M).symm,[.bool b],⟨b,rfl⟩,by simp only[RepL,Rep];exact⟨_,_,rfl,rfl,rfl⟩,by simp[Value.oneCell']⟩
  ·rename_i k J;obtain⟨n,rfl,_,_⟩:=DataW.trod_int J h;exact⟨by simpa using(beq_iff_eq.1 M).symm,[.int k n],⟨n,rfl⟩,by simp only[RepL,Rep];exact⟨_,_,rfl,rfl,rfl⟩,by simp[Value.oneCell']⟩
  ·rename_i J;obtain⟨s,rfl,rfl,_⟩:=DataW.trod_string J h;refine⟨by simpa using(beq_iff_eq.1 M).symm,[.str s.data.toList],⟨s.data.toList,hw _ (by simp[DataW.weights]),rfl⟩,by simp only[RepL,Rep];exact⟨_,_,rfl,by simp,rfl⟩,by simp[Value.oneCell']⟩
  ·rename_i e J;simp only[Bool.and_eq_true,bne_iff_ne,ne_eq,beq_iff_eq]at M;obtain⟨⟨he,ac⟩,O⟩:=M
   have he:e∈S:=by simpa using he
   rcases DataW.trod_slice J h with⟨rfl,_⟩|⟨a,len,cap,D,rest,n,hn,rfl,rfl,hb,hl,hm,bd,hx,_,_⟩
   ·exact⟨by simpa using O.symm,[.lst (P.cellsOf e) []],⟨[],rfl,Nat.zero_le _,by simp,λr hr=>by cases hr⟩,by simp only[RepL,Rep];exact⟨_,_,rfl,.inl ⟨rfl,trivial⟩,rfl⟩,by simp[Value.oneCell']⟩
   ·obtain rfl:n=fuel:=by omega
    simp only[DataW.weights,J,length_map]at hw;have an:=hw _ (mem_cons_self ..)
    have T:len<=reachBytes:=by
     have h2:D.length+rest.length<=(D.length+rest.length)*P.bytesOf e:=Nat.le_mul_of_pos_right _ (Nat.pos_of_ne_zero ac);omega
    have key:∀i,i<len->∃r:List AV,Shp P reachBytes n e r/\r.length=P.cellsOf e/\RepAt [] w a (i*P.cellsOf e) r:=by
     intro i hi;have aa:=hx i hi
     have X:i<D.length:=by omega
     rw[getElem?_eq_getElem X]at aa;obtain⟨cs',k1,k2⟩:=Option.bind_eq_some_iff.1 aa;obtain⟨q1,E,q2,q3,q4⟩:=lQ hS n e cs' _ he k2 λq hq=>hw q (mem_cons_of_mem _ (mem_append_left _ (iW (d:=(D[i]).1) (mem_map.2 ⟨_,getElem_mem X,rfl⟩) _ hq)));obtain⟨g1,g2⟩:=nj k1;have bb:=q3.length;refine⟨E,q2,by omega,rP λj Z=>?_⟩
     have N:j<cs'.length:=by omega
     refine⟨cs'[j],gv ?_,q4 _ (getElem_mem N),q3.get j Z N⟩;rw[←jx];exact g2 j N
    obtain⟨F,hF⟩:=Go.Deep.choose_lt key
    have I:((List.range len).map F).length=len:=by simp
    refine⟨by simpa using O.symm,[.lst (P.cellsOf e) ((List.range len).map F)],⟨_,rfl,by rw[I];exact T,by rw[I];exact Nat.le_trans (Nat.mul_le_mul_right _ (by omega)) an,?_⟩,?_,by simp[Value.oneCell']⟩
    ·intro r hr;obtain⟨i,hi,rfl⟩:=mem_map.1 hr;exact(hF i (mem_range.1 hi)).1
    ·simp only[RepL];refine⟨_,_,rfl,?_,rfl⟩;simp only[Rep];right;refine⟨a,cap,by rw[I],by rw[I];exact hl,hm,sD λj Z=>?_⟩;rw[I]at Z;simp only[getElem_map,getElem_range,Nat.zero_add];exact⟨(hF j Z).2.1,(hF j Z).2.2⟩
  ·rename_i fs J;simp only[Bool.and_eq_true,beq_iff_eq,all_eq_true]at M;obtain⟨ad,ah⟩:=M;obtain⟨xs,n,hn,rfl,hl,be,aw⟩:=DataW.trod_struct J h
   obtain rfl:n=fuel:=by omega
   simp only[DataW.weights,J]at hw
   obtain⟨_,E,s1,r1,o1⟩:=kB (w:=w) (p:=Shp P reachBytes n) (cs:=cs) fs.toList 0 _ ah (by omega) λf hf=>by
    obtain⟨i,hi,rfl⟩:=getElem_of_mem hf
    have V:i<fs.size:=by simpa using hi
    have al:fs[i]? =some fs[i]:=Array.getElem?_eq_getElem V;have hx:=aw i fs[i] al
    have Y:i<xs.length:=by omega
    rw[getElem?_eq_getElem Y]at hx
    have hT:fs[i].type∈S:=by simpa using ad fs[i] (by simp)
    obtain⟨g1,E,g2,g3,g4⟩:=lQ hS n fs[i].type _ _ hT hx (λq hq=>hw q (d5 (i:=i) (t:=fs[i].type) (d:=(xs[i]).1) (by simp[V]) (by simp[Y]) q hq));exact⟨E,by simpa using g2,by simpa using g3,by simpa using g4⟩
   rw[Nat.sub_zero,drop_zero,←hl,take_length]at r1 o1;exact⟨hl,E,s1,r1,o1⟩
  ·cases M
def ky {H:Type} {enc:TypeId×Value->H} {P:Program} {w:World} {S:List TypeId} (E:closedT P S=true) {t:TypeId} (M:t∈S) (O:P.cellsOf t≠1) {v:Value} {d:DataW H} {ps:List MemPlace}
  (F:DataW.Trod enc P w 0 (λ_=>true) true t v d ps) (N:∀n∈d.weights P t,n<=reachBytes):∃fuel D,Shp P reachBytes fuel t D/\Rep [] w (.agg D) v:=by
 obtain⟨fuel,I⟩:=F
 obtain⟨J,D,s,r,o⟩:=lQ E fuel t _ _ M I N
 refine⟨fuel,D,s,?_⟩
 cases v with
 |agg vs=>simp only[Rep];exact⟨vs,rfl,o,r⟩
 |_=>simp[Value.cells]at J;omega
def ip {α β:Type} (f:α->Option β):List α->Option (List β)
 |[]=>some []
 |x::xs=>match f x,ip f xs with
  |some y,some ys=>some (y::ys)
  |_,_=>none
def gV {α β:Type} {f:α->Option β}:∀{xs:List α} {ys:List β},ip f xs=some ys->ys.length=xs.length/\∀(i:Nat) (x:α),xs[i]? =some x->∃y,ys[i]? =some y/\f x=some y
 |[],ys,h=>by simp only[ip,Option.some.injEq]at h;subst h;exact⟨rfl,λi x I=>by simp at I⟩
 |x::xs,ys,h=>by
  simp only[ip]at h;split at h
  ·rename_i y J E F;simp only[Option.some.injEq]at h;subst h;obtain⟨l,g⟩:=gV F;refine⟨by simp[l],λi z D=>?_⟩
   cases i with
   |zero=>simp only[getElem?_cons_zero,Option.some.injEq]at D;subst D;exact⟨y,rfl,E⟩
   |succ i=>simpa using g i z (by simpa using D)
  ·cases h
def avD (P:Program):Nat->TypeId->DataW Unit->Option (List AV)
 |0,_,_=>none
 |n+1,t,d=>
  match P.underlying t,d with
  |some .bool,.lit (.bool b)=>some [.bool b]
  |some (.int k),.lit (.int k' z)=>if k=k' then some [.int k z]else none
  |some .string,.lit (.string s)=>some [.str s]
  |some (.slice _),.nil=>some [.nil]
  |some (.slice e),.slice ds _=>(ip (avD P n e) ds).map λrows=>[.lst (P.cellsOf e) rows]
  |some (.array m e),.agg ds=>if P.cellsOf t=m*P.cellsOf e then (ip (avD P n e) ds).map List.flatten else none
  |_,_=>none
def mI (w:World) (D:List AV) (cs:List Value):Prop:=RepL [] w D cs/\∀v∈cs,v.oneCell'=true
def chunks {w:World} {sz:Nat}:∀(rows:List (List AV)) (cs:List Value),cs.length=rows.length*sz->(∀(i:Nat) (r:List AV),rows[i]? =some r->mI w r ((cs.drop (i*sz)).take sz))->mI w rows.flatten cs
 |[],cs,hl,_=>by
  have:cs=[]:=eq_nil_of_length_eq_zero (by simpa using hl);subst this;exact⟨by simp[RepL],by simp⟩
 |r::rows,cs,hl,h=>by
  have E:=h 0 r rfl;simp only[Nat.zero_mul,drop_zero]at E
  have F:cs.length=rows.length*sz+sz:=by rw[hl,length_cons,Nat.add_mul];omega
  have ih:=chunks (sz:=sz) rows (cs.drop sz) (by rw[length_drop,F];omega) λi q I=>by
   have:=h (i+1) q (by simpa using I);rw[drop_drop,show sz+i*sz=(i+1)*sz by rw[Nat.add_mul];omega];exact this
  refine⟨?_,?_⟩
  ·rw[flatten_cons,←take_append_drop sz cs];exact RepL.append E.1 ih.1
  ·intro v D;rw[←take_append_drop sz cs]at D
   rcases mem_append.1 D with D|D
   ·exact E.2 v D
   ·exact ih.2 v D
def oa {enc:TypeId×Value->Unit} {P:Program} {w:World} {sp:Nat->Bool} {ac:Bool}:∀(n:Nat) (t:TypeId) (d:DataW Unit) (O:List AV),avD P n t d=some O->∀(fuel:Nat) (cs:List Value) (ps:List MemPlace),
  DataW.trod enc P w 0 sp ac fuel t cs=some (d,ps)->mI w O cs
 |0,t,d,O,h,_,_,_,_=>by simp[avD]at h
 |n+1,t,d,O,h,fuel,cs,ps,ht=>by
  simp only[avD]at h;split at h
  ·rename_i b M
   have:∃b',cs=[.bool b']/\b'=b:=by
    cases fuel with
    |zero=>simp[DataW.trod]at ht
    |succ m=>
     unfold DataW.trod at ht;rw[M]at ht;split at ht<;>simp_all
   obtain⟨_,rfl,rfl⟩:=this;simp only[Option.some.injEq]at h;subst h;exact⟨by simp only[RepL,Rep];exact⟨_,_,rfl,rfl,rfl⟩,by simp[Value.oneCell']⟩
  ·rename_i k k' z M;split at h
   ·rename_i hk;subst hk;simp only[Option.some.injEq]at h;subst h;obtain⟨z',rfl,E,_⟩:=DataW.trod_int M ht;simp only[Prod.mk.injEq,DataW.lit.injEq,Lit.int.injEq,true_and]at E;rw[E.1];exact⟨by simp only[RepL,Rep];exact⟨_,_,rfl,rfl,rfl⟩,by simp[Value.oneCell']⟩
   ·cases h
  ·rename_i s M;simp only[Option.some.injEq]at h;subst h;obtain⟨s',rfl,E,_⟩:=DataW.trod_string M ht;simp only[Prod.mk.injEq,DataW.lit.injEq,Lit.string.injEq]at E;rw[E.1];exact⟨by simp only[RepL,Rep];exact⟨_,_,rfl,by simp,rfl⟩,by simp[Value.oneCell']⟩
  ·rename_i e M;simp only[Option.some.injEq]at h;subst h
   rcases DataW.trod_slice M ht with⟨rfl,_⟩|⟨a,len,cap,D,rest,m,hn,rfl,E,hb,hl,hm,aa,ah,_,_⟩
   ·exact⟨by simp only[RepL,Rep];exact⟨_,_,rfl,rfl,rfl⟩,by simp[Value.oneCell']⟩
   ·simp at E
  ·rename_i e ds bd M;obtain⟨rows,hr,rfl⟩:=Option.map_eq_some_iff.1 h;obtain⟨X,V⟩:=gV hr
   rcases DataW.trod_slice M ht with⟨rfl,E⟩|⟨a,len,cap,D,rest,m,hn,rfl,E,hb,hl,hm,aa,ah,_,_⟩
   ·simp at E
   ·simp only[Prod.mk.injEq,DataW.slice.injEq]at E;obtain⟨⟨I,_⟩,_⟩:=E
    have F:rows.length=len:=by rw[X,I,length_map,aa]
    refine⟨?_,by simp[Value.oneCell']⟩;simp only[RepL];refine⟨_,_,rfl,?_,rfl⟩;simp only[Rep];right;refine⟨a,cap,by rw[F],by rw[F];exact hl,hm,sD λj hj=>?_⟩
    have J:j<D.length:=by omega
    have Z:=ah j (by omega);rw[getElem?_eq_getElem J]at Z;obtain⟨cs',k1,k2⟩:=Option.bind_eq_some_iff.1 Z;obtain⟨y,N,Y⟩:=V j (D[j]).1 (by rw[I,getElem?_map,getElem?_eq_getElem J];rfl);rw[getElem?_eq_getElem hj,Option.some.injEq]at N;rw[N];obtain⟨q3,q4⟩:=oa n e _ y Y m cs' (D[j]).2 k2;obtain⟨g1,g2⟩:=nj k1;have be:=q3.length;rw[Nat.zero_add];refine⟨by omega,rP λi hi=>?_⟩
    have T:i<cs'.length:=by omega
    refine⟨cs'[i],gv ?_,q4 _ (getElem_mem T),q3.get i hi T⟩;rw[←jx];exact g2 i T
  ·rename_i m e ds M;split at h
   rotate_left
   ·cases h
   rename_i an;obtain⟨rows,hr,rfl⟩:=Option.map_eq_some_iff.1 h;obtain⟨X,V⟩:=gV hr;obtain⟨xs,m',hn,E,hl,aw,bb⟩:=DataW.trod_array M ht;simp only[Prod.mk.injEq,DataW.agg.injEq]at E;obtain⟨I,_⟩:=E
   have F:rows.length=m:=by rw[X,I,length_map,aw]
   have al:∀(i:Nat) (r:List AV),rows[i]? =some r->mI w r ((cs.drop (i*P.cellsOf e)).take (P.cellsOf e)):=by
    intro i r ad;have hi:i<rows.length:=(List.getElem?_eq_some_iff.1 ad).1
    have J:i<xs.length:=by omega
    have Z:=bb i (by omega);rw[getElem?_eq_getElem J]at Z;obtain⟨y,N,Y⟩:=V i (xs[i]).1 (by rw[I,getElem?_map,getElem?_eq_getElem J];rfl);rw[ad,Option.some.injEq]at N;subst N;exact oa n e _ _ Y m' _ (xs[i]).2 Z
   exact chunks rows cs (by rw[hl,an,F]) al
  ·cases h
def nE {P:Program} {w:World} {F:String} {g:Nat} {cs:Array Value} {D:List AV} (I:P.globalNamed F=some g) (M:w.var? P F=some cs) (h:mI w D cs.toList):RepAt [] w ⟨g,0,none⟩ 0 D:=by
 refine rP λj J=>?_;have N:=h.1.length
 have E:j<cs.toList.length:=by omega
 refine⟨cs.toList[j],gv ?_,h.2 _ (getElem_mem E),h.1.get j J E⟩;rw[Nat.zero_add,add_lit,Nat.zero_add];have:=World.var?_cell I M j;rw[this];simp
def globOf (l:List (Nat×List AV)):Glob where
 tab g:=(l.find? λp=>p.1==g).map (·.2)
 holds σ w:=∀p∈l,RepAt σ w ⟨p.1,0,none⟩ 0 p.2
 ev he h:=λp D=>RepAt.ev he _ _ _ (h p D)
 tabs:=by
  intro σ w g cs h I;obtain⟨p,D,rfl⟩:=Option.map_eq_some_iff.1 I;have E:=find?_some D;have F:=mem_of_find?_eq_some D
  have e:p.1=g:=by simpa using E
  rw[←e];exact h p F
end Go.Av
