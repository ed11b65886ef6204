/-
  ABSTRACT VALUES, 26: a slice over cells of the call's own: made, grown, read and written; and how it becomes one that no one will write.
-/
import Derived.Test.YtnoakpkjccigoaaGreatDoorXAv21toXAv25
import Derived.Deep.Slices
import Derived.Deep.DeepHandedRow
namespace Go.Av
open Go Go.RowKit List
set_option linter.unusedSimpArgs false
set_option linter.unusedVariables false
def la (v:Value):Prop:=v= .slice none 0 0\/∃a,v= .slice (some a) 0 0
theorem jz {b:Nat} {x y:AObj}:∀{σ:Store},b∈σ.keys->(b,y)∈σ.set b y
 |[],h=>by simp[Store.keys]at h
 |(k,z)::σ,h=>by
  simp only[Store.set]
  by_cases hk:k=b
  ·rw[if_pos hk,hk];simp
  ·rw[if_neg hk]
   simp only[Store.keys,map_cons,mem_cons]at h
   rcases h with h|h
   ·exact absurd h.symm hk
   ·exact mem_cons_of_mem _ (jz (x:=x) h)
theorem gU {b:Nat} {y:AObj}:∀{σ:Store} {q:Nat×AObj},q∈σ->q.1≠b->q∈σ.set b y
 |[],q,h,_=>by cases h
 |(k,z)::σ,q,h,hq=>by
  simp only[Store.set]
  rcases mem_cons.1 h with rfl|h
  ·rw[if_neg hq];simp
  ·split
   ·exact mem_cons_of_mem _ h
   ·exact mem_cons_of_mem _ (gU h hq)
theorem set_subN {σ:Store} {b:Nat} {x:AObj} (hb:b∈σ.keys):SubN ((b,x)::σ.erase (some b)) (σ.set b x):=by
 refine⟨λq hq=>?_,λhn=>?_⟩
 ·rcases mem_cons.1 hq with rfl|hq
  ·exact jz (x:=x) hb
  ·have h2:=mem_filter.1 hq
   exact gU h2.1 (by simpa using h2.2)
 ·rw[dk]at hn
  simp only[Store.keys,map_cons,nodup_cons]
  exact⟨cx σ b,(bV σ (some b)).2 hn⟩
def WS (σ:Store) (e:TypeId) (sz:Nat) (xv:AV) (rows:List (List AV)) (g:Option Nat):Prop:=
 (rows=[]/\g=none/\(xv= .nil\/∃v,xv= .sc v/\la v))\/
 ∃b cap pad,g=some b/\xv= .sc (.slice (some ⟨b,0,none⟩) rows.length cap)/\σ.get b=some (.cells e (rows.flatten++pad))/\(∀r∈rows,r.length=sz)/\(rows.flatten++pad).length=cap*sz/\rows.length<=cap/\cap<=maxLen
section
variable {G:Glob} {P:Program} {σ ρ:Store} {w:World} {env:Env} {K:AV->Store->Prop}
theorem RepL.any:∀(τ:Store) (w:World) (us:List Value),RepL τ w (List.replicate us.length .any) us
 |_,_,[]=>by simp[RepL]
 |τ,w,u::us=>by simp only[length_cons,replicate_succ,RepL];exact⟨u,us,rfl,by simp only[Rep],RepL.any τ w us⟩
theorem nH {t tx ty e e':TypeId} {i:TypeInfo} {z:List AV} {x y:Operand} {rows ys:List (List AV)} {g:Option Nat} {xv:AV}
  (hu:P.underlying t=some (.slice e)) (hk:P.underlying tx=some (.slice e')) (hi:P.info? e=some i) (hz:cK P e=some z) (hzl:z.length=i.size) (hpos:i.size≠0) (hb0:i.bytes≠0)
  (hxv:(SOpd.of x).eval G env=xv) (hW:WS σ e i.size xv rows g) (hys:srcX i.size ((SOpd.of y).eval G env) λl=>l=ys) (hbytes:(rows.length+ys.length)*i.bytes<=140737488355328)
  (hk0:rows=[]->ys=[]->K xv σ)
  (hk1:∀b cap pad,b∉(σ.erase g).keys->(rows++ys).length<=cap->cap<=maxLen->(∀r∈rows++ys,r.length=i.size)->((rows++ys).flatten++pad).length=cap*i.size->
   K (.sc (.slice (some ⟨b,0,none⟩) (rows++ys).length cap)) ((b,.cells e ((rows++ys).flatten++pad))::σ.erase g)):RAW G P (.call (.mk (.builtin .append) #[x,y] #[t,tx])) env σ K ⟨⟩:=by
 intro ρ w a o ho hS hE
 have hx:=ao (G:=G) hS hE x
 have hy:=ao (G:=G) hS hE y
 rw[hxv]at hx
 obtain⟨i',zv,hi',hzv,hzr,hz1⟩:=cG (τ:=σ++ρ) (w:=w) hz
 rw[hi]at hi';cases hi'
 have hzs:zv.cells.size=i.size:=by have:=hzr.length;simp at this;omega
 have hop:∀{v:Value} {w':World},(Builtin.append_ #[t,tx] o.type #[a.eval x,a.eval y]).run P w= .ok v w'->(execOp a.eval o).run P w= .ok (.value v) w':=by
  intro v w' hr
  simp[execOp,ho,resolve,invoke,builtin,hr]
 obtain⟨ys',news,rfl,hsrc,hrn,hyl⟩:=srcX_ok hk hy hys
 have hnl:=hsrc.newsLen
 have hlen63:rows.length+ys'.length<=maxLen:=by
  have:=Nat.le_mul_of_pos_right (rows.length+ys'.length) (Nat.pos_of_ne_zero hb0)
  unfold maxLen;omega
 have hlen:(rows++ys').length=rows.length+ys'.length:=by simp
 have grow:∀(base:Option Addr) (cap:Nat) (olds:List Value),a.eval x= .slice base rows.length cap->olds.length=rows.length*i.size->RepL (σ++ρ) w rows.flatten olds->(∀v∈olds,v.oneCell'=true)->(∀r∈rows,r.length=i.size)->
   (Builtin.firstCells i.size rows.length (.slice base rows.length cap)).run P w.drew= .ok olds.toArray w.drew->cap<rows.length+ys'.length->
   ∃v w' r σ',((execOp a.eval o).run P w= .ok (.value v) w'\/(execOp a.eval o).run P w= .ok .skip w'/\v=undef)/\K r σ'/\Sat G (σ'++ρ) w'/\Ev σ w σ' w'/\Rep (σ'++ρ) w' r v:=by
  intro base cap olds hv hol hro ho1 hrl hfc hlt
  have hr:=run_append_grow_src (P:=P) w t tx o.type e i zv hu hi hzv base rows.length cap olds hfc (a.eval y) ys'.length news hsrc hlt (by unfold maxLen at hlen63;omega) (growslice_fits hlt hbytes)
  rw[←hv]at hr
  have hge:=grownCap_ge w (rows.length+ys'.length) cap e
  have hcm:=grownCap_le_maxLen w (rows.length+ys'.length) cap e hlen63
  generalize grownCap w (rows.length+ys'.length) cap e=c2 at hr hge hcm
  let C:Array Value:=(olds++news).toArray++Builtin.zeroCells zv.cells (c2-(rows.length+ys'.length))
  have hCs:C.size=c2*i.size:=by
   simp only[C,Array.size_append,size_toArray,length_append,hol,hnl,size_zeroCells,hzs,←Nat.add_mul]
   congr 1;omega
  have hBe:w.heap.size∉(σ.erase g).keys:=λhm=>Nat.lt_irrefl _ (hS.lt_left (ct (bV σ g).1 hm))
  let Z:=(Builtin.zeroCells zv.cells (c2-(rows.length+ys'.length))).toList
  have hrl2:∀r∈rows++ys',r.length=i.size:=λr hr=>by rcases mem_append.1 hr with hr|hr<;>first|exact hrl r hr|exact hyl r hr
  have hfl:=au _ hrl2
  have hk2:=hk1 w.heap.size c2 (List.replicate Z.length .any) hBe (by rw[hlen];exact hge) hcm hrl2 (by
   have:Z.length=(c2-(rows.length+ys'.length))*i.size:=by simp[Z,size_zeroCells,hzs]
   rw[length_append,hfl,length_replicate,this,hlen,←Nat.add_mul]
   congr 1;omega)
  have s1:Sat G (σ.erase g++ρ) w:=hS.subN (bV σ g)
  have s2:Sat G (σ.erase g++ρ) w.drew:=s1.step Ev.drew s1.nodup_left (λb hb=>.inl hb) (λb q hq=>(s1.obj b q (mem_append.2 (.inl hq))).keep Ev.drew rfl)
  have ev1:Ev σ w (σ.erase g) w.drew:=(Ev.of_sub (bV σ g).1 w).trans Ev.drew
  have ev2:Ev (σ.erase g) w.drew ((w.heap.size,.cells e ((rows++ys').flatten++List.replicate Z.length .any))::σ.erase g) (w.drew.alloc (.cells C e)):=Ev.alloc (σ:=σ.erase g) (w:=w.drew) _ _
  have ev:=ev1.trans ev2
  have s3:=s2.alloc (.cells C e) (.cells e ((rows++ys').flatten++List.replicate Z.length .any)) ⟨C,heap_alloc_new w.drew _,by
    intro v hv
    simp only[C,Array.toList_append,mem_append]at hv
    rcases hv with(hv|hv)|hv
    ·exact ho1 v hv
    ·exact hsrc.one v hv
    ·exact hz1 _ (cv hv),by
    have h9:=RepL.append (RepL.ev ev _ _ hro) (RepL.ev ev _ _ hrn)
    rw[←flatten_append]at h9
    have h10:=RepL.append h9 (RepL.any _ _ Z)
    rw[show C.toList=olds++news++Z by simp only[C,Z,Array.toList_append]]
    exact h10⟩
  exact⟨_,_,_,_,.inl (hop hr),hk2,s3,ev,by simp only[Rep];rw[hlen]⟩
 rcases hW with⟨rfl,rfl,hW⟩|⟨b,cap,pad,rfl,rfl,hg,hrl,hfl,hle,hcmx⟩
 ·by_cases hm:ys'.length=0
  ·have hy0:ys'=[]:=eq_nil_of_length_eq_zero hm
   subst hy0
   have hr:(Builtin.append_ #[t,tx] o.type #[a.eval x,a.eval y]).run P w= .ok (a.eval x) w:=by
    rcases hW with rfl|⟨v,rfl,rfl|⟨ad,rfl⟩⟩
    ·simp only[Rep]at hx
     rw[hx];exact dW hu hi hsrc
    ·simp only[Rep]at hx
     rw[hx];exact dW hu hi hsrc
    ·simp only[Rep]at hx
     rw[hx]
     have hn0:news=[]:=eq_nil_of_length_eq_zero (by rw[hnl];simp)
     subst hn0
     have hcl:=hsrc.cells
     simp only[length_nil]at hcl
     rcases hsrc.kind with⟨e'',hk'⟩|hk'<;>simp[Builtin.append_,run_underlying hu,run_underlying hk',sizeOf,typeInfo,hi,hsrc.len,hcl,storeCells]
   exact⟨_,_,_,_,.inl (hop hr),hk0 rfl rfl,hS,Ev.refl σ w,hx⟩
  ·have hbase:∃base,a.eval x= .slice base 0 0:=by
    rcases hW with rfl|⟨v,rfl,rfl|⟨ad,rfl⟩⟩<;>simp only[Rep]at hx<;>exact⟨_,hx⟩
   obtain⟨base,hbase⟩:=hbase
   refine grow base 0 [] hbase (by simp) (by simp[RepL]) (by simp) (by simp) ?_ (by simp;omega)
   cases base with
   |none=>simp[Builtin.firstCells]
   |some ad=>exact run_firstCells_some w.drew i.size 0 ad 0 0 [] (by simp) (by simp)
 ·simp only[Rep]at hx
  have hm:=Store.get_mem hg
  have hkey:b∈σ.keys:=mem_map.2 ⟨_,hm,rfl⟩
  have hflat:=au _ hrl
  by_cases hroom:rows.length+ys'.length<=cap
  ·have hfit:rows.length*i.size+ys'.flatten.length<=(rows.flatten++pad).length:=by
    rw[hfl,au _ hyl,←Nat.add_mul];exact Nat.mul_le_mul_right _ hroom
   obtain⟨vs,hh,hsz,hev,hS'⟩:=hS.setRow hg hrn hsrc.one (off:=rows.length*i.size) hfit
   have hr:=dX (P:=P) (ty:=o.type) hu hi hh hsrc hroom (by rw[hsz,hfl,hnl,←Nat.add_mul];exact Nat.mul_le_mul_right _ hroom)
   rw[←hx]at hr
   have e1:aH (rows.flatten++pad) (rows.length*i.size) ys'.flatten=(rows++ys').flatten++pad.drop ys'.flatten.length:=by
    rw[aY _ _ _ hfit,←hflat,take_append_of_le_length (Nat.le_refl _),take_length,flatten_append]
    congr 1
    rw[drop_append]
    simp
   rw[e1]at hev hS'
   have hss:=set_subN (x:=AObj.cells e ((rows++ys').flatten++pad.drop ys'.flatten.length)) hkey
   refine⟨_,_,_,_,.inl (hop hr),hk1 b cap (pad.drop ys'.flatten.length) (cx σ b) (by rw[hlen];exact hroom) hcmx (λr hr=>by rcases mem_append.1 hr with hr|hr<;>first|exact hrl r hr|exact hyl r hr) ?_,hS'.subN hss,hev.trans (Ev.of_sub hss.1 _),by simp only[Rep];rw[hlen]⟩
   ·rw[flatten_append,length_append,length_append,length_drop]
    rw[length_append]at hfl hfit
    omega
  ·obtain⟨vs,hh,hone,hrep⟩:=hS.obj b _ (mem_append.2 (.inl hm))
   have hvl:=hrep.length
   have hrt:=RepL.take rows.flatten.length hrep
   rw[take_append_of_le_length (Nat.le_refl _),take_length]at hrt
   have hol:(vs.toList.take rows.flatten.length).length=rows.length*i.size:=by rw[length_take,hvl,←hflat,length_append];omega
   refine grow (some ⟨b,0,none⟩) cap (vs.toList.take rows.flatten.length) hx hol hrt (λv hv=>hone v (mem_of_mem_take hv)) hrl (run_firstCells_some w.drew i.size rows.length _ _ _ _ hol ?_) (by omega)
   intro j v hj
   rw[add_lit,Nat.zero_add]
   have hj2:vs.toList[j]? =some v:=by rw[getElem?_take]at hj;split at hj;exact hj;cases hj
   have:w.drew.cell? ⟨b,j,none⟩=w.cell? ⟨b,j,none⟩:=rfl
   rw[this,cell_of_row w b j vs e (0,0) hh]
   simpa using hj2
theorem oW {op:Op} {t:Tag K} (σf σr:Store) (hs:SubN (σf++σr) σ) (h:RAW G P op env σf (λr σ'=>(σ'++σr:Store).keys.Nodup->K r (σ'++σr)) ⟨⟩):RAW G P op env σ K t:=by
 intro ρ w a o ho hS hE
 have hS2:Sat G (σf++(σr++ρ)) w:=by have:=hS.subN hs;rwa [append_assoc]at this
 obtain⟨v,w',r,σ',h1,h2,h3,h4,h5⟩:=h (σr++ρ) w a o ho hS2 (λj=>by
  have:=Rep.ev (Ev.of_sub hs.1 w) _ _ (hE j)
  rwa [append_assoc]at this)
 have h3':Sat G ((σ'++σr)++ρ) w':=by rwa [append_assoc]
 exact⟨v,w',r,σ'++σr,h1,h2 h3'.nodup_left,h3',h4.frame hs.1,by rwa [append_assoc]⟩
theorem fV {t e:TypeId} {n:Nat} (hu:P.underlying t=some (.slice e)) (hn:(P.info? e).map (·.size)=some n) (hk:∀v,la v->K (.sc v) σ):RAW G P (.buildSlice t 0 #[]) env σ K ⟨⟩:=by
 intro ρ w a o ho hS hE
 obtain⟨i,hi,_⟩:=Option.map_eq_some_iff.1 hn
 have hev:Ev σ w σ (w.alloc (.cells #[] e)):=Ev.alloc0 _
 have hlt:∀b x,(b,x)∈σ++ρ->b<w.heap.size:=λb x hx=>(hS.obj b x hx).lt
 refine⟨.slice (some ⟨w.heap.size,0,none⟩) 0 0,w.alloc (.cells #[] e),.sc (.slice (some ⟨w.heap.size,0,none⟩) 0 0),σ,.inl ?_,hk _ (.inr ⟨_,rfl⟩),?_,hev,by simp only[Rep]⟩
 ·have e0:(Array.range 0).map (λ_=>(default:Value))=#[]:=by apply Array.ext';simp
  simp[execOp,ho,Instr.buildSlice,run_underlying hu,sizeOf,typeInfo,hi,Instr.fill,newRow,e0]
 ·exact hS.step hev hS.nodup_left (λb hb=>.inl hb) (λb x hx=>(hS.obj b x (mem_append.2 (.inl hx))).keep hev (Below.heap_alloc _ _ b (hlt b x (mem_append.2 (.inl hx)))))
/-! ### from now on no one writes -/
def fI (e:TypeId) (sz:Nat) (rows:List (List AV)) (base:Option Addr) (cap:Nat) (σ:Store):Prop:=
 (rows=[]/\cap=0/\σ=[])\/
 ∃b pad,base=some ⟨b,0,none⟩/\σ=[(b,.cells e (rows.flatten++pad))]/\rows.length<=cap/\cap<=maxLen/\(∀r∈rows,r.length=sz)/\(rows.flatten++pad).length=cap*sz
def bD (e:TypeId) (sz:Nat) (rows:List (List AV)) (v:AV) (σ:Store):Prop:=∃base cap,v= .sc (.slice base rows.length cap)/\fI e sz rows base cap σ
theorem fI.freeze {e:TypeId} {sz:Nat} {rows:List (List AV)} {base:Option Addr} {cap:Nat} {σh σ':Store} {u:Value} (h:fI e sz rows base cap σh) (hS:Sat G (σ'++ρ) w) (hsub:Sub σh σ') (hr:u= .slice base rows.length cap):Rep ρ w (.lst sz rows) u:=by
 rcases h with⟨rfl,rfl,rfl⟩|⟨b,pad,rfl,rfl,hle,hcm,hrl,hlen⟩
 ·subst hr
  simp only[Rep]
  cases base with
  |none=>exact .inl ⟨rfl,trivial⟩
  |some ad=>exact .inr ⟨ad,0,rfl,Nat.le_refl _,Nat.zero_le _,by simp only[ar]⟩
 ·have hm:(b,AObj.cells e (rows.flatten++pad))∈σ':=hsub _ (by simp)
  obtain⟨vs,hh,hone,hrep⟩:=hS.obj b _ (mem_append.2 (.inl hm))
  simp only[Rep]
  refine .inr ⟨_,cap,hr,hle,hcm,ar.of_flat hrl (RepAt.of_get λj hj=>?_)⟩
  rw[Nat.zero_mul,Nat.zero_add,add_lit,Nat.zero_add]
  have hvl:=hrep.length
  have hj2:j<vs.toList.length:=by rw[hvl,length_append];omega
  have hg:=hrep.get j (by rw[length_append];omega) hj2
  rw[getElem_append_left hj]at hg
  refine⟨vs.toList[j],⟨?_,?_⟩,hone _ (getElem_mem hj2),Rep.sub (λq hq=>mem_append.2 (.inr hq)) hg⟩
  ·rw[cell_of_row w b j vs e (0,0) hh]
   simp
  ·intro hmu
   have hk:=hmu.of_key
   have hnd:=hS.nodup
   rw[az]at hnd
   exact(nodup_append.1 hnd).2.2 b (mem_map.2 ⟨_,hm,rfl⟩) b hk rfl
theorem bD.freeze {e:TypeId} {sz:Nat} {rows:List (List AV)} {v:AV} {σh σ':Store} {u:Value} (h:bD e sz rows v σh) (hS:Sat G (σ'++ρ) w) (hsub:Sub σh σ') (hr:Rep (σ'++ρ) w v u):Rep ρ w (.lst sz rows) u:=by
 obtain⟨base,cap,rfl,h⟩:=h
 simp only[Rep]at hr
 exact h.freeze hS hsub hr
def FrzL (σ:Store):List AV->List AV->Prop
 |[],[]=>True
 |x::xs,y::ys=>(x=y\/∃e sz rows σh,bD e sz rows x σh/\Sub σh σ/\y= .lst sz rows)/\FrzL σ xs ys
 |_,_=>False
theorem FrzL.rep {σ':Store} (hS:Sat G (σ'++ρ) w):∀{xs ys:List AV} {us:List Value},FrzL σ' xs ys->RepL (σ'++ρ) w xs us->RepL ρ w ys us
 |[],[],us,_,h=>by simpa[RepL]using h
 |x::xs,y::ys,us,hf,h=>by
  simp only[RepL]at h ⊢
  obtain⟨u,us',rfl,h2,h3⟩:=h
  refine⟨u,us',rfl,?_,FrzL.rep hS hf.2 h3⟩
  rcases hf.1 with rfl|⟨e,sz,rows,σh,ho,hs,rfl⟩
  ·exact Rep.sub (λq hq=>mem_append.2 (.inr hq)) h2
  ·exact ho.freeze hS hs h2
 |[],_::_,_,h,_=>h.elim
 |_::_,[],_,h,_=>h.elim
theorem ag.freeze {k:FuncId} {args ys:List AV} (h:ag G P k args [] (λr σ=>∃xs,r= .agg xs/\FrzL σ xs ys)):Pure G P k args (.agg ys):=
 ⟨h.1,λρ w vs hS hA=>(h.2 ρ w vs hS hA).mono λe w' ⟨v,r,σ',he,⟨xs,hr,hF⟩,hsat,hev,hrep⟩=>by
  subst hr
  refine⟨v,.agg ys,[],he,⟨rfl,rfl⟩,hsat.subN (SubN.nil _),hev.trans (Ev.of_sub (SubN.nil _).1 _),?_⟩
  simp only[Rep]at hrep ⊢
  obtain⟨vs',h1,h2,h3⟩:=hrep
  exact⟨vs',h1,h2,by simpa using FrzL.rep hsat hF h3⟩⟩
end
/-! ### stores put together -/
theorem ak {σ τ:Store} {b:Nat} (h:b∉σ.keys):Store.get (σ++τ) b=Store.get τ b:=by
 induction σ with
 |nil=>rfl
 |cons p σ ih=>
  obtain⟨k,x⟩:=p
  simp only[Store.keys,map_cons,mem_cons,not_or]at h
  simp only[cons_append,Store.get,if_neg (Ne.symm h.1)]
  exact ih h.2
theorem am {σ τ:Store} {b:Nat} {y:AObj} (h:b∉σ.keys):Store.set (σ++τ) b y=σ++Store.set τ b y:=by
 induction σ with
 |nil=>rfl
 |cons p σ ih=>
  obtain⟨k,x⟩:=p
  simp only[Store.keys,map_cons,mem_cons,not_or]at h
  simp only[cons_append,Store.set,if_neg (Ne.symm h.1)]
  rw[ih h.2]
theorem SubN.perm {σ' σ:Store} (h:List.Perm σ' σ):SubN σ' σ:=
 ⟨λq hq=>h.mem_iff.1 hq,λhn=>by unfold Store.keys at*;exact(h.map Prod.fst).nodup_iff.2 hn⟩
theorem SubN.trans {a b c:Store} (h:SubN a b) (k:SubN b c):SubN a c:=⟨λq hq=>k.1 q (h.1 q hq),λhn=>h.2 (k.2 hn)⟩
theorem SubN.appL {σ τ:Store}:SubN σ (σ++τ):=by
 refine⟨λq hq=>mem_append.2 (.inl hq),λhn=>?_⟩
 rw[az]at hn
 exact(nodup_append.1 hn).1
theorem SubN.appR {σ τ:Store}:SubN τ (σ++τ):=by
 refine⟨λq hq=>mem_append.2 (.inr hq),λhn=>?_⟩
 rw[az]at hn
 exact(nodup_append.1 hn).2.1
theorem SubN.app {a b c:Store} (h:SubN b c):SubN (a++b) (a++c):=by
 refine⟨λq hq=>?_,λhn=>?_⟩
 ·rcases mem_append.1 hq with hq|hq
  ·exact mem_append.2 (.inl hq)
  ·exact mem_append.2 (.inr (h.1 q hq))
 ·rw[az]at hn ⊢
  obtain⟨n1,n2,n3⟩:=nodup_append.1 hn
  exact nodup_append.2 ⟨n1,h.2 n2,λx hx y hy=>n3 x hx y (ct h.1 hy)⟩
/-! ### rows in a block -/
theorem jk {sz:Nat}:∀{rows:List (List AV)} {pad:List AV} {i:Nat},(∀r∈rows,r.length=sz)->(h:i<rows.length)->((rows.flatten++pad).drop (i*sz)).take sz=rows[i]
 |[],_,_,_,h=>by simp at h
 |r::rows,pad,0,hr,_=>by
  have:=hr r (by simp)
  simp[←this]
 |r::rows,pad,i+1,hr,h=>by
  have h1:=hr r (by simp)
  rw[flatten_cons,append_assoc,drop_append,drop_of_length_le (by rw[h1,Nat.add_mul];omega),nil_append,show(i+1)*sz-r.length=i*sz by rw[h1,Nat.add_mul];omega]
  exact jk (λq hq=>hr q (mem_cons_of_mem _ hq)) (by simpa using h)
theorem oX {l m:List AV} {o:Nat} {c:List AV} (h:o+c.length<=l.length):aH (l++m) o c=aH l o c++m:=by
 rw[aY _ _ _ h,aY _ _ _ (by simp;omega),take_append_of_le_length (by omega),drop_append_of_le_length h,append_assoc,append_assoc,append_assoc]
theorem kj {l:List AV} {o:Nat} {c:List AV} (h:o+c.length<=l.length):(aH l o c).length=l.length:=by
 rw[aY _ _ _ h];simp;omega
theorem dS {sz:Nat} {c:List AV} {off:Nat} (hc:off+c.length<=sz):∀{rows:List (List AV)} {pad:List AV} {i:Nat},(∀r∈rows,r.length=sz)->(h:i<rows.length)->
  aH (rows.flatten++pad) (i*sz+off) c=(rows.set i (aH rows[i] off c)).flatten++pad
 |[],_,_,_,h=>by simp at h
 |r::rows,pad,0,hr,_=>by
  have h1:=hr r (by simp)
  simp only[Nat.zero_mul,Nat.zero_add,flatten_cons,append_assoc,set_cons_zero,getElem_cons_zero]
  rw[oX (by omega)]
 |r::rows,pad,i+1,hr,h=>by
  have h1:=hr r (by simp)
  have hl:i<rows.length:=by simpa using h
  have ih:=dS hc (pad:=pad) (λq hq=>hr q (mem_cons_of_mem _ hq)) hl
  have hfl:=au rows (λq hq=>hr q (mem_cons_of_mem _ hq))
  have hle:i*sz+off+c.length<=(rows.flatten++pad).length:=by
   have:=Nat.mul_le_mul_right sz (show i+1<=rows.length from hl)
   rw[Nat.add_mul]at this
   rw[length_append,hfl];omega
  rw[aY _ _ _ hle]at ih
  have hle2:(i+1)*sz+off+c.length<=(r++(rows.flatten++pad)).length:=by rw[length_append,h1,Nat.add_mul];omega
  rw[flatten_cons,append_assoc,aY _ _ _ hle2]
  simp only[set_cons_succ,getElem_cons_succ,flatten_cons,append_assoc]
  rw[←ih]
  have e:(i+1)*sz+off=r.length+(i*sz+off):=by rw[h1,Nat.add_mul];omega
  rw[e,Nat.add_assoc,take_length_add_append,drop_length_add_append]
  simp[append_assoc]
def ShpF (p:TypeId->List AV->Prop):List Field->List AV->Prop
 |[],avs=>avs=[]
 |f::fs,avs=>∃a b,avs=a++b/\p f.type a/\ShpF p fs b
def Shp (P:Program) (B:Nat):Nat->TypeId->List AV->Prop
 |0,_,_=>False
 |n+1,t,avs=>
  match P.underlying t with
  |some .bool=>∃b,avs=[.bool b]
  |some (.int k)=>∃i,avs=[.int k i]
  |some .string=>∃s:List UInt8,s.length<=B/\avs=[.str s]
  |some (.slice e)=>∃rows,avs=[.lst (P.cellsOf e) rows]/\rows.length<=B/\rows.length*P.bytesOf e<=B/\∀r∈rows,Shp P B n e r
  |some (.struct fs)=>ShpF (Shp P B n) fs.toList avs
  |_=>False
def tiles (P:Program):List Field->Nat->Option Nat
 |[],o=>some o
 |f::fs,o=>if f.offset=o then tiles P fs (o+P.cellsOf f.type)else none
def closedT (P:Program) (S:List TypeId):Bool:=S.all λt=>
 match P.underlying t with
 |some .bool|some (.int _)|some .string=>P.cellsOf t==1
 |some (.slice e)=>S.contains e&&P.bytesOf e != 0&&P.cellsOf t==1
 |some (.struct fs)=>(fs.toList.all λf=>S.contains f.type)&&tiles P fs.toList 0==some (P.cellsOf t)
 |_=>false
theorem gY {H:Type} {P:Program} {e:TypeId}:∀{l:List (DataW H)} {d:DataW H},d∈l->∀n∈d.weights P e,n∈DataW.weightsAll P e l
 |x::l,d,hd,n,hn=>by
  simp only[DataW.weightsAll,mem_append]
  rcases mem_cons.1 hd with rfl|hd
  ·exact Or.inl hn
  ·exact Or.inr (gY hd n hn)
theorem dn {H:Type} {P:Program}:∀{ts:List TypeId} {l:List (DataW H)} {i:Nat} {t:TypeId} {d:DataW H},ts[i]? =some t->l[i]? =some d->∀n∈d.weights P t,n∈DataW.weightsEach P ts l
 |t'::ts,x::l,0,t,d,h1,h2,n,hn=>by
  simp only[getElem?_cons_zero,Option.some.injEq]at h1 h2
  subst h1 h2
  simp only[DataW.weightsEach,mem_append]
  exact .inl hn
 |t'::ts,x::l,i+1,t,d,h1,h2,n,hn=>by
  simp only[DataW.weightsEach,mem_append]
  exact .inr (dn (i:=i) (by simpa using h1) (by simpa using h2) n hn)
 |[],_,_,_,_,h1,_,_,_=>by simp at h1
 |_::_,[],_,_,_,_,h2,_,_=>by simp at h2
theorem fy {w:World} {a:Addr} {u:Value} (h:w.cell? a=some u):jq [] w a u:=⟨h,by rintro⟨x,hx,_⟩;cases hx⟩
theorem jB {P:Program} {w:World} {p:TypeId->List AV->Prop} {cs:List Value}:∀(fl:List Field) (o tot:Nat),tiles P fl o=some tot->tot<=cs.length->
  (∀f∈fl,∃avs,p f.type avs/\RepL [] w avs ((cs.drop f.offset).take (P.cellsOf f.type))/\∀v∈(cs.drop f.offset).take (P.cellsOf f.type),v.oneCell'=true)->
  o<=tot/\∃avs,ShpF p fl avs/\RepL [] w avs ((cs.drop o).take (tot-o))/\∀v∈(cs.drop o).take (tot-o),v.oneCell'=true
 |[],o,tot,ht,_,_=>by
  simp only[tiles,Option.some.injEq]at ht
  subst ht
  exact⟨Nat.le_refl _,[],rfl,by simp[RepL],by simp⟩
 |f::fl,o,tot,ht,hl,h=>by
  simp only[tiles]at ht
  split at ht
  ·rename_i ho
   obtain⟨h1,avs2,s2,r2,o2⟩:=jB fl _ _ ht hl λg hg=>h g (mem_cons_of_mem _ hg)
   obtain⟨avs1,s1,r1,o1⟩:=h f (mem_cons_self ..)
   rw[ho]at r1 o1
   have e:(cs.drop o).take (tot-o)=(cs.drop o).take (P.cellsOf f.type)++(cs.drop (o+P.cellsOf f.type)).take (tot-(o+P.cellsOf f.type)):=by
    rw[←drop_drop,show tot-o=P.cellsOf f.type+(tot-(o+P.cellsOf f.type))by omega,take_add]
   refine⟨by omega,avs1++avs2,⟨avs1,avs2,rfl,s1,s2⟩,by rw[e];exact RepL.append r1 r2,?_⟩
   intro v hv
   rw[e]at hv
   rcases mem_append.1 hv with hv|hv
   ·exact o1 v hv
   ·exact o2 v hv
  ·cases ht
theorem lz {w:World} {base:Nat} {a:Addr} {n:Nat} {cs:List Value} (h:w.cells? base a n=some cs):cs.length=n/\∀j,(hj:j<cs.length)->w.cell? (a.add j)=some cs[j]:=by
 obtain⟨h1,h2,h3⟩:=World.cells?_some h
 refine⟨h2,λj hj=>?_⟩
 have:=h3 j (by omega)
 rw[this,getElem?_eq_getElem hj]
theorem j4 {H:Type} {enc:TypeId×Value->H} {P:Program} {w:World} {S:List TypeId} (hS:closedT P S=true):∀(fuel:Nat) (t:TypeId) (cs:List Value) (x:DataW H×List MemPlace),t∈S->
  DataW.trod enc P w 0 (λ_=>true) true fuel t cs=some x->(∀n∈x.1.weights P t,n<=reachBytes)->cs.length=P.cellsOf t/\∃avs,Shp P reachBytes fuel t avs/\RepL [] w avs cs/\∀v∈cs,v.oneCell'=true
 |0,t,cs,x,_,h,_=>by simp[DataW.trod]at h
 |fuel+1,t,cs,x,ht,h,hw=>by
  have hc:=all_eq_true.1 hS t ht
  simp only[Shp]
  split at hc
  ·rename_i hu
   have hu:P.underlying t=some .bool:=hu
   have:∃b,cs=[.bool b]:=by
    unfold DataW.trod at h
    rw[hu]at h
    split at h<;>simp_all
   obtain⟨b,rfl⟩:=this
   exact⟨by simpa using(beq_iff_eq.1 hc).symm,[.bool b],⟨b,rfl⟩,by simp only[RepL,Rep];exact⟨_,_,rfl,rfl,rfl⟩,by simp[Value.oneCell']⟩
  ·rename_i k hu
   obtain⟨n,rfl,_,_⟩:=DataW.trod_int hu h
   exact⟨by simpa using(beq_iff_eq.1 hc).symm,[.int k n],⟨n,rfl⟩,by simp only[RepL,Rep];exact⟨_,_,rfl,rfl,rfl⟩,by simp[Value.oneCell']⟩
  ·rename_i hu
   obtain⟨s,rfl,rfl,_⟩:=DataW.trod_string hu h
   refine⟨by simpa using(beq_iff_eq.1 hc).symm,[.str s.data.toList],⟨s.data.toList,hw _ (by simp[DataW.weights]),rfl⟩,by simp only[RepL,Rep];exact⟨_,_,rfl,by simp,rfl⟩,by simp[Value.oneCell']⟩
  ·rename_i e hu
   simp only[Bool.and_eq_true,bne_iff_ne,ne_eq,beq_iff_eq]at hc
   obtain⟨⟨he,hb0⟩,h1c⟩:=hc
   have he:e∈S:=by simpa using he
   rcases DataW.trod_slice hu h with⟨rfl,_⟩|⟨a,len,cap,elems,rest,n,hn,rfl,rfl,hb,hl,hm,hel,hx,_,_⟩
   ·exact⟨by simpa using h1c.symm,[.lst (P.cellsOf e) []],⟨[],rfl,Nat.zero_le _,by simp,λr hr=>by cases hr⟩,by simp only[RepL,Rep];exact⟨_,_,rfl,.inl ⟨rfl,trivial⟩,rfl⟩,by simp[Value.oneCell']⟩
   ·obtain rfl:n=fuel:=by omega
    simp only[DataW.weights,hu,length_map]at hw
    have hw0:=hw _ (mem_cons_self ..)
    have hbig:len<=reachBytes:=by
     have h2:elems.length+rest.length<=(elems.length+rest.length)*P.bytesOf e:=Nat.le_mul_of_pos_right _ (Nat.pos_of_ne_zero hb0)
     omega
    have key:∀i,i<len->∃r:List AV,Shp P reachBytes n e r/\r.length=P.cellsOf e/\RepAt [] w a (i*P.cellsOf e) r:=by
     intro i hi
     have hxi:=hx i hi
     have hie:i<elems.length:=by omega
     rw[getElem?_eq_getElem hie]at hxi
     obtain⟨cs',k1,k2⟩:=Option.bind_eq_some_iff.1 hxi
     obtain⟨q1,avs,q2,q3,q4⟩:=j4 hS n e cs' _ he k2 λq hq=>hw q (mem_cons_of_mem _ (mem_append_left _ (gY (d:=(elems[i]).1) (mem_map.2 ⟨_,getElem_mem hie,rfl⟩) _ hq)))
     obtain⟨g1,g2⟩:=lz k1
     have hal:=q3.length
     refine⟨avs,q2,by omega,RepAt.of_get λj hj=>?_⟩
     have hj2:j<cs'.length:=by omega
     refine⟨cs'[j],fy ?_,q4 _ (getElem_mem hj2),q3.get j hj hj2⟩
     rw[←iD]
     exact g2 j hj2
    obtain⟨F,hF⟩:=Go.Deep.choose_lt key
    have hlen:((List.range len).map F).length=len:=by simp
    refine⟨by simpa using h1c.symm,[.lst (P.cellsOf e) ((List.range len).map F)],⟨_,rfl,by rw[hlen];exact hbig,by rw[hlen];exact Nat.le_trans (Nat.mul_le_mul_right _ (by omega)) hw0,?_⟩,?_,by simp[Value.oneCell']⟩
    ·intro r hr
     obtain⟨i,hi,rfl⟩:=mem_map.1 hr
     exact(hF i (mem_range.1 hi)).1
    ·simp only[RepL]
     refine⟨_,_,rfl,?_,rfl⟩
     simp only[Rep]
     right
     refine⟨a,cap,by rw[hlen],by rw[hlen];exact hl,hm,ar.of_get λj hj=>?_⟩
     rw[hlen]at hj
     simp only[getElem_map,getElem_range,Nat.zero_add]
     exact⟨(hF j hj).2.1,(hF j hj).2.2⟩
  ·rename_i fs hu
   simp only[Bool.and_eq_true,beq_iff_eq,all_eq_true]at hc
   obtain⟨hc1,hc2⟩:=hc
   obtain⟨xs,n,hn,rfl,hl,hxl,hxs⟩:=DataW.trod_struct hu h
   obtain rfl:n=fuel:=by omega
   simp only[DataW.weights,hu]at hw
   obtain⟨_,avs,s1,r1,o1⟩:=jB (w:=w) (p:=Shp P reachBytes n) (cs:=cs) fs.toList 0 _ hc2 (by omega) λf hf=>by
    obtain⟨i,hi,rfl⟩:=getElem_of_mem hf
    have hi':i<fs.size:=by simpa using hi
    have hfi:fs[i]? =some fs[i]:=Array.getElem?_eq_getElem hi'
    have hx:=hxs i fs[i] hfi
    have hix:i<xs.length:=by omega
    rw[getElem?_eq_getElem hix]at hx
    have hT:fs[i].type∈S:=by simpa using hc1 fs[i] (by simp)
    obtain⟨g1,avs,g2,g3,g4⟩:=j4 hS n fs[i].type _ _ hT hx (λq hq=>hw q (dn (i:=i) (t:=fs[i].type) (d:=(xs[i]).1) (by simp[hi']) (by simp[hix]) q hq))
    exact⟨avs,by simpa using g2,by simpa using g3,by simpa using g4⟩
   rw[Nat.sub_zero,drop_zero,←hl,take_length]at r1 o1
   exact⟨hl,avs,s1,r1,o1⟩
  ·cases hc
theorem ju {H:Type} {enc:TypeId×Value->H} {P:Program} {w:World} {S:List TypeId} (hS:closedT P S=true) {t:TypeId} (ht:t∈S) (h1:P.cellsOf t≠1) {v:Value} {d:DataW H} {ps:List MemPlace}
  (hd:DataW.Trod enc P w 0 (λ_=>true) true t v d ps) (hw:∀n∈d.weights P t,n<=reachBytes):∃fuel avs,Shp P reachBytes fuel t avs/\Rep [] w (.agg avs) v:=by
 obtain⟨fuel,hf⟩:=hd
 obtain⟨hl,avs,s,r,o⟩:=j4 hS fuel t _ _ ht hf hw
 refine⟨fuel,avs,s,?_⟩
 cases v with
 |agg vs=>simp only[Rep];exact⟨vs,rfl,o,r⟩
 |_=>simp[Value.cells]at hl;omega
end Go.Av
