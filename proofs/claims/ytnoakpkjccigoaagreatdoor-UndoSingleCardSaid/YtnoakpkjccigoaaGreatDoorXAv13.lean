/-
  ABSTRACT VALUES, 13: slices that are made and that grow.
-/
import Derived.Test.YtnoakpkjccigoaaGreatDoorXAv12
namespace Go.Av
open Go Go.RowKit List
set_option linter.unusedSimpArgs false
set_option linter.unusedVariables false
theorem iw (z:List AV):∀(len i:Nat),i<len*z.length->(List.replicate len z).flatten[i]? =z[i % z.length]?
 |0,i,h=>by simp at h
 |len+1,i,h=>by
  rw[replicate_succ,flatten_cons,getElem?_append]
  split
  ·rename_i hl;rw[Nat.mod_eq_of_lt hl]
  ·rename_i hl
   rw[iw z len (i-z.length) (by rw[Nat.add_mul]at h;omega)]
   rw[Nat.mod_eq_sub_mod (a:=i) (by omega)]
theorem au {sz:Nat}:∀rs:List (List AV),(∀r∈rs,r.length=sz)->rs.flatten.length=rs.length*sz
 |[],_=>by simp
 |r::rs,h=>by rw[flatten_cons,length_append,h r (by simp),au rs (λq hq=>h q (mem_cons_of_mem _ hq)),length_cons,Nat.add_mul];omega
theorem bV (σ:Store) (g:Option Nat):SubN (σ.erase g) σ:=by
 cases g with
 |none=>exact SubN.refl σ
 |some b=>
  refine⟨λp hp=>(mem_filter.1 hp).1,λhn=>?_⟩
  exact List.Nodup.sublist (List.Sublist.map _ filter_sublist) hn
theorem cx (σ:Store) (b:Nat):b∉(σ.erase (some b)).keys:=by
 intro h
 obtain⟨p,hp,e⟩:=mem_map.1 h
 have:=(mem_filter.1 hp).2
 simp at this
 exact this e
theorem ar.vals {τ:Store} {w:World} {ad:Addr} {sz:Nat} {rows:List (List AV)} (h:ar τ w ad sz 0 rows):
  ∃vs:List Value,vs.length=rows.length*sz/\RepL τ w rows.flatten vs/\(∀v∈vs,v.oneCell'=true)/\∀j v,vs[j]? =some v->w.cell? (ad.add j)=some v:=by
 obtain⟨h1,h2,_⟩:=h.flat
 rw[Nat.zero_mul]at h1
 obtain⟨vs,l1,l2,l3,l4⟩:=iO h1 rows.flatten.length (Nat.le_refl _)
 rw[take_length]at l2
 exact⟨vs,by rw[l1,h2],l2,l3,l4⟩
theorem md {τ:Store} {b k o:Nat} {e:TypeId} (hb:b∉τ.keys) (ho:o<k):¬Mut ((b,.tok e k)::τ) b o:=by
 rintro⟨y,hy,hm⟩
 rcases mem_cons.1 hy with h|h
 ·cases h
  have:k<=o:=hm
  omega
 ·exact hb (mem_map.2 ⟨_,h,rfl⟩)
section
variable {G:Glob} {P:Program} {σ ρ:Store} {w:World} {env:Env} {a:Act} {o:Oper} {K:AV->Store->Prop} {next:Act->World->Prop} {Q:Exit->Act->World->Prop}
theorem ge {τ:Store} {w2:World} {B cap:Nat} {e:TypeId} {sz:Nat} {rows:List (List AV)} {C:Array Value} {vs:List Value} (hB:B∉τ.keys) (hh:w2.heap[B]? =some (.cells C e (0,0)))
  (hl:rows.length<=cap) (hm:cap<=maxLen) (hs:C.size=cap*sz) (hr:∀r∈rows,r.length=sz) (hv:RepL ((B,.tok e (rows.length*sz))::τ) w2 rows.flatten vs) (h1:∀v∈vs,v.oneCell'=true)
  (ht:∀j,j<vs.length->C.toList[j]? =vs[j]?):Rep ((B,.tok e (rows.length*sz))::τ) w2 (.own (some B) e sz rows) (.slice (some ⟨B,0,none⟩) rows.length cap):=by
 simp only[Rep]
 refine⟨cap,rfl,hl,hm,?_,ar.of_flat hr ?_⟩
 ·simp[World.shape?,hh,hs]
 ·have hfl:∀rs:List (List AV),(∀r∈rs,r.length=sz)->rs.flatten.length=rs.length*sz:=by
   intro rs
   induction rs with
   |nil=>intro _;simp
   |cons r rs ih=>intro h;rw[flatten_cons,length_append,h r (by simp),ih (λq hq=>h q (mem_cons_of_mem _ hq)),length_cons,Nat.add_mul];omega
  have hflen:=au rows hr
  have hvl:=hv.length
  refine RepAt.of_get λj hj=>?_
  rw[Nat.zero_mul,Nat.zero_add,add_lit,Nat.zero_add]
  have hj2:j<vs.length:=by omega
  have hg:=hv.get j hj hj2
  refine⟨vs[j],⟨?_,?_⟩,h1 _ (getElem_mem hj2),hg⟩
  ·rw[cell_of_row w2 B j C e (0,0) hh]
   have:=ht j hj2
   rw[getElem?_eq_getElem hj2]at this
   simpa using this
  ·exact md (o:=j) hB (by omega)
theorem e_buildS {t e:TypeId} {len sz:Nat} {z:List AV} {parts:Array (Nat×Operand)} (ho:o.op= .buildSlice t len parts) (hu:P.underlying t=some (.slice e)) (hsz:bj P e=some sz) (hz:cK P e=some z)
  (hzl:z.length=sz) (hpos:sz≠0) (hle:len*sz<=16777216) (hS:Sat G (σ++ρ) w) (hE:∀j,Rep (σ++ρ) w (env.get j) (a.tmps.getD j undef))
  (h:ga G env (List.replicate len z).flatten ((parts.toList.map λ(p:Nat×Operand)=>(p.1,SOpd.of p.2)).map λp=>(p.1*sz,sz,p.2)) λcs=>
   newX σ λb=>∃rows:List (List AV),rows.length=len/\(∀r∈rows,r.length=sz)/\rows.flatten=cs/\K (.own (some b) e sz rows) ((b,.tok e (len*sz))::σ))
  (hn:Goes G σ ρ w a o K next):o.wp P a w next Q:=by
 obtain⟨i,v,hi,hv,hr,h1⟩:=cG (τ:=σ++ρ) (w:=w) hz
 have hvl:=hr.length
 have hvs:v.cells.size=sz:=by simp at hvl;omega
 let C0:Array Value:=(Array.range (len*sz)).map (v.cells[· % v.cells.size]!)
 have hmod:∀k,k<len*sz->k % sz<sz:=λk _=>Nat.mod_lt _ (Nat.pos_of_ne_zero hpos)
 have hflat:(List.replicate len z).flatten.length=len*sz:=by simp[hzl]
 have hC0:∀k,(h:k<len*sz)->C0.toList[k]? =v.cells.toList[k % sz]? :=by
  intro k hk
  have:=hmod k hk
  simp[C0,hk,hvs,this]
 have hC0l:C0.toList.length=len*sz:=by simp[C0]
 have hrep:RepL (σ++ρ) w (List.replicate len z).flatten C0.toList:=by
  refine RepL.of_get (by rw[hC0l,hflat]) (λk hk hk2=>?_)
  have hk3:k<len*sz:=by rw[hflat]at hk;exact hk
  have hm:=hmod k hk3
  have e1:=hC0 k hk3
  have e2:=iw z len k (by rw[hzl];exact hk3)
  rw[hzl]at e2
  rw[getElem?_eq_getElem hk2,getElem?_eq_getElem (by simp;omega)]at e1
  rw[getElem?_eq_getElem hk,getElem?_eq_getElem (by omega)]at e2
  have g:=hr.get (k % sz) (by omega) (by simp;omega)
  rw[Option.some.inj e1,Option.some.inj e2]
  exact g
 obtain⟨C',cs',k1,k2,k3,k4⟩:=kd (G:=G) (λj=>some (j*sz,sz)) parts.toList _ _ C0 _ (by
  intro j p q hp hq
  simp only[getElem?_map,hp,Option.map_some,Option.some.injEq]at hq
  subst hq
  exact⟨rfl,rfl⟩) (by simp) hS hE hrep (by
   intro u hu
   obtain⟨k,hk,rfl⟩:=getElem_of_mem hu
   have hk3:k<len*sz:=by rw[hC0l]at hk;exact hk
   have e1:=hC0 k hk3
   rw[getElem?_eq_getElem hk,getElem?_eq_getElem (by simp;have:=hmod k hk3;omega)]at e1
   rw[Option.some.inj e1]
   exact h1 _ (getElem_mem _)) h
 have hB:=fk hS
 obtain⟨rows,r1,r2,r3,hk⟩:=k2 _ hB
 have hcl:=k3.length
 have hrun:(execOp a.eval o).run P w= .ok (.value (.slice (some ⟨w.heap.size,0,none⟩) len len)) (w.alloc (.cells C' e)):=by
  have hb:(Instr.buildSlice t len ((parts.map λ(x:Nat×Operand)=>(x.1,a.eval x.2)))).run P w= .ok (.slice (some ⟨w.heap.size,0,none⟩) len len) (w.alloc (.cells C' e)):=by
   have hle2:¬16777216<len*sz:=by omega
   have k1':Instr.fill (λj=>some (j*sz,sz)) ((Array.range (len*sz)).map (v.cells[· % v.cells.size]!)) (parts.map λ(x:Nat×Operand)=>(x.1,a.eval x.2)).toList=some C':=by
    rw[Array.toList_map];exact k1
   by_cases h0:len*sz=0
   ·rw[h0]at k1'
    have e:(Array.range 0).map (v.cells[· % v.cells.size]!)=#[]:=by simp
    rw[e]at k1'
    simp only[Instr.buildSlice,Sem.run_bind,run_underlying hu,bv hsz,Result.andThen_ok,h0]
    have e2:(Array.range 0).map (λ_=>(default:Value))=#[]:=by apply Array.ext';simp
    rw[Array.toList_map]at k1'
    simp[e2,k1',newRow]
   ·simp only[Instr.buildSlice,Sem.run_bind,run_underlying hu,bv hsz,Result.andThen_ok]
    simp[h0,hle2,zeroValue,typeInfo,hi,hv]
    simp at k1'
    simp[k1',newRow]
  simp only[execOp,ho,Sem.run_bind,hb,Result.andThen_ok,Sem.run_pure]
 have hBρ:w.heap.size∉(σ++ρ:Store).keys:=λhm=>Nat.lt_irrefl _ (hS.key_lt hm)
 refine bF hrun (hn _ _ _ _ hk (hS.alloc _ _ ⟨C',heap_alloc_new w _,?_⟩) (Ev.alloc _ _) ?_)
 ·have e:cs'.length=len*sz:=by
   rw[←r3]
   rw[au rows r2,r1]
  exact⟨by simp at hcl;omega,k4⟩
 ·subst r1
  have hce:cs'.length=rows.length*sz:=by
   rw[←r3]
   exact au rows r2
  have hle2:rows.length<=rows.length*sz:=Nat.le_mul_of_pos_right _ (Nat.pos_of_ne_zero hpos)
  refine ge (τ:=σ++ρ) (vs:=C'.toList) hBρ (heap_alloc_new w _) (Nat.le_refl _) (by unfold maxLen;omega) (by simp at hcl;omega) r2 ?_ k4 (λj _=>rfl)
  rw[r3]
  exact RepL.ev (σ:=σ) (σ':=(w.heap.size,.tok e (rows.length*sz))::σ) (ρ:=ρ) (Ev.alloc _ _) _ _ k3
theorem cv {z:Array Value} {n:Nat} {v:Value} (h:v∈(Builtin.zeroCells z n).toList):v∈z.toList:=by
 unfold Builtin.zeroCells at h
 simp only[Array.toList_map,mem_map]at h
 obtain⟨i,hi,rfl⟩:=h
 have hi:i<n*z.size:=by simpa using hi
 have hz:0<z.size:=by
  rcases Nat.eq_zero_or_pos z.size with h0|h0
  ·rw[h0]at hi;omega
  ·exact h0
 have hm:=Nat.mod_lt i hz
 rw[getElem!_pos z (i % z.size) hm]
 simp
/-! ### append -/
theorem dX {t tx ty e:TypeId} {i:TypeInfo} (ht:P.underlying t=some (.slice e)) (hi:P.info? e=some i) {b sLen sCap:Nat} {cur:Array Value} {e':TypeId} (hg:w.heap[b]? =some (.cells cur e' (0,0)))
  {x:Value} {n:Nat} {news:List Value} (hs:Src P i.size tx x n news w) (hroom:sLen+n<=sCap) (hfit:sLen*i.size+news.length<=cur.size):
  (Builtin.append_ #[t,tx] ty #[.slice (some ⟨b,0,none⟩) sLen sCap,x]).run P w=
   .ok (.slice (some ⟨b,0,none⟩) (sLen+n) sCap) (w.setRow b (cur.toList.take (sLen*i.size)++news++cur.toList.drop (sLen*i.size+news.length)).toArray):=by
 have hst:=run_storeCells_at P b (sLen*i.size) e' news 0 cur w hg (by simpa using hfit) hs.one
 simp only[Nat.add_zero]at hst
 rcases hs.kind with⟨e'',hk⟩|hk<;>simp[Builtin.append_,run_underlying ht,run_underlying hk,sizeOf,typeInfo,hi,hs.len,hroom,hs.cells,Addr.add_lit,hst]
theorem dW {t tx ty e:TypeId} {i:TypeInfo} (ht:P.underlying t=some (.slice e)) (hi:P.info? e=some i) {x:Value} {news:List Value} (hs:Src P i.size tx x 0 news w):
  (Builtin.append_ #[t,tx] ty #[.slice none 0 0,x]).run P w= .ok (.slice none 0 0) w:=by
 rcases hs.kind with⟨e'',hk⟩|hk<;>simp[Builtin.append_,run_underlying ht,run_underlying hk,sizeOf,typeInfo,hi,hs.len,hs.cells]
theorem Ev.tokRow {b k k':Nat} {e e':TypeId} {vs new:Array Value} (hm:(b,AObj.tok e k)∈σ) (hh:w.heap[b]? =some (.cells vs e' (0,0))) (hs:new.size=vs.size) (hkk:k<=k')
  (hp:∀j,j<k->new[j]? =vs[j]?):Ev σ w ((b,.tok e k')::σ.erase (some b)) (w.setRow b new):=by
 have hkeys:b∈σ.keys:=mem_map.2 ⟨_,hm,rfl⟩
 refine⟨rfl,rfl,rfl,by simp,λq hq hn=>⟨setRow_other w b q new (λe=>hn (by rw[e];exact hkeys)),?_⟩,?_,?_⟩
 ·intro h
  simp only[Store.keys,map_cons,mem_cons]at h
  rcases h with h|h
  ·exact hn (by rw[h];exact hkeys)
  ·exact hn (ct (bV σ (some b)).1 h)
 ·intro q s hs'
  unfold World.shape? at*
  by_cases hq:q=b
  ·subst hq
   rw[setRow_heap w q vs new e' (0,0) hh]
   rw[hh]at hs'
   simp at hs' ⊢
   rw[hs];exact hs'
  ·rw[setRow_other w b q new hq];exact hs'
 ·intro ad v hv hmu
  have notm:¬Mut ((b,.tok e k')::σ.erase (some b)) ad.block ad.off:=by
   rintro⟨y,hy,hym⟩
   rcases mem_cons.1 hy with h|h
   ·have hb:ad.block=b:=congrArg Prod.fst h
    have hy':y= .tok e k':=congrArg Prod.snd h
    subst hy'
    refine hmu ⟨.tok e k,by rw[hb];exact hm,?_⟩
    have:k'<=ad.off:=hym
    show k<=ad.off
    omega
   ·exact hmu ⟨y,(bV σ (some b)).1 _ h,hym⟩
  refine⟨?_,notm⟩
  by_cases hb:ad.block=b
  ·have hlt:ad.off<k:=by
    rcases Nat.lt_or_ge ad.off k with h|h
    ·exact h
    ·exact absurd ⟨.tok e k,by rw[hb];exact hm,h⟩ hmu
   unfold World.cell? at*
   rw[hb]at hv ⊢
   rw[setRow_heap w b vs new e' (0,0) hh]
   rw[hh]at hv
   simp only at hv ⊢
   split at hv
   ·cases hv
   ·rename_i hsp;rw[if_neg hsp,hp _ hlt];exact hv
  ·rw[World.cell?_of_block (w:=w) (setRow_other w b ad.block new hb)];exact hv
theorem srcX_ok {sz:Nat} {x:AV} {u:Value} {τ:Store} {KR:List (List AV)->Prop} {tx e':TypeId} (hk:P.underlying tx=some (.slice e')) (hx:Rep τ w x u) (h:srcX sz x KR):
  ∃ys news,KR ys/\Src P sz tx u ys.length news w/\RepL τ w ys.flatten news/\∀r∈ys,r.length=sz:=by
 have rowsCase:∀(ad:Addr) (cap:Nat) (ys:List (List AV)),u= .slice (some ad) ys.length cap->ar τ w ad sz 0 ys->KR ys->∃ys news,KR ys/\Src P sz tx u ys.length news w/\RepL τ w ys.flatten news/\∀r∈ys,r.length=sz:=by
  intro ad cap ys hu hr hK
  obtain⟨vs,l1,l2,l3,l4⟩:=hr.vals
  exact⟨ys,vs,hK,by rw[hu];exact Src.ofSlice w hk ad _ cap vs l1 l4 l3,l2,hr.flat.2.2⟩
 have nilCase:u= .slice none 0 0->KR []->∃ys news,KR ys/\Src P sz tx u ys.length news w/\RepL τ w ys.flatten news/\∀r∈ys,r.length=sz:=λhu hK=>
  ⟨[],[],hK,by rw[hu];exact Src.ofNil w hk 0,by simp[RepL],by simp⟩
 unfold srcX at h
 split at h
 ·simp only[Rep]at hx;exact nilCase hx h
 ·obtain⟨rfl,h⟩:=h
  simp only[Rep]at hx
  rcases hx with⟨hx,rfl⟩|⟨ad,cap,hx,_,_,hr⟩
  ·exact nilCase hx h
  ·exact rowsCase ad cap _ hx hr h
 ·rename_i g e sz' rows
  obtain⟨rfl,h⟩:=h
  cases g with
  |none=>simp only[Rep]at hx;obtain⟨hx,rfl⟩:=hx;exact nilCase hx h
  |some b=>simp only[Rep]at hx;obtain⟨cap,hx,_,_,_,hr⟩:=hx;exact rowsCase _ cap _ hx hr h
 ·exact h.elim
theorem lO (m:Nat):∀(r c:Nat),4*Builtin.growBy m r c<=max (4*c) (5*m+768)
 |0,c=>by rw[Builtin.growBy];omega
 |r+1,c=>by
  rw[Builtin.growBy]
  split
  ·omega
  ·have:=lO m r (c+(c+768) / 4)
   omega
theorem Fits.grow {need old bytes:Nat} (h:Fits need bytes) (hl:old<need):Builtin.nextslicecap need old*bytes<=281474976710656:=by
 rcases h with h|⟨h1,h2⟩
 ·exact growslice_fits hl h
 ·unfold Builtin.nextslicecap
  split
  ·omega
  ·split
   ·have:2*old*bytes<=512*bytes:=Nat.mul_le_mul_right _ (by omega)
    omega
   ·have h3:=lO need 4 old
    have h4:4*Builtin.growBy need 4 old<=5*need+768:=by omega
    have h5:4*Builtin.growBy need 4 old*bytes<=(5*need+768)*bytes:=Nat.mul_le_mul_right _ h4
    rw[Nat.add_mul,Nat.mul_assoc,Nat.mul_assoc 5]at h5
    omega
theorem Fits.le {n bytes:Nat} (h:Fits n bytes):n*bytes<=211106232532992:=by
 rcases h with h|⟨_,h⟩<;>omega
theorem e_append0 {t tx e e':TypeId} {i:TypeInfo} {z:List AV} {x y:Operand} {rest:Call} (ho:o.op= .call rest) (hc:rest.callee= .builtin .append) (hargs:rest.args=#[x,y]) (hts:rest.argTypes=#[t,tx])
  (hu:P.underlying t=some (.slice e)) (hk:P.underlying tx=some (.slice e')) (hi:P.info? e=some i) (hz:cK P e=some z) (hzl:z.length=i.size) (hpos:i.size≠0) (hb0:i.bytes≠0)
  (hS:Sat G (σ++ρ) w) (hE:∀j,Rep (σ++ρ) w (env.get j) (a.tmps.getD j undef))
  (h:ownX e i.size ((SOpd.of x).eval G env) λg rows=>srcX i.size ((SOpd.of y).eval G env) λys=>appX0 e i.size i.bytes σ g rows ys K) (hn:Goes G σ ρ w a o K next):o.wp P a w next Q:=by
 have hx:=ao (G:=G) hS hE x
 have hy:=ao (G:=G) hS hE y
 obtain⟨i',zv,hi',hzv,hzr,hz1⟩:=cG (τ:=σ++ρ) (w:=w) hz
 rw[hi]at hi';cases hi'
 have hzs:zv.cells.size=i.size:=by have:=hzr.length;simp at this;omega
 have hop:∀{u v:Value} {w':World},(Builtin.append_ #[t,tx] o.type #[a.eval x,a.eval y]).run P w= .ok v w'->(execOp a.eval o).run P w= .ok (.value v) w':=by
  intro u v w' hr
  obtain⟨callee,args,argTypes⟩:=rest
  simp only at hc hargs hts
  subst hc hargs hts
  simp[execOp,ho,resolve,invoke,builtin,hr]
 have main:∀(g:Option Nat) (rows:List (List AV)),Rep (σ++ρ) w (.own g e i.size rows) (a.eval x)->(srcX i.size ((SOpd.of y).eval G env) λys=>appX0 e i.size i.bytes σ g rows ys K)->o.wp P a w next Q:=by
  intro g rows hx h
  obtain⟨ys,news,⟨htok,hbytes,hK⟩,hsrc,hrn,hyl⟩:=srcX_ok hk hy h
  have hnl:=hsrc.newsLen
  have hlen63:rows.length+ys.length<=maxLen:=by
   have:=Nat.le_mul_of_pos_right (rows.length+ys.length) (Nat.pos_of_ne_zero hb0)
   have:=hbytes.le
   unfold maxLen;omega
  have grow:∀(base:Option Addr) (cap:Nat) (olds:List Value),a.eval x= .slice base rows.length cap->olds.length=rows.length*i.size->RepL (σ++ρ) w rows.flatten olds->(∀v∈olds,v.oneCell'=true)->(∀r∈rows,r.length=i.size)->
    (Builtin.firstCells i.size rows.length (.slice base rows.length cap)).run P w.drew= .ok olds.toArray w.drew->cap<rows.length+ys.length->rows.length+ys.length<=maxLen->o.wp P a w next Q:=by
   intro base cap olds hv hol hro ho1 hrl hfc hlt h63
   have hr:=run_append_grow_src (P:=P) w t tx o.type e i zv hu hi hzv base rows.length cap olds hfc (a.eval y) ys.length news hsrc hlt (by unfold maxLen at h63;omega) (hbytes.grow hlt)
   rw[←hv]at hr
   have hge:=grownCap_ge w (rows.length+ys.length) cap e
   have hcm:=grownCap_le_maxLen w (rows.length+ys.length) cap e h63
   generalize grownCap w (rows.length+ys.length) cap e=c2 at hr hge hcm
   let C:Array Value:=(olds++news).toArray++Builtin.zeroCells zv.cells (c2-(rows.length+ys.length))
   have hCs:C.size=c2*i.size:=by
    simp only[C,Array.size_append,size_toArray,length_append,hol,hnl,size_zeroCells,hzs,←Nat.add_mul]
    congr 1;omega
   have hBk:w.heap.size∉(σ.erase g++ρ:Store).keys:=λhm=>by
    rw[az]at hm
    rcases mem_append.1 hm with hm|hm
    ·exact Nat.lt_irrefl _ (hS.lt_left (ct (bV σ g).1 hm))
    ·exact Nat.lt_irrefl _ (hS.key_lt (by rw[az];exact mem_append.2 (.inr hm)))
   have hBe:w.heap.size∉(σ.erase g).keys:=λhm=>hBk (by rw[az];exact mem_append.2 (.inl hm))
   have hk2:=hK (some w.heap.size) (λh=>by cases h) (λb hb=>by cases hb;exact hBe)
   have s1:Sat G (σ.erase g++ρ) w:=hS.subN (bV σ g)
   have s2:Sat G (σ.erase g++ρ) w.drew:=s1.step Ev.drew s1.nodup_left (λb hb=>.inl hb) (λb q hq=>(s1.obj b q (mem_append.2 (.inl hq))).keep Ev.drew rfl)
   have ev1:Ev σ w (σ.erase g) w.drew:=(Ev.of_sub (bV σ g).1 w).trans Ev.drew
   have hsz:w.drew.heap.size=w.heap.size:=rfl
   have ev2:Ev (σ.erase g) w.drew ((w.heap.size,.tok e ((rows++ys).length*i.size))::σ.erase g) (w.drew.alloc (.cells C e)):=Ev.alloc (σ:=σ.erase g) (w:=w.drew) _ _
   have ev:=ev1.trans ev2
   have hlen:(rows++ys).length=rows.length+ys.length:=by simp
   have s3:Sat G (((w.heap.size,.tok e ((rows++ys).length*i.size))::σ.erase g)++ρ) (w.drew.alloc (.cells C e)):=s2.alloc _ _ ⟨C,heap_alloc_new w.drew _,by rw[hCs,hlen];exact Nat.mul_le_mul_right _ hge,by
    intro v hv
    simp only[C,Array.toList_append,mem_append]at hv
    rcases hv with(hv|hv)|hv
    ·exact ho1 v hv
    ·exact hsrc.one v hv
    ·exact hz1 _ (cv hv)⟩
   refine bF (hop (u:=.nilFunc) hr) (hn _ _ _ _ hk2 s3 ev ?_)
   have hrr:=ge (τ:=σ.erase g++ρ) (w2:=w.drew.alloc (.cells C e)) (B:=w.heap.size) (cap:=c2) (e:=e) (sz:=i.size) (rows:=rows++ys) (C:=C) (vs:=olds++news) hBk (heap_alloc_new w.drew _) (by rw[hlen];exact hge) hcm hCs
    (λr hr=>by rcases mem_append.1 hr with hr|hr<;>first|exact hrl r hr|exact hyl r hr)
    (by rw[flatten_append];exact RepL.append (RepL.ev ev _ _ hro) (RepL.ev ev _ _ hrn))
    (λv hv=>by rcases mem_append.1 hv with hv|hv<;>first|exact ho1 v hv|exact hsrc.one v hv)
    (λj hj=>by
     simp only[C,Array.toList_append]
     rw[getElem?_append_left (by simpa using hj)])
   rw[show Value.slice (some ⟨w.heap.size,0,none⟩) (rows++ys).length c2=Value.slice (some ⟨w.heap.size,0,none⟩) (rows.length+ys.length) c2 by rw[hlen]]at hrr
   exact hrr
  cases g with
  |none=>
   simp only[Rep]at hx
   obtain⟨hx,rfl⟩:=hx
   by_cases hm:ys.length=0
   ·have hy0:ys=[]:=eq_nil_of_length_eq_zero hm
    subst hy0
    have hk2:=hK none (λ_=>by simp) (λb hb=>by cases hb)
    have hr:=dW (P:=P) (ty:=o.type) hu hi hsrc
    rw[←hx]at hr
    exact bF (hop (u:=.nilFunc) hr) (hn _ _ _ _ hk2 hS (Ev.refl σ w) (by simp only[Rep];exact⟨hx,by simp⟩))
   ·refine grow none 0 [] hx (by simp) (by simp[RepL]) (by simp) (by simp) (by simp[Builtin.firstCells]) (by simp;omega) ?_
    exact hlen63
  |some b=>
   have hx':=hx
   simp only[Rep]at hx
   obtain⟨cap,hv,hle,hcm,hshape,hrows⟩:=hx
   have hm:=Store.get_mem (htok b rfl)
   obtain⟨vs,hh,hks⟩:=hS.obj b _ (mem_append.2 (.inl hm))
   have hvs:vs.size=cap*i.size:=by simp[World.shape?,hh]at hshape;exact hshape
   obtain⟨olds,l1,l2,l3,l4⟩:=hrows.vals
   obtain⟨_,_,hrl⟩:=hrows.flat
   have hold:olds=vs.toList.take (rows.length*i.size):=by
    apply ext_getElem?
    intro j
    by_cases hj:j<rows.length*i.size
    ·have hj2:j<olds.length:=by omega
     have:=l4 j olds[j] (getElem?_eq_getElem hj2)
     rw[add_lit,Nat.zero_add,cell_of_row w b j vs e (0,0) hh]at this
     rw[getElem?_eq_getElem hj2,getElem?_take,if_pos hj,←this]
     simp
    ·rw[getElem?_eq_none (by omega),getElem?_take,if_neg hj]
   by_cases hroom:rows.length+ys.length<=cap
   ·have hfit:rows.length*i.size+news.length<=vs.size:=by rw[hvs,hnl,←Nat.add_mul];exact Nat.mul_le_mul_right _ hroom
    have hr:=dX (P:=P) (ty:=o.type) hu hi hh hsrc hroom hfit
    rw[←hv]at hr
    let new:Array Value:=(vs.toList.take (rows.length*i.size)++news++vs.toList.drop (rows.length*i.size+news.length)).toArray
    have hns:new.size=vs.size:=by simp[new];omega
    have hk2:=hK (some b) (λh=>by cases h) (λb' hb'=>by cases hb';exact cx σ b)
    have hlen:(rows++ys).length=rows.length+ys.length:=by simp
    have ev:Ev σ w ((b,.tok e ((rows++ys).length*i.size))::σ.erase (some b)) (w.setRow b new):=Ev.tokRow hm hh hns (by rw[hlen,Nat.add_mul];omega) (λj hj=>by
     simp only[new]
     rw[←Array.getElem?_toList,←Array.getElem?_toList]
     simp only
     rw[getElem?_append_left (by simp;omega),getElem?_append_left (by simp;omega),getElem?_take,if_pos hj])
    have hbk:b∉(σ.erase (some b)++ρ:Store).keys:=λhmm=>by
     rw[az]at hmm
     rcases mem_append.1 hmm with hmm|hmm
     ·exact cx σ b hmm
     ·have hnd:=hS.nodup
      rw[az]at hnd
      exact(nodup_append.1 hnd).2.2 b (mem_map.2 ⟨_,hm,rfl⟩) b hmm rfl
    have hnew:=setRow_heap w b vs new e (0,0) hh
    have s3:Sat G (((b,.tok e ((rows++ys).length*i.size))::σ.erase (some b))++ρ) (w.setRow b new):=by
     refine hS.step ev ?_ ?_ ?_
     ·simp only[Store.keys,map_cons,nodup_cons]
      exact⟨cx σ b,(bV σ (some b)).2 hS.nodup_left⟩
     ·intro k hk
      simp only[Store.keys,map_cons,mem_cons]at hk
      rcases hk with rfl|hk
      ·exact .inl (mem_map.2 ⟨_,hm,rfl⟩)
      ·exact .inl (ct (bV σ (some b)).1 hk)
     ·intro k q hq
      rcases mem_cons.1 hq with hq|hq
      ·cases hq
       exact⟨new,hnew,by rw[hns,hvs,hlen];exact Nat.mul_le_mul_right _ hroom,by
        intro v hv
        simp only[new,mem_append]at hv
        rcases hv with(hv|hv)|hv
        ·exact hks.2 v (mem_of_mem_take hv)
        ·exact hsrc.one v hv
        ·exact hks.2 v (mem_of_mem_drop hv)⟩
      ·have hne:k≠b:=λe=>by subst e;exact cx σ k (mem_map.2 ⟨(k,q),hq,rfl⟩)
       exact(hS.obj k q (mem_append.2 (.inl ((bV σ (some b)).1 _ hq)))).keep ev (setRow_other w b k new hne)
    refine bF (hop (u:=.nilFunc) hr) (hn _ _ _ _ hk2 s3 ev ?_)
    have hrr:=ge (τ:=σ.erase (some b)++ρ) (w2:=w.setRow b new) (B:=b) (cap:=cap) (e:=e) (sz:=i.size) (rows:=rows++ys) (C:=new) (vs:=olds++news) hbk hnew (by rw[hlen];exact hroom) hcm (by rw[hns,hvs])
     (λr hr=>by rcases mem_append.1 hr with hr|hr<;>first|exact hrl r hr|exact hyl r hr)
     (by rw[flatten_append];exact RepL.append (RepL.ev ev _ _ l2) (RepL.ev ev _ _ hrn))
     (λv hv=>by rcases mem_append.1 hv with hv|hv<;>first|exact l3 v hv|exact hsrc.one v hv)
     (λj hj=>by
      simp only[new]
      rw[hold]at hj ⊢
      rw[getElem?_append_left hj])
    rw[show Value.slice (some ⟨b,0,none⟩) (rows++ys).length cap=Value.slice (some ⟨b,0,none⟩) (rows.length+ys.length) cap by rw[hlen]]at hrr
    exact hrr
   ·refine grow (some ⟨b,0,none⟩) cap olds hv l1 l2 l3 hrl (run_firstCells_some w.drew i.size rows.length _ _ _ olds l1 (by simpa using l4)) (by omega) ?_
    exact hlen63
 unfold ownX at h
 split at h
 ·rename_i he
  rw[he]at hx
  simp only[Rep]at hx
  exact main none [] (by simp only[Rep];exact⟨hx,trivial⟩) h
 ·rename_i g e2 sz2 rows he
  obtain⟨rfl,rfl,h⟩:=h
  rw[he]at hx
  exact main g rows hx h
 ·exact h.elim
theorem e_append {t tx e e':TypeId} {i:TypeInfo} {z:List AV} {x y:Operand} {rest:Call} (ho:o.op= .call rest) (hc:rest.callee= .builtin .append) (hargs:rest.args=#[x,y]) (hts:rest.argTypes=#[t,tx])
  (hu:P.underlying t=some (.slice e)) (hk:P.underlying tx=some (.slice e')) (hi:P.info? e=some i) (hz:cK P e=some z) (hzl:z.length=i.size) (hpos:i.size≠0) (hb0:i.bytes≠0)
  (hS:Sat G (σ++ρ) w) (hE:∀j,Rep (σ++ρ) w (env.get j) (a.tmps.getD j undef))
  (h:ownX e i.size ((SOpd.of x).eval G env) λg rows=>srcX i.size ((SOpd.of y).eval G env) λys=>appX e i.size i.bytes σ g rows ys K) (hn:Goes G σ ρ w a o K next):o.wp P a w next Q:=by
 refine e_append0 (K:=λr σ'=>∃σ'':Store,(Sub σ'' σ'/\(σ'.keys.Nodup->σ''.keys.Nodup))/\K r σ'') ho hc hargs hts hu hk hi hz hzl hpos hb0 hS hE h ?_
 rintro v r σ' w' ⟨σ'',hs,hK⟩ sat ev rep
 have hs2:SubN σ'' σ':=hs
 exact hn v r σ'' w' hK (sat.subN hs2) (ev.trans (Ev.of_sub hs2.1 _)) (Rep.ev (Ev.of_sub hs2.1 _) _ _ rep)
end
end Go.Av
