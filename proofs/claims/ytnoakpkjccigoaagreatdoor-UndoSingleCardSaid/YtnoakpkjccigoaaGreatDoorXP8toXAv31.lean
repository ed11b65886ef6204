/-
  ENACT, plain law 8: small books, small items; what stands.
-/
import Derived.Test.YtnoakpkjccigoaaGreatDoorXM4toXE16
import Derived.Test.YtnoakpkjccigoaaGreatDoorXL20toXOpI
import Derived.Test.YtnoakpkjccigoaaGreatDoorXL28toXL51
import Derived.Test.YtnoakpkjccigoaaGreatDoorXAv21toXAv25
namespace Go.Av
open Go Go.RowKit Go.Proofs List
set_option linter.unusedSimpArgs false
set_option linter.unusedVariables false
theorem wt5_k (u:U):wt5 u.k5=1+u.words.length / 50+u.head.length / 50+u.label.length / 50:=rfl
theorem wtL_all (u:U):wtL u.all5=wt5 u.k5+wtL (U.alls5 u.kids):=by rw[U.all5_eq,fW]
def idsB (u:U):Bool:=decide u.ids.Nodup&&(!decide (zId∈u.ids)||decide (u.kind=0))
mutual
def Itm.big:Itm->Prop
 |⟨_,a,t,_,_,u,o,w,l,f,s,_,_,_,e,b⟩=>(a.length<1000000000000000000/\∀x∈a,x.label.length<1000000000000000000)/\(t.length<1000000000000000000/\∀x∈t,x.label.length<1000000000000000000)/\u.fit/\o.length<1000000000000000000/\w.length<1000000000000000000/\
  (l.length<1000000000000000000/\f.length<1000000000000000000/\s.event.length<1000000000000000000/\e.length<1000000000000000000)/\b.length<1000000000000000000/\Itm.bigs b
def Itm.bigs:List Itm->Prop
 |[]=>True
 |u::us=>Itm.big u/\Itm.bigs us
end
theorem Itm.bigs_iff:∀{us:List Itm},Itm.bigs us↔∀k∈us,k.big
 |[]=>by simp[Itm.bigs]
 |u::us=>by simp[Itm.bigs,Itm.bigs_iff (us:=us)]
theorem Itm.big_eq (x:Itm):x.big↔(x.at_.length<1000000000000000000/\∀y∈x.at_,y.label.length<1000000000000000000)/\(x.to_.length<1000000000000000000/\∀y∈x.to_,y.label.length<1000000000000000000)/\x.unit.fit/\x.old.length<1000000000000000000/\x.new.length<1000000000000000000/\
  (x.label.length<1000000000000000000/\x.for_.length<1000000000000000000/\x.start.event.length<1000000000000000000/\x.event.length<1000000000000000000)/\x.by_.length<1000000000000000000/\∀k∈x.by_,k.big:=by
 cases x
 rw[Itm.big,Itm.bigs_iff]
theorem big_fit:∀x:Itm,x.big->x.fit:=by
 refine Itm.ind λx ih h=>?_
 obtain⟨⟨a1,_⟩,⟨b1,_⟩,c,d,e,_,f,g⟩:=(Itm.big_eq x).1 h
 exact(Itm.fit_eq x).2 ⟨a1,b1,c,d,e,f,λk hk=>ih k hk (g k hk)⟩
theorem oE:∀(n:Nat) (a:List AV),Shp Tryz.prog reachBytes n 52 a->∃x:Itm,a=x.cs/\x.big:=by
 intro n
 induction n using Nat.strongRecOn with
 |ind n ih=>
  intro a h
  obtain⟨m,rfl,g⟩:=cD Tryz.underlying52 h
  clear h
  simp only[toL,ShpF]at g
  obtain⟨a1,b1,rfl,h1,a2,b2,rfl,h2,a3,b3,rfl,h3,a4,b4,rfl,h4,a5,b5,rfl,h5,a6,b6,rfl,h6,a7,b7,rfl,h7,a8,b8,rfl,h8,a9,b9,rfl,h9,a10,b10,rfl,h10,a11,b11,rfl,h11,a12,b12,rfl,h12,a13,b13,rfl,h13,a14,b14,rfl,h14,a15,b15,rfl,h15,a16,b16,rfl,h16,rfl⟩:=g
  obtain⟨k,rfl⟩:=bL Tryz.underlying3 h1
  obtain⟨l2,rfl,q2,t2⟩:=km h2
  obtain⟨l3,rfl,q3,t3⟩:=km h3
  obtain⟨i4,rfl⟩:=bL Tryz.underlying3 h4
  obtain⟨i5,rfl⟩:=bL Tryz.underlying3 h5
  obtain⟨u6,rfl,q6⟩:=ls _ _ h6
  obtain⟨l7,rfl,q7,_⟩:=lS h7
  obtain⟨l8,rfl,q8,_⟩:=lS h8
  obtain⟨s9,z9,rfl⟩:=eN Tryz.underlying9 h9
  obtain⟨s10,z10,rfl⟩:=eN Tryz.underlying9 h10
  obtain⟨s11,rfl,z11⟩:=oT h11
  obtain⟨i12,rfl⟩:=bL Tryz.underlying3 h12
  obtain⟨i13,rfl⟩:=bL Tryz.underlying3 h13
  obtain⟨i14,rfl⟩:=bL Tryz.underlying3 h14
  obtain⟨s15,z15,rfl⟩:=eN Tryz.underlying9 h15
  obtain⟨l16,rfl,q16,p16⟩:=fg (f:=Itm.cs) (q:=Itm.big) (sz:=25) Tryz.underlying50 (by kernel_rfl) (λm' hm r hr=>ih m' (by omega) r hr) h16
  refine⟨⟨k,l2,l3,i4,i5,u6,l7,l8,s9,s10,s11,i12,i13,i14,s15,l16⟩,?_,(Itm.big_eq _).2 ⟨⟨q2,t2⟩,⟨q3,t3⟩,q6,q7,q8,⟨dF z9,dF z10,z11,dF z15⟩,dF q16,p16⟩⟩
  rw[Itm.cs_eq,U.cs_eq]
  rfl
theorem open_deed {n:Nat} {a:List AV} (h:Shp Tryz.prog reachBytes n 54 a):∃d:Dd,a=d.cs/\d.it.big:=by
 obtain⟨m,rfl,g⟩:=cD Tryz.underlying54 h
 clear h
 simp only[toL,ShpF]at g
 obtain⟨a1,b1,rfl,h1,a2,b2,rfl,h2,a3,b3,rfl,h3,a4,b4,rfl,h4,rfl⟩:=g
 obtain⟨i1,rfl⟩:=bL Tryz.underlying3 h1
 obtain⟨i2,rfl⟩:=bL Tryz.underlying3 h2
 obtain⟨i3,rfl⟩:=bL Tryz.underlying3 h3
 obtain⟨x,rfl,hx⟩:=oE _ _ h4
 exact⟨⟨i1,i2,i3,x⟩,by simp[Dd.cs],hx⟩
end Go.Av
namespace Go.Av
open Go Go.RowKit List
set_option linter.unusedSimpArgs false
set_option linter.unusedVariables false
theorem kr {α:Type} (l:List α):∀(c k:Nat),k<c*l.length->(List.replicate c l).flatten[k]? =l[k % l.length]?
 |0,k,h=>by simp at h
 |c+1,k,h=>by
  rw[replicate_succ,flatten_cons]
  by_cases hk:k<l.length
  ·rw[getElem?_append_left hk,Nat.mod_eq_of_lt hk]
  ·rw[getElem?_append_right (by omega),kr l c (k-l.length) (by rw[Nat.add_mul]at h;omega),←Nat.mod_eq_sub_mod (by omega)]
theorem cb {α:Type} (l:List α):∀c:Nat,(List.replicate c l).flatten.length=c*l.length
 |0=>by simp
 |c+1=>by rw[replicate_succ,flatten_cons,length_append,cb l c,Nat.add_mul];omega
theorem fS {z:Array Value} (hz:0<z.size) (c:Nat):(madeCells z (c*z.size)).toList=(List.replicate c z.toList).flatten:=by
 apply ext_getElem?
 intro k
 by_cases hk:k<c*z.size
 ·rw[kr z.toList c k (by simpa using hk)]
  have hm:=Nat.mod_lt k hz
  unfold madeCells
  simp[hk,hm,getElem!_pos z (k % z.size) hm]
 ·rw[getElem?_eq_none (by simp[size_madeCells];omega),getElem?_eq_none (by rw[cb];simp;omega)]
theorem gI {τ:Store} {w:World} {zr:List AV} {us:List Value} (h:RepL τ w zr us):∀c:Nat,RepL τ w (List.replicate c zr).flatten (List.replicate c us).flatten
 |0=>by simp[RepL]
 |c+1=>by rw[replicate_succ,replicate_succ,flatten_cons,flatten_cons];exact RepL.append h (gI h c)
section
variable {G:Glob} {P:Program}
theorem lg (w:World) (dT sT ty elem:TypeId) (g o dLen dCap sz:Nat) (a:Addr) (sLen sCap:Nat) (cur:Array Value) (t:TypeId) (cs:List Value)
  (hu:P.underlying dT=some (.slice elem)) (hs:(P.info? elem).map (·.size)=some sz)
  (hg:w.heap[g]? =some (.cells cur t (0,0))) (hn:cs.length=Nat.min sLen dLen*sz)
  (hsrc:∀j v,cs[j]? =some v->w.cell? (a.add j)=some v) (hfit:o+cs.length<=cur.size) (h1:∀v∈cs,v.oneCell'=true):
  (Builtin.copy_ #[dT,sT] ty #[.slice (some ⟨g,o,none⟩) dLen dCap,.slice (some a) sLen sCap]).run P w=
   .ok (goInt (Nat.min sLen dLen)) (w.setRow g (cur.toList.take o++cs++cur.toList.drop (o+cs.length)).toArray):=by
 have hl:=run_loadCells_list (P:=P) w a cs hsrc
 have hst:=run_storeCells_at P g o t cs 0 cur w hg (by simpa using hfit) h1
 cases hq:P.info? elem with
 |none=>simp[hq]at hs
 |some i=>
  have hi:i.size=sz:=by simpa[hq]using hs
  simp[Builtin.copy_,run_underlying hu,Builtin.lenOf,Builtin.firstCells,sizeOf,typeInfo,hq,hi,←hn,hl,hst]
theorem kB (w:World) (dT sT ty elem:TypeId) (d a:Option Addr) (dLen dCap sLen sCap sz:Nat) (hu:P.underlying dT=some (.slice elem)) (hs:(P.info? elem).map (·.size)=some sz) (hn:Nat.min sLen dLen=0):
  (Builtin.copy_ #[dT,sT] ty #[.slice d dLen dCap,.slice a sLen sCap]).run P w= .ok (goInt 0) w:=by
 cases hq:P.info? elem with
 |none=>simp[hq]at hs
 |some i=>
  have hl:∀(x:Addr),(loadCells x 0).run P w= .ok #[] w:=λx=>by simpa using run_loadCells_list (P:=P) w x [] (by simp)
  cases d<;>cases a<;>simp[Builtin.copy_,run_underlying hu,Builtin.lenOf,Builtin.firstCells,sizeOf,typeInfo,hq,hn,storeCells,hl]
theorem iA {ty elem:TypeId} {i c sz bytes:Nat} {z:Value} {zr:List AV} {kc:IntKind} {env:Env} {σ:Store} {K:AV->Store->Prop} (hi:env.get i= .int kc (c:Nat)) (hu:P.underlying ty=some (.slice elem))
  (hin:(P.info? elem).map (λi=>(i.zero,i.size,i.bytes))=some (some z,sz,bytes)) (hzs:z.cells.size=sz) (h0:0<sz) (hone:∀v∈z.cells.toList,v.oneCell'=true) (hz:∀τ w,RepL τ w zr z.cells.toList)
  (hb:bytes*c<=281474976710656) (hc:c<1000000000)
  (hk:∀b,b∉σ.keys->K (.sc (.slice (some ⟨b,0,none⟩) c c)) ((b,.cells elem (List.replicate c zr).flatten)::σ)):RAW G P (.makeSlice ty (.tmp i) (.tmp i)) env σ K ⟨⟩:=by
 intro ρ w a op ho hS hE
 have h1:=hE i
 rw[hi]at h1
 simp only[Rep]at h1
 obtain⟨ti,hti,htz⟩:=Option.map_eq_some_iff.1 hin
 simp only[Prod.mk.injEq]at htz
 obtain⟨g1,g2,g3⟩:=htz
 have e3:a.eval (.tmp i)= .int kc (c:Nat):=h1
 have hb':(ti.bytes:Int)*((c:Nat):Int)<=281474976710656:=by
  rw[g3,←Int.natCast_mul];omega
 have hrun:=run_make (P:=P) w ty elem ti z hu hti g1 kc kc (c:Nat) (c:Nat) (by omega) (by omega) hb' (by omega)
 simp only[Int.toNat_natCast,g2]at hrun
 have hnew:(w.alloc (.cells (madeCells z.cells (c*sz)) elem)).heap[w.heap.size]? =some (.cells (madeCells z.cells (c*sz)) elem (0,0)):=heap_alloc_new w _
 have hl:(madeCells z.cells (c*sz)).toList=(List.replicate c z.cells.toList).flatten:=by
  rw[←hzs];exact fS (by omega) c
 refine⟨_,_,.sc (.slice (some ⟨w.heap.size,0,none⟩) c c),_,.inl (by simp[execOp,ho,e3,hrun];exact rfl),hk _ (fk hS),hS.alloc _ _ ⟨_,hnew,?_,?_⟩,Ev.alloc _ _,by simp only[Rep]⟩
 ·intro v hv
  exact hone v (lh (by omega) hv)
 ·rw[hl]
  exact gI (hz _ _) c
end
section
variable {G:Glob} {b c cap sz:Nat} {e:TypeId} {rows:List (List AV)} {pad:List AV} {σ ρ:Store} {w:World}
theorem Rep.freeze (hS:Sat G ((b,.cells e (rows.flatten++pad))::σ++ρ) w) (hr:∀r∈rows,r.length=sz) (hc:c=rows.length) (hl:rows.length<=cap) (hm:cap<=maxLen):
  Rep (σ++ρ) w (.lst sz rows) (.slice (some ⟨b,0,none⟩) c cap):=by
 subst hc
 obtain⟨vs,hh,h1,hrep⟩:=hS.obj b _ (mem_append.2 (.inl (mem_cons_self ..)))
 have hnd:=hS.nodup
 have hb:b∉(σ++ρ).keys:=by
  rw[cons_append]at hnd
  exact(nodup_cons.1 hnd).1
 have hsub:Sub (σ++ρ) ((b,.cells e (rows.flatten++pad))::σ++ρ):=λp hp=>mem_cons_of_mem _ hp
 have hrl:=hrep.length
 simp only[Rep]
 refine .inr ⟨_,_,rfl,hl,hm,ar.of_flat hr ?_⟩
 refine RepAt.of_get λj hj=>?_
 have hj1:j<(rows.flatten++pad).length:=by rw[length_append];omega
 have hj2:j<vs.toList.length:=by omega
 have hg:=hrep.get j hj1 hj2
 rw[getElem_append_left hj]at hg
 rw[Nat.zero_mul,Nat.zero_add,add_lit,Nat.zero_add]
 have hj3:j<vs.size:=by simpa using hj2
 refine⟨vs.toList[j],⟨?_,?_⟩,h1 _ (getElem_mem hj2),Rep.sub hsub hg⟩
 ·simp[World.cell?,hh,hj3]
 ·rintro⟨x,hx,_⟩
  exact hb (mem_map.2 ⟨_,hx,rfl⟩)
theorem Weak.freeze {env:Env} {j:Nat} (hj:env.get j= .sc (.slice (some ⟨b,0,none⟩) c cap)) (hr:∀r∈rows,r.length=sz) (hc:c=rows.length) (hl:rows.length<=cap) (hm:cap<=maxLen):
  Weak G env ((b,.cells e (rows.flatten++pad))::σ) (env.set j (.lst sz rows)) σ:=by
 intro ρ w tmps hS hE
 have hs:SubN σ ((b,.cells e (rows.flatten++pad))::σ):=⟨λp hp=>mem_cons_of_mem _ hp,λhn=>(nodup_cons.1 hn).2⟩
 refine⟨hS.subN hs,Ev.of_sub hs.1 w,λi=>?_⟩
 rw[Env.get_set]
 split
 ·rename_i h0
  rw[←h0]
  have h:=hE j
  rw[hj]at h
  simp only[Rep]at h
  rw[h]
  exact Rep.freeze hS hr hc hl hm
 ·exact Rep.ev (Ev.of_sub hs.1 w) _ _ (hE i)
end
end Go.Av
