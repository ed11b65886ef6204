/-
  ABSTRACT VALUES, 9: the rest of the operations that leave memory as it is, one by one.
-/
import Derived.Test.YtepngejmjdgccaaGreatDoorXAv7toXAv8
namespace Go.Av
open Go Go.RowKit
set_option linter.unusedSimpArgs false
set_option linter.unusedVariables false
section
variable {G:Glob} {P:Program} {τ:Store} {w:World} {env:Env} {a:Act} {o:Oper} {K:AV->Prop}
theorem zeroT_rep {t:TypeId} {z:List AV} (h:zeroT P t=some z):∃i v,P.info? t=some i/\i.zero=some v/\RepL τ w z v.cells.toList/\∀u∈v.cells.toList,u.oneCell'=true:=by
 unfold zeroT at h
 cases hi:P.info? t with
 |none=>simp[hi]at h
 |some i=>
  cases hz:i.zero with
  |none=>simp[hi,hz]at h
  |some v=>
   simp only[hi,hz,Option.bind_some]at h
   split at h
   ·rename_i h1
    cases h
    exact⟨i,v,rfl,hz,RepL.ofOnes τ w _,λu hu=>List.all_eq_true.1 h1 u hu⟩
   ·cases h
theorem mapM_get {α β:Type} {f:α->Option β}:∀{l:List α} {r:List β},l.mapM f=some r->l.length=r.length/\∀(j:Nat) x y,l[j]? =some x->r[j]? =some y->f x=some y
 |[],r,h=>by simp at h;subst h;simp
 |x::l,r,h=>by
  rw[List.mapM_cons]at h
  cases hx:f x with
  |none=>simp[hx]at h
  |some y=>
   cases hr:l.mapM f with
   |none=>simp[hx,hr]at h
   |some r'=>
    simp[hx,hr]at h
    subst h
    obtain⟨h1,h2⟩:=mapM_get hr
    refine⟨by simp[h1],λj u v hu hv=>?_⟩
    cases j with
    |zero=>simp at hu hv;subst hu hv;exact hx
    |succ j=>exact h2 j u v (by simpa using hu) (by simpa using hv)
theorem mapM_some {α β:Type} {f:α->Option β}:∀{l:List α},(∀x∈l,(f x).isSome=true)->∃r,l.mapM f=some r
 |[],_=>⟨[],rfl⟩
 |x::l,h=>by
  obtain⟨r,hr⟩:=mapM_some (l:=l) (λy hy=>h y (List.mem_cons_of_mem _ hy))
  obtain⟨y,hy⟩:=Option.isSome_iff_exists.1 (h x (by simp))
  exact⟨y::r,by simp[List.mapM_cons,hy,hr]⟩
theorem q_build {t:TypeId} {parts:Array (Nat×Operand)} {fs:Array Field} {z:List AV} {sparts:List (Nat×Nat×SOpd)} (ho:o.op= .build t parts) (hu:P.underlying t=some (.struct fs)) (hz:zeroT P t=some z)
  (hfs:(fs.toList.all λf=>(P.info? f.type).isSome)=true)
  (hm:(parts.toList.mapM λ(p:Nat×Operand)=>match fs[p.1]? with
    |some f=>(sizeT P f.type).map λn=>(f.offset,n,SOpd.of p.2)
    |none=>none)=some sparts)
  (hS:Sat G τ w) (hE:∀j,Rep τ w (env.get j) (a.tmps.getD j undef)) (h:fillAV G env z sparts λcs=>K (.agg cs)):QOk P τ w o a K:=by
 obtain⟨i,v,hi,hv,hr,h1⟩:=zeroT_rep (τ:=τ) (w:=w) hz
 obtain⟨hl,hg⟩:=mapM_get hm
 obtain⟨places,hpl⟩:=mapM_some (l:=fs.toList) (f:=λf=>(P.info? f.type).map λi=>(f.offset,i.size)) (λf hf=>by simpa using List.all_eq_true.1 hfs f hf)
 obtain⟨hl2,hg2⟩:=mapM_get hpl
 obtain⟨C',cs',k1,k2,k3,k4⟩:=fill_rep (G:=G) (λj=>places.toArray[j]?) parts.toList sparts z v.cells (λcs=>K (.agg cs)) (by
  intro j p q hp hq
  have:=hg j p q hp hq
  split at this
  ·rename_i f hf
   cases hn:sizeT P f.type with
   |none=>simp[hn]at this
   |some n=>
    simp only[hn,Option.map_some,Option.some.injEq]at this
    subst this
    have hlt:p.1<places.length:=by
     have:=(Array.getElem?_eq_some_iff.1 hf).1
     simp at hl2;omega
    have e:=hg2 p.1 f places[p.1] (by simpa using hf) (List.getElem?_eq_getElem hlt)
    simp only[sizeT]at hn
    cases hi2:P.info? f.type with
    |none=>simp[hi2]at hn
    |some i2=>
     simp[hi2]at hn e
     simp[hlt,←e,hn]
  ·cases this) hl hS hE hr h1 h
 have hb:P.built t ((parts.map λ(x:Nat×Operand)=>(x.1,a.eval x.2)).toList)=some C':=by
  unfold Program.built
  simp only[hi,hu,hv,hpl,Array.toList_map]
  exact k1
 exact⟨.agg cs',.agg C',k2,by simp only[Rep];exact⟨C',rfl,k4,k3⟩,λw' _=>by
  simp only[execOp,ho,Sem.run_bind,run_build w' t _ C' hb,Result.andThen_ok,Sem.run_pure]⟩
theorem run_fieldAt {s:TypeId} {fs:Array Field} {f:Field} {i n:Nat} (hu:P.underlying s=some (.struct fs)) (hf:fs[i]? =some f) (hn:sizeT P f.type=some (n+1)) (ad:Addr) (w':World):
  (Instr.fieldAt s (.pointer (some ad)) i).run P w'= .ok (.pointer (some (ad.add f.offset))) w':=by
 simp[Instr.fieldAt,run_underlying hu,hf,Instr.sureAddr,fieldPlace,run_sizeOf' hn]
theorem fieldX_ok {off:Nat} {x:AV} {u:Value} (hx:Rep τ w x u) (h:fieldX off x K):∃r ad,u= .pointer (some ad)/\K r/\Rep τ w r (.pointer (some (ad.add off))):=by
 unfold fieldX at h
 split at h
 ·simp only[Rep]at hx
  obtain⟨ad,hp,hr⟩:=hx
  exact⟨_,ad,hp,h,by simp only[Rep];exact⟨_,rfl,hr.drop off⟩⟩
 ·rename_i b p
  simp only[Rep]at hx
  exact⟨_,_,hx,h,by simp only[Rep];rw[add_lit]⟩
 ·exact h.elim
theorem q_fieldA {t:TypeId} {x:Operand} {fs:Array Field} {f:Field} {i n:Nat} (ho:o.op= .fieldAddr t x i) (hu:P.underlying t=some (.struct fs)) (hf:fs[i]? =some f) (hn:sizeT P f.type=some (n+1))
  (hS:Sat G τ w) (hE:∀j,Rep τ w (env.get j) (a.tmps.getD j undef)) (h:fieldX f.offset ((SOpd.of x).eval G env) K):QOk P τ w o a K:=by
 obtain⟨r,ad,hp,hk,hr⟩:=fieldX_ok (eval_rep hS hE x) h
 exact⟨r,_,hk,hr,λw' _=>by simp[execOp,ho,hp,run_fieldAt hu hf hn]⟩
theorem intX_ok {x:AV} {u:Value} {KI:Int->Prop} (hx:Rep τ w x u) (h:intX x KI):∃k n,u= .int k n/\KI n:=by
 unfold intX at h
 split at h
 ·simp only[Rep]at hx
  exact⟨_,_,hx,h⟩
 ·exact h.elim
theorem rowsOf_ok {x:AV} {u:Value} {KR:Nat->List (List AV)->Prop} (hx:Rep τ w x u) (h:rowsOf x KR):
  ∃sz rows,KR sz rows/\((u= .slice none 0 0/\rows=[])\/∃ad cap,u= .slice (some ad) rows.length cap/\rows.length<=cap/\cap<=maxLen/\RepRows τ w ad sz 0 rows):=by
 unfold rowsOf at h
 split at h
 ·simp only[Rep]at hx
  exact⟨_,_,h,hx⟩
 ·rename_i g e sz rows
  cases g with
  |none=>simp only[Rep]at hx;exact⟨_,_,h,.inl hx⟩
  |some b=>
   simp only[Rep]at hx
   obtain⟨cap,h1,h2,h3,_,h5⟩:=hx
   exact⟨_,_,h,.inr ⟨_,cap,h1,h2,h3,h5⟩⟩
 ·exact h.elim
theorem q_indexA {t e:TypeId} {x i:Operand} {sz:Nat} (ho:o.op= .indexAddr t x i) (hu:P.underlying t=some (.slice e)) (hn:sizeT P e=some sz)
  (hS:Sat G τ w) (hE:∀j,Rep τ w (env.get j) (a.tmps.getD j undef)) (h:indexX sz ((SOpd.of x).eval G env) ((SOpd.of i).eval G env) K):QOk P τ w o a K:=by
 unfold indexX at h
 split at h
 ·rename_i b off len cap he
  have hx:=eval_rep (G:=G) hS hE x
  rw[he]at hx
  simp only[Rep]at hx
  obtain⟨k,n,hi,h0,hlt,hk⟩:=intX_ok (eval_rep hS hE i) h
  refine⟨_,.pointer (some ⟨b,off+n.toNat*sz,none⟩),hk,by simp only[Rep],λw' _=>?_⟩
  simp[execOp,ho,hx,hi,Instr.indexAt,asIntOf,run_underlying hu,h0,hlt,run_sizeOf' hn,add_lit]
 obtain⟨sz',rows,⟨rfl,h⟩,hx⟩:=rowsOf_ok (eval_rep hS hE x) h
 obtain⟨k,n,hi,h0,hlt,hk⟩:=intX_ok (eval_rep hS hE i) h
 rcases hx with⟨hx,hr⟩|⟨ad,cap,hx,hle,_,hr⟩
 ·subst hr;simp at hlt;omega
 ·have hlt':n.toNat<rows.length:=by omega
  refine⟨_,.pointer (some (ad.add (n.toNat*sz))),hk,?_,λw' _=>?_⟩
  ·simp only[Rep]
   refine⟨_,rfl,?_⟩
   have:=hr.ref n.toNat hlt'
   simpa[List.getD_eq_getElem?_getD,hlt']using this
  ·simp[execOp,ho,hx,hi,Instr.indexAt,asIntOf,run_underlying hu,h0,hlt,run_sizeOf' hn]
theorem q_indexP {t e:TypeId} {x i:Operand} {sz len:Nat} (ho:o.op= .indexAddr t x i) (hu:P.underlying t=some (.array len e)) (hn:sizeT P e=some sz)
  (hS:Sat G τ w) (hE:∀j,Rep τ w (env.get j) (a.tmps.getD j undef)) (h:indexPX len sz ((SOpd.of x).eval G env) ((SOpd.of i).eval G env) K):QOk P τ w o a K:=by
 obtain⟨k,n,hi,h0,hlt,h⟩:=intX_ok (eval_rep hS hE i) h
 obtain⟨r,ad,hp,hk,hr⟩:=fieldX_ok (eval_rep hS hE x) h
 refine⟨r,_,hk,hr,λw' _=>?_⟩
 simp[execOp,ho,hp,hi,Instr.indexAt,Instr.sureAddr,asIntOf,run_underlying hu,h0,hlt,run_sizeOf' hn]
theorem strX_ok {x:AV} {u:Value} {KS:List UInt8->Prop} (hx:Rep τ w x u) (h:strX x KS):∃s,u= .string ⟨⟨s⟩⟩/\KS s:=by
 unfold strX at h
 split at h
 ·simp only[Rep]at hx
  exact⟨_,hx,h⟩
 ·exact h.elim
theorem size_mk (s:List UInt8):(ByteArray.mk (Array.mk s)).size=s.length:=rfl
theorem getElem?_mk (s:List UInt8) (i:Nat):(ByteArray.mk (Array.mk s))[i]? =s[i]? :=by
 by_cases h:i<s.length
 ·rw[ByteArray.getElem?_lt' _ _ (by rw[size_mk];exact h),List.getElem?_eq_getElem h];rfl
 ·rw[ByteArray.getElem?_ge' _ _ (by rw[size_mk];exact h),List.getElem?_eq_none (by omega)]
theorem q_index {t:TypeId} {x i:Operand} (ho:o.op= .index t x i) (hu:P.underlying t=some .string)
  (hS:Sat G τ w) (hE:∀j,Rep τ w (env.get j) (a.tmps.getD j undef)) (h:charX ((SOpd.of x).eval G env) ((SOpd.of i).eval G env) K):QOk P τ w o a K:=by
 obtain⟨s,hx,h⟩:=strX_ok (eval_rep hS hE x) h
 obtain⟨k,n,hi,h0,hlt,hk⟩:=intX_ok (eval_rep hS hE i) h
 have hlt':n.toNat<s.length:=by omega
 refine⟨_,.int .u8 ((s.getD n.toNat 0).toNat),hk,by simp only[Rep],λw' _=>?_⟩
 simp[execOp,ho,hx,hi,Instr.index,asIntOf,run_underlying hu,h0,getElem?_mk,hlt',List.getD_eq_getElem?_getD]
theorem bound_ok {env:Env} {d:Int} {x:Option Operand} {KI:Int->Prop} (hS:Sat G τ w) (hE:∀j,Rep τ w (env.get j) (a.tmps.getD j undef)) (h:bound G env d (x.map SOpd.of) KI):
  ∃n,KI n/\((x=none/\n=d)\/∃y k,x=some y/\a.eval y= .int k n):=by
 cases x with
 |none=>exact⟨d,h,.inl ⟨rfl,rfl⟩⟩
 |some y=>
  simp only[Option.map_some,bound]at h
  have hy:=eval_rep (G:=G) hS hE y
  split at h
  ·rename_i k n he
   rw[he]at hy
   simp only[Rep]at hy
   exact⟨n,h,.inr ⟨y,k,rfl,hy⟩⟩
  ·exact h.elim
theorem run_bounds {b:Bool} {len cap:Nat} {lo hi:Option Operand} {l h:Int} (h0:0<=l) (h1:l<=h) (h2:h<=cap) (_hlc:len<=cap)
  (hl:(lo=none/\l=0)\/∃y k,lo=some y/\a.eval y= .int k l) (hh:(hi=none/\h=len)\/∃y k,hi=some y/\a.eval y= .int k h) (w':World):
  (Instr.sliceBounds b len cap (lo.map a.eval) (hi.map a.eval) none).run P w'= .ok (l.toNat,h.toNat,cap) w':=by
 have bd:∀(k:IntKind) (i:Int) (y:Nat) (code:BoundsCode),0<=i->i<=y->(Instr.sliceBound (.int k i) y code).run P w'= .ok i.toNat w':=λk i y code a1 a2=>by
  simp[Instr.sliceBound,asIntOf,a1,a2]
 rcases hh with⟨rfl,rfl⟩|⟨y,k,rfl,hy⟩<;>rcases hl with⟨rfl,rfl⟩|⟨z,k2,rfl,hz⟩
 ·simp[Instr.sliceBounds]
 ·simp only[Option.map_none,Option.map_some,Instr.sliceBounds,hz]
  simp[bd k2 l len _ h0 (by omega)]
 ·simp only[Option.map_none,Option.map_some,Instr.sliceBounds,hy]
  simp[bd k h cap _ (by omega) h2]
 ·simp only[Option.map_some,Instr.sliceBounds,hy,hz]
  simp[bd k h cap _ (by omega) h2,bd k2 l h.toNat _ h0 (by omega)]
theorem q_sliceS {t:TypeId} {x:Operand} {lo hi:Option Operand} (ho:o.op= .slice t x lo hi none) (hu:P.underlying t=some .string)
  (hS:Sat G τ w) (hE:∀j,Rep τ w (env.get j) (a.tmps.getD j undef))
  (h:strX ((SOpd.of x).eval G env) λs=>bound G env 0 (lo.map SOpd.of) λl=>bound G env s.length (hi.map SOpd.of) λh=>0<=l/\l<=h/\h<=s.length/\K (.str ((s.take h.toNat).drop l.toNat))):QOk P τ w o a K:=by
 obtain⟨s,hx,h⟩:=strX_ok (eval_rep hS hE x) h
 obtain⟨l,h,hl⟩:=bound_ok hS hE h
 obtain⟨m,⟨h0,h1,h2,hk⟩,hh⟩:=bound_ok hS hE h
 have hb:=λw'=>run_bounds (P:=P) (b:=false) (len:=s.length) (cap:=s.length) h0 h1 h2 (Nat.le_refl _) hl hh w'
 refine⟨_,.string ⟨⟨(s.take m.toNat).drop l.toNat⟩⟩,hk,by simp only[Rep],λw' _=>?_⟩
 have e:(ByteArray.mk (Array.mk s)).extract l.toNat m.toNat=⟨⟨(s.take m.toNat).drop l.toNat⟩⟩:=by
  have:((ByteArray.mk (Array.mk s)).extract l.toNat m.toNat).data=⟨(s.take m.toNat).drop l.toNat⟩:=by
   rw[ByteArray.data_extract]
   apply Array.ext'
   simp[List.drop_take]
  generalize (ByteArray.mk (Array.mk s)).extract l.toNat m.toNat=b at*
  cases b;simp at this;simp[this]
 simp[execOp,ho,hx,Instr.sliceAt,run_underlying hu,Instr.slice,size_mk,hb,e]
theorem q_slice {t e:TypeId} {x:Operand} {lo hi:Option Operand} {sz:Nat} (ho:o.op= .slice t x lo hi none) (hu:P.underlying t=some (.slice e)) (hn:sizeT P e=some sz)
  (hS:Sat G τ w) (hE:∀j,Rep τ w (env.get j) (a.tmps.getD j undef)) (h:sliceAV G env sz ((SOpd.of x).eval G env) (lo.map SOpd.of) (hi.map SOpd.of) K):QOk P τ w o a K:=by
 have hx:=eval_rep (G:=G) hS hE x
 have run:∀(ad:Option Addr) (n cap:Nat) (l m:Int),a.eval x= .slice ad n cap->n<=cap->0<=l->l<=m->m<=cap->
   ((lo=none/\l=0)\/∃y k,lo=some y/\a.eval y= .int k l)->((hi=none/\m=n)\/∃y k,hi=some y/\a.eval y= .int k m)->
   ∀w',(execOp a.eval o).run P w'= .ok (.value (.slice (if cap=l.toNat then ad else ad.map (·.add (l.toNat*sz))) (m.toNat-l.toNat) (cap-l.toNat))) w':=by
  intro ad n cap l m hv hnc h0 h1 h2 hl hh w'
  have hb:=run_bounds (P:=P) (a:=a) (b:=true) (len:=n) (cap:=cap) h0 h1 h2 hnc hl hh w'
  simp[execOp,ho,hv,Instr.sliceAt,run_underlying hu,Instr.slice,hb,run_sizeOf' hn]
 have main:rowsOf ((SOpd.of x).eval G env) (λsz' rows=>bound G env 0 (lo.map SOpd.of) λl=>bound G env rows.length (hi.map SOpd.of) λh=>
   sz=sz'/\0<=l/\l<=h/\h<=rows.length/\K (.lst sz ((rows.take h.toNat).drop l.toNat)))->QOk P τ w o a K:=by
  intro h
  obtain⟨sz',rows,h,hx⟩:=rowsOf_ok hx h
  obtain⟨l,h,hl⟩:=bound_ok hS hE h
  obtain⟨m,⟨rfl,h0,h1,h2,hk⟩,hh⟩:=bound_ok hS hE h
  rcases hx with⟨hx,hr⟩|⟨ad,cap,hx,hle,hcm,hr⟩
  ·subst hr
   simp at h2
   obtain rfl:l=0:=by omega
   obtain rfl:m=0:=by omega
   refine⟨_,.slice none 0 0,hk,by simp[Rep],λw' _=>?_⟩
   rw[run none 0 0 0 0 hx (by omega) (by omega) (by omega) (by omega) hl hh w']
   simp
  ·refine⟨_,_,hk,?_,λw' _=>run (some ad) rows.length cap l m hx hle h0 h1 (by omega) hl hh w'⟩
   simp only[Rep]
   right
   have hlen:((rows.take m.toNat).drop l.toNat).length=m.toNat-l.toNat:=by simp;omega
   refine⟨if cap=l.toNat then ad else ad.add (l.toNat*sz),cap-l.toNat,?_,by omega,by omega,?_⟩
   ·rw[hlen];split<;>simp
   ·split
    ·rename_i hc
     have:(rows.take m.toNat).drop l.toNat=[]:=List.eq_nil_of_length_eq_zero (by omega)
     rw[this];simp only[RepRows]
    ·exact RepRows.drop l.toNat (RepRows.take m.toNat hr)
 unfold sliceAV at h
 split at h
 ·rename_i hnil
  rw[hnil]at hx
  simp only[Rep]at hx
  obtain⟨l,h,hl⟩:=bound_ok hS hE h
  obtain⟨m,⟨rfl,rfl,hk⟩,hh⟩:=bound_ok hS hE h
  refine⟨_,.slice none 0 0,hk,by simp[Rep],λw' _=>?_⟩
  rw[run none 0 0 0 0 hx (by omega) (by omega) (by omega) (by omega) hl hh w']
  simp
 ·rename_i b off len cap hraw
  rw[hraw]at hx
  simp only[Rep]at hx
  obtain⟨l,h,hl⟩:=bound_ok hS hE h
  obtain⟨m,⟨h0,h1,h2,h3,h4,hk⟩,hh⟩:=bound_ok hS hE h
  refine⟨_,.slice (some ⟨b,off+l.toNat*sz,none⟩) (m.toNat-l.toNat) (cap-l.toNat),hk,by simp only[Rep],λw' _=>?_⟩
  rw[run (some ⟨b,off,none⟩) len cap l m hx h3 h0 h1 (by omega) hl hh w']
  rw[if_neg (show ¬cap=l.toNat by omega)]
  simp[add_lit]
 ·exact main h
theorem q_extract {x:Operand} {i:Nat} (ho:o.op= .extract x i) (hS:Sat G τ w) (hE:∀j,Rep τ w (env.get j) (a.tmps.getD j undef)) (h:tupX i ((SOpd.of x).eval G env) K):QOk P τ w o a K:=by
 have hx:=eval_rep (G:=G) hS hE x
 unfold tupX at h
 split at h
 ·rename_i cs he
  rw[he]at hx
  simp only[Rep]at hx
  obtain⟨vs,hv,hr⟩:=hx
  have hl:=hr.length
  have hi:i<vs.size:=by simp at hl;omega
  have hg:=hr.get i h.1 (by simpa using hi)
  refine⟨_,vs[i],h.2,?_,λw' _=>?_⟩
  ·simpa[List.getD_eq_getElem?_getD,h.1]using hg
  ·simp[execOp,ho,hv,Instr.extract,hi]
 ·exact h.elim
theorem q_not {t:TypeId} {x:Operand} (ho:o.op= .unOp .not t x) (hS:Sat G τ w) (hE:∀j,Rep τ w (env.get j) (a.tmps.getD j undef)) (h:boolX ((SOpd.of x).eval G env) λb=>K (.bool (!b))):QOk P τ w o a K:=by
 have hx:=eval_rep (G:=G) hS hE x
 unfold boolX at h
 split at h
 ·rename_i b he
  rw[he]at hx
  simp only[Rep]at hx
  exact⟨_,.bool (!b),h,by simp only[Rep],λw' _=>by simp[execOp,ho,hx,Op.unary]⟩
 ·exact h.elim
theorem q_conv {s d:TypeId} {x:Operand} {k j:IntKind} (ho:o.op= .convert s d x) (hs:P.underlying s=some (.int j)) (hd:P.underlying d=some (.int k))
  (hS:Sat G τ w) (hE:∀j,Rep τ w (env.get j) (a.tmps.getD j undef)) (h:convX k ((SOpd.of x).eval G env) K):QOk P τ w o a K:=by
 have hx:=eval_rep (G:=G) hS hE x
 unfold convX at h
 split at h
 ·rename_i k' n he
  rw[he]at hx
  simp only[Rep]at hx
  exact⟨_,.int k (k.wrap n),h,by simp only[Rep],λw' _=>by simp[execOp,ho,hx,convert,run_underlying hs,run_underlying hd,Conv.intToInt]⟩
 ·exact h.elim
theorem q_str {s d:TypeId} {x:Operand} (ho:o.op= .convert s d x) (hs:P.underlying s=some .string) (hd:P.underlying d=some .string)
  (hS:Sat G τ w) (hE:∀j,Rep τ w (env.get j) (a.tmps.getD j undef)) (h:strX ((SOpd.of x).eval G env) λs=>K (.str s)):QOk P τ w o a K:=by
 obtain⟨l,hx,hk⟩:=strX_ok (eval_rep hS hE x) h
 exact⟨_,.string ⟨⟨l⟩⟩,hk,by simp only[Rep],λw' _=>by simp[execOp,ho,hx,convert,run_underlying hs,run_underlying hd]⟩
theorem q_lenS {t:TypeId} {x:Operand} (ho:o.op= .call {callee:=.builtin .len,args:=#[x],argTypes:=#[t]}) (hu:P.underlying t=some .string)
  (hS:Sat G τ w) (hE:∀j,Rep τ w (env.get j) (a.tmps.getD j undef)) (h:strX ((SOpd.of x).eval G env) λs=>K (.int .i64 s.length)):QOk P τ w o a K:=by
 obtain⟨s,hx,hk⟩:=strX_ok (eval_rep hS hE x) h
 exact⟨_,.int .i64 s.length,hk,by simp only[Rep],λw' _=>by simp[execOp,ho,resolve,invoke,builtin,hx,Builtin.len_,run_underlying hu,goInt,size_mk]⟩
theorem q_len {t e:TypeId} {x:Operand} (ho:o.op= .call {callee:=.builtin .len,args:=#[x],argTypes:=#[t]}) (hu:P.underlying t=some (.slice e))
  (hS:Sat G τ w) (hE:∀j,Rep τ w (env.get j) (a.tmps.getD j undef)) (h:lenX ((SOpd.of x).eval G env) K):QOk P τ w o a K:=by
 have hx:=eval_rep (G:=G) hS hE x
 have runs:∀ad n c,a.eval x= .slice ad n c->∀w',(execOp a.eval o).run P w'= .ok (.value (.int .i64 n)) w':=by
  intro ad n c hv w'
  simp[execOp,ho,resolve,invoke,builtin,hv,Builtin.len_,run_underlying hu,goInt]
 unfold lenX at h
 split at h
 ·rename_i sz rows he
  rw[he]at hx
  simp only[Rep]at hx
  rcases hx with⟨hx,hr⟩|⟨ad,cap,hx,_⟩
  ·exact⟨_,.int .i64 rows.length,h,by simp only[Rep],λw' _=>by rw[runs _ _ _ hx,hr];rfl⟩
  ·exact⟨_,.int .i64 rows.length,h,by simp only[Rep],λw' _=>runs _ _ _ hx w'⟩
 ·rename_i g e sz rows he
  rw[he]at hx
  cases g with
  |none=>
   simp only[Rep]at hx
   exact⟨_,.int .i64 rows.length,h,by simp only[Rep],λw' _=>by rw[runs _ _ _ hx.1,hx.2];rfl⟩
  |some b=>
   simp only[Rep]at hx
   obtain⟨cap,hx,_⟩:=hx
   exact⟨_,.int .i64 rows.length,h,by simp only[Rep],λw' _=>runs _ _ _ hx w'⟩
 ·rename_i he
  rw[he]at hx
  simp only[Rep]at hx
  exact⟨_,.int .i64 0,h,by simp only[Rep],λw' _=>runs _ _ _ hx w'⟩
 ·rename_i r n c he
  rw[he]at hx
  simp only[Rep]at hx
  exact⟨_,.int .i64 n,h,by simp only[Rep],λw' _=>runs _ _ _ hx w'⟩
 ·exact h.elim
theorem q_mkI {t:TypeId} {x:Operand} {d:TypeDesc} (ho:o.op= .makeInterface t x) (hu:P.underlying t=some d) (hd:∀m,d≠ .interface m) (hS:Sat G τ w) (hE:∀j,Rep τ w (env.get j) (a.tmps.getD j undef))
  (h:scX ((SOpd.of x).eval G env) λv=>K (.sc (.iface t v))):QOk P τ w o a K:=by
 have hx:=eval_rep (G:=G) hS hE x
 unfold scX at h
 split at h
 ·rename_i v he
  rw[he]at hx
  simp only[Rep]at hx
  refine⟨_,.iface t v,h,by simp only[Rep],λw' _=>?_⟩
  cases d<;>first
   |exact absurd rfl (hd _)
   |simp[execOp,ho,hx,Instr.makeInterface,run_underlying hu]
 ·exact h.elim
end
end Go.Av
