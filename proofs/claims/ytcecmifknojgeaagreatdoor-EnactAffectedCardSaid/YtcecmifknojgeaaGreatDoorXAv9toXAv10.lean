/-
  ABSTRACT VALUES, 9: the rest of the operations that leave memory as it is, one by one.
-/
import Derived.Test.YtcecmifknojgeaaGreatDoorXAv5toXAv8
import Derived.WalkLawsBesides
namespace Go.Av
open Go Go.RowKit List
set_option linter.unusedSimpArgs false
set_option linter.unusedVariables false
section
variable {G:Glob} {P:Program} {τ:Store} {w:World} {env:Env} {a:Act} {o:Oper} {K:AV->Prop}
theorem cW {t:TypeId} {z:List AV} (h:cX P t=some z):∃i v,P.info? t=some i/\i.zero=some v/\RepL τ w z v.cells.toList/\∀u∈v.cells.toList,u.oneCell'=true:=by
 unfold cX at h
 cases hi:P.info? t with
 |none=>simp[hi]at h
 |some i=>
  cases hz:i.zero with
  |none=>simp[hi,hz]at h
  |some v=>
   simp only[hi,hz,Option.bind_some]at h
   split at h
   ·rename_i h1
    cases h
    exact⟨i,v,rfl,hz,RepL.ofOnes τ w _,λu hu=>all_eq_true.1 h1 u hu⟩
   ·cases h
theorem kE {α β:Type} {f:α->Option β}:∀{l:List α} {r:List β},l.mapM f=some r->l.length=r.length/\∀(j:Nat) x y,l[j]? =some x->r[j]? =some y->f x=some y
 |[],r,h=>by simp at h;subst h;simp
 |x::l,r,h=>by
  rw[mapM_cons]at h
  cases hx:f x with
  |none=>simp[hx]at h
  |some y=>
   cases hr:l.mapM f with
   |none=>simp[hx,hr]at h
   |some r'=>
    simp[hx,hr]at h
    subst h
    obtain⟨h1,h2⟩:=kE hr
    refine⟨by simp[h1],λj u v hu hv=>?_⟩
    cases j with
    |zero=>simp at hu hv;subst hu hv;exact hx
    |succ j=>exact h2 j u v (by simpa using hu) (by simpa using hv)
theorem lT {α β:Type} {f:α->Option β}:∀{l:List α},(∀x∈l,(f x).isSome=true)->∃r,l.mapM f=some r
 |[],_=>⟨[],rfl⟩
 |x::l,h=>by
  obtain⟨r,hr⟩:=lT (l:=l) (λy hy=>h y (mem_cons_of_mem _ hy))
  obtain⟨y,hy⟩:=Option.isSome_iff_exists.1 (h x (by simp))
  exact⟨y::r,by simp[mapM_cons,hy,hr]⟩
theorem q_build {t:TypeId} {parts:Array (Nat×Operand)} {fs:Array Field} {z:List AV} {sparts:List (Nat×Nat×SOpd)} (ho:o.op= .build t parts) (hu:P.underlying t=some (.struct fs)) (hz:cX P t=some z)
  (hfs:(fs.toList.all λf=>(P.info? f.type).isSome)=true)
  (hm:(parts.toList.mapM λ(p:Nat×Operand)=>match fs[p.1]? with
    |some f=>(bc P f.type).map λn=>(f.offset,n,SOpd.of p.2)
    |none=>none)=some sparts)
  (hS:Sat G τ w) (hE:∀j,Rep τ w (env.get j) (a.tmps.getD j undef)) (h:gE G env z sparts λcs=>K (.agg cs)):QOk P τ w o a K:=by
 obtain⟨i,v,hi,hv,hr,h1⟩:=cW (τ:=τ) (w:=w) hz
 obtain⟨hl,hg⟩:=kE hm
 obtain⟨places,hpl⟩:=lT (l:=fs.toList) (f:=λf=>(P.info? f.type).map λi=>(f.offset,i.size)) (λf hf=>by simpa using all_eq_true.1 hfs f hf)
 obtain⟨hl2,hg2⟩:=kE hpl
 obtain⟨C',cs',k1,k2,k3,k4⟩:=lH (G:=G) (λj=>places.toArray[j]?) parts.toList sparts z v.cells (λcs=>K (.agg cs)) (by
  intro j p q hp hq
  have:=hg j p q hp hq
  split at this
  ·rename_i f hf
   cases hn:bc P f.type with
   |none=>simp[hn]at this
   |some n=>
    simp only[hn,Option.map_some,Option.some.injEq]at this
    subst this
    have hlt:p.1<places.length:=by
     have:=(Array.getElem?_eq_some_iff.1 hf).1
     simp at hl2;omega
    have e:=hg2 p.1 f places[p.1] (by simpa using hf) (getElem?_eq_getElem hlt)
    simp only[bc]at hn
    cases hi2:P.info? f.type with
    |none=>simp[hi2]at hn
    |some i2=>
     simp[hi2]at hn e
     simp[hlt,←e,hn]
  ·cases this) hl hS hE hr h1 h
 have hb:P.built t ((parts.map λ(x:Nat×Operand)=>(x.1,a.eval x.2)).toList)=some C':=by
  unfold Program.built
  simp only[hi,hu,hv,hpl,Array.toList_map]
  exact k1
 exact⟨.agg cs',.agg C',k2,by simp only[Rep];exact⟨C',rfl,k4,k3⟩,λw' _=>by
  simp only[execOp,ho,Sem.run_bind,run_build w' t _ C' hb,Result.andThen_ok,Sem.run_pure]⟩
theorem nM {s:TypeId} {fs:Array Field} {f:Field} {i n:Nat} (hu:P.underlying s=some (.struct fs)) (hf:fs[i]? =some f) (hn:bc P f.type=some (n+1)) (ad:Addr) (w':World):
  (Instr.fieldAt s (.pointer (some ad)) i).run P w'= .ok (.pointer (some (ad.add f.offset))) w':=by
 simp[Instr.fieldAt,run_underlying hu,hf,Instr.sureAddr,fieldPlace,bj hn]
theorem lW {off:Nat} {x:AV} {u:Value} (hx:Rep τ w x u) (h:db off x K):∃r ad,u= .pointer (some ad)/\K r/\Rep τ w r (.pointer (some (ad.add off))):=by
 unfold db at h
 split at h
 ·simp only[Rep]at hx
  obtain⟨ad,hp,hr⟩:=hx
  exact⟨_,ad,hp,h,by simp only[Rep];exact⟨_,rfl,hr.drop off⟩⟩
 ·rename_i b p
  simp only[Rep]at hx
  exact⟨_,_,hx,h,by simp only[Rep];rw[add_lit]⟩
 ·exact h.elim
theorem q_fieldA {t:TypeId} {x:Operand} {fs:Array Field} {f:Field} {i n:Nat} (ho:o.op= .fieldAddr t x i) (hu:P.underlying t=some (.struct fs)) (hf:fs[i]? =some f) (hn:bc P f.type=some (n+1))
  (hS:Sat G τ w) (hE:∀j,Rep τ w (env.get j) (a.tmps.getD j undef)) (h:db f.offset ((SOpd.of x).eval G env) K):QOk P τ w o a K:=by
 obtain⟨r,ad,hp,hk,hr⟩:=lW (ar hS hE x) h
 exact⟨r,_,hk,hr,λw' _=>by simp[execOp,ho,hp,nM hu hf hn]⟩
theorem kg {x:AV} {u:Value} {KI:Int->Prop} (hx:Rep τ w x u) (h:intX x KI):∃k n,u= .int k n/\KI n:=by
 unfold intX at h
 split at h
 ·simp only[Rep]at hx
  exact⟨_,_,hx,h⟩
 ·exact h.elim
theorem mA {x:AV} {u:Value} {KR:Nat->List (List AV)->Prop} (hx:Rep τ w x u) (h:jy x KR):
  ∃sz rows,KR sz rows/\((u= .slice none 0 0/\rows=[])\/∃ad cap,u= .slice (some ad) rows.length cap/\rows.length<=cap/\cap<=maxLen/\av τ w ad sz 0 rows):=by
 unfold jy at h
 split at h
 ·simp only[Rep]at hx
  exact⟨_,_,h,hx⟩
 ·rename_i g e sz rows
  cases g with
  |none=>simp only[Rep]at hx;exact⟨_,_,h,.inl hx⟩
  |some b=>
   simp only[Rep]at hx
   obtain⟨cap,h1,h2,h3,_,h5⟩:=hx
   exact⟨_,_,h,.inr ⟨_,cap,h1,h2,h3,h5⟩⟩
 ·exact h.elim
theorem q_indexA {t e:TypeId} {x i:Operand} {sz:Nat} (ho:o.op= .indexAddr t x i) (hu:P.underlying t=some (.slice e)) (hn:bc P e=some sz)
  (hS:Sat G τ w) (hE:∀j,Rep τ w (env.get j) (a.tmps.getD j undef)) (h:mL sz ((SOpd.of x).eval G env) ((SOpd.of i).eval G env) K):QOk P τ w o a K:=by
 unfold mL at h
 split at h
 ·rename_i b off len cap he
  have hx:=ar (G:=G) hS hE x
  rw[he]at hx
  simp only[Rep]at hx
  obtain⟨k,n,hi,h0,hlt,hk⟩:=kg (ar hS hE i) h
  refine⟨_,.pointer (some ⟨b,off+n.toNat*sz,none⟩),hk,by simp only[Rep],λw' _=>?_⟩
  simp[execOp,ho,hx,hi,Instr.indexAt,asIntOf,run_underlying hu,h0,hlt,bj hn,add_lit]
 obtain⟨sz',rows,⟨rfl,h⟩,hx⟩:=mA (ar hS hE x) h
 obtain⟨k,n,hi,h0,hlt,hk⟩:=kg (ar hS hE i) h
 rcases hx with⟨hx,hr⟩|⟨ad,cap,hx,hle,_,hr⟩
 ·subst hr;simp at hlt;omega
 ·have hlt':n.toNat<rows.length:=by omega
  refine⟨_,.pointer (some (ad.add (n.toNat*sz))),hk,?_,λw' _=>?_⟩
  ·simp only[Rep]
   refine⟨_,rfl,?_⟩
   have:=hr.ref n.toNat hlt'
   simpa[getD_eq_getElem?_getD,hlt']using this
  ·simp[execOp,ho,hx,hi,Instr.indexAt,asIntOf,run_underlying hu,h0,hlt,bj hn]
theorem q_indexP {t e:TypeId} {x i:Operand} {sz len:Nat} (ho:o.op= .indexAddr t x i) (hu:P.underlying t=some (.array len e)) (hn:bc P e=some sz)
  (hS:Sat G τ w) (hE:∀j,Rep τ w (env.get j) (a.tmps.getD j undef)) (h:indexPX len sz ((SOpd.of x).eval G env) ((SOpd.of i).eval G env) K):QOk P τ w o a K:=by
 obtain⟨k,n,hi,h0,hlt,h⟩:=kg (ar hS hE i) h
 obtain⟨r,ad,hp,hk,hr⟩:=lW (ar hS hE x) h
 refine⟨r,_,hk,hr,λw' _=>?_⟩
 simp[execOp,ho,hp,hi,Instr.indexAt,Instr.sureAddr,asIntOf,run_underlying hu,h0,hlt,bj hn]
theorem j4 {x:AV} {u:Value} {KS:List UInt8->Prop} (hx:Rep τ w x u) (h:strX x KS):∃s,u= .string ⟨⟨s⟩⟩/\KS s:=by
 unfold strX at h
 split at h
 ·simp only[Rep]at hx
  exact⟨_,hx,h⟩
 ·exact h.elim
theorem i7 (s:List UInt8):(ByteArray.mk (Array.mk s)).size=s.length:=rfl
theorem nC (s:List UInt8) (i:Nat):(ByteArray.mk (Array.mk s))[i]? =s[i]? :=by
 by_cases h:i<s.length
 ·rw[ByteArray.getElem?_lt' _ _ (by rw[i7];exact h),getElem?_eq_getElem h];rfl
 ·rw[ByteArray.getElem?_ge' _ _ (by rw[i7];exact h),getElem?_eq_none (by omega)]
theorem q_index {t:TypeId} {x i:Operand} (ho:o.op= .index t x i) (hu:P.underlying t=some .string)
  (hS:Sat G τ w) (hE:∀j,Rep τ w (env.get j) (a.tmps.getD j undef)) (h:charX ((SOpd.of x).eval G env) ((SOpd.of i).eval G env) K):QOk P τ w o a K:=by
 obtain⟨s,hx,h⟩:=j4 (ar hS hE x) h
 obtain⟨k,n,hi,h0,hlt,hk⟩:=kg (ar hS hE i) h
 have hlt':n.toNat<s.length:=by omega
 refine⟨_,.int .u8 ((s.getD n.toNat 0).toNat),hk,by simp only[Rep],λw' _=>?_⟩
 simp[execOp,ho,hx,hi,Instr.index,asIntOf,run_underlying hu,h0,nC,hlt',getD_eq_getElem?_getD]
theorem eA {env:Env} {d:Int} {x:Option Operand} {KI:Int->Prop} (hS:Sat G τ w) (hE:∀j,Rep τ w (env.get j) (a.tmps.getD j undef)) (h:fi G env d (x.map SOpd.of) KI):
  ∃n,KI n/\((x=none/\n=d)\/∃y k,x=some y/\a.eval y= .int k n):=by
 cases x with
 |none=>exact⟨d,h,.inl ⟨rfl,rfl⟩⟩
 |some y=>
  simp only[Option.map_some,fi]at h
  have hy:=ar (G:=G) hS hE y
  split at h
  ·rename_i k n he
   rw[he]at hy
   simp only[Rep]at hy
   exact⟨n,h,.inr ⟨y,k,rfl,hy⟩⟩
  ·exact h.elim
theorem kU {b:Bool} {len cap:Nat} {lo hi:Option Operand} {l h:Int} (h0:0<=l) (h1:l<=h) (h2:h<=cap) (_hlc:len<=cap)
  (hl:(lo=none/\l=0)\/∃y k,lo=some y/\a.eval y= .int k l) (hh:(hi=none/\h=len)\/∃y k,hi=some y/\a.eval y= .int k h) (w':World):
  (Instr.sliceBounds b len cap (lo.map a.eval) (hi.map a.eval) none).run P w'= .ok (l.toNat,h.toNat,cap) w':=by
 have bd:∀(k:IntKind) (i:Int) (y:Nat) (code:BoundsCode),0<=i->i<=y->(Instr.sliceBound (.int k i) y code).run P w'= .ok i.toNat w':=λk i y code a1 a2=>by
  simp[Instr.sliceBound,asIntOf,a1,a2]
 rcases hh with⟨rfl,rfl⟩|⟨y,k,rfl,hy⟩<;>rcases hl with⟨rfl,rfl⟩|⟨z,k2,rfl,hz⟩
 ·simp[Instr.sliceBounds]
 ·simp only[Option.map_none,Option.map_some,Instr.sliceBounds,hz]
  simp[bd k2 l len _ h0 (by omega)]
 ·simp only[Option.map_none,Option.map_some,Instr.sliceBounds,hy]
  simp[bd k h cap _ (by omega) h2]
 ·simp only[Option.map_some,Instr.sliceBounds,hy,hz]
  simp[bd k h cap _ (by omega) h2,bd k2 l h.toNat _ h0 (by omega)]
theorem q_sliceS {t:TypeId} {x:Operand} {lo hi:Option Operand} (ho:o.op= .slice t x lo hi none) (hu:P.underlying t=some .string)
  (hS:Sat G τ w) (hE:∀j,Rep τ w (env.get j) (a.tmps.getD j undef))
  (h:strX ((SOpd.of x).eval G env) λs=>fi G env 0 (lo.map SOpd.of) λl=>fi G env s.length (hi.map SOpd.of) λh=>0<=l/\l<=h/\h<=s.length/\K (.str ((s.take h.toNat).drop l.toNat))):QOk P τ w o a K:=by
 obtain⟨s,hx,h⟩:=j4 (ar hS hE x) h
 obtain⟨l,h,hl⟩:=eA hS hE h
 obtain⟨m,⟨h0,h1,h2,hk⟩,hh⟩:=eA hS hE h
 have hb:=λw'=>kU (P:=P) (b:=false) (len:=s.length) (cap:=s.length) h0 h1 h2 (Nat.le_refl _) hl hh w'
 refine⟨_,.string ⟨⟨(s.take m.toNat).drop l.toNat⟩⟩,hk,by simp only[Rep],λw' _=>?_⟩
 have e:(ByteArray.mk (Array.mk s)).extract l.toNat m.toNat=⟨⟨(s.take m.toNat).drop l.toNat⟩⟩:=by
  have:((ByteArray.mk (Array.mk s)).extract l.toNat m.toNat).data=⟨(s.take m.toNat).drop l.toNat⟩:=by
   rw[ByteArray.data_extract]
   apply Array.ext'
   simp[drop_take]
  generalize (ByteArray.mk (Array.mk s)).extract l.toNat m.toNat=b at*
  cases b;simp at this;simp[this]
 simp[execOp,ho,hx,Instr.sliceAt,run_underlying hu,Instr.slice,i7,hb,e]
theorem q_slice {t e:TypeId} {x:Operand} {lo hi:Option Operand} {sz:Nat} (ho:o.op= .slice t x lo hi none) (hu:P.underlying t=some (.slice e)) (hn:bc P e=some sz)
  (hS:Sat G τ w) (hE:∀j,Rep τ w (env.get j) (a.tmps.getD j undef)) (h:ka G env sz ((SOpd.of x).eval G env) (lo.map SOpd.of) (hi.map SOpd.of) K):QOk P τ w o a K:=by
 have hx:=ar (G:=G) hS hE x
 have run:∀(ad:Option Addr) (n cap:Nat) (l m:Int),a.eval x= .slice ad n cap->n<=cap->0<=l->l<=m->m<=cap->
   ((lo=none/\l=0)\/∃y k,lo=some y/\a.eval y= .int k l)->((hi=none/\m=n)\/∃y k,hi=some y/\a.eval y= .int k m)->
   ∀w',(execOp a.eval o).run P w'= .ok (.value (.slice (if cap=l.toNat then ad else ad.map (·.add (l.toNat*sz))) (m.toNat-l.toNat) (cap-l.toNat))) w':=by
  intro ad n cap l m hv hnc h0 h1 h2 hl hh w'
  have hb:=kU (P:=P) (a:=a) (b:=true) (len:=n) (cap:=cap) h0 h1 h2 hnc hl hh w'
  simp[execOp,ho,hv,Instr.sliceAt,run_underlying hu,Instr.slice,hb,bj hn]
 have main:jy ((SOpd.of x).eval G env) (λsz' rows=>fi G env 0 (lo.map SOpd.of) λl=>fi G env rows.length (hi.map SOpd.of) λh=>
   sz=sz'/\0<=l/\l<=h/\h<=rows.length/\K (.lst sz ((rows.take h.toNat).drop l.toNat)))->QOk P τ w o a K:=by
  intro h
  obtain⟨sz',rows,h,hx⟩:=mA hx h
  obtain⟨l,h,hl⟩:=eA hS hE h
  obtain⟨m,⟨rfl,h0,h1,h2,hk⟩,hh⟩:=eA hS hE h
  rcases hx with⟨hx,hr⟩|⟨ad,cap,hx,hle,hcm,hr⟩
  ·subst hr
   simp at h2
   obtain rfl:l=0:=by omega
   obtain rfl:m=0:=by omega
   refine⟨_,.slice none 0 0,hk,by simp[Rep],λw' _=>?_⟩
   rw[run none 0 0 0 0 hx (by omega) (by omega) (by omega) (by omega) hl hh w']
   simp
  ·refine⟨_,_,hk,?_,λw' _=>run (some ad) rows.length cap l m hx hle h0 h1 (by omega) hl hh w'⟩
   simp only[Rep]
   right
   have hlen:((rows.take m.toNat).drop l.toNat).length=m.toNat-l.toNat:=by simp;omega
   refine⟨if cap=l.toNat then ad else ad.add (l.toNat*sz),cap-l.toNat,?_,by omega,by omega,?_⟩
   ·rw[hlen];split<;>simp
   ·split
    ·rename_i hc
     have:(rows.take m.toNat).drop l.toNat=[]:=eq_nil_of_length_eq_zero (by omega)
     rw[this];simp only[av]
    ·exact av.drop l.toNat (av.take m.toNat hr)
 unfold ka at h
 split at h
 ·rename_i hnil
  rw[hnil]at hx
  simp only[Rep]at hx
  obtain⟨l,h,hl⟩:=eA hS hE h
  obtain⟨m,⟨rfl,rfl,hk⟩,hh⟩:=eA hS hE h
  refine⟨_,.slice none 0 0,hk,by simp[Rep],λw' _=>?_⟩
  rw[run none 0 0 0 0 hx (by omega) (by omega) (by omega) (by omega) hl hh w']
  simp
 ·rename_i b off len cap hraw
  rw[hraw]at hx
  simp only[Rep]at hx
  obtain⟨l,h,hl⟩:=eA hS hE h
  obtain⟨m,⟨h0,h1,h2,h3,h4,hk⟩,hh⟩:=eA hS hE h
  refine⟨_,.slice (some ⟨b,off+l.toNat*sz,none⟩) (m.toNat-l.toNat) (cap-l.toNat),hk,by simp only[Rep],λw' _=>?_⟩
  rw[run (some ⟨b,off,none⟩) len cap l m hx h3 h0 h1 (by omega) hl hh w']
  rw[if_neg (show ¬cap=l.toNat by omega)]
  simp[add_lit]
 ·exact main h
theorem q_extract {x:Operand} {i:Nat} (ho:o.op= .extract x i) (hS:Sat G τ w) (hE:∀j,Rep τ w (env.get j) (a.tmps.getD j undef)) (h:tupX i ((SOpd.of x).eval G env) K):QOk P τ w o a K:=by
 have hx:=ar (G:=G) hS hE x
 unfold tupX at h
 split at h
 ·rename_i cs he
  rw[he]at hx
  simp only[Rep]at hx
  obtain⟨vs,hv,hr⟩:=hx
  have hl:=hr.length
  have hi:i<vs.size:=by simp at hl;omega
  have hg:=hr.get i h.1 (by simpa using hi)
  refine⟨_,vs[i],h.2,?_,λw' _=>?_⟩
  ·simpa[getD_eq_getElem?_getD,h.1]using hg
  ·simp[execOp,ho,hv,Instr.extract,hi]
 ·exact h.elim
theorem q_not {t:TypeId} {x:Operand} (ho:o.op= .unOp .not t x) (hS:Sat G τ w) (hE:∀j,Rep τ w (env.get j) (a.tmps.getD j undef)) (h:iq ((SOpd.of x).eval G env) λb=>K (.bool (!b))):QOk P τ w o a K:=by
 have hx:=ar (G:=G) hS hE x
 unfold iq at h
 split at h
 ·rename_i b he
  rw[he]at hx
  simp only[Rep]at hx
  exact⟨_,.bool (!b),h,by simp only[Rep],λw' _=>by simp[execOp,ho,hx,Op.unary]⟩
 ·exact h.elim
theorem q_conv {s d:TypeId} {x:Operand} {k j:IntKind} (ho:o.op= .convert s d x) (hs:P.underlying s=some (.int j)) (hd:P.underlying d=some (.int k))
  (hS:Sat G τ w) (hE:∀j,Rep τ w (env.get j) (a.tmps.getD j undef)) (h:convX k ((SOpd.of x).eval G env) K):QOk P τ w o a K:=by
 have hx:=ar (G:=G) hS hE x
 unfold convX at h
 split at h
 ·rename_i k' n he
  rw[he]at hx
  simp only[Rep]at hx
  exact⟨_,.int k (k.wrap n),h,by simp only[Rep],λw' _=>by simp[execOp,ho,hx,convert,run_underlying hs,run_underlying hd,Conv.intToInt]⟩
 ·exact h.elim
theorem q_str {s d:TypeId} {x:Operand} (ho:o.op= .convert s d x) (hs:P.underlying s=some .string) (hd:P.underlying d=some .string)
  (hS:Sat G τ w) (hE:∀j,Rep τ w (env.get j) (a.tmps.getD j undef)) (h:strX ((SOpd.of x).eval G env) λs=>K (.str s)):QOk P τ w o a K:=by
 obtain⟨l,hx,hk⟩:=j4 (ar hS hE x) h
 exact⟨_,.string ⟨⟨l⟩⟩,hk,by simp only[Rep],λw' _=>by simp[execOp,ho,hx,convert,run_underlying hs,run_underlying hd]⟩
theorem q_lenS {t:TypeId} {x:Operand} (ho:o.op= .call {callee:=.builtin .len,args:=#[x],argTypes:=#[t]}) (hu:P.underlying t=some .string)
  (hS:Sat G τ w) (hE:∀j,Rep τ w (env.get j) (a.tmps.getD j undef)) (h:strX ((SOpd.of x).eval G env) λs=>K (.int .i64 s.length)):QOk P τ w o a K:=by
 obtain⟨s,hx,hk⟩:=j4 (ar hS hE x) h
 exact⟨_,.int .i64 s.length,hk,by simp only[Rep],λw' _=>by simp[execOp,ho,resolve,invoke,builtin,hx,Builtin.len_,run_underlying hu,goInt,i7]⟩
theorem q_len {t e:TypeId} {x:Operand} (ho:o.op= .call {callee:=.builtin .len,args:=#[x],argTypes:=#[t]}) (hu:P.underlying t=some (.slice e))
  (hS:Sat G τ w) (hE:∀j,Rep τ w (env.get j) (a.tmps.getD j undef)) (h:lenX ((SOpd.of x).eval G env) K):QOk P τ w o a K:=by
 have hx:=ar (G:=G) hS hE x
 have runs:∀ad n c,a.eval x= .slice ad n c->∀w',(execOp a.eval o).run P w'= .ok (.value (.int .i64 n)) w':=by
  intro ad n c hv w'
  simp[execOp,ho,resolve,invoke,builtin,hv,Builtin.len_,run_underlying hu,goInt]
 unfold lenX at h
 split at h
 ·rename_i sz rows he
  rw[he]at hx
  simp only[Rep]at hx
  rcases hx with⟨hx,hr⟩|⟨ad,cap,hx,_⟩
  ·exact⟨_,.int .i64 rows.length,h,by simp only[Rep],λw' _=>by rw[runs _ _ _ hx,hr];rfl⟩
  ·exact⟨_,.int .i64 rows.length,h,by simp only[Rep],λw' _=>runs _ _ _ hx w'⟩
 ·rename_i g e sz rows he
  rw[he]at hx
  cases g with
  |none=>
   simp only[Rep]at hx
   exact⟨_,.int .i64 rows.length,h,by simp only[Rep],λw' _=>by rw[runs _ _ _ hx.1,hx.2];rfl⟩
  |some b=>
   simp only[Rep]at hx
   obtain⟨cap,hx,_⟩:=hx
   exact⟨_,.int .i64 rows.length,h,by simp only[Rep],λw' _=>runs _ _ _ hx w'⟩
 ·rename_i he
  rw[he]at hx
  simp only[Rep]at hx
  exact⟨_,.int .i64 0,h,by simp only[Rep],λw' _=>runs _ _ _ hx w'⟩
 ·rename_i r n c he
  rw[he]at hx
  simp only[Rep]at hx
  exact⟨_,.int .i64 n,h,by simp only[Rep],λw' _=>runs _ _ _ hx w'⟩
 ·exact h.elim
theorem q_mkI {t:TypeId} {x:Operand} {d:TypeDesc} (ho:o.op= .makeInterface t x) (hu:P.underlying t=some d) (hd:∀m,d≠ .interface m) (hS:Sat G τ w) (hE:∀j,Rep τ w (env.get j) (a.tmps.getD j undef))
  (h:scX ((SOpd.of x).eval G env) λv=>K (.sc (.iface t v))):QOk P τ w o a K:=by
 have hx:=ar (G:=G) hS hE x
 unfold scX at h
 split at h
 ·rename_i v he
  rw[he]at hx
  simp only[Rep]at hx
  refine⟨_,.iface t v,h,by simp only[Rep],λw' _=>?_⟩
  cases d<;>first
   |exact absurd rfl (hd _)
   |simp[execOp,ho,hx,Instr.makeInterface,run_underlying hu]
 ·exact h.elim
end
section
variable {G:Glob} {P:Program} {τ:Store} {w:World} {env:Env} {a:Act} {o:Oper} {K:AV->Prop}
theorem ju {k:IntKind} {n:Int} (hk:K (.int k n)) (h:∀w',(execOp a.eval o).run P w'= .ok (.value (.int k n)) w'):QOk P τ w o a K:=⟨_,_,hk,by simp only[Rep],λw' _=>h w'⟩
theorem bX {b:Bool} (hk:K (.bool b)) (h:∀w',(execOp a.eval o).run P w'= .ok (.value (.bool b)) w'):QOk P τ w o a K:=⟨_,_,hk,by simp only[Rep],λw' _=>h w'⟩
theorem qok_str {s:List UInt8} (hk:K (.str s)) (h:∀w',(execOp a.eval o).run P w'= .ok (.value (.string ⟨⟨s⟩⟩)) w'):QOk P τ w o a K:=⟨_,_,hk,by simp only[Rep],λw' _=>h w'⟩
theorem gq {t:TypeId} {d:TypeDesc} {n:Nat} (hu:P.underlying t=some d) (hn:bc P t=some n) (cs:Array Value) (off:Nat) (h1:(aggD d||n==1)=true) (hle:off+n<=cs.size) (w':World):
  (part t cs off).run P w'= .ok (if aggD d then .agg (cs.extract off (off+n))else (cs.toList.drop off).headD undef) w':=by
 unfold part
 rw[Sem.run_bind,cN hu]
 cases hd:aggD d with
 |true=>simp[bj hn]
 |false=>
  simp[hd]at h1
  have hlt:off<cs.size:=by omega
  simp[hlt]
theorem nk {x:AV} {u:Value} {KL:List AV->Prop} (hx:Rep τ w x u) (h:aggX x KL):∃cs vs,u= .agg vs/\KL cs/\(∀v∈vs.toList,v.oneCell'=true)/\RepL τ w cs vs.toList:=by
 unfold aggX at h
 split at h
 ·simp only[Rep]at hx
  obtain⟨vs,h1,h2,h3⟩:=hx
  exact⟨_,vs,h1,h,h2,h3⟩
 ·exact h.elim
theorem ov {x:AV} {u:Value} {KB:Bool->Prop} (hx:Rep τ w x u) (h:iq x KB):∃b,u= .bool b/\KB b:=by
 unfold iq at h
 split at h
 ·simp only[Rep]at hx
  exact⟨_,hx,h⟩
 ·exact h.elim
theorem q_field {t:TypeId} {x:Operand} {fs:Array Field} {f:Field} {i n:Nat} {d:TypeDesc} (ho:o.op= .field t x i) (hu:P.underlying t=some (.struct fs)) (hf:fs[i]? =some f) (hd:P.underlying f.type=some d) (hn:bc P f.type=some n)
  (h1:(aggD d||n==1)=true) (hS:Sat G τ w) (hE:∀j,Rep τ w (env.get j) (a.tmps.getD j undef)) (h:aggX ((SOpd.of x).eval G env) λcs=>fw (aggD d) n (cs.drop f.offset) K):QOk P τ w o a K:=by
 obtain⟨cs,vs,hx,⟨hle,hk⟩,ho1,hr⟩:=nk (ar hS hE x) h
 have hl:=hr.length
 by_cases hz:n=0
 ·subst hz
  have hag:aggD d=true:=by simpa using h1
  refine⟨_,.agg #[],hk,?_,λw' _=>?_⟩
  ·simp only[hag,if_true,take_zero,Rep];exact⟨#[],rfl,by simp,by simp[RepL]⟩
  ·have:(part f.type vs f.offset).run P w'= .ok (.agg #[]) w':=by
    unfold part
    rw[Sem.run_bind,cN hd]
    have e:vs.extract f.offset f.offset=#[]:=by apply Array.ext';simp
    simp[hag,bj hn,e]
   simp[execOp,ho,hx,Instr.field,run_underlying hu,hf,asAgg,this]
 ·have hle2:f.offset+n<=vs.size:=by simp at hle hl;omega
  refine⟨_,if aggD d then .agg (vs.extract f.offset (f.offset+n))else (vs.toList.drop f.offset).headD undef,hk,?_,λw' _=>?_⟩
  ·cases hag:aggD d with
   |true=>
    simp only[if_true,Rep]
    have e:(vs.extract f.offset (f.offset+n)).toList=(vs.toList.drop f.offset).take n:=by
     simp
    refine⟨_,rfl,λv hv=>ho1 v ?_,?_⟩
    ·rw[e]at hv;exact mem_of_mem_drop (mem_of_mem_take hv)
    ·rw[e];exact RepL.take n (RepL.drop _ hr)
   |false=>
    simp only[Bool.false_eq_true,if_false]
    have hd2:=RepL.drop f.offset hr
    generalize cs.drop f.offset=xs at hle hd2
    generalize vs.toList.drop f.offset=us at hd2
    cases xs with
    |nil=>simp at hle;omega
    |cons x xs=>
     simp only[RepL]at hd2
     obtain⟨u,us',rfl,h2,_⟩:=hd2
     exact h2
  ·simp[execOp,ho,hx,Instr.field,run_underlying hu,hf,asAgg,gq hd hn vs f.offset h1 hle2]
theorem pK (s:List UInt8):(ByteArray.mk (Array.mk s)).toList=s:=ByteArray.toList_mk s
theorem append_mk (s t:List UInt8):(ByteArray.mk (Array.mk s))++(ByteArray.mk (Array.mk t))=⟨⟨s++t⟩⟩:=by
 have:((ByteArray.mk (Array.mk s))++(ByteArray.mk (Array.mk t))).data=⟨s++t⟩:=by
  rw[ByteArray.data_append]
  simp
 generalize (ByteArray.mk (Array.mk s))++(ByteArray.mk (Array.mk t))=b at*
 cases b;simp at this;simp[this]
theorem q_bin {t u:TypeId} {op:BinOp} {x y:Operand} (ho:o.op= .binOp op t x y u) (hop:op= .add\/op= .sub\/op= .mul\/op= .quo\/op= .rem\/op= .eql\/op= .neq\/op= .lss\/op= .leq\/op= .gtr\/op= .geq)
  (hS:Sat G τ w) (hE:∀j,Rep τ w (env.get j) (a.tmps.getD j undef)) (h:fc op ((SOpd.of x).eval G env) ((SOpd.of y).eval G env) K):QOk P τ w o a K:=by
 have hx:=ar (G:=G) hS hE x
 have hy:=ar (G:=G) hS hE y
 unfold fc at h
 split at h
 ·rename_i k1 n1 k2 n2 e1 e2
  rw[e1]at hx
  rw[e2]at hy
  simp only[Rep]at hx hy
  obtain⟨rfl,h⟩:=h
  rcases hop with rfl|rfl|rfl|rfl|rfl|rfl|rfl|rfl|rfl|rfl|rfl<;>simp only at h
  ·exact ju h (λw'=>by simp[execOp,ho,hx,hy,eqGuard,binOp,Op.intArith])
  ·exact ju h (λw'=>by simp[execOp,ho,hx,hy,eqGuard,binOp,Op.intArith])
  ·exact ju h (λw'=>by simp[execOp,ho,hx,hy,eqGuard,binOp,Op.intArith])
  ·exact ju h.2 (λw'=>by simp[execOp,ho,hx,hy,eqGuard,binOp,Op.intDiv,h.1])
  ·exact ju h.2 (λw'=>by simp[execOp,ho,hx,hy,eqGuard,binOp,Op.intDiv,h.1])
  ·refine bX h (λw'=>?_)
   have e:(n1==n2)=decide (n1=n2):=by by_cases hc:n1=n2<;>simp[hc]
   simp[execOp,ho,hx,hy,eqGuard,binOp,Op.intCmp,e]
  ·refine bX h (λw'=>?_)
   have e:(n1 != n2)=decide (n1≠n2):=by by_cases hc:n1=n2<;>simp[hc]
   simp[execOp,ho,hx,hy,eqGuard,binOp,Op.intCmp,e]
  ·exact bX h (λw'=>by simp[execOp,ho,hx,hy,eqGuard,binOp,Op.intCmp])
  ·exact bX h (λw'=>by simp[execOp,ho,hx,hy,eqGuard,binOp,Op.intCmp])
  ·exact bX h (λw'=>by simp[execOp,ho,hx,hy,eqGuard,binOp,Op.intCmp])
  ·exact bX h (λw'=>by simp[execOp,ho,hx,hy,eqGuard,binOp,Op.intCmp])
 ·rename_i s1 s2 e1 e2
  rw[e1]at hx
  rw[e2]at hy
  simp only[Rep]at hx hy
  have eb:(s1==s2)=decide (s1=s2):=by by_cases hc:s1=s2<;>simp[hc]
  rcases hop with rfl|rfl|rfl|rfl|rfl|rfl|rfl|rfl|rfl|rfl|rfl<;>simp only at h
  ·refine qok_str h.2 (λw'=>?_)
   have hm:¬((s1.length+s2.length:Nat):Int)>IntKind.i64.max:=by
    have e:IntKind.i64.max=9223372036854775807:=by decide
    rw[e];omega
   have hst:Op.stringOp .add ⟨⟨s1⟩⟩ ⟨⟨s2⟩⟩=pure (.string ⟨⟨s1++s2⟩⟩):=by
    simp only[Op.stringOp,i7]
    rw[if_neg hm,append_mk]
   simp only[execOp,ho,hx,hy,eqGuard,binOp,hst]
   simp
  ·refine bX h (λw'=>?_)
   simp[execOp,ho,hx,hy,eqGuard,binOp,Op.stringOp,eb]
  ·refine bX h (λw'=>?_)
   simp[execOp,ho,hx,hy,eqGuard,binOp,Op.stringOp,eb]
  ·refine bX h (λw'=>?_)
   simp[execOp,ho,hx,hy,eqGuard,binOp,Op.stringOp]
  ·refine bX h (λw'=>?_)
   simp[execOp,ho,hx,hy,eqGuard,binOp,Op.stringOp,eb]
  ·refine bX h (λw'=>?_)
   simp[execOp,ho,hx,hy,eqGuard,binOp,Op.stringOp,eb]
  ·refine bX h (λw'=>?_)
   simp[execOp,ho,hx,hy,eqGuard,binOp,Op.stringOp]
 ·exact h.elim
theorem bM {op:BinOp} {t:TypeId} {x y:Operand} {u v:Value} (hu:u.oneCell'=true) (hn:∀(_:u= .nilIface),False) (w':World):(eqGuard op t x y u v).run P w'= .ok () w':=by
 unfold eqGuard
 cases op<;>simp
 all_goals(cases u<;>simp_all[Value.oneCell'])
theorem q_eqb {t u:TypeId} {neg:Bool} {x y:Operand} (ho:o.op= .binOp (if neg then .neq else .eql) t x y u) (hu:P.underlying t=some .bool)
  (hS:Sat G τ w) (hE:∀j,Rep τ w (env.get j) (a.tmps.getD j undef)) (h:iq ((SOpd.of x).eval G env) λp=>iq ((SOpd.of y).eval G env) λq=>K (.bool (if neg then p != q else p==q))):QOk P τ w o a K:=by
 obtain⟨p,hx,h⟩:=ov (ar hS hE x) h
 obtain⟨q,hy,h⟩:=ov (ar hS hE y) h
 refine bX h (λw'=>?_)
 have hg:=λop=>bM (P:=P) (op:=op) (t:=t) (x:=x) (y:=y) (u:=.bool p) (v:=.bool q) rfl (λe=>by cases e) w'
 cases neg with
 |true=>
  simp only[if_true]at ho
  simp only[execOp,ho,hx,hy,Sem.run_bind,hg,Result.andThen_ok,run_neq_bool w' t p q hu]
  cases p<;>cases q<;>rfl
 |false=>
  simp only[Bool.false_eq_true,if_false]at ho
  simp only[execOp,ho,hx,hy,Sem.run_bind,hg,Result.andThen_ok,run_eql_bool w' t p q hu]
  rfl
def eqK:List Nat->List Value->List Value->Option Bool
 |[],_,_=>some true
 |0::ks,.bool a::xs,.bool b::ys=>(eqK ks xs ys).map ((a==b)&& ·)
 |1::ks,.int k a::xs,.int k' b::ys=>if k=k' then (eqK ks xs ys).map (decide (a=b)&& ·)else none
 |2::ks,.string a::xs,.string b::ys=>(eqK ks xs ys).map ((a.toList==b.toList)&& ·)
 |_,_,_=>none
theorem eqK_of_AV:∀(ks:List Nat) (xs ys:List AV) (us vs:List Value) (r:Bool),RepL τ w xs us->RepL τ w ys vs->eqAV ks xs ys=some r->eqK ks us vs=some r/\us.length=ks.length/\vs.length=ks.length:=by
 intro ks
 induction ks with
 |nil=>
  intro xs ys us vs r hx hy h
  match xs,ys,h with
  |[],[],h=>simp only[RepL]at hx hy;subst hx hy;simpa[eqAV,eqK]using h
 |cons k ks ih=>
  intro xs ys us vs r hx hy h
  unfold eqAV at h
  split at h
  ·simp_all
  ·rename_i ks' a xs' b ys' he
   cases he
   simp only[RepL,Rep]at hx hy
   obtain⟨_,us',rfl,rfl,hx⟩:=hx
   obtain⟨_,vs',rfl,rfl,hy⟩:=hy
   cases hr:eqAV ks xs' ys' with
   |none=>simp[hr]at h
   |some r'=>
    obtain⟨h1,h2,h3⟩:=ih xs' ys' us' vs' r' hx hy hr
    refine⟨?_,by simp[h2],by simp[h3]⟩
    simpa[eqK,h1,hr]using h
  ·rename_i ks' k1 a xs' k2 b ys' he
   cases he
   split at h
   ·rename_i hk
    simp only[RepL,Rep]at hx hy
    obtain⟨_,us',rfl,rfl,hx⟩:=hx
    obtain⟨_,vs',rfl,rfl,hy⟩:=hy
    cases hr:eqAV ks xs' ys' with
    |none=>simp[hr]at h
    |some r'=>
     obtain⟨h1,h2,h3⟩:=ih xs' ys' us' vs' r' hx hy hr
     refine⟨?_,by simp[h2],by simp[h3]⟩
     simpa[eqK,h1,hr,hk]using h
   ·cases h
  ·rename_i ks' a xs' b ys' he
   cases he
   simp only[RepL,Rep]at hx hy
   obtain⟨_,us',rfl,rfl,hx⟩:=hx
   obtain⟨_,vs',rfl,rfl,hy⟩:=hy
   cases hr:eqAV ks xs' ys' with
   |none=>simp[hr]at h
   |some r'=>
    obtain⟨h1,h2,h3⟩:=ih xs' ys' us' vs' r' hx hy hr
    refine⟨?_,by simp[h2],by simp[h3]⟩
    have eb:(a==b)=decide (a=b):=by by_cases hc:a=b<;>simp[hc]
    simpa[eqK,h1,hr,pK,eb]using h
  ·cases h
theorem gj:∀(k1 k2:List Nat) (xs ys:List Value) (r:Bool),eqK (k1++k2) xs ys=some r->∃r1 r2,eqK k1 xs ys=some r1/\eqK k2 (xs.drop k1.length) (ys.drop k1.length)=some r2/\r=(r1&&r2)
 |[],k2,xs,ys,r,h=>⟨true,r,by simp[eqK],by simpa using h,by simp⟩
 |k::k1,k2,xs,ys,r,h=>by
  rw[cons_append]at h
  unfold eqK at h
  split at h
  ·simp_all
  ·rename_i ks' a xs' b ys' he
   cases he
   cases hr:eqK (k1++k2) xs' ys' with
   |none=>simp[hr]at h
   |some r'=>
    obtain⟨r1,r2,h1,h2,rfl⟩:=gj k1 k2 xs' ys' r' hr
    refine⟨(a==b)&&r1,r2,by simp[eqK,h1],by simpa using h2,?_⟩
    simp[hr]at h
    rw[←h,Bool.and_assoc]
  ·rename_i ks' k1' a xs' k2' b ys' he
   cases he
   split at h
   ·rename_i hk
    cases hr:eqK (k1++k2) xs' ys' with
    |none=>simp[hr]at h
    |some r'=>
     obtain⟨r1,r2,h1,h2,rfl⟩:=gj k1 k2 xs' ys' r' hr
     refine⟨decide (a=b)&&r1,r2,by simp[eqK,h1,hk],by simpa using h2,?_⟩
     simp[hr]at h
     rw[←h,Bool.and_assoc]
   ·cases h
  ·rename_i ks' a xs' b ys' he
   cases he
   cases hr:eqK (k1++k2) xs' ys' with
   |none=>simp[hr]at h
   |some r'=>
    obtain⟨r1,r2,h1,h2,rfl⟩:=gj k1 k2 xs' ys' r' hr
    refine⟨(a.toList==b.toList)&&r1,r2,by simp[eqK,h1],by simpa using h2,?_⟩
    simp[hr]at h
    rw[←h,Bool.and_assoc]
  ·cases h
theorem nI:∀(ks:List Nat) (n:Nat) (xs ys:List Value),ks.length<=n->eqK ks (xs.take n) (ys.take n)=eqK ks xs ys
 |[],n,xs,ys,_=>by simp[eqK]
 |k::ks,n+1,xs,ys,h=>by
  have ih:=λxs ys=>nI ks n xs ys (by simpa using h)
  cases xs with
  |nil=>simp[eqK]
  |cons x xs=>
   cases ys with
   |nil=>simp[eqK]
   |cons y ys=>
    simp only[take_succ_cons]
    rcases k with _|_|_|k<;>(cases x<;>cases y<;>first|(simp only[eqK,ih];done)|(show Option.map _ (eqK ks (List.take n xs) (List.take n ys))=_;rw[ih];rfl)|(show(if _=_ then Option.map _ (eqK ks (List.take n xs) (List.take n ys))else none)=_;rw[ih];rfl)|rfl)
 |k::ks,0,xs,ys,h=>by simp at h
def FlatOk (P:Program) (d:Nat):Prop:=
 ∀(t:TypeId) (ks:List Nat),dL P d t=some ks->∀(D:Nat) (xs ys:Array Value) (off:Nat) (r:Bool),d<=D->off+ks.length<=xs.size->off+ks.length<=ys.size->
  eqK ks (xs.toList.drop off) (ys.toList.drop off)=some r->∀w':World,
  ∃u v,(part t xs off).run P w'= .ok u w'/\(part t ys off).run P w'= .ok v w'/\(Op.equalIn (D+1) t u v).run P w'= .ok r w'
theorem eh {d:Nat} (hA:FlatOk P d):∀(fs:List Field) (off:Nat) (ks:List Nat),fz (dL P d) fs off=some ks->∀(D:Nat) (xs ys:Array Value) (r:Bool),d<=D->off+ks.length<=xs.size->off+ks.length<=ys.size->
  eqK ks (xs.toList.drop off) (ys.toList.drop off)=some r->∀w':World,(Op.eqFields (D+1) xs ys fs).run P w'= .ok r w'
 |[],off,ks,h,D,xs,ys,r,_,_,_,he,w'=>by
  simp only[fz]at h
  cases h
  simp[eqK]at he
  subst he
  simp[Op.eqFields]
 |f::fs,off,ks,h,D,xs,ys,r,hD,hx,hy,he,w'=>by
  simp only[fz]at h
  split at h
  ·cases h
  rename_i hnm
  simp at hnm
  split at h
  ·rename_i k1 h1
   split at h
   ·rename_i k2 h2
    cases h
    obtain⟨r1,r2,e1,e2,rfl⟩:=gj k1 k2 _ _ r he
    simp only[length_append]at hx hy
    obtain⟨u,v,p1,p2,p3⟩:=hA f.type k1 h1 D xs ys f.offset r1 hD (by rw[hnm.2];omega) (by rw[hnm.2];omega) (by rw[hnm.2];exact e1) w'
    simp only[Op.eqFields,if_pos (show f.name≠ "_" from hnm.1),Sem.run_bind,p1,p2,p3,Result.andThen_ok]
    cases r1 with
    |false=>simp
    |true=>
     have:=eh hA fs (off+k1.length) k2 h2 D xs ys r2 hD (by omega) (by omega) (by rw[drop_drop]at e2;rw[drop_drop]at e2;exact e2) w'
     simpa using this
   ·cases h
  ·cases h
theorem flatOk (P:Program):∀d,FlatOk P d
 |0,t,ks,h=>by simp[dL]at h
 |d+1,t,ks,h=>by
  intro D xs ys off r hD hx hy he w'
  simp only[dL]at h
  split at h
  ·rename_i hu
   cases h
   simp at hx hy
   have e1:xs.toList.drop off=xs[off]::xs.toList.drop (off+1):=by rw[drop_eq_getElem_cons (by simp;omega)];simp
   have e2:ys.toList.drop off=ys[off]::ys.toList.drop (off+1):=by rw[drop_eq_getElem_cons (by simp;omega)];simp
   rw[e1,e2]at he
   refine⟨xs[off],ys[off],?_,?_,?_⟩
   ·unfold part;rw[Sem.run_bind,cN hu];simp[aggD,show off<xs.size by omega]
   ·unfold part;rw[Sem.run_bind,cN hu];simp[aggD,show off<ys.size by omega]
   ·generalize xs[off]=x at*
    generalize ys[off]=y at*
    cases x<;>cases y<;>simp[eqK]at he
    subst he
    exact run_equalIn_bool' w' D t _ _ hu
  ·rename_i hu
   cases h
   simp at hx hy
   have e1:xs.toList.drop off=xs[off]::xs.toList.drop (off+1):=by rw[drop_eq_getElem_cons (by simp;omega)];simp
   have e2:ys.toList.drop off=ys[off]::ys.toList.drop (off+1):=by rw[drop_eq_getElem_cons (by simp;omega)];simp
   rw[e1,e2]at he
   refine⟨xs[off],ys[off],?_,?_,?_⟩
   ·unfold part;rw[Sem.run_bind,cN hu];simp[aggD,show off<xs.size by omega]
   ·unfold part;rw[Sem.run_bind,cN hu];simp[aggD,show off<ys.size by omega]
   ·generalize xs[off]=x at*
    generalize ys[off]=y at*
    cases x<;>cases y<;>simp[eqK]at he
    obtain⟨rfl,rfl⟩:=he
    rw[run_equalIn_int w' D t _ _ _ _ hu]
    rename_i k a b
    by_cases hc:a=b<;>simp[hc]
  ·rename_i hu
   cases h
   simp at hx hy
   have e1:xs.toList.drop off=xs[off]::xs.toList.drop (off+1):=by rw[drop_eq_getElem_cons (by simp;omega)];simp
   have e2:ys.toList.drop off=ys[off]::ys.toList.drop (off+1):=by rw[drop_eq_getElem_cons (by simp;omega)];simp
   rw[e1,e2]at he
   refine⟨xs[off],ys[off],?_,?_,?_⟩
   ·unfold part;rw[Sem.run_bind,cN hu];simp[aggD,show off<xs.size by omega]
   ·unfold part;rw[Sem.run_bind,cN hu];simp[aggD,show off<ys.size by omega]
   ·generalize xs[off]=x at*
    generalize ys[off]=y at*
    cases x<;>cases y<;>simp[eqK]at he
    subst he
    exact run_equalIn_string w' D t _ _ hu
  ·rename_i fs hu
   split at h
   ·cases h
   rename_i hst
   split at h
   ·rename_i ks' hfs
    split at h
    ·rename_i hsz
     cases h
     have hsz':bc P t=some ks.length:=by simpa using hsz
     have hag:aggD (.struct fs)=true:=rfl
     refine⟨_,_,gq hu hsz' xs off (by simp[hag]) hx w',gq hu hsz' ys off (by simp[hag]) hy w',?_⟩
     simp only[hag,if_true]
     have ht:P.underlying t=some (.struct (P.fieldsOf t)):=by simp[Program.fieldsOf,hu]
     have hfo:P.fieldsOf t=fs:=by simp[Program.fieldsOf,hu]
     obtain⟨D',rfl⟩:∃D',D=D'+1:=⟨D-1,by omega⟩
     rw[run_equalIn_struct w' (D'+1) t _ _ ht (by simpa using hst),hfo]
     have hl1:(xs.extract off (off+ks.length)).size=ks.length:=by simp;omega
     have hl2:(ys.extract off (off+ks.length)).size=ks.length:=by simp;omega
     refine eh (flatOk P d) fs.toList 0 ks hfs D' _ _ r (by omega) (by omega) (by omega) ?_ w'
     have e1:(xs.extract off (off+ks.length)).toList=(xs.toList.drop off).take ks.length:=by simp
     have e2:(ys.extract off (off+ks.length)).toList=(ys.toList.drop off).take ks.length:=by simp
     simp only[drop_zero]
     rw[e1,e2,nI _ _ _ _ (Nat.le_refl _)]
     exact he
    ·cases h
   ·cases h
  ·cases h
theorem q_eqs {t u:TypeId} {neg:Bool} {x y:Operand} {fs:Array Field} {ks:List Nat} (ho:o.op= .binOp (if neg then .neq else .eql) t x y u) (hu:P.underlying t=some (.struct fs)) (hf:dL P 8 t=some ks) (hg:P.eqGuardType P.depth t=false)
  (hS:Sat G τ w) (hE:∀j,Rep τ w (env.get j) (a.tmps.getD j undef)) (h:aggX ((SOpd.of x).eval G env) λxs=>aggX ((SOpd.of y).eval G env) λys=>eqsX neg ks xs ys K):QOk P τ w o a K:=by
 obtain⟨xs,us,hx,h,_,rx⟩:=nk (ar hS hE x) h
 obtain⟨ys,vs,hy,h,_,ry⟩:=nk (ar hS hE y) h
 unfold eqsX at h
 split at h
 ·rename_i r hr
  obtain⟨h1,l1,l2⟩:=eqK_of_AV ks xs ys us.toList vs.toList r rx ry hr
  refine bX h (λw'=>?_)
  have hst:P.stoodInHeld t=false/\∃ks',fz (dL P 7) fs.toList 0=some ks'/\ks'=ks:=by
   simp only[dL,hu]at hf
   split at hf
   ·cases hf
   rename_i hst
   split at hf
   ·rename_i ks' hfs
    split at hf
    ·cases hf;exact⟨by simpa using hst,_,hfs,rfl⟩
    ·cases hf
   ·cases hf
  obtain⟨hst,ks',hfs,rfl⟩:=hst
  have ht:P.underlying t=some (.struct (P.fieldsOf t)):=by simp[Program.fieldsOf,hu]
  have hfo:P.fieldsOf t=fs:=by simp[Program.fieldsOf,hu]
  have hrun:(Op.equalIn 10000 t (.agg us) (.agg vs)).run P w'= .ok r w':=by
   rw[run_equalIn_struct w' 9999 t _ _ ht hst,hfo]
   exact eh (flatOk P 7) fs.toList 0 ks' hfs 9998 us vs r (by omega) (by simp at l1;omega) (by simp at l2;omega) (by simpa using h1) w'
  cases neg with
  |true=>
   simp only[if_true]at ho
   simp only[execOp,ho,hx,hy,Sem.run_bind,run_eqGuard_agg w' _ t x y us vs hg,Result.andThen_ok,run_neq_struct w' t us vs,hrun]
   rfl
  |false=>
   simp only[Bool.false_eq_true,if_false]at ho
   simp only[execOp,ho,hx,hy,Sem.run_bind,run_eqGuard_agg w' _ t x y us vs hg,Result.andThen_ok,run_eql_struct w' t us vs,hrun]
   rfl
 ·exact h.elim
end
end Go.Av
