/-
  ABSTRACT VALUES, 9: the rest of the operations that leave memory as it is, one by one.
-/
import Derived.Test.YtnoakpkjccigoaaGreatDoorRXAv5toXAv8
namespace Go.Av
open Go Go.RowKit List
set_option linter.unusedSimpArgs false
set_option linter.unusedVariables false
section
variable {G:Glob} {P:Program} {τ:Store} {w:World} {env:Env} {a:Act} {o:Oper} {K:AV->Prop}
theorem cG {t:TypeId} {z:List AV} (h:cK P t=some z):∃i v,P.info? t=some i/\i.zero=some v/\RepL τ w z v.cells.toList/\∀u∈v.cells.toList,u.oneCell'=true:=by
 unfold cK at h
 cases hi:P.info? t with
 |none=>simp[hi]at h
 |some i=>
  cases D:i.zero with
  |none=>simp[hi,D]at h
  |some v=>
   simp only[hi,D,Option.bind_some]at h
   split at h
   ·rename_i E
    cases h
    exact⟨i,v,rfl,D,RepL.ofOnes τ w _,λu F=>all_eq_true.1 E u F⟩
   ·cases h
theorem kw {α β:Type} {f:α->Option β}:∀{l:List α} {r:List β},l.mapM f=some r->l.length=r.length/\∀(j:Nat) x y,l[j]? =some x->r[j]? =some y->f x=some y
 |[],r,h=>by simp at h;subst h;simp
 |x::l,r,h=>by
  rw[mapM_cons]at h
  cases D:f x with
  |none=>simp[D]at h
  |some y=>
   cases E:l.mapM f with
   |none=>simp[D,E]at h
   |some r'=>
    simp[D,E]at h
    subst h
    obtain⟨J,M⟩:=kw E
    refine⟨by simp[J],λj u v F I=>?_⟩
    cases j with
    |zero=>simp at F I;subst F I;exact D
    |succ j=>exact M j u v (by simpa using F) (by simpa using I)
theorem lQ {α β:Type} {f:α->Option β}:∀{l:List α},(∀x∈l,(f x).isSome=true)->∃r,l.mapM f=some r
 |[],_=>⟨[],rfl⟩
 |x::l,h=>by
  obtain⟨r,E⟩:=lQ (l:=l) (λy D=>h y (mem_cons_of_mem _ D))
  obtain⟨y,D⟩:=Option.isSome_iff_exists.1 (h x (by simp))
  exact⟨y::r,by simp[mapM_cons,D,E]⟩
theorem q_build {t:TypeId} {parts:Array (Nat×Operand)} {fs:Array Field} {z:List AV} {E:List (Nat×Nat×SOpd)} (ho:o.op= .build t parts) (hu:P.underlying t=some (.struct fs)) (hz:cK P t=some z)
  (O:(fs.toList.all λf=>(P.info? f.type).isSome)=true)
  (hm:(parts.toList.mapM λ(p:Nat×Operand)=>match fs[p.1]? with
    |some f=>(bj P f.type).map λn=>(f.offset,n,SOpd.of p.2)
    |none=>none)=some E)
  (Z:Sat G τ w) (Y:∀j,Rep τ w (env.get j) (a.tmps.getD j undef)) (h:ga G env z E λcs=>K (.agg cs)):QOk P τ w o a K:=by
 obtain⟨i,v,hi,hv,hr,X⟩:=cG (τ:=τ) (w:=w) hz
 obtain⟨hl,hg⟩:=kw hm
 obtain⟨D,M⟩:=lQ (l:=fs.toList) (f:=λf=>(P.info? f.type).map λi=>(f.offset,i.size)) (λf N=>by simpa using all_eq_true.1 O f N)
 obtain⟨V,T⟩:=kw M
 obtain⟨C',cs',k1,k2,k3,k4⟩:=kd (G:=G) (λj=>D.toArray[j]?) parts.toList E z v.cells (λcs=>K (.agg cs)) (by
  intro j p q hp hq
  have:=hg j p q hp hq
  split at this
  ·rename_i f N
   cases F:bj P f.type with
   |none=>simp[F]at this
   |some n=>
    simp only[F,Option.map_some,Option.some.injEq]at this
    subst this
    have J:p.1<D.length:=by
     have:=(Array.getElem?_eq_some_iff.1 N).1
     simp at V;omega
    have e:=T p.1 f D[p.1] (by simpa using N) (getElem?_eq_getElem J)
    simp only[bj]at F
    cases I:P.info? f.type with
    |none=>simp[I]at F
    |some i2=>
     simp[I]at F e
     simp[J,←e,F]
  ·cases this) hl Z Y hr X h
 have hb:P.built t ((parts.map λ(x:Nat×Operand)=>(x.1,a.eval x.2)).toList)=some C':=by
  unfold Program.built
  simp only[hi,hu,hv,M,Array.toList_map]
  exact k1
 exact⟨.agg cs',.agg C',k2,by simp only[Rep];exact⟨C',rfl,k4,k3⟩,λw' _=>by
  simp only[execOp,ho,Sem.run_bind,run_build w' t _ C' hb,Result.andThen_ok,Sem.run_pure]⟩
theorem oe {s:TypeId} {fs:Array Field} {f:Field} {i n:Nat} (I:P.underlying s=some (.struct fs)) (E:fs[i]? =some f) (F:bj P f.type=some (n+1)) (D:Addr) (w':World):
  (Instr.fieldAt s (.pointer (some D)) i).run P w'= .ok (.pointer (some (D.add f.offset))) w':=by
 simp[Instr.fieldAt,run_underlying I,E,Instr.sureAddr,fieldPlace,bv F]
theorem lx {off:Nat} {x:AV} {u:Value} (E:Rep τ w x u) (h:cQ off x K):∃r D,u= .pointer (some D)/\K r/\Rep τ w r (.pointer (some (D.add off))):=by
 unfold cQ at h
 split at h
 ·simp only[Rep]at E
  obtain⟨D,F,I⟩:=E
  exact⟨_,D,F,h,by simp only[Rep];exact⟨_,rfl,I.drop off⟩⟩
 ·rename_i b p
  simp only[Rep]at E
  exact⟨_,_,E,h,by simp only[Rep];rw[add_lit]⟩
 ·exact h.elim
theorem q_fieldA {t:TypeId} {x:Operand} {fs:Array Field} {f:Field} {i n:Nat} (M:o.op= .fieldAddr t x i) (T:P.underlying t=some (.struct fs)) (F:fs[i]? =some f) (J:bj P f.type=some (n+1))
  (E:Sat G τ w) (D:∀j,Rep τ w (env.get j) (a.tmps.getD j undef)) (h:cQ f.offset ((SOpd.of x).eval G env) K):QOk P τ w o a K:=by
 obtain⟨r,V,N,I,O⟩:=lx (ao E D x) h
 exact⟨r,_,I,O,λw' _=>by simp[execOp,M,N,oe T F J]⟩
theorem jS {x:AV} {u:Value} {KI:Int->Prop} (D:Rep τ w x u) (h:intX x KI):∃k n,u= .int k n/\KI n:=by
 unfold intX at h
 split at h
 ·simp only[Rep]at D
  exact⟨_,_,D,h⟩
 ·exact h.elim
theorem lX {x:AV} {u:Value} {KR:Nat->List (List AV)->Prop} (D:Rep τ w x u) (h:ja x KR):
  ∃sz rows,KR sz rows/\((u= .slice none 0 0/\rows=[])\/∃E cap,u= .slice (some E) rows.length cap/\rows.length<=cap/\cap<=maxLen/\ar τ w E sz 0 rows):=by
 unfold ja at h
 split at h
 ·simp only[Rep]at D
  exact⟨_,_,h,D⟩
 ·rename_i g e sz rows
  cases g with
  |none=>simp only[Rep]at D;exact⟨_,_,h,.inl D⟩
  |some b=>
   simp only[Rep]at D
   obtain⟨cap,F,I,J,_,M⟩:=D
   exact⟨_,_,h,.inr ⟨_,cap,F,I,J,M⟩⟩
 ·exact h.elim
theorem q_indexA {t e:TypeId} {x i:Operand} {sz:Nat} (V:o.op= .indexAddr t x i) (X:P.underlying t=some (.slice e)) (T:bj P e=some sz)
  (J:Sat G τ w) (I:∀j,Rep τ w (env.get j) (a.tmps.getD j undef)) (h:mB sz ((SOpd.of x).eval G env) ((SOpd.of i).eval G env) K):QOk P τ w o a K:=by
 unfold mB at h
 split at h
 ·rename_i b off len cap Z
  have F:=ao (G:=G) J I x
  rw[Z]at F
  simp only[Rep]at F
  obtain⟨k,n,hi,M,D,N⟩:=jS (ao J I i) h
  refine⟨_,.pointer (some ⟨b,off+n.toNat*sz,none⟩),N,by simp only[Rep],λw' _=>?_⟩
  simp[execOp,V,F,hi,Instr.indexAt,asIntOf,run_underlying X,M,D,bv T,add_lit]
 obtain⟨ah,rows,⟨rfl,h⟩,F⟩:=lX (ao J I x) h
 obtain⟨k,n,hi,M,D,N⟩:=jS (ao J I i) h
 rcases F with⟨F,O⟩|⟨Y,cap,F,ac,_,O⟩
 ·subst O;simp at D;omega
 ·have E:n.toNat<rows.length:=by omega
  refine⟨_,.pointer (some (Y.add (n.toNat*sz))),N,?_,λw' _=>?_⟩
  ·simp only[Rep]
   refine⟨_,rfl,?_⟩
   have:=O.ref n.toNat E
   simpa[getD_eq_getElem?_getD,E]using this
  ·simp[execOp,V,F,hi,Instr.indexAt,asIntOf,run_underlying X,M,D,bv T]
theorem q_indexP {t e:TypeId} {x i:Operand} {sz len:Nat} (N:o.op= .indexAddr t x i) (V:P.underlying t=some (.array len e)) (M:bj P e=some sz)
  (F:Sat G τ w) (E:∀j,Rep τ w (env.get j) (a.tmps.getD j undef)) (h:indexPX len sz ((SOpd.of x).eval G env) ((SOpd.of i).eval G env) K):QOk P τ w o a K:=by
 obtain⟨k,n,hi,I,D,h⟩:=jS (ao F E i) h
 obtain⟨r,X,O,J,T⟩:=lx (ao F E x) h
 refine⟨r,_,J,T,λw' _=>?_⟩
 simp[execOp,N,O,hi,Instr.indexAt,Instr.sureAddr,asIntOf,run_underlying V,I,D,bv M]
theorem jK {x:AV} {u:Value} {KS:List UInt8->Prop} (D:Rep τ w x u) (h:strX x KS):∃s,u= .string ⟨⟨s⟩⟩/\KS s:=by
 unfold strX at h
 split at h
 ·simp only[Rep]at D
  exact⟨_,D,h⟩
 ·exact h.elim
theorem iL (s:List UInt8):(ByteArray.mk (Array.mk s)).size=s.length:=rfl
theorem mW (s:List UInt8) (i:Nat):(ByteArray.mk (Array.mk s))[i]? =s[i]? :=by
 by_cases h:i<s.length
 ·rw[ByteArray.getElem?_lt' _ _ (by rw[iL];exact h),getElem?_eq_getElem h];rfl
 ·rw[ByteArray.getElem?_ge' _ _ (by rw[iL];exact h),getElem?_eq_none (by omega)]
theorem q_index {t:TypeId} {x i:Operand} (N:o.op= .index t x i) (O:P.underlying t=some .string)
  (F:Sat G τ w) (E:∀j,Rep τ w (env.get j) (a.tmps.getD j undef)) (h:charX ((SOpd.of x).eval G env) ((SOpd.of i).eval G env) K):QOk P τ w o a K:=by
 obtain⟨s,T,h⟩:=jK (ao F E x) h
 obtain⟨k,n,hi,I,M,J⟩:=jS (ao F E i) h
 have D:n.toNat<s.length:=by omega
 refine⟨_,.int .u8 ((s.getD n.toNat 0).toNat),J,by simp only[Rep],λw' _=>?_⟩
 simp[execOp,N,T,hi,Instr.index,asIntOf,run_underlying O,I,mW,D,getD_eq_getElem?_getD]
theorem dP {env:Env} {d:Int} {x:Option Operand} {KI:Int->Prop} (F:Sat G τ w) (E:∀j,Rep τ w (env.get j) (a.tmps.getD j undef)) (h:eC G env d (x.map SOpd.of) KI):
  ∃n,KI n/\((x=none/\n=d)\/∃y k,x=some y/\a.eval y= .int k n):=by
 cases x with
 |none=>exact⟨d,h,.inl ⟨rfl,rfl⟩⟩
 |some y=>
  simp only[Option.map_some,eC]at h
  have D:=ao (G:=G) F E y
  split at h
  ·rename_i k n I
   rw[I]at D
   simp only[Rep]at D
   exact⟨n,h,.inr ⟨y,k,rfl,D⟩⟩
  ·exact h.elim
theorem ke {b:Bool} {len cap:Nat} {lo hi:Option Operand} {l h:Int} (F:0<=l) (Y:l<=h) (I:h<=cap) (_hlc:len<=cap)
  (X:(lo=none/\l=0)\/∃y k,lo=some y/\a.eval y= .int k l) (V:(hi=none/\h=len)\/∃y k,hi=some y/\a.eval y= .int k h) (w':World):
  (Instr.sliceBounds b len cap (lo.map a.eval) (hi.map a.eval) none).run P w'= .ok (l.toNat,h.toNat,cap) w':=by
 have E:∀(k:IntKind) (i:Int) (y:Nat) (D:BoundsCode),0<=i->i<=y->(Instr.sliceBound (.int k i) y D).run P w'= .ok i.toNat w':=λk i y D O T=>by
  simp[Instr.sliceBound,asIntOf,O,T]
 rcases V with⟨rfl,rfl⟩|⟨y,k,rfl,J⟩<;>rcases X with⟨rfl,rfl⟩|⟨z,N,rfl,M⟩
 ·simp[Instr.sliceBounds]
 ·simp only[Option.map_none,Option.map_some,Instr.sliceBounds,M]
  simp[E N l len _ F (by omega)]
 ·simp only[Option.map_none,Option.map_some,Instr.sliceBounds,J]
  simp[E k h cap _ (by omega) I]
 ·simp only[Option.map_some,Instr.sliceBounds,J,M]
  simp[E k h cap _ (by omega) I,E N l h.toNat _ F (by omega)]
theorem q_sliceS {t:TypeId} {x:Operand} {lo hi:Option Operand} (V:o.op= .slice t x lo hi none) (X:P.underlying t=some .string)
  (E:Sat G τ w) (D:∀j,Rep τ w (env.get j) (a.tmps.getD j undef))
  (h:strX ((SOpd.of x).eval G env) λs=>eC G env 0 (lo.map SOpd.of) λl=>eC G env s.length (hi.map SOpd.of) λh=>0<=l/\l<=h/\h<=s.length/\K (.str ((s.take h.toNat).drop l.toNat))):QOk P τ w o a K:=by
 obtain⟨s,Y,h⟩:=jK (ao E D x) h
 obtain⟨l,h,T⟩:=dP E D h
 obtain⟨m,⟨F,I,J,O⟩,N⟩:=dP E D h
 have M:=λw'=>ke (P:=P) (b:=false) (len:=s.length) (cap:=s.length) F I J (Nat.le_refl _) T N w'
 refine⟨_,.string ⟨⟨(s.take m.toNat).drop l.toNat⟩⟩,O,by simp only[Rep],λw' _=>?_⟩
 have e:(ByteArray.mk (Array.mk s)).extract l.toNat m.toNat=⟨⟨(s.take m.toNat).drop l.toNat⟩⟩:=by
  have:((ByteArray.mk (Array.mk s)).extract l.toNat m.toNat).data=⟨(s.take m.toNat).drop l.toNat⟩:=by
   rw[ByteArray.data_extract]
   apply Array.ext'
   simp[drop_take]
  generalize (ByteArray.mk (Array.mk s)).extract l.toNat m.toNat=b at*
  cases b;simp at this;simp[this]
 simp[execOp,V,Y,Instr.sliceAt,run_underlying X,Instr.slice,iL,M,e]
theorem q_slice {t e:TypeId} {x:Operand} {lo hi:Option Operand} {sz:Nat} (ho:o.op= .slice t x lo hi none) (hu:P.underlying t=some (.slice e)) (hn:bj P e=some sz)
  (M:Sat G τ w) (J:∀j,Rep τ w (env.get j) (a.tmps.getD j undef)) (h:jF G env sz ((SOpd.of x).eval G env) (lo.map SOpd.of) (hi.map SOpd.of) K):QOk P τ w o a K:=by
 have D:=ao (G:=G) M J x
 have run:∀(E:Option Addr) (n cap:Nat) (l m:Int),a.eval x= .slice E n cap->n<=cap->0<=l->l<=m->m<=cap->
   ((lo=none/\l=0)\/∃y k,lo=some y/\a.eval y= .int k l)->((hi=none/\m=n)\/∃y k,hi=some y/\a.eval y= .int k m)->
   ∀w',(execOp a.eval o).run P w'= .ok (.value (.slice (if cap=l.toNat then E else E.map (·.add (l.toNat*sz))) (m.toNat-l.toNat) (cap-l.toNat))) w':=by
  intro E n cap l m hv al O T h2 I F w'
  have hb:=ke (P:=P) (a:=a) (b:=true) (len:=n) (cap:=cap) O T h2 al I F w'
  simp[execOp,ho,hv,Instr.sliceAt,run_underlying hu,Instr.slice,hb,bv hn]
 have Z:ja ((SOpd.of x).eval G env) (λac rows=>eC G env 0 (lo.map SOpd.of) λl=>eC G env rows.length (hi.map SOpd.of) λh=>
   sz=ac/\0<=l/\l<=h/\h<=rows.length/\K (.lst sz ((rows.take h.toNat).drop l.toNat)))->QOk P τ w o a K:=by
  intro h
  obtain⟨ac,rows,h,D⟩:=lX D h
  obtain⟨l,h,I⟩:=dP M J h
  obtain⟨m,⟨rfl,O,T,h2,N⟩,F⟩:=dP M J h
  rcases D with⟨D,hr⟩|⟨E,cap,D,ah,an,hr⟩
  ·subst hr
   simp at h2
   obtain rfl:l=0:=by omega
   obtain rfl:m=0:=by omega
   refine⟨_,.slice none 0 0,N,by simp[Rep],λw' _=>?_⟩
   rw[run none 0 0 0 0 D (by omega) (by omega) (by omega) (by omega) I F w']
   simp
  ·refine⟨_,_,N,?_,λw' _=>run (some E) rows.length cap l m D ah O T (by omega) I F w'⟩
   simp only[Rep]
   right
   have V:((rows.take m.toNat).drop l.toNat).length=m.toNat-l.toNat:=by simp;omega
   refine⟨if cap=l.toNat then E else E.add (l.toNat*sz),cap-l.toNat,?_,by omega,by omega,?_⟩
   ·rw[V];split<;>simp
   ·split
    ·rename_i hc
     have:(rows.take m.toNat).drop l.toNat=[]:=eq_nil_of_length_eq_zero (by omega)
     rw[this];simp only[ar]
    ·exact ar.drop l.toNat (ar.take m.toNat hr)
 unfold jF at h
 split at h
 ·rename_i X
  rw[X]at D
  simp only[Rep]at D
  obtain⟨l,h,I⟩:=dP M J h
  obtain⟨m,⟨rfl,rfl,N⟩,F⟩:=dP M J h
  refine⟨_,.slice none 0 0,N,by simp[Rep],λw' _=>?_⟩
  rw[run none 0 0 0 0 D (by omega) (by omega) (by omega) (by omega) I F w']
  simp
 ·rename_i b off len cap Y
  rw[Y]at D
  simp only[Rep]at D
  obtain⟨l,h,I⟩:=dP M J h
  obtain⟨m,⟨O,T,h2,h3,h4,N⟩,F⟩:=dP M J h
  refine⟨_,.slice (some ⟨b,off+l.toNat*sz,none⟩) (m.toNat-l.toNat) (cap-l.toNat),N,by simp only[Rep],λw' _=>?_⟩
  rw[run (some ⟨b,off,none⟩) len cap l m D h3 O T (by omega) I F w']
  rw[if_neg (show ¬cap=l.toNat by omega)]
  simp[add_lit]
 ·exact Z h
theorem q_extract {x:Operand} {i:Nat} (O:o.op= .extract x i) (I:Sat G τ w) (F:∀j,Rep τ w (env.get j) (a.tmps.getD j undef)) (h:tupX i ((SOpd.of x).eval G env) K):QOk P τ w o a K:=by
 have D:=ao (G:=G) I F x
 unfold tupX at h
 split at h
 ·rename_i cs J
  rw[J]at D
  simp only[Rep]at D
  obtain⟨vs,T,E⟩:=D
  have N:=E.length
  have hi:i<vs.size:=by simp at N;omega
  have M:=E.get i h.1 (by simpa using hi)
  refine⟨_,vs[i],h.2,?_,λw' _=>?_⟩
  ·simpa[getD_eq_getElem?_getD,h.1]using M
  ·simp[execOp,O,T,Instr.extract,hi]
 ·exact h.elim
theorem q_not {t:TypeId} {x:Operand} (J:o.op= .unOp .not t x) (F:Sat G τ w) (E:∀j,Rep τ w (env.get j) (a.tmps.getD j undef)) (h:gX ((SOpd.of x).eval G env) λb=>K (.bool (!b))):QOk P τ w o a K:=by
 have D:=ao (G:=G) F E x
 unfold gX at h
 split at h
 ·rename_i b I
  rw[I]at D
  simp only[Rep]at D
  exact⟨_,.bool (!b),h,by simp only[Rep],λw' _=>by simp[execOp,J,D,Op.unary]⟩
 ·exact h.elim
theorem q_conv {s d:TypeId} {x:Operand} {k j:IntKind} (M:o.op= .convert s d x) (N:P.underlying s=some (.int j)) (I:P.underlying d=some (.int k))
  (F:Sat G τ w) (E:∀j,Rep τ w (env.get j) (a.tmps.getD j undef)) (h:convX k ((SOpd.of x).eval G env) K):QOk P τ w o a K:=by
 have D:=ao (G:=G) F E x
 unfold convX at h
 split at h
 ·rename_i O n J
  rw[J]at D
  simp only[Rep]at D
  exact⟨_,.int k (k.wrap n),h,by simp only[Rep],λw' _=>by simp[execOp,M,D,convert,run_underlying N,run_underlying I,Conv.intToInt]⟩
 ·exact h.elim
theorem q_str {s d:TypeId} {x:Operand} (J:o.op= .convert s d x) (M:P.underlying s=some .string) (F:P.underlying d=some .string)
  (E:Sat G τ w) (D:∀j,Rep τ w (env.get j) (a.tmps.getD j undef)) (h:strX ((SOpd.of x).eval G env) λs=>K (.str s)):QOk P τ w o a K:=by
 obtain⟨l,N,I⟩:=jK (ao E D x) h
 exact⟨_,.string ⟨⟨l⟩⟩,I,by simp only[Rep],λw' _=>by simp[execOp,J,N,convert,run_underlying M,run_underlying F]⟩
theorem q_lenS {t:TypeId} {x:Operand} (I:o.op= .call {callee:=.builtin .len,args:=#[x],argTypes:=#[t]}) (J:P.underlying t=some .string)
  (E:Sat G τ w) (D:∀j,Rep τ w (env.get j) (a.tmps.getD j undef)) (h:strX ((SOpd.of x).eval G env) λs=>K (.int .i64 s.length)):QOk P τ w o a K:=by
 obtain⟨s,M,F⟩:=jK (ao E D x) h
 exact⟨_,.int .i64 s.length,F,by simp only[Rep],λw' _=>by simp[execOp,I,resolve,invoke,builtin,M,Builtin.len_,run_underlying J,goInt,iL]⟩
theorem q_len {t e:TypeId} {x:Operand} (N:o.op= .call {callee:=.builtin .len,args:=#[x],argTypes:=#[t]}) (T:P.underlying t=some (.slice e))
  (M:Sat G τ w) (J:∀j,Rep τ w (env.get j) (a.tmps.getD j undef)) (h:lenX ((SOpd.of x).eval G env) K):QOk P τ w o a K:=by
 have D:=ao (G:=G) M J x
 have E:∀I n c,a.eval x= .slice I n c->∀w',(execOp a.eval o).run P w'= .ok (.value (.int .i64 n)) w':=by
  intro I n c V w'
  simp[execOp,N,resolve,invoke,builtin,V,Builtin.len_,run_underlying T,goInt]
 unfold lenX at h
 split at h
 ·rename_i sz rows F
  rw[F]at D
  simp only[Rep]at D
  rcases D with⟨D,O⟩|⟨I,cap,D,_⟩
  ·exact⟨_,.int .i64 rows.length,h,by simp only[Rep],λw' _=>by rw[E _ _ _ D,O];rfl⟩
  ·exact⟨_,.int .i64 rows.length,h,by simp only[Rep],λw' _=>E _ _ _ D w'⟩
 ·rename_i g e sz rows F
  rw[F]at D
  cases g with
  |none=>
   simp only[Rep]at D
   exact⟨_,.int .i64 rows.length,h,by simp only[Rep],λw' _=>by rw[E _ _ _ D.1,D.2];rfl⟩
  |some b=>
   simp only[Rep]at D
   obtain⟨cap,D,_⟩:=D
   exact⟨_,.int .i64 rows.length,h,by simp only[Rep],λw' _=>E _ _ _ D w'⟩
 ·rename_i F
  rw[F]at D
  simp only[Rep]at D
  exact⟨_,.int .i64 0,h,by simp only[Rep],λw' _=>E _ _ _ D w'⟩
 ·rename_i r n c F
  rw[F]at D
  simp only[Rep]at D
  exact⟨_,.int .i64 n,h,by simp only[Rep],λw' _=>E _ _ _ D w'⟩
 ·exact h.elim
theorem q_mkI {t:TypeId} {x:Operand} {d:TypeDesc} (M:o.op= .makeInterface t x) (N:P.underlying t=some d) (I:∀m,d≠ .interface m) (F:Sat G τ w) (E:∀j,Rep τ w (env.get j) (a.tmps.getD j undef))
  (h:scX ((SOpd.of x).eval G env) λv=>K (.sc (.iface t v))):QOk P τ w o a K:=by
 have D:=ao (G:=G) F E x
 unfold scX at h
 split at h
 ·rename_i v J
  rw[J]at D
  simp only[Rep]at D
  refine⟨_,.iface t v,h,by simp only[Rep],λw' _=>?_⟩
  cases d<;>first
   |exact absurd rfl (I _)
   |simp[execOp,M,D,Instr.makeInterface,run_underlying N]
 ·exact h.elim
end
end Go.Av
