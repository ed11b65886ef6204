/-
  ABSTRACT VALUES, 9: the rest of the operations that leave memory as it is, one by one.
-/
import Derived.Test.YtjdccoplpljmlaaGreatDoorVXAv5toXAv8
namespace Go.Av
open Go Go.RowKit List
set_option linter.unusedSimpArgs false
set_option linter.unusedVariables false
section
variable {G:Glob} {P:Program} {τ:Store} {w:World} {env:Env} {a:Act} {o:Oper} {K:AV->Prop}
theorem cD {t:TypeId} {z:List AV} (h:cu P t=some z):∃i v,P.info? t=some i/\i.zero=some v/\RepL τ w z v.cells.toList/\∀u∈v.cells.toList,u.oneCell'=true:=by
 unfold cu at h
 cases hi:P.info? t with
 |none=>simp[hi]at h
 |some i=>
  cases E:i.zero with
  |none=>simp[hi,E]at h
  |some v=>
   simp only[hi,E,Option.bind_some]at h
   split at h
   ·rename_i F
    cases h
    exact⟨i,v,rfl,E,RepL.ofOnes τ w _,λu I=>all_eq_true.1 F u I⟩
   ·cases h
theorem ki {α β:Type} {f:α->Option β}:∀{l:List α} {r:List β},l.mapM f=some r->l.length=r.length/\∀(j:Nat) x y,l[j]? =some x->r[j]? =some y->f x=some y
 |[],r,h=>by simp at h;subst h;simp
 |x::l,r,h=>by
  rw[mapM_cons]at h
  cases E:f x with
  |none=>simp[E]at h
  |some y=>
   cases F:l.mapM f with
   |none=>simp[E,F]at h
   |some r'=>
    simp[E,F]at h
    subst h
    obtain⟨M,N⟩:=ki F
    refine⟨by simp[M],λj u v I J=>?_⟩
    cases j with
    |zero=>simp at I J;subst I J;exact E
    |succ j=>exact N j u v (by simpa using I) (by simpa using J)
theorem lw {α β:Type} {f:α->Option β}:∀{l:List α},(∀x∈l,(f x).isSome=true)->∃r,l.mapM f=some r
 |[],_=>⟨[],rfl⟩
 |x::l,h=>by
  obtain⟨r,F⟩:=lw (l:=l) (λy E=>h y (mem_cons_of_mem _ E))
  obtain⟨y,E⟩:=Option.isSome_iff_exists.1 (h x (by simp))
  exact⟨y::r,by simp[mapM_cons,E,F]⟩
theorem q_build {t:TypeId} {parts:Array (Nat×Operand)} {fs:Array Field} {z:List AV} {F:List (Nat×Nat×SOpd)} (ho:o.op= .build t parts) (hu:P.underlying t=some (.struct fs)) (hz:cu P t=some z)
  (T:(fs.toList.all λf=>(P.info? f.type).isSome)=true)
  (hm:(parts.toList.mapM λ(p:Nat×Operand)=>match fs[p.1]? with
    |some f=>(aZ P f.type).map λn=>(f.offset,n,SOpd.of p.2)
    |none=>none)=some F)
  (hS:Sat G τ w) (Z:∀j,Rep τ w (env.get j) (a.tmps.getD j undef)) (h:fR G env z F λcs=>K (.agg cs)):QOk P τ w o a K:=by
 obtain⟨i,v,hi,hv,hr,Y⟩:=cD (τ:=τ) (w:=w) hz
 obtain⟨hl,hg⟩:=ki hm
 obtain⟨E,N⟩:=lw (l:=fs.toList) (f:=λf=>(P.info? f.type).map λi=>(f.offset,i.size)) (λf O=>by simpa using all_eq_true.1 T f O)
 obtain⟨X,V⟩:=ki N
 obtain⟨C',cs',k1,k2,k3,k4⟩:=kQ (G:=G) (λj=>E.toArray[j]?) parts.toList F z v.cells (λcs=>K (.agg cs)) (by
  intro j p q hp hq
  have:=hg j p q hp hq
  split at this
  ·rename_i f O
   cases I:aZ P f.type with
   |none=>simp[I]at this
   |some n=>
    simp only[I,Option.map_some,Option.some.injEq]at this
    subst this
    have M:p.1<E.length:=by
     have:=(Array.getElem?_eq_some_iff.1 O).1
     simp at X;omega
    have e:=V p.1 f E[p.1] (by simpa using O) (getElem?_eq_getElem M)
    simp only[aZ]at I
    cases J:P.info? f.type with
    |none=>simp[J]at I
    |some i2=>
     simp[J]at I e
     simp[M,←e,I]
  ·cases this) hl hS Z hr Y h
 have hb:P.built t ((parts.map λ(x:Nat×Operand)=>(x.1,a.eval x.2)).toList)=some C':=by
  unfold Program.built
  simp only[hi,hu,hv,N,Array.toList_map]
  exact k1
 exact⟨.agg cs',.agg C',k2,by simp only[Rep];exact⟨C',rfl,k4,k3⟩,λw' _=>by
  simp only[execOp,ho,Sem.run_bind,run_build w' t _ C' hb,Result.andThen_ok,Sem.run_pure]⟩
theorem na {s:TypeId} {fs:Array Field} {f:Field} {i n:Nat} (J:P.underlying s=some (.struct fs)) (F:fs[i]? =some f) (I:aZ P f.type=some (n+1)) (E:Addr) (w':World):
  (Instr.fieldAt s (.pointer (some E)) i).run P w'= .ok (.pointer (some (E.add f.offset))) w':=by
 simp[Instr.fieldAt,run_underlying J,F,Instr.sureAddr,fieldPlace,ba I]
theorem lH {off:Nat} {x:AV} {u:Value} (F:Rep τ w x u) (h:cP off x K):∃r E,u= .pointer (some E)/\K r/\Rep τ w r (.pointer (some (E.add off))):=by
 unfold cP at h
 split at h
 ·simp only[Rep]at F
  obtain⟨E,I,J⟩:=F
  exact⟨_,E,I,h,by simp only[Rep];exact⟨_,rfl,J.drop off⟩⟩
 ·rename_i b p
  simp only[Rep]at F
  exact⟨_,_,F,h,by simp only[Rep];rw[add_lit]⟩
 ·exact h.elim
theorem q_fieldA {t:TypeId} {x:Operand} {fs:Array Field} {f:Field} {i n:Nat} (N:o.op= .fieldAddr t x i) (V:P.underlying t=some (.struct fs)) (I:fs[i]? =some f) (M:aZ P f.type=some (n+1))
  (F:Sat G τ w) (E:∀j,Rep τ w (env.get j) (a.tmps.getD j undef)) (h:cP f.offset ((SOpd.of x).eval G env) K):QOk P τ w o a K:=by
 obtain⟨r,X,O,J,T⟩:=lH (ar F E x) h
 exact⟨r,_,J,T,λw' _=>by simp[execOp,N,O,na V I M]⟩
theorem jH {x:AV} {u:Value} {KI:Int->Prop} (E:Rep τ w x u) (h:intX x KI):∃k n,u= .int k n/\KI n:=by
 unfold intX at h
 split at h
 ·simp only[Rep]at E
  exact⟨_,_,E,h⟩
 ·exact h.elim
theorem lu {x:AV} {u:Value} {KR:Nat->List (List AV)->Prop} (E:Rep τ w x u) (h:iY x KR):
  ∃sz rows,KR sz rows/\((u= .slice none 0 0/\rows=[])\/∃F cap,u= .slice (some F) rows.length cap/\rows.length<=cap/\cap<=maxLen/\az τ w F sz 0 rows):=by
 unfold iY at h
 split at h
 ·simp only[Rep]at E
  exact⟨_,_,h,E⟩
 ·rename_i g e sz rows
  cases g with
  |none=>simp only[Rep]at E;exact⟨_,_,h,.inl E⟩
  |some b=>
   simp only[Rep]at E
   obtain⟨cap,I,J,M,_,N⟩:=E
   exact⟨_,_,h,.inr ⟨_,cap,I,J,M,N⟩⟩
 ·exact h.elim
theorem q_indexA {t e:TypeId} {x i:Operand} {sz:Nat} (X:o.op= .indexAddr t x i) (Y:P.underlying t=some (.slice e)) (V:aZ P e=some sz)
  (M:Sat G τ w) (J:∀j,Rep τ w (env.get j) (a.tmps.getD j undef)) (h:mq sz ((SOpd.of x).eval G env) ((SOpd.of i).eval G env) K):QOk P τ w o a K:=by
 unfold mq at h
 split at h
 ·rename_i b off len cap he
  have I:=ar (G:=G) M J x
  rw[he]at I
  simp only[Rep]at I
  obtain⟨k,n,hi,N,E,O⟩:=jH (ar M J i) h
  refine⟨_,.pointer (some ⟨b,off+n.toNat*sz,none⟩),O,by simp only[Rep],λw' _=>?_⟩
  simp[execOp,X,I,hi,Instr.indexAt,asIntOf,run_underlying Y,N,E,ba V,add_lit]
 obtain⟨sz',rows,⟨rfl,h⟩,I⟩:=lu (ar M J x) h
 obtain⟨k,n,hi,N,E,O⟩:=jH (ar M J i) h
 rcases I with⟨I,T⟩|⟨Z,cap,I,ac,_,T⟩
 ·subst T;simp at E;omega
 ·have F:n.toNat<rows.length:=by omega
  refine⟨_,.pointer (some (Z.add (n.toNat*sz))),O,?_,λw' _=>?_⟩
  ·simp only[Rep]
   refine⟨_,rfl,?_⟩
   have:=T.ref n.toNat F
   simpa[getD_eq_getElem?_getD,F]using this
  ·simp[execOp,X,I,hi,Instr.indexAt,asIntOf,run_underlying Y,N,E,ba V]
theorem q_indexP {t e:TypeId} {x i:Operand} {sz len:Nat} (O:o.op= .indexAddr t x i) (X:P.underlying t=some (.array len e)) (N:aZ P e=some sz)
  (I:Sat G τ w) (F:∀j,Rep τ w (env.get j) (a.tmps.getD j undef)) (h:indexPX len sz ((SOpd.of x).eval G env) ((SOpd.of i).eval G env) K):QOk P τ w o a K:=by
 obtain⟨k,n,hi,J,E,h⟩:=jH (ar I F i) h
 obtain⟨r,Y,T,M,V⟩:=lH (ar I F x) h
 refine⟨r,_,M,V,λw' _=>?_⟩
 simp[execOp,O,T,hi,Instr.indexAt,Instr.sureAddr,asIntOf,run_underlying X,J,E,ba N]
theorem jI {x:AV} {u:Value} {KS:List UInt8->Prop} (E:Rep τ w x u) (h:strX x KS):∃s,u= .string ⟨⟨s⟩⟩/\KS s:=by
 unfold strX at h
 split at h
 ·simp only[Rep]at E
  exact⟨_,E,h⟩
 ·exact h.elim
theorem ie (s:List UInt8):(ByteArray.mk (Array.mk s)).size=s.length:=rfl
theorem nF (s:List UInt8) (i:Nat):(ByteArray.mk (Array.mk s))[i]? =s[i]? :=by
 by_cases h:i<s.length
 ·rw[ByteArray.getElem?_lt' _ _ (by rw[ie];exact h),getElem?_eq_getElem h];rfl
 ·rw[ByteArray.getElem?_ge' _ _ (by rw[ie];exact h),getElem?_eq_none (by omega)]
theorem q_index {t:TypeId} {x i:Operand} (O:o.op= .index t x i) (T:P.underlying t=some .string)
  (I:Sat G τ w) (F:∀j,Rep τ w (env.get j) (a.tmps.getD j undef)) (h:charX ((SOpd.of x).eval G env) ((SOpd.of i).eval G env) K):QOk P τ w o a K:=by
 obtain⟨s,V,h⟩:=jI (ar I F x) h
 obtain⟨k,n,hi,J,N,M⟩:=jH (ar I F i) h
 have E:n.toNat<s.length:=by omega
 refine⟨_,.int .u8 ((s.getD n.toNat 0).toNat),M,by simp only[Rep],λw' _=>?_⟩
 simp[execOp,O,V,hi,Instr.index,asIntOf,run_underlying T,J,nF,E,getD_eq_getElem?_getD]
theorem dN {env:Env} {d:Int} {x:Option Operand} {KI:Int->Prop} (I:Sat G τ w) (F:∀j,Rep τ w (env.get j) (a.tmps.getD j undef)) (h:en G env d (x.map SOpd.of) KI):
  ∃n,KI n/\((x=none/\n=d)\/∃y k,x=some y/\a.eval y= .int k n):=by
 cases x with
 |none=>exact⟨d,h,.inl ⟨rfl,rfl⟩⟩
 |some y=>
  simp only[Option.map_some,en]at h
  have E:=ar (G:=G) I F y
  split at h
  ·rename_i k n J
   rw[J]at E
   simp only[Rep]at E
   exact⟨n,h,.inr ⟨y,k,rfl,E⟩⟩
  ·exact h.elim
theorem kV {b:Bool} {len cap:Nat} {lo hi:Option Operand} {l h:Int} (I:0<=l) (Z:l<=h) (J:h<=cap) (_hlc:len<=cap)
  (Y:(lo=none/\l=0)\/∃y k,lo=some y/\a.eval y= .int k l) (X:(hi=none/\h=len)\/∃y k,hi=some y/\a.eval y= .int k h) (w':World):
  (Instr.sliceBounds b len cap (lo.map a.eval) (hi.map a.eval) none).run P w'= .ok (l.toNat,h.toNat,cap) w':=by
 have F:∀(k:IntKind) (i:Int) (y:Nat) (E:BoundsCode),0<=i->i<=y->(Instr.sliceBound (.int k i) y E).run P w'= .ok i.toNat w':=λk i y E T V=>by
  simp[Instr.sliceBound,asIntOf,T,V]
 rcases X with⟨rfl,rfl⟩|⟨y,k,rfl,M⟩<;>rcases Y with⟨rfl,rfl⟩|⟨z,O,rfl,N⟩
 ·simp[Instr.sliceBounds]
 ·simp only[Option.map_none,Option.map_some,Instr.sliceBounds,N]
  simp[F O l len _ I (by omega)]
 ·simp only[Option.map_none,Option.map_some,Instr.sliceBounds,M]
  simp[F k h cap _ (by omega) J]
 ·simp only[Option.map_some,Instr.sliceBounds,M,N]
  simp[F k h cap _ (by omega) J,F O l h.toNat _ I (by omega)]
theorem q_sliceS {t:TypeId} {x:Operand} {lo hi:Option Operand} (X:o.op= .slice t x lo hi none) (Y:P.underlying t=some .string)
  (F:Sat G τ w) (E:∀j,Rep τ w (env.get j) (a.tmps.getD j undef))
  (h:strX ((SOpd.of x).eval G env) λs=>en G env 0 (lo.map SOpd.of) λl=>en G env s.length (hi.map SOpd.of) λh=>0<=l/\l<=h/\h<=s.length/\K (.str ((s.take h.toNat).drop l.toNat))):QOk P τ w o a K:=by
 obtain⟨s,Z,h⟩:=jI (ar F E x) h
 obtain⟨l,h,V⟩:=dN F E h
 obtain⟨m,⟨I,J,M,T⟩,O⟩:=dN F E h
 have N:=λw'=>kV (P:=P) (b:=false) (len:=s.length) (cap:=s.length) I J M (Nat.le_refl _) V O w'
 refine⟨_,.string ⟨⟨(s.take m.toNat).drop l.toNat⟩⟩,T,by simp only[Rep],λw' _=>?_⟩
 have e:(ByteArray.mk (Array.mk s)).extract l.toNat m.toNat=⟨⟨(s.take m.toNat).drop l.toNat⟩⟩:=by
  have:((ByteArray.mk (Array.mk s)).extract l.toNat m.toNat).data=⟨(s.take m.toNat).drop l.toNat⟩:=by
   rw[ByteArray.data_extract]
   apply Array.ext'
   simp[drop_take]
  generalize (ByteArray.mk (Array.mk s)).extract l.toNat m.toNat=b at*
  cases b;simp at this;simp[this]
 simp[execOp,X,Z,Instr.sliceAt,run_underlying Y,Instr.slice,ie,N,e]
theorem q_slice {t e:TypeId} {x:Operand} {lo hi:Option Operand} {sz:Nat} (ho:o.op= .slice t x lo hi none) (hu:P.underlying t=some (.slice e)) (hn:aZ P e=some sz)
  (N:Sat G τ w) (M:∀j,Rep τ w (env.get j) (a.tmps.getD j undef)) (h:jD G env sz ((SOpd.of x).eval G env) (lo.map SOpd.of) (hi.map SOpd.of) K):QOk P τ w o a K:=by
 have E:=ar (G:=G) N M x
 have run:∀(F:Option Addr) (n cap:Nat) (l m:Int),a.eval x= .slice F n cap->n<=cap->0<=l->l<=m->m<=cap->
   ((lo=none/\l=0)\/∃y k,lo=some y/\a.eval y= .int k l)->((hi=none/\m=n)\/∃y k,hi=some y/\a.eval y= .int k m)->
   ∀w',(execOp a.eval o).run P w'= .ok (.value (.slice (if cap=l.toNat then F else F.map (·.add (l.toNat*sz))) (m.toNat-l.toNat) (cap-l.toNat))) w':=by
  intro F n cap l m hv ah T V h2 J I w'
  have hb:=kV (P:=P) (a:=a) (b:=true) (len:=n) (cap:=cap) T V h2 ah J I w'
  simp[execOp,ho,hv,Instr.sliceAt,run_underlying hu,Instr.slice,hb,ba hn]
 have ac:iY ((SOpd.of x).eval G env) (λsz' rows=>en G env 0 (lo.map SOpd.of) λl=>en G env rows.length (hi.map SOpd.of) λh=>
   sz=sz'/\0<=l/\l<=h/\h<=rows.length/\K (.lst sz ((rows.take h.toNat).drop l.toNat)))->QOk P τ w o a K:=by
  intro h
  obtain⟨sz',rows,h,E⟩:=lu E h
  obtain⟨l,h,J⟩:=dN N M h
  obtain⟨m,⟨rfl,T,V,h2,O⟩,I⟩:=dN N M h
  rcases E with⟨E,hr⟩|⟨F,cap,E,ag,al,hr⟩
  ·subst hr
   simp at h2
   obtain rfl:l=0:=by omega
   obtain rfl:m=0:=by omega
   refine⟨_,.slice none 0 0,O,by simp[Rep],λw' _=>?_⟩
   rw[run none 0 0 0 0 E (by omega) (by omega) (by omega) (by omega) J I w']
   simp
  ·refine⟨_,_,O,?_,λw' _=>run (some F) rows.length cap l m E ag T V (by omega) J I w'⟩
   simp only[Rep]
   right
   have X:((rows.take m.toNat).drop l.toNat).length=m.toNat-l.toNat:=by simp;omega
   refine⟨if cap=l.toNat then F else F.add (l.toNat*sz),cap-l.toNat,?_,by omega,by omega,?_⟩
   ·rw[X];split<;>simp
   ·split
    ·rename_i hc
     have:(rows.take m.toNat).drop l.toNat=[]:=eq_nil_of_length_eq_zero (by omega)
     rw[this];simp only[az]
    ·exact az.drop l.toNat (az.take m.toNat hr)
 unfold jD at h
 split at h
 ·rename_i Y
  rw[Y]at E
  simp only[Rep]at E
  obtain⟨l,h,J⟩:=dN N M h
  obtain⟨m,⟨rfl,rfl,O⟩,I⟩:=dN N M h
  refine⟨_,.slice none 0 0,O,by simp[Rep],λw' _=>?_⟩
  rw[run none 0 0 0 0 E (by omega) (by omega) (by omega) (by omega) J I w']
  simp
 ·rename_i b off len cap Z
  rw[Z]at E
  simp only[Rep]at E
  obtain⟨l,h,J⟩:=dN N M h
  obtain⟨m,⟨T,V,h2,h3,h4,O⟩,I⟩:=dN N M h
  refine⟨_,.slice (some ⟨b,off+l.toNat*sz,none⟩) (m.toNat-l.toNat) (cap-l.toNat),O,by simp only[Rep],λw' _=>?_⟩
  rw[run (some ⟨b,off,none⟩) len cap l m E h3 T V (by omega) J I w']
  rw[if_neg (show ¬cap=l.toNat by omega)]
  simp[add_lit]
 ·exact ac h
theorem q_extract {x:Operand} {i:Nat} (T:o.op= .extract x i) (J:Sat G τ w) (I:∀j,Rep τ w (env.get j) (a.tmps.getD j undef)) (h:tupX i ((SOpd.of x).eval G env) K):QOk P τ w o a K:=by
 have E:=ar (G:=G) J I x
 unfold tupX at h
 split at h
 ·rename_i cs M
  rw[M]at E
  simp only[Rep]at E
  obtain⟨vs,V,F⟩:=E
  have O:=F.length
  have hi:i<vs.size:=by simp at O;omega
  have N:=F.get i h.1 (by simpa using hi)
  refine⟨_,vs[i],h.2,?_,λw' _=>?_⟩
  ·simpa[getD_eq_getElem?_getD,h.1]using N
  ·simp[execOp,T,V,Instr.extract,hi]
 ·exact h.elim
theorem q_not {t:TypeId} {x:Operand} (M:o.op= .unOp .not t x) (I:Sat G τ w) (F:∀j,Rep τ w (env.get j) (a.tmps.getD j undef)) (h:gE ((SOpd.of x).eval G env) λb=>K (.bool (!b))):QOk P τ w o a K:=by
 have E:=ar (G:=G) I F x
 unfold gE at h
 split at h
 ·rename_i b J
  rw[J]at E
  simp only[Rep]at E
  exact⟨_,.bool (!b),h,by simp only[Rep],λw' _=>by simp[execOp,M,E,Op.unary]⟩
 ·exact h.elim
theorem q_conv {s d:TypeId} {x:Operand} {k j:IntKind} (N:o.op= .convert s d x) (O:P.underlying s=some (.int j)) (J:P.underlying d=some (.int k))
  (I:Sat G τ w) (F:∀j,Rep τ w (env.get j) (a.tmps.getD j undef)) (h:convX k ((SOpd.of x).eval G env) K):QOk P τ w o a K:=by
 have E:=ar (G:=G) I F x
 unfold convX at h
 split at h
 ·rename_i T n M
  rw[M]at E
  simp only[Rep]at E
  exact⟨_,.int k (k.wrap n),h,by simp only[Rep],λw' _=>by simp[execOp,N,E,convert,run_underlying O,run_underlying J,Conv.intToInt]⟩
 ·exact h.elim
theorem q_str {s d:TypeId} {x:Operand} (M:o.op= .convert s d x) (N:P.underlying s=some .string) (I:P.underlying d=some .string)
  (F:Sat G τ w) (E:∀j,Rep τ w (env.get j) (a.tmps.getD j undef)) (h:strX ((SOpd.of x).eval G env) λs=>K (.str s)):QOk P τ w o a K:=by
 obtain⟨l,O,J⟩:=jI (ar F E x) h
 exact⟨_,.string ⟨⟨l⟩⟩,J,by simp only[Rep],λw' _=>by simp[execOp,M,O,convert,run_underlying N,run_underlying I]⟩
theorem q_lenS {t:TypeId} {x:Operand} (J:o.op= .call {callee:=.builtin .len,args:=#[x],argTypes:=#[t]}) (M:P.underlying t=some .string)
  (F:Sat G τ w) (E:∀j,Rep τ w (env.get j) (a.tmps.getD j undef)) (h:strX ((SOpd.of x).eval G env) λs=>K (.int .i64 s.length)):QOk P τ w o a K:=by
 obtain⟨s,N,I⟩:=jI (ar F E x) h
 exact⟨_,.int .i64 s.length,I,by simp only[Rep],λw' _=>by simp[execOp,J,resolve,invoke,builtin,N,Builtin.len_,run_underlying M,goInt,ie]⟩
theorem q_len {t e:TypeId} {x:Operand} (O:o.op= .call {callee:=.builtin .len,args:=#[x],argTypes:=#[t]}) (V:P.underlying t=some (.slice e))
  (N:Sat G τ w) (M:∀j,Rep τ w (env.get j) (a.tmps.getD j undef)) (h:lenX ((SOpd.of x).eval G env) K):QOk P τ w o a K:=by
 have E:=ar (G:=G) N M x
 have F:∀J n c,a.eval x= .slice J n c->∀w',(execOp a.eval o).run P w'= .ok (.value (.int .i64 n)) w':=by
  intro J n c X w'
  simp[execOp,O,resolve,invoke,builtin,X,Builtin.len_,run_underlying V,goInt]
 unfold lenX at h
 split at h
 ·rename_i sz rows I
  rw[I]at E
  simp only[Rep]at E
  rcases E with⟨E,T⟩|⟨J,cap,E,_⟩
  ·exact⟨_,.int .i64 rows.length,h,by simp only[Rep],λw' _=>by rw[F _ _ _ E,T];rfl⟩
  ·exact⟨_,.int .i64 rows.length,h,by simp only[Rep],λw' _=>F _ _ _ E w'⟩
 ·rename_i g e sz rows I
  rw[I]at E
  cases g with
  |none=>
   simp only[Rep]at E
   exact⟨_,.int .i64 rows.length,h,by simp only[Rep],λw' _=>by rw[F _ _ _ E.1,E.2];rfl⟩
  |some b=>
   simp only[Rep]at E
   obtain⟨cap,E,_⟩:=E
   exact⟨_,.int .i64 rows.length,h,by simp only[Rep],λw' _=>F _ _ _ E w'⟩
 ·rename_i I
  rw[I]at E
  simp only[Rep]at E
  exact⟨_,.int .i64 0,h,by simp only[Rep],λw' _=>F _ _ _ E w'⟩
 ·rename_i r n c I
  rw[I]at E
  simp only[Rep]at E
  exact⟨_,.int .i64 n,h,by simp only[Rep],λw' _=>F _ _ _ E w'⟩
 ·exact h.elim
theorem q_mkI {t:TypeId} {x:Operand} {d:TypeDesc} (N:o.op= .makeInterface t x) (O:P.underlying t=some d) (J:∀m,d≠ .interface m) (I:Sat G τ w) (F:∀j,Rep τ w (env.get j) (a.tmps.getD j undef))
  (h:scX ((SOpd.of x).eval G env) λv=>K (.sc (.iface t v))):QOk P τ w o a K:=by
 have E:=ar (G:=G) I F x
 unfold scX at h
 split at h
 ·rename_i v M
  rw[M]at E
  simp only[Rep]at E
  refine⟨_,.iface t v,h,by simp only[Rep],λw' _=>?_⟩
  cases d<;>first
   |exact absurd rfl (J _)
   |simp[execOp,N,E,Instr.makeInterface,run_underlying O]
 ·exact h.elim
end
end Go.Av
