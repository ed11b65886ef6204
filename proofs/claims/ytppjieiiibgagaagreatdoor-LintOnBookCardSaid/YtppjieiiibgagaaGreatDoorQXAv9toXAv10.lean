/-
  ABSTRACT VALUES, 9: the rest of the operations that leave memory as it is, one by one.
-/
import Derived.Test.YtppjieiiibgagaaGreatDoorQXAv5toXAv8
import Derived.WalkLawsBesides
set_option linter.all false
namespace Go.Av
open Go Go.RowKit List
section
variable {G:Glob} {P:Program} {τ:Store} {w:World} {env:Env} {a:Act} {o:Oper} {K:AV->Prop}
def dz {t:TypeId} {z:List AV} (h:da P t=some z):∃i v,P.info? t=some i/\i.zero=some v/\RepL τ w z v.cells.toList/\∀u∈v.cells.toList,u.oneCell'=true:=by
 unfold da at h
 cases hi:P.info? t with
 |none=>simp[hi]at h
 |some i=>
  cases D:i.zero with
  |none=>simp[hi,D]at h
  |some v=>
   simp only[hi,D,Option.bind_some]at h;split at h
   ·rename_i E
    cases h
    exact⟨i,v,rfl,D,sZ τ w _,λu F=>all_eq_true.1 E u F⟩
   ·cases h
def ms {α β:Type} {f:α->Option β}:∀{l:List α} {r:List β},l.mapM f=some r->l.length=r.length/\∀(j:Nat) x y,l[j]? =some x->r[j]? =some y->f x=some y
 |[],r,h=>by simp at h;subst h;simp
 |x::l,r,h=>by
  rw[mapM_cons]at h
  cases D:f x with
  |none=>simp[D]at h
  |some y=>
   cases E:l.mapM f with
   |none=>simp[D,E]at h
   |some r'=>
    simp[D,E]at h;subst h;obtain⟨J,M⟩:=ms E;refine⟨by simp[J],λj u v F I=>?_⟩
    cases j with
    |zero=>simp at F I;subst F I;exact D
    |succ j=>exact M j u v (by simpa using F) (by simpa using I)
def nf {α β:Type} {f:α->Option β}:∀{l:List α},(∀x∈l,(f x).isSome=true)->∃r,l.mapM f=some r
 |[],_=>⟨[],rfl⟩
 |x::l,h=>by
  obtain⟨r,E⟩:=nf (l:=l) (λy D=>h y (mem_cons_of_mem _ D));obtain⟨y,D⟩:=Option.isSome_iff_exists.1 (h x (by simp));exact⟨y::r,by simp[mapM_cons,D,E]⟩
def q_build {t:TypeId} {parts:Array (Nat×Operand)} {fs:Array Field} {z:List AV} {E:List (Nat×Nat×SOpd)} (ho:o.op= .build t parts) (hu:P.underlying t=some (.struct fs)) (hz:da P t=some z)
  (O:(fs.toList.all λf=>(P.info? f.type).isSome)=true)
  (hm:(parts.toList.mapM λ(p:Nat×Operand)=>match fs[p.1]? with
    |some f=>(bC P f.type).map λn=>(f.offset,n,SOpd.of p.2)
    |none=>none)=some E)
  (Z:Sat G τ w) (Y:∀j,Rep τ w (env.get j) (a.tmps.getD j undef)) (h:g7 G env z E λcs=>K (.agg cs)):QOk P τ w o a K:=by
 obtain⟨i,v,hi,hv,hr,X⟩:=dz (τ:=τ) (w:=w) hz
 obtain⟨hl,hg⟩:=ms hm
 obtain⟨D,M⟩:=nf (l:=fs.toList) (f:=λf=>(P.info? f.type).map λi=>(f.offset,i.size)) (λf N=>by simpa using all_eq_true.1 O f N)
 obtain⟨V,T⟩:=ms M
 obtain⟨C',cs',k1,k2,k3,k4⟩:=lG (G:=G) (λj=>D.toArray[j]?) parts.toList E z v.cells (λcs=>K (.agg cs)) (by
  intro j p q hp hq
  have:=hg j p q hp hq
  split at this
  ·rename_i f N
   cases F:bC P f.type with
   |none=>simp[F]at this
   |some n=>
    simp only[F,Option.map_some,Option.some.injEq]at this
    subst this
    have J:p.1<D.length:=by
     have:=(Array.getElem?_eq_some_iff.1 N).1
     simp at V;omega
    have e:=T p.1 f D[p.1] (by simpa using N) (getElem?_eq_getElem J)
    simp only[bC]at F
    cases I:P.info? f.type with
    |none=>simp[I]at F
    |some i2=>
     simp[I]at F e
     simp[J,←e,F]
  ·cases this) hl Z Y hr X h
 have hb:P.built t ((parts.map λ(x:Nat×Operand)=>(x.1,a.eval x.2)).toList)=some C':=by
  unfold Program.built;simp only[hi,hu,hv,M,Array.toList_map];exact k1
 exact⟨.agg cs',.agg C',k2,by simp only[Rep];exact⟨C',rfl,k4,k3⟩,λw' _=>by
  simp only[execOp,ho,Sem.run_bind,run_build w' t _ C' hb,Result.andThen_ok,Sem.run_pure]⟩
def oY {s:TypeId} {fs:Array Field} {f:Field} {i n:Nat} (I:P.underlying s=some (.struct fs)) (E:fs[i]? =some f) (F:bC P f.type=some (n+1)) (D:Addr) (w':World):
  (Instr.fieldAt s (.pointer (some D)) i).run P w'= .ok (.pointer (some (D.add f.offset))) w':=by
 simp[Instr.fieldAt,run_underlying I,E,Instr.sureAddr,fieldPlace,bF F]
def nx {off:Nat} {x:AV} {u:Value} (E:Rep τ w x u) (h:dG off x K):∃r D,u= .pointer (some D)/\K r/\Rep τ w r (.pointer (some (D.add off))):=by
 unfold dG at h;split at h
 ·simp only[Rep]at E;obtain⟨D,F,I⟩:=E;exact⟨_,D,F,h,by simp only[Rep];exact⟨_,rfl,I.drop off⟩⟩
 ·rename_i b p;simp only[Rep]at E;exact⟨_,_,E,h,by simp only[Rep];rw[add_lit]⟩
 ·exact h.elim
def q_fieldA {t:TypeId} {x:Operand} {fs:Array Field} {f:Field} {i n:Nat} (M:o.op= .fieldAddr t x i) (T:P.underlying t=some (.struct fs)) (F:fs[i]? =some f) (J:bC P f.type=some (n+1))
  (E:Sat G τ w) (D:∀j,Rep τ w (env.get j) (a.tmps.getD j undef)) (h:dG f.offset ((SOpd.of x).eval G env) K):QOk P τ w o a K:=by
 obtain⟨r,V,N,I,O⟩:=nx (au E D x) h
 exact⟨r,_,I,O,λw' _=>by simp[execOp,M,N,oY T F J]⟩
def lg {x:AV} {u:Value} {KI:Int->Prop} (D:Rep τ w x u) (h:intX x KI):∃k n,u= .int k n/\KI n:=by
 unfold intX at h;split at h
 ·simp only[Rep]at D;exact⟨_,_,D,h⟩
 ·exact h.elim
def ng {x:AV} {u:Value} {KR:Nat->List (List AV)->Prop} (D:Rep τ w x u) (h:j9 x KR):
  ∃sz rows,KR sz rows/\((u= .slice none 0 0/\rows=[])\/∃E cap,u= .slice (some E) rows.length cap/\rows.length<=cap/\cap<=maxLen/\aA τ w E sz 0 rows):=by
 unfold j9 at h
 split at h
 ·simp only[Rep]at D
  exact⟨_,_,h,D⟩
 ·rename_i g e sz rows
  cases g with
  |none=>simp only[Rep]at D;exact⟨_,_,h,.inl D⟩
  |some b=>
   simp only[Rep]at D;obtain⟨cap,F,I,J,_,M⟩:=D;exact⟨_,_,h,.inr ⟨_,cap,F,I,J,M⟩⟩
 ·exact h.elim
def q_indexA {t e:TypeId} {x i:Operand} {sz:Nat} (V:o.op= .indexAddr t x i) (X:P.underlying t=some (.slice e)) (T:bC P e=some sz)
  (J:Sat G τ w) (I:∀j,Rep τ w (env.get j) (a.tmps.getD j undef)) (h:oD sz ((SOpd.of x).eval G env) ((SOpd.of i).eval G env) K):QOk P τ w o a K:=by
 unfold oD at h
 split at h
 ·rename_i b off len cap Z
  have F:=au (G:=G) J I x;rw[Z]at F;simp only[Rep]at F;obtain⟨k,n,hi,M,D,N⟩:=lg (au J I i) h;refine⟨_,.pointer (some ⟨b,off+n.toNat*sz,none⟩),N,by simp only[Rep],λw' _=>?_⟩;simp[execOp,V,F,hi,Instr.indexAt,asIntOf,run_underlying X,M,D,bF T,add_lit]
 obtain⟨ac,rows,⟨rfl,h⟩,F⟩:=ng (au J I x) h
 obtain⟨k,n,hi,M,D,N⟩:=lg (au J I i) h
 rcases F with⟨F,O⟩|⟨Y,cap,F,aa,_,O⟩
 ·subst O;simp at D;omega
 ·have E:n.toNat<rows.length:=by omega
  refine⟨_,.pointer (some (Y.add (n.toNat*sz))),N,?_,λw' _=>?_⟩
  ·simp only[Rep];refine⟨_,rfl,?_⟩;have:=O.ref n.toNat E;simpa[getD_eq_getElem?_getD,E]using this
  ·simp[execOp,V,F,hi,Instr.indexAt,asIntOf,run_underlying X,M,D,bF T]
def q_indexP {t e:TypeId} {x i:Operand} {sz len:Nat} (N:o.op= .indexAddr t x i) (V:P.underlying t=some (.array len e)) (M:bC P e=some sz)
  (F:Sat G τ w) (E:∀j,Rep τ w (env.get j) (a.tmps.getD j undef)) (h:indexPX len sz ((SOpd.of x).eval G env) ((SOpd.of i).eval G env) K):QOk P τ w o a K:=by
 obtain⟨k,n,hi,I,D,h⟩:=lg (au F E i) h
 obtain⟨r,X,O,J,T⟩:=nx (au F E x) h
 refine⟨r,_,J,T,λw' _=>?_⟩
 simp[execOp,N,O,hi,Instr.indexAt,Instr.sureAddr,asIntOf,run_underlying V,I,D,bF M]
def lf {x:AV} {u:Value} {KS:List UInt8->Prop} (D:Rep τ w x u) (h:strX x KS):∃s,u= .string ⟨⟨s⟩⟩/\KS s:=by
 unfold strX at h;split at h
 ·simp only[Rep]at D;exact⟨_,D,h⟩
 ·exact h.elim
def jC (s:List UInt8):(ByteArray.mk (Array.mk s)).size=s.length:=rfl
def pZ (s:List UInt8) (i:Nat):(ByteArray.mk (Array.mk s))[i]? =s[i]? :=by
 by_cases h:i<s.length
 ·rw[ByteArray.getElem?_lt' _ _ (by rw[jC];exact h),getElem?_eq_getElem h];rfl
 ·rw[ByteArray.getElem?_ge' _ _ (by rw[jC];exact h),getElem?_eq_none (by omega)]
def q_index {t:TypeId} {x i:Operand} (N:o.op= .index t x i) (O:P.underlying t=some .string)
  (F:Sat G τ w) (E:∀j,Rep τ w (env.get j) (a.tmps.getD j undef)) (h:charX ((SOpd.of x).eval G env) ((SOpd.of i).eval G env) K):QOk P τ w o a K:=by
 obtain⟨s,T,h⟩:=lf (au F E x) h
 obtain⟨k,n,hi,I,M,J⟩:=lg (au F E i) h
 have D:n.toNat<s.length:=by omega
 refine⟨_,.int .u8 ((s.getD n.toNat 0).toNat),J,by simp only[Rep],λw' _=>?_⟩
 simp[execOp,N,T,hi,Instr.index,asIntOf,run_underlying O,I,pZ,D,getD_eq_getElem?_getD]
def eN {env:Env} {d:Int} {x:Option Operand} {KI:Int->Prop} (F:Sat G τ w) (E:∀j,Rep τ w (env.get j) (a.tmps.getD j undef)) (h:fi G env d (x.map SOpd.of) KI):
  ∃n,KI n/\((x=none/\n=d)\/∃y k,x=some y/\a.eval y= .int k n):=by
 cases x with
 |none=>exact⟨d,h,.inl ⟨rfl,rfl⟩⟩
 |some y=>
  simp only[Option.map_some,fi]at h;have D:=au (G:=G) F E y;split at h
  ·rename_i k n I;rw[I]at D;simp only[Rep]at D;exact⟨n,h,.inr ⟨y,k,rfl,D⟩⟩
  ·exact h.elim
def lS {b:Bool} {len cap:Nat} {lo hi:Option Operand} {l h:Int} (F:0<=l) (Y:l<=h) (I:h<=cap) (_hlc:len<=cap)
  (X:(lo=none/\l=0)\/∃y k,lo=some y/\a.eval y= .int k l) (V:(hi=none/\h=len)\/∃y k,hi=some y/\a.eval y= .int k h) (w':World):
  (Instr.sliceBounds b len cap (lo.map a.eval) (hi.map a.eval) none).run P w'= .ok (l.toNat,h.toNat,cap) w':=by
 have E:∀(k:IntKind) (i:Int) (y:Nat) (D:BoundsCode),0<=i->i<=y->(Instr.sliceBound (.int k i) y D).run P w'= .ok i.toNat w':=λk i y D O T=>by
  simp[Instr.sliceBound,asIntOf,O,T]
 rcases V with⟨rfl,rfl⟩|⟨y,k,rfl,J⟩<;>rcases X with⟨rfl,rfl⟩|⟨z,N,rfl,M⟩
 ·simp[Instr.sliceBounds]
 ·simp only[Option.map_none,Option.map_some,Instr.sliceBounds,M]
  simp[E N l len _ F (by omega)]
 ·simp only[Option.map_none,Option.map_some,Instr.sliceBounds,J]
  simp[E k h cap _ (by omega) I]
 ·simp only[Option.map_some,Instr.sliceBounds,J,M]
  simp[E k h cap _ (by omega) I,E N l h.toNat _ F (by omega)]
def q_sliceS {t:TypeId} {x:Operand} {lo hi:Option Operand} (V:o.op= .slice t x lo hi none) (X:P.underlying t=some .string)
  (E:Sat G τ w) (D:∀j,Rep τ w (env.get j) (a.tmps.getD j undef))
  (h:strX ((SOpd.of x).eval G env) λs=>fi G env 0 (lo.map SOpd.of) λl=>fi G env s.length (hi.map SOpd.of) λh=>0<=l/\l<=h/\h<=s.length/\K (.str ((s.take h.toNat).drop l.toNat))):QOk P τ w o a K:=by
 obtain⟨s,Y,h⟩:=lf (au E D x) h
 obtain⟨l,h,T⟩:=eN E D h
 obtain⟨m,⟨F,I,J,O⟩,N⟩:=eN E D h
 have M:=λw'=>lS (P:=P) (b:=false) (len:=s.length) (cap:=s.length) F I J (Nat.le_refl _) T N w'
 refine⟨_,.string ⟨⟨(s.take m.toNat).drop l.toNat⟩⟩,O,by simp only[Rep],λw' _=>?_⟩
 have e:(ByteArray.mk (Array.mk s)).extract l.toNat m.toNat=⟨⟨(s.take m.toNat).drop l.toNat⟩⟩:=by
  have:((ByteArray.mk (Array.mk s)).extract l.toNat m.toNat).data=⟨(s.take m.toNat).drop l.toNat⟩:=by
   rw[ByteArray.data_extract];apply Array.ext';simp[drop_take]
  generalize (ByteArray.mk (Array.mk s)).extract l.toNat m.toNat=b at*
  cases b;simp at this;simp[this]
 simp[execOp,V,Y,Instr.sliceAt,run_underlying X,Instr.slice,jC,M,e]
def q_slice {t e:TypeId} {x:Operand} {lo hi:Option Operand} {sz:Nat} (ho:o.op= .slice t x lo hi none) (hu:P.underlying t=some (.slice e)) (hn:bC P e=some sz)
  (M:Sat G τ w) (J:∀j,Rep τ w (env.get j) (a.tmps.getD j undef)) (h:kR G env sz ((SOpd.of x).eval G env) (lo.map SOpd.of) (hi.map SOpd.of) K):QOk P τ w o a K:=by
 have D:=au (G:=G) M J x
 have run:∀(E:Option Addr) (n cap:Nat) (l m:Int),a.eval x= .slice E n cap->n<=cap->0<=l->l<=m->m<=cap->
   ((lo=none/\l=0)\/∃y k,lo=some y/\a.eval y= .int k l)->((hi=none/\m=n)\/∃y k,hi=some y/\a.eval y= .int k m)->
   ∀w',(execOp a.eval o).run P w'= .ok (.value (.slice (if cap=l.toNat then E else E.map (·.add (l.toNat*sz))) (m.toNat-l.toNat) (cap-l.toNat))) w':=by
  intro E n cap l m hv ah O T h2 I F w'
  have hb:=lS (P:=P) (a:=a) (b:=true) (len:=n) (cap:=cap) O T h2 ah I F w'
  simp[execOp,ho,hv,Instr.sliceAt,run_underlying hu,Instr.slice,hb,bF hn]
 have Z:j9 ((SOpd.of x).eval G env) (λaa rows=>fi G env 0 (lo.map SOpd.of) λl=>fi G env rows.length (hi.map SOpd.of) λh=>
   sz=aa/\0<=l/\l<=h/\h<=rows.length/\K (.lst sz ((rows.take h.toNat).drop l.toNat)))->QOk P τ w o a K:=by
  intro h
  obtain⟨aa,rows,h,D⟩:=ng D h
  obtain⟨l,h,I⟩:=eN M J h
  obtain⟨m,⟨rfl,O,T,h2,N⟩,F⟩:=eN M J h
  rcases D with⟨D,hr⟩|⟨E,cap,D,ac,al,hr⟩
  ·subst hr
   simp at h2
   obtain rfl:l=0:=by omega
   obtain rfl:m=0:=by omega
   refine⟨_,.slice none 0 0,N,by simp[Rep],λw' _=>?_⟩;rw[run none 0 0 0 0 D (by omega) (by omega) (by omega) (by omega) I F w'];simp
  ·refine⟨_,_,N,?_,λw' _=>run (some E) rows.length cap l m D ac O T (by omega) I F w'⟩
   simp only[Rep];right
   have V:((rows.take m.toNat).drop l.toNat).length=m.toNat-l.toNat:=by simp;omega
   refine⟨if cap=l.toNat then E else E.add (l.toNat*sz),cap-l.toNat,?_,by omega,by omega,?_⟩
   ·rw[V];split<;>simp
   ·split
    ·rename_i hc;have:(rows.take m.toNat).drop l.toNat=[]:=eq_nil_of_length_eq_zero (by omega);rw[this];simp only[aA]
    ·exact aA.drop l.toNat (aA.take m.toNat hr)
 unfold kR at h
 split at h
 ·rename_i X
  rw[X]at D;simp only[Rep]at D;obtain⟨l,h,I⟩:=eN M J h;obtain⟨m,⟨rfl,rfl,N⟩,F⟩:=eN M J h;refine⟨_,.slice none 0 0,N,by simp[Rep],λw' _=>?_⟩;rw[run none 0 0 0 0 D (by omega) (by omega) (by omega) (by omega) I F w'];simp
 ·rename_i b off len cap Y
  rw[Y]at D;simp only[Rep]at D;obtain⟨l,h,I⟩:=eN M J h;obtain⟨m,⟨O,T,h2,h3,h4,N⟩,F⟩:=eN M J h;refine⟨_,.slice (some ⟨b,off+l.toNat*sz,none⟩) (m.toNat-l.toNat) (cap-l.toNat),N,by simp only[Rep],λw' _=>?_⟩;rw[run (some ⟨b,off,none⟩) len cap l m D h3 O T (by omega) I F w'];rw[if_neg (show ¬cap=l.toNat by omega)];simp[add_lit]
 ·exact Z h
def q_extract {x:Operand} {i:Nat} (O:o.op= .extract x i) (I:Sat G τ w) (F:∀j,Rep τ w (env.get j) (a.tmps.getD j undef)) (h:tupX i ((SOpd.of x).eval G env) K):QOk P τ w o a K:=by
 have D:=au (G:=G) I F x;unfold tupX at h;split at h
 ·rename_i cs J;rw[J]at D;simp only[Rep]at D;obtain⟨vs,T,E⟩:=D;have N:=E.length
  have hi:i<vs.size:=by simp at N;omega
  have M:=E.get i h.1 (by simpa using hi);refine⟨_,vs[i],h.2,?_,λw' _=>?_⟩
  ·simpa[getD_eq_getElem?_getD,h.1]using M
  ·simp[execOp,O,T,Instr.extract,hi]
 ·exact h.elim
def q_not {t:TypeId} {x:Operand} (J:o.op= .unOp .not t x) (F:Sat G τ w) (E:∀j,Rep τ w (env.get j) (a.tmps.getD j undef)) (h:i6 ((SOpd.of x).eval G env) λb=>K (.bool (!b))):QOk P τ w o a K:=by
 have D:=au (G:=G) F E x;unfold i6 at h;split at h
 ·rename_i b I;rw[I]at D;simp only[Rep]at D;exact⟨_,.bool (!b),h,by simp only[Rep],λw' _=>by simp[execOp,J,D,Op.unary]⟩
 ·exact h.elim
def q_conv {s d:TypeId} {x:Operand} {k j:IntKind} (M:o.op= .convert s d x) (N:P.underlying s=some (.int j)) (I:P.underlying d=some (.int k))
  (F:Sat G τ w) (E:∀j,Rep τ w (env.get j) (a.tmps.getD j undef)) (h:convX k ((SOpd.of x).eval G env) K):QOk P τ w o a K:=by
 have D:=au (G:=G) F E x
 unfold convX at h
 split at h
 ·rename_i O n J
  rw[J]at D;simp only[Rep]at D;exact⟨_,.int k (k.wrap n),h,by simp only[Rep],λw' _=>by simp[execOp,M,D,convert,run_underlying N,run_underlying I,Conv.intToInt]⟩
 ·exact h.elim
def q_str {s d:TypeId} {x:Operand} (J:o.op= .convert s d x) (M:P.underlying s=some .string) (F:P.underlying d=some .string)
  (E:Sat G τ w) (D:∀j,Rep τ w (env.get j) (a.tmps.getD j undef)) (h:strX ((SOpd.of x).eval G env) λs=>K (.str s)):QOk P τ w o a K:=by
 obtain⟨l,N,I⟩:=lf (au E D x) h
 exact⟨_,.string ⟨⟨l⟩⟩,I,by simp only[Rep],λw' _=>by simp[execOp,J,N,convert,run_underlying M,run_underlying F]⟩
def q_lenS {t:TypeId} {x:Operand} (I:o.op= .call {callee:=.builtin .len,args:=#[x],argTypes:=#[t]}) (J:P.underlying t=some .string)
  (E:Sat G τ w) (D:∀j,Rep τ w (env.get j) (a.tmps.getD j undef)) (h:strX ((SOpd.of x).eval G env) λs=>K (.i s.length)):QOk P τ w o a K:=by
 obtain⟨s,M,F⟩:=lf (au E D x) h
 exact⟨_,.i s.length,F,by simp only[Rep],λw' _=>by simp[execOp,I,resolve,invoke,builtin,M,Builtin.len_,run_underlying J,goInt,jC]⟩
def q_len {t e:TypeId} {x:Operand} (N:o.op= .call {callee:=.builtin .len,args:=#[x],argTypes:=#[t]}) (T:P.underlying t=some (.slice e))
  (M:Sat G τ w) (J:∀j,Rep τ w (env.get j) (a.tmps.getD j undef)) (h:lenX ((SOpd.of x).eval G env) K):QOk P τ w o a K:=by
 have D:=au (G:=G) M J x
 have E:∀I n c,a.eval x= .slice I n c->∀w',(execOp a.eval o).run P w'= .ok (.value (.i n)) w':=by
  intro I n c V w';simp[execOp,N,resolve,invoke,builtin,V,Builtin.len_,run_underlying T,goInt]
 unfold lenX at h
 split at h
 ·rename_i sz rows F
  rw[F]at D;simp only[Rep]at D
  rcases D with⟨D,O⟩|⟨I,cap,D,_⟩
  ·exact⟨_,.i rows.length,h,by simp only[Rep],λw' _=>by rw[E _ _ _ D,O];rfl⟩
  ·exact⟨_,.i rows.length,h,by simp only[Rep],λw' _=>E _ _ _ D w'⟩
 ·rename_i g e sz rows F
  rw[F]at D
  cases g with
  |none=>
   simp only[Rep]at D;exact⟨_,.i rows.length,h,by simp only[Rep],λw' _=>by rw[E _ _ _ D.1,D.2];rfl⟩
  |some b=>
   simp only[Rep]at D;obtain⟨cap,D,_⟩:=D;exact⟨_,.i rows.length,h,by simp only[Rep],λw' _=>E _ _ _ D w'⟩
 ·rename_i F
  rw[F]at D;simp only[Rep]at D;exact⟨_,.i 0,h,by simp only[Rep],λw' _=>E _ _ _ D w'⟩
 ·rename_i r n c F
  rw[F]at D;simp only[Rep]at D;exact⟨_,.i n,h,by simp only[Rep],λw' _=>E _ _ _ D w'⟩
 ·exact h.elim
def q_mkI {t:TypeId} {x:Operand} {d:TypeDesc} (M:o.op= .makeInterface t x) (N:P.underlying t=some d) (I:∀m,d≠ .interface m) (F:Sat G τ w) (E:∀j,Rep τ w (env.get j) (a.tmps.getD j undef))
  (h:scX ((SOpd.of x).eval G env) λv=>K (.sc (.iface t v))):QOk P τ w o a K:=by
 have D:=au (G:=G) F E x
 unfold scX at h
 split at h
 ·rename_i v J
  rw[J]at D;simp only[Rep]at D;refine⟨_,.iface t v,h,by simp only[Rep],λw' _=>?_⟩
  cases d<;>first
   |exact absurd rfl (I _)
   |simp[execOp,M,D,Instr.makeInterface,run_underlying N]
 ·exact h.elim
end
section
variable {G:Glob} {P:Program} {τ:Store} {w:World} {env:Env} {a:Act} {o:Oper} {K:AV->Prop}
def jA {k:IntKind} {n:Int} (D:K (.int k n)) (h:∀w',(execOp a.eval o).run P w'= .ok (.value (.int k n)) w'):QOk P τ w o a K:=⟨_,_,D,by simp only[Rep],λw' _=>h w'⟩
def ce {b:Bool} (D:K (.bool b)) (h:∀w',(execOp a.eval o).run P w'= .ok (.value (.bool b)) w'):QOk P τ w o a K:=⟨_,_,D,by simp only[Rep],λw' _=>h w'⟩
def qok_str {s:List UInt8} (D:K (.str s)) (h:∀w',(execOp a.eval o).run P w'= .ok (.value (.string ⟨⟨s⟩⟩)) w'):QOk P τ w o a K:=⟨_,_,D,by simp only[Rep],λw' _=>h w'⟩
def ie {t:TypeId} {d:TypeDesc} {n:Nat} (M:P.underlying t=some d) (J:bC P t=some n) (cs:Array Value) (off:Nat) (E:(aggD d||n==1)=true) (I:off+n<=cs.size) (w':World):
  (part t cs off).run P w'= .ok (if aggD d then .agg (cs.extract off (off+n))else (cs.toList.drop off).headD undef) w':=by
 unfold part
 rw[Sem.run_bind,cW M]
 cases F:aggD d with
 |true=>simp[bF J]
 |false=>
  simp[F]at E
  have D:off<cs.size:=by omega
  simp[D]
def oy {x:AV} {u:Value} {KL:List AV->Prop} (D:Rep τ w x u) (h:aggX x KL):∃cs vs,u= .agg vs/\KL cs/\(∀v∈vs.toList,v.oneCell'=true)/\RepL τ w cs vs.toList:=by
 unfold aggX at h;split at h
 ·simp only[Rep]at D;obtain⟨vs,E,F,I⟩:=D;exact⟨_,vs,E,h,F,I⟩
 ·exact h.elim
def pQ {x:AV} {u:Value} {KB:Bool->Prop} (D:Rep τ w x u) (h:i6 x KB):∃b,u= .bool b/\KB b:=by
 unfold i6 at h;split at h
 ·simp only[Rep]at D;exact⟨_,D,h⟩
 ·exact h.elim
def q_field {t:TypeId} {x:Operand} {fs:Array Field} {f:Field} {i n:Nat} {d:TypeDesc} (Y:o.op= .field t x i) (Z:P.underlying t=some (.struct fs)) (T:fs[i]? =some f) (O:P.underlying f.type=some d) (X:bC P f.type=some n)
  (N:(aggD d||n==1)=true) (hS:Sat G τ w) (hE:∀j,Rep τ w (env.get j) (a.tmps.getD j undef)) (h:aggX ((SOpd.of x).eval G env) λcs=>fR (aggD d) n (cs.drop f.offset) K):QOk P τ w o a K:=by
 obtain⟨cs,vs,hx,⟨F,V⟩,J,M⟩:=oy (au hS hE x) h
 have hl:=M.length
 by_cases hz:n=0
 ·subst hz
  have E:aggD d=true:=by simpa using N
  refine⟨_,.agg #[],V,?_,λw' _=>?_⟩
  ·simp only[E,if_true,take_zero,Rep];exact⟨#[],rfl,by simp,by simp[RepL]⟩
  ·have:(part f.type vs f.offset).run P w'= .ok (.agg #[]) w':=by
    unfold part;rw[Sem.run_bind,cW O]
    have e:vs.extract f.offset f.offset=#[]:=by apply Array.ext';simp
    simp[E,bF X,e]
   simp[execOp,Y,hx,Instr.field,run_underlying Z,T,asAgg,this]
 ·have I:f.offset+n<=vs.size:=by simp at F hl;omega
  refine⟨_,if aggD d then .agg (vs.extract f.offset (f.offset+n))else (vs.toList.drop f.offset).headD undef,V,?_,λw' _=>?_⟩
  ·cases E:aggD d with
   |true=>
    simp only[if_true,Rep]
    have e:(vs.extract f.offset (f.offset+n)).toList=(vs.toList.drop f.offset).take n:=by
     simp
    refine⟨_,rfl,λv hv=>J v ?_,?_⟩
    ·rw[e]at hv;exact mem_of_mem_drop (mem_of_mem_take hv)
    ·rw[e];exact RepL.take n (RepL.drop _ M)
   |false=>
    simp only[Bool.false_eq_true,if_false];have D:=RepL.drop f.offset M;generalize cs.drop f.offset=xs at F D;generalize vs.toList.drop f.offset=us at D
    cases xs with
    |nil=>simp at F;omega
    |cons x xs=>
     simp only[RepL]at D;obtain⟨u,aa,rfl,h2,_⟩:=D;exact h2
  ·simp[execOp,Y,hx,Instr.field,run_underlying Z,T,asAgg,ie O X vs f.offset N I]
def rE (s:List UInt8):(ByteArray.mk (Array.mk s)).toList=s:=ByteArray.toList_mk s
def append_mk (s t:List UInt8):(ByteArray.mk (Array.mk s))++(ByteArray.mk (Array.mk t))=⟨⟨s++t⟩⟩:=by
 have:((ByteArray.mk (Array.mk s))++(ByteArray.mk (Array.mk t))).data=⟨s++t⟩:=by
  rw[ByteArray.data_append];simp
 generalize (ByteArray.mk (Array.mk s))++(ByteArray.mk (Array.mk t))=b at*
 cases b;simp at this;simp[this]
def q_bin {t u:TypeId} {op:BinOp} {x y:Operand} (F:o.op= .binOp op t x y u) (N:op= .add\/op= .sub\/op= .mul\/op= .quo\/op= .rem\/op= .eql\/op= .neq\/op= .lss\/op= .leq\/op= .gtr\/op= .geq)
  (Z:Sat G τ w) (Y:∀j,Rep τ w (env.get j) (a.tmps.getD j undef)) (h:fj op ((SOpd.of x).eval G env) ((SOpd.of y).eval G env) K):QOk P τ w o a K:=by
 have D:=au (G:=G) Z Y x
 have E:=au (G:=G) Z Y y
 unfold fj at h
 split at h
 ·rename_i k1 I k2 J T V
  rw[T]at D;rw[V]at E;simp only[Rep]at D E;obtain⟨rfl,h⟩:=h
  rcases N with rfl|rfl|rfl|rfl|rfl|rfl|rfl|rfl|rfl|rfl|rfl<;>simp only at h
  ·exact jA h (λw'=>by simp[execOp,F,D,E,eqGuard,binOp,Op.intArith])
  ·exact jA h (λw'=>by simp[execOp,F,D,E,eqGuard,binOp,Op.intArith])
  ·exact jA h (λw'=>by simp[execOp,F,D,E,eqGuard,binOp,Op.intArith])
  ·exact jA h.2 (λw'=>by simp[execOp,F,D,E,eqGuard,binOp,Op.intDiv,h.1])
  ·exact jA h.2 (λw'=>by simp[execOp,F,D,E,eqGuard,binOp,Op.intDiv,h.1])
  ·refine ce h (λw'=>?_)
   have e:(I==J)=decide (I=J):=by by_cases M:I=J<;>simp[M]
   simp[execOp,F,D,E,eqGuard,binOp,Op.intCmp,e]
  ·refine ce h (λw'=>?_)
   have e:(I != J)=decide (I≠J):=by by_cases M:I=J<;>simp[M]
   simp[execOp,F,D,E,eqGuard,binOp,Op.intCmp,e]
  ·exact ce h (λw'=>by simp[execOp,F,D,E,eqGuard,binOp,Op.intCmp])
  ·exact ce h (λw'=>by simp[execOp,F,D,E,eqGuard,binOp,Op.intCmp])
  ·exact ce h (λw'=>by simp[execOp,F,D,E,eqGuard,binOp,Op.intCmp])
  ·exact ce h (λw'=>by simp[execOp,F,D,E,eqGuard,binOp,Op.intCmp])
 ·rename_i s1 s2 T V
  rw[T]at D;rw[V]at E;simp only[Rep]at D E
  have O:(s1==s2)=decide (s1=s2):=by by_cases M:s1=s2<;>simp[M]
  rcases N with rfl|rfl|rfl|rfl|rfl|rfl|rfl|rfl|rfl|rfl|rfl<;>simp only at h
  ·refine qok_str h.2 (λw'=>?_)
   have hm:¬((s1.length+s2.length:Nat):Int)>IntKind.i64.max:=by
    have e:IntKind.i64.max=9223372036854775807:=by decide
    rw[e];omega
   have X:Op.stringOp .add ⟨⟨s1⟩⟩ ⟨⟨s2⟩⟩=pure (.string ⟨⟨s1++s2⟩⟩):=by
    simp only[Op.stringOp,jC];rw[if_neg hm,append_mk]
   simp only[execOp,F,D,E,eqGuard,binOp,X];simp
  ·refine ce h (λw'=>?_);simp[execOp,F,D,E,eqGuard,binOp,Op.stringOp,O]
  ·refine ce h (λw'=>?_);simp[execOp,F,D,E,eqGuard,binOp,Op.stringOp,O]
  ·refine ce h (λw'=>?_);simp[execOp,F,D,E,eqGuard,binOp,Op.stringOp]
  ·refine ce h (λw'=>?_);simp[execOp,F,D,E,eqGuard,binOp,Op.stringOp,O]
  ·refine ce h (λw'=>?_);simp[execOp,F,D,E,eqGuard,binOp,Op.stringOp,O]
  ·refine ce h (λw'=>?_);simp[execOp,F,D,E,eqGuard,binOp,Op.stringOp]
 ·exact h.elim
def bT {op:BinOp} {t:TypeId} {x y:Operand} {u v:Value} (E:u.oneCell'=true) (D:∀(_:u= .nilIface),False) (w':World):(eqGuard op t x y u v).run P w'= .ok () w':=by
 unfold eqGuard
 cases op<;>simp
 all_goals(cases u<;>simp_all[Value.oneCell'])
def q_eqb {t u:TypeId} {neg:Bool} {x y:Operand} (D:o.op= .binOp (if neg then .neq else .eql) t x y u) (J:P.underlying t=some .bool)
  (F:Sat G τ w) (E:∀j,Rep τ w (env.get j) (a.tmps.getD j undef)) (h:i6 ((SOpd.of x).eval G env) λp=>i6 ((SOpd.of y).eval G env) λq=>K (.bool (if neg then p != q else p==q))):QOk P τ w o a K:=by
 obtain⟨p,M,h⟩:=pQ (au F E x) h
 obtain⟨q,N,h⟩:=pQ (au F E y) h
 refine ce h (λw'=>?_)
 have I:=λop=>bT (P:=P) (op:=op) (t:=t) (x:=x) (y:=y) (u:=.bool p) (v:=.bool q) rfl (λe=>by cases e) w'
 cases neg with
 |true=>
  simp only[if_true]at D;simp only[execOp,D,M,N,Sem.run_bind,I,Result.andThen_ok,run_neq_bool w' t p q J]
  cases p<;>cases q<;>rfl
 |false=>
  simp only[Bool.false_eq_true,if_false]at D;simp only[execOp,D,M,N,Sem.run_bind,I,Result.andThen_ok,run_eql_bool w' t p q J];rfl
def eqK:List Nat->List Value->List Value->Option Bool
 |[],_,_=>some true
 |0::ks,.bool a::xs,.bool b::ys=>(eqK ks xs ys).map ((a==b)&& ·)
 |1::ks,.int k a::xs,.int k' b::ys=>if k=k' then (eqK ks xs ys).map (decide (a=b)&& ·)else none
 |2::ks,.string a::xs,.string b::ys=>(eqK ks xs ys).map ((a.toList==b.toList)&& ·)
 |_,_,_=>none
def eqK_of_AV:∀(ks:List Nat) (xs ys:List AV) (us vs:List Value) (r:Bool),RepL τ w xs us->RepL τ w ys vs->eqAV ks xs ys=some r->eqK ks us vs=some r/\us.length=ks.length/\vs.length=ks.length:=by
 intro ks
 induction ks with
 |nil=>
  intro xs ys us vs r F I h
  match xs,ys,h with
  |[],[],h=>simp only[RepL]at F I;subst F I;simpa[eqAV,eqK]using h
 |cons k ks ih=>
  intro xs ys us vs r F I h;unfold eqAV at h;split at h
  ·simp_all
  ·rename_i Y a D b E X
   cases X
   simp only[RepL,Rep]at F I;obtain⟨_,M,rfl,rfl,F⟩:=F;obtain⟨_,N,rfl,rfl,I⟩:=I
   cases J:eqAV ks D E with
   |none=>simp[J]at h
   |some r'=>
    obtain⟨O,T,V⟩:=ih D E M N r' F I J;refine⟨?_,by simp[T],by simp[V]⟩;simpa[eqK,O,J]using h
  ·rename_i Y k1 a D k2 b E X
   cases X
   split at h
   ·rename_i hk;simp only[RepL,Rep]at F I;obtain⟨_,M,rfl,rfl,F⟩:=F;obtain⟨_,N,rfl,rfl,I⟩:=I
    cases J:eqAV ks D E with
    |none=>simp[J]at h
    |some r'=>
     obtain⟨O,T,V⟩:=ih D E M N r' F I J;refine⟨?_,by simp[T],by simp[V]⟩;simpa[eqK,O,J,hk]using h
   ·cases h
  ·rename_i Y a D b E X
   cases X
   simp only[RepL,Rep]at F I;obtain⟨_,M,rfl,rfl,F⟩:=F;obtain⟨_,N,rfl,rfl,I⟩:=I
   cases J:eqAV ks D E with
   |none=>simp[J]at h
   |some r'=>
    obtain⟨O,T,V⟩:=ih D E M N r' F I J;refine⟨?_,by simp[T],by simp[V]⟩
    have Z:(a==b)=decide (a=b):=by by_cases hc:a=b<;>simp[hc]
    simpa[eqK,O,J,rE,Z]using h
  ·cases h
def gD:∀(k1 I:List Nat) (xs ys:List Value) (r:Bool),eqK (k1++I) xs ys=some r->∃r1 r2,eqK k1 xs ys=some r1/\eqK I (xs.drop k1.length) (ys.drop k1.length)=some r2/\r=(r1&&r2)
 |[],I,xs,ys,r,h=>⟨true,r,by simp[eqK],by simpa using h,by simp⟩
 |k::k1,I,xs,ys,r,h=>by
  rw[cons_append]at h;unfold eqK at h;split at h
  ·simp_all
  ·rename_i O a D b E N
   cases N
   cases F:eqK (k1++I) D E with
   |none=>simp[F]at h
   |some r'=>
    obtain⟨r1,r2,J,M,rfl⟩:=gD k1 I D E r' F;refine⟨(a==b)&&r1,r2,by simp[eqK,J],by simpa using M,?_⟩;simp[F]at h;rw[←h,Bool.and_assoc]
  ·rename_i O V a D X b E N
   cases N
   split at h
   ·rename_i T
    cases F:eqK (k1++I) D E with
    |none=>simp[F]at h
    |some r'=>
     obtain⟨r1,r2,J,M,rfl⟩:=gD k1 I D E r' F;refine⟨decide (a=b)&&r1,r2,by simp[eqK,J,T],by simpa using M,?_⟩;simp[F]at h;rw[←h,Bool.and_assoc]
   ·cases h
  ·rename_i O a D b E N
   cases N
   cases F:eqK (k1++I) D E with
   |none=>simp[F]at h
   |some r'=>
    obtain⟨r1,r2,J,M,rfl⟩:=gD k1 I D E r' F;refine⟨(a.toList==b.toList)&&r1,r2,by simp[eqK,J],by simpa using M,?_⟩;simp[F]at h;rw[←h,Bool.and_assoc]
  ·cases h
def pg:∀(ks:List Nat) (n:Nat) (xs ys:List Value),ks.length<=n->eqK ks (xs.take n) (ys.take n)=eqK ks xs ys
 |[],n,xs,ys,_=>by simp[eqK]
 |k::ks,n+1,xs,ys,h=>by
  have ih:=λxs ys=>pg ks n xs ys (by simpa using h)
  cases xs with
  |nil=>simp[eqK]
  |cons x xs=>
   cases ys with
   |nil=>simp[eqK]
   |cons y ys=>
    simp only[take_succ_cons]
    rcases k with _|_|_|k<;>(cases x<;>cases y<;>first|(simp only[eqK,ih];done)|(show Option.map _ (eqK ks (List.take n xs) (List.take n ys))=_;rw[ih];rfl)|(show(if _=_ then Option.map _ (eqK ks (List.take n xs) (List.take n ys))else none)=_;rw[ih];rfl)|rfl)
 |k::ks,0,xs,ys,h=>by simp at h
def FlatOk (P:Program) (d:Nat):Prop:=
 ∀(t:TypeId) (ks:List Nat),dY P d t=some ks->∀(D:Nat) (xs ys:Array Value) (off:Nat) (r:Bool),d<=D->off+ks.length<=xs.size->off+ks.length<=ys.size->
  eqK ks (xs.toList.drop off) (ys.toList.drop off)=some r->∀w':World,
  ∃u v,(part t xs off).run P w'= .ok u w'/\(part t ys off).run P w'= .ok v w'/\(Op.equalIn (D+1) t u v).run P w'= .ok r w'
def eF {d:Nat} (I:FlatOk P d):∀(fs:List Field) (off:Nat) (ks:List Nat),fO (dY P d) fs off=some ks->∀(D:Nat) (xs ys:Array Value) (r:Bool),d<=D->off+ks.length<=xs.size->off+ks.length<=ys.size->
  eqK ks (xs.toList.drop off) (ys.toList.drop off)=some r->∀w':World,(Op.eqFields (D+1) xs ys fs).run P w'= .ok r w'
 |[],off,ks,h,D,xs,ys,r,_,_,_,he,w'=>by
  simp only[fO]at h
  cases h
  simp[eqK]at he;subst he;simp[Op.eqFields]
 |f::fs,off,ks,h,D,xs,ys,r,hD,hx,hy,he,w'=>by
  simp only[fO]at h;split at h
  ·cases h
  rename_i E;simp at E;split at h
  ·rename_i k1 N;split at h
   ·rename_i J O
    cases h
    obtain⟨r1,r2,M,F,rfl⟩:=gD k1 J _ _ r he;simp only[length_append]at hx hy;obtain⟨u,v,T,V,X⟩:=I f.type k1 N D xs ys f.offset r1 hD (by rw[E.2];omega) (by rw[E.2];omega) (by rw[E.2];exact M) w';simp only[Op.eqFields,if_pos (show f.name≠ "_" from E.1),Sem.run_bind,T,V,X,Result.andThen_ok]
    cases r1 with
    |false=>simp
    |true=>
     have:=eF I fs (off+k1.length) J O D xs ys r2 hD (by omega) (by omega) (by rw[drop_drop]at F;rw[drop_drop]at F;exact F) w';simpa using this
   ·cases h
  ·cases h
def flatOk (P:Program):∀d,FlatOk P d
 |0,t,ks,h=>by simp[dY]at h
 |d+1,t,ks,h=>by
  intro D xs ys off r hD O T F w';simp only[dY]at h;split at h
  ·rename_i E
   cases h
   simp at O T
   have J:xs.toList.drop off=xs[off]::xs.toList.drop (off+1):=by rw[drop_eq_getElem_cons (by simp;omega)];simp
   have M:ys.toList.drop off=ys[off]::ys.toList.drop (off+1):=by rw[drop_eq_getElem_cons (by simp;omega)];simp
   rw[J,M]at F;refine⟨xs[off],ys[off],?_,?_,?_⟩
   ·unfold part;rw[Sem.run_bind,cW E];simp[aggD,show off<xs.size by omega]
   ·unfold part;rw[Sem.run_bind,cW E];simp[aggD,show off<ys.size by omega]
   ·generalize xs[off]=x at*;generalize ys[off]=y at*
    cases x<;>cases y<;>simp[eqK]at F
    subst F;exact run_equalIn_bool' w' D t _ _ E
  ·rename_i E
   cases h
   simp at O T
   have J:xs.toList.drop off=xs[off]::xs.toList.drop (off+1):=by rw[drop_eq_getElem_cons (by simp;omega)];simp
   have M:ys.toList.drop off=ys[off]::ys.toList.drop (off+1):=by rw[drop_eq_getElem_cons (by simp;omega)];simp
   rw[J,M]at F;refine⟨xs[off],ys[off],?_,?_,?_⟩
   ·unfold part;rw[Sem.run_bind,cW E];simp[aggD,show off<xs.size by omega]
   ·unfold part;rw[Sem.run_bind,cW E];simp[aggD,show off<ys.size by omega]
   ·generalize xs[off]=x at*;generalize ys[off]=y at*
    cases x<;>cases y<;>simp[eqK]at F
    obtain⟨rfl,rfl⟩:=F;rw[run_equalIn_int w' D t _ _ _ _ E];rename_i k a b;by_cases hc:a=b<;>simp[hc]
  ·rename_i E
   cases h
   simp at O T
   have J:xs.toList.drop off=xs[off]::xs.toList.drop (off+1):=by rw[drop_eq_getElem_cons (by simp;omega)];simp
   have M:ys.toList.drop off=ys[off]::ys.toList.drop (off+1):=by rw[drop_eq_getElem_cons (by simp;omega)];simp
   rw[J,M]at F;refine⟨xs[off],ys[off],?_,?_,?_⟩
   ·unfold part;rw[Sem.run_bind,cW E];simp[aggD,show off<xs.size by omega]
   ·unfold part;rw[Sem.run_bind,cW E];simp[aggD,show off<ys.size by omega]
   ·generalize xs[off]=x at*;generalize ys[off]=y at*
    cases x<;>cases y<;>simp[eqK]at F
    subst F;exact run_equalIn_string w' D t _ _ E
  ·rename_i fs E;split at h
   ·cases h
   rename_i Y;split at h
   ·rename_i ad X;split at h
    ·rename_i Z
     cases h
     have I:bC P t=some ks.length:=by simpa using Z
     have N:aggD (.struct fs)=true:=rfl;refine⟨_,_,ie E I xs off (by simp[N]) O w',ie E I ys off (by simp[N]) T w',?_⟩;simp only[N,if_true]
     have ht:P.underlying t=some (.struct (P.fieldsOf t)):=by simp[Program.fieldsOf,E]
     have V:P.fieldsOf t=fs:=by simp[Program.fieldsOf,E]
     obtain⟨D',rfl⟩:∃D',D=D'+1:=⟨D-1,by omega⟩;rw[run_equalIn_struct w' (D'+1) t _ _ ht (by simpa using Y),V]
     have aa:(xs.extract off (off+ks.length)).size=ks.length:=by simp;omega
     have ac:(ys.extract off (off+ks.length)).size=ks.length:=by simp;omega
     refine eF (flatOk P d) fs.toList 0 ks X D' _ _ r (by omega) (by omega) (by omega) ?_ w'
     have J:(xs.extract off (off+ks.length)).toList=(xs.toList.drop off).take ks.length:=by simp
     have M:(ys.extract off (off+ks.length)).toList=(ys.toList.drop off).take ks.length:=by simp
     simp only[drop_zero];rw[J,M,pg _ _ _ _ (Nat.le_refl _)];exact F
    ·cases h
   ·cases h
  ·cases h
def q_eqs {t u:TypeId} {neg:Bool} {x y:Operand} {fs:Array Field} {ks:List Nat} (M:o.op= .binOp (if neg then .neq else .eql) t x y u) (O:P.underlying t=some (.struct fs)) (F:dY P 8 t=some ks) (X:P.eqGuardType P.depth t=false)
  (V:Sat G τ w) (T:∀j,Rep τ w (env.get j) (a.tmps.getD j undef)) (h:aggX ((SOpd.of x).eval G env) λxs=>aggX ((SOpd.of y).eval G env) λys=>eqsX neg ks xs ys K):QOk P τ w o a K:=by
 obtain⟨xs,us,Y,h,_,rx⟩:=oy (au V T x) h
 obtain⟨ys,vs,Z,h,_,ry⟩:=oy (au V T y) h
 unfold eqsX at h
 split at h
 ·rename_i r hr
  obtain⟨h1,l1,l2⟩:=eqK_of_AV ks xs ys us.toList vs.toList r rx ry hr;refine ce h (λw'=>?_)
  have D:P.stoodInHeld t=false/\∃E,fO (dY P 7) fs.toList 0=some E/\E=ks:=by
   simp only[dY,O]at F;split at F
   ·cases F
   rename_i D;split at F
   ·rename_i E J;split at F
    ·cases F;exact⟨by simpa using D,_,J,rfl⟩
    ·cases F
   ·cases F
  obtain⟨D,E,J,rfl⟩:=D
  have ht:P.underlying t=some (.struct (P.fieldsOf t)):=by simp[Program.fieldsOf,O]
  have N:P.fieldsOf t=fs:=by simp[Program.fieldsOf,O]
  have I:(Op.equalIn 10000 t (.agg us) (.agg vs)).run P w'= .ok r w':=by
   rw[run_equalIn_struct w' 9999 t _ _ ht D,N];exact eF (flatOk P 7) fs.toList 0 E J 9998 us vs r (by omega) (by simp at l1;omega) (by simp at l2;omega) (by simpa using h1) w'
  cases neg with
  |true=>
   simp only[if_true]at M;simp only[execOp,M,Y,Z,Sem.run_bind,run_eqGuard_agg w' _ t x y us vs X,Result.andThen_ok,run_neq_struct w' t us vs,I];rfl
  |false=>
   simp only[Bool.false_eq_true,if_false]at M;simp only[execOp,M,Y,Z,Sem.run_bind,run_eqGuard_agg w' _ t x y us vs X,Result.andThen_ok,run_eql_struct w' t us vs,I];rfl
 ·exact h.elim
end
end Go.Av
