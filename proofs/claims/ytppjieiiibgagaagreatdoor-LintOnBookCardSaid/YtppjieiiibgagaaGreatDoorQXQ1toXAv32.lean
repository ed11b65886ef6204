/-
  LINT ON BOOKS, 1: whether items are fresh.
-/
import Derived.Test.YtppjieiiibgagaaGreatDoorQXM11toXL44
import Derived.Test.YtppjieiiibgagaaGreatDoorQXC4
import Derived.Test.YtppjieiiibgagaaGreatDoorQXC5
import Derived.Test.YtppjieiiibgagaaGreatDoorQXC6
import Derived.Test.YtppjieiiibgagaaGreatDoorQXM9toXM10
import Derived.Test.YtppjieiiibgagaaGreatDoorQXL36toXLs
import Derived.Test.YtppjieiiibgagaaGreatDoorQXAv29toXL23
import Derived.Test.YtppjieiiibgagaaGreatDoorQXAv16toXAv22
import Derived.Test.YtppjieiiibgagaaGreatDoorQXM5toXGo
import Derived.Lib.AppendZerosOnto
set_option linter.all false
namespace Go.Av
open Go Go.RowKit Go.Proofs List
def kh (d e:Dd):Prop:=e.act=d.act/\e.item=d.item
def jd (d:Dd) (x:Idd):Prop:=d.act<1\/d.item<0\/(x.act=d.act/\x.item=d.item)
instance (d e:Dd):Decidable (kh d e):=inferInstanceAs (Decidable (_/\_))
instance (d:Dd) (x:Idd):Decidable (jd d x):=inferInstanceAs (Decidable (_\/_))
def gF (ids:List Idd):List Dd->List Dd->Bool
 |_,[]=>true
 |p,d::r=>if (∃e∈p,kh d e)\/(∃x∈ids,jd d x)then false else gF ids (p++[d]) r
def jh (d:Dd):d.cs.length=28:=by unfold Dd.cs;simp[sE]
def iv (d:Dd):(d.cs.drop 1).length=27:=by rw[length_drop,jh]
def ku (d:Dd):d.cs.headD .any= .i d.act:=rfl
def iB (d:Dd):(d.cs.drop 1).headD .any= .i d.item:=rfl
def mp {l:List Dd} {i k:Nat} {x y:Dd} (F:RestT l i k y) (h:∀e∈l.take k,¬kh x e) (E:¬kh x y):∀e∈l.take (k+1),¬kh x e:=by
 intro e D;rw[F.take,mem_append,mem_singleton]at D
 rcases D with D|rfl
 ·exact h e D
 ·exact E
section
variable (G:Glob)
def f20 (u:U) (ht:u.Tame) (l:List Dd) (hl:l.length<1000000):Pure G Tryz.prog 20 [.agg u.cs,.lst 28 (l.map Dd.cs)] (.bool (gF u.ids [] l)):=by
 have hA:=f53 G u ht
 have al:u.ids.length<1000000000000000000:=by unfold U.ids;rw[length_map];have:=ht.2;omega
 refine Pure.w c20 λR Z=>?_;unfold s20 r20;(repeat' (first|(with_reducible (first|refine ae (λh=>?_) λh=>?_|refine af (λh=>?_) λh=>?_)<;>(try simp only[DZ]at h))|(with_reducible refine ab hA ?_)|simp only[EV,seval,jh,iv,ku,iB,M.yes,M.le0,M.lt',M.row,ad,D.le0,D.lt',D.row]|simp only[EV,seval,jh,iv,ku,iB,aa,D.le0,D.lt',D.row,Y]|simp only[EV,seval,jh,iv,ku,iB,D.yes,D.le0,D.lt',D.get,D.row,Y]|simp only[EV,seval,jh,iv,ku,iB,hn]|simp only[EV,seval,jh,iv,ku,iB]|(with_reducible intro V N;(try(have X:=N;simp only[EVK]at X;(have an:=X))))|(refine ap (l) (λi r (c:Unit)=>gF u.ids [] l=gF u.ids (l.take i) r) (λi c=>[(1,.lst 28 (l.map Dd.cs)),(5,.lst 3 (u.ids.map Idd.cs)),(6,.i i)]) (λ_ _=>[]) () (by rfl) (dT _ _) (by omega) (λi x r c O D Y=>?_) (λc O hn=>?_))|(refine lX (l) (i) (Nat.le_of_lt D.lt) (λk (c:Unit)=>∀e∈l.take k,¬kh x e) (λk c=>[(1,.lst 28 (l.map Dd.cs)),(5,.lst 3 (u.ids.map Idd.cs)),(6,.i i),(7,.i k)]) (λ_ _=>[]) () (by simp) (dT _ _) (by have:=D.lt;omega) (λk y c J M ad=>?_) (λc J aa=>?_))|(refine jD M () ?_ (dT _ _))))
 ·refine RET.eq Z (congrArg AV.bool ?_);rw[O,gF,if_pos (.inl ⟨y,M.mem,‹_›,h⟩)]
 ·exact mp M J (λE=>h E.2) V N
 ·exact mp M J (λE=>h E.1) V N
 ·have bad:∀{z:Idd},jd x z->z∈u.ids->RET (.bool false) [] R:=λ{z} E hm=>RET.eq Z (congrArg AV.bool (by rw[O,gF,if_pos (.inr ⟨z,hm,E⟩)]))
  have T:∀{j:Nat} {z:Idd} {r2:List Idd},Rest u.ids j z r2->(∀y∈u.ids.take j,¬jd x y)->¬jd x z->∀y∈u.ids.take (j+1),¬jd x y:=λ{j z r2} I h hn y M=>by
   rw[I.take,mem_append,mem_singleton]at M
   rcases M with M|rfl
   ·exact h y M
   ·exact hn
  refine ap u.ids (λj r2 (c:Unit)=>∀z∈u.ids.take j,¬jd x z) (λj c=>[(1,.lst 28 (l.map Dd.cs)),(5,.lst 3 (u.ids.map Idd.cs)),(6,.i i),(8,.i j)]) (λ_ _=>[]) () (by simp) (dT _ _) (by omega) (λj z r2 c F I ah=>?_) (λc F ac=>?_)
  ·(repeat' (first|(with_reducible (first|refine ae (λh=>?_) λh=>?_|refine af (λh=>?_) λh=>?_)<;>(try simp only[DZ]at h))|simp only[EV,seval,I.yes,I.le0,I.lt',I.get,I.row,ah,D.le0,D.lt',D.row,Y,jh,iv,ku,iB,Idd.cs]))
   ·exact bad (.inr (.inr ⟨‹_›,h⟩)) I.mem
   ·exact ak I () (T I F λE=>by rcases E with E|E|⟨_,E⟩<;>omega) (dT _ _)
   ·exact ak I () (T I F λE=>by rcases E with E|E|⟨E,_⟩<;>omega) (dT _ _)
   ·exact bad (.inr (.inl (by omega))) I.mem
   ·exact bad (.inl (by omega)) I.mem
  ·rw[take_length]at F;(repeat' (simp only[EV,seval,ac,D.le0,D.lt',D.row,Y]));refine ak D () ?_ (dT _ _);rw[O,gF,if_neg (by rintro(⟨e,he,E⟩|⟨z,I,E⟩);exact J e he E;exact F z I E),D.take]
 ·exact RET.eq Z (by rw[O,gF])
end
section
variable (G:Glob)
variable (hG:GOk G)
include hG
end
end Go.Av
namespace Go.Av
open Go Go.RowKit List
def lk {α:Type} (l:List α):∀(c k:Nat),k<c*l.length->(List.replicate c l).flatten[k]? =l[k % l.length]?
 |0,k,h=>by simp at h
 |c+1,k,h=>by
  rw[replicate_succ,flatten_cons];by_cases D:k<l.length
  ·rw[getElem?_append_left D,Nat.mod_eq_of_lt D]
  ·rw[getElem?_append_right (by omega),lk l c (k-l.length) (by rw[Nat.add_mul]at h;omega),←Nat.mod_eq_sub_mod (by omega)]
def cz {α:Type} (l:List α):∀c:Nat,(List.replicate c l).flatten.length=c*l.length
 |0=>by simp
 |c+1=>by rw[replicate_succ,flatten_cons,length_append,cz l c,Nat.add_mul];omega
def ic {z:Array Value} (F:0<z.size) (c:Nat):(madeCells z (c*z.size)).toList=(List.replicate c z.toList).flatten:=by
 apply ext_getElem?;intro k;by_cases D:k<c*z.size
 ·rw[lk z.toList c k (by simpa using D)];have E:=Nat.mod_lt k F;unfold madeCells;simp[D,E,getElem!_pos z (k % z.size) E]
 ·rw[getElem?_eq_none (by simp[size_madeCells];omega),getElem?_eq_none (by rw[cz];simp;omega)]
def ii {τ:Store} {w:World} {zr:List AV} {us:List Value} (h:RepL τ w zr us):∀c:Nat,RepL τ w (List.replicate c zr).flatten (List.replicate c us).flatten
 |0=>by simp[RepL]
 |c+1=>by rw[replicate_succ,replicate_succ,flatten_cons,flatten_cons];exact RepL.append h (ii h c)
section
variable {G:Glob} {P:Program}
def m7 (w:World) (V sT ty elem:TypeId) (g o E I sz:Nat) (a:Addr) (F N:Nat) (D:Array Value) (t:TypeId) (cs:List Value)
  (hu:P.underlying V=some (.slice elem)) (X:(P.info? elem).map (·.size)=some sz)
  (Z:w.heap[g]? =some (.cells D t (0,0))) (hn:cs.length=Nat.min F E*sz)
  (M:∀j v,cs[j]? =some v->w.cell? (a.add j)=some v) (J:o+cs.length<=D.size) (Y:∀v∈cs,v.oneCell'=true):
  (Builtin.copy_ #[V,sT] ty #[.slice (some ⟨g,o,none⟩) E I,.slice (some a) F N]).run P w=
   .ok (goInt (Nat.min F E)) (w.setRow g (D.toList.take o++cs++D.toList.drop (o+cs.length)).toArray):=by
 have hl:=run_loadCells_list (P:=P) w a cs M
 have T:=run_storeCells_at P g o t cs 0 D w Z (by simpa using J) Y
 cases O:P.info? elem with
 |none=>simp[O]at X
 |some i=>
  have hi:i.size=sz:=by simpa[O]using X
  simp[Builtin.copy_,run_underlying hu,Builtin.lenOf,Builtin.firstCells,sizeOf,typeInfo,O,hi,←hn,hl,T]
def lO (w:World) (J X ty elem:TypeId) (d a:Option Addr) (D F E I sz:Nat) (V:P.underlying J=some (.slice elem)) (T:(P.info? elem).map (·.size)=some sz) (O:Nat.min E D=0):
  (Builtin.copy_ #[J,X] ty #[.slice d D F,.slice a E I]).run P w= .ok (goInt 0) w:=by
 cases M:P.info? elem with
 |none=>simp[M]at T
 |some i=>
  have N:∀(x:Addr),(loadCells x 0).run P w= .ok #[] w:=λx=>by simpa using run_loadCells_list (P:=P) w x [] (by simp)
  cases d<;>cases a<;>simp[Builtin.copy_,run_underlying V,Builtin.lenOf,Builtin.firstCells,sizeOf,typeInfo,M,O,storeCells,N]
def jO {ty elem:TypeId} {i c sz bytes:Nat} {z:Value} {zr:List AV} {J:IntKind} {env:Env} {σ:Store} {K:AV->Store->Prop} (hi:env.get i= .int J (c:Nat)) (hu:P.underlying ty=some (.slice elem))
  (O:(P.info? elem).map (λi=>(i.zero,i.size,i.bytes))=some (some z,sz,bytes)) (V:z.cells.size=sz) (h0:0<sz) (F:∀v∈z.cells.toList,v.oneCell'=true) (hz:∀τ w,RepL τ w zr z.cells.toList)
  (hb:bytes*c<=281474976710656) (hc:c<1000000000)
  (hk:∀b,b∉σ.keys->K (.sc (.slice (some ⟨b,0,none⟩) c c)) ((b,.cells elem (List.replicate c zr).flatten)::σ)):RAW G P (.makeSlice ty (.tmp i) (.tmp i)) env σ K ⟨⟩:=by
 intro ρ w a op ho X hE
 have M:=hE i
 rw[hi]at M
 simp only[Rep]at M
 obtain⟨Y,T,I⟩:=Option.map_eq_some_iff.1 O
 simp only[Prod.mk.injEq]at I
 obtain⟨g1,g2,g3⟩:=I
 have Z:a.eval (.tmp i)= .int J (c:Nat):=M
 have N:(Y.bytes:Int)*((c:Nat):Int)<=281474976710656:=by
  rw[g3,←Int.natCast_mul];omega
 have D:=run_make (P:=P) w ty elem Y z hu T g1 J J (c:Nat) (c:Nat) (by omega) (by omega) N (by omega)
 simp only[Int.toNat_natCast,g2]at D
 have E:(w.alloc (.cells (madeCells z.cells (c*sz)) elem)).heap[w.heap.size]? =some (.cells (madeCells z.cells (c*sz)) elem (0,0)):=heap_alloc_new w _
 have hl:(madeCells z.cells (c*sz)).toList=(List.replicate c z.cells.toList).flatten:=by
  rw[←V];exact ic (by omega) c
 refine⟨_,_,.sc (.slice (some ⟨w.heap.size,0,none⟩) c c),_,.inl (by simp[execOp,ho,Z,D];exact rfl),hk _ (ge X),X.alloc _ _ ⟨_,E,?_,?_⟩,Ev.alloc _ _,by simp only[Rep]⟩
 ·intro v hv
  exact F v (mY (by omega) hv)
 ·rw[hl]
  exact ii (hz _ _) c
end
section
variable {G:Glob} {b c cap sz:Nat} {e:TypeId} {rows:List (List AV)} {pad:List AV} {σ ρ:Store} {w:World}
def Rep.freeze (N:Sat G ((b,.cells e (rows.flatten++pad))::σ++ρ) w) (hr:∀r∈rows,r.length=sz) (X:c=rows.length) (hl:rows.length<=cap) (hm:cap<=maxLen):
  Rep (σ++ρ) w (.lst sz rows) (.slice (some ⟨b,0,none⟩) c cap):=by
 subst X
 obtain⟨vs,Y,T,D⟩:=N.obj b _ (mem_append.2 (.inl (mem_cons_self ..)))
 have F:=N.nodup
 have V:b∉(σ++ρ).keys:=by
  rw[cons_append]at F;exact(nodup_cons.1 F).1
 have I:Sub (σ++ρ) ((b,.cells e (rows.flatten++pad))::σ++ρ):=λp hp=>mem_cons_of_mem _ hp
 have aa:=D.length
 simp only[Rep]
 refine .inr ⟨_,_,rfl,hl,hm,sP hr ?_⟩
 refine rP λj Z=>?_
 have J:j<(rows.flatten++pad).length:=by rw[length_append];omega
 have E:j<vs.toList.length:=by omega
 have O:=D.get j J E
 rw[getElem_append_left Z]at O
 rw[Nat.zero_mul,Nat.zero_add,add_lit,Nat.zero_add]
 have M:j<vs.size:=by simpa using E
 refine⟨vs.toList[j],⟨?_,?_⟩,T _ (getElem_mem E),Rep.sub I O⟩
 ·simp[World.cell?,Y,M]
 ·rintro⟨x,hx,_⟩
  exact V (mem_map.2 ⟨_,hx,rfl⟩)
def Weak.freeze {env:Env} {j:Nat} (M:env.get j= .sc (.slice (some ⟨b,0,none⟩) c cap)) (X:∀r∈rows,r.length=sz) (J:c=rows.length) (N:rows.length<=cap) (O:cap<=maxLen):
  Weak G env ((b,.cells e (rows.flatten++pad))::σ) (env.set j (.lst sz rows)) σ:=by
 intro ρ w tmps F E
 have D:SubN σ ((b,.cells e (rows.flatten++pad))::σ):=⟨λp V=>mem_cons_of_mem _ V,λT=>(nodup_cons.1 T).2⟩
 refine⟨F.subN D,rN D.1 w,λi=>?_⟩
 rw[sA]
 split
 ·rename_i I
  rw[←I];have h:=E j;rw[M]at h;simp only[Rep]at h;rw[h];exact Rep.freeze F X J N O
 ·exact Rep.ev (rN D.1 w) _ _ (E i)
end
end Go.Av
namespace Go.Av
open Go Go.RowKit Go.Proofs List
section
variable {G:Glob} {P:Program} {env:Env} {σ:Store} {K:Env->Store->Prop} {tK:Tag K}
end
end Go.Av
namespace Go.Av
open Go Go.RowKit List
structure RowsAt (sz:Nat) (cs:List AV) (o n:Nat) (rows:List (List AV)):Prop where
 len:rows.length=n
 row:∀r∈rows,r.length=sz
 fit:o+n*sz<=cs.length
 eq:(cs.drop o).take (n*sz)=rows.flatten
def iw {sz:Nat}:∀{rows:List (List AV)} {n:Nat},(∀r∈rows,r.length=sz)->(rows.take n).flatten=rows.flatten.take (n*sz)
 |[],n,_=>by simp
 |r::rows,0,_=>by simp
 |r::rows,n+1,h=>by
  have E:=h r (by simp)
  have D:r.length<=(n+1)*sz:=by rw[E,Nat.add_mul];omega
  have F:(n+1)*sz-r.length=n*sz:=by rw[E,Nat.add_mul];omega
  rw[take_succ_cons,flatten_cons,flatten_cons,iw (λq I=>h q (mem_cons_of_mem _ I)),take_append,take_of_length_le D,F]
def nL {sz:Nat}:∀{rows:List (List AV)} {n:Nat},(∀r∈rows,r.length=sz)->(rows.drop n).flatten=rows.flatten.drop (n*sz)
 |[],n,_=>by simp
 |r::rows,0,_=>by simp
 |r::rows,n+1,h=>by
  have E:=h r (by simp)
  have D:r.length<=(n+1)*sz:=by rw[E,Nat.add_mul];omega
  have F:(n+1)*sz-r.length=n*sz:=by rw[E,Nat.add_mul];omega
  rw[drop_succ_cons,flatten_cons,nL (λq I=>h q (mem_cons_of_mem _ I)),drop_append,drop_of_length_le D,nil_append,F]
def RowsAt.cut {sz:Nat} {rows:List (List AV)} {pad:List AV} (h:∀r∈rows,r.length=sz) {l k:Nat} (E:l+k<=rows.length):RowsAt sz (rows.flatten++pad) (l*sz) k ((rows.drop l).take k):=by
 have F:=az rows h
 have I:l*sz+k*sz<=rows.length*sz:=by rw[←Nat.add_mul];exact Nat.mul_le_mul_right _ E
 refine⟨by rw[length_take,length_drop];omega,λr D=>h r (mem_of_mem_drop (mem_of_mem_take D)),by rw[length_append];omega,?_⟩;rw[iw (λr D=>h r (mem_of_mem_drop D)),nL h,drop_append_of_le_length (by omega),take_append_of_le_length (by rw[length_drop];omega)]
def srcO (σ:Store) (sz:Nat) (x:AV) (ys:List (List AV)):Prop:=
 srcX sz x (λl=>l=ys)\/∃b o n c e cs,x= .sc (.slice (some ⟨b,o,none⟩) n c)/\σ.get b=some (.cells e cs)/\RowsAt sz cs o n ys
section
variable {G:Glob} {P:Program} {σ ρ:Store} {w:World} {env:Env} {K:AV->Store->Prop}
def qo {sz:Nat} {x:AV} {u:Value} {ys:List (List AV)} (hS:Sat G (σ++ρ) w) (J:Rep (σ++ρ) w x u) (h:srcO σ sz x ys):
  ∃E c D,u= .slice E ys.length c/\D.length=ys.length*sz/\RepL (σ++ρ) w ys.flatten D/\(∀v∈D,v.oneCell'=true)/\(∀r∈ys,r.length=sz)/\(E=none->ys=[])/\
   ∀a,E=some a->∀j v,D[j]? =some v->w.cell? (a.add j)=some v:=by
 have F:ys=[]->u= .slice none 0 0->_:=λT Z=>(⟨none,0,[],by rw[T,Z];rfl,by rw[T];simp,by rw[T];simp[RepL],by simp,by rw[T];simp,λ_=>T,(λa N=>by cases N)⟩:∃E c D,u= .slice E ys.length c/\D.length=ys.length*sz/\RepL (σ++ρ) w ys.flatten D/\(∀v∈D,v.oneCell'=true)/\(∀r∈ys,r.length=sz)/\(E=none->ys=[])/\
   ∀a,E=some a->∀j v,D[j]? =some v->w.cell? (a.add j)=some v)
 have I:∀(V:Addr) (cap:Nat),u= .slice (some V) ys.length cap->aA (σ++ρ) w V sz 0 ys->∃E c D,u= .slice E ys.length c/\D.length=ys.length*sz/\RepL (σ++ρ) w ys.flatten D/\(∀v∈D,v.oneCell'=true)/\(∀r∈ys,r.length=sz)/\(E=none->ys=[])/\
   ∀a,E=some a->∀j v,D[j]? =some v->w.cell? (a.add j)=some v:=by
  intro V cap Z M
  obtain⟨vs,l1,l2,l3,l4⟩:=M.vals
  exact⟨some V,cap,vs,Z,l1,l2,l3,M.flat.2.2,(λh=>by cases h),(λa N=>by injection N with N;subst N;exact l4)⟩
 rcases h with h|⟨b,o,n,c,e,cs,rfl,hg,M⟩
 ·unfold srcX at h
  split at h
  ·simp only[Rep]at J;exact F h.symm J
  ·obtain⟨rfl,rfl⟩:=h;simp only[Rep]at J
   rcases J with⟨J,T⟩|⟨V,cap,J,_,_,M⟩
   ·exact F T J
   ·exact I V cap J M
  ·rename_i g e ac rows;obtain⟨rfl,rfl⟩:=h
   cases g with
   |none=>simp only[Rep]at J;exact F J.2 J.1
   |some b=>simp only[Rep]at J;obtain⟨cap,J,_,_,_,M⟩:=J;exact I _ cap J M
  ·exact h.elim
 ·obtain⟨h1,h2,h3,h4⟩:=M
  subst h1;simp only[Rep]at J;subst J;obtain⟨vs,hh,Y,O⟩:=hS.obj b _ (mem_append.2 (.inl (rv hg)));have aa:=O.length;have M:=RepL.take (ys.length*sz) (RepL.drop o O);rw[h4]at M;refine⟨some ⟨b,o,none⟩,c,_,rfl,?_,M,λv hv=>Y v (mem_of_mem_drop (mem_of_mem_take hv)),h2,(λh=>by cases h),λa N j v X=>?_⟩
  ·rw[length_take,length_drop,aa];omega
  ·injection N with N
   subst N;rw[getElem?_take]at X;split at X
   ·rw[add_lit,cell_of_row w b (o+j) vs e (0,0) hh];rw[getElem?_drop]at X;simpa using X
   ·cases X
def srcO_ok {sz:Nat} {x:AV} {u:Value} {N e':TypeId} {ys:List (List AV)} (M:P.underlying N=some (.slice e')) (Y:Sat G (σ++ρ) w) (Z:Rep (σ++ρ) w x u) (h:srcO σ sz x ys):
  ∃D,Src P sz N u ys.length D w/\RepL (σ++ρ) w ys.flatten D/\∀r∈ys,r.length=sz:=by
 obtain⟨E,c,D,rfl,F,I,T,J,V,X⟩:=qo Y Z h
 cases E with
 |none=>
  have O:=V rfl;subst O;have:D=[]:=eq_nil_of_length_eq_zero (by rw[F];simp);subst this;exact⟨[],Src.ofNil w M c,I,J⟩
 |some a=>exact⟨D,Src.ofSlice w M a _ c D F (X a rfl) T,I,J⟩
def je {t V ty e:TypeId} {i:TypeInfo} (Z:P.underlying t=some (.slice e)) (hi:P.info? e=some i) {b off D I:Nat} {F:Array Value} {e':TypeId} (Y:w.heap[b]? =some (.cells F e' (0,0)))
  {x:Value} {n:Nat} {E:List Value} (O:Src P i.size V x n E w) (J:D+n<=I) (M:off+D*i.size+E.length<=F.size):
  (Builtin.append_ #[t,V] ty #[.slice (some ⟨b,off,none⟩) D I,x]).run P w=
   .ok (.slice (some ⟨b,off,none⟩) (D+n) I) (w.setRow b (F.toList.take (off+D*i.size)++E++F.toList.drop (off+D*i.size+E.length)).toArray):=by
 have N:=run_storeCells_at P b (off+D*i.size) e' E 0 F w Y (by simpa using M) O.one
 simp only[Nat.add_zero]at N
 rcases O.kind with⟨X,T⟩|T<;>simp[Builtin.append_,run_underlying Z,run_underlying T,sizeOf,typeInfo,hi,O.len,J,O.cells,Addr.add_lit,N]
def pe {b o n sz:Nat} {e:TypeId} {cs:List AV} {rows:List (List AV)} (O:Sat G (σ++ρ) w) (T:σ.get b=some (.cells e cs)) (N:RowsAt sz cs o n rows):
  ∃vs,w.heap[b]? =some (.cells vs e (0,0))/\vs.size=cs.length/\((vs.toList.drop o).take (n*sz)).length=n*sz/\RepL (σ++ρ) w rows.flatten ((vs.toList.drop o).take (n*sz))/\(∀v∈(vs.toList.drop o).take (n*sz),v.oneCell'=true)/\
   ∀j v,((vs.toList.drop o).take (n*sz))[j]? =some v->w.cell? ((⟨b,o,none⟩:Addr).add j)=some v:=by
 obtain⟨vs,M,F,D⟩:=O.obj b _ (mem_append.2 (.inl (rv T)))
 have J:=D.length
 have I:=RepL.take (n*sz) (RepL.drop o D)
 rw[N.eq]at I
 have:=N.fit
 refine⟨vs,M,by simpa using J,?_,I,λv V=>F v (mem_of_mem_drop (mem_of_mem_take V)),λj v E=>?_⟩
 ·rw[length_take,length_drop,J];omega
 ·rw[getElem?_take]at E
  split at E
  ·rw[add_lit,cell_of_row w b (o+j) vs e (0,0) M];rw[getElem?_drop]at E;simpa using E
  ·cases E
def fL {t tx e e':TypeId} {sz bytes b o n cap:Nat} {x y:Operand} {rows ys:List (List AV)} {cs z:List AV}
  (hu:P.underlying t=some (.slice e)) (hk:P.underlying tx=some (.slice e')) (hi:(P.info? e).map (λi=>(i.size,i.bytes))=some (sz,bytes)) (hz:da P e=some z) (e9:z.length=sz) (e7:sz≠0) (ch:bytes≠0)
  (e0:(SOpd.of x).eval G env= .sc (.slice (some ⟨b,o,none⟩) n cap)) (hg:σ.get b=some (.cells e cs)) (J:RowsAt sz cs o n rows) (e6:o+cap*sz<=cs.length)
  (e1:srcO σ sz ((SOpd.of y).eval G env) ys) (O:(n+ys.length)*bytes<=140737488355328)
  (d3:n+ys.length<=cap->K (.sc (.slice (some ⟨b,o,none⟩) (n+ys.length) cap)) (σ.set b (.cells e (aJ cs (o+n*sz) ys.flatten))))
  (dc:cap<n+ys.length->∀b' I pad,b'∉σ.keys->n+ys.length<=I->I<=maxLen->(∀r∈rows++ys,r.length=sz)->((rows++ys).flatten++pad).length=I*sz->
   K (.sc (.slice (some ⟨b',0,none⟩) (n+ys.length) I)) ((b',.cells e ((rows++ys).flatten++pad))::σ)):RAW G P (.call (.mk (.builtin .append) #[x,y] #[t,tx])) env σ K ⟨⟩:=by
 intro ρ w a op ho N hE
 have hx:=au (G:=G) N hE x
 have hy:=au (G:=G) N hE y
 rw[e0]at hx
 simp only[Rep]at hx
 obtain⟨i,hI,bm⟩:=Option.map_eq_some_iff.1 hi
 simp only[Prod.mk.injEq]at bm
 obtain⟨d1,d2⟩:=bm
 obtain⟨i',zv,an,e5,e3,e2⟩:=dz (τ:=σ++ρ) (w:=w) hz
 rw[hI]at an;cases an
 have e4:zv.cells.size=sz:=by have:=e3.length;simp at this;omega
 have be:∀{v:Value} {w':World},(Builtin.append_ #[t,tx] op.type #[a.eval x,a.eval y]).run P w= .ok v w'->(execOp a.eval op).run P w= .ok (.value v) w':=by
  intro v w' E;simp[execOp,ho,resolve,invoke,builtin,E]
 obtain⟨M,D,bh,ac⟩:=srcO_ok hk N hy e1
 have dl:=D.newsLen
 subst d1 d2
 obtain⟨vs,hh,e8,bd,bk,bb,Y⟩:=pe N hg J
 by_cases F:n+ys.length<=cap
 ·have T:o+n*i.size+ys.flatten.length<=cs.length:=by
   have:=Nat.mul_le_mul_right i.size F;rw[az _ ac];rw[Nat.add_mul]at this;omega
  obtain⟨ea,d0,ds,cm,bx⟩:=N.setRow hg bh D.one (off:=o+n*i.size) T;have E:=je (P:=P) (ty:=op.type) (off:=o) hu hI d0 D F (by rw[ds,dl,←az _ ac];exact T);rw[←hx]at E;exact⟨_,_,_,_,.inl (be E),d3 F,bx,cm,by simp only[Rep]⟩
 ·have aa:cap<n+ys.length:=by omega
  have ad:n+ys.length<=maxLen:=by
   have:=Nat.le_mul_of_pos_right (n+ys.length) (Nat.pos_of_ne_zero ch);unfold maxLen;omega
  have cp:=run_firstCells_some (P:=P) w.drew i.size n ⟨b,o,none⟩ n cap _ bd (λj v hj=>by have:=Y j v hj;exact this);have E:=run_append_grow_src (P:=P) w t tx op.type e i zv hu hI e5 (some ⟨b,o,none⟩) n cap _ cp (a.eval y) ys.length M D aa (by unfold maxLen at ad;omega) (growslice_fits aa O);rw[←hx]at E;have al:=grownCap_ge w (n+ys.length) cap e;have ah:=grownCap_le_maxLen w (n+ys.length) cap e ad;generalize grownCap w (n+ys.length) cap e=c2 at E al ah;generalize holds:(vs.toList.drop o).take (n*i.size)=olds at E bd bk bb;let C:Array Value:=(olds++M).toArray++Builtin.zeroCells zv.cells (c2-(n+ys.length));have bw:w.heap.size∉σ.keys:=λhm=>Nat.lt_irrefl _ (N.lt_left hm);let Z:=(Builtin.zeroCells zv.cells (c2-(n+ys.length))).toList
  have V:∀r∈rows++ys,r.length=i.size:=λr E=>by rcases mem_append.1 E with E|E<;>first|exact J.row r E|exact ac r E
  have cw:=az _ V
  have aw:(rows++ys).length=n+ys.length:=by rw[length_append,J.len]
  have dd:=dc aa w.heap.size c2 (List.replicate Z.length .any) bw al ah V (by
   have:Z.length=(c2-(n+ys.length))*i.size:=by simp[Z,size_zeroCells,e4]
   rw[length_append,cw,length_replicate,this,aw,←Nat.add_mul]
   congr 1;omega)
  have s2:Sat G (σ++ρ) w.drew:=N.step Ev.drew N.nodup_left (λb hb=>.inl hb) (λb q hq=>(N.obj b q (mem_append.2 (.inl hq))).keep Ev.drew rfl);have bn:Ev σ w σ w.drew:=Ev.drew;have bo:Ev σ w.drew ((w.heap.size,.cells e ((rows++ys).flatten++List.replicate Z.length .any))::σ) (w.drew.alloc (.cells C e)):=Ev.alloc (σ:=σ) (w:=w.drew) _ _;have ev:=bn.trans bo
  have s3:=s2.alloc (.cells C e) (.cells e ((rows++ys).flatten++List.replicate Z.length .any)) ⟨C,heap_alloc_new w.drew _,by
    intro v X
    simp only[C,Array.toList_append,mem_append]at X
    rcases X with(X|X)|X
    ·exact bb v X
    ·exact D.one v X
    ·exact e2 _ (cX X),by
    have h9:=RepL.append (RepL.ev ev _ _ bk) (RepL.ev ev _ _ bh)
    rw[←flatten_append]at h9
    have bs:=RepL.append h9 (RepL.any _ _ Z)
    rw[show C.toList=olds++M++Z by simp only[C,Z,Array.toList_append]]
    exact bs⟩
  exact⟨_,_,_,_,.inl (be E),dd,s3,ev,by simp only[Rep]⟩
def gW {z:Array Value} (D:0<z.size) (c:Nat):(Builtin.zeroCells z c).toList=(List.replicate c z.toList).flatten:=ic D c
def kO {t tn e:TypeId} {sz bytes b o n cap k:Nat} {x y:Operand} {rows:List (List AV)} {cs z:List AV} {kq kn:IntKind}
  (hu:P.underlying t=some (.slice e)) (hk:P.underlying tn=some (.int kn)) (hi:(P.info? e).map (λi=>(i.size,i.bytes))=some (sz,bytes)) (hz:da P e=some z) (cm:z.length=sz) (d0:sz≠0) (be:bytes≠0)
  (bx:(SOpd.of x).eval G env= .sc (.slice (some ⟨b,o,none⟩) n cap)) (hg:σ.get b=some (.cells e cs)) (F:RowsAt sz cs o n rows)
  (ch:(SOpd.of y).eval G env= .int kq (k:Nat)) (bo:0<k) (X:cap<n+k) (E:(n+k)*bytes<=140737488355328)
  (bs:∀b' D pad,b'∉σ.keys->n+k<=D->D<=maxLen->(rows.flatten++((List.replicate k z).flatten++pad)).length=D*sz->
   K (.sc (.slice (some ⟨b',0,none⟩) (n+k) D)) ((b',.cells e (rows.flatten++((List.replicate k z).flatten++pad)))::σ)):RAW G P (.call (.mk (.builtin .append) #[x,y] #[t,tn])) env σ K ⟨⟩:=by
 intro ρ w a op ho J hE
 have hx:=au (G:=G) J hE x
 have hy:=au (G:=G) J hE y
 rw[bx]at hx
 rw[ch]at hy
 simp only[Rep]at hx hy
 obtain⟨i,hI,ad⟩:=Option.map_eq_some_iff.1 hi
 simp only[Prod.mk.injEq]at ad
 obtain⟨bm,bn⟩:=ad
 obtain⟨i',zv,V,cw,al,ah⟩:=dz (τ:=σ++ρ) (w:=w) hz
 rw[hI]at V;cases V
 have cp:zv.cells.size=sz:=by have:=al.length;simp at this;omega
 subst bm bn
 obtain⟨vs,hh,d1,aa,ac,Y,M⟩:=pe J hg F
 have N:n+k<=maxLen:=by
  have:=Nat.le_mul_of_pos_right (n+k) (Nat.pos_of_ne_zero be);unfold maxLen;omega
 have bh:=run_firstCells_some (P:=P) w.drew i.size n ⟨b,o,none⟩ n cap _ aa (λj v hj=>by have:=M j v hj;exact this)
 have hr:=Lib.run_append_grow_zeros (P:=P) w t tn op.type e i zv kq kn hu hk hI cw (some ⟨b,o,none⟩) n cap _ bh k bo (by omega) X (by unfold maxLen at N;omega) (by rw[Nat.add_mul]at E;omega) (growslice_fits X E)
 rw[←hx,←hy]at hr
 have T:=grownCap_ge w (n+k) cap e
 have O:=grownCap_le_maxLen w (n+k) cap e N
 generalize grownCap w (n+k) cap e=c2 at hr T O
 generalize holds:(vs.toList.drop o).take (n*i.size)=olds at hr aa ac Y
 let C:Array Value:=olds.toArray++Builtin.zeroCells zv.cells k++Builtin.zeroCells zv.cells (c2-(n+k))
 have bb:w.heap.size∉σ.keys:=λhm=>Nat.lt_irrefl _ (J.lt_left hm)
 let Z:=(Builtin.zeroCells zv.cells (c2-(n+k))).toList
 have bk:=az _ F.row
 have bw:=bs w.heap.size c2 (List.replicate Z.length .any) bb T O (by
  have:Z.length=(c2-(n+k))*i.size:=by simp[Z,size_zeroCells,cp]
  rw[length_append,length_append,bk,cz,length_replicate,this,F.len,cm,←Nat.add_mul,←Nat.add_mul]
  congr 1;omega)
 have s2:Sat G (σ++ρ) w.drew:=J.step Ev.drew J.nodup_left (λb hb=>.inl hb) (λb q hq=>(J.obj b q (mem_append.2 (.inl hq))).keep Ev.drew rfl)
 have an:Ev σ w σ w.drew:=Ev.drew
 have aw:Ev σ w.drew ((w.heap.size,.cells e (rows.flatten++((List.replicate k z).flatten++List.replicate Z.length .any)))::σ) (w.drew.alloc (.cells C e)):=Ev.alloc (σ:=σ) (w:=w.drew) _ _
 have ev:=an.trans aw
 have bd:(Builtin.zeroCells zv.cells k).toList=(List.replicate k zv.cells.toList).flatten:=gW (by omega) k
 have s3:=s2.alloc (.cells C e) (.cells e (rows.flatten++((List.replicate k z).flatten++List.replicate Z.length .any))) ⟨C,heap_alloc_new w.drew _,by
   intro v I
   simp only[C,Array.toList_append,mem_append]at I
   rcases I with(I|I)|I
   ·exact Y v I
   ·exact ah _ (cX I)
   ·exact ah _ (cX I),by
   have h9:=RepL.append (RepL.ev ev _ _ ac) (RepL.append (RepL.ev ev _ _ (ii al k)) (RepL.any _ _ Z))
   rw[show C.toList=olds++((List.replicate k zv.cells.toList).flatten++Z)by simp only[C,Z,Array.toList_append,bd,append_assoc]]
   exact h9⟩
 refine⟨.slice (some ⟨w.heap.size,0,none⟩) (n+k) c2,_,_,_,.inl ?_,bw,s3,ev,by simp only[Rep]⟩
 simp[execOp,ho,resolve,invoke,builtin,hr]
 simp[C,Array.append_assoc]
def nO {X sT elem e:TypeId} {b o D dc sz:Nat} {x y:Operand} {cs:List AV} {ys:List (List AV)} (hu:P.underlying X=some (.slice elem)) (V:(P.info? elem).map (·.size)=some sz)
  (aw:(SOpd.of x).eval G env= .sc (.slice (some ⟨b,o,none⟩) D dc)) (hg:σ.get b=some (.cells e cs)) (bb:srcO σ sz ((SOpd.of y).eval G env) ys) (J:o+min ys.length D*sz<=cs.length)
  (al:min ys.length D=0->K (.i 0) σ) (hk:min ys.length D≠0->K (.i (min ys.length D:Nat)) (σ.set b (.cells e (aJ cs o (ys.take (min ys.length D)).flatten)))):
  RAW G P (.call (.mk (.builtin .copy) #[x,y] #[X,sT])) env σ K ⟨⟩:=by
 intro ρ w a op ho N hE
 have Z:=au (G:=G) N hE x
 have hy:=au (G:=G) N hE y
 rw[aw]at Z
 simp only[Rep]at Z
 obtain⟨I,c,F,h0,h1,h2,h3,h4,h5,h6⟩:=qo N hy bb
 by_cases O:min ys.length D=0
 ·have E:=lO (P:=P) w X sT op.type elem (some ⟨b,o,none⟩) I D dc ys.length c sz hu V O
  rw[←Z,←h0]at E;refine⟨goInt 0,_,.i 0,_,.inl ?_,al O,N,Ev.refl _ _,by simp[Rep,goInt]⟩;simp[execOp,ho,resolve,invoke,builtin,E]
 ·cases I with
  |none=>rw[h5 rfl]at O;simp at O
  |some ad=>
   have bd:min ys.length D*sz<=ys.length*sz:=Nat.mul_le_mul_right _ (Nat.min_le_left _ _)
   have hr:RepL (σ++ρ) w (ys.take (min ys.length D)).flatten (F.take (min ys.length D*sz)):=by rw[iw h4];exact RepL.take _ h2
   have T:(F.take (min ys.length D*sz)).length=min ys.length D*sz:=by rw[length_take,h1];omega
   have M:∀v∈F.take (min ys.length D*sz),v.oneCell'=true:=λv hv=>h3 v (mem_of_mem_take hv)
   have ah:(ys.take (min ys.length D)).flatten.length=min ys.length D*sz:=by rw[az _ (λr hr=>h4 r (mem_of_mem_take hr)),length_take];congr 1;omega
   obtain⟨vs,hh,an,ac,aa⟩:=N.setRow hg hr M (off:=o) (by rw[ah];exact J)
   have E:=m7 (P:=P) w X sT op.type elem b o D dc sz ad ys.length c vs e (F.take (min ys.length D*sz)) hu V hh T (λj v Y=>h6 ad rfl j v (by
    rw[getElem?_take]at Y
    split at Y
    ·exact Y
    ·cases Y)) (by rw[T,an];exact J) M
   rw[←Z,←h0]at E;refine⟨goInt (min ys.length D:Nat),_,.i (min ys.length D:Nat),_,.inl ?_,hk O,aa,ac,by simp[Rep,goInt]⟩;simp[execOp,ho,resolve,invoke,builtin,E]
def qP {t elem e:TypeId} {b o n c sz:Nat} {x:Operand} {cs z:List AV} (hu:P.underlying t=some (.slice elem)) (hz:da P elem=some z) (ac:z.length=sz) (al:sz≠0)
  (Z:(SOpd.of x).eval G env= .sc (.slice (some ⟨b,o,none⟩) n c)) (hg:σ.get b=some (.cells e cs)) (E:o+n*sz<=cs.length)
  (X:n=0->K .any σ) (hk:n≠0->K .any (σ.set b (.cells e (aJ cs o (List.replicate n z).flatten)))):
  RAW G P (.call (.mk (.builtin .clear) #[x] #[t])) env σ K ⟨⟩:=by
 intro ρ w a op ho O hE
 have N:=au (G:=G) O hE x
 rw[Z]at N
 simp only[Rep]at N
 obtain⟨i,zv,hi,ah,M,aa⟩:=dz (τ:=σ++ρ) (w:=w) hz
 have ad:zv.cells.size=sz:=by have:=M.length;simp at this;omega
 by_cases hn:n=0
 ·subst hn
  have D:(Builtin.clear_ #[t] op.type #[a.eval x]).run P w= .ok (.tuple #[]) w:=by
   rw[N];simp[Builtin.clear_,run_underlying hu]
  refine⟨.tuple #[],w,.any,_,.inl ?_,X rfl,O,Ev.refl _ _,by simp only[Rep]⟩;simp[execOp,ho,resolve,invoke,builtin,D]
 ·have hZ:(Builtin.zeroCells zv.cells n).toList=(List.replicate n zv.cells.toList).flatten:=gW (by omega) n
  have hr:=ii M n
  have F:∀v∈(List.replicate n zv.cells.toList).flatten,v.oneCell'=true:=λv hv=>by rw[←hZ]at hv;exact aa _ (cX hv)
  obtain⟨vs,hh,Y,V,T⟩:=O.setRow hg hr F (off:=o) (by rw[cz,ac];exact E)
  have J:zv.cells.toList.length=sz:=by simpa using ad
  have I:=run_storeCells_at P b o e (List.replicate n zv.cells.toList).flatten 0 vs w hh (by rw[cz,J,Y];simpa using E) F;simp only[Nat.add_zero]at I
  have D:(Builtin.clear_ #[t] op.type #[a.eval x]).run P w= .ok (.tuple #[]) (w.setRow b (vs.toList.take o++(List.replicate n zv.cells.toList).flatten++vs.toList.drop (o+(List.replicate n zv.cells.toList).flatten.length)).toArray):=by
   obtain⟨m,rfl⟩:∃m,n=m+1:=⟨n-1,by omega⟩;rw[N];simp[Builtin.clear_,run_underlying hu,zeroValue,typeInfo,hi,ah,hZ,I]
  refine⟨.tuple #[],_,.any,_,.inl ?_,hk hn,T,V,by simp only[Rep]⟩;simp[execOp,ho,resolve,invoke,builtin,D]
def qh {x:Operand} {F e:TypeId} {D:Option Addr} {n c:Nat} (T:(SOpd.of x).eval G env= .sc (.slice D n c)) (O:P.underlying F=some (.slice e))
  (M:K (.i c) σ):RAW G P (.call (.mk (.builtin .cap) #[x] #[F])) env σ K ⟨⟩:=by
 refine dS _ (λρ w a op N J I=>?_) M
 have E:=au J I x
 rw[T]at E
 simp only[Rep]at E
 refine⟨.i c,?_,by simp only[Rep]⟩
 simp[execOp,N,resolve,invoke,builtin,E,Builtin.cap_,run_underlying O]
 try rfl
def bndO (G:Glob) (env:Env) (y:Option Operand) (d v:Nat):Prop:=match y with
 |none=>v=d
 |some y=>∃k,(SOpd.of y).eval G env= .int k (v:Nat)
def qT {t e:TypeId} {x:Operand} {lo hi I:Option Operand} {l h m b o n cap sz:Nat} (Z:P.underlying t=some (.slice e)) (Y:(P.info? e).map (·.size)=some sz)
  (hx:(SOpd.of x).eval G env= .sc (.slice (some ⟨b,o,none⟩) n cap)) (E:bndO G env lo 0 l) (D:bndO G env hi n h) (F:bndO G env I cap m) (J:I.isSome=true->hi.isSome=true) (h1:l<=h) (h2:h<=m) (h3:m<=cap)
  (X:K (.sc (.slice (some ⟨b,if m=l then o else o+l*sz,none⟩) (h-l) (m-l))) σ):RAW G P (.slice t x lo hi I) env σ K ⟨⟩:=by
 refine dS _ (λρ w a op ho N M=>?_) X
 have O:=au (G:=G) N M x
 rw[hx]at O
 simp only[Rep]at O
 obtain⟨i,T,V⟩:=Option.map_eq_some_iff.1 Y
 refine⟨_,?_,by simp only[Rep];rfl⟩
 have ev:∀{y:Operand} {k:IntKind} {v:Nat},(SOpd.of y).eval G env= .int k (v:Nat)->a.eval y= .int k (v:Nat):=by
  intro y k v hy;have:=au (G:=G) N M y;rw[hy]at this;simpa only[Rep]using this
 have c1:l<=m:=by omega
 have c2:h<=cap:=by omega
 cases lo<;>cases hi<;>cases I<;>simp only[bndO,Option.isSome,Bool.false_eq_true,forall_const,implies_true,reduceCtorEq]at E D F J
 all_goals(
  try obtain⟨k1,E⟩:=E
  try obtain⟨k2,D⟩:=D
  try obtain⟨k3,F⟩:=F
  try subst E
  try subst D
  try subst F
  try have e1:=ev E
  try have e2:=ev D
  try have e3:=ev F
  simp_all[execOp,Instr.sliceAt,Instr.slice,run_underlying Z,Instr.sliceBounds,Instr.sliceBound,asIntOf,sizeOf,typeInfo,add_lit]
  try(split<;>rfl))
end
end Go.Av
