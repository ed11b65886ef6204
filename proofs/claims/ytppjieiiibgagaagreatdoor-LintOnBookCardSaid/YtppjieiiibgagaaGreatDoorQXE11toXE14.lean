/-
  ENACT, 11: a unit stamped; a book behind an item.
-/
import Derived.Test.YtppjieiiibgagaaGreatDoorQXE8toXE10
set_option linter.all false
namespace Go.Av
open Go Go.RowKit Go.Proofs List
/-! ### stamps -/
def sL (a b:Int) (u:U) (n m:Int):U.stamp a b u n m=(⟨⟨a,b,n⟩,u.kind,u.label,aL a b (u.head.map Wd.text) m,aL a b (u.words.map Wd.text) (m+u.head.length),(U.stamps a b u.kids (n+1) (m+u.head.length+u.words.length)).1⟩,(U.stamps a b u.kids (n+1) (m+u.head.length+u.words.length)).2):=by
 cases u;rw[U.stamp]
def sb (a b:Int) (n m:Int):U.stamps a b [] n m=([],n,m):=by rw[U.stamps]
def se (a b:Int) (u:U) (us:List U) (n m:Int):U.stamps a b (u::us) n m=((U.stamp a b u n m).1::(U.stamps a b us (U.stamp a b u n m).2.1 (U.stamp a b u n m).2.2).1,(U.stamps a b us (U.stamp a b u n m).2.1 (U.stamp a b u n m).2.2).2):=by rw[U.stamps]
def idRow (a b n:Int) (k:Nat):List Idd:=(List.range k).map λj:Nat=>(⟨a,b,n+(j:Int)⟩:Idd)
def nS (a b n:Int) (k l:Nat):idRow a b n (k+l)=idRow a b n k++idRow a b (n+k) l:=by
 unfold idRow;rw[range_add,map_append,map_map];congr 1;refine map_congr_left λj _=>?_;simp only[Function.comp];congr 1;omega
def idRow_nd (a b n:Int) (k:Nat):(idRow a b n k).Nodup:=by
 unfold idRow;refine pairwise_map.2 (List.Pairwise.imp (λh e=>h ?_) (nodup_range (n:=k)))
 injection e with _ _ e
 omega
structure StampOk (a b:Int) (u:U) (n m:Int) (q:U×Int×Int):Prop where
 ids:q.1.ids=idRow a b n u.flat.length
 next:q.2.1=n+u.flat.length
 deep:q.1.deep=u.deep
 len:q.1.flat.length=u.flat.length
 key:q.1.key=u.key
 node:∀z∈q.1.flat,∃y∈u.flat,nodeOk z=nodeOk y
structure StampsOk (a b:Int) (us:List U) (n m:Int) (q:List U×Int×Int):Prop where
 ids:U.idss q.1=idRow a b n (U.flats us).length
 next:q.2.1=n+(U.flats us).length
 deep:U.deeps q.1=U.deeps us
 len:(U.flats q.1).length=(U.flats us).length
 key:q.1.map U.key=us.map U.key
 node:∀z∈U.flats q.1,∃y∈U.flats us,nodeOk z=nodeOk y
def mL (a b:Int) (l:List Wd) (m:Int):ba (aL a b (l.map Wd.text) m)=ba l/\(aL a b (l.map Wd.text) m).length=l.length:=by
 have D:(aL a b (l.map Wd.text) m).length=l.length:=by rw[bG,length_map]
 have E:∀(l:List Wd) (m:Int),(aL a b (l.map Wd.text) m).all wdOk=l.all wdOk:=by
  intro l
  induction l with
  |nil=>intro m;rfl
  |cons w l ih=>intro m;rw[map_cons,aL,all_cons,all_cons,ih];rfl
 unfold ba;rw[D,E];exact⟨rfl,rfl⟩
def iH (a b:Int):∀{us:List U},(∀k∈us,∀n m,StampOk a b k n m (U.stamp a b k n m))->∀n m,StampsOk a b us n m (U.stamps a b us n m)
 |[],_,n,m=>by
  rw[sb];refine⟨?_,?_,rfl,rfl,rfl,?_⟩
  ·rw[sm,bH];rfl
  ·rw[bH];simp
  ·intro z D;rw[bH]at D;cases D
 |u::us,h,n,m=>by
  obtain⟨N,F,I,V,k1,Y⟩:=h u (by simp) n m;have ih:=iH a b (us:=us) (λk M=>h k (by simp[M])) (U.stamp a b u n m).2.1 (U.stamp a b u n m).2.2;obtain⟨O,x2,J,X,T,Z⟩:=ih;rw[se];refine⟨?_,?_,?_,?_,?_,?_⟩
  ·simp only;rw[hJ,N,O,F,aF,length_append,nS]
  ·simp only;rw[x2,F,aF,length_append];omega
  ·simp only;rw[U.deeps,U.deeps,I,J]
  ·simp only;rw[aF,aF,length_append,length_append,V,X]
  ·simp only;rw[map_cons,map_cons,k1,T]
  ·intro z D;simp only at D;rw[aF,mem_append]at D
   rcases D with D|D
   ·obtain⟨y,E,e⟩:=Y z D;exact⟨y,by rw[aF];exact mem_append.2 (.inl E),e⟩
   ·obtain⟨y,E,e⟩:=Z z D;exact⟨y,by rw[aF];exact mem_append.2 (.inr E),e⟩
def lp (a b:Int):∀u:U,∀n m,StampOk a b u n m (U.stamp a b u n m):=by
 refine U.ind λu ih n m=>?_;obtain⟨I,O,E,M,J,N⟩:=iH a b ih (n+1) (m+u.head.length+u.words.length);rw[sL];refine⟨?_,?_,?_,?_,rfl,?_⟩
 ·rw[rb];simp only;rw[I,U.flat_eq u,length_cons,Nat.add_comm,nS];unfold idRow;simp
 ·simp only;rw[O,U.flat_eq u,length_cons];omega
 ·rw[sf,sf u];exact E
 ·rw[U.flat_eq,U.flat_eq u,length_cons,length_cons];simp only;rw[M]
 ·intro z D;rw[U.flat_eq]at D
  rcases mem_cons.1 D with rfl|D
  ·refine⟨u,u.flat_self,gY rfl rfl ?_ ?_ J⟩
   ·exact mL a b u.head m
   ·exact mL a b u.words _
  ·obtain⟨y,F,e⟩:=N z D;exact⟨y,by rw[U.flat_eq];exact mem_cons_of_mem _ F,e⟩
def kf (u:U) (a b:Int) (h:∀y∈u.flat,nodeOk y=true):(bi u a b).ids=idRow a b 1 u.flat.length/\(bi u a b).deep=u.deep/\(bi u a b).flat.length=u.flat.length/\(bi u a b).key=u.key/\∀z∈(bi u a b).flat,nodeOk z=true:=by
 obtain⟨I,N,D,J,k1,M⟩:=lp a b u 1 0;refine⟨I,D,J,k1,λz F=>?_⟩;obtain⟨y,E,e⟩:=M z F;rw[e];exact h y E
def qC (a b:Int) (k:Nat):zId∉idRow a b 1 k:=by
 intro h;obtain⟨j,_,e⟩:=mem_map.1 h
 injection e with _ _ e
 omega
/-! ### words -/
def jM {a b:Int}:∀{l:List (List UInt8)} {m:Int},l.all bj=true->(aL a b l m).all wdOk=true
 |[],_,_=>rfl
 |s::l,m,h=>by
  rw[all_cons,Bool.and_eq_true]at h;rw[aL,all_cons,Bool.and_eq_true];exact⟨h.1,jM h.2⟩
def all_take {α:Type} {p:α->Bool} {l:List α} (h:l.all p=true) (k:Nat):(l.take k).all p=true:=all_eq_true.2 λx D=>all_eq_true.1 h x (mem_of_mem_take D)
def pq {α:Type} {p:α->Bool} {l:List α} (h:l.all p=true) (k:Nat):(l.drop k).all p=true:=all_eq_true.2 λx D=>all_eq_true.1 h x (mem_of_mem_drop D)
def lP {w:List Wd} {D:List (List UInt8)} {a b:Int} {E:Nat} (F:w.all wdOk=true) (I:D.all bj=true):∀(ps:List Nat) (s:Nat) (m:Int),(dK w D a b E s ps m).all wdOk=true
 |[],s,m=>by rw[dK];exact pq F s
 |p::ps,s,m=>by
  rw[dK,all_append,all_append,pq (all_take F p) s,jM I,lP F I ps];rfl
def ej {l:List (List UInt8)} (h:ee l=true):l.all bj=true/\l.length<=256:=by
 unfold ee at h;simp only[Bool.and_eq_true,decide_eq_true_eq]at h;exact⟨h.2,by omega⟩
def rowOk_all {l:List Wd} (h:ba l=true):l.all wdOk=true:=by
 unfold ba at h;simp only[Bool.and_eq_true]at h;exact h.2
def j3 {l:List Wd} (h:l.all wdOk=true) (D:¬256<l.length):ba l=true:=by
 unfold ba;rw[h,decide_eq_true (by omega)];rfl
def editE_ok {w:List Wd} {x:Itm} {a b:Int} (T:ba w=true) (O:ee x.new=true) (D:(bu w x a b).2=0):ba (bu w x a b).1=true:=by
 have I:=rowOk_all T;have J:=(ej O).1;unfold bu at D ⊢;split
 ·split
  ·rename_i M E;rw[if_pos M,if_pos E]at D;cases D
  ·rename_i E;exact j3 (by rw[all_append,jM J,I];rfl) E
 ·rename_i M;rw[if_neg M]at D;split
  ·rename_i E;rw[if_pos E]at D;cases D
  ·rename_i E;rw[if_neg E]at D;split
   ·rename_i N;rw[if_pos N]at D;split
    ·rename_i F;rw[if_pos F]at D;cases D
    ·rename_i F;exact j3 (lP I J _ _ _) F
   ·rename_i N;rw[if_neg N]at D;split
    ·rename_i F;rw[if_pos F]at D;cases D
    ·rename_i F;exact j3 (lP I J _ _ _) F
def jm {u:U} (h:Good u) {i:Idd} (hi:i∈u.ids) (I:u.id≠i) {f:U->U} (hid:∀y,(f y).id=y.id) (D:∀y,(f y).kids=y.kids) (N:∀z∈(U.wth i f u).flat,nodeOk z=true):Good (U.wth i f u)/\Root u (U.wth i f u):=by
 have E:Root u (U.wth i f u):=ru I;obtain⟨l,r,J,M⟩:=oE (f:=f) u h.nd hi
 have F:(U.wth i f u).ids=u.ids:=by rw[J,M,rb,hid,D,rb (fnd i u)]
 refine⟨⟨by rw[F];exact h.nd,N,?_,?_,?_,?_⟩,E⟩
 ·have O:=j1 (f:=f) u h.nd hi
  have T:(f (fnd i u)).deep=(fnd i u).deep:=by rw[sf,sf (fnd i u),D]
  have V:=h.dep;omega
 ·have:=congrArg List.length F;rw[rZ,rZ]at this;rw[this];exact h.cnt
 ·rw[E.kind,E.id];exact h.root
 ·rw[E.kind,F];exact h.zero
def lT {y:U} (h:nodeOk y=true) (D:y.kind≠0):bK y.label=true/\ba y.head=true/\ba y.words=true:=by
 unfold nodeOk own1 at h;rw[if_neg D]at h;simp only[Bool.and_eq_true]at h;exact⟨h.1.2.1,h.1.2.2.1,h.1.2.2.2⟩
def rf {y:U} (h:nodeOk y=true) (D:y.kind≠0) {w:List Wd} (E:ba w=true):nodeOk {y with words:=w}=true:=by
 unfold nodeOk own1 at h ⊢;simp only at h ⊢;rw[if_neg D]at h ⊢;rw[E,Bool.and_true];simp only[Bool.and_eq_true]at h ⊢;exact⟨⟨h.1.1,h.1.2.1,h.1.2.2.1⟩,h.2⟩
def node_head {y:U} (h:nodeOk y=true) (D:y.kind≠0) {w:List Wd} (E:ba w=true):nodeOk {y with head:=w}=true:=by
 unfold nodeOk own1 at h ⊢;simp only at h ⊢;rw[if_neg D]at h ⊢;rw[E,Bool.true_and];simp only[Bool.and_eq_true]at h ⊢;exact⟨⟨h.1.1,h.1.2.1,h.1.2.2.2⟩,h.2⟩
def ma {y z:U} (h:z.kids=y.kids):∀v∈z.flat,v=z\/v∈y.flat:=by
 intro v D;rw[U.flat_eq,h]at D
 rcases mem_cons.1 D with rfl|D
 ·exact .inl rfl
 ·exact .inr (by rw[U.flat_eq];exact mem_cons_of_mem _ D)
def ir {x:Itm} (h:x.may=true):x.own (Itm.mayOne x.by_)=true:=by
 rw[rS,Bool.and_eq_true]at h;exact h.2
def eY {x:Itm} (h:x.may=true) (D:x.kind=0\/x.kind=6):0<=x.wh/\x.wh<=3:=by
 have:=ir h;unfold Itm.own inR at this
 rcases D with D|D<;>simp[D]at this<;>omega
def oG {x:Itm} (h:x.may=true) (D:x.kind=2\/x.kind=3\/x.kind=4):ee x.new=true:=by
 have:=ir h;unfold Itm.own dB at this
 rcases D with D|D|D<;>simp[D]at this<;>simp[this]
def qA {x:Itm} (h:x.may=true) (D:x.kind=5):bK x.label=true:=by
 have:=ir h;unfold Itm.own at this;simpa[D]using this
def mN {x:Itm} (h:x.may=true) (E:x.kind=0):∀y∈x.unit.flat,nodeOk y=true:=by
 have:=ir h;unfold Itm.own at this;simp only[E,if_true,Bool.and_eq_true]at this;have D:=this.2.1;rw[jr]at D;unfold iJ cR at D;simp only[Bool.and_eq_true]at D;exact all_eq_true.1 D.1.1
def lv {u:U} (E:u.ids.Nodup) {i q:Idd} (hi:i∈u.ids) {wh:Int} {k:Nat} (h:spot u i wh=some (q,k)):q∈u.ids:=by
 unfold spot at h;split at h
 ·injection h with h;injection h with h1 h2;subst h1;exact hi
 ·split at h
  ·injection h with h;injection h with h1 h2;subst h1;exact hi
  ·obtain⟨⟨p,d,j⟩,e,D⟩:=Option.map_eq_some_iff.1 h
   injection D with e3 e4
   subst e3;exact(fp u E hi e).mem
def ins_good {u:U} (h:Good u) {i:Idd} (hi:i∈u.ids) {d:Dd} (T:d.it.may=true) (O:d.it.kind=0):Good (insP u i d).1/\Root u (insP u i d).1:=by
 unfold insP;split
 ·exact⟨h,Root.refl u⟩
 ·rename_i q k e;have V:=lv h.nd hi e;obtain⟨s1,s2,s3,s4,s5⟩:=kf d.it.unit d.act d.item (mN T O);obtain⟨x,Y⟩:∃x,bi d.it.unit d.act d.item=x:=⟨_,rfl⟩;rw[Y]at s1 s2 s3 s4 s5 ⊢;split
  ·exact⟨h,Root.refl u⟩
  ·rename_i X;split
   ·exact⟨h,Root.refl u⟩
   ·rename_i I;split
    ·exact⟨h,Root.refl u⟩
    ·rename_i E;simp only[not_or,Int.not_le,Int.not_lt,Nat.not_le]at I;obtain⟨f1,f2,f3⟩:=I
     have D:∀y∈x.ids,y∉u.ids:=by
      intro y Z F;exact E (any_eq_true.2 ⟨y,Z,decide_eq_true F⟩)
     refine⟨qq h V s5 ?_ ?_ k X f1 ?_ ?_,iM (g:=λl=>aX l k x)⟩
     ·rw[nodup_append];refine⟨h.nd,by rw[s1];exact idRow_nd _ _ _ _,?_⟩;intro a M b N J;subst J;exact D a N M
     ·rw[s1];exact qC _ _ _
     ·unfold U.dep at f2;omega
     ·unfold U.cnt at f3;omega
def mov_good {u:U} (h:Good u) {i t:Idd} (hi:i∈u.ids) (M:u.id≠i) (ht:t∈u.ids) {d:Dd} (h0:0<=d.it.wh) (h3:d.it.wh<=3):Good (movP u i t d).1/\Root u (movP u i t d).1:=by
 obtain⟨g1,g2,g3,A,B,hA,I,e2⟩:=fy h hi M;obtain⟨own,dO,j,w1,w2,E⟩:=br h.nd hi M;obtain⟨a,x,b,s,hx,hj,hl⟩:=E.split;have ad:fnd i u=x:=aI hl;have aw:=aU u h.nd hi;unfold movP;split
 ·exact⟨h,Root.refl u⟩
 ·rename_i q k e;split
  ·exact⟨h,Root.refl u⟩
  ·rename_i an;split
   ·exact⟨h,Root.refl u⟩
   ·rename_i hf;rw[not_or]at hf;obtain⟨f1,f2⟩:=hf
    have hq:q∈(without i u).ids:=by
     have T:q∈u.ids/\q∉(fnd i u).ids:=by
      unfold fH at e;rw[w1]at e;simp only at e;split at e
      ·cases e
      ·rename_i hc;rw[not_or]at hc;split at e
       ·injection e with e;injection e with e3 e4
        subst e3;refine⟨E.mem,?_⟩;rw[ad];have:=(rU E.nd).2;rw[s.eq,rO,hJ]at this;exact λD=>this (mem_append.2 (.inr (mem_append.2 (.inl D))))
       ·rename_i al;obtain⟨⟨q',k'⟩,X,e6⟩:=Option.map_eq_some_iff.1 e
        injection e6 with e7 e8
        subst e7
        have hr:¬(besides d.it.wh=true/\t=u.id):=by
         rintro⟨r1,r2⟩
         have Y:d.it.wh=2\/d.it.wh=3:=by simpa[besides]using r1
         unfold spot at X;rw[cO r2.symm]at X
         rcases Y with Y|Y<;>simp[Y]at X
        obtain⟨P,dp,k2,hg⟩:=jE h.nd ht h0 h3 hr;have:=hg.spot;rw[X]at this
        injection this with this
        injection this with e9 e10
        simp only at e9 ⊢;rw[e9];refine⟨hg.mem,hg.out i hi λD=>?_⟩;exact hc.1 ((iE u h.nd ht hi).2 ⟨al,D⟩)
     rw[e2];have:=T.1;rw[I]at this
     rcases mem_append.1 this with D|D
     ·exact mem_append.2 (.inl D)
     ·rcases mem_append.1 D with D|D
      ·exact absurd D T.2
      ·exact mem_append.2 (.inr D)
    have F:((without i u).ids++(fnd i u).ids).Perm u.ids:=by
     rw[e2,I];exact(pA A _ B).symm
    refine⟨qq g1 hq (λz Z=>h.node z (fq aw z Z)) (F.nodup_iff.2 h.nd) ?_ k an ?_ ?_ ?_,g2.trans (iM (g:=λl=>aX l k (fnd i u)))⟩
    ·intro Z;by_cases J:u.kind=0
     ·have hr:=h.root.1 J;have hn:=h.nd;rw[I]at hn;obtain⟨A',aa⟩:=ids_root I hA;subst aa;rw[cons_append,nodup_cons]at hn;exact hn.1 (by rw[hr];exact mem_append.2 (.inr (mem_append.2 (.inl Z))))
     ·exact h.zero J (ob h.nd hi Z)
    ·by_cases O:q=own.id
     ·
      subst O
      have hW:without i u=U.wth own.id (λy=>{y with kids:=aN y.kids j}) u:=by unfold without;rw[w1]
      have N:own∈u.flat:=by
       have:=aU u h.nd E.mem;rw[E.fnd]at this;exact this
      have ah:own.id∉x.ids:=by
       have:=(rU E.nd).2;rw[s.eq,rO,hJ]at this;exact λD=>this (mem_append.2 (.inr (mem_append.2 (.inl D))))
      subst hj;have V:=jH (t:=own.id) h.nd E s.eq ah
      have ac:fnd own.id (without i u)={own with kids:=a++b}:=by
       rw[hW];refine aI ?_;rw[V,getLast?_map,E.last,Option.map_some,bz rfl,s.eq,bM]
      rw[ac];have:=cy (h.node own N);rw[s.eq]at this;simp at this ⊢;omega
     ·rw[w2]at f1;apply Classical.byContradiction;intro hc;exact f1 ⟨O,by omega⟩
    ·unfold U.dep at f2;omega
    ·have:=congrArg List.length I;have e3:=congrArg List.length e2;rw[rZ,length_append,length_append,rZ]at this;rw[rZ,length_append]at e3;have:=h.cnt;omega
def do_good {u:U} (h:Good u) (d:Dd):Good (doP u d).1/\Root u (doP u d).1:=by
 have M:Good u/\Root u u:=⟨h,Root.refl u⟩;unfold doP;split
 ·exact M
 rename_i c1
 have O:d.it.may=true:=by cases hh:d.it.may<;>simp_all
 split
 ·exact M
 rename_i c2;have hi:=cB (u:=u) (p:=d.it.at_) (by simpa using c2);obtain⟨i,Y⟩:∃i,(one u d.it.at_).1=i:=⟨_,rfl⟩;rw[Y]at hi ⊢;split
 ·rename_i k0;exact ins_good h hi O k0
 rename_i k0;split
 ·split<;>exact M
 rename_i Z;have D:u.id≠i:=λe=>Z e.symm;have V:=h.kind hi D;have I:=aU u h.nd hi;have F:=h.node _ I;split
 ·have:=fy h hi D;exact⟨this.1,this.2.1⟩
 split
 ·rename_i k2;split
  ·exact M
  ·rename_i he;have N:=editE_ok (a:=d.act) (b:=d.item) (lT F V).2.2 (oG O (by omega)) (by simpa using he);refine jm h hi D (λ_=>rfl) (λ_=>rfl) (iA (f:=λy=>{y with words:=(bu (fnd i u).words d.it d.act d.item).1}) (λ_=>rfl) u h.nd hi h.node λz J=>?_)
   rcases ma (y:=fnd i u) (z:={fnd i u with words:=(bu (fnd i u).words d.it d.act d.item).1}) rfl z J with rfl|J
   ·exact rf F V N
   ·exact h.node z (fq I z J)
 split
 ·rename_i k4
  have N:ba (aL d.act d.item d.it.new 0)=true:=by
   have:=ej (oG O (.inr (.inr k4)));exact j3 (jM this.1) (by rw[bG];omega)
  refine jm h hi D (λ_=>rfl) (λ_=>rfl) (iA (f:=λy=>{y with head:=aL d.act d.item d.it.new 0}) (λ_=>rfl) u h.nd hi h.node λz J=>?_)
  rcases ma (y:=fnd i u) (z:={fnd i u with head:=aL d.act d.item d.it.new 0}) rfl z J with rfl|J
  ·exact node_head F V N
  ·exact h.node z (fq I z J)
 split
 ·rename_i k5;split
  ·exact M
  ·rename_i T;refine jm h hi D (λ_=>rfl) (λ_=>rfl) (pS u h.nd hi D h.node (qA O k5) (λp dd j e=>?_) V);have hp:=fp u h.nd hi e;obtain⟨a,k,b,s,al,hj,hl⟩:=hp.split
   have ad:(parR i u).1=p:=by unfold parR;rw[eU u h.nd hi,e];rfl
   rw[ad]at T
   have ac:p∈u.flat:=by
    have:=aU u h.nd hp.mem;rw[hp.fnd]at this;exact this
   have E:=eS (h.node p ac) k (by rw[s.eq];simp);have X:fnd i u=k:=aI hl;rw[X]at T ⊢
   cases ah:cU p.kids k.kind d.it.label with
   |false=>rfl
   |true=>exact absurd (by unfold bR;simp only;rw[E,ah];simp) T
 split
 ·exact M
 rename_i c7;have T:=cB (u:=u) (p:=d.it.to_) (by simpa using c7)
 have aa:d.it.kind=6:=by
  have:chg d.it.kind=true:=by cases hh:chg d.it.kind<;>simp_all
  simp only[chg,Bool.and_eq_true,decide_eq_true_eq]at this;omega
 have N:=eY O (.inr aa);exact mov_good h hi D T N.1 N.2
def qn {s:List UInt8} (h:bK s=true):s.length<=7:=by
 unfold bK at h;simp only[Bool.and_eq_true,decide_eq_true_eq]at h;omega
def nh {l:List Wd} (h:ba l=true):l.length<=256/\∀w∈l,w.text.length<=24:=by
 unfold ba at h;simp only[Bool.and_eq_true,decide_eq_true_eq]at h;refine⟨by omega,λw D=>?_⟩;have:=all_eq_true.1 h.2 w D;unfold wdOk bj at this;simp only[Bool.and_eq_true,decide_eq_true_eq]at this;omega
structure Slim (y:U):Prop where
 label:y.label.length<=7
 head:y.head.length<=256/\∀w∈y.head,w.text.length<=24
 words:y.words.length<=256/\∀w∈y.words,w.text.length<=24
 kids:y.kids.length<=64
def dQ {y:U} (h:nodeOk y=true):Slim y:=by
 have J:=cy h;by_cases E:y.kind=0
 ·unfold nodeOk own1 at h;rw[if_pos E]at h;simp only[Bool.and_eq_true,decide_eq_true_eq]at h;obtain⟨⟨D,F,I⟩,_⟩:=h;have M:y.head=[]:=eq_nil_of_length_eq_zero (by omega);have N:y.words=[]:=eq_nil_of_length_eq_zero (by omega);exact⟨by rw[D];simp,by rw[M];simp,by rw[N];simp,J⟩
 ·obtain⟨D,F,I⟩:=lT h E;exact⟨qn D,nh F,nh I,J⟩
def slim_fit:∀u:U,(∀y∈u.flat,Slim y)->u.fit:=by
 refine U.ind λu ih h=>?_;have D:=h u u.flat_self;refine(sj u).2 ⟨by have:=D.label;omega,⟨by have:=D.head.1;omega,λx E=>by have:=D.head.2 x E;omega⟩,⟨by have:=D.words.1;omega,λx E=>by have:=D.words.2 x E;omega⟩,by have:=D.kids;omega,λk F=>?_⟩;exact ih k F λy I=>h y (sa F I)
def eI {u:U} (h:∀y∈u.flat,nodeOk y=true) (E:u.flat.length<1000000):u.Short:=by
 refine⟨⟨slim_fit u λy I=>dQ (h y I),E⟩,λx F=>?_⟩;have s:=dQ (h x F);exact⟨by have:=s.label;omega,by have:=s.head.1;omega,by have:=s.words.1;omega,λw D=>by have:=s.head.2 w D;omega,λw D=>by have:=s.words.2 w D;omega⟩
def Good.short {u:U} (h:Good u):u.Short:=eI h.node (by have:=h.cnt;omega)
abbrev K5:=Idd×Int×List UInt8×List Wd×List Wd
def U.k5 (y:U):K5:=(y.id,y.kind,y.label,y.head,y.words)
def U.all5 (u:U):List K5:=u.flat.map U.k5
def U.alls5 (us:List U):List K5:=(U.flats us).map U.k5
def sg (u:U):u.all5=u.k5::U.alls5 u.kids:=by unfold U.all5 U.alls5;rw[U.flat_eq];rfl
def U.alls5_nil:U.alls5 []=[]:=by unfold U.alls5;rw[bH];rfl
def sw (u:U) (us:List U):U.alls5 (u::us)=u.all5++U.alls5 us:=by unfold U.alls5 U.all5;rw[aF,map_append]
def sB (a b:List U):U.alls5 (a++b)=U.alls5 a++U.alls5 b:=by unfold U.alls5;rw[cE,map_append]
def k5_wth {i:Idd} {f:U->U} (u:U) (D:u.ids.Nodup) (hi:i∈u.ids):∃l r,u.all5=l++((fnd i u).all5++r)/\(U.wth i f u).all5=l++((f (fnd i u)).all5++r):=by
 refine rY (i:=i) (p:=λu=>∃l r,u.all5=l++((fnd i u).all5++r)/\(U.wth i f u).all5=l++((f (fnd i u)).all5++r)) ?_ ?_ u D hi
 ·intro u _ h;have e:fnd i u=u:=aI (by rw[aR h];rfl);refine⟨[],[],?_,?_⟩
  ·rw[e];simp
  ·rw[bz h,e];simp
 ·intro u a k b D h s ⟨l,r,e1,e2⟩;rw[s.fnd D s.mem];refine⟨u.k5::(U.alls5 a++l),r++U.alls5 b,?_,?_⟩
  ·rw[sg,s.eq,sB,sw,e1];simp[append_assoc]
  ·rw[s.wth h,sg,show({u with kids:=a++U.wth i f k::b}:U).k5=u.k5 from rfl];simp only;rw[sB,sw,e2];simp[append_assoc]
def k5_ins {u:U} (F:u.ids.Nodup) {q:Idd} (I:q∈u.ids) (k:Nat) (x:U):∃A B,u.all5=A++B/\(U.wth q (λy=>{y with kids:=aX y.kids k x}) u).all5=A++(x.all5++B):=by
 obtain⟨l,r,D,E⟩:=k5_wth (f:=λy=>{y with kids:=aX y.kids k x}) u F I;refine⟨l++((fnd q u).k5::U.alls5 ((fnd q u).kids.take k)),U.alls5 ((fnd q u).kids.drop k)++r,?_,?_⟩
 ·rw[D,sg]
  conv=>lhs;rw[←take_append_drop k (fnd q u).kids]
  rw[sB];simp[append_assoc]
 ·rw[E,sg,show({fnd q u with kids:=aX (fnd q u).kids k x}:U).k5=(fnd q u).k5 from rfl];unfold aX;simp only;rw[sB,sw];simp[append_assoc]
def k5_del {u:U} (M:u.ids.Nodup) {i:Idd} (hi:i∈u.ids) (F:u.id≠i):∃A B,u.all5=A++((fnd i u).all5++B)/\(without i u).all5=A++B:=by
 obtain⟨own,d,j,V,w2,I⟩:=br M hi F;obtain⟨a,x,b,s,X,O,T⟩:=I.split;have E:fnd i u=x:=aI T;subst O
 have N:without i u=U.wth own.id (λy=>{y with kids:=aN y.kids a.length}) u:=by unfold without;rw[V]
 rw[N,E];obtain⟨l,r,J,D⟩:=k5_wth (f:=λy=>{y with kids:=aN y.kids a.length}) u M I.mem;rw[I.fnd]at J D;rw[s.eq,bM]at D;refine⟨l++(own.k5::U.alls5 a),U.alls5 b++r,?_,?_⟩
 ·rw[J,sg,s.eq,sB,sw];simp[append_assoc]
 ·rw[D,sg,show({own with kids:=a++b}:U).k5=own.k5 from rfl];simp only;rw[sB];simp[append_assoc]
def lw {u:U} (I:u.ids.Nodup) {i:Idd} (hi:i∈u.ids) {f:U->U} (F:∀y,(f y).kids=y.kids):∃A B,u.all5=A++((fnd i u).k5::B)/\(U.wth i f u).all5=A++((f (fnd i u)).k5::B):=by
 obtain⟨l,r,D,E⟩:=k5_wth (f:=f) u I hi;refine⟨l,U.alls5 (fnd i u).kids++r,?_,?_⟩
 ·rw[D,sg];simp
 ·rw[E,sg,F];simp
/-! ### an item that fails changes nothing -/
def insP_err {u:U} {i:Idd} {d:Dd} (h:(insP u i d).2≠0):(insP u i d).1=u:=by
 unfold insP at h ⊢;(repeat' split)<;>(try rfl)
 all_goals(exfalso;simp_all)
def movP_err {u:U} {i t:Idd} {d:Dd} (h:(movP u i t d).2≠0):(movP u i t d).1=u:=by
 unfold movP at h ⊢;(repeat' split)<;>(try rfl)
 all_goals(exfalso;simp_all)
def doP_err {u:U} {d:Dd} (h:(doP u d).2≠0):(doP u d).1=u:=by
 unfold doP at h ⊢;split
 ·rfl
 rename_i c1;rw[if_neg c1]at h;split
 ·rfl
 rename_i c2;rw[if_neg c2]at h;split
 ·rename_i c3;rw[if_pos c3]at h;exact insP_err h
 rename_i c3;rw[if_neg c3]at h;split
 ·split<;>rfl
 rename_i c4;rw[if_neg c4]at h;split
 ·rename_i c5;rw[if_pos c5]at h;exact absurd rfl h
 rename_i c5;rw[if_neg c5]at h;split
 ·rename_i c6;rw[if_pos c6]at h;split
  ·rfl
  ·rename_i c7;rw[if_neg c7]at h;exact absurd rfl h
 rename_i c6;rw[if_neg c6]at h;split
 ·rename_i c7;rw[if_pos c7]at h;exact absurd rfl h
 rename_i c7;rw[if_neg c7]at h;split
 ·rename_i c8;rw[if_pos c8]at h;split
  ·rfl
  ·rename_i c9;rw[if_neg c9]at h;exact absurd rfl h
 rename_i c8;rw[if_neg c8]at h;split
 ·rfl
 rename_i c9;rw[if_neg c9]at h;exact movP_err h
end Go.Av
