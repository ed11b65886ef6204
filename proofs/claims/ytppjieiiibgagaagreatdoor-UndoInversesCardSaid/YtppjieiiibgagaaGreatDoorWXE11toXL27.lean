/-
  ENACT, 11: a unit stamped; a book behind an item.
-/
import Derived.Test.YtppjieiiibgagaaGreatDoorWXE8toXE10
import Derived.Test.YtppjieiiibgagaaGreatDoorWXAv26toXGlob
import Derived.Test.YtppjieiiibgagaaGreatDoorWXC1
import Derived.Test.YtppjieiiibgagaaGreatDoorWXC2
import Derived.Test.YtppjieiiibgagaaGreatDoorWXC3toXL4
import Derived.Test.YtppjieiiibgagaaGreatDoorWXL13toXL15
set_option linter.all false
namespace Go.Av
open Go Go.RowKit Go.Proofs List
/-! ### stamps -/
def sq (a b:Int) (u:U) (n m:Int):U.stamp a b u n m=(⟨⟨a,b,n⟩,u.kind,u.label,aR a b (u.head.map Wd.text) m,aR a b (u.words.map Wd.text) (m+u.head.length),(U.stamps a b u.kids (n+1) (m+u.head.length+u.words.length)).1⟩,(U.stamps a b u.kids (n+1) (m+u.head.length+u.words.length)).2):=by
 cases u;rw[U.stamp]
def rP (a b:Int) (n m:Int):U.stamps a b [] n m=([],n,m):=by rw[U.stamps]
def rQ (a b:Int) (u:U) (us:List U) (n m:Int):U.stamps a b (u::us) n m=((U.stamp a b u n m).1::(U.stamps a b us (U.stamp a b u n m).2.1 (U.stamp a b u n m).2.2).1,(U.stamps a b us (U.stamp a b u n m).2.1 (U.stamp a b u n m).2.2).2):=by rw[U.stamps]
def idRow (a b n:Int) (k:Nat):List Idd:=(List.range k).map λj:Nat=>(⟨a,b,n+(j:Int)⟩:Idd)
def mZ (a b n:Int) (k l:Nat):idRow a b n (k+l)=idRow a b n k++idRow a b (n+k) l:=by
 unfold idRow;rw[range_add,map_append,map_map];congr 1;refine map_congr_left λj _=>?_;simp only[Function.comp];congr 1;omega
def idRow_nd (a b n:Int) (k:Nat):(idRow a b n k).Nodup:=by
 unfold idRow;refine pairwise_map.2 (List.Pairwise.imp (λh e=>h ?_) (nodup_range (n:=k)))
 injection e with _ _ e
 omega
structure StampOk (a b:Int) (u:U) (n m:Int) (q:U×Int×Int):Prop where
 ids:q.1.ids=idRow a b n u.flat.length
 next:q.2.1=n+u.flat.length
 deep:q.1.deep=u.deep
 len:q.1.flat.length=u.flat.length
 key:q.1.key=u.key
 node:∀z∈q.1.flat,∃y∈u.flat,nodeOk z=nodeOk y
structure StampsOk (a b:Int) (us:List U) (n m:Int) (q:List U×Int×Int):Prop where
 ids:U.idss q.1=idRow a b n (U.flats us).length
 next:q.2.1=n+(U.flats us).length
 deep:U.deeps q.1=U.deeps us
 len:(U.flats q.1).length=(U.flats us).length
 key:q.1.map U.key=us.map U.key
 node:∀z∈U.flats q.1,∃y∈U.flats us,nodeOk z=nodeOk y
def ly (a b:Int) (l:List Wd) (m:Int):aX (aR a b (l.map Wd.text) m)=aX l/\(aR a b (l.map Wd.text) m).length=l.length:=by
 have D:(aR a b (l.map Wd.text) m).length=l.length:=by rw[bz,length_map]
 have E:∀(l:List Wd) (m:Int),(aR a b (l.map Wd.text) m).all wdOk=l.all wdOk:=by
  intro l
  induction l with
  |nil=>intro m;rfl
  |cons w l ih=>intro m;rw[map_cons,aR,all_cons,all_cons,ih];rfl
 unfold aX;rw[D,E];exact⟨rfl,rfl⟩
def iH (a b:Int):∀{us:List U},(∀k∈us,∀n m,StampOk a b k n m (U.stamp a b k n m))->∀n m,StampsOk a b us n m (U.stamps a b us n m)
 |[],_,n,m=>by
  rw[rP];refine⟨?_,?_,rfl,rfl,rfl,?_⟩
  ·rw[rL,bv];rfl
  ·rw[bv];simp
  ·intro z D;rw[bv]at D;cases D
 |u::us,h,n,m=>by
  obtain⟨N,F,I,V,k1,Y⟩:=h u (by simp) n m;have ih:=iH a b (us:=us) (λk M=>h k (by simp[M])) (U.stamp a b u n m).2.1 (U.stamp a b u n m).2.2;obtain⟨O,x2,J,X,T,Z⟩:=ih;rw[rQ];refine⟨?_,?_,?_,?_,?_,?_⟩
  ·simp only;rw[eH,N,O,F,aI,length_append,mZ]
  ·simp only;rw[x2,F,aI,length_append];omega
  ·simp only;rw[U.deeps,U.deeps,I,J]
  ·simp only;rw[aI,aI,length_append,length_append,V,X]
  ·simp only;rw[map_cons,map_cons,k1,T]
  ·intro z D;simp only at D;rw[aI,mem_append]at D
   rcases D with D|D
   ·obtain⟨y,E,e⟩:=Y z D;exact⟨y,by rw[aI];exact mem_append.2 (.inl E),e⟩
   ·obtain⟨y,E,e⟩:=Z z D;exact⟨y,by rw[aI];exact mem_append.2 (.inr E),e⟩
def lu (a b:Int):∀u:U,∀n m,StampOk a b u n m (U.stamp a b u n m):=by
 refine U.ind λu ih n m=>?_;obtain⟨I,O,E,M,J,N⟩:=iH a b ih (n+1) (m+u.head.length+u.words.length);rw[sq];refine⟨?_,?_,?_,?_,rfl,?_⟩
 ·rw[o5];simp only;rw[I,U.flat_eq u,length_cons,Nat.add_comm,mZ];unfold idRow;simp
 ·simp only;rw[O,U.flat_eq u,length_cons];omega
 ·rw[rO,rO u];exact E
 ·rw[U.flat_eq,U.flat_eq u,length_cons,length_cons];simp only;rw[M]
 ·intro z D;rw[U.flat_eq]at D
  rcases mem_cons.1 D with rfl|D
  ·refine⟨u,u.flat_self,gR rfl rfl ?_ ?_ J⟩
   ·exact ly a b u.head m
   ·exact ly a b u.words _
  ·obtain⟨y,F,e⟩:=N z D;exact⟨y,by rw[U.flat_eq];exact mem_cons_of_mem _ F,e⟩
def il (u:U) (a b:Int) (h:∀y∈u.flat,nodeOk y=true):(ba u a b).ids=idRow a b 1 u.flat.length/\(ba u a b).deep=u.deep/\(ba u a b).flat.length=u.flat.length/\(ba u a b).key=u.key/\∀z∈(ba u a b).flat,nodeOk z=true:=by
 obtain⟨I,N,D,J,k1,M⟩:=lu a b u 1 0;refine⟨I,D,J,k1,λz F=>?_⟩;obtain⟨y,E,e⟩:=M z F;rw[e];exact h y E
def rg (a b:Int) (k:Nat):zId∉idRow a b 1 k:=by
 intro h;obtain⟨j,_,e⟩:=mem_map.1 h
 injection e with _ _ e
 omega
/-! ### words -/
def jE {a b:Int}:∀{l:List (List UInt8)} {m:Int},l.all bJ=true->(aR a b l m).all wdOk=true
 |[],_,_=>rfl
 |s::l,m,h=>by
  rw[all_cons,Bool.and_eq_true]at h;rw[aR,all_cons,Bool.and_eq_true];exact⟨h.1,jE h.2⟩
def all_take {α:Type} {p:α->Bool} {l:List α} (h:l.all p=true) (k:Nat):(l.take k).all p=true:=all_eq_true.2 λx D=>all_eq_true.1 h x (mem_of_mem_take D)
def oM {α:Type} {p:α->Bool} {l:List α} (h:l.all p=true) (k:Nat):(l.drop k).all p=true:=all_eq_true.2 λx D=>all_eq_true.1 h x (mem_of_mem_drop D)
def lw {w:List Wd} {D:List (List UInt8)} {a b:Int} {E:Nat} (F:w.all wdOk=true) (I:D.all bJ=true):∀(ps:List Nat) (s:Nat) (m:Int),(dx w D a b E s ps m).all wdOk=true
 |[],s,m=>by rw[dx];exact oM F s
 |p::ps,s,m=>by
  rw[dx,all_append,all_append,oM (all_take F p) s,jE I,lw F I ps];rfl
def dQ {l:List (List UInt8)} (h:dN l=true):l.all bJ=true/\l.length<=256:=by
 unfold dN at h;simp only[Bool.and_eq_true,decide_eq_true_eq]at h;exact⟨h.2,by omega⟩
def rowOk_all {l:List Wd} (h:aX l=true):l.all wdOk=true:=by
 unfold aX at h;simp only[Bool.and_eq_true]at h;exact h.2
def jz {l:List Wd} (h:l.all wdOk=true) (D:¬256<l.length):aX l=true:=by
 unfold aX;rw[h,decide_eq_true (by omega)];rfl
def editE_ok {w:List Wd} {x:Itm} {a b:Int} (T:aX w=true) (O:dN x.new=true) (D:(bj w x a b).2=0):aX (bj w x a b).1=true:=by
 have I:=rowOk_all T;have J:=(dQ O).1;unfold bj at D ⊢;split
 ·split
  ·rename_i M E;rw[if_pos M,if_pos E]at D;cases D
  ·rename_i E;exact jz (by rw[all_append,jE J,I];rfl) E
 ·rename_i M;rw[if_neg M]at D;split
  ·rename_i E;rw[if_pos E]at D;cases D
  ·rename_i E;rw[if_neg E]at D;split
   ·rename_i N;rw[if_pos N]at D;split
    ·rename_i F;rw[if_pos F]at D;cases D
    ·rename_i F;exact jz (lw I J _ _ _) F
   ·rename_i N;rw[if_neg N]at D;split
    ·rename_i F;rw[if_pos F]at D;cases D
    ·rename_i F;exact jz (lw I J _ _ _) F
def iZ {u:U} (h:Good u) {i:Idd} (hi:i∈u.ids) (I:u.id≠i) {f:U->U} (hid:∀y,(f y).id=y.id) (D:∀y,(f y).kids=y.kids) (N:∀z∈(U.wth i f u).flat,nodeOk z=true):Good (U.wth i f u)/\Root u (U.wth i f u):=by
 have E:Root u (U.wth i f u):=q9 I;obtain⟨l,r,J,M⟩:=iw (f:=f) u h.nd hi
 have F:(U.wth i f u).ids=u.ids:=by rw[J,M,o5,hid,D,o5 (fnd i u)]
 refine⟨⟨by rw[F];exact h.nd,N,?_,?_,?_,?_⟩,E⟩
 ·have O:=fI (f:=f) u h.nd hi
  have T:(f (fnd i u)).deep=(fnd i u).deep:=by rw[rO,rO (fnd i u),D]
  have V:=h.dep;omega
 ·have:=congrArg List.length F;rw[rK,rK]at this;rw[this];exact h.cnt
 ·rw[E.kind,E.id];exact h.root
 ·rw[E.kind,F];exact h.zero
def gq {y:U} (h:nodeOk y=true) (D:y.kind≠0):bA y.label=true/\aX y.head=true/\aX y.words=true:=by
 unfold nodeOk own1 at h;rw[if_neg D]at h;simp only[Bool.and_eq_true]at h;exact⟨h.1.2.1,h.1.2.2.1,h.1.2.2.2⟩
def rc {y:U} (h:nodeOk y=true) (D:y.kind≠0) {w:List Wd} (E:aX w=true):nodeOk {y with words:=w}=true:=by
 unfold nodeOk own1 at h ⊢;simp only at h ⊢;rw[if_neg D]at h ⊢;rw[E,Bool.and_true];simp only[Bool.and_eq_true]at h ⊢;exact⟨⟨h.1.1,h.1.2.1,h.1.2.2.1⟩,h.2⟩
def node_head {y:U} (h:nodeOk y=true) (D:y.kind≠0) {w:List Wd} (E:aX w=true):nodeOk {y with head:=w}=true:=by
 unfold nodeOk own1 at h ⊢;simp only at h ⊢;rw[if_neg D]at h ⊢;rw[E,Bool.true_and];simp only[Bool.and_eq_true]at h ⊢;exact⟨⟨h.1.1,h.1.2.1,h.1.2.2.2⟩,h.2⟩
def mu {y z:U} (h:z.kids=y.kids):∀v∈z.flat,v=z\/v∈y.flat:=by
 intro v D;rw[U.flat_eq,h]at D
 rcases mem_cons.1 D with rfl|D
 ·exact .inl rfl
 ·exact .inr (by rw[U.flat_eq];exact mem_cons_of_mem _ D)
def ij {x:Itm} (h:x.may=true):x.own (Itm.mayOne x.by_)=true:=by
 rw[rE,Bool.and_eq_true]at h;exact h.2
def dU {x:Itm} (h:x.may=true) (D:x.kind=0\/x.kind=6):0<=x.wh/\x.wh<=3:=by
 have:=ij h;unfold Itm.own inR at this
 rcases D with D|D<;>simp[D]at this<;>omega
def oo {x:Itm} (h:x.may=true) (D:x.kind=2\/x.kind=3\/x.kind=4):dN x.new=true:=by
 have:=ij h;unfold Itm.own de at this
 rcases D with D|D|D<;>simp[D]at this<;>simp[this]
def ri {x:Itm} (h:x.may=true) (D:x.kind=5):bA x.label=true:=by
 have:=ij h;unfold Itm.own at this;simpa[D]using this
def jO {x:Itm} (h:x.may=true) (E:x.kind=0):∀y∈x.unit.flat,nodeOk y=true:=by
 have:=ij h;unfold Itm.own at this;simp only[E,if_true,Bool.and_eq_true]at this;have D:=this.2.1;rw[i7]at D;unfold ib bS at D;simp only[Bool.and_eq_true]at D;exact all_eq_true.1 D.1.1
def jL {u:U} (E:u.ids.Nodup) {i q:Idd} (hi:i∈u.ids) {wh:Int} {k:Nat} (h:spot u i wh=some (q,k)):q∈u.ids:=by
 unfold spot at h;split at h
 ·injection h with h;injection h with h1 h2;subst h1;exact hi
 ·split at h
  ·injection h with h;injection h with h1 h2;subst h1;exact hi
  ·obtain⟨⟨p,d,j⟩,e,D⟩:=Option.map_eq_some_iff.1 h
   injection D with e3 e4
   subst e3;exact(eU u E hi e).mem
def ins_good {u:U} (h:Good u) {i:Idd} (hi:i∈u.ids) {d:Dd} (T:d.it.may=true) (O:d.it.kind=0):Good (insP u i d).1/\Root u (insP u i d).1:=by
 unfold insP;split
 ·exact⟨h,Root.refl u⟩
 ·rename_i q k e;have V:=jL h.nd hi e;obtain⟨s1,s2,s3,s4,s5⟩:=il d.it.unit d.act d.item (jO T O);obtain⟨x,Y⟩:∃x,ba d.it.unit d.act d.item=x:=⟨_,rfl⟩;rw[Y]at s1 s2 s3 s4 s5 ⊢;split
  ·exact⟨h,Root.refl u⟩
  ·rename_i X;split
   ·exact⟨h,Root.refl u⟩
   ·rename_i I;split
    ·exact⟨h,Root.refl u⟩
    ·rename_i E;simp only[not_or,Int.not_le,Int.not_lt,Nat.not_le]at I;obtain⟨f1,f2,f3⟩:=I
     have D:∀y∈x.ids,y∉u.ids:=by
      intro y Z F;exact E (any_eq_true.2 ⟨y,Z,decide_eq_true F⟩)
     refine⟨pB h V s5 ?_ ?_ k X f1 ?_ ?_,io (g:=λl=>aH l k x)⟩
     ·rw[nodup_append];refine⟨h.nd,by rw[s1];exact idRow_nd _ _ _ _,?_⟩;intro a M b N J;subst J;exact D a N M
     ·rw[s1];exact rg _ _ _
     ·unfold U.dep at f2;omega
     ·unfold U.cnt at f3;omega
def mov_good {u:U} (h:Good u) {i t:Idd} (hi:i∈u.ids) (M:u.id≠i) (ht:t∈u.ids) {d:Dd} (h0:0<=d.it.wh) (h3:d.it.wh<=3):Good (movP u i t d).1/\Root u (movP u i t d).1:=by
 obtain⟨g1,g2,g3,A,B,hA,I,e2⟩:=dy h hi M;obtain⟨own,dO,j,w1,w2,E⟩:=aU h.nd hi M;obtain⟨a,x,b,s,hx,hj,hl⟩:=E.split;have ad:fnd i u=x:=aB hl;have aw:=aJ u h.nd hi;unfold movP;split
 ·exact⟨h,Root.refl u⟩
 ·rename_i q k e;split
  ·exact⟨h,Root.refl u⟩
  ·rename_i an;split
   ·exact⟨h,Root.refl u⟩
   ·rename_i hf;rw[not_or]at hf;obtain⟨f1,f2⟩:=hf
    have hq:q∈(without i u).ids:=by
     have T:q∈u.ids/\q∉(fnd i u).ids:=by
      unfold eu at e;rw[w1]at e;simp only at e;split at e
      ·cases e
      ·rename_i hc;rw[not_or]at hc;split at e
       ·injection e with e;injection e with e3 e4
        subst e3;refine⟨E.mem,?_⟩;rw[ad];have:=(rB E.nd).2;rw[s.eq,pt,eH]at this;exact λD=>this (mem_append.2 (.inr (mem_append.2 (.inl D))))
       ·rename_i al;obtain⟨⟨q',k'⟩,X,e6⟩:=Option.map_eq_some_iff.1 e
        injection e6 with e7 e8
        subst e7
        have hr:¬(besides d.it.wh=true/\t=u.id):=by
         rintro⟨r1,r2⟩
         have Y:d.it.wh=2\/d.it.wh=3:=by simpa[besides]using r1
         unfold spot at X;rw[bT r2.symm]at X
         rcases Y with Y|Y<;>simp[Y]at X
        obtain⟨P,dp,k2,hg⟩:=g7 h.nd ht h0 h3 hr;have:=hg.spot;rw[X]at this
        injection this with this
        injection this with e9 e10
        simp only at e9 ⊢;rw[e9];refine⟨hg.mem,hg.out i hi λD=>?_⟩;exact hc.1 ((fL u h.nd ht hi).2 ⟨al,D⟩)
     rw[e2];have:=T.1;rw[I]at this
     rcases mem_append.1 this with D|D
     ·exact mem_append.2 (.inl D)
     ·rcases mem_append.1 D with D|D
      ·exact absurd D T.2
      ·exact mem_append.2 (.inr D)
    have F:((without i u).ids++(fnd i u).ids).Perm u.ids:=by
     rw[e2,I];exact(pV A _ B).symm
    refine⟨pB g1 hq (λz Z=>h.node z (d6 aw z Z)) (F.nodup_iff.2 h.nd) ?_ k an ?_ ?_ ?_,g2.trans (io (g:=λl=>aH l k (fnd i u)))⟩
    ·intro Z;by_cases J:u.kind=0
     ·have hr:=h.root.1 J;have hn:=h.nd;rw[I]at hn;obtain⟨A',aa⟩:=ids_root I hA;subst aa;rw[cons_append,nodup_cons]at hn;exact hn.1 (by rw[hr];exact mem_append.2 (.inr (mem_append.2 (.inl Z))))
     ·exact h.zero J (nJ h.nd hi Z)
    ·by_cases O:q=own.id
     ·
      subst O
      have hW:without i u=U.wth own.id (λy=>{y with kids:=aG y.kids j}) u:=by unfold without;rw[w1]
      have N:own∈u.flat:=by
       have:=aJ u h.nd E.mem;rw[E.fnd]at this;exact this
      have ah:own.id∉x.ids:=by
       have:=(rB E.nd).2;rw[s.eq,pt,eH]at this;exact λD=>this (mem_append.2 (.inr (mem_append.2 (.inl D))))
      subst hj;have V:=jp (t:=own.id) h.nd E s.eq ah
      have ac:fnd own.id (without i u)={own with kids:=a++b}:=by
       rw[hW];refine aB ?_;rw[V,getLast?_map,E.last,Option.map_some,aZ rfl,s.eq,bc]
      rw[ac];have:=ca (h.node own N);rw[s.eq]at this;simp at this ⊢;omega
     ·rw[w2]at f1;apply Classical.byContradiction;intro hc;exact f1 ⟨O,by omega⟩
    ·unfold U.dep at f2;omega
    ·have:=congrArg List.length I;have e3:=congrArg List.length e2;rw[rK,length_append,length_append,rK]at this;rw[rK,length_append]at e3;have:=h.cnt;omega
def iB {u:U} (h:Good u) (d:Dd):Good (doP u d).1/\Root u (doP u d).1:=by
 have M:Good u/\Root u u:=⟨h,Root.refl u⟩;unfold doP;split
 ·exact M
 rename_i c1
 have O:d.it.may=true:=by cases hh:d.it.may<;>simp_all
 split
 ·exact M
 rename_i c2;have hi:=bH (u:=u) (p:=d.it.at_) (by simpa using c2);obtain⟨i,Y⟩:∃i,(one u d.it.at_).1=i:=⟨_,rfl⟩;rw[Y]at hi ⊢;split
 ·rename_i k0;exact ins_good h hi O k0
 rename_i k0;split
 ·split<;>exact M
 rename_i Z;have D:u.id≠i:=λe=>Z e.symm;have V:=h.kind hi D;have I:=aJ u h.nd hi;have F:=h.node _ I;split
 ·have:=dy h hi D;exact⟨this.1,this.2.1⟩
 split
 ·rename_i k2;split
  ·exact M
  ·rename_i he;have N:=editE_ok (a:=d.act) (b:=d.item) (gq F V).2.2 (oo O (by omega)) (by simpa using he);refine iZ h hi D (λ_=>rfl) (λ_=>rfl) (ie (f:=λy=>{y with words:=(bj (fnd i u).words d.it d.act d.item).1}) (λ_=>rfl) u h.nd hi h.node λz J=>?_)
   rcases mu (y:=fnd i u) (z:={fnd i u with words:=(bj (fnd i u).words d.it d.act d.item).1}) rfl z J with rfl|J
   ·exact rc F V N
   ·exact h.node z (d6 I z J)
 split
 ·rename_i k4
  have N:aX (aR d.act d.item d.it.new 0)=true:=by
   have:=dQ (oo O (.inr (.inr k4)));exact jz (jE this.1) (by rw[bz];omega)
  refine iZ h hi D (λ_=>rfl) (λ_=>rfl) (ie (f:=λy=>{y with head:=aR d.act d.item d.it.new 0}) (λ_=>rfl) u h.nd hi h.node λz J=>?_)
  rcases mu (y:=fnd i u) (z:={fnd i u with head:=aR d.act d.item d.it.new 0}) rfl z J with rfl|J
  ·exact node_head F V N
  ·exact h.node z (d6 I z J)
 split
 ·rename_i k5;split
  ·exact M
  ·rename_i T;refine iZ h hi D (λ_=>rfl) (λ_=>rfl) (pD u h.nd hi D h.node (ri O k5) (λp dd j e=>?_) V);have hp:=eU u h.nd hi e;obtain⟨a,k,b,s,al,hj,hl⟩:=hp.split
   have ad:(parR i u).1=p:=by unfold parR;rw[eD u h.nd hi,e];rfl
   rw[ad]at T
   have ac:p∈u.flat:=by
    have:=aJ u h.nd hp.mem;rw[hp.fnd]at this;exact this
   have E:=cY (h.node p ac) k (by rw[s.eq];simp);have X:fnd i u=k:=aB hl;rw[X]at T ⊢
   cases ah:bW p.kids k.kind d.it.label with
   |false=>rfl
   |true=>exact absurd (by unfold bB;simp only;rw[E,ah];simp) T
 split
 ·exact M
 rename_i c7;have T:=bH (u:=u) (p:=d.it.to_) (by simpa using c7)
 have aa:d.it.kind=6:=by
  have:chg d.it.kind=true:=by cases hh:chg d.it.kind<;>simp_all
  simp only[chg,Bool.and_eq_true,decide_eq_true_eq]at this;omega
 have N:=dU O (.inr aa);exact mov_good h hi D T N.1 N.2
def oD {s:List UInt8} (h:bA s=true):s.length<=7:=by
 unfold bA at h;simp only[Bool.and_eq_true,decide_eq_true_eq]at h;omega
def nB {l:List Wd} (h:aX l=true):l.length<=256/\∀w∈l,w.text.length<=24:=by
 unfold aX at h;simp only[Bool.and_eq_true,decide_eq_true_eq]at h;refine⟨by omega,λw D=>?_⟩;have:=all_eq_true.1 h.2 w D;unfold wdOk bJ at this;simp only[Bool.and_eq_true,decide_eq_true_eq]at this;omega
structure Slim (y:U):Prop where
 label:y.label.length<=7
 head:y.head.length<=256/\∀w∈y.head,w.text.length<=24
 words:y.words.length<=256/\∀w∈y.words,w.text.length<=24
 kids:y.kids.length<=64
def dr {y:U} (h:nodeOk y=true):Slim y:=by
 have J:=ca h;by_cases E:y.kind=0
 ·unfold nodeOk own1 at h;rw[if_pos E]at h;simp only[Bool.and_eq_true,decide_eq_true_eq]at h;obtain⟨⟨D,F,I⟩,_⟩:=h;have M:y.head=[]:=eq_nil_of_length_eq_zero (by omega);have N:y.words=[]:=eq_nil_of_length_eq_zero (by omega);exact⟨by rw[D];simp,by rw[M];simp,by rw[N];simp,J⟩
 ·obtain⟨D,F,I⟩:=gq h E;exact⟨oD D,nB F,nB I,J⟩
def slim_fit:∀u:U,(∀y∈u.flat,Slim y)->u.fit:=by
 refine U.ind λu ih h=>?_;have D:=h u u.flat_self;refine(rN u).2 ⟨by have:=D.label;omega,⟨by have:=D.head.1;omega,λx E=>by have:=D.head.2 x E;omega⟩,⟨by have:=D.words.1;omega,λx E=>by have:=D.words.2 x E;omega⟩,by have:=D.kids;omega,λk F=>?_⟩;exact ih k F λy I=>h y (rM F I)
def en {u:U} (h:∀y∈u.flat,nodeOk y=true) (E:u.flat.length<1000000):u.Short:=by
 refine⟨⟨slim_fit u λy I=>dr (h y I),E⟩,λx F=>?_⟩;have s:=dr (h x F);exact⟨by have:=s.label;omega,by have:=s.head.1;omega,by have:=s.words.1;omega,λw D=>by have:=s.head.2 w D;omega,λw D=>by have:=s.words.2 w D;omega⟩
def Good.short {u:U} (h:Good u):u.Short:=en h.node (by have:=h.cnt;omega)
end Go.Av
namespace Go.Av
open Go Go.RowKit List
section
variable {G:Glob} {P:Program} {σ ρ:Store} {w:World} {env:Env} {K:AV->Store->Prop}
def cj {t Y e e':TypeId} {sz bytes:Nat} {x y:Operand} {rows ys:List (List AV)} {g:Option Nat} {xv:AV}
  (hu:P.underlying t=some (.slice e)) (hk:P.underlying Y=some (.slice e')) (hi:(P.info? e).map (λi=>(i.size,i.bytes))=some (sz,bytes)) (hz:(cR P e).map List.length=some sz) (E:sz≠0) (F:bytes≠0)
  (N:(SOpd.of x).eval G env=xv) (Z:WS σ e sz xv rows g) (O:srcX sz ((SOpd.of y).eval G env) λl=>l=ys) (D:(rows.length+ys.length)*bytes<=140737488355328)
  (J:rows=[]->ys=[]->K xv σ)
  (M:∀b cap pad,b∉(σ.erase g).keys->(rows++ys).length<=cap->cap<=maxLen->(∀r∈rows++ys,r.length=sz)->((rows++ys).flatten++pad).length=cap*sz->
   K (.sc (.slice (some ⟨b,0,none⟩) (rows++ys).length cap)) ((b,.cells e ((rows++ys).flatten++pad))::σ.erase g)):RAW G P (.call (.mk (.builtin .append) #[x,y] #[t,Y])) env σ K ⟨⟩:=by
 obtain⟨i,I,X⟩:=Option.map_eq_some_iff.1 hi
 obtain⟨z,T,V⟩:=Option.map_eq_some_iff.1 hz
 simp only[Prod.mk.injEq]at X
 obtain⟨rfl,rfl⟩:=X
 exact oB (ty:=0) hu hk I T V E F N Z O D J M
end
end Go.Av
namespace Go.Av
open Go Go.RowKit Go.Proofs List
def jn (l:List Wd):∀r∈l.map Wd.cs,r.length=4:=by
 intro r D;obtain⟨w,_,rfl⟩:=mem_map.1 D;rfl
def eP (l:List U):∀r∈l.map U.cs,r.length=8:=by
 intro r D;obtain⟨w,_,rfl⟩:=mem_map.1 D;exact hJ w
def eG {e:TypeId} {sz:Nat} {v:Value} (h:lD v):bI e sz [] (.sc v) []:=by
 rcases h with rfl|⟨a,rfl⟩
 ·exact⟨none,0,rfl,.inl ⟨rfl,rfl,rfl⟩⟩
 ·exact⟨some a,0,rfl,.inl ⟨rfl,rfl,rfl⟩⟩
def RET.le {x y:AV} {R:AV->Store->Prop} {σ σ':Store} (D:AVle x y) (E:SubN σ' σ) (h:R y σ'):RET x σ R:=⟨y,σ',D,E,h⟩
def rv {x:AV} {R:AV->Store->Prop} {σ σ':Store} (D:SubN σ' σ) (h:R x σ'):RET x σ R:=⟨x,σ',rH _,D,h⟩
section
variable (G:Glob)
def f65 (l:List Wd) (Z:l.length<1000000):aj G Tryz.prog 65 [.lst 4 (l.map Wd.cs)] [] (λr σ=>bI 118 4 (l.map Wd.cs) r σ):=by
 obtain⟨rows,D⟩:∃rows,l.map Wd.cs=rows:=⟨_,rfl⟩
 have O:rows.length=l.length:=by rw[←D,length_map]
 have V:∀r∈rows,r.length=4:=by rw[←D];exact jn l
 rw[D];refine aj.w c65 ?_;unfold s65 r65;simp only[EV1,EV2,EV3,EV4,EV5,Option.map_some,decide_true,decide_false,seval,eq_self];intro X F;refine ae (λh=>?_) (λh=>?_)
 ·simp only[EV1,EV2,EV3,EV4,EV5,Option.map_some,decide_true,decide_false,seval,eq_self]
  have E:rows=[]:=by
   rcases Classical.em (rows=[])with h1|h1
   ·exact h1
   ·rw[F h1]at h;cases h
  subst E;exact RET.le (y:=.sc (.slice none 0 0)) (Or.inl (Or.inr rfl)) (SubN.refl _) (eG (.inl rfl))
 ·simp only[EV1,EV2,EV3,EV4,EV5,Option.map_some,decide_true,decide_false,seval,eq_self];refine gJ (e:=118) (n:=4) (by kernel_rfl) (by kernel_rfl) (λv T=>?_);simp only[EV1,EV2,EV3,EV4,EV5,Option.map_some,decide_true,decide_false,seval,↓reduceIte,eq_self];refine cj (e:=118) (e':=118) (sz:=4) (bytes:=40) (rows:=[]) (ys:=rows) (g:=none) (xv:=.sc v) (by kernel_rfl) (by kernel_rfl) (by kernel_rfl) (by kernel_rfl) (by decide) (by decide) rfl (.inl ⟨rfl,rfl,.inr ⟨v,rfl,T⟩⟩) ?_ ?_ ?_ ?_
  ·exact⟨rfl,rfl⟩
  ·simp;omega
  ·intro _ E;simp only[EV1,EV2,EV3,EV4,EV5,Option.map_some,decide_true,decide_false,seval,eq_self];subst E;exact rv (SubN.refl _) (eG T)
  ·intro b cap pad Y J I N M;simp only[EV1,EV2,EV3,EV4,EV5,Option.map_some,decide_true,decide_false,seval,eq_self];simp only[nil_append]at*;exact rv (SubN.refl _) ⟨_,_,rfl,.inr ⟨b,pad,rfl,rfl,J,I,N,M⟩⟩
end
def cF {σ τ:Store} (h:(σ++τ:Store).keys.Nodup) {b:Nat} (D:b∈τ.keys):b∉σ.keys:=by
 rw[aD]at h;exact λE=>(nodup_append.1 h).2.2 b E b D rfl
def kP {σ τ:Store} (h:(σ++τ:Store).keys.Nodup):τ.keys.Nodup:=by
 rw[aD]at h;exact(nodup_append.1 h).2.1
def lc (u:U) (r:AV) (σ:Store):Prop:=
 ∃I N D M O F J ck E,r= .agg [.i u.id.act,.i u.id.item,.i u.id.n,.i u.kind,.str u.label,.sc (.slice I u.head.length N),.sc (.slice M u.words.length O),.sc (.slice J u.kids.length ck)]/\
  σ=E++(F++D)/\gC 118 4 (u.head.map Wd.cs) I N D/\gC 118 4 (u.words.map Wd.cs) M O F/\gC 27 8 (u.kids.map U.cs) J ck E
def lc.freeze {G:Glob} {P:Program} {k:FuncId} {args:List AV} {u:U} (h:aj G P k args [] (lc u)):Pure G P k args (.agg u.cs):=by
 refine aj.freeze (aj.mono h ?_);rintro r σ' ⟨I,N,D,M,O,F,J,ck,E,rfl,rfl,T,V,X⟩;refine⟨_,rfl,?_⟩;rw[b0]
 refine⟨.inl rfl,.inl rfl,.inl rfl,.inl rfl,.inl rfl,.inr ⟨_,_,_,D,⟨I,N,by simp,T⟩,?_,rfl⟩,.inr ⟨_,_,_,F,⟨M,O,by simp,V⟩,?_,rfl⟩,.inr ⟨_,_,_,E,⟨J,ck,by simp,X⟩,?_,rfl⟩,trivial⟩<;>
 ·intro p Y;simp only[mem_append];simp[Y]
abbrev KS:=Option (Nat×Nat×List AV)
def kAV (c:KS) (n:Nat):AV:=match c with
 |none=>.nil
 |some (b,cap,_)=>.sc (.slice (some ⟨b,0,none⟩) n cap)
def kSt (c:KS) (rows:List (List AV)):Store:=match c with
 |none=>[]
 |some (b,_,pad)=>[(b,.cells 27 (rows.flatten++pad))]
def kOk (c:KS) (rows:List (List AV)):Prop:=match c with
 |none=>rows=[]
 |some (b,cap,pad)=>rows.length<=cap/\cap<=maxLen/\(∀r∈rows,r.length=8)/\(rows.flatten++pad).length=cap*8
def kWS {c:KS} {rows:List (List AV)} (h:kOk c rows):WS (kSt c rows) 27 8 (kAV c rows.length) rows (c.map (·.1)):=by
 cases c with
 |none=>exact .inl ⟨h,rfl,.inl rfl⟩
 |some p=>
  obtain⟨b,cap,pad⟩:=p;obtain⟨D,E,F,I⟩:=h;exact .inr ⟨b,cap,pad,rfl,rfl,by simp[kSt,Store.get],F,I,D,E⟩
def kErase (c:KS) (rows:List (List AV)):(kSt c rows).erase (c.map (·.1))=[]:=by
 cases c with
 |none=>rfl
 |some p=>obtain⟨b,cap,pad⟩:=p;simp[kSt,Store.erase]
def kS {c:KS} {rows:List (List AV)} (h:kOk c rows):∃D cap,aT (kAV c rows.length) (.sc (.slice D rows.length cap))/\gC 27 8 rows D cap (kSt c rows):=by
 cases c with
 |none=>
  have h:rows=[]:=h;subst h;exact⟨none,0,.inr rfl,.inl ⟨rfl,rfl,rfl⟩⟩
 |some p=>
  obtain⟨b,cap,pad⟩:=p;obtain⟨E,F,I,J⟩:=h;exact⟨some ⟨b,0,none⟩,cap,.inl rfl,.inr ⟨b,pad,rfl,rfl,E,F,I,J⟩⟩
section
variable (G:Glob)
set_option maxHeartbeats 2000000 in
def f63:∀(u:U),u.Short->aj G Tryz.prog 63 [.agg u.cs] [] (lc u):=by
 refine U.ind λu ih hs=>?_;have h0:=hs.2 u u.flat_self;have ds:=hs.1.kids;have bs:=f65 G u.head h0.2.1;have bx:=f65 G u.words h0.2.2.1;rw[b0 u];refine aj.w c63 ?_;unfold s63 r63;(try simp only[EV,seval]);intro X dc Y bd
 have F:¬X=Y:=by simp only[EVK]at bd;exact λe=>bd e.symm
 have M:¬Y=X:=λe=>F e.symm;(repeat' (first|simp only[EV,seval,F,M]|(with_reducible refine af ?_ ?_)))
 all_goals(
  refine aC [] _ bs.v (hH _) (SubN.refl _) ?_
  rintro _ O ⟨bh,ch,rfl,cm⟩ ah
  have D:X∉O.keys:=cF ah (by simp[Store.keys])
  have E:Y∉O.keys:=cF ah (by simp[Store.keys])
  (try simp only[EV,seval,ao D,ao E,ar D,ar E,F,M])
  refine aC [] _ bx.v (hH _) (SubN.refl _) ?_
  rintro _ T ⟨bw,cw,rfl,cp⟩ V
  have I:X∉T.keys:=cF V (by simp[Store.keys])
  have J:Y∉T.keys:=cF V (by simp[Store.keys])
  (try simp only[EV,seval,ao D,ao E,ar D,ar E,ao I,ao J,ar I,ar J,F,M,append_eq]))
 all_goals(
  refine ag ?_
  (try simp only[EV,seval,ao D,ao E,ar D,ar E,ao I,ao J,ar I,ar J,F,M,append_eq])
  have bm:Store.keys (T++(O++[(Y,AObj.cells 27 [.i 0,.i 0,.i 0,.i 0,.str [],.nil,.nil,.nil]),(X,AObj.cells 27 [.i u.id.act,.i u.id.item,.i u.id.n,.i u.kind,.str u.label,.sc (.slice bh u.head.length ch),.sc (.slice bw u.words.length cw),.lst 8 (u.kids.map U.cs)])]))|>.Nodup:=by
   simp only[append_eq]at V
   simpa[Store.keys]using V
  refine ap (ι:=KS) u.kids (λi r c=>kOk c ((u.kids.take i).map U.cs)/\(Store.keys (kSt c ((u.kids.take i).map U.cs)++(T++(O++[(Y,AObj.cells 27 [.i 0,.i 0,.i 0,.i 0,.str [],.nil,.nil,.nil]),(X,AObj.cells 27 [.i u.id.act,.i u.id.item,.i u.id.n,.i u.kind,.str u.label,.sc (.slice bh u.head.length ch),.sc (.slice bw u.words.length cw),.lst 8 (u.kids.map U.cs)])])))).Nodup)
   (λi c=>[(1,.p X),(2,.p Y),(3,kAV c i),(15,.lst 8 (u.kids.map U.cs)),(16,.i u.kids.length),(17,.i i)])
   (λi c=>kSt c ((u.kids.take i).map U.cs)++(T++(O++[(Y,AObj.cells 27 [.i 0,.i 0,.i 0,.i 0,.str [],.nil,.nil,.nil]),(X,AObj.cells 27 [.i u.id.act,.i u.id.item,.i u.id.n,.i u.kind,.str u.label,.sc (.slice bh u.head.length ch),.sc (.slice bw u.words.length cw),.lst 8 (u.kids.map U.cs)])]))) none ⟨rfl,bm⟩ (a0 _ _) (by omega) (λi x r c aa N hw=>?_) (λc aa hn=>?_)
  ·have al:((u.kids.take i).map U.cs).length=i:=by rw[length_map,length_take];have:=N.lt;omega
   have bo:=kWS aa.1
   rw[al]at bo
   (try simp only[EV,seval,N.yes,N.le0,N.lt',N.row,hw,N.get,ao D,ao E,ar D,ar E,ao I,ao J,ar I,ar J,F,M,append_eq])
   intro b5 dd
   (try simp only[EV,seval,N.yes,N.le0,N.lt',N.row,hw,N.get,ao D,ao E,ar D,ar E,ao I,ao J,ar I,ar J,F,M,append_eq])
   refine ab (lc.freeze (ih x N.mem (hs.kid N.mem))) ?_
   (try simp only[EV,seval,N.yes,N.le0,N.lt',N.row,hw,N.get,ao D,ao E,ar D,ar E,ao I,ao J,ar I,ar J,F,M,append_eq])
   intro b6 dl
   refine⟨[x.cs],rfl,by simp[hJ],by simp,?_⟩
   (try simp only[EV,seval,ao D,ao E,ar D,ar E,ao I,ao J,ar I,ar J,F,M,append_eq])
   refine qk (kSt c ((u.kids.take i).map U.cs)) (T++(O++[(Y,AObj.cells 27 [.i 0,.i 0,.i 0,.i 0,.str [],.nil,.nil,.nil]),(X,AObj.cells 27 [.i u.id.act,.i u.id.item,.i u.id.n,.i u.kind,.str u.label,.sc (.slice bh u.head.length ch),.sc (.slice bw u.words.length cw),.lst 8 (u.kids.map U.cs)])])) (((SubN.refl _).tail _).tail _) ?_
   refine cj (e:=27) (e':=27) (sz:=8) (bytes:=120) (rows:=(u.kids.take i).map U.cs) (ys:=[x.cs]) (g:=c.map (·.1)) (xv:=kAV c i) (by kernel_rfl) (by kernel_rfl) (by kernel_rfl) (by kernel_rfl) (by decide) (by decide) rfl bo ⟨rfl,rfl⟩ (by rw[al];simp only[length_cons,length_nil];have:=N.lt;omega) (λ_ h=>by cases h) (λb cap pad hb Z d0 d3 d1 be=>?_)
   rw[kErase]at be ⊢
   have an:((u.kids.take i).map U.cs++[x.cs]).length=i+1:=by rw[length_append,al];rfl
   have aw:(u.kids.take (i+1)).map U.cs=(u.kids.take i).map U.cs++[x.cs]:=by rw[N.take];simp
   (try simp only[EV,seval,hw,an,ao D,ao E,ar D,ar E,ao I,ao J,ar I,ar J,F,M,append_eq])
   refine ak N (some (b,cap,pad)) ⟨?_,?_⟩ ?_
   ·rw[aw];exact⟨Z,d0,d3,d1⟩
   ·rw[aw];exact be
   ·rw[aw];exact a0 _ _
  ·rw[take_length]at aa ⊢
   obtain⟨bk,ck,Z,d2⟩:=kS aa.1
   rw[length_map]at Z
   have bn:=aa.2
   have ac:X∉(kSt c (u.kids.map U.cs)).keys:=cF bn (by simp[Store.keys])
   have ad:Y∉(kSt c (u.kids.map U.cs)).keys:=cF bn (by simp[Store.keys])
   have bb:∀v:AV,aT v (.sc (.slice bk u.kids.length ck))->RET (.agg [.i u.id.act,.i u.id.item,.i u.id.n,.i u.kind,.str u.label,.sc (.slice bh u.head.length ch),.sc (.slice bw u.words.length cw),v])
     (kSt c (u.kids.map U.cs)++(T++(O++[(Y,AObj.cells 27 [.i u.id.act,.i u.id.item,.i u.id.n,.i u.kind,.str u.label,.sc (.slice bh u.head.length ch),.sc (.slice bw u.words.length cw),v]),(X,AObj.cells 27 [.i u.id.act,.i u.id.item,.i u.id.n,.i u.kind,.str u.label,.sc (.slice bh u.head.length ch),.sc (.slice bw u.words.length cw),v])]))) (lc u):=λv hv=>
    RET.le (y:=.agg [.i u.id.act,.i u.id.item,.i u.id.n,.i u.kind,.str u.label,.sc (.slice bh u.head.length ch),.sc (.slice bw u.words.length cw),.sc (.slice bk u.kids.length ck)])
     (.inr ⟨.inl rfl,.inl rfl,.inl rfl,.inl rfl,.inl rfl,.inl rfl,.inl rfl,hv,trivial⟩) (sS (sS tX)) ⟨bh,ch,O,bw,cw,T,bk,ck,_,rfl,rfl,by simpa using cm,by simpa using cp,by simpa using d2⟩
   rcases c with _|⟨b,cap,pad⟩
   ·simp only[kAV]at*
    (try simp only[EV,seval,hn,ao ac,ao ad,ar ac,ar ad,ao D,ao E,ar D,ar E,ao I,ao J,ar I,ar J,F,M,append_eq])
    exact bb _ Z
   ·simp only[kAV]at*
    (try simp only[EV,seval,hn,ao ac,ao ad,ar ac,ar ad,ao D,ao E,ar D,ar E,ao I,ao J,ar I,ar J,F,M,append_eq])
    exact bb _ Z)
end
end Go.Av
