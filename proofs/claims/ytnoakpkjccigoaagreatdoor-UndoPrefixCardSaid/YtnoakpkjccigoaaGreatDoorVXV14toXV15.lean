/-
  UNDO, walks 14: items applied one after the other, and their patches.
-/
import Derived.Test.YtnoakpkjccigoaaGreatDoorVXM31toXM33
import Derived.Test.YtnoakpkjccigoaaGreatDoorVXE1toXL25
import Derived.Test.YtnoakpkjccigoaaGreatDoorVXE8toXE11
import Derived.Test.YtnoakpkjccigoaaGreatDoorVXL32toXL54
import Derived.Test.YtnoakpkjccigoaaGreatDoorVXL18toXOpI
import Derived.Test.YtnoakpkjccigoaaGreatDoorVXM14toXV1
import Derived.Test.YtnoakpkjccigoaaGreatDoorVXM2toXOpE
import Derived.Test.YtnoakpkjccigoaaGreatDoorVXC4
import Derived.Test.YtnoakpkjccigoaaGreatDoorVXC5
import Derived.Test.YtnoakpkjccigoaaGreatDoorVXC6
import Derived.Test.YtnoakpkjccigoaaGreatDoorVXN0toXM26
import Derived.Test.YtnoakpkjccigoaaGreatDoorVXV5
namespace Go.Av
open Go Go.RowKit Go.Proofs List
set_option linter.unusedSimpArgs false
set_option linter.unusedVariables false
def mb (q:U×List Pt):AV:=.tup [.agg q.1.cs,.lst 18 (q.2.map Pt.cs)]
section
variable (G:Glob) (hG:GOk G)
include hG
set_option maxHeartbeats 8000000 in
theorem f19 (u:U) (hu:Good u) (l:List Dd) (hl:l.length<1000000) (hs:∀d∈l,d.it.Shorts):Pure G Tryz.prog 19 [.agg u.cs,.lst 28 (l.map Dd.cs)] (mb (allU u l)):=by
 refine Pure.w c19 λR hR=>?_
 unfold s19 r19
 unfold mb at hR
 (repeat' (first|simp only[EVz,seval,↓reduceIte,EV6,EV7]|(with_reducible intro M E;(try(have F:=E;simp only[EVK]at F;first|(have D:=AI F D)|(have D:=F))))|fail))
 rename_i V _ _ _
 generalize bi:M=b4 at*
 have q1:¬b4=V:=by simpa[Store.keys]using E
 have bh:¬V=b4:=λe=>q1 e.symm
 refine ay (ι:=U×List Pt×Option Nat) l (λi r c=>Good c.1/\allU u l=((allU c.1 r).1,c.2.1++(allU c.1 r).2)/\c.2.1.length<=i/\(∀d,c.2.2=some d->d∉Store.keys [(b4,AObj.cells 27 zU),(V,.cells 27 zU)])) (λi c=>[(2,.sc (.pointer (some ⟨V,0,none⟩))),(4,.sc (.pointer (some ⟨b4,0,none⟩))),(6,.own c.2.2 29 18 (c.2.1.map Pt.cs)),(11,.lst 28 (l.map Dd.cs)),(12,.int .i64 l.length),(13,.int .i64 i)]) (λi c=>[(b4,.cells 27 zU),(V,.cells 27 c.1.cs)]++tokS c.2.2 29 (c.2.1.length*18)) (u,[],none) ⟨hu,by simp,by simp,by simp⟩ (Weak.of (by simp[eJ,Env.get,AVle,aR]) (SubN.refl _)) (by omega) (λi x r c T I hw=>?_) (λc T hn=>?_)
 ·obtain⟨Z,J,o3,o4⟩:=T
  have N:=f48 G x.it.kind
  rw[chg_inR]at N
  have X:=f17 G hG c.1 Z x (hs x I.mem)
  have hA:=f18 G hG c.1 Z x (hs x I.mem)
  have bb:=(rd Z x).1
  have bk:=I.lt
  rw[ln]at J
  unfold aO at hA
  unfold invAV at X
  have hU:=U.cs_len c.1
  have ah:c.1.cs.take 8=c.1.cs:=take_of_length_le (by omega)
  cases hc:chg x.it.kind with
  |false=>
   rw[hc]at N
   rw[hc,if_pos (.inl rfl)]at J
   (repeat' (first|(with_reducible refine aa N ?_)|simp only[EVz,seval,↓reduceIte,EV6,EV7,I.yes,I.le0,I.lt',I.get,I.row,hw,Dd.cs,Itm.cs_eq,D]|(with_reducible intro M E;(try(have F:=E;simp only[EVK]at F;(have D:=AI F D))))|fail))
   exact ap I c ⟨Z,J,by omega,o4⟩ (Weak.sub (SubN.tail (SubN.refl _) _))
  |true=>
   rw[hc]at N
   rw[hc]at J
   obtain⟨⟨p,e⟩,al⟩:∃z,invP c.1 x=z:=⟨_,rfl⟩
   rw[al]at X J
   simp only[Dd.cs,Itm.cs_eq]at hA X
   simp only at J
   have O:=Pt.cs_len p
   have ac:p.cs.take 18=p.cs:=take_of_length_le (by omega)
   rcases Classical.em (e=0)with he|he
   ·subst he
    rw[if_neg (by simp)]at J
    have ba:(doP c.1 x).2=0:=by rw[←rz,al]
    rw[ba]at hA
    have an:=U.cs_len (doP c.1 x).1
    have aw:(doP c.1 x).1.cs.take 8=(doP c.1 x).1.cs:=take_of_length_le (by omega)
    (repeat' (first|(with_reducible first|refine aa N ?_|refine aa X ?_|refine aa hA ?_)|simp only[EVz,seval,↓reduceIte,EV6,EV7,I.yes,I.le0,I.lt',I.get,I.row,hw,Dd.cs,Itm.cs_eq,O,ac,an,aw,hU,ah,D]|(with_reducible intro M E;(try(have F:=E;simp only[EVK]at F;(have D:=AI F D))))|fail))
    clear hA N X
    rename_i b8 _ _ _ b9 _ _ _
    obtain⟨n1,n2,n3,n4⟩:=D
    have be:∀d,c.2.2=some d->d∈(tokS c.2.2 29 (c.2.1.length*18)).keys:=by
     intro d Y
     rw[Y]
     simp[tokS,Store.keys]
    refine⟨[p.cs],rfl,by simp[O],by simp,?_⟩
    refine rO (sz:=18) (bytes:=224) (rows:=c.2.1.map Pt.cs) (ys:=[p.cs]) (m:=c.2.1.length*18) [(M,_)] [(b9,_),(b8,_),(b4,_),(V,_)] ?_ ?_ (by rw[length_map]) ?_ (by rw[length_map];simp;omega) (λgn bd=>?_)
    ·intro q hq
     simp only[mem_singleton]at hq
     subst hq
     simp[Store.keys,n1]
     simpa[Store.keys]using n1.2.2.2.2
    ·intro d Y
     have h1:=be d Y
     have h2:=o4 d Y
     simp[Store.keys]at h2 ⊢
     refine⟨λq=>n2.2.2.2 (q ▸ h1),λq=>n3.2.2 (q ▸ h1),h2.1,h2.2⟩
    ·simp[Store.keys,n2,n3,q1]
    (repeat' (simp only[EVz,seval,↓reduceIte,EV6,EV7,n1,n2,n3,q1,bh,hw,D]))
    refine ap I ((doP c.1 x).1,c.2.1++[p],gn) ⟨bb,by rw[J];simp,?_,?_⟩ ?_
    ·rw[length_append];exact Nat.succ_le_succ o3
    ·intro d Y
     have:=bd d Y
     simp[Store.keys]at this ⊢
     exact⟨this.2.2.1,this.2.2.2⟩
    ·simp only[map_append,map_cons,map_nil,length_append,length_map,length_cons,length_nil]
     exact Weak.sub (SubN.tail (SubN.tail (SubN.refl _) _) _)
   ·rw[if_pos (.inr he)]at J
    (repeat' (first|(with_reducible (refine ab (λh=>?_) (λh=>?_))<;>(try simp only[DZ]at h))|(with_reducible first|refine aa N ?_|refine aa X ?_)|simp only[EVz,seval,↓reduceIte,EV6,EV7,I.yes,I.le0,I.lt',I.get,I.row,hw,Dd.cs,Itm.cs_eq,he,O,ac,hU,ah,D]|(with_reducible intro M E;(try(have F:=E;simp only[EVK]at F;(have D:=AI F D))))|(exfalso;omega)|fail))
    all_goals exact ap I c ⟨Z,J,by omega,o4⟩ (Weak.sub (SubN.tail (SubN.tail (SubN.refl _) _) _))
 ·(repeat' (simp only[EVz,seval,↓reduceIte,EV6,EV7,hn,D]))
  obtain⟨Z,J,o3,o4⟩:=T
  rw[allU_nil]at J
  simp only[append_nil]at J
  rw[J]at hR
  exact hR _ _ (.inr ⟨aR.rfl' _,.inr ⟨rfl,rfl⟩,trivial⟩)
end
theorem lq {l:List Wd} (h:eR l=true):l.length<1000000/\∀w∈l,w.text.length<1000000:=by
 unfold eR at h
 simp only[Bool.and_eq_true,all_eq_true,decide_eq_true_eq]at h
 exact⟨by omega,λw D=>by have:=h.1 w D;omega⟩
theorem jv:∀{us:List U},U.shortss us=true->∀k∈us,k.shorts=true
 |[],_,k,hk=>by cases hk
 |u::us,h,k,hk=>by
  rw[U.shortss,Bool.and_eq_true]at h
  rcases mem_cons.1 hk with rfl|hk
  ·exact h.1
  ·exact jv h.2 k hk
theorem np:∀u:U,u.shorts=true->∀x∈u.flat,x.label.length<1000000/\x.head.length<1000000/\x.words.length<1000000/\(∀w∈x.head,w.text.length<1000000)/\(∀w∈x.words,w.text.length<1000000):=by
 refine U.ind λu ih h x D=>?_
 rw[U.shorts_eq]at h
 simp only[Bool.and_eq_true,decide_eq_true_eq]at h
 obtain⟨M,F,I,J⟩:=h
 rw[U.flat_eq]at D
 rcases mem_cons.1 D with rfl|D
 ·have a:=lq F
  have b:=lq I
  exact⟨by omega,a.1,b.1,a.2,b.2⟩
 ·obtain⟨k,E,D⟩:=pR D
  exact ih k E (jv J k E) x D
theorem kY {u:U} (O:u.fit) {m:Int} (T:0<=m) (V:m<=100000) (h:u.few m=true):u.Short:=by
 unfold U.few at h
 simp only[Bool.and_eq_true,decide_eq_true_eq]at h
 obtain⟨M,N⟩:=h
 have Z:=(U.size_ok u 0 m T).2.2 M
 exact⟨⟨O,by omega⟩,λx X=>by
  obtain⟨Y,E,F,I,J⟩:=np u N x X
  exact⟨by omega,E,F,λw D=>by have:=I w D;omega,λw D=>by have:=J w D;omega⟩⟩
theorem nD {l:List Stp} (h:bX l=true):∀s∈l,s.label.length<=100:=by
 unfold bX at h
 simp only[all_eq_true,decide_eq_true_eq]at h
 intro s D
 have:=h s D
 omega
theorem nC:∀{l:List Itm},Itm.fews l=true->∀y∈l,y.few=true
 |[],_,y,hy=>by cases hy
 |x::l,h,y,hy=>by
  rw[Itm.fews_cons,Bool.and_eq_true,Bool.and_eq_true]at h
  rcases mem_cons.1 hy with rfl|hy
  ·exact h.1.2
  ·exact nC h.2 y hy
theorem ov:∀x:Itm,x.fit->x.few=true->x.Shorts:=by
 refine Itm.ind λx ih I h=>?_
 rw[Itm.few_eq]at h
 unfold Itm.few0 at h
 simp only[Bool.and_eq_true,decide_eq_true_eq]at h
 obtain⟨⟨V,X,Y,Z,a5,a6,a7,a8,a9,D⟩,b1,b2,J,M,N⟩:=h
 obtain⟨h1,h2,O,h4,h5,h6,T⟩:=(Itm.fit_eq x).1 I
 refine(Itm.Shorts_eq x).2 ⟨⟨I,kY O (by omega) (by omega) D,by omega,by omega,λs E=>by have:=nD J s E;omega,λs E=>by have:=nD M s E;omega,by omega,by omega,by omega,by omega,by omega,by omega⟩,λy F=>ih y F (T y F) (nC N y F)⟩
section
variable (G:Glob) (hG:GOk G)
include hG
end
def jj (d e:Dd):Prop:=e.act=d.act/\e.item=d.item
def fw (d:Dd) (x:Idd):Prop:=d.act<1\/d.item<0\/(x.act=d.act/\x.item=d.item)
instance (d e:Dd):Decidable (jj d e):=inferInstanceAs (Decidable (_/\_))
instance (d:Dd) (x:Idd):Decidable (fw d x):=inferInstanceAs (Decidable (_\/_))
def ek (ids:List Idd):List Dd->List Dd->Bool
 |_,[]=>true
 |p,d::r=>if (∃e∈p,jj d e)\/(∃x∈ids,fw d x)then false else ek ids (p++[d]) r
theorem ij (d:Dd):d.cs.length=28:=by unfold Dd.cs;simp[Itm.cs_len]
theorem gu (d:Dd):(d.cs.drop 1).length=27:=by rw[length_drop,ij]
theorem jh (d:Dd):d.cs.headD .any= .int .i64 d.act:=rfl
theorem gh (d:Dd):(d.cs.drop 1).headD .any= .int .i64 d.item:=rfl
theorem kI {l:List Dd} {i k:Nat} {x y:Dd} (F:RestT l i k y) (h:∀e∈l.take k,¬jj x e) (E:¬jj x y):∀e∈l.take (k+1),¬jj x e:=by
 intro e D
 rw[F.take,mem_append,mem_singleton]at D
 rcases D with D|rfl
 ·exact h e D
 ·exact E
section
variable (G:Glob)
theorem f35 (u:U) (ht:u.Tame) (l:List Dd) (hl:l.length<1000000):Pure G Tryz.prog 35 [.agg u.cs,.lst 28 (l.map Dd.cs)] (.bool (ek u.ids [] l)):=by
 have hA:=f56 G u ht
 have aw:u.ids.length<1000000000000000000:=by unfold U.ids;rw[length_map];have:=ht.2;omega
 refine Pure.w c35 λR Z=>?_
 unfold s35 r35
 (repeat' (first|(with_reducible (first|refine ab (λh=>?_) (λh=>?_)|refine ai (λh=>?_) (λh=>?_))<;>(try simp only[DZ]at h))|(with_reducible refine aa hA ?_)|simp only[EVz,seval,↓reduceIte,EV6,EV7,ij,gu,jh,gh,M.yes,M.le0,M.lt',M.row,al,D.le0,D.lt',D.row]|simp only[EVz,seval,↓reduceIte,EV6,EV7,ij,gu,jh,gh,ac,D.le0,D.lt',D.row,Y]|simp only[EVz,seval,↓reduceIte,EV6,EV7,ij,gu,jh,gh,D.yes,D.le0,D.lt',D.get,D.row,Y]|simp only[EVz,seval,↓reduceIte,EV6,EV7,ij,gu,jh,gh,hn]|simp only[EVz,seval,↓reduceIte,EV6,EV7,ij,gu,jh,gh]|(with_reducible intro V N;(try(have X:=N;simp only[EVK]at X;(have ba:=X))))|(refine ay (l) (λi r (c:Unit)=>ek u.ids [] l=ek u.ids (l.take i) r) (λi c=>[(1,.lst 28 (l.map Dd.cs)),(5,.lst 3 (u.ids.map Idd.cs)),(6,.int .i64 i)]) (λ_ _=>[]) () (by rfl) (Weak.rfl' _ _) (by omega) (λi x r c O D Y=>?_) (λc O hn=>?_))|(refine W_take (l) (i) (Nat.le_of_lt D.lt) (λk (c:Unit)=>∀e∈l.take k,¬jj x e) (λk c=>[(1,.lst 28 (l.map Dd.cs)),(5,.lst 3 (u.ids.map Idd.cs)),(6,.int .i64 i),(7,.int .i64 k)]) (λ_ _=>[]) () (by simp) (Weak.rfl' _ _) (by have:=D.lt;omega) (λk y c J M al=>?_) (λc J ac=>?_))|(refine qz M () ?_ (Weak.rfl' _ _))))
 ·refine RET.eq Z (congrArg AV.bool ?_)
  rw[O,ek,if_pos (.inl ⟨y,M.mem,‹_›,h⟩)]
 ·exact kI M J (λE=>h E.2) V N
 ·exact kI M J (λE=>h E.1) V N
 ·have bad:∀{z:Idd},fw x z->z∈u.ids->RET (.bool false) [] R:=λ{z} E hm=>RET.eq Z (congrArg AV.bool (by rw[O,ek,if_pos (.inr ⟨z,hm,E⟩)]))
  have T:∀{j:Nat} {z:Idd} {r2:List Idd},Rest u.ids j z r2->(∀y∈u.ids.take j,¬fw x y)->¬fw x z->∀y∈u.ids.take (j+1),¬fw x y:=λ{j z r2} I h hn y M=>by
   rw[I.take,mem_append,mem_singleton]at M
   rcases M with M|rfl
   ·exact h y M
   ·exact hn
  refine ay u.ids (λj r2 (c:Unit)=>∀z∈u.ids.take j,¬fw x z) (λj c=>[(1,.lst 28 (l.map Dd.cs)),(5,.lst 3 (u.ids.map Idd.cs)),(6,.int .i64 i),(8,.int .i64 j)]) (λ_ _=>[]) () (by simp) (Weak.rfl' _ _) (by omega) (λj z r2 c F I an=>?_) (λc F ah=>?_)
  ·(repeat' (first|(with_reducible (first|refine ab (λh=>?_) (λh=>?_)|refine ai (λh=>?_) (λh=>?_))<;>(try simp only[DZ]at h))|simp only[EVz,seval,↓reduceIte,EV6,EV7,I.yes,I.le0,I.lt',I.get,I.row,an,D.le0,D.lt',D.row,Y,ij,gu,jh,gh,Idd.cs]))
   ·exact bad (.inr (.inr ⟨‹_›,h⟩)) I.mem
   ·exact ap I () (T I F λE=>by rcases E with E|E|⟨_,E⟩<;>omega) (Weak.rfl' _ _)
   ·exact ap I () (T I F λE=>by rcases E with E|E|⟨E,_⟩<;>omega) (Weak.rfl' _ _)
   ·exact bad (.inr (.inl (by omega))) I.mem
   ·exact bad (.inl (by omega)) I.mem
  ·rw[take_length]at F
   (repeat' (simp only[EVz,seval,↓reduceIte,EV6,EV7,ah,D.le0,D.lt',D.row,Y]))
   refine ap D () ?_ (Weak.rfl' _ _)
   rw[O,ek,if_neg (by rintro(⟨e,he,E⟩|⟨z,I,E⟩);exact J e he E;exact F z I E),D.take]
 ·exact RET.eq Z (by rw[O,ek])
end
def lK (l:List Dd):Bool:=decide (l.length<=8)&&l.all λd=>d.it.few
def rH (u:U) (l:List Dd):Bool:=u.few 30&&(ig u&&(lK l&&ek u.ids [] l))
theorem lR {ids:List Idd} (hi:ids≠[]):∀{l p:List Dd},ek ids p l=true->∀d∈l,1<=d.act
 |[],_,_,d,hd=>by cases hd
 |x::l,p,h,d,hd=>by
  rw[ek]at h
  split at h
  ·cases h
  ·rename_i E
   rw[not_or]at E
   rcases mem_cons.1 hd with rfl|hd
   ·obtain⟨y,F⟩:=exists_mem_of_ne_nil ids hi
    have:¬fw d y:=λD=>E.2 ⟨y,F,D⟩
    unfold fw at this
    omega
   ·exact lR hi h d hd
section
variable (G:Glob)
theorem f34 (l:List Dd) (X:l.length<9000000000000000000) (O:∀d∈l,d.it.fit):Pure G Tryz.prog 34 [.lst 28 (l.map Dd.cs)] (.bool (lK l)):=by
 refine Pure.w c34 λR F=>?_
 unfold s34 r34
 unfold lK at F
 have V:decide ((8:Int)<(l.length:Int))= !decide (l.length<=8):=by
  by_cases h:l.length<=8
  ·rw[decide_eq_true h,decide_eq_false (by omega)];rfl
  ·rw[decide_eq_false h,decide_eq_true (by omega)];rfl
 by_cases J:l.length<=8
 ·rw[decide_eq_true J,Bool.true_and]at F
  have I:((8:Int)<(l.length:Int))=False:=eq_false (by omega)
  (repeat' (first|simp only[EVz,seval,↓reduceIte,EV6,EV7,I,D.yes,D.le0,D.lt',D.get,D.row,N]|simp only[EVz,seval,↓reduceIte,EV6,EV7,I,T]|simp only[EVz,seval,↓reduceIte,EV6,EV7,I]|(refine ay l (λi r (c:Unit)=>(l.all λd=>d.it.few)=(r.all λd=>d.it.few)) (λi c=>[(0,.lst 28 (l.map Dd.cs)),(3,.int .i64 i)]) (λ_ _=>[]) () rfl (Weak.rfl' _ _) (by omega) (λi x r c E D N=>?_) (λc E T=>?_))|fail))
  ·have M:=f55 G x.it (O _ D.mem)
   rw[all_cons]at E
   rw[Itm.cs_eq]at M
   generalize x.it.few=t at*
   (repeat' (first|(with_reducible (refine ab (λh=>?_) (λh=>?_))<;>(try simp only[DZ]at h))|(with_reducible refine aa M ?_)|simp only[EVz,seval,↓reduceIte,EV6,EV7,D.yes,D.le0,D.lt',D.get,D.row,N,Dd.cs,Itm.cs_eq]|fail))
   ·exact RET.eq F (by rw[E,h];rfl)
   ·exact ap D () (by rw[E,h,Bool.true_and]) (Weak.rfl' _ _)
  ·(repeat' ((exfalso;omega)))
   exact RET.eq F (by rw[E];rfl)
 ·rw[decide_eq_false J,Bool.false_and]at F
  have I:((8:Int)<(l.length:Int))=True:=eq_true (by omega)
  (repeat' (simp only[EVz,seval,↓reduceIte,EV6,EV7,I]))
  exact RET.eq F rfl
theorem f13 (u:U) (I:u.fit) (l:List Dd) (Z:l.length<1000000000000000000) (X:∀d∈l,d.it.fit):Pure G Tryz.prog 13 [.agg u.cs,.lst 28 (l.map Dd.cs)] (.bool (rH u l)):=by
 have F:=f9 G u 30 I (by omega) (by omega)
 have O:=f34 G l (by omega) X
 refine Pure.w c13 λR D=>?_
 unfold s13 r13
 unfold rH at D
 cases E:u.few 30 with
 |false=>
  rw[E]at F D
  (repeat' (first|(with_reducible refine aa F ?_)|simp only[EVz,seval,↓reduceIte,EV6,EV7]|fail))
  all_goals exact RQ D
 |true=>
 have V:=kY I (by omega) (by omega) E
 have N:=f33 G u V
 cases M:ig u with
 |false=>
  rw[E]at F
  rw[E,M]at D
  rw[M]at N
  (repeat' (first|(with_reducible first|refine aa F ?_|refine aa N ?_)|simp only[EVz,seval,↓reduceIte,EV6,EV7]|fail))
  all_goals exact RQ D
 |true=>
 rw[M]at N
 cases J:lK l with
 |false=>
  rw[E]at F
  rw[E,M,J]at D
  rw[J]at O
  (repeat' (first|(with_reducible first|refine aa F ?_|refine aa N ?_|refine aa O ?_)|simp only[EVz,seval,↓reduceIte,EV6,EV7]|fail))
  all_goals exact RQ D
 |true=>
 have Y:l.length<=8:=by
  unfold lK at J
  simp only[Bool.and_eq_true,decide_eq_true_eq]at J
  exact J.1
 have T:=f35 G u V.1 l (by omega)
 rw[E]at F
 rw[E,M,J]at D
 rw[J]at O
 simp only[Bool.true_and]at D
 (repeat' (first|(with_reducible first|refine aa F ?_|refine aa N ?_|refine aa O ?_|refine aa T ?_)|simp only[EVz,seval,↓reduceIte,EV6,EV7]|fail))
 all_goals exact RQ D
end
section
variable (G:Glob)
variable (hG:GOk G)
include hG
end
theorem le_zU:LeRep (.agg zU) (.agg eQ.cs):=by
 refine LeRep.agg ?_
 rw[U.cs_eq]
 unfold zU
 repeat' first
  |exact LeReps.nil
  |refine LeReps.cons ?_ ?_
 all_goals first|exact LeRep.refl _|exact LeRep.nil
section
variable (G:Glob) (hG:GOk G)
include hG
end
def fX:U:=⟨zId,2,[53],[],[],[]⟩
def eItm:Itm:=⟨0,[],[],1,0,fX,[],[],[],[],⟨0,0,[]⟩,0,0,0,[],[]⟩
def eDd:Dd:=⟨1,0,0,eItm⟩
def ePt:Pt:=⟨0,0,⟨1,0,1⟩,zId,noU,[],[]⟩
def k7:U:=⟨zId,0,[],[],[],[⟨⟨1,0,1⟩,2,[53],[],[],[]⟩]⟩
set_option maxRecDepth 100000 in
theorem e_all:allU eQ [eDd]=(k7,[ePt]):=by kernel_rfl
set_option maxRecDepth 100000 in
theorem e_rev:revP k7 ePt=(eQ,0):=by kernel_rfl
theorem e_unit:fX.Short:=by
 have F:fX.fit:=(U.fit_eq _).2 ⟨by decide,⟨by decide,by simp[fX]⟩,⟨by decide,by simp[fX]⟩,by decide,by simp[fX]⟩
 have D:fX.flat=[fX]:=by rw[U.flat_eq];show fX::U.flats []=_;rw[U.flats]
 refine⟨⟨F,by rw[D];decide⟩,?_⟩
 rw[D]
 intro x E
 simp only[mem_singleton]at E
 subst E
 exact⟨by decide,by decide,by decide,by simp[fX],by simp[fX]⟩
theorem e_itm:eItm.Shorts:=(Itm.Shorts_eq _).2 ⟨⟨(Itm.fit_eq _).2 ⟨by decide,by decide,e_unit.1.1,by decide,by decide,by decide,by simp[eItm]⟩,e_unit,by decide,by decide,by simp[eItm],by simp[eItm],by decide,by decide,by decide,by decide,by decide,by decide⟩,by simp[eItm]⟩
def eRow:List AV:=[.int .i64 1,.int .i64 0,.int .i64 0,.int .i64 0,.nil,.nil,.int .i64 1,.int .i64 0,.int .i64 0,.int .i64 0,.int .i64 0,.int .i64 2,.str [53],.nil,.nil,.nil,.nil,.nil,.str [],.str [],.int .i64 0,.int .i64 0,.str [],.int .i64 0,.int .i64 0,.int .i64 0,.str [],.nil]
theorem le_eRow:LeReps eRow (Dd.cs eDd):=by
 unfold eRow Dd.cs
 rw[Itm.cs_eq]
 repeat' first
  |exact LeReps.nil
  |refine LeReps.cons ?_ ?_
 all_goals first|exact LeRep.refl _|exact LeRep.nil
theorem e_good:Good k7:=by
 have:=(iY (l:=[eDd]) (u:=eQ) lf rfl).1
 rw[e_all]at this
 exact this
def eAV:AV:=.tup [.agg [.int .i64 0,.int .i64 0,.int .i64 0,.int .i64 0,.str [],.lst 4 [],.lst 4 [],.lst 8 [[.int .i64 1,.int .i64 0,.int .i64 1,.int .i64 2,.str [53],.lst 4 [],.lst 4 [],.lst 8 []]]],
 .lst 18 [[.int .i64 0,.int .i64 0,.int .i64 1,.int .i64 0,.int .i64 1,.int .i64 0,.int .i64 0,.int .i64 0,.int .i64 0,.int .i64 0,.int .i64 0,.int .i64 0,.str [],.lst 4 [],.lst 4 [],.lst 8 [],.str [],.lst 4 []]]]
theorem e_av:mb (k7,[ePt])=eAV:=by kernel_rfl
theorem e_bk:k7.cs=[.int .i64 0,.int .i64 0,.int .i64 0,.int .i64 0,.str [],.lst 4 [],.lst 4 [],.lst 8 [[.int .i64 1,.int .i64 0,.int .i64 1,.int .i64 2,.str [53],.lst 4 [],.lst 4 [],.lst 8 []]]]:=by kernel_rfl
theorem e_pt:ePt.cs=[.int .i64 0,.int .i64 0,.int .i64 1,.int .i64 0,.int .i64 1,.int .i64 0,.int .i64 0,.int .i64 0,.int .i64 0,.int .i64 0,.int .i64 0,.int .i64 0,.str [],.lst 4 [],.lst 4 [],.lst 8 [],.str [],.lst 4 []]:=by kernel_rfl
theorem e_em:aO (eQ,0)= .tup [.agg [.int .i64 0,.int .i64 0,.int .i64 0,.int .i64 0,.str [],.lst 4 [],.lst 4 [],.lst 8 []],.int .i64 0]:=by kernel_rfl
theorem e_tx:[105,110,115,101,114,116,101,100,32]++idTx ePt.id=[105,110,115,101,114,116,101,100,32,49,46,48,46,49]:=by
 unfold idTx ePt
 rw[fA (n:=1) (by decide) (by decide),fA (n:=0) (by decide) (by decide)]
 rfl
section
variable (G:Glob) (hG:GOk G) (hG2:GOk2 G)
theorem f26:Pure G Tryz.prog 26 [] (.agg zU):=by
 refine Pure.w c26 λR J=>?_
 unfold s26 r26
 (repeat' (first|(with_reducible (first|refine ab (λh=>?_) (λh=>?_)|refine ai (λh=>?_) (λh=>?_)|refine aj (λh=>?_) (λh=>?_))<;>(try simp only[DZ]at h))|(with_reducible refine AI (by omega) ?_)|simp only[EVz,seval,↓reduceIte,EV6,EV7,D]|simp only[EVz,seval,↓reduceIte,EV6,EV7]|(with_reducible intro I F;(try(have E:=F;simp only[EVK]at E;first|(have D:=AI E D)|(have D:=E))))|(with_reducible first|refine ae ?_ ?_|refine af ?_)|(exfalso;omega)))
 all_goals exact RQ J
theorem Fmt0 (hG2:GOk2 G) (p:Pt) (N:p.kind=0) (h:inI p.id.act/\inI p.id.item/\inI p.id.n):Pure G Tryz.prog 11 [.agg p.cs] (.str ([105,110,115,101,114,116,101,100,32]++idTx p.id)):=by
 have T:=qV h
 have I:=f27 G hG2 p.id h
 simp only[Idd.cs]at I
 have J:decide (p.kind=0)=true:=decide_eq_true N
 refine Pure.w c11 λR O=>?_
 unfold s11 r11
 unfold Pt.cs
 (repeat' (first|(with_reducible (first|refine ab (λh=>?_) (λh=>?_)|refine ai (λh=>?_) (λh=>?_)|refine aj (λh=>?_) (λh=>?_))<;>(try simp only[DZ]at h))|(with_reducible first|refine AI (by omega) ?_|refine aa I ?_)|simp only[EVz,seval,↓reduceIte,EV6,EV7,J,length_append,length_cons,length_nil,D]|simp only[EVz,seval,↓reduceIte,EV6,EV7,J,length_append,length_cons,length_nil]|(with_reducible intro M F;(try(have E:=F;simp only[EVK]at E;first|(have D:=AI E D)|(have D:=E))))|(with_reducible first|refine ae ?_ ?_|refine af ?_)|(exfalso;omega)))
 all_goals exact RQ O
include hG
theorem u_call (g:Option Nat):Pure G Tryz.prog 19 [.agg zU,.own g 54 28 [eRow]] (mb (k7,[ePt])):=by
 have h:=f19 G hG eQ lf [eDd] (by decide) (λx D=>by
  simp only[mem_singleton]at D
  subst D
  exact e_itm)
 rw[e_all]at h
 exact h.lr (.cons le_zU (.cons (LeRep.own (.cons le_eRow .nil)) .nil))
include hG2
set_option maxHeartbeats 4000000 in
theorem f10:Pure G Tryz.prog 10 [] (.bool true):=by
 have M:=f26 G
 have J:=u_call G hG
 have N:=Fmt0 G hG2 ePt rfl ⟨⟨by decide,by decide⟩,⟨by decide,by decide⟩,by decide,by decide⟩
 have F:=f14 G hG k7 e_good rfl ePt dK (by decide) (by decide)
 rw[e_rev,e_em,e_bk,e_pt]at F
 rw[e_tx,e_pt]at N
 rw[e_av]at J
 unfold eAV zU eRow at J
 unfold zU at M
 refine Pure.w c10 λR T=>?_
 unfold s10 r10
 (repeat' (first|(with_reducible (first|refine ab (λh=>?_) (λh=>?_)|refine ai (λh=>?_) (λh=>?_)|refine aj (λh=>?_) (λh=>?_))<;>(try simp only[DZ]at h))|(with_reducible first|refine AI (by omega) ?_|refine aa M ?_|refine aa (J _) ?_|refine aa N ?_|refine aa F ?_)|simp only[EVz,seval,↓reduceIte,EV6,EV7,D]|simp only[EVz,seval,↓reduceIte,EV6,EV7]|(with_reducible intro O I;(try(have E:=I;simp only[EVK]at E;first|(have D:=AI E D)|(have D:=E))))|(with_reducible first|refine ae ?_ ?_|refine af ?_)|(refine⟨[[.int .i64 1,.int .i64 0,.int .i64 0,.int .i64 0,.nil,.nil,.int .i64 1,.int .i64 0,.int .i64 0,.int .i64 0,.int .i64 0,.int .i64 2,.str [53],.nil,.nil,.nil,.nil,.nil,.str [],.str [],.int .i64 0,.int .i64 0,.str [],.int .i64 0,.int .i64 0,.int .i64 0,.str [],.nil]],rfl,(by simp),rfl,?_⟩)|(exfalso;omega)))
 all_goals first|exact RQ T|(exfalso;revert h;decide)|(exfalso;simp at h;done)|(exfalso;omega)
end
end Go.Av
