/-
  ENACT, M5: results of several parts, one of them with cells of its own; lists of children cut and joined; a unit put in place.
-/
import Derived.Test.YtppjieiiibgagaaGreatDoorQXL54toXM4
import Derived.Test.YtppjieiiibgagaaGreatDoorQXE11toXE14
import Derived.Test.YtppjieiiibgagaaGreatDoorQXL33toXP2
import Derived.Test.YtppjieiiibgagaaGreatDoorQXM1toXL49
import Derived.Test.YtppjieiiibgagaaGreatDoorQXL16toXFrN
import Derived.Shelf.Vars
set_option linter.all false
namespace Go.Av
open Go Go.RowKit Go.Proofs List
def LeRep (x y:AV):Prop:=∀σ w u,Rep σ w x u->Rep σ w y u
inductive LeReps:List AV->List AV->Prop
 |nil:LeReps [] []
 |cons {x y xs ys}:LeRep x y->LeReps xs ys->LeReps (x::xs) (y::ys)
def LeRep.of {x y:AV} (h:AVle x y):LeRep x y:=λ_ _ _ D=>h.rep D
def LeRep.refl (x:AV):LeRep x x:=λ_ _ _ h=>h
def LeReps.rep {xs ys:List AV} (h:LeReps xs ys):∀{σ w us},RepL σ w xs us->RepL σ w ys us:=by
 induction h with
 |nil=>intro σ w us h;exact h
 |cons h1 h2 ih=>
  intro σ w us h;simp only[RepL]at h ⊢;obtain⟨u,D,rfl,E,F⟩:=h;exact⟨u,D,rfl,h1 _ _ _ E,ih F⟩
def LeRep.tup {xs ys:List AV} (h:LeReps xs ys):LeRep (.tup xs) (.tup ys):=λσ w u D=>by
 simp only[Rep]at D ⊢;obtain⟨vs,e,D⟩:=D;exact⟨vs,e,h.rep D⟩
def tJ {G:Glob} {P:Program} {k:FuncId} {args:List AV} {R:AV->Store->Prop} {r0:AV} (h:aj G P k args [] R) (J:∀r σ',R r σ'->LeRep r r0):Pure G P k args r0:=
 ⟨h.1,λρ w vs M F=>(h.2 ρ w vs M F).mono (by
  rintro e w' ⟨v,r,σ',rfl,N,E,I,D⟩
  exact⟨v,r0,[],rfl,⟨rfl,rfl⟩,E.subN (SubN.nil σ'),I.trans (rN (SubN.nil σ').1 w'),Rep.ev (rN (SubN.nil σ').1 w') _ _ (J r σ' N _ _ _ D)⟩)⟩
def RET.any {x:AV} {R:AV->Store->Prop} {σ:Store} (h:R x []):RET x σ R:=⟨x,[],rW _,SubN.nil _,h⟩
def tokF {g:Option Nat} {e:TypeId} {m:Nat} {κ:Store} (D:∀b,g=some b->b∉κ.keys):∀b,g=some b->Store.get (κ++tokS g e m) b=some (.tok e m):=by
 rintro b rfl;rw[ao (D b rfl)];simp[tokS,Store.get]
def app_kept {e:TypeId} {sz bytes m:Nat} {g:Option Nat} {rows ys:List (List AV)} {K:AV->Store->Prop} {D:Nat} {y:AObj} (κ:Store) (F:D∉Store.keys (κ++tokS g e m)) (N:∀b,g=some b->b∉κ.keys) (X:m=rows.length*sz) (I:κ.keys.Nodup) (T:(rows.length+ys.length)*bytes<=140737488355328)
  (V:∀E,(∀b,E=some b->b∉κ.keys)->K (.own E e sz (rows++ys)) (κ++tokS E e ((rows++ys).length*sz))):appX e sz bytes ((D,y)::(κ++tokS g e m)) g rows ys K:=by
 subst X
 refine gj κ (λb h=>?_) T ⟨λq J=>?_,λ_=>I⟩ V
 ·have M:=tokF (e:=e) (m:=rows.length*sz) N b h
  have O:D≠b:=by
   rintro rfl;exact F (mem_map.2 ⟨_,rv M,rfl⟩)
  simp only[Store.get,if_neg O];exact M
 ·cases g with
  |none=>exact mem_cons_of_mem _ (mem_append.2 (.inl J))
  |some b=>
   refine mem_filter.2 ⟨mem_cons_of_mem _ (mem_append.2 (.inl J)),?_⟩;have:q.1≠b:=λh=>N b rfl (by rw[←h];exact mem_map.2 ⟨q,J,rfl⟩);simpa using this
section
variable (G:Glob)
def f84 (l:List U) (k:Nat) (T:k<l.length) (V:l.length<1000000):Pure G Tryz.prog 84 [.lst 8 (l.map U.cs),.i k] (.lst 8 ((aN l k).map U.cs)):=by
 have F:IntKind.i64.wrap ((k:Int)+1)=((k+1:Nat):Int):=by rw[av (by omega) (by omega)];omega
 have I:List.take l.length (l.map U.cs)=l.map U.cs:=take_of_length_le (by simp);refine Pure.w c84 λR N=>?_;unfold s84 r84;(repeat' (first|(with_reducible refine AI (by omega) ?_)|simp only[EV,seval,F,J]|simp only[EV,seval,F]|(with_reducible intro M D;(try(have E:=D;simp only[EVK]at E;(have J:=E))))|(refine⟨[],rfl,(by simp),rfl,?_⟩)|(refine cx (by exact aS) rfl rfl (by simp<;>omega) (λO=>?_))|fail));exact N _ _ (Or.inl (Or.inr ⟨rfl,by rw[I,aN,map_append,map_take,map_drop]⟩))
def f147 (l:List U) (k:Nat) (x:U) (O:k<=l.length) (T:l.length<1000000):Pure G Tryz.prog 147 [.lst 8 (l.map U.cs),.i k,.agg x.cs] (.lst 8 ((aX l k x).map U.cs)):=by
 have I:List.take l.length (l.map U.cs)=l.map U.cs:=take_of_length_le (by simp);refine Pure.w c147 λR M=>?_;unfold s147 r147;(repeat' (first|(with_reducible refine AI (by omega) ?_)|simp only[EV,seval,D]|simp only[EV,seval]|(with_reducible intro J F;(try(have E:=F;simp only[EVK]at E;first|(have D:=AI E D)|(have D:=E))))|(with_reducible first|refine ag ?_ ?_|refine ai ?_)|(refine⟨[],rfl,(by simp),rfl,?_⟩)|(refine⟨[x.cs],rfl,(by simp[ra]),(by simp),?_⟩)|(refine cx (by first|exact aS|exact bp (by assumption)|(rintro d h<;>injection h with h<;>subst h<;>simp[Store.get,D]<;>done)) rfl rfl (by simp<;>omega) (λN=>?_))|fail))
 all_goals exact M _ _ (Or.inl (Or.inr ⟨rfl,by rw[I,aX,map_append,map_take,map_cons,map_drop];simp⟩))
def f85 (x:U):∀(u:U),u.Tame->Pure G Tryz.prog 85 [.agg u.cs,.agg x.cs] (.agg (U.put x u).cs):=by
 refine U.ind λu ih ht=>?_;have ac:=ht.kids;refine Pure.w c85 λR T=>?_;unfold s85 r85;rw[tm]at T;rw[hH u];by_cases X:u.id=x.id
 ·have O:decide (u.id=x.id)=true:=decide_eq_true X;rw[if_pos X]at T;(repeat' (first|simp only[EV,seval,am,O,tf,tG,D]|simp only[EV,seval,am,O,tf,tG]|(with_reducible intro J F;(try(have E:=F;simp only[EVK]at E;first|(have D:=AI E D)|(have D:=E))))|fail));exact RET.eq T rfl
 ·have O:decide (u.id=x.id)=false:=decide_eq_false X;rw[if_neg X]at T;(repeat' (first|simp only[EV,seval,am,O,D]|simp only[EV,seval,am,O]|(with_reducible intro J F;(try(have E:=F;simp only[EVK]at E;first|(have D:=AI E D)|(have D:=E))))|(refine⟨[],rfl,(by simp),rfl,?_⟩)|fail));rename_i M _ _ _ N _ _ _
  have aa:Store.keys [(N,AObj.cells 27 zU),(M,.cells 27 u.cs)]|>.Nodup:=by simp[Store.keys,D]
  refine ap (ι:=Option Nat) u.kids (λi r c=>∀b,c=some b->b∉Store.keys [(N,AObj.cells 27 zU),(M,.cells 27 u.cs)]) (λi c=>[(2,.p M),(3,.ref x.cs),(4,.p N),(5,.own c 27 8 ((u.kids.take i).map λk=>(U.put x k).cs)),(6,.i i)])
   (λi c=>[(N,AObj.cells 27 zU),(M,.cells 27 u.cs)]++tokS c 27 (i*8)) (some J) (by rintro b h;injection h with h;subst h;simp[Store.keys,D]) (Weak.of (by simp[cj,Env.get,AVle,aH]) (by rw[hH u];exact o6 (perm_append_comm (l₁:=[_,_]) (l₂:=[_])))) (by omega) (λi k r c V I hw=>?_) (λc V hn=>?_)
  ·have Z:=ih k I.mem (ht.kid I.mem);(repeat' (first|(with_reducible refine ab Z ?_)|simp only[EV,seval,I.yes,I.le0,I.lt',I.row,hw,I.get,D]|(with_reducible intro J F;(try(have E:=F;simp only[EVK]at E;(have D:=AI E D))))|fail));have hi:=I.lt;refine⟨[(U.put x k).cs],rfl,by simp[ra],by simp,?_⟩;refine app_kept (m:=i*8) [(N,AObj.cells 27 zU),(M,.cells 27 u.cs)] F V (by rw[length_map,length_take];omega) aa (by simp;omega) (λgn Y=>?_);refine ak I gn Y ?_
   have e:((u.kids.take i).map (λk=>(U.put x k).cs)++[(U.put x k).cs]).length*8=(i+1)*8:=by simp;omega
   rw[e,I.take,map_append];exact dT _ _
  ·rw[hH u];(repeat' (simp only[EV,seval,hn,D]));exact T _ _ (Or.inr (by rw[hH {u with kids:=u.kids.map (U.put x)}];simp[aW,aH,map_map,Function.comp_def]))
end
def U.wt (u:U):Nat:=(u.flat.map λy=>y.head.length+y.words.length).sum
def U.wts (us:List U):Nat:=((U.flats us).map λy=>y.head.length+y.words.length).sum
def ux (u:U):u.wt=u.head.length+u.words.length+U.wts u.kids:=by unfold U.wt U.wts;rw[U.flat_eq];simp
def tc:U.wts []=0:=by unfold U.wts;rw[bH];rfl
def sV (u:U) (us:List U):U.wts (u::us)=u.wt+U.wts us:=by unfold U.wt U.wts;rw[aF];simp
def td (a b:List U):U.wts (a++b)=U.wts a+U.wts b:=by unfold U.wts;rw[cE];simp
def jc (a b:Int) (x:U):∀(l:List U) (n m:Int),U.stamps a b (l++[x]) n m=((U.stamps a b l n m).1++[(U.stamp a b x (U.stamps a b l n m).2.1 (U.stamps a b l n m).2.2).1],(U.stamp a b x (U.stamps a b l n m).2.1 (U.stamps a b l n m).2.2).2)
 |[],n,m=>by rw[nil_append,se,sb,sb];rfl
 |u::l,n,m=>by rw[cons_append,se,jc a b x l,se];rfl
def qV (a b:Int):∀(u:U) (n m:Int),(U.stamp a b u n m).2.2=m+u.wt:=by
 refine U.ind λu ih n m=>?_
 have h:∀(us:List U),(∀k∈us,∀n m,(U.stamp a b k n m).2.2=m+k.wt)->∀n m,(U.stamps a b us n m).2.2=m+U.wts us:=by
  intro us
  induction us with
  |nil=>intro _ n m;rw[sb,tc];simp
  |cons x us ihu=>
   intro h n m;rw[se];simp only;rw[ihu (λk D=>h k (by simp[D])),h x (by simp),sV];omega
 rw[sL];simp only;rw[h u.kids ih,ux];omega
def gR (a b:Int) (us:List U) (n m:Int):(U.stamps a b us n m).2.1=n+(U.flats us).length/\(U.stamps a b us n m).2.2=m+U.wts us/\(U.stamps a b us n m).1.length=us.length:=by
 refine⟨(iH a b (λk _ n m=>lp a b k n m) n m).next,?_,?_⟩
 ·induction us generalizing n m with
  |nil=>rw[sb,tc];simp
  |cons x us ih=>
   rw[se];simp only;rw[ih,qV,sV];omega
 ·have:=congrArg List.length (iH a b (us:=us) (λk _ n m=>lp a b k n m) n m).key;simpa using this
def nT {e:TypeId} {sz bytes m:Nat} {g:Option Nat} {rows ys:List (List AV)} {K:AV->Store->Prop} {E F:Nat} {X y2:AObj} (κ:Store) (J:E∉Store.keys (κ++tokS g e m)) (M:F∉Store.keys ((E,X)::(κ++tokS g e m))) (V:∀b,g=some b->b∉κ.keys) (hm:m=rows.length*sz) (N:κ.keys.Nodup) (hb:(rows.length+ys.length)*bytes<=140737488355328)
  (hk:∀I,(∀b,I=some b->b∉κ.keys)->K (.own I e sz (rows++ys)) (κ++tokS I e ((rows++ys).length*sz))):appX e sz bytes ((F,y2)::(E,X)::(κ++tokS g e m)) g rows ys K:=by
 subst hm
 refine gj κ (λb h=>?_) hb ⟨λq O=>?_,λ_=>N⟩ hk
 ·have T:=tokF (e:=e) (m:=rows.length*sz) V b h
  have D:b∈Store.keys (κ++tokS g e (rows.length*sz)):=mem_map.2 ⟨_,rv T,rfl⟩;have Y:E≠b:=λe=>J (by rw[e];exact D);have Z:F≠b:=λe=>M (by rw[e];exact mem_cons_of_mem _ D);simp only[Store.get,if_neg Y,if_neg Z];exact T
 ·cases g with
  |none=>exact mem_cons_of_mem _ (mem_cons_of_mem _ (mem_append.2 (.inl O)))
  |some b=>
   refine mem_filter.2 ⟨mem_cons_of_mem _ (mem_cons_of_mem _ (mem_append.2 (.inl O))),?_⟩;have:q.1≠b:=λh=>V b rfl (by rw[←h];exact mem_map.2 ⟨q,O,rfl⟩);simpa using this
section
variable (G:Glob)
def jU (a b:Int) (u:U) (n m:Int):AV:=.tup [.agg (U.stamp a b u n m).1.cs,.i (U.stamp a b u n m).2.1,.i (U.stamp a b u n m).2.2]
set_option maxHeartbeats 1000000 in
def f262 (a b:Int):∀(u:U),u.Short->∀n m:Int,0<=n->0<=m->n+u.flat.length<=100000000000->m+u.wt<=100000000000->Pure G Tryz.prog 262 [.agg u.cs,.i a,.i b,.i n,.i m] (jU a b u n m):=by
 refine U.ind λu ih hs n m d1 bk bs bn=>?_;have d0:=hs.1.kids;have hu:=hs.2 u u.flat_self;rw[U.flat_eq,length_cons]at bs;rw[ux]at bn;have bd:=f328 G u.head hu.2.1;have be:=f328 G u.words hu.2.2.1;have ah:=f87 G (u.head.map Wd.text) a b m (by rw[length_map];exact hu.2.1) bk (by omega);have al:=f87 G (u.words.map Wd.text) a b (m+u.head.length) (by rw[length_map];exact hu.2.2.1) (by omega) (by omega)
 have aa:(aL a b (u.head.map Wd.text) m).length=u.head.length:=by rw[bG,length_map]
 have ac:(aL a b (u.words.map Wd.text) (m+u.head.length)).length=u.words.length:=by rw[bG,length_map]
 have w1:IntKind.i64.wrap (n+1)=n+1:=av (by omega) (by omega);have w2:IntKind.i64.wrap (m+(u.head.length:Int))=m+u.head.length:=av (by omega) (by omega);have w3:IntKind.i64.wrap (m+(u.head.length:Int)+(u.words.length:Int))=m+u.head.length+u.words.length:=av (by omega) (by omega);refine tJ (R:=λr _=>LeRep r (jU a b u n m)) (aj.w c262 ?_) (λr σ' h=>h);unfold s262 r262;unfold jU;rw[sL,hH u];(repeat' (first|(with_reducible first|refine ab bd ?_|refine ab be ?_|refine ab ah ?_|refine ab al ?_)|simp only[EV,seval,w1,w2,w3,aa,ac,D]|simp only[EV,seval,w1,w2,w3,aa,ac]|(with_reducible intro V E;(try(have F:=E;simp only[EVK]at F;first|(have D:=AI F D)|(have D:=F))))|(refine⟨[],rfl,(by simp),rfl,?_⟩)|fail));rename_i b5 _ _ _ M _ _ _;obtain⟨T,bo⟩:∃T,n+1=T:=⟨_,rfl⟩;obtain⟨O,bm⟩:∃O,m+(u.head.length:Int)+(u.words.length:Int)=O:=⟨_,rfl⟩;obtain⟨S,hS⟩:∃S:Nat->List U×Int×Int,S=λi=>U.stamps a b (u.kids.take i) T O:=⟨_,rfl⟩
 have an:S 0=([],T,O):=by rw[hS];simp only[take_zero,sb]
 have X:∀i,(S i).2.1=T+(U.flats (u.kids.take i)).length/\(S i).2.2=O+U.wts (u.kids.take i)/\(S i).1.length=(u.kids.take i).length:=λi=>by rw[hS];exact gR a b _ T O
 obtain⟨row,J⟩:∃row,row=[AV.int .i64 a,.i b,.i n,.i u.kind,.str u.label,.lst 4 ((aL a b (u.head.map Wd.text) m).map Wd.cs),.lst 4 ((aL a b (u.words.map Wd.text) (m+u.head.length)).map Wd.cs),.lst 8 (u.kids.map U.cs)]:=⟨_,rfl⟩
 have bw:Store.keys [(M,AObj.cells 27 zU),(b5,.cells 27 row)]|>.Nodup:=by simp[Store.keys,D]
 rw[bo,bm];refine ap (ι:=Option Nat) u.kids (λi r c=>∀b',c=some b'->b'∉Store.keys [(M,AObj.cells 27 zU),(b5,.cells 27 row)]) (λi c=>[(1,.i a),(2,.i b),(3,.i (S i).2.1),(4,.i (S i).2.2),(5,.p b5),(10,.p M),(13,.own c 27 8 ((S i).1.map U.cs)),(14,.i i)])
  (λi c=>[(M,AObj.cells 27 zU),(b5,.cells 27 row)]++tokS c 27 (i*8)) (some V) (by rintro b h;injection h with h;subst h;simp[Store.keys,D]) (Weak.of (by rw[an];simp[cj,Env.get,AVle,aH]) (by rw[J];exact o6 (perm_append_comm (l₁:=[_,_]) (l₂:=[_])))) (by omega) (λi k r c ad I hw=>?_) (λc ad hn=>?_)
 ·obtain⟨s1,s2,s3⟩:=X i;obtain⟨t1,t2,t3⟩:=X (i+1)
  have cp:(U.flats (u.kids.take (i+1))).length<=(U.flats u.kids).length:=by
   conv=>rhs;rw[←take_append_drop (i+1) u.kids,cE,length_append]
   omega
  have d2:U.wts (u.kids.take (i+1))<=U.wts u.kids:=by
   conv=>rhs;rw[←take_append_drop (i+1) u.kids,td]
   omega
  have bx:(U.flats (u.kids.take (i+1))).length=(U.flats (u.kids.take i)).length+k.flat.length:=by rw[I.take,cE,aF,bH];simp
  have ch:U.wts (u.kids.take (i+1))=U.wts (u.kids.take i)+k.wt:=by rw[I.take,td,sV,tc];simp
  have Z:=ih k I.mem (hs.kid I.mem) (S i).2.1 (S i).2.2 (by omega) (by omega) (by omega) (by omega);unfold jU at Z
  have bb:S (i+1)=((S i).1++[(U.stamp a b k (S i).2.1 (S i).2.2).1],(U.stamp a b k (S i).2.1 (S i).2.2).2):=by
   simp only[hS];rw[I.take,jc]
  subst J;(repeat' (first|(with_reducible refine ab Z ?_)|simp only[EV,seval,I.yes,I.le0,I.lt',I.row,hw,I.get,D]|(with_reducible intro V E;(try(have F:=E;simp only[EVK]at F;(have D:=AI F D))))|fail));rename_i cm Y _ _;have cw:=I.lt
  have N:(u.kids.take i).length=i:=by rw[length_take];omega
  refine⟨[(U.stamp a b k (S i).2.1 (S i).2.2).1.cs],rfl,by simp[ra],by simp,?_⟩;refine nT (m:=i*8) _ Y E ad (by rw[length_map,s3,N]) bw (by rw[length_map,s3,N];simp;omega) (λgn bh=>?_);refine ak I gn bh ?_;rw[bb]
  have e:((S i).1.map U.cs++[(U.stamp a b k (S i).2.1 (S i).2.2).1.cs]).length*8=(i+1)*8:=by rw[length_append,length_map,s3,N];rfl
  rw[e];simp only[map_append,map_cons,map_nil];exact dT _ _
 ·subst J
  have aw:S u.kids.length=U.stamps a b u.kids T O:=by simp only[hS];rw[take_length]
  (repeat' (simp only[EV,seval,hn,D]));rw[aw];exact RET.any (LeRep.tup (.cons (LeRep.of (.inr (by rw[hH];simp[aW,aH]))) (.cons (.refl _) (.cons (.refl _) .nil))))
end
structure Ms where
 act:Int
 item:Int
 why:Int
 deriving DecidableEq,Inhabited
def Ms.cs (m:Ms):List AV:=[.i m.act,.i m.item,.i m.why]
def kw (d:Dd) (e:Int):List Ms:=if e=0 then []else [⟨d.act,d.item,e⟩]
def de (u:U) (d:Dd):U×List Ms:=if chg d.it.kind=false then (u,[])else ((doP u d).1,kw d (doP u d).2)
def allP:U->List Dd->U×List Ms
 |u,[]=>(u,[])
 |u,d::l=>((allP (de u d).1 l).1,(de u d).2++(allP (de u d).1 l).2)
def gb (u:U) (d:Dd) (l:List Dd):allP u (d::l)=((allP (de u d).1 l).1,(de u d).2++(allP (de u d).1 l).2):=rfl
def fX {u:U} (h:Good u) (d:Dd):Good (de u d).1/\Root u (de u d).1:=by
 unfold de;split
 ·exact⟨h,Root.refl u⟩
 ·exact do_good h d
def pf:∀{l:List Dd} {u:U},Good u->Good (allP u l).1/\Root u (allP u l).1
 |[],u,h=>⟨h,Root.refl u⟩
 |d::l,u,h=>by
  obtain⟨D,E⟩:=fX h d;obtain⟨F,I⟩:=pf (l:=l) D;exact⟨F,E.trans I⟩
def pv (u:U) (d:Dd):(de u d).2.length<=1:=by
 unfold de kw;split
 ·simp
 ·simp only;split<;>simp
def kY:∀(l:List Dd) (u:U),(allP u l).2.length<=l.length
 |[],u=>by simp[allP]
 |d::l,u=>by
  rw[gb,length_append,length_cons];have:=pv u d;have:=kY l (de u d).1;omega
/-! ### the document's words for the same -/
def g8 (u:U) (d:Dd):U×List Ms:=if chg d.it.kind=false then (u,[])else ((doR u d).1,kw d (doR u d).2)
def allR:U->List Dd->U×List Ms
 |u,[]=>(u,[])
 |u,d::l=>((allR (g8 u d).1 l).1,(g8 u d).2++(allR (g8 u d).1 l).2)
def do_same {u:U} (h:Good u) (d:Dd):doR u d=doP u d:=do_eq u h.fine d λE D=>eY E D
def o0:∀{l:List Dd} {u:U},Good u->allR u l=allP u l
 |[],u,h=>rfl
 |d::l,u,h=>by
  have e:g8 u d=de u d:=by unfold g8 de;rw[do_same h]
  rw[allR,gb,e,o0 (fX h d).1]
/-! ### sizes -/
def wt5 (k:K5):Nat:=1+k.2.2.2.2.length / 50+k.2.2.2.1.length / 50+k.2.2.1.length / 50
def wtL (L:List K5):Nat:=(L.map wt5).sum
def wtL_nil:wtL []=0:=rfl
def gQ (k:K5) (L:List K5):wtL (k::L)=wt5 k+wtL L:=by simp[wtL]
def cg (A B:List K5):wtL (A++B)=wtL A+wtL B:=by simp[wtL]
def stamp_wt (a b:Int):∀(u:U) (n m:Int),wtL (U.stamp a b u n m).1.all5=wtL u.all5:=by
 refine U.ind λu ih n m=>?_
 have h:∀(us:List U),(∀k∈us,∀n m,wtL (U.stamp a b k n m).1.all5=wtL k.all5)->∀n m,wtL (U.alls5 (U.stamps a b us n m).1)=wtL (U.alls5 us):=by
  intro us
  induction us with
  |nil=>intro _ n m;rw[sb]
  |cons x us ihu=>
   intro h n m;rw[se];simp only;rw[sw,sw,cg,cg,h x (by simp),ihu (λk D=>h k (by simp[D]))]
 rw[sL,sg,sg u,gQ,gQ];simp only;rw[h u.kids ih];congr 1;simp[wt5,U.k5,bG]
def all5_node {v:U} {k:K5} (D:k∈v.all5):∃y∈v.flat,y.k5=k:=mem_map.1 D
def wt5_node {v:U} (h:Good v) {k:K5} (D:k∈v.all5):wt5 k<=11:=by
 obtain⟨y,E,rfl⟩:=all5_node D;have s:=dQ (h.node y E);have F:=s.label;have I:=s.head.1;have J:=s.words.1;simp only[wt5,U.k5];omega
def rB {u:U} (h:Good u):cR u=true:=by
 unfold cR;simp only[Bool.and_eq_true,decide_eq_true_eq];refine⟨all_eq_true.2 h.node,by have:=h.dep;unfold U.dep;omega,by have:=h.cnt;unfold U.cnt;omega,?_⟩;unfold gZ;rw[Bool.or_eq_true,Bool.and_eq_true,decide_eq_true_eq,decide_eq_true_eq];refine .inr ⟨?_,h.nd⟩;rw[decide_eq_decide];exact h.root.symm
/-! ### from nothing -/
def bO (a:Ac):Nat->List Itm->List Dd
 |_,[]=>[]
 |i,x::l=>⟨a.number,(i:Int),a.day,x⟩::bO a (i+1) l
def Ac.deeds (a:Ac):List Dd:=bO a 0 a.items
def cd (a:Ac):∀(l:List Itm) (i:Nat),(bO a i l).length=l.length
 |[],_=>rfl
 |x::l,i=>by rw[bO,length_cons,length_cons,cd a l (i+1)]
def jo (a:Ac):∀(l m:List Itm) (i:Nat),bO a i (l++m)=bO a i l++bO a (i+l.length) m
 |[],m,i=>rfl
 |x::l,m,i=>by
  rw[cons_append,bO,jo a l m (i+1),bO,cons_append,length_cons];congr 3;omega
def gy (a:Ac):∀{l:List Itm} {i:Nat} {d:Dd},d∈bO a i l->d.it∈l
 |[],_,d,h=>by cases h
 |x::l,i,d,h=>by
  rw[bO]at h
  rcases mem_cons.1 h with rfl|h
  ·simp
  ·exact mem_cons_of_mem _ (gy a h)
def kj (a:Ac):∀(l:List Itm) (i:Nat) (u:U),((allP u (bO a i l)).2.map Ms.item).Pairwise (· < ·)/\
  ∀m∈(allP u (bO a i l)).2,m.why≠0/\∃(j:Nat) (x:Itm),l[j]? =some x/\m.item=((i+j:Nat):Int)/\chg x.kind=true
 |[],i,u=>by simp[bO,allP]
 |x::l,i,u=>by
  rw[bO,gb];obtain⟨T,M⟩:=kj a l (i+1) (de u ⟨a.number,(i:Int),a.day,x⟩).1
  have N:∀m∈(de u ⟨a.number,(i:Int),a.day,x⟩).2,m.why≠0/\m.item=(i:Int)/\chg x.kind=true:=by
   intro m D;unfold de kw at D;split at D
   ·cases D
   ·rename_i X;simp only at D;split at D
    ·cases D
    ·rename_i Y;simp only[mem_singleton]at D;subst D;exact⟨Y,rfl,by simpa using X⟩
  have V:((de u ⟨a.number,(i:Int),a.day,x⟩).2.map Ms.item).Pairwise (· < ·):=by
   have:=pv u ⟨a.number,(i:Int),a.day,x⟩
   cases hs:(de u ⟨a.number,(i:Int),a.day,x⟩).2 with
   |nil=>simp
   |cons m r=>
    rw[hs]at this
    cases r with
    |nil=>simp
    |cons _ _=>simp at this
  refine⟨?_,?_⟩
  ·simp only;rw[map_append,pairwise_append];refine⟨V,T,?_⟩;intro p Z q hq;obtain⟨m,D,rfl⟩:=mem_map.1 Z;obtain⟨m2,J,rfl⟩:=mem_map.1 hq;obtain⟨_,E,_⟩:=N m D;obtain⟨_,j,y,_,F,_⟩:=M m2 J;omega
  ·intro m D
   rcases mem_append.1 D with D|D
   ·obtain⟨I,E,F⟩:=N m D;exact⟨I,0,x,rfl,by simpa using E,F⟩
   ·obtain⟨I,j,y,E,F,O⟩:=M m D;exact⟨I,j+1,y,by simpa using E,by rw[F];omega,O⟩
def bl:List (List UInt8):=[[105,110,115,101,114,116],[114,101,112,101,97,108],[119,111,114,100,115],[112,117,116],[104,101,97,100,105,110,103],[114,101,108,97,98,101,108],[109,111,118,101],[99,111,109,109,101,110,99,101],[101,120,112,105,114,101],[114,101,118,105,118,101],[104,97,112,112,101,110],[99,111,114,114,101,99,116]]
def lx (a:Ac) (n:Int):Itm:=a.items.getD n.toNat default
def onF (a:Ac) (m:Ms):Fnd:=⟨m.item,⟨0,0,0⟩,m.why,bl.getD (lx a m.item).kind.toNat []⟩
def Ac.on (u:U) (a:Ac):List Fnd:=(allP u a.deeds).2.map (onF a)
end Go.Av
section
namespace Go.Av
open Go Go.RowKit Go.Proofs List
def lB:List AV:=Lib.pow10Tab.map (AV.int .u64)
def mc:lB.length=20:=rfl
def nG (m:Int):List (Nat×List AV):=[(4,tabNames),(2,tabBelow),(1,tabOrder),(3,lB),(9,[.i m]),(0,bl.map AV.str)]
def GA (m:Int):Glob where
 tab:=(globOf (nG m)).tab
 holds σ w:=(∀p∈nG m,RepAt σ w ⟨p.1,0,none⟩ 0 p.2)/\∃e,w.shape? 3=some (e,20)
 ev he h:=⟨λp D=>RepAt.ev he _ _ _ (h.1 p D),h.2.imp λe h=>he.shape _ _ h⟩
 tabs:=λ{σ w g cs} h ht=>(globOf (nG m)).tabs (σ:=σ) (w:=w) (g:=g) (cs:=cs) h.1 ht
def GA_ok (m:Int):GOk (GA m):=⟨rfl,rfl,rfl⟩
def GA_names (m:Int):(GA m).tab 0=some (bl.map AV.str):=rfl
def gPow:Tryz.prog.globalNamed "internal/strconv.uint64pow10" =some 3:=by kernel_rfl
def pr {τ:Store} {w:World} {k:IntKind}:∀{zs:List Int} {us:List Value},RepL τ w (zs.map (AV.int k)) us->us=zs.map (Value.int k)
 |[],us,h=>by simpa[RepL]using h
 |z::zs,us,h=>by
  simp only[map_cons,RepL]at h;obtain⟨u,F,rfl,D,E⟩:=h;simp only[Rep]at D;rw[D,pr E,map_cons]
def GA_ok2 (m:Int):GOk2 (GA m) where
 max τ w hS:=by
  have h:=hS.glob.1 (9,[.i m]) (by simp[nG]);simp only[RepAt]at h;obtain⟨⟨u,O,_,M⟩,_⟩:=h;simp only[Rep]at M;subst M;exact⟨m,O.1⟩
 pow τ w hS:=by
  have h:=hS.glob.1 (3,lB) (by simp[nG]);obtain⟨e,D⟩:=hS.glob.2;obtain⟨vs,Y,T,Z,V⟩:=jR h 20 (by rw[mc];exact Nat.le_refl _);have I:=pr (zs:=Lib.pow10Tab) (by simpa[lB,take_of_length_le (show(Lib.pow10Tab.map (AV.int .u64)).length<=20 from Nat.le_refl _)]using T);unfold Lib.TabIs World.var?;rw[gPow];unfold World.shape? at D;simp only[Option.bind_some]
  cases F:w.heap[3]? with
  |none=>rw[F]at D;cases D
  |some o=>
   rw[F]at D
   cases o with
   |cells c el fr=>
    simp only[Option.some.injEq,Prod.mk.injEq]at D ⊢;obtain⟨_,N⟩:=D;apply Array.ext';rw[←I];show c.toList=vs;apply ext_getElem?;intro j;by_cases X:j<20
    ·have E:j<vs.length:=by omega
     have J:=V j vs[j] (getElem?_eq_getElem E);rw[add_lit,Nat.zero_add,cell_of_row w _ j c el fr F]at J;rw[getElem?_eq_getElem E,←J];simp
    ·rw[getElem?_eq_none (l:=c.toList) (by rw[Array.length_toList];omega),getElem?_eq_none (l:=vs) (by omega)]
   |_=>cases D
end Go.Av
namespace Go.Proofs.YtppjieiiibgagaaGreatDoor
open Go.ChangeShapes Go.WideShapes Go.ChangeAt Go.RowKit
noncomputable def tPowT:TypeId:=((Tryz.prog.globals[3]?).map (·.type)).getD 0
theorem tPow:(Tryz.prog.globals[3]?).map (·.type)=some tPowT:=by kernel_rfl
theorem tPowD:Go.Av.avD Tryz.prog 6 tPowT (Rows.laid_internal_strconv_uint64pow10 (H:=Unit))=some Go.Av.lB:=by kernel_rfl
theorem cell7 {W:World} (h:W.ShapedOpen Tryz.prog):∃m,W.cell? ⟨9,0,none⟩=some (.int .i64 m):=
 cell_of_shapedOpen_int (t:=3) (zero:=#[.int .i64 0]) h (of_decide_eq_true (by kernel_rfl)) (by kernel_rfl) rfl (by kernel_rfl) (by kernel_rfl) (by kernel_rfl)
abbrev l6:List (String×DataW Unit):=Rows.lintOnBookRow.laid
theorem gItem:Tryz.prog.globalNamed "pandect/syntax.names" =some 0:=by kernel_rfl
noncomputable def tItemT:TypeId:=((Tryz.prog.globals[0]?).map (·.type)).getD 0
theorem tItem:(Tryz.prog.globals[0]?).map (·.type)=some tItemT:=by kernel_rfl
theorem tItemD:Go.Av.avD Tryz.prog 6 tItemT (Rows.laid_pandect_syntax_names (H:=Unit))=some (Go.Av.bl.map Go.Av.AV.str):=by kernel_rfl
theorem memC1:("pandect/unit.names",Rows.laid_pandect_unit_names (H:=Unit))∈l6.filter λx=>x.2.handleName?.isNone:=
 List.mem_filter.2 ⟨List.mem_of_getElem? (i:=4) rfl,by kernel_rfl⟩
theorem memC2:("pandect/unit.below",Rows.laid_pandect_unit_below (H:=Unit))∈l6.filter λx=>x.2.handleName?.isNone:=
 List.mem_filter.2 ⟨List.mem_of_getElem? (i:=5) rfl,by kernel_rfl⟩
theorem memC3:("pandect/syntax.order",Rows.laid_pandect_syntax_order (H:=Unit))∈l6:=List.mem_of_getElem? (i:=7) rfl
theorem memC4:("internal/strconv.uint64pow10",Rows.laid_internal_strconv_uint64pow10 (H:=Unit))∈l6.filter λx=>x.2.handleName?.isNone:=
 List.mem_filter.2 ⟨List.mem_of_getElem? (i:=2) rfl,by kernel_rfl⟩
theorem memC5:("pandect/syntax.names",Rows.laid_pandect_syntax_names (H:=Unit))∈l6.filter λx=>x.2.handleName?.isNone:=
 List.mem_filter.2 ⟨List.mem_of_getElem? (i:=6) rfl,by kernel_rfl⟩
set_option maxRecDepth 100000 in
theorem metC (os:Os) (args:Array Value):laidMetH Tryz.prog l6 ((laidWorld os).forCall (λ_ _=>0) ⟨#[],args,[]⟩).memory:=
 laidMetH_of_parts3 (fuel:=40) (laidMet_of_run' 40 (by kernel_rfl) (by kernel_rfl)) (by kernel_rfl) (by kernel_rfl)
theorem holdsA {W:World} (h:laidMetH Tryz.prog l6 W) (Z:W.ShapedOpen Tryz.prog):∃m,(Go.Av.GA m).holds [] W:=by
 obtain⟨m,X⟩:=cell7 Z;have I:=glob_holds h memC1 memC2 memC3;obtain⟨E,_⟩:=laidMetH_iff.1 h;have N:=Go.Lib.laidMet.reads E memC4;have Y:=Go.Av.tab_of 6 N Go.Av.gPow tPow tPowD;refine⟨m,λp F=>?_,?_⟩
 ·simp only[Go.Av.nG,List.mem_cons,List.not_mem_nil,or_false]at F
  rcases F with rfl|rfl|rfl|rfl|rfl|rfl
  ·exact I _ (by simp)
  ·exact I _ (by simp)
  ·exact I _ (by simp)
  ·exact Y
  ·simp only[Go.Av.RepAt,Go.Av.Rep];exact⟨⟨_,Go.Av.gv X,rfl,rfl⟩,trivial⟩
  ·exact Go.Av.tab_of 6 (Go.Lib.laidMet.reads E memC5) gItem tItem tItemD
 ·obtain⟨g,t,cs,fuel,p,O,T,D,V⟩:=N;obtain rfl:=Option.some.inj (Go.Av.gPow.symm.trans O);obtain rfl:=Option.some.inj (tPow.symm.trans T);have M:=(Go.Av.oa 6 tPowT _ _ tPowD fuel cs.toList p V).1.length;rw[Go.Av.mc,Array.length_toList]at M;unfold World.var? at D;rw[Go.Av.gPow]at D;simp only[Option.bind_some]at D;unfold World.shape?
  cases J:W.heap[3]? with
  |none=>rw[J]at D;cases D
  |some o=>
   rw[J]at D
   cases o with
   |cells c el fr=>
    simp only[Option.some.injEq]at D;subst D;exact⟨el,by simp only[M]⟩
   |_=>cases D
end Go.Proofs.YtppjieiiibgagaaGreatDoor
end
namespace Go.Proofs.YtppjieiiibgagaaGreatDoor
open Go.ChangeShapes Go.WideShapes Go.ChangeAt Go.RowKit
theorem oT {P:Program} {c:OpenClaim} (N:c.start= .entering) (h:P.funcs.toList.any Func.goes=false):false=c.goesBy P:=by
 have J:P.funcs.any Func.goes=false:=by rw[←Array.any_toList];exact h
 have F:∀g:FuncId,(P.funcs[g]?).any Func.goes=false:=λg=>by
  cases D:P.funcs[g]? with
  |none=>rfl
  |some fn=>
   have M:fn∈P.funcs.toList:=Array.mem_toList_iff.2 (Array.mem_of_getElem? D);show Func.goes fn=false
   cases E:Func.goes fn with
   |false=>rfl
   |true=>rw[List.any_eq_true.2 ⟨fn,M,E⟩]at h;cases h
 have I:∀f:FuncId,P.goes f=false:=λf=>by
  unfold Program.goes;rw[J,Bool.and_false,Bool.or_false]
  cases E:(P.closure f).any λg=>(P.funcs[g]?).any Func.goes with
  |false=>rfl
  |true=>obtain⟨g,_,D⟩:=List.any_eq_true.1 E;rw[F g]at D;cases D
 unfold OpenClaim.goesBy Program.goesAt Program.goesFrom;rw[N]
 cases P.funcNamed c.func with
 |none=>rfl
 |some f=>simp[I f]
theorem goesAll:Tryz.pinned.checked.prog.funcs.toList.any Func.goes=false:=by kernel_rfl
end Go.Proofs.YtppjieiiibgagaaGreatDoor
