/-
  ENACT, M25: a unit changed in a copy of the tree.
-/
import Derived.Test.YtppjieiiibgagaaGreatDoorQXAv33toXAv36
import Derived.Test.YtppjieiiibgagaaGreatDoorQXM22toXM24
import Derived.Test.YtppjieiiibgagaaGreatDoorQXM11toXL44
import Derived.Test.YtppjieiiibgagaaGreatDoorQXM15toXM17
set_option linter.all false
namespace Go.Av
open Go Go.RowKit Go.Proofs List
def U.csv (x:U) (v:AV):List AV:=[.i x.id.act,.i x.id.item,.i x.id.n,.i x.kind,.str x.label,.lst 4 (x.head.map Wd.cs),.lst 4 (x.words.map Wd.cs),v]
def kK (G:Glob) (f:Value) (g:U->U) (σ:Store) (x:U):Prop:=
 ∀b v κ,bW 27 8 (x.kids.map U.cs) v κ->(Store.keys ((b,AObj.cells 27 (x.csv v))::(σ++κ))).Nodup->
  du G Tryz.prog f [.p b] ((b,.cells 27 (x.csv v))::(σ++κ)) (λr σ'=>∃E D,bW 27 8 ((g x).kids.map U.cs) E D/\σ'=(b,.cells 27 ((g x).csv E))::(σ++D))
def ur {x:U} {v:AV} {κ:Store} (h:bW 27 8 (x.kids.map U.cs) v κ):FrzL κ (x.csv v) x.cs:=by
 rw[hH];exact⟨.inl rfl,.inl rfl,.inl rfl,.inl rfl,.inl rfl,.inl rfl,.inl rfl,.inr ⟨27,8,_,_,h,λq D=>D,rfl⟩,trivial⟩
def split_at {i:Idd} {us a b:List U} {k:U} (e:us=a++k::b) (D:(U.idss us).Nodup) (hi:i∈k.ids):Split i us a k b:=by
 subst e
 have e:U.idss (a++k::b)=U.idss a++(k.ids++U.idss b):=by
  induction a with
  |nil=>rw[nil_append,hJ,sm];rfl
  |cons x a ih=>
   rw[cons_append,hJ,hJ];rw[cons_append,hJ]at D;rw[ih (nodup_append.1 D).2.1,append_assoc]
 rw[e]at D;obtain⟨M,E,F⟩:=nodup_append.1 D;obtain⟨I,N,J⟩:=nodup_append.1 E;exact⟨rfl,hi,λh=>F i h i (mem_append.2 (.inl hi)) rfl,λh=>J i hi i h rfl,I⟩
def fnd_split {i:Idd} {u:U} {a b:List U} {k:U} (h:u.id≠i) (s:Split i u.kids a k b):fnd i u=fnd i k:=by
 unfold Go.Av.fnd;rw[s.way h];have:=eA s.mem
 cases D:U.way i k<;>simp_all[getLastD_cons]
def uJ {a b c d e:Nat×AObj} {σ:Store}:SubN (c::d::e::σ) (σ++[a,b,c,d,e]):=
 SubN.trans (SubN.tail (SubN.tail (SubN.refl _) _) _) (o6 (perm_append_comm (l₁:=[a,b,c,d,e]) (l₂:=σ)))
def nd_pull {κ σ:Store} {p b:Nat} {A B C:AObj} (h:(κ++(p,A)::(b,B)::σ:Store).keys.Nodup):(Store.keys ((b,C)::(σ++κ))).Nodup:=by
 have:=(SubN.trans (SubN.cons (o6 perm_append_comm) _) (SubN.trans (SubN.cons (SubN.tail (SubN.refl _) _) _) sY)).2 h;simpa[Store.keys]using this
section
variable (G:Glob)
set_option maxHeartbeats 4000000 in
def f215 (f:Value) (g:U->U) (σ:Store) (i:Idd):∀(u:U),u.Short->u.ids.Nodup->i∈u.ids->kK G f g σ (fnd i u)->
  aj G Tryz.prog 215 [.agg u.cs,.agg i.cs,.sc f] σ (λr σ'=>r= .agg (U.wth i g u).cs/\σ'=σ):=by
 refine U.ind λu ih hs hn hi hD=>?_
 have e1:=hs.1.kids
 have bb:=f278 G (u.kids.map U.cs) (jz _) (by rw[length_map];omega)
 refine ub (R1:=λσ'=>σ'=σ) ?_
 refine aj.w c215 ?_
 unfold s215 r215
 by_cases Z:u.id=i
 ·have e0:decide (u.id=i)=true:=decide_eq_true Z
  have cw:fnd i u=u:=aI (by rw[aR Z];rfl);rw[cw]at hD;rw[bz Z,hH u];(repeat' (first|simp only[EV,seval,am,e0,D]|simp only[EV,seval,am,e0]|(with_reducible intro E F;(try(have I:=F;simp only[EVK]at I;(have D:=I))))));rename_i O cp;refine bS [] ((E,_)::(O,_)::σ) bb.v (hU _) (SubN.refl _) (λv κ ho T=>⟨_,sY,?_⟩);have hv:=ho;obtain⟨aw,cap,rfl,_⟩:=hv;have q1:¬O=E:=λe=>D.1 e.symm;(repeat' (simp only[EV,seval,q1,D]));rw[length_map]at ho;have bd:=hD O _ κ ho (nd_pull T);simp only[U.csv]at bd;refine bS ((O,_)::(σ++κ)) [(E,_)] bd (hU _) uG (λr e2 hr bm=>?_);obtain⟨v2,bx,ad,rfl⟩:=hr;refine⟨_,uP,?_⟩;have hv:=ad;obtain⟨cm,dd,rfl,_⟩:=hv;(repeat' (simp only[EV,seval,q1,D]));rw[length_map]at ad;refine rQ (σ':=bx++σ) (SubN.tail (SubN.tail (SubN.refl _) _) _) ⟨_,bx,σ,rfl,ur ad,rfl,rfl⟩
 ·have e0:decide (u.id=i)=false:=decide_eq_false Z
  have ac:i∈U.idss u.kids:=by
   rw[rb,mem_cons]at hi;exact hi.resolve_left (Ne.symm Z)
  have bn:u.kids≠[]:=by intro h;rw[h,sm]at ac;cases ac
  have d3:=(rU hn).1;rw[hH u];(repeat' (first|simp only[EV,seval,am,e0,D]|simp only[EV,seval,am,e0]|(with_reducible intro E F;(try(have I:=F;simp only[EVK]at I;(have D:=I))))));rename_i O cp;refine bS [] ((E,_)::(O,_)::σ) bb.v (hU _) (SubN.refl _) (λv κ ho T=>⟨_,sY,?_⟩);have hv:=ho;obtain⟨aw,cap,rfl,hv⟩:=hv;rw[length_map]at ho
  rcases hv with⟨h1,_⟩|⟨Y,pad,rfl,rfl,g1,g2,g3,g4⟩
  ·exact absurd (map_eq_nil_iff.1 h1) bn
  have q1:¬O=E:=λe=>D.1 e.symm;have q0:¬E=O:=D.1;simp[Store.keys]at T;have q2:¬Y=E:=T.1.1;have q3:¬Y=O:=T.1.2.1;have al:¬E=Y:=λe=>q2 e.symm;have an:¬O=Y:=λe=>q3 e.symm;rw[length_map]at g1;(repeat' (first|simp only[EV,seval,length_map,J.yes,J.le0,J.lt',J.get,J.row,hw]|simp only[EV,seval,length_map,hn]|(refine ap u.kids (λM r (c:Unit)=>i∈U.idss r) (λM c=>[(2,.sc f),(3,.p O),(4,.ref i.cs),(6,.p E),(7,.sc (.slice (some ⟨Y,0,none⟩) u.kids.length cap)),(26,.sc (.slice (some ⟨Y,0,none⟩) u.kids.length cap)),(27,.i u.kids.length),(28,.i M)]) (λM c=>[(O,.cells 27 (U.csv u (.lst 8 (u.kids.map U.cs)))),(E,.cells 27 [.i 0,.i 0,.i 0,.i 0,.str [],.nil,.nil,.nil]),(Y,.cells 27 ((u.kids.map U.cs).flatten++pad))]++σ) () ac (dT _ _) (by omega) (λM x r c V J hw=>?_) (λc V hn=>?_))))
  ·have N:=J.lt
   have ah:u.kids[M]? =some x:=by rw[getElem?_eq_getElem N,←J.get x];simp[N]
   have d1:(u.kids.map U.cs)[M]? =some x.cs:=by rw[getElem?_map,ah];rfl
   have aa:(((u.kids.map U.cs).flatten++pad).drop (0+M*8)).take 8=x.cs:=by simpa using oO (pad:=pad) g3 d1
   have dl:8<=(((u.kids.map U.cs).flatten++pad).drop (0+M*8)).length:=by
    rw[length_drop,g4];omega
   have ds:0+M*8+8<=((u.kids.map U.cs).flatten++pad).length:=by
    rw[g4];omega
   have hF:=f27 G i x (hs.kid J.mem);unfold kG at hF;simp only[Idd.cs]at hF;by_cases X:i∈x.ids
   ·rw[iF X,if_neg (by simp)]at hF
    have be:u.kids=u.kids.take M++x::u.kids.drop (M+1):=by
     have h3:u.kids.drop M=x::u.kids.drop (M+1):=by
      rw[drop_eq_getElem_cons N];congr 1;rw[getElem?_eq_getElem N]at ah;exact Option.some.inj ah
     rw[←h3,take_append_drop]
    have sp:=split_at be d3 X;have d0:=fnd_split Z sp;clear be;have bh:=ih x J.mem (hs.kid J.mem) sp.nd X (by rw[←d0];exact hD);have bw:=sp.wth (f:=g) Z
    have bs:aJ ((u.kids.map U.cs).flatten++pad) (0+M*8) (U.wth i g x).cs=((u.kids.set M (U.wth i g x)).map U.cs).flatten++pad:=by
     rw[map_set];simpa using oi (pad:=pad) g3 (by rw[length_map];exact N) (ra _)
    have d2:u.kids.take M++U.wth i g x::u.kids.drop (M+1)=u.kids.set M (U.wth i g x):=by
     rw[set_eq_take_append_cons_drop,if_pos N]
    rw[d2]at bw;simp only[Idd.cs]at bh;(repeat' (first|(with_reducible first|refine AI (by omega) ?_|refine ab hF ?_)|simp only[EV,seval,J.yes,J.le0,J.lt',J.get,hw,aa,q0,q1,q2,q3,al,an,D]|(with_reducible intro E F;(try(have I:=F;simp only[EVK]at I;(have D:=AI I D))))));refine bS σ [_,_,_,_,_] bh.v (hU _) (o6 (perm_append_comm (l₁:=σ) (l₂:=[_,_,_,_,_]))) (λr1 ch hr bm=>?_);obtain⟨rfl,rfl⟩:=hr;refine⟨_,uJ,?_⟩;(repeat' (first|(with_reducible refine AI (by omega) ?_)|simp only[EV,seval,J.yes,J.le0,J.lt',J.get,hw,aa,bs,q0,q1,q2,q3,al,an,U.csv,D]));refine rQ (σ':=[(Y,_)]++ch) (SubN.tail (SubN.tail (SubN.refl _) _) _) ⟨_,[(Y,_)],ch,rfl,?_,rfl,rfl⟩;rw[bw];refine ur (x:={u with kids:=u.kids.set M (U.wth i g x)}) (bW.mk (by rw[length_map,length_set]) (by rw[length_map,length_set];exact g1) g2 (jz _) ?_);rw[←g4,length_append,length_append,az _ (jz _),az _ (jz _),length_map,length_map,length_set]
   ·have dc:(U.way i x).isEmpty=true:=by rw[(dW x).2 X];rfl
    rw[dc,if_pos rfl]at hF;rw[hJ,mem_append]at V;have bo:=V.resolve_left X;(repeat' (first|(with_reducible first|refine AI (by omega) ?_|refine ab hF ?_)|simp only[EV,seval,J.yes,J.le0,J.lt',J.get,hw,aa,q0,q1,q2,q3,al,an,D]|(with_reducible intro E F;(try(have I:=F;simp only[EVK]at I;(have D:=AI I D))))));exact ak J () bo (Weak.sub (SubN.tail (SubN.tail (SubN.refl _) _) _))
  ·rw[sm]at V;cases V
end
def ut {t a b c:Nat×AObj} {κ:Store}:SubN ((κ++[t])++[a,b,c]) (t::a::b::c::κ):=by
 have e:(κ++[t])++[a,b,c]=κ++[t,a,b,c]:=by simp
 rw[e];exact o6 (perm_append_comm (l₁:=κ) (l₂:=[t,a,b,c]))
def uu {t a b c:Nat×AObj} {κ:Store}:SubN (a::b::c::κ) ((κ++[t])++[a,b,c]):=by
 have e:(κ++[t])++[a,b,c]=κ++[t,a,b,c]:=by simp
 rw[e];exact SubN.trans (SubN.tail (SubN.refl _) t) (o6 (perm_append_comm (l₁:=[t,a,b,c]) (l₂:=κ)))
section
variable (G:Glob)
def d313 (E j:Nat) (x:U) (Z:j<x.kids.length) (hl:x.kids.length<1000000):
  kK G (.func (.func 313) #[] #[.p E]) (λy=>{y with kids:=aN y.kids j}) [(E,.cells 3 [.i j])] x:=by
 intro b v κ X I
 refine⟨_,_,_,rfl,?_⟩
 have M:=f277 G _ v κ X j (by rw[length_map];exact Z) (by rw[length_map];exact hl)
 have hv:=X
 obtain⟨T,cap,rfl,_⟩:=hv
 have Y:¬b=E:=by simp[Store.keys]at I;exact I.1.1
 have q2:¬E=b:=λe=>Y e.symm
 have hw:IntKind.i64.wrap ((j:Int)+1)=((j+1:Nat):Int):=by rw[av (by omega) (by omega)];omega
 rw[length_map]at M
 have N:(x.kids.map U.cs).take j++(x.kids.map U.cs).drop (j+1)=(aN x.kids j).map U.cs:=by unfold aN;rw[map_append,map_take,map_drop]
 rw[N]at M
 show aj G Tryz.prog 313 [.p b,.p E] _ _
 simp only[U.csv]
 refine aj.w c313 ?_
 unfold s313 r313
 (repeat' (first|simp only[EV,seval,Y,q2,hw]|(with_reducible first|refine ag ?_ ?_|refine ai ?_)|(refine bS κ [(b,_),(E,_)] M.v (hU _) (o6 (perm_append_comm (l₁:=κ) (l₂:=[_,_]))) (λr1 J hr V=>?_))|(refine⟨_,o6 (perm_append_comm (l₁:=[_,_]) (l₂:=J)),?_⟩)|(obtain⟨D,F,rfl,O⟩:=hr)))
 all_goals exact rQ (SubN.refl _) ⟨_,J,⟨D,F,by rw[length_map],O⟩,rfl⟩
def d220 (D:Nat) (w:List Wd) (x:U):
  kK G (.func (.func 220) #[] #[.p D]) (λy=>{y with words:=w}) [(D,.cells 24 [.lst 4 (w.map Wd.cs)])] x:=by
 intro b v κ I E
 have F:¬b=D:=by simp[Store.keys]at E;exact E.1.1
 have J:¬D=b:=λe=>F e.symm
 refine⟨_,_,_,rfl,?_⟩
 show aj G Tryz.prog 220 [.p b,.p D] _ _
 simp only[U.csv]
 refine aj.w c220 ?_
 unfold s220 r220
 (repeat' (simp only[EV,seval,F,J]))
 all_goals exact rQ (SubN.refl _) ⟨_,κ,I,rfl⟩
def d222 (D:Nat) (w:List Wd) (x:U):
  kK G (.func (.func 222) #[] #[.p D]) (λy=>{y with words:=w}) [(D,.cells 24 [.lst 4 (w.map Wd.cs)])] x:=by
 intro b v κ I E
 have F:¬b=D:=by simp[Store.keys]at E;exact E.1.1
 have J:¬D=b:=λe=>F e.symm
 refine⟨_,_,_,rfl,?_⟩
 show aj G Tryz.prog 222 [.p b,.p D] _ _
 simp only[U.csv]
 refine aj.w c222 ?_
 unfold s222 r222
 (repeat' (simp only[EV,seval,F,J]))
 all_goals exact rQ (SubN.refl _) ⟨_,κ,I,rfl⟩
def d224 (D:Nat) (w:List Wd) (x:U):
  kK G (.func (.func 224) #[] #[.p D]) (λy=>{y with head:=w}) [(D,.cells 24 [.lst 4 (w.map Wd.cs)])] x:=by
 intro b v κ I E
 have F:¬b=D:=by simp[Store.keys]at E;exact E.1.1
 have J:¬D=b:=λe=>F e.symm
 refine⟨_,_,_,rfl,?_⟩
 show aj G Tryz.prog 224 [.p b,.p D] _ _
 simp only[U.csv]
 refine aj.w c224 ?_
 unfold s224 r224
 (repeat' (simp only[EV,seval,F,J]))
 all_goals exact rQ (SubN.refl _) ⟨_,κ,I,rfl⟩
def d225 (D:Nat) (d:Dd) (x:U):
  kK G (.func (.func 225) #[] #[.p D]) (λy=>{y with label:=d.it.label}) [(D,.cells 36 d.cs)] x:=by
 intro b v κ I E
 have F:¬b=D:=by simp[Store.keys]at E;exact E.1.1
 have J:¬D=b:=λe=>F e.symm
 refine⟨_,_,_,rfl,?_⟩
 show aj G Tryz.prog 225 [.p b,.p D] _ _
 simp only[U.csv]
 unfold Dd.cs
 rw[eH]
 refine aj.w c225 ?_
 unfold s225 r225
 (repeat' (simp only[EV,seval,F,J]))
 all_goals exact rQ (SubN.refl _) ⟨_,κ,I,rfl⟩
def d216 (E F j:Nat) (y x:U) (hj:j<=x.kids.length) (hl:x.kids.length<1000000):
  kK G (.func (.func 216) #[] #[.p E,.p F]) (λz=>{z with kids:=aX z.kids j y}) [(E,.cells 3 [.i j]),(F,.cells 27 y.cs)] x:=by
 intro b v κ ho D
 have hv:=ho
 obtain⟨ad,cap,rfl,_⟩:=hv
 rw[length_map]at ho
 have q:¬b=E/\¬b=F/\¬E=F:=by simp[Store.keys]at D;exact⟨D.1.1,D.1.2.1,D.2.1.1⟩
 obtain⟨q1,q2,q3⟩:=q
 have T:¬E=b:=λe=>q1 e.symm
 have V:¬F=b:=λe=>q2 e.symm
 have X:¬F=E:=λe=>q3 e.symm
 have hC:=λbo=>f217 G _ _ κ ho j (by rw[length_map];exact hj) (by rw[length_map];exact hl) bo y.cs (ra y)
 have Y:fB (x.kids.map U.cs) j y.cs=(aX x.kids j y).map U.cs:=by unfold fB aX;rw[map_append,map_cons,map_take,map_drop]
 rw[Y]at hC
 refine⟨_,_,_,rfl,?_⟩
 show aj G Tryz.prog 216 [.p b,.p E,.p F] _ _
 simp only[U.csv,length_map]
 refine aj.w c216 ?_
 unfold s216 r216
 (repeat' (first|simp only[EV,seval,q1,q2,q3,T,V,X,Z]|simp only[EV,seval,q1,q2,q3,T,V,X]|(with_reducible intro J N;(try(have O:=N;simp only[EVK]at O;(have Z:=O))))|(with_reducible first|refine ag ?_ ?_|refine ai ?_)|(refine⟨[y.cs],rfl,(by simp[ra]),(by simp),?_⟩)|(refine bS (κ++[(J,_)]) [(b,_),(E,_),(F,_)] (hC J).v (hU _) ut (λr1 al hr ah=>?_))|(obtain⟨ac,⟨I,M,rfl,aa⟩,rfl⟩:=hr)|(refine⟨_,uu,?_⟩)))
 all_goals exact rQ (SubN.refl _) ⟨_,ac,⟨I,M,by rw[length_map],aa⟩,rfl⟩
def d226 (E F j:Nat) (y x:U) (hj:j<=x.kids.length) (hl:x.kids.length<1000000):
  kK G (.func (.func 226) #[] #[.p E,.p F]) (λz=>{z with kids:=aX z.kids j y}) [(E,.cells 3 [.i j]),(F,.cells 27 y.cs)] x:=by
 intro b v κ ho D
 have hv:=ho
 obtain⟨ad,cap,rfl,_⟩:=hv
 rw[length_map]at ho
 have q:¬b=E/\¬b=F/\¬E=F:=by simp[Store.keys]at D;exact⟨D.1.1,D.1.2.1,D.2.1.1⟩
 obtain⟨q1,q2,q3⟩:=q
 have T:¬E=b:=λe=>q1 e.symm
 have V:¬F=b:=λe=>q2 e.symm
 have X:¬F=E:=λe=>q3 e.symm
 have hC:=λbo=>f217 G _ _ κ ho j (by rw[length_map];exact hj) (by rw[length_map];exact hl) bo y.cs (ra y)
 have Y:fB (x.kids.map U.cs) j y.cs=(aX x.kids j y).map U.cs:=by unfold fB aX;rw[map_append,map_cons,map_take,map_drop]
 rw[Y]at hC
 refine⟨_,_,_,rfl,?_⟩
 show aj G Tryz.prog 226 [.p b,.p E,.p F] _ _
 simp only[U.csv,length_map]
 refine aj.w c226 ?_
 unfold s226 r226
 (repeat' (first|simp only[EV,seval,q1,q2,q3,T,V,X,Z]|simp only[EV,seval,q1,q2,q3,T,V,X]|(with_reducible intro J N;(try(have O:=N;simp only[EVK]at O;(have Z:=O))))|(with_reducible first|refine ag ?_ ?_|refine ai ?_)|(refine⟨[y.cs],rfl,(by simp[ra]),(by simp),?_⟩)|(refine bS (κ++[(J,_)]) [(b,_),(E,_),(F,_)] (hC J).v (hU _) ut (λr1 al hr ah=>?_))|(obtain⟨ac,⟨I,M,rfl,aa⟩,rfl⟩:=hr)|(refine⟨_,uu,?_⟩)))
 all_goals exact rQ (SubN.refl _) ⟨_,ac,⟨I,M,by rw[length_map],aa⟩,rfl⟩
end
def lR (w:List Wd) (D:List (List UInt8)) (a b:Int) (E:Nat):∀(ps:List Nat) (s:Nat) (m:Int),Gaps w.length E s ps->s<=w.length->(putL w D a b E ps m).length<=w.length+ps.length*D.length/\∀p r,ps=p::r->p+E<=(putL w D a b E r (m+D.length)).length
 |[],s,m,_,_=>by rw[putL];simp
 |p::ps,s,m,⟨h1,h2,h3⟩,hs=>by
  have ih:=lR w D a b E ps (p+E) (m+D.length) h3 (by omega);have e:=j8 w D a b E ps (p+E) (m+D.length) h3
  have F:p+E<=(putL w D a b E ps (m+D.length)).length:=by
   rw[e,length_append,length_take];omega
  refine⟨?_,?_⟩
  ·rw[putL,length_append,length_append,length_take,length_drop,bG,length_cons,Nat.add_mul];have:=ih.1;omega
  ·rintro q r I
   injection I with hq1 hq2
   subst hq1 hq2;exact F
def j7 {n g:Nat}:∀{ps:List Nat} {s:Nat} (j:Nat),s<=n->Gaps n g s ps->∃D,D<=n/\Gaps n g D (ps.drop j)
 |[],s,j,hs,_=>⟨s,hs,by rw[drop_nil];trivial⟩
 |p::ps,s,0,hs,h=>⟨s,hs,h⟩
 |p::ps,s,j+1,hs,⟨h1,h2,h3⟩=>j7 (ps:=ps) j h2 h3
def nI (q:List Wd):AV:=if 256<q.length then .tup [.nil,.i 6]else .tup [.lst 4 (q.map Wd.cs),.i 0]
section
variable (G:Glob)
set_option maxHeartbeats 2000000 in
def f315 (w:List Wd) (ps:List Nat) (E:Nat) (D:List (List UInt8)) (a b:Int) (hw:w.length<=100000) (e7:ps.length<=100000) (bx:D.length<=1000) (e2:E<=100000) (hG:Gaps w.length E 0 ps):
  Pure G Tryz.prog 315 [.lst 4 (w.map Wd.cs),.lst 1 (ps.map prow),.i E,.lst 1 (D.map srow),.i a,.i b] (nI (putL w D a b E ps 0)):=by
 refine uE ?_
 refine aj.w c315 ?_
 unfold s315 r315
 have T:0+w.length*4<=(List.replicate w.length [AV.str [],.i 0,.i 0,.i 0]).flatten.length:=by rw[cz];simp
 have an:(w.map Wd.cs).flatten.length=w.length*4:=by rw[az _ (jw _),length_map]
 have ad:aJ (List.replicate w.length [AV.str [],.i 0,.i 0,.i 0]).flatten 0 ((w.map Wd.cs).take w.length).flatten=(w.map Wd.cs).flatten:=by
  rw[take_of_length_le (by simp),bg _ _ _ (by rw[an];exact T),drop_eq_nil_of_le (by rw[an,cz];simp)];simp
 have wn:IntKind.i64.wrap ((ps.length:Int)-1)=(ps.length:Int)-1:=av (by omega) (by omega)
 (repeat' (first|simp only[EV,seval,wn,cp]|simp only[EV,seval,wn]|(with_reducible intro d1 bo;(try(have cw:=bo;simp only[EVK]at cw;(have cp:=cw))))|(refine jO (elem:=118) (c:=w.length) (sz:=4) (bytes:=40) (zr:=[.str [],.i 0,.i 0,.i 0]) (z:=.agg #[.string .empty,.i 0,.i 0,.i 0]) rfl (by kernel_rfl) (by kernel_rfl) rfl (by omega) (by decide) (by intro τ w;simp[RepL,Rep,Value.cells];rfl) (by omega) (by omega) ?_)|(refine nH (elem:=118) (sz:=4) (ys:=w.map Wd.cs) w.length (w.map Wd.cs).flatten (by kernel_rfl) (by kernel_rfl) rfl (if_pos rfl) (.inl ⟨rfl,rfl⟩) (by simp) T ad ?_)))
 clear T ad
 obtain⟨L,hL⟩:∃L:Nat->List Wd,L=λj=>putL w D a b E (ps.drop j) ((j*D.length:Nat):Int):=⟨_,rfl⟩
 have al:L ps.length=w:=by rw[hL];simp only[drop_length];rw[putL]
 have d2:L 0=putL w D a b E ps 0:=by rw[hL];simp
 have bm:∀j,(L j).length<=100100000:=λj=>by
  obtain⟨s',bb,hg⟩:=j7 (g:=E) j (Nat.zero_le _) hG;have:=(lR w D a b E (ps.drop j) s' ((j*D.length:Nat):Int) hg bb).1;have h2:(ps.drop j).length*D.length<=100000*1000:=Nat.mul_le_mul (by rw[length_drop];omega) bx;rw[hL];simp only;omega
 have d3:∀i p,ps[i]? =some p->L i=(L (i+1)).take p++(aL a b D ((i*D.length:Nat):Int)++(L (i+1)).drop (p+E))/\p+E<=(L (i+1)).length:=λi p hp=>by
  obtain⟨hi,hp⟩:=List.getElem?_eq_some_iff.1 hp
  have hd:ps.drop i=p::ps.drop (i+1):=by rw[drop_eq_getElem_cons hi,hp]
  obtain⟨s',bb,hg⟩:=j7 (g:=E) i (Nat.zero_le _) hG;have h1:=(lR w D a b E (ps.drop i) s' ((i*D.length:Nat):Int) hg bb).2 p _ hd
  have hm:((i*D.length:Nat):Int)+D.length=(((i+1)*D.length:Nat):Int):=by rw[Nat.add_mul];omega
  rw[hm]at h1;rw[hL];simp only;refine⟨?_,h1⟩;rw[hd,putL,hm]
 rw[←d2]
 refine gS (ι:=Nat×Nat×Nat×List AV) (λq=>q.1<=ps.length/\RowsAt 4 q.2.2.2 0 (L q.1).length ((L q.1).map Wd.cs)/\q.2.2.1*4<=q.2.2.2.length/\(L q.1).length<=q.2.2.1/\q.2.2.1<=maxLen) (λq=>q.1)
  (λq=>[(1,.lst 1 (ps.map prow)),(2,.i E),(3,.lst 1 (D.map srow)),(4,.i a),(5,.i b),(14,.sc (.slice (some ⟨q.2.1,0,none⟩) (L q.1).length q.2.2.1)),(15,.i ((q.1:Int)-1))])
  (λq=>[(q.2.1,.cells 118 q.2.2.2)]) (ps.length,d1,w.length,(w.map Wd.cs).flatten) ⟨Nat.le_refl _,?_,?_,?_,?_⟩ (by simp only[al];exact dT _ _) ?_
 ·simp only[al]
  have:=RowsAt.all (sz:=4) (rows:=w.map Wd.cs) (pad:=[]) (jw _) (n:=w.length) (by simp);simpa using this
 ·simp only[an];exact Nat.le_refl _
 ·simp only[al];exact Nat.le_refl _
 ·simp only;unfold maxLen;omega
 clear cp
 rintro⟨j,b1,cap,cs⟩ ⟨hj,hR,bs,J,bw⟩
 simp only at hj hR bs J bw ⊢
 cases j with
 |zero=>
  have e0:decide ((0:Int)<=((0:Nat):Int)-1)=false:=by decide
  have ch:=bm 0;(repeat' (first|(with_reducible (refine ae (λh=>?_) λh=>?_)<;>(try simp only[DZ]at h))|simp only[EV,seval,e0]))
  ·refine rQ (SubN.nil _) (.inl ⟨?_,rfl⟩);unfold nI;rw[if_pos (by omega)]
  ·refine rQ (SubN.refl _) (.inr ⟨b1,_,_,cap,cs,4,_,_,rfl,rfl,hR,J,bw,?_,rfl⟩);unfold nI;rw[if_neg (by omega)]
 |succ i=>
  obtain⟨p,hp⟩:∃p,ps[i]? =some p:=⟨ps[i]'(by omega),getElem?_eq_getElem (by omega)⟩;obtain⟨ah,Y⟩:=d3 i p hp
  have ac:(ps.map prow).getD i []=[AV.int .i64 (p:Int)]:=by simp[hp,prow]
  have e0:decide ((0:Int)<=(((i+1:Nat):Int))-1)=true:=decide_eq_true (by omega)
  have dc:(((i+1:Nat):Int))-1=(i:Int):=by omega
  have ch:=bm (i+1)
  have wg:IntKind.i64.wrap ((p:Int)+(E:Int))=((p+E:Nat):Int):=by rw[av (by omega) (by omega)];omega
  have e6:i*D.length<=100000*1000:=Nat.mul_le_mul (by omega) bx
  have wm:IntKind.i64.wrap ((i:Int)*(D.length:Int))=((i*D.length:Nat):Int):=by rw[←Int.natCast_mul,av (by omega) (by omega)]
  have w1:IntKind.i64.wrap ((i:Int)-1)=(i:Int)-1:=av (by omega) (by omega);have hM:=f223 G D a b ((i*D.length:Nat):Int) (by omega) (by omega) (by omega);obtain⟨mk,cm⟩:∃mk,aL a b D ((i*D.length:Nat):Int)=mk:=⟨_,rfl⟩
  have dl:mk.length=D.length:=by rw[←cm,bG]
  rw[cm]at ah hM;obtain⟨Lj,bk⟩:∃Lj,L (i+1)=Lj:=⟨_,rfl⟩;rw[bk]at ah Y hR J ch;simp only[bk,dc]at e0 ⊢;obtain⟨o2,aw⟩:∃o2,(if cap=p+E then 0 else 0+(p+E)*4)=o2:=⟨_,rfl⟩;have e3:Lj.length<=cap:=J
  have e8:(i:Int)<(ps.length:Int):=by omega
  have dd:o2=(p+E)*4\/p+E=Lj.length/\o2=0:=by
   subst aw;split
   ·exact .inr ⟨by omega,rfl⟩
   ·exact .inl (by omega)
  obtain⟨A,hA⟩:∃A,(Lj.map Wd.cs).take p=A:=⟨_,rfl⟩;obtain⟨B,hB⟩:∃B,(Lj.map Wd.cs).drop (p+E)=B:=⟨_,rfl⟩;have O:=hR.pre (l:=p) (by omega);have X:=hR.suf Y dd;rw[hA]at O;rw[hB]at X
  have ds:B.length<=100100000:=by rw[←hB,length_drop,length_map];omega
  have bh:=X.row
  have I:(L i).map Wd.cs=A++(mk.map Wd.cs++B):=by rw[ah,map_append,map_append,map_take,map_drop,hA,hB]
  have be:A.length=p:=O.len
  have F:(L i).length=p+(mk.length+B.length):=by
   have:=congrArg List.length I;rw[length_map,length_append,length_append,length_map,be]at this;exact this
  obtain⟨z0,Z,aa⟩:∃z0,da Tryz.prog 118=some z0/\z0.length=4:=⟨[.str [],.i 0,.i 0,.i 0],by kernel_rfl,rfl⟩
  rcases Classical.em (mk=[])with hm0|hm0
  ·subst hm0;simp only[map_nil,nil_append,length_nil,Nat.zero_add]at I F hM;(repeat' (first|(with_reducible first|refine AI (by omega) ?_|refine ab hM ?_)|simp only[EV,seval,e0,ac,wg,wm,w1]|(with_reducible first|refine ag ?_ ?_|refine ai ?_)|(refine bc (e:=118) (sz:=4) (l:=p+E) (h:=Lj.length) (m:=cap) o2 (Lj.length-(p+E)) (cap-(p+E)) (by kernel_rfl) (by kernel_rfl) rfl ⟨_,rfl⟩ rfl rfl (λh=>by cases h) Y J (Nat.le_refl _) aw rfl rfl ?_)|(refine bc (e:=118) (sz:=4) (l:=0) (h:=p) (m:=p) 0 p p (by kernel_rfl) (by kernel_rfl) rfl rfl ⟨_,rfl⟩ ⟨_,rfl⟩ (λ_=>rfl) (by omega) (by omega) (by omega) (by split<;>rfl) rfl rfl ?_)|(refine pp (e:=118) (e':=118) (sz:=4) (bytes:=40) (b:=b1) (n:=p) (cap:=p) (rows:=A) (cs:=cs) (z:=z0) (by kernel_rfl) (by kernel_rfl) (by kernel_rfl) Z aa (by decide) (by decide) rfl (if_pos rfl) O (by omega) (Nat.le_refl _) (.inl ⟨rfl,rfl⟩) (by omega) ?_)|(refine kJ (e:=118) (e':=118) (sz:=4) (bytes:=40) (b:=b1) (n:=p) (cap:=p) (rows:=A) (ys:=B) (cs:=cs) (z:=z0) (by kernel_rfl) (by kernel_rfl) (by kernel_rfl) Z aa (by decide) (by decide) rfl (if_pos rfl) O (by omega) (by omega) (.inr ⟨b1,o2,_,_,118,cs,rfl,if_pos rfl,X⟩) bh (by omega) (λb' N cs' σ' g1 g2 g3 g4 g5=>?_))))
   all_goals
    refine⟨(i,b',N,cs'),⟨by simp only;omega,?_,g2,?_,g4⟩,Nat.lt_succ_self i,?_⟩
    ·simp only[I,F];exact g1
    ·simp only[F];exact g3
    ·simp only[F]
     refine Weak.sub ?_
     rcases g5 with⟨rfl,rfl⟩|⟨_,rfl⟩
     ·simp only[Store.set,if_true];exact SubN.refl _
     ·exact SubN.cons (SubN.nil _) _
  ·obtain⟨M,bn⟩:∃M,mk.map Wd.cs=M:=⟨_,rfl⟩
   have e1:M.length=mk.length:=by rw[←bn,length_map]
   have e4:1<=mk.length:=length_pos_iff.2 hm0
   have e5:mk.length<=1000:=by omega
   rw[bn]at hM I;(repeat' (first|(with_reducible first|refine AI (by omega) ?_|refine ab hM ?_)|simp only[EV,seval,e0,ac,wg,wm,w1]|(with_reducible first|refine ag ?_ ?_|refine ai ?_)|(refine bc (e:=118) (sz:=4) (l:=p+E) (h:=Lj.length) (m:=cap) o2 (Lj.length-(p+E)) (cap-(p+E)) (by kernel_rfl) (by kernel_rfl) rfl ⟨_,rfl⟩ rfl rfl (λh=>by cases h) Y J (Nat.le_refl _) aw rfl rfl ?_)|(refine bc (e:=118) (sz:=4) (l:=0) (h:=p) (m:=p) 0 p p (by kernel_rfl) (by kernel_rfl) rfl rfl ⟨_,rfl⟩ ⟨_,rfl⟩ (λ_=>rfl) (by omega) (by omega) (by omega) (by split<;>rfl) rfl rfl ?_)|(refine fL (e:=118) (e':=118) (sz:=4) (bytes:=40) (b:=b1) (o:=0) (n:=p) (cap:=p) (rows:=A) (ys:=M) (cs:=cs) (z:=z0) (by kernel_rfl) (by kernel_rfl) (by kernel_rfl) Z aa (by decide) (by decide) rfl (if_pos rfl) O (by omega) (.inl ⟨rfl,rfl⟩) (by omega) (λh=>by omega) (λ_ b2 bd d0 f0 f1 f2 f3 f4=>?_))|(refine kJ (e:=118) (e':=118) (sz:=4) (bytes:=40) (b:=b2) (n:=p+M.length) (cap:=bd) (rows:=A++M) (ys:=B) (cs:=(A++M).flatten++d0) (z:=z0) (by kernel_rfl) (by kernel_rfl) (by kernel_rfl) Z aa (by decide) (by decide) rfl (if_pos rfl) (RowsAt.all f3 (by rw[length_append,be])) (by rw[f4];exact Nat.le_refl _) f2 (.inr ⟨b1,o2,_,_,118,cs,rfl,(if_neg (by simpa[Store.keys]using f0)).trans (if_pos rfl),X⟩) bh (by omega) (λb' N cs' σ' g1 g2 g3 g4 g5=>?_))))
   all_goals
    have V:p+(mk.length+B.length)=p+M.length+B.length:=by omega
    rw[append_assoc]at g1
    refine⟨(i,b',N,cs'),⟨by simp only;omega,?_,g2,?_,g4⟩,Nat.lt_succ_self i,?_⟩
    ·simp only[I,F,V];exact g1
    ·simp only[F,V];exact g3
    ·simp only[F,V]
     refine Weak.sub ?_
     rcases g5 with⟨rfl,rfl⟩|⟨_,rfl⟩
     ·simp only[Store.set,if_true];exact SubN.cons (SubN.nil _) _
     ·exact SubN.cons (SubN.nil _) _
end
end Go.Av
