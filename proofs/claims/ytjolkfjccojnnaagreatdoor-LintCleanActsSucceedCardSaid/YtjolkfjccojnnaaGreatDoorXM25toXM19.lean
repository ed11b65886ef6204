/-
  ENACT, M25: a unit changed in a copy of the tree.
-/
import Derived.Test.YtjolkfjccojnnaaGreatDoorXAv34toXAv36
import Derived.Test.YtjolkfjccojnnaaGreatDoorXM23toXM24
import Derived.Test.YtjolkfjccojnnaaGreatDoorXE14toXM13
import Derived.Test.YtjolkfjccojnnaaGreatDoorXM15toXM17
namespace Go.Av
open Go Go.RowKit Go.Proofs List
set_option linter.unusedSimpArgs false
set_option linter.unusedVariables false
def U.csv (x:U) (v:AV):List AV:=[.int .i64 x.id.act,.int .i64 x.id.item,.int .i64 x.id.n,.int .i64 x.kind,.str x.label,.lst 4 (x.head.map Wd.cs),.lst 4 (x.words.map Wd.cs),v]
def jS (G:Glob) (f:Value) (g:U->U) (σ:Store) (x:U):Prop:=
 ∀b v κ,bR 27 8 (x.kids.map U.cs) v κ->(Store.keys ((b,AObj.cells 27 (x.csv v))::(σ++κ))).Nodup->
  cZ G Tryz.prog f [.sc (.pointer (some ⟨b,0,none⟩))] ((b,.cells 27 (x.csv v))::(σ++κ)) (λr σ'=>∃v' κ',bR 27 8 ((g x).kids.map U.cs) v' κ'/\σ'=(b,.cells 27 ((g x).csv v'))::(σ++κ'))
theorem U.csv_frz {x:U} {v:AV} {κ:Store} (h:bR 27 8 (x.kids.map U.cs) v κ):FrzL κ (x.csv v) x.cs:=by
 rw[U.cs_eq]
 exact⟨.inl rfl,.inl rfl,.inl rfl,.inl rfl,.inl rfl,.inl rfl,.inl rfl,.inr ⟨27,8,_,_,h,λq hq=>hq,rfl⟩,trivial⟩
theorem split_at {i:Idd} {us a b:List U} {k:U} (e:us=a++k::b) (hn:(U.idss us).Nodup) (hi:i∈k.ids):Split i us a k b:=by
 subst e
 have e:U.idss (a++k::b)=U.idss a++(k.ids++U.idss b):=by
  induction a with
  |nil=>rw[nil_append,U.idss_cons,U.idss_nil];rfl
  |cons x a ih=>
   rw[cons_append,U.idss_cons,U.idss_cons]
   rw[cons_append,U.idss_cons]at hn
   rw[ih (nodup_append.1 hn).2.1,append_assoc]
 rw[e]at hn
 obtain⟨n1,n2,n3⟩:=nodup_append.1 hn
 obtain⟨n4,n5,n6⟩:=nodup_append.1 n2
 exact⟨rfl,hi,λh=>n3 i h i (mem_append.2 (.inl hi)) rfl,λh=>n6 i hi i h rfl,n4⟩
theorem fnd_split {i:Idd} {u:U} {a b:List U} {k:U} (h:u.id≠i) (s:Split i u.kids a k b):fnd i u=fnd i k:=by
 unfold Go.Av.fnd
 rw[s.way h]
 have:=eo s.mem
 cases hk:U.way i k<;>simp_all[getLastD_cons]
theorem SubN.comm5 {a b c d e:Nat×AObj} {σ:Store}:SubN (c::d::e::σ) (σ++[a,b,c,d,e]):=
 SubN.trans (SubN.tail (SubN.tail (SubN.refl _) _) _) (SubN.perm (perm_append_comm (l₁:=[a,b,c,d,e]) (l₂:=σ)))
theorem nd_pull {κ σ:Store} {p b:Nat} {A B C:AObj} (h:(κ++(p,A)::(b,B)::σ:Store).keys.Nodup):(Store.keys ((b,C)::(σ++κ))).Nodup:=by
 have:=(SubN.trans (SubN.cons (SubN.perm perm_append_comm) _) (SubN.trans (SubN.cons (SubN.tail (SubN.refl _) _) _) SubN.pull2')).2 h
 simpa[Store.keys]using this
section
variable (G:Glob)
set_option maxHeartbeats 4000000 in
theorem f114 (f:Value) (g:U->U) (σ:Store) (i:Idd):∀(u:U),u.Short->u.ids.Nodup->i∈u.ids->jS G f g σ (fnd i u)->
  aj G Tryz.prog 114 [.agg u.cs,.agg i.cs,.sc f] σ (λr σ'=>r= .agg (U.wth i g u).cs/\σ'=σ):=by
 refine U.ind λu ih hs hn hi hD=>?_
 have hkl:=hs.1.kids
 have hCl:=f180 G (u.kids.map U.cs) (jr _) (by rw[length_map];omega)
 refine aj.freezeK (R1:=λσ'=>σ'=σ) ?_
 refine aj.w c114 ?_
 unfold s114 r114
 by_cases h0:u.id=i
 ·have e0:decide (u.id=i)=true:=decide_eq_true h0
  have hfu:fnd i u=u:=aF (by rw[aO h0];rfl)
  rw[hfu]at hD
  rw[aZ h0,U.cs_eq u]
  (repeat' (first|simp only[EVz,seval,↓reduceIte,EV6,EV7,ai,e0,hne]|simp only[EVz,seval,↓reduceIte,EV6,EV7,ai,e0]|(with_reducible intro blk hblk;(try(have hnx:=hblk;simp only[EVK]at hnx;(have hne:=hnx))))|fail))
  rename_i b3 hb3
  refine bL [] ((blk,_)::(b3,_)::σ) hCl.v (aB.rfl' _) (SubN.refl _) (λv κ ho hnd=>⟨_,SubN.pull2',?_⟩)
  have hv:=ho
  obtain⟨base,cap,rfl,_⟩:=hv
  have q1:¬b3=blk:=λe=>hne.1 e.symm
  (repeat' (simp only[EVz,seval,↓reduceIte,EV6,EV7,q1,hne]))
  rw[length_map]at ho
  have hDD:=hD b3 _ κ ho (nd_pull hnd)
  simp only[U.csv]at hDD
  refine bL ((b3,_)::(σ++κ)) [(blk,_)] hDD (aB.rfl' _) SubN.push' (λr σ2 hr hnd2=>?_)
  obtain⟨v2,κ2,ho2,rfl⟩:=hr
  refine⟨_,SubN.pop',?_⟩
  have hv:=ho2
  obtain⟨base2,cap2,rfl,_⟩:=hv
  (repeat' (simp only[EVz,seval,↓reduceIte,EV6,EV7,q1,hne]))
  rw[length_map]at ho2
  refine RET.mk' (σ':=κ2++σ) (SubN.tail (SubN.tail (SubN.refl _) _) _) ⟨_,κ2,σ,rfl,U.csv_frz ho2,rfl,rfl⟩
 ·have e0:decide (u.id=i)=false:=decide_eq_false h0
  have hi':i∈U.idss u.kids:=by
   rw[U.ids_eq,mem_cons]at hi
   exact hi.resolve_left (Ne.symm h0)
  have hne0:u.kids≠[]:=by intro h;rw[h,U.idss_nil]at hi';cases hi'
  have hnk:=(U.nd_kids hn).1
  rw[U.cs_eq u]
  (repeat' (first|simp only[EVz,seval,↓reduceIte,EV6,EV7,ai,e0,hne]|simp only[EVz,seval,↓reduceIte,EV6,EV7,ai,e0]|(with_reducible intro blk hblk;(try(have hnx:=hblk;simp only[EVK]at hnx;(have hne:=hnx))))|fail))
  rename_i b3 hb3
  refine bL [] ((blk,_)::(b3,_)::σ) hCl.v (aB.rfl' _) (SubN.refl _) (λv κ ho hnd=>⟨_,SubN.pull2',?_⟩)
  have hv:=ho
  obtain⟨base,cap,rfl,hv⟩:=hv
  rw[length_map]at ho
  rcases hv with⟨h1,_⟩|⟨bk,pad,rfl,rfl,g1,g2,g3,g4⟩
  ·exact absurd (map_eq_nil_iff.1 h1) hne0
  have q1:¬b3=blk:=λe=>hne.1 e.symm
  have q0:¬blk=b3:=hne.1
  simp[Store.keys]at hnd
  have q2:¬bk=blk:=hnd.1.1
  have q3:¬bk=b3:=hnd.1.2.1
  have q2':¬blk=bk:=λe=>q2 e.symm
  have q3':¬b3=bk:=λe=>q3 e.symm
  rw[length_map]at g1
  (repeat' (first|simp only[EVz,seval,↓reduceIte,EV6,EV7,length_map,hx.yes,hx.le0,hx.lt',hx.get,hx.row,hw]|simp only[EVz,seval,↓reduceIte,EV6,EV7,length_map,hn]|(refine Zq u.kids (λi' r (c:Unit)=>i∈U.idss r) (λi' c=>[(2,.sc f),(3,.sc (.pointer (some ⟨b3,0,none⟩))),(4,.ref i.cs),(6,.sc (.pointer (some ⟨blk,0,none⟩))),(7,.sc (.slice (some ⟨bk,0,none⟩) u.kids.length cap)),(26,.sc (.slice (some ⟨bk,0,none⟩) u.kids.length cap)),(27,.int .i64 u.kids.length),(28,.int .i64 i')]) (λi' c=>[(b3,.cells 27 (U.csv u (.lst 8 (u.kids.map U.cs)))),(blk,.cells 27 [.int .i64 0,.int .i64 0,.int .i64 0,.int .i64 0,.str [],.nil,.nil,.nil]),(bk,.cells 27 ((u.kids.map U.cs).flatten++pad))]++σ) () hi' (Weak.rfl' _ _) (by omega) (λi' x r c hok hx hw=>?_) (λc hok hn=>?_))|fail))
  ·have hil:=hx.lt
   have hxg:u.kids[i']? =some x:=by rw[getElem?_eq_getElem hil,←hx.get x];simp[hil]
   have hgk:(u.kids.map U.cs)[i']? =some x.cs:=by rw[getElem?_map,hxg];rfl
   have hgt:(((u.kids.map U.cs).flatten++pad).drop (0+i'*8)).take 8=x.cs:=by simpa using ny (pad:=pad) g3 hgk
   have hle8:8<=(((u.kids.map U.cs).flatten++pad).drop (0+i'*8)).length:=by
    rw[length_drop,g4];omega
   have hle9:0+i'*8+8<=((u.kids.map U.cs).flatten++pad).length:=by
    rw[g4];omega
   have hF:=f37 G i x (hs.kid hx.mem)
   unfold i8 at hF
   simp only[Idd.cs]at hF
   by_cases hxi:i∈x.ids
   ·rw[gf hxi,if_neg (by simp)]at hF
    have heq:u.kids=u.kids.take i'++x::u.kids.drop (i'+1):=by
     have h3:u.kids.drop i'=x::u.kids.drop (i'+1):=by
      rw[drop_eq_getElem_cons hil]
      congr 1
      rw[getElem?_eq_getElem hil]at hxg
      exact Option.some.inj hxg
     rw[←h3,take_append_drop]
    have sp:=split_at heq hnk hxi
    have hfx:=fnd_split h0 sp
    clear heq
    have hih:=ih x hx.mem (hs.kid hx.mem) sp.nd hxi (by rw[←hfx];exact hD)
    have hwu:=sp.wth (f:=g) h0
    have hset:aH ((u.kids.map U.cs).flatten++pad) (0+i'*8) (U.wth i g x).cs=((u.kids.set i' (U.wth i g x)).map U.cs).flatten++pad:=by
     rw[map_set]
     simpa using nr (pad:=pad) g3 (by rw[length_map];exact hil) (U.cs_len _)
    have hks:u.kids.take i'++U.wth i g x::u.kids.drop (i'+1)=u.kids.set i' (U.wth i g x):=by
     rw[set_eq_take_append_cons_drop,if_pos hil]
    rw[hks]at hwu
    simp only[Idd.cs]at hih
    (repeat' (first|(with_reducible refine AI (by omega) ?_)|(with_reducible refine ab hF ?_)|simp only[EVz,seval,↓reduceIte,EV6,EV7,hx.yes,hx.le0,hx.lt',hx.get,hw,hgt,q0,q1,q2,q3,q2',q3',hne]|(with_reducible intro blk hblk;(try(have hnx:=hblk;simp only[EVK]at hnx;(have hne:=AI hnx hne))))|fail))
    refine bL σ [_,_,_,_,_] hih.v (aB.rfl' _) (SubN.perm (perm_append_comm (l₁:=σ) (l₂:=[_,_,_,_,_]))) (λr1 σ1 hr hnd2=>?_)
    obtain⟨rfl,rfl⟩:=hr
    refine⟨_,SubN.comm5,?_⟩
    (repeat' (first|(with_reducible refine AI (by omega) ?_)|simp only[EVz,seval,↓reduceIte,EV6,EV7,hx.yes,hx.le0,hx.lt',hx.get,hw,hgt,hset,q0,q1,q2,q3,q2',q3',U.csv,hne]|fail))
    refine RET.mk' (σ':=[(bk,_)]++σ1) (SubN.tail (SubN.tail (SubN.refl _) _) _) ⟨_,[(bk,_)],σ1,rfl,?_,rfl,rfl⟩
    rw[hwu]
    refine U.csv_frz (x:={u with kids:=u.kids.set i' (U.wth i g x)}) (bR.mk (by rw[length_map,length_set]) (by rw[length_map,length_set];exact g1) g2 (jr _) ?_)
    rw[←g4,length_append,length_append,ax _ (jr _),ax _ (jr _),length_map,length_map,length_set]
   ·have hw0:(U.way i x).isEmpty=true:=by rw[(dI x).2 hxi];rfl
    rw[hw0,if_pos rfl]at hF
    rw[U.idss_cons,mem_append]at hok
    have hok':=hok.resolve_left hxi
    (repeat' (first|(with_reducible refine AI (by omega) ?_)|(with_reducible refine ab hF ?_)|simp only[EVz,seval,↓reduceIte,EV6,EV7,hx.yes,hx.le0,hx.lt',hx.get,hw,hgt,q0,q1,q2,q3,q2',q3',hne]|(with_reducible intro blk hblk;(try(have hnx:=hblk;simp only[EVK]at hnx;(have hne:=AI hnx hne))))|fail))
    exact af hx () hok' (Weak.sub (SubN.tail (SubN.tail (SubN.refl _) _) _))
  ·rw[U.idss_nil]at hok;cases hok
end
theorem SubN.ins1 {t a b c:Nat×AObj} {κ:Store}:SubN ((κ++[t])++[a,b,c]) (t::a::b::c::κ):=by
 have e:(κ++[t])++[a,b,c]=κ++[t,a,b,c]:=by simp
 rw[e]
 exact SubN.perm (perm_append_comm (l₁:=κ) (l₂:=[t,a,b,c]))
theorem SubN.ins2 {t a b c:Nat×AObj} {κ:Store}:SubN (a::b::c::κ) ((κ++[t])++[a,b,c]):=by
 have e:(κ++[t])++[a,b,c]=κ++[t,a,b,c]:=by simp
 rw[e]
 exact SubN.trans (SubN.tail (SubN.refl _) t) (SubN.perm (perm_append_comm (l₁:=[t,a,b,c]) (l₂:=κ)))
section
variable (G:Glob)
theorem d183 (bn j:Nat) (x:U) (hj:j<x.kids.length) (hl:x.kids.length<1000000):
  jS G (.func (.func 183) #[] #[.pointer (some ⟨bn,0,none⟩)]) (λy=>{y with kids:=aL y.kids j}) [(bn,.cells 3 [.int .i64 j])] x:=by
 intro b v κ ho hnd
 refine⟨_,_,_,rfl,?_⟩
 have hC:=f184 G _ v κ ho j (by rw[length_map];exact hj) (by rw[length_map];exact hl)
 have hv:=ho
 obtain⟨base,cap,rfl,_⟩:=hv
 have q1:¬b=bn:=by simp[Store.keys]at hnd;exact hnd.1.1
 have q2:¬bn=b:=λe=>q1 e.symm
 have hw:IntKind.i64.wrap ((j:Int)+1)=((j+1:Nat):Int):=by rw[au (by omega) (by omega)];omega
 rw[length_map]at hC
 have hmd:(x.kids.map U.cs).take j++(x.kids.map U.cs).drop (j+1)=(aL x.kids j).map U.cs:=by unfold aL;rw[map_append,map_take,map_drop]
 rw[hmd]at hC
 show aj G Tryz.prog 183 [.sc (.pointer (some ⟨b,0,none⟩)),.sc (.pointer (some ⟨bn,0,none⟩))] _ _
 simp only[U.csv]
 refine aj.w c183 ?_
 unfold s183 r183
 (repeat' (first|simp only[EVz,seval,↓reduceIte,EV6,EV7,q1,q2,hw]|(with_reducible refine ak ?_ ?_)|(with_reducible refine am ?_)|(refine bL κ [(b,_),(bn,_)] hC.v (aB.rfl' _) (SubN.perm (perm_append_comm (l₁:=κ) (l₂:=[_,_]))) (λr1 σ1 hr hnd2=>?_))|(refine⟨_,SubN.perm (perm_append_comm (l₁:=[_,_]) (l₂:=σ1)),?_⟩)|(obtain⟨base1,cap1,rfl,hop⟩:=hr)|fail))
 all_goals exact RET.mk' (SubN.refl _) ⟨_,σ1,⟨base1,cap1,by rw[length_map],hop⟩,rfl⟩
theorem d119 (bw:Nat) (w:List Wd) (x:U):
  jS G (.func (.func 119) #[] #[.pointer (some ⟨bw,0,none⟩)]) (λy=>{y with words:=w}) [(bw,.cells 24 [.lst 4 (w.map Wd.cs)])] x:=by
 intro b v κ ho hnd
 have q1:¬b=bw:=by simp[Store.keys]at hnd;exact hnd.1.1
 have q2:¬bw=b:=λe=>q1 e.symm
 refine⟨_,_,_,rfl,?_⟩
 show aj G Tryz.prog 119 [.sc (.pointer (some ⟨b,0,none⟩)),.sc (.pointer (some ⟨bw,0,none⟩))] _ _
 simp only[U.csv]
 refine aj.w c119 ?_
 unfold s119 r119
 (repeat' (simp only[EVz,seval,↓reduceIte,EV6,EV7,q1,q2]))
 all_goals exact RET.mk' (SubN.refl _) ⟨_,κ,ho,rfl⟩
theorem d121 (bw:Nat) (w:List Wd) (x:U):
  jS G (.func (.func 121) #[] #[.pointer (some ⟨bw,0,none⟩)]) (λy=>{y with words:=w}) [(bw,.cells 24 [.lst 4 (w.map Wd.cs)])] x:=by
 intro b v κ ho hnd
 have q1:¬b=bw:=by simp[Store.keys]at hnd;exact hnd.1.1
 have q2:¬bw=b:=λe=>q1 e.symm
 refine⟨_,_,_,rfl,?_⟩
 show aj G Tryz.prog 121 [.sc (.pointer (some ⟨b,0,none⟩)),.sc (.pointer (some ⟨bw,0,none⟩))] _ _
 simp only[U.csv]
 refine aj.w c121 ?_
 unfold s121 r121
 (repeat' (simp only[EVz,seval,↓reduceIte,EV6,EV7,q1,q2]))
 all_goals exact RET.mk' (SubN.refl _) ⟨_,κ,ho,rfl⟩
theorem d123 (bw:Nat) (w:List Wd) (x:U):
  jS G (.func (.func 123) #[] #[.pointer (some ⟨bw,0,none⟩)]) (λy=>{y with head:=w}) [(bw,.cells 24 [.lst 4 (w.map Wd.cs)])] x:=by
 intro b v κ ho hnd
 have q1:¬b=bw:=by simp[Store.keys]at hnd;exact hnd.1.1
 have q2:¬bw=b:=λe=>q1 e.symm
 refine⟨_,_,_,rfl,?_⟩
 show aj G Tryz.prog 123 [.sc (.pointer (some ⟨b,0,none⟩)),.sc (.pointer (some ⟨bw,0,none⟩))] _ _
 simp only[U.csv]
 refine aj.w c123 ?_
 unfold s123 r123
 (repeat' (simp only[EVz,seval,↓reduceIte,EV6,EV7,q1,q2]))
 all_goals exact RET.mk' (SubN.refl _) ⟨_,κ,ho,rfl⟩
theorem d125 (bd:Nat) (d:Dd) (x:U):
  jS G (.func (.func 125) #[] #[.pointer (some ⟨bd,0,none⟩)]) (λy=>{y with label:=d.it.label}) [(bd,.cells 36 d.cs)] x:=by
 intro b v κ ho hnd
 have q1:¬b=bd:=by simp[Store.keys]at hnd;exact hnd.1.1
 have q2:¬bd=b:=λe=>q1 e.symm
 refine⟨_,_,_,rfl,?_⟩
 show aj G Tryz.prog 125 [.sc (.pointer (some ⟨b,0,none⟩)),.sc (.pointer (some ⟨bd,0,none⟩))] _ _
 simp only[U.csv]
 unfold Dd.cs
 rw[Itm.cs_eq]
 refine aj.w c125 ?_
 unfold s125 r125
 (repeat' (simp only[EVz,seval,↓reduceIte,EV6,EV7,q1,q2]))
 all_goals exact RET.mk' (SubN.refl _) ⟨_,κ,ho,rfl⟩
theorem d115 (bn bx j:Nat) (y x:U) (hj:j<=x.kids.length) (hl:x.kids.length<1000000):
  jS G (.func (.func 115) #[] #[.pointer (some ⟨bn,0,none⟩),.pointer (some ⟨bx,0,none⟩)]) (λz=>{z with kids:=aR z.kids j y}) [(bn,.cells 3 [.int .i64 j]),(bx,.cells 27 y.cs)] x:=by
 intro b v κ ho hnd
 have hv:=ho
 obtain⟨base,cap,rfl,_⟩:=hv
 rw[length_map]at ho
 have q:¬b=bn/\¬b=bx/\¬bn=bx:=by simp[Store.keys]at hnd;exact⟨hnd.1.1,hnd.1.2.1,hnd.2.1.1⟩
 obtain⟨q1,q2,q3⟩:=q
 have q1':¬bn=b:=λe=>q1 e.symm
 have q2':¬bx=b:=λe=>q2 e.symm
 have q3':¬bx=bn:=λe=>q3 e.symm
 have hC:=λbo=>f116 G _ _ κ ho j (by rw[length_map];exact hj) (by rw[length_map];exact hl) bo y.cs (U.cs_len y)
 have hmd:eU (x.kids.map U.cs) j y.cs=(aR x.kids j y).map U.cs:=by unfold eU aR;rw[map_append,map_cons,map_take,map_drop]
 rw[hmd]at hC
 refine⟨_,_,_,rfl,?_⟩
 show aj G Tryz.prog 115 [.sc (.pointer (some ⟨b,0,none⟩)),.sc (.pointer (some ⟨bn,0,none⟩)),.sc (.pointer (some ⟨bx,0,none⟩))] _ _
 simp only[U.csv,length_map]
 refine aj.w c115 ?_
 unfold s115 r115
 (repeat' (first|simp only[EVz,seval,↓reduceIte,EV6,EV7,q1,q2,q3,q1',q2',q3',hne]|simp only[EVz,seval,↓reduceIte,EV6,EV7,q1,q2,q3,q1',q2',q3']|(with_reducible intro blk hblk;(try(have hnx:=hblk;simp only[EVK]at hnx;(have hne:=hnx))))|(with_reducible refine ak ?_ ?_)|(with_reducible refine am ?_)|(refine⟨[y.cs],rfl,(by simp[U.cs_len]),(by simp),?_⟩)|(refine bL (κ++[(blk,_)]) [(b,_),(bn,_),(bx,_)] (hC blk).v (aB.rfl' _) SubN.ins1 (λr1 σ1 hr hnd2=>?_))|(obtain⟨κ1,⟨base1,cap1,rfl,hop⟩,rfl⟩:=hr)|(refine⟨_,SubN.ins2,?_⟩)|fail))
 all_goals exact RET.mk' (SubN.refl _) ⟨_,κ1,⟨base1,cap1,by rw[length_map],hop⟩,rfl⟩
theorem d126 (bn bx j:Nat) (y x:U) (hj:j<=x.kids.length) (hl:x.kids.length<1000000):
  jS G (.func (.func 126) #[] #[.pointer (some ⟨bn,0,none⟩),.pointer (some ⟨bx,0,none⟩)]) (λz=>{z with kids:=aR z.kids j y}) [(bn,.cells 3 [.int .i64 j]),(bx,.cells 27 y.cs)] x:=by
 intro b v κ ho hnd
 have hv:=ho
 obtain⟨base,cap,rfl,_⟩:=hv
 rw[length_map]at ho
 have q:¬b=bn/\¬b=bx/\¬bn=bx:=by simp[Store.keys]at hnd;exact⟨hnd.1.1,hnd.1.2.1,hnd.2.1.1⟩
 obtain⟨q1,q2,q3⟩:=q
 have q1':¬bn=b:=λe=>q1 e.symm
 have q2':¬bx=b:=λe=>q2 e.symm
 have q3':¬bx=bn:=λe=>q3 e.symm
 have hC:=λbo=>f116 G _ _ κ ho j (by rw[length_map];exact hj) (by rw[length_map];exact hl) bo y.cs (U.cs_len y)
 have hmd:eU (x.kids.map U.cs) j y.cs=(aR x.kids j y).map U.cs:=by unfold eU aR;rw[map_append,map_cons,map_take,map_drop]
 rw[hmd]at hC
 refine⟨_,_,_,rfl,?_⟩
 show aj G Tryz.prog 126 [.sc (.pointer (some ⟨b,0,none⟩)),.sc (.pointer (some ⟨bn,0,none⟩)),.sc (.pointer (some ⟨bx,0,none⟩))] _ _
 simp only[U.csv,length_map]
 refine aj.w c126 ?_
 unfold s126 r126
 (repeat' (first|simp only[EVz,seval,↓reduceIte,EV6,EV7,q1,q2,q3,q1',q2',q3',hne]|simp only[EVz,seval,↓reduceIte,EV6,EV7,q1,q2,q3,q1',q2',q3']|(with_reducible intro blk hblk;(try(have hnx:=hblk;simp only[EVK]at hnx;(have hne:=hnx))))|(with_reducible refine ak ?_ ?_)|(with_reducible refine am ?_)|(refine⟨[y.cs],rfl,(by simp[U.cs_len]),(by simp),?_⟩)|(refine bL (κ++[(blk,_)]) [(b,_),(bn,_),(bx,_)] (hC blk).v (aB.rfl' _) SubN.ins1 (λr1 σ1 hr hnd2=>?_))|(obtain⟨κ1,⟨base1,cap1,rfl,hop⟩,rfl⟩:=hr)|(refine⟨_,SubN.ins2,?_⟩)|fail))
 all_goals exact RET.mk' (SubN.refl _) ⟨_,κ1,⟨base1,cap1,by rw[length_map],hop⟩,rfl⟩
end
theorem kj (w:List Wd) (fresh:List (List UInt8)) (a b:Int) (gone:Nat):∀(ps:List Nat) (s:Nat) (m:Int),Gaps w.length gone s ps->s<=w.length->(putL w fresh a b gone ps m).length<=w.length+ps.length*fresh.length/\∀p r,ps=p::r->p+gone<=(putL w fresh a b gone r (m+fresh.length)).length
 |[],s,m,_,_=>by rw[putL];simp
 |p::ps,s,m,⟨h1,h2,h3⟩,hs=>by
  have ih:=kj w fresh a b gone ps (p+gone) (m+fresh.length) h3 (by omega)
  have e:=jx w fresh a b gone ps (p+gone) (m+fresh.length) h3
  have hge:p+gone<=(putL w fresh a b gone ps (m+fresh.length)).length:=by
   rw[e,length_append,length_take];omega
  refine⟨?_,?_⟩
  ·rw[putL,length_append,length_append,length_take,length_drop,bq,length_cons,Nat.add_mul]
   have:=ih.1
   omega
  ·rintro q r hq
   injection hq with hq1 hq2
   subst hq1 hq2
   exact hge
theorem jA {n g:Nat}:∀{ps:List Nat} {s:Nat} (j:Nat),s<=n->Gaps n g s ps->∃s',s'<=n/\Gaps n g s' (ps.drop j)
 |[],s,j,hs,_=>⟨s,hs,by rw[drop_nil];trivial⟩
 |p::ps,s,0,hs,h=>⟨s,hs,h⟩
 |p::ps,s,j+1,hs,⟨h1,h2,h3⟩=>jA (ps:=ps) j h2 h3
def mz (q:List Wd):AV:=if 256<q.length then .tup [.nil,.int .i64 6]else .tup [.lst 4 (q.map Wd.cs),.int .i64 0]
section
variable (G:Glob)
set_option maxHeartbeats 2000000 in
theorem f186 (w:List Wd) (ps:List Nat) (gone:Nat) (fresh:List (List UInt8)) (a b:Int) (hw:w.length<=100000) (hps:ps.length<=100000) (hfr:fresh.length<=1000) (hgp:gone<=100000) (hG:Gaps w.length gone 0 ps):
  Pure G Tryz.prog 186 [.lst 4 (w.map Wd.cs),.lst 1 (ps.map prow),.int .i64 gone,.lst 1 (fresh.map srow),.int .i64 a,.int .i64 b] (mz (putL w fresh a b gone ps 0)):=by
 refine aj.freezeT ?_
 refine aj.w c186 ?_
 unfold s186 r186
 have hfit:0+w.length*4<=(List.replicate w.length [AV.str [],.int .i64 0,.int .i64 0,.int .i64 0]).flatten.length:=by rw[cn];simp
 have hfl:(w.map Wd.cs).flatten.length=w.length*4:=by rw[ax _ (iX _),length_map]
 have hspl:aH (List.replicate w.length [AV.str [],.int .i64 0,.int .i64 0,.int .i64 0]).flatten 0 ((w.map Wd.cs).take w.length).flatten=(w.map Wd.cs).flatten:=by
  rw[take_of_length_le (by simp),aV _ _ _ (by rw[hfl];exact hfit),drop_eq_nil_of_le (by rw[hfl,cn];simp)]
  simp
 have wn:IntKind.i64.wrap ((ps.length:Int)-1)=(ps.length:Int)-1:=au (by omega) (by omega)
 (repeat' (first|simp only[EVz,seval,↓reduceIte,EV6,EV7,wn,hne]|simp only[EVz,seval,↓reduceIte,EV6,EV7,wn]|(with_reducible intro blk hblk;(try(have hnx:=hblk;simp only[EVK]at hnx;(have hne:=hnx))))|(refine jq (elem:=120) (c:=w.length) (sz:=4) (bytes:=40) (zr:=[.str [],.int .i64 0,.int .i64 0,.int .i64 0]) (z:=.agg #[.string .empty,.int .i64 0,.int .i64 0,.int .i64 0]) rfl (by kernel_rfl) (by kernel_rfl) rfl (by omega) (by decide) (by intro τ w;simp[RepL,Rep,Value.cells];rfl) (by omega) (by omega) ?_)|(refine Zw (elem:=120) (sz:=4) (ys:=w.map Wd.cs) w.length (w.map Wd.cs).flatten (by kernel_rfl) (by kernel_rfl) rfl (if_pos rfl) (.inl ⟨rfl,rfl⟩) (by simp) hfit hspl ?_)|fail))
 clear hfit hspl
 obtain⟨L,hL⟩:∃L:Nat->List Wd,L=λj=>putL w fresh a b gone (ps.drop j) ((j*fresh.length:Nat):Int):=⟨_,rfl⟩
 have hLn:L ps.length=w:=by rw[hL];simp only[drop_length];rw[putL]
 have hL0:L 0=putL w fresh a b gone ps 0:=by rw[hL];simp
 have hLl:∀j,(L j).length<=100100000:=λj=>by
  obtain⟨s',hs',hg⟩:=jA (g:=gone) j (Nat.zero_le _) hG
  have:=(kj w fresh a b gone (ps.drop j) s' ((j*fresh.length:Nat):Int) hg hs').1
  have h2:(ps.drop j).length*fresh.length<=100000*1000:=Nat.mul_le_mul (by rw[length_drop];omega) hfr
  rw[hL]
  simp only
  omega
 have hLs:∀i p,ps[i]? =some p->L i=(L (i+1)).take p++(dP a b fresh ((i*fresh.length:Nat):Int)++(L (i+1)).drop (p+gone))/\p+gone<=(L (i+1)).length:=λi p hp=>by
  obtain⟨hi,hp⟩:=List.getElem?_eq_some_iff.1 hp
  have hd:ps.drop i=p::ps.drop (i+1):=by rw[drop_eq_getElem_cons hi,hp]
  obtain⟨s',hs',hg⟩:=jA (g:=gone) i (Nat.zero_le _) hG
  have h1:=(kj w fresh a b gone (ps.drop i) s' ((i*fresh.length:Nat):Int) hg hs').2 p _ hd
  have hm:((i*fresh.length:Nat):Int)+fresh.length=(((i+1)*fresh.length:Nat):Int):=by rw[Nat.add_mul];omega
  rw[hm]at h1
  rw[hL]
  simp only
  refine⟨?_,h1⟩
  rw[hd,putL,hm]
 rw[←hL0]
 refine iy (ι:=Nat×Nat×Nat×List AV) (λq=>q.1<=ps.length/\RowsAt 4 q.2.2.2 0 (L q.1).length ((L q.1).map Wd.cs)/\q.2.2.1*4<=q.2.2.2.length/\(L q.1).length<=q.2.2.1/\q.2.2.1<=maxLen) (λq=>q.1)
  (λq=>[(1,.lst 1 (ps.map prow)),(2,.int .i64 gone),(3,.lst 1 (fresh.map srow)),(4,.int .i64 a),(5,.int .i64 b),(14,.sc (.slice (some ⟨q.2.1,0,none⟩) (L q.1).length q.2.2.1)),(15,.int .i64 ((q.1:Int)-1))])
  (λq=>[(q.2.1,.cells 120 q.2.2.2)]) (ps.length,blk,w.length,(w.map Wd.cs).flatten) ⟨Nat.le_refl _,?_,?_,?_,?_⟩ (by simp only[hLn];exact Weak.rfl' _ _) ?_
 ·simp only[hLn]
  have:=RowsAt.all (sz:=4) (rows:=w.map Wd.cs) (pad:=[]) (iX _) (n:=w.length) (by simp)
  simpa using this
 ·simp only[hfl];exact Nat.le_refl _
 ·simp only[hLn];exact Nat.le_refl _
 ·simp only;unfold maxLen;omega
 clear hne
 rintro⟨j,b1,cap,cs⟩ ⟨hj,hR,hcap,hle,hcm⟩
 simp only at hj hR hcap hle hcm ⊢
 cases j with
 |zero=>
  have e0:decide ((0:Int)<=((0:Nat):Int)-1)=false:=by decide
  have hll:=hLl 0
  (repeat' (first|(with_reducible (refine ae (λh=>?_) (λh=>?_))<;>(try simp only[Da,Db,Dc,Dw,De,Df,Dg,Dh]at h))|simp only[EVz,seval,↓reduceIte,EV6,EV7,e0]|fail))
  ·refine RET.mk' (SubN.nil _) (.inl ⟨?_,rfl⟩)
   unfold mz
   rw[if_pos (by omega)]
  ·refine RET.mk' (SubN.refl _) (.inr ⟨b1,_,_,cap,cs,4,_,_,rfl,rfl,hR,hle,hcm,?_,rfl⟩)
   unfold mz
   rw[if_neg (by omega)]
 |succ i=>
  obtain⟨p,hp⟩:∃p,ps[i]? =some p:=⟨ps[i]'(by omega),getElem?_eq_getElem (by omega)⟩
  obtain⟨hLi,hge⟩:=hLs i p hp
  have hgp0:(ps.map prow).getD i []=[AV.int .i64 (p:Int)]:=by simp[hp,prow]
  have e0:decide ((0:Int)<=(((i+1:Nat):Int))-1)=true:=decide_eq_true (by omega)
  have hi1:(((i+1:Nat):Int))-1=(i:Int):=by omega
  have hll:=hLl (i+1)
  have wg:IntKind.i64.wrap ((p:Int)+(gone:Int))=((p+gone:Nat):Int):=by rw[au (by omega) (by omega)];omega
  have hmm:i*fresh.length<=100000*1000:=Nat.mul_le_mul (by omega) hfr
  have wm:IntKind.i64.wrap ((i:Int)*(fresh.length:Int))=((i*fresh.length:Nat):Int):=by rw[←Int.natCast_mul,au (by omega) (by omega)]
  have w1:IntKind.i64.wrap ((i:Int)-1)=(i:Int)-1:=au (by omega) (by omega)
  have hM:=f122 G fresh a b ((i*fresh.length:Nat):Int) (by omega) (by omega) (by omega)
  obtain⟨mk,hmk⟩:∃mk,dP a b fresh ((i*fresh.length:Nat):Int)=mk:=⟨_,rfl⟩
  have hmkl:mk.length=fresh.length:=by rw[←hmk,bq]
  rw[hmk]at hLi hM
  obtain⟨Lj,hLj⟩:∃Lj,L (i+1)=Lj:=⟨_,rfl⟩
  rw[hLj]at hLi hge hR hle hll
  simp only[hLj,hi1]at e0 ⊢
  obtain⟨o2,ho2⟩:∃o2,(if cap=p+gone then 0 else 0+(p+gone)*4)=o2:=⟨_,rfl⟩
  have hlc:Lj.length<=cap:=hle
  have ilt:(i:Int)<(ps.length:Int):=by omega
  have ho3:o2=(p+gone)*4\/p+gone=Lj.length/\o2=0:=by
   subst ho2
   split
   ·exact .inr ⟨by omega,rfl⟩
   ·exact .inl (by omega)
  obtain⟨A,hA⟩:∃A,(Lj.map Wd.cs).take p=A:=⟨_,rfl⟩
  obtain⟨B,hB⟩:∃B,(Lj.map Wd.cs).drop (p+gone)=B:=⟨_,rfl⟩
  have hRA:=hR.pre (l:=p) (by omega)
  have hRB:=hR.suf hge ho3
  rw[hA]at hRA
  rw[hB]at hRB
  have hBl:B.length<=100100000:=by rw[←hB,length_drop,length_map];omega
  have hBr:=hRB.row
  have hmap:(L i).map Wd.cs=A++(mk.map Wd.cs++B):=by rw[hLi,map_append,map_append,map_take,map_drop,hA,hB]
  have hAl:A.length=p:=hRA.len
  have hlen:(L i).length=p+(mk.length+B.length):=by
   have:=congrArg List.length hmap
   rw[length_map,length_append,length_append,length_map,hAl]at this
   exact this
  obtain⟨z0,hz0,hz1⟩:∃z0,cX Tryz.prog 120=some z0/\z0.length=4:=⟨[.str [],.int .i64 0,.int .i64 0,.int .i64 0],by kernel_rfl,rfl⟩
  rcases Classical.em (mk=[])with hm0|hm0
  ·subst hm0
   simp only[map_nil,nil_append,length_nil,Nat.zero_add]at hmap hlen hM
   (repeat' (first|(with_reducible refine AI (by omega) ?_)|(with_reducible refine ab hM ?_)|simp only[EVz,seval,↓reduceIte,EV6,EV7,e0,hgp0,wg,wm,w1]|(with_reducible refine ak ?_ ?_)|(with_reducible refine am ?_)|(refine aT (e:=120) (sz:=4) (l:=p+gone) (h:=Lj.length) (m:=cap) o2 (Lj.length-(p+gone)) (cap-(p+gone)) (by kernel_rfl) (by kernel_rfl) rfl ⟨_,rfl⟩ rfl rfl (λh=>by cases h) hge hle (Nat.le_refl _) ho2 rfl rfl ?_)|(refine aT (e:=120) (sz:=4) (l:=0) (h:=p) (m:=p) 0 p p (by kernel_rfl) (by kernel_rfl) rfl rfl ⟨_,rfl⟩ ⟨_,rfl⟩ (λ_=>rfl) (by omega) (by omega) (by omega) (by split<;>rfl) rfl rfl ?_)|(refine ol (e:=120) (e':=120) (sz:=4) (bytes:=40) (b:=b1) (n:=p) (cap:=p) (rows:=A) (cs:=cs) (z:=z0) (by kernel_rfl) (by kernel_rfl) (by kernel_rfl) hz0 hz1 (by decide) (by decide) rfl (if_pos rfl) hRA (by omega) (Nat.le_refl _) (.inl ⟨rfl,rfl⟩) (by omega) ?_)|(refine jR (e:=120) (e':=120) (sz:=4) (bytes:=40) (b:=b1) (n:=p) (cap:=p) (rows:=A) (ys:=B) (cs:=cs) (z:=z0) (by kernel_rfl) (by kernel_rfl) (by kernel_rfl) hz0 hz1 (by decide) (by decide) rfl (if_pos rfl) hRA (by omega) (by omega) (.inr ⟨b1,o2,_,_,120,cs,rfl,if_pos rfl,hRB⟩) hBr (by omega) (λb' cap' cs' σ' g1 g2 g3 g4 g5=>?_))|fail))
   all_goals
    refine⟨(i,b',cap',cs'),⟨by simp only;omega,?_,g2,?_,g4⟩,Nat.lt_succ_self i,?_⟩
    ·simp only[hmap,hlen];exact g1
    ·simp only[hlen];exact g3
    ·simp only[hlen]
     refine Weak.sub ?_
     rcases g5 with⟨rfl,rfl⟩|⟨_,rfl⟩
     ·simp only[Store.set,if_true]
      exact SubN.refl _
     ·exact SubN.cons (SubN.nil _) _
  ·obtain⟨M,hMM⟩:∃M,mk.map Wd.cs=M:=⟨_,rfl⟩
   have hMl:M.length=mk.length:=by rw[←hMM,length_map]
   have hm1:1<=mk.length:=length_pos_iff.2 hm0
   have hm2:mk.length<=1000:=by omega
   rw[hMM]at hM hmap
   (repeat' (first|(with_reducible refine AI (by omega) ?_)|(with_reducible refine ab hM ?_)|simp only[EVz,seval,↓reduceIte,EV6,EV7,e0,hgp0,wg,wm,w1]|(with_reducible refine ak ?_ ?_)|(with_reducible refine am ?_)|(refine aT (e:=120) (sz:=4) (l:=p+gone) (h:=Lj.length) (m:=cap) o2 (Lj.length-(p+gone)) (cap-(p+gone)) (by kernel_rfl) (by kernel_rfl) rfl ⟨_,rfl⟩ rfl rfl (λh=>by cases h) hge hle (Nat.le_refl _) ho2 rfl rfl ?_)|(refine aT (e:=120) (sz:=4) (l:=0) (h:=p) (m:=p) 0 p p (by kernel_rfl) (by kernel_rfl) rfl rfl ⟨_,rfl⟩ ⟨_,rfl⟩ (λ_=>rfl) (by omega) (by omega) (by omega) (by split<;>rfl) rfl rfl ?_)|(refine fm (e:=120) (e':=120) (sz:=4) (bytes:=40) (b:=b1) (o:=0) (n:=p) (cap:=p) (rows:=A) (ys:=M) (cs:=cs) (z:=z0) (by kernel_rfl) (by kernel_rfl) (by kernel_rfl) hz0 hz1 (by decide) (by decide) rfl (if_pos rfl) hRA (by omega) (.inl ⟨rfl,rfl⟩) (by omega) (λh=>by omega) (λ_ b2 cap2 pad2 f0 f1 f2 f3 f4=>?_))|(refine jR (e:=120) (e':=120) (sz:=4) (bytes:=40) (b:=b2) (n:=p+M.length) (cap:=cap2) (rows:=A++M) (ys:=B) (cs:=(A++M).flatten++pad2) (z:=z0) (by kernel_rfl) (by kernel_rfl) (by kernel_rfl) hz0 hz1 (by decide) (by decide) rfl (if_pos rfl) (RowsAt.all f3 (by rw[length_append,hAl])) (by rw[f4];exact Nat.le_refl _) f2 (.inr ⟨b1,o2,_,_,120,cs,rfl,(if_neg (by simpa[Store.keys]using f0)).trans (if_pos rfl),hRB⟩) hBr (by omega) (λb' cap' cs' σ' g1 g2 g3 g4 g5=>?_))|fail))
   all_goals
    have hsum:p+(mk.length+B.length)=p+M.length+B.length:=by omega
    rw[append_assoc]at g1
    refine⟨(i,b',cap',cs'),⟨by simp only;omega,?_,g2,?_,g4⟩,Nat.lt_succ_self i,?_⟩
    ·simp only[hmap,hlen,hsum];exact g1
    ·simp only[hlen,hsum];exact g3
    ·simp only[hlen,hsum]
     refine Weak.sub ?_
     rcases g5 with⟨rfl,rfl⟩|⟨_,rfl⟩
     ·simp only[Store.set,if_true]
      exact SubN.cons (SubN.nil _) _
     ·exact SubN.cons (SubN.nil _) _
end
end Go.Av
