/-
  ENACT, M25: a unit changed in a copy of the tree.
-/
import Derived.Test.YtnoakpkjccigoaaGreatDoorXM14toXAv36
import Derived.Test.YtnoakpkjccigoaaGreatDoorXM23toXM24
import Derived.Test.YtnoakpkjccigoaaGreatDoorXU7toXN0
namespace Go.Av
open Go Go.RowKit Go.Proofs List
set_option linter.unusedSimpArgs false
set_option linter.unusedVariables false
def U.csv (x:U) (v:AV):List AV:=[.int .i64 x.id.act,.int .i64 x.id.item,.int .i64 x.id.n,.int .i64 x.kind,.str x.label,.lst 4 (x.head.map Wd.cs),.lst 4 (x.words.map Wd.cs),v]
def jA (G:Glob) (f:Value) (g:U->U) (σ:Store) (x:U):Prop:=
 ∀b v κ,bD 27 8 (x.kids.map U.cs) v κ->(Store.keys ((b,AObj.cells 27 (x.csv v))::(σ++κ))).Nodup->
  cd G Tryz.prog f [.sc (.pointer (some ⟨b,0,none⟩))] ((b,.cells 27 (x.csv v))::(σ++κ)) (λr σ'=>∃v' κ',bD 27 8 ((g x).kids.map U.cs) v' κ'/\σ'=(b,.cells 27 ((g x).csv v'))::(σ++κ'))
theorem U.csv_frz {x:U} {v:AV} {κ:Store} (h:bD 27 8 (x.kids.map U.cs) v κ):FrzL κ (x.csv v) x.cs:=by
 rw[U.cs_eq]
 exact⟨.inl rfl,.inl rfl,.inl rfl,.inl rfl,.inl rfl,.inl rfl,.inl rfl,.inr ⟨27,8,_,_,h,λq hq=>hq,rfl⟩,trivial⟩
theorem nA {i:Idd} {us a b:List U} {k:U} (e:us=a++k::b) (hn:(U.idss us).Nodup) (hi:i∈k.ids):Split i us a k b:=by
 subst e
 have e:U.idss (a++k::b)=U.idss a++(k.ids++U.idss b):=by
  induction a with
  |nil=>rw[nil_append,U.idss_cons,U.idss_nil];rfl
  |cons x a ih=>
   rw[cons_append,U.idss_cons,U.idss_cons]
   rw[cons_append,U.idss_cons]at hn
   rw[ih (nodup_append.1 hn).2.1,append_assoc]
 rw[e]at hn
 obtain⟨n1,n2,n3⟩:=nodup_append.1 hn
 obtain⟨n4,n5,n6⟩:=nodup_append.1 n2
 exact⟨rfl,hi,λh=>n3 i h i (mem_append.2 (.inl hi)) rfl,λh=>n6 i hi i h rfl,n4⟩
theorem lJ {i:Idd} {u:U} {a b:List U} {k:U} (h:u.id≠i) (s:Split i u.kids a k b):fnd i u=fnd i k:=by
 unfold Go.Av.fnd
 rw[s.way h]
 have:=gH s.mem
 cases hk:U.way i k<;>simp_all[getLastD_cons]
theorem SubN.comm5 {a b c d e:Nat×AObj} {σ:Store}:SubN (c::d::e::σ) (σ++[a,b,c,d,e]):=
 SubN.trans (SubN.tail (SubN.tail (SubN.refl _) _) _) (SubN.perm (perm_append_comm (l₁:=[a,b,c,d,e]) (l₂:=σ)))
theorem nd_pull {κ σ:Store} {p b:Nat} {A B C:AObj} (h:(κ++(p,A)::(b,B)::σ:Store).keys.Nodup):(Store.keys ((b,C)::(σ++κ))).Nodup:=by
 have:=(SubN.trans (SubN.cons (SubN.perm perm_append_comm) _) (SubN.trans (SubN.cons (SubN.tail (SubN.refl _) _) _) SubN.pull2')).2 h
 simpa[Store.keys]using this
section
variable (G:Glob)
set_option maxHeartbeats 4000000 in
theorem f153 (f:Value) (g:U->U) (σ:Store) (i:Idd):∀(u:U),u.Short->u.ids.Nodup->i∈u.ids->jA G f g σ (fnd i u)->
  ag G Tryz.prog 153 [.agg u.cs,.agg i.cs,.sc f] σ (λr σ'=>r= .agg (U.wth i g u).cs/\σ'=σ):=by
 refine U.ind λu ih hs hn hi hD=>?_
 have hkl:=hs.1.kids
 have hCl:=f203 G (u.kids.map U.cs) (dZ _) (by rw[length_map];omega)
 refine ag.freezeK (R1:=λσ'=>σ'=σ) ?_
 refine ag.w c153 ?_
 unfold s153 r153
 by_cases h0:u.id=i
 ·have e0:decide (u.id=i)=true:=decide_eq_true h0
  have hfu:fnd i u=u:=aB (by rw[aN h0];rfl)
  rw[hfu]at hD
  rw[bA h0,U.cs_eq u]
  (repeat' (first|simp only[EVz,seval,↓reduceIte,EV6,EV7,idd_eq,e0,hne]|simp only[EVz,seval,↓reduceIte,EV6,EV7,idd_eq,e0]|(with_reducible intro blk hblk;(try(have hnx:=hblk;simp only[EVK]at hnx;(have hne:=hnx))))|fail))
  rename_i b3 hb3
  refine aT [] ((blk,_)::(b3,_)::σ) hCl.v (ax.rfl' _) (SubN.refl _) (λv κ ho hnd=>⟨_,SubN.pull2',?_⟩)
  have hv:=ho
  obtain⟨base,cap,rfl,_⟩:=hv
  have q1:¬b3=blk:=λe=>hne.1 e.symm
  (repeat' (simp only[EVz,seval,↓reduceIte,EV6,EV7,q1,hne]))
  rw[length_map]at ho
  have hDD:=hD b3 _ κ ho (nd_pull hnd)
  simp only[U.csv]at hDD
  refine aT ((b3,_)::(σ++κ)) [(blk,_)] hDD (ax.rfl' _) SubN.push' (λr σ2 hr hnd2=>?_)
  obtain⟨v2,κ2,ho2,rfl⟩:=hr
  refine⟨_,SubN.pop',?_⟩
  have hv:=ho2
  obtain⟨base2,cap2,rfl,_⟩:=hv
  (repeat' (simp only[EVz,seval,↓reduceIte,EV6,EV7,q1,hne]))
  rw[length_map]at ho2
  refine RET.mk' (σ':=κ2++σ) (SubN.tail (SubN.tail (SubN.refl _) _) _) ⟨_,κ2,σ,rfl,U.csv_frz ho2,rfl,rfl⟩
 ·have e0:decide (u.id=i)=false:=decide_eq_false h0
  have hi':i∈U.idss u.kids:=by
   rw[U.ids_eq,mem_cons]at hi
   exact hi.resolve_left (Ne.symm h0)
  have hne0:u.kids≠[]:=by intro h;rw[h,U.idss_nil]at hi';cases hi'
  have hnk:=(U.nd_kids hn).1
  rw[U.cs_eq u]
  (repeat' (first|simp only[EVz,seval,↓reduceIte,EV6,EV7,idd_eq,e0,hne]|simp only[EVz,seval,↓reduceIte,EV6,EV7,idd_eq,e0]|(with_reducible intro blk hblk;(try(have hnx:=hblk;simp only[EVK]at hnx;(have hne:=hnx))))|fail))
  rename_i b3 hb3
  refine aT [] ((blk,_)::(b3,_)::σ) hCl.v (ax.rfl' _) (SubN.refl _) (λv κ ho hnd=>⟨_,SubN.pull2',?_⟩)
  have hv:=ho
  obtain⟨base,cap,rfl,hv⟩:=hv
  rw[length_map]at ho
  rcases hv with⟨h1,_⟩|⟨bk,pad,rfl,rfl,g1,g2,g3,g4⟩
  ·exact absurd (map_eq_nil_iff.1 h1) hne0
  have q1:¬b3=blk:=λe=>hne.1 e.symm
  have q0:¬blk=b3:=hne.1
  simp[Store.keys]at hnd
  have q2:¬bk=blk:=hnd.1.1
  have q3:¬bk=b3:=hnd.1.2.1
  have q2':¬blk=bk:=λe=>q2 e.symm
  have q3':¬b3=bk:=λe=>q3 e.symm
  rw[length_map]at g1
  (repeat' (first|simp only[EVz,seval,↓reduceIte,EV6,EV7,length_map,hx.yes,hx.le0,hx.lt',hx.get,hx.row,hw]|simp only[EVz,seval,↓reduceIte,EV6,EV7,length_map,hn]|(refine ay u.kids (λi' r (c:Unit)=>i∈U.idss r) (λi' c=>[(2,.sc f),(3,.sc (.pointer (some ⟨b3,0,none⟩))),(4,.ref i.cs),(6,.sc (.pointer (some ⟨blk,0,none⟩))),(7,.sc (.slice (some ⟨bk,0,none⟩) u.kids.length cap)),(26,.sc (.slice (some ⟨bk,0,none⟩) u.kids.length cap)),(27,.int .i64 u.kids.length),(28,.int .i64 i')]) (λi' c=>[(b3,.cells 27 (U.csv u (.lst 8 (u.kids.map U.cs)))),(blk,.cells 27 [.int .i64 0,.int .i64 0,.int .i64 0,.int .i64 0,.str [],.nil,.nil,.nil]),(bk,.cells 27 ((u.kids.map U.cs).flatten++pad))]++σ) () hi' (Weak.rfl' _ _) (by omega) (λi' x r c hok hx hw=>?_) (λc hok hn=>?_))|fail))
  ·have hil:=hx.lt
   have hxg:u.kids[i']? =some x:=by rw[getElem?_eq_getElem hil,←hx.get x];simp[hil]
   have hgk:(u.kids.map U.cs)[i']? =some x.cs:=by rw[getElem?_map,hxg];rfl
   have hgt:(((u.kids.map U.cs).flatten++pad).drop (0+i'*8)).take 8=x.cs:=by simpa using jI (pad:=pad) g3 hgk
   have hle8:8<=(((u.kids.map U.cs).flatten++pad).drop (0+i'*8)).length:=by
    rw[length_drop,g4];omega
   have hle9:0+i'*8+8<=((u.kids.map U.cs).flatten++pad).length:=by
    rw[g4];omega
   have hF:=f44 G i x (hs.kid hx.mem)
   unfold gV at hF
   simp only[Idd.cs]at hF
   by_cases hxi:i∈x.ids
   ·rw[fG hxi,if_neg (by simp)]at hF
    have heq:u.kids=u.kids.take i'++x::u.kids.drop (i'+1):=by
     have h3:u.kids.drop i'=x::u.kids.drop (i'+1):=by
      rw[drop_eq_getElem_cons hil]
      congr 1
      rw[getElem?_eq_getElem hil]at hxg
      exact Option.some.inj hxg
     rw[←h3,take_append_drop]
    have sp:=nA heq hnk hxi
    have hfx:=lJ h0 sp
    clear heq
    have hih:=ih x hx.mem (hs.kid hx.mem) sp.nd hxi (by rw[←hfx];exact hD)
    have hwu:=sp.wth (f:=g) h0
    have hset:aH ((u.kids.map U.cs).flatten++pad) (0+i'*8) (U.wth i g x).cs=((u.kids.set i' (U.wth i g x)).map U.cs).flatten++pad:=by
     rw[map_set]
     simpa using iK (pad:=pad) g3 (by rw[length_map];exact hil) (U.cs_len _)
    have hks:u.kids.take i'++U.wth i g x::u.kids.drop (i'+1)=u.kids.set i' (U.wth i g x):=by
     rw[set_eq_take_append_cons_drop,if_pos hil]
    rw[hks]at hwu
    simp only[Idd.cs]at hih
    (repeat' (first|(with_reducible refine AI (by omega) ?_)|(with_reducible refine aa hF ?_)|simp only[EVz,seval,↓reduceIte,EV6,EV7,hx.yes,hx.le0,hx.lt',hx.get,hw,hgt,q0,q1,q2,q3,q2',q3',hne]|(with_reducible intro blk hblk;(try(have hnx:=hblk;simp only[EVK]at hnx;(have hne:=AI hnx hne))))|fail))
    refine aT σ [_,_,_,_,_] hih.v (ax.rfl' _) (SubN.perm (perm_append_comm (l₁:=σ) (l₂:=[_,_,_,_,_]))) (λr1 σ1 hr hnd2=>?_)
    obtain⟨rfl,rfl⟩:=hr
    refine⟨_,SubN.comm5,?_⟩
    (repeat' (first|(with_reducible refine AI (by omega) ?_)|simp only[EVz,seval,↓reduceIte,EV6,EV7,hx.yes,hx.le0,hx.lt',hx.get,hw,hgt,hset,q0,q1,q2,q3,q2',q3',U.csv,hne]|fail))
    refine RET.mk' (σ':=[(bk,_)]++σ1) (SubN.tail (SubN.tail (SubN.refl _) _) _) ⟨_,[(bk,_)],σ1,rfl,?_,rfl,rfl⟩
    rw[hwu]
    refine U.csv_frz (x:={u with kids:=u.kids.set i' (U.wth i g x)}) (bD.mk (by rw[length_map,length_set]) (by rw[length_map,length_set];exact g1) g2 (dZ _) ?_)
    rw[←g4,length_append,length_append,au _ (dZ _),au _ (dZ _),length_map,length_map,length_set]
   ·have hw0:(U.way i x).isEmpty=true:=by rw[(cO x).2 hxi];rfl
    rw[hw0,if_pos rfl]at hF
    rw[U.idss_cons,mem_append]at hok
    have hok':=hok.resolve_left hxi
    (repeat' (first|(with_reducible refine AI (by omega) ?_)|(with_reducible refine aa hF ?_)|simp only[EVz,seval,↓reduceIte,EV6,EV7,hx.yes,hx.le0,hx.lt',hx.get,hw,hgt,q0,q1,q2,q3,q2',q3',hne]|(with_reducible intro blk hblk;(try(have hnx:=hblk;simp only[EVK]at hnx;(have hne:=AI hnx hne))))|fail))
    exact ap hx () hok' (Weak.sub (SubN.tail (SubN.tail (SubN.refl _) _) _))
  ·rw[U.idss_nil]at hok;cases hok
end
theorem SubN.ins1 {t a b c:Nat×AObj} {κ:Store}:SubN ((κ++[t])++[a,b,c]) (t::a::b::c::κ):=by
 have e:(κ++[t])++[a,b,c]=κ++[t,a,b,c]:=by simp
 rw[e]
 exact SubN.perm (perm_append_comm (l₁:=κ) (l₂:=[t,a,b,c]))
theorem SubN.ins2 {t a b c:Nat×AObj} {κ:Store}:SubN (a::b::c::κ) ((κ++[t])++[a,b,c]):=by
 have e:(κ++[t])++[a,b,c]=κ++[t,a,b,c]:=by simp
 rw[e]
 exact SubN.trans (SubN.tail (SubN.refl _) t) (SubN.perm (perm_append_comm (l₁:=[t,a,b,c]) (l₂:=κ)))
section
variable (G:Glob)
theorem d244 (bn j:Nat) (x:U) (hj:j<x.kids.length) (hl:x.kids.length<1000000):
  jA G (.func (.func 244) #[] #[.pointer (some ⟨bn,0,none⟩)]) (λy=>{y with kids:=delAt y.kids j}) [(bn,.cells 3 [.int .i64 j])] x:=by
 intro b v κ ho hnd
 refine⟨_,_,_,rfl,?_⟩
 have hC:=f202 G _ v κ ho j (by rw[length_map];exact hj) (by rw[length_map];exact hl)
 have hv:=ho
 obtain⟨base,cap,rfl,_⟩:=hv
 have q1:¬b=bn:=by simp[Store.keys]at hnd;exact hnd.1.1
 have q2:¬bn=b:=λe=>q1 e.symm
 have hw:IntKind.i64.wrap ((j:Int)+1)=((j+1:Nat):Int):=by rw[aA (by omega) (by omega)];omega
 rw[length_map]at hC
 have hmd:(x.kids.map U.cs).take j++(x.kids.map U.cs).drop (j+1)=(delAt x.kids j).map U.cs:=by unfold delAt;rw[map_append,map_take,map_drop]
 rw[hmd]at hC
 show ag G Tryz.prog 244 [.sc (.pointer (some ⟨b,0,none⟩)),.sc (.pointer (some ⟨bn,0,none⟩))] _ _
 simp only[U.csv]
 refine ag.w c244 ?_
 unfold s244 r244
 (repeat' (first|simp only[EVz,seval,↓reduceIte,EV6,EV7,q1,q2,hw]|(with_reducible refine ae ?_ ?_)|(with_reducible refine af ?_)|(refine aT κ [(b,_),(bn,_)] hC.v (ax.rfl' _) (SubN.perm (perm_append_comm (l₁:=κ) (l₂:=[_,_]))) (λr1 σ1 hr hnd2=>?_))|(refine⟨_,SubN.perm (perm_append_comm (l₁:=[_,_]) (l₂:=σ1)),?_⟩)|(obtain⟨base1,cap1,rfl,hop⟩:=hr)|fail))
 all_goals exact RET.mk' (SubN.refl _) ⟨_,σ1,⟨base1,cap1,by rw[length_map],hop⟩,rfl⟩
theorem d158 (bw:Nat) (w:List Wd) (x:U):
  jA G (.func (.func 158) #[] #[.pointer (some ⟨bw,0,none⟩)]) (λy=>{y with words:=w}) [(bw,.cells 24 [.lst 4 (w.map Wd.cs)])] x:=by
 intro b v κ ho hnd
 have q1:¬b=bw:=by simp[Store.keys]at hnd;exact hnd.1.1
 have q2:¬bw=b:=λe=>q1 e.symm
 refine⟨_,_,_,rfl,?_⟩
 show ag G Tryz.prog 158 [.sc (.pointer (some ⟨b,0,none⟩)),.sc (.pointer (some ⟨bw,0,none⟩))] _ _
 simp only[U.csv]
 refine ag.w c158 ?_
 unfold s158 r158
 (repeat' (simp only[EVz,seval,↓reduceIte,EV6,EV7,q1,q2]))
 all_goals exact RET.mk' (SubN.refl _) ⟨_,κ,ho,rfl⟩
theorem d160 (bw:Nat) (w:List Wd) (x:U):
  jA G (.func (.func 160) #[] #[.pointer (some ⟨bw,0,none⟩)]) (λy=>{y with words:=w}) [(bw,.cells 24 [.lst 4 (w.map Wd.cs)])] x:=by
 intro b v κ ho hnd
 have q1:¬b=bw:=by simp[Store.keys]at hnd;exact hnd.1.1
 have q2:¬bw=b:=λe=>q1 e.symm
 refine⟨_,_,_,rfl,?_⟩
 show ag G Tryz.prog 160 [.sc (.pointer (some ⟨b,0,none⟩)),.sc (.pointer (some ⟨bw,0,none⟩))] _ _
 simp only[U.csv]
 refine ag.w c160 ?_
 unfold s160 r160
 (repeat' (simp only[EVz,seval,↓reduceIte,EV6,EV7,q1,q2]))
 all_goals exact RET.mk' (SubN.refl _) ⟨_,κ,ho,rfl⟩
theorem d162 (bw:Nat) (w:List Wd) (x:U):
  jA G (.func (.func 162) #[] #[.pointer (some ⟨bw,0,none⟩)]) (λy=>{y with head:=w}) [(bw,.cells 24 [.lst 4 (w.map Wd.cs)])] x:=by
 intro b v κ ho hnd
 have q1:¬b=bw:=by simp[Store.keys]at hnd;exact hnd.1.1
 have q2:¬bw=b:=λe=>q1 e.symm
 refine⟨_,_,_,rfl,?_⟩
 show ag G Tryz.prog 162 [.sc (.pointer (some ⟨b,0,none⟩)),.sc (.pointer (some ⟨bw,0,none⟩))] _ _
 simp only[U.csv]
 refine ag.w c162 ?_
 unfold s162 r162
 (repeat' (simp only[EVz,seval,↓reduceIte,EV6,EV7,q1,q2]))
 all_goals exact RET.mk' (SubN.refl _) ⟨_,κ,ho,rfl⟩
theorem d163 (bd:Nat) (d:Dd) (x:U):
  jA G (.func (.func 163) #[] #[.pointer (some ⟨bd,0,none⟩)]) (λy=>{y with label:=d.it.label}) [(bd,.cells 54 d.cs)] x:=by
 intro b v κ ho hnd
 have q1:¬b=bd:=by simp[Store.keys]at hnd;exact hnd.1.1
 have q2:¬bd=b:=λe=>q1 e.symm
 refine⟨_,_,_,rfl,?_⟩
 show ag G Tryz.prog 163 [.sc (.pointer (some ⟨b,0,none⟩)),.sc (.pointer (some ⟨bd,0,none⟩))] _ _
 simp only[U.csv]
 unfold Dd.cs
 rw[Itm.cs_eq]
 refine ag.w c163 ?_
 unfold s163 r163
 (repeat' (simp only[EVz,seval,↓reduceIte,EV6,EV7,q1,q2]))
 all_goals exact RET.mk' (SubN.refl _) ⟨_,κ,ho,rfl⟩
theorem d154 (bn bx j:Nat) (y x:U) (hj:j<=x.kids.length) (hl:x.kids.length<1000000):
  jA G (.func (.func 154) #[] #[.pointer (some ⟨bn,0,none⟩),.pointer (some ⟨bx,0,none⟩)]) (λz=>{z with kids:=insAt z.kids j y}) [(bn,.cells 3 [.int .i64 j]),(bx,.cells 27 y.cs)] x:=by
 intro b v κ ho hnd
 have hv:=ho
 obtain⟨base,cap,rfl,_⟩:=hv
 rw[length_map]at ho
 have q:¬b=bn/\¬b=bx/\¬bn=bx:=by simp[Store.keys]at hnd;exact⟨hnd.1.1,hnd.1.2.1,hnd.2.1.1⟩
 obtain⟨q1,q2,q3⟩:=q
 have q1':¬bn=b:=λe=>q1 e.symm
 have q2':¬bx=b:=λe=>q2 e.symm
 have q3':¬bx=bn:=λe=>q3 e.symm
 have hC:=λbo=>f155 G _ _ κ ho j (by rw[length_map];exact hj) (by rw[length_map];exact hl) bo y.cs (U.cs_len y)
 have hmd:dL (x.kids.map U.cs) j y.cs=(insAt x.kids j y).map U.cs:=by unfold dL insAt;rw[map_append,map_cons,map_take,map_drop]
 rw[hmd]at hC
 refine⟨_,_,_,rfl,?_⟩
 show ag G Tryz.prog 154 [.sc (.pointer (some ⟨b,0,none⟩)),.sc (.pointer (some ⟨bn,0,none⟩)),.sc (.pointer (some ⟨bx,0,none⟩))] _ _
 simp only[U.csv,length_map]
 refine ag.w c154 ?_
 unfold s154 r154
 (repeat' (first|simp only[EVz,seval,↓reduceIte,EV6,EV7,q1,q2,q3,q1',q2',q3',hne]|simp only[EVz,seval,↓reduceIte,EV6,EV7,q1,q2,q3,q1',q2',q3']|(with_reducible intro blk hblk;(try(have hnx:=hblk;simp only[EVK]at hnx;(have hne:=hnx))))|(with_reducible refine ae ?_ ?_)|(with_reducible refine af ?_)|(refine⟨[y.cs],rfl,(by simp[U.cs_len]),(by simp),?_⟩)|(refine aT (κ++[(blk,_)]) [(b,_),(bn,_),(bx,_)] (hC blk).v (ax.rfl' _) SubN.ins1 (λr1 σ1 hr hnd2=>?_))|(obtain⟨κ1,⟨base1,cap1,rfl,hop⟩,rfl⟩:=hr)|(refine⟨_,SubN.ins2,?_⟩)|fail))
 all_goals exact RET.mk' (SubN.refl _) ⟨_,κ1,⟨base1,cap1,by rw[length_map],hop⟩,rfl⟩
theorem d164 (bn bx j:Nat) (y x:U) (hj:j<=x.kids.length) (hl:x.kids.length<1000000):
  jA G (.func (.func 164) #[] #[.pointer (some ⟨bn,0,none⟩),.pointer (some ⟨bx,0,none⟩)]) (λz=>{z with kids:=insAt z.kids j y}) [(bn,.cells 3 [.int .i64 j]),(bx,.cells 27 y.cs)] x:=by
 intro b v κ ho hnd
 have hv:=ho
 obtain⟨base,cap,rfl,_⟩:=hv
 rw[length_map]at ho
 have q:¬b=bn/\¬b=bx/\¬bn=bx:=by simp[Store.keys]at hnd;exact⟨hnd.1.1,hnd.1.2.1,hnd.2.1.1⟩
 obtain⟨q1,q2,q3⟩:=q
 have q1':¬bn=b:=λe=>q1 e.symm
 have q2':¬bx=b:=λe=>q2 e.symm
 have q3':¬bx=bn:=λe=>q3 e.symm
 have hC:=λbo=>f155 G _ _ κ ho j (by rw[length_map];exact hj) (by rw[length_map];exact hl) bo y.cs (U.cs_len y)
 have hmd:dL (x.kids.map U.cs) j y.cs=(insAt x.kids j y).map U.cs:=by unfold dL insAt;rw[map_append,map_cons,map_take,map_drop]
 rw[hmd]at hC
 refine⟨_,_,_,rfl,?_⟩
 show ag G Tryz.prog 164 [.sc (.pointer (some ⟨b,0,none⟩)),.sc (.pointer (some ⟨bn,0,none⟩)),.sc (.pointer (some ⟨bx,0,none⟩))] _ _
 simp only[U.csv,length_map]
 refine ag.w c164 ?_
 unfold s164 r164
 (repeat' (first|simp only[EVz,seval,↓reduceIte,EV6,EV7,q1,q2,q3,q1',q2',q3',hne]|simp only[EVz,seval,↓reduceIte,EV6,EV7,q1,q2,q3,q1',q2',q3']|(with_reducible intro blk hblk;(try(have hnx:=hblk;simp only[EVK]at hnx;(have hne:=hnx))))|(with_reducible refine ae ?_ ?_)|(with_reducible refine af ?_)|(refine⟨[y.cs],rfl,(by simp[U.cs_len]),(by simp),?_⟩)|(refine aT (κ++[(blk,_)]) [(b,_),(bn,_),(bx,_)] (hC blk).v (ax.rfl' _) SubN.ins1 (λr1 σ1 hr hnd2=>?_))|(obtain⟨κ1,⟨base1,cap1,rfl,hop⟩,rfl⟩:=hr)|(refine⟨_,SubN.ins2,?_⟩)|fail))
 all_goals exact RET.mk' (SubN.refl _) ⟨_,κ1,⟨base1,cap1,by rw[length_map],hop⟩,rfl⟩
end
theorem RET.keep {x v:AV} {σ σ2:Store} (hx:x=v) (hs:SubN σ σ2):RET x σ2 (λr σ'=>r=v/\σ'=σ):=⟨v,σ,hx ▸ AVle.rfl' _,hs,rfl,rfl⟩
theorem cj (G:Glob) (j:Idd) (u:U) (hs:u.Short):Pure G Tryz.prog 44 [.agg u.cs,.agg j.cs] (.tup [.agg (fnd j u).cs,.bool (hasP j u)]):=by
 have hF:=f44 G j u hs
 unfold gV at hF
 rw[has_way]at hF
 cases h:hasP j u with
 |true=>
  rw[h]at hF
  exact hF
 |false=>
  rw[h]at hF
  simp only[Bool.not_false,if_true]at hF
  have hf:fnd j u=noU:=by
   unfold Go.Av.fnd
   rw[(cO u).2 (of_decide_eq_false h)]
   rfl
  rw[hf]
  refine ag.toPure hF ?_
  rintro r σ' ⟨rfl,rfl⟩
  refine LeRep.tup (.cons (LeRep.agg ?_) (.cons (LeRep.refl _) .nil))
  rw[U.cs_eq]
  unfold zU noU
  repeat' first
   |exact LeReps.nil
   |refine LeReps.cons ?_ ?_
  all_goals first|exact LeRep.refl _|exact LeRep.nil
theorem dK:noU.Short:=by
 have hf:noU.fit:=(U.fit_eq _).2 ⟨by decide,⟨by decide,by simp[noU]⟩,⟨by decide,by simp[noU]⟩,by decide,by simp[noU]⟩
 have hl:noU.flat=[noU]:=by rw[U.flat_eq];show noU::U.flats []=_;rw[U.flats]
 refine⟨⟨hf,by rw[hl];decide⟩,?_⟩
 rw[hl]
 intro x hx
 simp only[mem_singleton]at hx
 subst hx
 exact⟨by decide,by decide,by decide,by simp[noU],by simp[noU]⟩
theorem fb {u:U} (hs:u.Short) (j:Idd):(fnd j u).Short:=by
 cases h:U.way j u with
 |nil=>
  unfold Go.Av.fnd
  rw[h]
  exact dK
 |cons x l=>
  obtain⟨y,hy⟩:∃y,(U.way j u).getLast?=some y:=by rw[h];exact⟨_,getLast?_eq_some_getLast (by simp)⟩
  rw[aB hy]
  exact hs.node (m7 u _ (mem_of_getLast? hy))
section
variable (G:Glob)
theorem f109 {σ:Store} {l:List (Value×Bool×Int)} (hlen:l.length<1000000)
  (hl:∀x∈l,∃σx,SubN σx σ/\cd G Tryz.prog x.1 [] σx (λr σ'=>r= .bool x.2.1/\σ'=σx)):ag G Tryz.prog 109 [.lst 2 (l.map ckRow)] σ λr σ'=>r= .int .i64 (cc l)/\σ'=σ:=by
 refine ag.wk c109 λR hR=>?_
 unfold s109 r109
 (repeat' (first|(with_reducible (refine ab (λh=>?_) (λh=>?_))<;>(try simp only[Da,Db,Dc,Dw,De,Df,Dg,Dh]at h))|simp only[EVz,seval,↓reduceIte,EV6,EV7,hx.yes,hx.le0,hx.lt',hx.get,hx.row,hw,ckRow]|simp only[EVz,seval,↓reduceIte,EV6,EV7,hn]|simp only[EVz,seval,↓reduceIte,EV6,EV7]|(with_reducible intro blk hblk;(try(have hnx:=hblk;simp only[EVK]at hnx;(have hne:=hnx))))|(refine ay l (λi r (c:Unit)=>cc l=cc r) (λi c=>[(5,.lst 2 (l.map ckRow)),(6,.int .i64 l.length),(7,.int .i64 i)]) (λ_ _=>σ) () rfl (Weak.rfl' _ _) (by omega) (λi x r c hok hx hw=>?_) (λc hok hn=>?_))|(refine ce ((hl x hx.mem).elim λ_ q=>q.2.keepIn q.1) (SubN.tail (SubN.refl _) _) ?_)|fail))
 ·exact hR _ _ (.inl (.inl (by rw[hok,cc,if_pos h]))) (SubN.tail (SubN.refl _) _)
 ·exact ap hx () (by rw[hok,cc,if_neg (by simp[h])]) (Weak.sub (SubN.tail (SubN.refl _) _))
 ·exact hR _ _ (.inl (.inl (by rw[hok];rfl))) (SubN.refl _)
theorem bG {σ:Store} {g:Option Nat} {T:TypeId} {l:List (Value×Bool×Int)} {K:AV->Store->Prop} {t:Tag K} {rows:List (List AV)} (hrows:rows=l.map ckRow) (hlen:l.length<1000000)
  (hl:∀x∈l,∃σx,SubN σx σ/\cd G Tryz.prog x.1 [] σx (λr σ'=>r= .bool x.2.1/\σ'=σx)) (hk:K (.int .i64 (cc l)) σ):CALL G Tryz.prog (.func (.func 109) #[] #[]) [.own g T 2 rows] σ K t:=by
 subst hrows
 exact aZ σ [] (f109 G hlen hl).v ⟨.inl (.inr ⟨rfl,rfl⟩),trivial⟩ (by rw[append_nil];exact SubN.refl _) (by rintro _ _ ⟨rfl,rfl⟩;rw[append_nil];exact hk)
set_option maxHeartbeats 4000000 in
theorem f116:∀(u:U),u.Short->Pure G Tryz.prog 116 [.agg u.cs] (.agg u.cs):=by
 refine U.ind λu ih hs=>?_
 have h0:=hs.2 u u.flat_self
 have hkl:=hs.1.kids
 have hCh:=f86p G u.head h0.2.1
 have hCw:=f86p G u.words h0.2.2.1
 have hCl:=f203 G (u.kids.map U.cs) (dZ _) (by rw[length_map];omega)
 refine ag.freezeK (R1:=λσ'=>σ'=[]) ?_
 refine ag.w c116 ?_
 unfold s116 r116
 refine W_tail2 λY hY=>?_
 have hrest:∀(b1 b2:Nat) (v:AV) (κ:Store),bD 27 8 (u.kids.map U.cs) v κ->(κ.keys++[b2,b1]).Nodup->
   W G Tryz.prog Y (retQ [(2,some (true,8))] λr σ'=>∃xs κ σ1,r= .agg xs/\FrzL κ xs u.cs/\σ'=κ++σ1/\σ1=[]) [(1,.sc (.pointer (some ⟨b1,0,none⟩))),(2,.sc (.pointer (some ⟨b2,0,none⟩)))] ((b1,.cells 27 (U.csv u v))::(b2,.cells 27 zU)::κ) ⟨⟩:=by
  intro b1 b2 v κ ho hnd
  subst hY
  have hv:=ho
  obtain⟨base,cap,rfl,hv⟩:=hv
  rw[length_map]at ho
  have q1:¬b1=b2:=by
   have:=(nodup_append.1 hnd).2.1
   simp at this
   exact λe=>this e.symm
  have q2:¬b2=b1:=λe=>q1 e.symm
  rcases hv with⟨h1,h2,h3⟩|⟨bk,pad,rfl,rfl,g1,g2,g3,g4⟩
  ·have hk0:u.kids=[]:=map_eq_nil_iff.1 h1
   subst h3
   simp only[hk0,map_nil,length_nil]at ho ⊢
   unfold U.csv
   (repeat' (first|(with_reducible (refine ab (λh=>?_) (λh=>?_))<;>(try simp only[Da,Db,Dc,Dw,De,Df,Dg,Dh]at h))|simp only[EVz,seval,↓reduceIte,EV6,EV7,q1,q2,U.csv,hx.yes,hx.le0,hx.lt',hx.get,hx.row,hw]|simp only[EVz,seval,↓reduceIte,EV6,EV7,q1,q2,U.csv,hn]|simp only[EVz,seval,↓reduceIte,EV6,EV7,q1,q2,U.csv]|(refine ay ([]:List U) (λi' r (c:Unit)=>True) (λi' c=>[(1,.sc (.pointer (some ⟨b1,0,none⟩))),(2,.sc (.pointer (some ⟨b2,0,none⟩))),(18,.sc (.slice base 0 cap)),(19,.int .i64 (0:Nat)),(20,.int .i64 i')]) (λi' c=>[(b1,.cells 27 (U.csv u (.sc (.slice base 0 cap)))),(b2,.cells 27 zU)]) () trivial (Weak.rfl' _ _) (by simp) (λi' x r c hok hx hw=>?_) (λc hok hn=>?_))|(exfalso;omega)|fail))
   all_goals try exact absurd hx.mem (by simp)
   all_goals exact RET.mk' (SubN.nil _) ⟨_,[],[],rfl,U.csv_frz (x:=u) (by rw[hk0];exact ho),rfl,rfl⟩
  ·rw[length_map]at g1
   simp[Store.keys]at hnd
   have q3:¬b1=bk:=by omega
   have q4:¬b2=bk:=by omega
   have q3':¬bk=b1:=λe=>q3 e.symm
   have q4':¬bk=b2:=λe=>q4 e.symm
   (repeat' (first|simp only[EVz,seval,↓reduceIte,EV6,EV7,q1,q2,U.csv,length_map,hx.yes,hx.le0,hx.lt',hx.get,hx.row,hw]|simp only[EVz,seval,↓reduceIte,EV6,EV7,q1,q2,U.csv,length_map,hn]|simp only[EVz,seval,↓reduceIte,EV6,EV7,q1,q2,U.csv,length_map]|(refine ay u.kids (λi' r (c:Unit)=>True) (λi' c=>[(1,.sc (.pointer (some ⟨b1,0,none⟩))),(2,.sc (.pointer (some ⟨b2,0,none⟩))),(18,.sc (.slice (some ⟨bk,0,none⟩) u.kids.length cap)),(19,.int .i64 u.kids.length),(20,.int .i64 i')]) (λi' c=>[(b1,.cells 27 (U.csv u (.sc (.slice (some ⟨bk,0,none⟩) u.kids.length cap)))),(b2,.cells 27 zU),(bk,.cells 27 ((u.kids.map U.cs).flatten++pad))]) () trivial (Weak.rfl' _ _) (by omega) (λi' x r c hok hx hw=>?_) (λc hok hn=>?_))|fail))
   ·have hil:=hx.lt
    have hxg:u.kids[i']? =some x:=by rw[getElem?_eq_getElem hil,←hx.get x];simp[hil]
    have hgk:(u.kids.map U.cs)[i']? =some x.cs:=by rw[getElem?_map,hxg];rfl
    have hgt:(((u.kids.map U.cs).flatten++pad).drop (0+i'*8)).take 8=x.cs:=by simpa using jI (pad:=pad) g3 hgk
    have hle8:8<=(((u.kids.map U.cs).flatten++pad).drop (0+i'*8)).length:=by
     rw[length_drop,g4];omega
    have hle9:0+i'*8+8<=((u.kids.map U.cs).flatten++pad).length:=by
     rw[g4];omega
    have hsx:u.kids.set i' x=u.kids:=by
     apply ext_getElem?
     intro j
     rw[getElem?_set]
     split
     ·rename_i e;subst e;exact hxg.symm
     ·rfl
    have hset:aH ((u.kids.map U.cs).flatten++pad) (0+i'*8) x.cs=(u.kids.map U.cs).flatten++pad:=by
     have:=iK (pad:=pad) (c:=x.cs) g3 (i:=i') (by rw[length_map];exact hil) (U.cs_len _)
     rw[←map_set,hsx]at this
     simpa using this
    have hih:=ih x hx.mem (hs.kid hx.mem)
    have hxl:=U.cs_len x
    (repeat' (first|(with_reducible refine AI (by omega) ?_)|(with_reducible refine aa hih ?_)|simp only[EVz,seval,↓reduceIte,EV6,EV7,hx.yes,hx.le0,hx.lt',hx.get,hw,hgt,hset,q1,q2,q3,q4,q3',q4',hxl,hne]|simp only[EVz,seval,↓reduceIte,EV6,EV7,hx.yes,hx.le0,hx.lt',hx.get,hw,hgt,hset,q1,q2,q3,q4,q3',q4',hxl]|(with_reducible intro blk hblk;(try(have hnx:=hblk;simp only[EVK]at hnx;(have hne:=hnx))))|(with_reducible refine ae ?_ ?_)|(with_reducible refine af ?_)|fail))
    all_goals exact ap hx () trivial (Weak.sub (SubN.tail (SubN.refl _) _))
   ·(repeat' ((exfalso;omega)))
    all_goals exact RET.mk' (σ':=[(bk,_)]) (SubN.tail (SubN.tail (SubN.refl _) _) _) ⟨_,[(bk,_)],[],rfl,U.csv_frz (x:=u) ho,by simp,rfl⟩
 clear hY
 (repeat' (first|(with_reducible first|refine aa hCh ?_|refine aa hCw ?_)|simp only[EVz,seval,↓reduceIte,EV6,EV7,U.cs_eq u,hne]|simp only[EVz,seval,↓reduceIte,EV6,EV7,U.cs_eq u]|(with_reducible intro blk hblk;(try(have hnx:=hblk;simp only[EVK]at hnx;first|(have hne:=AI hnx hne)|(have hne:=hnx))))|(with_reducible refine ae ?_ ?_)|(with_reducible refine af ?_)|(refine aT [] ((_,_)::(_,_)::[]) hCl.v (ax.rfl' _) (SubN.refl _) (λv κ ho hnd=>⟨_,SubN.pull2',?_⟩);have hv:=ho;obtain⟨base,cap,rfl,_⟩:=hv)|fail))
 all_goals(rw[length_map]at ho;exact hrest _ _ _ _ ho (by simpa[Store.keys]using hnd))
end
end Go.Av
