/-
  UNDO, walks 3: a unit changed in a copy of the tree.
-/
import Derived.Test.YtnoakpkjccigoaaGreatDoorXM25toXV2
import Derived.Test.YtnoakpkjccigoaaGreatDoorXM18toXM13
import Derived.Test.YtnoakpkjccigoaaGreatDoorXM15toXM17
namespace Go.Av
open Go Go.RowKit Go.Proofs List
set_option linter.unusedSimpArgs false
set_option linter.unusedVariables false
theorem SubN.pullL {l κ σ:Store}:SubN (l++(κ++σ)) (κ++(l++σ)):=SubN.perm (by
 rw[←append_assoc,←append_assoc]
 exact List.Perm.append_right σ perm_append_comm)
theorem SubN.pull4 {a b c d:Nat×AObj} {κ σ:Store}:SubN (a::b::c::d::(κ++σ)) (κ++a::b::c::d::σ):=SubN.pullL (l:=[a,b,c,d])
def jx (j:Idd) (us:List U):Bool:=decide (j∈U.idss us)
theorem ids_kid {j:Idd} {u:U} (h:u.id≠j):hasP j u=jx j u.kids:=by
 unfold hasP jx
 rw[U.ids_eq]
 simp[mem_cons,Ne.symm h]
theorem oF (j:Idd) (k:U) (us:List U):jx j (k::us)=(hasP j k||jx j us):=by
 unfold jx hasP
 rw[U.idss_cons,Bool.eq_iff_iff]
 simp
theorem nd_kid:∀{us:List U},(U.idss us).Nodup->∀{x:U},x∈us->x.ids.Nodup
 |[],_,x,hx=>by cases hx
 |y::us,h,x,hx=>by
  rw[U.idss_cons,nodup_append]at h
  rcases mem_cons.1 hx with rfl|hx
  ·exact h.1
  ·exact nd_kid h.2.1 hx
section
variable (G:Glob)
set_option maxHeartbeats 8000000 in
theorem f211 (f:Value) (g:U->U) (σ:Store) (i:Idd):∀(u:U),u.Short->u.ids.Nodup->(i∈u.ids->iV G f g σ (fnd i u))->
  ag G Tryz.prog 211 [.agg u.cs,.agg i.cs,.sc f] σ (λr σ'=>r= .tup [.agg (if i∈u.ids then U.wth i g u else u).cs,.bool (hasP i u)]/\σ'=σ):=by
 refine U.ind λu ih hs hn hD=>?_
 have hkl:=hs.1.kids
 have hCl:=f203 G (u.kids.map U.cs) (dZ _) (by rw[length_map];omega)
 by_cases h0:u.id=i
 ·have e0:decide (u.id=i)=true:=decide_eq_true h0
  have hfu:fnd i u=u:=aB (by rw[aN h0];rfl)
  have hi:i∈u.ids:=h0 ▸ cR u
  have hD:=hD hi
  rw[hfu]at hD
  unfold iV at hD
  rw[if_pos hi,bA h0,hasP,decide_eq_true hi]
  refine ag.w c211 ?_
  unfold s211 r211
  rw[U.cs_eq u]at hD ⊢
  (repeat' (first|simp only[EVz,seval,↓reduceIte,EV6,EV7,idd_eq,e0,hne]|simp only[EVz,seval,↓reduceIte,EV6,EV7,idd_eq,e0]|(with_reducible intro blk hblk;(try(have hnx:=hblk;simp only[EVK]at hnx;(have hne:=hnx))))|(refine ce hD (SubN.tail (SubN.tail (SubN.refl _) _) _) ?_)|fail))
  all_goals exact RET.keep rfl (SubN.tail (SubN.tail (SubN.refl _) _) _)
 ·have e0:decide (u.id=i)=false:=decide_eq_false h0
  have hnk:=(U.nd_kids hn).1
  have hhp:=ids_kid (j:=i) h0
  refine ag.freezeKT (R1:=λσ'=>σ'=σ) rfl ?_
  refine ag.w c211 ?_
  unfold s211 r211
  have hU:=U.cs_eq u
  obtain⟨ys,hys⟩:∃ys,(if i∈u.ids then U.wth i g u else u).cs=ys:=⟨_,rfl⟩
  rw[hys]
  obtain⟨hb,hhb⟩:∃b,hasP i u=b:=⟨_,rfl⟩
  rw[hhb]
  rw[hU]
  (repeat' (first|simp only[EVz,seval,↓reduceIte,EV6,EV7,idd_eq,e0,hne]|simp only[EVz,seval,↓reduceIte,EV6,EV7,idd_eq,e0]|(with_reducible intro blk hblk;(try(have hnx:=hblk;simp only[EVK]at hnx;(have hne:=hnx))))|fail))
  rename_i b3 hb3
  refine ay u.kids (λi' r (c:Unit)=>hb=jx i r) (λi' c=>[(2,.sc f),(3,.sc (.pointer (some ⟨b3,0,none⟩))),(4,.ref i.cs),(6,.sc (.pointer (some ⟨blk,0,none⟩))),(20,.lst 8 (u.kids.map U.cs)),(21,.int .i64 u.kids.length),(22,.int .i64 i')]) (λi' c=>[(blk,.cells 27 zU),(b3,.cells 27 (U.csv u (.lst 8 (u.kids.map U.cs))))]++σ) () (hhb ▸ hhp) (Weak.rfl' _ _) (by omega) (λi' x r c hok hx hw=>?_) (λc hok hn=>?_)
  ·have hil:=hx.lt
   have hxg:u.kids[i']? =some x:=by rw[getElem?_eq_getElem hil,←hx.get x];simp[hil]
   have hxs:=hs.kid hx.mem
   rw[oF]at hok
   have hne0:u.kids≠[]:=λe=>by rw[e]at hil;cases hil
   have hq1:¬b3=blk:=λe=>hne.1 e.symm
   generalize hbe:blk=b6 at*
   clear hnx
   cases hp:hasP i x with
   |true=>
    have hxi:i∈x.ids:=of_decide_eq_true hp
    have hui:i∈u.ids:=by rw[U.ids_eq];exact mem_cons_of_mem _ (de hx.mem hxi)
    have heq:u.kids=u.kids.take i'++x::u.kids.drop (i'+1):=by
     have h3:u.kids.drop i'=x::u.kids.drop (i'+1):=by
      rw[drop_eq_getElem_cons hil]
      congr 1
      rw[getElem?_eq_getElem hil]at hxg
      exact Option.some.inj hxg
     rw[←h3,take_append_drop]
    have sp:=nA heq hnk hxi
    have hfx:=lJ h0 sp
    clear heq
    have hih:=ih x hx.mem hxs sp.nd (λ_=>by rw[←hfx];exact hD hui)
    have hwu:=sp.wth (f:=g) h0
    rw[hp]at hok
    have hks:u.kids.take i'++U.wth i g x::u.kids.drop (i'+1)=u.kids.set i' (U.wth i g x):=by
     rw[set_eq_take_append_cons_drop,if_pos hil]
    rw[hks]at hwu
    rw[if_pos hui]at hys
    rw[if_pos hxi,hp]at hih
    simp only[Idd.cs]at hih
    have hXl:=U.cs_len (U.wth i g x)
    have hxl:=U.cs_len x
    (repeat' (first|simp only[EVz,seval,↓reduceIte,EV6,EV7,hx.yes,hx.le0,hx.lt',hx.get,hx.row,hw,hq1,hXl,hxl,U.csv,hne]|(with_reducible intro blk hblk;(try(have hnx:=hblk;simp only[EVK]at hnx;(have hne:=AI hnx hne))))|(refine ce hih.v (SubN.tail (SubN.tail (SubN.tail (SubN.refl _) _) _) _) ?_)|fail))
    rename_i b9 _ _ _
    refine aT [] ((blk,_)::(b9,_)::(b6,_)::(b3,_)::σ) hCl.v (ax.rfl' _) (SubN.refl _) (λv κ ho hnd=>⟨_,SubN.pull4,?_⟩)
    have hv:=ho
    obtain⟨base,cap,rfl,hv⟩:=hv
    rw[length_map]at ho
    obtain⟨bk,pad,rfl,rfl,g1,g2,g3,g4⟩:=hv.resolve_left (λh=>hne0 (map_eq_nil_iff.1 h.1))
    simp[Store.keys]at hnd
    have n1:¬bk=blk:=by omega
    have n2:¬bk=b9:=by omega
    have n3:¬bk=b6:=by omega
    have n4:¬bk=b3:=by omega
    have n1':¬blk=bk:=λe=>n1 e.symm
    have n2':¬b9=bk:=λe=>n2 e.symm
    have n3':¬b6=bk:=λe=>n3 e.symm
    have n4':¬b3=bk:=λe=>n4 e.symm
    rw[length_map]at g1
    have hset:aH ((u.kids.map U.cs).flatten++pad) (0+i'*8) (U.wth i g x).cs=((u.kids.set i' (U.wth i g x)).map U.cs).flatten++pad:=by
     rw[map_set]
     simpa using iK (pad:=pad) g3 (by rw[length_map];exact hil) (U.cs_len _)
    have hle9:0+i'*8+8<=((u.kids.map U.cs).flatten++pad).length:=by
     rw[g4];omega
    (repeat' (first|(with_reducible refine AI (by omega) ?_)|simp only[EVz,seval,↓reduceIte,EV6,EV7,hx.le0,hx.lt',hq1,hXl,hset,n1,n2,n3,n4,n1',n2',n3',n4',hne]|fail))
    rw[Bool.true_or]at hok
    subst hok
    refine RET.mk' (σ':=[(bk,_)]++σ) (SubN.tail (SubN.tail (SubN.tail (SubN.tail (SubN.refl _) _) _) _) _) ⟨_,[(bk,_)],σ,rfl,?_,rfl,rfl⟩
    rw[←hys,hwu]
    refine U.csv_frz (x:={u with kids:=u.kids.set i' (U.wth i g x)}) (bD.mk (by rw[length_map,length_set]) (by rw[length_map,length_set];exact g1) g2 (dZ _) ?_)
    rw[←g4,length_append,length_append,au _ (dZ _),au _ (dZ _),length_map,length_map,length_set]
   |false=>
    rw[hp]at hok
    have hni:i∉x.ids:=of_decide_eq_false hp
    have hih:=ih x hx.mem hxs (nd_kid hnk hx.mem) (λh=>absurd h hni)
    rw[if_neg hni,hp]at hih
    simp only[Idd.cs]at hih
    have hxl:=U.cs_len x
    (repeat' (first|simp only[EVz,seval,↓reduceIte,EV6,EV7,hx.yes,hx.le0,hx.lt',hx.get,hx.row,hw,hq1,hxl,U.csv,hne]|(with_reducible intro blk hblk;(try(have hnx:=hblk;simp only[EVK]at hnx;(have hne:=AI hnx hne))))|(refine ce hih.v (SubN.tail (SubN.tail (SubN.tail (SubN.refl _) _) _) _) ?_)|fail))
    all_goals exact ap hx () (by rw[hok,Bool.false_or]) (Weak.sub (SubN.tail (SubN.tail (SubN.refl _) _) _))
  ·have hni:i∉u.ids:=by
    intro h
    have:hb=true:=by rw[←hhb];exact decide_eq_true h
    rw[hok]at this
    simp[jx,U.idss_nil]at this
   rw[if_neg hni]at hys
   have hbf:hb=false:=by rw[hok];simp[jx,U.idss_nil]
   subst hbf
   (repeat' (simp only[EVz,seval,↓reduceIte,EV6,EV7,hn,U.csv,hne]))
   refine RET.mk' (σ':=σ) (SubN.tail (SubN.tail (SubN.refl _) _) _) ⟨_,[],σ,rfl,?_,rfl,rfl⟩
   rw[←hys,hU]
   exact oh _
theorem f118 (f:Value) (g:U->U) (σ:Store) (i:Idd) (u:U) (hs:u.Short) (hn:u.ids.Nodup) (hi:i∈u.ids) (hD:iV G f g σ (fnd i u)):
  ag G Tryz.prog 118 [.agg u.cs,.agg i.cs,.sc f] σ (λr σ'=>r= .agg (U.wth i g u).cs/\σ'=σ):=by
 have hC:=f116 G u hs
 have hA:=f211 G f g σ i u hs hn (λ_=>hD)
 rw[if_pos hi,hasP,decide_eq_true hi]at hA
 simp only[Idd.cs]at hA
 have hXl:=U.cs_len (U.wth i g u)
 refine ag.w c118 ?_
 unfold s118 r118
 generalize (U.wth i g u).cs=ys at*
 have hyt:ys.take 8=ys:=take_of_length_le (by omega)
 rw[U.cs_eq u]at hC hA ⊢
 (repeat' (first|(with_reducible refine aa hC ?_)|simp only[EVz,seval,↓reduceIte,EV6,EV7,hXl,hyt,hne]|simp only[EVz,seval,↓reduceIte,EV6,EV7,hXl,hyt]|(with_reducible intro blk hblk;(try(have hnx:=hblk;simp only[EVK]at hnx;(have hne:=hnx))))|(with_reducible refine ae ?_ ?_)|(with_reducible refine af ?_)|(refine ce hA.v (by repeat(first|exact SubN.refl _|refine SubN.tail ?_ _)) ?_)|fail))
 all_goals exact RET.keep (by simp[hXl,hyt]) (by repeat(first|exact SubN.refl _|refine SubN.tail ?_ _))
end
theorem j2 (w:List Wd) (fresh:List (List UInt8)) (a b:Int) (gone:Nat):∀(ps:List Nat) (s:Nat) (m:Int),Gaps w.length gone s ps->s<=w.length->(putL w fresh a b gone ps m).length<=w.length+ps.length*fresh.length/\∀p r,ps=p::r->p+gone<=(putL w fresh a b gone r (m+fresh.length)).length
 |[],s,m,_,_=>by rw[putL];simp
 |p::ps,s,m,⟨h1,h2,h3⟩,hs=>by
  have ih:=j2 w fresh a b gone ps (p+gone) (m+fresh.length) h3 (by omega)
  have e:=i6 w fresh a b gone ps (p+gone) (m+fresh.length) h3
  have hge:p+gone<=(putL w fresh a b gone ps (m+fresh.length)).length:=by
   rw[e,length_append,length_take];omega
  refine⟨?_,?_⟩
  ·rw[putL,length_append,length_append,length_take,length_drop,cH,length_cons,Nat.add_mul]
   have:=ih.1
   omega
  ·rintro q r hq
   injection hq with hq1 hq2
   subst hq1 hq2
   exact hge
theorem jc {n g:Nat}:∀{ps:List Nat} {s:Nat} (j:Nat),s<=n->Gaps n g s ps->∃s',s'<=n/\Gaps n g s' (ps.drop j)
 |[],s,j,hs,_=>⟨s,hs,by rw[drop_nil];trivial⟩
 |p::ps,s,0,hs,h=>⟨s,hs,h⟩
 |p::ps,s,j+1,hs,⟨h1,h2,h3⟩=>jc (ps:=ps) j h2 h3
def lW (q:List Wd):AV:=if 256<q.length then .tup [.nil,.int .i64 6]else .tup [.lst 4 (q.map Wd.cs),.int .i64 0]
section
variable (G:Glob)
set_option maxHeartbeats 2000000 in
theorem f246 (w:List Wd) (ps:List Nat) (gone:Nat) (fresh:List (List UInt8)) (a b:Int) (hw:w.length<=100000) (hps:ps.length<=100000) (hfr:fresh.length<=1000) (hgp:gone<=100000) (hG:Gaps w.length gone 0 ps):
  Pure G Tryz.prog 246 [.lst 4 (w.map Wd.cs),.lst 1 (ps.map prow),.int .i64 gone,.lst 1 (fresh.map srow),.int .i64 a,.int .i64 b] (lW (putL w fresh a b gone ps 0)):=by
 refine ag.freezeT ?_
 refine ag.w c246 ?_
 unfold s246 r246
 have hfit:0+w.length*4<=(List.replicate w.length [AV.str [],.int .i64 0,.int .i64 0,.int .i64 0]).flatten.length:=by rw[cb];simp
 have hfl:(w.map Wd.cs).flatten.length=w.length*4:=by rw[au _ (iQ _),length_map]
 have hspl:aH (List.replicate w.length [AV.str [],.int .i64 0,.int .i64 0,.int .i64 0]).flatten 0 ((w.map Wd.cs).take w.length).flatten=(w.map Wd.cs).flatten:=by
  rw[take_of_length_le (by simp),aY _ _ _ (by rw[hfl];exact hfit),drop_eq_nil_of_le (by rw[hfl,cb];simp)]
  simp
 have wn:IntKind.i64.wrap ((ps.length:Int)-1)=(ps.length:Int)-1:=aA (by omega) (by omega)
 (repeat' (first|simp only[EVz,seval,↓reduceIte,EV6,EV7,wn,hne]|simp only[EVz,seval,↓reduceIte,EV6,EV7,wn]|(with_reducible intro blk hblk;(try(have hnx:=hblk;simp only[EVK]at hnx;(have hne:=hnx))))|(refine iA (elem:=33) (c:=w.length) (sz:=4) (bytes:=40) (zr:=[.str [],.int .i64 0,.int .i64 0,.int .i64 0]) (z:=.agg #[.string .empty,.int .i64 0,.int .i64 0,.int .i64 0]) rfl (by kernel_rfl) (by kernel_rfl) rfl (by omega) (by decide) (by intro τ w;simp[RepL,Rep,Value.cells];rfl) (by omega) (by omega) ?_)|(refine lM (elem:=33) (sz:=4) (ys:=w.map Wd.cs) w.length (w.map Wd.cs).flatten (by kernel_rfl) (by kernel_rfl) rfl (if_pos rfl) (.inl ⟨rfl,rfl⟩) (by simp) hfit hspl ?_)|fail))
 clear hfit hspl
 obtain⟨L,hL⟩:∃L:Nat->List Wd,L=λj=>putL w fresh a b gone (ps.drop j) ((j*fresh.length:Nat):Int):=⟨_,rfl⟩
 have hLn:L ps.length=w:=by rw[hL];simp only[drop_length];rw[putL]
 have hL0:L 0=putL w fresh a b gone ps 0:=by rw[hL];simp
 have hLl:∀j,(L j).length<=100100000:=λj=>by
  obtain⟨s',hs',hg⟩:=jc (g:=gone) j (Nat.zero_le _) hG
  have:=(j2 w fresh a b gone (ps.drop j) s' ((j*fresh.length:Nat):Int) hg hs').1
  have h2:(ps.drop j).length*fresh.length<=100000*1000:=Nat.mul_le_mul (by rw[length_drop];omega) hfr
  rw[hL]
  simp only
  omega
 have hLs:∀i p,ps[i]? =some p->L i=(L (i+1)).take p++(aX a b fresh ((i*fresh.length:Nat):Int)++(L (i+1)).drop (p+gone))/\p+gone<=(L (i+1)).length:=λi p hp=>by
  obtain⟨hi,hp⟩:=List.getElem?_eq_some_iff.1 hp
  have hd:ps.drop i=p::ps.drop (i+1):=by rw[drop_eq_getElem_cons hi,hp]
  obtain⟨s',hs',hg⟩:=jc (g:=gone) i (Nat.zero_le _) hG
  have h1:=(j2 w fresh a b gone (ps.drop i) s' ((i*fresh.length:Nat):Int) hg hs').2 p _ hd
  have hm:((i*fresh.length:Nat):Int)+fresh.length=(((i+1)*fresh.length:Nat):Int):=by rw[Nat.add_mul];omega
  rw[hm]at h1
  rw[hL]
  simp only
  refine⟨?_,h1⟩
  rw[hd,putL,hm]
 rw[←hL0]
 refine jf (ι:=Nat×Nat×Nat×List AV) (λq=>q.1<=ps.length/\RowsAt 4 q.2.2.2 0 (L q.1).length ((L q.1).map Wd.cs)/\q.2.2.1*4<=q.2.2.2.length/\(L q.1).length<=q.2.2.1/\q.2.2.1<=maxLen) (λq=>q.1)
  (λq=>[(1,.lst 1 (ps.map prow)),(2,.int .i64 gone),(3,.lst 1 (fresh.map srow)),(4,.int .i64 a),(5,.int .i64 b),(14,.sc (.slice (some ⟨q.2.1,0,none⟩) (L q.1).length q.2.2.1)),(15,.int .i64 ((q.1:Int)-1))])
  (λq=>[(q.2.1,.cells 33 q.2.2.2)]) (ps.length,blk,w.length,(w.map Wd.cs).flatten) ⟨Nat.le_refl _,?_,?_,?_,?_⟩ (by simp only[hLn];exact Weak.rfl' _ _) ?_
 ·simp only[hLn]
  have:=RowsAt.all (sz:=4) (rows:=w.map Wd.cs) (pad:=[]) (iQ _) (n:=w.length) (by simp)
  simpa using this
 ·simp only[hfl];exact Nat.le_refl _
 ·simp only[hLn];exact Nat.le_refl _
 ·simp only;unfold maxLen;omega
 clear hne
 rintro⟨j,b1,cap,cs⟩ ⟨hj,hR,hcap,hle,hcm⟩
 simp only at hj hR hcap hle hcm ⊢
 cases j with
 |zero=>
  have e0:decide ((0:Int)<=((0:Nat):Int)-1)=false:=by decide
  have hll:=hLl 0
  (repeat' (first|(with_reducible (refine ab (λh=>?_) (λh=>?_))<;>(try simp only[Da,Db,Dc,Dw,De,Df,Dg,Dh]at h))|simp only[EVz,seval,↓reduceIte,EV6,EV7,e0]|fail))
  ·refine RET.mk' (SubN.nil _) (.inl ⟨?_,rfl⟩)
   unfold lW
   rw[if_pos (by omega)]
  ·refine RET.mk' (SubN.refl _) (.inr ⟨b1,_,_,cap,cs,4,_,_,rfl,rfl,hR,hle,hcm,?_,rfl⟩)
   unfold lW
   rw[if_neg (by omega)]
 |succ i=>
  obtain⟨p,hp⟩:∃p,ps[i]? =some p:=⟨ps[i]'(by omega),getElem?_eq_getElem (by omega)⟩
  obtain⟨hLi,hge⟩:=hLs i p hp
  have hgp0:(ps.map prow).getD i []=[AV.int .i64 (p:Int)]:=by simp[hp,prow]
  have e0:decide ((0:Int)<=(((i+1:Nat):Int))-1)=true:=decide_eq_true (by omega)
  have hi1:(((i+1:Nat):Int))-1=(i:Int):=by omega
  have hll:=hLl (i+1)
  have wg:IntKind.i64.wrap ((p:Int)+(gone:Int))=((p+gone:Nat):Int):=by rw[aA (by omega) (by omega)];omega
  have hmm:i*fresh.length<=100000*1000:=Nat.mul_le_mul (by omega) hfr
  have wm:IntKind.i64.wrap ((i:Int)*(fresh.length:Int))=((i*fresh.length:Nat):Int):=by rw[←Int.natCast_mul,aA (by omega) (by omega)]
  have w1:IntKind.i64.wrap ((i:Int)-1)=(i:Int)-1:=aA (by omega) (by omega)
  have hM:=f161 G fresh a b ((i*fresh.length:Nat):Int) (by omega) (by omega) (by omega)
  obtain⟨mk,hmk⟩:∃mk,aX a b fresh ((i*fresh.length:Nat):Int)=mk:=⟨_,rfl⟩
  have hmkl:mk.length=fresh.length:=by rw[←hmk,cH]
  rw[hmk]at hLi hM
  obtain⟨Lj,hLj⟩:∃Lj,L (i+1)=Lj:=⟨_,rfl⟩
  rw[hLj]at hLi hge hR hle hll
  simp only[hLj,hi1]at e0 ⊢
  obtain⟨o2,ho2⟩:∃o2,(if cap=p+gone then 0 else 0+(p+gone)*4)=o2:=⟨_,rfl⟩
  have hlc:Lj.length<=cap:=hle
  have ilt:(i:Int)<(ps.length:Int):=by omega
  have ho3:o2=(p+gone)*4\/p+gone=Lj.length/\o2=0:=by
   subst ho2
   split
   ·exact .inr ⟨by omega,rfl⟩
   ·exact .inl (by omega)
  obtain⟨A,hA⟩:∃A,(Lj.map Wd.cs).take p=A:=⟨_,rfl⟩
  obtain⟨B,hB⟩:∃B,(Lj.map Wd.cs).drop (p+gone)=B:=⟨_,rfl⟩
  have hRA:=hR.pre (l:=p) (by omega)
  have hRB:=hR.suf hge ho3
  rw[hA]at hRA
  rw[hB]at hRB
  have hBl:B.length<=100100000:=by rw[←hB,length_drop,length_map];omega
  have hBr:=hRB.row
  have hmap:(L i).map Wd.cs=A++(mk.map Wd.cs++B):=by rw[hLi,map_append,map_append,map_take,map_drop,hA,hB]
  have hAl:A.length=p:=hRA.len
  have hlen:(L i).length=p+(mk.length+B.length):=by
   have:=congrArg List.length hmap
   rw[length_map,length_append,length_append,length_map,hAl]at this
   exact this
  obtain⟨z0,hz0,hz1⟩:∃z0,cK Tryz.prog 33=some z0/\z0.length=4:=⟨[.str [],.int .i64 0,.int .i64 0,.int .i64 0],by kernel_rfl,rfl⟩
  rcases Classical.em (mk=[])with hm0|hm0
  ·subst hm0
   simp only[map_nil,nil_append,length_nil,Nat.zero_add]at hmap hlen hM
   (repeat' (first|(with_reducible refine AI (by omega) ?_)|(with_reducible refine aa hM ?_)|simp only[EVz,seval,↓reduceIte,EV6,EV7,e0,hgp0,wg,wm,w1]|(with_reducible refine ae ?_ ?_)|(with_reducible refine af ?_)|(refine aW (e:=33) (sz:=4) (l:=p+gone) (h:=Lj.length) (m:=cap) o2 (Lj.length-(p+gone)) (cap-(p+gone)) (by kernel_rfl) (by kernel_rfl) rfl ⟨_,rfl⟩ rfl rfl (λh=>by cases h) hge hle (Nat.le_refl _) ho2 rfl rfl ?_)|(refine aW (e:=33) (sz:=4) (l:=0) (h:=p) (m:=p) 0 p p (by kernel_rfl) (by kernel_rfl) rfl rfl ⟨_,rfl⟩ ⟨_,rfl⟩ (λ_=>rfl) (by omega) (by omega) (by omega) (by split<;>rfl) rfl rfl ?_)|(refine nz (e:=33) (e':=33) (sz:=4) (bytes:=40) (b:=b1) (n:=p) (cap:=p) (rows:=A) (cs:=cs) (z:=z0) (by kernel_rfl) (by kernel_rfl) (by kernel_rfl) hz0 hz1 (by decide) (by decide) rfl (if_pos rfl) hRA (by omega) (Nat.le_refl _) (.inl ⟨rfl,rfl⟩) (by omega) ?_)|(refine js (e:=33) (e':=33) (sz:=4) (bytes:=40) (b:=b1) (n:=p) (cap:=p) (rows:=A) (ys:=B) (cs:=cs) (z:=z0) (by kernel_rfl) (by kernel_rfl) (by kernel_rfl) hz0 hz1 (by decide) (by decide) rfl (if_pos rfl) hRA (by omega) (by omega) (.inr ⟨b1,o2,_,_,33,cs,rfl,if_pos rfl,hRB⟩) hBr (by omega) (λb' cap' cs' σ' g1 g2 g3 g4 g5=>?_))|fail))
   all_goals
    refine⟨(i,b',cap',cs'),⟨by simp only;omega,?_,g2,?_,g4⟩,Nat.lt_succ_self i,?_⟩
    ·simp only[hmap,hlen];exact g1
    ·simp only[hlen];exact g3
    ·simp only[hlen]
     refine Weak.sub ?_
     rcases g5 with⟨rfl,rfl⟩|⟨_,rfl⟩
     ·simp only[Store.set,if_true]
      exact SubN.refl _
     ·exact SubN.cons (SubN.nil _) _
  ·obtain⟨M,hMM⟩:∃M,mk.map Wd.cs=M:=⟨_,rfl⟩
   have hMl:M.length=mk.length:=by rw[←hMM,length_map]
   have hm1:1<=mk.length:=length_pos_iff.2 hm0
   have hm2:mk.length<=1000:=by omega
   rw[hMM]at hM hmap
   (repeat' (first|(with_reducible refine AI (by omega) ?_)|(with_reducible refine aa hM ?_)|simp only[EVz,seval,↓reduceIte,EV6,EV7,e0,hgp0,wg,wm,w1]|(with_reducible refine ae ?_ ?_)|(with_reducible refine af ?_)|(refine aW (e:=33) (sz:=4) (l:=p+gone) (h:=Lj.length) (m:=cap) o2 (Lj.length-(p+gone)) (cap-(p+gone)) (by kernel_rfl) (by kernel_rfl) rfl ⟨_,rfl⟩ rfl rfl (λh=>by cases h) hge hle (Nat.le_refl _) ho2 rfl rfl ?_)|(refine aW (e:=33) (sz:=4) (l:=0) (h:=p) (m:=p) 0 p p (by kernel_rfl) (by kernel_rfl) rfl rfl ⟨_,rfl⟩ ⟨_,rfl⟩ (λ_=>rfl) (by omega) (by omega) (by omega) (by split<;>rfl) rfl rfl ?_)|(refine eL (e:=33) (e':=33) (sz:=4) (bytes:=40) (b:=b1) (o:=0) (n:=p) (cap:=p) (rows:=A) (ys:=M) (cs:=cs) (z:=z0) (by kernel_rfl) (by kernel_rfl) (by kernel_rfl) hz0 hz1 (by decide) (by decide) rfl (if_pos rfl) hRA (by omega) (.inl ⟨rfl,rfl⟩) (by omega) (λh=>by omega) (λ_ b2 cap2 pad2 f0 f1 f2 f3 f4=>?_))|(refine js (e:=33) (e':=33) (sz:=4) (bytes:=40) (b:=b2) (n:=p+M.length) (cap:=cap2) (rows:=A++M) (ys:=B) (cs:=(A++M).flatten++pad2) (z:=z0) (by kernel_rfl) (by kernel_rfl) (by kernel_rfl) hz0 hz1 (by decide) (by decide) rfl (if_pos rfl) (RowsAt.all f3 (by rw[length_append,hAl])) (by rw[f4];exact Nat.le_refl _) f2 (.inr ⟨b1,o2,_,_,33,cs,rfl,(if_neg (by simpa[Store.keys]using f0)).trans (if_pos rfl),hRB⟩) hBr (by omega) (λb' cap' cs' σ' g1 g2 g3 g4 g5=>?_))|fail))
   all_goals
    have hsum:p+(mk.length+B.length)=p+M.length+B.length:=by omega
    rw[append_assoc]at g1
    refine⟨(i,b',cap',cs'),⟨by simp only;omega,?_,g2,?_,g4⟩,Nat.lt_succ_self i,?_⟩
    ·simp only[hmap,hlen,hsum];exact g1
    ·simp only[hlen,hsum];exact g3
    ·simp only[hlen,hsum]
     refine Weak.sub ?_
     rcases g5 with⟨rfl,rfl⟩|⟨_,rfl⟩
     ·simp only[Store.set,if_true]
      exact SubN.cons (SubN.nil _) _
     ·exact SubN.cons (SubN.nil _) _
end
theorem nv (w:List Wd) (fresh:List (List UInt8)) (a b:Int) (gone:Nat) (ps:List Nat) (h:Gaps w.length gone 0 ps):putL w fresh a b gone ps 0=fJ w fresh a b gone 0 ps 0:=by
 rw[i6 w fresh a b gone ps 0 0 h];simp
theorem editE_two (w:List Wd) (x:Itm) (a b:Int) (hk:x.kind=2) (ho:x.old≠[]):bJ w x a b=if cF (occs w x.old) x.nth=[]then ([],4)else if 256<(putL w x.new a b x.old.length (cF (occs w x.old) x.nth) 0).length then ([],6)else (putL w x.new a b x.old.length (cF (occs w x.old) x.nth) 0,0):=by
 unfold bJ
 rw[if_neg (by rintro⟨h,_⟩;omega),if_neg (show ¬x.kind=3 by omega),nv _ _ _ _ _ _ (eD (gM ho))]
theorem nn (w:List Wd) (x:Itm) (a b:Int) (hk:x.kind=3) (ho:x.old≠[]):bJ w x a b=if cF (occs w x.old) x.nth=[]then ([],4)else if 256<(putL w x.new a b 0 ((cF (occs w x.old) x.nth).map (· +x.old.length)) 0).length then ([],6)else (putL w x.new a b 0 ((cF (occs w x.old) x.nth).map (· +x.old.length)) 0,0):=by
 unfold bJ
 rw[if_neg (by rintro⟨_,h⟩;exact ho h),if_pos hk,nv _ _ _ _ _ _ (ie (eD (gM ho)))]
theorem ox (w:List Wd) (x:Itm) (a b:Int) (hk:x.kind=3) (ho:x.old=[]):bJ w x a b=if 256<(putL w x.new a b 0 [0] 0).length then ([],6)else (putL w x.new a b 0 [0] 0,0):=by
 unfold bJ
 have e:putL w x.new a b 0 [0] 0=aX a b x.new 0++w:=by rw[putL,putL];simp
 rw[if_pos ⟨hk,ho⟩,e]
section
variable (G:Glob)
theorem f157 (w:List Wd) (x:Itm) (a b:Int) (hw:w.length<=256) (hk:x.kind=2) (ho:x.old≠[]) (hol:x.old.length<=256) (hnl:x.new.length<=256) (hn:0<=x.nth/\x.nth<=256):
  Pure G Tryz.prog 157 [.lst 4 (w.map Wd.cs),.lst 1 (x.old.map srow),.lst 1 (x.new.map srow),.int .i64 x.nth,.int .i64 a,.int .i64 b] (iX (bJ w x a b)):=by
 have hP:=f245 G w x.old x.nth (by omega) (by omega) ho hn.1 (by omega)
 have hg:=eD (nth:=x.nth) (gM (w:=w) ho)
 have hol0:1<=x.old.length:=length_pos_iff.2 ho
 have hcl:=iu hol0 (Nat.zero_le _) hg
 rw[editE_two w x a b hk ho]
 obtain⟨ps,hps⟩:∃ps,cF (occs w x.old) x.nth=ps:=⟨_,rfl⟩
 rw[hps]at hP hg hcl ⊢
 have hU:=f246 G w ps x.old.length x.new a b (by omega) (by omega) (by omega) (by omega) hg
 have e1:decide ((x.old.length:Int)=0)=false:=decide_eq_false (by omega)
 have e2:decide (x.nth<0)=false:=decide_eq_false (by omega)
 refine Pure.w c157 λR hR=>?_
 unfold s157 r157
 unfold iX at hR
 rcases Classical.em (ps=[])with h0|h0
 ·subst h0
  rw[if_pos rfl]at hR
  simp only[map_nil]at hP
  (repeat' (first|(with_reducible refine aa hP ?_)|simp only[EVz,seval,↓reduceIte,EV6,EV7,e1,e2]|fail))
  all_goals exact hR _ _ (Or.inr ⟨.inr rfl,.inl rfl,trivial⟩)
 ·rw[if_neg h0]at hR
  have h1:1<=ps.length:=length_pos_iff.2 h0
  have e3:decide ((ps.length:Int)=0)=false:=decide_eq_false (by omega)
  have hpr:(ps.map λn:Nat=>[AV.int .i64 (n:Int)])=ps.map prow:=rfl
  rw[hpr]at hP
  unfold lW at hU
  generalize putL w x.new a b x.old.length ps 0=q at*
  rcases Classical.em (256<q.length)with h2|h2
  ·rw[if_pos h2]at hR hU
   (repeat' (first|(with_reducible first|refine aa hP ?_|refine aa hU ?_)|simp only[EVz,seval,↓reduceIte,EV6,EV7,e1,e2,e3]|fail))
   all_goals exact hR _ _ (Or.inr ⟨.inr rfl,.inl rfl,trivial⟩)
  ·rw[if_neg h2]at hR hU
   (repeat' (first|(with_reducible first|refine aa hP ?_|refine aa hU ?_)|simp only[EVz,seval,↓reduceIte,EV6,EV7,e1,e2,e3]|fail))
   all_goals exact hR _ _ (Or.inl (Or.inl rfl))
set_option maxHeartbeats 2000000 in
theorem f159 (w:List Wd) (x:Itm) (a b:Int) (hw:w.length<=256) (hk:x.kind=3) (hol:x.old.length<=256) (hnl:x.new.length<=256) (hn1:1<=x.new.length) (hn:0<=x.nth/\x.nth<=256) (h0n:x.old=[]->x.nth=0):
  Pure G Tryz.prog 159 [.lst 4 (w.map Wd.cs),.lst 1 (x.old.map srow),.lst 1 (x.new.map srow),.int .i64 x.nth,.int .i64 a,.int .i64 b] (iX (bJ w x a b)):=by
 have e2:decide (x.nth<0)=false:=decide_eq_false (by omega)
 have e4:decide ((x.new.length:Int)=0)=false:=decide_eq_false (by omega)
 refine Pure.w c159 λR hR=>?_
 unfold s159 r159
 unfold iX at hR
 rcases Classical.em (x.old=[])with ho|ho
 ·have hU:=f246 G w [0] 0 x.new a b (by omega) (by simp) (by omega) (by omega) ⟨Nat.le_refl _,by omega,trivial⟩
  have e5:decide (x.nth=0)=true:=decide_eq_true (h0n ho)
  have e6:decide (x.nth≠0)=false:=decide_eq_false (by rw[h0n ho];simp)
  have e7:decide ((x.old.length:Int)=0)=true:=decide_eq_true (by rw[ho];rfl)
  rw[ox w x a b hk ho]at hR
  unfold lW at hU
  generalize putL w x.new a b 0 [0] 0=q at*
  rcases Classical.em (256<q.length)with h2|h2
  ·rw[if_pos h2]at hR hU
   (repeat' (first|simp only[EVz,seval,↓reduceIte,EV6,EV7,e2,e4,e5,e6,e7,hne]|simp only[EVz,seval,↓reduceIte,EV6,EV7,e2,e4,e5,e6,e7]|(with_reducible intro blk hblk;(try(have hnx:=hblk;simp only[EVK]at hnx;(have hne:=hnx))))|(refine⟨[prow 0],rfl,(by simp[prow]),rfl,?_⟩)|(refine aE hU ⟨.inl (.inl rfl),.inl (.inr ⟨rfl,rfl⟩),.inl (.inl rfl),.inl (.inl rfl),.inl (.inl rfl),.inl (.inl rfl),trivial⟩ ?_)|fail))
   all_goals exact hR _ _ (Or.inr ⟨.inr rfl,.inl rfl,trivial⟩)
  ·rw[if_neg h2]at hR hU
   (repeat' (first|simp only[EVz,seval,↓reduceIte,EV6,EV7,e2,e4,e5,e6,e7,hne]|simp only[EVz,seval,↓reduceIte,EV6,EV7,e2,e4,e5,e6,e7]|(with_reducible intro blk hblk;(try(have hnx:=hblk;simp only[EVK]at hnx;(have hne:=hnx))))|(refine⟨[prow 0],rfl,(by simp[prow]),rfl,?_⟩)|(refine aE hU ⟨.inl (.inl rfl),.inl (.inr ⟨rfl,rfl⟩),.inl (.inl rfl),.inl (.inl rfl),.inl (.inl rfl),.inl (.inl rfl),trivial⟩ ?_)|fail))
   all_goals exact hR _ _ (Or.inl (Or.inl rfl))
 ·have hP:=f245 G w x.old x.nth (by omega) (by omega) ho hn.1 (by omega)
  have hg:=eD (nth:=x.nth) (gM (w:=w) ho)
  have hol0:1<=x.old.length:=length_pos_iff.2 ho
  have hcl:=iu hol0 (Nat.zero_le _) hg
  rw[nn w x a b hk ho]at hR
  obtain⟨ps,hps⟩:∃ps,cF (occs w x.old) x.nth=ps:=⟨_,rfl⟩
  rw[hps]at hP hg hcl hR
  have hpr:(ps.map λn:Nat=>[AV.int .i64 (n:Int)])=ps.map prow:=rfl
  rw[hpr]at hP
  have hsz:∀r∈ps.map prow,r.length=1:=by intro r hr;obtain⟨n,_,rfl⟩:=mem_map.1 hr;rfl
  have hC:=f247 G (ps.map prow) hsz (by rw[length_map];omega)
  have hU:=f246 G w (ps.map (· +x.old.length)) 0 x.new a b (by omega) (by rw[length_map];omega) (by omega) (by omega) (ie hg)
  have e7:decide ((x.old.length:Int)=0)=false:=decide_eq_false (by omega)
  rcases Classical.em (ps=[])with h0|h0
  ·subst h0
   rw[if_pos rfl]at hR
   simp only[map_nil]at hP hC
   (repeat' (first|(with_reducible refine aa hP ?_)|simp only[EVz,seval,↓reduceIte,EV6,EV7,e2,e4,e7]|(refine aZ [] _ hC.v (ax.rfl' _) (SubN.refl _) (λr1 σ1 h1=>?_))|(obtain⟨base,cap,rfl,hO⟩:=h1)|fail))
   all_goals exact hR _ _ (Or.inr ⟨.inr rfl,.inl rfl,trivial⟩)
  ·rw[if_neg h0]at hR
   have h1:1<=ps.length:=length_pos_iff.2 h0
   have e3:decide ((ps.length:Int)=0)=false:=decide_eq_false (by omega)
   have hml:(ps.map prow).length=ps.length:=length_map ..
   (repeat' (first|(with_reducible refine aa hP ?_)|simp only[EVz,seval,↓reduceIte,EV6,EV7,e2,e4,e7,e3,hml]|(refine av [] [] hC.v (ax.rfl' _) (SubN.refl _) (λr1 σ1 h1 hnd=>?_))|(obtain⟨base,cap,rfl,⟨hO,_⟩|⟨b1,pad,rfl,rfl,hle,hcm,hrl,hln⟩⟩:=h1)|fail))
   ·exfalso
    exact h0 (by simpa using hO)
   ·obtain⟨C,hCd⟩:∃C:Nat->List (List AV),C=λi=>((ps.take i).map (· +x.old.length)++ps.drop i).map prow:=⟨_,rfl⟩
    have hC0:C 0=ps.map prow:=by rw[hCd];simp
    have hCn:C ps.length=(ps.map (· +x.old.length)).map prow:=by rw[hCd];simp
    have hCr:∀i,∀r∈C i,r.length=1:=λi r hr=>by rw[hCd]at hr;obtain⟨n,_,rfl⟩:=mem_map.1 hr;rfl
    have hCl:∀i,i<=ps.length->(C i).length=ps.length:=λi hi=>by rw[hCd];simp;omega
    rw[hml]at hle
    refine ay ps (λi r (c:Unit)=>True) (λi c=>[(0,.lst 4 (w.map Wd.cs)),(1,.lst 1 (x.old.map srow)),(2,.lst 1 (x.new.map srow)),(4,.int .i64 a),(5,.int .i64 b),(14,.sc (.slice (some ⟨b1,0,none⟩) ps.length cap)),(52,.int .i64 ps.length),(53,.int .i64 i)]) (λi c=>[(b1,.cells 3 ((C i).flatten++pad))]) () trivial (by rw[hC0];exact Weak.rfl' _ _) (by omega) (λi p r c _ hx hwp=>?_) (λc _ hn2=>?_)
    ·have hi:=hx.lt
     have hgi:ps[i]? =some p:=by
      have:=hx.get p
      rw[getElem?_eq_getElem hi]
      simpa[hi]using this
     have hpg:=jY hg hgi
     have hCi:(C i)[i]? =some (prow p):=by
      rw[hCd]
      simp only[getElem?_map]
      rw[getElem?_append_right (by simp;omega)]
      simp only[length_map,length_take,Nat.min_eq_left (Nat.le_of_lt hi),Nat.sub_self,getElem?_drop,Nat.add_zero,hgi]
      rfl
     have hdr:((C i).flatten++pad).drop (0+i*1)= .int .i64 (p:Int)::((C i).flatten++pad).drop (i+1):=by
      have h2:=jI (sz:=1) (pad:=pad) (hCr i) hCi
      have h3:i<((C i).flatten++pad).length:=by rw[length_append,au _ (hCr i),hCl i (by omega)];omega
      rw[Nat.zero_add,Nat.mul_one,drop_eq_getElem_cons h3]
      rw[Nat.mul_one,drop_eq_getElem_cons h3]at h2
      simp only[take_succ_cons,take_zero,prow]at h2
      injection h2 with h2 _
      rw[h2]
     have hlf:((C i).flatten++pad).length=(ps.map prow).flatten.length+pad.length:=by rw[length_append,au _ (hCr i),au _ hsz,hCl i (by omega),hml]
     have hle1:0+i*1+1<=((C i).flatten++pad).length:=by rw[hlf,au _ hsz,hml];omega
     have wp:IntKind.i64.wrap ((p:Int)+(x.old.length:Int))=((p+x.old.length:Nat):Int):=by rw[aA (by omega) (by omega)];omega
     have hset:aH ((C i).flatten++pad) (0+i*1) [.int .i64 ((p+x.old.length:Nat):Int)]=(C (i+1)).flatten++pad:=by
      have h4:C (i+1)=(C i).set i (prow (p+x.old.length)):=by
       have h5:ps.drop i=p::ps.drop (i+1):=by
        rw[drop_eq_getElem_cons hi]
        congr 1
        rw[getElem?_eq_getElem hi]at hgi
        injection hgi
       rw[hCd]
       simp only
       rw[h5,hx.take]
       simp only[map_append,map_cons,map_nil]
       rw[set_append_right _ _ (by simp;omega)]
       have h6:i-(List.map prow ((ps.take i).map (· +x.old.length))).length=0:=by simp;omega
       rw[h6]
       simp
      rw[h4,Nat.zero_add]
      exact iK (sz:=1) (pad:=pad) (hCr i) (by rw[hCl i (by omega)];exact hi) rfl
     (repeat' (first|(with_reducible refine AI (by omega) ?_)|simp only[EVz,seval,↓reduceIte,EV6,EV7,hx.yes,hx.le0,hx.lt',hx.get,hwp,hdr,wp,hset]|(with_reducible refine af ?_)|fail))
     exact ap hx () trivial (Weak.rfl' _ _)
    ·(try simp only[EVz,seval,↓reduceIte,EV6,EV7,hn2])
     refine⟨_,_,Weak.freeze (j:=14) (rows:=C ps.length) (pad:=pad) (σ:=[]) rfl (hCr _) (hCl _ (Nat.le_refl _)).symm (by rw[hCl _ (Nat.le_refl _)];exact hle) hcm,?_⟩
     rw[hCn]
     unfold lW at hU
     generalize putL w x.new a b 0 (ps.map (· +x.old.length)) 0=q at*
     rcases Classical.em (256<q.length)with h2|h2
     ·rw[if_pos h2]at hR hU
      (repeat' (first|(with_reducible refine aa hU ?_)|simp only[EVz,seval,↓reduceIte,EV6,EV7,Env.set,Env.get]|fail))
      all_goals exact hR _ _ (Or.inr ⟨.inr rfl,.inl rfl,trivial⟩)
     ·rw[if_neg h2]at hR hU
      (repeat' (first|(with_reducible refine aa hU ?_)|simp only[EVz,seval,↓reduceIte,EV6,EV7,Env.set,Env.get]|fail))
      all_goals exact hR _ _ (Or.inl (Or.inl rfl))
end
end Go.Av
