/-
  LINT, 28: lines and texts by the program.
-/
import Derived.Test.YtnoakpkjccigoaaGreatDoorXL26toXL29
import Derived.Test.YtnoakpkjccigoaaGreatDoorXE7toXP1
import Derived.Test.YtnoakpkjccigoaaGreatDoorXL20toXOpI
import Derived.Lib.Join
import Derived.Test.YtnoakpkjccigoaaGreatDoorXC4
import Derived.Test.YtnoakpkjccigoaaGreatDoorXC5
import Derived.Test.YtnoakpkjccigoaaGreatDoorXC6
import Derived.Test.YtnoakpkjccigoaaGreatDoorXE10toXAv27
import Derived.Test.YtnoakpkjccigoaaGreatDoorXFrNtoXL19
import Derived.Test.YtnoakpkjccigoaaGreatDoorXL13toXFrE
namespace Go.Av
open Go Go.RowKit Go.Proofs List
set_option linter.unusedSimpArgs false
set_option linter.unusedVariables false
theorem U.lone_short {u:U} (hs:u.Short):u.lone.Short:=by
 have h0:=hs.2 u u.flat_self
 have hf:=(U.fit_eq u).1 hs.1.1
 have e:u.lone.flat=[u.lone]:=by rw[U.flat_eq];show _::U.flats []=_;rw[flats_nil]
 refine⟨⟨(U.fit_eq _).2 ⟨hf.1,hf.2.1,hf.2.2.1,by simp[U.lone],by simp[U.lone]⟩,by rw[e];simp⟩,?_⟩
 intro x hx
 rw[e,mem_singleton]at hx
 subst hx
 exact h0
theorem fit_strip:∀u:U,u.fit->u.strip.fit:=by
 refine U.ind λu ih hf=>?_
 obtain⟨a,⟨b,b2⟩,⟨c,c2⟩,d,e⟩:=(U.fit_eq u).1 hf
 rw[U.strip_eq]
 refine(U.fit_eq _).2 ⟨a,⟨by simpa using b,?_⟩,⟨by simpa using c,?_⟩,by simpa using d,?_⟩
 ·intro x hx
  obtain⟨w,hw,rfl⟩:=mem_map.1 hx
  exact b2 w hw
 ·intro x hx
  obtain⟨w,hw,rfl⟩:=mem_map.1 hx
  exact c2 w hw
 ·intro x hx
  obtain⟨k,hk,rfl⟩:=mem_map.1 hx
  exact ih k hk (e k hk)
theorem jw {u:U} (hs:u.Short):u.strip.Short:=by
 refine⟨⟨fit_strip u hs.1.1,by rw[eA,length_map];exact hs.1.2⟩,?_⟩
 intro x hx
 rw[eA]at hx
 obtain⟨y,hy,rfl⟩:=mem_map.1 hx
 obtain⟨h1,h2,h3,h4,h5⟩:=hs.2 y hy
 rw[U.strip_eq]
 refine⟨h1,by simpa using h2,by simpa using h3,?_,?_⟩
 ·intro w hw
  obtain⟨w',hw',rfl⟩:=mem_map.1 hw
  exact h4 w' hw'
 ·intro w hw
  obtain⟨w',hw',rfl⟩:=mem_map.1 hw
  exact h5 w' hw'
theorem U.Short.node {u x:U} (hs:u.Short) (hx:x∈u.flat):x.Short:=by
 induction u using U.ind with
 |h u ih=>
  rw[U.flat_eq]at hx
  rcases mem_cons.1 hx with rfl|hx
  ·exact hs
  ·obtain⟨k,hk,hx⟩:=flats_in hx
   exact ih k hk (hs.kid hk) hx
theorem repeat2 (n:Nat):Lib.repeatL [32,32] n=List.replicate (2*n) 32:=by
 induction n with
 |zero=>rfl
 |succ n ih=>rw[Lib.repeatL,ih,Nat.mul_add];simp[replicate_succ]
theorem kR {τ:Store} {w:World} {b:Nat}:∀(xs:List (List UInt8)) (i:Nat),ar τ w ⟨b,0,none⟩ 1 i (xs.map srow)->∀(j:Nat) x,xs[j]? =some x->w.cell? ⟨b,i+j,none⟩=some (.string ⟨⟨x⟩⟩)
 |[],i,_,j,x,hx=>by simp at hx
 |y::xs,i,h,j,x,hx=>by
  simp only[srow,map_cons,ar,RepAt,Rep]at h
  obtain⟨_,⟨⟨u,hF,_,rfl⟩,_⟩,hr⟩:=h
  cases j with
  |zero=>
   simp at hx
   subst hx
   have e:(⟨b,0,none⟩:Addr).add (i*1)=⟨b,i,none⟩:=by unfold Addr.add;by_cases hi:i=0<;>simp[hi]
   have:=hF.1
   rw[e]at this
   exact this
  |succ j=>
   have:=kR xs (i+1) hr j x (by simpa using hx)
   rw[show i+(j+1)=i+1+j by omega]
   exact this
section
variable (G:Glob)
theorem f320 (n:Nat) (hn:n<=8):Pure G Tryz.prog 320 [.str [32,32],.int .i64 n] (.str (List.replicate (2*n) 32)):=by
 refine Pure.of_calls Tryz.func320 (by kernel_rfl) (by kernel_rfl) λτ w vs hS hA=>?_
 obtain⟨u,v,rfl,h1,h2⟩:=ji hA
 simp only[Rep]at h1 h2
 subst h1 h2
 refine⟨.string ⟨⟨List.replicate (2*n) 32⟩⟩,λ_ _=>by simp only[Rep],?_⟩
 have hsz:(⟨⟨[32,32]⟩⟩:ByteArray).size=2:=rfl
 refine(Tryz.strings_Repeat ⟨⟨[32,32]⟩⟩ n w (by omega) (by rw[hsz];omega)).mono ?_
 rintro e w' ⟨rfl,hB⟩
 exact⟨by rw[←repeat2],hB⟩
theorem f279 (g:Option Nat) (xs:List (List UInt8)) (sep:List UInt8) (hn:xs.length<=1000000) (hl:(Lib.join xs sep).length<=140737488355328):Pure G Tryz.prog 279 [.own g 9 1 (xs.map srow),.str sep] (.str (Lib.join xs sep)):=by
 refine Pure.of_calls Tryz.func279 (by kernel_rfl) (by kernel_rfl) λτ w vs hS hA=>?_
 obtain⟨u,v,rfl,h1,h2⟩:=ji hA
 simp only[Rep]at h2
 subst h2
 refine⟨.string ⟨⟨Lib.join xs sep⟩⟩,λ_ _=>by simp only[Rep],?_⟩
 have none_:∀a c,xs=[]->Calls Tryz.prog 279 #[.slice a 0 c,.string ⟨⟨sep⟩⟩] w λe w'=>e= .returned (.string ⟨⟨Lib.join xs sep⟩⟩)/\Below w.heap.size w w':=by
  rintro a c rfl
  refine(Tryz.strings_Join_none a c ⟨⟨sep⟩⟩ w).mono ?_
  rintro e w' ⟨rfl,rfl⟩
  exact⟨rfl,Below.refl _ _⟩
 cases g with
 |none=>
  simp only[Rep]at h1
  obtain⟨rfl,hx⟩:=h1
  exact none_ _ _ (by simpa using hx)
 |some b=>
  simp only[Rep]at h1
  obtain⟨cap,rfl,hc,hm,hsh,hr⟩:=h1
  rw[length_map]at hc ⊢
  by_cases hx:xs=[]
  ·subst hx
   exact none_ _ _ rfl
  ·have e1:(xs.map (λx=>(⟨⟨x⟩⟩:ByteArray))).map (·.data.toList)=xs:=by rw[map_map];exact map_id xs
   have hb:b<w.heap.size:=by
    rcases Nat.lt_or_ge b w.heap.size with h|h
    ·exact h
    ·have:w.heap[b]? =none:=Array.getElem?_eq_none h
     simp[World.shape?,this]at hsh
   have hcells:∀(j:Nat) x,(xs.map (λx=>(⟨⟨x⟩⟩:ByteArray)))[j]? =some x->w.cell? ⟨b,0+j,none⟩=some (.string x):=by
    intro j x hj
    simp only[getElem?_map,Option.map_eq_some_iff]at hj
    obtain⟨y,hy,rfl⟩:=hj
    exact kR xs 0 hr j y hy
   have h:=Tryz.strings_Join b 0 cap (xs.map (λx=>(⟨⟨x⟩⟩:ByteArray))) ⟨⟨sep⟩⟩ w hcells hb (by simp;omega) (by simpa using hc) (by rw[e1];exact hl)
   rw[e1,length_map]at h
   exact h
theorem f321 (s:List UInt8) (l:List Wd) (hs:s.length<=1000000) (hr:aU l=true):Pure G Tryz.prog 321 [.str s,.lst 4 (l.map Wd.cs)] (.str (s++wordsT l)):=by
 have hl:=row_len hr
 refine Pure.w c321 λR hR=>?_
 unfold s321 r321
 (repeat' (first|(with_reducible (first|refine ab (λh=>?_) (λh=>?_)|refine ai (λh=>?_) (λh=>?_))<;>(try simp only[Da,Db,Dc,Dw,De,Df,Dg,Dh]at h))|(with_reducible refine AI (by omega) ?_)|simp only[EVz,seval,↓reduceIte,EV6,EV7,length_append,length_cons,length_nil,hx.yes,hx.le0,hx.lt',hx.get,hx.row,hw]|simp only[EVz,seval,↓reduceIte,EV6,EV7,length_append,length_cons,length_nil,hn]|simp only[EVz,seval,↓reduceIte,EV6,EV7,length_append,length_cons,length_nil]|(with_reducible intro blk hblk;(try(have hnx:=hblk;simp only[EVK]at hnx;(have hne:=hnx))))|(refine ay (ι:=List UInt8) (l) (λi r c=>s++wordsT l=c++wordsT r/\c.length<=s.length+i*26) (λi c=>[(0,.str c),(7,.lst 4 (l.map Wd.cs)),(8,.int .i64 l.length),(9,.int .i64 i)]) (λ_ _=>[]) (s) (by((simp;done))) (Weak.rfl' _ _) (by omega) (λi x r c hok hx hw=>?_) (λc hok hn=>?_)<;>(try(obtain⟨hp,hp2⟩:=row_word hr hx.mem;have hil:=hx.lt)))|(refine ap hx _ ?_ (Weak.sub (SubN.nil _)))|fail))
 ·rw[hok.1]
  have e:escT x.text=92::x.text:=by unfold escT;rw[if_pos];right;exact UInt8.toNat_inj.1 (by show _=92;omega)
  exact⟨by simp[wordsT,e],by omega⟩
 ·rename_i h2
  rw[hok.1]
  have e:escT x.text=x.text:=by
   unfold escT
   rw[if_neg]
   rintro(h3|h3)
   ·exact h2 (by rw[h3];rfl)
   ·exact h (by rw[h3];rfl)
  exact⟨by simp[wordsT,e],by omega⟩
 ·rw[hok.1]
  have e:escT x.text=92::x.text:=by unfold escT;rw[if_pos];left;exact UInt8.toNat_inj.1 (by show _=124;omega)
  exact⟨by simp[wordsT,e],by omega⟩
 ·exact RET.eq hR (by rw[hok.1];simp[wordsT])
end
theorem lone_cs (u:U):u.lone.cs=[.int .i64 0,.int .i64 0,.int .i64 0,.int .i64 u.kind,.str u.label,.lst 4 (u.head.map Wd.cs),.lst 4 (u.words.map Wd.cs),.lst 8 []]:=by rw[U.cs_eq];rfl
section
variable (G:Glob) (hG:GOk G)
include hG
theorem f319 (u:U) (d:Int) (hs:u.Short):Pure G Tryz.prog 319 [.agg u.cs,.int .i64 d] (.bool ((decide (0<=d)&&decide (d<=8))&&alone11 u)):=by
 have hS:=f307 G u.lone (U.lone_short hs)
 have hV:=f200 G hG u.lone.strip (jw (U.lone_short hs))
 rw[tree_lone]at hV
 rw[lone_cs]at hS
 rw[U.cs_eq u]
 refine Pure.w c319 λR hR=>?_
 unfold s319 r319
 (repeat' (first|(with_reducible (refine ai (λh=>?_) (λh=>?_))<;>(try simp only[Da,Db,Dc,Dw,De,Df,Dg,Dh]at h))|(with_reducible refine aa hV ?_)|simp only[EVz,seval,↓reduceIte,EV6,EV7]|(with_reducible intro blk hblk;(try(have hnx:=hblk;simp only[EVK]at hnx;(have hne:=hnx))))|(refine aE hS ⟨.inr ⟨.inl rfl,.inl rfl,.inl rfl,.inl rfl,.inl rfl,.inl rfl,.inl rfl,.inr rfl,trivial⟩,trivial⟩ ?_)|fail))
 all_goals(refine RET.eq hR (congrArg AV.bool ?_);first|(simp[*];done)|(rw[decide_eq_false (p:=0<=d) (by omega)];rfl)|(rw[decide_eq_false (p:=d<=8) (by omega),Bool.and_false];rfl))
theorem f309 (u:U) (n:Nat) (hs:u.Short) (hn:n<=1000000):Pure G Tryz.prog 309 [.agg u.cs,.int .i64 n] (.str (lineOf u n)):=by
 have hm:=f319 G hG u n hs
 have hkn:=f292 G hG u.kind
 refine Pure.w c309 λR hR=>?_
 unfold s309 r309
 by_cases ha:alone11 u=true/\n<=8
 ·obtain⟨a0,a7,ah,aw,al⟩:=alone_facts ha.1
  have b1:=wordsT_row ah
  have b2:=wordsT_row aw
  have b3:=kindText_len u.kind
  have hrp:=f320 G n ha.2
  rw[ha.1,Bool.and_true,show(decide ((0:Int)<=n)&&decide ((n:Int)<=8))=true by simp;omega]at hm
  rw[if_pos ⟨a0,a7⟩]at hkn
  have ea:lineOf u n=lineT u n:=by unfold lineOf;rw[if_pos ⟨ha.2,ha.1⟩]
  rw[ea]at hR
  have hp1:=λs hs=>f321 G s u.head hs ah
  have hp2:=λs hs=>f321 G s u.words hs aw
  (repeat' (first|(with_reducible (refine ab (λh=>?_) (λh=>?_))<;>(try simp only[Da,Db,Dc,Dw,De,Df,Dg,Dh]at h))|(with_reducible refine AI (by omega) ?_)|(with_reducible first|refine aa hm ?_|refine aa hkn ?_|refine aa hrp ?_|refine aa (hp1 _ (by simp;omega)) ?_|refine aa (hp2 _ (by simp;omega)) ?_)|simp only[EVz,seval,↓reduceIte,EV6,EV7,length_append,length_cons,length_nil,length_replicate]|fail))
  all_goals(refine RET.eq hR (congrArg AV.str ?_);unfold lineT;(repeat first|rw[if_pos (by omega)]|rw[if_neg (by omega)]);simp;done)
 ·have e:((decide ((0:Int)<=n)&&decide ((n:Int)<=8))&&alone11 u)=false:=by
   rw[Bool.eq_false_iff]
   intro h
   simp at h
   exact ha ⟨h.2,by omega⟩
  rw[e]at hm
  have ea:lineOf u n=[]:=by unfold lineOf;rw[if_neg (λh=>ha ⟨h.2,h.1⟩)]
  rw[ea]at hR
  (repeat' (first|(with_reducible refine aa hm ?_)|simp only[EVz,seval,↓reduceIte,EV6,EV7]|fail))
  (all_goals((exact RET.eq hR rfl)))
end
def fK:List U->AV
 |[]=>.nil
 |x::l=>.lst 8 ((x::l).map U.cs)
theorem mX {l:List U} (h:l≠[]):fK l= .lst 8 (l.map U.cs):=by cases l<;>simp_all[fK]
theorem eF:∀(i:Idd) (u:U),(U.way i u).length<=u.flat.length:=by
 intro i
 refine U.ind λu ih=>?_
 have h:∀us:List U,(∀k∈us,(U.way i k).length<=k.flat.length)->(U.ways i us).length<=(U.flats us).length:=by
  intro us
  induction us with
  |nil=>intro _;rw[U.ways_nil];simp
  |cons k us ihu=>
   intro h
   have h1:=h k (by simp)
   have h2:=ihu λk hk=>h k (by simp[hk])
   rw[U.ways_cons,flats_cons,length_append]
   cases hw:U.way i k with
   |nil=>simp only[orW];omega
   |cons x l=>rw[hw]at h1;simp only[orW];omega
 have h1:=h u.kids ih
 rw[U.way_eq,U.flat_eq,length_cons]
 split
 ·simp
 ·cases hw:U.ways i u.kids with
  |nil=>simp[fL]
  |cons x l=>rw[hw]at h1;simp only[fL,length_cons]at*;omega
theorem app_new {e:TypeId} {sz bytes m blk:Nat} {σ:Store} {rows ys:List (List AV)} {K:AV->Store->Prop} (hm:m=rows.length*sz)
  (hn:(rows.length+ys.length)*bytes<=140737488355328) (hk:∀g',K (.own g' e sz (rows++ys)) (tokS g' e ((rows++ys).length*sz))):appX e sz bytes ((blk,.tok e m)::σ) (some blk) rows ys K:=
 app_lst (m:=m) (λd h=>by injection h with h;subst h;simp[Store.get]) hm rfl hn hk
theorem m7 {t:Idd}:∀u:U,∀v∈U.way t u,v∈u.flat:=by
 refine U.ind λu ih v hv=>?_
 have h:∀us:List U,(∀k∈us,∀v∈U.way t k,v∈k.flat)->∀v∈U.ways t us,v∈U.flats us:=by
  intro us
  induction us with
  |nil=>intro _ v hv;rw[U.ways_nil]at hv;cases hv
  |cons k us ihu=>
   intro h v hv
   rw[U.ways_cons]at hv
   rw[flats_cons,mem_append]
   cases hw:U.way t k with
   |nil=>rw[hw]at hv;exact .inr (ihu (λk hk=>h k (by simp[hk])) v hv)
   |cons x l=>rw[hw]at hv;exact .inl (h k (by simp) v (by rw[hw];exact hv))
 rw[U.way_eq]at hv
 rw[U.flat_eq]
 split at hv
 ·simp only[mem_singleton]at hv;subst hv;exact mem_cons_self ..
 ·cases hw:U.ways t u.kids with
  |nil=>rw[hw]at hv;cases hv
  |cons x l=>
   rw[hw]at hv
   rcases mem_cons.1 hv with rfl|hv
   ·exact mem_cons_self ..
   ·exact mem_cons_of_mem _ (h u.kids ih v (by rw[hw];exact hv))
section
variable (G:Glob)
theorem f233 (n:Int):Pure G Tryz.prog 233 [.int .i64 n] (.bool (inR n 0 3)):=by
 refine Pure.w c233 λR hR=>?_
 unfold s233 r233
 (repeat' (first|(with_reducible (first|refine ab (λh=>?_) (λh=>?_)|refine ai (λh=>?_) (λh=>?_)|refine aj (λh=>?_) (λh=>?_))<;>(try simp only[Da,Db,Dc,Dw,De,Df,Dg,Dh]at h))|(with_reducible refine AI (by omega) ?_)|simp only[EVz,seval,↓reduceIte,EV6,EV7]|(with_reducible intro blk hblk;(try(have hnx:=hblk;simp only[EVK]at hnx;first|(have hne:=AI hnx hne)|(have hne:=hnx))))|(with_reducible refine ae ?_ ?_)|(with_reducible refine af ?_)|(exfalso;omega)))
 (all_goals(first|(exact RET.eq hR rfl)|rfl|(refine RET.eq hR ?_;(refine congrArg AV.bool (Bool.eq_iff_iff.2 ?_);simp only[inR,EVB]at*;omega))|(refine RET.eq hR ?_;first|(simp only[inR,hok,h,EVC,decide_true,decide_false];done)|(simp only[inR,hok,EVC,decide_true,decide_false];done)|(simp only[inR,hok,EVC,decide_true,decide_false];refine congrArg AV.bool (decide_eq_decide.2 ?_);omega)|(simp_all[inR];done)|(simp_all[inR];omega)|grind|(norm_cast at*;simp_all[inR];done)|(norm_cast at*;simp_all[inR];omega))|(refine hR _ _ (Or.inl (Or.inr ⟨rfl,?_⟩));simp[inR];done)|(refine hR _ _ (Or.inr ?_);simp[*,bc,aR,Itm.cs_eq,U.cs_eq,inR];done)|(rw[hok];simp only[inR,h,EVC,decide_true,decide_false];done)|(rw[hok];simp only[inR,EVC,decide_true,decide_false];done)|(simp_all[inR];done)|(simp_all[inR];omega)|grind|(norm_cast at*;simp_all[inR];done)|(norm_cast at*;simp_all[inR];omega)))
theorem f231 (u:U) (s:Stp):Pure G Tryz.prog 231 [.agg u.cs,.agg [.int .i64 s.kind,.str s.label]] (.bool (aL u s)):=by
 refine Pure.w c231 λR hR=>?_
 unfold s231 r231
 (repeat' (first|(with_reducible (first|refine ab (λh=>?_) (λh=>?_)|refine ai (λh=>?_) (λh=>?_)|refine aj (λh=>?_) (λh=>?_))<;>(try simp only[Da,Db,Dc,Dw,De,Df,Dg,Dh]at h))|(with_reducible refine AI (by omega) ?_)|simp only[EVz,seval,↓reduceIte,EV6,EV7]|(with_reducible intro blk hblk;(try(have hnx:=hblk;simp only[EVK]at hnx;first|(have hne:=AI hnx hne)|(have hne:=hnx))))|(with_reducible refine ae ?_ ?_)|(with_reducible refine af ?_)|(exfalso;omega)))
 (all_goals(first|(exact RET.eq hR rfl)|rfl|(refine RET.eq hR ?_;(refine congrArg AV.bool (Bool.eq_iff_iff.2 ?_);simp only[aL,EVB]at*;omega))|(refine RET.eq hR ?_;first|(simp only[aL,hok,h,EVC,decide_true,decide_false];done)|(simp only[aL,hok,EVC,decide_true,decide_false];done)|(simp only[aL,hok,EVC,decide_true,decide_false];refine congrArg AV.bool (decide_eq_decide.2 ?_);omega)|(simp_all[aL];done)|(simp_all[aL];omega)|grind|(norm_cast at*;simp_all[aL];done)|(norm_cast at*;simp_all[aL];omega))|(refine hR _ _ (Or.inl (Or.inr ⟨rfl,?_⟩));simp[aL];done)|(refine hR _ _ (Or.inr ?_);simp[*,bc,aR,Itm.cs_eq,U.cs_eq,aL];done)|(rw[hok];simp only[aL,h,EVC,decide_true,decide_false];done)|(rw[hok];simp only[aL,EVC,decide_true,decide_false];done)|(simp_all[aL];done)|(simp_all[aL];omega)|grind|(norm_cast at*;simp_all[aL];done)|(norm_cast at*;simp_all[aL];omega)))
theorem f83 (j:Idd):∀(u:U),u.Tame->Pure G Tryz.prog 83 [.agg u.cs,.agg j.cs] (fK (U.way j u)):=by
 refine U.ind λu ih ht=>?_
 have hkl:=ht.kids
 have hc:=ht.2
 have hwl:=eF j u
 refine Pure.w c83 λR hR=>?_
 unfold s83 r83
 rw[U.way_eq]at hR hwl
 by_cases h0:u.id=j
 ·have e0:decide (u.id=j)=true:=decide_eq_true h0
  rw[if_pos h0]at hR
  (repeat' (first|(with_reducible (first|refine ab (λh=>?_) (λh=>?_)|refine ai (λh=>?_) (λh=>?_)|refine aj (λh=>?_) (λh=>?_))<;>(try simp only[Da,Db,Dc,Dw,De,Df,Dg,Dh]at h))|(with_reducible refine AI (by omega) ?_)|simp only[EVz,seval,↓reduceIte,EV6,EV7,idd_eq,e0]|(with_reducible intro blk hblk;(try(have hnx:=hblk;simp only[EVK]at hnx;first|(have hne:=AI hnx hne)|(have hne:=hnx))))|(with_reducible refine ae ?_ ?_)|(with_reducible refine af ?_)|(refine⟨[u.cs],rfl,(by simp[U.cs_len]),(by simp),?_⟩)|(exfalso;omega)))
  exact hR _ _ (Or.inl (Or.inr ⟨rfl,rfl⟩))
 ·have e0:decide (u.id=j)=false:=decide_eq_false h0
  rw[if_neg h0]at hR hwl
  simp only[Idd.cs]at ih
  (repeat' (first|(with_reducible (first|refine ab (λh=>?_) (λh=>?_)|refine ai (λh=>?_) (λh=>?_)|refine aj (λh=>?_) (λh=>?_))<;>(try simp only[Da,Db,Dc,Dw,De,Df,Dg,Dh]at h))|(with_reducible refine AI (by omega) ?_)|simp only[EVz,seval,↓reduceIte,EV6,EV7,idd_eq,e0,hx.yes,hx.le0,hx.lt',hx.get,hx.row,hw]|simp only[EVz,seval,↓reduceIte,EV6,EV7,idd_eq,e0,hn]|simp only[EVz,seval,↓reduceIte,EV6,EV7,idd_eq,e0]|(with_reducible intro blk hblk;(try(have hnx:=hblk;simp only[EVK]at hnx;first|(have hne:=AI hnx hne)|(have hne:=hnx))))|(with_reducible refine ae ?_ ?_)|(with_reducible refine af ?_)|(refine ap hx () ?_ (Weak.rfl' _ _))|(refine ap hx () ?_ (Weak.sub (SubN.nil _)))|(refine ay (u.kids) (λi r (c:Unit)=>U.ways j u.kids=U.ways j r) (λi c=>[(2,.ref u.cs),(3,.ref j.cs),(15,.lst 8 (u.kids.map U.cs)),(16,.int .i64 u.kids.length),(17,.int .i64 i)]) (λ_ _=>[]) () (by first|rfl|(simp;done)|(simp[*];done)|(simp;omega)) (Weak.rfl' _ _) (by omega) (λi x r c hok hx hw=>?_) (λc hok hn=>?_))|(exfalso;omega)))
  ·have h:=ih x hx.mem (ht.kid hx.mem)
   rw[U.ways_cons]at hok
   cases hwx:U.way j x with
   |nil=>
    rw[hwx]at h hok
    simp only[fK]at h
    (repeat' (first|(with_reducible (first|refine ab (λh=>?_) (λh=>?_)|refine ai (λh=>?_) (λh=>?_)|refine aj (λh=>?_) (λh=>?_))<;>(try simp only[Da,Db,Dc,Dw,De,Df,Dg,Dh]at h))|(with_reducible refine AI (by omega) ?_)|(with_reducible refine aa h ?_)|simp only[EVz,seval,↓reduceIte,EV6,EV7,hw]|(with_reducible intro blk hblk;(try(have hnx:=hblk;simp only[EVK]at hnx;first|(have hne:=AI hnx hne)|(have hne:=hnx))))|(with_reducible refine ae ?_ ?_)|(with_reducible refine af ?_)|(exfalso;omega)))
    exact ap hx () hok (Weak.sub (SubN.nil _))
   |cons y l=>
    rw[hwx]at h hok
    simp only[fK,map_cons]at h
    (repeat' (first|(with_reducible (first|refine ab (λh=>?_) (λh=>?_)|refine ai (λh=>?_) (λh=>?_)|refine aj (λh=>?_) (λh=>?_))<;>(try simp only[Da,Db,Dc,Dw,De,Df,Dg,Dh]at h))|(with_reducible refine AI (by omega) ?_)|(with_reducible refine aa h ?_)|simp only[EVz,seval,↓reduceIte,EV6,EV7,hw]|(with_reducible intro blk hblk;(try(have hnx:=hblk;simp only[EVK]at hnx;first|(have hne:=AI hnx hne)|(have hne:=hnx))))|(with_reducible refine ae ?_ ?_)|(with_reducible refine af ?_)|(refine⟨[u.cs],rfl,(by simp[U.cs_len]),(by simp),?_⟩)|(exfalso;omega)))
    ·have e:fL u (U.ways j u.kids)=u::y::l:=by rw[hok];rfl
     rw[e]at hR hwl
     simp only[length_cons]at hwl
     refine app_new (by simp) (by simp;omega) (λgn=>?_)
     exact hR _ _ (Or.inl (Or.inr ⟨rfl,by simp⟩))
    ·have:=hblk (by simp)
     rw[this]at h
     cases h
  ·rw[hok,U.ways_nil]at hR
   exact RET.eq hR rfl
theorem get_last {l:List U} {x y:U} (h:(x::l).getLast?=some y):((x::l).map U.cs).getD l.length []=y.cs:=by
 have:(x::l)[l.length]? =some y:=by
  rw[getLast?_eq_getElem?]at h
  simpa using h
 simp only[List.getD,getElem?_map,this,Option.map_some,Option.getD_some]
def gV (j:Idd) (u:U):AV:=if (U.way j u).isEmpty then .tup [.agg zU,.bool false]else .tup [.agg (fnd j u).cs,.bool true]
theorem f44 (j:Idd) (u:U) (hs:u.Short):Pure G Tryz.prog 44 [.agg u.cs,.agg j.cs] (gV j u):=by
 have hW:=f83 G j u hs.1
 have hwl:=eF j u
 have hc:=hs.1.2
 refine Pure.w c44 λR hR=>?_
 unfold s44 r44
 unfold gV at hR
 simp only[Idd.cs]at hW ⊢
 cases hw:U.way j u with
 |nil=>
  rw[hw]at hW hR
  simp only[fK]at hW
  (repeat' (first|(with_reducible (first|refine ab (λh=>?_) (λh=>?_)|refine ai (λh=>?_) (λh=>?_)|refine aj (λh=>?_) (λh=>?_))<;>(try simp only[Da,Db,Dc,Dw,De,Df,Dg,Dh]at h))|(with_reducible refine AI (by omega) ?_)|(with_reducible refine aa hW ?_)|simp only[EVz,seval,↓reduceIte,EV6,EV7]|(with_reducible intro blk hblk;(try(have hnx:=hblk;simp only[EVK]at hnx;first|(have hne:=AI hnx hne)|(have hne:=hnx))))|(with_reducible refine ae ?_ ?_)|(with_reducible refine af ?_)|(exfalso;omega)))
  exact hR _ _ (Or.inl (Or.inl rfl))
 |cons x l=>
  obtain⟨y,hy⟩:∃y,(x::l).getLast?=some y:=⟨_,getLast?_eq_some_getLast (by simp)⟩
  have hf:fnd j u=y:=aB (by rw[hw];exact hy)
  have hyu:y.Short:=hs.node (m7 u y (by rw[hw];exact mem_of_getLast? hy))
  have hg:=get_last hy
  have hC:=ko.freeze (f84 G y hyu)
  rw[hw]at hW hR hwl
  rw[hf]at hR
  simp only[fK,map_cons]at hW hg
  simp only[length_cons]at hwl
  have hwp:IntKind.i64.wrap (((l.length+1:Nat):Int)-1)=(l.length:Int):=by rw[aA (by omega) (by omega)];omega
  (repeat' (first|(with_reducible (first|refine ab (λh=>?_) (λh=>?_)|refine ai (λh=>?_) (λh=>?_)|refine aj (λh=>?_) (λh=>?_))<;>(try simp only[Da,Db,Dc,Dw,De,Df,Dg,Dh]at h))|(with_reducible refine AI (by omega) ?_)|(with_reducible first|refine aa hW ?_|refine aa hC ?_)|simp only[EVz,seval,↓reduceIte,EV6,EV7,hwp,hg]|(with_reducible intro blk hblk;(try(have hnx:=hblk;simp only[EVK]at hnx;first|(have hne:=AI hnx hne)|(have hne:=hnx))))|(with_reducible refine ae ?_ ?_)|(with_reducible refine af ?_)|(exfalso;omega)))
  exact hR _ _ (Or.inl (Or.inl rfl))
end
section
variable (G:Glob)
end
section
variable (G:Glob)
end
section
variable (G:Glob)
end
section
variable (G:Glob)
end
end Go.Av
namespace Go.Av
open Go Go.RowKit List
set_option linter.unusedSimpArgs false
set_option linter.unusedVariables false
section
variable {G:Glob} {P:Program} {k:FuncId} {args:List AV} {e:TypeId} {sz:Nat} {rows:List (List AV)}
end
/-! ### rows that point nowhere -/
def AV.flat:AV->Bool
 | .bool _=>true
 | .int _ _=>true
 | .str _=>true
 |_=>false
theorem AV.flat_rep {σ σ':Store} {w w':World}:∀{x:AV} {u:Value},x.flat=true->Rep σ w x u->Rep σ' w' x u
 | .bool _,_,_,h=>by simp only[Rep]at h ⊢;exact h
 | .int _ _,_,_,h=>by simp only[Rep]at h ⊢;exact h
 | .str _,_,_,h=>by simp only[Rep]at h ⊢;exact h
section
variable {G:Glob} {P:Program} {k:FuncId} {args:List AV} {e:TypeId} {sz:Nat} {rows:List (List AV)}
end
end Go.Av
namespace Go.Av
open Go Go.RowKit Go.Proofs List
set_option linter.unusedSimpArgs false
set_option linter.unusedVariables false
section
variable (G:Glob)
end
theorem ec {G:Glob} {P:Program} {f:Value} {args:List AV} {σ:Store} {K:AV->Store->Prop} {t:Tag K} {v:AV}
  (h:cd G P f args σ λr σ'=>r=v/\σ'=σ) (hk:K v σ):CALL G P f args σ K t:=
 aZ σ [] h (ax.rfl' _) (by rw[append_nil];exact SubN.refl _) (by rintro _ _ ⟨rfl,rfl⟩;rw[append_nil];exact hk)
theorem ag.wk {G:Glob} {P:Program} {k:FuncId} {args:List AV} {σ:Store} {r:AV} {g:List Nat} {ts:List (Nat×Option (Bool×Nat))} {s:SCode} (hk:fnAt P k g=some (ts,s))
  (h:∀R,(∀x σ',AVle x r->SubN σ σ'->RET x σ' R)->W G P s (retQ ts R) (cL 0 args) σ ⟨⟩):ag G P k args σ λx σ'=>x=r/\σ'=σ:=
 ag.at hk (h _ λx σ' hx hs=>⟨r,σ,hx,hs,rfl,rfl⟩)
section
variable (G:Glob)
end
end Go.Av
