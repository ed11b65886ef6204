/-
  ENACT, M15: rows cloned into cells of the callee's own; rows cut out and put in.
-/
import Derived.Test.YtnoakpkjccigoaaGreatDoorXC4
import Derived.Test.YtnoakpkjccigoaaGreatDoorXC5
import Derived.Test.YtnoakpkjccigoaaGreatDoorXC6
import Derived.Test.YtnoakpkjccigoaaGreatDoorXL28toXL51
import Derived.Test.YtnoakpkjccigoaaGreatDoorXL26toXL29
import Derived.Test.YtnoakpkjccigoaaGreatDoorXAv34toXAv35
import Derived.Test.YtnoakpkjccigoaaGreatDoorXM4toXE16
namespace Go.Av
open Go Go.RowKit Go.Proofs List
set_option linter.unusedSimpArgs false
set_option linter.unusedVariables false
section
variable (G:Glob)
theorem f203 (rows:List (List AV)) (hsz:∀r∈rows,r.length=8) (hl:rows.length<1000000):ag G Tryz.prog 203 [.lst 8 rows] [] (λr σ=>bD 27 8 rows r σ):=by
 refine ag.w c203 ?_
 unfold s203 r203
 simp only[EV1,EV2,EV3,EV4,EV5,Option.map_some,decide_true,decide_false,seval,↓reduceIte,eq_self]
 intro bb hbb
 refine ab (λh=>?_) (λh=>?_)
 ·simp only[EV1,EV2,EV3,EV4,EV5,Option.map_some,decide_true,decide_false,seval,↓reduceIte,eq_self]
  have h0:rows=[]:=by
   rcases Classical.em (rows=[])with h1|h1
   ·exact h1
   ·rw[hbb h1]at h;cases h
  subst h0
  exact RET.le (y:=.sc (.slice none 0 0)) (Or.inl (Or.inr rfl)) (SubN.refl _) (ed (.inl rfl))
 ·simp only[EV1,EV2,EV3,EV4,EV5,Option.map_some,decide_true,decide_false,seval,↓reduceIte,eq_self]
  refine fV (e:=27) (n:=8) (by kernel_rfl) (by kernel_rfl) (λv hv=>?_)
  simp only[EV1,EV2,EV3,EV4,EV5,Option.map_some,decide_true,decide_false,seval,↓reduceIte,eq_self]
  refine bY (e:=27) (e':=27) (sz:=8) (bytes:=120) (rows:=[]) (ys:=rows) (g:=none) (xv:=.sc v) (by kernel_rfl) (by kernel_rfl) (by kernel_rfl) (by kernel_rfl) (by decide) (by decide) rfl (.inl ⟨rfl,rfl,.inr ⟨v,rfl,hv⟩⟩) ?_ ?_ ?_ ?_
  ·exact⟨rfl,rfl⟩
  ·simp;omega
  ·intro _ h0
   subst h0
   simp only[EV1,EV2,EV3,EV4,EV5,Option.map_some,decide_true,decide_false,seval,↓reduceIte,eq_self]
   exact RET.mk' (SubN.refl _) (ed hv)
  ·intro b cap pad hb h1 h2 h3 h4
   simp only[EV1,EV2,EV3,EV4,EV5,Option.map_some,decide_true,decide_false,seval,↓reduceIte,eq_self]
   simp only[nil_append]at*
   exact RET.mk' (SubN.refl _) (bD.mk rfl h1 h2 h3 h4)
theorem f247 (rows:List (List AV)) (hsz:∀r∈rows,r.length=1) (hl:rows.length<1000000):ag G Tryz.prog 247 [.lst 1 rows] [] (λr σ=>bD 3 1 rows r σ):=by
 refine ag.w c247 ?_
 unfold s247 r247
 simp only[EV1,EV2,EV3,EV4,EV5,Option.map_some,decide_true,decide_false,seval,↓reduceIte,eq_self]
 intro bb hbb
 refine ab (λh=>?_) (λh=>?_)
 ·simp only[EV1,EV2,EV3,EV4,EV5,Option.map_some,decide_true,decide_false,seval,↓reduceIte,eq_self]
  have h0:rows=[]:=by
   rcases Classical.em (rows=[])with h1|h1
   ·exact h1
   ·rw[hbb h1]at h;cases h
  subst h0
  exact RET.le (y:=.sc (.slice none 0 0)) (Or.inl (Or.inr rfl)) (SubN.refl _) (ed (.inl rfl))
 ·simp only[EV1,EV2,EV3,EV4,EV5,Option.map_some,decide_true,decide_false,seval,↓reduceIte,eq_self]
  refine fV (e:=3) (n:=1) (by kernel_rfl) (by kernel_rfl) (λv hv=>?_)
  simp only[EV1,EV2,EV3,EV4,EV5,Option.map_some,decide_true,decide_false,seval,↓reduceIte,eq_self]
  refine bY (e:=3) (e':=3) (sz:=1) (bytes:=8) (rows:=[]) (ys:=rows) (g:=none) (xv:=.sc v) (by kernel_rfl) (by kernel_rfl) (by kernel_rfl) (by kernel_rfl) (by decide) (by decide) rfl (.inl ⟨rfl,rfl,.inr ⟨v,rfl,hv⟩⟩) ?_ ?_ ?_ ?_
  ·exact⟨rfl,rfl⟩
  ·simp;omega
  ·intro _ h0
   subst h0
   simp only[EV1,EV2,EV3,EV4,EV5,Option.map_some,decide_true,decide_false,seval,↓reduceIte,eq_self]
   exact RET.mk' (SubN.refl _) (ed hv)
  ·intro b cap pad hb h1 h2 h3 h4
   simp only[EV1,EV2,EV3,EV4,EV5,Option.map_some,decide_true,decide_false,seval,↓reduceIte,eq_self]
   simp only[nil_append]at*
   exact RET.mk' (SubN.refl _) (bD.mk rfl h1 h2 h3 h4)
set_option maxHeartbeats 1000000 in
theorem f202 (rows:List (List AV)) (v:AV) (κ:Store) (ho:bD 27 8 rows v κ) (j:Nat) (hj:j<rows.length) (hl:rows.length<1000000):
  ag G Tryz.prog 202 [v,.int .i64 j,.int .i64 ((j+1:Nat):Int)] κ (λr σ'=>bD 27 8 (rows.take j++rows.drop (j+1)) r σ'):=by
 obtain⟨base,cap,rfl,h⟩:=ho
 rcases h with⟨rfl,rfl,rfl⟩|⟨b,pad,rfl,rfl,h1,h2,h3,h4⟩
 ·simp at hj
 refine ag.w c202 ?_
 unfold s202 r202
 have e0:decide ((j:Int)=((j+1:Nat):Int))=false:=decide_eq_false (by omega)
 obtain⟨o2,ho2⟩:∃o2,(if cap=j+1 then 0 else 0+(j+1)*8)=o2:=⟨_,rfl⟩
 have ho3:o2=(j+1)*8\/j+1=rows.length/\o2=0:=by
  subst ho2
  split
  ·exact .inr ⟨by omega,rfl⟩
  ·exact .inl (by omega)
 have hfl:=au rows h3
 obtain⟨D,hD⟩:∃D,(rows.flatten++pad).drop (0+j*8+(rows.drop (j+1)).flatten.length)=D:=⟨_,rfl⟩
 have hdl:(rows.drop (j+1)).flatten.length=(rows.length-(j+1))*8:=by rw[au _ (λr hr=>h3 r (mem_of_mem_drop hr)),length_drop]
 have htl:(rows.take j).flatten.length=j*8:=by rw[au _ (λr hr=>h3 r (mem_of_mem_take hr)),length_take,Nat.min_eq_left (by omega)]
 have hDl:D.length=cap*8-(rows.length-1)*8:=by rw[←hD,length_drop,h4,hdl];omega
 have hsp:aH (rows.flatten++pad) (0+j*8) (rows.drop (j+1)).flatten=(rows.take j++rows.drop (j+1)).flatten++(D.take 8++D.drop 8):=by
  rw[aY _ _ _ (by rw[hdl,h4];omega),hD,Nat.zero_add,lT h3 (by omega),flatten_append,take_append_drop]
 have hsp2:aH ((rows.take j++rows.drop (j+1)).flatten++(D.take 8++D.drop 8)) ((rows.length-1)*8) [[AV.int .i64 0,.int .i64 0,.int .i64 0,.int .i64 0,.str [],.nil,.nil,.nil]].flatten=(rows.take j++rows.drop (j+1)).flatten++(zU++D.drop 8):=by
  refine ey ?_ ?_
  ·rw[flatten_append,length_append,htl,hdl];omega
  ·rw[length_take,hDl];simp[zU];omega
 have hrl:∀r∈rows.take j++rows.drop (j+1),r.length=8:=λr hr=>by
  rcases mem_append.1 hr with hr|hr
  ·exact h3 r (mem_of_mem_take hr)
  ·exact h3 r (mem_of_mem_drop hr)
 have hrn:(rows.take j++rows.drop (j+1)).length=rows.length-1:=by rw[length_append,length_take,length_drop];omega
 have hjn:j+(rows.drop (j+1)).length=rows.length-1:=by rw[length_drop];omega
 generalize hrr:rows.take j++rows.drop (j+1)=rows' at*
 (repeat' (first|simp only[EVz,seval,↓reduceIte,EV6,EV7,e0,hsp,hjn,hsp2]|(with_reducible refine ae ?_ ?_)|(with_reducible refine af ?_)|(refine aW (e:=27) (sz:=8) (l:=j) (h:=j+1) (m:=rows.length) _ _ _ (by kernel_rfl) (by kernel_rfl) rfl ⟨_,rfl⟩ ⟨_,rfl⟩ ⟨_,rfl⟩ (λ_=>rfl) (by omega) (by omega) h1 rfl rfl rfl ?_)|(refine aW (e:=27) (sz:=8) (l:=0) (h:=j) (m:=cap) 0 j cap (by kernel_rfl) (by kernel_rfl) rfl rfl ⟨_,rfl⟩ rfl (λh=>by cases h) (by omega) (by omega) (Nat.le_refl _) (by split<;>rfl) rfl rfl ?_)|(refine aW (e:=27) (sz:=8) (l:=j+1) (h:=rows.length) (m:=cap) o2 (rows.length-(j+1)) (cap-(j+1)) (by kernel_rfl) (by kernel_rfl) rfl ⟨_,rfl⟩ rfl rfl (λh=>by cases h) (by omega) (by omega) (Nat.le_refl _) ho2 rfl rfl ?_)|(refine eL (e:=27) (e':=27) (sz:=8) (bytes:=120) (b:=b) (o:=0) (n:=j) (cap:=cap) (rows:=rows.take j) (ys:=rows.drop (j+1)) (cs:=rows.flatten++pad) (z:=zU) (by kernel_rfl) (by kernel_rfl) (by kernel_rfl) (by kernel_rfl) rfl (by decide) (by decide) rfl (if_pos rfl) (RowsAt.head h3 (by omega)) (by rw[h4];omega) (.inr ⟨b,o2,_,_,27,_,rfl,if_pos rfl,RowsAt.tail' h3 hj ho3⟩) (by rw[hjn];omega) (λ_=>?_) (λhc=>by omega))|(refine aW (e:=27) (sz:=8) (l:=rows.length-1) (h:=rows.length) (m:=cap) ((rows.length-1)*8) 1 (cap-(rows.length-1)) (by kernel_rfl) (by kernel_rfl) rfl ⟨_,rfl⟩ ⟨_,rfl⟩ rfl (λh=>by cases h) (by omega) (by omega) (Nat.le_refl _) (by rw[if_neg (by omega)];omega) (by omega) rfl ?_)|(refine o5 (elem:=27) (sz:=8) (z:=zU) (by kernel_rfl) (by kernel_rfl) rfl (by decide) rfl (if_pos rfl) (by rw[length_append,length_append,length_take,length_drop,hDl,au _ hrl,hrn];omega) (λh=>by cases h) (λ_=>?_))|fail))
 all_goals
  refine RET.mk' (SubN.refl _) (bD.mk hrn.symm (by omega) h2 hrl ?_)
  rw[length_append,au _ hrl,hrn]
  simp only[length_cons,length_drop,hDl]
  omega
theorem x233 {σ:Store} {b1 b2 o2 n2 c2 k1:Nat} {cs:List AV} {e2:TypeId} {rows:List (List AV)} (hne:b1≠b2) (h1:σ.get b1=some (.tok 27 k1)) (h2:σ.get b2=some (.cells e2 cs)) (hc:cs≠[]):
  XSpec G Tryz.prog (.func (.func 242) #[] #[]) [.own (some b1) 27 8 rows,.sc (.slice (some ⟨b2,o2,none⟩) n2 c2)] σ (λr σ'=>r= .bool false/\σ'=σ):=
 XOVER (tS:=25) (tR:=4) (e:=27) (sz:=8) (λw vs=>run_callFunc_extern (e:=Extern.SlicesOverlaps.overlaps #[25,25] #[4]) Tryz.func242 (by kernel_rfl) (by kernel_rfl) (by kernel_rfl) (by kernel_rfl) vs w) (by kernel_rfl) (by kernel_rfl) hne h1 h2 hc
def dL (rows:List (List AV)) (j:Nat) (x:List AV):List (List AV):=rows.take j++x::rows.drop j
theorem putAt_len (rows:List (List AV)) (j:Nat) (x:List AV):(dL rows j x).length=rows.length+1:=by
 unfold dL
 rw[length_append,length_cons,length_take,length_drop];omega
theorem putAt_row {sz:Nat} {rows:List (List AV)} {j:Nat} {x:List AV} (h:∀r∈rows,r.length=sz) (hx:x.length=sz):∀r∈dL rows j x,r.length=sz:=by
 intro r hr
 rcases mem_append.1 hr with hr|hr
 ·exact h r (mem_of_mem_take hr)
 ·rcases mem_cons.1 hr with rfl|hr
  ·exact hx
  ·exact h r (mem_of_mem_drop hr)
set_option maxHeartbeats 2000000 in
theorem f155 (rows:List (List AV)) (v:AV) (κ:Store) (ho:bD 27 8 rows v κ) (j:Nat) (hj:j<=rows.length) (hl:rows.length<1000000) (bx:Nat) (x:List AV) (hx:x.length=8):
  ag G Tryz.prog 155 [v,.int .i64 j,.own (some bx) 27 8 [x]] (κ++[(bx,.tok 27 8)]) (λr σ'=>∃κ',bD 27 8 (dL rows j x) r κ'/\σ'=κ'++[(bx,.tok 27 8)]):=by
 by_cases hjn:j=rows.length
 ·subst hjn
  have hp:dL rows rows.length x=rows++[x]:=by unfold dL;rw[take_length,drop_length]
  rw[hp]
  refine ag.wn c155 λhnd=>?_
  unfold s155 r155
  obtain⟨base,cap,rfl,h⟩:=ho
  rcases h with⟨rfl,rfl,rfl⟩|⟨b,pad,rfl,rfl,h1,h2,h3,h4⟩
  ·have hem:la (.slice base 0 0):=by
    cases base with
    |none=>exact .inl rfl
    |some a=>exact .inr ⟨a,rfl⟩
   (repeat' (first|simp only[EVz,seval,↓reduceIte,EV6,EV7]|(refine oi (e:=27) (sz:=8) (by kernel_rfl) (by kernel_rfl) rfl ⟨_,rfl⟩ rfl rfl (λh=>by cases h) ?_)|(refine bY (e:=27) (e':=27) (sz:=8) (bytes:=120) (rows:=[]) (ys:=[x]) (g:=none) (xv:=.sc (.slice base 0 0)) (by kernel_rfl) (by kernel_rfl) (by kernel_rfl) (by kernel_rfl) (by decide) (by decide) rfl (.inl ⟨rfl,rfl,.inr ⟨_,rfl,hem⟩⟩) ⟨rfl,rfl⟩ (by simp) (λ_ h=>by cases h) (λb' cap' pad hb g1 g2 g3 g4=>?_))|fail))
   exact RET.mk' (SubN.refl _) ⟨_,bD.mk rfl g1 g2 g3 g4,rfl⟩
  ·have hbx:¬bx=b:=by
    simp[Store.keys]at hnd
    exact λe=>hnd e.symm
   have her:Store.erase [(b,AObj.cells 27 (rows.flatten++pad)),(bx,.tok 27 8)] (some b)=[(bx,.tok 27 8)]:=by simp[Store.erase,hbx]
   (repeat' (first|simp only[EVz,seval,↓reduceIte,EV6,EV7,her]|(refine aW (e:=27) (sz:=8) (l:=rows.length) (h:=rows.length) (m:=cap) _ _ _ (by kernel_rfl) (by kernel_rfl) rfl ⟨_,rfl⟩ rfl rfl (λh=>by cases h) (by omega) h1 (Nat.le_refl _) rfl rfl rfl ?_)|(refine bY (e:=27) (e':=27) (sz:=8) (bytes:=120) (rows:=rows) (ys:=[x]) (g:=some b) (xv:=.sc (.slice (some ⟨b,0,none⟩) rows.length cap)) (by kernel_rfl) (by kernel_rfl) (by kernel_rfl) (by kernel_rfl) (by decide) (by decide) rfl (.inr ⟨b,cap,pad,rfl,rfl,if_pos rfl,h3,h4,h1,h2⟩) ⟨rfl,rfl⟩ (by simp;omega) (λ_ h=>by cases h) (λb' cap' pad' hb g1 g2 g3 g4=>?_))|fail))
   exact RET.mk' (SubN.refl _) ⟨_,bD.mk (by simp) g1 g2 g3 g4,rfl⟩
 ·obtain⟨base,cap,rfl,h⟩:=ho
  rcases h with⟨rfl,rfl,rfl⟩|⟨b,pad,rfl,rfl,h1,h2,h3,h4⟩
  ·simp at hj
   exact absurd hj hjn
  refine ag.wn c155 λhnd=>?_
  unfold s155 r155
  have hbx:¬bx=b:=by
   simp[Store.keys]at hnd
   exact λe=>hnd e.symm
  have hbx2:¬b=bx:=λe=>hbx e.symm
  have e0:decide ((j:Int)=(rows.length:Int))=false:=decide_eq_false (by omega)
  have w1:IntKind.i64.wrap ((rows.length:Int)+1)=((rows.length+1:Nat):Int):=by rw[aA (by omega) (by omega)];omega
  have w2:IntKind.i64.wrap (((rows.length+1:Nat):Int)-(j:Int))=((rows.length+1-j:Nat):Int):=by rw[aA (by omega) (by omega)];omega
  have w3:IntKind.i64.wrap ((j:Int)+1)=((j+1:Nat):Int):=by rw[aA (by omega) (by omega)];omega
  have hlt:j<rows.length:=by omega
  have htl:(rows.take j).flatten.length=j*8:=by rw[au _ (λr hr=>h3 r (mem_of_mem_take hr)),length_take,Nat.min_eq_left (by omega)]
  have hdl:(rows.drop j).flatten.length=(rows.length-j)*8:=by rw[au _ (λr hr=>h3 r (mem_of_mem_drop hr)),length_drop]
  have hpl:=putAt_len rows j x
  have hpr:=putAt_row (j:=j) h3 hx
  have hpf:∀D,(dL rows j x).flatten++D=(rows.take j).flatten++(x++((rows.drop j).flatten++D)):=λD=>by unfold dL;simp[append_assoc]
  by_cases hc:rows.length+1<=cap
  ·have e1:decide ((cap:Int)<((rows.length+1:Nat):Int))=false:=decide_eq_false (by omega)
   have hpad:8<=pad.length:=by
    have:=au rows h3
    rw[length_append]at h4
    omega
   have hrj:rows[j].length=8:=h3 _ (getElem_mem hlt)
   have hcs:rows.flatten++pad=(rows.take j).flatten++((rows.drop j++[pad.take 8]).flatten++pad.drop 8):=by
    have h5:rows.flatten=(rows.take j).flatten++(rows.drop j).flatten:=by rw[←flatten_append,take_append_drop]
    rw[h5]
    simp[append_assoc]
   have hRA:RowsAt 8 (rows.flatten++pad) (j*8) (rows.length+1-j) (rows.drop j++[pad.take 8]):=by
    rw[hcs]
    refine RowsAt.mid htl.symm (by simp;omega) (λr hr=>?_)
    rcases mem_append.1 hr with hr|hr
    ·exact h3 r (mem_of_mem_drop hr)
    ·simp only[mem_singleton]at hr;subst hr;rw[length_take];omega
   have htk:(rows.drop j++[pad.take 8]).take (rows.length-j)=rows.drop j:=by
    rw[take_append_of_le_length (by rw[length_drop];omega),take_of_length_le (by rw[length_drop];omega)]
   have hsp1:aH (rows.flatten++pad) ((j+1)*8) ((rows.drop j++[pad.take 8]).take (rows.length-j)).flatten=(rows.take j).flatten++(rows[j]++((rows.drop j).flatten++pad.drop 8)):=by
    have hfl:=au rows h3
    have hdd:rows.flatten.drop ((j+1)*8+(rows.drop j).flatten.length)=[]:=drop_eq_nil_of_le (by rw[hdl,hfl];omega)
    rw[htk,aY _ _ _ (by rw[hdl,h4];omega),lT h3 (by omega),drop_append,hdd,nil_append,hdl,hfl,show(j+1)*8+(rows.length-j)*8-rows.length*8=8 by omega,take_succ_eq_append_getElem hlt,flatten_append]
    simp[append_assoc]
   have hsp2:aH ((rows.take j).flatten++(rows[j]++((rows.drop j).flatten++pad.drop 8))) (j*8) ([x].take 1).flatten=(dL rows j x).flatten++pad.drop 8:=by
    rw[hpf]
    simpa using ey (A:=(rows.take j).flatten) (B:=rows[j]) (B':=x) (C:=(rows.drop j).flatten++pad.drop 8) htl.symm (by rw[hx,hrj])
   have hcne:rows.flatten++pad≠[]:=λh=>by
    have:=congrArg List.length h
    rw[h4]at this
    simp at this
    omega
   have hm1:min (rows.drop j++[pad.take 8]).length (rows.length-j)=rows.length-j:=by rw[length_append,length_drop];exact Nat.min_eq_right (Nat.le_add_right _ _)
   have hm2:min [x].length (rows.length+1-j)=1:=Nat.min_eq_left (by simp;omega)
   have hm3:j*8+1*8<=((rows.take j).flatten++(rows[j]++((rows.drop j).flatten++pad.drop 8))).length:=by rw[length_append,length_append,htl,hrj];omega
   have hg1:Store.get [(b,AObj.cells 27 (rows.flatten++pad)),(bx,.tok 27 8)] bx=some (.tok 27 8):=by simp[Store.get,hbx2]
   have hg2:Store.get [(b,AObj.cells 27 (rows.flatten++pad)),(bx,.tok 27 8)] b=some (.cells 27 (rows.flatten++pad)):=by simp[Store.get]
   generalize hrr:rows[j]=rj at*
   (repeat' (first|simp only[EVz,seval,↓reduceIte,EV6,EV7,e0,w1,e1,w3]|(with_reducible refine ae ?_ ?_)|(with_reducible refine af ?_)|(refine aW (e:=27) (sz:=8) (l:=j) (h:=rows.length) (m:=cap) _ _ _ (by kernel_rfl) (by kernel_rfl) rfl ⟨_,rfl⟩ rfl rfl (λh=>by cases h) (by omega) h1 (Nat.le_refl _) rfl rfl rfl ?_)|(refine nU (e:=27) rfl (by kernel_rfl) ?_)|(refine aW (e:=27) (sz:=8) (l:=0) (h:=rows.length+1) (m:=cap) 0 (rows.length+1) cap (by kernel_rfl) (by kernel_rfl) rfl rfl ⟨_,rfl⟩ rfl (λh=>by cases h) (by omega) hc (Nat.le_refl _) (by split<;>rfl) rfl rfl ?_)|(refine aW (e:=27) (sz:=8) (l:=j+1) (h:=rows.length+1) (m:=cap) ((j+1)*8) (rows.length-j) (cap-(j+1)) (by kernel_rfl) (by kernel_rfl) rfl ⟨_,rfl⟩ rfl rfl (λh=>by cases h) (by omega) hc (Nat.le_refl _) (by rw[if_neg (by omega)];omega) (by omega) rfl ?_)|(refine CALL_x _ [] (x233 G hbx hg1 hg2 hcne) (ax.rfl' _) (by rw[append_nil];exact SubN.refl _) (λr' σ'' h'=>?_))|(obtain⟨rfl,rfl⟩:=h')|(refine aW (e:=27) (sz:=8) (l:=j) (h:=rows.length+1) (m:=cap) (j*8) (rows.length+1-j) (cap-j) (by kernel_rfl) (by kernel_rfl) rfl ⟨_,rfl⟩ rfl rfl (λh=>by cases h) (by omega) hc (Nat.le_refl _) (by rw[if_neg (by omega)];omega) (by omega) rfl ?_)|(refine gy (elem:=27) (sz:=8) (b:=b) (ys:=rows.drop j++[pad.take 8]) (rows.length-j) _ (by kernel_rfl) (by kernel_rfl) rfl (if_pos rfl) (.inr ⟨b,j*8,_,_,27,_,rfl,if_pos rfl,hRA⟩) hm1 (by omega) (by rw[h4];omega) hsp1 ?_)|(refine gy (elem:=27) (sz:=8) (b:=b) (ys:=[x]) 1 _ (by kernel_rfl) (by kernel_rfl) rfl (if_pos rfl) (.inl ⟨rfl,rfl⟩) hm2 (by omega) hm3 hsp2 ?_)|fail))
   all_goals
    refine RET.mk' (SubN.refl _) ⟨_,bD.mk hpl.symm (by omega) h2 hpr ?_,rfl⟩
    rw[hpf,length_append,length_append,length_append,htl,hdl,hx,length_drop]
    rw[length_append,au rows h3]at h4
    omega
  ·have e1:decide ((cap:Int)<((rows.length+1:Nat):Int))=true:=decide_eq_true (by omega)
   have hjk:j+(rows.length+1-j)=rows.length+1:=by omega
   have hnk:rows.length+1-j=(rows.length-j)+1:=by omega
   have hm1:min [x].length (rows.length+1-j)=1:=Nat.min_eq_left (by simp;omega)
   have hm2:min (rows.drop j).length (rows.length-j)=rows.length-j:=by rw[length_drop];exact Nat.min_self _
   obtain⟨z0,hz0,hz1⟩:∃z0,cK Tryz.prog 27=some z0/\z0.length=8:=⟨zU,by kernel_rfl,rfl⟩
   have hzl:∀k,(List.replicate k z0).flatten.length=k*8:=λk=>by rw[cb,hz1]
   have hsp1:∀pad':List AV,aH ((rows.take j).flatten++((List.replicate (rows.length+1-j) z0).flatten++pad')) (j*8) ([x].take 1).flatten=(rows.take j).flatten++(x++((List.replicate (rows.length-j) z0).flatten++pad')):=λpad'=>by
    rw[hnk,replicate_succ,flatten_cons,append_assoc]
    simpa using ey (A:=(rows.take j).flatten) (B:=z0) (B':=x) (C:=(List.replicate (rows.length-j) z0).flatten++pad') htl.symm (by rw[hx,hz1])
   have htd:(rows.drop j).take (rows.length-j)=rows.drop j:=take_of_length_le (by rw[length_drop];omega)
   have hsp2:∀pad':List AV,aH ((rows.take j).flatten++(x++((List.replicate (rows.length-j) z0).flatten++pad'))) ((j+1)*8) ((rows.drop j).take (rows.length-j)).flatten=(dL rows j x).flatten++pad':=λpad'=>by
    rw[htd,hpf]
    simpa[append_assoc]using ey (o:=(j+1)*8) (A:=(rows.take j).flatten++x) (B:=(List.replicate (rows.length-j) z0).flatten) (B':=(rows.drop j).flatten) (C:=pad') (by rw[length_append,htl,hx];omega) (by rw[hdl,hzl])
   (repeat' (first|simp only[EVz,seval,↓reduceIte,EV6,EV7,e0,w1,e1,w2,w3,hjk]|(with_reducible refine ae ?_ ?_)|(with_reducible refine af ?_)|(refine aW (e:=27) (sz:=8) (l:=j) (h:=rows.length) (m:=cap) (j*8) (rows.length-j) (cap-j) (by kernel_rfl) (by kernel_rfl) rfl ⟨_,rfl⟩ rfl rfl (λh=>by cases h) (by omega) (by omega) (Nat.le_refl _) (by rw[if_neg (by omega)];omega) rfl rfl ?_)|(refine nU (e:=27) rfl (by kernel_rfl) ?_)|(refine aW (e:=27) (sz:=8) (l:=0) (h:=j) (m:=cap) 0 j cap (by kernel_rfl) (by kernel_rfl) rfl rfl ⟨_,rfl⟩ rfl (λh=>by cases h) (by omega) (by omega) (Nat.le_refl _) (by split<;>rfl) rfl rfl ?_)|(refine jD (e:=27) (sz:=8) (bytes:=120) (rows:=rows.take j) (k:=rows.length+1-j) (z:=z0) (kn:=.i64) (by kernel_rfl) (by kernel_rfl) (by kernel_rfl) hz0 hz1 (by decide) (by decide) rfl (if_pos rfl) (RowsAt.head h3 (by omega)) rfl (by omega) (by omega) (by rw[hjk];omega) (λb' cap' pad' hb' g1 g2 g3=>?_))|(simp only[Store.keys,map_cons,map_nil,mem_cons,not_mem_nil,or_false,not_or]at hb')|(refine aW (e:=27) (sz:=8) (l:=j) (h:=rows.length+1) (m:=cap') (j*8) (rows.length+1-j) (cap'-j) (by kernel_rfl) (by kernel_rfl) rfl ⟨_,rfl⟩ rfl rfl (λh=>by cases h) (by omega) (by omega) (Nat.le_refl _) (by rw[if_neg (by omega)];omega) rfl rfl ?_)|(refine gy (elem:=27) (sz:=8) (b:=b') (ys:=[x]) 1 _ (by kernel_rfl) (by kernel_rfl) rfl (if_pos rfl) (.inl ⟨rfl,rfl⟩) hm1 (by omega) (by rw[length_append,length_append,htl,hzl];omega) (hsp1 pad') ?_)|(refine aW (e:=27) (sz:=8) (l:=j+1) (h:=rows.length+1) (m:=cap') ((j+1)*8) (rows.length-j) (cap'-(j+1)) (by kernel_rfl) (by kernel_rfl) rfl ⟨_,rfl⟩ rfl rfl (λh=>by cases h) (by omega) (by omega) (Nat.le_refl _) (by rw[if_neg (by omega)];omega) (by omega) rfl ?_)|(refine gy (elem:=27) (sz:=8) (b:=b') (ys:=rows.drop j) (rows.length-j) _ (by kernel_rfl) (by kernel_rfl) rfl (if_pos rfl) (.inr ⟨b,j*8,_,_,27,_,rfl,(if_neg hb'.1).trans (if_pos rfl),RowsAt.tail h3 (by omega)⟩) hm2 (by omega) (by rw[length_append,length_append,length_append,htl,hx,hzl];omega) (hsp2 pad') ?_)|fail))
   all_goals
    refine RET.mk' (σ':=[(b',AObj.cells 27 ((dL rows j x).flatten++pad'))]++[(bx,.tok 27 8)]) ⟨λq hq=>?_,λhn=>?_⟩ ⟨_,bD.mk hpl.symm (by omega) g2 hpr ?_,rfl⟩
    ·simp only[cons_append,nil_append,mem_cons,not_mem_nil,or_false]at hq ⊢
     rcases hq with hq|hq
     ·exact .inl hq
     ·exact .inr (.inr hq)
    ·simp[Store.keys]
     exact hb'.2
    ·rw[hpf,length_append,length_append,length_append,htl,hdl,hx]
     rw[length_append,length_append,htl,hzl]at g3
     omega
end
section
variable (G:Glob)
theorem f229 (f:Value) (N:Nat) (St:List U->Store->Prop) (hN:N<1000000):
  ∀(u:U),u.Tame->(∀x∈u.flat,∀pre σ,St pre σ->pre.length<N->cd G Tryz.prog f [.agg x.cs] σ (λr σ'=>St (pre++[x]) σ'))->
   ∀pre σ,St pre σ->pre.length+u.flat.length<=N->ag G Tryz.prog 229 [.agg u.cs,.sc f] σ (λr σ'=>St (pre++u.flat) σ'):=by
 refine U.ind λu ih ht hf pre σ hSt hle=>?_
 have hkl:=ht.kids
 have hfl:=u.flat_eq
 have hlen:u.flat.length=1+(U.flats u.kids).length:=by rw[hfl,length_cons];omega
 refine ag.w c229 ?_
 unfold s229 r229
 (repeat' (simp only[EVz,seval,↓reduceIte,EV6,EV7]))
 refine aZ σ [] (hf u u.flat_self pre σ hSt (by omega)) (ax.rfl' _) (by simpa using SubN.refl _) ?_
 rintro r σ' hSt'
 rw[append_nil]
 (repeat' (first|simp only[EVz,seval,↓reduceIte,EV6,EV7,hx.yes,hx.le0,hx.lt',hx.get,hx.row,hw]|simp only[EVz,seval,↓reduceIte,EV6,EV7,hn]|simp only[EVz,seval,↓reduceIte,EV6,EV7]|(with_reducible intro blk hblk;(try(have hnx:=hblk;simp only[EVK]at hnx;(have hne:=hnx))))|(refine ay (ι:=Store×List U) u.kids (λi r c=>St c.2 c.1/\pre++u.flat=c.2++U.flats r/\c.2.length+(U.flats r).length<=N) (λi c=>[(1,.sc f),(10,.lst 8 (u.kids.map U.cs)),(11,.int .i64 u.kids.length),(12,.int .i64 i)]) (λi c=>c.1) (σ',pre++[u]) ⟨hSt',by rw[hfl];simp,by simp;omega⟩ (Weak.rfl' _ _) (by omega) (λi x r c hok hx hw=>?_) (λc hok hn=>?_))|fail))
 ·obtain⟨o1,o2,o3⟩:=hok
  rw[flats_cons]at o2 o3
  rw[length_append]at o3
  refine aZ c.1 [(blk,.cells 27 x.cs)] (ih x hx.mem (ht.kid hx.mem) (λy hy=>hf y (flat_kids hx.mem hy)) c.2 c.1 o1 (by omega)).v (ax.rfl' _) SubN.comm1 ?_
  rintro r' σ2 hS2
  (repeat' (simp only[EVz,seval,↓reduceIte,EV6,EV7,hw]))
  exact ap hx (σ2,c.2++x.flat) ⟨hS2,by rw[o2,append_assoc],by simp;omega⟩ (Weak.sub SubN.left)
 ·obtain⟨o1,o2,o3⟩:=hok
  exact RET.mk (SubN.refl _) (by rw[o2,flats_nil,append_nil];exact o1)
def St1 (b3 b5:Nat) (p:List Stp) (s:Stp) (pre:List U) (σ:Store):Prop:=∃v κ,(bD 27 8 ((pre.filter λx=>aL x s).map U.cs) v κ\/(pre.filter λx=>aL x s)=[]/\v= .nil/\κ=[])/\σ=[(b3,.cells 46 [.lst 2 (p.map Stp.cs)]),(b5,.cells 25 [v])]++κ
theorem f230 (b3 b5:Nat) (s:Stp) (rs:List Stp) (x:U) (pre:List U) (hpre:pre.length<1000000) (σ:Store) (hS:St1 b3 b5 (s::rs) s pre σ):
  ag G Tryz.prog 230 [.agg x.cs,.sc (.pointer (some ⟨b3,0,none⟩)),.sc (.pointer (some ⟨b5,0,none⟩))] σ (λr σ'=>St1 b3 b5 (s::rs) s (pre++[x]) σ'):=by
 obtain⟨v,κ,ho,rfl⟩:=hS
 have hC:=f231 G x s
 have hfl:(pre.filter λx=>aL x s).length<=pre.length:=length_filter_le _ _
 obtain⟨L,hL⟩:∃L,pre.filter (λx=>aL x s)=L:=⟨_,rfl⟩
 rw[hL]at ho hfl
 refine ag.wn c230 λhnd=>?_
 unfold s230 r230
 have hL1:(pre++[x]).filter (λx=>aL x s)=if aL x s=true then L++[x]else L:=by
  rw[filter_append,hL]
  cases hq:aL x s<;>simp[hq]
 rcases ho with⟨base,cap,rfl,⟨h0,rfl,rfl⟩|⟨b,pad,rfl,rfl,h1,h2,h3,h4⟩⟩|⟨h0,rfl,rfl⟩
 ·have hL0:L=[]:=by simpa using h0
  subst hL0
  have hn53:¬b5=b3:=by simp[Store.keys]at hnd;exact λe=>hnd e.symm
  have hn35:¬b3=b5:=λe=>hn53 e.symm
  cases hc:aL x s with
  |false=>
   rw[hc]at hC hL1
   (repeat' (first|(with_reducible refine AI (by omega) ?_)|(with_reducible refine aa hC ?_)|simp only[EVz,seval,↓reduceIte,EV6,EV7,hn53,hn35,map_cons,getD_cons_zero]|fail))
   all_goals exact RET.mk' (SubN.refl _) ⟨_,[],.inl (by rw[hL1];exact⟨base,0,rfl,.inl ⟨rfl,rfl,rfl⟩⟩),rfl⟩
  |true=>
   rw[hc]at hC hL1
   have hem:la (.slice base 0 0):=by
    cases base with
    |none=>exact .inl rfl
    |some a=>exact .inr ⟨a,rfl⟩
   obtain⟨z0,hz0⟩:∃z0:List AV,z0=[.int .i64 0,.int .i64 0,.int .i64 0,.int .i64 0,.str [],.nil,.nil,.nil]:=⟨_,rfl⟩
   have hzl:z0.length=8:=by rw[hz0];rfl
   have hdr:∀pad':List AV,([z0].flatten++pad').drop 8=pad':=λpad'=>by rw[←hzl];simp
   have hln:∀pad':List AV,8<=([z0].flatten++pad').length:=λpad'=>by rw[length_append];simp[hzl]
   (repeat' (first|(with_reducible refine AI (by omega) ?_)|(with_reducible refine aa hC ?_)|simp only[EVz,seval,↓reduceIte,EV6,EV7,hn53,hn35,map_cons,getD_cons_zero,dx,hdr,hne]|simp only[EVz,seval,↓reduceIte,EV6,EV7,hn53,hn35,map_cons,getD_cons_zero,dx,hdr]|(with_reducible intro blk hblk;(try(have hnx:=hblk;simp only[EVK]at hnx;(have hne:=hnx))))|(with_reducible refine ae ?_ ?_)|(refine⟨[z0],rfl,(by simp[hzl]),(by simp[hz0]),?_⟩)|(refine bY (e:=27) (e':=27) (sz:=8) (bytes:=120) (rows:=[]) (ys:=[z0]) (g:=none) (xv:=.sc (.slice base 0 0)) (by kernel_rfl) (by kernel_rfl) (by kernel_rfl) (by kernel_rfl) (by decide) (by decide) rfl (.inl ⟨rfl,rfl,.inr ⟨_,rfl,hem⟩⟩) ⟨rfl,rfl⟩ (by simp) (λ_ h=>by cases h) (λb' cap' pad' hb g1 g2 g3 g4=>?_))|((simp only[EVK,dx]at hb;have hne:=AI hb hne))|(refine⟨hln _,_,_,Weak.rfl' _ _,?_⟩)|fail))
   all_goals
    refine RET.mk' (σ':=[(b3,AObj.cells 46 [.lst 2 ((s::rs).map Stp.cs)]),(b5,AObj.cells 25 [.sc (.slice (some ⟨b',0,none⟩) 1 cap')])]++[(b',AObj.cells 27 (x.cs++pad'))]) (SubN.trans (SubN.perm (perm_append_comm (l₁:=[_,_]) (l₂:=[_]))) (SubN.cons (SubN.tail (SubN.refl _) _) _)) ⟨_,_,.inl ?_,rfl⟩
    have:=bD.mk (e:=27) (sz:=8) (b:=b') (rows:=[x.cs]) (pad:=pad') (n:=1) (cap:=cap') rfl g1 g2 (by simp[U.cs_len]) (by rw[←g4];simp[U.cs_len,hzl])
    rw[hL1]
    simpa using this
 ·have hn53:¬b5=b3:=by simp[Store.keys]at hnd;exact λe=>hnd.1.1 e.symm
  have hn35:¬b3=b5:=λe=>hn53 e.symm
  have hn3b:¬b3=b:=by simp[Store.keys]at hnd;exact hnd.1.2
  have hn5b:¬b5=b:=by simp[Store.keys]at hnd;exact hnd.2
  have hnb3:¬b=b3:=λe=>hn3b e.symm
  have hnb5:¬b=b5:=λe=>hn5b e.symm
  rw[length_map]at h1
  cases hc:aL x s with
  |false=>
   rw[hc]at hC hL1
   (repeat' (first|(with_reducible refine AI (by omega) ?_)|(with_reducible refine aa hC ?_)|simp only[EVz,seval,↓reduceIte,EV6,EV7,hn53,hn35,hn3b,hn5b,hnb3,hnb5,map_cons,getD_cons_zero,length_map]|fail))
   all_goals exact RET.mk' (SubN.refl _) ⟨_,[(b,_)],.inl (by rw[hL1];exact bD.mk (by simp) (by rw[length_map];exact h1) h2 h3 h4),rfl⟩
  |true=>
   rw[hc]at hC hL1
   obtain⟨z0,hz0⟩:∃z0:List AV,z0=[.int .i64 0,.int .i64 0,.int .i64 0,.int .i64 0,.str [],.nil,.nil,.nil]:=⟨_,rfl⟩
   have hzl:z0.length=8:=by rw[hz0];rfl
   obtain⟨R0,hR0⟩:∃R0,L.map U.cs=R0:=⟨_,rfl⟩
   have hRl:R0.length=L.length:=by rw[←hR0,length_map]
   rw[hR0]at h3 h4
   have hfl:=au R0 h3
   have hsp:∀pad':List AV,aH ((R0++[z0]).flatten++pad') (0+R0.length*8) x.cs=(R0++[x.cs]).flatten++pad':=λpad'=>by
    rw[flatten_append,flatten_append,append_assoc,append_assoc]
    simpa using ey (A:=R0.flatten) (B:=z0) (B':=x.cs) (C:=pad') (o:=R0.length*8) (by rw[hfl]) (by rw[U.cs_len,hzl])
   have hln:∀pad':List AV,0+R0.length*8+8<=((R0++[z0]).flatten++pad').length:=λpad'=>by rw[length_append,flatten_append,length_append,hfl];simp[hzl]
   have hll:(R0++[z0]).length=R0.length+1:=by rw[length_append];rfl
   (repeat' (first|(with_reducible refine AI (by omega) ?_)|(with_reducible refine aa hC ?_)|simp only[EVz,seval,↓reduceIte,EV6,EV7,hn53,hn35,hn3b,hn5b,hnb3,hnb5,map_cons,getD_cons_zero,length_map,jV,lE,hsp,hll,hR0,hne]|simp only[EVz,seval,↓reduceIte,EV6,EV7,hn53,hn35,hn3b,hn5b,hnb3,hnb5,map_cons,getD_cons_zero,length_map,jV,lE,hsp,hll,hR0]|(with_reducible intro blk hblk;(try(have hnx:=hblk;simp only[EVK]at hnx;(have hne:=hnx))))|(with_reducible refine ae ?_ ?_)|(with_reducible refine af ?_)|(refine⟨[z0],rfl,(by simp[hzl]),(by simp[hz0]),?_⟩)|(refine bY (e:=27) (e':=27) (sz:=8) (bytes:=120) (rows:=R0) (ys:=[z0]) (g:=some b) (xv:=.sc (.slice (some ⟨b,0,none⟩) R0.length cap)) (by kernel_rfl) (by kernel_rfl) (by kernel_rfl) (by kernel_rfl) (by decide) (by decide) rfl (.inr ⟨b,cap,pad,rfl,rfl,(by simp[Store.get,hne,hn3b,hn5b]),h3,h4,by omega,h2⟩) ⟨rfl,rfl⟩ (by rw[hRl];simp;omega) (λ_ h=>by cases h) (λb' cap' pad' hb g1 g2 g3 g4=>?_))|((simp[Store.keys,Store.erase,hne,hn3b,hn5b]at hb;have hne:=AI hb hne))|fail))
   all_goals
    refine RET.mk' (σ':=[(b3,AObj.cells 46 [.lst 2 ((s::rs).map Stp.cs)]),(b5,AObj.cells 25 [.sc (.slice (some ⟨b',0,none⟩) (R0.length+1) cap')])]++[(b',AObj.cells 27 ((R0++[x.cs]).flatten++pad'))]) (SubN.trans (SubN.perm (perm_append_comm (l₁:=[_,_]) (l₂:=[_]))) (SubN.cons (SubN.tail (SubN.refl _) _) _)) ⟨_,_,.inl ?_,rfl⟩
    have hrow:∀r∈R0++[x.cs],r.length=8:=λr hr=>by
     rcases mem_append.1 hr with hr|hr
     ·exact h3 r hr
     ·simp only[mem_singleton]at hr;subst hr;exact U.cs_len x
    have:=bD.mk (e:=27) (sz:=8) (b:=b') (rows:=R0++[x.cs]) (pad:=pad') (n:=R0.length+1) (cap:=cap') (by simp) (by simpa using g1) g2 hrow (by rw[←g4];simp[U.cs_len,hzl])
    rw[hL1]
    simpa[hR0]using this
 ·subst h0
  have hn53:¬b5=b3:=by simp[Store.keys]at hnd;exact λe=>hnd e.symm
  have hn35:¬b3=b5:=λe=>hn53 e.symm
  cases hc:aL x s with
  |false=>
   rw[hc]at hC hL1
   (repeat' (first|(with_reducible refine AI (by omega) ?_)|(with_reducible refine aa hC ?_)|simp only[EVz,seval,↓reduceIte,EV6,EV7,hn53,hn35,map_cons,getD_cons_zero]|fail))
   all_goals exact RET.mk' (SubN.refl _) ⟨_,[],.inr ⟨by rw[hL1];rfl,rfl,rfl⟩,rfl⟩
  |true=>
   rw[hc]at hC hL1
   obtain⟨z0,hz0⟩:∃z0:List AV,z0=[.int .i64 0,.int .i64 0,.int .i64 0,.int .i64 0,.str [],.nil,.nil,.nil]:=⟨_,rfl⟩
   have hzl:z0.length=8:=by rw[hz0];rfl
   have hdr:∀pad':List AV,([z0].flatten++pad').drop 8=pad':=λpad'=>by rw[←hzl];simp
   have hln:∀pad':List AV,8<=([z0].flatten++pad').length:=λpad'=>by rw[length_append];simp[hzl]
   (repeat' (first|(with_reducible refine AI (by omega) ?_)|(with_reducible refine aa hC ?_)|simp only[EVz,seval,↓reduceIte,EV6,EV7,hn53,hn35,map_cons,getD_cons_zero,dx,hdr,hne]|simp only[EVz,seval,↓reduceIte,EV6,EV7,hn53,hn35,map_cons,getD_cons_zero,dx,hdr]|(with_reducible intro blk hblk;(try(have hnx:=hblk;simp only[EVK]at hnx;(have hne:=hnx))))|(with_reducible refine ae ?_ ?_)|(refine⟨[z0],rfl,(by simp[hzl]),(by simp[hz0]),?_⟩)|(refine bY (e:=27) (e':=27) (sz:=8) (bytes:=120) (rows:=[]) (ys:=[z0]) (g:=none) (xv:=.nil) (by kernel_rfl) (by kernel_rfl) (by kernel_rfl) (by kernel_rfl) (by decide) (by decide) rfl (.inl ⟨rfl,rfl,.inl rfl⟩) ⟨rfl,rfl⟩ (by simp) (λ_ h=>by cases h) (λb' cap' pad' hb g1 g2 g3 g4=>?_))|((simp only[EVK,dx]at hb;have hne:=AI hb hne))|(refine⟨hln _,_,_,Weak.rfl' _ _,?_⟩)|fail))
   all_goals
    refine RET.mk' (σ':=[(b3,AObj.cells 46 [.lst 2 ((s::rs).map Stp.cs)]),(b5,AObj.cells 25 [.sc (.slice (some ⟨b',0,none⟩) 1 cap')])]++[(b',AObj.cells 27 (x.cs++pad'))]) (SubN.trans (SubN.perm (perm_append_comm (l₁:=[_,_]) (l₂:=[_]))) (SubN.cons (SubN.tail (SubN.refl _) _) _)) ⟨_,_,.inl ?_,rfl⟩
    have:=bD.mk (e:=27) (sz:=8) (b:=b') (rows:=[x.cs]) (pad:=pad') (n:=1) (cap:=cap') rfl g1 g2 (by simp[U.cs_len]) (by rw[←g4];simp[U.cs_len,hzl])
    rw[hL1]
    simpa using this
end
end Go.Av
