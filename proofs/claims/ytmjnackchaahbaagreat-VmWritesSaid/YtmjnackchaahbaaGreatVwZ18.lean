/- Part 18 of the texts that the walk leans on: the machine, the walks, the plain laws. -/
import Derived.Shelf.SlIterI.Nil
import Derived.Shelf.SortM.Plain
import Derived.Shelf.SortM.SortNone
import Derived.Ground.GgzProg
import Derived.Ground.SlgmProg
import Derived.Test.YtmjnackchaahbaaGreatVwZ17
set_option linter.unusedSimpArgs false
set_option linter.unusedVariables false
namespace Go.Proofs.YtmjnackchaahbaaGreat
open Go.RowKit Go.Maps Go.Sort Go.Shelf

def mH:Go.Shelf.Ren:=⟨fun | 7=> 95 | 10=> 158 | n=> n,fun | 23=> 175 | 26=> 3 | 3=> 176 | 28=> 179 | 0=> 0 | 27=> 178 | 33=> 216 | 4=> 4 | n=> n,fun | n=> n⟩
theorem AP:Go.Proofs.SlLaysZI.n7 Tryz.prog mH:=
  { mixed:=by kernel_rfl,
    f7:=⟨Tryz.f95.name,by decide,Tryz.func95.trans (congrArg some ae)⟩,
    f10:=⟨Tryz.f158.name,by decide,Tryz.func158.trans (congrArg some ae)⟩,
    t0:=Tryz.underlying0,
    a0:=Tryz.isAgg0,
    z0:=Tryz.sizeOf0,
    v0:=Tryz.zeroValue0,
    t4:=Tryz.underlying4,
    a4:=Tryz.isAgg4,
    z4:=Tryz.sizeOf4,
    v4:=Tryz.zeroValue4,
    t23:=Tryz.underlying175,
    a23:=Tryz.isAgg175,
    z23:=Tryz.sizeOf175,
    v23:=Tryz.zeroValue175,
    t26:=Tryz.underlying3,
    a26:=Tryz.isAgg3,
    z26:=Tryz.sizeOf3,
    v26:=Tryz.zeroValue3,
    t27:=Tryz.underlying178,
    a27:=Tryz.isAgg178,
    z27:=Tryz.sizeOf178,
    v27:=Tryz.zeroValue178,
    t28:=Tryz.underlying179,
    a28:=Tryz.isAgg179,
    z28:=Tryz.sizeOf179,
    v28:=Tryz.zeroValue179,
    t33:=Tryz.underlying216,
    a33:=Tryz.isAgg216,
    z33:=Tryz.sizeOf216,
    v33:=Tryz.zeroValue216 }
def kG:Go.Shelf.Ren:=⟨fun | 6=> 94 | 8=> 156 | 9=> 157 | 11=> 191 | 13=> 193 | 12=> 192 | 23=> 219 | 24=> 220 | 14=> 211 | 15=> 212 | 16=> 213 | 17=> 214 | 18=> 215 | 19=> 216 | 20=> 207 | 21=> 217 | 22=> 218 | 25=> 230 | 26=> 231 | 27=> 232 | 28=> 233 | 29=> 234 | 30=> 228 | 31=> 239 | n=> n,fun | 26=> 3 | 28=> 179 | 24=> 22 | 0=> 0 | 3=> 3 | 37=> 243 | 48=> 260 | 50=> 262 | 4=> 4 | 40=> 254 | 39=> 253 | 45=> 193 | 5=> 5 | 9=> 9 | 51=> 265 | 55=> 269 | 57=> 272 | 58=> 273 | 33=> 216 | n=> n,fun | n=> n⟩
theorem wc:Go.Proofs.SlLaysZI.n6 Tryz.prog kG:=
  { mixed:=by kernel_rfl,
    f6:=⟨Tryz.f94.name,by decide,Tryz.func94.trans (congrArg some ae)⟩,
    f8:=⟨Tryz.f156.name,by decide,Tryz.func156.trans (congrArg some ae)⟩,
    f11:=⟨Tryz.f191.name,by decide,Tryz.func191.trans (congrArg some ae)⟩,
    t0:=Tryz.underlying0,
    a0:=Tryz.isAgg0,
    z0:=Tryz.sizeOf0,
    v0:=Tryz.zeroValue0,
    t24:=Tryz.underlying22,
    a24:=Tryz.isAgg22,
    z24:=Tryz.sizeOf22,
    v24:=Tryz.zeroValue22,
    t26:=Tryz.underlying3,
    a26:=Tryz.isAgg3,
    z26:=Tryz.sizeOf3,
    v26:=Tryz.zeroValue3,
    t28:=Tryz.underlying179,
    a28:=Tryz.isAgg179,
    z28:=Tryz.sizeOf179,
    v28:=Tryz.zeroValue179,
    i26:=by kernel_rfl }
def qP:Go.Shelf.Ren:=⟨fun | 5=> 157 | 8=> 193 | 7=> 192 | 19=> 219 | 20=> 220 | 10=> 211 | 11=> 212 | 12=> 213 | 13=> 214 | 14=> 215 | 15=> 216 | 16=> 207 | 17=> 217 | 18=> 218 | 30=> 230 | 31=> 231 | 32=> 232 | 33=> 233 | 34=> 234 | 35=> 228 | 40=> 239 | n=> n,fun | 23=> 22 | 25=> 3 | 3=> 3 | 32=> 243 | 22=> 22 | 0=> 0 | 44=> 260 | 46=> 262 | 4=> 4 | 36=> 254 | 35=> 253 | 41=> 193 | 5=> 5 | 9=> 9 | 53=> 265 | 57=> 269 | 63=> 272 | 64=> 273 | n=> n,fun | n=> n⟩
theorem uk:Go.Proofs.SlLaysM.n5 Tryz.prog qP:=
  { mixed:=by kernel_rfl,
    f5:=⟨Tryz.f157.name,by decide,Tryz.func157.trans (congrArg some ae)⟩,
    f7:=⟨Tryz.f192.name,by decide,Tryz.func192.trans (congrArg some ae)⟩,
    f8:=Tryz.func193.trans (congrArg some ae),
    f10:=⟨Tryz.f211.name,by decide,Tryz.func211.trans (congrArg some ae)⟩,
    f11:=⟨Tryz.f212.name,by decide,Tryz.func212.trans (congrArg some ae)⟩,
    f12:=⟨Tryz.f213.name,by decide,Tryz.func213.trans (congrArg some ae)⟩,
    f13:=⟨Tryz.f214.name,by decide,Tryz.func214.trans (congrArg some ae)⟩,
    f14:=⟨Tryz.f215.name,by decide,Tryz.func215.trans (congrArg some ae)⟩,
    f15:=⟨Tryz.f216.name,by decide,Tryz.func216.trans (congrArg some ae)⟩,
    f16:=⟨Tryz.f207.name,by decide,Tryz.func207.trans (congrArg some ae)⟩,
    f17:=⟨Tryz.f217.name,by decide,Tryz.func217.trans (congrArg some ae)⟩,
    f18:=⟨Tryz.f218.name,by decide,Tryz.func218.trans (congrArg some ae)⟩,
    f19:=Tryz.func219.trans (congrArg some ae),
    f20:=Tryz.func220.trans (congrArg some ae),
    f30:=⟨Tryz.f230.name,by decide,Tryz.func230.trans (congrArg some ae)⟩,
    f31:=Tryz.func231.trans (congrArg some ae),
    f32:=Tryz.func232.trans (congrArg some ae),
    f33:=⟨Tryz.f233.name,by decide,Tryz.func233.trans (congrArg some ae)⟩,
    f34:=⟨Tryz.f234.name,by decide,Tryz.func234.trans (congrArg some ae)⟩,
    f35:=⟨Tryz.f228.name,by decide,Tryz.func228.trans (congrArg some ae)⟩,
    f40:=⟨Tryz.f239.name,by decide,Tryz.func239.trans (congrArg some ae)⟩,
    t0:=Tryz.underlying0,
    a0:=Tryz.isAgg0,
    z0:=Tryz.sizeOf0,
    v0:=Tryz.zeroValue0,
    t3:=Tryz.underlying3,
    a3:=Tryz.isAgg3,
    z3:=Tryz.sizeOf3,
    v3:=Tryz.zeroValue3,
    t4:=Tryz.underlying4,
    a4:=Tryz.isAgg4,
    z4:=Tryz.sizeOf4,
    v4:=Tryz.zeroValue4,
    t5:=Tryz.underlying5,
    a5:=Tryz.isAgg5,
    z5:=Tryz.sizeOf5,
    v5:=Tryz.zeroValue5,
    t9:=Tryz.underlying9,
    a9:=Tryz.isAgg9,
    z9:=Tryz.sizeOf9,
    v9:=Tryz.zeroValue9,
    t22:=Tryz.underlying22,
    a22:=Tryz.isAgg22,
    z22:=Tryz.sizeOf22,
    v22:=Tryz.zeroValue22,
    t23:=Tryz.underlying22,
    a23:=Tryz.isAgg22,
    z23:=Tryz.sizeOf22,
    v23:=Tryz.zeroValue22,
    t25:=Tryz.underlying3,
    a25:=Tryz.isAgg3,
    z25:=Tryz.sizeOf3,
    v25:=Tryz.zeroValue3,
    t32:=Tryz.underlying243,
    a32:=Tryz.isAgg243,
    z32:=Tryz.sizeOf243,
    v32:=Tryz.zeroValue243,
    t35:=Tryz.underlying253,
    a35:=Tryz.isAgg253,
    z35:=Tryz.sizeOf253,
    v35:=Tryz.zeroValue253,
    t36:=Tryz.underlying254,
    a36:=Tryz.isAgg254,
    z36:=Tryz.sizeOf254,
    v36:=Tryz.zeroValue254,
    t41:=Tryz.underlying193,
    a41:=Tryz.isAgg193,
    z41:=Tryz.sizeOf193,
    v41:=Tryz.zeroValue193,
    t44:=Tryz.underlying260,
    a44:=Tryz.isAgg260,
    z44:=Tryz.sizeOf260,
    v44:=Tryz.zeroValue260,
    t46:=Tryz.underlying262,
    a46:=Tryz.isAgg262,
    z46:=Tryz.sizeOf262,
    v46:=Tryz.zeroValue262,
    t53:=Tryz.underlying265,
    a53:=Tryz.isAgg265,
    z53:=Tryz.sizeOf265,
    v53:=Tryz.zeroValue265,
    t57:=Tryz.underlying269,
    a57:=Tryz.isAgg269,
    z57:=Tryz.sizeOf269,
    v57:=Tryz.zeroValue269,
    t63:=Tryz.underlying272,
    a63:=Tryz.isAgg272,
    z63:=Tryz.sizeOf272,
    v63:=Tryz.zeroValue272,
    t64:=Tryz.underlying273,
    a64:=Tryz.isAgg273,
    z64:=Tryz.sizeOf273,
    v64:=Tryz.zeroValue273 }
theorem Eh (m:Nat):AnyZI.SortsIn Tryz.prog kG Fence.wide m:=
  ⟨fun blk off cap ss W hH hblk hsz=> callsIn_wide.2 (AnyM.slices_Sort_int uk blk off cap ss W hH hblk hsz),
   fun p cap W=> callsIn_wide.2 (AnyM.slices_Sort_int_none uk p cap W)⟩
abbrev Ez:Value→Option (DataW Unit×List MemPlace):=fun _=> some (.nil,[])
theorem yn (M:List (Int×Value)):(eb M).map (fun x=> x.key)=M.map fun p=> Value.int .i64 p.1:=by
  apply List.ext_getElem?
  intro j
  rw [List.getElem?_map,iO,List.getElem?_map]
  cases M[j]? <;> rfl
theorem pe (M:List (Int×Value)):(eb M).map (fun x=> x.born)=List.range M.length:=by
  apply List.ext_getElem?
  intro j
  rw [List.getElem?_map,iO]
  by_cases h:j < M.length
  · rw [List.getElem?_eq_getElem h,List.getElem?_range h];rfl
  · rw [List.getElem?_eq_none ab,List.getElem?_eq_none (by simp;omega)];rfl
theorem wx {M:List (Int×Value)} {x:MapEntry} (h:x∈eb M): ∃ p∈M,x.key= .int .i64 p.1:=by
  obtain ⟨j,hj⟩:=List.getElem?_of_mem h
  rw [iO] at hj
  obtain ⟨p,hp,rfl⟩:=Option.map_eq_some_iff.1 hj
  exact ⟨p,List.mem_of_getElem? hp,rfl⟩
theorem En {a:Int} (h:0≤a∧a≤1000000):(Lit.int .i64 a).wf=true:=by
  have h1:IntKind.i64.min= -9223372036854775808:=by decide
  have h2:IntKind.i64.max=9223372036854775807:=by decide
  simp only [Lit.wf,h1,h2,Bool.and_eq_true,decide_eq_true_eq]
  omega
theorem zr {P:Program} {a:Int} (hk:P.underlying 3=some (.int .i64)) (h:0≤a∧a≤1000000):keyOf P 3 (.int .i64 a)=some (.int .i64 a):=keyOf_int_mk hk (En h)
theorem Gg:Cn:=by
  intro M g b w hlen hnd hrg hlt hcell hb
  have hk3:Tryz.prog.underlying 3=some (.int .i64):=Tryz.underlying3
  have hlen2:(eb M).length=M.length:=ww M
  have hrd: ∀ x∈eb M,∃ p∈M,Go.WideElems.rd Tryz.prog 3 Ez x=some (.int .i64 p.1, .nil)∧x.key= .int .i64 p.1:=by
    intro x hx
    obtain ⟨p,hp,hkx⟩:=wx hx
    refine ⟨p,hp,?_,hkx⟩
    have:=Go.WideElems.rd_mk (P:=Tryz.prog) (k:=3) (R:=Ez) (val:=x.val) (born:=x.born) (zr hk3 (hrg p hp)) (yv:=(.nil,[])) rfl
    rw [← hkx] at this
    exact this
  obtain ⟨E,hE⟩: ∃ E,E=((eb M).map (Go.WideElems.rg Tryz.prog 3 Ez)).foldr DataW.insert []:=⟨_,rfl⟩
  have hperm:E.Perm ((eb M).map (Go.WideElems.rg Tryz.prog 3 Ez)):=by rw [hE];exact Go.WideShapes.sorted_perm _
  have hkeys:((eb M).map (Go.WideElems.rg Tryz.prog 3 Ez)).map (fun p=> Go.intOf p.1)=M.map (·.1):=by
    apply List.ext_getElem?
    intro j
    rw [List.getElem?_map,List.getElem?_map,List.getElem?_map]
    cases hj:(eb M)[j]? with
    | none=>
      rw [iO] at hj
      have:=Option.map_eq_none_iff.1 hj
      rw [this];rfl
    | some x=>
      obtain ⟨q,_,h1,h2⟩:=hrd x (List.mem_of_getElem? hj)
      rw [iO] at hj
      obtain ⟨p,hp,rfl⟩:=Option.map_eq_some_iff.1 hj
      rw [hp]
      simp only [Option.map_some,Go.WideElems.rg_of h1,Go.intOf]
      have h2:Value.int .i64 p.1=Value.int .i64 q.1:=h2
      have h3:p.1=q.1:=by injection h2
      rw [h3]
  have hown:w.ownsMap Tryz.prog 3 Ez b M.length (.map E):=by
    refine ⟨(eb M).toArray,M.length,hb,⟨by simp only [List.size_toArray];rw [hlen2];unfold maxLen;omega,⟨?_,?_,?_⟩,fun x hx=> ?_⟩,by simp only [List.size_toArray];omega,by rw [hE]⟩
    · intro x hx
      have h1:x.born∈(eb M).map (fun x=> x.born):=List.mem_map_of_mem (by simpa using hx)
      rw [pe] at h1
      simpa using h1
    · show ((eb M).map (fun x=> x.born)).Nodup
      rw [pe];exact List.nodup_range
    · show ((eb M).map (fun x=> x.key)).Nodup
      rw [yn]
      have:(M.map fun p=> Value.int .i64 p.1)=(M.map (·.1)).map (fun n=> Value.int .i64 n):=by rw [List.map_map];rfl
      rw [this]
      exact hnd.map (fun n=> Value.int .i64 n) fun a b h e=> h (by cases e;rfl)
    · obtain ⟨p,_,h1,_⟩:=hrd x (by simpa using hx)
      exact ⟨_,h1⟩
  have hsz:Maps.size (.map E:DataW Unit)=M.length:=by
    show E.length=_
    rw [hperm.length_eq,List.length_map,hlen2]
  have hseq:SeqGives Fence.wide 2 Tryz.prog 158 #[.pointer (some ⟨g,0,none⟩)] encZ (fun ss=> ss.Perm (intKeys (.map E:DataW Unit))) (Maps.size (.map E:DataW Unit)) w:=
    AnyZI.keys_gives (ρ:=mH) { AP with } Fence.wide 2 trivial rfl ab g b M.length (.map E) w hlt hcell hown
  have cS:=AnyZI.sorted_in wc Fence.wide 5 trivial trivial trivial trivial rfl ab (Eh _) (enters_of Tryz.func157 ae rfl) 158 #[.pointer (some ⟨g,0,none⟩)] trivial (enters_of Tryz.func158 ae rfl) _ _ (by rw [hsz];unfold maxLen;omega) (by rw [hsz];omega) _ hseq
  change CallsIn _ _ Tryz.prog 94 _ _ _ at cS
  refine ((callsIn_wide (n:=5)).1 cS).mono ?_
  rintro e w' ⟨v,ss,rfl,hS,hrow,_,hbl⟩
  refine ⟨v,ss,rfl,?_,hrow,hbl⟩
  have h1:ss.Perm (E.map fun p=> Go.intOf p.1):=hS
  have h2:=hperm.map (fun p=> Go.intOf p.1)
  rw [hkeys] at h2
  exact h1.trans h2
theorem EG:zf:=xK Gg

def ka (l:List Int) (x:Int):List Int:=if x∈l then l else l.takeWhile (fun y=> decide (y < x))++[x]++l.dropWhile (fun y=> decide (y < x))

def ky (l:List Nat):List Int:=l.foldl (fun m (i:Nat)=> ka m (i:Int)) []
theorem yp (l:List Int) (x:Int):(ka l x).length≤l.length+1:=by
 unfold ka
 split
 ·omega
 ·have h:=congrArg List.length (List.takeWhile_append_dropWhile (p:=fun y=> decide (y < x)) (l:=l))
  simp only [List.length_append,List.length_cons,List.length_nil] at h ⊢
  omega
theorem xe (l:List Nat):(ky l).length≤l.length:=by
 have: ∀ (l:List Nat) (m:List Int),(l.foldl (fun m (i:Nat)=> ka m (i:Int)) m).length≤m.length+l.length:=by
  intro l
  induction l with
  | nil=> intro m;simp
  | cons a l ih=> intro m;have h1:=ih (ka m a);have h2:=yp m a;simp only [List.foldl_cons,List.length_cons];omega
 simpa [ky] using this l []

theorem po {l:List Int} {x:Int} (h:x∉l):(ka l x).Perm (l++[x]):=by
 unfold ka
 rw [if_neg h]
 have e:=List.takeWhile_append_dropWhile (p:=fun y=> decide (y < x)) (l:=l)
 conv=> rhs;rw [← e]
 rw [List.append_assoc,List.append_assoc]
 exact List.Perm.append_left _ List.perm_append_comm
theorem ur {p:Int→Bool}: ∀ {l:List Int} {y:Int},y∈l.takeWhile p→p y=true
 | a::l,y,h=> by
  rw [List.takeWhile_cons] at h
  split at h
  ·rename_i ha
   rcases List.mem_cons.1 h with rfl | h
   ·exact ha
   ·exact ur h
  ·cases h
theorem wK {l:List Int} {x:Int} (h:l.Pairwise (· < ·)):(ka l x).Pairwise (· < ·):=by
 unfold ka
 split
 ·exact h
 ·rename_i hx
  have e:=List.takeWhile_append_dropWhile (p:=fun y=> decide (y < x)) (l:=l)
  have h':=h
  rw [← e] at h'
  obtain ⟨h1,h2,h3⟩:=List.pairwise_append.1 h'
  have ht: ∀ y∈l.takeWhile (fun y=> decide (y < x)),y < x:=fun y hy=> by
   have:=ur hy
   simpa using this
  have hd: ∀ y∈l.dropWhile (fun y=> decide (y < x)),x < y:=by
   intro y hy
   have hyl:y∈l:=by rw [← e];exact List.mem_append_right _ hy
   have hne:y≠x:=fun e=> hx (e ▸ hyl)
   cases hdw:l.dropWhile (fun y=> decide (y < x)) with
   | nil=> rw [hdw] at hy;cases hy
   | cons a t=>
    have ha: ¬ a < x:=by
     have:=List.head_dropWhile_not (p:=fun y=> decide (y < x)) (l:=l) (by rw [hdw];simp)
     simp only [hdw,List.head_cons] at this
     simpa using this
    rw [hdw] at hy h2
    rcases List.mem_cons.1 hy with rfl | hy
    ·omega
    ·have:=List.rel_of_pairwise_cons h2 hy;omega
  refine List.pairwise_append.2 ⟨List.pairwise_append.2 ⟨h1,by simp,fun a ha b hb=> ?_⟩,h2,fun a ha b hb=> ?_⟩
  ·rw [List.mem_singleton.1 hb];exact ht a ha
  ·rcases List.mem_append.1 ha with ha | ha
   ·exact h3 a ha b hb
   ·rw [List.mem_singleton.1 ha];exact hd b hb
theorem pi: ∀ (l:List Nat) (m:List Int) (M:List (Int×Value)),m.Perm (M.map (·.1))→(l.foldl (fun m (i:Nat)=> ka m (i:Int)) m).Perm ((l.foldl (fun M (i:Nat)=> fW M (i:Int) (.agg #[])) M).map (·.1))
 | [],_,_,h=> h
 | i::l,m,M,h=> pi l _ _ (by
  show (ka m (i:Int)).Perm ((fW M (i:Int) (.agg #[])).map (·.1))
  cases hg:lE M (i:Int) with
  | none=>
   have hn:(i:Int)∉m:=fun hm=> uh hg (h.mem_iff.1 hm)
   have e:fW M (i:Int) (.agg #[])=M++[((i:Int), .agg #[])]:=by unfold fW;rw [hg];rfl
   rw [e,List.map_append]
   exact (po hn).trans (h.append_right _)
  | some u=>
   have hm:(i:Int)∈m:=h.mem_iff.2 (List.mem_map.2 ⟨_,sc hg,rfl⟩)
   have e:fW M (i:Int) (.agg #[])=M:=by unfold fW;rw [hg];rfl
   rw [e]
   unfold ka
   rw [if_pos hm];exact h)
theorem oq: ∀ (l:List Nat) (m:List Int),m.Pairwise (· < ·)→(l.foldl (fun m (i:Nat)=> ka m (i:Int)) m).Pairwise (· < ·)
 | [],_,h=> h
 | _::l,_,h=> oq l _ (wK h)
theorem Ek (l:List Nat):ky l=jo (nb l):=by
 have hp:(ky l).Perm ((nb l).map (·.1)):=pi l [] [] (.refl _)
 have hs:(ky l).Pairwise (· < ·):=oq l [] .nil
 have h1:=sd hp
 have h2:(ky l).mergeSort (fun x y=> decide (x≤y))=ky l:=List.mergeSort_of_pairwise (hs.imp fun h=> by simp only [decide_eq_true_eq];omega)
 rw [← h2,h1];rfl

set_option maxHeartbeats 1000000 in
theorem sX (M:Mk) (h:Nat) (hh:h < 40) (he:M.P.e h < 0) (h0:0 < M.iv.length) (h1:M.iv.length≤1000):
  Spec Tryz.prog 59 (bc [wq M.P, .v (.int .i64 (h:Int)), .agg [.sl M.iv.length (de M.iv), .v (.int .i64 (M.nm 0)), .v (.int .i64 (M.nm 1)), .v (.int .i64 (M.nm 2)), .v (.int .i64 (M.nm 3)), .v (.int .i64 (M.nm 4)), .v (.int .i64 (M.nm 5)), .v (.int .i64 (M.nm 6)), .v (.int .i64 (M.nm 7)), .v (.int .i64 (M.nm 8))],Da (4,9)] (zp M.ans [] (5,9))) (bg (.agg [.sl M.iv.length (de M.iv), .sl 0 [], .v (.int .i64 0), .v (.bool false), .sl 0 []]) (zp M.ans [] (5,8)) [(4,9),(5,8)] [(4,9)]):=by
 have hcl:=nM M.iv ab ab
 have hg:=ql M.P.c.length (inl M.P.c) M.P.e (M.P.d:Int) (M.P.v:Int) h hh
 refine Spec.ofNI Tryz.func59 rfl Tryz.ntmps59 rfl ?_
 refine am (ai (bk (4,0) _ rfl rfl) (ai (bk (6,0) _ rfl rfl) (ai (ax (8,0) aa rfl rfl) (aj (aq (bG 11 [13,14,15,16,17,18,19,20,21,22,23] [(22,0)] ae ae rfl (aL rfl) (rfl:_=[_,_,_,_,_,_,_,_,_,_,_]) (rfl:_=[_,_,_]) ?_))))))
 refine ap (_,[]) (fun τ=> aR _ aa rfl rfl rfl rfl) ?_
 refine eH rfl ?_
 refine ap (_,[]) (fun τ=> aR _ aa rfl rfl rfl rfl) ?_
 refine eG rfl ?_
 refine ap (_,[]) (fun τ=> aD _ (rfl:_=AV.fn _ _ _)) ?_
 refine eI rfl ?_
 refine ap (_,[]) (fun τ=> aD _ (rfl:_=AV.v (.int _ _))) ?_
 refine eQ rfl ?_
 refine ap (_,[]) (fun τ=> aJ _ aa rfl rfl rfl) ?_
 refine fb rfl ?_
 refine ap (_,[]) (fun τ=> eU _ _ aa rfl rfl rfl h rfl ab (by exact congrArg (fun z=> 0+1+z) (Nat.mul_one h))) ?_
 refine fB rfl ?_
 refine ap (_,[]) (fun τ=> aN _ aa rfl rfl (by exact (congrArg (fun z=> (BK M.P.c.length (inl M.P.c) M.P.e (M.P.d:Int) (M.P.v:Int))[z]?) ab).trans hg)) ?_
 refine gD rfl ?_
 refine ap (_,[]) (fun τ=> aJ _ aa rfl rfl rfl) ?_
 refine jL rfl ?_
 refine ap (_,[]) (fun τ=> aN _ aa rfl rfl (rfl:_=some (AV.sl _ _))) ?_
 refine jF rfl ?_
 refine ap (_,[((22,0),_)]) (fun τ=> (ei aa [((0,8),(22,0))] ar (hcl.toI) trivial tr tr rfl rfl ae ae)) ?_
 refine fV rfl ?_
 refine ap (_,[]) (fun τ=> aA _ aa rfl (by exact (rfl:_=some [AV.ref (22,0) 0 M.iv.length,AV.v (.slice none 0 0),AV.v (.int .i64 0),AV.v (.bool false),AV.v (.slice none 0 0)]))) ?_
 refine gB rfl (bh ⟨rfl,?_⟩)
 refine ai (aA _ aa rfl (by exact (rfl:_=some [_,_,_,_,_,_,_,_,_,_,_,_,_,_,_,_,_,_,_,_,_,_,_,_,_,_,_,_,_,_,_,_,_,_,_,_,_,_,_,_,_,_,_,_,_,_,_,_,_,_,_,_,_,_,_,_,_,_,_,_,_,_,_,_]))) ?_
 refine ai (bk (25,0) _ rfl rfl) (Er rfl (aj (aq (aq ?_))))
 refine aM (σ':=aB 108 [(4,_),(8,_),(9,_)] [((4,9),_),((5,9),_),((4,0),_),((8,0),_),((22,0),_),((25,0),_)] [(4,9),(5,9)] [(4,9)]) kp ?_
 refine an (bi rfl (ai (aS _ rfl rfl) (bE rfl rfl rfl (cH rfl rfl rfl (ai (bp (r:=true) _ _ rfl rfl (decide_eq_true he)) ?_)))))
 exact aj (bF rfl rfl (am (bi rfl (ai (aS _ rfl rfl) (bE rfl rfl rfl (ai (aR _ aa rfl rfl rfl rfl) (bO rfl rfl rfl rfl rfl rfl (aj (aC (aY (.inr rfl) rfl (.cellA aa rfl rfl rfl) (Le.outI [((5,8),(5,9))] [(22,0)] (.agg rfl (aH (iq rfl rfl (by simp) rfl) lz)) rfl rfl rfl tr ob tr rfl)))))))))))
set_option maxHeartbeats 1000000 in
theorem qU (M:Mk) (D:Nat→Nat) (nv:Nat) (hK:PG M.cx D nv) (h:Nat) (hh:h < 40) (e0:Nat) (he:M.P.e h=(e0:Int)) (he2:e0 < M.P.c.length) (hD:D e0=0) (hiv:M.iv.length=nv) (hir: ∀ v∈M.iv,Rg v) (h0:0 < nv) (hc:M.P.c.length≤1000000) (hn:M.ans.length≤4611686018427387904) (R:Ms) (hR:R=fT M.cx 500 (dD M.iv e0)):
  Spec Tryz.prog 24 (bj [wq M.P, .v (.int .i64 (h:Int)), .sl M.iv.length (de M.iv), .agg [.v (.int .i64 (M.nm 0)), .v (.int .i64 (M.nm 1)), .v (.int .i64 (M.nm 2)), .v (.int .i64 (M.nm 3)), .v (.int .i64 (M.nm 4)), .v (.int .i64 (M.nm 5)), .v (.int .i64 (M.nm 6)), .v (.int .i64 (M.nm 7)), .v (.int .i64 (M.nm 8))], .sl M.ans.length (de M.ans)] []) (aW (.tup [.agg [.sl R.vars.length (de R.vars), .sl R.acts.length (sC R.acts), .v (.int .i64 (R.steps:Int)), .v (.bool (!R.fin)), .sl (jo (nb R.cov)).length (de (jo (nb R.cov)))], .sl R.asked.length (de R.asked), .v (.bool true)]) []):=by
 have hv:=wh M EG D nv hK h hh e0 he he2 hD hiv hir h0 hc hn R hR
 refine Spec.ofN Tryz.func24 rfl Tryz.ntmps24 rfl ?_
 refine am (ai (bk (5,0) _ rfl rfl) (ai (bk (8,0) _ rfl rfl) (ai (ax (10,0) aa rfl rfl) (ai (bH _ (rfl:_=AV.v (.slice _ _ _))) (ct rfl (aj (am (eJ rfl (ai (aA _ aa rfl (by exact (rfl:_=some [_,_,_]))) ?_)))))))))
 refine ai (bk (17,0) _ rfl rfl) (Er rfl (aj (aq ?_)))
 refine aM (Le.nilB (17,0) 1 (62,0) 3 1 rfl rfl rfl) ?_
 refine an (ai (aR _ aa rfl rfl rfl rfl) (aQ rfl (eJ rfl (ai (aR _ aa rfl rfl rfl rfl) (ai (aA _ aa rfl (by exact (rfl:_=some [_,_,_,_,_,_,_,_,_,_]))) ?_)))))
 refine bi rfl (ai (pQ _ _ (rfl:_=[_]) (rfl:_=[])) ?_)
 refine ai (ei aa [((4,9),(17,0)),((5,9),(62,0)),((2,8),(25,0)),((5,8),(25,1))] ar (hv) ob tr tr rfl rfl ae ae) ?_
 refine ai (ax (14,0) aa rfl rfl) (bO rfl rfl rfl rfl rfl rfl (aj (aq ?_)))
 refine aM (σ':=aB 35 [(10,_),(13,_),(14,_)] [((10,0),_),((17,0),_),((25,0),_),((25,1),_),((14,0),_)] [] []) kp ?_
 refine pU 12 [26,27,28,29,30,31,32,33,34,11,12] [(10,0)] ae ae rfl (rfl:_=[_,_,_,_,_,_,_,_,_,_,_,_]) (rfl:_=[]) ?_
 refine cr (_,[]) (fun τ=> aR _ aa rfl rfl rfl rfl) ?_
 refine cq (rfl:_=[_]) ?_
 refine cr (_,[]) (fun τ=> aD _ (rfl:_=AV.ptr _ _)) ?_
 refine cq (rfl:_=[_,_]) ?_
 refine cr (_,[]) (fun τ=> aS _ rfl rfl) ?_
 refine cq (rfl:_=[_,_,_]) ?_
 refine cr (_,[]) (fun τ=> aJ _ aa rfl rfl rfl) ?_
 refine cq (rfl:_=[_,_,_,_]) ?_
 refine cr (_,[]) (fun τ=> aN _ aa rfl rfl (rfl:_=some (AV.ref _ _ _))) ?_
 refine cq (rfl:_=[_,_,_,_,_]) ?_
 refine cr (_,[]) (fun τ=> aD _ (rfl:_=AV.ptr _ _)) ?_
 refine cq (rfl:_=[_,_,_,_,_,_]) ?_
 refine cr (_,[]) (fun τ=> aS _ rfl rfl) ?_
 refine cq (rfl:_=[_,_,_,_,_,_,_]) ?_
 refine cr (_,[]) (fun τ=> aJ _ aa rfl rfl rfl) ?_
 refine cq (rfl:_=[_,_,_,_,_,_,_,_]) ?_
 refine cr (_,[]) (fun τ=> aN _ aa rfl rfl (rfl:_=some (AV.v (.bool _)))) ?_
 refine cq (rfl:_=[_,_,_,_,_,_,_,_,_]) ?_
 refine cr (_,[((10,0),_)]) (fun τ=> jY _ _ aa rfl rfl rfl rfl (Nat.le_of_ble_eq_true rfl) rfl) ?_
 refine cq (rfl:_=[_,_,_,_,_,_,_,_,_,_]) ?_
 refine cr (_,[]) (fun τ=> bH _ (rfl:_=AV.ref _ _ _)) ?_
 refine cq (rfl:_=[_,_,_,_,_,_,_,_,_,_,_]) ?_
 refine cr (_,[]) (fun τ=> bH _ (rfl:_=AV.v (.bool _))) ?_
 refine cq (rfl:_=[_,_,_,_,_,_,_,_,_,_,_,_]) ?_
 refine nG ⟨⟨rfl,by kernel_rfl,by kernel_rfl⟩,?_⟩
 exact aj (aC (AL (.inr rfl) rfl (.cellA aa rfl rfl rfl) (.tmp (rfl:_=AV.ref _ _ _)) (.tmp (rfl:_=AV.v _)) (Le.out [] [(25,0),(25,1)] (.tup rfl (aH (.agg rfl (aH .sl (aH (iq rfl rfl (fy _).symm rfl) lz))) (aH (iq rfl rfl (by simp) rfl) lz))) rfl rfl rfl tr trivial)))

theorem ta (w:World) (a b c d e:Int):(Op.equal 57 (.agg #[.int .i64 a, .int .i64 b, .int .i64 c, .int .i64 d, .int .i64 e]) (.agg #[.int .i64 a, .int .i64 b, .int .i64 c, .int .i64 d, .int .i64 e])).run Tryz.prog w= .ok true w:=by
 have he:Tryz.prog.underlying 3=some (.int .i64):=Tryz.underlying3
 have hp: ∀ (cs:Array Value) (j:Nat) (v:Value),cs[j]? =some v→(part 3 cs j).run Tryz.prog w= .ok v w:=by
  intro cs j v hv
  simp [part,isAgg,run_underlying he,hv]
 have e1: ∀ a:Int,(Op.equalIn 9999 3 (.int .i64 a) (.int .i64 a)).run Tryz.prog w= .ok true w:=fun a=> by
  rw [run_equalIn_int w 9998 3 .i64 .i64 a a he];simp
 have h0:=hp #[.int .i64 a, .int .i64 b, .int .i64 c, .int .i64 d, .int .i64 e] 0 (.int .i64 a) rfl
 have h1:=hp #[.int .i64 a, .int .i64 b, .int .i64 c, .int .i64 d, .int .i64 e] 1 (.int .i64 b) rfl
 have h2:=hp #[.int .i64 a, .int .i64 b, .int .i64 c, .int .i64 d, .int .i64 e] 2 (.int .i64 c) rfl
 have h3:=hp #[.int .i64 a, .int .i64 b, .int .i64 c, .int .i64 d, .int .i64 e] 3 (.int .i64 d) rfl
 have h4:=hp #[.int .i64 a, .int .i64 b, .int .i64 c, .int .i64 d, .int .i64 e] 4 (.int .i64 e) rfl
 show (Op.equalIn (9999+1) 57 _ _).run Tryz.prog w=_
 rw [Op.equalIn]
 simp only [Sem.run_bind,run_underlying Tryz.underlying57,Result.andThen_ok]
 simp [Op.eqFields,h0,h1,h2,h3,h4,e1]
section
variable {σ:St} {dd:Option Tmp} {ty:TypeId}
theorem zi {t':TypeId} (x y:Operand) {a b c d e:Int} (hx:σ.eval x= .agg [.v (.int .i64 a), .v (.int .i64 b), .v (.int .i64 c), .v (.int .i64 d), .v (.int .i64 e)]) (hy:σ.eval y= .agg [.v (.int .i64 a), .v (.int .i64 b), .v (.int .i64 c), .v (.int .i64 d), .v (.int .i64 e)]):Stp Tryz.prog dd (.binOp .neq 57 x y t') ty σ (σ.put dd (.v (.bool false))):=by
 refine Ao [.int .i64 a, .int .i64 b, .int .i64 c, .int .i64 d, .int .i64 e] [.int .i64 a, .int .i64 b, .int .i64 c, .int .i64 d, .int .i64 e] hx hy fun o ρ w ho hx hy=> ?_
 have:=ta w a b c d e
 have hg:Tryz.prog.eqGuardType Tryz.prog.depth 57=false:=by kernel_rfl
 simp [execOp,ho,hx,hy,eqGuard,binOp,hg,this,Sem.run]
end
theorem oN (l:List Ac) (h1:l.length≤1000000):Spec Tryz.prog 34 (bj [.sl l.length (sC l), .sl l.length (sC l)] []) (aW (.v (.bool true)) []):=by
 refine Spec.ofN Tryz.func34 rfl Tryz.ntmps34 rfl ?_
 refine am (ct rfl (aj (aq (am (eJ rfl (ai (bB _ aa rfl) (eJ rfl (ai (bB _ aa rfl) (ai (bX (r:=false) _ _ rfl rfl (by simp)) ?_)))))))))
 refine aj (aP rfl rfl (aI (aF fun K4 hK4=> ?_)))
 refine am (ba rfl (aj (au ?_)))
 refine bD (α:=Nat) (fun k=> k≤l.length) 26 [(0,_),(1,_)] [] (fun k=> [(5, .v (.int .i64 (k:Int)))]) (fun k=> []) [] [] (fun k=> l.length - k) 0 ?_ (by
  refine Le.mkJ [] [] rfl ?_ ?_ trivial trivial ?_
  ·exact ⟨(iS rfl),(iS rfl),(ci ag),trivial⟩
  ·exact trivial
  ·kernel_rfl) ?_
 ·omega
 intro k hk
 refine aF fun K6 hK6=> ?_
 refine am (aQ rfl (eJ rfl (ai (bB _ aa rfl) (ai (bp _ _ rfl rfl rfl) (aj (aU rfl (fun hc14=> ?_) (fun hc14=> ?_)))))))
 ·skip
  have hia:=yi l k ab
  refine bw (hK6 _ ?_)
  clear hK6;try clear K6
  refine aq (au (aq ?_))
  refine aM (σ':=aB 26 [(0,_),(1,_),(5,_)] [] [] []) kp ?_
  refine bG 9 [17,18,19,20,21,22,23,24,25] [] ae ae rfl (aL rfl) (rfl:_=[_,_,_,_,_,_,_,_,_]) (rfl:_=[]) ?_
  refine ap (_,[]) (fun τ=> aD _ (rfl:_=AV.sl _ _)) ?_
  refine eH rfl ?_
  refine ap (_,[]) (fun τ=> aD _ (rfl:_=AV.v (.int _ _))) ?_
  refine eG rfl ?_
  refine ap (_,[]) (fun τ=> bf _ _ aa rfl rfl _ rfl ab (by (simp only [aZ,bm,bl,aZ,fy,bK];omega)) ag) ?_
  refine eI rfl ?_
  refine ap (_,[]) (fun τ=> cg _ aa rfl (by exact hia) rfl) ?_
  refine eQ rfl ?_
  refine ap (_,[]) (fun τ=> aD _ (rfl:_=AV.sl _ _)) ?_
  refine fb rfl ?_
  refine ap (_,[]) (fun τ=> aD _ (rfl:_=AV.v (.int _ _))) ?_
  refine fB rfl ?_
  refine ap (_,[]) (fun τ=> bf _ _ aa rfl rfl _ rfl ab (by (simp only [aZ,bm,bl,aZ,fy,bK];omega)) ag) ?_
  refine gD rfl ?_
  refine ap (_,[]) (fun τ=> cg _ aa rfl (by exact hia) rfl) ?_
  refine jL rfl ?_
  refine ap (_,[]) (fun τ=> zi _ _ rfl rfl) ?_
  refine jF rfl (bh ⟨rfl,?_⟩)
  refine aj (aP rfl rfl (cf (an (aQ rfl (ai (be _ _ rfl rfl (bq ab)) ?_)))))
  refine ba rfl (az (⟨k+1,?_,?_,?_⟩))
  ·omega
  ·skip
   refine Le.mkJ [] [] rfl ?_ ?_ trivial trivial ?_
   ·exact ⟨(iS rfl),(iS rfl),(ci ag),trivial⟩
   ·exact trivial
   ·kernel_rfl
  ·omega
 ·skip
  refine bL (id (hK4 _ ?_))
  clear hK4;try clear K4
  refine am (ct rfl (aj (aC (aY (.inr rfl) rfl (.tmp (rfl:_=AV.v (.bool _))) (Le.out [] [] (hZ ?_) rfl rfl rfl trivial trivial)))))
  rfl

theorem nQ (xs:List Int) (h:xs.length≤1000000):Spec Tryz.prog 30 (bj [.sl xs.length (de xs), .sl xs.length (de xs)] []) (aW (.v (.bool true)) []):=by
 have:=uK xs.length xs.length xs xs rfl rfl ab ab
 rw [decide_eq_true rfl] at this;exact this
def yz (n:Int):Int:=([n % 9 - 4,n, -n,2147483647, -2147483647,1,0]:List Int).getD (n % 7).toNat 0
def gK (a:List Int) (n:Nat):List Int:=(List.range n).map fun i=> yz (cX a i)
theorem sO (a:List Int) (n:Nat):gK a (n+1)=gK a n++[yz (cX a n)]:=by simp [gK,List.range_succ]
theorem kg (a:List Int) (n:Nat):(gK a n).length=n:=by simp [gK]
theorem yB (n:Int) (h0:0≤n):(de [n % 9 - 4,n, -n,2147483647, -2147483647,1,0])[(n % 7).toNat]? =some (.v (.int .i64 (yz n))):=dV _ _ (by simp;omega)

theorem vb (P:Pg) (a:List Int) (G:GL a) (hd:P.d+P.v≤1000):
  Spec Tryz.prog 22 (bj [wq P, .sl a.length (de a)] []) (aW (.sl (gK a (P.d+P.v)).length (de (gK a (P.d+P.v)))) []):=by
 have hpk:=fun i hi=> od G i hi
 refine Spec.ofN Tryz.func22 rfl Tryz.ntmps22 rfl ?_
 refine am (ai (bk (2,0) _ rfl rfl) (ai (bH _ (rfl:_=AV.v (.slice _ _ _))) (aj (am (ai (nJ (5,0) _ 3 1 rfl rfl) ?_)))))
 refine aj (aF fun K3 hK3=> ?_)
 refine am (ba rfl (aj (au ?_)))
 refine bD (α:=Nat) (fun q=> q≤P.d+P.v) 35 [(1,_),(2,_)] [((2,0),_)] (fun q=> [(6, .v (.int .i64 (q:Int))),(5, .ref (5,0) 0 (gK a q).length)]) (fun q=> [((5,0), .row 3 1 (de (gK a q)))]) [] [] (fun q=> P.d+P.v - q) 0 ?_ (by
  refine Le.mkJ [] [] rfl ?_ ?_ trivial trivial ?_
  ·exact ⟨(iS rfl),(iP rfl),(ci ag),(dj rfl ag),trivial⟩
  ·exact ⟨(cG rfl rfl rfl),(gz rfl rfl rfl ag),trivial⟩
  ·kernel_rfl) ?_
 ·omega
 intro q hq
 have hq0:=hpk q ab
 have hlo:=sR a q
 have hhi:=sK a q
 have hvl:=kg a q
 have hs:=sO a q
 have hl1:(gK a (q+1)).length=(gK a q).length+1:=by rw [hs];simp
 have hvg:=yB (cX a q) hlo
 generalize cX a q=x at hq0 hlo hhi hs hvg
 refine aF fun K5 hK5=> ?_
 refine am (aQ rfl (bE rfl rfl rfl (cH rfl rfl rfl (bE rfl rfl rfl (cH rfl rfl rfl (ai (be (r:=((P.d+P.v:Nat):Int)) _ _ rfl rfl ((bq ab).trans ab)) ?_))))))
 refine ai (bp _ _ rfl rfl rfl) (aj (aU rfl (fun hc14=> ?_) (fun hc14=> ?_)))
 ·skip
  refine bw (hK5 _ ?_)
  clear hK5;try clear K5
  refine aq (au (am (eJ rfl (aQ rfl (ai (aK aa al (hq0) rfl rfl) ?_)))))
  refine ba rfl (aj (an (gF rfl (aQ rfl (ai (cY (r:=x % 9) _ _ rfl rfl ab (Int.tmod_eq_emod_of_nonneg ab)) ?_)))))
  refine ai (cb (r:=x % 9 - 4) _ _ rfl rfl (bq ab)) ?_
  refine aQ rfl (aQ rfl (ai (tA (r:= -x) _ rfl (bq ab)) ?_))
  refine ai (aV _ _ aa rfl ag (by (simp <;> rfl)) ah rfl) ?_
  refine aQ rfl (ai (cY (r:=(((x % 7).toNat:Nat):Int)) _ _ rfl rfl ab ((Int.tmod_eq_emod_of_nonneg ab).trans ab)) ?_)
  refine ai (bf _ _ aa rfl rfl _ rfl ab (by (simp;done)) (by exact Nat.mul_one _)) ?_
  refine ai (bC _ aa rfl (by exact hvg) rfl) ?_
  refine ai (aV _ _ aa rfl ag (by (simp <;> rfl)) ah rfl) ?_
  refine ai (dh (33,0) _ _ aa rfl rfl (by simp) (.sl rfl) ab rfl ((lX _ _).trans (congrArg de hs.symm)) hl1.symm) ?_
  refine eX rfl (fZ ?_)
  refine aM (σ':=aB 35 [(1,_),(2,_),(5,_),(6,_)] [((2,0),_),((33,0),_)] [] []) kp ?_
  refine an (aQ rfl (ai (be _ _ rfl rfl (bq ab)) ?_))
  refine ba rfl (az (⟨q+1,?_,?_,?_⟩))
  ·omega
  ·skip
   refine Le.mkJ [((5,0),(33,0))] [] rfl ?_ ?_ trivial trivial ?_
   ·exact ⟨(by repeat' (exact Lv.sl)),(dU (id:=(2,0)) rfl),(ci ag),(dj rfl ag),trivial⟩
   ·exact ⟨(fR rfl rfl rfl rfl (by repeat' (first | exact Lv.v | exact Lv.sl | exact bu | refine aH ?_ ?_))),(gz rfl rfl rfl ag),trivial⟩
   ·kernel_rfl
  ·omega
 ·skip
  obtain rfl:q=P.d+P.v:=by omega
  refine bL (id (hK3 _ ?_))
  clear hK3;try clear K3
  exact am (gF rfl (eX rfl (aj (aC (aY (.inr rfl) rfl (.tmp (rfl:_=AV.ref _ _ _)) (Le.out [] [(5,0)] (iq rfl rfl (by simp) rfl) rfl rfl rfl tr trivial))))))
def ph (L:List Int) (i:Nat) (m:Int):Int:=if i < L.length then hP (L.getD i 0) m else 0
theorem qC (L:List Int) (i:Nat) {m:Int} (hm:1≤m):0≤ph L i m:=by
 unfold ph;split
 ·exact pw _ _ ab
 ·omega
theorem qL (L:List Int) (i:Nat) {m:Int} (hm:1≤m):ph L i m < m:=by
 unfold ph;split
 ·exact pJ _ _ ab
 ·omega
theorem oG {L:List Int} (h:GL L) (i:Nat) (hi:i≤2000000) (m:Int) (hm:1≤m∧m≤1000):
  Spec Tryz.prog 58 (bj [.sl L.length (de L), .v (.int .i64 (i:Int)), .v (.int .i64 m)] []) (aW (.v (.int .i64 (ph L i m))) []):=by
 have hn:=h.n
 by_cases hk:i < L.length
 ·have hr:=h.r (L.getD i 0) (by rw [List.getD_eq_getElem?_getD,List.getElem?_eq_getElem hk];exact List.getElem_mem hk)
  have ha:=jE (L.getD i 0) m ab ab hr.1 hr.2
  rw [show ph L i m=hP (L.getD i 0) m from if_pos hk]
  refine Spec.ofN Tryz.func58 rfl Tryz.ntmps58 rfl ?_
  refine am (ba rfl (aj (aq (am (aQ rfl (ai (bp (r:=false) _ _ rfl rfl (decide_eq_false ab)) ?_))))))
  refine cP rfl (ay rfl rfl (aD _ (rfl:_=AV.v (.int _ _))) (ay rfl rfl (aD _ (rfl:_=AV.sl _ _)) (ay rfl rfl (bB _ aa rfl) (ay rfl rfl (eN (r:=false) _ _ rfl rfl (decide_eq_false ab)) ?_))))
  refine ai (aG _ _ _ rfl (rfl:_=AV.v (.bool _))) (aj (aP rfl rfl (aI (am (eJ rfl (aQ rfl (ai (bf _ _ aa rfl rfl _ rfl ab (by (simp only [aZ,bm,bl,aZ,fy,bK];omega)) (by exact Nat.mul_one _)) ?_)))))))
  refine ai (bC _ aa rfl (by exact dV _ _ ab) rfl) ?_
  refine aQ rfl (ai (aK aa al (ha) rfl rfl) ?_)
  exact ba rfl (aj (aC (aY (.inr rfl) rfl (.tmp (rfl:_=AV.v _)) (Le.out [] [] .v rfl rfl rfl trivial trivial))))
 ·rw [show ph L i m=0 from if_neg hk]
  refine Spec.ofN Tryz.func58 rfl Tryz.ntmps58 rfl ?_
  refine am (ba rfl (aj (aq (am (aQ rfl (ai (bp (r:=false) _ _ rfl rfl (decide_eq_false ab)) ?_))))))
  refine cP rfl (ay rfl rfl (aD _ (rfl:_=AV.v (.int _ _))) (ay rfl rfl (aD _ (rfl:_=AV.sl _ _)) (ay rfl rfl (bB _ aa rfl) (ay rfl rfl (eN (r:=true) _ _ rfl rfl (decide_eq_true ab)) ?_))))
  exact ai (aG _ _ _ rfl (rfl:_=AV.v (.bool _))) (aj (bF rfl rfl (am (ba rfl (aj (aC (aY (.inr rfl) rfl (.tmp (rfl:_=AV.v _)) (Le.out [] [] .v rfl rfl rfl trivial trivial))))))))
def Dv (b:List Int) (k:Nat):Int:=if k=0 then ph b 0 9 % (1+ph b 1 3) else if k=1 then 1+ph b 1 3 else ph b k 9
def vY (b:List Int) (q k:Nat):Int:=if k < q then ph b k 9 else 0
abbrev L9 (e:Nat→Int):List AV:=[.v (.int .i64 (e 0)), .v (.int .i64 (e 1)), .v (.int .i64 (e 2)), .v (.int .i64 (e 3)), .v (.int .i64 (e 4)), .v (.int .i64 (e 5)), .v (.int .i64 (e 6)), .v (.int .i64 (e 7)), .v (.int .i64 (e 8))]
theorem DK (e:Nat→Int) (h:Nat) (hh:h < 9) (x:Int):fm (L9 e) h [.v (.int .i64 x)]=L9 (oR e h x):=by
 rcases h with _ | _ | _ | _ | _ | _ | _ | _ | _ | h
 all_goals first | rfl | omega
theorem AZ (b:List Int) (q:Nat):oR (vY b q) q (ph b q 9)=vY b (q+1):=by
 funext k
 unfold oR vY
 by_cases h1:k=q
 ·rw [if_pos h1,if_pos ab,h1]
 ·rw [if_neg h1]
  by_cases h2:k < q
  ·rw [if_pos h2,if_pos ab]
  ·rw [if_neg h2,if_neg ab]
theorem tf (b:List Int) (G:GL b):
  Spec Tryz.prog 23 (bj [.sl b.length (de b)] []) (aW (.agg (L9 (Dv b))) []):=by
 have h1:=oG G 1 ab 3 ab
 have hlo:=qC b 1 (m:=3) ab
 have hhi:=qL b 1 (m:=3) ab
 have hlo0:=qC b 0 (m:=9) ab
 have hhi0:=qL b 0 (m:=9) ab
 refine Spec.ofN Tryz.func23 rfl Tryz.ntmps23 rfl ?_
 refine am (ai (ax (2,0) aa rfl rfl) (aj (am (ai (ax (3,0) aa rfl rfl) (aj (aF fun K3 hK3=> ?_))))))
 refine am (ba rfl (aj (au ?_)))
 refine bD (α:=Nat) (fun q=> q≤9) 25 [(0,_),(2,_),(3,_)] [((2,0),_)] (fun q=> [(4, .v (.int .i64 (q:Int)))]) (fun q=> [((3,0), .box 30 [.v (.int .i64 (vY b q 0)), .v (.int .i64 (vY b q 1)), .v (.int .i64 (vY b q 2)), .v (.int .i64 (vY b q 3)), .v (.int .i64 (vY b q 4)), .v (.int .i64 (vY b q 5)), .v (.int .i64 (vY b q 6)), .v (.int .i64 (vY b q 7)), .v (.int .i64 (vY b q 8))])]) [] [] (fun q=> 9 - q) 0 ?_ (by
  refine Le.mkJ [] [] rfl ?_ ?_ trivial trivial ?_
  ·exact ⟨(iS rfl),(iP rfl),(iP rfl),(ci ag),trivial⟩
  ·exact ⟨(cG rfl rfl rfl),(fR rfl rfl rfl rfl lz),trivial⟩
  ·kernel_rfl) ?_
 ·omega
 intro q hq
 refine aF fun K5 hK5=> ?_
 refine am (aQ rfl (ai (bp _ _ rfl rfl rfl) (aj (aU rfl (fun hc6=> ?_) (fun hc6=> ?_)))))
 ·skip
  have hq9:=oG G q ab 9 ab
  refine bw (hK5 _ ?_)
  clear hK5;try clear K5
  refine aq (au (an (aQ rfl (eJ rfl (aQ rfl (ai (aK aa al (hq9) rfl rfl) ?_))))))
  refine ai (eU _ _ aa rfl rfl rfl q rfl ab (by exact (Nat.zero_add _).trans (Nat.mul_one _))) ?_
  refine ai (jY _ _ aa rfl rfl rfl rfl (show q+1≤9 by omega) ((DK (vY b q) q ab _).trans (by rw [AZ]))) ?_
  refine fZ (an (aQ rfl (ai (be _ _ rfl rfl (bq ab)) ?_)))
  refine ba rfl (az (⟨q+1,?_,?_,?_⟩))
  ·omega
  ·skip
   refine Le.mkJ [] [] rfl ?_ ?_ trivial trivial ?_
   ·exact ⟨(iS rfl),(iP rfl),(iP rfl),(ci ag),trivial⟩
   ·exact ⟨(cG rfl rfl rfl),(fR rfl rfl rfl rfl lz),trivial⟩
   ·kernel_rfl
  ·omega
 ·skip
  obtain rfl:q=9:=by omega
  refine bL (id (hK3 _ ?_))
  clear hK3;try clear K3
  refine am (eJ rfl (ai (aK aa al (h1) rfl rfl) ?_))
  refine ai (be (r:=1+ph b 1 3) _ _ rfl rfl (bq ab)) ?_
  refine ai (eU _ _ aa rfl rfl rfl 1 rfl ab (by exact (Nat.zero_add _).trans (Nat.mul_one _))) ?_
  refine bO rfl rfl rfl rfl rfl rfl (aj (am (ai (eU _ _ aa rfl rfl rfl 0 rfl ab (by exact (Nat.zero_add _).trans (Nat.mul_one _))) ?_)))
  refine cH rfl rfl rfl (ai (eU _ _ aa rfl rfl rfl 1 rfl ab (by exact (Nat.zero_add _).trans (Nat.mul_one _))) ?_)
  refine cH rfl rfl rfl (ai (cY (r:=ph b 0 9 % (1+ph b 1 3)) _ _ rfl rfl ab (Int.tmod_eq_emod_of_nonneg hlo0)) ?_)
  refine ai (eU _ _ aa rfl rfl rfl 0 rfl ab (by exact (Nat.zero_add _).trans (Nat.mul_one _))) ?_
  exact bO rfl rfl rfl rfl rfl rfl (aj (am (ai (aR _ aa rfl rfl rfl rfl) (bO rfl rfl rfl rfl rfl rfl (aj (aC (aY (.inr rfl) rfl (.cellA aa rfl rfl rfl) (Le.out [] [] (.agg rfl lz) rfl rfl rfl trivial trivial))))))))

def Co (p v b r:List Int):Mk:=⟨hQ p,gK v ((hQ p).d+(hQ p).v),(List.range 9).map (Dv b),r.take 30⟩
theorem Dg (b:List Int) (k:Nat):Rg (Dv b k):=by
 have h1:=qC b 1 (m:=3) ab
 have h2:=qL b 1 (m:=3) ab
 have h3:=qC b k (m:=9) ab
 have h4:=qL b k (m:=9) ab
 unfold Dv Rg
 split
 ·have h5:=Int.emod_nonneg (ph b 0 9) (show 1+ph b 1 3≠0 by omega)
  have h6:=Int.emod_lt_of_pos (ph b 0 9) (show 0 < 1+ph b 1 3 by omega)
  omega
 ·split <;> omega
theorem BS {n:Int} (h0:0≤n) (h1:n < 1000000):Rg (yz n):=by
 unfold yz
 refine mX (fun x hx=> ?_) _
 simp only [List.mem_cons,List.not_mem_nil,or_false] at hx
 unfold Rg
 rcases hx with rfl | rfl | rfl | rfl | rfl | rfl | rfl <;> omega
theorem qT (a:List Int) (n:Nat): ∀ x∈gK a n,Rg x:=fun x hx=> by
 obtain ⟨i,_,rfl⟩:=List.mem_map.1 hx
 exact BS (sR a i) (sK a i)
theorem sx (b:List Int): ∀ i,Rg (((List.range 9).map (Dv b)).getD i 0):=fun i=> mX (fun x hx=> by
 obtain ⟨j,_,rfl⟩:=List.mem_map.1 hx
 exact Dg b j) i
structure BG (M:Mk) (D:Nat→Nat) (nv:Nat):Prop where
 pg:PG M.cx D nv
 iv:M.iv.length=nv
 ir: ∀ v∈M.iv,Rg v
 nv:0 < nv
 ent: ∀ h,h < 40→M.P.e h < 0∨ ∃ e0:Nat,M.P.e h=(e0:Int)∧e0 < M.P.c.length∧D e0=0
 c:M.P.c.length≤1000000
theorem yV (p v b r:List Int): ∃ D nv,BG (Co p v b r) D nv:=by
 by_cases hc:gV (pn p)=true
 ·have e:hQ p=⟨bS (pn p) 0,bY (pn p),2,2⟩:=if_pos hc
  have U:=ya p
  refine ⟨qM (pn p),4,?_,?_,qT _ _,by omega,fun h hh=> ?_,?_⟩
  ·show PG ⟨(hQ p).c,(hQ p).d,(List.range 9).map (Dv b),r.take 30⟩ _ _
   rw [e]
   exact Cu ab U.ok (sx b)
  ·show (gK v ((hQ p).d+(hQ p).v)).length=4
   rw [kg,e];rfl
  ·show (hQ p).e h < 0∨ ∃ e0:Nat,(hQ p).e h=(e0:Int)∧e0 < (hQ p).c.length∧_
   rw [e]
   rcases tw (pn p) h with h1 | ⟨e0,_,h1,h2,h3⟩
   ·exact .inl (by show (lm (iQ (pn p) 0)).getD h (-1) < 0;omega)
   ·exact .inr ⟨e0,h1,h2,h3⟩
  ·show (hQ p).c.length≤1000000
   rw [e];exact U.c
 ·have e:hQ p=ul 3 0:=if_neg hc
  refine ⟨rW,1,?_,?_,qT _ _,by omega,fun h hh=> ?_,?_⟩
  ·show PG ⟨(hQ p).c,(hQ p).d,(List.range 9).map (Dv b),r.take 30⟩ _ _
   rw [e]
   exact AX (by unfold Rg;omega) (by unfold Rg;omega) (sx b)
  ·show (gK v ((hQ p).d+(hQ p).v)).length=1
   rw [kg,e];rfl
  ·show (hQ p).e h < 0∨ ∃ e0:Nat,(hQ p).e h=(e0:Int)∧e0 < (hQ p).c.length∧_
   rw [e]
   by_cases h0:h=0
   ·subst h0
    exact .inr ⟨0,rfl,by show 0 < (rG 3 0).length;decide,rfl⟩
   ·exact .inl (by show eB 40 h < 0;unfold eB;rw [if_pos ab];omega)
  ·show (hQ p).c.length≤1000000
   rw [e];show (rG 3 0).length≤1000000;decide

set_option maxHeartbeats 1000000 in
theorem vZ (M:Mk) (h:Nat) (hh:h < 40) (he:M.P.e h < 0) (h0:0 < M.iv.length) (h1:M.iv.length≤1000):
  Spec Tryz.prog 24 (bj [wq M.P, .v (.int .i64 (h:Int)), .sl M.iv.length (de M.iv), .agg [.v (.int .i64 (M.nm 0)), .v (.int .i64 (M.nm 1)), .v (.int .i64 (M.nm 2)), .v (.int .i64 (M.nm 3)), .v (.int .i64 (M.nm 4)), .v (.int .i64 (M.nm 5)), .v (.int .i64 (M.nm 6)), .v (.int .i64 (M.nm 7)), .v (.int .i64 (M.nm 8))], .sl M.ans.length (de M.ans)] []) (aW (.tup [.agg [.sl M.iv.length (de M.iv), .sl 0 [], .v (.int .i64 0), .v (.bool false), .sl 0 []], .sl 0 [], .v (.bool true)]) []):=by
 have hv:=sX M h hh he h0 h1
 refine Spec.ofN Tryz.func24 rfl Tryz.ntmps24 rfl ?_
 refine am (ai (bk (5,0) _ rfl rfl) (ai (bk (8,0) _ rfl rfl) (ai (ax (10,0) aa rfl rfl) (ai (bH _ (rfl:_=AV.v (.slice _ _ _))) (ct rfl (aj (am (eJ rfl (ai (aA _ aa rfl (by exact (rfl:_=some [_,_,_]))) ?_)))))))))
 refine ai (bk (17,0) _ rfl rfl) (Er rfl (aj (aq ?_)))
 refine aM (Le.nilB (17,0) 1 (62,0) 3 1 rfl rfl rfl) ?_
 refine an (ai (aR _ aa rfl rfl rfl rfl) (aQ rfl (eJ rfl (ai (aR _ aa rfl rfl rfl rfl) (ai (aA _ aa rfl (by exact (rfl:_=some [_,_,_,_,_,_,_,_,_,_]))) ?_)))))
 refine bi rfl (ai (pQ _ _ (rfl:_=[_]) (rfl:_=[])) ?_)
 refine ai (ei aa [((4,9),(17,0)),((5,9),(62,0)),((5,8),(25,1))] ar (hv) ob tr tr rfl rfl ae ae) ?_
 refine ai (ax (14,0) aa rfl rfl) (bO rfl rfl rfl rfl rfl rfl (aj (aq ?_)))
 refine aM (σ':=aB 35 [(10,_),(13,_),(14,_)] [((10,0),_),((17,0),_),((25,1),_),((14,0),_)] [] []) kp ?_
 refine pU 12 [26,27,28,29,30,31,32,33,34,11,12] [(10,0)] ae ae rfl (rfl:_=[_,_,_,_,_,_,_,_,_,_,_,_]) (rfl:_=[]) ?_
 refine cr (_,[]) (fun τ=> aR _ aa rfl rfl rfl rfl) ?_
 refine cq (rfl:_=[_]) ?_
 refine cr (_,[]) (fun τ=> aD _ (rfl:_=AV.ptr _ _)) ?_
 refine cq (rfl:_=[_,_]) ?_
 refine cr (_,[]) (fun τ=> aS _ rfl rfl) ?_
 refine cq (rfl:_=[_,_,_]) ?_
 refine cr (_,[]) (fun τ=> aJ _ aa rfl rfl rfl) ?_
 refine cq (rfl:_=[_,_,_,_]) ?_
 refine cr (_,[]) (fun τ=> aN _ aa rfl rfl (rfl:_=some (AV.ref _ _ _))) ?_
 refine cq (rfl:_=[_,_,_,_,_]) ?_
 refine cr (_,[]) (fun τ=> aD _ (rfl:_=AV.ptr _ _)) ?_
 refine cq (rfl:_=[_,_,_,_,_,_]) ?_
 refine cr (_,[]) (fun τ=> aS _ rfl rfl) ?_
 refine cq (rfl:_=[_,_,_,_,_,_,_]) ?_
 refine cr (_,[]) (fun τ=> aJ _ aa rfl rfl rfl) ?_
 refine cq (rfl:_=[_,_,_,_,_,_,_,_]) ?_
 refine cr (_,[]) (fun τ=> aN _ aa rfl rfl (rfl:_=some (AV.v (.bool _)))) ?_
 refine cq (rfl:_=[_,_,_,_,_,_,_,_,_]) ?_
 refine cr (_,[((10,0),_)]) (fun τ=> jY _ _ aa rfl rfl rfl rfl (Nat.le_of_ble_eq_true rfl) rfl) ?_
 refine cq (rfl:_=[_,_,_,_,_,_,_,_,_,_]) ?_
 refine cr (_,[]) (fun τ=> bH _ (rfl:_=AV.ref _ _ _)) ?_
 refine cq (rfl:_=[_,_,_,_,_,_,_,_,_,_,_]) ?_
 refine cr (_,[]) (fun τ=> bH _ (rfl:_=AV.v (.bool _))) ?_
 refine cq (rfl:_=[_,_,_,_,_,_,_,_,_,_,_,_]) ?_
 refine nG ⟨⟨rfl,by kernel_rfl,by kernel_rfl⟩,?_⟩
 exact aj (aC (AL (.inr rfl) rfl (.cellA aa rfl rfl rfl) (.tmp (rfl:_=AV.ref _ _ _)) (.tmp (rfl:_=AV.v _)) (Le.out [] [(25,1)] (.tup rfl (aH (.agg rfl lz) (aH (iq rfl rfl rfl rfl) lz))) rfl rfl rfl tr trivial)))

def uU (M:Mk) (h:Nat):Ms:=if M.P.e h < 0 then { vars:=M.iv,pc:=0,fin:=true } else fT M.cx 500 (dD M.iv (M.P.e h).toNat)
theorem tP {M:Mk} {h:Nat} (he:M.P.e h < 0):uU M h={ vars:=M.iv,pc:=0,fin:=true }:=if_pos he
theorem rC {M:Mk} {h e0:Nat} (he:M.P.e h=(e0:Int)):uU M h=fT M.cx 500 (dD M.iv e0):=by
  unfold uU;rw [if_neg ab,he];rfl
abbrev FF (M:Mk) (h:Nat):List AV:=[wq M.P, .v (.int .i64 (h:Int)), .sl M.iv.length (de M.iv), .agg [.v (.int .i64 (M.nm 0)), .v (.int .i64 (M.nm 1)), .v (.int .i64 (M.nm 2)), .v (.int .i64 (M.nm 3)), .v (.int .i64 (M.nm 4)), .v (.int .i64 (M.nm 5)), .v (.int .i64 (M.nm 6)), .v (.int .i64 (M.nm 7)), .v (.int .i64 (M.nm 8))], .sl M.ans.length (de M.ans)]
abbrev Fv (s:Ms):AV:= .tup [.agg [.sl s.vars.length (de s.vars), .sl s.acts.length (sC s.acts), .v (.int .i64 (s.steps:Int)), .v (.bool (!s.fin)), .sl (ky s.cov).length (de (ky s.cov))], .sl s.asked.length (de s.asked), .v (.bool true)]
theorem uX {M:Mk} {D:Nat→Nat} {nv:Nat} (K:BG M D nv) (hn:M.ans.length≤4611686018427387904) (h:Nat) (hh:h < 40):
    Spec Tryz.prog 24 (bj (FF M h) []) (aW (Fv (uU M h)) []):=by
  have hnv:=K.pg.nv
  have h0:0 < M.iv.length:=by rw [K.iv];exact K.nv
  have h1:M.iv.length≤1000:=by rw [K.iv];omega
  rcases K.ent h hh with he | ⟨e0,he,he2,hD⟩
  · rw [tP he];exact vZ M h hh he h0 h1
  · rw [rC he]
    have hr:=qU M D nv K.pg h hh e0 he he2 hD K.iv K.ir K.nv K.c hn _ rfl
    rw [← Ek] at hr
    exact hr
theorem wS {l:List Int} {x y:Int}:y∈ka l x↔y∈l∨y=x:=by
  by_cases hx:x∈l
  · have e:ka l x=l:=by unfold ka;rw [if_pos hx]
    rw [e]
    exact ⟨.inl,fun h=> h.elim id fun e=> e ▸ hx⟩
  · rw [(po hx).mem_iff,List.mem_append,List.mem_singleton]
theorem rR: ∀ (l:List Nat) (m:List Int) (y:Int),y∈l.foldl (fun m (i:Nat)=> ka m (i:Int)) m↔y∈m∨ ∃ i∈l,y=(i:Int)
  | [],m,y=> by simp
  | i::l,m,y=> by
    rw [List.foldl_cons,rR l,wS]
    constructor
    · rintro ((h | h) | ⟨j,hj,h⟩)
      · exact .inl h
      · exact .inr ⟨i,List.mem_cons_self,h⟩
      · exact .inr ⟨j,List.mem_cons_of_mem _ hj,h⟩
    · rintro (h | ⟨j,hj,h⟩)
      · exact .inl (.inl h)
      · rcases List.mem_cons.1 hj with rfl | hj
        · exact .inl (.inr h)
        · exact .inr ⟨j,hj,h⟩
theorem mem_covS {l:List Nat} {y:Int}:y∈ky l↔ ∃ i∈l,y=(i:Int):=by
  unfold ky;rw [rR];simp
theorem Aj {K:Cx} (k:Nat) {s:Ms} (h:s.fin=false):fT K (k+1) s=fT K k (fK K s):=by rw [fT,if_neg (by rw [h];decide)]
structure Ge (M:Mk) (nv h:Nat) (s:Ms):Prop where
  vl:s.vars.length=nv
  rv: ∀ v∈s.vars,Rg v
  ac: ∀ a∈s.acts,tp M.cx nv a
  sn:co s.acts≤20
  ar: ∀ k∈s.asked,2≤k∧k≤4
  al:s.acts.length≤500
  kl:s.asked.length≤500
  wr:s.vars.take M.P.d=qN (M.iv.take M.P.d) s.acts
  st:s.steps≤500
  sf:s.fin=false→s.steps=500
  cl:(ky s.cov).length≤s.steps
  no:M.P.e h < 0→s={ vars:=M.iv,pc:=0,fin:=true }
  srt:(ky s.cov).Pairwise (· < ·)
  rg: ∀ i∈ky s.cov,∃ j:Nat,i=(j:Int)∧j < M.P.c.length
  en:0≤M.P.e h→M.P.e h∈ky s.cov
  fn:0≤M.P.e h→s.fin=true→ ∃ j:Nat,(j:Int)∈ky s.cov∧ ∃ x,M.P.c[j]? =some x∧x.op= .stop
theorem Di {M:Mk} {D:Nat→Nat} {nv:Nat} (K:BG M D nv) (h:Nat) (hh:h < 40):Ge M nv h (uU M h):=by
  rcases K.ent h hh with he | ⟨e0,he,he2,hD⟩
  · rw [tP he]
    refine ⟨K.iv,K.ir,fun a ha=> absurd ha (List.not_mem_nil),Nat.zero_le _,fun k hk=> absurd hk (List.not_mem_nil),Nat.zero_le _,Nat.zero_le _,rfl,Nat.zero_le _,(fun h=> nomatch h),Nat.le_refl _,fun _=> rfl, .nil,fun i hi=> absurd hi (List.not_mem_nil),fun h=> ?_,fun h=> ?_⟩
    · omega
    · omega
  · rw [rC he]
    have hat0:=rU (K:=M.cx) (D:=D) K.iv K.ir he2 hD
    have hat:=DD K.pg hat0 500
    have hst:=oY (K:=M.cx) 500 (dD M.iv e0)
    have hsz:Sz (fT M.cx 500 (dD M.iv e0)):=lj (I:=Sz) (fun s hs _=> tU hs) 500 _ ⟨Nat.le_refl _,Nat.le_refl _,Nat.le_refl _⟩
    have hwr:=BX K.pg hat0 500
    obtain ⟨cl,hcl⟩: ∃ l,(fT M.cx 500 (dD M.iv e0)).cov=e0::l:=by
      obtain ⟨l,hl⟩:=ub (K:=M.cx) 499 (fK M.cx (dD M.iv e0))
      rw [stepM_steps.2] at hl
      have e:=Aj (K:=M.cx) 499 (s:=dD M.iv e0) rfl
      exact ⟨l,(congrArg Ms.cov e).trans hl⟩
    generalize fT M.cx 500 (dD M.iv e0)=s at*
    have hs5:s.steps≤500:=by simpa [dD] using hst.1
    have h2:=hsz.ac
    have h3:=hsz.ak
    have h5:=xe s.cov
    have h6:=hat.cn
    refine ⟨hat.iv.vl,hat.iv.rv,hat.iv.ac,hat.iv.sn,hat.iv.ar,by omega,by omega,hwr,hs5,fun hf=> ?_,by omega,fun h=> by omega,?_,fun i hi=> ?_,fun _=> ?_,fun _ hf=> ?_⟩
    · have:=hst.2 hf;simpa [dD] using this
    · exact oq _ _ .nil
    · obtain ⟨j,hj,rfl⟩:=mem_covS.1 hi
      exact ⟨j,rfl,hat.cl j hj⟩
    · rw [he];exact mem_covS.2 ⟨e0,by rw [hcl];exact List.mem_cons_self,rfl⟩
    · obtain ⟨i,hi,x,hx,ho⟩:=hat.fn hf
      exact ⟨i,mem_covS.2 ⟨i,hi,rfl⟩,x,hx,ho⟩

abbrev Ey (l:List Int):Prop:=l.length≤4611686018427387904∧ ∀ x∈l, -9223372036854775808≤x∧x≤9223372036854775807

def mL:Mk:=⟨⟨bS onsL 0,bY onsL,0,1⟩,[0],[0,1,0,0,0,0,0,0,0],[]⟩
def rL:Ms:=fT mL.cx 500 (dD [0] 0)
theorem zY:rL.vars=[3]:=by kernel_rfl
theorem BR:rL.acts=[{ k:=3,a:=0,b:=3,c:=3,d:=1 }]:=by kernel_rfl
theorem Dy:rL.fin=true:=by kernel_rfl
theorem yN:0 < rL.steps:=of_decide_eq_true ae
theorem FX:PG mL.cx (qM onsL) 1:=Cu ab usrcL.ok (fun i=> mX (fun x hx=> by
 have hx:x∈[(0:Int),1,0,0,0,0,0,0,0]:=hx
 simp only [List.mem_cons,List.not_mem_nil,or_false] at hx
 unfold Rg;omega) i)
theorem CD:mL.P.e 0=((0:Nat):Int):=by kernel_rfl
theorem CM:0 < mL.P.c.length:=of_decide_eq_true ae
theorem DM:qM onsL 0=0:=by kernel_rfl
set_option maxHeartbeats 1000000 in
theorem sP:Spec Tryz.prog 27 (bj [] []) (aW (.v (.bool true)) []):=by
 have hb:=sE usrcL
 rw [wo,if_pos (uW srcOkL)] at hb
 have hb:Spec Tryz.prog 64 (bj [.v (bt CH)] []) (aW (.tup [wq mL.P, .v (.int .i64 0)]) []):=hb
 have hrun:=qU mL (qM onsL) 1 FX 0 ab 0 CD CM DM rfl (fun x hx=> by rw [List.mem_singleton.1 hx];unfold Rg;omega) ab usrcL.c (by show 0≤_;omega) rL rfl
 rw [zY,BR,Dy] at hrun
 have hn:=yN
 have hrun:Spec Tryz.prog 24 (bj [wq mL.P, .v (.int .i64 0), .sl 1 (de [0]), .agg [.v (.int .i64 0), .v (.int .i64 1), .v (.int .i64 0), .v (.int .i64 0), .v (.int .i64 0), .v (.int .i64 0), .v (.int .i64 0), .v (.int .i64 0), .v (.int .i64 0)], .sl 0 []] []) (aW (.tup [.agg [.sl 1 (de [3]), .sl 1 (sC [{ k:=3,a:=0,b:=3,c:=3,d:=1 }]), .v (.int .i64 (rL.steps:Int)), .v (.bool false), .sl (jo (nb rL.cov)).length (de (jo (nb rL.cov)))], .sl rL.asked.length (de rL.asked), .v (.bool true)]) []):=hrun
 generalize rL.steps=n at hn hrun
 generalize jo (nb rL.cov)=cv at hrun
 generalize rL.asked=ak at hrun
 generalize mL.P=P at hb hrun
 refine Spec.ofN Tryz.func27 rfl Tryz.ntmps27 rfl ?_
 refine am (ct rfl (aj (am (ai (aK aa al (hb) rfl rfl) ?_))))
 refine ai (aD _ (rfl:_=AV.tup _)) (ai (db _ rfl (rfl:_=some (AV.agg _))) (ai (db _ rfl (rfl:_=some (AV.v (.int _ _)))) (ai (ax (1,0) aa rfl rfl) (bO rfl rfl rfl rfl rfl rfl (ba rfl (aj (am (ai (ax (3,0) aa rfl rfl) (aj (am ?_))))))))))
 refine ai (eU _ _ aa rfl rfl rfl 1 rfl ab (by exact (Nat.zero_add _).trans (Nat.mul_one _))) ?_
 refine bO rfl rfl rfl rfl rfl rfl (aj (am (ai (aR _ aa rfl rfl rfl rfl) (ai (aV _ _ aa rfl ag (by (simp <;> rfl)) ah rfl) ?_))))
 refine ai (aR _ aa rfl rfl rfl rfl) (ai (aK aa al (hrun) rfl rfl) ?_)
 refine ai (aD _ (rfl:_=AV.tup _)) (ai (db _ rfl (rfl:_=some (AV.agg _))) (ai (db _ rfl (rfl:_=some (AV.sl _ _))) (ai (db _ rfl (rfl:_=some (AV.v (.bool _)))) (ai (ax (4,0) aa rfl rfl) (bO rfl rfl rfl rfl rfl rfl (kD rfl (ct rfl (aj (aq ?_)))))))))
 refine aM (σ':=aB 48 [(2,_),(4,_),(6,_)] [((4,0),_)] [] []) kp ?_
 refine an (aQ rfl (iX rfl rfl rfl (cP rfl (ay rfl rfl (aD _ (rfl:_=AV.v (.bool _))) (ai (aG _ _ _ rfl (rfl:_=AV.v (.bool _))) (cP rfl (ay rfl rfl (aJ _ aa rfl rfl rfl) (ay rfl rfl (aN _ aa rfl rfl (rfl:_=some (AV.sl _ _))) (ay rfl rfl (aV _ _ aa rfl ag (by (simp <;> rfl)) ah rfl) ?_)))))))))
 refine ay rfl rfl (aK aa al (nQ [3] ah) rfl rfl) ?_
 refine ai (aG _ _ _ rfl (rfl:_=AV.v (.bool _))) (cP rfl (ay rfl rfl (aJ _ aa rfl rfl rfl) (ay rfl rfl (aN _ aa rfl rfl (rfl:_=some (AV.sl _ _))) (ay rfl rfl (aA _ aa rfl (by exact (rfl:_=some [_,_,_,_,_]))) ?_))))
 refine ay rfl rfl (aV _ _ aa rfl ag (by (simp <;> rfl)) ah rfl) ?_
 refine ay rfl rfl (aK aa al (oN [{ k:=3,a:=0,b:=3,c:=3,d:=1 }] ah) rfl rfl) ?_
 refine ai (aG _ _ _ rfl (rfl:_=AV.v (.bool _))) (cP rfl (ay rfl rfl (aJ _ aa rfl rfl rfl) (ay rfl rfl (aN _ aa rfl rfl (rfl:_=some (AV.v (.bool _)))) (ay rfl rfl (cZ (r:=true) _ rfl rfl) (ai (aG _ _ _ rfl (rfl:_=AV.v (.bool _))) (cP rfl (ay rfl rfl (aJ _ aa rfl rfl rfl) (ay rfl rfl (aN _ aa rfl rfl (rfl:_=some (AV.v (.int _ _)))) (ay rfl rfl (dy (r:=true) _ _ rfl rfl (decide_eq_true ab)) ?_)))))))))
 refine ai (aG _ _ _ rfl (rfl:_=AV.v (.bool _))) (ct rfl (aj (aC (aY (.inr rfl) rfl (.tmp (rfl:_=AV.v (.bool _))) (Le.out [] [] (hZ ?_) rfl rfl rfl trivial trivial)))))
 rfl

abbrev SL (M:Mk):AV:= .agg [.v (.int .i64 (M.nm 0)), .v (.int .i64 (M.nm 1)), .v (.int .i64 (M.nm 2)), .v (.int .i64 (M.nm 3)), .v (.int .i64 (M.nm 4)), .v (.int .i64 (M.nm 5)), .v (.int .i64 (M.nm 6)), .v (.int .i64 (M.nm 7)), .v (.int .i64 (M.nm 8))]
theorem AG (p v r:List Int) (hp:Ey p) (hv:Ey v) (hr:Ey r): ∃ (M:Mk) (D:Nat→Nat) (nv:Nat),BG M D nv∧M.ans.length≤4611686018427387904∧
  Spec Tryz.prog 20 (bj [.sl p.length (de p)] []) (aW (wq M.P) [])∧
  Spec Tryz.prog 21 (bj [.sl r.length (de r), .v (.int .i64 20)] []) (aW (.sl M.ans.length (de M.ans)) [])∧
  Spec Tryz.prog 22 (bj [wq M.P, .sl v.length (de v)] []) (aW (.sl M.iv.length (de M.iv)) [])∧
  Spec Tryz.prog 23 (bj [.sl v.length (de v)] []) (aW (SL M) [])∧M.P.d≤M.iv.length∧M.iv.length≤16:=by
 obtain ⟨D,nv,K⟩:=yV p v v (r.take 20)
 obtain ⟨M,hM⟩: ∃ M,M=Co p v v (r.take 20):=⟨_,rfl⟩
 rw [← hM] at K
 have hnv:=K.pg.nv
 have ha:M.ans=r.take 20:=by rw [hM];show (r.take 20).take 30=_;rw [List.take_take];rfl
 have hl:(r.take 20).length≤20:=by rw [List.length_take];omega
 have hiv:M.iv=gK v (M.P.d+M.P.v):=by rw [hM];rfl
 have hdv:M.P.d+M.P.v=nv:=by have:=K.iv;rw [hiv,kg] at this;exact this
 have hi2:=K.iv
 refine ⟨M,D,nv,K,by rw [ha];omega,by rw [hM];exact vK p hp.1 hp.2,by rw [ha];exact pd r hr.1 20 ab,?_,by rw [hM];exact tf v ⟨hv.1,hv.2⟩,by omega,by omega⟩
 rw [hiv];exact vb M.P v ⟨hv.1,hv.2⟩ ab
theorem CX {K:Cx} {nv:Nat} {l:List Ac} (h: ∀ a∈l,tp K nv a) {k:Nat} (hk:k < l.length):tp K nv (mS l k):=by
 unfold mS;rw [List.getD_eq_getElem?_getD,List.getElem?_eq_getElem hk];exact h _ (List.getElem_mem hk)
theorem xH (l:List Int) (al:List Ac) {k:Nat} (h:k < al.length):qN l (al.take (k+1))=if (mS al k).k=1 then (qN l (al.take k)).set (mS al k).a.toNat (mS al k).b else qN l (al.take k):=by
 have e:al.take (k+1)=al.take k++[mS al k]:=by
  rw [List.take_add_one,List.getElem?_eq_getElem h];unfold mS;rw [List.getD_eq_getElem?_getD,List.getElem?_eq_getElem h];rfl
 rw [e,qH]
theorem FY (l:List Int) (d:Nat):((de l).drop (0*1)).take ((d - 0)*1)=de (l.take d):=by simp [de]
theorem Ba (l:List Int) (al:List Ac):(qN l al).length=l.length:=by
 unfold qN
 induction al generalizing l with
 | nil=> rfl
 | cons a al ih=> rw [List.foldl_cons,ih];split <;> simp
set_option maxHeartbeats 1000000 in
theorem oP (p v r:List Int) (hp:Ey p) (hv:Ey v) (hr:Ey r):
  Spec Tryz.prog 7 (bj [.sl p.length (de p), .sl v.length (de v), .sl r.length (de r)] []) (aW (.v (.bool true)) []):=by
 obtain ⟨M,D,nv,K,hans,h1,h2,h3,h4,hd0,hnv⟩:=AG p v r hp hv hr
 have hB:=fun h hh=> Di K h hh
 have hR:=fun h hh=> uX K hans h hh
 have hivn:=K.iv
 refine Spec.ofN Tryz.func7 rfl Tryz.ntmps7 rfl ?_
 refine am (ct rfl (aj (am (eJ rfl (ai (aK aa al (h1) rfl rfl) ?_)))))
 refine ai (ax (7,0) aa rfl rfl) (bO rfl rfl rfl rfl rfl rfl (aj (am (ai (aR _ aa rfl rfl rfl rfl) (eJ rfl (ai (aK aa al (h3) rfl rfl) ?_))))))
 refine kD rfl (aj (aF fun K4 hK4=> ?_))
 refine am (ba rfl (aj (au ?_)))
 refine bD (α:=Nat) (fun k=> k≤40) 112 [(1,_),(2,_),(7,_),(8,_)] [((7,0),_)] (fun k=> [(9, .v (.int .i64 (k:Int)))]) (fun k=> []) [] [] (fun k=> 40 - k) 0 ?_ (by
  refine Le.mkJ [] [] rfl ?_ ?_ trivial trivial ?_
  ·exact ⟨(iS rfl),(iS rfl),(iP rfl),(iS rfl),(ci ag),trivial⟩
  ·exact ⟨(cG rfl rfl rfl),trivial⟩
  ·kernel_rfl) ?_
 ·omega
 intro k hk
 refine aF fun K6 hK6=> ?_
 refine am (aQ rfl (ai (bp _ _ rfl rfl rfl) (aj (aU rfl (fun hc21=> ?_) (fun hc21=> ?_)))))
 ·skip
  have ho:=hB k ab
  have hr2:=hR k ab
  generalize uU M k=s at ho hr2
  have s1:=ho.vl
  have s2:=ho.al
  have s3:=ho.cl
  have s4:=ho.st
  have s5:=ho.wr
  have s6:=ho.ac
  have s7:=Ba (M.iv.take M.P.d)
  have s8:(M.iv.take M.P.d).length=M.P.d:=by rw [List.length_take];omega
  rw [s8] at s7
  refine bw (hK6 _ ?_)
  clear hK6;try clear K6
  refine aq (au (aq (pU 16 [25,26,27,28,29,30,31,32,24,33,34,35,10,11,12] [(10,0),(10,0)] ae ae rfl (rfl:_=[_,_,_,_,_,_,_,_,_,_,_,_,_,_,_,_]) (rfl:_=[]) ?_)))
  refine cr (_,[]) (fun τ=> aR _ aa rfl rfl rfl rfl) ?_
  refine cq (rfl:_=[_]) ?_
  refine cr (_,[]) (fun τ=> aD _ (rfl:_=AV.v (.int _ _))) ?_
  refine cq (rfl:_=[_,_]) ?_
  refine cr (_,[]) (fun τ=> aD _ (rfl:_=AV.sl _ _)) ?_
  refine cq (rfl:_=[_,_,_]) ?_
  refine cr (_,[]) (fun τ=> aD _ (rfl:_=AV.sl _ _)) ?_
  refine cq (rfl:_=[_,_,_,_]) ?_
  refine cr (_,[]) (fun τ=> (aK aa al (h4) rfl rfl)) ?_
  refine cq (rfl:_=[_,_,_,_,_]) ?_
  refine cr (_,[]) (fun τ=> aD _ (rfl:_=AV.sl _ _)) ?_
  refine cq (rfl:_=[_,_,_,_,_,_]) ?_
  refine cr (_,[]) (fun τ=> (aK aa al (h2) rfl rfl)) ?_
  refine cq (rfl:_=[_,_,_,_,_,_,_]) ?_
  refine cr (_,[]) (fun τ=> (aK aa al (hr2) rfl rfl)) ?_
  refine cq (rfl:_=[_,_,_,_,_,_,_,_]) ?_
  refine cr (_,[]) (fun τ=> aD _ (rfl:_=AV.tup _)) ?_
  refine cq (rfl:_=[_,_,_,_,_,_,_,_,_]) ?_
  refine cr (_,[]) (fun τ=> db _ rfl (rfl:_=some (AV.agg _))) ?_
  refine cq (rfl:_=[_,_,_,_,_,_,_,_,_,_]) ?_
  refine cr (_,[]) (fun τ=> db _ rfl (rfl:_=some (AV.sl _ _))) ?_
  refine cq (rfl:_=[_,_,_,_,_,_,_,_,_,_,_]) ?_
  refine cr (_,[]) (fun τ=> db _ rfl (rfl:_=some (AV.v (.bool _)))) ?_
  refine cq (rfl:_=[_,_,_,_,_,_,_,_,_,_,_,_]) ?_
  refine cr (_,[((10,0),_)]) (fun τ=> ax (10,0) aa rfl rfl) ?_
  refine cq (rfl:_=[_,_,_,_,_,_,_,_,_,_,_,_,_]) ?_
  refine cr (_,[((10,0),_)]) (fun τ=> jY _ _ aa rfl rfl rfl rfl (Nat.le_of_ble_eq_true rfl) rfl) ?_
  refine cq (rfl:_=[_,_,_,_,_,_,_,_,_,_,_,_,_,_]) ?_
  refine cr (_,[]) (fun τ=> bH _ (rfl:_=AV.sl _ _)) ?_
  refine cq (rfl:_=[_,_,_,_,_,_,_,_,_,_,_,_,_,_,_]) ?_
  refine cr (_,[]) (fun τ=> bH _ (rfl:_=AV.v (.bool _))) ?_
  refine cq (rfl:_=[_,_,_,_,_,_,_,_,_,_,_,_,_,_,_,_]) ?_
  refine nG ⟨⟨rfl,by kernel_rfl,by kernel_rfl⟩,?_⟩
  refine aj (aq ?_)
  refine aM (σ':=aB 112 [(1,_),(2,_),(7,_),(8,_),(9,_),(10,_)] [((7,0),_),((10,0),_)] [] []) kp ?_
  refine an (ai (js (36,0) _ _ aa rfl ag (by (simp <;> rfl)) ah rfl rfl) ?_)
  refine eJ rfl (bE rfl rfl rfl (cH rfl rfl rfl (eJ rfl (ai (bB _ aa rfl) (ai (oH _ _ rfl rfl (by omega:_=((M.P.d:Nat):Int))) ?_)))))
  refine ai (jh _ _ _ aa rfl 0 M.P.d .dflt (.lit rfl rfl) ab ab (FY _ _) (Nat.sub_zero _)) ?_
  refine ai (dh (44,0) _ _ aa rfl rfl rfl (.sl (by rw [aZ,s8,Nat.mul_one])) ab rfl rfl (Nat.zero_add _)) ?_
  refine eX rfl (aj (aF fun K11 hK11=> ?_))
  refine am (ba rfl (aj (au ?_)))
  refine bD (α:=Nat) (fun j=> j≤s.acts.length) 112 [(1,_),(2,_),(7,_),(8,_),(9,_),(10,_),(13,_)] [((7,0),_),((10,0),_)] (fun j=> [(14, .v (.int .i64 (j:Int)))]) (fun j=> [((44,0), .row 3 1 (de (qN (M.iv.take M.P.d) (s.acts.take j))))]) [] [] (fun j=> s.acts.length - j) 0 ?_ (by
   refine Le.mkJ [] [] rfl ?_ ?_ trivial trivial ?_
   ·exact ⟨(iS rfl),(iS rfl),(iP rfl),(iS rfl),(iV rfl),(iP rfl),(iR rfl),(ci ag),trivial⟩
   ·exact ⟨(cG rfl rfl rfl),(cG rfl rfl rfl),(gz rfl rfl rfl ag),trivial⟩
   ·kernel_rfl) ?_
  ·omega
  intro j hj
  refine aF fun K13 hK13=> ?_
  refine am (aQ rfl (bE rfl rfl rfl (fg rfl rfl rfl (ai (bB _ aa rfl) (ai (bp _ _ rfl rfl rfl) (aj (aU rfl (fun hc49=> ?_) (fun hc49=> ?_))))))))
  ·skip
   have t1:=CX s6 (k:=j) ab
   have s9:=s7 (s.acts.take j)
   have t2:=xH (M.iv.take M.P.d) s.acts (k:=j) ab
   refine bw (hK13 _ ?_)
   clear hK13;try clear K13
   refine aF fun K15 hK15=> ?_
   refine au (aq (am (bE rfl rfl rfl (fg rfl rfl rfl (aQ rfl (ai (bf _ _ aa rfl rfl _ rfl ab (by (simp only [aZ,bm,bl,aZ,fy,bK];omega)) ag) ?_))))))
   refine ai (cO _ aa rfl rfl) (ai (bC _ aa rfl (by exact xa _ _ ab) rfl) ?_)
   refine ai (bX _ _ rfl rfl rfl) (aj (aU rfl (fun hc58=> ?_) (fun hc58=> ?_)))
   ·skip
    rw [if_neg (by simpa using hc58)] at t2
    refine bL (id (hK15 _ ?_))
    clear hK15;try clear K15
    refine an (aQ rfl (ai (be _ _ rfl rfl (bq ab)) ?_))
    refine ba rfl (az (⟨j+1,?_,?_,?_⟩))
    ·omega
    ·skip
     refine Le.mkJ [] [] rfl ?_ ?_ trivial trivial ?_
     ·exact ⟨(iS rfl),(iS rfl),(iP rfl),(iS rfl),(iV rfl),(iP rfl),(iR rfl),(ci ag),trivial⟩
     ·exact ⟨(cG rfl rfl rfl),(cG rfl rfl rfl),(gz rfl rfl rfl (by (rw [t2]))),trivial⟩
     ·kernel_rfl
    ·omega
   ·skip
    have t3:(mS s.acts j).k=1:=by simpa using hc58
    rw [if_pos t3] at t2
    obtain ⟨t4,t5,t6⟩:=t1.2.2 t3
    have t5:(mS s.acts j).a < (M.P.d:Int):=t5
    obtain ⟨i,hi⟩:=Int.eq_ofNat_of_zero_le t4
    rw [hi,Int.toNat_natCast] at t2
    refine aI (aq (am (bE rfl rfl rfl (fg rfl rfl rfl (aQ rfl (ai (bf _ _ aa rfl rfl _ rfl ab (by (simp only [aZ,bm,bl,aZ,fy,bK];omega)) ag) ?_))))))
    refine ai (cO _ aa rfl rfl) (ai (bC _ aa rfl (by exact og _ _ ab) rfl) ?_)
    refine ai (bp (r:=false) _ _ rfl rfl (decide_eq_false ab)) ?_
    refine cP rfl (ay rfl rfl (aJ _ aa rfl rfl rfl) (ay rfl rfl (aN _ aa rfl rfl (rfl:_=some (AV.sl _ _))) (ay rfl rfl (aD _ (rfl:_=AV.v (.int _ _))) (ay rfl rfl (bf _ _ aa rfl rfl _ rfl ab (by (simp only [aZ,bm,bl,aZ,fy,bK];omega)) ag) ?_))))
    refine ay rfl rfl (cO _ aa rfl rfl) (ay rfl rfl (bC _ aa rfl (by exact og _ _ ab) rfl) ?_)
    refine ay rfl rfl (aD _ (rfl:_=AV.ref _ _ _)) (ay rfl rfl (dv _ aa rfl rfl) (ay rfl rfl (eN (r:=false) _ _ rfl rfl (decide_eq_false ab)) ?_))
    refine ai (aG _ _ _ rfl (rfl:_=AV.v (.bool _))) (aj (aP rfl rfl (aI ?_)))
    refine aM (σ':=aB 112 [(1,_),(2,_),(7,_),(8,_),(9,_),(10,_),(13,_),(14,_)] [((7,0),_),((10,0),_),((44,0),_)] [] []) kp ?_
    refine bG 14 [77,78,79,80,81,82,83,84,85,86,87,88,89,90] [] ae ae rfl (aL rfl) (rfl:_=[_,_,_,_,_,_,_,_,_,_,_,_,_,_]) (rfl:_=[_]) ?_
    refine ap (_,[]) (fun τ=> aD _ (rfl:_=AV.ref _ _ _)) ?_
    refine eH rfl ?_
    refine ap (_,[]) (fun τ=> aJ _ aa rfl rfl rfl) ?_
    refine eG rfl ?_
    refine ap (_,[]) (fun τ=> aN _ aa rfl rfl (rfl:_=some (AV.sl _ _))) ?_
    refine eI rfl ?_
    refine ap (_,[]) (fun τ=> aD _ (rfl:_=AV.v (.int _ _))) ?_
    refine eQ rfl ?_
    refine ap (_,[]) (fun τ=> bf _ _ aa rfl rfl _ rfl ab (by (simp only [aZ,bm,bl,aZ,fy,bK];omega)) ag) ?_
    refine fb rfl ?_
    refine ap (_,[]) (fun τ=> cO _ aa rfl rfl) ?_
    refine fB rfl ?_
    refine ap (_,[]) (fun τ=> bC _ aa rfl (by exact og _ _ ab) rfl) ?_
    refine gD rfl ?_
    refine ap (_,[]) (fun τ=> aJ _ aa rfl rfl rfl) ?_
    refine jL rfl ?_
    refine ap (_,[]) (fun τ=> aN _ aa rfl rfl (rfl:_=some (AV.sl _ _))) ?_
    refine jF rfl ?_
    refine ap (_,[]) (fun τ=> aD _ (rfl:_=AV.v (.int _ _))) ?_
    refine fV rfl ?_
    refine ap (_,[]) (fun τ=> bf _ _ aa rfl rfl _ rfl ab (by (simp only [aZ,bm,bl,aZ,fy,bK];omega)) ag) ?_
    refine gB rfl ?_
    refine ap (_,[]) (fun τ=> cO _ aa rfl rfl) ?_
    refine kz rfl ?_
    refine ap (_,[]) (fun τ=> bC _ aa rfl (by exact wW _ _ ab) rfl) ?_
    refine lf rfl ?_
    refine ap (_,[]) (fun τ=> gd _ _ aa rfl rfl ag i hi ab (by exact (Nat.zero_add _).trans (Nat.mul_one _))) ?_
    refine oB rfl (bh ⟨rfl,?_⟩)
    refine ai (mf _ _ aa rfl rfl rfl rfl rfl (by rw [aZ];simp only [List.length_cons,List.length_nil];omega) ((kk _ _ _ ab).trans (congrArg de t2.symm))) ?_
    refine az (hK15 _ ?_)
    clear hK15;try clear K15
    refine aM (σ':=aB 112 [(1,_),(2,_),(7,_),(8,_),(9,_),(10,_),(13,_),(14,_)] [((7,0),_),((10,0),_),((44,0),_)] [] []) kp ?_
    refine an (aQ rfl (ai (be _ _ rfl rfl (bq ab)) ?_))
    refine ba rfl (az (⟨j+1,?_,?_,?_⟩))
    ·omega
    ·skip
     refine Le.mkJ [] [] rfl ?_ ?_ trivial trivial ?_
     ·exact ⟨(iS rfl),(iS rfl),(iP rfl),(iS rfl),(iV rfl),(iP rfl),(iR rfl),(ci ag),trivial⟩
     ·exact ⟨(cG rfl rfl rfl),(cG rfl rfl rfl),(gz rfl rfl rfl ag),trivial⟩
     ·kernel_rfl
    ·omega
  ·skip
   obtain rfl:j=s.acts.length:=by omega
   have hfin:qN (M.iv.take M.P.d) (s.acts.take s.acts.length)=s.vars.take M.P.d:=by rw [List.take_length,← s5]
   have hfl:(s.vars.take M.P.d).length=M.P.d:=by rw [List.length_take];omega
   have hsm:=nQ (s.vars.take M.P.d) ab
   rw [hfl] at hsm
   refine bL (id (hK11 _ ?_))
   clear hK11;try clear K11
   refine aq ?_
   refine aM (Le.frzS (ys:=de (s.vars.take M.P.d)) 13 (rfl:_=AV.ref _ _ _) rfl rfl (by rw [hfin,List.drop_zero,Nat.mul_one,List.take_of_length_le (by rw [aZ];omega)]) (by rw [aZ,s7];omega)) ?_
   refine an (bE rfl rfl rfl (fg rfl rfl rfl (ai (bB _ aa rfl) (eJ rfl (ai (bB _ aa rfl) (ai (bX (r:=false) _ _ rfl rfl (by rw [s1,hivn];exact bne_self_eq_false _)) ?_))))))
   refine cP rfl (ay rfl rfl (aJ _ aa rfl rfl rfl) (ay rfl rfl (aN _ aa rfl rfl (rfl:_=some (AV.sl _ _))) (ay rfl rfl (aD _ (rfl:_=AV.sl _ _)) (ay rfl rfl (bB _ aa rfl) (ay rfl rfl (aJ _ aa rfl rfl rfl) (ay rfl rfl (aN _ aa rfl rfl (rfl:_=some (AV.sl _ _))) (ay rfl rfl (bB _ aa rfl) (ay rfl rfl (oH _ _ rfl rfl (by omega:_=((M.P.d:Nat):Int))) ?_))))))))
   refine ay rfl rfl (jh _ _ _ aa rfl 0 M.P.d .dflt (.lit rfl rfl) ab ab (FY _ _) (Nat.sub_zero _)) ?_
   refine ay rfl rfl (aD _ (rfl:_=AV.sl _ _)) (ay rfl rfl (aK aa al (hsm) rfl rfl) ?_)
   refine ay rfl rfl (cZ (r:=false) _ rfl rfl) (ai (aG _ _ _ rfl (rfl:_=AV.v (.bool _))) (aj (aP rfl rfl (cf ?_))))
   refine aM (σ':=aB 112 [(1,_),(2,_),(7,_),(8,_),(9,_)] [((7,0),_)] [] []) kp ?_
   refine an (aQ rfl (ai (be _ _ rfl rfl (bq ab)) ?_))
   refine ba rfl (az (⟨k+1,?_,?_,?_⟩))
   ·omega
   ·skip
    refine Le.mkJ [] [] rfl ?_ ?_ trivial trivial ?_
    ·exact ⟨(iS rfl),(iS rfl),(iP rfl),(iS rfl),(ci ag),trivial⟩
    ·exact ⟨(cG rfl rfl rfl),trivial⟩
    ·kernel_rfl
   ·omega
 ·skip
  refine bL (id (hK4 _ ?_))
  clear hK4;try clear K4
  refine am (ai (aK aa (by repeat' (exact dM)) (sP) rfl rfl) ?_)
  exact ct rfl (aj (aC (aY (.inr rfl) rfl (.tmp (rfl:_=AV.v _)) (Le.out [] [] .v rfl rfl rfl trivial trivial))))

theorem qh (n0:Nat) (p:List Int) (h0:p.length=n0) (g0:n0≤4611686018427387904) (r0:Rng p) (n1:Nat) (v:List Int) (h1:v.length=n1) (g1:n1≤4611686018427387904) (r1:Rng v)
    (n2:Nat) (b:List Int) (h2:b.length=n2) (g2:n2≤4611686018427387904) (r2:Rng b):
    Spec Tryz.prog 7 (bj [.sl n0 (de p), .sl n1 (de v), .sl n2 (de b)] []) (aW (.v (.bool true)) []):=by
  subst h0;subst h1;subst h2
  exact oP p v b ⟨g0,r0⟩ ⟨g1,r1⟩ ⟨g2,r2⟩
end Go.Proofs.YtmjnackchaahbaaGreat
