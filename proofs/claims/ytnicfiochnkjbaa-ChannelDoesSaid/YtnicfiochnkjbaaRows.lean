/-
  No cell of these rows narrows 'for every input' (looked for: loops, veiled, ifaces, maps, wideKeys, modest, calm, conditions, laid).
  DERIVED. THE GIVEN ROWS OF THIS SEAT. 10 by the template 'for every input the law returns true; each argument reads behind the call as it read before'; 0 by the template 'total and deterministic' (their statements: YtnicfiochnkjbaaTotals.lean).
  GIVEN WITH THE SEED: the statements are not yours to turn. If you find one false, say at which input.
  Laid BY PROGRAM, IN A SANDBOX (cutbox-rows.mjs): the forced cells as the released guide's own fill.sh prints them over the translation 3ea73d0f7c137d23… (all of the seat's roots in one cut). By AI agents, Wed Nov 11 2026. No macro, syntax, notation, axiom, sorry.
-/
import Derived.Test.YtnicfiochnkjbaaChecked
import GoSem.Claim
import GoSem.ClaimJoined
import GoSem.ClaimMapViews
import Derived.JoinedTies
import Derived.KernelRfl
namespace Go.Proofs.Ytnicfiochnkjbaa
/- THE CELL 'sum', in the pinned program and in every row, IS THE sha256 OF THE DUMP (.gsa) THAT YtnicfiochnkjbaaProg.lean LOADS. Nothing in Lean hashes anything: it is a label: what it is worth is what the hold of that sum in a sandbox is worth. -/
noncomputable def Try.pinned : Pinned := { name := "ytnicfiochnkjbaa", sum := "3ea73d0f7c137d231cb26b976831f72a000cb3979ce336bbb40140eaad438d10", checked := Try.checked }
namespace Rows
def none {H : Type} : Left H := { results := [], args := [] }

/-- 'attorneylaw18.CacheKeeps': WHATEVER THE INPUT: true; the input reads as it did. -/
def cacheKeepsSpec : ChangeSpec := { name := "cacheKeeps", fn := fun _ => fun
  | [d1, d2, d3, d4, d5] => { results := [.lit (.bool true)], args := [d1, d2, d3, d4, d5] }
  | _ => none }
def cacheKeepsRow : OpenClaim := { program := "ytnicfiochnkjbaa", sum := "3ea73d0f7c137d231cb26b976831f72a000cb3979ce336bbb40140eaad438d10", func := "attorney/attorneylaw18.CacheKeeps", spec := "cacheKeeps", plainKeys := false, apart := false }
def CacheKeepsSaid : Prop := cacheKeepsRow.holds Try.pinned (OpenSpec.ofChange cacheKeepsSpec)

/-- ITS FALSE NEIGHBOUR: 'it returns false'. Refute it at one input. -/
def cacheKeepsWrong : ChangeSpec := { name := "cacheKeeps", fn := fun _ => fun
  | [d1, d2, d3, d4, d5] => { results := [.lit (.bool false)], args := [d1, d2, d3, d4, d5] }
  | _ => none }
def CacheKeepsWrongFalsely : Prop := cacheKeepsRow.holds Try.pinned (OpenSpec.ofChange cacheKeepsWrong)

/-- 'attorneylaw18.CacheForgets': WHATEVER THE INPUT: true; the input reads as it did. -/
def cacheForgetsSpec : ChangeSpec := { name := "cacheForgets", fn := fun _ => fun
  | [d1, d2, d3] => { results := [.lit (.bool true)], args := [d1, d2, d3] }
  | _ => none }
def cacheForgetsRow : OpenClaim := { program := "ytnicfiochnkjbaa", sum := "3ea73d0f7c137d231cb26b976831f72a000cb3979ce336bbb40140eaad438d10", func := "attorney/attorneylaw18.CacheForgets", spec := "cacheForgets", plainKeys := false, apart := false }
def CacheForgetsSaid : Prop := cacheForgetsRow.holds Try.pinned (OpenSpec.ofChange cacheForgetsSpec)

/-- ITS FALSE NEIGHBOUR: 'it returns false'. Refute it at one input. -/
def cacheForgetsWrong : ChangeSpec := { name := "cacheForgets", fn := fun _ => fun
  | [d1, d2, d3] => { results := [.lit (.bool false)], args := [d1, d2, d3] }
  | _ => none }
def CacheForgetsWrongFalsely : Prop := cacheForgetsRow.holds Try.pinned (OpenSpec.ofChange cacheForgetsWrong)

/-- 'attorneylaw18.CacheDoes': WHATEVER THE INPUT: true; the input reads as it did. -/
def cacheDoesSpec : ChangeSpec := { name := "cacheDoes", fn := fun _ => fun
  | [d1, d2] => { results := [.lit (.bool true)], args := [d1, d2] }
  | _ => none }
def cacheDoesRow : OpenClaim := { program := "ytnicfiochnkjbaa", sum := "3ea73d0f7c137d231cb26b976831f72a000cb3979ce336bbb40140eaad438d10", func := "attorney/attorneylaw18.CacheDoes", spec := "cacheDoes", plainKeys := false, apart := false }
def CacheDoesSaid : Prop := cacheDoesRow.holds Try.pinned (OpenSpec.ofChange cacheDoesSpec)

/-- ITS FALSE NEIGHBOUR: 'it returns false'. Refute it at one input. -/
def cacheDoesWrong : ChangeSpec := { name := "cacheDoes", fn := fun _ => fun
  | [d1, d2] => { results := [.lit (.bool false)], args := [d1, d2] }
  | _ => none }
def CacheDoesWrongFalsely : Prop := cacheDoesRow.holds Try.pinned (OpenSpec.ofChange cacheDoesWrong)

/-- 'attorneylaw18.CacheTrue': WHATEVER THE INPUT: true; the input reads as it did. -/
def cacheTrueSpec : ChangeSpec := { name := "cacheTrue", fn := fun _ => fun
  | [d1, d2] => { results := [.lit (.bool true)], args := [d1, d2] }
  | _ => none }
def cacheTrueRow : OpenClaim := { program := "ytnicfiochnkjbaa", sum := "3ea73d0f7c137d231cb26b976831f72a000cb3979ce336bbb40140eaad438d10", func := "attorney/attorneylaw18.CacheTrue", spec := "cacheTrue", plainKeys := false, apart := false }
def CacheTrueSaid : Prop := cacheTrueRow.holds Try.pinned (OpenSpec.ofChange cacheTrueSpec)

/-- ITS FALSE NEIGHBOUR: 'it returns false'. Refute it at one input. -/
def cacheTrueWrong : ChangeSpec := { name := "cacheTrue", fn := fun _ => fun
  | [d1, d2] => { results := [.lit (.bool false)], args := [d1, d2] }
  | _ => none }
def CacheTrueWrongFalsely : Prop := cacheTrueRow.holds Try.pinned (OpenSpec.ofChange cacheTrueWrong)

/-- 'attorneylaw18.CacheRoom': WHATEVER THE INPUT: true; the input reads as it did. -/
def cacheRoomSpec : ChangeSpec := { name := "cacheRoom", fn := fun _ => fun
  | [d1, d2] => { results := [.lit (.bool true)], args := [d1, d2] }
  | _ => none }
def cacheRoomRow : OpenClaim := { program := "ytnicfiochnkjbaa", sum := "3ea73d0f7c137d231cb26b976831f72a000cb3979ce336bbb40140eaad438d10", func := "attorney/attorneylaw18.CacheRoom", spec := "cacheRoom", plainKeys := false, apart := false }
def CacheRoomSaid : Prop := cacheRoomRow.holds Try.pinned (OpenSpec.ofChange cacheRoomSpec)

/-- ITS FALSE NEIGHBOUR: 'it returns false'. Refute it at one input. -/
def cacheRoomWrong : ChangeSpec := { name := "cacheRoom", fn := fun _ => fun
  | [d1, d2] => { results := [.lit (.bool false)], args := [d1, d2] }
  | _ => none }
def CacheRoomWrongFalsely : Prop := cacheRoomRow.holds Try.pinned (OpenSpec.ofChange cacheRoomWrong)

/-- 'attorneylaw19.ChannelDoes': WHATEVER THE INPUT: true; the input reads as it did. -/
def channelDoesSpec : ChangeSpec := { name := "channelDoes", fn := fun _ => fun
  | [d1, d2, d3] => { results := [.lit (.bool true)], args := [d1, d2, d3] }
  | _ => none }
def channelDoesRow : OpenClaim := { program := "ytnicfiochnkjbaa", sum := "3ea73d0f7c137d231cb26b976831f72a000cb3979ce336bbb40140eaad438d10", func := "attorney/attorneylaw19.ChannelDoes", spec := "channelDoes", unfollowed := true, recurses := true, plainKeys := false, apart := false }
def ChannelDoesSaid : Prop := channelDoesRow.holds Try.pinned (OpenSpec.ofChange channelDoesSpec)

/-- ITS FALSE NEIGHBOUR: 'it returns false'. Refute it at one input. -/
def channelDoesWrong : ChangeSpec := { name := "channelDoes", fn := fun _ => fun
  | [d1, d2, d3] => { results := [.lit (.bool false)], args := [d1, d2, d3] }
  | _ => none }
def ChannelDoesWrongFalsely : Prop := channelDoesRow.holds Try.pinned (OpenSpec.ofChange channelDoesWrong)

/-- 'attorneylaw19.ChannelOnce': WHATEVER THE INPUT: true; the input reads as it did. -/
def channelOnceSpec : ChangeSpec := { name := "channelOnce", fn := fun _ => fun
  | [d1, d2] => { results := [.lit (.bool true)], args := [d1, d2] }
  | _ => none }
def channelOnceRow : OpenClaim := { program := "ytnicfiochnkjbaa", sum := "3ea73d0f7c137d231cb26b976831f72a000cb3979ce336bbb40140eaad438d10", func := "attorney/attorneylaw19.ChannelOnce", spec := "channelOnce", unfollowed := true, recurses := true, plainKeys := false, apart := false }
def ChannelOnceSaid : Prop := channelOnceRow.holds Try.pinned (OpenSpec.ofChange channelOnceSpec)

/-- ITS FALSE NEIGHBOUR: 'it returns false'. Refute it at one input. -/
def channelOnceWrong : ChangeSpec := { name := "channelOnce", fn := fun _ => fun
  | [d1, d2] => { results := [.lit (.bool false)], args := [d1, d2] }
  | _ => none }
def ChannelOnceWrongFalsely : Prop := channelOnceRow.holds Try.pinned (OpenSpec.ofChange channelOnceWrong)

/-- 'attorneylaw19.ChannelGone': WHATEVER THE INPUT: true; the input reads as it did. -/
def channelGoneSpec : ChangeSpec := { name := "channelGone", fn := fun _ => fun
  | [d1, d2] => { results := [.lit (.bool true)], args := [d1, d2] }
  | _ => none }
def channelGoneRow : OpenClaim := { program := "ytnicfiochnkjbaa", sum := "3ea73d0f7c137d231cb26b976831f72a000cb3979ce336bbb40140eaad438d10", func := "attorney/attorneylaw19.ChannelGone", spec := "channelGone", unfollowed := true, recurses := true, plainKeys := false, apart := false }
def ChannelGoneSaid : Prop := channelGoneRow.holds Try.pinned (OpenSpec.ofChange channelGoneSpec)

/-- ITS FALSE NEIGHBOUR: 'it returns false'. Refute it at one input. -/
def channelGoneWrong : ChangeSpec := { name := "channelGone", fn := fun _ => fun
  | [d1, d2] => { results := [.lit (.bool false)], args := [d1, d2] }
  | _ => none }
def ChannelGoneWrongFalsely : Prop := channelGoneRow.holds Try.pinned (OpenSpec.ofChange channelGoneWrong)

/-- 'attorneylaw19.ChannelPushed': WHATEVER THE INPUT: true; the input reads as it did. -/
def channelPushedSpec : ChangeSpec := { name := "channelPushed", fn := fun _ => fun
  | [d1, d2] => { results := [.lit (.bool true)], args := [d1, d2] }
  | _ => none }
def channelPushedRow : OpenClaim := { program := "ytnicfiochnkjbaa", sum := "3ea73d0f7c137d231cb26b976831f72a000cb3979ce336bbb40140eaad438d10", func := "attorney/attorneylaw19.ChannelPushed", spec := "channelPushed", unfollowed := true, recurses := true, plainKeys := false, apart := false }
def ChannelPushedSaid : Prop := channelPushedRow.holds Try.pinned (OpenSpec.ofChange channelPushedSpec)

/-- ITS FALSE NEIGHBOUR: 'it returns false'. Refute it at one input. -/
def channelPushedWrong : ChangeSpec := { name := "channelPushed", fn := fun _ => fun
  | [d1, d2] => { results := [.lit (.bool false)], args := [d1, d2] }
  | _ => none }
def ChannelPushedWrongFalsely : Prop := channelPushedRow.holds Try.pinned (OpenSpec.ofChange channelPushedWrong)

/-- 'attorneylaw19.ChannelWho': WHATEVER THE INPUT: true; the input reads as it did. -/
def channelWhoSpec : ChangeSpec := { name := "channelWho", fn := fun _ => fun
  | [d1, d2] => { results := [.lit (.bool true)], args := [d1, d2] }
  | _ => none }
def channelWhoRow : OpenClaim := { program := "ytnicfiochnkjbaa", sum := "3ea73d0f7c137d231cb26b976831f72a000cb3979ce336bbb40140eaad438d10", func := "attorney/attorneylaw19.ChannelWho", spec := "channelWho", unfollowed := true, recurses := true, plainKeys := false, apart := false }
def ChannelWhoSaid : Prop := channelWhoRow.holds Try.pinned (OpenSpec.ofChange channelWhoSpec)

/-- ITS FALSE NEIGHBOUR: 'it returns false'. Refute it at one input. -/
def channelWhoWrong : ChangeSpec := { name := "channelWho", fn := fun _ => fun
  | [d1, d2] => { results := [.lit (.bool false)], args := [d1, d2] }
  | _ => none }
def ChannelWhoWrongFalsely : Prop := channelWhoRow.holds Try.pinned (OpenSpec.ofChange channelWhoWrong)

/- THE SECOND FORM. 'bulk': how many values and letters a reading holds, each counted each time it is reached (what is shared counts as often as it is met; a slice's spare places count too). A statement '..UptoSaid' is the law's where the arguments, and the package variables that the reading takes, are together of bulk at most 1048576: NARROWER than '..Said'. Prove '..Said' where nothing that the law and all that it calls make is longer than what came in: it says more and counts as full. Else prove '..UptoSaid'. A law counts once. -/
mutual
def uptoBulk {H : Type} : DataW H → Nat
  | .lit (.string bytes) => bytes.length + 1
  | .lit _ => 1
  | .nil => 1
  | .ptr d => uptoBulk d + 1
  | .slice elems spare => uptoBulkAll elems + uptoBulkAll spare + 1
  | .agg parts => uptoBulkAll parts + 1
  | .iface _ d => uptoBulk d + 1
  | .map entries => uptoBulkEntries entries + 1
  | .held _ => 1
def uptoBulkAll {H : Type} : List (DataW H) → Nat
  | [] => 0
  | d :: r => uptoBulk d + uptoBulkAll r
def uptoBulkEntries {H : Type} : List (Lit × DataW H) → Nat
  | [] => 0
  | x :: r => uptoBulkEntry x + uptoBulkEntries r
def uptoBulkEntry {H : Type} : Lit × DataW H → Nat
  | (.string bytes, d) => bytes.length + uptoBulk d + 1
  | (_, d) => uptoBulk d + 1
 end
def uptoSmall : (H : Type) → List (DataW H) → Bool := fun _ ds => decide (uptoBulkAll ds ≤ 1048576)
def OpenSpec.upto (s : _root_.Go.ChangeSpec) : _root_.Go.OpenSpec := { _root_.Go.OpenSpec.ofChange s with cond := some uptoSmall }

/-- 'attorneylaw18.CacheKeeps', WHERE WHAT IT READS IS OF BULK AT MOST 1048576: true; the input reads as it did. -/
def cacheKeepsUptoRow : OpenClaim := { program := "ytnicfiochnkjbaa", sum := "3ea73d0f7c137d231cb26b976831f72a000cb3979ce336bbb40140eaad438d10", func := "attorney/attorneylaw18.CacheKeeps", spec := "cacheKeeps", plainKeys := false, apart := false, narrowed := true }
def CacheKeepsUptoSaid : Prop := cacheKeepsUptoRow.holds Try.pinned (OpenSpec.upto cacheKeepsSpec)

/-- 'attorneylaw18.CacheForgets', WHERE WHAT IT READS IS OF BULK AT MOST 1048576: true; the input reads as it did. -/
def cacheForgetsUptoRow : OpenClaim := { program := "ytnicfiochnkjbaa", sum := "3ea73d0f7c137d231cb26b976831f72a000cb3979ce336bbb40140eaad438d10", func := "attorney/attorneylaw18.CacheForgets", spec := "cacheForgets", plainKeys := false, apart := false, narrowed := true }
def CacheForgetsUptoSaid : Prop := cacheForgetsUptoRow.holds Try.pinned (OpenSpec.upto cacheForgetsSpec)

/-- 'attorneylaw18.CacheDoes', WHERE WHAT IT READS IS OF BULK AT MOST 1048576: true; the input reads as it did. -/
def cacheDoesUptoRow : OpenClaim := { program := "ytnicfiochnkjbaa", sum := "3ea73d0f7c137d231cb26b976831f72a000cb3979ce336bbb40140eaad438d10", func := "attorney/attorneylaw18.CacheDoes", spec := "cacheDoes", plainKeys := false, apart := false, narrowed := true }
def CacheDoesUptoSaid : Prop := cacheDoesUptoRow.holds Try.pinned (OpenSpec.upto cacheDoesSpec)

/-- 'attorneylaw18.CacheTrue', WHERE WHAT IT READS IS OF BULK AT MOST 1048576: true; the input reads as it did. -/
def cacheTrueUptoRow : OpenClaim := { program := "ytnicfiochnkjbaa", sum := "3ea73d0f7c137d231cb26b976831f72a000cb3979ce336bbb40140eaad438d10", func := "attorney/attorneylaw18.CacheTrue", spec := "cacheTrue", plainKeys := false, apart := false, narrowed := true }
def CacheTrueUptoSaid : Prop := cacheTrueUptoRow.holds Try.pinned (OpenSpec.upto cacheTrueSpec)

/-- 'attorneylaw18.CacheRoom', WHERE WHAT IT READS IS OF BULK AT MOST 1048576: true; the input reads as it did. -/
def cacheRoomUptoRow : OpenClaim := { program := "ytnicfiochnkjbaa", sum := "3ea73d0f7c137d231cb26b976831f72a000cb3979ce336bbb40140eaad438d10", func := "attorney/attorneylaw18.CacheRoom", spec := "cacheRoom", plainKeys := false, apart := false, narrowed := true }
def CacheRoomUptoSaid : Prop := cacheRoomUptoRow.holds Try.pinned (OpenSpec.upto cacheRoomSpec)

/-- 'attorneylaw19.ChannelDoes', WHERE WHAT IT READS IS OF BULK AT MOST 1048576: true; the input reads as it did. -/
def channelDoesUptoRow : OpenClaim := { program := "ytnicfiochnkjbaa", sum := "3ea73d0f7c137d231cb26b976831f72a000cb3979ce336bbb40140eaad438d10", func := "attorney/attorneylaw19.ChannelDoes", spec := "channelDoes", unfollowed := true, recurses := true, plainKeys := false, apart := false, narrowed := true }
def ChannelDoesUptoSaid : Prop := channelDoesUptoRow.holds Try.pinned (OpenSpec.upto channelDoesSpec)

/-- 'attorneylaw19.ChannelOnce', WHERE WHAT IT READS IS OF BULK AT MOST 1048576: true; the input reads as it did. -/
def channelOnceUptoRow : OpenClaim := { program := "ytnicfiochnkjbaa", sum := "3ea73d0f7c137d231cb26b976831f72a000cb3979ce336bbb40140eaad438d10", func := "attorney/attorneylaw19.ChannelOnce", spec := "channelOnce", unfollowed := true, recurses := true, plainKeys := false, apart := false, narrowed := true }
def ChannelOnceUptoSaid : Prop := channelOnceUptoRow.holds Try.pinned (OpenSpec.upto channelOnceSpec)

/-- 'attorneylaw19.ChannelGone', WHERE WHAT IT READS IS OF BULK AT MOST 1048576: true; the input reads as it did. -/
def channelGoneUptoRow : OpenClaim := { program := "ytnicfiochnkjbaa", sum := "3ea73d0f7c137d231cb26b976831f72a000cb3979ce336bbb40140eaad438d10", func := "attorney/attorneylaw19.ChannelGone", spec := "channelGone", unfollowed := true, recurses := true, plainKeys := false, apart := false, narrowed := true }
def ChannelGoneUptoSaid : Prop := channelGoneUptoRow.holds Try.pinned (OpenSpec.upto channelGoneSpec)

/-- 'attorneylaw19.ChannelPushed', WHERE WHAT IT READS IS OF BULK AT MOST 1048576: true; the input reads as it did. -/
def channelPushedUptoRow : OpenClaim := { program := "ytnicfiochnkjbaa", sum := "3ea73d0f7c137d231cb26b976831f72a000cb3979ce336bbb40140eaad438d10", func := "attorney/attorneylaw19.ChannelPushed", spec := "channelPushed", unfollowed := true, recurses := true, plainKeys := false, apart := false, narrowed := true }
def ChannelPushedUptoSaid : Prop := channelPushedUptoRow.holds Try.pinned (OpenSpec.upto channelPushedSpec)

/-- 'attorneylaw19.ChannelWho', WHERE WHAT IT READS IS OF BULK AT MOST 1048576: true; the input reads as it did. -/
def channelWhoUptoRow : OpenClaim := { program := "ytnicfiochnkjbaa", sum := "3ea73d0f7c137d231cb26b976831f72a000cb3979ce336bbb40140eaad438d10", func := "attorney/attorneylaw19.ChannelWho", spec := "channelWho", unfollowed := true, recurses := true, plainKeys := false, apart := false, narrowed := true }
def ChannelWhoUptoSaid : Prop := channelWhoUptoRow.holds Try.pinned (OpenSpec.upto channelWhoSpec)

end Rows
end Go.Proofs.Ytnicfiochnkjbaa
